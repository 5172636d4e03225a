/- Prints of functions, and proofs that they are what the code computes. By an AI agent. -/
import Derived.Test.YtdioeohfpgikmaaShC
import Derived.Test.YtdioeohfpgikmaaProg
set_option linter.unusedVariables false
set_option maxRecDepth 100000
namespace Go.Shal.Pr
open Go Go.Shal Go.Proofs
noncomputable section
def globs : Globs := []
abbrev kS0 : Kd := .struct [(.int .u32), (.int .u32), (.int .u32)]
abbrev S0 : Type := Int × Int × Int × Unit
abbrev kO1 : Ob := (.dat kS0 (.dat .bool (.dat (.int .u32) (.dat (.int .u64) .nil))))
abbrev O1 : Type := S0 × Bool × Int × Int × Unit
abbrev kS2 : Kd := .struct [kS0, .bool, (.int .u32), (.int .u64)]
abbrev S2 : Type := S0 × Bool × Int × Int × Unit
abbrev kS3 : Kd := .struct [(.int .i64), (.int .u64)]
abbrev S3 : Type := Int × Int × Unit
noncomputable def backMay (fu : Nat) (b : S0) : Option (Bool × Unit) :=
  cond (decide (b.1 ≥ (1 : Int))) (
    let t1 := decide (b.1 ≤ (65536 : Int))
    cond t1 (
      cond (decide (b.2.1 ≥ b.1)) (
        let t2 := decide (b.2.1 ≤ (1048576 : Int))
        cond t2 (
          let t3 := decide (b.2.2.1 ≥ (1 : Int))
          cond t3 (
            let t4 := decide (b.2.2.1 ≤ (64 : Int))
            some (t4, ())) (
            some (false, ()))) (
          some (false, ()))) (
        some (false, ()))) (
      some (false, ()))) (
    some (false, ()))

noncomputable def backMay.body : Code := Try.f16.body.getD .skip
noncomputable def backMay.con : Con := { ps := [kS0], rs := [.bool], f := fun n x => backMay n x.1 }
noncomputable def backMay.env : Env := { tys := [(24, ⟨kS0, 12⟩), (4, ⟨.bool, 1⟩), (22, ⟨(.int .u32), 4⟩)], elems := [], ptrs := [], cons := [], objs := [], loops := [], cuts := [], globs := globs, base := 0 }
noncomputable def backMay.lp (n : Nat) : LP (Kd.struct backMay.con.rs).T := fun lo κ body nm K s =>
  loops n (Kd.struct backMay.con.rs).T lo κ body nm K s
theorem backMay.eq (n : Nat) (x : (Kd.struct backMay.con.ps).T) : evFunc backMay.env Try.f16 backMay.body backMay.con.ps backMay.con.rs (backMay.lp n) n x = backMay.con.f n x := by kernel_rfl
theorem backMay.sound : Sound Try.prog globs 16 backMay.con :=
  sound_by (E := backMay.env) (c := backMay.body) (envOk (G := globs) (lc := []) (lo := []) (envB_spec (by kernel_rfl)) rfl rfl trivial rfl trivial (by kernel_rfl) (by kernel_rfl)) Try.func16 (by kernel_rfl) backMay.lp (l := []) (by kernel_rfl) (fun n => trivial) backMay.eq
noncomputable def backPause (fu : Nat) (b : S0) (n : Int) : Option (Int × Unit) :=
  (backMay fu b).bind fun r1 =>
  cond (!r1.1) (
    some ((0 : Int), ())) (
    cond (n == (0 : Int)) (
      some ((0 : Int), ())) (
      let t2 := IntKind.u32.wrap (n - (1 : Int))
      chk (!decide (min2 t2 (20 : Int) < 0)) <|
      let t3 := sShl .u64 (IntKind.u64.wrap b.1) (min2 t2 (20 : Int))
      let t4 := min2 t3 (IntKind.u64.wrap b.2.1)
      some (t4, ())))

noncomputable def backPause.body : Code := Try.f18.body.getD .skip
noncomputable def backPause.con : Con := { ps := [kS0, (.int .u32)], rs := [(.int .u64)], f := fun n x => backPause n x.1 x.2.1 }
noncomputable def backPause.env : Env := { tys := [(24, ⟨kS0, 12⟩), (27, ⟨(.int .u64), 8⟩), (4, ⟨.bool, 1⟩), (22, ⟨(.int .u32), 4⟩)], elems := [], ptrs := [], cons := [(16, backMay.con)], objs := [], loops := [], cuts := [], globs := globs, base := 0 }
noncomputable def backPause.lp (n : Nat) : LP (Kd.struct backPause.con.rs).T := fun lo κ body nm K s =>
  loops n (Kd.struct backPause.con.rs).T lo κ body nm K s
theorem backPause.eq (n : Nat) (x : (Kd.struct backPause.con.ps).T) : evFunc backPause.env Try.f18 backPause.body backPause.con.ps backPause.con.rs (backPause.lp n) n x = backPause.con.f n x := by kernel_rfl
theorem backPause.sound : Sound Try.prog globs 18 backPause.con :=
  sound_by (E := backPause.env) (c := backPause.body) (envOk (G := globs) (lc := [(16, backMay.con)]) (lo := []) (envB_spec (by kernel_rfl)) rfl rfl ⟨.inl ⟨backMay.sound, by kernel_rfl⟩, trivial⟩ rfl trivial (by kernel_rfl) (by kernel_rfl)) Try.func18 (by kernel_rfl) backPause.lp (l := []) (by kernel_rfl) (fun n => trivial) backPause.eq
noncomputable def backAll.b5 (fu : Nat) (next : Int → Int → Int → S0 → Option (Int × Unit)) (k2 : Int → Option (Int × Unit)) (sum : Int) (v : Int) (vx2 : Int) (b0 : S0) : Option (Int × Unit) :=
  cond (decide (vx2 < v)) (
    let t1 := IntKind.u32.wrap (vx2 + (1 : Int))
    (backPause fu b0 t1).bind fun r2 =>
    let t3 := IntKind.u64.wrap (sum + r2.1)
    let t4 := IntKind.u32.wrap (vx2 + (1 : Int))
    next t3 v t4 b0) (
    k2 sum)
noncomputable def backAll.l5 (fu : Nat) (k2 : Int → Option (Int × Unit)) : Nat → Int → Int → Int → S0 → Option (Int × Unit)
  | 0, _, _, _, _ => none
  | m + 1, sum, v, vx2, b0 => backAll.b5 fu (backAll.l5 fu k2 m) k2 sum v vx2 b0
noncomputable def backAll (fu : Nat) (b : S0) : Option (Int × Unit) :=
  (backMay fu b).bind fun r1 =>
  cond (!r1.1) (
    some ((0 : Int), ())) (
    backAll.l5 fu (fun sumq2 => 
        some (sumq2, ())) fu (0 : Int) b.2.2.1 (0 : Int) b)

noncomputable def backAll.body : Code := Try.f20.body.getD .skip
abbrev backAll.shl5 : Shp := ⟨[.u, .p 0 0, .u, .d (.int .u64), .u, .u, .u, .u, .u, .d (.int .u32), .d (.int .u32), .u, .u, .u, .u, .u, .u, .u, .u, .u, .u], [[.g kS0]]⟩
abbrev backAll.outl5e2 : Shp := ⟨[.u, .u, .u, .d (.int .u64), .u, .u, .u, .u, .u, .u, .u, .u, .u, .u, .u, .u, .u, .u, .u, .u, .u], []⟩
noncomputable def backAll.nml5 : Norm := ⟨{ keep := [1, 3, 9, 10], shut := [(3, (.int .u64)), (9, (.int .u32)), (10, (.int .u32))], retag := [], heap := 1, dead := [], cshut := [(0, 0, (.int .u32)), (0, 1, (.int .u32)), (0, 2, (.int .u32))], cretag := [] }, [(2, { keep := [3], shut := [(3, (.int .u64))], retag := [], heap := 0, dead := [], cshut := [], cretag := [] })]⟩
noncomputable def backAll.con : Con := { ps := [kS0], rs := [(.int .u64)], f := fun n x => backAll n x.1 }
noncomputable def backAll.env : Env := { tys := [(24, ⟨kS0, 12⟩), (27, ⟨(.int .u64), 8⟩), (22, ⟨(.int .u32), 4⟩)], elems := [], ptrs := [], cons := [(16, backMay.con), (18, backPause.con)], objs := [], loops := [(5, backAll.nml5)], cuts := [], globs := globs, base := 0 }
noncomputable def backAll.lp (n : Nat) : LP (Kd.struct backAll.con.rs).T := fun lo κ body nm K s =>
  cond (lo && Nat.beq κ 5)
    (match backAll.shl5.dec s with
    | some v => backAll.l5 n (fun w0 => K (.exit 0) (backAll.outl5e2.enc (w0, ()))) n v.1 v.2.1 v.2.2.1 v.2.2.2.1
    | none => loops n (Kd.struct backAll.con.rs).T lo κ body nm K s)
    (loops n (Kd.struct backAll.con.rs).T lo κ body nm K s)
theorem backAll.atl5 (n : Nat) (s : St) (K : Ex → St → Option (Kd.struct backAll.con.rs).T) : backAll.lp n true 5 (evK backAll.env (backAll.lp n) n (sub [1, 1, 1, 0, 1, 0, 0] backAll.body)) backAll.nml5 K s = loops n (Kd.struct backAll.con.rs).T true 5 (evK backAll.env (backAll.lp n) n (sub [1, 1, 1, 0, 1, 0, 0] backAll.body)) backAll.nml5 K s := by
  show (match backAll.shl5.dec s with | some v => backAll.l5 n (fun w0 => K (.exit 0) (backAll.outl5e2.enc (w0, ()))) n v.1 v.2.1 v.2.2.1 v.2.2.2.1 | none => loops n (Kd.struct backAll.con.rs).T true 5 (evK backAll.env (backAll.lp n) n (sub [1, 1, 1, 0, 1, 0, 0] backAll.body)) backAll.nml5 K s) = _
  cases h : backAll.shl5.dec s with
  | none => rfl
  | some v =>
    rw [Shp.dec_enc h]
    exact (evLoop_eq (sh := backAll.shl5) (body := evK backAll.env (backAll.lp n) n (sub [1, 1, 1, 0, 1, 0, 0] backAll.body)) (nm := backAll.nml5) (K := K) (b := fun nx v => backAll.b5 n (fun x0 x1 x2 x3 => nx (x0, x1, x2, x3, ())) (fun w0 => K (.exit 0) (backAll.outl5e2.enc (w0, ()))) v.1 v.2.1 v.2.2.1 v.2.2.2.1) (l := fun m v => backAll.l5 n (fun w0 => K (.exit 0) (backAll.outl5e2.enc (w0, ()))) m v.1 v.2.1 v.2.2.1 v.2.2.2.1) (fun _ => rfl) (fun _ _ => rfl) (fun m v => by kernel_rfl) n v).symm
theorem backAll.eq (n : Nat) (x : (Kd.struct backAll.con.ps).T) : evFunc backAll.env Try.f20 backAll.body backAll.con.ps backAll.con.rs (backAll.lp n) n x = backAll.con.f n x := by kernel_rfl
theorem backAll.sound : Sound Try.prog globs 20 backAll.con :=
  sound_by (E := backAll.env) (c := backAll.body) (envOk (G := globs) (lc := [(16, backMay.con), (18, backPause.con)]) (lo := []) (envB_spec (by kernel_rfl)) rfl rfl ⟨.inl ⟨backMay.sound, by kernel_rfl⟩, ⟨.inl ⟨backPause.sound, by kernel_rfl⟩, trivial⟩⟩ rfl trivial (by kernel_rfl) (by kernel_rfl)) Try.func20 (by kernel_rfl) backAll.lp (l := [(true, sub [1, 1, 1, 0, 1, 0, 0] backAll.body, backAll.nml5)]) (by kernel_rfl) (fun n => ⟨backAll.atl5 n, trivial⟩) backAll.eq
noncomputable def law23Fixed (fu : Nat) : Option (Bool × Unit) :=
  (backPause fu ((2 : Int), (5 : Int), (4 : Int), ()) (1 : Int)).bind fun r1 =>
  cond (r1.1 == (2 : Int)) (
    (backPause fu ((2 : Int), (5 : Int), (4 : Int), ()) (2 : Int)).bind fun r2 =>
    cond (r2.1 == (4 : Int)) (
      (backPause fu ((2 : Int), (5 : Int), (4 : Int), ()) (3 : Int)).bind fun r3 =>
      cond (r3.1 == (5 : Int)) (
        (backPause fu ((2 : Int), (5 : Int), (4 : Int), ()) (4 : Int)).bind fun r4 =>
        cond (r4.1 == (5 : Int)) (
          (backAll fu ((2 : Int), (5 : Int), (4 : Int), ())).bind fun r5 =>
          some (r5.1 == (16 : Int), ())) (
          some (false, ()))) (
        some (false, ()))) (
      some (false, ()))) (
    some (false, ()))

noncomputable def law23Fixed.body : Code := Try.f15.body.getD .skip
noncomputable def law23Fixed.con : Con := { ps := [], rs := [.bool], f := fun n x => law23Fixed n }
noncomputable def law23Fixed.env : Env := { tys := [(4, ⟨.bool, 1⟩), (24, ⟨kS0, 12⟩)], elems := [], ptrs := [], cons := [(18, backPause.con), (20, backAll.con)], objs := [], loops := [], cuts := [], globs := globs, base := 0 }
noncomputable def law23Fixed.lp (n : Nat) : LP (Kd.struct law23Fixed.con.rs).T := fun lo κ body nm K s =>
  loops n (Kd.struct law23Fixed.con.rs).T lo κ body nm K s
theorem law23Fixed.eq (n : Nat) (x : (Kd.struct law23Fixed.con.ps).T) : evFunc law23Fixed.env Try.f15 law23Fixed.body law23Fixed.con.ps law23Fixed.con.rs (law23Fixed.lp n) n x = law23Fixed.con.f n x := by kernel_rfl
theorem law23Fixed.sound : Sound Try.prog globs 15 law23Fixed.con :=
  sound_by (E := law23Fixed.env) (c := law23Fixed.body) (envOk (G := globs) (lc := [(18, backPause.con), (20, backAll.con)]) (lo := []) (envB_spec (by kernel_rfl)) rfl rfl ⟨.inl ⟨backPause.sound, by kernel_rfl⟩, ⟨.inl ⟨backAll.sound, by kernel_rfl⟩, trivial⟩⟩ rfl trivial (by kernel_rfl) (by kernel_rfl)) Try.func15 (by kernel_rfl) law23Fixed.lp (l := []) (by kernel_rfl) (fun n => trivial) law23Fixed.eq
noncomputable def ref23May (fu : Nat) (b : S0) : Option (Bool × Unit) :=
  cond (decide (b.1 > (0 : Int))) (
    let t1 := decide (b.1 ≤ (65536 : Int))
    cond t1 (
      cond (decide (b.1 ≤ b.2.1)) (
        let t2 := decide (b.2.1 ≤ (1048576 : Int))
        cond t2 (
          let t3 := decide (b.2.2.1 > (0 : Int))
          cond t3 (
            let t4 := decide (b.2.2.1 ≤ (64 : Int))
            some (t4, ())) (
            some (false, ()))) (
          some (false, ()))) (
        some (false, ()))) (
      some (false, ()))) (
    some (false, ()))

noncomputable def ref23May.body : Code := Try.f17.body.getD .skip
noncomputable def ref23May.con : Con := { ps := [kS0], rs := [.bool], f := fun n x => ref23May n x.1 }
noncomputable def ref23May.env : Env := { tys := [(24, ⟨kS0, 12⟩), (4, ⟨.bool, 1⟩), (22, ⟨(.int .u32), 4⟩)], elems := [], ptrs := [], cons := [], objs := [], loops := [], cuts := [], globs := globs, base := 0 }
noncomputable def ref23May.lp (n : Nat) : LP (Kd.struct ref23May.con.rs).T := fun lo κ body nm K s =>
  loops n (Kd.struct ref23May.con.rs).T lo κ body nm K s
theorem ref23May.eq (n : Nat) (x : (Kd.struct ref23May.con.ps).T) : evFunc ref23May.env Try.f17 ref23May.body ref23May.con.ps ref23May.con.rs (ref23May.lp n) n x = ref23May.con.f n x := by kernel_rfl
theorem ref23May.sound : Sound Try.prog globs 17 ref23May.con :=
  sound_by (E := ref23May.env) (c := ref23May.body) (envOk (G := globs) (lc := []) (lo := []) (envB_spec (by kernel_rfl)) rfl rfl trivial rfl trivial (by kernel_rfl) (by kernel_rfl)) Try.func17 (by kernel_rfl) ref23May.lp (l := []) (by kernel_rfl) (fun n => trivial) ref23May.eq
noncomputable def ref23Pause.b5 (fu : Nat) (next : Int → Int → Int → S0 → Option (Int × Unit)) (k2 : Int → S0 → Option (Int × Unit)) (n : Int) (p : Int) (i : Int) (b0 : S0) : Option (Int × Unit) :=
  cond (decide (i < n)) (
    let t1 := decide (p < IntKind.u64.wrap b0.2.1)
    cond t1 (
      let t2 := IntKind.u64.wrap ((2 : Int) * p)
      let t3 := IntKind.u32.wrap (i + (1 : Int))
      next n t2 t3 b0) (
      k2 p b0)) (
    k2 p b0)
noncomputable def ref23Pause.l5 (fu : Nat) (k2 : Int → S0 → Option (Int × Unit)) : Nat → Int → Int → Int → S0 → Option (Int × Unit)
  | 0, _, _, _, _ => none
  | m + 1, n, p, i, b0 => ref23Pause.b5 fu (ref23Pause.l5 fu k2 m) k2 n p i b0
noncomputable def ref23Pause (fu : Nat) (b : S0) (n : Int) : Option (Int × Unit) :=
  (ref23May fu b).bind fun r1 =>
  cond (!r1.1) (
    some ((0 : Int), ())) (
    cond (n == (0 : Int)) (
      some ((0 : Int), ())) (
      ref23Pause.l5 fu (fun pq2 b0q2 => 
          let t2 := IntKind.u64.wrap b0q2.2.1
          some (min2 pq2 t2, ())) fu n (IntKind.u64.wrap b.1) (1 : Int) b))

noncomputable def ref23Pause.body : Code := Try.f19.body.getD .skip
abbrev ref23Pause.shl5 : Shp := ⟨[.u, .d (.int .u32), .p 0 0, .u, .u, .d (.int .u64), .d (.int .u32), .u, .u, .u, .u, .u, .u, .u, .u, .u, .u, .u, .u, .u, .u, .u, .u, .u, .u, .u, .u, .u, .u, .u, .u, .u, .u, .u, .u, .u], [[.g kS0]]⟩
abbrev ref23Pause.outl5e2 : Shp := ⟨[.u, .u, .p 0 0, .u, .u, .d (.int .u64), .u, .u, .u, .u, .u, .u, .u, .u, .u, .u, .u, .u, .u, .u, .u, .u, .u, .u, .u, .u, .u, .u, .u, .u, .u, .u, .u, .u, .u, .u], [[.g kS0]]⟩
noncomputable def ref23Pause.nml5 : Norm := ⟨{ keep := [1, 2, 5, 6], shut := [(1, (.int .u32)), (5, (.int .u64)), (6, (.int .u32))], retag := [], heap := 1, dead := [], cshut := [(0, 0, (.int .u32)), (0, 1, (.int .u32)), (0, 2, (.int .u32))], cretag := [] }, [(2, { keep := [2, 5], shut := [(5, (.int .u64))], retag := [], heap := 1, dead := [], cshut := [(0, 0, (.int .u32)), (0, 1, (.int .u32)), (0, 2, (.int .u32))], cretag := [] })]⟩
noncomputable def ref23Pause.con : Con := { ps := [kS0, (.int .u32)], rs := [(.int .u64)], f := fun n x => ref23Pause n x.1 x.2.1 }
noncomputable def ref23Pause.env : Env := { tys := [(24, ⟨kS0, 12⟩), (27, ⟨(.int .u64), 8⟩), (4, ⟨.bool, 1⟩), (22, ⟨(.int .u32), 4⟩)], elems := [], ptrs := [], cons := [(17, ref23May.con)], objs := [], loops := [(5, ref23Pause.nml5)], cuts := [], globs := globs, base := 0 }
noncomputable def ref23Pause.lp (n : Nat) : LP (Kd.struct ref23Pause.con.rs).T := fun lo κ body nm K s =>
  cond (lo && Nat.beq κ 5)
    (match ref23Pause.shl5.dec s with
    | some v => ref23Pause.l5 n (fun w0 w1 => K (.exit 0) (ref23Pause.outl5e2.enc (w0, w1, ()))) n v.1 v.2.1 v.2.2.1 v.2.2.2.1
    | none => loops n (Kd.struct ref23Pause.con.rs).T lo κ body nm K s)
    (loops n (Kd.struct ref23Pause.con.rs).T lo κ body nm K s)
theorem ref23Pause.atl5 (n : Nat) (s : St) (K : Ex → St → Option (Kd.struct ref23Pause.con.rs).T) : ref23Pause.lp n true 5 (evK ref23Pause.env (ref23Pause.lp n) n (sub [1, 1, 1, 0, 1, 0, 0] ref23Pause.body)) ref23Pause.nml5 K s = loops n (Kd.struct ref23Pause.con.rs).T true 5 (evK ref23Pause.env (ref23Pause.lp n) n (sub [1, 1, 1, 0, 1, 0, 0] ref23Pause.body)) ref23Pause.nml5 K s := by
  show (match ref23Pause.shl5.dec s with | some v => ref23Pause.l5 n (fun w0 w1 => K (.exit 0) (ref23Pause.outl5e2.enc (w0, w1, ()))) n v.1 v.2.1 v.2.2.1 v.2.2.2.1 | none => loops n (Kd.struct ref23Pause.con.rs).T true 5 (evK ref23Pause.env (ref23Pause.lp n) n (sub [1, 1, 1, 0, 1, 0, 0] ref23Pause.body)) ref23Pause.nml5 K s) = _
  cases h : ref23Pause.shl5.dec s with
  | none => rfl
  | some v =>
    rw [Shp.dec_enc h]
    exact (evLoop_eq (sh := ref23Pause.shl5) (body := evK ref23Pause.env (ref23Pause.lp n) n (sub [1, 1, 1, 0, 1, 0, 0] ref23Pause.body)) (nm := ref23Pause.nml5) (K := K) (b := fun nx v => ref23Pause.b5 n (fun x0 x1 x2 x3 => nx (x0, x1, x2, x3, ())) (fun w0 w1 => K (.exit 0) (ref23Pause.outl5e2.enc (w0, w1, ()))) v.1 v.2.1 v.2.2.1 v.2.2.2.1) (l := fun m v => ref23Pause.l5 n (fun w0 w1 => K (.exit 0) (ref23Pause.outl5e2.enc (w0, w1, ()))) m v.1 v.2.1 v.2.2.1 v.2.2.2.1) (fun _ => rfl) (fun _ _ => rfl) (fun m v => by kernel_rfl) n v).symm
theorem ref23Pause.eq (n : Nat) (x : (Kd.struct ref23Pause.con.ps).T) : evFunc ref23Pause.env Try.f19 ref23Pause.body ref23Pause.con.ps ref23Pause.con.rs (ref23Pause.lp n) n x = ref23Pause.con.f n x := by kernel_rfl
theorem ref23Pause.sound : Sound Try.prog globs 19 ref23Pause.con :=
  sound_by (E := ref23Pause.env) (c := ref23Pause.body) (envOk (G := globs) (lc := [(17, ref23May.con)]) (lo := []) (envB_spec (by kernel_rfl)) rfl rfl ⟨.inl ⟨ref23May.sound, by kernel_rfl⟩, trivial⟩ rfl trivial (by kernel_rfl) (by kernel_rfl)) Try.func19 (by kernel_rfl) ref23Pause.lp (l := [(true, sub [1, 1, 1, 0, 1, 0, 0] ref23Pause.body, ref23Pause.nml5)]) (by kernel_rfl) (fun n => ⟨ref23Pause.atl5 n, trivial⟩) ref23Pause.eq
noncomputable def ref23All.b3 (fu : Nat) (next : Int → Int → S0 → Option (Int × Unit)) (k2 : Int → Option (Int × Unit)) (n : Int) (i : Int) (b0 : S0) : Option (Int × Unit) :=
  (ref23May fu b0).bind fun r1 =>
  cond r1.1 (
    cond (decide (i ≤ b0.2.2.1)) (
      (ref23Pause fu b0 i).bind fun r2 =>
      let t3 := IntKind.u64.wrap (n + r2.1)
      let t4 := IntKind.u32.wrap (i + (1 : Int))
      next t3 t4 b0) (
      k2 n)) (
    k2 n)
noncomputable def ref23All.l3 (fu : Nat) (k2 : Int → Option (Int × Unit)) : Nat → Int → Int → S0 → Option (Int × Unit)
  | 0, _, _, _ => none
  | m + 1, n, i, b0 => ref23All.b3 fu (ref23All.l3 fu k2 m) k2 n i b0
noncomputable def ref23All (fu : Nat) (b : S0) : Option (Int × Unit) :=
  ref23All.l3 fu (fun nq2 => 
      some (nq2, ())) fu (0 : Int) (1 : Int) b

noncomputable def ref23All.body : Code := Try.f21.body.getD .skip
abbrev ref23All.shl3 : Shp := ⟨[.u, .p 0 0, .u, .d (.int .u64), .d (.int .u32), .u, .u, .u, .u, .u, .u, .u, .u, .u, .u, .u, .u, .u, .u, .u, .u], [[.g kS0]]⟩
abbrev ref23All.outl3e2 : Shp := ⟨[.u, .u, .u, .d (.int .u64), .u, .u, .u, .u, .u, .u, .u, .u, .u, .u, .u, .u, .u, .u, .u, .u, .u], []⟩
noncomputable def ref23All.nml3 : Norm := ⟨{ keep := [1, 3, 4], shut := [(3, (.int .u64)), (4, (.int .u32))], retag := [], heap := 1, dead := [], cshut := [(0, 0, (.int .u32)), (0, 1, (.int .u32)), (0, 2, (.int .u32))], cretag := [] }, [(2, { keep := [3], shut := [(3, (.int .u64))], retag := [], heap := 0, dead := [], cshut := [], cretag := [] })]⟩
noncomputable def ref23All.con : Con := { ps := [kS0], rs := [(.int .u64)], f := fun n x => ref23All n x.1 }
noncomputable def ref23All.env : Env := { tys := [(24, ⟨kS0, 12⟩), (27, ⟨(.int .u64), 8⟩), (22, ⟨(.int .u32), 4⟩), (4, ⟨.bool, 1⟩)], elems := [], ptrs := [], cons := [(17, ref23May.con), (19, ref23Pause.con)], objs := [], loops := [(3, ref23All.nml3)], cuts := [], globs := globs, base := 0 }
noncomputable def ref23All.lp (n : Nat) : LP (Kd.struct ref23All.con.rs).T := fun lo κ body nm K s =>
  cond (lo && Nat.beq κ 3)
    (match ref23All.shl3.dec s with
    | some v => ref23All.l3 n (fun w0 => K (.exit 0) (ref23All.outl3e2.enc (w0, ()))) n v.1 v.2.1 v.2.2.1
    | none => loops n (Kd.struct ref23All.con.rs).T lo κ body nm K s)
    (loops n (Kd.struct ref23All.con.rs).T lo κ body nm K s)
theorem ref23All.atl3 (n : Nat) (s : St) (K : Ex → St → Option (Kd.struct ref23All.con.rs).T) : ref23All.lp n true 3 (evK ref23All.env (ref23All.lp n) n (sub [1, 1, 0, 1, 0, 0] ref23All.body)) ref23All.nml3 K s = loops n (Kd.struct ref23All.con.rs).T true 3 (evK ref23All.env (ref23All.lp n) n (sub [1, 1, 0, 1, 0, 0] ref23All.body)) ref23All.nml3 K s := by
  show (match ref23All.shl3.dec s with | some v => ref23All.l3 n (fun w0 => K (.exit 0) (ref23All.outl3e2.enc (w0, ()))) n v.1 v.2.1 v.2.2.1 | none => loops n (Kd.struct ref23All.con.rs).T true 3 (evK ref23All.env (ref23All.lp n) n (sub [1, 1, 0, 1, 0, 0] ref23All.body)) ref23All.nml3 K s) = _
  cases h : ref23All.shl3.dec s with
  | none => rfl
  | some v =>
    rw [Shp.dec_enc h]
    exact (evLoop_eq (sh := ref23All.shl3) (body := evK ref23All.env (ref23All.lp n) n (sub [1, 1, 0, 1, 0, 0] ref23All.body)) (nm := ref23All.nml3) (K := K) (b := fun nx v => ref23All.b3 n (fun x0 x1 x2 => nx (x0, x1, x2, ())) (fun w0 => K (.exit 0) (ref23All.outl3e2.enc (w0, ()))) v.1 v.2.1 v.2.2.1) (l := fun m v => ref23All.l3 n (fun w0 => K (.exit 0) (ref23All.outl3e2.enc (w0, ()))) m v.1 v.2.1 v.2.2.1) (fun _ => rfl) (fun _ _ => rfl) (fun m v => by kernel_rfl) n v).symm
theorem ref23All.eq (n : Nat) (x : (Kd.struct ref23All.con.ps).T) : evFunc ref23All.env Try.f21 ref23All.body ref23All.con.ps ref23All.con.rs (ref23All.lp n) n x = ref23All.con.f n x := by kernel_rfl
theorem ref23All.sound : Sound Try.prog globs 21 ref23All.con :=
  sound_by (E := ref23All.env) (c := ref23All.body) (envOk (G := globs) (lc := [(17, ref23May.con), (19, ref23Pause.con)]) (lo := []) (envB_spec (by kernel_rfl)) rfl rfl ⟨.inl ⟨ref23May.sound, by kernel_rfl⟩, ⟨.inl ⟨ref23Pause.sound, by kernel_rfl⟩, trivial⟩⟩ rfl trivial (by kernel_rfl) (by kernel_rfl)) Try.func21 (by kernel_rfl) ref23All.lp (l := [(true, sub [1, 1, 0, 1, 0, 0] ref23All.body, ref23All.nml3)]) (by kernel_rfl) (fun n => ⟨ref23All.atl3 n, trivial⟩) ref23All.eq
noncomputable def law23BackPauses (fu : Nat) (b : S0) (n : Int) : Option (Bool × Unit) :=
  (law23Fixed fu).bind fun r1 =>
  cond r1.1 (
    (backMay fu b).bind fun r2 =>
    (ref23May fu b).bind fun r3 =>
    cond (r2.1 == r3.1) (
      (backPause fu b n).bind fun r4 =>
      (ref23Pause fu b n).bind fun r5 =>
      cond (r4.1 == r5.1) (
        (backAll fu b).bind fun r6 =>
        (ref23All fu b).bind fun r7 =>
        cond (r6.1 == r7.1) (
          cond (n == (4294967295 : Int)) (
            some (true, ())) (
            let t8 := IntKind.u32.wrap (n + (1 : Int))
            (backPause fu b t8).bind fun r9 =>
            (backPause fu b n).bind fun r10 =>
            some (decide (r9.1 ≥ r10.1), ()))) (
          some (false, ()))) (
        some (false, ()))) (
      some (false, ()))) (
    some (false, ()))

noncomputable def law23BackPauses.body : Code := Try.f3.body.getD .skip
noncomputable def law23BackPauses.con : Con := { ps := [kS0, (.int .u32)], rs := [.bool], f := fun n x => law23BackPauses n x.1 x.2.1 }
noncomputable def law23BackPauses.env : Env := { tys := [(24, ⟨kS0, 12⟩), (4, ⟨.bool, 1⟩)], elems := [], ptrs := [], cons := [(15, law23Fixed.con), (16, backMay.con), (17, ref23May.con), (18, backPause.con), (19, ref23Pause.con), (20, backAll.con), (21, ref23All.con)], objs := [], loops := [], cuts := [], globs := globs, base := 0 }
noncomputable def law23BackPauses.lp (n : Nat) : LP (Kd.struct law23BackPauses.con.rs).T := fun lo κ body nm K s =>
  loops n (Kd.struct law23BackPauses.con.rs).T lo κ body nm K s
theorem law23BackPauses.eq (n : Nat) (x : (Kd.struct law23BackPauses.con.ps).T) : evFunc law23BackPauses.env Try.f3 law23BackPauses.body law23BackPauses.con.ps law23BackPauses.con.rs (law23BackPauses.lp n) n x = law23BackPauses.con.f n x := by kernel_rfl
theorem law23BackPauses.sound : Sound Try.prog globs 3 law23BackPauses.con :=
  sound_by (E := law23BackPauses.env) (c := law23BackPauses.body) (envOk (G := globs) (lc := [(15, law23Fixed.con), (16, backMay.con), (17, ref23May.con), (18, backPause.con), (19, ref23Pause.con), (20, backAll.con), (21, ref23All.con)]) (lo := []) (envB_spec (by kernel_rfl)) rfl rfl ⟨.inl ⟨law23Fixed.sound, by kernel_rfl⟩, ⟨.inl ⟨backMay.sound, by kernel_rfl⟩, ⟨.inl ⟨ref23May.sound, by kernel_rfl⟩, ⟨.inl ⟨backPause.sound, by kernel_rfl⟩, ⟨.inl ⟨ref23Pause.sound, by kernel_rfl⟩, ⟨.inl ⟨backAll.sound, by kernel_rfl⟩, ⟨.inl ⟨ref23All.sound, by kernel_rfl⟩, trivial⟩⟩⟩⟩⟩⟩⟩ rfl trivial (by kernel_rfl) (by kernel_rfl)) Try.func3 (by kernel_rfl) law23BackPauses.lp (l := []) (by kernel_rfl) (fun n => trivial) law23BackPauses.eq
noncomputable def backTriesBeginNil (fu : Nat) (now : Int) : Option ((Unit) × (Unit)) :=
  some ((()), (()))

noncomputable def backTriesBeginNil.body : Code := Try.f22.body.getD .skip
noncomputable def backTriesBeginNil.con : OCon := { ps := [.nil, .dat (.int .u64)], rs := [], f := fun n x => backTriesBeginNil n x.2.1 }
noncomputable def backTriesBeginNil.env : Env := { tys := [(31, ⟨.np, 8⟩)], elems := [], ptrs := [(31, 90)], cons := [], objs := [], loops := [], cuts := [], globs := globs, base := 0 }
noncomputable def backTriesBeginNil.lp (n : Nat) : LP (RT backTriesBeginNil.con.rs × BT backTriesBeginNil.con.ps) := fun lo κ body nm K s =>
  loops n (RT backTriesBeginNil.con.rs × BT backTriesBeginNil.con.ps) lo κ body nm K s
theorem backTriesBeginNil.eq (n : Nat) (x : PT backTriesBeginNil.con.ps) : evFuncO backTriesBeginNil.env Try.f22 backTriesBeginNil.body backTriesBeginNil.con.ps backTriesBeginNil.con.rs (backTriesBeginNil.lp n) n x = backTriesBeginNil.con.f n x := by kernel_rfl
theorem backTriesBeginNil.sound : SoundO Try.prog globs 22 backTriesBeginNil.con :=
  sound_byO (E := backTriesBeginNil.env) (c := backTriesBeginNil.body) (envOk (G := globs) (lc := []) (lo := []) (envB_spec (by kernel_rfl)) rfl rfl trivial rfl trivial (by kernel_rfl) (by kernel_rfl)) Try.func22 (by kernel_rfl) (by kernel_rfl) (by kernel_rfl) backTriesBeginNil.lp (l := []) (by kernel_rfl) (fun n => trivial) backTriesBeginNil.eq
noncomputable def backTriesDueNil (fu : Nat) (now : Int) : Option ((Bool × Unit) × (Unit)) :=
  some ((false, ()), (()))

noncomputable def backTriesDueNil.body : Code := Try.f23.body.getD .skip
noncomputable def backTriesDueNil.con : OCon := { ps := [.nil, .dat (.int .u64)], rs := [.dat .bool], f := fun n x => backTriesDueNil n x.2.1 }
noncomputable def backTriesDueNil.env : Env := { tys := [(4, ⟨.bool, 1⟩), (31, ⟨.np, 8⟩)], elems := [], ptrs := [(31, 90)], cons := [], objs := [], loops := [], cuts := [], globs := globs, base := 0 }
noncomputable def backTriesDueNil.lp (n : Nat) : LP (RT backTriesDueNil.con.rs × BT backTriesDueNil.con.ps) := fun lo κ body nm K s =>
  loops n (RT backTriesDueNil.con.rs × BT backTriesDueNil.con.ps) lo κ body nm K s
theorem backTriesDueNil.eq (n : Nat) (x : PT backTriesDueNil.con.ps) : evFuncO backTriesDueNil.env Try.f23 backTriesDueNil.body backTriesDueNil.con.ps backTriesDueNil.con.rs (backTriesDueNil.lp n) n x = backTriesDueNil.con.f n x := by kernel_rfl
theorem backTriesDueNil.sound : SoundO Try.prog globs 23 backTriesDueNil.con :=
  sound_byO (E := backTriesDueNil.env) (c := backTriesDueNil.body) (envOk (G := globs) (lc := []) (lo := []) (envB_spec (by kernel_rfl)) rfl rfl trivial rfl trivial (by kernel_rfl) (by kernel_rfl)) Try.func23 (by kernel_rfl) (by kernel_rfl) (by kernel_rfl) backTriesDueNil.lp (l := []) (by kernel_rfl) (fun n => trivial) backTriesDueNil.eq
noncomputable def backTriesTryNil (fu : Nat) (now : Int) : Option ((Bool × Unit) × (Unit)) :=
  (backTriesDueNil fu now).bind fun r1 =>
  cond (!r1.1.1) (
    some ((false, ()), (()))) (
    none)

noncomputable def backTriesTryNil.body : Code := Try.f24.body.getD .skip
noncomputable def backTriesTryNil.con : OCon := { ps := [.nil, .dat (.int .u64)], rs := [.dat .bool], f := fun n x => backTriesTryNil n x.2.1 }
noncomputable def backTriesTryNil.env : Env := { tys := [(4, ⟨.bool, 1⟩), (31, ⟨.np, 8⟩)], elems := [], ptrs := [], cons := [], objs := [(23, [backTriesDueNil.con])], loops := [], cuts := [], globs := globs, base := 0 }
noncomputable def backTriesTryNil.lp (n : Nat) : LP (RT backTriesTryNil.con.rs × BT backTriesTryNil.con.ps) := fun lo κ body nm K s =>
  loops n (RT backTriesTryNil.con.rs × BT backTriesTryNil.con.ps) lo κ body nm K s
theorem backTriesTryNil.eq (n : Nat) (x : PT backTriesTryNil.con.ps) : evFuncO backTriesTryNil.env Try.f24 backTriesTryNil.body backTriesTryNil.con.ps backTriesTryNil.con.rs (backTriesTryNil.lp n) n x = backTriesTryNil.con.f n x := by kernel_rfl
theorem backTriesTryNil.sound : SoundO Try.prog globs 24 backTriesTryNil.con :=
  sound_byO (E := backTriesTryNil.env) (c := backTriesTryNil.body) (envOk (G := globs) (lc := []) (lo := [(23, [backTriesDueNil.con])]) (envB_spec (by kernel_rfl)) rfl rfl trivial rfl ⟨⟨⟨backTriesDueNil.sound, trivial⟩, by kernel_rfl⟩, trivial⟩ (by kernel_rfl) (by kernel_rfl)) Try.func24 (by kernel_rfl) (by kernel_rfl) (by kernel_rfl) backTriesTryNil.lp (l := []) (by kernel_rfl) (fun n => trivial) backTriesTryNil.eq
noncomputable def backTriesCountNil (fu : Nat) : Option ((Int × Unit) × (Unit)) :=
  some (((0 : Int), ()), (()))

noncomputable def backTriesCountNil.body : Code := Try.f25.body.getD .skip
noncomputable def backTriesCountNil.con : OCon := { ps := [.nil], rs := [.dat (.int .u32)], f := fun n x => backTriesCountNil n }
noncomputable def backTriesCountNil.env : Env := { tys := [(22, ⟨(.int .u32), 4⟩), (31, ⟨.np, 8⟩)], elems := [], ptrs := [(31, 90)], cons := [], objs := [], loops := [], cuts := [], globs := globs, base := 0 }
noncomputable def backTriesCountNil.lp (n : Nat) : LP (RT backTriesCountNil.con.rs × BT backTriesCountNil.con.ps) := fun lo κ body nm K s =>
  loops n (RT backTriesCountNil.con.rs × BT backTriesCountNil.con.ps) lo κ body nm K s
theorem backTriesCountNil.eq (n : Nat) (x : PT backTriesCountNil.con.ps) : evFuncO backTriesCountNil.env Try.f25 backTriesCountNil.body backTriesCountNil.con.ps backTriesCountNil.con.rs (backTriesCountNil.lp n) n x = backTriesCountNil.con.f n x := by kernel_rfl
theorem backTriesCountNil.sound : SoundO Try.prog globs 25 backTriesCountNil.con :=
  sound_byO (E := backTriesCountNil.env) (c := backTriesCountNil.body) (envOk (G := globs) (lc := []) (lo := []) (envB_spec (by kernel_rfl)) rfl rfl trivial rfl trivial (by kernel_rfl) (by kernel_rfl)) Try.func25 (by kernel_rfl) (by kernel_rfl) (by kernel_rfl) backTriesCountNil.lp (l := []) (by kernel_rfl) (fun n => trivial) backTriesCountNil.eq
noncomputable def backTriesNextNil (fu : Nat) : Option ((Int × Unit) × (Unit)) :=
  some (((0 : Int), ()), (()))

noncomputable def backTriesNextNil.body : Code := Try.f26.body.getD .skip
noncomputable def backTriesNextNil.con : OCon := { ps := [.nil], rs := [.dat (.int .u64)], f := fun n x => backTriesNextNil n }
noncomputable def backTriesNextNil.env : Env := { tys := [(27, ⟨(.int .u64), 8⟩), (31, ⟨.np, 8⟩)], elems := [], ptrs := [(31, 90)], cons := [], objs := [], loops := [], cuts := [], globs := globs, base := 0 }
noncomputable def backTriesNextNil.lp (n : Nat) : LP (RT backTriesNextNil.con.rs × BT backTriesNextNil.con.ps) := fun lo κ body nm K s =>
  loops n (RT backTriesNextNil.con.rs × BT backTriesNextNil.con.ps) lo κ body nm K s
theorem backTriesNextNil.eq (n : Nat) (x : PT backTriesNextNil.con.ps) : evFuncO backTriesNextNil.env Try.f26 backTriesNextNil.body backTriesNextNil.con.ps backTriesNextNil.con.rs (backTriesNextNil.lp n) n x = backTriesNextNil.con.f n x := by kernel_rfl
theorem backTriesNextNil.sound : SoundO Try.prog globs 26 backTriesNextNil.con :=
  sound_byO (E := backTriesNextNil.env) (c := backTriesNextNil.body) (envOk (G := globs) (lc := []) (lo := []) (envB_spec (by kernel_rfl)) rfl rfl trivial rfl trivial (by kernel_rfl) (by kernel_rfl)) Try.func26 (by kernel_rfl) (by kernel_rfl) (by kernel_rfl) backTriesNextNil.lp (l := []) (by kernel_rfl) (fun n => trivial) backTriesNextNil.eq
noncomputable def backTriesOverNil (fu : Nat) : Option ((Bool × Unit) × (Unit)) :=
  some ((false, ()), (()))

noncomputable def backTriesOverNil.body : Code := Try.f27.body.getD .skip
noncomputable def backTriesOverNil.con : OCon := { ps := [.nil], rs := [.dat .bool], f := fun n x => backTriesOverNil n }
noncomputable def backTriesOverNil.env : Env := { tys := [(4, ⟨.bool, 1⟩), (31, ⟨.np, 8⟩)], elems := [], ptrs := [(31, 90)], cons := [], objs := [], loops := [], cuts := [], globs := globs, base := 0 }
noncomputable def backTriesOverNil.lp (n : Nat) : LP (RT backTriesOverNil.con.rs × BT backTriesOverNil.con.ps) := fun lo κ body nm K s =>
  loops n (RT backTriesOverNil.con.rs × BT backTriesOverNil.con.ps) lo κ body nm K s
theorem backTriesOverNil.eq (n : Nat) (x : PT backTriesOverNil.con.ps) : evFuncO backTriesOverNil.env Try.f27 backTriesOverNil.body backTriesOverNil.con.ps backTriesOverNil.con.rs (backTriesOverNil.lp n) n x = backTriesOverNil.con.f n x := by kernel_rfl
theorem backTriesOverNil.sound : SoundO Try.prog globs 27 backTriesOverNil.con :=
  sound_byO (E := backTriesOverNil.env) (c := backTriesOverNil.body) (envOk (G := globs) (lc := []) (lo := []) (envB_spec (by kernel_rfl)) rfl rfl trivial rfl trivial (by kernel_rfl) (by kernel_rfl)) Try.func27 (by kernel_rfl) (by kernel_rfl) (by kernel_rfl) backTriesOverNil.lp (l := []) (by kernel_rfl) (fun n => trivial) backTriesOverNil.eq
noncomputable def law23BackNil (fu : Nat) (now : Int) : Option (Bool × Unit) :=
  (backTriesBeginNil fu now).bind fun r1 =>
  (law23Fixed fu).bind fun r2 =>
  cond r2.1 (
    (backTriesDueNil fu now).bind fun r3 =>
    cond (!r3.1.1) (
      (backTriesTryNil fu now).bind fun r4 =>
      cond (!r4.1.1) (
        (backTriesCountNil fu).bind fun r5 =>
        cond (r5.1.1 == (0 : Int)) (
          (backTriesNextNil fu).bind fun r6 =>
          cond (r6.1.1 == (0 : Int)) (
            (backTriesOverNil fu).bind fun r7 =>
            some (!r7.1.1, ())) (
            some (false, ()))) (
          some (false, ()))) (
        some (false, ()))) (
      some (false, ()))) (
    some (false, ()))

noncomputable def law23BackNil.body : Code := Try.f4.body.getD .skip
noncomputable def law23BackNil.con : Con := { ps := [(.int .u64)], rs := [.bool], f := fun n x => law23BackNil n x.1 }
noncomputable def law23BackNil.env : Env := { tys := [(4, ⟨.bool, 1⟩), (31, ⟨.np, 8⟩)], elems := [], ptrs := [], cons := [(15, law23Fixed.con)], objs := [(22, [backTriesBeginNil.con]), (23, [backTriesDueNil.con]), (24, [backTriesTryNil.con]), (25, [backTriesCountNil.con]), (26, [backTriesNextNil.con]), (27, [backTriesOverNil.con])], loops := [], cuts := [], globs := globs, base := 0 }
noncomputable def law23BackNil.lp (n : Nat) : LP (Kd.struct law23BackNil.con.rs).T := fun lo κ body nm K s =>
  loops n (Kd.struct law23BackNil.con.rs).T lo κ body nm K s
theorem law23BackNil.eq (n : Nat) (x : (Kd.struct law23BackNil.con.ps).T) : evFunc law23BackNil.env Try.f4 law23BackNil.body law23BackNil.con.ps law23BackNil.con.rs (law23BackNil.lp n) n x = law23BackNil.con.f n x := by kernel_rfl
theorem law23BackNil.sound : Sound Try.prog globs 4 law23BackNil.con :=
  sound_by (E := law23BackNil.env) (c := law23BackNil.body) (envOk (G := globs) (lc := [(15, law23Fixed.con)]) (lo := [(22, [backTriesBeginNil.con]), (23, [backTriesDueNil.con]), (24, [backTriesTryNil.con]), (25, [backTriesCountNil.con]), (26, [backTriesNextNil.con]), (27, [backTriesOverNil.con])]) (envB_spec (by kernel_rfl)) rfl rfl ⟨.inl ⟨law23Fixed.sound, by kernel_rfl⟩, trivial⟩ rfl ⟨⟨⟨backTriesBeginNil.sound, trivial⟩, by kernel_rfl⟩, ⟨⟨⟨backTriesDueNil.sound, trivial⟩, by kernel_rfl⟩, ⟨⟨⟨backTriesTryNil.sound, trivial⟩, by kernel_rfl⟩, ⟨⟨⟨backTriesCountNil.sound, trivial⟩, by kernel_rfl⟩, ⟨⟨⟨backTriesNextNil.sound, trivial⟩, by kernel_rfl⟩, ⟨⟨⟨backTriesOverNil.sound, trivial⟩, by kernel_rfl⟩, trivial⟩⟩⟩⟩⟩⟩ (by kernel_rfl) (by kernel_rfl)) Try.func4 (by kernel_rfl) law23BackNil.lp (l := []) (by kernel_rfl) (fun n => trivial) law23BackNil.eq
noncomputable def backNew (fu : Nat) (b : S0) : Option (((Option O1) × Int × Unit) × (Unit)) :=
  (backMay fu b).bind fun r1 =>
  cond (!r1.1) (
    some ((none, (1 : Int), ()), (()))) (
    some ((some (b, false, (0 : Int), (0 : Int), ()), (0 : Int), ()), (())))

noncomputable def backNew.body : Code := Try.f28.body.getD .skip
noncomputable def backNew.con : OCon := { ps := [.dat kS0], rs := [.ref kO1, .dat (.int .i64)], f := fun n x => backNew n x.1 }
noncomputable def backNew.env : Env := { tys := [(24, ⟨kS0, 12⟩), (31, ⟨.np, 8⟩), (37, ⟨(.int .i64), 8⟩), (90, ⟨kS2, 32⟩)], elems := [], ptrs := [], cons := [(16, backMay.con)], objs := [], loops := [], cuts := [], globs := globs, base := 0 }
noncomputable def backNew.lp (n : Nat) : LP (RT backNew.con.rs × BT backNew.con.ps) := fun lo κ body nm K s =>
  loops n (RT backNew.con.rs × BT backNew.con.ps) lo κ body nm K s
theorem backNew.eq (n : Nat) (x : PT backNew.con.ps) : evFuncO backNew.env Try.f28 backNew.body backNew.con.ps backNew.con.rs (backNew.lp n) n x = backNew.con.f n x := by kernel_rfl
theorem backNew.sound : SoundO Try.prog globs 28 backNew.con :=
  sound_byO (E := backNew.env) (c := backNew.body) (envOk (G := globs) (lc := [(16, backMay.con)]) (lo := []) (envB_spec (by kernel_rfl)) rfl rfl ⟨.inl ⟨backMay.sound, by kernel_rfl⟩, trivial⟩ rfl trivial (by kernel_rfl) (by kernel_rfl)) Try.func28 (by kernel_rfl) (by kernel_rfl) (by kernel_rfl) backNew.lp (l := []) (by kernel_rfl) (fun n => trivial) backNew.eq
noncomputable def backTriesBegin (fu : Nat) (tv : O1) (now : Int) : Option ((Unit) × (O1 × Unit)) :=
  some ((()), ((tv.1, true, (0 : Int), now, ()), ()))

noncomputable def backTriesBegin.body : Code := Try.f22.body.getD .skip
noncomputable def backTriesBegin.con : OCon := { ps := [.obj kO1, .dat (.int .u64)], rs := [], f := fun n x => backTriesBegin n x.1 x.2.1 }
noncomputable def backTriesBegin.env : Env := { tys := [(90, ⟨kS2, 32⟩), (4, ⟨.bool, 1⟩), (22, ⟨(.int .u32), 4⟩), (27, ⟨(.int .u64), 8⟩)], elems := [], ptrs := [(31, 90)], cons := [], objs := [], loops := [], cuts := [], globs := globs, base := 1 }
noncomputable def backTriesBegin.lp (n : Nat) : LP (RT backTriesBegin.con.rs × BT backTriesBegin.con.ps) := fun lo κ body nm K s =>
  loops n (RT backTriesBegin.con.rs × BT backTriesBegin.con.ps) lo κ body nm K s
theorem backTriesBegin.eq (n : Nat) (x : PT backTriesBegin.con.ps) : evFuncO backTriesBegin.env Try.f22 backTriesBegin.body backTriesBegin.con.ps backTriesBegin.con.rs (backTriesBegin.lp n) n x = backTriesBegin.con.f n x := by kernel_rfl
theorem backTriesBegin.sound : SoundO Try.prog globs 22 backTriesBegin.con :=
  sound_byO (E := backTriesBegin.env) (c := backTriesBegin.body) (envOk (G := globs) (lc := []) (lo := []) (envB_spec (by kernel_rfl)) rfl rfl trivial rfl trivial (by kernel_rfl) (by kernel_rfl)) Try.func22 (by kernel_rfl) (by kernel_rfl) (by kernel_rfl) backTriesBegin.lp (l := []) (by kernel_rfl) (fun n => trivial) backTriesBegin.eq
noncomputable def ref23TriesDue (fu : Nat) (tv : S2) (now : Int) : Option (Bool × Unit) :=
  cond tv.2.1 (
    let t1 := decide (tv.2.2.1 < tv.1.2.2.1)
    cond t1 (
      let t2 := decide (now ≥ tv.2.2.2.1)
      some (t2, ())) (
      some (false, ()))) (
    some (false, ()))

noncomputable def ref23TriesDue.body : Code := Try.f30.body.getD .skip
noncomputable def ref23TriesDue.con : Con := { ps := [kS2, (.int .u64)], rs := [.bool], f := fun n x => ref23TriesDue n x.1 x.2.1 }
noncomputable def ref23TriesDue.env : Env := { tys := [(41, ⟨kS2, 32⟩), (4, ⟨.bool, 1⟩), (22, ⟨(.int .u32), 4⟩), (24, ⟨kS0, 12⟩), (27, ⟨(.int .u64), 8⟩)], elems := [], ptrs := [], cons := [], objs := [], loops := [], cuts := [], globs := globs, base := 0 }
noncomputable def ref23TriesDue.lp (n : Nat) : LP (Kd.struct ref23TriesDue.con.rs).T := fun lo κ body nm K s =>
  loops n (Kd.struct ref23TriesDue.con.rs).T lo κ body nm K s
theorem ref23TriesDue.eq (n : Nat) (x : (Kd.struct ref23TriesDue.con.ps).T) : evFunc ref23TriesDue.env Try.f30 ref23TriesDue.body ref23TriesDue.con.ps ref23TriesDue.con.rs (ref23TriesDue.lp n) n x = ref23TriesDue.con.f n x := by kernel_rfl
theorem ref23TriesDue.sound : Sound Try.prog globs 30 ref23TriesDue.con :=
  sound_by (E := ref23TriesDue.env) (c := ref23TriesDue.body) (envOk (G := globs) (lc := []) (lo := []) (envB_spec (by kernel_rfl)) rfl rfl trivial rfl trivial (by kernel_rfl) (by kernel_rfl)) Try.func30 (by kernel_rfl) ref23TriesDue.lp (l := []) (by kernel_rfl) (fun n => trivial) ref23TriesDue.eq
noncomputable def ref23TriesTry (fu : Nat) (tv : S2) (now : Int) : Option (Bool × S2 × Unit) :=
  (ref23TriesDue fu tv now).bind fun r1 =>
  cond (!r1.1) (
    some (false, tv, ())) (
    let t2 := IntKind.u32.wrap (tv.2.2.1 + (1 : Int))
    (ref23Pause fu tv.1 t2).bind fun r3 =>
    let t4 := IntKind.u64.wrap (now + r3.1)
    some (true, (tv.1, tv.2.1, t2, t4, ()), ()))

noncomputable def ref23TriesTry.body : Code := Try.f29.body.getD .skip
noncomputable def ref23TriesTry.con : Con := { ps := [kS2, (.int .u64)], rs := [.bool, kS2], f := fun n x => ref23TriesTry n x.1 x.2.1 }
noncomputable def ref23TriesTry.env : Env := { tys := [(41, ⟨kS2, 32⟩), (4, ⟨.bool, 1⟩), (22, ⟨(.int .u32), 4⟩), (24, ⟨kS0, 12⟩), (27, ⟨(.int .u64), 8⟩)], elems := [], ptrs := [], cons := [(30, ref23TriesDue.con), (19, ref23Pause.con)], objs := [], loops := [], cuts := [], globs := globs, base := 0 }
noncomputable def ref23TriesTry.lp (n : Nat) : LP (Kd.struct ref23TriesTry.con.rs).T := fun lo κ body nm K s =>
  loops n (Kd.struct ref23TriesTry.con.rs).T lo κ body nm K s
theorem ref23TriesTry.eq (n : Nat) (x : (Kd.struct ref23TriesTry.con.ps).T) : evFunc ref23TriesTry.env Try.f29 ref23TriesTry.body ref23TriesTry.con.ps ref23TriesTry.con.rs (ref23TriesTry.lp n) n x = ref23TriesTry.con.f n x := by kernel_rfl
theorem ref23TriesTry.sound : Sound Try.prog globs 29 ref23TriesTry.con :=
  sound_by (E := ref23TriesTry.env) (c := ref23TriesTry.body) (envOk (G := globs) (lc := [(30, ref23TriesDue.con), (19, ref23Pause.con)]) (lo := []) (envB_spec (by kernel_rfl)) rfl rfl ⟨.inl ⟨ref23TriesDue.sound, by kernel_rfl⟩, ⟨.inl ⟨ref23Pause.sound, by kernel_rfl⟩, trivial⟩⟩ rfl trivial (by kernel_rfl) (by kernel_rfl)) Try.func29 (by kernel_rfl) ref23TriesTry.lp (l := []) (by kernel_rfl) (fun n => trivial) ref23TriesTry.eq
noncomputable def backTriesOver (fu : Nat) (tv : O1) : Option ((Bool × Unit) × (O1 × Unit)) :=
  let t1 := decide (tv.2.2.1 ≥ tv.1.2.2.1)
  some ((t1, ()), (tv, ()))

noncomputable def backTriesOver.body : Code := Try.f27.body.getD .skip
noncomputable def backTriesOver.con : OCon := { ps := [.obj kO1], rs := [.dat .bool], f := fun n x => backTriesOver n x.1 }
noncomputable def backTriesOver.env : Env := { tys := [(4, ⟨.bool, 1⟩), (90, ⟨kS2, 32⟩), (22, ⟨(.int .u32), 4⟩), (24, ⟨kS0, 12⟩)], elems := [], ptrs := [(31, 90)], cons := [], objs := [], loops := [], cuts := [], globs := globs, base := 1 }
noncomputable def backTriesOver.lp (n : Nat) : LP (RT backTriesOver.con.rs × BT backTriesOver.con.ps) := fun lo κ body nm K s =>
  loops n (RT backTriesOver.con.rs × BT backTriesOver.con.ps) lo κ body nm K s
theorem backTriesOver.eq (n : Nat) (x : PT backTriesOver.con.ps) : evFuncO backTriesOver.env Try.f27 backTriesOver.body backTriesOver.con.ps backTriesOver.con.rs (backTriesOver.lp n) n x = backTriesOver.con.f n x := by kernel_rfl
theorem backTriesOver.sound : SoundO Try.prog globs 27 backTriesOver.con :=
  sound_byO (E := backTriesOver.env) (c := backTriesOver.body) (envOk (G := globs) (lc := []) (lo := []) (envB_spec (by kernel_rfl)) rfl rfl trivial rfl trivial (by kernel_rfl) (by kernel_rfl)) Try.func27 (by kernel_rfl) (by kernel_rfl) (by kernel_rfl) backTriesOver.lp (l := []) (by kernel_rfl) (fun n => trivial) backTriesOver.eq
noncomputable def backTriesDue (fu : Nat) (tv : O1) (now : Int) : Option ((Bool × Unit) × (O1 × Unit)) :=
  cond tv.2.1 (
    (backTriesOver fu tv).bind fun r1 =>
    cond (!r1.1.1) (
      let t2 := decide (r1.2.1.2.2.2.1 ≤ now)
      some ((t2, ()), (r1.2.1, ()))) (
      some ((false, ()), (r1.2.1, ())))) (
    some ((false, ()), (tv, ())))

noncomputable def backTriesDue.body : Code := Try.f23.body.getD .skip
noncomputable def backTriesDue.con : OCon := { ps := [.obj kO1, .dat (.int .u64)], rs := [.dat .bool], f := fun n x => backTriesDue n x.1 x.2.1 }
noncomputable def backTriesDue.env : Env := { tys := [(4, ⟨.bool, 1⟩), (90, ⟨kS2, 32⟩), (27, ⟨(.int .u64), 8⟩)], elems := [], ptrs := [(31, 90)], cons := [], objs := [(27, [backTriesOver.con])], loops := [], cuts := [], globs := globs, base := 1 }
noncomputable def backTriesDue.lp (n : Nat) : LP (RT backTriesDue.con.rs × BT backTriesDue.con.ps) := fun lo κ body nm K s =>
  loops n (RT backTriesDue.con.rs × BT backTriesDue.con.ps) lo κ body nm K s
theorem backTriesDue.eq (n : Nat) (x : PT backTriesDue.con.ps) : evFuncO backTriesDue.env Try.f23 backTriesDue.body backTriesDue.con.ps backTriesDue.con.rs (backTriesDue.lp n) n x = backTriesDue.con.f n x := by kernel_rfl
theorem backTriesDue.sound : SoundO Try.prog globs 23 backTriesDue.con :=
  sound_byO (E := backTriesDue.env) (c := backTriesDue.body) (envOk (G := globs) (lc := []) (lo := [(27, [backTriesOver.con])]) (envB_spec (by kernel_rfl)) rfl rfl trivial rfl ⟨⟨⟨backTriesOver.sound, trivial⟩, by kernel_rfl⟩, trivial⟩ (by kernel_rfl) (by kernel_rfl)) Try.func23 (by kernel_rfl) (by kernel_rfl) (by kernel_rfl) backTriesDue.lp (l := []) (by kernel_rfl) (fun n => trivial) backTriesDue.eq
noncomputable def backTriesTry (fu : Nat) (tv : O1) (now : Int) : Option ((Bool × Unit) × (O1 × Unit)) :=
  (backTriesDue fu tv now).bind fun r1 =>
  cond (!r1.1.1) (
    some ((false, ()), (r1.2.1, ()))) (
    let t2 := IntKind.u32.wrap (r1.2.1.2.2.1 + (1 : Int))
    (backPause fu r1.2.1.1 t2).bind fun r3 =>
    let t4 := IntKind.u64.wrap (now + r3.1)
    some ((true, ()), ((r1.2.1.1, r1.2.1.2.1, t2, t4, ()), ())))

noncomputable def backTriesTry.body : Code := Try.f24.body.getD .skip
noncomputable def backTriesTry.con : OCon := { ps := [.obj kO1, .dat (.int .u64)], rs := [.dat .bool], f := fun n x => backTriesTry n x.1 x.2.1 }
noncomputable def backTriesTry.env : Env := { tys := [(4, ⟨.bool, 1⟩), (90, ⟨kS2, 32⟩), (22, ⟨(.int .u32), 4⟩), (24, ⟨kS0, 12⟩), (27, ⟨(.int .u64), 8⟩)], elems := [], ptrs := [], cons := [(18, backPause.con)], objs := [(23, [backTriesDue.con])], loops := [], cuts := [], globs := globs, base := 1 }
noncomputable def backTriesTry.lp (n : Nat) : LP (RT backTriesTry.con.rs × BT backTriesTry.con.ps) := fun lo κ body nm K s =>
  loops n (RT backTriesTry.con.rs × BT backTriesTry.con.ps) lo κ body nm K s
theorem backTriesTry.eq (n : Nat) (x : PT backTriesTry.con.ps) : evFuncO backTriesTry.env Try.f24 backTriesTry.body backTriesTry.con.ps backTriesTry.con.rs (backTriesTry.lp n) n x = backTriesTry.con.f n x := by kernel_rfl
theorem backTriesTry.sound : SoundO Try.prog globs 24 backTriesTry.con :=
  sound_byO (E := backTriesTry.env) (c := backTriesTry.body) (envOk (G := globs) (lc := [(18, backPause.con)]) (lo := [(23, [backTriesDue.con])]) (envB_spec (by kernel_rfl)) rfl rfl ⟨.inl ⟨backPause.sound, by kernel_rfl⟩, trivial⟩ rfl ⟨⟨⟨backTriesDue.sound, trivial⟩, by kernel_rfl⟩, trivial⟩ (by kernel_rfl) (by kernel_rfl)) Try.func24 (by kernel_rfl) (by kernel_rfl) (by kernel_rfl) backTriesTry.lp (l := []) (by kernel_rfl) (fun n => trivial) backTriesTry.eq
noncomputable def backTriesCount (fu : Nat) (tv : O1) : Option ((Int × Unit) × (O1 × Unit)) :=
  some ((tv.2.2.1, ()), (tv, ()))

noncomputable def backTriesCount.body : Code := Try.f25.body.getD .skip
noncomputable def backTriesCount.con : OCon := { ps := [.obj kO1], rs := [.dat (.int .u32)], f := fun n x => backTriesCount n x.1 }
noncomputable def backTriesCount.env : Env := { tys := [(22, ⟨(.int .u32), 4⟩), (90, ⟨kS2, 32⟩)], elems := [], ptrs := [(31, 90)], cons := [], objs := [], loops := [], cuts := [], globs := globs, base := 1 }
noncomputable def backTriesCount.lp (n : Nat) : LP (RT backTriesCount.con.rs × BT backTriesCount.con.ps) := fun lo κ body nm K s =>
  loops n (RT backTriesCount.con.rs × BT backTriesCount.con.ps) lo κ body nm K s
theorem backTriesCount.eq (n : Nat) (x : PT backTriesCount.con.ps) : evFuncO backTriesCount.env Try.f25 backTriesCount.body backTriesCount.con.ps backTriesCount.con.rs (backTriesCount.lp n) n x = backTriesCount.con.f n x := by kernel_rfl
theorem backTriesCount.sound : SoundO Try.prog globs 25 backTriesCount.con :=
  sound_byO (E := backTriesCount.env) (c := backTriesCount.body) (envOk (G := globs) (lc := []) (lo := []) (envB_spec (by kernel_rfl)) rfl rfl trivial rfl trivial (by kernel_rfl) (by kernel_rfl)) Try.func25 (by kernel_rfl) (by kernel_rfl) (by kernel_rfl) backTriesCount.lp (l := []) (by kernel_rfl) (fun n => trivial) backTriesCount.eq
noncomputable def backTriesNext (fu : Nat) (tv : O1) : Option ((Int × Unit) × (O1 × Unit)) :=
  some ((tv.2.2.2.1, ()), (tv, ()))

noncomputable def backTriesNext.body : Code := Try.f26.body.getD .skip
noncomputable def backTriesNext.con : OCon := { ps := [.obj kO1], rs := [.dat (.int .u64)], f := fun n x => backTriesNext n x.1 }
noncomputable def backTriesNext.env : Env := { tys := [(27, ⟨(.int .u64), 8⟩), (90, ⟨kS2, 32⟩)], elems := [], ptrs := [(31, 90)], cons := [], objs := [], loops := [], cuts := [], globs := globs, base := 1 }
noncomputable def backTriesNext.lp (n : Nat) : LP (RT backTriesNext.con.rs × BT backTriesNext.con.ps) := fun lo κ body nm K s =>
  loops n (RT backTriesNext.con.rs × BT backTriesNext.con.ps) lo κ body nm K s
theorem backTriesNext.eq (n : Nat) (x : PT backTriesNext.con.ps) : evFuncO backTriesNext.env Try.f26 backTriesNext.body backTriesNext.con.ps backTriesNext.con.rs (backTriesNext.lp n) n x = backTriesNext.con.f n x := by kernel_rfl
theorem backTriesNext.sound : SoundO Try.prog globs 26 backTriesNext.con :=
  sound_byO (E := backTriesNext.env) (c := backTriesNext.body) (envOk (G := globs) (lc := []) (lo := []) (envB_spec (by kernel_rfl)) rfl rfl trivial rfl trivial (by kernel_rfl) (by kernel_rfl)) Try.func26 (by kernel_rfl) (by kernel_rfl) (by kernel_rfl) backTriesNext.lp (l := []) (by kernel_rfl) (fun n => trivial) backTriesNext.eq
noncomputable def law23BackPlays.j20 (fu : Nat) (k0 : (List S3) → Int → Int → S0 → S0 → Bool → Int → Int → S2 → Option (Bool × Unit)) (k1 : Bool → Option (Bool × Unit)) (v : List S3) (vx2 : Int) (vx3 : Int) (b0 : S0) (b1 : S0) (c1 : Bool) (c1x2 : Int) (c1x3 : Int) (b2 : S2) (b3 : S3) : Option (Bool × Unit) :=
  (backTriesDue fu (b1, c1, c1x2, c1x3, ()) b3.2.1).bind fun r1 =>
  (ref23TriesDue fu b2 b3.2.1).bind fun r2 =>
  cond (!(r1.1.1 == r2.1)) (
    k1 false) (
    (backTriesCount fu r1.2.1).bind fun r3 =>
    cond (r3.1.1 != b2.2.2.1) (
      k1 false) (
      (backTriesNext fu r3.2.1).bind fun r4 =>
      cond (r4.1.1 != b2.2.2.2.1) (
        k1 false) (
        (backTriesOver fu r4.2.1).bind fun r5 =>
        let t6 := !(r5.1.1 == (b2.2.2.1 == b0.2.2.1))
        cond t6 (
          k1 false) (
          k0 v vx2 vx3 b0 r5.2.1.1 r5.2.1.2.1 r5.2.1.2.2.1 r5.2.1.2.2.2.1 b2))))
noncomputable def law23BackPlays.b8 (fu : Nat) (next : (List S3) → Int → Int → S0 → S0 → Bool → Int → Int → S2 → Option (Bool × Unit)) (k1 : Bool → Option (Bool × Unit)) (k2 : Unit → Option (Bool × Unit)) (v : List S3) (vx2 : Int) (vx3 : Int) (b0 : S0) (b1 : S0) (c1 : Bool) (c1x2 : Int) (c1x3 : Int) (b2 : S2) : Option (Bool × Unit) :=
  cond (decide (vx3 < vx2)) (
    chk (ixOk v vx3) <|
    let e1 := ixL ((0 : Int), (0 : Int), ()) v vx3
    let t2 := decide (vx3 > (300 : Int))
    cond t2 (
      k2 ()) (
      cond (e1.1 == (0 : Int)) (
        (backTriesBegin fu (b1, c1, c1x2, c1x3, ()) e1.2.1).bind fun r3 =>
        law23BackPlays.j20 fu (fun vq15 vq15x2 vq15x3 b0q15 b1q15 c1q15 c1q15x2 c1q15x3 b2q15 => 
            let t4 := IntKind.i64.wrap (vq15x3 + (1 : Int))
            next vq15 vq15x2 t4 b0q15 b1q15 c1q15 c1q15x2 c1q15x3 b2q15) (fun vq16 => 
            k1 vq16) v vx2 vx3 b0 r3.2.1.1 r3.2.1.2.1 r3.2.1.2.2.1 r3.2.1.2.2.2.1 (b0, true, (0 : Int), e1.2.1, ()) e1) (
        cond (e1.1 == (1 : Int)) (
          (ref23TriesTry fu b2 e1.2.1).bind fun r5 =>
          (backTriesTry fu (b1, c1, c1x2, c1x3, ()) e1.2.1).bind fun r6 =>
          cond (!(r6.1.1 == r5.1)) (
            k1 false) (
            law23BackPlays.j20 fu (fun vq17 vq17x2 vq17x3 b0q17 b1q17 c1q17 c1q17x2 c1q17x3 b2q17 => 
                let t7 := IntKind.i64.wrap (vq17x3 + (1 : Int))
                next vq17 vq17x2 t7 b0q17 b1q17 c1q17 c1q17x2 c1q17x3 b2q17) (fun vq18 => 
                k1 vq18) v vx2 vx3 b0 r6.2.1.1 r6.2.1.2.1 r6.2.1.2.2.1 r6.2.1.2.2.2.1 r5.2.1 e1)) (
          law23BackPlays.j20 fu (fun vq19 vq19x2 vq19x3 b0q19 b1q19 c1q19 c1q19x2 c1q19x3 b2q19 => 
              let t8 := IntKind.i64.wrap (vq19x3 + (1 : Int))
              next vq19 vq19x2 t8 b0q19 b1q19 c1q19 c1q19x2 c1q19x3 b2q19) (fun vq20 => 
              k1 vq20) v vx2 vx3 b0 b1 c1 c1x2 c1x3 b2 e1)))) (
    k2 ())
noncomputable def law23BackPlays.l8 (fu : Nat) (k1 : Bool → Option (Bool × Unit)) (k2 : Unit → Option (Bool × Unit)) : Nat → (List S3) → Int → Int → S0 → S0 → Bool → Int → Int → S2 → Option (Bool × Unit)
  | 0, _, _, _, _, _, _, _, _, _ => none
  | m + 1, v, vx2, vx3, b0, b1, c1, c1x2, c1x3, b2 => law23BackPlays.b8 fu (law23BackPlays.l8 fu k1 k2 m) k1 k2 v vx2 vx3 b0 b1 c1 c1x2 c1x3 b2
noncomputable def law23BackPlays (fu : Nat) (b : S0) (ops : List S3) : Option (Bool × Unit) :=
  (backNew fu b).bind fun r1 =>
  oc r1.1.1 (
    (ref23May fu b).bind fun r3 =>
    cond (!r3.1) (
      (law23Fixed fu).bind fun r4 =>
      cond r4.1 (
        some (r1.1.2.1 == (1 : Int), ())) (
        some (false, ()))) (
      some (false, ()))) fun o2 =>
  (ref23May fu b).bind fun r5 =>
  cond (!r5.1) (
    (law23Fixed fu).bind fun r6 =>
    cond r6.1 (
      some (false, ())) (
      some (false, ()))) (
    cond (r1.1.2.1 != (0 : Int)) (
      some (false, ())) (
      (law23Fixed fu).bind fun r7 =>
      cond (!r7.1) (
        some (false, ())) (
        law23BackPlays.l8 fu (fun vq7 => 
            some (vq7, ())) (fun (_ : Unit) => 
            some (true, ())) fu ops (ops.length : Int) (0 : Int) b o2.1 o2.2.1 o2.2.2.1 o2.2.2.2.1 (b, false, (0 : Int), (0 : Int), ()))))

noncomputable def law23BackPlays.body : Code := Try.f5.body.getD .skip
abbrev law23BackPlays.shj20 : Shp := ⟨[.u, .u, .p 0 0, .u, .u, .p 1 0, .u, .p 2 0, .u, .p 3 0, .u, .u, .u, .u, .u, .u, .u, .u, .u, .u, .u, .u, .u, .u, .u, .u, .u, .u, .u, .u, .u, .u, .u, .u, .u, .u, .u, .u, .u, .u, .u, .d (.slice kS3), .d (.int .i64), .d (.int .i64), .u, .u, .u, .u, .u, .u, .u, .u, .u, .u, .u, .u, .u, .u, .u, .u, .u, .u, .u, .u, .u, .u, .u, .u, .u, .u, .u, .u, .u, .u, .u, .u, .u, .u, .u, .u, .u, .u, .u, .u, .u, .u, .u, .u, .u, .u, .u, .u, .u, .u, .u, .u, .u, .u, .u, .u, .u, .u, .u, .u, .u, .u, .u, .u, .u, .u, .u, .u], [[.g kS0], [.g kS0, .d .bool, .d (.int .u32), .d (.int .u64)], [.g kS2], [.g kS3]]⟩
abbrev law23BackPlays.outj20e0 : Shp := ⟨[.u, .u, .p 0 0, .u, .u, .p 1 0, .u, .p 2 0, .u, .u, .u, .u, .u, .u, .u, .u, .u, .u, .u, .u, .u, .u, .u, .u, .u, .u, .u, .u, .u, .u, .u, .u, .u, .u, .u, .u, .u, .u, .u, .u, .u, .d (.slice kS3), .d (.int .i64), .d (.int .i64), .u, .u, .u, .u, .u, .u, .u, .u, .u, .u, .u, .u, .u, .u, .u, .u, .u, .u, .u, .u, .u, .u, .u, .u, .u, .u, .u, .u, .u, .u, .u, .u, .u, .u, .u, .u, .u, .u, .u, .u, .u, .u, .u, .u, .u, .u, .u, .u, .u, .u, .u, .u, .u, .u, .u, .u, .u, .u, .u, .u, .u, .u, .u, .u, .u, .u, .u, .u], [[.g kS0], [.g kS0, .d .bool, .d (.int .u32), .d (.int .u64)], [.g kS2]]⟩
abbrev law23BackPlays.outj20e1 : Shp := ⟨[.u, .u, .u, .u, .d .bool, .u, .u, .u, .u, .u, .u, .u, .u, .u, .u, .u, .u, .u, .u, .u, .u, .u, .u, .u, .u, .u, .u, .u, .u, .u, .u, .u, .u, .u, .u, .u, .u, .u, .u, .u, .u, .u, .u, .u, .u, .u, .u, .u, .u, .u, .u, .u, .u, .u, .u, .u, .u, .u, .u, .u, .u, .u, .u, .u, .u, .u, .u, .u, .u, .u, .u, .u, .u, .u, .u, .u, .u, .u, .u, .u, .u, .u, .u, .u, .u, .u, .u, .u, .u, .u, .u, .u, .u, .u, .u, .u, .u, .u, .u, .u, .u, .u, .u, .u, .u, .u, .u, .u, .u, .u, .u, .u], []⟩
noncomputable def law23BackPlays.nmj20 : Norm := ⟨{ keep := [2, 5, 7, 9, 41, 42, 43], shut := [(41, (.slice kS3)), (42, (.int .i64)), (43, (.int .i64))], retag := [], heap := 4, dead := [], cshut := [(0, 0, (.int .u32)), (0, 1, (.int .u32)), (0, 2, (.int .u32)), (1, 0, (.int .u32)), (1, 1, (.int .u32)), (1, 2, (.int .u32)), (1, 3, .bool), (1, 4, (.int .u32)), (1, 5, (.int .u64)), (2, 0, (.int .u32)), (2, 1, (.int .u32)), (2, 2, (.int .u32)), (2, 3, .bool), (2, 4, (.int .u32)), (2, 5, (.int .u64)), (3, 0, (.int .i64)), (3, 1, (.int .u64))], cretag := [] }, [(0, { keep := [2, 5, 7, 41, 42, 43], shut := [(41, (.slice kS3)), (42, (.int .i64)), (43, (.int .i64))], retag := [], heap := 3, dead := [], cshut := [(0, 0, (.int .u32)), (0, 1, (.int .u32)), (0, 2, (.int .u32)), (1, 0, (.int .u32)), (1, 1, (.int .u32)), (1, 2, (.int .u32)), (1, 3, .bool), (1, 4, (.int .u32)), (1, 5, (.int .u64)), (2, 0, (.int .u32)), (2, 1, (.int .u32)), (2, 2, (.int .u32)), (2, 3, .bool), (2, 4, (.int .u32)), (2, 5, (.int .u64))], cretag := [] }), (1, { keep := [4], shut := [(4, .bool)], retag := [], heap := 0, dead := [], cshut := [], cretag := [] })]⟩
abbrev law23BackPlays.shl8 : Shp := ⟨[.u, .u, .p 0 0, .u, .u, .p 1 0, .u, .p 2 0, .u, .u, .u, .u, .u, .u, .u, .u, .u, .u, .u, .u, .u, .u, .u, .u, .u, .u, .u, .u, .u, .u, .u, .u, .u, .u, .u, .u, .u, .u, .u, .u, .u, .d (.slice kS3), .d (.int .i64), .d (.int .i64), .u, .u, .u, .u, .u, .u, .u, .u, .u, .u, .u, .u, .u, .u, .u, .u, .u, .u, .u, .u, .u, .u, .u, .u, .u, .u, .u, .u, .u, .u, .u, .u, .u, .u, .u, .u, .u, .u, .u, .u, .u, .u, .u, .u, .u, .u, .u, .u, .u, .u, .u, .u, .u, .u, .u, .u, .u, .u, .u, .u, .u, .u, .u, .u, .u, .u, .u, .u], [[.g kS0], [.g kS0, .d .bool, .d (.int .u32), .d (.int .u64)], [.g kS2]]⟩
abbrev law23BackPlays.outl8e1 : Shp := ⟨[.u, .u, .u, .u, .d .bool, .u, .u, .u, .u, .u, .u, .u, .u, .u, .u, .u, .u, .u, .u, .u, .u, .u, .u, .u, .u, .u, .u, .u, .u, .u, .u, .u, .u, .u, .u, .u, .u, .u, .u, .u, .u, .u, .u, .u, .u, .u, .u, .u, .u, .u, .u, .u, .u, .u, .u, .u, .u, .u, .u, .u, .u, .u, .u, .u, .u, .u, .u, .u, .u, .u, .u, .u, .u, .u, .u, .u, .u, .u, .u, .u, .u, .u, .u, .u, .u, .u, .u, .u, .u, .u, .u, .u, .u, .u, .u, .u, .u, .u, .u, .u, .u, .u, .u, .u, .u, .u, .u, .u, .u, .u, .u, .u], []⟩
abbrev law23BackPlays.outl8e2 : Shp := ⟨[.u, .u, .u, .u, .u, .u, .u, .u, .u, .u, .u, .u, .u, .u, .u, .u, .u, .u, .u, .u, .u, .u, .u, .u, .u, .u, .u, .u, .u, .u, .u, .u, .u, .u, .u, .u, .u, .u, .u, .u, .u, .u, .u, .u, .u, .u, .u, .u, .u, .u, .u, .u, .u, .u, .u, .u, .u, .u, .u, .u, .u, .u, .u, .u, .u, .u, .u, .u, .u, .u, .u, .u, .u, .u, .u, .u, .u, .u, .u, .u, .u, .u, .u, .u, .u, .u, .u, .u, .u, .u, .u, .u, .u, .u, .u, .u, .u, .u, .u, .u, .u, .u, .u, .u, .u, .u, .u, .u, .u, .u, .u, .u], []⟩
noncomputable def law23BackPlays.nml8 : Norm := ⟨{ keep := [2, 5, 7, 41, 42, 43], shut := [(41, (.slice kS3)), (42, (.int .i64)), (43, (.int .i64))], retag := [], heap := 3, dead := [], cshut := [(0, 0, (.int .u32)), (0, 1, (.int .u32)), (0, 2, (.int .u32)), (1, 0, (.int .u32)), (1, 1, (.int .u32)), (1, 2, (.int .u32)), (1, 3, .bool), (1, 4, (.int .u32)), (1, 5, (.int .u64)), (2, 0, (.int .u32)), (2, 1, (.int .u32)), (2, 2, (.int .u32)), (2, 3, .bool), (2, 4, (.int .u32)), (2, 5, (.int .u64))], cretag := [] }, [(1, { keep := [4], shut := [(4, .bool)], retag := [], heap := 0, dead := [], cshut := [], cretag := [] }), (2, { keep := [], shut := [], retag := [], heap := 0, dead := [], cshut := [], cretag := [] })]⟩
noncomputable def law23BackPlays.con : Con := { ps := [kS0, (.slice kS3)], rs := [.bool], f := fun n x => law23BackPlays n x.1 x.2.1 }
noncomputable def law23BackPlays.env : Env := { tys := [(24, ⟨kS0, 12⟩), (4, ⟨.bool, 1⟩), (31, ⟨.np, 8⟩), (41, ⟨kS2, 32⟩), (43, ⟨kS3, 16⟩), (3, ⟨(.int .i64), 8⟩), (27, ⟨(.int .u64), 8⟩), (22, ⟨(.int .u32), 4⟩)], elems := [(36, 43)], ptrs := [(31, 90)], cons := [(17, ref23May.con), (15, law23Fixed.con), (29, ref23TriesTry.con), (30, ref23TriesDue.con)], objs := [(22, [backTriesBegin.con]), (23, [backTriesDue.con]), (24, [backTriesTry.con]), (25, [backTriesCount.con]), (26, [backTriesNext.con]), (27, [backTriesOver.con]), (28, [backNew.con])], loops := [(8, law23BackPlays.nml8)], cuts := [(20, law23BackPlays.nmj20)], globs := globs, base := 0 }
noncomputable def law23BackPlays.lp (n : Nat) : LP (Kd.struct law23BackPlays.con.rs).T := fun lo κ body nm K s =>
  cond (!lo && Nat.beq κ 20)
    (match law23BackPlays.shj20.dec s with
    | some v => law23BackPlays.j20 n (fun w0 w1 w2 w3 w4 w5 w6 w7 w8 => K .normal (law23BackPlays.outj20e0.enc (w0, w1, w2, w3, w4, w5, w6, w7, w8, ()))) (fun w0 => K .ret (law23BackPlays.outj20e1.enc (w0, ()))) v.1 v.2.1 v.2.2.1 v.2.2.2.1 v.2.2.2.2.1 v.2.2.2.2.2.1 v.2.2.2.2.2.2.1 v.2.2.2.2.2.2.2.1 v.2.2.2.2.2.2.2.2.1 v.2.2.2.2.2.2.2.2.2.1
    | none => loops n (Kd.struct law23BackPlays.con.rs).T lo κ body nm K s)
    (cond (lo && Nat.beq κ 8)
    (match law23BackPlays.shl8.dec s with
    | some v => law23BackPlays.l8 n (fun w0 => K .ret (law23BackPlays.outl8e1.enc (w0, ()))) (fun _ => K (.exit 0) (law23BackPlays.outl8e2.enc (()))) n v.1 v.2.1 v.2.2.1 v.2.2.2.1 v.2.2.2.2.1 v.2.2.2.2.2.1 v.2.2.2.2.2.2.1 v.2.2.2.2.2.2.2.1 v.2.2.2.2.2.2.2.2.1
    | none => loops n (Kd.struct law23BackPlays.con.rs).T lo κ body nm K s)
    (loops n (Kd.struct law23BackPlays.con.rs).T lo κ body nm K s))
theorem law23BackPlays.atj20 (n : Nat) (s : St) (K : Ex → St → Option (Kd.struct law23BackPlays.con.rs).T) : law23BackPlays.lp n false 20 (evK law23BackPlays.env (law23BackPlays.lp n) n (sub [1, 1, 1, 1, 1, 0, 1, 0, 0, 1, 1, 0, 0, 1, 1, 1] law23BackPlays.body)) law23BackPlays.nmj20 K s = loops n (Kd.struct law23BackPlays.con.rs).T false 20 (evK law23BackPlays.env (law23BackPlays.lp n) n (sub [1, 1, 1, 1, 1, 0, 1, 0, 0, 1, 1, 0, 0, 1, 1, 1] law23BackPlays.body)) law23BackPlays.nmj20 K s := by
  show (match law23BackPlays.shj20.dec s with | some v => law23BackPlays.j20 n (fun w0 w1 w2 w3 w4 w5 w6 w7 w8 => K .normal (law23BackPlays.outj20e0.enc (w0, w1, w2, w3, w4, w5, w6, w7, w8, ()))) (fun w0 => K .ret (law23BackPlays.outj20e1.enc (w0, ()))) v.1 v.2.1 v.2.2.1 v.2.2.2.1 v.2.2.2.2.1 v.2.2.2.2.2.1 v.2.2.2.2.2.2.1 v.2.2.2.2.2.2.2.1 v.2.2.2.2.2.2.2.2.1 v.2.2.2.2.2.2.2.2.2.1 | none => loops n (Kd.struct law23BackPlays.con.rs).T false 20 (evK law23BackPlays.env (law23BackPlays.lp n) n (sub [1, 1, 1, 1, 1, 0, 1, 0, 0, 1, 1, 0, 0, 1, 1, 1] law23BackPlays.body)) law23BackPlays.nmj20 K s) = _
  cases h : law23BackPlays.shj20.dec s with
  | none => rfl
  | some v =>
    rw [Shp.dec_enc h]
    kernel_rfl
theorem law23BackPlays.atl8 (n : Nat) (s : St) (K : Ex → St → Option (Kd.struct law23BackPlays.con.rs).T) : law23BackPlays.lp n true 8 (evK law23BackPlays.env (law23BackPlays.lp n) n (sub [1, 1, 1, 1, 1, 0, 1, 0, 0] law23BackPlays.body)) law23BackPlays.nml8 K s = loops n (Kd.struct law23BackPlays.con.rs).T true 8 (evK law23BackPlays.env (law23BackPlays.lp n) n (sub [1, 1, 1, 1, 1, 0, 1, 0, 0] law23BackPlays.body)) law23BackPlays.nml8 K s := by
  show (match law23BackPlays.shl8.dec s with | some v => law23BackPlays.l8 n (fun w0 => K .ret (law23BackPlays.outl8e1.enc (w0, ()))) (fun _ => K (.exit 0) (law23BackPlays.outl8e2.enc (()))) n v.1 v.2.1 v.2.2.1 v.2.2.2.1 v.2.2.2.2.1 v.2.2.2.2.2.1 v.2.2.2.2.2.2.1 v.2.2.2.2.2.2.2.1 v.2.2.2.2.2.2.2.2.1 | none => loops n (Kd.struct law23BackPlays.con.rs).T true 8 (evK law23BackPlays.env (law23BackPlays.lp n) n (sub [1, 1, 1, 1, 1, 0, 1, 0, 0] law23BackPlays.body)) law23BackPlays.nml8 K s) = _
  cases h : law23BackPlays.shl8.dec s with
  | none => rfl
  | some v =>
    rw [Shp.dec_enc h]
    exact (evLoop_eq (sh := law23BackPlays.shl8) (body := evK law23BackPlays.env (law23BackPlays.lp n) n (sub [1, 1, 1, 1, 1, 0, 1, 0, 0] law23BackPlays.body)) (nm := law23BackPlays.nml8) (K := K) (b := fun nx v => law23BackPlays.b8 n (fun x0 x1 x2 x3 x4 x5 x6 x7 x8 => nx (x0, x1, x2, x3, x4, x5, x6, x7, x8, ())) (fun w0 => K .ret (law23BackPlays.outl8e1.enc (w0, ()))) (fun _ => K (.exit 0) (law23BackPlays.outl8e2.enc (()))) v.1 v.2.1 v.2.2.1 v.2.2.2.1 v.2.2.2.2.1 v.2.2.2.2.2.1 v.2.2.2.2.2.2.1 v.2.2.2.2.2.2.2.1 v.2.2.2.2.2.2.2.2.1) (l := fun m v => law23BackPlays.l8 n (fun w0 => K .ret (law23BackPlays.outl8e1.enc (w0, ()))) (fun _ => K (.exit 0) (law23BackPlays.outl8e2.enc (()))) m v.1 v.2.1 v.2.2.1 v.2.2.2.1 v.2.2.2.2.1 v.2.2.2.2.2.1 v.2.2.2.2.2.2.1 v.2.2.2.2.2.2.2.1 v.2.2.2.2.2.2.2.2.1) (fun _ => rfl) (fun _ _ => rfl) (fun m v => by kernel_rfl) n v).symm
theorem law23BackPlays.eq (n : Nat) (x : (Kd.struct law23BackPlays.con.ps).T) : evFunc law23BackPlays.env Try.f5 law23BackPlays.body law23BackPlays.con.ps law23BackPlays.con.rs (law23BackPlays.lp n) n x = law23BackPlays.con.f n x := by kernel_rfl
theorem law23BackPlays.sound : Sound Try.prog globs 5 law23BackPlays.con :=
  sound_by (E := law23BackPlays.env) (c := law23BackPlays.body) (envOk (G := globs) (lc := [(17, ref23May.con), (15, law23Fixed.con), (29, ref23TriesTry.con), (30, ref23TriesDue.con)]) (lo := [(22, [backTriesBegin.con]), (23, [backTriesDue.con]), (24, [backTriesTry.con]), (25, [backTriesCount.con]), (26, [backTriesNext.con]), (27, [backTriesOver.con]), (28, [backNew.con])]) (envB_spec (by kernel_rfl)) rfl rfl ⟨.inl ⟨ref23May.sound, by kernel_rfl⟩, ⟨.inl ⟨law23Fixed.sound, by kernel_rfl⟩, ⟨.inl ⟨ref23TriesTry.sound, by kernel_rfl⟩, ⟨.inl ⟨ref23TriesDue.sound, by kernel_rfl⟩, trivial⟩⟩⟩⟩ rfl ⟨⟨⟨backTriesBegin.sound, trivial⟩, by kernel_rfl⟩, ⟨⟨⟨backTriesDue.sound, trivial⟩, by kernel_rfl⟩, ⟨⟨⟨backTriesTry.sound, trivial⟩, by kernel_rfl⟩, ⟨⟨⟨backTriesCount.sound, trivial⟩, by kernel_rfl⟩, ⟨⟨⟨backTriesNext.sound, trivial⟩, by kernel_rfl⟩, ⟨⟨⟨backTriesOver.sound, trivial⟩, by kernel_rfl⟩, ⟨⟨⟨backNew.sound, trivial⟩, by kernel_rfl⟩, trivial⟩⟩⟩⟩⟩⟩⟩ (by kernel_rfl) (by kernel_rfl)) Try.func5 (by kernel_rfl) law23BackPlays.lp (l := [(false, sub [1, 1, 1, 1, 1, 0, 1, 0, 0, 1, 1, 0, 0, 1, 1, 1] law23BackPlays.body, law23BackPlays.nmj20), (true, sub [1, 1, 1, 1, 1, 0, 1, 0, 0] law23BackPlays.body, law23BackPlays.nml8)]) (by kernel_rfl) (fun n => ⟨law23BackPlays.atj20 n, ⟨law23BackPlays.atl8 n, trivial⟩⟩) law23BackPlays.eq
noncomputable def law23BackEnds.b10 (fu : Nat) (next : Int → Int → Int → Int → S0 → S0 → Bool → Int → Int → Option (Bool × Unit)) (k1 : Bool → Option (Bool × Unit)) (k2 : Int → Int → S0 → S0 → Bool → Int → Int → Option (Bool × Unit)) (begin : Int) (now : Int) (v : Int) (vx2 : Int) (b0 : S0) (b1 : S0) (c1 : Bool) (c1x2 : Int) (c1x3 : Int) : Option (Bool × Unit) :=
  cond (decide (vx2 < v)) (
    (backTriesOver fu (b1, c1, c1x2, c1x3, ())).bind fun r1 =>
    cond r1.1.1 (
      k1 false) (
      (backTriesDue fu r1.2.1 now).bind fun r2 =>
      cond (!r2.1.1) (
        k1 false) (
        cond (decide (now > begin)) (
          let t3 := IntKind.u64.wrap (now - (1 : Int))
          (backTriesDue fu r2.2.1 t3).bind fun r4 =>
          cond r4.1.1 (
            k1 false) (
            (backTriesTry fu r4.2.1 now).bind fun r5 =>
            cond (!r5.1.1) (
              k1 false) (
              (backTriesTry fu r5.2.1 now).bind fun r6 =>
              cond r6.1.1 (
                k1 false) (
                (backTriesNext fu r6.2.1).bind fun r7 =>
                let t8 := IntKind.u32.wrap (vx2 + (1 : Int))
                next begin r7.1.1 v t8 b0 r7.2.1.1 r7.2.1.2.1 r7.2.1.2.2.1 r7.2.1.2.2.2.1)))) (
          (backTriesTry fu r2.2.1 now).bind fun r9 =>
          cond (!r9.1.1) (
            k1 false) (
            (backTriesTry fu r9.2.1 now).bind fun r10 =>
            cond r10.1.1 (
              k1 false) (
              (backTriesNext fu r10.2.1).bind fun r11 =>
              let t12 := IntKind.u32.wrap (vx2 + (1 : Int))
              next begin r11.1.1 v t12 b0 r11.2.1.1 r11.2.1.2.1 r11.2.1.2.2.1 r11.2.1.2.2.2.1)))))) (
    k2 begin now b0 b1 c1 c1x2 c1x3)
noncomputable def law23BackEnds.l10 (fu : Nat) (k1 : Bool → Option (Bool × Unit)) (k2 : Int → Int → S0 → S0 → Bool → Int → Int → Option (Bool × Unit)) : Nat → Int → Int → Int → Int → S0 → S0 → Bool → Int → Int → Option (Bool × Unit)
  | 0, _, _, _, _, _, _, _, _, _ => none
  | m + 1, begin, now, v, vx2, b0, b1, c1, c1x2, c1x3 => law23BackEnds.b10 fu (law23BackEnds.l10 fu k1 k2 m) k1 k2 begin now v vx2 b0 b1 c1 c1x2 c1x3
noncomputable def law23BackEnds (fu : Nat) (b : S0) (atv : Int) : Option (Bool × Unit) :=
  (backNew fu b).bind fun r1 =>
  oc r1.1.1 (
    (law23Fixed fu).bind fun r3 =>
    cond r3.1 (
      (ref23May fu b).bind fun r4 =>
      some (!r4.1, ())) (
      some (false, ()))) fun o2 =>
  cond (r1.1.2.1 != (0 : Int)) (
    (law23Fixed fu).bind fun r5 =>
    cond r5.1 (
      (ref23May fu b).bind fun r6 =>
      some (!r6.1, ())) (
      some (false, ()))) (
    (backTriesTry fu o2 (IntKind.u64.wrap atv)).bind fun r7 =>
    cond r7.1.1 (
      some (false, ())) (
      (backTriesBegin fu r7.2.1 (IntKind.u64.wrap atv)).bind fun r8 =>
      law23BackEnds.l10 fu (fun vq7 => 
          some (vq7, ())) (fun beginq8 nowq8 b0q8 b1q8 c1q8 c1q8x2 c1q8x3 => 
          (law23Fixed fu).bind fun r9 =>
          cond r9.1 (
            (backTriesOver fu (b1q8, c1q8, c1q8x2, c1q8x3, ())).bind fun r10 =>
            cond r10.1.1 (
              (backTriesTry fu r10.2.1 nowq8).bind fun r11 =>
              cond (!r11.1.1) (
                (backAll fu b0q8).bind fun r12 =>
                let t13 := IntKind.u64.wrap (beginq8 + r12.1)
                cond (nowq8 == t13) (
                  (backTriesCount fu r11.2.1).bind fun r14 =>
                  some (r14.1.1 == b0q8.2.2.1, ())) (
                  some (false, ()))) (
                some (false, ()))) (
              some (false, ()))) (
            some (false, ()))) fu (IntKind.u64.wrap atv) (IntKind.u64.wrap atv) b.2.2.1 (0 : Int) b r8.2.1.1 r8.2.1.2.1 r8.2.1.2.2.1 r8.2.1.2.2.2.1))

noncomputable def law23BackEnds.body : Code := Try.f6.body.getD .skip
abbrev law23BackEnds.shl10 : Shp := ⟨[.u, .u, .p 0 0, .u, .u, .p 1 0, .u, .d (.int .u64), .d (.int .u64), .u, .u, .u, .u, .u, .u, .u, .u, .u, .u, .u, .u, .u, .u, .u, .u, .u, .u, .u, .u, .u, .u, .u, .u, .u, .u, .u, .d (.int .u32), .d (.int .u32), .u, .u, .u, .u, .u, .u, .u, .u, .u, .u, .u, .u, .u, .u, .u, .u, .u, .u, .u, .u, .u, .u, .u, .u, .u, .u, .u, .u, .u, .u, .u, .u, .u, .u, .u, .u, .u, .u, .u, .u, .u, .u, .u, .u, .u, .u, .u, .u, .u, .u, .u, .u, .u, .u, .u, .u, .u, .u, .u, .u], [[.g kS0], [.g kS0, .d .bool, .d (.int .u32), .d (.int .u64)]]⟩
abbrev law23BackEnds.outl10e1 : Shp := ⟨[.u, .u, .u, .u, .d .bool, .u, .u, .u, .u, .u, .u, .u, .u, .u, .u, .u, .u, .u, .u, .u, .u, .u, .u, .u, .u, .u, .u, .u, .u, .u, .u, .u, .u, .u, .u, .u, .u, .u, .u, .u, .u, .u, .u, .u, .u, .u, .u, .u, .u, .u, .u, .u, .u, .u, .u, .u, .u, .u, .u, .u, .u, .u, .u, .u, .u, .u, .u, .u, .u, .u, .u, .u, .u, .u, .u, .u, .u, .u, .u, .u, .u, .u, .u, .u, .u, .u, .u, .u, .u, .u, .u, .u, .u, .u, .u, .u, .u, .u], []⟩
abbrev law23BackEnds.outl10e2 : Shp := ⟨[.u, .u, .p 0 0, .u, .u, .p 1 0, .u, .d (.int .u64), .d (.int .u64), .u, .u, .u, .u, .u, .u, .u, .u, .u, .u, .u, .u, .u, .u, .u, .u, .u, .u, .u, .u, .u, .u, .u, .u, .u, .u, .u, .u, .u, .u, .u, .u, .u, .u, .u, .u, .u, .u, .u, .u, .u, .u, .u, .u, .u, .u, .u, .u, .u, .u, .u, .u, .u, .u, .u, .u, .u, .u, .u, .u, .u, .u, .u, .u, .u, .u, .u, .u, .u, .u, .u, .u, .u, .u, .u, .u, .u, .u, .u, .u, .u, .u, .u, .u, .u, .u, .u, .u, .u], [[.g kS0], [.g kS0, .d .bool, .d (.int .u32), .d (.int .u64)]]⟩
noncomputable def law23BackEnds.nml10 : Norm := ⟨{ keep := [2, 5, 7, 8, 36, 37], shut := [(7, (.int .u64)), (8, (.int .u64)), (36, (.int .u32)), (37, (.int .u32))], retag := [], heap := 2, dead := [], cshut := [(0, 0, (.int .u32)), (0, 1, (.int .u32)), (0, 2, (.int .u32)), (1, 0, (.int .u32)), (1, 1, (.int .u32)), (1, 2, (.int .u32)), (1, 3, .bool), (1, 4, (.int .u32)), (1, 5, (.int .u64))], cretag := [] }, [(1, { keep := [4], shut := [(4, .bool)], retag := [], heap := 0, dead := [], cshut := [], cretag := [] }), (2, { keep := [2, 5, 7, 8], shut := [(7, (.int .u64)), (8, (.int .u64))], retag := [], heap := 2, dead := [], cshut := [(0, 0, (.int .u32)), (0, 1, (.int .u32)), (0, 2, (.int .u32)), (1, 0, (.int .u32)), (1, 1, (.int .u32)), (1, 2, (.int .u32)), (1, 3, .bool), (1, 4, (.int .u32)), (1, 5, (.int .u64))], cretag := [] })]⟩
noncomputable def law23BackEnds.con : Con := { ps := [kS0, (.int .u32)], rs := [.bool], f := fun n x => law23BackEnds n x.1 x.2.1 }
noncomputable def law23BackEnds.env : Env := { tys := [(24, ⟨kS0, 12⟩), (4, ⟨.bool, 1⟩), (31, ⟨.np, 8⟩), (27, ⟨(.int .u64), 8⟩), (22, ⟨(.int .u32), 4⟩)], elems := [], ptrs := [(31, 90)], cons := [(15, law23Fixed.con), (17, ref23May.con), (20, backAll.con)], objs := [(22, [backTriesBegin.con]), (23, [backTriesDue.con]), (24, [backTriesTry.con]), (25, [backTriesCount.con]), (26, [backTriesNext.con]), (27, [backTriesOver.con]), (28, [backNew.con])], loops := [(10, law23BackEnds.nml10)], cuts := [], globs := globs, base := 0 }
noncomputable def law23BackEnds.lp (n : Nat) : LP (Kd.struct law23BackEnds.con.rs).T := fun lo κ body nm K s =>
  cond (lo && Nat.beq κ 10)
    (match law23BackEnds.shl10.dec s with
    | some v => law23BackEnds.l10 n (fun w0 => K .ret (law23BackEnds.outl10e1.enc (w0, ()))) (fun w0 w1 w2 w3 w4 w5 w6 => K (.exit 0) (law23BackEnds.outl10e2.enc (w0, w1, w2, w3, w4, w5, w6, ()))) n v.1 v.2.1 v.2.2.1 v.2.2.2.1 v.2.2.2.2.1 v.2.2.2.2.2.1 v.2.2.2.2.2.2.1 v.2.2.2.2.2.2.2.1 v.2.2.2.2.2.2.2.2.1
    | none => loops n (Kd.struct law23BackEnds.con.rs).T lo κ body nm K s)
    (loops n (Kd.struct law23BackEnds.con.rs).T lo κ body nm K s)
theorem law23BackEnds.atl10 (n : Nat) (s : St) (K : Ex → St → Option (Kd.struct law23BackEnds.con.rs).T) : law23BackEnds.lp n true 10 (evK law23BackEnds.env (law23BackEnds.lp n) n (sub [1, 1, 1, 1, 1, 1, 1, 0, 1, 0, 0] law23BackEnds.body)) law23BackEnds.nml10 K s = loops n (Kd.struct law23BackEnds.con.rs).T true 10 (evK law23BackEnds.env (law23BackEnds.lp n) n (sub [1, 1, 1, 1, 1, 1, 1, 0, 1, 0, 0] law23BackEnds.body)) law23BackEnds.nml10 K s := by
  show (match law23BackEnds.shl10.dec s with | some v => law23BackEnds.l10 n (fun w0 => K .ret (law23BackEnds.outl10e1.enc (w0, ()))) (fun w0 w1 w2 w3 w4 w5 w6 => K (.exit 0) (law23BackEnds.outl10e2.enc (w0, w1, w2, w3, w4, w5, w6, ()))) n v.1 v.2.1 v.2.2.1 v.2.2.2.1 v.2.2.2.2.1 v.2.2.2.2.2.1 v.2.2.2.2.2.2.1 v.2.2.2.2.2.2.2.1 v.2.2.2.2.2.2.2.2.1 | none => loops n (Kd.struct law23BackEnds.con.rs).T true 10 (evK law23BackEnds.env (law23BackEnds.lp n) n (sub [1, 1, 1, 1, 1, 1, 1, 0, 1, 0, 0] law23BackEnds.body)) law23BackEnds.nml10 K s) = _
  cases h : law23BackEnds.shl10.dec s with
  | none => rfl
  | some v =>
    rw [Shp.dec_enc h]
    exact (evLoop_eq (sh := law23BackEnds.shl10) (body := evK law23BackEnds.env (law23BackEnds.lp n) n (sub [1, 1, 1, 1, 1, 1, 1, 0, 1, 0, 0] law23BackEnds.body)) (nm := law23BackEnds.nml10) (K := K) (b := fun nx v => law23BackEnds.b10 n (fun x0 x1 x2 x3 x4 x5 x6 x7 x8 => nx (x0, x1, x2, x3, x4, x5, x6, x7, x8, ())) (fun w0 => K .ret (law23BackEnds.outl10e1.enc (w0, ()))) (fun w0 w1 w2 w3 w4 w5 w6 => K (.exit 0) (law23BackEnds.outl10e2.enc (w0, w1, w2, w3, w4, w5, w6, ()))) v.1 v.2.1 v.2.2.1 v.2.2.2.1 v.2.2.2.2.1 v.2.2.2.2.2.1 v.2.2.2.2.2.2.1 v.2.2.2.2.2.2.2.1 v.2.2.2.2.2.2.2.2.1) (l := fun m v => law23BackEnds.l10 n (fun w0 => K .ret (law23BackEnds.outl10e1.enc (w0, ()))) (fun w0 w1 w2 w3 w4 w5 w6 => K (.exit 0) (law23BackEnds.outl10e2.enc (w0, w1, w2, w3, w4, w5, w6, ()))) m v.1 v.2.1 v.2.2.1 v.2.2.2.1 v.2.2.2.2.1 v.2.2.2.2.2.1 v.2.2.2.2.2.2.1 v.2.2.2.2.2.2.2.1 v.2.2.2.2.2.2.2.2.1) (fun _ => rfl) (fun _ _ => rfl) (fun m v => by kernel_rfl) n v).symm
theorem law23BackEnds.eq (n : Nat) (x : (Kd.struct law23BackEnds.con.ps).T) : evFunc law23BackEnds.env Try.f6 law23BackEnds.body law23BackEnds.con.ps law23BackEnds.con.rs (law23BackEnds.lp n) n x = law23BackEnds.con.f n x := by kernel_rfl
theorem law23BackEnds.sound : Sound Try.prog globs 6 law23BackEnds.con :=
  sound_by (E := law23BackEnds.env) (c := law23BackEnds.body) (envOk (G := globs) (lc := [(15, law23Fixed.con), (17, ref23May.con), (20, backAll.con)]) (lo := [(22, [backTriesBegin.con]), (23, [backTriesDue.con]), (24, [backTriesTry.con]), (25, [backTriesCount.con]), (26, [backTriesNext.con]), (27, [backTriesOver.con]), (28, [backNew.con])]) (envB_spec (by kernel_rfl)) rfl rfl ⟨.inl ⟨law23Fixed.sound, by kernel_rfl⟩, ⟨.inl ⟨ref23May.sound, by kernel_rfl⟩, ⟨.inl ⟨backAll.sound, by kernel_rfl⟩, trivial⟩⟩⟩ rfl ⟨⟨⟨backTriesBegin.sound, trivial⟩, by kernel_rfl⟩, ⟨⟨⟨backTriesDue.sound, trivial⟩, by kernel_rfl⟩, ⟨⟨⟨backTriesTry.sound, trivial⟩, by kernel_rfl⟩, ⟨⟨⟨backTriesCount.sound, trivial⟩, by kernel_rfl⟩, ⟨⟨⟨backTriesNext.sound, trivial⟩, by kernel_rfl⟩, ⟨⟨⟨backTriesOver.sound, trivial⟩, by kernel_rfl⟩, ⟨⟨⟨backNew.sound, trivial⟩, by kernel_rfl⟩, trivial⟩⟩⟩⟩⟩⟩⟩ (by kernel_rfl) (by kernel_rfl)) Try.func6 (by kernel_rfl) law23BackEnds.lp (l := [(true, sub [1, 1, 1, 1, 1, 1, 1, 0, 1, 0, 0] law23BackEnds.body, law23BackEnds.nml10)]) (by kernel_rfl) (fun n => ⟨law23BackEnds.atl10 n, trivial⟩) law23BackEnds.eq
end
end Go.Shal.Pr
