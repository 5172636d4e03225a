/- Prints of functions, and proofs that they are what the code computes. By an AI agent. -/
import Derived.Test.YtdioeohfpgikmaaShB
import Derived.Test.YtdioeohfpgikmaaProg
set_option linter.unusedVariables false
set_option maxRecDepth 100000
namespace Go.Shal.Pr
open Go Go.Shal Go.Proofs
noncomputable section
abbrev kS0 : Kd := .struct [(.int .u32), (.int .u32), (.int .u32)]
abbrev S0 : Type := Int × Int × Int × Unit
noncomputable def backMay (fu : Nat) (b : S0) : Option (Bool × Unit) :=
  cond (decide (b.1 ≥ (1 : Int))) (
    let t1 := decide (b.1 ≤ (65536 : Int))
    cond t1 (
      cond (decide (b.2.1 ≥ b.1)) (
        let t2 := decide (b.2.1 ≤ (1048576 : Int))
        cond t2 (
          let t3 := decide (b.2.2.1 ≥ (1 : Int))
          cond t3 (
            let t4 := decide (b.2.2.1 ≤ (64 : Int))
            some (t4, ())) (
            some (false, ()))) (
          some (false, ()))) (
        some (false, ()))) (
      some (false, ()))) (
    some (false, ()))

noncomputable def backMay.body : Code := Try.f16.body.getD .skip
noncomputable def backMay.con : Con := { ps := [kS0], rs := [.bool], f := fun n x => backMay n x.1 }
noncomputable def backMay.env : Env := { tys := [(24, ⟨kS0, 12⟩), (4, ⟨.bool, 1⟩), (22, ⟨(.int .u32), 4⟩)], elems := [], ptrs := [], cons := [], loops := [], cuts := [] }
noncomputable def backMay.lp (n : Nat) : LP (Kd.struct backMay.con.rs).T := fun lo κ body nm K s =>
  loops n (Kd.struct backMay.con.rs).T lo κ body nm K s
theorem backMay.eq (n : Nat) (x : (Kd.struct backMay.con.ps).T) : evFunc backMay.env Try.f16 backMay.body backMay.con.ps backMay.con.rs (backMay.lp n) n x = backMay.con.f n x := by kernel_rfl
theorem backMay.sound : Sound Try.prog 16 backMay.con :=
  sound_by (E := backMay.env) (c := backMay.body) (envOk (lc := []) (envB_spec (by kernel_rfl)) rfl trivial (by kernel_rfl)) Try.func16 (by kernel_rfl) backMay.lp (l := []) (by kernel_rfl) (fun n => trivial) backMay.eq
noncomputable def backPause (fu : Nat) (b : S0) (n : Int) : Option (Int × Unit) :=
  (backMay fu b).bind fun r1 =>
  cond (!r1.1) (
    some ((0 : Int), ())) (
    cond (n == (0 : Int)) (
      some ((0 : Int), ())) (
      let t2 := IntKind.u32.wrap (n - (1 : Int))
      chk (!decide (min2 t2 (20 : Int) < 0)) <|
      let t3 := sShl .u64 (IntKind.u64.wrap b.1) (min2 t2 (20 : Int))
      let t4 := min2 t3 (IntKind.u64.wrap b.2.1)
      some (t4, ())))

noncomputable def backPause.body : Code := Try.f18.body.getD .skip
noncomputable def backPause.con : Con := { ps := [kS0, (.int .u32)], rs := [(.int .u64)], f := fun n x => backPause n x.1 x.2.1 }
noncomputable def backPause.env : Env := { tys := [(24, ⟨kS0, 12⟩), (27, ⟨(.int .u64), 8⟩), (4, ⟨.bool, 1⟩), (22, ⟨(.int .u32), 4⟩)], elems := [], ptrs := [], cons := [(16, backMay.con)], loops := [], cuts := [] }
noncomputable def backPause.lp (n : Nat) : LP (Kd.struct backPause.con.rs).T := fun lo κ body nm K s =>
  loops n (Kd.struct backPause.con.rs).T lo κ body nm K s
theorem backPause.eq (n : Nat) (x : (Kd.struct backPause.con.ps).T) : evFunc backPause.env Try.f18 backPause.body backPause.con.ps backPause.con.rs (backPause.lp n) n x = backPause.con.f n x := by kernel_rfl
theorem backPause.sound : Sound Try.prog 18 backPause.con :=
  sound_by (E := backPause.env) (c := backPause.body) (envOk (lc := [(16, backMay.con)]) (envB_spec (by kernel_rfl)) rfl ⟨⟨backMay.sound, by kernel_rfl⟩, trivial⟩ (by kernel_rfl)) Try.func18 (by kernel_rfl) backPause.lp (l := []) (by kernel_rfl) (fun n => trivial) backPause.eq
noncomputable def backAll.b5 (fu : Nat) (next : Int → Int → Int → Int → Int → Int → Option (Int × Unit)) (k2 : Int → Option (Int × Unit)) (sum : Int) (v : Int) (vx2 : Int) (c0 : Int) (c0x2 : Int) (c0x3 : Int) : Option (Int × Unit) :=
  cond (decide (vx2 < v)) (
    let t1 := IntKind.u32.wrap (vx2 + (1 : Int))
    (backPause fu (c0, c0x2, c0x3, ()) t1).bind fun r2 =>
    let t3 := IntKind.u64.wrap (sum + r2.1)
    let t4 := IntKind.u32.wrap (vx2 + (1 : Int))
    next t3 v t4 c0 c0x2 c0x3) (
    k2 sum)
noncomputable def backAll.l5 (fu : Nat) (k2 : Int → Option (Int × Unit)) : Nat → Int → Int → Int → Int → Int → Int → Option (Int × Unit)
  | 0, _, _, _, _, _, _ => none
  | m + 1, sum, v, vx2, c0, c0x2, c0x3 => backAll.b5 fu (backAll.l5 fu k2 m) k2 sum v vx2 c0 c0x2 c0x3
noncomputable def backAll (fu : Nat) (b : S0) : Option (Int × Unit) :=
  (backMay fu b).bind fun r1 =>
  cond (!r1.1) (
    some ((0 : Int), ())) (
    backAll.l5 fu (fun sumq2 => 
        some (sumq2, ())) fu (0 : Int) b.2.2.1 (0 : Int) b.1 b.2.1 b.2.2.1)

noncomputable def backAll.body : Code := Try.f20.body.getD .skip
abbrev backAll.shl5 : Shp := ⟨[.u, .p 0 0, .u, .d (.int .u64), .u, .u, .u, .u, .u, .d (.int .u32), .d (.int .u32), .u, .u, .u, .u, .u, .u, .u, .u, .u, .u], [[.d (.int .u32), .d (.int .u32), .d (.int .u32)]]⟩
abbrev backAll.outl5e2 : Shp := ⟨[.u, .u, .u, .d (.int .u64), .u, .u, .u, .u, .u, .u, .u, .u, .u, .u, .u, .u, .u, .u, .u, .u, .u], []⟩
noncomputable def backAll.nml5 : Norm := ⟨{ keep := [1, 3, 9, 10], shut := [(3, (.int .u64)), (9, (.int .u32)), (10, (.int .u32))], retag := [], heap := 1, dead := [], cshut := [(0, 0, (.int .u32)), (0, 1, (.int .u32)), (0, 2, (.int .u32))], cretag := [] }, [(2, { keep := [3], shut := [(3, (.int .u64))], retag := [], heap := 0, dead := [], cshut := [], cretag := [] })]⟩
noncomputable def backAll.con : Con := { ps := [kS0], rs := [(.int .u64)], f := fun n x => backAll n x.1 }
noncomputable def backAll.env : Env := { tys := [(24, ⟨kS0, 12⟩), (27, ⟨(.int .u64), 8⟩), (22, ⟨(.int .u32), 4⟩)], elems := [], ptrs := [], cons := [(16, backMay.con), (18, backPause.con)], loops := [(5, backAll.nml5)], cuts := [] }
noncomputable def backAll.lp (n : Nat) : LP (Kd.struct backAll.con.rs).T := fun lo κ body nm K s =>
  cond (lo && Nat.beq κ 5)
    (match backAll.shl5.dec s with
    | some v => backAll.l5 n (fun w0 => K (.exit 0) (backAll.outl5e2.enc (w0, ()))) n v.1 v.2.1 v.2.2.1 v.2.2.2.1 v.2.2.2.2.1 v.2.2.2.2.2.1
    | none => loops n (Kd.struct backAll.con.rs).T lo κ body nm K s)
    (loops n (Kd.struct backAll.con.rs).T lo κ body nm K s)
theorem backAll.atl5 (n : Nat) (s : St) (K : Ex → St → Option (Kd.struct backAll.con.rs).T) : backAll.lp n true 5 (evK backAll.env (backAll.lp n) n (sub [1, 1, 1, 0, 1, 0, 0] backAll.body)) backAll.nml5 K s = loops n (Kd.struct backAll.con.rs).T true 5 (evK backAll.env (backAll.lp n) n (sub [1, 1, 1, 0, 1, 0, 0] backAll.body)) backAll.nml5 K s := by
  show (match backAll.shl5.dec s with | some v => backAll.l5 n (fun w0 => K (.exit 0) (backAll.outl5e2.enc (w0, ()))) n v.1 v.2.1 v.2.2.1 v.2.2.2.1 v.2.2.2.2.1 v.2.2.2.2.2.1 | none => loops n (Kd.struct backAll.con.rs).T true 5 (evK backAll.env (backAll.lp n) n (sub [1, 1, 1, 0, 1, 0, 0] backAll.body)) backAll.nml5 K s) = _
  cases h : backAll.shl5.dec s with
  | none => rfl
  | some v =>
    rw [Shp.dec_enc h]
    exact (evLoop_eq (sh := backAll.shl5) (body := evK backAll.env (backAll.lp n) n (sub [1, 1, 1, 0, 1, 0, 0] backAll.body)) (nm := backAll.nml5) (K := K) (b := fun nx v => backAll.b5 n (fun x0 x1 x2 x3 x4 x5 => nx (x0, x1, x2, x3, x4, x5, ())) (fun w0 => K (.exit 0) (backAll.outl5e2.enc (w0, ()))) v.1 v.2.1 v.2.2.1 v.2.2.2.1 v.2.2.2.2.1 v.2.2.2.2.2.1) (l := fun m v => backAll.l5 n (fun w0 => K (.exit 0) (backAll.outl5e2.enc (w0, ()))) m v.1 v.2.1 v.2.2.1 v.2.2.2.1 v.2.2.2.2.1 v.2.2.2.2.2.1) (fun _ => rfl) (fun _ _ => rfl) (fun m v => by kernel_rfl) n v).symm
theorem backAll.eq (n : Nat) (x : (Kd.struct backAll.con.ps).T) : evFunc backAll.env Try.f20 backAll.body backAll.con.ps backAll.con.rs (backAll.lp n) n x = backAll.con.f n x := by kernel_rfl
theorem backAll.sound : Sound Try.prog 20 backAll.con :=
  sound_by (E := backAll.env) (c := backAll.body) (envOk (lc := [(16, backMay.con), (18, backPause.con)]) (envB_spec (by kernel_rfl)) rfl ⟨⟨backMay.sound, by kernel_rfl⟩, ⟨⟨backPause.sound, by kernel_rfl⟩, trivial⟩⟩ (by kernel_rfl)) Try.func20 (by kernel_rfl) backAll.lp (l := [(true, sub [1, 1, 1, 0, 1, 0, 0] backAll.body, backAll.nml5)]) (by kernel_rfl) (fun n => ⟨backAll.atl5 n, trivial⟩) backAll.eq
noncomputable def law23Fixed (fu : Nat) : Option (Bool × Unit) :=
  (backPause fu ((2 : Int), (5 : Int), (4 : Int), ()) (1 : Int)).bind fun r1 =>
  cond (r1.1 == (2 : Int)) (
    (backPause fu ((2 : Int), (5 : Int), (4 : Int), ()) (2 : Int)).bind fun r2 =>
    cond (r2.1 == (4 : Int)) (
      (backPause fu ((2 : Int), (5 : Int), (4 : Int), ()) (3 : Int)).bind fun r3 =>
      cond (r3.1 == (5 : Int)) (
        (backPause fu ((2 : Int), (5 : Int), (4 : Int), ()) (4 : Int)).bind fun r4 =>
        cond (r4.1 == (5 : Int)) (
          (backAll fu ((2 : Int), (5 : Int), (4 : Int), ())).bind fun r5 =>
          some (r5.1 == (16 : Int), ())) (
          some (false, ()))) (
        some (false, ()))) (
      some (false, ()))) (
    some (false, ()))

noncomputable def law23Fixed.body : Code := Try.f15.body.getD .skip
noncomputable def law23Fixed.con : Con := { ps := [], rs := [.bool], f := fun n x => law23Fixed n }
noncomputable def law23Fixed.env : Env := { tys := [(4, ⟨.bool, 1⟩), (24, ⟨kS0, 12⟩)], elems := [], ptrs := [], cons := [(18, backPause.con), (20, backAll.con)], loops := [], cuts := [] }
noncomputable def law23Fixed.lp (n : Nat) : LP (Kd.struct law23Fixed.con.rs).T := fun lo κ body nm K s =>
  loops n (Kd.struct law23Fixed.con.rs).T lo κ body nm K s
theorem law23Fixed.eq (n : Nat) (x : (Kd.struct law23Fixed.con.ps).T) : evFunc law23Fixed.env Try.f15 law23Fixed.body law23Fixed.con.ps law23Fixed.con.rs (law23Fixed.lp n) n x = law23Fixed.con.f n x := by kernel_rfl
theorem law23Fixed.sound : Sound Try.prog 15 law23Fixed.con :=
  sound_by (E := law23Fixed.env) (c := law23Fixed.body) (envOk (lc := [(18, backPause.con), (20, backAll.con)]) (envB_spec (by kernel_rfl)) rfl ⟨⟨backPause.sound, by kernel_rfl⟩, ⟨⟨backAll.sound, by kernel_rfl⟩, trivial⟩⟩ (by kernel_rfl)) Try.func15 (by kernel_rfl) law23Fixed.lp (l := []) (by kernel_rfl) (fun n => trivial) law23Fixed.eq
noncomputable def ref23May (fu : Nat) (b : S0) : Option (Bool × Unit) :=
  cond (decide (b.1 > (0 : Int))) (
    let t1 := decide (b.1 ≤ (65536 : Int))
    cond t1 (
      cond (decide (b.1 ≤ b.2.1)) (
        let t2 := decide (b.2.1 ≤ (1048576 : Int))
        cond t2 (
          let t3 := decide (b.2.2.1 > (0 : Int))
          cond t3 (
            let t4 := decide (b.2.2.1 ≤ (64 : Int))
            some (t4, ())) (
            some (false, ()))) (
          some (false, ()))) (
        some (false, ()))) (
      some (false, ()))) (
    some (false, ()))

noncomputable def ref23May.body : Code := Try.f17.body.getD .skip
noncomputable def ref23May.con : Con := { ps := [kS0], rs := [.bool], f := fun n x => ref23May n x.1 }
noncomputable def ref23May.env : Env := { tys := [(24, ⟨kS0, 12⟩), (4, ⟨.bool, 1⟩), (22, ⟨(.int .u32), 4⟩)], elems := [], ptrs := [], cons := [], loops := [], cuts := [] }
noncomputable def ref23May.lp (n : Nat) : LP (Kd.struct ref23May.con.rs).T := fun lo κ body nm K s =>
  loops n (Kd.struct ref23May.con.rs).T lo κ body nm K s
theorem ref23May.eq (n : Nat) (x : (Kd.struct ref23May.con.ps).T) : evFunc ref23May.env Try.f17 ref23May.body ref23May.con.ps ref23May.con.rs (ref23May.lp n) n x = ref23May.con.f n x := by kernel_rfl
theorem ref23May.sound : Sound Try.prog 17 ref23May.con :=
  sound_by (E := ref23May.env) (c := ref23May.body) (envOk (lc := []) (envB_spec (by kernel_rfl)) rfl trivial (by kernel_rfl)) Try.func17 (by kernel_rfl) ref23May.lp (l := []) (by kernel_rfl) (fun n => trivial) ref23May.eq
noncomputable def ref23Pause.b5 (fu : Nat) (next : Int → Int → Int → Int → Int → Int → Option (Int × Unit)) (k2 : Int → Int → Int → Int → Option (Int × Unit)) (n : Int) (p : Int) (i : Int) (c0 : Int) (c0x2 : Int) (c0x3 : Int) : Option (Int × Unit) :=
  cond (decide (i < n)) (
    let t1 := decide (p < IntKind.u64.wrap c0x2)
    cond t1 (
      let t2 := IntKind.u64.wrap ((2 : Int) * p)
      let t3 := IntKind.u32.wrap (i + (1 : Int))
      next n t2 t3 c0 c0x2 c0x3) (
      k2 p c0 c0x2 c0x3)) (
    k2 p c0 c0x2 c0x3)
noncomputable def ref23Pause.l5 (fu : Nat) (k2 : Int → Int → Int → Int → Option (Int × Unit)) : Nat → Int → Int → Int → Int → Int → Int → Option (Int × Unit)
  | 0, _, _, _, _, _, _ => none
  | m + 1, n, p, i, c0, c0x2, c0x3 => ref23Pause.b5 fu (ref23Pause.l5 fu k2 m) k2 n p i c0 c0x2 c0x3
noncomputable def ref23Pause (fu : Nat) (b : S0) (n : Int) : Option (Int × Unit) :=
  (ref23May fu b).bind fun r1 =>
  cond (!r1.1) (
    some ((0 : Int), ())) (
    cond (n == (0 : Int)) (
      some ((0 : Int), ())) (
      ref23Pause.l5 fu (fun pq2 c0q2 c0q2x2 c0q2x3 => 
          let t2 := min2 pq2 (IntKind.u64.wrap c0q2x2)
          some (t2, ())) fu n (IntKind.u64.wrap b.1) (1 : Int) b.1 b.2.1 b.2.2.1))

noncomputable def ref23Pause.body : Code := Try.f19.body.getD .skip
abbrev ref23Pause.shl5 : Shp := ⟨[.u, .d (.int .u32), .p 0 0, .u, .u, .d (.int .u64), .d (.int .u32), .u, .u, .u, .u, .u, .u, .u, .u, .u, .u, .u, .u, .u, .u, .u, .u, .u, .u, .u, .u, .u, .u, .u, .u, .u, .u, .u, .u, .u], [[.d (.int .u32), .d (.int .u32), .d (.int .u32)]]⟩
abbrev ref23Pause.outl5e2 : Shp := ⟨[.u, .u, .p 0 0, .u, .u, .d (.int .u64), .u, .u, .u, .u, .u, .u, .u, .u, .u, .u, .u, .u, .u, .u, .u, .u, .u, .u, .u, .u, .u, .u, .u, .u, .u, .u, .u, .u, .u, .u], [[.d (.int .u32), .d (.int .u32), .d (.int .u32)]]⟩
noncomputable def ref23Pause.nml5 : Norm := ⟨{ keep := [1, 2, 5, 6], shut := [(1, (.int .u32)), (5, (.int .u64)), (6, (.int .u32))], retag := [], heap := 1, dead := [], cshut := [(0, 0, (.int .u32)), (0, 1, (.int .u32)), (0, 2, (.int .u32))], cretag := [] }, [(2, { keep := [2, 5], shut := [(5, (.int .u64))], retag := [], heap := 1, dead := [], cshut := [(0, 0, (.int .u32)), (0, 1, (.int .u32)), (0, 2, (.int .u32))], cretag := [] })]⟩
noncomputable def ref23Pause.con : Con := { ps := [kS0, (.int .u32)], rs := [(.int .u64)], f := fun n x => ref23Pause n x.1 x.2.1 }
noncomputable def ref23Pause.env : Env := { tys := [(24, ⟨kS0, 12⟩), (27, ⟨(.int .u64), 8⟩), (4, ⟨.bool, 1⟩), (22, ⟨(.int .u32), 4⟩)], elems := [], ptrs := [], cons := [(17, ref23May.con)], loops := [(5, ref23Pause.nml5)], cuts := [] }
noncomputable def ref23Pause.lp (n : Nat) : LP (Kd.struct ref23Pause.con.rs).T := fun lo κ body nm K s =>
  cond (lo && Nat.beq κ 5)
    (match ref23Pause.shl5.dec s with
    | some v => ref23Pause.l5 n (fun w0 w1 w2 w3 => K (.exit 0) (ref23Pause.outl5e2.enc (w0, w1, w2, w3, ()))) n v.1 v.2.1 v.2.2.1 v.2.2.2.1 v.2.2.2.2.1 v.2.2.2.2.2.1
    | none => loops n (Kd.struct ref23Pause.con.rs).T lo κ body nm K s)
    (loops n (Kd.struct ref23Pause.con.rs).T lo κ body nm K s)
theorem ref23Pause.atl5 (n : Nat) (s : St) (K : Ex → St → Option (Kd.struct ref23Pause.con.rs).T) : ref23Pause.lp n true 5 (evK ref23Pause.env (ref23Pause.lp n) n (sub [1, 1, 1, 0, 1, 0, 0] ref23Pause.body)) ref23Pause.nml5 K s = loops n (Kd.struct ref23Pause.con.rs).T true 5 (evK ref23Pause.env (ref23Pause.lp n) n (sub [1, 1, 1, 0, 1, 0, 0] ref23Pause.body)) ref23Pause.nml5 K s := by
  show (match ref23Pause.shl5.dec s with | some v => ref23Pause.l5 n (fun w0 w1 w2 w3 => K (.exit 0) (ref23Pause.outl5e2.enc (w0, w1, w2, w3, ()))) n v.1 v.2.1 v.2.2.1 v.2.2.2.1 v.2.2.2.2.1 v.2.2.2.2.2.1 | none => loops n (Kd.struct ref23Pause.con.rs).T true 5 (evK ref23Pause.env (ref23Pause.lp n) n (sub [1, 1, 1, 0, 1, 0, 0] ref23Pause.body)) ref23Pause.nml5 K s) = _
  cases h : ref23Pause.shl5.dec s with
  | none => rfl
  | some v =>
    rw [Shp.dec_enc h]
    exact (evLoop_eq (sh := ref23Pause.shl5) (body := evK ref23Pause.env (ref23Pause.lp n) n (sub [1, 1, 1, 0, 1, 0, 0] ref23Pause.body)) (nm := ref23Pause.nml5) (K := K) (b := fun nx v => ref23Pause.b5 n (fun x0 x1 x2 x3 x4 x5 => nx (x0, x1, x2, x3, x4, x5, ())) (fun w0 w1 w2 w3 => K (.exit 0) (ref23Pause.outl5e2.enc (w0, w1, w2, w3, ()))) v.1 v.2.1 v.2.2.1 v.2.2.2.1 v.2.2.2.2.1 v.2.2.2.2.2.1) (l := fun m v => ref23Pause.l5 n (fun w0 w1 w2 w3 => K (.exit 0) (ref23Pause.outl5e2.enc (w0, w1, w2, w3, ()))) m v.1 v.2.1 v.2.2.1 v.2.2.2.1 v.2.2.2.2.1 v.2.2.2.2.2.1) (fun _ => rfl) (fun _ _ => rfl) (fun m v => by kernel_rfl) n v).symm
theorem ref23Pause.eq (n : Nat) (x : (Kd.struct ref23Pause.con.ps).T) : evFunc ref23Pause.env Try.f19 ref23Pause.body ref23Pause.con.ps ref23Pause.con.rs (ref23Pause.lp n) n x = ref23Pause.con.f n x := by kernel_rfl
theorem ref23Pause.sound : Sound Try.prog 19 ref23Pause.con :=
  sound_by (E := ref23Pause.env) (c := ref23Pause.body) (envOk (lc := [(17, ref23May.con)]) (envB_spec (by kernel_rfl)) rfl ⟨⟨ref23May.sound, by kernel_rfl⟩, trivial⟩ (by kernel_rfl)) Try.func19 (by kernel_rfl) ref23Pause.lp (l := [(true, sub [1, 1, 1, 0, 1, 0, 0] ref23Pause.body, ref23Pause.nml5)]) (by kernel_rfl) (fun n => ⟨ref23Pause.atl5 n, trivial⟩) ref23Pause.eq
noncomputable def ref23All.b3 (fu : Nat) (next : Int → Int → Int → Int → Int → Option (Int × Unit)) (k2 : Int → Option (Int × Unit)) (n : Int) (i : Int) (c0 : Int) (c0x2 : Int) (c0x3 : Int) : Option (Int × Unit) :=
  (ref23May fu (c0, c0x2, c0x3, ())).bind fun r1 =>
  cond r1.1 (
    cond (decide (i ≤ c0x3)) (
      (ref23Pause fu (c0, c0x2, c0x3, ()) i).bind fun r2 =>
      let t3 := IntKind.u64.wrap (n + r2.1)
      let t4 := IntKind.u32.wrap (i + (1 : Int))
      next t3 t4 c0 c0x2 c0x3) (
      k2 n)) (
    k2 n)
noncomputable def ref23All.l3 (fu : Nat) (k2 : Int → Option (Int × Unit)) : Nat → Int → Int → Int → Int → Int → Option (Int × Unit)
  | 0, _, _, _, _, _ => none
  | m + 1, n, i, c0, c0x2, c0x3 => ref23All.b3 fu (ref23All.l3 fu k2 m) k2 n i c0 c0x2 c0x3
noncomputable def ref23All (fu : Nat) (b : S0) : Option (Int × Unit) :=
  ref23All.l3 fu (fun nq2 => 
      some (nq2, ())) fu (0 : Int) (1 : Int) b.1 b.2.1 b.2.2.1

noncomputable def ref23All.body : Code := Try.f21.body.getD .skip
abbrev ref23All.shl3 : Shp := ⟨[.u, .p 0 0, .u, .d (.int .u64), .d (.int .u32), .u, .u, .u, .u, .u, .u, .u, .u, .u, .u, .u, .u, .u, .u, .u, .u], [[.d (.int .u32), .d (.int .u32), .d (.int .u32)]]⟩
abbrev ref23All.outl3e2 : Shp := ⟨[.u, .u, .u, .d (.int .u64), .u, .u, .u, .u, .u, .u, .u, .u, .u, .u, .u, .u, .u, .u, .u, .u, .u], []⟩
noncomputable def ref23All.nml3 : Norm := ⟨{ keep := [1, 3, 4], shut := [(3, (.int .u64)), (4, (.int .u32))], retag := [], heap := 1, dead := [], cshut := [(0, 0, (.int .u32)), (0, 1, (.int .u32)), (0, 2, (.int .u32))], cretag := [] }, [(2, { keep := [3], shut := [(3, (.int .u64))], retag := [], heap := 0, dead := [], cshut := [], cretag := [] })]⟩
noncomputable def ref23All.con : Con := { ps := [kS0], rs := [(.int .u64)], f := fun n x => ref23All n x.1 }
noncomputable def ref23All.env : Env := { tys := [(24, ⟨kS0, 12⟩), (27, ⟨(.int .u64), 8⟩), (22, ⟨(.int .u32), 4⟩), (4, ⟨.bool, 1⟩)], elems := [], ptrs := [], cons := [(17, ref23May.con), (19, ref23Pause.con)], loops := [(3, ref23All.nml3)], cuts := [] }
noncomputable def ref23All.lp (n : Nat) : LP (Kd.struct ref23All.con.rs).T := fun lo κ body nm K s =>
  cond (lo && Nat.beq κ 3)
    (match ref23All.shl3.dec s with
    | some v => ref23All.l3 n (fun w0 => K (.exit 0) (ref23All.outl3e2.enc (w0, ()))) n v.1 v.2.1 v.2.2.1 v.2.2.2.1 v.2.2.2.2.1
    | none => loops n (Kd.struct ref23All.con.rs).T lo κ body nm K s)
    (loops n (Kd.struct ref23All.con.rs).T lo κ body nm K s)
theorem ref23All.atl3 (n : Nat) (s : St) (K : Ex → St → Option (Kd.struct ref23All.con.rs).T) : ref23All.lp n true 3 (evK ref23All.env (ref23All.lp n) n (sub [1, 1, 0, 1, 0, 0] ref23All.body)) ref23All.nml3 K s = loops n (Kd.struct ref23All.con.rs).T true 3 (evK ref23All.env (ref23All.lp n) n (sub [1, 1, 0, 1, 0, 0] ref23All.body)) ref23All.nml3 K s := by
  show (match ref23All.shl3.dec s with | some v => ref23All.l3 n (fun w0 => K (.exit 0) (ref23All.outl3e2.enc (w0, ()))) n v.1 v.2.1 v.2.2.1 v.2.2.2.1 v.2.2.2.2.1 | none => loops n (Kd.struct ref23All.con.rs).T true 3 (evK ref23All.env (ref23All.lp n) n (sub [1, 1, 0, 1, 0, 0] ref23All.body)) ref23All.nml3 K s) = _
  cases h : ref23All.shl3.dec s with
  | none => rfl
  | some v =>
    rw [Shp.dec_enc h]
    exact (evLoop_eq (sh := ref23All.shl3) (body := evK ref23All.env (ref23All.lp n) n (sub [1, 1, 0, 1, 0, 0] ref23All.body)) (nm := ref23All.nml3) (K := K) (b := fun nx v => ref23All.b3 n (fun x0 x1 x2 x3 x4 => nx (x0, x1, x2, x3, x4, ())) (fun w0 => K (.exit 0) (ref23All.outl3e2.enc (w0, ()))) v.1 v.2.1 v.2.2.1 v.2.2.2.1 v.2.2.2.2.1) (l := fun m v => ref23All.l3 n (fun w0 => K (.exit 0) (ref23All.outl3e2.enc (w0, ()))) m v.1 v.2.1 v.2.2.1 v.2.2.2.1 v.2.2.2.2.1) (fun _ => rfl) (fun _ _ => rfl) (fun m v => by kernel_rfl) n v).symm
theorem ref23All.eq (n : Nat) (x : (Kd.struct ref23All.con.ps).T) : evFunc ref23All.env Try.f21 ref23All.body ref23All.con.ps ref23All.con.rs (ref23All.lp n) n x = ref23All.con.f n x := by kernel_rfl
theorem ref23All.sound : Sound Try.prog 21 ref23All.con :=
  sound_by (E := ref23All.env) (c := ref23All.body) (envOk (lc := [(17, ref23May.con), (19, ref23Pause.con)]) (envB_spec (by kernel_rfl)) rfl ⟨⟨ref23May.sound, by kernel_rfl⟩, ⟨⟨ref23Pause.sound, by kernel_rfl⟩, trivial⟩⟩ (by kernel_rfl)) Try.func21 (by kernel_rfl) ref23All.lp (l := [(true, sub [1, 1, 0, 1, 0, 0] ref23All.body, ref23All.nml3)]) (by kernel_rfl) (fun n => ⟨ref23All.atl3 n, trivial⟩) ref23All.eq
noncomputable def law23BackPauses (fu : Nat) (b : S0) (n : Int) : Option (Bool × Unit) :=
  (law23Fixed fu).bind fun r1 =>
  cond r1.1 (
    (backMay fu b).bind fun r2 =>
    (ref23May fu b).bind fun r3 =>
    cond (r2.1 == r3.1) (
      (backPause fu b n).bind fun r4 =>
      (ref23Pause fu b n).bind fun r5 =>
      cond (r4.1 == r5.1) (
        (backAll fu b).bind fun r6 =>
        (ref23All fu b).bind fun r7 =>
        cond (r6.1 == r7.1) (
          cond (n == (4294967295 : Int)) (
            some (true, ())) (
            let t8 := IntKind.u32.wrap (n + (1 : Int))
            (backPause fu b t8).bind fun r9 =>
            (backPause fu b n).bind fun r10 =>
            some (decide (r9.1 ≥ r10.1), ()))) (
          some (false, ()))) (
        some (false, ()))) (
      some (false, ()))) (
    some (false, ()))

noncomputable def law23BackPauses.body : Code := Try.f3.body.getD .skip
noncomputable def law23BackPauses.con : Con := { ps := [kS0, (.int .u32)], rs := [.bool], f := fun n x => law23BackPauses n x.1 x.2.1 }
noncomputable def law23BackPauses.env : Env := { tys := [(24, ⟨kS0, 12⟩), (4, ⟨.bool, 1⟩)], elems := [], ptrs := [], cons := [(15, law23Fixed.con), (16, backMay.con), (17, ref23May.con), (18, backPause.con), (19, ref23Pause.con), (20, backAll.con), (21, ref23All.con)], loops := [], cuts := [] }
noncomputable def law23BackPauses.lp (n : Nat) : LP (Kd.struct law23BackPauses.con.rs).T := fun lo κ body nm K s =>
  loops n (Kd.struct law23BackPauses.con.rs).T lo κ body nm K s
theorem law23BackPauses.eq (n : Nat) (x : (Kd.struct law23BackPauses.con.ps).T) : evFunc law23BackPauses.env Try.f3 law23BackPauses.body law23BackPauses.con.ps law23BackPauses.con.rs (law23BackPauses.lp n) n x = law23BackPauses.con.f n x := by kernel_rfl
theorem law23BackPauses.sound : Sound Try.prog 3 law23BackPauses.con :=
  sound_by (E := law23BackPauses.env) (c := law23BackPauses.body) (envOk (lc := [(15, law23Fixed.con), (16, backMay.con), (17, ref23May.con), (18, backPause.con), (19, ref23Pause.con), (20, backAll.con), (21, ref23All.con)]) (envB_spec (by kernel_rfl)) rfl ⟨⟨law23Fixed.sound, by kernel_rfl⟩, ⟨⟨backMay.sound, by kernel_rfl⟩, ⟨⟨ref23May.sound, by kernel_rfl⟩, ⟨⟨backPause.sound, by kernel_rfl⟩, ⟨⟨ref23Pause.sound, by kernel_rfl⟩, ⟨⟨backAll.sound, by kernel_rfl⟩, ⟨⟨ref23All.sound, by kernel_rfl⟩, trivial⟩⟩⟩⟩⟩⟩⟩ (by kernel_rfl)) Try.func3 (by kernel_rfl) law23BackPauses.lp (l := []) (by kernel_rfl) (fun n => trivial) law23BackPauses.eq
end
end Go.Shal.Pr
