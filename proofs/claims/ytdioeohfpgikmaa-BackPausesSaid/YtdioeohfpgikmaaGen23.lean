/- Prints of functions, and proofs that they are what the code computes. By an AI agent. -/
import Derived.Test.YtdioeohfpgikmaaShB
import Derived.Test.YtdioeohfpgikmaaProg
set_option linter.unusedVariables false
set_option maxRecDepth 100000
namespace Go.Shal.Pr
open Go Go.Shal Go.Proofs
noncomputable section
abbrev kS0 : Kd := .struct [(.int .u32), (.int .u32), (.int .u32)]
abbrev S0 : Type := Int × Int × Int × Unit
noncomputable def back_May (fu : Nat) (b : S0) : Option (Bool × Unit) :=
  cond (decide (b.1 ≥ (1 : Int))) (
    let t1 := decide (b.1 ≤ (65536 : Int))
    cond t1 (
      cond (decide (b.2.1 ≥ b.1)) (
        let t2 := decide (b.2.1 ≤ (1048576 : Int))
        cond t2 (
          let t3 := decide (b.2.2.1 ≥ (1 : Int))
          cond t3 (
            let t4 := decide (b.2.2.1 ≤ (64 : Int))
            some (t4, ())) (
            some (false, ()))) (
          some (false, ()))) (
        some (false, ()))) (
      some (false, ()))) (
    some (false, ()))

noncomputable def back_May.body : Code := Try.f16.body.getD .skip
noncomputable def back_May.con : Con := { ps := [kS0], rs := [.bool], f := fun n x => back_May n x.1 }
noncomputable def back_May.env : Env := { tys := [(24, ⟨kS0, 12⟩), (4, ⟨.bool, 1⟩), (22, ⟨(.int .u32), 4⟩)], elems := [], ptrs := [], cons := [], loops := [], cuts := [] }
noncomputable def back_May.lp (n : Nat) : LP (Kd.struct back_May.con.rs).T := fun lo κ body nm K s =>
  loops n (Kd.struct back_May.con.rs).T lo κ body nm K s
theorem back_May.eq (n : Nat) (x : (Kd.struct back_May.con.ps).T) : evFunc back_May.env Try.f16 back_May.body back_May.con.ps back_May.con.rs (back_May.lp n) n x = back_May.con.f n x := by kernel_rfl
theorem back_May.sound : Sound Try.prog 16 back_May.con :=
  sound_by (E := back_May.env) (c := back_May.body) (envOk (lc := []) (envB_spec (by kernel_rfl)) rfl trivial (by kernel_rfl)) Try.func16 (by kernel_rfl) back_May.lp (l := []) (by kernel_rfl) (fun n => trivial) back_May.eq
noncomputable def back_Pause (fu : Nat) (b : S0) (n : Int) : Option (Int × Unit) :=
  (back_May fu b).bind fun r1 =>
  cond (!r1.1) (
    some ((0 : Int), ())) (
    cond (n == (0 : Int)) (
      some ((0 : Int), ())) (
      let t2 := IntKind.u32.wrap (n - (1 : Int))
      chk (!decide (min2 t2 (20 : Int) < 0)) <|
      let t3 := sShl .u64 (IntKind.u64.wrap b.1) (min2 t2 (20 : Int))
      let t4 := min2 t3 (IntKind.u64.wrap b.2.1)
      some (t4, ())))

noncomputable def back_Pause.body : Code := Try.f18.body.getD .skip
noncomputable def back_Pause.con : Con := { ps := [kS0, (.int .u32)], rs := [(.int .u64)], f := fun n x => back_Pause n x.1 x.2.1 }
noncomputable def back_Pause.env : Env := { tys := [(24, ⟨kS0, 12⟩), (27, ⟨(.int .u64), 8⟩), (4, ⟨.bool, 1⟩), (22, ⟨(.int .u32), 4⟩)], elems := [], ptrs := [], cons := [(16, back_May.con)], loops := [], cuts := [] }
noncomputable def back_Pause.lp (n : Nat) : LP (Kd.struct back_Pause.con.rs).T := fun lo κ body nm K s =>
  loops n (Kd.struct back_Pause.con.rs).T lo κ body nm K s
theorem back_Pause.eq (n : Nat) (x : (Kd.struct back_Pause.con.ps).T) : evFunc back_Pause.env Try.f18 back_Pause.body back_Pause.con.ps back_Pause.con.rs (back_Pause.lp n) n x = back_Pause.con.f n x := by kernel_rfl
theorem back_Pause.sound : Sound Try.prog 18 back_Pause.con :=
  sound_by (E := back_Pause.env) (c := back_Pause.body) (envOk (lc := [(16, back_May.con)]) (envB_spec (by kernel_rfl)) rfl ⟨⟨back_May.sound, by kernel_rfl⟩, trivial⟩ (by kernel_rfl)) Try.func18 (by kernel_rfl) back_Pause.lp (l := []) (by kernel_rfl) (fun n => trivial) back_Pause.eq
noncomputable def back_All.b5 (fu : Nat) (next : Int → Int → Int → Int → Int → Int → Option (Int × Unit)) (k2 : Int → Option (Int × Unit)) (sum : Int) (v : Int) (v_2 : Int) (c0_ : Int) (c0__2 : Int) (c0__3 : Int) : Option (Int × Unit) :=
  cond (decide (v_2 < v)) (
    let t1 := IntKind.u32.wrap (v_2 + (1 : Int))
    (back_Pause fu (c0_, c0__2, c0__3, ()) t1).bind fun r2 =>
    let t3 := IntKind.u64.wrap (sum + r2.1)
    let t4 := IntKind.u32.wrap (v_2 + (1 : Int))
    next t3 v t4 c0_ c0__2 c0__3) (
    k2 sum)
noncomputable def back_All.l5 (fu : Nat) (k2 : Int → Option (Int × Unit)) : Nat → Int → Int → Int → Int → Int → Int → Option (Int × Unit)
  | 0, _, _, _, _, _, _ => none
  | m + 1, sum, v, v_2, c0_, c0__2, c0__3 => back_All.b5 fu (back_All.l5 fu k2 m) k2 sum v v_2 c0_ c0__2 c0__3
noncomputable def back_All (fu : Nat) (b : S0) : Option (Int × Unit) :=
  (back_May fu b).bind fun r1 =>
  cond (!r1.1) (
    some ((0 : Int), ())) (
    back_All.l5 fu (fun sum_2 => 
        some (sum_2, ())) fu (0 : Int) b.2.2.1 (0 : Int) b.1 b.2.1 b.2.2.1)

noncomputable def back_All.body : Code := Try.f20.body.getD .skip
abbrev back_All.sh_l5 : Shp := ⟨[.u, .p 0 0, .u, .d (.int .u64), .u, .u, .u, .u, .u, .d (.int .u32), .d (.int .u32), .u, .u, .u, .u, .u, .u, .u, .u, .u, .u], [[.d (.int .u32), .d (.int .u32), .d (.int .u32)]]⟩
abbrev back_All.out_l5_2 : Shp := ⟨[.u, .u, .u, .d (.int .u64), .u, .u, .u, .u, .u, .u, .u, .u, .u, .u, .u, .u, .u, .u, .u, .u, .u], []⟩
noncomputable def back_All.nm_l5 : Norm := ⟨{ keep := [1, 3, 9, 10], shut := [(3, (.int .u64)), (9, (.int .u32)), (10, (.int .u32))], retag := [], heap := 1, dead := [], cshut := [(0, 0, (.int .u32)), (0, 1, (.int .u32)), (0, 2, (.int .u32))], cretag := [] }, [(2, { keep := [3], shut := [(3, (.int .u64))], retag := [], heap := 0, dead := [], cshut := [], cretag := [] })]⟩
noncomputable def back_All.con : Con := { ps := [kS0], rs := [(.int .u64)], f := fun n x => back_All n x.1 }
noncomputable def back_All.env : Env := { tys := [(24, ⟨kS0, 12⟩), (27, ⟨(.int .u64), 8⟩), (22, ⟨(.int .u32), 4⟩)], elems := [], ptrs := [], cons := [(16, back_May.con), (18, back_Pause.con)], loops := [(5, back_All.nm_l5)], cuts := [] }
noncomputable def back_All.lp (n : Nat) : LP (Kd.struct back_All.con.rs).T := fun lo κ body nm K s =>
  cond (lo && Nat.beq κ 5)
    (match back_All.sh_l5.dec s with
    | some v => back_All.l5 n (fun w0 => K (.exit 0) (back_All.out_l5_2.enc (w0, ()))) n v.1 v.2.1 v.2.2.1 v.2.2.2.1 v.2.2.2.2.1 v.2.2.2.2.2.1
    | none => loops n (Kd.struct back_All.con.rs).T lo κ body nm K s)
    (loops n (Kd.struct back_All.con.rs).T lo κ body nm K s)
theorem back_All.at_l5 (n : Nat) (s : St) (K : Ex → St → Option (Kd.struct back_All.con.rs).T) : back_All.lp n true 5 (evK back_All.env (back_All.lp n) n (sub [1, 1, 1, 0, 1, 0, 0] back_All.body)) back_All.nm_l5 K s = loops n (Kd.struct back_All.con.rs).T true 5 (evK back_All.env (back_All.lp n) n (sub [1, 1, 1, 0, 1, 0, 0] back_All.body)) back_All.nm_l5 K s := by
  show (match back_All.sh_l5.dec s with | some v => back_All.l5 n (fun w0 => K (.exit 0) (back_All.out_l5_2.enc (w0, ()))) n v.1 v.2.1 v.2.2.1 v.2.2.2.1 v.2.2.2.2.1 v.2.2.2.2.2.1 | none => loops n (Kd.struct back_All.con.rs).T true 5 (evK back_All.env (back_All.lp n) n (sub [1, 1, 1, 0, 1, 0, 0] back_All.body)) back_All.nm_l5 K s) = _
  cases h : back_All.sh_l5.dec s with
  | none => rfl
  | some v =>
    rw [Shp.dec_enc h]
    exact (evLoop_eq (sh := back_All.sh_l5) (body := evK back_All.env (back_All.lp n) n (sub [1, 1, 1, 0, 1, 0, 0] back_All.body)) (nm := back_All.nm_l5) (K := K) (b := fun nx v => back_All.b5 n (fun x0 x1 x2 x3 x4 x5 => nx (x0, x1, x2, x3, x4, x5, ())) (fun w0 => K (.exit 0) (back_All.out_l5_2.enc (w0, ()))) v.1 v.2.1 v.2.2.1 v.2.2.2.1 v.2.2.2.2.1 v.2.2.2.2.2.1) (l := fun m v => back_All.l5 n (fun w0 => K (.exit 0) (back_All.out_l5_2.enc (w0, ()))) m v.1 v.2.1 v.2.2.1 v.2.2.2.1 v.2.2.2.2.1 v.2.2.2.2.2.1) (fun _ => rfl) (fun _ _ => rfl) (fun m v => by kernel_rfl) n v).symm
theorem back_All.eq (n : Nat) (x : (Kd.struct back_All.con.ps).T) : evFunc back_All.env Try.f20 back_All.body back_All.con.ps back_All.con.rs (back_All.lp n) n x = back_All.con.f n x := by kernel_rfl
theorem back_All.sound : Sound Try.prog 20 back_All.con :=
  sound_by (E := back_All.env) (c := back_All.body) (envOk (lc := [(16, back_May.con), (18, back_Pause.con)]) (envB_spec (by kernel_rfl)) rfl ⟨⟨back_May.sound, by kernel_rfl⟩, ⟨⟨back_Pause.sound, by kernel_rfl⟩, trivial⟩⟩ (by kernel_rfl)) Try.func20 (by kernel_rfl) back_All.lp (l := [(true, sub [1, 1, 1, 0, 1, 0, 0] back_All.body, back_All.nm_l5)]) (by kernel_rfl) (fun n => ⟨back_All.at_l5 n, trivial⟩) back_All.eq
noncomputable def law23_fixed (fu : Nat) : Option (Bool × Unit) :=
  (back_Pause fu ((2 : Int), (5 : Int), (4 : Int), ()) (1 : Int)).bind fun r1 =>
  cond (r1.1 == (2 : Int)) (
    (back_Pause fu ((2 : Int), (5 : Int), (4 : Int), ()) (2 : Int)).bind fun r2 =>
    cond (r2.1 == (4 : Int)) (
      (back_Pause fu ((2 : Int), (5 : Int), (4 : Int), ()) (3 : Int)).bind fun r3 =>
      cond (r3.1 == (5 : Int)) (
        (back_Pause fu ((2 : Int), (5 : Int), (4 : Int), ()) (4 : Int)).bind fun r4 =>
        cond (r4.1 == (5 : Int)) (
          (back_All fu ((2 : Int), (5 : Int), (4 : Int), ())).bind fun r5 =>
          some (r5.1 == (16 : Int), ())) (
          some (false, ()))) (
        some (false, ()))) (
      some (false, ()))) (
    some (false, ()))

noncomputable def law23_fixed.body : Code := Try.f15.body.getD .skip
noncomputable def law23_fixed.con : Con := { ps := [], rs := [.bool], f := fun n x => law23_fixed n }
noncomputable def law23_fixed.env : Env := { tys := [(4, ⟨.bool, 1⟩), (24, ⟨kS0, 12⟩)], elems := [], ptrs := [], cons := [(18, back_Pause.con), (20, back_All.con)], loops := [], cuts := [] }
noncomputable def law23_fixed.lp (n : Nat) : LP (Kd.struct law23_fixed.con.rs).T := fun lo κ body nm K s =>
  loops n (Kd.struct law23_fixed.con.rs).T lo κ body nm K s
theorem law23_fixed.eq (n : Nat) (x : (Kd.struct law23_fixed.con.ps).T) : evFunc law23_fixed.env Try.f15 law23_fixed.body law23_fixed.con.ps law23_fixed.con.rs (law23_fixed.lp n) n x = law23_fixed.con.f n x := by kernel_rfl
theorem law23_fixed.sound : Sound Try.prog 15 law23_fixed.con :=
  sound_by (E := law23_fixed.env) (c := law23_fixed.body) (envOk (lc := [(18, back_Pause.con), (20, back_All.con)]) (envB_spec (by kernel_rfl)) rfl ⟨⟨back_Pause.sound, by kernel_rfl⟩, ⟨⟨back_All.sound, by kernel_rfl⟩, trivial⟩⟩ (by kernel_rfl)) Try.func15 (by kernel_rfl) law23_fixed.lp (l := []) (by kernel_rfl) (fun n => trivial) law23_fixed.eq
noncomputable def ref23_May (fu : Nat) (b : S0) : Option (Bool × Unit) :=
  cond (decide (b.1 > (0 : Int))) (
    let t1 := decide (b.1 ≤ (65536 : Int))
    cond t1 (
      cond (decide (b.1 ≤ b.2.1)) (
        let t2 := decide (b.2.1 ≤ (1048576 : Int))
        cond t2 (
          let t3 := decide (b.2.2.1 > (0 : Int))
          cond t3 (
            let t4 := decide (b.2.2.1 ≤ (64 : Int))
            some (t4, ())) (
            some (false, ()))) (
          some (false, ()))) (
        some (false, ()))) (
      some (false, ()))) (
    some (false, ()))

noncomputable def ref23_May.body : Code := Try.f17.body.getD .skip
noncomputable def ref23_May.con : Con := { ps := [kS0], rs := [.bool], f := fun n x => ref23_May n x.1 }
noncomputable def ref23_May.env : Env := { tys := [(24, ⟨kS0, 12⟩), (4, ⟨.bool, 1⟩), (22, ⟨(.int .u32), 4⟩)], elems := [], ptrs := [], cons := [], loops := [], cuts := [] }
noncomputable def ref23_May.lp (n : Nat) : LP (Kd.struct ref23_May.con.rs).T := fun lo κ body nm K s =>
  loops n (Kd.struct ref23_May.con.rs).T lo κ body nm K s
theorem ref23_May.eq (n : Nat) (x : (Kd.struct ref23_May.con.ps).T) : evFunc ref23_May.env Try.f17 ref23_May.body ref23_May.con.ps ref23_May.con.rs (ref23_May.lp n) n x = ref23_May.con.f n x := by kernel_rfl
theorem ref23_May.sound : Sound Try.prog 17 ref23_May.con :=
  sound_by (E := ref23_May.env) (c := ref23_May.body) (envOk (lc := []) (envB_spec (by kernel_rfl)) rfl trivial (by kernel_rfl)) Try.func17 (by kernel_rfl) ref23_May.lp (l := []) (by kernel_rfl) (fun n => trivial) ref23_May.eq
noncomputable def ref23_Pause.b5 (fu : Nat) (next : Int → Int → Int → Int → Int → Int → Option (Int × Unit)) (k2 : Int → Int → Int → Int → Option (Int × Unit)) (n : Int) (p : Int) (i : Int) (c0_ : Int) (c0__2 : Int) (c0__3 : Int) : Option (Int × Unit) :=
  cond (decide (i < n)) (
    let t1 := decide (p < IntKind.u64.wrap c0__2)
    cond t1 (
      let t2 := IntKind.u64.wrap ((2 : Int) * p)
      let t3 := IntKind.u32.wrap (i + (1 : Int))
      next n t2 t3 c0_ c0__2 c0__3) (
      k2 p c0_ c0__2 c0__3)) (
    k2 p c0_ c0__2 c0__3)
noncomputable def ref23_Pause.l5 (fu : Nat) (k2 : Int → Int → Int → Int → Option (Int × Unit)) : Nat → Int → Int → Int → Int → Int → Int → Option (Int × Unit)
  | 0, _, _, _, _, _, _ => none
  | m + 1, n, p, i, c0_, c0__2, c0__3 => ref23_Pause.b5 fu (ref23_Pause.l5 fu k2 m) k2 n p i c0_ c0__2 c0__3
noncomputable def ref23_Pause (fu : Nat) (b : S0) (n : Int) : Option (Int × Unit) :=
  (ref23_May fu b).bind fun r1 =>
  cond (!r1.1) (
    some ((0 : Int), ())) (
    cond (n == (0 : Int)) (
      some ((0 : Int), ())) (
      ref23_Pause.l5 fu (fun p_2 c0__2 c0__2_2 c0__2_3 => 
          let t2 := min2 p_2 (IntKind.u64.wrap c0__2_2)
          some (t2, ())) fu n (IntKind.u64.wrap b.1) (1 : Int) b.1 b.2.1 b.2.2.1))

noncomputable def ref23_Pause.body : Code := Try.f19.body.getD .skip
abbrev ref23_Pause.sh_l5 : Shp := ⟨[.u, .d (.int .u32), .p 0 0, .u, .u, .d (.int .u64), .d (.int .u32), .u, .u, .u, .u, .u, .u, .u, .u, .u, .u, .u, .u, .u, .u, .u, .u, .u, .u, .u, .u, .u, .u, .u, .u, .u, .u, .u, .u, .u], [[.d (.int .u32), .d (.int .u32), .d (.int .u32)]]⟩
abbrev ref23_Pause.out_l5_2 : Shp := ⟨[.u, .u, .p 0 0, .u, .u, .d (.int .u64), .u, .u, .u, .u, .u, .u, .u, .u, .u, .u, .u, .u, .u, .u, .u, .u, .u, .u, .u, .u, .u, .u, .u, .u, .u, .u, .u, .u, .u, .u], [[.d (.int .u32), .d (.int .u32), .d (.int .u32)]]⟩
noncomputable def ref23_Pause.nm_l5 : Norm := ⟨{ keep := [1, 2, 5, 6], shut := [(1, (.int .u32)), (5, (.int .u64)), (6, (.int .u32))], retag := [], heap := 1, dead := [], cshut := [(0, 0, (.int .u32)), (0, 1, (.int .u32)), (0, 2, (.int .u32))], cretag := [] }, [(2, { keep := [2, 5], shut := [(5, (.int .u64))], retag := [], heap := 1, dead := [], cshut := [(0, 0, (.int .u32)), (0, 1, (.int .u32)), (0, 2, (.int .u32))], cretag := [] })]⟩
noncomputable def ref23_Pause.con : Con := { ps := [kS0, (.int .u32)], rs := [(.int .u64)], f := fun n x => ref23_Pause n x.1 x.2.1 }
noncomputable def ref23_Pause.env : Env := { tys := [(24, ⟨kS0, 12⟩), (27, ⟨(.int .u64), 8⟩), (4, ⟨.bool, 1⟩), (22, ⟨(.int .u32), 4⟩)], elems := [], ptrs := [], cons := [(17, ref23_May.con)], loops := [(5, ref23_Pause.nm_l5)], cuts := [] }
noncomputable def ref23_Pause.lp (n : Nat) : LP (Kd.struct ref23_Pause.con.rs).T := fun lo κ body nm K s =>
  cond (lo && Nat.beq κ 5)
    (match ref23_Pause.sh_l5.dec s with
    | some v => ref23_Pause.l5 n (fun w0 w1 w2 w3 => K (.exit 0) (ref23_Pause.out_l5_2.enc (w0, w1, w2, w3, ()))) n v.1 v.2.1 v.2.2.1 v.2.2.2.1 v.2.2.2.2.1 v.2.2.2.2.2.1
    | none => loops n (Kd.struct ref23_Pause.con.rs).T lo κ body nm K s)
    (loops n (Kd.struct ref23_Pause.con.rs).T lo κ body nm K s)
theorem ref23_Pause.at_l5 (n : Nat) (s : St) (K : Ex → St → Option (Kd.struct ref23_Pause.con.rs).T) : ref23_Pause.lp n true 5 (evK ref23_Pause.env (ref23_Pause.lp n) n (sub [1, 1, 1, 0, 1, 0, 0] ref23_Pause.body)) ref23_Pause.nm_l5 K s = loops n (Kd.struct ref23_Pause.con.rs).T true 5 (evK ref23_Pause.env (ref23_Pause.lp n) n (sub [1, 1, 1, 0, 1, 0, 0] ref23_Pause.body)) ref23_Pause.nm_l5 K s := by
  show (match ref23_Pause.sh_l5.dec s with | some v => ref23_Pause.l5 n (fun w0 w1 w2 w3 => K (.exit 0) (ref23_Pause.out_l5_2.enc (w0, w1, w2, w3, ()))) n v.1 v.2.1 v.2.2.1 v.2.2.2.1 v.2.2.2.2.1 v.2.2.2.2.2.1 | none => loops n (Kd.struct ref23_Pause.con.rs).T true 5 (evK ref23_Pause.env (ref23_Pause.lp n) n (sub [1, 1, 1, 0, 1, 0, 0] ref23_Pause.body)) ref23_Pause.nm_l5 K s) = _
  cases h : ref23_Pause.sh_l5.dec s with
  | none => rfl
  | some v =>
    rw [Shp.dec_enc h]
    exact (evLoop_eq (sh := ref23_Pause.sh_l5) (body := evK ref23_Pause.env (ref23_Pause.lp n) n (sub [1, 1, 1, 0, 1, 0, 0] ref23_Pause.body)) (nm := ref23_Pause.nm_l5) (K := K) (b := fun nx v => ref23_Pause.b5 n (fun x0 x1 x2 x3 x4 x5 => nx (x0, x1, x2, x3, x4, x5, ())) (fun w0 w1 w2 w3 => K (.exit 0) (ref23_Pause.out_l5_2.enc (w0, w1, w2, w3, ()))) v.1 v.2.1 v.2.2.1 v.2.2.2.1 v.2.2.2.2.1 v.2.2.2.2.2.1) (l := fun m v => ref23_Pause.l5 n (fun w0 w1 w2 w3 => K (.exit 0) (ref23_Pause.out_l5_2.enc (w0, w1, w2, w3, ()))) m v.1 v.2.1 v.2.2.1 v.2.2.2.1 v.2.2.2.2.1 v.2.2.2.2.2.1) (fun _ => rfl) (fun _ _ => rfl) (fun m v => by kernel_rfl) n v).symm
theorem ref23_Pause.eq (n : Nat) (x : (Kd.struct ref23_Pause.con.ps).T) : evFunc ref23_Pause.env Try.f19 ref23_Pause.body ref23_Pause.con.ps ref23_Pause.con.rs (ref23_Pause.lp n) n x = ref23_Pause.con.f n x := by kernel_rfl
theorem ref23_Pause.sound : Sound Try.prog 19 ref23_Pause.con :=
  sound_by (E := ref23_Pause.env) (c := ref23_Pause.body) (envOk (lc := [(17, ref23_May.con)]) (envB_spec (by kernel_rfl)) rfl ⟨⟨ref23_May.sound, by kernel_rfl⟩, trivial⟩ (by kernel_rfl)) Try.func19 (by kernel_rfl) ref23_Pause.lp (l := [(true, sub [1, 1, 1, 0, 1, 0, 0] ref23_Pause.body, ref23_Pause.nm_l5)]) (by kernel_rfl) (fun n => ⟨ref23_Pause.at_l5 n, trivial⟩) ref23_Pause.eq
noncomputable def ref23_All.b3 (fu : Nat) (next : Int → Int → Int → Int → Int → Option (Int × Unit)) (k2 : Int → Option (Int × Unit)) (n : Int) (i : Int) (c0_ : Int) (c0__2 : Int) (c0__3 : Int) : Option (Int × Unit) :=
  (ref23_May fu (c0_, c0__2, c0__3, ())).bind fun r1 =>
  cond r1.1 (
    cond (decide (i ≤ c0__3)) (
      (ref23_Pause fu (c0_, c0__2, c0__3, ()) i).bind fun r2 =>
      let t3 := IntKind.u64.wrap (n + r2.1)
      let t4 := IntKind.u32.wrap (i + (1 : Int))
      next t3 t4 c0_ c0__2 c0__3) (
      k2 n)) (
    k2 n)
noncomputable def ref23_All.l3 (fu : Nat) (k2 : Int → Option (Int × Unit)) : Nat → Int → Int → Int → Int → Int → Option (Int × Unit)
  | 0, _, _, _, _, _ => none
  | m + 1, n, i, c0_, c0__2, c0__3 => ref23_All.b3 fu (ref23_All.l3 fu k2 m) k2 n i c0_ c0__2 c0__3
noncomputable def ref23_All (fu : Nat) (b : S0) : Option (Int × Unit) :=
  ref23_All.l3 fu (fun n_2 => 
      some (n_2, ())) fu (0 : Int) (1 : Int) b.1 b.2.1 b.2.2.1

noncomputable def ref23_All.body : Code := Try.f21.body.getD .skip
abbrev ref23_All.sh_l3 : Shp := ⟨[.u, .p 0 0, .u, .d (.int .u64), .d (.int .u32), .u, .u, .u, .u, .u, .u, .u, .u, .u, .u, .u, .u, .u, .u, .u, .u], [[.d (.int .u32), .d (.int .u32), .d (.int .u32)]]⟩
abbrev ref23_All.out_l3_2 : Shp := ⟨[.u, .u, .u, .d (.int .u64), .u, .u, .u, .u, .u, .u, .u, .u, .u, .u, .u, .u, .u, .u, .u, .u, .u], []⟩
noncomputable def ref23_All.nm_l3 : Norm := ⟨{ keep := [1, 3, 4], shut := [(3, (.int .u64)), (4, (.int .u32))], retag := [], heap := 1, dead := [], cshut := [(0, 0, (.int .u32)), (0, 1, (.int .u32)), (0, 2, (.int .u32))], cretag := [] }, [(2, { keep := [3], shut := [(3, (.int .u64))], retag := [], heap := 0, dead := [], cshut := [], cretag := [] })]⟩
noncomputable def ref23_All.con : Con := { ps := [kS0], rs := [(.int .u64)], f := fun n x => ref23_All n x.1 }
noncomputable def ref23_All.env : Env := { tys := [(24, ⟨kS0, 12⟩), (27, ⟨(.int .u64), 8⟩), (22, ⟨(.int .u32), 4⟩), (4, ⟨.bool, 1⟩)], elems := [], ptrs := [], cons := [(17, ref23_May.con), (19, ref23_Pause.con)], loops := [(3, ref23_All.nm_l3)], cuts := [] }
noncomputable def ref23_All.lp (n : Nat) : LP (Kd.struct ref23_All.con.rs).T := fun lo κ body nm K s =>
  cond (lo && Nat.beq κ 3)
    (match ref23_All.sh_l3.dec s with
    | some v => ref23_All.l3 n (fun w0 => K (.exit 0) (ref23_All.out_l3_2.enc (w0, ()))) n v.1 v.2.1 v.2.2.1 v.2.2.2.1 v.2.2.2.2.1
    | none => loops n (Kd.struct ref23_All.con.rs).T lo κ body nm K s)
    (loops n (Kd.struct ref23_All.con.rs).T lo κ body nm K s)
theorem ref23_All.at_l3 (n : Nat) (s : St) (K : Ex → St → Option (Kd.struct ref23_All.con.rs).T) : ref23_All.lp n true 3 (evK ref23_All.env (ref23_All.lp n) n (sub [1, 1, 0, 1, 0, 0] ref23_All.body)) ref23_All.nm_l3 K s = loops n (Kd.struct ref23_All.con.rs).T true 3 (evK ref23_All.env (ref23_All.lp n) n (sub [1, 1, 0, 1, 0, 0] ref23_All.body)) ref23_All.nm_l3 K s := by
  show (match ref23_All.sh_l3.dec s with | some v => ref23_All.l3 n (fun w0 => K (.exit 0) (ref23_All.out_l3_2.enc (w0, ()))) n v.1 v.2.1 v.2.2.1 v.2.2.2.1 v.2.2.2.2.1 | none => loops n (Kd.struct ref23_All.con.rs).T true 3 (evK ref23_All.env (ref23_All.lp n) n (sub [1, 1, 0, 1, 0, 0] ref23_All.body)) ref23_All.nm_l3 K s) = _
  cases h : ref23_All.sh_l3.dec s with
  | none => rfl
  | some v =>
    rw [Shp.dec_enc h]
    exact (evLoop_eq (sh := ref23_All.sh_l3) (body := evK ref23_All.env (ref23_All.lp n) n (sub [1, 1, 0, 1, 0, 0] ref23_All.body)) (nm := ref23_All.nm_l3) (K := K) (b := fun nx v => ref23_All.b3 n (fun x0 x1 x2 x3 x4 => nx (x0, x1, x2, x3, x4, ())) (fun w0 => K (.exit 0) (ref23_All.out_l3_2.enc (w0, ()))) v.1 v.2.1 v.2.2.1 v.2.2.2.1 v.2.2.2.2.1) (l := fun m v => ref23_All.l3 n (fun w0 => K (.exit 0) (ref23_All.out_l3_2.enc (w0, ()))) m v.1 v.2.1 v.2.2.1 v.2.2.2.1 v.2.2.2.2.1) (fun _ => rfl) (fun _ _ => rfl) (fun m v => by kernel_rfl) n v).symm
theorem ref23_All.eq (n : Nat) (x : (Kd.struct ref23_All.con.ps).T) : evFunc ref23_All.env Try.f21 ref23_All.body ref23_All.con.ps ref23_All.con.rs (ref23_All.lp n) n x = ref23_All.con.f n x := by kernel_rfl
theorem ref23_All.sound : Sound Try.prog 21 ref23_All.con :=
  sound_by (E := ref23_All.env) (c := ref23_All.body) (envOk (lc := [(17, ref23_May.con), (19, ref23_Pause.con)]) (envB_spec (by kernel_rfl)) rfl ⟨⟨ref23_May.sound, by kernel_rfl⟩, ⟨⟨ref23_Pause.sound, by kernel_rfl⟩, trivial⟩⟩ (by kernel_rfl)) Try.func21 (by kernel_rfl) ref23_All.lp (l := [(true, sub [1, 1, 0, 1, 0, 0] ref23_All.body, ref23_All.nm_l3)]) (by kernel_rfl) (fun n => ⟨ref23_All.at_l3 n, trivial⟩) ref23_All.eq
noncomputable def law23_BackPauses (fu : Nat) (b : S0) (n : Int) : Option (Bool × Unit) :=
  (law23_fixed fu).bind fun r1 =>
  cond r1.1 (
    (back_May fu b).bind fun r2 =>
    (ref23_May fu b).bind fun r3 =>
    cond (r2.1 == r3.1) (
      (back_Pause fu b n).bind fun r4 =>
      (ref23_Pause fu b n).bind fun r5 =>
      cond (r4.1 == r5.1) (
        (back_All fu b).bind fun r6 =>
        (ref23_All fu b).bind fun r7 =>
        cond (r6.1 == r7.1) (
          cond (n == (4294967295 : Int)) (
            some (true, ())) (
            let t8 := IntKind.u32.wrap (n + (1 : Int))
            (back_Pause fu b t8).bind fun r9 =>
            (back_Pause fu b n).bind fun r10 =>
            some (decide (r9.1 ≥ r10.1), ()))) (
          some (false, ()))) (
        some (false, ()))) (
      some (false, ()))) (
    some (false, ()))

noncomputable def law23_BackPauses.body : Code := Try.f3.body.getD .skip
noncomputable def law23_BackPauses.con : Con := { ps := [kS0, (.int .u32)], rs := [.bool], f := fun n x => law23_BackPauses n x.1 x.2.1 }
noncomputable def law23_BackPauses.env : Env := { tys := [(24, ⟨kS0, 12⟩), (4, ⟨.bool, 1⟩)], elems := [], ptrs := [], cons := [(15, law23_fixed.con), (16, back_May.con), (17, ref23_May.con), (18, back_Pause.con), (19, ref23_Pause.con), (20, back_All.con), (21, ref23_All.con)], loops := [], cuts := [] }
noncomputable def law23_BackPauses.lp (n : Nat) : LP (Kd.struct law23_BackPauses.con.rs).T := fun lo κ body nm K s =>
  loops n (Kd.struct law23_BackPauses.con.rs).T lo κ body nm K s
theorem law23_BackPauses.eq (n : Nat) (x : (Kd.struct law23_BackPauses.con.ps).T) : evFunc law23_BackPauses.env Try.f3 law23_BackPauses.body law23_BackPauses.con.ps law23_BackPauses.con.rs (law23_BackPauses.lp n) n x = law23_BackPauses.con.f n x := by kernel_rfl
theorem law23_BackPauses.sound : Sound Try.prog 3 law23_BackPauses.con :=
  sound_by (E := law23_BackPauses.env) (c := law23_BackPauses.body) (envOk (lc := [(15, law23_fixed.con), (16, back_May.con), (17, ref23_May.con), (18, back_Pause.con), (19, ref23_Pause.con), (20, back_All.con), (21, ref23_All.con)]) (envB_spec (by kernel_rfl)) rfl ⟨⟨law23_fixed.sound, by kernel_rfl⟩, ⟨⟨back_May.sound, by kernel_rfl⟩, ⟨⟨ref23_May.sound, by kernel_rfl⟩, ⟨⟨back_Pause.sound, by kernel_rfl⟩, ⟨⟨ref23_Pause.sound, by kernel_rfl⟩, ⟨⟨back_All.sound, by kernel_rfl⟩, ⟨⟨ref23_All.sound, by kernel_rfl⟩, trivial⟩⟩⟩⟩⟩⟩⟩ (by kernel_rfl)) Try.func3 (by kernel_rfl) law23_BackPauses.lp (l := []) (by kernel_rfl) (fun n => trivial) law23_BackPauses.eq
end
end Go.Shal.Pr
