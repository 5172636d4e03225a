/- Prints of functions, and proofs that they are what the code computes. By an AI agent. -/
import Derived.Test.YtocfcfaeboemcaaShC
import Derived.Test.YtocfcfaeboemcaaProg
set_option linter.unusedVariables false
set_option maxRecDepth 100000
namespace Go.Shal.Pr
open Go Go.Shal Go.Proofs
noncomputable section
def globs : Globs := []
abbrev kS0 : Kd := .struct [(.int .u8), (.int .u32), (.int .u32), (.int .u64), (.int .u64), (.slice (.int .u8))]
abbrev S0 : Type := Int × Int × Int × Int × Int × (List Int) × Unit
abbrev kS1 : Kd := .struct [(.int .i64), (.int .u64), kS0, .bool]
abbrev S1 : Type := Int × Int × S0 × Bool × Unit
abbrev kS2 : Kd := .struct [(.int .u32), (.int .u32), (.int .u32)]
abbrev S2 : Type := Int × Int × Int × Unit
abbrev kO3 : Ob := (.dat kS2 (.dat .bool (.dat (.int .u32) (.dat (.int .u64) .nil))))
abbrev O3 : Type := S2 × Bool × Int × Int × Unit
abbrev kS4 : Kd := .struct [(.int .u64), (.int .u64)]
abbrev S4 : Type := Int × Int × Unit
abbrev kS5 : Kd := .struct [(.int .u64), kS4]
abbrev S5 : Type := Int × S4 × Unit
abbrev kO6 : Ob := (.dat (.int .u32) (.dat (.slice (.int .u8)) (.dat (.int .u64) (.ref kO3 (.dat .bool (.dat .bool (.dat (.int .u32) (.dat (.int .u64) (.dat .bool (.dat .bool (.dat .bool (.dat (.int .u64) (.own kS5 .nil)))))))))))))
abbrev O6 : Type := Int × (List Int) × Int × O3 × Bool × Bool × Int × Int × Bool × Bool × Bool × Int × (List S5) × Unit
abbrev kS7 : Kd := .struct [kS2, .bool, (.int .u32), (.int .u64)]
abbrev S7 : Type := S2 × Bool × Int × Int × Unit
abbrev kS8 : Kd := .struct [(.int .u32), (.slice (.int .u8)), (.int .u64), .np, .bool, .bool, (.int .u32), (.int .u64), .bool, .bool, .bool, (.int .u64), (.slice kS5)]
abbrev S8 : Type := Int × (List Int) × Int × Unit × Bool × Bool × Int × Int × Bool × Bool × Bool × Int × (List S5) × Unit
noncomputable def law25Cut.b2 (fu : Nat) (next : (List S1) → (List S1) → Int → Int → Option ((List S1) × Unit)) (k1 : (List S1) → Option ((List S1) × Unit)) (k2 : (List S1) → Option ((List S1) × Unit)) (l : List S1) (v : List S1) (vx2 : Int) (vx3 : Int) : Option ((List S1) × Unit) :=
  cond (decide (vx3 < vx2)) (
    chk (ixOk v vx3) <|
    let e1 := ixL ((0 : Int), (0 : Int), ((0 : Int), (0 : Int), (0 : Int), (0 : Int), (0 : Int), [], ()), false, ()) v vx3
    let t2 := decide (vx3 > (200 : Int))
    cond t2 (
      chk (cutOk l (0 : Int) vx3) <|
      k1 (cutL l (0 : Int) vx3)) (
      let t3 := (e1.2.2.1.2.2.2.2.2.1.length : Int)
      let t4 := decide (t3 > (2000 : Int))
      cond t4 (
        chk (cutOk l (0 : Int) vx3) <|
        k1 (cutL l (0 : Int) vx3)) (
        let t5 := IntKind.i64.wrap (vx3 + (1 : Int))
        next l v vx2 t5))) (
    k2 l)
noncomputable def law25Cut.l2 (fu : Nat) (k1 : (List S1) → Option ((List S1) × Unit)) (k2 : (List S1) → Option ((List S1) × Unit)) : Nat → (List S1) → (List S1) → Int → Int → Option ((List S1) × Unit)
  | 0, _, _, _, _ => none
  | m + 1, l, v, vx2, vx3 => law25Cut.b2 fu (law25Cut.l2 fu k1 k2 m) k1 k2 l v vx2 vx3
noncomputable def law25Cut (fu : Nat) (l : List S1) : Option ((List S1) × Unit) :=
  law25Cut.l2 fu (fun vq3 => 
      some (vq3, ())) (fun lq4 => 
      some (lq4, ())) fu l l (l.length : Int) (0 : Int)

noncomputable def law25Cut.body : Code := Try.f12.body.getD .skip
abbrev law25Cut.shl2 : Shp := ⟨[.d (.slice kS1), .u, .u, .u, .u, .d (.slice kS1), .d (.int .i64), .d (.int .i64), .u, .u, .u, .u, .u, .u, .u, .u, .u, .u, .u, .u, .u, .u, .u, .u, .u, .u], []⟩
abbrev law25Cut.outl2e1 : Shp := ⟨[.u, .u, .d (.slice kS1), .u, .u, .u, .u, .u, .u, .u, .u, .u, .u, .u, .u, .u, .u, .u, .u, .u, .u, .u, .u, .u, .u, .u], []⟩
abbrev law25Cut.outl2e2 : Shp := ⟨[.d (.slice kS1), .u, .u, .u, .u, .u, .u, .u, .u, .u, .u, .u, .u, .u, .u, .u, .u, .u, .u, .u, .u, .u, .u, .u, .u, .u], []⟩
noncomputable def law25Cut.nml2 : Norm := ⟨{ keep := [0, 5, 6, 7], shut := [(0, (.slice kS1)), (5, (.slice kS1)), (6, (.int .i64)), (7, (.int .i64))], retag := [], heap := 0, dead := [], cshut := [], cretag := [] }, [(1, { keep := [2], shut := [(2, (.slice kS1))], retag := [], heap := 0, dead := [], cshut := [], cretag := [] }), (2, { keep := [0], shut := [(0, (.slice kS1))], retag := [], heap := 0, dead := [], cshut := [], cretag := [] })]⟩
noncomputable def law25Cut.con : Con := { ps := [(.slice kS1)], rs := [(.slice kS1)], f := fun n x => law25Cut n x.1 }
noncomputable def law25Cut.env : Env := { tys := [(25, ⟨(.slice kS1), 24⟩), (39, ⟨kS1, 80⟩), (3, ⟨(.int .i64), 8⟩), (4, ⟨.bool, 1⟩), (37, ⟨kS0, 56⟩), (35, ⟨(.slice (.int .u8)), 24⟩), (5, ⟨(.int .u8), 1⟩)], elems := [(25, 39), (35, 5)], ptrs := [], cons := [], objs := [], loops := [(2, law25Cut.nml2)], cuts := [], globs := globs, base := 0 }
noncomputable def law25Cut.lp (n : Nat) : LP (Kd.struct law25Cut.con.rs).T := fun lo κ body nm K s =>
  cond (lo && Nat.beq κ 2)
    (match law25Cut.shl2.dec s with
    | some v => law25Cut.l2 n (fun w0 => K .ret (law25Cut.outl2e1.enc (w0, ()))) (fun w0 => K (.exit 0) (law25Cut.outl2e2.enc (w0, ()))) n v.1 v.2.1 v.2.2.1 v.2.2.2.1
    | none => loops n (Kd.struct law25Cut.con.rs).T lo κ body nm K s)
    (loops n (Kd.struct law25Cut.con.rs).T lo κ body nm K s)
theorem law25Cut.atl2 (n : Nat) (s : St) (K : Ex → St → Option (Kd.struct law25Cut.con.rs).T) : law25Cut.lp n true 2 (evK law25Cut.env (law25Cut.lp n) n (sub [1, 0, 1, 0, 0] law25Cut.body)) law25Cut.nml2 K s = loops n (Kd.struct law25Cut.con.rs).T true 2 (evK law25Cut.env (law25Cut.lp n) n (sub [1, 0, 1, 0, 0] law25Cut.body)) law25Cut.nml2 K s := by
  show (match law25Cut.shl2.dec s with | some v => law25Cut.l2 n (fun w0 => K .ret (law25Cut.outl2e1.enc (w0, ()))) (fun w0 => K (.exit 0) (law25Cut.outl2e2.enc (w0, ()))) n v.1 v.2.1 v.2.2.1 v.2.2.2.1 | none => loops n (Kd.struct law25Cut.con.rs).T true 2 (evK law25Cut.env (law25Cut.lp n) n (sub [1, 0, 1, 0, 0] law25Cut.body)) law25Cut.nml2 K s) = _
  cases h : law25Cut.shl2.dec s with
  | none => rfl
  | some v =>
    rw [Shp.dec_enc h]
    exact (evLoop_eq (sh := law25Cut.shl2) (body := evK law25Cut.env (law25Cut.lp n) n (sub [1, 0, 1, 0, 0] law25Cut.body)) (nm := law25Cut.nml2) (K := K) (b := fun nx v => law25Cut.b2 n (fun x0 x1 x2 x3 => nx (x0, x1, x2, x3, ())) (fun w0 => K .ret (law25Cut.outl2e1.enc (w0, ()))) (fun w0 => K (.exit 0) (law25Cut.outl2e2.enc (w0, ()))) v.1 v.2.1 v.2.2.1 v.2.2.2.1) (l := fun m v => law25Cut.l2 n (fun w0 => K .ret (law25Cut.outl2e1.enc (w0, ()))) (fun w0 => K (.exit 0) (law25Cut.outl2e2.enc (w0, ()))) m v.1 v.2.1 v.2.2.1 v.2.2.2.1) (fun _ => rfl) (fun _ _ => rfl) (fun m v => by kernel_rfl) n v).symm
theorem law25Cut.eq (n : Nat) (x : (Kd.struct law25Cut.con.ps).T) : evFunc law25Cut.env Try.f12 law25Cut.body law25Cut.con.ps law25Cut.con.rs (law25Cut.lp n) n x = law25Cut.con.f n x := by kernel_rfl
theorem law25Cut.sound : Sound Try.prog globs 12 law25Cut.con :=
  sound_by (E := law25Cut.env) (c := law25Cut.body) (envOk (G := globs) (lc := []) (lo := []) (envB_spec (by kernel_rfl)) rfl rfl trivial rfl trivial (by kernel_rfl) (by kernel_rfl)) Try.func12 (by kernel_rfl) law25Cut.lp (l := [(true, sub [1, 0, 1, 0, 0] law25Cut.body, law25Cut.nml2)]) (by kernel_rfl) (fun n => ⟨law25Cut.atl2 n, trivial⟩) law25Cut.eq
noncomputable def backMay (fu : Nat) (b : S2) : Option (Bool × Unit) :=
  cond (decide (b.1 ≥ (1 : Int))) (
    let t1 := decide (b.1 ≤ (65536 : Int))
    cond t1 (
      cond (decide (b.2.1 ≥ b.1)) (
        let t2 := decide (b.2.1 ≤ (1048576 : Int))
        cond t2 (
          let t3 := decide (b.2.2.1 ≥ (1 : Int))
          cond t3 (
            let t4 := decide (b.2.2.1 ≤ (64 : Int))
            some (t4, ())) (
            some (false, ()))) (
          some (false, ()))) (
        some (false, ()))) (
      some (false, ()))) (
    some (false, ()))

noncomputable def backMay.body : Code := Try.f56.body.getD .skip
noncomputable def backMay.con : Con := { ps := [kS2], rs := [.bool], f := fun n x => backMay n x.1 }
noncomputable def backMay.env : Env := { tys := [(24, ⟨kS2, 12⟩), (4, ⟨.bool, 1⟩), (22, ⟨(.int .u32), 4⟩)], elems := [], ptrs := [], cons := [], objs := [], loops := [], cuts := [], globs := globs, base := 0 }
noncomputable def backMay.lp (n : Nat) : LP (Kd.struct backMay.con.rs).T := fun lo κ body nm K s =>
  loops n (Kd.struct backMay.con.rs).T lo κ body nm K s
theorem backMay.eq (n : Nat) (x : (Kd.struct backMay.con.ps).T) : evFunc backMay.env Try.f56 backMay.body backMay.con.ps backMay.con.rs (backMay.lp n) n x = backMay.con.f n x := by kernel_rfl
theorem backMay.sound : Sound Try.prog globs 56 backMay.con :=
  sound_by (E := backMay.env) (c := backMay.body) (envOk (G := globs) (lc := []) (lo := []) (envB_spec (by kernel_rfl)) rfl rfl trivial rfl trivial (by kernel_rfl) (by kernel_rfl)) Try.func56 (by kernel_rfl) backMay.lp (l := []) (by kernel_rfl) (fun n => trivial) backMay.eq
noncomputable def backNew (fu : Nat) (b : S2) : Option (((Option O3) × Int × Unit) × (Unit)) :=
  (backMay fu b).bind fun r1 =>
  cond (!r1.1) (
    some ((none, (1 : Int), ()), (()))) (
    some ((some (b, false, (0 : Int), (0 : Int), ()), (0 : Int), ()), (())))

noncomputable def backNew.body : Code := Try.f38.body.getD .skip
noncomputable def backNew.con : OCon := { ps := [.dat kS2], rs := [.ref kO3, .dat (.int .i64)], f := fun n x => backNew n x.1 }
noncomputable def backNew.env : Env := { tys := [(24, ⟨kS2, 12⟩), (93, ⟨.np, 8⟩), (27, ⟨(.int .i64), 8⟩), (121, ⟨kS7, 32⟩)], elems := [], ptrs := [], cons := [(56, backMay.con)], objs := [], loops := [], cuts := [], globs := globs, base := 0 }
noncomputable def backNew.lp (n : Nat) : LP (RT backNew.con.rs × BT backNew.con.ps) := fun lo κ body nm K s =>
  loops n (RT backNew.con.rs × BT backNew.con.ps) lo κ body nm K s
theorem backNew.eq (n : Nat) (x : PT backNew.con.ps) : evFuncO backNew.env Try.f38 backNew.body backNew.con.ps backNew.con.rs (backNew.lp n) n x = backNew.con.f n x := by kernel_rfl
theorem backNew.sound : SoundO Try.prog globs 38 backNew.con :=
  sound_byO (E := backNew.env) (c := backNew.body) (envOk (G := globs) (lc := [(56, backMay.con)]) (lo := []) (envB_spec (by kernel_rfl)) rfl rfl ⟨.inl ⟨backMay.sound, by kernel_rfl⟩, trivial⟩ rfl trivial (by kernel_rfl) (by kernel_rfl)) Try.func38 (by kernel_rfl) (by kernel_rfl) (by kernel_rfl) backNew.lp (l := []) (by kernel_rfl) (fun n => trivial) backNew.eq
noncomputable def slicesClone (fu : Nat) (sv : List Int) : Option (((List Int) × Unit) × (Unit)) :=
  nilQ sv (
    some (([], ()), (()))) (
    chk (apOk [] sv 1) <|
    some (([] ++ sv, ()), (())))

noncomputable def slicesClone.body : Code := Try.f39.body.getD .skip
noncomputable def slicesClone.con : OCon := { ps := [.dat (.slice (.int .u8))], rs := [.own (.int .u8)], f := fun n x => slicesClone n x.1 }
noncomputable def slicesClone.env : Env := { tys := [(35, ⟨(.slice (.int .u8)), 24⟩), (5, ⟨(.int .u8), 1⟩)], elems := [(35, 5)], ptrs := [], cons := [], objs := [], loops := [], cuts := [], globs := globs, base := 0 }
noncomputable def slicesClone.lp (n : Nat) : LP (RT slicesClone.con.rs × BT slicesClone.con.ps) := fun lo κ body nm K s =>
  loops n (RT slicesClone.con.rs × BT slicesClone.con.ps) lo κ body nm K s
theorem slicesClone.eq (n : Nat) (x : PT slicesClone.con.ps) : evFuncO slicesClone.env Try.f39 slicesClone.body slicesClone.con.ps slicesClone.con.rs (slicesClone.lp n) n x = slicesClone.con.f n x := by kernel_rfl
theorem slicesClone.sound : SoundO Try.prog globs 39 slicesClone.con :=
  sound_byO (E := slicesClone.env) (c := slicesClone.body) (envOk (G := globs) (lc := []) (lo := []) (envB_spec (by kernel_rfl)) rfl rfl trivial rfl trivial (by kernel_rfl) (by kernel_rfl)) Try.func39 (by kernel_rfl) (by kernel_rfl) (by kernel_rfl) slicesClone.lp (l := []) (by kernel_rfl) (fun n => trivial) slicesClone.eq
noncomputable def clientNew (fu : Nat) (sub : Int) (pattern : List Int) (b : S2) : Option (((Option O6) × Int × Unit) × (Unit)) :=
  (backNew fu b).bind fun r1 =>
  oc r1.1.1 (
    cond (r1.1.2.1 != (0 : Int)) (
      some ((none, (1 : Int), ()), (()))) (
      let t3 := decide ((pattern.length : Int) > (4096 : Int))
      cond t3 (
        some ((none, (1 : Int), ()), (()))) (
        (slicesClone fu pattern).bind fun r4 =>
        let t5 := IntKind.u64.wrap ((8 : Int) * IntKind.u64.wrap b.2.1)
        none))) fun o2 =>
  cond (r1.1.2.1 != (0 : Int)) (
    some ((none, (1 : Int), ()), (()))) (
    let t6 := decide ((pattern.length : Int) > (4096 : Int))
    cond t6 (
      some ((none, (1 : Int), ()), (()))) (
      (slicesClone fu pattern).bind fun r7 =>
      let t8 := IntKind.u64.wrap ((8 : Int) * IntKind.u64.wrap b.2.1)
      some ((some (sub, r7.1.1, t8, o2, false, false, (0 : Int), (0 : Int), false, false, false, (0 : Int), [], ()), (0 : Int), ()), (()))))

noncomputable def clientNew.body : Code := Try.f9.body.getD .skip
noncomputable def clientNew.con : OCon := { ps := [.dat (.int .u32), .dat (.slice (.int .u8)), .dat kS2], rs := [.ref kO6, .dat (.int .i64)], f := fun n x => clientNew n x.1 x.2.1 x.2.2.1 }
noncomputable def clientNew.env : Env := { tys := [(24, ⟨kS2, 12⟩), (26, ⟨.np, 8⟩), (27, ⟨(.int .i64), 8⟩), (93, ⟨.np, 8⟩), (4, ⟨.bool, 1⟩), (5, ⟨(.int .u8), 1⟩), (22, ⟨(.int .u32), 4⟩), (34, ⟨(.int .u64), 8⟩), (98, ⟨kS8, 104⟩)], elems := [(35, 5)], ptrs := [], cons := [], objs := [(38, [backNew.con]), (39, [slicesClone.con])], loops := [], cuts := [], globs := globs, base := 0 }
noncomputable def clientNew.lp (n : Nat) : LP (RT clientNew.con.rs × BT clientNew.con.ps) := fun lo κ body nm K s =>
  loops n (RT clientNew.con.rs × BT clientNew.con.ps) lo κ body nm K s
theorem clientNew.eq (n : Nat) (x : PT clientNew.con.ps) : evFuncO clientNew.env Try.f9 clientNew.body clientNew.con.ps clientNew.con.rs (clientNew.lp n) n x = clientNew.con.f n x := by kernel_rfl
theorem clientNew.sound : SoundO Try.prog globs 9 clientNew.con :=
  sound_byO (E := clientNew.env) (c := clientNew.body) (envOk (G := globs) (lc := []) (lo := [(38, [backNew.con]), (39, [slicesClone.con])]) (envB_spec (by kernel_rfl)) rfl rfl trivial rfl ⟨⟨⟨backNew.sound, trivial⟩, by kernel_rfl⟩, ⟨⟨⟨slicesClone.sound, trivial⟩, by kernel_rfl⟩, trivial⟩⟩ (by kernel_rfl) (by kernel_rfl)) Try.func9 (by kernel_rfl) (by kernel_rfl) (by kernel_rfl) clientNew.lp (l := []) (by kernel_rfl) (fun n => trivial) clientNew.eq
noncomputable def backTriesBegin (fu : Nat) (tv : O3) (now : Int) : Option ((Unit) × (O3 × Unit)) :=
  some ((()), ((tv.1, true, (0 : Int), now, ()), ()))

noncomputable def backTriesBegin.body : Code := Try.f48.body.getD .skip
noncomputable def backTriesBegin.con : OCon := { ps := [.obj kO3, .dat (.int .u64)], rs := [], f := fun n x => backTriesBegin n x.1 x.2.1 }
noncomputable def backTriesBegin.env : Env := { tys := [(121, ⟨kS7, 32⟩), (4, ⟨.bool, 1⟩), (22, ⟨(.int .u32), 4⟩), (34, ⟨(.int .u64), 8⟩)], elems := [], ptrs := [(93, 121)], cons := [], objs := [], loops := [], cuts := [], globs := globs, base := 1 }
noncomputable def backTriesBegin.lp (n : Nat) : LP (RT backTriesBegin.con.rs × BT backTriesBegin.con.ps) := fun lo κ body nm K s =>
  loops n (RT backTriesBegin.con.rs × BT backTriesBegin.con.ps) lo κ body nm K s
theorem backTriesBegin.eq (n : Nat) (x : PT backTriesBegin.con.ps) : evFuncO backTriesBegin.env Try.f48 backTriesBegin.body backTriesBegin.con.ps backTriesBegin.con.rs (backTriesBegin.lp n) n x = backTriesBegin.con.f n x := by kernel_rfl
theorem backTriesBegin.sound : SoundO Try.prog globs 48 backTriesBegin.con :=
  sound_byO (E := backTriesBegin.env) (c := backTriesBegin.body) (envOk (G := globs) (lc := []) (lo := []) (envB_spec (by kernel_rfl)) rfl rfl trivial rfl trivial (by kernel_rfl) (by kernel_rfl)) Try.func48 (by kernel_rfl) (by kernel_rfl) (by kernel_rfl) backTriesBegin.lp (l := []) (by kernel_rfl) (fun n => trivial) backTriesBegin.eq
noncomputable def clientClientBegins (fu : Nat) (c : O6) (now : Int) : Option ((Unit) × (O6 × Unit)) :=
  (backTriesBegin fu c.2.2.2.1 now).bind fun r1 =>
  some ((()), ((c.1, c.2.1, c.2.2.1, r1.2.1, true, false, c.2.2.2.2.2.2.1, c.2.2.2.2.2.2.2.1, c.2.2.2.2.2.2.2.2.1, c.2.2.2.2.2.2.2.2.2.1, c.2.2.2.2.2.2.2.2.2.2.1, c.2.2.2.2.2.2.2.2.2.2.2.1, c.2.2.2.2.2.2.2.2.2.2.2.2.1, ()), ()))

noncomputable def clientClientBegins.body : Code := Try.f41.body.getD .skip
noncomputable def clientClientBegins.con : OCon := { ps := [.obj kO6, .dat (.int .u64)], rs := [], f := fun n x => clientClientBegins n x.1 x.2.1 }
noncomputable def clientClientBegins.env : Env := { tys := [(98, ⟨kS8, 104⟩), (4, ⟨.bool, 1⟩), (93, ⟨.np, 8⟩)], elems := [], ptrs := [], cons := [], objs := [(48, [backTriesBegin.con])], loops := [], cuts := [], globs := globs, base := 2 }
noncomputable def clientClientBegins.lp (n : Nat) : LP (RT clientClientBegins.con.rs × BT clientClientBegins.con.ps) := fun lo κ body nm K s =>
  loops n (RT clientClientBegins.con.rs × BT clientClientBegins.con.ps) lo κ body nm K s
theorem clientClientBegins.eq (n : Nat) (x : PT clientClientBegins.con.ps) : evFuncO clientClientBegins.env Try.f41 clientClientBegins.body clientClientBegins.con.ps clientClientBegins.con.rs (clientClientBegins.lp n) n x = clientClientBegins.con.f n x := by kernel_rfl
theorem clientClientBegins.sound : SoundO Try.prog globs 41 clientClientBegins.con :=
  sound_byO (E := clientClientBegins.env) (c := clientClientBegins.body) (envOk (G := globs) (lc := []) (lo := [(48, [backTriesBegin.con])]) (envB_spec (by kernel_rfl)) rfl rfl trivial rfl ⟨⟨⟨backTriesBegin.sound, trivial⟩, by kernel_rfl⟩, trivial⟩ (by kernel_rfl) (by kernel_rfl)) Try.func41 (by kernel_rfl) (by kernel_rfl) (by kernel_rfl) clientClientBegins.lp (l := []) (by kernel_rfl) (fun n => trivial) clientClientBegins.eq
noncomputable def clientClientSay (fu : Nat) (c : O6) (kind : Int) (n : Int) : Option (((List S0) × Unit) × (O6 × Unit)) :=
  let t1 := [(kind, c.1, c.2.2.2.2.2.2.1, n, (0 : Int), [], ())]
  some ((t1, ()), (c, ()))

noncomputable def clientClientSay.body : Code := Try.f44.body.getD .skip
noncomputable def clientClientSay.con : OCon := { ps := [.obj kO6, .dat (.int .u8), .dat (.int .u64)], rs := [.dat (.slice kS0)], f := fun n x => clientClientSay n x.1 x.2.1 x.2.2.1 }
noncomputable def clientClientSay.env : Env := { tys := [(41, ⟨(.slice kS0), 24⟩), (98, ⟨kS8, 104⟩), (22, ⟨(.int .u32), 4⟩), (37, ⟨kS0, 56⟩)], elems := [(41, 37)], ptrs := [], cons := [], objs := [], loops := [], cuts := [], globs := globs, base := 2 }
noncomputable def clientClientSay.lp (n : Nat) : LP (RT clientClientSay.con.rs × BT clientClientSay.con.ps) := fun lo κ body nm K s =>
  loops n (RT clientClientSay.con.rs × BT clientClientSay.con.ps) lo κ body nm K s
theorem clientClientSay.eq (n : Nat) (x : PT clientClientSay.con.ps) : evFuncO clientClientSay.env Try.f44 clientClientSay.body clientClientSay.con.ps clientClientSay.con.rs (clientClientSay.lp n) n x = clientClientSay.con.f n x := by kernel_rfl
theorem clientClientSay.sound : SoundO Try.prog globs 44 clientClientSay.con :=
  sound_byO (E := clientClientSay.env) (c := clientClientSay.body) (envOk (G := globs) (lc := []) (lo := []) (envB_spec (by kernel_rfl)) rfl rfl trivial rfl trivial (by kernel_rfl) (by kernel_rfl)) Try.func44 (by kernel_rfl) (by kernel_rfl) (by kernel_rfl) clientClientSay.lp (l := []) (by kernel_rfl) (fun n => trivial) clientClientSay.eq
noncomputable def packGet.j50013 (fu : Nat) (k1 : Int → Int → Int → Option (Int × Int × Int × Unit)) (atv : Int) (n : Int) (i : Int) (v : Bool) : Option (Int × Int × Int × Unit) :=
  cond v (
    k1 (0 : Int) (0 : Int) (2 : Int)) (
    let t1 := IntKind.i64.wrap (atv + i)
    let t2 := IntKind.i64.wrap (t1 + (1 : Int))
    k1 n t2 (0 : Int))
noncomputable def packGet.j9 (fu : Nat) (k0 : Int → Int → (List Int) → Int → Int → Option (Int × Int × Int × Unit)) (k1 : Int → Int → Int → Option (Int × Int × Int × Unit)) (atv : Int) (n : Int) (i : Int) (c : Int) (v : List Int) (vx2 : Int) (vx3 : Int) : Option (Int × Int × Int × Unit) :=
  let t1 := IntKind.u64.wrap (bAnd .u8 c (127 : Int))
  let t2 := IntKind.i64.wrap ((7 : Int) * i)
  chk (!decide (t2 < 0)) <|
  let t3 := bOr .u64 n (sShl .u64 t1 t2)
  cond (decide (c ≥ (128 : Int))) (
    k0 atv t3 v vx2 vx3) (
    cond (c == (0 : Int)) (
      packGet.j50013 fu (fun vq5 vq5x2 vq5x3 => 
          k1 vq5 vq5x2 vq5x3) atv t3 i (decide (i > (0 : Int)))) (
      packGet.j50013 fu (fun vq6 vq6x2 vq6x3 => 
          k1 vq6 vq6x2 vq6x3) atv t3 i false))
noncomputable def packGet.b5 (fu : Nat) (next : Int → Int → (List Int) → Int → Int → Option (Int × Int × Int × Unit)) (k1 : Int → Int → Int → Option (Int × Int × Int × Unit)) (k2 : Unit → Option (Int × Int × Int × Unit)) (atv : Int) (n : Int) (v : List Int) (vx2 : Int) (vx3 : Int) : Option (Int × Int × Int × Unit) :=
  cond (decide (vx3 < vx2)) (
    chk (ixOk v vx3) <|
    let e1 := ixL (0 : Int) v vx3
    cond (vx3 == (9 : Int)) (
      cond (decide (e1 > (1 : Int))) (
        k1 (0 : Int) (0 : Int) (4 : Int)) (
        packGet.j9 fu (fun atvq11 nq11 vq11 vq11x2 vq11x3 => 
            let t2 := IntKind.i64.wrap (vq11x3 + (1 : Int))
            next atvq11 nq11 vq11 vq11x2 t2) (fun vq12 vq12x2 vq12x3 => 
            k1 vq12 vq12x2 vq12x3) atv n vx3 e1 v vx2 vx3)) (
      packGet.j9 fu (fun atvq13 nq13 vq13 vq13x2 vq13x3 => 
          let t3 := IntKind.i64.wrap (vq13x3 + (1 : Int))
          next atvq13 nq13 vq13 vq13x2 t3) (fun vq14 vq14x2 vq14x3 => 
          k1 vq14 vq14x2 vq14x3) atv n vx3 e1 v vx2 vx3)) (
    k2 ())
noncomputable def packGet.l5 (fu : Nat) (k1 : Int → Int → Int → Option (Int × Int × Int × Unit)) (k2 : Unit → Option (Int × Int × Int × Unit)) : Nat → Int → Int → (List Int) → Int → Int → Option (Int × Int × Int × Unit)
  | 0, _, _, _, _, _ => none
  | m + 1, atv, n, v, vx2, vx3 => packGet.b5 fu (packGet.l5 fu k1 k2 m) k1 k2 atv n v vx2 vx3
noncomputable def packGet (fu : Nat) (b : List Int) (atv : Int) : Option (Int × Int × Int × Unit) :=
  cond (decide (atv < (0 : Int))) (
    some ((0 : Int), (0 : Int), (3 : Int), ())) (
    let t1 := decide (atv > (b.length : Int))
    cond t1 (
      some ((0 : Int), (0 : Int), (3 : Int), ())) (
      chk (cutOk b atv (b.length : Int)) <|
      let t2 := cutL b atv (b.length : Int)
      packGet.l5 fu (fun vq3 vq3x2 vq3x3 => 
          some (vq3, vq3x2, vq3x3, ())) (fun (_ : Unit) => 
          some ((0 : Int), (0 : Int), (3 : Int), ())) fu atv (0 : Int) t2 (t2.length : Int) (0 : Int)))

noncomputable def packGet.body : Code := Try.f69.body.getD .skip
abbrev packGet.shj50013 : Shp := ⟨[.u, .d (.int .i64), .u, .u, .u, .u, .u, .d (.int .u64), .d (.int .i64), .u, .u, .u, .u, .u, .u, .u, .u, .u, .u, .u, .u, .u, .u, .u, .u, .u, .u, .u, .u, .u, .u, .u, .u, .u, .u, .u, .u, .u, .u, .u, .u, .u, .u, .u, .u, .u, .u, .u, .u, .d .bool, .u, .u, .u, .u, .u, .u, .u], []⟩
abbrev packGet.outj50013e1 : Shp := ⟨[.u, .u, .u, .u, .d (.int .u64), .d (.int .i64), .d (.int .i64), .u, .u, .u, .u, .u, .u, .u, .u, .u, .u, .u, .u, .u, .u, .u, .u, .u, .u, .u, .u, .u, .u, .u, .u, .u, .u, .u, .u, .u, .u, .u, .u, .u, .u, .u, .u, .u, .u, .u, .u, .u, .u, .u, .u, .u, .u, .u, .u, .u, .u], []⟩
noncomputable def packGet.nmj50013 : Norm := ⟨{ keep := [1, 7, 8, 49], shut := [(1, (.int .i64)), (7, (.int .u64)), (8, (.int .i64)), (49, .bool)], retag := [], heap := 0, dead := [], cshut := [], cretag := [] }, [(1, { keep := [4, 5, 6], shut := [(4, (.int .u64)), (5, (.int .i64)), (6, (.int .i64))], retag := [], heap := 0, dead := [], cshut := [], cretag := [] })]⟩
abbrev packGet.shj9 : Shp := ⟨[.u, .d (.int .i64), .u, .u, .u, .u, .u, .d (.int .u64), .d (.int .i64), .d (.int .u8), .u, .u, .u, .u, .u, .u, .u, .u, .u, .u, .d (.slice (.int .u8)), .d (.int .i64), .d (.int .i64), .u, .u, .u, .u, .u, .u, .u, .u, .u, .u, .u, .u, .u, .u, .u, .u, .u, .u, .u, .u, .u, .u, .u, .u, .u, .u, .u, .u, .u, .u, .u, .u, .u, .u], []⟩
abbrev packGet.outj9e0 : Shp := ⟨[.u, .d (.int .i64), .u, .u, .u, .u, .u, .d (.int .u64), .u, .u, .u, .u, .u, .u, .u, .u, .u, .u, .u, .u, .d (.slice (.int .u8)), .d (.int .i64), .d (.int .i64), .u, .u, .u, .u, .u, .u, .u, .u, .u, .u, .u, .u, .u, .u, .u, .u, .u, .u, .u, .u, .u, .u, .u, .u, .u, .u, .u, .u, .u, .u, .u, .u, .u, .u], []⟩
abbrev packGet.outj9e1 : Shp := ⟨[.u, .u, .u, .u, .d (.int .u64), .d (.int .i64), .d (.int .i64), .u, .u, .u, .u, .u, .u, .u, .u, .u, .u, .u, .u, .u, .u, .u, .u, .u, .u, .u, .u, .u, .u, .u, .u, .u, .u, .u, .u, .u, .u, .u, .u, .u, .u, .u, .u, .u, .u, .u, .u, .u, .u, .u, .u, .u, .u, .u, .u, .u, .u], []⟩
noncomputable def packGet.nmj9 : Norm := ⟨{ keep := [1, 7, 8, 9, 20, 21, 22], shut := [(1, (.int .i64)), (7, (.int .u64)), (8, (.int .i64)), (9, (.int .u8)), (20, (.slice (.int .u8))), (21, (.int .i64)), (22, (.int .i64))], retag := [], heap := 0, dead := [], cshut := [], cretag := [] }, [(0, { keep := [1, 7, 20, 21, 22], shut := [(1, (.int .i64)), (7, (.int .u64)), (20, (.slice (.int .u8))), (21, (.int .i64)), (22, (.int .i64))], retag := [], heap := 0, dead := [], cshut := [], cretag := [] }), (1, { keep := [4, 5, 6], shut := [(4, (.int .u64)), (5, (.int .i64)), (6, (.int .i64))], retag := [], heap := 0, dead := [], cshut := [], cretag := [] })]⟩
abbrev packGet.shl5 : Shp := ⟨[.u, .d (.int .i64), .u, .u, .u, .u, .u, .d (.int .u64), .u, .u, .u, .u, .u, .u, .u, .u, .u, .u, .u, .u, .d (.slice (.int .u8)), .d (.int .i64), .d (.int .i64), .u, .u, .u, .u, .u, .u, .u, .u, .u, .u, .u, .u, .u, .u, .u, .u, .u, .u, .u, .u, .u, .u, .u, .u, .u, .u, .u, .u, .u, .u, .u, .u, .u, .u], []⟩
abbrev packGet.outl5e1 : Shp := ⟨[.u, .u, .u, .u, .d (.int .u64), .d (.int .i64), .d (.int .i64), .u, .u, .u, .u, .u, .u, .u, .u, .u, .u, .u, .u, .u, .u, .u, .u, .u, .u, .u, .u, .u, .u, .u, .u, .u, .u, .u, .u, .u, .u, .u, .u, .u, .u, .u, .u, .u, .u, .u, .u, .u, .u, .u, .u, .u, .u, .u, .u, .u, .u], []⟩
abbrev packGet.outl5e2 : Shp := ⟨[.u, .u, .u, .u, .u, .u, .u, .u, .u, .u, .u, .u, .u, .u, .u, .u, .u, .u, .u, .u, .u, .u, .u, .u, .u, .u, .u, .u, .u, .u, .u, .u, .u, .u, .u, .u, .u, .u, .u, .u, .u, .u, .u, .u, .u, .u, .u, .u, .u, .u, .u, .u, .u, .u, .u, .u, .u], []⟩
noncomputable def packGet.nml5 : Norm := ⟨{ keep := [1, 7, 20, 21, 22], shut := [(1, (.int .i64)), (7, (.int .u64)), (20, (.slice (.int .u8))), (21, (.int .i64)), (22, (.int .i64))], retag := [], heap := 0, dead := [], cshut := [], cretag := [] }, [(1, { keep := [4, 5, 6], shut := [(4, (.int .u64)), (5, (.int .i64)), (6, (.int .i64))], retag := [], heap := 0, dead := [], cshut := [], cretag := [] }), (2, { keep := [], shut := [], retag := [], heap := 0, dead := [], cshut := [], cretag := [] })]⟩
noncomputable def packGet.con : Con := { ps := [(.slice (.int .u8)), (.int .i64)], rs := [(.int .u64), (.int .i64), (.int .i64)], f := fun n x => packGet n x.1 x.2.1 }
noncomputable def packGet.env : Env := { tys := [(34, ⟨(.int .u64), 8⟩), (3, ⟨(.int .i64), 8⟩), (27, ⟨(.int .i64), 8⟩), (4, ⟨.bool, 1⟩), (5, ⟨(.int .u8), 1⟩)], elems := [(35, 5)], ptrs := [], cons := [], objs := [], loops := [(5, packGet.nml5)], cuts := [(50013, packGet.nmj50013), (9, packGet.nmj9)], globs := globs, base := 0 }
noncomputable def packGet.lp (n : Nat) : LP (Kd.struct packGet.con.rs).T := fun lo κ body nm K s =>
  cond (!lo && Nat.beq κ 50013)
    (match packGet.shj50013.dec s with
    | some v => packGet.j50013 n (fun w0 w1 w2 => K .ret (packGet.outj50013e1.enc (w0, w1, w2, ()))) v.1 v.2.1 v.2.2.1 v.2.2.2.1
    | none => loops n (Kd.struct packGet.con.rs).T lo κ body nm K s)
    (cond (!lo && Nat.beq κ 9)
    (match packGet.shj9.dec s with
    | some v => packGet.j9 n (fun w0 w1 w2 w3 w4 => K .normal (packGet.outj9e0.enc (w0, w1, w2, w3, w4, ()))) (fun w0 w1 w2 => K .ret (packGet.outj9e1.enc (w0, w1, w2, ()))) v.1 v.2.1 v.2.2.1 v.2.2.2.1 v.2.2.2.2.1 v.2.2.2.2.2.1 v.2.2.2.2.2.2.1
    | none => loops n (Kd.struct packGet.con.rs).T lo κ body nm K s)
    (cond (lo && Nat.beq κ 5)
    (match packGet.shl5.dec s with
    | some v => packGet.l5 n (fun w0 w1 w2 => K .ret (packGet.outl5e1.enc (w0, w1, w2, ()))) (fun _ => K (.exit 0) (packGet.outl5e2.enc (()))) n v.1 v.2.1 v.2.2.1 v.2.2.2.1 v.2.2.2.2.1
    | none => loops n (Kd.struct packGet.con.rs).T lo κ body nm K s)
    (loops n (Kd.struct packGet.con.rs).T lo κ body nm K s)))
theorem packGet.atj50013 (n : Nat) (s : St) (K : Ex → St → Option (Kd.struct packGet.con.rs).T) : packGet.lp n false 50013 (evK packGet.env (packGet.lp n) n (sub [1, 1, 1, 0, 1, 0, 0, 1, 1, 0, 0, 1, 1, 1, 0, 1, 1, 1] packGet.body)) packGet.nmj50013 K s = loops n (Kd.struct packGet.con.rs).T false 50013 (evK packGet.env (packGet.lp n) n (sub [1, 1, 1, 0, 1, 0, 0, 1, 1, 0, 0, 1, 1, 1, 0, 1, 1, 1] packGet.body)) packGet.nmj50013 K s := by
  show (match packGet.shj50013.dec s with | some v => packGet.j50013 n (fun w0 w1 w2 => K .ret (packGet.outj50013e1.enc (w0, w1, w2, ()))) v.1 v.2.1 v.2.2.1 v.2.2.2.1 | none => loops n (Kd.struct packGet.con.rs).T false 50013 (evK packGet.env (packGet.lp n) n (sub [1, 1, 1, 0, 1, 0, 0, 1, 1, 0, 0, 1, 1, 1, 0, 1, 1, 1] packGet.body)) packGet.nmj50013 K s) = _
  cases h : packGet.shj50013.dec s with
  | none => rfl
  | some v =>
    rw [Shp.dec_enc h]
    kernel_rfl
theorem packGet.atj9 (n : Nat) (s : St) (K : Ex → St → Option (Kd.struct packGet.con.rs).T) : packGet.lp n false 9 (evK packGet.env (packGet.lp n) n (sub [1, 1, 1, 0, 1, 0, 0, 1, 1, 0, 0, 1, 1] packGet.body)) packGet.nmj9 K s = loops n (Kd.struct packGet.con.rs).T false 9 (evK packGet.env (packGet.lp n) n (sub [1, 1, 1, 0, 1, 0, 0, 1, 1, 0, 0, 1, 1] packGet.body)) packGet.nmj9 K s := by
  show (match packGet.shj9.dec s with | some v => packGet.j9 n (fun w0 w1 w2 w3 w4 => K .normal (packGet.outj9e0.enc (w0, w1, w2, w3, w4, ()))) (fun w0 w1 w2 => K .ret (packGet.outj9e1.enc (w0, w1, w2, ()))) v.1 v.2.1 v.2.2.1 v.2.2.2.1 v.2.2.2.2.1 v.2.2.2.2.2.1 v.2.2.2.2.2.2.1 | none => loops n (Kd.struct packGet.con.rs).T false 9 (evK packGet.env (packGet.lp n) n (sub [1, 1, 1, 0, 1, 0, 0, 1, 1, 0, 0, 1, 1] packGet.body)) packGet.nmj9 K s) = _
  cases h : packGet.shj9.dec s with
  | none => rfl
  | some v =>
    rw [Shp.dec_enc h]
    kernel_rfl
theorem packGet.atl5 (n : Nat) (s : St) (K : Ex → St → Option (Kd.struct packGet.con.rs).T) : packGet.lp n true 5 (evK packGet.env (packGet.lp n) n (sub [1, 1, 1, 0, 1, 0, 0] packGet.body)) packGet.nml5 K s = loops n (Kd.struct packGet.con.rs).T true 5 (evK packGet.env (packGet.lp n) n (sub [1, 1, 1, 0, 1, 0, 0] packGet.body)) packGet.nml5 K s := by
  show (match packGet.shl5.dec s with | some v => packGet.l5 n (fun w0 w1 w2 => K .ret (packGet.outl5e1.enc (w0, w1, w2, ()))) (fun _ => K (.exit 0) (packGet.outl5e2.enc (()))) n v.1 v.2.1 v.2.2.1 v.2.2.2.1 v.2.2.2.2.1 | none => loops n (Kd.struct packGet.con.rs).T true 5 (evK packGet.env (packGet.lp n) n (sub [1, 1, 1, 0, 1, 0, 0] packGet.body)) packGet.nml5 K s) = _
  cases h : packGet.shl5.dec s with
  | none => rfl
  | some v =>
    rw [Shp.dec_enc h]
    exact (evLoop_eq (sh := packGet.shl5) (body := evK packGet.env (packGet.lp n) n (sub [1, 1, 1, 0, 1, 0, 0] packGet.body)) (nm := packGet.nml5) (K := K) (b := fun nx v => packGet.b5 n (fun x0 x1 x2 x3 x4 => nx (x0, x1, x2, x3, x4, ())) (fun w0 w1 w2 => K .ret (packGet.outl5e1.enc (w0, w1, w2, ()))) (fun _ => K (.exit 0) (packGet.outl5e2.enc (()))) v.1 v.2.1 v.2.2.1 v.2.2.2.1 v.2.2.2.2.1) (l := fun m v => packGet.l5 n (fun w0 w1 w2 => K .ret (packGet.outl5e1.enc (w0, w1, w2, ()))) (fun _ => K (.exit 0) (packGet.outl5e2.enc (()))) m v.1 v.2.1 v.2.2.1 v.2.2.2.1 v.2.2.2.2.1) (fun _ => rfl) (fun _ _ => rfl) (fun m v => by kernel_rfl) n v).symm
theorem packGet.eq (n : Nat) (x : (Kd.struct packGet.con.ps).T) : evFunc packGet.env Try.f69 packGet.body packGet.con.ps packGet.con.rs (packGet.lp n) n x = packGet.con.f n x := by kernel_rfl
theorem packGet.sound : Sound Try.prog globs 69 packGet.con :=
  sound_by (E := packGet.env) (c := packGet.body) (envOk (G := globs) (lc := []) (lo := []) (envB_spec (by kernel_rfl)) rfl rfl trivial rfl trivial (by kernel_rfl) (by kernel_rfl)) Try.func69 (by kernel_rfl) packGet.lp (l := [(false, sub [1, 1, 1, 0, 1, 0, 0, 1, 1, 0, 0, 1, 1, 1, 0, 1, 1, 1] packGet.body, packGet.nmj50013), (false, sub [1, 1, 1, 0, 1, 0, 0, 1, 1, 0, 0, 1, 1] packGet.body, packGet.nmj9), (true, sub [1, 1, 1, 0, 1, 0, 0] packGet.body, packGet.nml5)]) (by kernel_rfl) (fun n => ⟨packGet.atj50013 n, ⟨packGet.atj9 n, ⟨packGet.atl5 n, trivial⟩⟩⟩) packGet.eq
noncomputable def clientMatch (fu : Nat) (b : List Int) : Option (S4 × Bool × Unit) :=
  (packGet fu b (0 : Int)).bind fun r1 =>
  cond (r1.2.2.1 != (0 : Int)) (
    some (((0 : Int), (0 : Int), ()), false, ())) (
    (packGet fu b r1.2.1).bind fun r2 =>
    cond (r2.2.2.1 == (0 : Int)) (
      let t3 := r2.2.1 == (b.length : Int)
      cond t3 (
        cond (decide (r1.1 ≤ r2.1)) (
          let t4 := decide (r2.1 < (1099511627776 : Int))
          some ((r1.1, r2.1, ()), t4, ())) (
          some ((r1.1, r2.1, ()), false, ()))) (
        some ((r1.1, r2.1, ()), false, ()))) (
      some ((r1.1, r2.1, ()), false, ())))

noncomputable def clientMatch.body : Code := Try.f59.body.getD .skip
noncomputable def clientMatch.con : Con := { ps := [(.slice (.int .u8))], rs := [kS4, .bool], f := fun n x => clientMatch n x.1 }
noncomputable def clientMatch.env : Env := { tys := [(50, ⟨kS4, 16⟩), (4, ⟨.bool, 1⟩), (5, ⟨(.int .u8), 1⟩)], elems := [(35, 5)], ptrs := [], cons := [(69, packGet.con)], objs := [], loops := [], cuts := [], globs := globs, base := 0 }
noncomputable def clientMatch.lp (n : Nat) : LP (Kd.struct clientMatch.con.rs).T := fun lo κ body nm K s =>
  loops n (Kd.struct clientMatch.con.rs).T lo κ body nm K s
theorem clientMatch.eq (n : Nat) (x : (Kd.struct clientMatch.con.ps).T) : evFunc clientMatch.env Try.f59 clientMatch.body clientMatch.con.ps clientMatch.con.rs (clientMatch.lp n) n x = clientMatch.con.f n x := by kernel_rfl
theorem clientMatch.sound : Sound Try.prog globs 59 clientMatch.con :=
  sound_by (E := clientMatch.env) (c := clientMatch.body) (envOk (G := globs) (lc := [(69, packGet.con)]) (lo := []) (envB_spec (by kernel_rfl)) rfl rfl ⟨.inl ⟨packGet.sound, by kernel_rfl⟩, trivial⟩ rfl trivial (by kernel_rfl) (by kernel_rfl)) Try.func59 (by kernel_rfl) clientMatch.lp (l := []) (by kernel_rfl) (fun n => trivial) clientMatch.eq
noncomputable def clientClientDeliver.j55007 (fu : Nat) (k0 : Int → (List Int) → Int → Bool → Bool → Int → Int → Bool → Bool → Bool → Int → (List S5) → S2 → Bool → Int → Int → S0 → S4 → Option (((List S0) × Unit) × (O6 × Unit))) (k1 : (List S0) → Int → (List Int) → Int → Bool → Bool → Int → Int → Bool → Bool → Bool → Int → (List S5) → S2 → Bool → Int → Int → Option (((List S0) × Unit) × (O6 × Unit))) (ok : Bool) (v : Bool) (c0 : Int) (c0x2 : List Int) (c0x3 : Int) (c0x4 : Bool) (c0x5 : Bool) (c0x6 : Int) (c0x7 : Int) (c0x8 : Bool) (c0x9 : Bool) (c0x10 : Bool) (c0x11 : Int) (c0x12 : List S5) (b1 : S2) (c1 : Bool) (c1x2 : Int) (c1x3 : Int) (b2 : S0) (b3 : S4) : Option (((List S0) × Unit) × (O6 × Unit)) :=
  cond v (
    (clientClientSay fu (c0, c0x2, c0x3, (b1, c1, c1x2, c1x3, ()), c0x4, c0x5, c0x6, c0x7, c0x8, false, c0x10, c0x11, c0x12, ()) (10 : Int) b2.2.2.2.1).bind fun r1 =>
    k1 r1.1.1 r1.2.1.1 r1.2.1.2.1 r1.2.1.2.2.1 r1.2.1.2.2.2.2.1 r1.2.1.2.2.2.2.2.1 r1.2.1.2.2.2.2.2.2.1 r1.2.1.2.2.2.2.2.2.2.1 r1.2.1.2.2.2.2.2.2.2.2.1 r1.2.1.2.2.2.2.2.2.2.2.2.1 r1.2.1.2.2.2.2.2.2.2.2.2.2.1 r1.2.1.2.2.2.2.2.2.2.2.2.2.2.1 r1.2.1.2.2.2.2.2.2.2.2.2.2.2.2.1 r1.2.1.2.2.2.1.1 r1.2.1.2.2.2.1.2.1 r1.2.1.2.2.2.1.2.2.1 r1.2.1.2.2.2.1.2.2.2.1) (
    cond (!ok) (
      k1 [] c0 c0x2 c0x3 c0x4 c0x5 c0x6 c0x7 c0x8 c0x9 c0x10 c0x11 c0x12 b1 c1 c1x2 c1x3) (
      let t2 := decide (b2.2.2.2.1 ≥ (1099511627776 : Int))
      cond t2 (
        k1 [] c0 c0x2 c0x3 c0x4 c0x5 c0x6 c0x7 c0x8 c0x9 c0x10 c0x11 c0x12 b1 c1 c1x2 c1x3) (
        k0 c0 c0x2 c0x3 c0x4 c0x5 c0x6 c0x7 c0x8 c0x9 c0x10 c0x11 c0x12 b1 c1 c1x2 c1x3 b2 b3)))
noncomputable def clientClientDeliver.j37005 (fu : Nat) (k0 : Int → (List Int) → Int → Bool → Bool → Int → Int → Bool → Bool → Bool → Int → (List S5) → S2 → Bool → Int → Int → S0 → S4 → Option (((List S0) × Unit) × (O6 × Unit))) (k1 : (List S0) → Int → (List Int) → Int → Bool → Bool → Int → Int → Bool → Bool → Bool → Int → (List S5) → S2 → Bool → Int → Int → Option (((List S0) × Unit) × (O6 × Unit))) (ok : Bool) (v : Bool) (c0 : Int) (c0x2 : List Int) (c0x3 : Int) (c0x4 : Bool) (c0x5 : Bool) (c0x6 : Int) (c0x7 : Int) (c0x8 : Bool) (c0x9 : Bool) (c0x10 : Bool) (c0x11 : Int) (c0x12 : List S5) (b1 : S2) (c1 : Bool) (c1x2 : Int) (c1x3 : Int) (b2 : S0) (b3 : S4) : Option (((List S0) × Unit) × (O6 × Unit)) :=
  cond v (
    (clientClientSay fu (c0, c0x2, c0x3, (b1, c1, c1x2, c1x3, ()), c0x4, c0x5, c0x6, c0x7, c0x8, c0x9, c0x10, c0x11, c0x12, ()) (9 : Int) b2.2.2.2.1).bind fun r1 =>
    k1 r1.1.1 r1.2.1.1 r1.2.1.2.1 r1.2.1.2.2.1 r1.2.1.2.2.2.2.1 r1.2.1.2.2.2.2.2.1 r1.2.1.2.2.2.2.2.2.1 r1.2.1.2.2.2.2.2.2.2.1 r1.2.1.2.2.2.2.2.2.2.2.1 r1.2.1.2.2.2.2.2.2.2.2.2.1 r1.2.1.2.2.2.2.2.2.2.2.2.2.1 r1.2.1.2.2.2.2.2.2.2.2.2.2.2.1 r1.2.1.2.2.2.2.2.2.2.2.2.2.2.2.1 r1.2.1.2.2.2.1.1 r1.2.1.2.2.2.1.2.1 r1.2.1.2.2.2.1.2.2.1 r1.2.1.2.2.2.1.2.2.2.1) (
    cond (b2.2.2.2.1 == c0x7) (
      clientClientDeliver.j55007 fu (fun c0q7 c0q7x2 c0q7x3 c0q7x4 c0q7x5 c0q7x6 c0q7x7 c0q7x8 c0q7x9 c0q7x10 c0q7x11 c0q7x12 b1q7 c1q7 c1q7x2 c1q7x3 b2q7 b3q7 => 
          k0 c0q7 c0q7x2 c0q7x3 c0q7x4 c0q7x5 c0q7x6 c0q7x7 c0q7x8 c0q7x9 c0q7x10 c0q7x11 c0q7x12 b1q7 c1q7 c1q7x2 c1q7x3 b2q7 b3q7) (fun vq8 c0q8 c0q8x2 c0q8x3 c0q8x4 c0q8x5 c0q8x6 c0q8x7 c0q8x8 c0q8x9 c0q8x10 c0q8x11 c0q8x12 b1q8 c1q8 c1q8x2 c1q8x3 => 
          k1 vq8 c0q8 c0q8x2 c0q8x3 c0q8x4 c0q8x5 c0q8x6 c0q8x7 c0q8x8 c0q8x9 c0q8x10 c0q8x11 c0q8x12 b1q8 c1q8 c1q8x2 c1q8x3) ok c0x9 c0 c0x2 c0x3 c0x4 c0x5 c0x6 c0x7 c0x8 c0x9 c0x10 c0x11 c0x12 b1 c1 c1x2 c1x3 b2 b3) (
      clientClientDeliver.j55007 fu (fun c0q9 c0q9x2 c0q9x3 c0q9x4 c0q9x5 c0q9x6 c0q9x7 c0q9x8 c0q9x9 c0q9x10 c0q9x11 c0q9x12 b1q9 c1q9 c1q9x2 c1q9x3 b2q9 b3q9 => 
          k0 c0q9 c0q9x2 c0q9x3 c0q9x4 c0q9x5 c0q9x6 c0q9x7 c0q9x8 c0q9x9 c0q9x10 c0q9x11 c0q9x12 b1q9 c1q9 c1q9x2 c1q9x3 b2q9 b3q9) (fun vq10 c0q10 c0q10x2 c0q10x3 c0q10x4 c0q10x5 c0q10x6 c0q10x7 c0q10x8 c0q10x9 c0q10x10 c0q10x11 c0q10x12 b1q10 c1q10 c1q10x2 c1q10x3 => 
          k1 vq10 c0q10 c0q10x2 c0q10x3 c0q10x4 c0q10x5 c0q10x6 c0q10x7 c0q10x8 c0q10x9 c0q10x10 c0q10x11 c0q10x12 b1q10 c1q10 c1q10x2 c1q10x3) ok false c0 c0x2 c0x3 c0x4 c0x5 c0x6 c0x7 c0x8 c0x9 c0x10 c0x11 c0x12 b1 c1 c1x2 c1x3 b2 b3))
noncomputable def clientClientDeliver.j14003 (fu : Nat) (k0 : Int → (List Int) → Int → Bool → Bool → Int → Int → Bool → Bool → Bool → Int → (List S5) → S2 → Bool → Int → Int → S0 → S4 → Option (((List S0) × Unit) × (O6 × Unit))) (k1 : (List S0) → Int → (List Int) → Int → Bool → Bool → Int → Int → Bool → Bool → Bool → Int → (List S5) → S2 → Bool → Int → Int → Option (((List S0) × Unit) × (O6 × Unit))) (ok : Bool) (v : Bool) (c0 : Int) (c0x2 : List Int) (c0x3 : Int) (c0x4 : Bool) (c0x5 : Bool) (c0x6 : Int) (c0x7 : Int) (c0x8 : Bool) (c0x9 : Bool) (c0x10 : Bool) (c0x11 : Int) (c0x12 : List S5) (b1 : S2) (c1 : Bool) (c1x2 : Int) (c1x3 : Int) (b2 : S0) (b3 : S4) : Option (((List S0) × Unit) × (O6 × Unit)) :=
  cond v (
    (clientClientSay fu (c0, c0x2, c0x3, (b1, c1, c1x2, c1x3, ()), c0x4, c0x5, c0x6, c0x7, c0x8, c0x9, c0x10, c0x11, c0x12, ()) (6 : Int) c0x7).bind fun r1 =>
    k1 r1.1.1 r1.2.1.1 r1.2.1.2.1 r1.2.1.2.2.1 r1.2.1.2.2.2.2.1 r1.2.1.2.2.2.2.2.1 r1.2.1.2.2.2.2.2.2.1 r1.2.1.2.2.2.2.2.2.2.1 r1.2.1.2.2.2.2.2.2.2.2.1 r1.2.1.2.2.2.2.2.2.2.2.2.1 r1.2.1.2.2.2.2.2.2.2.2.2.2.1 r1.2.1.2.2.2.2.2.2.2.2.2.2.2.1 r1.2.1.2.2.2.2.2.2.2.2.2.2.2.2.1 r1.2.1.2.2.2.1.1 r1.2.1.2.2.2.1.2.1 r1.2.1.2.2.2.1.2.2.1 r1.2.1.2.2.2.1.2.2.2.1) (
    cond (b2.2.2.2.1 == c0x7) (
      clientClientDeliver.j37005 fu (fun c0q11 c0q11x2 c0q11x3 c0q11x4 c0q11x5 c0q11x6 c0q11x7 c0q11x8 c0q11x9 c0q11x10 c0q11x11 c0q11x12 b1q11 c1q11 c1q11x2 c1q11x3 b2q11 b3q11 => 
          k0 c0q11 c0q11x2 c0q11x3 c0q11x4 c0q11x5 c0q11x6 c0q11x7 c0q11x8 c0q11x9 c0q11x10 c0q11x11 c0q11x12 b1q11 c1q11 c1q11x2 c1q11x3 b2q11 b3q11) (fun vq12 c0q12 c0q12x2 c0q12x3 c0q12x4 c0q12x5 c0q12x6 c0q12x7 c0q12x8 c0q12x9 c0q12x10 c0q12x11 c0q12x12 b1q12 c1q12 c1q12x2 c1q12x3 => 
          k1 vq12 c0q12 c0q12x2 c0q12x3 c0q12x4 c0q12x5 c0q12x6 c0q12x7 c0q12x8 c0q12x9 c0q12x10 c0q12x11 c0q12x12 b1q12 c1q12 c1q12x2 c1q12x3) ok c0x8 c0 c0x2 c0x3 c0x4 c0x5 c0x6 c0x7 c0x8 c0x9 c0x10 c0x11 c0x12 b1 c1 c1x2 c1x3 b2 b3) (
      clientClientDeliver.j37005 fu (fun c0q13 c0q13x2 c0q13x3 c0q13x4 c0q13x5 c0q13x6 c0q13x7 c0q13x8 c0q13x9 c0q13x10 c0q13x11 c0q13x12 b1q13 c1q13 c1q13x2 c1q13x3 b2q13 b3q13 => 
          k0 c0q13 c0q13x2 c0q13x3 c0q13x4 c0q13x5 c0q13x6 c0q13x7 c0q13x8 c0q13x9 c0q13x10 c0q13x11 c0q13x12 b1q13 c1q13 c1q13x2 c1q13x3 b2q13 b3q13) (fun vq14 c0q14 c0q14x2 c0q14x3 c0q14x4 c0q14x5 c0q14x6 c0q14x7 c0q14x8 c0q14x9 c0q14x10 c0q14x11 c0q14x12 b1q14 c1q14 c1q14x2 c1q14x3 => 
          k1 vq14 c0q14 c0q14x2 c0q14x3 c0q14x4 c0q14x5 c0q14x6 c0q14x7 c0q14x8 c0q14x9 c0q14x10 c0q14x11 c0q14x12 b1q14 c1q14 c1q14x2 c1q14x3) ok false c0 c0x2 c0x3 c0x4 c0x5 c0x6 c0x7 c0x8 c0x9 c0x10 c0x11 c0x12 b1 c1 c1x2 c1x3 b2 b3))
noncomputable def clientClientDeliver.j11 (fu : Nat) (k1 : (List S0) → Int → (List Int) → Int → Bool → Bool → Int → Int → Bool → Bool → Bool → Int → (List S5) → S2 → Bool → Int → Int → Option (((List S0) × Unit) × (O6 × Unit))) (c0 : Int) (c0x2 : List Int) (c0x3 : Int) (c0x4 : Bool) (c0x5 : Bool) (c0x6 : Int) (c0x7 : Int) (c0x8 : Bool) (c0x9 : Bool) (c0x10 : Bool) (c0x11 : Int) (c0x12 : List S5) (b1 : S2) (c1 : Bool) (c1x2 : Int) (c1x3 : Int) (b2 : S0) (b3 : S4) : Option (((List S0) × Unit) × (O6 × Unit)) :=
  chk (apOk c0x12 ([(b2.2.2.2.1, b3, ())]) 24) <|
  let t1 := c0x12 ++ ([(b2.2.2.2.1, b3, ())])
  let t2 := IntKind.u64.wrap (b2.2.2.2.1 + (1 : Int))
  (clientClientSay fu (c0, c0x2, c0x3, (b1, c1, c1x2, c1x3, ()), c0x4, c0x5, c0x6, t2, false, c0x9, c0x10, c0x11, t1, ()) (6 : Int) t2).bind fun r3 =>
  k1 r3.1.1 r3.2.1.1 r3.2.1.2.1 r3.2.1.2.2.1 r3.2.1.2.2.2.2.1 r3.2.1.2.2.2.2.2.1 r3.2.1.2.2.2.2.2.2.1 r3.2.1.2.2.2.2.2.2.2.1 r3.2.1.2.2.2.2.2.2.2.2.1 r3.2.1.2.2.2.2.2.2.2.2.2.1 r3.2.1.2.2.2.2.2.2.2.2.2.2.1 r3.2.1.2.2.2.2.2.2.2.2.2.2.2.1 r3.2.1.2.2.2.2.2.2.2.2.2.2.2.2.1 r3.2.1.2.2.2.1.1 r3.2.1.2.2.2.1.2.1 r3.2.1.2.2.2.1.2.2.1 r3.2.1.2.2.2.1.2.2.2.1
noncomputable def clientClientDeliver (fu : Nat) (c : O6) (f : S0) : Option (((List S0) × Unit) × (O6 × Unit)) :=
  (clientMatch fu f.2.2.2.2.2.1).bind fun r1 =>
  let t2 := decide (f.2.2.2.1 < c.2.2.2.2.2.2.2.1)
  cond t2 (
    clientClientDeliver.j14003 fu (fun c0q1 c0q1x2 c0q1x3 c0q1x4 c0q1x5 c0q1x6 c0q1x7 c0q1x8 c0q1x9 c0q1x10 c0q1x11 c0q1x12 b1q1 c1q1 c1q1x2 c1q1x3 b2q1 b3q1 => 
        clientClientDeliver.j11 fu (fun vq2 c0q2 c0q2x2 c0q2x3 c0q2x4 c0q2x5 c0q2x6 c0q2x7 c0q2x8 c0q2x9 c0q2x10 c0q2x11 c0q2x12 b1q2 c1q2 c1q2x2 c1q2x3 => 
            some ((vq2, ()), ((c0q2, c0q2x2, c0q2x3, (b1q2, c1q2, c1q2x2, c1q2x3, ()), c0q2x4, c0q2x5, c0q2x6, c0q2x7, c0q2x8, c0q2x9, c0q2x10, c0q2x11, c0q2x12, ()), ()))) c0q1 c0q1x2 c0q1x3 c0q1x4 c0q1x5 c0q1x6 c0q1x7 c0q1x8 c0q1x9 c0q1x10 c0q1x11 c0q1x12 b1q1 c1q1 c1q1x2 c1q1x3 b2q1 b3q1) (fun vq3 c0q3 c0q3x2 c0q3x3 c0q3x4 c0q3x5 c0q3x6 c0q3x7 c0q3x8 c0q3x9 c0q3x10 c0q3x11 c0q3x12 b1q3 c1q3 c1q3x2 c1q3x3 => 
        some ((vq3, ()), ((c0q3, c0q3x2, c0q3x3, (b1q3, c1q3, c1q3x2, c1q3x3, ()), c0q3x4, c0q3x5, c0q3x6, c0q3x7, c0q3x8, c0q3x9, c0q3x10, c0q3x11, c0q3x12, ()), ()))) r1.2.1 true c.1 c.2.1 c.2.2.1 c.2.2.2.2.1 c.2.2.2.2.2.1 c.2.2.2.2.2.2.1 c.2.2.2.2.2.2.2.1 c.2.2.2.2.2.2.2.2.1 c.2.2.2.2.2.2.2.2.2.1 c.2.2.2.2.2.2.2.2.2.2.1 c.2.2.2.2.2.2.2.2.2.2.2.1 c.2.2.2.2.2.2.2.2.2.2.2.2.1 c.2.2.2.1.1 c.2.2.2.1.2.1 c.2.2.2.1.2.2.1 c.2.2.2.1.2.2.2.1 f r1.1) (
    let t3 := decide (f.2.2.2.2.1 > c.2.2.2.2.2.2.2.1)
    clientClientDeliver.j14003 fu (fun c0q4 c0q4x2 c0q4x3 c0q4x4 c0q4x5 c0q4x6 c0q4x7 c0q4x8 c0q4x9 c0q4x10 c0q4x11 c0q4x12 b1q4 c1q4 c1q4x2 c1q4x3 b2q4 b3q4 => 
        clientClientDeliver.j11 fu (fun vq5 c0q5 c0q5x2 c0q5x3 c0q5x4 c0q5x5 c0q5x6 c0q5x7 c0q5x8 c0q5x9 c0q5x10 c0q5x11 c0q5x12 b1q5 c1q5 c1q5x2 c1q5x3 => 
            some ((vq5, ()), ((c0q5, c0q5x2, c0q5x3, (b1q5, c1q5, c1q5x2, c1q5x3, ()), c0q5x4, c0q5x5, c0q5x6, c0q5x7, c0q5x8, c0q5x9, c0q5x10, c0q5x11, c0q5x12, ()), ()))) c0q4 c0q4x2 c0q4x3 c0q4x4 c0q4x5 c0q4x6 c0q4x7 c0q4x8 c0q4x9 c0q4x10 c0q4x11 c0q4x12 b1q4 c1q4 c1q4x2 c1q4x3 b2q4 b3q4) (fun vq6 c0q6 c0q6x2 c0q6x3 c0q6x4 c0q6x5 c0q6x6 c0q6x7 c0q6x8 c0q6x9 c0q6x10 c0q6x11 c0q6x12 b1q6 c1q6 c1q6x2 c1q6x3 => 
        some ((vq6, ()), ((c0q6, c0q6x2, c0q6x3, (b1q6, c1q6, c1q6x2, c1q6x3, ()), c0q6x4, c0q6x5, c0q6x6, c0q6x7, c0q6x8, c0q6x9, c0q6x10, c0q6x11, c0q6x12, ()), ()))) r1.2.1 t3 c.1 c.2.1 c.2.2.1 c.2.2.2.2.1 c.2.2.2.2.2.1 c.2.2.2.2.2.2.1 c.2.2.2.2.2.2.2.1 c.2.2.2.2.2.2.2.2.1 c.2.2.2.2.2.2.2.2.2.1 c.2.2.2.2.2.2.2.2.2.2.1 c.2.2.2.2.2.2.2.2.2.2.2.1 c.2.2.2.2.2.2.2.2.2.2.2.2.1 c.2.2.2.1.1 c.2.2.2.1.2.1 c.2.2.2.1.2.2.1 c.2.2.2.1.2.2.2.1 f r1.1)

noncomputable def clientClientDeliver.body : Code := Try.f45.body.getD .skip
abbrev clientClientDeliver.shj55007 : Shp := ⟨[.p 0 0, .u, .u, .p 2 0, .u, .p 3 0, .d .bool, .u, .u, .u, .u, .u, .u, .u, .u, .u, .u, .u, .u, .u, .u, .u, .u, .u, .u, .u, .u, .u, .u, .u, .u, .u, .u, .u, .u, .u, .u, .u, .u, .u, .u, .u, .u, .u, .u, .u, .u, .u, .u, .u, .u, .u, .u, .u, .d .bool, .u, .u, .u, .u, .u, .u, .u, .u, .u, .u, .u, .u, .u, .u, .u, .u, .u, .u, .u, .u, .u, .u, .u, .u, .u, .u, .u, .u, .u, .u, .u, .u, .u, .u, .u, .u, .u, .u, .u, .u, .u, .u, .u, .u, .u, .u, .u, .u, .u, .u, .u, .u, .u, .u, .u, .u], [[.d (.int .u32), .d (.slice (.int .u8)), .d (.int .u64), .p 1 0, .d .bool, .d .bool, .d (.int .u32), .d (.int .u64), .d .bool, .d .bool, .d .bool, .d (.int .u64), .o 1012 kS5], [.g kS2, .d .bool, .d (.int .u32), .d (.int .u64)], [.g kS0], [.g kS4]]⟩
abbrev clientClientDeliver.outj55007e0 : Shp := ⟨[.p 0 0, .u, .u, .p 2 0, .u, .p 3 0, .u, .u, .u, .u, .u, .u, .u, .u, .u, .u, .u, .u, .u, .u, .u, .u, .u, .u, .u, .u, .u, .u, .u, .u, .u, .u, .u, .u, .u, .u, .u, .u, .u, .u, .u, .u, .u, .u, .u, .u, .u, .u, .u, .u, .u, .u, .u, .u, .u, .u, .u, .u, .u, .u, .u, .u, .u, .u, .u, .u, .u, .u, .u, .u, .u, .u, .u, .u, .u, .u, .u, .u, .u, .u, .u, .u, .u, .u, .u, .u, .u, .u, .u, .u, .u, .u, .u, .u, .u, .u, .u, .u, .u, .u, .u, .u, .u, .u, .u, .u, .u, .u, .u, .u, .u], [[.d (.int .u32), .d (.slice (.int .u8)), .d (.int .u64), .p 1 0, .d .bool, .d .bool, .d (.int .u32), .d (.int .u64), .d .bool, .d .bool, .d .bool, .d (.int .u64), .o 1012 kS5], [.g kS2, .d .bool, .d (.int .u32), .d (.int .u64)], [.g kS0], [.g kS4]]⟩
abbrev clientClientDeliver.outj55007e1 : Shp := ⟨[.u, .u, .u, .u, .d (.slice kS0), .u, .u, .u, .u, .u, .u, .u, .u, .u, .u, .u, .u, .u, .u, .u, .u, .u, .u, .u, .u, .u, .u, .u, .u, .u, .u, .u, .u, .u, .u, .u, .u, .u, .u, .u, .u, .u, .u, .u, .u, .u, .u, .u, .u, .u, .u, .u, .u, .u, .u, .u, .u, .u, .u, .u, .u, .u, .u, .u, .u, .u, .u, .u, .u, .u, .u, .u, .u, .u, .u, .u, .u, .u, .u, .u, .u, .u, .u, .u, .u, .u, .u, .u, .u, .u, .u, .u, .u, .u, .u, .u, .u, .u, .u, .u, .u, .u, .u, .u, .u, .u, .u, .u, .u, .u, .u], [[.d (.int .u32), .d (.slice (.int .u8)), .d (.int .u64), .p 1 0, .d .bool, .d .bool, .d (.int .u32), .d (.int .u64), .d .bool, .d .bool, .d .bool, .d (.int .u64), .o 1012 kS5], [.g kS2, .d .bool, .d (.int .u32), .d (.int .u64)]]⟩
noncomputable def clientClientDeliver.nmj55007 : Norm := ⟨{ keep := [0, 3, 5, 6, 54], shut := [(6, .bool), (54, .bool)], retag := [], heap := 4, dead := [], cshut := [(0, 0, (.int .u32)), (0, 1, (.slice (.int .u8))), (0, 2, (.int .u64)), (0, 4, .bool), (0, 5, .bool), (0, 6, (.int .u32)), (0, 7, (.int .u64)), (0, 8, .bool), (0, 9, .bool), (0, 10, .bool), (0, 11, (.int .u64)), (1, 0, (.int .u32)), (1, 1, (.int .u32)), (1, 2, (.int .u32)), (1, 3, .bool), (1, 4, (.int .u32)), (1, 5, (.int .u64)), (2, 0, (.int .u8)), (2, 1, (.int .u32)), (2, 2, (.int .u32)), (2, 3, (.int .u64)), (2, 4, (.int .u64)), (2, 5, (.slice (.int .u8))), (3, 0, (.int .u64)), (3, 1, (.int .u64))], cretag := [(0, 12, 1012, kS5)] }, [(0, { keep := [0, 3, 5], shut := [], retag := [], heap := 4, dead := [], cshut := [(0, 0, (.int .u32)), (0, 1, (.slice (.int .u8))), (0, 2, (.int .u64)), (0, 4, .bool), (0, 5, .bool), (0, 6, (.int .u32)), (0, 7, (.int .u64)), (0, 8, .bool), (0, 9, .bool), (0, 10, .bool), (0, 11, (.int .u64)), (1, 0, (.int .u32)), (1, 1, (.int .u32)), (1, 2, (.int .u32)), (1, 3, .bool), (1, 4, (.int .u32)), (1, 5, (.int .u64)), (2, 0, (.int .u8)), (2, 1, (.int .u32)), (2, 2, (.int .u32)), (2, 3, (.int .u64)), (2, 4, (.int .u64)), (2, 5, (.slice (.int .u8))), (3, 0, (.int .u64)), (3, 1, (.int .u64))], cretag := [(0, 12, 1012, kS5)] }), (1, { keep := [4], shut := [(4, (.slice kS0))], retag := [], heap := 2, dead := [], cshut := [(0, 0, (.int .u32)), (0, 1, (.slice (.int .u8))), (0, 2, (.int .u64)), (0, 4, .bool), (0, 5, .bool), (0, 6, (.int .u32)), (0, 7, (.int .u64)), (0, 8, .bool), (0, 9, .bool), (0, 10, .bool), (0, 11, (.int .u64)), (1, 0, (.int .u32)), (1, 1, (.int .u32)), (1, 2, (.int .u32)), (1, 3, .bool), (1, 4, (.int .u32)), (1, 5, (.int .u64))], cretag := [(0, 12, 1012, kS5)] })]⟩
abbrev clientClientDeliver.shj37005 : Shp := ⟨[.p 0 0, .u, .u, .p 2 0, .u, .p 3 0, .d .bool, .u, .u, .u, .u, .u, .u, .u, .u, .u, .u, .u, .u, .u, .u, .u, .u, .u, .u, .u, .u, .u, .u, .u, .u, .u, .u, .u, .u, .u, .d .bool, .u, .u, .u, .u, .u, .u, .u, .u, .u, .u, .u, .u, .u, .u, .u, .u, .u, .u, .u, .u, .u, .u, .u, .u, .u, .u, .u, .u, .u, .u, .u, .u, .u, .u, .u, .u, .u, .u, .u, .u, .u, .u, .u, .u, .u, .u, .u, .u, .u, .u, .u, .u, .u, .u, .u, .u, .u, .u, .u, .u, .u, .u, .u, .u, .u, .u, .u, .u, .u, .u, .u, .u, .u, .u], [[.d (.int .u32), .d (.slice (.int .u8)), .d (.int .u64), .p 1 0, .d .bool, .d .bool, .d (.int .u32), .d (.int .u64), .d .bool, .d .bool, .d .bool, .d (.int .u64), .o 1012 kS5], [.g kS2, .d .bool, .d (.int .u32), .d (.int .u64)], [.g kS0], [.g kS4]]⟩
abbrev clientClientDeliver.outj37005e0 : Shp := ⟨[.p 0 0, .u, .u, .p 2 0, .u, .p 3 0, .u, .u, .u, .u, .u, .u, .u, .u, .u, .u, .u, .u, .u, .u, .u, .u, .u, .u, .u, .u, .u, .u, .u, .u, .u, .u, .u, .u, .u, .u, .u, .u, .u, .u, .u, .u, .u, .u, .u, .u, .u, .u, .u, .u, .u, .u, .u, .u, .u, .u, .u, .u, .u, .u, .u, .u, .u, .u, .u, .u, .u, .u, .u, .u, .u, .u, .u, .u, .u, .u, .u, .u, .u, .u, .u, .u, .u, .u, .u, .u, .u, .u, .u, .u, .u, .u, .u, .u, .u, .u, .u, .u, .u, .u, .u, .u, .u, .u, .u, .u, .u, .u, .u, .u, .u], [[.d (.int .u32), .d (.slice (.int .u8)), .d (.int .u64), .p 1 0, .d .bool, .d .bool, .d (.int .u32), .d (.int .u64), .d .bool, .d .bool, .d .bool, .d (.int .u64), .o 1012 kS5], [.g kS2, .d .bool, .d (.int .u32), .d (.int .u64)], [.g kS0], [.g kS4]]⟩
abbrev clientClientDeliver.outj37005e1 : Shp := ⟨[.u, .u, .u, .u, .d (.slice kS0), .u, .u, .u, .u, .u, .u, .u, .u, .u, .u, .u, .u, .u, .u, .u, .u, .u, .u, .u, .u, .u, .u, .u, .u, .u, .u, .u, .u, .u, .u, .u, .u, .u, .u, .u, .u, .u, .u, .u, .u, .u, .u, .u, .u, .u, .u, .u, .u, .u, .u, .u, .u, .u, .u, .u, .u, .u, .u, .u, .u, .u, .u, .u, .u, .u, .u, .u, .u, .u, .u, .u, .u, .u, .u, .u, .u, .u, .u, .u, .u, .u, .u, .u, .u, .u, .u, .u, .u, .u, .u, .u, .u, .u, .u, .u, .u, .u, .u, .u, .u, .u, .u, .u, .u, .u, .u], [[.d (.int .u32), .d (.slice (.int .u8)), .d (.int .u64), .p 1 0, .d .bool, .d .bool, .d (.int .u32), .d (.int .u64), .d .bool, .d .bool, .d .bool, .d (.int .u64), .o 1012 kS5], [.g kS2, .d .bool, .d (.int .u32), .d (.int .u64)]]⟩
noncomputable def clientClientDeliver.nmj37005 : Norm := ⟨{ keep := [0, 3, 5, 6, 36], shut := [(6, .bool), (36, .bool)], retag := [], heap := 4, dead := [], cshut := [(0, 0, (.int .u32)), (0, 1, (.slice (.int .u8))), (0, 2, (.int .u64)), (0, 4, .bool), (0, 5, .bool), (0, 6, (.int .u32)), (0, 7, (.int .u64)), (0, 8, .bool), (0, 9, .bool), (0, 10, .bool), (0, 11, (.int .u64)), (1, 0, (.int .u32)), (1, 1, (.int .u32)), (1, 2, (.int .u32)), (1, 3, .bool), (1, 4, (.int .u32)), (1, 5, (.int .u64)), (2, 0, (.int .u8)), (2, 1, (.int .u32)), (2, 2, (.int .u32)), (2, 3, (.int .u64)), (2, 4, (.int .u64)), (2, 5, (.slice (.int .u8))), (3, 0, (.int .u64)), (3, 1, (.int .u64))], cretag := [(0, 12, 1012, kS5)] }, [(0, { keep := [0, 3, 5], shut := [], retag := [], heap := 4, dead := [], cshut := [(0, 0, (.int .u32)), (0, 1, (.slice (.int .u8))), (0, 2, (.int .u64)), (0, 4, .bool), (0, 5, .bool), (0, 6, (.int .u32)), (0, 7, (.int .u64)), (0, 8, .bool), (0, 9, .bool), (0, 10, .bool), (0, 11, (.int .u64)), (1, 0, (.int .u32)), (1, 1, (.int .u32)), (1, 2, (.int .u32)), (1, 3, .bool), (1, 4, (.int .u32)), (1, 5, (.int .u64)), (2, 0, (.int .u8)), (2, 1, (.int .u32)), (2, 2, (.int .u32)), (2, 3, (.int .u64)), (2, 4, (.int .u64)), (2, 5, (.slice (.int .u8))), (3, 0, (.int .u64)), (3, 1, (.int .u64))], cretag := [(0, 12, 1012, kS5)] }), (1, { keep := [4], shut := [(4, (.slice kS0))], retag := [], heap := 2, dead := [], cshut := [(0, 0, (.int .u32)), (0, 1, (.slice (.int .u8))), (0, 2, (.int .u64)), (0, 4, .bool), (0, 5, .bool), (0, 6, (.int .u32)), (0, 7, (.int .u64)), (0, 8, .bool), (0, 9, .bool), (0, 10, .bool), (0, 11, (.int .u64)), (1, 0, (.int .u32)), (1, 1, (.int .u32)), (1, 2, (.int .u32)), (1, 3, .bool), (1, 4, (.int .u32)), (1, 5, (.int .u64))], cretag := [(0, 12, 1012, kS5)] })]⟩
abbrev clientClientDeliver.shj14003 : Shp := ⟨[.p 0 0, .u, .u, .p 2 0, .u, .p 3 0, .d .bool, .u, .u, .u, .u, .u, .u, .d .bool, .u, .u, .u, .u, .u, .u, .u, .u, .u, .u, .u, .u, .u, .u, .u, .u, .u, .u, .u, .u, .u, .u, .u, .u, .u, .u, .u, .u, .u, .u, .u, .u, .u, .u, .u, .u, .u, .u, .u, .u, .u, .u, .u, .u, .u, .u, .u, .u, .u, .u, .u, .u, .u, .u, .u, .u, .u, .u, .u, .u, .u, .u, .u, .u, .u, .u, .u, .u, .u, .u, .u, .u, .u, .u, .u, .u, .u, .u, .u, .u, .u, .u, .u, .u, .u, .u, .u, .u, .u, .u, .u, .u, .u, .u, .u, .u, .u], [[.d (.int .u32), .d (.slice (.int .u8)), .d (.int .u64), .p 1 0, .d .bool, .d .bool, .d (.int .u32), .d (.int .u64), .d .bool, .d .bool, .d .bool, .d (.int .u64), .o 1012 kS5], [.g kS2, .d .bool, .d (.int .u32), .d (.int .u64)], [.g kS0], [.g kS4]]⟩
abbrev clientClientDeliver.outj14003e0 : Shp := ⟨[.p 0 0, .u, .u, .p 2 0, .u, .p 3 0, .u, .u, .u, .u, .u, .u, .u, .u, .u, .u, .u, .u, .u, .u, .u, .u, .u, .u, .u, .u, .u, .u, .u, .u, .u, .u, .u, .u, .u, .u, .u, .u, .u, .u, .u, .u, .u, .u, .u, .u, .u, .u, .u, .u, .u, .u, .u, .u, .u, .u, .u, .u, .u, .u, .u, .u, .u, .u, .u, .u, .u, .u, .u, .u, .u, .u, .u, .u, .u, .u, .u, .u, .u, .u, .u, .u, .u, .u, .u, .u, .u, .u, .u, .u, .u, .u, .u, .u, .u, .u, .u, .u, .u, .u, .u, .u, .u, .u, .u, .u, .u, .u, .u, .u, .u], [[.d (.int .u32), .d (.slice (.int .u8)), .d (.int .u64), .p 1 0, .d .bool, .d .bool, .d (.int .u32), .d (.int .u64), .d .bool, .d .bool, .d .bool, .d (.int .u64), .o 1012 kS5], [.g kS2, .d .bool, .d (.int .u32), .d (.int .u64)], [.g kS0], [.g kS4]]⟩
abbrev clientClientDeliver.outj14003e1 : Shp := ⟨[.u, .u, .u, .u, .d (.slice kS0), .u, .u, .u, .u, .u, .u, .u, .u, .u, .u, .u, .u, .u, .u, .u, .u, .u, .u, .u, .u, .u, .u, .u, .u, .u, .u, .u, .u, .u, .u, .u, .u, .u, .u, .u, .u, .u, .u, .u, .u, .u, .u, .u, .u, .u, .u, .u, .u, .u, .u, .u, .u, .u, .u, .u, .u, .u, .u, .u, .u, .u, .u, .u, .u, .u, .u, .u, .u, .u, .u, .u, .u, .u, .u, .u, .u, .u, .u, .u, .u, .u, .u, .u, .u, .u, .u, .u, .u, .u, .u, .u, .u, .u, .u, .u, .u, .u, .u, .u, .u, .u, .u, .u, .u, .u, .u], [[.d (.int .u32), .d (.slice (.int .u8)), .d (.int .u64), .p 1 0, .d .bool, .d .bool, .d (.int .u32), .d (.int .u64), .d .bool, .d .bool, .d .bool, .d (.int .u64), .o 1012 kS5], [.g kS2, .d .bool, .d (.int .u32), .d (.int .u64)]]⟩
noncomputable def clientClientDeliver.nmj14003 : Norm := ⟨{ keep := [0, 3, 5, 6, 13], shut := [(6, .bool), (13, .bool)], retag := [], heap := 4, dead := [], cshut := [(0, 0, (.int .u32)), (0, 1, (.slice (.int .u8))), (0, 2, (.int .u64)), (0, 4, .bool), (0, 5, .bool), (0, 6, (.int .u32)), (0, 7, (.int .u64)), (0, 8, .bool), (0, 9, .bool), (0, 10, .bool), (0, 11, (.int .u64)), (1, 0, (.int .u32)), (1, 1, (.int .u32)), (1, 2, (.int .u32)), (1, 3, .bool), (1, 4, (.int .u32)), (1, 5, (.int .u64)), (2, 0, (.int .u8)), (2, 1, (.int .u32)), (2, 2, (.int .u32)), (2, 3, (.int .u64)), (2, 4, (.int .u64)), (2, 5, (.slice (.int .u8))), (3, 0, (.int .u64)), (3, 1, (.int .u64))], cretag := [(0, 12, 1012, kS5)] }, [(0, { keep := [0, 3, 5], shut := [], retag := [], heap := 4, dead := [], cshut := [(0, 0, (.int .u32)), (0, 1, (.slice (.int .u8))), (0, 2, (.int .u64)), (0, 4, .bool), (0, 5, .bool), (0, 6, (.int .u32)), (0, 7, (.int .u64)), (0, 8, .bool), (0, 9, .bool), (0, 10, .bool), (0, 11, (.int .u64)), (1, 0, (.int .u32)), (1, 1, (.int .u32)), (1, 2, (.int .u32)), (1, 3, .bool), (1, 4, (.int .u32)), (1, 5, (.int .u64)), (2, 0, (.int .u8)), (2, 1, (.int .u32)), (2, 2, (.int .u32)), (2, 3, (.int .u64)), (2, 4, (.int .u64)), (2, 5, (.slice (.int .u8))), (3, 0, (.int .u64)), (3, 1, (.int .u64))], cretag := [(0, 12, 1012, kS5)] }), (1, { keep := [4], shut := [(4, (.slice kS0))], retag := [], heap := 2, dead := [], cshut := [(0, 0, (.int .u32)), (0, 1, (.slice (.int .u8))), (0, 2, (.int .u64)), (0, 4, .bool), (0, 5, .bool), (0, 6, (.int .u32)), (0, 7, (.int .u64)), (0, 8, .bool), (0, 9, .bool), (0, 10, .bool), (0, 11, (.int .u64)), (1, 0, (.int .u32)), (1, 1, (.int .u32)), (1, 2, (.int .u32)), (1, 3, .bool), (1, 4, (.int .u32)), (1, 5, (.int .u64))], cretag := [(0, 12, 1012, kS5)] })]⟩
abbrev clientClientDeliver.shj11 : Shp := ⟨[.p 0 0, .u, .u, .p 2 0, .u, .p 3 0, .u, .u, .u, .u, .u, .u, .u, .u, .u, .u, .u, .u, .u, .u, .u, .u, .u, .u, .u, .u, .u, .u, .u, .u, .u, .u, .u, .u, .u, .u, .u, .u, .u, .u, .u, .u, .u, .u, .u, .u, .u, .u, .u, .u, .u, .u, .u, .u, .u, .u, .u, .u, .u, .u, .u, .u, .u, .u, .u, .u, .u, .u, .u, .u, .u, .u, .u, .u, .u, .u, .u, .u, .u, .u, .u, .u, .u, .u, .u, .u, .u, .u, .u, .u, .u, .u, .u, .u, .u, .u, .u, .u, .u, .u, .u, .u, .u, .u, .u, .u, .u, .u, .u, .u, .u], [[.d (.int .u32), .d (.slice (.int .u8)), .d (.int .u64), .p 1 0, .d .bool, .d .bool, .d (.int .u32), .d (.int .u64), .d .bool, .d .bool, .d .bool, .d (.int .u64), .o 1012 kS5], [.g kS2, .d .bool, .d (.int .u32), .d (.int .u64)], [.g kS0], [.g kS4]]⟩
abbrev clientClientDeliver.outj11e1 : Shp := ⟨[.u, .u, .u, .u, .d (.slice kS0), .u, .u, .u, .u, .u, .u, .u, .u, .u, .u, .u, .u, .u, .u, .u, .u, .u, .u, .u, .u, .u, .u, .u, .u, .u, .u, .u, .u, .u, .u, .u, .u, .u, .u, .u, .u, .u, .u, .u, .u, .u, .u, .u, .u, .u, .u, .u, .u, .u, .u, .u, .u, .u, .u, .u, .u, .u, .u, .u, .u, .u, .u, .u, .u, .u, .u, .u, .u, .u, .u, .u, .u, .u, .u, .u, .u, .u, .u, .u, .u, .u, .u, .u, .u, .u, .u, .u, .u, .u, .u, .u, .u, .u, .u, .u, .u, .u, .u, .u, .u, .u, .u, .u, .u, .u, .u], [[.d (.int .u32), .d (.slice (.int .u8)), .d (.int .u64), .p 1 0, .d .bool, .d .bool, .d (.int .u32), .d (.int .u64), .d .bool, .d .bool, .d .bool, .d (.int .u64), .o 1012 kS5], [.g kS2, .d .bool, .d (.int .u32), .d (.int .u64)]]⟩
noncomputable def clientClientDeliver.nmj11 : Norm := ⟨{ keep := [0, 3, 5], shut := [], retag := [], heap := 4, dead := [], cshut := [(0, 0, (.int .u32)), (0, 1, (.slice (.int .u8))), (0, 2, (.int .u64)), (0, 4, .bool), (0, 5, .bool), (0, 6, (.int .u32)), (0, 7, (.int .u64)), (0, 8, .bool), (0, 9, .bool), (0, 10, .bool), (0, 11, (.int .u64)), (1, 0, (.int .u32)), (1, 1, (.int .u32)), (1, 2, (.int .u32)), (1, 3, .bool), (1, 4, (.int .u32)), (1, 5, (.int .u64)), (2, 0, (.int .u8)), (2, 1, (.int .u32)), (2, 2, (.int .u32)), (2, 3, (.int .u64)), (2, 4, (.int .u64)), (2, 5, (.slice (.int .u8))), (3, 0, (.int .u64)), (3, 1, (.int .u64))], cretag := [(0, 12, 1012, kS5)] }, [(1, { keep := [4], shut := [(4, (.slice kS0))], retag := [], heap := 2, dead := [], cshut := [(0, 0, (.int .u32)), (0, 1, (.slice (.int .u8))), (0, 2, (.int .u64)), (0, 4, .bool), (0, 5, .bool), (0, 6, (.int .u32)), (0, 7, (.int .u64)), (0, 8, .bool), (0, 9, .bool), (0, 10, .bool), (0, 11, (.int .u64)), (1, 0, (.int .u32)), (1, 1, (.int .u32)), (1, 2, (.int .u32)), (1, 3, .bool), (1, 4, (.int .u32)), (1, 5, (.int .u64))], cretag := [(0, 12, 1012, kS5)] })]⟩
noncomputable def clientClientDeliver.con : OCon := { ps := [.obj kO6, .dat kS0], rs := [.dat (.slice kS0)], f := fun n x => clientClientDeliver n x.1 x.2.1 }
noncomputable def clientClientDeliver.env : Env := { tys := [(37, ⟨kS0, 56⟩), (41, ⟨(.slice kS0), 24⟩), (35, ⟨(.slice (.int .u8)), 24⟩), (50, ⟨kS4, 16⟩), (34, ⟨(.int .u64), 8⟩), (98, ⟨kS8, 104⟩), (4, ⟨.bool, 1⟩), (47, ⟨(.slice kS5), 24⟩), (52, ⟨kS5, 24⟩)], elems := [(47, 52)], ptrs := [], cons := [(59, clientMatch.con)], objs := [(44, [clientClientSay.con])], loops := [], cuts := [(55007, clientClientDeliver.nmj55007), (37005, clientClientDeliver.nmj37005), (14003, clientClientDeliver.nmj14003), (11, clientClientDeliver.nmj11)], globs := globs, base := 2 }
noncomputable def clientClientDeliver.lp (n : Nat) : LP (RT clientClientDeliver.con.rs × BT clientClientDeliver.con.ps) := fun lo κ body nm K s =>
  cond (!lo && Nat.beq κ 55007)
    (match clientClientDeliver.shj55007.dec s with
    | some v => clientClientDeliver.j55007 n (fun w0 w1 w2 w3 w4 w5 w6 w7 w8 w9 w10 w11 w12 w13 w14 w15 w16 w17 => K .normal (clientClientDeliver.outj55007e0.enc (w0, w1, w2, w3, w4, w5, w6, w7, w8, w9, w10, w11, w12, w13, w14, w15, w16, w17, ()))) (fun w0 w1 w2 w3 w4 w5 w6 w7 w8 w9 w10 w11 w12 w13 w14 w15 w16 => K .ret (clientClientDeliver.outj55007e1.enc (w0, w1, w2, w3, w4, w5, w6, w7, w8, w9, w10, w11, w12, w13, w14, w15, w16, ()))) v.1 v.2.1 v.2.2.1 v.2.2.2.1 v.2.2.2.2.1 v.2.2.2.2.2.1 v.2.2.2.2.2.2.1 v.2.2.2.2.2.2.2.1 v.2.2.2.2.2.2.2.2.1 v.2.2.2.2.2.2.2.2.2.1 v.2.2.2.2.2.2.2.2.2.2.1 v.2.2.2.2.2.2.2.2.2.2.2.1 v.2.2.2.2.2.2.2.2.2.2.2.2.1 v.2.2.2.2.2.2.2.2.2.2.2.2.2.1 v.2.2.2.2.2.2.2.2.2.2.2.2.2.2.1 v.2.2.2.2.2.2.2.2.2.2.2.2.2.2.2.1 v.2.2.2.2.2.2.2.2.2.2.2.2.2.2.2.2.1 v.2.2.2.2.2.2.2.2.2.2.2.2.2.2.2.2.2.1 v.2.2.2.2.2.2.2.2.2.2.2.2.2.2.2.2.2.2.1 v.2.2.2.2.2.2.2.2.2.2.2.2.2.2.2.2.2.2.2.1
    | none => loops n (RT clientClientDeliver.con.rs × BT clientClientDeliver.con.ps) lo κ body nm K s)
    (cond (!lo && Nat.beq κ 37005)
    (match clientClientDeliver.shj37005.dec s with
    | some v => clientClientDeliver.j37005 n (fun w0 w1 w2 w3 w4 w5 w6 w7 w8 w9 w10 w11 w12 w13 w14 w15 w16 w17 => K .normal (clientClientDeliver.outj37005e0.enc (w0, w1, w2, w3, w4, w5, w6, w7, w8, w9, w10, w11, w12, w13, w14, w15, w16, w17, ()))) (fun w0 w1 w2 w3 w4 w5 w6 w7 w8 w9 w10 w11 w12 w13 w14 w15 w16 => K .ret (clientClientDeliver.outj37005e1.enc (w0, w1, w2, w3, w4, w5, w6, w7, w8, w9, w10, w11, w12, w13, w14, w15, w16, ()))) v.1 v.2.1 v.2.2.1 v.2.2.2.1 v.2.2.2.2.1 v.2.2.2.2.2.1 v.2.2.2.2.2.2.1 v.2.2.2.2.2.2.2.1 v.2.2.2.2.2.2.2.2.1 v.2.2.2.2.2.2.2.2.2.1 v.2.2.2.2.2.2.2.2.2.2.1 v.2.2.2.2.2.2.2.2.2.2.2.1 v.2.2.2.2.2.2.2.2.2.2.2.2.1 v.2.2.2.2.2.2.2.2.2.2.2.2.2.1 v.2.2.2.2.2.2.2.2.2.2.2.2.2.2.1 v.2.2.2.2.2.2.2.2.2.2.2.2.2.2.2.1 v.2.2.2.2.2.2.2.2.2.2.2.2.2.2.2.2.1 v.2.2.2.2.2.2.2.2.2.2.2.2.2.2.2.2.2.1 v.2.2.2.2.2.2.2.2.2.2.2.2.2.2.2.2.2.2.1 v.2.2.2.2.2.2.2.2.2.2.2.2.2.2.2.2.2.2.2.1
    | none => loops n (RT clientClientDeliver.con.rs × BT clientClientDeliver.con.ps) lo κ body nm K s)
    (cond (!lo && Nat.beq κ 14003)
    (match clientClientDeliver.shj14003.dec s with
    | some v => clientClientDeliver.j14003 n (fun w0 w1 w2 w3 w4 w5 w6 w7 w8 w9 w10 w11 w12 w13 w14 w15 w16 w17 => K .normal (clientClientDeliver.outj14003e0.enc (w0, w1, w2, w3, w4, w5, w6, w7, w8, w9, w10, w11, w12, w13, w14, w15, w16, w17, ()))) (fun w0 w1 w2 w3 w4 w5 w6 w7 w8 w9 w10 w11 w12 w13 w14 w15 w16 => K .ret (clientClientDeliver.outj14003e1.enc (w0, w1, w2, w3, w4, w5, w6, w7, w8, w9, w10, w11, w12, w13, w14, w15, w16, ()))) v.1 v.2.1 v.2.2.1 v.2.2.2.1 v.2.2.2.2.1 v.2.2.2.2.2.1 v.2.2.2.2.2.2.1 v.2.2.2.2.2.2.2.1 v.2.2.2.2.2.2.2.2.1 v.2.2.2.2.2.2.2.2.2.1 v.2.2.2.2.2.2.2.2.2.2.1 v.2.2.2.2.2.2.2.2.2.2.2.1 v.2.2.2.2.2.2.2.2.2.2.2.2.1 v.2.2.2.2.2.2.2.2.2.2.2.2.2.1 v.2.2.2.2.2.2.2.2.2.2.2.2.2.2.1 v.2.2.2.2.2.2.2.2.2.2.2.2.2.2.2.1 v.2.2.2.2.2.2.2.2.2.2.2.2.2.2.2.2.1 v.2.2.2.2.2.2.2.2.2.2.2.2.2.2.2.2.2.1 v.2.2.2.2.2.2.2.2.2.2.2.2.2.2.2.2.2.2.1 v.2.2.2.2.2.2.2.2.2.2.2.2.2.2.2.2.2.2.2.1
    | none => loops n (RT clientClientDeliver.con.rs × BT clientClientDeliver.con.ps) lo κ body nm K s)
    (cond (!lo && Nat.beq κ 11)
    (match clientClientDeliver.shj11.dec s with
    | some v => clientClientDeliver.j11 n (fun w0 w1 w2 w3 w4 w5 w6 w7 w8 w9 w10 w11 w12 w13 w14 w15 w16 => K .ret (clientClientDeliver.outj11e1.enc (w0, w1, w2, w3, w4, w5, w6, w7, w8, w9, w10, w11, w12, w13, w14, w15, w16, ()))) v.1 v.2.1 v.2.2.1 v.2.2.2.1 v.2.2.2.2.1 v.2.2.2.2.2.1 v.2.2.2.2.2.2.1 v.2.2.2.2.2.2.2.1 v.2.2.2.2.2.2.2.2.1 v.2.2.2.2.2.2.2.2.2.1 v.2.2.2.2.2.2.2.2.2.2.1 v.2.2.2.2.2.2.2.2.2.2.2.1 v.2.2.2.2.2.2.2.2.2.2.2.2.1 v.2.2.2.2.2.2.2.2.2.2.2.2.2.1 v.2.2.2.2.2.2.2.2.2.2.2.2.2.2.1 v.2.2.2.2.2.2.2.2.2.2.2.2.2.2.2.1 v.2.2.2.2.2.2.2.2.2.2.2.2.2.2.2.2.1 v.2.2.2.2.2.2.2.2.2.2.2.2.2.2.2.2.2.1
    | none => loops n (RT clientClientDeliver.con.rs × BT clientClientDeliver.con.ps) lo κ body nm K s)
    (loops n (RT clientClientDeliver.con.rs × BT clientClientDeliver.con.ps) lo κ body nm K s))))
theorem clientClientDeliver.atj55007 (n : Nat) (s : St) (K : Ex → St → Option (RT clientClientDeliver.con.rs × BT clientClientDeliver.con.ps)) : clientClientDeliver.lp n false 55007 (evK clientClientDeliver.env (clientClientDeliver.lp n) n (sub [1, 1, 0, 0, 1, 1, 1, 1, 1] clientClientDeliver.body)) clientClientDeliver.nmj55007 K s = loops n (RT clientClientDeliver.con.rs × BT clientClientDeliver.con.ps) false 55007 (evK clientClientDeliver.env (clientClientDeliver.lp n) n (sub [1, 1, 0, 0, 1, 1, 1, 1, 1] clientClientDeliver.body)) clientClientDeliver.nmj55007 K s := by
  show (match clientClientDeliver.shj55007.dec s with | some v => clientClientDeliver.j55007 n (fun w0 w1 w2 w3 w4 w5 w6 w7 w8 w9 w10 w11 w12 w13 w14 w15 w16 w17 => K .normal (clientClientDeliver.outj55007e0.enc (w0, w1, w2, w3, w4, w5, w6, w7, w8, w9, w10, w11, w12, w13, w14, w15, w16, w17, ()))) (fun w0 w1 w2 w3 w4 w5 w6 w7 w8 w9 w10 w11 w12 w13 w14 w15 w16 => K .ret (clientClientDeliver.outj55007e1.enc (w0, w1, w2, w3, w4, w5, w6, w7, w8, w9, w10, w11, w12, w13, w14, w15, w16, ()))) v.1 v.2.1 v.2.2.1 v.2.2.2.1 v.2.2.2.2.1 v.2.2.2.2.2.1 v.2.2.2.2.2.2.1 v.2.2.2.2.2.2.2.1 v.2.2.2.2.2.2.2.2.1 v.2.2.2.2.2.2.2.2.2.1 v.2.2.2.2.2.2.2.2.2.2.1 v.2.2.2.2.2.2.2.2.2.2.2.1 v.2.2.2.2.2.2.2.2.2.2.2.2.1 v.2.2.2.2.2.2.2.2.2.2.2.2.2.1 v.2.2.2.2.2.2.2.2.2.2.2.2.2.2.1 v.2.2.2.2.2.2.2.2.2.2.2.2.2.2.2.1 v.2.2.2.2.2.2.2.2.2.2.2.2.2.2.2.2.1 v.2.2.2.2.2.2.2.2.2.2.2.2.2.2.2.2.2.1 v.2.2.2.2.2.2.2.2.2.2.2.2.2.2.2.2.2.2.1 v.2.2.2.2.2.2.2.2.2.2.2.2.2.2.2.2.2.2.2.1 | none => loops n (RT clientClientDeliver.con.rs × BT clientClientDeliver.con.ps) false 55007 (evK clientClientDeliver.env (clientClientDeliver.lp n) n (sub [1, 1, 0, 0, 1, 1, 1, 1, 1] clientClientDeliver.body)) clientClientDeliver.nmj55007 K s) = _
  cases h : clientClientDeliver.shj55007.dec s with
  | none => rfl
  | some v =>
    rw [Shp.dec_enc h]
    kernel_rfl
theorem clientClientDeliver.atj37005 (n : Nat) (s : St) (K : Ex → St → Option (RT clientClientDeliver.con.rs × BT clientClientDeliver.con.ps)) : clientClientDeliver.lp n false 37005 (evK clientClientDeliver.env (clientClientDeliver.lp n) n (sub [1, 1, 0, 0, 1, 1, 1] clientClientDeliver.body)) clientClientDeliver.nmj37005 K s = loops n (RT clientClientDeliver.con.rs × BT clientClientDeliver.con.ps) false 37005 (evK clientClientDeliver.env (clientClientDeliver.lp n) n (sub [1, 1, 0, 0, 1, 1, 1] clientClientDeliver.body)) clientClientDeliver.nmj37005 K s := by
  show (match clientClientDeliver.shj37005.dec s with | some v => clientClientDeliver.j37005 n (fun w0 w1 w2 w3 w4 w5 w6 w7 w8 w9 w10 w11 w12 w13 w14 w15 w16 w17 => K .normal (clientClientDeliver.outj37005e0.enc (w0, w1, w2, w3, w4, w5, w6, w7, w8, w9, w10, w11, w12, w13, w14, w15, w16, w17, ()))) (fun w0 w1 w2 w3 w4 w5 w6 w7 w8 w9 w10 w11 w12 w13 w14 w15 w16 => K .ret (clientClientDeliver.outj37005e1.enc (w0, w1, w2, w3, w4, w5, w6, w7, w8, w9, w10, w11, w12, w13, w14, w15, w16, ()))) v.1 v.2.1 v.2.2.1 v.2.2.2.1 v.2.2.2.2.1 v.2.2.2.2.2.1 v.2.2.2.2.2.2.1 v.2.2.2.2.2.2.2.1 v.2.2.2.2.2.2.2.2.1 v.2.2.2.2.2.2.2.2.2.1 v.2.2.2.2.2.2.2.2.2.2.1 v.2.2.2.2.2.2.2.2.2.2.2.1 v.2.2.2.2.2.2.2.2.2.2.2.2.1 v.2.2.2.2.2.2.2.2.2.2.2.2.2.1 v.2.2.2.2.2.2.2.2.2.2.2.2.2.2.1 v.2.2.2.2.2.2.2.2.2.2.2.2.2.2.2.1 v.2.2.2.2.2.2.2.2.2.2.2.2.2.2.2.2.1 v.2.2.2.2.2.2.2.2.2.2.2.2.2.2.2.2.2.1 v.2.2.2.2.2.2.2.2.2.2.2.2.2.2.2.2.2.2.1 v.2.2.2.2.2.2.2.2.2.2.2.2.2.2.2.2.2.2.2.1 | none => loops n (RT clientClientDeliver.con.rs × BT clientClientDeliver.con.ps) false 37005 (evK clientClientDeliver.env (clientClientDeliver.lp n) n (sub [1, 1, 0, 0, 1, 1, 1] clientClientDeliver.body)) clientClientDeliver.nmj37005 K s) = _
  cases h : clientClientDeliver.shj37005.dec s with
  | none => rfl
  | some v =>
    rw [Shp.dec_enc h]
    kernel_rfl
theorem clientClientDeliver.atj14003 (n : Nat) (s : St) (K : Ex → St → Option (RT clientClientDeliver.con.rs × BT clientClientDeliver.con.ps)) : clientClientDeliver.lp n false 14003 (evK clientClientDeliver.env (clientClientDeliver.lp n) n (sub [1, 1, 0, 0, 1] clientClientDeliver.body)) clientClientDeliver.nmj14003 K s = loops n (RT clientClientDeliver.con.rs × BT clientClientDeliver.con.ps) false 14003 (evK clientClientDeliver.env (clientClientDeliver.lp n) n (sub [1, 1, 0, 0, 1] clientClientDeliver.body)) clientClientDeliver.nmj14003 K s := by
  show (match clientClientDeliver.shj14003.dec s with | some v => clientClientDeliver.j14003 n (fun w0 w1 w2 w3 w4 w5 w6 w7 w8 w9 w10 w11 w12 w13 w14 w15 w16 w17 => K .normal (clientClientDeliver.outj14003e0.enc (w0, w1, w2, w3, w4, w5, w6, w7, w8, w9, w10, w11, w12, w13, w14, w15, w16, w17, ()))) (fun w0 w1 w2 w3 w4 w5 w6 w7 w8 w9 w10 w11 w12 w13 w14 w15 w16 => K .ret (clientClientDeliver.outj14003e1.enc (w0, w1, w2, w3, w4, w5, w6, w7, w8, w9, w10, w11, w12, w13, w14, w15, w16, ()))) v.1 v.2.1 v.2.2.1 v.2.2.2.1 v.2.2.2.2.1 v.2.2.2.2.2.1 v.2.2.2.2.2.2.1 v.2.2.2.2.2.2.2.1 v.2.2.2.2.2.2.2.2.1 v.2.2.2.2.2.2.2.2.2.1 v.2.2.2.2.2.2.2.2.2.2.1 v.2.2.2.2.2.2.2.2.2.2.2.1 v.2.2.2.2.2.2.2.2.2.2.2.2.1 v.2.2.2.2.2.2.2.2.2.2.2.2.2.1 v.2.2.2.2.2.2.2.2.2.2.2.2.2.2.1 v.2.2.2.2.2.2.2.2.2.2.2.2.2.2.2.1 v.2.2.2.2.2.2.2.2.2.2.2.2.2.2.2.2.1 v.2.2.2.2.2.2.2.2.2.2.2.2.2.2.2.2.2.1 v.2.2.2.2.2.2.2.2.2.2.2.2.2.2.2.2.2.2.1 v.2.2.2.2.2.2.2.2.2.2.2.2.2.2.2.2.2.2.2.1 | none => loops n (RT clientClientDeliver.con.rs × BT clientClientDeliver.con.ps) false 14003 (evK clientClientDeliver.env (clientClientDeliver.lp n) n (sub [1, 1, 0, 0, 1] clientClientDeliver.body)) clientClientDeliver.nmj14003 K s) = _
  cases h : clientClientDeliver.shj14003.dec s with
  | none => rfl
  | some v =>
    rw [Shp.dec_enc h]
    kernel_rfl
theorem clientClientDeliver.atj11 (n : Nat) (s : St) (K : Ex → St → Option (RT clientClientDeliver.con.rs × BT clientClientDeliver.con.ps)) : clientClientDeliver.lp n false 11 (evK clientClientDeliver.env (clientClientDeliver.lp n) n (sub [1, 1, 1] clientClientDeliver.body)) clientClientDeliver.nmj11 K s = loops n (RT clientClientDeliver.con.rs × BT clientClientDeliver.con.ps) false 11 (evK clientClientDeliver.env (clientClientDeliver.lp n) n (sub [1, 1, 1] clientClientDeliver.body)) clientClientDeliver.nmj11 K s := by
  show (match clientClientDeliver.shj11.dec s with | some v => clientClientDeliver.j11 n (fun w0 w1 w2 w3 w4 w5 w6 w7 w8 w9 w10 w11 w12 w13 w14 w15 w16 => K .ret (clientClientDeliver.outj11e1.enc (w0, w1, w2, w3, w4, w5, w6, w7, w8, w9, w10, w11, w12, w13, w14, w15, w16, ()))) v.1 v.2.1 v.2.2.1 v.2.2.2.1 v.2.2.2.2.1 v.2.2.2.2.2.1 v.2.2.2.2.2.2.1 v.2.2.2.2.2.2.2.1 v.2.2.2.2.2.2.2.2.1 v.2.2.2.2.2.2.2.2.2.1 v.2.2.2.2.2.2.2.2.2.2.1 v.2.2.2.2.2.2.2.2.2.2.2.1 v.2.2.2.2.2.2.2.2.2.2.2.2.1 v.2.2.2.2.2.2.2.2.2.2.2.2.2.1 v.2.2.2.2.2.2.2.2.2.2.2.2.2.2.1 v.2.2.2.2.2.2.2.2.2.2.2.2.2.2.2.1 v.2.2.2.2.2.2.2.2.2.2.2.2.2.2.2.2.1 v.2.2.2.2.2.2.2.2.2.2.2.2.2.2.2.2.2.1 | none => loops n (RT clientClientDeliver.con.rs × BT clientClientDeliver.con.ps) false 11 (evK clientClientDeliver.env (clientClientDeliver.lp n) n (sub [1, 1, 1] clientClientDeliver.body)) clientClientDeliver.nmj11 K s) = _
  cases h : clientClientDeliver.shj11.dec s with
  | none => rfl
  | some v =>
    rw [Shp.dec_enc h]
    kernel_rfl
theorem clientClientDeliver.eq (n : Nat) (x : PT clientClientDeliver.con.ps) : evFuncO clientClientDeliver.env Try.f45 clientClientDeliver.body clientClientDeliver.con.ps clientClientDeliver.con.rs (clientClientDeliver.lp n) n x = clientClientDeliver.con.f n x := by kernel_rfl
theorem clientClientDeliver.sound : SoundO Try.prog globs 45 clientClientDeliver.con :=
  sound_byO (E := clientClientDeliver.env) (c := clientClientDeliver.body) (envOk (G := globs) (lc := [(59, clientMatch.con)]) (lo := [(44, [clientClientSay.con])]) (envB_spec (by kernel_rfl)) rfl rfl ⟨.inl ⟨clientMatch.sound, by kernel_rfl⟩, trivial⟩ rfl ⟨⟨⟨clientClientSay.sound, trivial⟩, by kernel_rfl⟩, trivial⟩ (by kernel_rfl) (by kernel_rfl)) Try.func45 (by kernel_rfl) (by kernel_rfl) (by kernel_rfl) clientClientDeliver.lp (l := [(false, sub [1, 1, 0, 0, 1, 1, 1, 1, 1] clientClientDeliver.body, clientClientDeliver.nmj55007), (false, sub [1, 1, 0, 0, 1, 1, 1] clientClientDeliver.body, clientClientDeliver.nmj37005), (false, sub [1, 1, 0, 0, 1] clientClientDeliver.body, clientClientDeliver.nmj14003), (false, sub [1, 1, 1] clientClientDeliver.body, clientClientDeliver.nmj11)]) (by kernel_rfl) (fun n => ⟨clientClientDeliver.atj55007 n, ⟨clientClientDeliver.atj37005 n, ⟨clientClientDeliver.atj14003 n, ⟨clientClientDeliver.atj11 n, trivial⟩⟩⟩⟩) clientClientDeliver.eq
noncomputable def clientClientHear.j54018 (fu : Nat) (k0 : Int → Int → (List Int) → Int → Bool → Bool → Int → Int → Bool → Bool → Bool → Int → (List S5) → S2 → Bool → Int → Int → S0 → Option (((List S0) × Unit) × (O6 × Unit))) (now : Int) (v : Bool) (c0 : Int) (c0x2 : List Int) (c0x3 : Int) (c0x4 : Bool) (c0x5 : Bool) (c0x6 : Int) (c0x7 : Int) (c0x8 : Bool) (c0x9 : Bool) (c0x10 : Bool) (c0x11 : Int) (c0x12 : List S5) (b1 : S2) (c1 : Bool) (c1x2 : Int) (c1x3 : Int) (b2 : S0) : Option (((List S0) × Unit) × (O6 × Unit)) :=
  cond v (
    k0 now c0 c0x2 c0x3 c0x4 true b2.2.2.1 c0x7 c0x8 c0x9 c0x10 c0x11 c0x12 b1 c1 c1x2 c1x3 b2) (
    k0 now c0 c0x2 c0x3 c0x4 c0x5 c0x6 c0x7 c0x8 c0x9 c0x10 c0x11 c0x12 b1 c1 c1x2 c1x3 b2)
noncomputable def clientClientHear.j19 (fu : Nat) (k1 : (List S0) → Int → (List Int) → Int → Bool → Bool → Int → Int → Bool → Bool → Bool → Int → (List S5) → S2 → Bool → Int → Int → Option (((List S0) × Unit) × (O6 × Unit))) (now : Int) (c0 : Int) (c0x2 : List Int) (c0x3 : Int) (c0x4 : Bool) (c0x5 : Bool) (c0x6 : Int) (c0x7 : Int) (c0x8 : Bool) (c0x9 : Bool) (c0x10 : Bool) (c0x11 : Int) (c0x12 : List S5) (b1 : S2) (c1 : Bool) (c1x2 : Int) (c1x3 : Int) (b2 : S0) : Option (((List S0) × Unit) × (O6 × Unit)) :=
  cond (!c0x5) (
    k1 [] c0 c0x2 c0x3 c0x4 c0x5 c0x6 c0x7 c0x8 c0x9 c0x10 c0x11 c0x12 b1 c1 c1x2 c1x3) (
    cond (b2.2.2.1 != c0x6) (
      k1 [] c0 c0x2 c0x3 c0x4 c0x5 c0x6 c0x7 c0x8 c0x9 c0x10 c0x11 c0x12 b1 c1 c1x2 c1x3) (
      cond (b2.1 == (2 : Int)) (
        (clientClientSay fu (c0, c0x2, c0x3, (b1, c1, c1x2, c1x3, ()), c0x4, c0x5, c0x6, c0x7, c0x8, c0x9, c0x10, now, c0x12, ()) (6 : Int) c0x7).bind fun r1 =>
        k1 r1.1.1 r1.2.1.1 r1.2.1.2.1 r1.2.1.2.2.1 r1.2.1.2.2.2.2.1 r1.2.1.2.2.2.2.2.1 r1.2.1.2.2.2.2.2.2.1 r1.2.1.2.2.2.2.2.2.2.1 r1.2.1.2.2.2.2.2.2.2.2.1 r1.2.1.2.2.2.2.2.2.2.2.2.1 r1.2.1.2.2.2.2.2.2.2.2.2.2.1 r1.2.1.2.2.2.2.2.2.2.2.2.2.2.1 r1.2.1.2.2.2.2.2.2.2.2.2.2.2.2.1 r1.2.1.2.2.2.1.1 r1.2.1.2.2.2.1.2.1 r1.2.1.2.2.2.1.2.2.1 r1.2.1.2.2.2.1.2.2.2.1) (
        cond (b2.1 == (5 : Int)) (
          (clientClientDeliver fu (c0, c0x2, c0x3, (b1, c1, c1x2, c1x3, ()), c0x4, c0x5, c0x6, c0x7, c0x8, c0x9, c0x10, now, c0x12, ()) b2).bind fun r2 =>
          k1 r2.1.1 r2.2.1.1 r2.2.1.2.1 r2.2.1.2.2.1 r2.2.1.2.2.2.2.1 r2.2.1.2.2.2.2.2.1 r2.2.1.2.2.2.2.2.2.1 r2.2.1.2.2.2.2.2.2.2.1 r2.2.1.2.2.2.2.2.2.2.2.1 r2.2.1.2.2.2.2.2.2.2.2.2.1 r2.2.1.2.2.2.2.2.2.2.2.2.2.1 r2.2.1.2.2.2.2.2.2.2.2.2.2.2.1 r2.2.1.2.2.2.2.2.2.2.2.2.2.2.2.1 r2.2.1.2.2.2.1.1 r2.2.1.2.2.2.1.2.1 r2.2.1.2.2.2.1.2.2.1 r2.2.1.2.2.2.1.2.2.2.1) (
          cond (b2.1 == (8 : Int)) (
            cond (b2.2.2.2.1 != c0x7) (
              (clientClientSay fu (c0, c0x2, c0x3, (b1, c1, c1x2, c1x3, ()), c0x4, c0x5, c0x6, c0x7, c0x8, c0x9, c0x10, now, c0x12, ()) (6 : Int) c0x7).bind fun r3 =>
              k1 r3.1.1 r3.2.1.1 r3.2.1.2.1 r3.2.1.2.2.1 r3.2.1.2.2.2.2.1 r3.2.1.2.2.2.2.2.1 r3.2.1.2.2.2.2.2.2.1 r3.2.1.2.2.2.2.2.2.2.1 r3.2.1.2.2.2.2.2.2.2.2.1 r3.2.1.2.2.2.2.2.2.2.2.2.1 r3.2.1.2.2.2.2.2.2.2.2.2.2.1 r3.2.1.2.2.2.2.2.2.2.2.2.2.2.1 r3.2.1.2.2.2.2.2.2.2.2.2.2.2.2.1 r3.2.1.2.2.2.1.1 r3.2.1.2.2.2.1.2.1 r3.2.1.2.2.2.1.2.2.1 r3.2.1.2.2.2.1.2.2.2.1) (
              (clientClientSay fu (c0, c0x2, c0x3, (b1, c1, c1x2, c1x3, ()), c0x4, c0x5, c0x6, c0x7, true, c0x9, c0x10, now, c0x12, ()) (9 : Int) b2.2.2.2.1).bind fun r4 =>
              k1 r4.1.1 r4.2.1.1 r4.2.1.2.1 r4.2.1.2.2.1 r4.2.1.2.2.2.2.1 r4.2.1.2.2.2.2.2.1 r4.2.1.2.2.2.2.2.2.1 r4.2.1.2.2.2.2.2.2.2.1 r4.2.1.2.2.2.2.2.2.2.2.1 r4.2.1.2.2.2.2.2.2.2.2.2.1 r4.2.1.2.2.2.2.2.2.2.2.2.2.1 r4.2.1.2.2.2.2.2.2.2.2.2.2.2.1 r4.2.1.2.2.2.2.2.2.2.2.2.2.2.2.1 r4.2.1.2.2.2.1.1 r4.2.1.2.2.2.1.2.1 r4.2.1.2.2.2.1.2.2.1 r4.2.1.2.2.2.1.2.2.2.1)) (
            cond (b2.1 == (17 : Int)) (
              k1 [] c0 c0x2 c0x3 c0x4 c0x5 c0x6 c0x7 c0x8 c0x9 true now c0x12 b1 c1 c1x2 c1x3) (
              k1 [] c0 c0x2 c0x3 c0x4 c0x5 c0x6 c0x7 c0x8 c0x9 c0x10 now c0x12 b1 c1 c1x2 c1x3))))))
noncomputable def clientClientHear (fu : Nat) (c : O6) (f : S0) (now : Int) : Option (((List S0) × Unit) × (O6 × Unit)) :=
  let t1 := decide (now > (1099511627776 : Int))
  cond t1 (
    some (([], ()), (c, ()))) (
    cond (f.1 == (13 : Int)) (
      let t2 := [((14 : Int), (0 : Int), (0 : Int), f.2.2.2.1, (0 : Int), [], ())]
      some ((t2, ()), ((c.1, c.2.1, c.2.2.1, c.2.2.2.1, c.2.2.2.2.1, c.2.2.2.2.2.1, c.2.2.2.2.2.2.1, c.2.2.2.2.2.2.2.1, c.2.2.2.2.2.2.2.2.1, c.2.2.2.2.2.2.2.2.2.1, c.2.2.2.2.2.2.2.2.2.2.1, now, c.2.2.2.2.2.2.2.2.2.2.2.2.1, ()), ()))) (
      cond (f.1 == (16 : Int)) (
        (clientClientBegins fu (c.1, c.2.1, c.2.2.1, c.2.2.2.1, c.2.2.2.2.1, c.2.2.2.2.2.1, c.2.2.2.2.2.2.1, c.2.2.2.2.2.2.2.1, c.2.2.2.2.2.2.2.2.1, c.2.2.2.2.2.2.2.2.2.1, c.2.2.2.2.2.2.2.2.2.2.1, now, c.2.2.2.2.2.2.2.2.2.2.2.2.1, ()) now).bind fun r3 =>
        some (([], ()), (r3.2.1, ()))) (
        cond (f.2.1 != c.1) (
          some (([], ()), (c, ()))) (
          cond (f.1 == (15 : Int)) (
            (clientClientBegins fu (c.1, c.2.1, c.2.2.1, c.2.2.2.1, c.2.2.2.2.1, c.2.2.2.2.2.1, c.2.2.2.2.2.2.1, c.2.2.2.2.2.2.2.1, c.2.2.2.2.2.2.2.2.1, c.2.2.2.2.2.2.2.2.2.1, c.2.2.2.2.2.2.2.2.2.2.1, now, c.2.2.2.2.2.2.2.2.2.2.2.2.1, ()) now).bind fun r4 =>
            some (([], ()), (r4.2.1, ()))) (
            cond (f.1 == (2 : Int)) (
              let t5 := decide (f.2.2.1 > c.2.2.2.2.2.2.1)
              clientClientHear.j54018 fu (fun nowq1 c0q1 c0q1x2 c0q1x3 c0q1x4 c0q1x5 c0q1x6 c0q1x7 c0q1x8 c0q1x9 c0q1x10 c0q1x11 c0q1x12 b1q1 c1q1 c1q1x2 c1q1x3 b2q1 => 
                  clientClientHear.j19 fu (fun vq2 c0q2 c0q2x2 c0q2x3 c0q2x4 c0q2x5 c0q2x6 c0q2x7 c0q2x8 c0q2x9 c0q2x10 c0q2x11 c0q2x12 b1q2 c1q2 c1q2x2 c1q2x3 => 
                      some ((vq2, ()), ((c0q2, c0q2x2, c0q2x3, (b1q2, c1q2, c1q2x2, c1q2x3, ()), c0q2x4, c0q2x5, c0q2x6, c0q2x7, c0q2x8, c0q2x9, c0q2x10, c0q2x11, c0q2x12, ()), ()))) nowq1 c0q1 c0q1x2 c0q1x3 c0q1x4 c0q1x5 c0q1x6 c0q1x7 c0q1x8 c0q1x9 c0q1x10 c0q1x11 c0q1x12 b1q1 c1q1 c1q1x2 c1q1x3 b2q1) now t5 c.1 c.2.1 c.2.2.1 c.2.2.2.2.1 c.2.2.2.2.2.1 c.2.2.2.2.2.2.1 c.2.2.2.2.2.2.2.1 c.2.2.2.2.2.2.2.2.1 c.2.2.2.2.2.2.2.2.2.1 c.2.2.2.2.2.2.2.2.2.2.1 c.2.2.2.2.2.2.2.2.2.2.2.1 c.2.2.2.2.2.2.2.2.2.2.2.2.1 c.2.2.2.1.1 c.2.2.2.1.2.1 c.2.2.2.1.2.2.1 c.2.2.2.1.2.2.2.1 f) (
              clientClientHear.j54018 fu (fun nowq3 c0q3 c0q3x2 c0q3x3 c0q3x4 c0q3x5 c0q3x6 c0q3x7 c0q3x8 c0q3x9 c0q3x10 c0q3x11 c0q3x12 b1q3 c1q3 c1q3x2 c1q3x3 b2q3 => 
                  clientClientHear.j19 fu (fun vq4 c0q4 c0q4x2 c0q4x3 c0q4x4 c0q4x5 c0q4x6 c0q4x7 c0q4x8 c0q4x9 c0q4x10 c0q4x11 c0q4x12 b1q4 c1q4 c1q4x2 c1q4x3 => 
                      some ((vq4, ()), ((c0q4, c0q4x2, c0q4x3, (b1q4, c1q4, c1q4x2, c1q4x3, ()), c0q4x4, c0q4x5, c0q4x6, c0q4x7, c0q4x8, c0q4x9, c0q4x10, c0q4x11, c0q4x12, ()), ()))) nowq3 c0q3 c0q3x2 c0q3x3 c0q3x4 c0q3x5 c0q3x6 c0q3x7 c0q3x8 c0q3x9 c0q3x10 c0q3x11 c0q3x12 b1q3 c1q3 c1q3x2 c1q3x3 b2q3) now false c.1 c.2.1 c.2.2.1 c.2.2.2.2.1 c.2.2.2.2.2.1 c.2.2.2.2.2.2.1 c.2.2.2.2.2.2.2.1 c.2.2.2.2.2.2.2.2.1 c.2.2.2.2.2.2.2.2.2.1 c.2.2.2.2.2.2.2.2.2.2.1 c.2.2.2.2.2.2.2.2.2.2.2.1 c.2.2.2.2.2.2.2.2.2.2.2.2.1 c.2.2.2.1.1 c.2.2.2.1.2.1 c.2.2.2.1.2.2.1 c.2.2.2.1.2.2.2.1 f))))))

noncomputable def clientClientHear.body : Code := Try.f16.body.getD .skip
abbrev clientClientHear.shj54018 : Shp := ⟨[.p 0 0, .u, .d (.int .u64), .u, .p 2 0, .u, .u, .u, .u, .u, .u, .u, .u, .u, .u, .u, .u, .u, .u, .u, .u, .u, .u, .u, .u, .u, .u, .u, .u, .u, .u, .u, .u, .u, .u, .u, .u, .u, .u, .u, .u, .u, .u, .u, .u, .u, .u, .u, .u, .u, .u, .u, .u, .d .bool, .u, .u, .u, .u, .u, .u, .u, .u, .u, .u, .u, .u, .u, .u, .u, .u, .u, .u, .u, .u, .u, .u, .u, .u, .u, .u, .u, .u, .u, .u, .u, .u, .u, .u, .u, .u, .u, .u, .u, .u, .u, .u, .u, .u, .u, .u, .u, .u, .u, .u, .u, .u, .u, .u, .u, .u, .u, .u, .u, .u, .u, .u, .u, .u, .u, .u, .u, .u, .u, .u, .u, .u, .u, .u, .u, .u, .u, .u, .u, .u], [[.d (.int .u32), .d (.slice (.int .u8)), .d (.int .u64), .p 1 0, .d .bool, .d .bool, .d (.int .u32), .d (.int .u64), .d .bool, .d .bool, .d .bool, .d (.int .u64), .o 1012 kS5], [.g kS2, .d .bool, .d (.int .u32), .d (.int .u64)], [.g kS0]]⟩
abbrev clientClientHear.outj54018e0 : Shp := ⟨[.p 0 0, .u, .d (.int .u64), .u, .p 2 0, .u, .u, .u, .u, .u, .u, .u, .u, .u, .u, .u, .u, .u, .u, .u, .u, .u, .u, .u, .u, .u, .u, .u, .u, .u, .u, .u, .u, .u, .u, .u, .u, .u, .u, .u, .u, .u, .u, .u, .u, .u, .u, .u, .u, .u, .u, .u, .u, .u, .u, .u, .u, .u, .u, .u, .u, .u, .u, .u, .u, .u, .u, .u, .u, .u, .u, .u, .u, .u, .u, .u, .u, .u, .u, .u, .u, .u, .u, .u, .u, .u, .u, .u, .u, .u, .u, .u, .u, .u, .u, .u, .u, .u, .u, .u, .u, .u, .u, .u, .u, .u, .u, .u, .u, .u, .u, .u, .u, .u, .u, .u, .u, .u, .u, .u, .u, .u, .u, .u, .u, .u, .u, .u, .u, .u, .u, .u, .u, .u], [[.d (.int .u32), .d (.slice (.int .u8)), .d (.int .u64), .p 1 0, .d .bool, .d .bool, .d (.int .u32), .d (.int .u64), .d .bool, .d .bool, .d .bool, .d (.int .u64), .o 1012 kS5], [.g kS2, .d .bool, .d (.int .u32), .d (.int .u64)], [.g kS0]]⟩
noncomputable def clientClientHear.nmj54018 : Norm := ⟨{ keep := [0, 2, 4, 53], shut := [(2, (.int .u64)), (53, .bool)], retag := [], heap := 3, dead := [], cshut := [(0, 0, (.int .u32)), (0, 1, (.slice (.int .u8))), (0, 2, (.int .u64)), (0, 4, .bool), (0, 5, .bool), (0, 6, (.int .u32)), (0, 7, (.int .u64)), (0, 8, .bool), (0, 9, .bool), (0, 10, .bool), (0, 11, (.int .u64)), (1, 0, (.int .u32)), (1, 1, (.int .u32)), (1, 2, (.int .u32)), (1, 3, .bool), (1, 4, (.int .u32)), (1, 5, (.int .u64)), (2, 0, (.int .u8)), (2, 1, (.int .u32)), (2, 2, (.int .u32)), (2, 3, (.int .u64)), (2, 4, (.int .u64)), (2, 5, (.slice (.int .u8)))], cretag := [(0, 12, 1012, kS5)] }, [(0, { keep := [0, 2, 4], shut := [(2, (.int .u64))], retag := [], heap := 3, dead := [], cshut := [(0, 0, (.int .u32)), (0, 1, (.slice (.int .u8))), (0, 2, (.int .u64)), (0, 4, .bool), (0, 5, .bool), (0, 6, (.int .u32)), (0, 7, (.int .u64)), (0, 8, .bool), (0, 9, .bool), (0, 10, .bool), (0, 11, (.int .u64)), (1, 0, (.int .u32)), (1, 1, (.int .u32)), (1, 2, (.int .u32)), (1, 3, .bool), (1, 4, (.int .u32)), (1, 5, (.int .u64)), (2, 0, (.int .u8)), (2, 1, (.int .u32)), (2, 2, (.int .u32)), (2, 3, (.int .u64)), (2, 4, (.int .u64)), (2, 5, (.slice (.int .u8)))], cretag := [(0, 12, 1012, kS5)] })]⟩
abbrev clientClientHear.shj19 : Shp := ⟨[.p 0 0, .u, .d (.int .u64), .u, .p 2 0, .u, .u, .u, .u, .u, .u, .u, .u, .u, .u, .u, .u, .u, .u, .u, .u, .u, .u, .u, .u, .u, .u, .u, .u, .u, .u, .u, .u, .u, .u, .u, .u, .u, .u, .u, .u, .u, .u, .u, .u, .u, .u, .u, .u, .u, .u, .u, .u, .u, .u, .u, .u, .u, .u, .u, .u, .u, .u, .u, .u, .u, .u, .u, .u, .u, .u, .u, .u, .u, .u, .u, .u, .u, .u, .u, .u, .u, .u, .u, .u, .u, .u, .u, .u, .u, .u, .u, .u, .u, .u, .u, .u, .u, .u, .u, .u, .u, .u, .u, .u, .u, .u, .u, .u, .u, .u, .u, .u, .u, .u, .u, .u, .u, .u, .u, .u, .u, .u, .u, .u, .u, .u, .u, .u, .u, .u, .u, .u, .u], [[.d (.int .u32), .d (.slice (.int .u8)), .d (.int .u64), .p 1 0, .d .bool, .d .bool, .d (.int .u32), .d (.int .u64), .d .bool, .d .bool, .d .bool, .d (.int .u64), .o 1012 kS5], [.g kS2, .d .bool, .d (.int .u32), .d (.int .u64)], [.g kS0]]⟩
abbrev clientClientHear.outj19e1 : Shp := ⟨[.u, .u, .u, .u, .u, .u, .d (.slice kS0), .u, .u, .u, .u, .u, .u, .u, .u, .u, .u, .u, .u, .u, .u, .u, .u, .u, .u, .u, .u, .u, .u, .u, .u, .u, .u, .u, .u, .u, .u, .u, .u, .u, .u, .u, .u, .u, .u, .u, .u, .u, .u, .u, .u, .u, .u, .u, .u, .u, .u, .u, .u, .u, .u, .u, .u, .u, .u, .u, .u, .u, .u, .u, .u, .u, .u, .u, .u, .u, .u, .u, .u, .u, .u, .u, .u, .u, .u, .u, .u, .u, .u, .u, .u, .u, .u, .u, .u, .u, .u, .u, .u, .u, .u, .u, .u, .u, .u, .u, .u, .u, .u, .u, .u, .u, .u, .u, .u, .u, .u, .u, .u, .u, .u, .u, .u, .u, .u, .u, .u, .u, .u, .u, .u, .u, .u, .u], [[.d (.int .u32), .d (.slice (.int .u8)), .d (.int .u64), .p 1 0, .d .bool, .d .bool, .d (.int .u32), .d (.int .u64), .d .bool, .d .bool, .d .bool, .d (.int .u64), .o 1012 kS5], [.g kS2, .d .bool, .d (.int .u32), .d (.int .u64)]]⟩
noncomputable def clientClientHear.nmj19 : Norm := ⟨{ keep := [0, 2, 4], shut := [(2, (.int .u64))], retag := [], heap := 3, dead := [], cshut := [(0, 0, (.int .u32)), (0, 1, (.slice (.int .u8))), (0, 2, (.int .u64)), (0, 4, .bool), (0, 5, .bool), (0, 6, (.int .u32)), (0, 7, (.int .u64)), (0, 8, .bool), (0, 9, .bool), (0, 10, .bool), (0, 11, (.int .u64)), (1, 0, (.int .u32)), (1, 1, (.int .u32)), (1, 2, (.int .u32)), (1, 3, .bool), (1, 4, (.int .u32)), (1, 5, (.int .u64)), (2, 0, (.int .u8)), (2, 1, (.int .u32)), (2, 2, (.int .u32)), (2, 3, (.int .u64)), (2, 4, (.int .u64)), (2, 5, (.slice (.int .u8)))], cretag := [(0, 12, 1012, kS5)] }, [(1, { keep := [6], shut := [(6, (.slice kS0))], retag := [], heap := 2, dead := [], cshut := [(0, 0, (.int .u32)), (0, 1, (.slice (.int .u8))), (0, 2, (.int .u64)), (0, 4, .bool), (0, 5, .bool), (0, 6, (.int .u32)), (0, 7, (.int .u64)), (0, 8, .bool), (0, 9, .bool), (0, 10, .bool), (0, 11, (.int .u64)), (1, 0, (.int .u32)), (1, 1, (.int .u32)), (1, 2, (.int .u32)), (1, 3, .bool), (1, 4, (.int .u32)), (1, 5, (.int .u64))], cretag := [(0, 12, 1012, kS5)] })]⟩
noncomputable def clientClientHear.con : OCon := { ps := [.obj kO6, .dat kS0, .dat (.int .u64)], rs := [.dat (.slice kS0)], f := fun n x => clientClientHear n x.1 x.2.1 x.2.2.1 }
noncomputable def clientClientHear.env : Env := { tys := [(37, ⟨kS0, 56⟩), (41, ⟨(.slice kS0), 24⟩), (5, ⟨(.int .u8), 1⟩), (98, ⟨kS8, 104⟩), (34, ⟨(.int .u64), 8⟩), (22, ⟨(.int .u32), 4⟩), (4, ⟨.bool, 1⟩)], elems := [(41, 37)], ptrs := [(26, 98)], cons := [], objs := [(41, [clientClientBegins.con]), (44, [clientClientSay.con]), (45, [clientClientDeliver.con])], loops := [], cuts := [(54018, clientClientHear.nmj54018), (19, clientClientHear.nmj19)], globs := globs, base := 2 }
noncomputable def clientClientHear.lp (n : Nat) : LP (RT clientClientHear.con.rs × BT clientClientHear.con.ps) := fun lo κ body nm K s =>
  cond (!lo && Nat.beq κ 54018)
    (match clientClientHear.shj54018.dec s with
    | some v => clientClientHear.j54018 n (fun w0 w1 w2 w3 w4 w5 w6 w7 w8 w9 w10 w11 w12 w13 w14 w15 w16 w17 => K .normal (clientClientHear.outj54018e0.enc (w0, w1, w2, w3, w4, w5, w6, w7, w8, w9, w10, w11, w12, w13, w14, w15, w16, w17, ()))) v.1 v.2.1 v.2.2.1 v.2.2.2.1 v.2.2.2.2.1 v.2.2.2.2.2.1 v.2.2.2.2.2.2.1 v.2.2.2.2.2.2.2.1 v.2.2.2.2.2.2.2.2.1 v.2.2.2.2.2.2.2.2.2.1 v.2.2.2.2.2.2.2.2.2.2.1 v.2.2.2.2.2.2.2.2.2.2.2.1 v.2.2.2.2.2.2.2.2.2.2.2.2.1 v.2.2.2.2.2.2.2.2.2.2.2.2.2.1 v.2.2.2.2.2.2.2.2.2.2.2.2.2.2.1 v.2.2.2.2.2.2.2.2.2.2.2.2.2.2.2.1 v.2.2.2.2.2.2.2.2.2.2.2.2.2.2.2.2.1 v.2.2.2.2.2.2.2.2.2.2.2.2.2.2.2.2.2.1 v.2.2.2.2.2.2.2.2.2.2.2.2.2.2.2.2.2.2.1
    | none => loops n (RT clientClientHear.con.rs × BT clientClientHear.con.ps) lo κ body nm K s)
    (cond (!lo && Nat.beq κ 19)
    (match clientClientHear.shj19.dec s with
    | some v => clientClientHear.j19 n (fun w0 w1 w2 w3 w4 w5 w6 w7 w8 w9 w10 w11 w12 w13 w14 w15 w16 => K .ret (clientClientHear.outj19e1.enc (w0, w1, w2, w3, w4, w5, w6, w7, w8, w9, w10, w11, w12, w13, w14, w15, w16, ()))) v.1 v.2.1 v.2.2.1 v.2.2.2.1 v.2.2.2.2.1 v.2.2.2.2.2.1 v.2.2.2.2.2.2.1 v.2.2.2.2.2.2.2.1 v.2.2.2.2.2.2.2.2.1 v.2.2.2.2.2.2.2.2.2.1 v.2.2.2.2.2.2.2.2.2.2.1 v.2.2.2.2.2.2.2.2.2.2.2.1 v.2.2.2.2.2.2.2.2.2.2.2.2.1 v.2.2.2.2.2.2.2.2.2.2.2.2.2.1 v.2.2.2.2.2.2.2.2.2.2.2.2.2.2.1 v.2.2.2.2.2.2.2.2.2.2.2.2.2.2.2.1 v.2.2.2.2.2.2.2.2.2.2.2.2.2.2.2.2.1 v.2.2.2.2.2.2.2.2.2.2.2.2.2.2.2.2.2.1
    | none => loops n (RT clientClientHear.con.rs × BT clientClientHear.con.ps) lo κ body nm K s)
    (loops n (RT clientClientHear.con.rs × BT clientClientHear.con.ps) lo κ body nm K s))
theorem clientClientHear.atj54018 (n : Nat) (s : St) (K : Ex → St → Option (RT clientClientHear.con.rs × BT clientClientHear.con.ps)) : clientClientHear.lp n false 54018 (evK clientClientHear.env (clientClientHear.lp n) n (sub [1, 1, 1, 0, 0, 1, 1, 1, 1, 1] clientClientHear.body)) clientClientHear.nmj54018 K s = loops n (RT clientClientHear.con.rs × BT clientClientHear.con.ps) false 54018 (evK clientClientHear.env (clientClientHear.lp n) n (sub [1, 1, 1, 0, 0, 1, 1, 1, 1, 1] clientClientHear.body)) clientClientHear.nmj54018 K s := by
  show (match clientClientHear.shj54018.dec s with | some v => clientClientHear.j54018 n (fun w0 w1 w2 w3 w4 w5 w6 w7 w8 w9 w10 w11 w12 w13 w14 w15 w16 w17 => K .normal (clientClientHear.outj54018e0.enc (w0, w1, w2, w3, w4, w5, w6, w7, w8, w9, w10, w11, w12, w13, w14, w15, w16, w17, ()))) v.1 v.2.1 v.2.2.1 v.2.2.2.1 v.2.2.2.2.1 v.2.2.2.2.2.1 v.2.2.2.2.2.2.1 v.2.2.2.2.2.2.2.1 v.2.2.2.2.2.2.2.2.1 v.2.2.2.2.2.2.2.2.2.1 v.2.2.2.2.2.2.2.2.2.2.1 v.2.2.2.2.2.2.2.2.2.2.2.1 v.2.2.2.2.2.2.2.2.2.2.2.2.1 v.2.2.2.2.2.2.2.2.2.2.2.2.2.1 v.2.2.2.2.2.2.2.2.2.2.2.2.2.2.1 v.2.2.2.2.2.2.2.2.2.2.2.2.2.2.2.1 v.2.2.2.2.2.2.2.2.2.2.2.2.2.2.2.2.1 v.2.2.2.2.2.2.2.2.2.2.2.2.2.2.2.2.2.1 v.2.2.2.2.2.2.2.2.2.2.2.2.2.2.2.2.2.2.1 | none => loops n (RT clientClientHear.con.rs × BT clientClientHear.con.ps) false 54018 (evK clientClientHear.env (clientClientHear.lp n) n (sub [1, 1, 1, 0, 0, 1, 1, 1, 1, 1] clientClientHear.body)) clientClientHear.nmj54018 K s) = _
  cases h : clientClientHear.shj54018.dec s with
  | none => rfl
  | some v =>
    rw [Shp.dec_enc h]
    kernel_rfl
theorem clientClientHear.atj19 (n : Nat) (s : St) (K : Ex → St → Option (RT clientClientHear.con.rs × BT clientClientHear.con.ps)) : clientClientHear.lp n false 19 (evK clientClientHear.env (clientClientHear.lp n) n (sub [1, 1, 1, 1] clientClientHear.body)) clientClientHear.nmj19 K s = loops n (RT clientClientHear.con.rs × BT clientClientHear.con.ps) false 19 (evK clientClientHear.env (clientClientHear.lp n) n (sub [1, 1, 1, 1] clientClientHear.body)) clientClientHear.nmj19 K s := by
  show (match clientClientHear.shj19.dec s with | some v => clientClientHear.j19 n (fun w0 w1 w2 w3 w4 w5 w6 w7 w8 w9 w10 w11 w12 w13 w14 w15 w16 => K .ret (clientClientHear.outj19e1.enc (w0, w1, w2, w3, w4, w5, w6, w7, w8, w9, w10, w11, w12, w13, w14, w15, w16, ()))) v.1 v.2.1 v.2.2.1 v.2.2.2.1 v.2.2.2.2.1 v.2.2.2.2.2.1 v.2.2.2.2.2.2.1 v.2.2.2.2.2.2.2.1 v.2.2.2.2.2.2.2.2.1 v.2.2.2.2.2.2.2.2.2.1 v.2.2.2.2.2.2.2.2.2.2.1 v.2.2.2.2.2.2.2.2.2.2.2.1 v.2.2.2.2.2.2.2.2.2.2.2.2.1 v.2.2.2.2.2.2.2.2.2.2.2.2.2.1 v.2.2.2.2.2.2.2.2.2.2.2.2.2.2.1 v.2.2.2.2.2.2.2.2.2.2.2.2.2.2.2.1 v.2.2.2.2.2.2.2.2.2.2.2.2.2.2.2.2.1 v.2.2.2.2.2.2.2.2.2.2.2.2.2.2.2.2.2.1 | none => loops n (RT clientClientHear.con.rs × BT clientClientHear.con.ps) false 19 (evK clientClientHear.env (clientClientHear.lp n) n (sub [1, 1, 1, 1] clientClientHear.body)) clientClientHear.nmj19 K s) = _
  cases h : clientClientHear.shj19.dec s with
  | none => rfl
  | some v =>
    rw [Shp.dec_enc h]
    kernel_rfl
theorem clientClientHear.eq (n : Nat) (x : PT clientClientHear.con.ps) : evFuncO clientClientHear.env Try.f16 clientClientHear.body clientClientHear.con.ps clientClientHear.con.rs (clientClientHear.lp n) n x = clientClientHear.con.f n x := by kernel_rfl
theorem clientClientHear.sound : SoundO Try.prog globs 16 clientClientHear.con :=
  sound_byO (E := clientClientHear.env) (c := clientClientHear.body) (envOk (G := globs) (lc := []) (lo := [(41, [clientClientBegins.con]), (44, [clientClientSay.con]), (45, [clientClientDeliver.con])]) (envB_spec (by kernel_rfl)) rfl rfl trivial rfl ⟨⟨⟨clientClientBegins.sound, trivial⟩, by kernel_rfl⟩, ⟨⟨⟨clientClientSay.sound, trivial⟩, by kernel_rfl⟩, ⟨⟨⟨clientClientDeliver.sound, trivial⟩, by kernel_rfl⟩, trivial⟩⟩⟩ (by kernel_rfl) (by kernel_rfl)) Try.func16 (by kernel_rfl) (by kernel_rfl) (by kernel_rfl) clientClientHear.lp (l := [(false, sub [1, 1, 1, 0, 0, 1, 1, 1, 1, 1] clientClientHear.body, clientClientHear.nmj54018), (false, sub [1, 1, 1, 1] clientClientHear.body, clientClientHear.nmj19)]) (by kernel_rfl) (fun n => ⟨clientClientHear.atj54018 n, ⟨clientClientHear.atj19 n, trivial⟩⟩) clientClientHear.eq
noncomputable def ref20Same (fu : Nat) (a : S0) (b : S0) : Option (Bool × Unit) :=
  cond (a.1 == b.1) (
    cond (a.2.1 == b.2.1) (
      cond (a.2.2.1 == b.2.2.1) (
        cond (a.2.2.2.1 == b.2.2.2.1) (
          let t1 := a.2.2.2.2.1 == b.2.2.2.2.1
          cond t1 (
            let t2 := a.2.2.2.2.2.1 == b.2.2.2.2.2.1
            some (t2, ())) (
            some (false, ()))) (
          some (false, ()))) (
        some (false, ()))) (
      some (false, ()))) (
    some (false, ()))

noncomputable def ref20Same.body : Code := Try.f55.body.getD .skip
noncomputable def ref20Same.con : Con := { ps := [kS0, kS0], rs := [.bool], f := fun n x => ref20Same n x.1 x.2.1 }
noncomputable def ref20Same.env : Env := { tys := [(37, ⟨kS0, 56⟩), (4, ⟨.bool, 1⟩), (5, ⟨(.int .u8), 1⟩), (22, ⟨(.int .u32), 4⟩), (34, ⟨(.int .u64), 8⟩), (35, ⟨(.slice (.int .u8)), 24⟩), (9, ⟨.str, 16⟩)], elems := [(35, 5)], ptrs := [], cons := [], objs := [], loops := [], cuts := [], globs := globs, base := 0 }
noncomputable def ref20Same.lp (n : Nat) : LP (Kd.struct ref20Same.con.rs).T := fun lo κ body nm K s =>
  loops n (Kd.struct ref20Same.con.rs).T lo κ body nm K s
theorem ref20Same.eq (n : Nat) (x : (Kd.struct ref20Same.con.ps).T) : evFunc ref20Same.env Try.f55 ref20Same.body ref20Same.con.ps ref20Same.con.rs (ref20Same.lp n) n x = ref20Same.con.f n x := by kernel_rfl
theorem ref20Same.sound : Sound Try.prog globs 55 ref20Same.con :=
  sound_by (E := ref20Same.env) (c := ref20Same.body) (envOk (G := globs) (lc := []) (lo := []) (envB_spec (by kernel_rfl)) rfl rfl trivial rfl trivial (by kernel_rfl) (by kernel_rfl)) Try.func55 (by kernel_rfl) ref20Same.lp (l := []) (by kernel_rfl) (fun n => trivial) ref20Same.eq
noncomputable def ref20SameAll.b4 (fu : Nat) (next : (List S0) → (List S0) → Int → Int → Option (Bool × Unit)) (k1 : Bool → Option (Bool × Unit)) (k2 : Unit → Option (Bool × Unit)) (a : List S0) (b : List S0) (v : Int) (vx2 : Int) : Option (Bool × Unit) :=
  cond (decide (vx2 < v)) (
    chk (ixOk a vx2) <|
    let e1 := ixL ((0 : Int), (0 : Int), (0 : Int), (0 : Int), (0 : Int), [], ()) a vx2
    chk (ixOk b vx2) <|
    let e2 := ixL ((0 : Int), (0 : Int), (0 : Int), (0 : Int), (0 : Int), [], ()) b vx2
    (ref20Same fu e1 e2).bind fun r3 =>
    cond (!r3.1) (
      k1 false) (
      let t4 := IntKind.i64.wrap (vx2 + (1 : Int))
      next a b v t4)) (
    k2 ())
noncomputable def ref20SameAll.l4 (fu : Nat) (k1 : Bool → Option (Bool × Unit)) (k2 : Unit → Option (Bool × Unit)) : Nat → (List S0) → (List S0) → Int → Int → Option (Bool × Unit)
  | 0, _, _, _, _ => none
  | m + 1, a, b, v, vx2 => ref20SameAll.b4 fu (ref20SameAll.l4 fu k1 k2 m) k1 k2 a b v vx2
noncomputable def ref20SameAll (fu : Nat) (a : List S0) (b : List S0) : Option (Bool × Unit) :=
  let t1 := (a.length : Int) != (b.length : Int)
  cond t1 (
    some (false, ())) (
    ref20SameAll.l4 fu (fun vq3 => 
        some (vq3, ())) (fun (_ : Unit) => 
        some (true, ())) fu a b (a.length : Int) (0 : Int))

noncomputable def ref20SameAll.body : Code := Try.f35.body.getD .skip
abbrev ref20SameAll.shl4 : Shp := ⟨[.d (.slice kS0), .d (.slice kS0), .u, .u, .u, .u, .u, .u, .u, .u, .u, .u, .d (.int .i64), .d (.int .i64), .u, .u, .u, .u, .u, .u, .u, .u, .u, .u, .u, .u, .u], []⟩
abbrev ref20SameAll.outl4e1 : Shp := ⟨[.u, .u, .u, .u, .d .bool, .u, .u, .u, .u, .u, .u, .u, .u, .u, .u, .u, .u, .u, .u, .u, .u, .u, .u, .u, .u, .u, .u], []⟩
abbrev ref20SameAll.outl4e2 : Shp := ⟨[.u, .u, .u, .u, .u, .u, .u, .u, .u, .u, .u, .u, .u, .u, .u, .u, .u, .u, .u, .u, .u, .u, .u, .u, .u, .u, .u], []⟩
noncomputable def ref20SameAll.nml4 : Norm := ⟨{ keep := [0, 1, 12, 13], shut := [(0, (.slice kS0)), (1, (.slice kS0)), (12, (.int .i64)), (13, (.int .i64))], retag := [], heap := 0, dead := [], cshut := [], cretag := [] }, [(1, { keep := [4], shut := [(4, .bool)], retag := [], heap := 0, dead := [], cshut := [], cretag := [] }), (2, { keep := [], shut := [], retag := [], heap := 0, dead := [], cshut := [], cretag := [] })]⟩
noncomputable def ref20SameAll.con : Con := { ps := [(.slice kS0), (.slice kS0)], rs := [.bool], f := fun n x => ref20SameAll n x.1 x.2.1 }
noncomputable def ref20SameAll.env : Env := { tys := [(4, ⟨.bool, 1⟩), (37, ⟨kS0, 56⟩), (3, ⟨(.int .i64), 8⟩)], elems := [(41, 37)], ptrs := [], cons := [(55, ref20Same.con)], objs := [], loops := [(4, ref20SameAll.nml4)], cuts := [], globs := globs, base := 0 }
noncomputable def ref20SameAll.lp (n : Nat) : LP (Kd.struct ref20SameAll.con.rs).T := fun lo κ body nm K s =>
  cond (lo && Nat.beq κ 4)
    (match ref20SameAll.shl4.dec s with
    | some v => ref20SameAll.l4 n (fun w0 => K .ret (ref20SameAll.outl4e1.enc (w0, ()))) (fun _ => K (.exit 0) (ref20SameAll.outl4e2.enc (()))) n v.1 v.2.1 v.2.2.1 v.2.2.2.1
    | none => loops n (Kd.struct ref20SameAll.con.rs).T lo κ body nm K s)
    (loops n (Kd.struct ref20SameAll.con.rs).T lo κ body nm K s)
theorem ref20SameAll.atl4 (n : Nat) (s : St) (K : Ex → St → Option (Kd.struct ref20SameAll.con.rs).T) : ref20SameAll.lp n true 4 (evK ref20SameAll.env (ref20SameAll.lp n) n (sub [1, 1, 0, 1, 0, 0] ref20SameAll.body)) ref20SameAll.nml4 K s = loops n (Kd.struct ref20SameAll.con.rs).T true 4 (evK ref20SameAll.env (ref20SameAll.lp n) n (sub [1, 1, 0, 1, 0, 0] ref20SameAll.body)) ref20SameAll.nml4 K s := by
  show (match ref20SameAll.shl4.dec s with | some v => ref20SameAll.l4 n (fun w0 => K .ret (ref20SameAll.outl4e1.enc (w0, ()))) (fun _ => K (.exit 0) (ref20SameAll.outl4e2.enc (()))) n v.1 v.2.1 v.2.2.1 v.2.2.2.1 | none => loops n (Kd.struct ref20SameAll.con.rs).T true 4 (evK ref20SameAll.env (ref20SameAll.lp n) n (sub [1, 1, 0, 1, 0, 0] ref20SameAll.body)) ref20SameAll.nml4 K s) = _
  cases h : ref20SameAll.shl4.dec s with
  | none => rfl
  | some v =>
    rw [Shp.dec_enc h]
    exact (evLoop_eq (sh := ref20SameAll.shl4) (body := evK ref20SameAll.env (ref20SameAll.lp n) n (sub [1, 1, 0, 1, 0, 0] ref20SameAll.body)) (nm := ref20SameAll.nml4) (K := K) (b := fun nx v => ref20SameAll.b4 n (fun x0 x1 x2 x3 => nx (x0, x1, x2, x3, ())) (fun w0 => K .ret (ref20SameAll.outl4e1.enc (w0, ()))) (fun _ => K (.exit 0) (ref20SameAll.outl4e2.enc (()))) v.1 v.2.1 v.2.2.1 v.2.2.2.1) (l := fun m v => ref20SameAll.l4 n (fun w0 => K .ret (ref20SameAll.outl4e1.enc (w0, ()))) (fun _ => K (.exit 0) (ref20SameAll.outl4e2.enc (()))) m v.1 v.2.1 v.2.2.1 v.2.2.2.1) (fun _ => rfl) (fun _ _ => rfl) (fun m v => by kernel_rfl) n v).symm
theorem ref20SameAll.eq (n : Nat) (x : (Kd.struct ref20SameAll.con.ps).T) : evFunc ref20SameAll.env Try.f35 ref20SameAll.body ref20SameAll.con.ps ref20SameAll.con.rs (ref20SameAll.lp n) n x = ref20SameAll.con.f n x := by kernel_rfl
theorem ref20SameAll.sound : Sound Try.prog globs 35 ref20SameAll.con :=
  sound_by (E := ref20SameAll.env) (c := ref20SameAll.body) (envOk (G := globs) (lc := [(55, ref20Same.con)]) (lo := []) (envB_spec (by kernel_rfl)) rfl rfl ⟨.inl ⟨ref20Same.sound, by kernel_rfl⟩, trivial⟩ rfl trivial (by kernel_rfl) (by kernel_rfl)) Try.func35 (by kernel_rfl) ref20SameAll.lp (l := [(true, sub [1, 1, 0, 1, 0, 0] ref20SameAll.body, ref20SameAll.nml4)]) (by kernel_rfl) (fun n => ⟨ref20SameAll.atl4 n, trivial⟩) ref20SameAll.eq
noncomputable def slicesCloneF46 (fu : Nat) (sv : List S5) : Option (((List S5) × Unit) × (Unit)) :=
  nilQ sv (
    some (([], ()), (()))) (
    chk (apOk [] sv 24) <|
    some (([] ++ sv, ()), (())))

noncomputable def slicesCloneF46.body : Code := Try.f46.body.getD .skip
noncomputable def slicesCloneF46.con : OCon := { ps := [.dat (.slice kS5)], rs := [.own kS5], f := fun n x => slicesCloneF46 n x.1 }
noncomputable def slicesCloneF46.env : Env := { tys := [(47, ⟨(.slice kS5), 24⟩), (52, ⟨kS5, 24⟩)], elems := [(47, 52)], ptrs := [], cons := [], objs := [], loops := [], cuts := [], globs := globs, base := 0 }
noncomputable def slicesCloneF46.lp (n : Nat) : LP (RT slicesCloneF46.con.rs × BT slicesCloneF46.con.ps) := fun lo κ body nm K s =>
  loops n (RT slicesCloneF46.con.rs × BT slicesCloneF46.con.ps) lo κ body nm K s
theorem slicesCloneF46.eq (n : Nat) (x : PT slicesCloneF46.con.ps) : evFuncO slicesCloneF46.env Try.f46 slicesCloneF46.body slicesCloneF46.con.ps slicesCloneF46.con.rs (slicesCloneF46.lp n) n x = slicesCloneF46.con.f n x := by kernel_rfl
theorem slicesCloneF46.sound : SoundO Try.prog globs 46 slicesCloneF46.con :=
  sound_byO (E := slicesCloneF46.env) (c := slicesCloneF46.body) (envOk (G := globs) (lc := []) (lo := []) (envB_spec (by kernel_rfl)) rfl rfl trivial rfl trivial (by kernel_rfl) (by kernel_rfl)) Try.func46 (by kernel_rfl) (by kernel_rfl) (by kernel_rfl) slicesCloneF46.lp (l := []) (by kernel_rfl) (fun n => trivial) slicesCloneF46.eq
noncomputable def clientClientHanded (fu : Nat) (c : O6) : Option (((List S5) × Unit) × (O6 × Unit)) :=
  (slicesCloneF46 fu c.2.2.2.2.2.2.2.2.2.2.2.2.1).bind fun r1 =>
  some ((r1.1.1, ()), (c, ()))

noncomputable def clientClientHanded.body : Code := Try.f19.body.getD .skip
noncomputable def clientClientHanded.con : OCon := { ps := [.obj kO6], rs := [.dat (.slice kS5)], f := fun n x => clientClientHanded n x.1 }
noncomputable def clientClientHanded.env : Env := { tys := [(47, ⟨(.slice kS5), 24⟩), (98, ⟨kS8, 104⟩)], elems := [], ptrs := [(26, 98)], cons := [], objs := [(46, [slicesCloneF46.con])], loops := [], cuts := [], globs := globs, base := 2 }
noncomputable def clientClientHanded.lp (n : Nat) : LP (RT clientClientHanded.con.rs × BT clientClientHanded.con.ps) := fun lo κ body nm K s =>
  loops n (RT clientClientHanded.con.rs × BT clientClientHanded.con.ps) lo κ body nm K s
theorem clientClientHanded.eq (n : Nat) (x : PT clientClientHanded.con.ps) : evFuncO clientClientHanded.env Try.f19 clientClientHanded.body clientClientHanded.con.ps clientClientHanded.con.rs (clientClientHanded.lp n) n x = clientClientHanded.con.f n x := by kernel_rfl
theorem clientClientHanded.sound : SoundO Try.prog globs 19 clientClientHanded.con :=
  sound_byO (E := clientClientHanded.env) (c := clientClientHanded.body) (envOk (G := globs) (lc := []) (lo := [(46, [slicesCloneF46.con])]) (envB_spec (by kernel_rfl)) rfl rfl trivial rfl ⟨⟨⟨slicesCloneF46.sound, trivial⟩, by kernel_rfl⟩, trivial⟩ (by kernel_rfl) (by kernel_rfl)) Try.func19 (by kernel_rfl) (by kernel_rfl) (by kernel_rfl) clientClientHanded.lp (l := []) (by kernel_rfl) (fun n => trivial) clientClientHanded.eq
noncomputable def law25Fixed (fu : Nat) : Option (Bool × Unit) :=
  (clientNew fu (3 : Int) [] ((1 : Int), (2 : Int), (2 : Int), ())).bind fun r1 =>
  oc r1.1.1 (
    some (false, ())) fun o2 =>
  cond (r1.1.2.1 != (0 : Int)) (
    some (false, ())) (
    (clientClientHear fu o2 ((2 : Int), (3 : Int), (1 : Int), (0 : Int), (0 : Int), [], ()) (0 : Int)).bind fun r3 =>
    (clientClientHear fu r3.2.1 ((5 : Int), (3 : Int), (1 : Int), (0 : Int), (0 : Int), [(1 : Int), (2 : Int)], ()) (0 : Int)).bind fun r4 =>
    let t5 := [((6 : Int), (3 : Int), (1 : Int), (0 : Int), (0 : Int), [], ())]
    (ref20SameAll fu r3.1.1 t5).bind fun r6 =>
    cond r6.1 (
      let t7 := [((6 : Int), (3 : Int), (1 : Int), (1 : Int), (0 : Int), [], ())]
      (ref20SameAll fu r4.1.1 t7).bind fun r8 =>
      cond r8.1 (
        (clientClientHanded fu r4.2.1).bind fun r9 =>
        let t10 := (r9.1.1.length : Int) == (1 : Int)
        some (t10, ())) (
        some (false, ()))) (
      some (false, ())))

noncomputable def law25Fixed.body : Code := Try.f10.body.getD .skip
noncomputable def law25Fixed.con : Con := { ps := [], rs := [.bool], f := fun n x => law25Fixed n }
noncomputable def law25Fixed.env : Env := { tys := [(4, ⟨.bool, 1⟩), (24, ⟨kS2, 12⟩), (26, ⟨.np, 8⟩), (37, ⟨kS0, 56⟩), (5, ⟨(.int .u8), 1⟩), (52, ⟨kS5, 24⟩)], elems := [(35, 5), (41, 37), (47, 52)], ptrs := [(26, 98)], cons := [(35, ref20SameAll.con)], objs := [(9, [clientNew.con]), (16, [clientClientHear.con]), (19, [clientClientHanded.con])], loops := [], cuts := [], globs := globs, base := 0 }
noncomputable def law25Fixed.lp (n : Nat) : LP (Kd.struct law25Fixed.con.rs).T := fun lo κ body nm K s =>
  loops n (Kd.struct law25Fixed.con.rs).T lo κ body nm K s
theorem law25Fixed.eq (n : Nat) (x : (Kd.struct law25Fixed.con.ps).T) : evFunc law25Fixed.env Try.f10 law25Fixed.body law25Fixed.con.ps law25Fixed.con.rs (law25Fixed.lp n) n x = law25Fixed.con.f n x := by kernel_rfl
theorem law25Fixed.sound : Sound Try.prog globs 10 law25Fixed.con :=
  sound_by (E := law25Fixed.env) (c := law25Fixed.body) (envOk (G := globs) (lc := [(35, ref20SameAll.con)]) (lo := [(9, [clientNew.con]), (16, [clientClientHear.con]), (19, [clientClientHanded.con])]) (envB_spec (by kernel_rfl)) rfl rfl ⟨.inl ⟨ref20SameAll.sound, by kernel_rfl⟩, trivial⟩ rfl ⟨⟨⟨clientNew.sound, trivial⟩, by kernel_rfl⟩, ⟨⟨⟨clientClientHear.sound, trivial⟩, by kernel_rfl⟩, ⟨⟨⟨clientClientHanded.sound, trivial⟩, by kernel_rfl⟩, trivial⟩⟩⟩ (by kernel_rfl) (by kernel_rfl)) Try.func10 (by kernel_rfl) law25Fixed.lp (l := []) (by kernel_rfl) (fun n => trivial) law25Fixed.eq
noncomputable def clientClientComeNil (fu : Nat) (now : Int) : Option ((Unit) × (Unit)) :=
  some ((()), (()))

noncomputable def clientClientComeNil.body : Code := Try.f13.body.getD .skip
noncomputable def clientClientComeNil.con : OCon := { ps := [.nil, .dat (.int .u64)], rs := [], f := fun n x => clientClientComeNil n x.2.1 }
noncomputable def clientClientComeNil.env : Env := { tys := [(26, ⟨.np, 8⟩), (4, ⟨.bool, 1⟩)], elems := [], ptrs := [(26, 98)], cons := [], objs := [], loops := [], cuts := [], globs := globs, base := 0 }
noncomputable def clientClientComeNil.lp (n : Nat) : LP (RT clientClientComeNil.con.rs × BT clientClientComeNil.con.ps) := fun lo κ body nm K s =>
  loops n (RT clientClientComeNil.con.rs × BT clientClientComeNil.con.ps) lo κ body nm K s
theorem clientClientComeNil.eq (n : Nat) (x : PT clientClientComeNil.con.ps) : evFuncO clientClientComeNil.env Try.f13 clientClientComeNil.body clientClientComeNil.con.ps clientClientComeNil.con.rs (clientClientComeNil.lp n) n x = clientClientComeNil.con.f n x := by kernel_rfl
theorem clientClientComeNil.sound : SoundO Try.prog globs 13 clientClientComeNil.con :=
  sound_byO (E := clientClientComeNil.env) (c := clientClientComeNil.body) (envOk (G := globs) (lc := []) (lo := []) (envB_spec (by kernel_rfl)) rfl rfl trivial rfl trivial (by kernel_rfl) (by kernel_rfl)) Try.func13 (by kernel_rfl) (by kernel_rfl) (by kernel_rfl) clientClientComeNil.lp (l := []) (by kernel_rfl) (fun n => trivial) clientClientComeNil.eq
noncomputable def clientClientPickyNil (fu : Nat) (onv : Bool) : Option ((Unit) × (Unit)) :=
  some ((()), (()))

noncomputable def clientClientPickyNil.body : Code := Try.f15.body.getD .skip
noncomputable def clientClientPickyNil.con : OCon := { ps := [.nil, .dat .bool], rs := [], f := fun n x => clientClientPickyNil n x.2.1 }
noncomputable def clientClientPickyNil.env : Env := { tys := [(26, ⟨.np, 8⟩)], elems := [], ptrs := [(26, 98)], cons := [], objs := [], loops := [], cuts := [], globs := globs, base := 0 }
noncomputable def clientClientPickyNil.lp (n : Nat) : LP (RT clientClientPickyNil.con.rs × BT clientClientPickyNil.con.ps) := fun lo κ body nm K s =>
  loops n (RT clientClientPickyNil.con.rs × BT clientClientPickyNil.con.ps) lo κ body nm K s
theorem clientClientPickyNil.eq (n : Nat) (x : PT clientClientPickyNil.con.ps) : evFuncO clientClientPickyNil.env Try.f15 clientClientPickyNil.body clientClientPickyNil.con.ps clientClientPickyNil.con.rs (clientClientPickyNil.lp n) n x = clientClientPickyNil.con.f n x := by kernel_rfl
theorem clientClientPickyNil.sound : SoundO Try.prog globs 15 clientClientPickyNil.con :=
  sound_byO (E := clientClientPickyNil.env) (c := clientClientPickyNil.body) (envOk (G := globs) (lc := []) (lo := []) (envB_spec (by kernel_rfl)) rfl rfl trivial rfl trivial (by kernel_rfl) (by kernel_rfl)) Try.func15 (by kernel_rfl) (by kernel_rfl) (by kernel_rfl) clientClientPickyNil.lp (l := []) (by kernel_rfl) (fun n => trivial) clientClientPickyNil.eq
noncomputable def clientClientSendNil (fu : Nat) (now : Int) : Option (((List S0) × Unit) × (Unit)) :=
  some (([], ()), (()))

noncomputable def clientClientSendNil.body : Code := Try.f14.body.getD .skip
noncomputable def clientClientSendNil.con : OCon := { ps := [.nil, .dat (.int .u64)], rs := [.dat (.slice kS0)], f := fun n x => clientClientSendNil n x.2.1 }
noncomputable def clientClientSendNil.env : Env := { tys := [(41, ⟨(.slice kS0), 24⟩), (26, ⟨.np, 8⟩), (4, ⟨.bool, 1⟩)], elems := [], ptrs := [(26, 98)], cons := [], objs := [], loops := [], cuts := [], globs := globs, base := 0 }
noncomputable def clientClientSendNil.lp (n : Nat) : LP (RT clientClientSendNil.con.rs × BT clientClientSendNil.con.ps) := fun lo κ body nm K s =>
  loops n (RT clientClientSendNil.con.rs × BT clientClientSendNil.con.ps) lo κ body nm K s
theorem clientClientSendNil.eq (n : Nat) (x : PT clientClientSendNil.con.ps) : evFuncO clientClientSendNil.env Try.f14 clientClientSendNil.body clientClientSendNil.con.ps clientClientSendNil.con.rs (clientClientSendNil.lp n) n x = clientClientSendNil.con.f n x := by kernel_rfl
theorem clientClientSendNil.sound : SoundO Try.prog globs 14 clientClientSendNil.con :=
  sound_byO (E := clientClientSendNil.env) (c := clientClientSendNil.body) (envOk (G := globs) (lc := []) (lo := []) (envB_spec (by kernel_rfl)) rfl rfl trivial rfl trivial (by kernel_rfl) (by kernel_rfl)) Try.func14 (by kernel_rfl) (by kernel_rfl) (by kernel_rfl) clientClientSendNil.lp (l := []) (by kernel_rfl) (fun n => trivial) clientClientSendNil.eq
noncomputable def clientClientHearNil (fu : Nat) (f : S0) (now : Int) : Option (((List S0) × Unit) × (Unit)) :=
  some (([], ()), (()))

noncomputable def clientClientHearNil.body : Code := Try.f16.body.getD .skip
noncomputable def clientClientHearNil.con : OCon := { ps := [.nil, .dat kS0, .dat (.int .u64)], rs := [.dat (.slice kS0)], f := fun n x => clientClientHearNil n x.2.1 x.2.2.1 }
noncomputable def clientClientHearNil.env : Env := { tys := [(37, ⟨kS0, 56⟩), (41, ⟨(.slice kS0), 24⟩), (26, ⟨.np, 8⟩), (4, ⟨.bool, 1⟩)], elems := [], ptrs := [(26, 98)], cons := [], objs := [], loops := [], cuts := [], globs := globs, base := 0 }
noncomputable def clientClientHearNil.lp (n : Nat) : LP (RT clientClientHearNil.con.rs × BT clientClientHearNil.con.ps) := fun lo κ body nm K s =>
  loops n (RT clientClientHearNil.con.rs × BT clientClientHearNil.con.ps) lo κ body nm K s
theorem clientClientHearNil.eq (n : Nat) (x : PT clientClientHearNil.con.ps) : evFuncO clientClientHearNil.env Try.f16 clientClientHearNil.body clientClientHearNil.con.ps clientClientHearNil.con.rs (clientClientHearNil.lp n) n x = clientClientHearNil.con.f n x := by kernel_rfl
theorem clientClientHearNil.sound : SoundO Try.prog globs 16 clientClientHearNil.con :=
  sound_byO (E := clientClientHearNil.env) (c := clientClientHearNil.body) (envOk (G := globs) (lc := []) (lo := []) (envB_spec (by kernel_rfl)) rfl rfl trivial rfl trivial (by kernel_rfl) (by kernel_rfl)) Try.func16 (by kernel_rfl) (by kernel_rfl) (by kernel_rfl) clientClientHearNil.lp (l := []) (by kernel_rfl) (fun n => trivial) clientClientHearNil.eq
noncomputable def clientClientHasNil (fu : Nat) : Option ((Int × Unit) × (Unit)) :=
  some (((0 : Int), ()), (()))

noncomputable def clientClientHasNil.body : Code := Try.f18.body.getD .skip
noncomputable def clientClientHasNil.con : OCon := { ps := [.nil], rs := [.dat (.int .u64)], f := fun n x => clientClientHasNil n }
noncomputable def clientClientHasNil.env : Env := { tys := [(34, ⟨(.int .u64), 8⟩), (26, ⟨.np, 8⟩)], elems := [], ptrs := [(26, 98)], cons := [], objs := [], loops := [], cuts := [], globs := globs, base := 0 }
noncomputable def clientClientHasNil.lp (n : Nat) : LP (RT clientClientHasNil.con.rs × BT clientClientHasNil.con.ps) := fun lo κ body nm K s =>
  loops n (RT clientClientHasNil.con.rs × BT clientClientHasNil.con.ps) lo κ body nm K s
theorem clientClientHasNil.eq (n : Nat) (x : PT clientClientHasNil.con.ps) : evFuncO clientClientHasNil.env Try.f18 clientClientHasNil.body clientClientHasNil.con.ps clientClientHasNil.con.rs (clientClientHasNil.lp n) n x = clientClientHasNil.con.f n x := by kernel_rfl
theorem clientClientHasNil.sound : SoundO Try.prog globs 18 clientClientHasNil.con :=
  sound_byO (E := clientClientHasNil.env) (c := clientClientHasNil.body) (envOk (G := globs) (lc := []) (lo := []) (envB_spec (by kernel_rfl)) rfl rfl trivial rfl trivial (by kernel_rfl) (by kernel_rfl)) Try.func18 (by kernel_rfl) (by kernel_rfl) (by kernel_rfl) clientClientHasNil.lp (l := []) (by kernel_rfl) (fun n => trivial) clientClientHasNil.eq
noncomputable def clientClientHandedNil (fu : Nat) : Option (((List S5) × Unit) × (Unit)) :=
  some (([], ()), (()))

noncomputable def clientClientHandedNil.body : Code := Try.f19.body.getD .skip
noncomputable def clientClientHandedNil.con : OCon := { ps := [.nil], rs := [.dat (.slice kS5)], f := fun n x => clientClientHandedNil n }
noncomputable def clientClientHandedNil.env : Env := { tys := [(47, ⟨(.slice kS5), 24⟩), (26, ⟨.np, 8⟩)], elems := [], ptrs := [(26, 98)], cons := [], objs := [], loops := [], cuts := [], globs := globs, base := 0 }
noncomputable def clientClientHandedNil.lp (n : Nat) : LP (RT clientClientHandedNil.con.rs × BT clientClientHandedNil.con.ps) := fun lo κ body nm K s =>
  loops n (RT clientClientHandedNil.con.rs × BT clientClientHandedNil.con.ps) lo κ body nm K s
theorem clientClientHandedNil.eq (n : Nat) (x : PT clientClientHandedNil.con.ps) : evFuncO clientClientHandedNil.env Try.f19 clientClientHandedNil.body clientClientHandedNil.con.ps clientClientHandedNil.con.rs (clientClientHandedNil.lp n) n x = clientClientHandedNil.con.f n x := by kernel_rfl
theorem clientClientHandedNil.sound : SoundO Try.prog globs 19 clientClientHandedNil.con :=
  sound_byO (E := clientClientHandedNil.env) (c := clientClientHandedNil.body) (envOk (G := globs) (lc := []) (lo := []) (envB_spec (by kernel_rfl)) rfl rfl trivial rfl trivial (by kernel_rfl) (by kernel_rfl)) Try.func19 (by kernel_rfl) (by kernel_rfl) (by kernel_rfl) clientClientHandedNil.lp (l := []) (by kernel_rfl) (fun n => trivial) clientClientHandedNil.eq
noncomputable def clientClientThereNil (fu : Nat) : Option ((Bool × Unit) × (Unit)) :=
  some ((false, ()), (()))

noncomputable def clientClientThereNil.body : Code := Try.f20.body.getD .skip
noncomputable def clientClientThereNil.con : OCon := { ps := [.nil], rs := [.dat .bool], f := fun n x => clientClientThereNil n }
noncomputable def clientClientThereNil.env : Env := { tys := [(4, ⟨.bool, 1⟩), (26, ⟨.np, 8⟩)], elems := [], ptrs := [(26, 98)], cons := [], objs := [], loops := [], cuts := [], globs := globs, base := 0 }
noncomputable def clientClientThereNil.lp (n : Nat) : LP (RT clientClientThereNil.con.rs × BT clientClientThereNil.con.ps) := fun lo κ body nm K s =>
  loops n (RT clientClientThereNil.con.rs × BT clientClientThereNil.con.ps) lo κ body nm K s
theorem clientClientThereNil.eq (n : Nat) (x : PT clientClientThereNil.con.ps) : evFuncO clientClientThereNil.env Try.f20 clientClientThereNil.body clientClientThereNil.con.ps clientClientThereNil.con.rs (clientClientThereNil.lp n) n x = clientClientThereNil.con.f n x := by kernel_rfl
theorem clientClientThereNil.sound : SoundO Try.prog globs 20 clientClientThereNil.con :=
  sound_byO (E := clientClientThereNil.env) (c := clientClientThereNil.body) (envOk (G := globs) (lc := []) (lo := []) (envB_spec (by kernel_rfl)) rfl rfl trivial rfl trivial (by kernel_rfl) (by kernel_rfl)) Try.func20 (by kernel_rfl) (by kernel_rfl) (by kernel_rfl) clientClientThereNil.lp (l := []) (by kernel_rfl) (fun n => trivial) clientClientThereNil.eq
noncomputable def clientClientEpochNil (fu : Nat) : Option ((Int × Unit) × (Unit)) :=
  some (((0 : Int), ()), (()))

noncomputable def clientClientEpochNil.body : Code := Try.f21.body.getD .skip
noncomputable def clientClientEpochNil.con : OCon := { ps := [.nil], rs := [.dat (.int .u32)], f := fun n x => clientClientEpochNil n }
noncomputable def clientClientEpochNil.env : Env := { tys := [(22, ⟨(.int .u32), 4⟩), (26, ⟨.np, 8⟩)], elems := [], ptrs := [(26, 98)], cons := [], objs := [], loops := [], cuts := [], globs := globs, base := 0 }
noncomputable def clientClientEpochNil.lp (n : Nat) : LP (RT clientClientEpochNil.con.rs × BT clientClientEpochNil.con.ps) := fun lo κ body nm K s =>
  loops n (RT clientClientEpochNil.con.rs × BT clientClientEpochNil.con.ps) lo κ body nm K s
theorem clientClientEpochNil.eq (n : Nat) (x : PT clientClientEpochNil.con.ps) : evFuncO clientClientEpochNil.env Try.f21 clientClientEpochNil.body clientClientEpochNil.con.ps clientClientEpochNil.con.rs (clientClientEpochNil.lp n) n x = clientClientEpochNil.con.f n x := by kernel_rfl
theorem clientClientEpochNil.sound : SoundO Try.prog globs 21 clientClientEpochNil.con :=
  sound_byO (E := clientClientEpochNil.env) (c := clientClientEpochNil.body) (envOk (G := globs) (lc := []) (lo := []) (envB_spec (by kernel_rfl)) rfl rfl trivial rfl trivial (by kernel_rfl) (by kernel_rfl)) Try.func21 (by kernel_rfl) (by kernel_rfl) (by kernel_rfl) clientClientEpochNil.lp (l := []) (by kernel_rfl) (fun n => trivial) clientClientEpochNil.eq
noncomputable def clientClientFailedNil (fu : Nat) : Option ((Bool × Unit) × (Unit)) :=
  some ((false, ()), (()))

noncomputable def clientClientFailedNil.body : Code := Try.f22.body.getD .skip
noncomputable def clientClientFailedNil.con : OCon := { ps := [.nil], rs := [.dat .bool], f := fun n x => clientClientFailedNil n }
noncomputable def clientClientFailedNil.env : Env := { tys := [(4, ⟨.bool, 1⟩), (26, ⟨.np, 8⟩)], elems := [], ptrs := [(26, 98)], cons := [], objs := [], loops := [], cuts := [], globs := globs, base := 0 }
noncomputable def clientClientFailedNil.lp (n : Nat) : LP (RT clientClientFailedNil.con.rs × BT clientClientFailedNil.con.ps) := fun lo κ body nm K s =>
  loops n (RT clientClientFailedNil.con.rs × BT clientClientFailedNil.con.ps) lo κ body nm K s
theorem clientClientFailedNil.eq (n : Nat) (x : PT clientClientFailedNil.con.ps) : evFuncO clientClientFailedNil.env Try.f22 clientClientFailedNil.body clientClientFailedNil.con.ps clientClientFailedNil.con.rs (clientClientFailedNil.lp n) n x = clientClientFailedNil.con.f n x := by kernel_rfl
theorem clientClientFailedNil.sound : SoundO Try.prog globs 22 clientClientFailedNil.con :=
  sound_byO (E := clientClientFailedNil.env) (c := clientClientFailedNil.body) (envOk (G := globs) (lc := []) (lo := []) (envB_spec (by kernel_rfl)) rfl rfl trivial rfl trivial (by kernel_rfl) (by kernel_rfl)) Try.func22 (by kernel_rfl) (by kernel_rfl) (by kernel_rfl) clientClientFailedNil.lp (l := []) (by kernel_rfl) (fun n => trivial) clientClientFailedNil.eq
noncomputable def law25ClientNil (fu : Nat) (o : S1) : Option (Bool × Unit) :=
  (law25Cut fu ([o])).bind fun r1 =>
  let t2 := (r1.1.length : Int) == (0 : Int)
  cond t2 (
    (law25Fixed fu).bind fun r3 =>
    some (r3.1, ())) (
    (clientClientComeNil fu o.2.1).bind fun r4 =>
    (clientClientPickyNil fu o.2.2.2.1).bind fun r5 =>
    (law25Fixed fu).bind fun r6 =>
    cond r6.1 (
      (clientClientSendNil fu o.2.1).bind fun r7 =>
      let t8 := (r7.1.1.length : Int) == (0 : Int)
      cond t8 (
        (clientClientHearNil fu o.2.2.1 o.2.1).bind fun r9 =>
        let t10 := (r9.1.1.length : Int) == (0 : Int)
        cond t10 (
          (clientClientHasNil fu).bind fun r11 =>
          cond (r11.1.1 == (0 : Int)) (
            (clientClientHandedNil fu).bind fun r12 =>
            let t13 := (r12.1.1.length : Int) == (0 : Int)
            cond t13 (
              (clientClientThereNil fu).bind fun r14 =>
              cond (!r14.1.1) (
                (clientClientEpochNil fu).bind fun r15 =>
                cond (r15.1.1 == (0 : Int)) (
                  (clientClientFailedNil fu).bind fun r16 =>
                  some (!r16.1.1, ())) (
                  some (false, ()))) (
                some (false, ()))) (
              some (false, ()))) (
            some (false, ()))) (
          some (false, ()))) (
        some (false, ()))) (
      some (false, ())))

noncomputable def law25ClientNil.body : Code := Try.f4.body.getD .skip
noncomputable def law25ClientNil.con : Con := { ps := [kS1], rs := [.bool], f := fun n x => law25ClientNil n x.1 }
noncomputable def law25ClientNil.env : Env := { tys := [(39, ⟨kS1, 80⟩), (4, ⟨.bool, 1⟩), (26, ⟨.np, 8⟩), (34, ⟨(.int .u64), 8⟩), (37, ⟨kS0, 56⟩), (52, ⟨kS5, 24⟩)], elems := [(25, 39), (41, 37), (47, 52)], ptrs := [], cons := [(12, law25Cut.con), (10, law25Fixed.con)], objs := [(13, [clientClientComeNil.con]), (14, [clientClientSendNil.con]), (15, [clientClientPickyNil.con]), (16, [clientClientHearNil.con]), (18, [clientClientHasNil.con]), (19, [clientClientHandedNil.con]), (20, [clientClientThereNil.con]), (21, [clientClientEpochNil.con]), (22, [clientClientFailedNil.con])], loops := [], cuts := [], globs := globs, base := 0 }
noncomputable def law25ClientNil.lp (n : Nat) : LP (Kd.struct law25ClientNil.con.rs).T := fun lo κ body nm K s =>
  loops n (Kd.struct law25ClientNil.con.rs).T lo κ body nm K s
theorem law25ClientNil.eq (n : Nat) (x : (Kd.struct law25ClientNil.con.ps).T) : evFunc law25ClientNil.env Try.f4 law25ClientNil.body law25ClientNil.con.ps law25ClientNil.con.rs (law25ClientNil.lp n) n x = law25ClientNil.con.f n x := by kernel_rfl
theorem law25ClientNil.sound : Sound Try.prog globs 4 law25ClientNil.con :=
  sound_by (E := law25ClientNil.env) (c := law25ClientNil.body) (envOk (G := globs) (lc := [(12, law25Cut.con), (10, law25Fixed.con)]) (lo := [(13, [clientClientComeNil.con]), (14, [clientClientSendNil.con]), (15, [clientClientPickyNil.con]), (16, [clientClientHearNil.con]), (18, [clientClientHasNil.con]), (19, [clientClientHandedNil.con]), (20, [clientClientThereNil.con]), (21, [clientClientEpochNil.con]), (22, [clientClientFailedNil.con])]) (envB_spec (by kernel_rfl)) rfl rfl ⟨.inl ⟨law25Cut.sound, by kernel_rfl⟩, ⟨.inl ⟨law25Fixed.sound, by kernel_rfl⟩, trivial⟩⟩ rfl ⟨⟨⟨clientClientComeNil.sound, trivial⟩, by kernel_rfl⟩, ⟨⟨⟨clientClientSendNil.sound, trivial⟩, by kernel_rfl⟩, ⟨⟨⟨clientClientPickyNil.sound, trivial⟩, by kernel_rfl⟩, ⟨⟨⟨clientClientHearNil.sound, trivial⟩, by kernel_rfl⟩, ⟨⟨⟨clientClientHasNil.sound, trivial⟩, by kernel_rfl⟩, ⟨⟨⟨clientClientHandedNil.sound, trivial⟩, by kernel_rfl⟩, ⟨⟨⟨clientClientThereNil.sound, trivial⟩, by kernel_rfl⟩, ⟨⟨⟨clientClientEpochNil.sound, trivial⟩, by kernel_rfl⟩, ⟨⟨⟨clientClientFailedNil.sound, trivial⟩, by kernel_rfl⟩, trivial⟩⟩⟩⟩⟩⟩⟩⟩⟩ (by kernel_rfl) (by kernel_rfl)) Try.func4 (by kernel_rfl) law25ClientNil.lp (l := []) (by kernel_rfl) (fun n => trivial) law25ClientNil.eq
end
end Go.Shal.Pr
