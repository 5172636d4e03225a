/- Prints of functions, and proofs that they are what the code computes. By an AI agent. -/
import Derived.Test.YtocfcfaeboemcaaShD
import Derived.Test.YtocfcfaeboemcaaProg
set_option linter.unusedVariables false
set_option maxRecDepth 100000
namespace Go.Shal.Pr
open Go Go.Shal Go.Proofs
noncomputable section
def globs : Globs := []
abbrev kS0 : Kd := .struct [(.int .u32), (.int .u32), (.int .u32)]
abbrev S0 : Type := Int × Int × Int × Unit
abbrev kO1 : Ob := (.dat kS0 (.dat .bool (.dat (.int .u32) (.dat (.int .u64) .nil))))
abbrev O1 : Type := S0 × Bool × Int × Int × Unit
abbrev kS2 : Kd := .struct [(.int .u64), (.int .u64)]
abbrev S2 : Type := Int × Int × Unit
abbrev kS3 : Kd := .struct [(.int .u64), kS2]
abbrev S3 : Type := Int × S2 × Unit
abbrev kO4 : Ob := (.dat (.int .u32) (.dat (.slice (.int .u8)) (.dat (.int .u64) (.ref kO1 (.dat .bool (.dat .bool (.dat (.int .u32) (.dat (.int .u64) (.dat .bool (.dat .bool (.dat .bool (.dat (.int .u64) (.own kS3 .nil)))))))))))))
abbrev O4 : Type := Int × (List Int) × Int × O1 × Bool × Bool × Int × Int × Bool × Bool × Bool × Int × (List S3) × Unit
abbrev kS5 : Kd := .struct [(.int .u8), (.int .u32), (.int .u32), (.int .u64), (.int .u64), (.slice (.int .u8))]
abbrev S5 : Type := Int × Int × Int × Int × Int × (List Int) × Unit
abbrev kS6 : Kd := .struct [(.int .i64), (.int .u64), kS5, .bool]
abbrev S6 : Type := Int × Int × S5 × Bool × Unit
abbrev kS7 : Kd := .struct [kS0, .bool, (.int .u32), (.int .u64)]
abbrev S7 : Type := S0 × Bool × Int × Int × Unit
abbrev kS8 : Kd := .struct [(.int .u32), (.slice (.int .u8)), (.int .u64), (.rp kS7), .bool, .bool, (.int .u32), (.int .u64), .bool, .bool, .bool, (.int .u64), (.slice kS3)]
abbrev S8 : Type := Int × (List Int) × Int × S7 × Bool × Bool × Int × Int × Bool × Bool × Bool × Int × (List S3) × Unit
abbrev kS9 : Kd := .struct [(.int .u32), (.slice (.int .u8)), (.int .u64), .np, .bool, .bool, (.int .u32), (.int .u64), .bool, .bool, .bool, (.int .u64), (.slice kS3)]
abbrev S9 : Type := Int × (List Int) × Int × Unit × Bool × Bool × Int × Int × Bool × Bool × Bool × Int × (List S3) × Unit
noncomputable def backMay (fu : Nat) (b : S0) : Option (Bool × Unit) :=
  cond (decide (b.1 ≥ (1 : Int))) (
    let t1 := decide (b.1 ≤ (65536 : Int))
    cond t1 (
      cond (decide (b.2.1 ≥ b.1)) (
        let t2 := decide (b.2.1 ≤ (1048576 : Int))
        cond t2 (
          let t3 := decide (b.2.2.1 ≥ (1 : Int))
          cond t3 (
            let t4 := decide (b.2.2.1 ≤ (64 : Int))
            some (t4, ())) (
            some (false, ()))) (
          some (false, ()))) (
        some (false, ()))) (
      some (false, ()))) (
    some (false, ()))

noncomputable def backMay.body : Code := Try.f56.body.getD .skip
noncomputable def backMay.con : Con := { ps := [kS0], rs := [.bool], f := fun n x => backMay n x.1 }
noncomputable def backMay.env : Env := { tys := [(24, ⟨kS0, 12⟩), (4, ⟨.bool, 1⟩), (22, ⟨(.int .u32), 4⟩)], elems := [], ptrs := [], cons := [], objs := [], loops := [], cuts := [], globs := globs, base := 0 }
noncomputable def backMay.lp (n : Nat) : LP (Kd.struct backMay.con.rs).T := fun lo κ body nm K s =>
  loops n (Kd.struct backMay.con.rs).T lo κ body nm K s
theorem backMay.eq (n : Nat) (x : (Kd.struct backMay.con.ps).T) : evFunc backMay.env Try.f56 backMay.body backMay.con.ps backMay.con.rs (backMay.lp n) n x = backMay.con.f n x := by kernel_rfl
theorem backMay.sound : Sound Try.prog globs 56 backMay.con :=
  sound_by (E := backMay.env) (c := backMay.body) (envOk (G := globs) (lc := []) (lo := []) (envB_spec (by kernel_rfl)) rfl rfl trivial rfl trivial (by kernel_rfl) (by kernel_rfl)) Try.func56 (by kernel_rfl) backMay.lp (l := []) (by kernel_rfl) (fun n => trivial) backMay.eq
noncomputable def backNew (fu : Nat) (b : S0) : Option (((Option O1) × Int × Unit) × (Unit)) :=
  (backMay fu b).bind fun r1 =>
  cond (!r1.1) (
    some ((none, (1 : Int), ()), (()))) (
    some ((some (b, false, (0 : Int), (0 : Int), ()), (0 : Int), ()), (())))

noncomputable def backNew.body : Code := Try.f38.body.getD .skip
noncomputable def backNew.con : OCon := { ps := [.dat kS0], rs := [.ref kO1, .dat (.int .i64)], f := fun n x => backNew n x.1 }
noncomputable def backNew.env : Env := { tys := [(24, ⟨kS0, 12⟩), (93, ⟨.np, 8⟩), (27, ⟨(.int .i64), 8⟩), (121, ⟨kS7, 32⟩)], elems := [], ptrs := [], cons := [(56, backMay.con)], objs := [], loops := [], cuts := [], globs := globs, base := 0 }
noncomputable def backNew.lp (n : Nat) : LP (RT backNew.con.rs × BT backNew.con.ps) := fun lo κ body nm K s =>
  loops n (RT backNew.con.rs × BT backNew.con.ps) lo κ body nm K s
theorem backNew.eq (n : Nat) (x : PT backNew.con.ps) : evFuncO backNew.env Try.f38 backNew.body backNew.con.ps backNew.con.rs (backNew.lp n) n x = backNew.con.f n x := by kernel_rfl
theorem backNew.sound : SoundO Try.prog globs 38 backNew.con :=
  sound_byO (E := backNew.env) (c := backNew.body) (envOk (G := globs) (lc := [(56, backMay.con)]) (lo := []) (envB_spec (by kernel_rfl)) rfl rfl ⟨.inl ⟨backMay.sound, by kernel_rfl⟩, trivial⟩ rfl trivial (by kernel_rfl) (by kernel_rfl)) Try.func38 (by kernel_rfl) (by kernel_rfl) (by kernel_rfl) backNew.lp (l := []) (by kernel_rfl) (fun n => trivial) backNew.eq
noncomputable def slicesCloneDat (fu : Nat) (sv : List Int) : Option ((List Int) × Unit) :=
  nilQ sv (
    some ([], ())) (
    chk (apOk [] sv 1) <|
    some ([] ++ sv, ()))

noncomputable def slicesCloneDat.body : Code := Try.f39.body.getD .skip
noncomputable def slicesCloneDat.con : Con := { ps := [(.slice (.int .u8))], rs := [(.slice (.int .u8))], f := fun n x => slicesCloneDat n x.1 }
noncomputable def slicesCloneDat.env : Env := { tys := [(35, ⟨(.slice (.int .u8)), 24⟩), (5, ⟨(.int .u8), 1⟩)], elems := [(35, 5)], ptrs := [], cons := [], objs := [], loops := [], cuts := [], globs := globs, base := 0 }
noncomputable def slicesCloneDat.lp (n : Nat) : LP (Kd.struct slicesCloneDat.con.rs).T := fun lo κ body nm K s =>
  loops n (Kd.struct slicesCloneDat.con.rs).T lo κ body nm K s
theorem slicesCloneDat.eq (n : Nat) (x : (Kd.struct slicesCloneDat.con.ps).T) : evFunc slicesCloneDat.env Try.f39 slicesCloneDat.body slicesCloneDat.con.ps slicesCloneDat.con.rs (slicesCloneDat.lp n) n x = slicesCloneDat.con.f n x := by kernel_rfl
theorem slicesCloneDat.sound : Sound Try.prog globs 39 slicesCloneDat.con :=
  sound_by (E := slicesCloneDat.env) (c := slicesCloneDat.body) (envOk (G := globs) (lc := []) (lo := []) (envB_spec (by kernel_rfl)) rfl rfl trivial rfl trivial (by kernel_rfl) (by kernel_rfl)) Try.func39 (by kernel_rfl) slicesCloneDat.lp (l := []) (by kernel_rfl) (fun n => trivial) slicesCloneDat.eq
noncomputable def clientNew (fu : Nat) (sub : Int) (pattern : List Int) (b : S0) : Option (((Option O4) × Int × Unit) × (Unit)) :=
  (backNew fu b).bind fun r1 =>
  oc r1.1.1 (
    cond (r1.1.2.1 != (0 : Int)) (
      some ((none, (1 : Int), ()), (()))) (
      let t3 := decide ((pattern.length : Int) > (4096 : Int))
      cond t3 (
        some ((none, (1 : Int), ()), (()))) (
        (slicesCloneDat fu pattern).bind fun r4 =>
        let t5 := IntKind.u64.wrap ((8 : Int) * IntKind.u64.wrap b.2.1)
        none))) fun o2 =>
  cond (r1.1.2.1 != (0 : Int)) (
    some ((none, (1 : Int), ()), (()))) (
    let t6 := decide ((pattern.length : Int) > (4096 : Int))
    cond t6 (
      some ((none, (1 : Int), ()), (()))) (
      (slicesCloneDat fu pattern).bind fun r7 =>
      let t8 := IntKind.u64.wrap ((8 : Int) * IntKind.u64.wrap b.2.1)
      some ((some (sub, r7.1, t8, o2, false, false, (0 : Int), (0 : Int), false, false, false, (0 : Int), [], ()), (0 : Int), ()), (()))))

noncomputable def clientNew.body : Code := Try.f9.body.getD .skip
noncomputable def clientNew.con : OCon := { ps := [.dat (.int .u32), .dat (.slice (.int .u8)), .dat kS0], rs := [.ref kO4, .dat (.int .i64)], f := fun n x => clientNew n x.1 x.2.1 x.2.2.1 }
noncomputable def clientNew.env : Env := { tys := [(24, ⟨kS0, 12⟩), (26, ⟨.np, 8⟩), (27, ⟨(.int .i64), 8⟩), (93, ⟨.np, 8⟩), (4, ⟨.bool, 1⟩), (5, ⟨(.int .u8), 1⟩), (22, ⟨(.int .u32), 4⟩), (34, ⟨(.int .u64), 8⟩), (98, ⟨kS9, 104⟩)], elems := [(35, 5)], ptrs := [], cons := [(39, slicesCloneDat.con)], objs := [(38, [backNew.con])], loops := [], cuts := [], globs := globs, base := 0 }
noncomputable def clientNew.lp (n : Nat) : LP (RT clientNew.con.rs × BT clientNew.con.ps) := fun lo κ body nm K s =>
  loops n (RT clientNew.con.rs × BT clientNew.con.ps) lo κ body nm K s
theorem clientNew.eq (n : Nat) (x : PT clientNew.con.ps) : evFuncO clientNew.env Try.f9 clientNew.body clientNew.con.ps clientNew.con.rs (clientNew.lp n) n x = clientNew.con.f n x := by kernel_rfl
theorem clientNew.sound : SoundO Try.prog globs 9 clientNew.con :=
  sound_byO (E := clientNew.env) (c := clientNew.body) (envOk (G := globs) (lc := [(39, slicesCloneDat.con)]) (lo := [(38, [backNew.con])]) (envB_spec (by kernel_rfl)) rfl rfl ⟨.inl ⟨slicesCloneDat.sound, by kernel_rfl⟩, trivial⟩ rfl ⟨⟨⟨backNew.sound, trivial⟩, by kernel_rfl⟩, trivial⟩ (by kernel_rfl) (by kernel_rfl)) Try.func9 (by kernel_rfl) (by kernel_rfl) (by kernel_rfl) clientNew.lp (l := []) (by kernel_rfl) (fun n => trivial) clientNew.eq
noncomputable def backTriesBegin (fu : Nat) (tv : O1) (now : Int) : Option ((Unit) × (O1 × Unit)) :=
  some ((()), ((tv.1, true, (0 : Int), now, ()), ()))

noncomputable def backTriesBegin.body : Code := Try.f48.body.getD .skip
noncomputable def backTriesBegin.con : OCon := { ps := [.obj kO1, .dat (.int .u64)], rs := [], f := fun n x => backTriesBegin n x.1 x.2.1 }
noncomputable def backTriesBegin.env : Env := { tys := [(121, ⟨kS7, 32⟩), (4, ⟨.bool, 1⟩), (22, ⟨(.int .u32), 4⟩), (34, ⟨(.int .u64), 8⟩)], elems := [], ptrs := [(93, 121)], cons := [], objs := [], loops := [], cuts := [], globs := globs, base := 1 }
noncomputable def backTriesBegin.lp (n : Nat) : LP (RT backTriesBegin.con.rs × BT backTriesBegin.con.ps) := fun lo κ body nm K s =>
  loops n (RT backTriesBegin.con.rs × BT backTriesBegin.con.ps) lo κ body nm K s
theorem backTriesBegin.eq (n : Nat) (x : PT backTriesBegin.con.ps) : evFuncO backTriesBegin.env Try.f48 backTriesBegin.body backTriesBegin.con.ps backTriesBegin.con.rs (backTriesBegin.lp n) n x = backTriesBegin.con.f n x := by kernel_rfl
theorem backTriesBegin.sound : SoundO Try.prog globs 48 backTriesBegin.con :=
  sound_byO (E := backTriesBegin.env) (c := backTriesBegin.body) (envOk (G := globs) (lc := []) (lo := []) (envB_spec (by kernel_rfl)) rfl rfl trivial rfl trivial (by kernel_rfl) (by kernel_rfl)) Try.func48 (by kernel_rfl) (by kernel_rfl) (by kernel_rfl) backTriesBegin.lp (l := []) (by kernel_rfl) (fun n => trivial) backTriesBegin.eq
noncomputable def clientClientBegins (fu : Nat) (c : O4) (now : Int) : Option ((Unit) × (O4 × Unit)) :=
  (backTriesBegin fu c.2.2.2.1 now).bind fun r1 =>
  some ((()), ((c.1, c.2.1, c.2.2.1, r1.2.1, true, false, c.2.2.2.2.2.2.1, c.2.2.2.2.2.2.2.1, c.2.2.2.2.2.2.2.2.1, c.2.2.2.2.2.2.2.2.2.1, c.2.2.2.2.2.2.2.2.2.2.1, c.2.2.2.2.2.2.2.2.2.2.2.1, c.2.2.2.2.2.2.2.2.2.2.2.2.1, ()), ()))

noncomputable def clientClientBegins.body : Code := Try.f41.body.getD .skip
noncomputable def clientClientBegins.con : OCon := { ps := [.obj kO4, .dat (.int .u64)], rs := [], f := fun n x => clientClientBegins n x.1 x.2.1 }
noncomputable def clientClientBegins.env : Env := { tys := [(98, ⟨kS9, 104⟩), (4, ⟨.bool, 1⟩), (93, ⟨.np, 8⟩)], elems := [], ptrs := [], cons := [], objs := [(48, [backTriesBegin.con])], loops := [], cuts := [], globs := globs, base := 2 }
noncomputable def clientClientBegins.lp (n : Nat) : LP (RT clientClientBegins.con.rs × BT clientClientBegins.con.ps) := fun lo κ body nm K s =>
  loops n (RT clientClientBegins.con.rs × BT clientClientBegins.con.ps) lo κ body nm K s
theorem clientClientBegins.eq (n : Nat) (x : PT clientClientBegins.con.ps) : evFuncO clientClientBegins.env Try.f41 clientClientBegins.body clientClientBegins.con.ps clientClientBegins.con.rs (clientClientBegins.lp n) n x = clientClientBegins.con.f n x := by kernel_rfl
theorem clientClientBegins.sound : SoundO Try.prog globs 41 clientClientBegins.con :=
  sound_byO (E := clientClientBegins.env) (c := clientClientBegins.body) (envOk (G := globs) (lc := []) (lo := [(48, [backTriesBegin.con])]) (envB_spec (by kernel_rfl)) rfl rfl trivial rfl ⟨⟨⟨backTriesBegin.sound, trivial⟩, by kernel_rfl⟩, trivial⟩ (by kernel_rfl) (by kernel_rfl)) Try.func41 (by kernel_rfl) (by kernel_rfl) (by kernel_rfl) clientClientBegins.lp (l := []) (by kernel_rfl) (fun n => trivial) clientClientBegins.eq
noncomputable def clientClientSay (fu : Nat) (c : O4) (kind : Int) (n : Int) : Option (((List S5) × Unit) × (O4 × Unit)) :=
  let t1 := [(kind, c.1, c.2.2.2.2.2.2.1, n, (0 : Int), [], ())]
  some ((t1, ()), (c, ()))

noncomputable def clientClientSay.body : Code := Try.f44.body.getD .skip
noncomputable def clientClientSay.con : OCon := { ps := [.obj kO4, .dat (.int .u8), .dat (.int .u64)], rs := [.dat (.slice kS5)], f := fun n x => clientClientSay n x.1 x.2.1 x.2.2.1 }
noncomputable def clientClientSay.env : Env := { tys := [(41, ⟨(.slice kS5), 24⟩), (98, ⟨kS9, 104⟩), (22, ⟨(.int .u32), 4⟩), (37, ⟨kS5, 56⟩)], elems := [(41, 37)], ptrs := [], cons := [], objs := [], loops := [], cuts := [], globs := globs, base := 2 }
noncomputable def clientClientSay.lp (n : Nat) : LP (RT clientClientSay.con.rs × BT clientClientSay.con.ps) := fun lo κ body nm K s =>
  loops n (RT clientClientSay.con.rs × BT clientClientSay.con.ps) lo κ body nm K s
theorem clientClientSay.eq (n : Nat) (x : PT clientClientSay.con.ps) : evFuncO clientClientSay.env Try.f44 clientClientSay.body clientClientSay.con.ps clientClientSay.con.rs (clientClientSay.lp n) n x = clientClientSay.con.f n x := by kernel_rfl
theorem clientClientSay.sound : SoundO Try.prog globs 44 clientClientSay.con :=
  sound_byO (E := clientClientSay.env) (c := clientClientSay.body) (envOk (G := globs) (lc := []) (lo := []) (envB_spec (by kernel_rfl)) rfl rfl trivial rfl trivial (by kernel_rfl) (by kernel_rfl)) Try.func44 (by kernel_rfl) (by kernel_rfl) (by kernel_rfl) clientClientSay.lp (l := []) (by kernel_rfl) (fun n => trivial) clientClientSay.eq
noncomputable def packGet.j50013 (fu : Nat) (k1 : Int → Int → Int → Option (Int × Int × Int × Unit)) (atv : Int) (n : Int) (i : Int) (v : Bool) : Option (Int × Int × Int × Unit) :=
  cond v (
    k1 (0 : Int) (0 : Int) (2 : Int)) (
    let t1 := IntKind.i64.wrap (atv + i)
    let t2 := IntKind.i64.wrap (t1 + (1 : Int))
    k1 n t2 (0 : Int))
noncomputable def packGet.j9 (fu : Nat) (k0 : Int → Int → (List Int) → Int → Int → Option (Int × Int × Int × Unit)) (k1 : Int → Int → Int → Option (Int × Int × Int × Unit)) (atv : Int) (n : Int) (i : Int) (c : Int) (v : List Int) (vx2 : Int) (vx3 : Int) : Option (Int × Int × Int × Unit) :=
  let t1 := IntKind.u64.wrap (bAnd .u8 c (127 : Int))
  let t2 := IntKind.i64.wrap ((7 : Int) * i)
  chk (!decide (t2 < 0)) <|
  let t3 := bOr .u64 n (sShl .u64 t1 t2)
  cond (decide (c ≥ (128 : Int))) (
    k0 atv t3 v vx2 vx3) (
    cond (c == (0 : Int)) (
      packGet.j50013 fu (fun vq5 vq5x2 vq5x3 => 
          k1 vq5 vq5x2 vq5x3) atv t3 i (decide (i > (0 : Int)))) (
      packGet.j50013 fu (fun vq6 vq6x2 vq6x3 => 
          k1 vq6 vq6x2 vq6x3) atv t3 i false))
noncomputable def packGet.b5 (fu : Nat) (next : Int → Int → (List Int) → Int → Int → Option (Int × Int × Int × Unit)) (k1 : Int → Int → Int → Option (Int × Int × Int × Unit)) (k2 : Unit → Option (Int × Int × Int × Unit)) (atv : Int) (n : Int) (v : List Int) (vx2 : Int) (vx3 : Int) : Option (Int × Int × Int × Unit) :=
  cond (decide (vx3 < vx2)) (
    chk (ixOk v vx3) <|
    let e1 := ixL (0 : Int) v vx3
    cond (vx3 == (9 : Int)) (
      cond (decide (e1 > (1 : Int))) (
        k1 (0 : Int) (0 : Int) (4 : Int)) (
        packGet.j9 fu (fun atvq11 nq11 vq11 vq11x2 vq11x3 => 
            let t2 := IntKind.i64.wrap (vq11x3 + (1 : Int))
            next atvq11 nq11 vq11 vq11x2 t2) (fun vq12 vq12x2 vq12x3 => 
            k1 vq12 vq12x2 vq12x3) atv n vx3 e1 v vx2 vx3)) (
      packGet.j9 fu (fun atvq13 nq13 vq13 vq13x2 vq13x3 => 
          let t3 := IntKind.i64.wrap (vq13x3 + (1 : Int))
          next atvq13 nq13 vq13 vq13x2 t3) (fun vq14 vq14x2 vq14x3 => 
          k1 vq14 vq14x2 vq14x3) atv n vx3 e1 v vx2 vx3)) (
    k2 ())
noncomputable def packGet.l5 (fu : Nat) (k1 : Int → Int → Int → Option (Int × Int × Int × Unit)) (k2 : Unit → Option (Int × Int × Int × Unit)) : Nat → Int → Int → (List Int) → Int → Int → Option (Int × Int × Int × Unit)
  | 0, _, _, _, _, _ => none
  | m + 1, atv, n, v, vx2, vx3 => packGet.b5 fu (packGet.l5 fu k1 k2 m) k1 k2 atv n v vx2 vx3
noncomputable def packGet (fu : Nat) (b : List Int) (atv : Int) : Option (Int × Int × Int × Unit) :=
  cond (decide (atv < (0 : Int))) (
    some ((0 : Int), (0 : Int), (3 : Int), ())) (
    let t1 := decide (atv > (b.length : Int))
    cond t1 (
      some ((0 : Int), (0 : Int), (3 : Int), ())) (
      chk (cutOk b atv (b.length : Int)) <|
      let t2 := cutL b atv (b.length : Int)
      packGet.l5 fu (fun vq3 vq3x2 vq3x3 => 
          some (vq3, vq3x2, vq3x3, ())) (fun (_ : Unit) => 
          some ((0 : Int), (0 : Int), (3 : Int), ())) fu atv (0 : Int) t2 (t2.length : Int) (0 : Int)))

noncomputable def packGet.body : Code := Try.f69.body.getD .skip
abbrev packGet.shj50013 : Shp := ⟨[.u, .d (.int .i64), .u, .u, .u, .u, .u, .d (.int .u64), .d (.int .i64), .u, .u, .u, .u, .u, .u, .u, .u, .u, .u, .u, .u, .u, .u, .u, .u, .u, .u, .u, .u, .u, .u, .u, .u, .u, .u, .u, .u, .u, .u, .u, .u, .u, .u, .u, .u, .u, .u, .u, .u, .d .bool, .u, .u, .u, .u, .u, .u, .u], []⟩
abbrev packGet.outj50013e1 : Shp := ⟨[.u, .u, .u, .u, .d (.int .u64), .d (.int .i64), .d (.int .i64), .u, .u, .u, .u, .u, .u, .u, .u, .u, .u, .u, .u, .u, .u, .u, .u, .u, .u, .u, .u, .u, .u, .u, .u, .u, .u, .u, .u, .u, .u, .u, .u, .u, .u, .u, .u, .u, .u, .u, .u, .u, .u, .u, .u, .u, .u, .u, .u, .u, .u], []⟩
noncomputable def packGet.nmj50013 : Norm := ⟨{ keep := [1, 7, 8, 49], shut := [(1, (.int .i64)), (7, (.int .u64)), (8, (.int .i64)), (49, .bool)], retag := [], heap := 0, dead := [], cshut := [], cretag := [] }, [(1, { keep := [4, 5, 6], shut := [(4, (.int .u64)), (5, (.int .i64)), (6, (.int .i64))], retag := [], heap := 0, dead := [], cshut := [], cretag := [] })]⟩
abbrev packGet.shj9 : Shp := ⟨[.u, .d (.int .i64), .u, .u, .u, .u, .u, .d (.int .u64), .d (.int .i64), .d (.int .u8), .u, .u, .u, .u, .u, .u, .u, .u, .u, .u, .d (.slice (.int .u8)), .d (.int .i64), .d (.int .i64), .u, .u, .u, .u, .u, .u, .u, .u, .u, .u, .u, .u, .u, .u, .u, .u, .u, .u, .u, .u, .u, .u, .u, .u, .u, .u, .u, .u, .u, .u, .u, .u, .u, .u], []⟩
abbrev packGet.outj9e0 : Shp := ⟨[.u, .d (.int .i64), .u, .u, .u, .u, .u, .d (.int .u64), .u, .u, .u, .u, .u, .u, .u, .u, .u, .u, .u, .u, .d (.slice (.int .u8)), .d (.int .i64), .d (.int .i64), .u, .u, .u, .u, .u, .u, .u, .u, .u, .u, .u, .u, .u, .u, .u, .u, .u, .u, .u, .u, .u, .u, .u, .u, .u, .u, .u, .u, .u, .u, .u, .u, .u, .u], []⟩
abbrev packGet.outj9e1 : Shp := ⟨[.u, .u, .u, .u, .d (.int .u64), .d (.int .i64), .d (.int .i64), .u, .u, .u, .u, .u, .u, .u, .u, .u, .u, .u, .u, .u, .u, .u, .u, .u, .u, .u, .u, .u, .u, .u, .u, .u, .u, .u, .u, .u, .u, .u, .u, .u, .u, .u, .u, .u, .u, .u, .u, .u, .u, .u, .u, .u, .u, .u, .u, .u, .u], []⟩
noncomputable def packGet.nmj9 : Norm := ⟨{ keep := [1, 7, 8, 9, 20, 21, 22], shut := [(1, (.int .i64)), (7, (.int .u64)), (8, (.int .i64)), (9, (.int .u8)), (20, (.slice (.int .u8))), (21, (.int .i64)), (22, (.int .i64))], retag := [], heap := 0, dead := [], cshut := [], cretag := [] }, [(0, { keep := [1, 7, 20, 21, 22], shut := [(1, (.int .i64)), (7, (.int .u64)), (20, (.slice (.int .u8))), (21, (.int .i64)), (22, (.int .i64))], retag := [], heap := 0, dead := [], cshut := [], cretag := [] }), (1, { keep := [4, 5, 6], shut := [(4, (.int .u64)), (5, (.int .i64)), (6, (.int .i64))], retag := [], heap := 0, dead := [], cshut := [], cretag := [] })]⟩
abbrev packGet.shl5 : Shp := ⟨[.u, .d (.int .i64), .u, .u, .u, .u, .u, .d (.int .u64), .u, .u, .u, .u, .u, .u, .u, .u, .u, .u, .u, .u, .d (.slice (.int .u8)), .d (.int .i64), .d (.int .i64), .u, .u, .u, .u, .u, .u, .u, .u, .u, .u, .u, .u, .u, .u, .u, .u, .u, .u, .u, .u, .u, .u, .u, .u, .u, .u, .u, .u, .u, .u, .u, .u, .u, .u], []⟩
abbrev packGet.outl5e1 : Shp := ⟨[.u, .u, .u, .u, .d (.int .u64), .d (.int .i64), .d (.int .i64), .u, .u, .u, .u, .u, .u, .u, .u, .u, .u, .u, .u, .u, .u, .u, .u, .u, .u, .u, .u, .u, .u, .u, .u, .u, .u, .u, .u, .u, .u, .u, .u, .u, .u, .u, .u, .u, .u, .u, .u, .u, .u, .u, .u, .u, .u, .u, .u, .u, .u], []⟩
abbrev packGet.outl5e2 : Shp := ⟨[.u, .u, .u, .u, .u, .u, .u, .u, .u, .u, .u, .u, .u, .u, .u, .u, .u, .u, .u, .u, .u, .u, .u, .u, .u, .u, .u, .u, .u, .u, .u, .u, .u, .u, .u, .u, .u, .u, .u, .u, .u, .u, .u, .u, .u, .u, .u, .u, .u, .u, .u, .u, .u, .u, .u, .u, .u], []⟩
noncomputable def packGet.nml5 : Norm := ⟨{ keep := [1, 7, 20, 21, 22], shut := [(1, (.int .i64)), (7, (.int .u64)), (20, (.slice (.int .u8))), (21, (.int .i64)), (22, (.int .i64))], retag := [], heap := 0, dead := [], cshut := [], cretag := [] }, [(1, { keep := [4, 5, 6], shut := [(4, (.int .u64)), (5, (.int .i64)), (6, (.int .i64))], retag := [], heap := 0, dead := [], cshut := [], cretag := [] }), (2, { keep := [], shut := [], retag := [], heap := 0, dead := [], cshut := [], cretag := [] })]⟩
noncomputable def packGet.con : Con := { ps := [(.slice (.int .u8)), (.int .i64)], rs := [(.int .u64), (.int .i64), (.int .i64)], f := fun n x => packGet n x.1 x.2.1 }
noncomputable def packGet.env : Env := { tys := [(34, ⟨(.int .u64), 8⟩), (3, ⟨(.int .i64), 8⟩), (27, ⟨(.int .i64), 8⟩), (4, ⟨.bool, 1⟩), (5, ⟨(.int .u8), 1⟩)], elems := [(35, 5)], ptrs := [], cons := [], objs := [], loops := [(5, packGet.nml5)], cuts := [(50013, packGet.nmj50013), (9, packGet.nmj9)], globs := globs, base := 0 }
noncomputable def packGet.lp (n : Nat) : LP (Kd.struct packGet.con.rs).T := fun lo κ body nm K s =>
  cond (!lo && Nat.beq κ 50013)
    (match packGet.shj50013.dec s with
    | some v => packGet.j50013 n (fun w0 w1 w2 => K .ret (packGet.outj50013e1.enc (w0, w1, w2, ()))) v.1 v.2.1 v.2.2.1 v.2.2.2.1
    | none => loops n (Kd.struct packGet.con.rs).T lo κ body nm K s)
    (cond (!lo && Nat.beq κ 9)
    (match packGet.shj9.dec s with
    | some v => packGet.j9 n (fun w0 w1 w2 w3 w4 => K .normal (packGet.outj9e0.enc (w0, w1, w2, w3, w4, ()))) (fun w0 w1 w2 => K .ret (packGet.outj9e1.enc (w0, w1, w2, ()))) v.1 v.2.1 v.2.2.1 v.2.2.2.1 v.2.2.2.2.1 v.2.2.2.2.2.1 v.2.2.2.2.2.2.1
    | none => loops n (Kd.struct packGet.con.rs).T lo κ body nm K s)
    (cond (lo && Nat.beq κ 5)
    (match packGet.shl5.dec s with
    | some v => packGet.l5 n (fun w0 w1 w2 => K .ret (packGet.outl5e1.enc (w0, w1, w2, ()))) (fun _ => K (.exit 0) (packGet.outl5e2.enc (()))) n v.1 v.2.1 v.2.2.1 v.2.2.2.1 v.2.2.2.2.1
    | none => loops n (Kd.struct packGet.con.rs).T lo κ body nm K s)
    (loops n (Kd.struct packGet.con.rs).T lo κ body nm K s)))
theorem packGet.atj50013 (n : Nat) (s : St) (K : Ex → St → Option (Kd.struct packGet.con.rs).T) : (packGet.lp n) false 50013 (evK packGet.env (packGet.lp n) n (sub [1, 1, 1, 0, 1, 0, 0, 1, 1, 0, 0, 1, 1, 1, 0, 1, 1, 1] packGet.body)) packGet.nmj50013 K s = loops n (Kd.struct packGet.con.rs).T false 50013 (evK packGet.env (packGet.lp n) n (sub [1, 1, 1, 0, 1, 0, 0, 1, 1, 0, 0, 1, 1, 1, 0, 1, 1, 1] packGet.body)) packGet.nmj50013 K s := by
  show (match packGet.shj50013.dec s with | some v => packGet.j50013 n (fun w0 w1 w2 => K .ret (packGet.outj50013e1.enc (w0, w1, w2, ()))) v.1 v.2.1 v.2.2.1 v.2.2.2.1 | none => loops n (Kd.struct packGet.con.rs).T false 50013 (evK packGet.env (packGet.lp n) n (sub [1, 1, 1, 0, 1, 0, 0, 1, 1, 0, 0, 1, 1, 1, 0, 1, 1, 1] packGet.body)) packGet.nmj50013 K s) = _
  cases h : packGet.shj50013.dec s with
  | none => rfl
  | some v =>
    rw [Shp.dec_enc h]
    kernel_rfl
theorem packGet.atj9 (n : Nat) (s : St) (K : Ex → St → Option (Kd.struct packGet.con.rs).T) : (packGet.lp n) false 9 (evK packGet.env (packGet.lp n) n (sub [1, 1, 1, 0, 1, 0, 0, 1, 1, 0, 0, 1, 1] packGet.body)) packGet.nmj9 K s = loops n (Kd.struct packGet.con.rs).T false 9 (evK packGet.env (packGet.lp n) n (sub [1, 1, 1, 0, 1, 0, 0, 1, 1, 0, 0, 1, 1] packGet.body)) packGet.nmj9 K s := by
  show (match packGet.shj9.dec s with | some v => packGet.j9 n (fun w0 w1 w2 w3 w4 => K .normal (packGet.outj9e0.enc (w0, w1, w2, w3, w4, ()))) (fun w0 w1 w2 => K .ret (packGet.outj9e1.enc (w0, w1, w2, ()))) v.1 v.2.1 v.2.2.1 v.2.2.2.1 v.2.2.2.2.1 v.2.2.2.2.2.1 v.2.2.2.2.2.2.1 | none => loops n (Kd.struct packGet.con.rs).T false 9 (evK packGet.env (packGet.lp n) n (sub [1, 1, 1, 0, 1, 0, 0, 1, 1, 0, 0, 1, 1] packGet.body)) packGet.nmj9 K s) = _
  cases h : packGet.shj9.dec s with
  | none => rfl
  | some v =>
    rw [Shp.dec_enc h]
    kernel_rfl
theorem packGet.atl5 (n : Nat) (s : St) (K : Ex → St → Option (Kd.struct packGet.con.rs).T) : (packGet.lp n) true 5 (evK packGet.env (packGet.lp n) n (sub [1, 1, 1, 0, 1, 0, 0] packGet.body)) packGet.nml5 K s = loops n (Kd.struct packGet.con.rs).T true 5 (evK packGet.env (packGet.lp n) n (sub [1, 1, 1, 0, 1, 0, 0] packGet.body)) packGet.nml5 K s := by
  show (match packGet.shl5.dec s with | some v => packGet.l5 n (fun w0 w1 w2 => K .ret (packGet.outl5e1.enc (w0, w1, w2, ()))) (fun _ => K (.exit 0) (packGet.outl5e2.enc (()))) n v.1 v.2.1 v.2.2.1 v.2.2.2.1 v.2.2.2.2.1 | none => loops n (Kd.struct packGet.con.rs).T true 5 (evK packGet.env (packGet.lp n) n (sub [1, 1, 1, 0, 1, 0, 0] packGet.body)) packGet.nml5 K s) = _
  cases h : packGet.shl5.dec s with
  | none => rfl
  | some v =>
    rw [Shp.dec_enc h]
    exact (evLoop_eq (sh := packGet.shl5) (body := evK packGet.env (packGet.lp n) n (sub [1, 1, 1, 0, 1, 0, 0] packGet.body)) (nm := packGet.nml5) (K := K) (b := fun nx v => packGet.b5 n (fun x0 x1 x2 x3 x4 => nx (x0, x1, x2, x3, x4, ())) (fun w0 w1 w2 => K .ret (packGet.outl5e1.enc (w0, w1, w2, ()))) (fun _ => K (.exit 0) (packGet.outl5e2.enc (()))) v.1 v.2.1 v.2.2.1 v.2.2.2.1 v.2.2.2.2.1) (l := fun m v => packGet.l5 n (fun w0 w1 w2 => K .ret (packGet.outl5e1.enc (w0, w1, w2, ()))) (fun _ => K (.exit 0) (packGet.outl5e2.enc (()))) m v.1 v.2.1 v.2.2.1 v.2.2.2.1 v.2.2.2.2.1) (fun _ => rfl) (fun _ _ => rfl) (fun m v => by kernel_rfl) n v).symm
theorem packGet.eq (n : Nat) (x : (Kd.struct packGet.con.ps).T) : evFunc packGet.env Try.f69 packGet.body packGet.con.ps packGet.con.rs (packGet.lp n) n x = packGet.con.f n x := by kernel_rfl
theorem packGet.sound : Sound Try.prog globs 69 packGet.con :=
  sound_by (E := packGet.env) (c := packGet.body) (envOk (G := globs) (lc := []) (lo := []) (envB_spec (by kernel_rfl)) rfl rfl trivial rfl trivial (by kernel_rfl) (by kernel_rfl)) Try.func69 (by kernel_rfl) packGet.lp (l := [(false, sub [1, 1, 1, 0, 1, 0, 0, 1, 1, 0, 0, 1, 1, 1, 0, 1, 1, 1] packGet.body, packGet.nmj50013), (false, sub [1, 1, 1, 0, 1, 0, 0, 1, 1, 0, 0, 1, 1] packGet.body, packGet.nmj9), (true, sub [1, 1, 1, 0, 1, 0, 0] packGet.body, packGet.nml5)]) (by kernel_rfl) (fun n => ⟨packGet.atj50013 n, ⟨packGet.atj9 n, ⟨packGet.atl5 n, trivial⟩⟩⟩) packGet.eq
noncomputable def clientMatch (fu : Nat) (b : List Int) : Option (S2 × Bool × Unit) :=
  (packGet fu b (0 : Int)).bind fun r1 =>
  cond (r1.2.2.1 != (0 : Int)) (
    some (((0 : Int), (0 : Int), ()), false, ())) (
    (packGet fu b r1.2.1).bind fun r2 =>
    cond (r2.2.2.1 == (0 : Int)) (
      let t3 := r2.2.1 == (b.length : Int)
      cond t3 (
        cond (decide (r1.1 ≤ r2.1)) (
          let t4 := decide (r2.1 < (1099511627776 : Int))
          some ((r1.1, r2.1, ()), t4, ())) (
          some ((r1.1, r2.1, ()), false, ()))) (
        some ((r1.1, r2.1, ()), false, ()))) (
      some ((r1.1, r2.1, ()), false, ())))

noncomputable def clientMatch.body : Code := Try.f59.body.getD .skip
noncomputable def clientMatch.con : Con := { ps := [(.slice (.int .u8))], rs := [kS2, .bool], f := fun n x => clientMatch n x.1 }
noncomputable def clientMatch.env : Env := { tys := [(50, ⟨kS2, 16⟩), (4, ⟨.bool, 1⟩), (5, ⟨(.int .u8), 1⟩)], elems := [(35, 5)], ptrs := [], cons := [(69, packGet.con)], objs := [], loops := [], cuts := [], globs := globs, base := 0 }
noncomputable def clientMatch.lp (n : Nat) : LP (Kd.struct clientMatch.con.rs).T := fun lo κ body nm K s =>
  loops n (Kd.struct clientMatch.con.rs).T lo κ body nm K s
theorem clientMatch.eq (n : Nat) (x : (Kd.struct clientMatch.con.ps).T) : evFunc clientMatch.env Try.f59 clientMatch.body clientMatch.con.ps clientMatch.con.rs (clientMatch.lp n) n x = clientMatch.con.f n x := by kernel_rfl
theorem clientMatch.sound : Sound Try.prog globs 59 clientMatch.con :=
  sound_by (E := clientMatch.env) (c := clientMatch.body) (envOk (G := globs) (lc := [(69, packGet.con)]) (lo := []) (envB_spec (by kernel_rfl)) rfl rfl ⟨.inl ⟨packGet.sound, by kernel_rfl⟩, trivial⟩ rfl trivial (by kernel_rfl) (by kernel_rfl)) Try.func59 (by kernel_rfl) clientMatch.lp (l := []) (by kernel_rfl) (fun n => trivial) clientMatch.eq
noncomputable def clientClientDeliver.j55007 (fu : Nat) (k0 : Int → (List Int) → Int → Bool → Bool → Int → Int → Bool → Bool → Bool → Int → (List S3) → S0 → Bool → Int → Int → S5 → S2 → Option (((List S5) × Unit) × (O4 × Unit))) (k1 : (List S5) → Int → (List Int) → Int → Bool → Bool → Int → Int → Bool → Bool → Bool → Int → (List S3) → S0 → Bool → Int → Int → Option (((List S5) × Unit) × (O4 × Unit))) (ok : Bool) (v : Bool) (c0 : Int) (c0x2 : List Int) (c0x3 : Int) (c0x4 : Bool) (c0x5 : Bool) (c0x6 : Int) (c0x7 : Int) (c0x8 : Bool) (c0x9 : Bool) (c0x10 : Bool) (c0x11 : Int) (c0x12 : List S3) (b1 : S0) (c1 : Bool) (c1x2 : Int) (c1x3 : Int) (b2 : S5) (b3 : S2) : Option (((List S5) × Unit) × (O4 × Unit)) :=
  cond v (
    (clientClientSay fu (c0, c0x2, c0x3, (b1, c1, c1x2, c1x3, ()), c0x4, c0x5, c0x6, c0x7, c0x8, false, c0x10, c0x11, c0x12, ()) (10 : Int) b2.2.2.2.1).bind fun r1 =>
    k1 r1.1.1 r1.2.1.1 r1.2.1.2.1 r1.2.1.2.2.1 r1.2.1.2.2.2.2.1 r1.2.1.2.2.2.2.2.1 r1.2.1.2.2.2.2.2.2.1 r1.2.1.2.2.2.2.2.2.2.1 r1.2.1.2.2.2.2.2.2.2.2.1 r1.2.1.2.2.2.2.2.2.2.2.2.1 r1.2.1.2.2.2.2.2.2.2.2.2.2.1 r1.2.1.2.2.2.2.2.2.2.2.2.2.2.1 r1.2.1.2.2.2.2.2.2.2.2.2.2.2.2.1 r1.2.1.2.2.2.1.1 r1.2.1.2.2.2.1.2.1 r1.2.1.2.2.2.1.2.2.1 r1.2.1.2.2.2.1.2.2.2.1) (
    cond (!ok) (
      k1 [] c0 c0x2 c0x3 c0x4 c0x5 c0x6 c0x7 c0x8 c0x9 c0x10 c0x11 c0x12 b1 c1 c1x2 c1x3) (
      let t2 := decide (b2.2.2.2.1 ≥ (1099511627776 : Int))
      cond t2 (
        k1 [] c0 c0x2 c0x3 c0x4 c0x5 c0x6 c0x7 c0x8 c0x9 c0x10 c0x11 c0x12 b1 c1 c1x2 c1x3) (
        k0 c0 c0x2 c0x3 c0x4 c0x5 c0x6 c0x7 c0x8 c0x9 c0x10 c0x11 c0x12 b1 c1 c1x2 c1x3 b2 b3)))
noncomputable def clientClientDeliver.j37005 (fu : Nat) (k0 : Int → (List Int) → Int → Bool → Bool → Int → Int → Bool → Bool → Bool → Int → (List S3) → S0 → Bool → Int → Int → S5 → S2 → Option (((List S5) × Unit) × (O4 × Unit))) (k1 : (List S5) → Int → (List Int) → Int → Bool → Bool → Int → Int → Bool → Bool → Bool → Int → (List S3) → S0 → Bool → Int → Int → Option (((List S5) × Unit) × (O4 × Unit))) (ok : Bool) (v : Bool) (c0 : Int) (c0x2 : List Int) (c0x3 : Int) (c0x4 : Bool) (c0x5 : Bool) (c0x6 : Int) (c0x7 : Int) (c0x8 : Bool) (c0x9 : Bool) (c0x10 : Bool) (c0x11 : Int) (c0x12 : List S3) (b1 : S0) (c1 : Bool) (c1x2 : Int) (c1x3 : Int) (b2 : S5) (b3 : S2) : Option (((List S5) × Unit) × (O4 × Unit)) :=
  cond v (
    (clientClientSay fu (c0, c0x2, c0x3, (b1, c1, c1x2, c1x3, ()), c0x4, c0x5, c0x6, c0x7, c0x8, c0x9, c0x10, c0x11, c0x12, ()) (9 : Int) b2.2.2.2.1).bind fun r1 =>
    k1 r1.1.1 r1.2.1.1 r1.2.1.2.1 r1.2.1.2.2.1 r1.2.1.2.2.2.2.1 r1.2.1.2.2.2.2.2.1 r1.2.1.2.2.2.2.2.2.1 r1.2.1.2.2.2.2.2.2.2.1 r1.2.1.2.2.2.2.2.2.2.2.1 r1.2.1.2.2.2.2.2.2.2.2.2.1 r1.2.1.2.2.2.2.2.2.2.2.2.2.1 r1.2.1.2.2.2.2.2.2.2.2.2.2.2.1 r1.2.1.2.2.2.2.2.2.2.2.2.2.2.2.1 r1.2.1.2.2.2.1.1 r1.2.1.2.2.2.1.2.1 r1.2.1.2.2.2.1.2.2.1 r1.2.1.2.2.2.1.2.2.2.1) (
    cond (b2.2.2.2.1 == c0x7) (
      clientClientDeliver.j55007 fu (fun c0q7 c0q7x2 c0q7x3 c0q7x4 c0q7x5 c0q7x6 c0q7x7 c0q7x8 c0q7x9 c0q7x10 c0q7x11 c0q7x12 b1q7 c1q7 c1q7x2 c1q7x3 b2q7 b3q7 => 
          k0 c0q7 c0q7x2 c0q7x3 c0q7x4 c0q7x5 c0q7x6 c0q7x7 c0q7x8 c0q7x9 c0q7x10 c0q7x11 c0q7x12 b1q7 c1q7 c1q7x2 c1q7x3 b2q7 b3q7) (fun vq8 c0q8 c0q8x2 c0q8x3 c0q8x4 c0q8x5 c0q8x6 c0q8x7 c0q8x8 c0q8x9 c0q8x10 c0q8x11 c0q8x12 b1q8 c1q8 c1q8x2 c1q8x3 => 
          k1 vq8 c0q8 c0q8x2 c0q8x3 c0q8x4 c0q8x5 c0q8x6 c0q8x7 c0q8x8 c0q8x9 c0q8x10 c0q8x11 c0q8x12 b1q8 c1q8 c1q8x2 c1q8x3) ok c0x9 c0 c0x2 c0x3 c0x4 c0x5 c0x6 c0x7 c0x8 c0x9 c0x10 c0x11 c0x12 b1 c1 c1x2 c1x3 b2 b3) (
      clientClientDeliver.j55007 fu (fun c0q9 c0q9x2 c0q9x3 c0q9x4 c0q9x5 c0q9x6 c0q9x7 c0q9x8 c0q9x9 c0q9x10 c0q9x11 c0q9x12 b1q9 c1q9 c1q9x2 c1q9x3 b2q9 b3q9 => 
          k0 c0q9 c0q9x2 c0q9x3 c0q9x4 c0q9x5 c0q9x6 c0q9x7 c0q9x8 c0q9x9 c0q9x10 c0q9x11 c0q9x12 b1q9 c1q9 c1q9x2 c1q9x3 b2q9 b3q9) (fun vq10 c0q10 c0q10x2 c0q10x3 c0q10x4 c0q10x5 c0q10x6 c0q10x7 c0q10x8 c0q10x9 c0q10x10 c0q10x11 c0q10x12 b1q10 c1q10 c1q10x2 c1q10x3 => 
          k1 vq10 c0q10 c0q10x2 c0q10x3 c0q10x4 c0q10x5 c0q10x6 c0q10x7 c0q10x8 c0q10x9 c0q10x10 c0q10x11 c0q10x12 b1q10 c1q10 c1q10x2 c1q10x3) ok false c0 c0x2 c0x3 c0x4 c0x5 c0x6 c0x7 c0x8 c0x9 c0x10 c0x11 c0x12 b1 c1 c1x2 c1x3 b2 b3))
noncomputable def clientClientDeliver.j14003 (fu : Nat) (k0 : Int → (List Int) → Int → Bool → Bool → Int → Int → Bool → Bool → Bool → Int → (List S3) → S0 → Bool → Int → Int → S5 → S2 → Option (((List S5) × Unit) × (O4 × Unit))) (k1 : (List S5) → Int → (List Int) → Int → Bool → Bool → Int → Int → Bool → Bool → Bool → Int → (List S3) → S0 → Bool → Int → Int → Option (((List S5) × Unit) × (O4 × Unit))) (ok : Bool) (v : Bool) (c0 : Int) (c0x2 : List Int) (c0x3 : Int) (c0x4 : Bool) (c0x5 : Bool) (c0x6 : Int) (c0x7 : Int) (c0x8 : Bool) (c0x9 : Bool) (c0x10 : Bool) (c0x11 : Int) (c0x12 : List S3) (b1 : S0) (c1 : Bool) (c1x2 : Int) (c1x3 : Int) (b2 : S5) (b3 : S2) : Option (((List S5) × Unit) × (O4 × Unit)) :=
  cond v (
    (clientClientSay fu (c0, c0x2, c0x3, (b1, c1, c1x2, c1x3, ()), c0x4, c0x5, c0x6, c0x7, c0x8, c0x9, c0x10, c0x11, c0x12, ()) (6 : Int) c0x7).bind fun r1 =>
    k1 r1.1.1 r1.2.1.1 r1.2.1.2.1 r1.2.1.2.2.1 r1.2.1.2.2.2.2.1 r1.2.1.2.2.2.2.2.1 r1.2.1.2.2.2.2.2.2.1 r1.2.1.2.2.2.2.2.2.2.1 r1.2.1.2.2.2.2.2.2.2.2.1 r1.2.1.2.2.2.2.2.2.2.2.2.1 r1.2.1.2.2.2.2.2.2.2.2.2.2.1 r1.2.1.2.2.2.2.2.2.2.2.2.2.2.1 r1.2.1.2.2.2.2.2.2.2.2.2.2.2.2.1 r1.2.1.2.2.2.1.1 r1.2.1.2.2.2.1.2.1 r1.2.1.2.2.2.1.2.2.1 r1.2.1.2.2.2.1.2.2.2.1) (
    cond (b2.2.2.2.1 == c0x7) (
      clientClientDeliver.j37005 fu (fun c0q11 c0q11x2 c0q11x3 c0q11x4 c0q11x5 c0q11x6 c0q11x7 c0q11x8 c0q11x9 c0q11x10 c0q11x11 c0q11x12 b1q11 c1q11 c1q11x2 c1q11x3 b2q11 b3q11 => 
          k0 c0q11 c0q11x2 c0q11x3 c0q11x4 c0q11x5 c0q11x6 c0q11x7 c0q11x8 c0q11x9 c0q11x10 c0q11x11 c0q11x12 b1q11 c1q11 c1q11x2 c1q11x3 b2q11 b3q11) (fun vq12 c0q12 c0q12x2 c0q12x3 c0q12x4 c0q12x5 c0q12x6 c0q12x7 c0q12x8 c0q12x9 c0q12x10 c0q12x11 c0q12x12 b1q12 c1q12 c1q12x2 c1q12x3 => 
          k1 vq12 c0q12 c0q12x2 c0q12x3 c0q12x4 c0q12x5 c0q12x6 c0q12x7 c0q12x8 c0q12x9 c0q12x10 c0q12x11 c0q12x12 b1q12 c1q12 c1q12x2 c1q12x3) ok c0x8 c0 c0x2 c0x3 c0x4 c0x5 c0x6 c0x7 c0x8 c0x9 c0x10 c0x11 c0x12 b1 c1 c1x2 c1x3 b2 b3) (
      clientClientDeliver.j37005 fu (fun c0q13 c0q13x2 c0q13x3 c0q13x4 c0q13x5 c0q13x6 c0q13x7 c0q13x8 c0q13x9 c0q13x10 c0q13x11 c0q13x12 b1q13 c1q13 c1q13x2 c1q13x3 b2q13 b3q13 => 
          k0 c0q13 c0q13x2 c0q13x3 c0q13x4 c0q13x5 c0q13x6 c0q13x7 c0q13x8 c0q13x9 c0q13x10 c0q13x11 c0q13x12 b1q13 c1q13 c1q13x2 c1q13x3 b2q13 b3q13) (fun vq14 c0q14 c0q14x2 c0q14x3 c0q14x4 c0q14x5 c0q14x6 c0q14x7 c0q14x8 c0q14x9 c0q14x10 c0q14x11 c0q14x12 b1q14 c1q14 c1q14x2 c1q14x3 => 
          k1 vq14 c0q14 c0q14x2 c0q14x3 c0q14x4 c0q14x5 c0q14x6 c0q14x7 c0q14x8 c0q14x9 c0q14x10 c0q14x11 c0q14x12 b1q14 c1q14 c1q14x2 c1q14x3) ok false c0 c0x2 c0x3 c0x4 c0x5 c0x6 c0x7 c0x8 c0x9 c0x10 c0x11 c0x12 b1 c1 c1x2 c1x3 b2 b3))
noncomputable def clientClientDeliver.j11 (fu : Nat) (k1 : (List S5) → Int → (List Int) → Int → Bool → Bool → Int → Int → Bool → Bool → Bool → Int → (List S3) → S0 → Bool → Int → Int → Option (((List S5) × Unit) × (O4 × Unit))) (c0 : Int) (c0x2 : List Int) (c0x3 : Int) (c0x4 : Bool) (c0x5 : Bool) (c0x6 : Int) (c0x7 : Int) (c0x8 : Bool) (c0x9 : Bool) (c0x10 : Bool) (c0x11 : Int) (c0x12 : List S3) (b1 : S0) (c1 : Bool) (c1x2 : Int) (c1x3 : Int) (b2 : S5) (b3 : S2) : Option (((List S5) × Unit) × (O4 × Unit)) :=
  chk (apOk c0x12 ([(b2.2.2.2.1, b3, ())]) 24) <|
  let t1 := c0x12 ++ ([(b2.2.2.2.1, b3, ())])
  let t2 := IntKind.u64.wrap (b2.2.2.2.1 + (1 : Int))
  (clientClientSay fu (c0, c0x2, c0x3, (b1, c1, c1x2, c1x3, ()), c0x4, c0x5, c0x6, t2, false, c0x9, c0x10, c0x11, t1, ()) (6 : Int) t2).bind fun r3 =>
  k1 r3.1.1 r3.2.1.1 r3.2.1.2.1 r3.2.1.2.2.1 r3.2.1.2.2.2.2.1 r3.2.1.2.2.2.2.2.1 r3.2.1.2.2.2.2.2.2.1 r3.2.1.2.2.2.2.2.2.2.1 r3.2.1.2.2.2.2.2.2.2.2.1 r3.2.1.2.2.2.2.2.2.2.2.2.1 r3.2.1.2.2.2.2.2.2.2.2.2.2.1 r3.2.1.2.2.2.2.2.2.2.2.2.2.2.1 r3.2.1.2.2.2.2.2.2.2.2.2.2.2.2.1 r3.2.1.2.2.2.1.1 r3.2.1.2.2.2.1.2.1 r3.2.1.2.2.2.1.2.2.1 r3.2.1.2.2.2.1.2.2.2.1
noncomputable def clientClientDeliver (fu : Nat) (c : O4) (f : S5) : Option (((List S5) × Unit) × (O4 × Unit)) :=
  (clientMatch fu f.2.2.2.2.2.1).bind fun r1 =>
  let t2 := decide (f.2.2.2.1 < c.2.2.2.2.2.2.2.1)
  cond t2 (
    clientClientDeliver.j14003 fu (fun c0q1 c0q1x2 c0q1x3 c0q1x4 c0q1x5 c0q1x6 c0q1x7 c0q1x8 c0q1x9 c0q1x10 c0q1x11 c0q1x12 b1q1 c1q1 c1q1x2 c1q1x3 b2q1 b3q1 => 
        clientClientDeliver.j11 fu (fun vq2 c0q2 c0q2x2 c0q2x3 c0q2x4 c0q2x5 c0q2x6 c0q2x7 c0q2x8 c0q2x9 c0q2x10 c0q2x11 c0q2x12 b1q2 c1q2 c1q2x2 c1q2x3 => 
            some ((vq2, ()), ((c0q2, c0q2x2, c0q2x3, (b1q2, c1q2, c1q2x2, c1q2x3, ()), c0q2x4, c0q2x5, c0q2x6, c0q2x7, c0q2x8, c0q2x9, c0q2x10, c0q2x11, c0q2x12, ()), ()))) c0q1 c0q1x2 c0q1x3 c0q1x4 c0q1x5 c0q1x6 c0q1x7 c0q1x8 c0q1x9 c0q1x10 c0q1x11 c0q1x12 b1q1 c1q1 c1q1x2 c1q1x3 b2q1 b3q1) (fun vq3 c0q3 c0q3x2 c0q3x3 c0q3x4 c0q3x5 c0q3x6 c0q3x7 c0q3x8 c0q3x9 c0q3x10 c0q3x11 c0q3x12 b1q3 c1q3 c1q3x2 c1q3x3 => 
        some ((vq3, ()), ((c0q3, c0q3x2, c0q3x3, (b1q3, c1q3, c1q3x2, c1q3x3, ()), c0q3x4, c0q3x5, c0q3x6, c0q3x7, c0q3x8, c0q3x9, c0q3x10, c0q3x11, c0q3x12, ()), ()))) r1.2.1 true c.1 c.2.1 c.2.2.1 c.2.2.2.2.1 c.2.2.2.2.2.1 c.2.2.2.2.2.2.1 c.2.2.2.2.2.2.2.1 c.2.2.2.2.2.2.2.2.1 c.2.2.2.2.2.2.2.2.2.1 c.2.2.2.2.2.2.2.2.2.2.1 c.2.2.2.2.2.2.2.2.2.2.2.1 c.2.2.2.2.2.2.2.2.2.2.2.2.1 c.2.2.2.1.1 c.2.2.2.1.2.1 c.2.2.2.1.2.2.1 c.2.2.2.1.2.2.2.1 f r1.1) (
    let t3 := decide (f.2.2.2.2.1 > c.2.2.2.2.2.2.2.1)
    clientClientDeliver.j14003 fu (fun c0q4 c0q4x2 c0q4x3 c0q4x4 c0q4x5 c0q4x6 c0q4x7 c0q4x8 c0q4x9 c0q4x10 c0q4x11 c0q4x12 b1q4 c1q4 c1q4x2 c1q4x3 b2q4 b3q4 => 
        clientClientDeliver.j11 fu (fun vq5 c0q5 c0q5x2 c0q5x3 c0q5x4 c0q5x5 c0q5x6 c0q5x7 c0q5x8 c0q5x9 c0q5x10 c0q5x11 c0q5x12 b1q5 c1q5 c1q5x2 c1q5x3 => 
            some ((vq5, ()), ((c0q5, c0q5x2, c0q5x3, (b1q5, c1q5, c1q5x2, c1q5x3, ()), c0q5x4, c0q5x5, c0q5x6, c0q5x7, c0q5x8, c0q5x9, c0q5x10, c0q5x11, c0q5x12, ()), ()))) c0q4 c0q4x2 c0q4x3 c0q4x4 c0q4x5 c0q4x6 c0q4x7 c0q4x8 c0q4x9 c0q4x10 c0q4x11 c0q4x12 b1q4 c1q4 c1q4x2 c1q4x3 b2q4 b3q4) (fun vq6 c0q6 c0q6x2 c0q6x3 c0q6x4 c0q6x5 c0q6x6 c0q6x7 c0q6x8 c0q6x9 c0q6x10 c0q6x11 c0q6x12 b1q6 c1q6 c1q6x2 c1q6x3 => 
        some ((vq6, ()), ((c0q6, c0q6x2, c0q6x3, (b1q6, c1q6, c1q6x2, c1q6x3, ()), c0q6x4, c0q6x5, c0q6x6, c0q6x7, c0q6x8, c0q6x9, c0q6x10, c0q6x11, c0q6x12, ()), ()))) r1.2.1 t3 c.1 c.2.1 c.2.2.1 c.2.2.2.2.1 c.2.2.2.2.2.1 c.2.2.2.2.2.2.1 c.2.2.2.2.2.2.2.1 c.2.2.2.2.2.2.2.2.1 c.2.2.2.2.2.2.2.2.2.1 c.2.2.2.2.2.2.2.2.2.2.1 c.2.2.2.2.2.2.2.2.2.2.2.1 c.2.2.2.2.2.2.2.2.2.2.2.2.1 c.2.2.2.1.1 c.2.2.2.1.2.1 c.2.2.2.1.2.2.1 c.2.2.2.1.2.2.2.1 f r1.1)

noncomputable def clientClientDeliver.body : Code := Try.f45.body.getD .skip
abbrev clientClientDeliver.shj55007 : Shp := ⟨[.p 0 0, .u, .u, .p 2 0, .u, .p 3 0, .d .bool, .u, .u, .u, .u, .u, .u, .u, .u, .u, .u, .u, .u, .u, .u, .u, .u, .u, .u, .u, .u, .u, .u, .u, .u, .u, .u, .u, .u, .u, .u, .u, .u, .u, .u, .u, .u, .u, .u, .u, .u, .u, .u, .u, .u, .u, .u, .u, .d .bool, .u, .u, .u, .u, .u, .u, .u, .u, .u, .u, .u, .u, .u, .u, .u, .u, .u, .u, .u, .u, .u, .u, .u, .u, .u, .u, .u, .u, .u, .u, .u, .u, .u, .u, .u, .u, .u, .u, .u, .u, .u, .u, .u, .u, .u, .u, .u, .u, .u, .u, .u, .u, .u, .u, .u, .u], [.c [.d (.int .u32), .d (.slice (.int .u8)), .d (.int .u64), .p 1 0, .d .bool, .d .bool, .d (.int .u32), .d (.int .u64), .d .bool, .d .bool, .d .bool, .d (.int .u64), .o 1012 kS3], .c [.g kS0, .d .bool, .d (.int .u32), .d (.int .u64)], .c [.g kS5], .c [.g kS2]]⟩
abbrev clientClientDeliver.outj55007e0 : Shp := ⟨[.p 0 0, .u, .u, .p 2 0, .u, .p 3 0, .u, .u, .u, .u, .u, .u, .u, .u, .u, .u, .u, .u, .u, .u, .u, .u, .u, .u, .u, .u, .u, .u, .u, .u, .u, .u, .u, .u, .u, .u, .u, .u, .u, .u, .u, .u, .u, .u, .u, .u, .u, .u, .u, .u, .u, .u, .u, .u, .u, .u, .u, .u, .u, .u, .u, .u, .u, .u, .u, .u, .u, .u, .u, .u, .u, .u, .u, .u, .u, .u, .u, .u, .u, .u, .u, .u, .u, .u, .u, .u, .u, .u, .u, .u, .u, .u, .u, .u, .u, .u, .u, .u, .u, .u, .u, .u, .u, .u, .u, .u, .u, .u, .u, .u, .u], [.c [.d (.int .u32), .d (.slice (.int .u8)), .d (.int .u64), .p 1 0, .d .bool, .d .bool, .d (.int .u32), .d (.int .u64), .d .bool, .d .bool, .d .bool, .d (.int .u64), .o 1012 kS3], .c [.g kS0, .d .bool, .d (.int .u32), .d (.int .u64)], .c [.g kS5], .c [.g kS2]]⟩
abbrev clientClientDeliver.outj55007e1 : Shp := ⟨[.u, .u, .u, .u, .d (.slice kS5), .u, .u, .u, .u, .u, .u, .u, .u, .u, .u, .u, .u, .u, .u, .u, .u, .u, .u, .u, .u, .u, .u, .u, .u, .u, .u, .u, .u, .u, .u, .u, .u, .u, .u, .u, .u, .u, .u, .u, .u, .u, .u, .u, .u, .u, .u, .u, .u, .u, .u, .u, .u, .u, .u, .u, .u, .u, .u, .u, .u, .u, .u, .u, .u, .u, .u, .u, .u, .u, .u, .u, .u, .u, .u, .u, .u, .u, .u, .u, .u, .u, .u, .u, .u, .u, .u, .u, .u, .u, .u, .u, .u, .u, .u, .u, .u, .u, .u, .u, .u, .u, .u, .u, .u, .u, .u], [.c [.d (.int .u32), .d (.slice (.int .u8)), .d (.int .u64), .p 1 0, .d .bool, .d .bool, .d (.int .u32), .d (.int .u64), .d .bool, .d .bool, .d .bool, .d (.int .u64), .o 1012 kS3], .c [.g kS0, .d .bool, .d (.int .u32), .d (.int .u64)]]⟩
noncomputable def clientClientDeliver.nmj55007 : Norm := ⟨{ keep := [0, 3, 5, 6, 54], shut := [(6, .bool), (54, .bool)], retag := [], heap := 4, dead := [], cshut := [(0, 0, (.int .u32)), (0, 1, (.slice (.int .u8))), (0, 2, (.int .u64)), (0, 4, .bool), (0, 5, .bool), (0, 6, (.int .u32)), (0, 7, (.int .u64)), (0, 8, .bool), (0, 9, .bool), (0, 10, .bool), (0, 11, (.int .u64)), (1, 0, (.int .u32)), (1, 1, (.int .u32)), (1, 2, (.int .u32)), (1, 3, .bool), (1, 4, (.int .u32)), (1, 5, (.int .u64)), (2, 0, (.int .u8)), (2, 1, (.int .u32)), (2, 2, (.int .u32)), (2, 3, (.int .u64)), (2, 4, (.int .u64)), (2, 5, (.slice (.int .u8))), (3, 0, (.int .u64)), (3, 1, (.int .u64))], cretag := [(0, 12, 1012, kS3)] }, [(0, { keep := [0, 3, 5], shut := [], retag := [], heap := 4, dead := [], cshut := [(0, 0, (.int .u32)), (0, 1, (.slice (.int .u8))), (0, 2, (.int .u64)), (0, 4, .bool), (0, 5, .bool), (0, 6, (.int .u32)), (0, 7, (.int .u64)), (0, 8, .bool), (0, 9, .bool), (0, 10, .bool), (0, 11, (.int .u64)), (1, 0, (.int .u32)), (1, 1, (.int .u32)), (1, 2, (.int .u32)), (1, 3, .bool), (1, 4, (.int .u32)), (1, 5, (.int .u64)), (2, 0, (.int .u8)), (2, 1, (.int .u32)), (2, 2, (.int .u32)), (2, 3, (.int .u64)), (2, 4, (.int .u64)), (2, 5, (.slice (.int .u8))), (3, 0, (.int .u64)), (3, 1, (.int .u64))], cretag := [(0, 12, 1012, kS3)] }), (1, { keep := [4], shut := [(4, (.slice kS5))], retag := [], heap := 2, dead := [], cshut := [(0, 0, (.int .u32)), (0, 1, (.slice (.int .u8))), (0, 2, (.int .u64)), (0, 4, .bool), (0, 5, .bool), (0, 6, (.int .u32)), (0, 7, (.int .u64)), (0, 8, .bool), (0, 9, .bool), (0, 10, .bool), (0, 11, (.int .u64)), (1, 0, (.int .u32)), (1, 1, (.int .u32)), (1, 2, (.int .u32)), (1, 3, .bool), (1, 4, (.int .u32)), (1, 5, (.int .u64))], cretag := [(0, 12, 1012, kS3)] })]⟩
abbrev clientClientDeliver.shj37005 : Shp := ⟨[.p 0 0, .u, .u, .p 2 0, .u, .p 3 0, .d .bool, .u, .u, .u, .u, .u, .u, .u, .u, .u, .u, .u, .u, .u, .u, .u, .u, .u, .u, .u, .u, .u, .u, .u, .u, .u, .u, .u, .u, .u, .d .bool, .u, .u, .u, .u, .u, .u, .u, .u, .u, .u, .u, .u, .u, .u, .u, .u, .u, .u, .u, .u, .u, .u, .u, .u, .u, .u, .u, .u, .u, .u, .u, .u, .u, .u, .u, .u, .u, .u, .u, .u, .u, .u, .u, .u, .u, .u, .u, .u, .u, .u, .u, .u, .u, .u, .u, .u, .u, .u, .u, .u, .u, .u, .u, .u, .u, .u, .u, .u, .u, .u, .u, .u, .u, .u], [.c [.d (.int .u32), .d (.slice (.int .u8)), .d (.int .u64), .p 1 0, .d .bool, .d .bool, .d (.int .u32), .d (.int .u64), .d .bool, .d .bool, .d .bool, .d (.int .u64), .o 1012 kS3], .c [.g kS0, .d .bool, .d (.int .u32), .d (.int .u64)], .c [.g kS5], .c [.g kS2]]⟩
abbrev clientClientDeliver.outj37005e0 : Shp := ⟨[.p 0 0, .u, .u, .p 2 0, .u, .p 3 0, .u, .u, .u, .u, .u, .u, .u, .u, .u, .u, .u, .u, .u, .u, .u, .u, .u, .u, .u, .u, .u, .u, .u, .u, .u, .u, .u, .u, .u, .u, .u, .u, .u, .u, .u, .u, .u, .u, .u, .u, .u, .u, .u, .u, .u, .u, .u, .u, .u, .u, .u, .u, .u, .u, .u, .u, .u, .u, .u, .u, .u, .u, .u, .u, .u, .u, .u, .u, .u, .u, .u, .u, .u, .u, .u, .u, .u, .u, .u, .u, .u, .u, .u, .u, .u, .u, .u, .u, .u, .u, .u, .u, .u, .u, .u, .u, .u, .u, .u, .u, .u, .u, .u, .u, .u], [.c [.d (.int .u32), .d (.slice (.int .u8)), .d (.int .u64), .p 1 0, .d .bool, .d .bool, .d (.int .u32), .d (.int .u64), .d .bool, .d .bool, .d .bool, .d (.int .u64), .o 1012 kS3], .c [.g kS0, .d .bool, .d (.int .u32), .d (.int .u64)], .c [.g kS5], .c [.g kS2]]⟩
abbrev clientClientDeliver.outj37005e1 : Shp := ⟨[.u, .u, .u, .u, .d (.slice kS5), .u, .u, .u, .u, .u, .u, .u, .u, .u, .u, .u, .u, .u, .u, .u, .u, .u, .u, .u, .u, .u, .u, .u, .u, .u, .u, .u, .u, .u, .u, .u, .u, .u, .u, .u, .u, .u, .u, .u, .u, .u, .u, .u, .u, .u, .u, .u, .u, .u, .u, .u, .u, .u, .u, .u, .u, .u, .u, .u, .u, .u, .u, .u, .u, .u, .u, .u, .u, .u, .u, .u, .u, .u, .u, .u, .u, .u, .u, .u, .u, .u, .u, .u, .u, .u, .u, .u, .u, .u, .u, .u, .u, .u, .u, .u, .u, .u, .u, .u, .u, .u, .u, .u, .u, .u, .u], [.c [.d (.int .u32), .d (.slice (.int .u8)), .d (.int .u64), .p 1 0, .d .bool, .d .bool, .d (.int .u32), .d (.int .u64), .d .bool, .d .bool, .d .bool, .d (.int .u64), .o 1012 kS3], .c [.g kS0, .d .bool, .d (.int .u32), .d (.int .u64)]]⟩
noncomputable def clientClientDeliver.nmj37005 : Norm := ⟨{ keep := [0, 3, 5, 6, 36], shut := [(6, .bool), (36, .bool)], retag := [], heap := 4, dead := [], cshut := [(0, 0, (.int .u32)), (0, 1, (.slice (.int .u8))), (0, 2, (.int .u64)), (0, 4, .bool), (0, 5, .bool), (0, 6, (.int .u32)), (0, 7, (.int .u64)), (0, 8, .bool), (0, 9, .bool), (0, 10, .bool), (0, 11, (.int .u64)), (1, 0, (.int .u32)), (1, 1, (.int .u32)), (1, 2, (.int .u32)), (1, 3, .bool), (1, 4, (.int .u32)), (1, 5, (.int .u64)), (2, 0, (.int .u8)), (2, 1, (.int .u32)), (2, 2, (.int .u32)), (2, 3, (.int .u64)), (2, 4, (.int .u64)), (2, 5, (.slice (.int .u8))), (3, 0, (.int .u64)), (3, 1, (.int .u64))], cretag := [(0, 12, 1012, kS3)] }, [(0, { keep := [0, 3, 5], shut := [], retag := [], heap := 4, dead := [], cshut := [(0, 0, (.int .u32)), (0, 1, (.slice (.int .u8))), (0, 2, (.int .u64)), (0, 4, .bool), (0, 5, .bool), (0, 6, (.int .u32)), (0, 7, (.int .u64)), (0, 8, .bool), (0, 9, .bool), (0, 10, .bool), (0, 11, (.int .u64)), (1, 0, (.int .u32)), (1, 1, (.int .u32)), (1, 2, (.int .u32)), (1, 3, .bool), (1, 4, (.int .u32)), (1, 5, (.int .u64)), (2, 0, (.int .u8)), (2, 1, (.int .u32)), (2, 2, (.int .u32)), (2, 3, (.int .u64)), (2, 4, (.int .u64)), (2, 5, (.slice (.int .u8))), (3, 0, (.int .u64)), (3, 1, (.int .u64))], cretag := [(0, 12, 1012, kS3)] }), (1, { keep := [4], shut := [(4, (.slice kS5))], retag := [], heap := 2, dead := [], cshut := [(0, 0, (.int .u32)), (0, 1, (.slice (.int .u8))), (0, 2, (.int .u64)), (0, 4, .bool), (0, 5, .bool), (0, 6, (.int .u32)), (0, 7, (.int .u64)), (0, 8, .bool), (0, 9, .bool), (0, 10, .bool), (0, 11, (.int .u64)), (1, 0, (.int .u32)), (1, 1, (.int .u32)), (1, 2, (.int .u32)), (1, 3, .bool), (1, 4, (.int .u32)), (1, 5, (.int .u64))], cretag := [(0, 12, 1012, kS3)] })]⟩
abbrev clientClientDeliver.shj14003 : Shp := ⟨[.p 0 0, .u, .u, .p 2 0, .u, .p 3 0, .d .bool, .u, .u, .u, .u, .u, .u, .d .bool, .u, .u, .u, .u, .u, .u, .u, .u, .u, .u, .u, .u, .u, .u, .u, .u, .u, .u, .u, .u, .u, .u, .u, .u, .u, .u, .u, .u, .u, .u, .u, .u, .u, .u, .u, .u, .u, .u, .u, .u, .u, .u, .u, .u, .u, .u, .u, .u, .u, .u, .u, .u, .u, .u, .u, .u, .u, .u, .u, .u, .u, .u, .u, .u, .u, .u, .u, .u, .u, .u, .u, .u, .u, .u, .u, .u, .u, .u, .u, .u, .u, .u, .u, .u, .u, .u, .u, .u, .u, .u, .u, .u, .u, .u, .u, .u, .u], [.c [.d (.int .u32), .d (.slice (.int .u8)), .d (.int .u64), .p 1 0, .d .bool, .d .bool, .d (.int .u32), .d (.int .u64), .d .bool, .d .bool, .d .bool, .d (.int .u64), .o 1012 kS3], .c [.g kS0, .d .bool, .d (.int .u32), .d (.int .u64)], .c [.g kS5], .c [.g kS2]]⟩
abbrev clientClientDeliver.outj14003e0 : Shp := ⟨[.p 0 0, .u, .u, .p 2 0, .u, .p 3 0, .u, .u, .u, .u, .u, .u, .u, .u, .u, .u, .u, .u, .u, .u, .u, .u, .u, .u, .u, .u, .u, .u, .u, .u, .u, .u, .u, .u, .u, .u, .u, .u, .u, .u, .u, .u, .u, .u, .u, .u, .u, .u, .u, .u, .u, .u, .u, .u, .u, .u, .u, .u, .u, .u, .u, .u, .u, .u, .u, .u, .u, .u, .u, .u, .u, .u, .u, .u, .u, .u, .u, .u, .u, .u, .u, .u, .u, .u, .u, .u, .u, .u, .u, .u, .u, .u, .u, .u, .u, .u, .u, .u, .u, .u, .u, .u, .u, .u, .u, .u, .u, .u, .u, .u, .u], [.c [.d (.int .u32), .d (.slice (.int .u8)), .d (.int .u64), .p 1 0, .d .bool, .d .bool, .d (.int .u32), .d (.int .u64), .d .bool, .d .bool, .d .bool, .d (.int .u64), .o 1012 kS3], .c [.g kS0, .d .bool, .d (.int .u32), .d (.int .u64)], .c [.g kS5], .c [.g kS2]]⟩
abbrev clientClientDeliver.outj14003e1 : Shp := ⟨[.u, .u, .u, .u, .d (.slice kS5), .u, .u, .u, .u, .u, .u, .u, .u, .u, .u, .u, .u, .u, .u, .u, .u, .u, .u, .u, .u, .u, .u, .u, .u, .u, .u, .u, .u, .u, .u, .u, .u, .u, .u, .u, .u, .u, .u, .u, .u, .u, .u, .u, .u, .u, .u, .u, .u, .u, .u, .u, .u, .u, .u, .u, .u, .u, .u, .u, .u, .u, .u, .u, .u, .u, .u, .u, .u, .u, .u, .u, .u, .u, .u, .u, .u, .u, .u, .u, .u, .u, .u, .u, .u, .u, .u, .u, .u, .u, .u, .u, .u, .u, .u, .u, .u, .u, .u, .u, .u, .u, .u, .u, .u, .u, .u], [.c [.d (.int .u32), .d (.slice (.int .u8)), .d (.int .u64), .p 1 0, .d .bool, .d .bool, .d (.int .u32), .d (.int .u64), .d .bool, .d .bool, .d .bool, .d (.int .u64), .o 1012 kS3], .c [.g kS0, .d .bool, .d (.int .u32), .d (.int .u64)]]⟩
noncomputable def clientClientDeliver.nmj14003 : Norm := ⟨{ keep := [0, 3, 5, 6, 13], shut := [(6, .bool), (13, .bool)], retag := [], heap := 4, dead := [], cshut := [(0, 0, (.int .u32)), (0, 1, (.slice (.int .u8))), (0, 2, (.int .u64)), (0, 4, .bool), (0, 5, .bool), (0, 6, (.int .u32)), (0, 7, (.int .u64)), (0, 8, .bool), (0, 9, .bool), (0, 10, .bool), (0, 11, (.int .u64)), (1, 0, (.int .u32)), (1, 1, (.int .u32)), (1, 2, (.int .u32)), (1, 3, .bool), (1, 4, (.int .u32)), (1, 5, (.int .u64)), (2, 0, (.int .u8)), (2, 1, (.int .u32)), (2, 2, (.int .u32)), (2, 3, (.int .u64)), (2, 4, (.int .u64)), (2, 5, (.slice (.int .u8))), (3, 0, (.int .u64)), (3, 1, (.int .u64))], cretag := [(0, 12, 1012, kS3)] }, [(0, { keep := [0, 3, 5], shut := [], retag := [], heap := 4, dead := [], cshut := [(0, 0, (.int .u32)), (0, 1, (.slice (.int .u8))), (0, 2, (.int .u64)), (0, 4, .bool), (0, 5, .bool), (0, 6, (.int .u32)), (0, 7, (.int .u64)), (0, 8, .bool), (0, 9, .bool), (0, 10, .bool), (0, 11, (.int .u64)), (1, 0, (.int .u32)), (1, 1, (.int .u32)), (1, 2, (.int .u32)), (1, 3, .bool), (1, 4, (.int .u32)), (1, 5, (.int .u64)), (2, 0, (.int .u8)), (2, 1, (.int .u32)), (2, 2, (.int .u32)), (2, 3, (.int .u64)), (2, 4, (.int .u64)), (2, 5, (.slice (.int .u8))), (3, 0, (.int .u64)), (3, 1, (.int .u64))], cretag := [(0, 12, 1012, kS3)] }), (1, { keep := [4], shut := [(4, (.slice kS5))], retag := [], heap := 2, dead := [], cshut := [(0, 0, (.int .u32)), (0, 1, (.slice (.int .u8))), (0, 2, (.int .u64)), (0, 4, .bool), (0, 5, .bool), (0, 6, (.int .u32)), (0, 7, (.int .u64)), (0, 8, .bool), (0, 9, .bool), (0, 10, .bool), (0, 11, (.int .u64)), (1, 0, (.int .u32)), (1, 1, (.int .u32)), (1, 2, (.int .u32)), (1, 3, .bool), (1, 4, (.int .u32)), (1, 5, (.int .u64))], cretag := [(0, 12, 1012, kS3)] })]⟩
abbrev clientClientDeliver.shj11 : Shp := ⟨[.p 0 0, .u, .u, .p 2 0, .u, .p 3 0, .u, .u, .u, .u, .u, .u, .u, .u, .u, .u, .u, .u, .u, .u, .u, .u, .u, .u, .u, .u, .u, .u, .u, .u, .u, .u, .u, .u, .u, .u, .u, .u, .u, .u, .u, .u, .u, .u, .u, .u, .u, .u, .u, .u, .u, .u, .u, .u, .u, .u, .u, .u, .u, .u, .u, .u, .u, .u, .u, .u, .u, .u, .u, .u, .u, .u, .u, .u, .u, .u, .u, .u, .u, .u, .u, .u, .u, .u, .u, .u, .u, .u, .u, .u, .u, .u, .u, .u, .u, .u, .u, .u, .u, .u, .u, .u, .u, .u, .u, .u, .u, .u, .u, .u, .u], [.c [.d (.int .u32), .d (.slice (.int .u8)), .d (.int .u64), .p 1 0, .d .bool, .d .bool, .d (.int .u32), .d (.int .u64), .d .bool, .d .bool, .d .bool, .d (.int .u64), .o 1012 kS3], .c [.g kS0, .d .bool, .d (.int .u32), .d (.int .u64)], .c [.g kS5], .c [.g kS2]]⟩
abbrev clientClientDeliver.outj11e1 : Shp := ⟨[.u, .u, .u, .u, .d (.slice kS5), .u, .u, .u, .u, .u, .u, .u, .u, .u, .u, .u, .u, .u, .u, .u, .u, .u, .u, .u, .u, .u, .u, .u, .u, .u, .u, .u, .u, .u, .u, .u, .u, .u, .u, .u, .u, .u, .u, .u, .u, .u, .u, .u, .u, .u, .u, .u, .u, .u, .u, .u, .u, .u, .u, .u, .u, .u, .u, .u, .u, .u, .u, .u, .u, .u, .u, .u, .u, .u, .u, .u, .u, .u, .u, .u, .u, .u, .u, .u, .u, .u, .u, .u, .u, .u, .u, .u, .u, .u, .u, .u, .u, .u, .u, .u, .u, .u, .u, .u, .u, .u, .u, .u, .u, .u, .u], [.c [.d (.int .u32), .d (.slice (.int .u8)), .d (.int .u64), .p 1 0, .d .bool, .d .bool, .d (.int .u32), .d (.int .u64), .d .bool, .d .bool, .d .bool, .d (.int .u64), .o 1012 kS3], .c [.g kS0, .d .bool, .d (.int .u32), .d (.int .u64)]]⟩
noncomputable def clientClientDeliver.nmj11 : Norm := ⟨{ keep := [0, 3, 5], shut := [], retag := [], heap := 4, dead := [], cshut := [(0, 0, (.int .u32)), (0, 1, (.slice (.int .u8))), (0, 2, (.int .u64)), (0, 4, .bool), (0, 5, .bool), (0, 6, (.int .u32)), (0, 7, (.int .u64)), (0, 8, .bool), (0, 9, .bool), (0, 10, .bool), (0, 11, (.int .u64)), (1, 0, (.int .u32)), (1, 1, (.int .u32)), (1, 2, (.int .u32)), (1, 3, .bool), (1, 4, (.int .u32)), (1, 5, (.int .u64)), (2, 0, (.int .u8)), (2, 1, (.int .u32)), (2, 2, (.int .u32)), (2, 3, (.int .u64)), (2, 4, (.int .u64)), (2, 5, (.slice (.int .u8))), (3, 0, (.int .u64)), (3, 1, (.int .u64))], cretag := [(0, 12, 1012, kS3)] }, [(1, { keep := [4], shut := [(4, (.slice kS5))], retag := [], heap := 2, dead := [], cshut := [(0, 0, (.int .u32)), (0, 1, (.slice (.int .u8))), (0, 2, (.int .u64)), (0, 4, .bool), (0, 5, .bool), (0, 6, (.int .u32)), (0, 7, (.int .u64)), (0, 8, .bool), (0, 9, .bool), (0, 10, .bool), (0, 11, (.int .u64)), (1, 0, (.int .u32)), (1, 1, (.int .u32)), (1, 2, (.int .u32)), (1, 3, .bool), (1, 4, (.int .u32)), (1, 5, (.int .u64))], cretag := [(0, 12, 1012, kS3)] })]⟩
noncomputable def clientClientDeliver.con : OCon := { ps := [.obj kO4, .dat kS5], rs := [.dat (.slice kS5)], f := fun n x => clientClientDeliver n x.1 x.2.1 }
noncomputable def clientClientDeliver.env : Env := { tys := [(37, ⟨kS5, 56⟩), (41, ⟨(.slice kS5), 24⟩), (35, ⟨(.slice (.int .u8)), 24⟩), (50, ⟨kS2, 16⟩), (34, ⟨(.int .u64), 8⟩), (98, ⟨kS9, 104⟩), (4, ⟨.bool, 1⟩), (47, ⟨(.slice kS3), 24⟩), (52, ⟨kS3, 24⟩)], elems := [(47, 52)], ptrs := [], cons := [(59, clientMatch.con)], objs := [(44, [clientClientSay.con])], loops := [], cuts := [(55007, clientClientDeliver.nmj55007), (37005, clientClientDeliver.nmj37005), (14003, clientClientDeliver.nmj14003), (11, clientClientDeliver.nmj11)], globs := globs, base := 2 }
noncomputable def clientClientDeliver.lp (n : Nat) : LP (RT clientClientDeliver.con.rs × BT clientClientDeliver.con.ps) := fun lo κ body nm K s =>
  cond (!lo && Nat.beq κ 55007)
    (match clientClientDeliver.shj55007.dec s with
    | some v => clientClientDeliver.j55007 n (fun w0 w1 w2 w3 w4 w5 w6 w7 w8 w9 w10 w11 w12 w13 w14 w15 w16 w17 => K .normal (clientClientDeliver.outj55007e0.enc (w0, w1, w2, w3, w4, w5, w6, w7, w8, w9, w10, w11, w12, w13, w14, w15, w16, w17, ()))) (fun w0 w1 w2 w3 w4 w5 w6 w7 w8 w9 w10 w11 w12 w13 w14 w15 w16 => K .ret (clientClientDeliver.outj55007e1.enc (w0, w1, w2, w3, w4, w5, w6, w7, w8, w9, w10, w11, w12, w13, w14, w15, w16, ()))) v.1 v.2.1 v.2.2.1 v.2.2.2.1 v.2.2.2.2.1 v.2.2.2.2.2.1 v.2.2.2.2.2.2.1 v.2.2.2.2.2.2.2.1 v.2.2.2.2.2.2.2.2.1 v.2.2.2.2.2.2.2.2.2.1 v.2.2.2.2.2.2.2.2.2.2.1 v.2.2.2.2.2.2.2.2.2.2.2.1 v.2.2.2.2.2.2.2.2.2.2.2.2.1 v.2.2.2.2.2.2.2.2.2.2.2.2.2.1 v.2.2.2.2.2.2.2.2.2.2.2.2.2.2.1 v.2.2.2.2.2.2.2.2.2.2.2.2.2.2.2.1 v.2.2.2.2.2.2.2.2.2.2.2.2.2.2.2.2.1 v.2.2.2.2.2.2.2.2.2.2.2.2.2.2.2.2.2.1 v.2.2.2.2.2.2.2.2.2.2.2.2.2.2.2.2.2.2.1 v.2.2.2.2.2.2.2.2.2.2.2.2.2.2.2.2.2.2.2.1
    | none => loops n (RT clientClientDeliver.con.rs × BT clientClientDeliver.con.ps) lo κ body nm K s)
    (cond (!lo && Nat.beq κ 37005)
    (match clientClientDeliver.shj37005.dec s with
    | some v => clientClientDeliver.j37005 n (fun w0 w1 w2 w3 w4 w5 w6 w7 w8 w9 w10 w11 w12 w13 w14 w15 w16 w17 => K .normal (clientClientDeliver.outj37005e0.enc (w0, w1, w2, w3, w4, w5, w6, w7, w8, w9, w10, w11, w12, w13, w14, w15, w16, w17, ()))) (fun w0 w1 w2 w3 w4 w5 w6 w7 w8 w9 w10 w11 w12 w13 w14 w15 w16 => K .ret (clientClientDeliver.outj37005e1.enc (w0, w1, w2, w3, w4, w5, w6, w7, w8, w9, w10, w11, w12, w13, w14, w15, w16, ()))) v.1 v.2.1 v.2.2.1 v.2.2.2.1 v.2.2.2.2.1 v.2.2.2.2.2.1 v.2.2.2.2.2.2.1 v.2.2.2.2.2.2.2.1 v.2.2.2.2.2.2.2.2.1 v.2.2.2.2.2.2.2.2.2.1 v.2.2.2.2.2.2.2.2.2.2.1 v.2.2.2.2.2.2.2.2.2.2.2.1 v.2.2.2.2.2.2.2.2.2.2.2.2.1 v.2.2.2.2.2.2.2.2.2.2.2.2.2.1 v.2.2.2.2.2.2.2.2.2.2.2.2.2.2.1 v.2.2.2.2.2.2.2.2.2.2.2.2.2.2.2.1 v.2.2.2.2.2.2.2.2.2.2.2.2.2.2.2.2.1 v.2.2.2.2.2.2.2.2.2.2.2.2.2.2.2.2.2.1 v.2.2.2.2.2.2.2.2.2.2.2.2.2.2.2.2.2.2.1 v.2.2.2.2.2.2.2.2.2.2.2.2.2.2.2.2.2.2.2.1
    | none => loops n (RT clientClientDeliver.con.rs × BT clientClientDeliver.con.ps) lo κ body nm K s)
    (cond (!lo && Nat.beq κ 14003)
    (match clientClientDeliver.shj14003.dec s with
    | some v => clientClientDeliver.j14003 n (fun w0 w1 w2 w3 w4 w5 w6 w7 w8 w9 w10 w11 w12 w13 w14 w15 w16 w17 => K .normal (clientClientDeliver.outj14003e0.enc (w0, w1, w2, w3, w4, w5, w6, w7, w8, w9, w10, w11, w12, w13, w14, w15, w16, w17, ()))) (fun w0 w1 w2 w3 w4 w5 w6 w7 w8 w9 w10 w11 w12 w13 w14 w15 w16 => K .ret (clientClientDeliver.outj14003e1.enc (w0, w1, w2, w3, w4, w5, w6, w7, w8, w9, w10, w11, w12, w13, w14, w15, w16, ()))) v.1 v.2.1 v.2.2.1 v.2.2.2.1 v.2.2.2.2.1 v.2.2.2.2.2.1 v.2.2.2.2.2.2.1 v.2.2.2.2.2.2.2.1 v.2.2.2.2.2.2.2.2.1 v.2.2.2.2.2.2.2.2.2.1 v.2.2.2.2.2.2.2.2.2.2.1 v.2.2.2.2.2.2.2.2.2.2.2.1 v.2.2.2.2.2.2.2.2.2.2.2.2.1 v.2.2.2.2.2.2.2.2.2.2.2.2.2.1 v.2.2.2.2.2.2.2.2.2.2.2.2.2.2.1 v.2.2.2.2.2.2.2.2.2.2.2.2.2.2.2.1 v.2.2.2.2.2.2.2.2.2.2.2.2.2.2.2.2.1 v.2.2.2.2.2.2.2.2.2.2.2.2.2.2.2.2.2.1 v.2.2.2.2.2.2.2.2.2.2.2.2.2.2.2.2.2.2.1 v.2.2.2.2.2.2.2.2.2.2.2.2.2.2.2.2.2.2.2.1
    | none => loops n (RT clientClientDeliver.con.rs × BT clientClientDeliver.con.ps) lo κ body nm K s)
    (cond (!lo && Nat.beq κ 11)
    (match clientClientDeliver.shj11.dec s with
    | some v => clientClientDeliver.j11 n (fun w0 w1 w2 w3 w4 w5 w6 w7 w8 w9 w10 w11 w12 w13 w14 w15 w16 => K .ret (clientClientDeliver.outj11e1.enc (w0, w1, w2, w3, w4, w5, w6, w7, w8, w9, w10, w11, w12, w13, w14, w15, w16, ()))) v.1 v.2.1 v.2.2.1 v.2.2.2.1 v.2.2.2.2.1 v.2.2.2.2.2.1 v.2.2.2.2.2.2.1 v.2.2.2.2.2.2.2.1 v.2.2.2.2.2.2.2.2.1 v.2.2.2.2.2.2.2.2.2.1 v.2.2.2.2.2.2.2.2.2.2.1 v.2.2.2.2.2.2.2.2.2.2.2.1 v.2.2.2.2.2.2.2.2.2.2.2.2.1 v.2.2.2.2.2.2.2.2.2.2.2.2.2.1 v.2.2.2.2.2.2.2.2.2.2.2.2.2.2.1 v.2.2.2.2.2.2.2.2.2.2.2.2.2.2.2.1 v.2.2.2.2.2.2.2.2.2.2.2.2.2.2.2.2.1 v.2.2.2.2.2.2.2.2.2.2.2.2.2.2.2.2.2.1
    | none => loops n (RT clientClientDeliver.con.rs × BT clientClientDeliver.con.ps) lo κ body nm K s)
    (loops n (RT clientClientDeliver.con.rs × BT clientClientDeliver.con.ps) lo κ body nm K s))))
theorem clientClientDeliver.atj55007 (n : Nat) (s : St) (K : Ex → St → Option (RT clientClientDeliver.con.rs × BT clientClientDeliver.con.ps)) : (clientClientDeliver.lp n) false 55007 (evK clientClientDeliver.env (clientClientDeliver.lp n) n (sub [1, 1, 0, 0, 1, 1, 1, 1, 1] clientClientDeliver.body)) clientClientDeliver.nmj55007 K s = loops n (RT clientClientDeliver.con.rs × BT clientClientDeliver.con.ps) false 55007 (evK clientClientDeliver.env (clientClientDeliver.lp n) n (sub [1, 1, 0, 0, 1, 1, 1, 1, 1] clientClientDeliver.body)) clientClientDeliver.nmj55007 K s := by
  show (match clientClientDeliver.shj55007.dec s with | some v => clientClientDeliver.j55007 n (fun w0 w1 w2 w3 w4 w5 w6 w7 w8 w9 w10 w11 w12 w13 w14 w15 w16 w17 => K .normal (clientClientDeliver.outj55007e0.enc (w0, w1, w2, w3, w4, w5, w6, w7, w8, w9, w10, w11, w12, w13, w14, w15, w16, w17, ()))) (fun w0 w1 w2 w3 w4 w5 w6 w7 w8 w9 w10 w11 w12 w13 w14 w15 w16 => K .ret (clientClientDeliver.outj55007e1.enc (w0, w1, w2, w3, w4, w5, w6, w7, w8, w9, w10, w11, w12, w13, w14, w15, w16, ()))) v.1 v.2.1 v.2.2.1 v.2.2.2.1 v.2.2.2.2.1 v.2.2.2.2.2.1 v.2.2.2.2.2.2.1 v.2.2.2.2.2.2.2.1 v.2.2.2.2.2.2.2.2.1 v.2.2.2.2.2.2.2.2.2.1 v.2.2.2.2.2.2.2.2.2.2.1 v.2.2.2.2.2.2.2.2.2.2.2.1 v.2.2.2.2.2.2.2.2.2.2.2.2.1 v.2.2.2.2.2.2.2.2.2.2.2.2.2.1 v.2.2.2.2.2.2.2.2.2.2.2.2.2.2.1 v.2.2.2.2.2.2.2.2.2.2.2.2.2.2.2.1 v.2.2.2.2.2.2.2.2.2.2.2.2.2.2.2.2.1 v.2.2.2.2.2.2.2.2.2.2.2.2.2.2.2.2.2.1 v.2.2.2.2.2.2.2.2.2.2.2.2.2.2.2.2.2.2.1 v.2.2.2.2.2.2.2.2.2.2.2.2.2.2.2.2.2.2.2.1 | none => loops n (RT clientClientDeliver.con.rs × BT clientClientDeliver.con.ps) false 55007 (evK clientClientDeliver.env (clientClientDeliver.lp n) n (sub [1, 1, 0, 0, 1, 1, 1, 1, 1] clientClientDeliver.body)) clientClientDeliver.nmj55007 K s) = _
  cases h : clientClientDeliver.shj55007.dec s with
  | none => rfl
  | some v =>
    rw [Shp.dec_enc h]
    kernel_rfl
theorem clientClientDeliver.atj37005 (n : Nat) (s : St) (K : Ex → St → Option (RT clientClientDeliver.con.rs × BT clientClientDeliver.con.ps)) : (clientClientDeliver.lp n) false 37005 (evK clientClientDeliver.env (clientClientDeliver.lp n) n (sub [1, 1, 0, 0, 1, 1, 1] clientClientDeliver.body)) clientClientDeliver.nmj37005 K s = loops n (RT clientClientDeliver.con.rs × BT clientClientDeliver.con.ps) false 37005 (evK clientClientDeliver.env (clientClientDeliver.lp n) n (sub [1, 1, 0, 0, 1, 1, 1] clientClientDeliver.body)) clientClientDeliver.nmj37005 K s := by
  show (match clientClientDeliver.shj37005.dec s with | some v => clientClientDeliver.j37005 n (fun w0 w1 w2 w3 w4 w5 w6 w7 w8 w9 w10 w11 w12 w13 w14 w15 w16 w17 => K .normal (clientClientDeliver.outj37005e0.enc (w0, w1, w2, w3, w4, w5, w6, w7, w8, w9, w10, w11, w12, w13, w14, w15, w16, w17, ()))) (fun w0 w1 w2 w3 w4 w5 w6 w7 w8 w9 w10 w11 w12 w13 w14 w15 w16 => K .ret (clientClientDeliver.outj37005e1.enc (w0, w1, w2, w3, w4, w5, w6, w7, w8, w9, w10, w11, w12, w13, w14, w15, w16, ()))) v.1 v.2.1 v.2.2.1 v.2.2.2.1 v.2.2.2.2.1 v.2.2.2.2.2.1 v.2.2.2.2.2.2.1 v.2.2.2.2.2.2.2.1 v.2.2.2.2.2.2.2.2.1 v.2.2.2.2.2.2.2.2.2.1 v.2.2.2.2.2.2.2.2.2.2.1 v.2.2.2.2.2.2.2.2.2.2.2.1 v.2.2.2.2.2.2.2.2.2.2.2.2.1 v.2.2.2.2.2.2.2.2.2.2.2.2.2.1 v.2.2.2.2.2.2.2.2.2.2.2.2.2.2.1 v.2.2.2.2.2.2.2.2.2.2.2.2.2.2.2.1 v.2.2.2.2.2.2.2.2.2.2.2.2.2.2.2.2.1 v.2.2.2.2.2.2.2.2.2.2.2.2.2.2.2.2.2.1 v.2.2.2.2.2.2.2.2.2.2.2.2.2.2.2.2.2.2.1 v.2.2.2.2.2.2.2.2.2.2.2.2.2.2.2.2.2.2.2.1 | none => loops n (RT clientClientDeliver.con.rs × BT clientClientDeliver.con.ps) false 37005 (evK clientClientDeliver.env (clientClientDeliver.lp n) n (sub [1, 1, 0, 0, 1, 1, 1] clientClientDeliver.body)) clientClientDeliver.nmj37005 K s) = _
  cases h : clientClientDeliver.shj37005.dec s with
  | none => rfl
  | some v =>
    rw [Shp.dec_enc h]
    kernel_rfl
theorem clientClientDeliver.atj14003 (n : Nat) (s : St) (K : Ex → St → Option (RT clientClientDeliver.con.rs × BT clientClientDeliver.con.ps)) : (clientClientDeliver.lp n) false 14003 (evK clientClientDeliver.env (clientClientDeliver.lp n) n (sub [1, 1, 0, 0, 1] clientClientDeliver.body)) clientClientDeliver.nmj14003 K s = loops n (RT clientClientDeliver.con.rs × BT clientClientDeliver.con.ps) false 14003 (evK clientClientDeliver.env (clientClientDeliver.lp n) n (sub [1, 1, 0, 0, 1] clientClientDeliver.body)) clientClientDeliver.nmj14003 K s := by
  show (match clientClientDeliver.shj14003.dec s with | some v => clientClientDeliver.j14003 n (fun w0 w1 w2 w3 w4 w5 w6 w7 w8 w9 w10 w11 w12 w13 w14 w15 w16 w17 => K .normal (clientClientDeliver.outj14003e0.enc (w0, w1, w2, w3, w4, w5, w6, w7, w8, w9, w10, w11, w12, w13, w14, w15, w16, w17, ()))) (fun w0 w1 w2 w3 w4 w5 w6 w7 w8 w9 w10 w11 w12 w13 w14 w15 w16 => K .ret (clientClientDeliver.outj14003e1.enc (w0, w1, w2, w3, w4, w5, w6, w7, w8, w9, w10, w11, w12, w13, w14, w15, w16, ()))) v.1 v.2.1 v.2.2.1 v.2.2.2.1 v.2.2.2.2.1 v.2.2.2.2.2.1 v.2.2.2.2.2.2.1 v.2.2.2.2.2.2.2.1 v.2.2.2.2.2.2.2.2.1 v.2.2.2.2.2.2.2.2.2.1 v.2.2.2.2.2.2.2.2.2.2.1 v.2.2.2.2.2.2.2.2.2.2.2.1 v.2.2.2.2.2.2.2.2.2.2.2.2.1 v.2.2.2.2.2.2.2.2.2.2.2.2.2.1 v.2.2.2.2.2.2.2.2.2.2.2.2.2.2.1 v.2.2.2.2.2.2.2.2.2.2.2.2.2.2.2.1 v.2.2.2.2.2.2.2.2.2.2.2.2.2.2.2.2.1 v.2.2.2.2.2.2.2.2.2.2.2.2.2.2.2.2.2.1 v.2.2.2.2.2.2.2.2.2.2.2.2.2.2.2.2.2.2.1 v.2.2.2.2.2.2.2.2.2.2.2.2.2.2.2.2.2.2.2.1 | none => loops n (RT clientClientDeliver.con.rs × BT clientClientDeliver.con.ps) false 14003 (evK clientClientDeliver.env (clientClientDeliver.lp n) n (sub [1, 1, 0, 0, 1] clientClientDeliver.body)) clientClientDeliver.nmj14003 K s) = _
  cases h : clientClientDeliver.shj14003.dec s with
  | none => rfl
  | some v =>
    rw [Shp.dec_enc h]
    kernel_rfl
theorem clientClientDeliver.atj11 (n : Nat) (s : St) (K : Ex → St → Option (RT clientClientDeliver.con.rs × BT clientClientDeliver.con.ps)) : (clientClientDeliver.lp n) false 11 (evK clientClientDeliver.env (clientClientDeliver.lp n) n (sub [1, 1, 1] clientClientDeliver.body)) clientClientDeliver.nmj11 K s = loops n (RT clientClientDeliver.con.rs × BT clientClientDeliver.con.ps) false 11 (evK clientClientDeliver.env (clientClientDeliver.lp n) n (sub [1, 1, 1] clientClientDeliver.body)) clientClientDeliver.nmj11 K s := by
  show (match clientClientDeliver.shj11.dec s with | some v => clientClientDeliver.j11 n (fun w0 w1 w2 w3 w4 w5 w6 w7 w8 w9 w10 w11 w12 w13 w14 w15 w16 => K .ret (clientClientDeliver.outj11e1.enc (w0, w1, w2, w3, w4, w5, w6, w7, w8, w9, w10, w11, w12, w13, w14, w15, w16, ()))) v.1 v.2.1 v.2.2.1 v.2.2.2.1 v.2.2.2.2.1 v.2.2.2.2.2.1 v.2.2.2.2.2.2.1 v.2.2.2.2.2.2.2.1 v.2.2.2.2.2.2.2.2.1 v.2.2.2.2.2.2.2.2.2.1 v.2.2.2.2.2.2.2.2.2.2.1 v.2.2.2.2.2.2.2.2.2.2.2.1 v.2.2.2.2.2.2.2.2.2.2.2.2.1 v.2.2.2.2.2.2.2.2.2.2.2.2.2.1 v.2.2.2.2.2.2.2.2.2.2.2.2.2.2.1 v.2.2.2.2.2.2.2.2.2.2.2.2.2.2.2.1 v.2.2.2.2.2.2.2.2.2.2.2.2.2.2.2.2.1 v.2.2.2.2.2.2.2.2.2.2.2.2.2.2.2.2.2.1 | none => loops n (RT clientClientDeliver.con.rs × BT clientClientDeliver.con.ps) false 11 (evK clientClientDeliver.env (clientClientDeliver.lp n) n (sub [1, 1, 1] clientClientDeliver.body)) clientClientDeliver.nmj11 K s) = _
  cases h : clientClientDeliver.shj11.dec s with
  | none => rfl
  | some v =>
    rw [Shp.dec_enc h]
    kernel_rfl
theorem clientClientDeliver.eq (n : Nat) (x : PT clientClientDeliver.con.ps) : evFuncO clientClientDeliver.env Try.f45 clientClientDeliver.body clientClientDeliver.con.ps clientClientDeliver.con.rs (clientClientDeliver.lp n) n x = clientClientDeliver.con.f n x := by kernel_rfl
theorem clientClientDeliver.sound : SoundO Try.prog globs 45 clientClientDeliver.con :=
  sound_byO (E := clientClientDeliver.env) (c := clientClientDeliver.body) (envOk (G := globs) (lc := [(59, clientMatch.con)]) (lo := [(44, [clientClientSay.con])]) (envB_spec (by kernel_rfl)) rfl rfl ⟨.inl ⟨clientMatch.sound, by kernel_rfl⟩, trivial⟩ rfl ⟨⟨⟨clientClientSay.sound, trivial⟩, by kernel_rfl⟩, trivial⟩ (by kernel_rfl) (by kernel_rfl)) Try.func45 (by kernel_rfl) (by kernel_rfl) (by kernel_rfl) clientClientDeliver.lp (l := [(false, sub [1, 1, 0, 0, 1, 1, 1, 1, 1] clientClientDeliver.body, clientClientDeliver.nmj55007), (false, sub [1, 1, 0, 0, 1, 1, 1] clientClientDeliver.body, clientClientDeliver.nmj37005), (false, sub [1, 1, 0, 0, 1] clientClientDeliver.body, clientClientDeliver.nmj14003), (false, sub [1, 1, 1] clientClientDeliver.body, clientClientDeliver.nmj11)]) (by kernel_rfl) (fun n => ⟨clientClientDeliver.atj55007 n, ⟨clientClientDeliver.atj37005 n, ⟨clientClientDeliver.atj14003 n, ⟨clientClientDeliver.atj11 n, trivial⟩⟩⟩⟩) clientClientDeliver.eq
noncomputable def clientClientHear.j54018 (fu : Nat) (k0 : Int → Int → (List Int) → Int → Bool → Bool → Int → Int → Bool → Bool → Bool → Int → (List S3) → S0 → Bool → Int → Int → S5 → Option (((List S5) × Unit) × (O4 × Unit))) (now : Int) (v : Bool) (c0 : Int) (c0x2 : List Int) (c0x3 : Int) (c0x4 : Bool) (c0x5 : Bool) (c0x6 : Int) (c0x7 : Int) (c0x8 : Bool) (c0x9 : Bool) (c0x10 : Bool) (c0x11 : Int) (c0x12 : List S3) (b1 : S0) (c1 : Bool) (c1x2 : Int) (c1x3 : Int) (b2 : S5) : Option (((List S5) × Unit) × (O4 × Unit)) :=
  cond v (
    k0 now c0 c0x2 c0x3 c0x4 true b2.2.2.1 c0x7 c0x8 c0x9 c0x10 c0x11 c0x12 b1 c1 c1x2 c1x3 b2) (
    k0 now c0 c0x2 c0x3 c0x4 c0x5 c0x6 c0x7 c0x8 c0x9 c0x10 c0x11 c0x12 b1 c1 c1x2 c1x3 b2)
noncomputable def clientClientHear.j19 (fu : Nat) (k1 : (List S5) → Int → (List Int) → Int → Bool → Bool → Int → Int → Bool → Bool → Bool → Int → (List S3) → S0 → Bool → Int → Int → Option (((List S5) × Unit) × (O4 × Unit))) (now : Int) (c0 : Int) (c0x2 : List Int) (c0x3 : Int) (c0x4 : Bool) (c0x5 : Bool) (c0x6 : Int) (c0x7 : Int) (c0x8 : Bool) (c0x9 : Bool) (c0x10 : Bool) (c0x11 : Int) (c0x12 : List S3) (b1 : S0) (c1 : Bool) (c1x2 : Int) (c1x3 : Int) (b2 : S5) : Option (((List S5) × Unit) × (O4 × Unit)) :=
  cond (!c0x5) (
    k1 [] c0 c0x2 c0x3 c0x4 c0x5 c0x6 c0x7 c0x8 c0x9 c0x10 c0x11 c0x12 b1 c1 c1x2 c1x3) (
    cond (b2.2.2.1 != c0x6) (
      k1 [] c0 c0x2 c0x3 c0x4 c0x5 c0x6 c0x7 c0x8 c0x9 c0x10 c0x11 c0x12 b1 c1 c1x2 c1x3) (
      cond (b2.1 == (2 : Int)) (
        (clientClientSay fu (c0, c0x2, c0x3, (b1, c1, c1x2, c1x3, ()), c0x4, c0x5, c0x6, c0x7, c0x8, c0x9, c0x10, now, c0x12, ()) (6 : Int) c0x7).bind fun r1 =>
        k1 r1.1.1 r1.2.1.1 r1.2.1.2.1 r1.2.1.2.2.1 r1.2.1.2.2.2.2.1 r1.2.1.2.2.2.2.2.1 r1.2.1.2.2.2.2.2.2.1 r1.2.1.2.2.2.2.2.2.2.1 r1.2.1.2.2.2.2.2.2.2.2.1 r1.2.1.2.2.2.2.2.2.2.2.2.1 r1.2.1.2.2.2.2.2.2.2.2.2.2.1 r1.2.1.2.2.2.2.2.2.2.2.2.2.2.1 r1.2.1.2.2.2.2.2.2.2.2.2.2.2.2.1 r1.2.1.2.2.2.1.1 r1.2.1.2.2.2.1.2.1 r1.2.1.2.2.2.1.2.2.1 r1.2.1.2.2.2.1.2.2.2.1) (
        cond (b2.1 == (5 : Int)) (
          (clientClientDeliver fu (c0, c0x2, c0x3, (b1, c1, c1x2, c1x3, ()), c0x4, c0x5, c0x6, c0x7, c0x8, c0x9, c0x10, now, c0x12, ()) b2).bind fun r2 =>
          k1 r2.1.1 r2.2.1.1 r2.2.1.2.1 r2.2.1.2.2.1 r2.2.1.2.2.2.2.1 r2.2.1.2.2.2.2.2.1 r2.2.1.2.2.2.2.2.2.1 r2.2.1.2.2.2.2.2.2.2.1 r2.2.1.2.2.2.2.2.2.2.2.1 r2.2.1.2.2.2.2.2.2.2.2.2.1 r2.2.1.2.2.2.2.2.2.2.2.2.2.1 r2.2.1.2.2.2.2.2.2.2.2.2.2.2.1 r2.2.1.2.2.2.2.2.2.2.2.2.2.2.2.1 r2.2.1.2.2.2.1.1 r2.2.1.2.2.2.1.2.1 r2.2.1.2.2.2.1.2.2.1 r2.2.1.2.2.2.1.2.2.2.1) (
          cond (b2.1 == (8 : Int)) (
            cond (b2.2.2.2.1 != c0x7) (
              (clientClientSay fu (c0, c0x2, c0x3, (b1, c1, c1x2, c1x3, ()), c0x4, c0x5, c0x6, c0x7, c0x8, c0x9, c0x10, now, c0x12, ()) (6 : Int) c0x7).bind fun r3 =>
              k1 r3.1.1 r3.2.1.1 r3.2.1.2.1 r3.2.1.2.2.1 r3.2.1.2.2.2.2.1 r3.2.1.2.2.2.2.2.1 r3.2.1.2.2.2.2.2.2.1 r3.2.1.2.2.2.2.2.2.2.1 r3.2.1.2.2.2.2.2.2.2.2.1 r3.2.1.2.2.2.2.2.2.2.2.2.1 r3.2.1.2.2.2.2.2.2.2.2.2.2.1 r3.2.1.2.2.2.2.2.2.2.2.2.2.2.1 r3.2.1.2.2.2.2.2.2.2.2.2.2.2.2.1 r3.2.1.2.2.2.1.1 r3.2.1.2.2.2.1.2.1 r3.2.1.2.2.2.1.2.2.1 r3.2.1.2.2.2.1.2.2.2.1) (
              (clientClientSay fu (c0, c0x2, c0x3, (b1, c1, c1x2, c1x3, ()), c0x4, c0x5, c0x6, c0x7, true, c0x9, c0x10, now, c0x12, ()) (9 : Int) b2.2.2.2.1).bind fun r4 =>
              k1 r4.1.1 r4.2.1.1 r4.2.1.2.1 r4.2.1.2.2.1 r4.2.1.2.2.2.2.1 r4.2.1.2.2.2.2.2.1 r4.2.1.2.2.2.2.2.2.1 r4.2.1.2.2.2.2.2.2.2.1 r4.2.1.2.2.2.2.2.2.2.2.1 r4.2.1.2.2.2.2.2.2.2.2.2.1 r4.2.1.2.2.2.2.2.2.2.2.2.2.1 r4.2.1.2.2.2.2.2.2.2.2.2.2.2.1 r4.2.1.2.2.2.2.2.2.2.2.2.2.2.2.1 r4.2.1.2.2.2.1.1 r4.2.1.2.2.2.1.2.1 r4.2.1.2.2.2.1.2.2.1 r4.2.1.2.2.2.1.2.2.2.1)) (
            cond (b2.1 == (17 : Int)) (
              k1 [] c0 c0x2 c0x3 c0x4 c0x5 c0x6 c0x7 c0x8 c0x9 true now c0x12 b1 c1 c1x2 c1x3) (
              k1 [] c0 c0x2 c0x3 c0x4 c0x5 c0x6 c0x7 c0x8 c0x9 c0x10 now c0x12 b1 c1 c1x2 c1x3))))))
noncomputable def clientClientHear (fu : Nat) (c : O4) (f : S5) (now : Int) : Option (((List S5) × Unit) × (O4 × Unit)) :=
  let t1 := decide (now > (1099511627776 : Int))
  cond t1 (
    some (([], ()), (c, ()))) (
    cond (f.1 == (13 : Int)) (
      let t2 := [((14 : Int), (0 : Int), (0 : Int), f.2.2.2.1, (0 : Int), [], ())]
      some ((t2, ()), ((c.1, c.2.1, c.2.2.1, c.2.2.2.1, c.2.2.2.2.1, c.2.2.2.2.2.1, c.2.2.2.2.2.2.1, c.2.2.2.2.2.2.2.1, c.2.2.2.2.2.2.2.2.1, c.2.2.2.2.2.2.2.2.2.1, c.2.2.2.2.2.2.2.2.2.2.1, now, c.2.2.2.2.2.2.2.2.2.2.2.2.1, ()), ()))) (
      cond (f.1 == (16 : Int)) (
        (clientClientBegins fu (c.1, c.2.1, c.2.2.1, c.2.2.2.1, c.2.2.2.2.1, c.2.2.2.2.2.1, c.2.2.2.2.2.2.1, c.2.2.2.2.2.2.2.1, c.2.2.2.2.2.2.2.2.1, c.2.2.2.2.2.2.2.2.2.1, c.2.2.2.2.2.2.2.2.2.2.1, now, c.2.2.2.2.2.2.2.2.2.2.2.2.1, ()) now).bind fun r3 =>
        some (([], ()), (r3.2.1, ()))) (
        cond (f.2.1 != c.1) (
          some (([], ()), (c, ()))) (
          cond (f.1 == (15 : Int)) (
            (clientClientBegins fu (c.1, c.2.1, c.2.2.1, c.2.2.2.1, c.2.2.2.2.1, c.2.2.2.2.2.1, c.2.2.2.2.2.2.1, c.2.2.2.2.2.2.2.1, c.2.2.2.2.2.2.2.2.1, c.2.2.2.2.2.2.2.2.2.1, c.2.2.2.2.2.2.2.2.2.2.1, now, c.2.2.2.2.2.2.2.2.2.2.2.2.1, ()) now).bind fun r4 =>
            some (([], ()), (r4.2.1, ()))) (
            cond (f.1 == (2 : Int)) (
              let t5 := decide (f.2.2.1 > c.2.2.2.2.2.2.1)
              clientClientHear.j54018 fu (fun nowq1 c0q1 c0q1x2 c0q1x3 c0q1x4 c0q1x5 c0q1x6 c0q1x7 c0q1x8 c0q1x9 c0q1x10 c0q1x11 c0q1x12 b1q1 c1q1 c1q1x2 c1q1x3 b2q1 => 
                  clientClientHear.j19 fu (fun vq2 c0q2 c0q2x2 c0q2x3 c0q2x4 c0q2x5 c0q2x6 c0q2x7 c0q2x8 c0q2x9 c0q2x10 c0q2x11 c0q2x12 b1q2 c1q2 c1q2x2 c1q2x3 => 
                      some ((vq2, ()), ((c0q2, c0q2x2, c0q2x3, (b1q2, c1q2, c1q2x2, c1q2x3, ()), c0q2x4, c0q2x5, c0q2x6, c0q2x7, c0q2x8, c0q2x9, c0q2x10, c0q2x11, c0q2x12, ()), ()))) nowq1 c0q1 c0q1x2 c0q1x3 c0q1x4 c0q1x5 c0q1x6 c0q1x7 c0q1x8 c0q1x9 c0q1x10 c0q1x11 c0q1x12 b1q1 c1q1 c1q1x2 c1q1x3 b2q1) now t5 c.1 c.2.1 c.2.2.1 c.2.2.2.2.1 c.2.2.2.2.2.1 c.2.2.2.2.2.2.1 c.2.2.2.2.2.2.2.1 c.2.2.2.2.2.2.2.2.1 c.2.2.2.2.2.2.2.2.2.1 c.2.2.2.2.2.2.2.2.2.2.1 c.2.2.2.2.2.2.2.2.2.2.2.1 c.2.2.2.2.2.2.2.2.2.2.2.2.1 c.2.2.2.1.1 c.2.2.2.1.2.1 c.2.2.2.1.2.2.1 c.2.2.2.1.2.2.2.1 f) (
              clientClientHear.j54018 fu (fun nowq3 c0q3 c0q3x2 c0q3x3 c0q3x4 c0q3x5 c0q3x6 c0q3x7 c0q3x8 c0q3x9 c0q3x10 c0q3x11 c0q3x12 b1q3 c1q3 c1q3x2 c1q3x3 b2q3 => 
                  clientClientHear.j19 fu (fun vq4 c0q4 c0q4x2 c0q4x3 c0q4x4 c0q4x5 c0q4x6 c0q4x7 c0q4x8 c0q4x9 c0q4x10 c0q4x11 c0q4x12 b1q4 c1q4 c1q4x2 c1q4x3 => 
                      some ((vq4, ()), ((c0q4, c0q4x2, c0q4x3, (b1q4, c1q4, c1q4x2, c1q4x3, ()), c0q4x4, c0q4x5, c0q4x6, c0q4x7, c0q4x8, c0q4x9, c0q4x10, c0q4x11, c0q4x12, ()), ()))) nowq3 c0q3 c0q3x2 c0q3x3 c0q3x4 c0q3x5 c0q3x6 c0q3x7 c0q3x8 c0q3x9 c0q3x10 c0q3x11 c0q3x12 b1q3 c1q3 c1q3x2 c1q3x3 b2q3) now false c.1 c.2.1 c.2.2.1 c.2.2.2.2.1 c.2.2.2.2.2.1 c.2.2.2.2.2.2.1 c.2.2.2.2.2.2.2.1 c.2.2.2.2.2.2.2.2.1 c.2.2.2.2.2.2.2.2.2.1 c.2.2.2.2.2.2.2.2.2.2.1 c.2.2.2.2.2.2.2.2.2.2.2.1 c.2.2.2.2.2.2.2.2.2.2.2.2.1 c.2.2.2.1.1 c.2.2.2.1.2.1 c.2.2.2.1.2.2.1 c.2.2.2.1.2.2.2.1 f))))))

noncomputable def clientClientHear.body : Code := Try.f16.body.getD .skip
abbrev clientClientHear.shj54018 : Shp := ⟨[.p 0 0, .u, .d (.int .u64), .u, .p 2 0, .u, .u, .u, .u, .u, .u, .u, .u, .u, .u, .u, .u, .u, .u, .u, .u, .u, .u, .u, .u, .u, .u, .u, .u, .u, .u, .u, .u, .u, .u, .u, .u, .u, .u, .u, .u, .u, .u, .u, .u, .u, .u, .u, .u, .u, .u, .u, .u, .d .bool, .u, .u, .u, .u, .u, .u, .u, .u, .u, .u, .u, .u, .u, .u, .u, .u, .u, .u, .u, .u, .u, .u, .u, .u, .u, .u, .u, .u, .u, .u, .u, .u, .u, .u, .u, .u, .u, .u, .u, .u, .u, .u, .u, .u, .u, .u, .u, .u, .u, .u, .u, .u, .u, .u, .u, .u, .u, .u, .u, .u, .u, .u, .u, .u, .u, .u, .u, .u, .u, .u, .u, .u, .u, .u, .u, .u, .u, .u, .u, .u], [.c [.d (.int .u32), .d (.slice (.int .u8)), .d (.int .u64), .p 1 0, .d .bool, .d .bool, .d (.int .u32), .d (.int .u64), .d .bool, .d .bool, .d .bool, .d (.int .u64), .o 1012 kS3], .c [.g kS0, .d .bool, .d (.int .u32), .d (.int .u64)], .c [.g kS5]]⟩
abbrev clientClientHear.outj54018e0 : Shp := ⟨[.p 0 0, .u, .d (.int .u64), .u, .p 2 0, .u, .u, .u, .u, .u, .u, .u, .u, .u, .u, .u, .u, .u, .u, .u, .u, .u, .u, .u, .u, .u, .u, .u, .u, .u, .u, .u, .u, .u, .u, .u, .u, .u, .u, .u, .u, .u, .u, .u, .u, .u, .u, .u, .u, .u, .u, .u, .u, .u, .u, .u, .u, .u, .u, .u, .u, .u, .u, .u, .u, .u, .u, .u, .u, .u, .u, .u, .u, .u, .u, .u, .u, .u, .u, .u, .u, .u, .u, .u, .u, .u, .u, .u, .u, .u, .u, .u, .u, .u, .u, .u, .u, .u, .u, .u, .u, .u, .u, .u, .u, .u, .u, .u, .u, .u, .u, .u, .u, .u, .u, .u, .u, .u, .u, .u, .u, .u, .u, .u, .u, .u, .u, .u, .u, .u, .u, .u, .u, .u], [.c [.d (.int .u32), .d (.slice (.int .u8)), .d (.int .u64), .p 1 0, .d .bool, .d .bool, .d (.int .u32), .d (.int .u64), .d .bool, .d .bool, .d .bool, .d (.int .u64), .o 1012 kS3], .c [.g kS0, .d .bool, .d (.int .u32), .d (.int .u64)], .c [.g kS5]]⟩
noncomputable def clientClientHear.nmj54018 : Norm := ⟨{ keep := [0, 2, 4, 53], shut := [(2, (.int .u64)), (53, .bool)], retag := [], heap := 3, dead := [], cshut := [(0, 0, (.int .u32)), (0, 1, (.slice (.int .u8))), (0, 2, (.int .u64)), (0, 4, .bool), (0, 5, .bool), (0, 6, (.int .u32)), (0, 7, (.int .u64)), (0, 8, .bool), (0, 9, .bool), (0, 10, .bool), (0, 11, (.int .u64)), (1, 0, (.int .u32)), (1, 1, (.int .u32)), (1, 2, (.int .u32)), (1, 3, .bool), (1, 4, (.int .u32)), (1, 5, (.int .u64)), (2, 0, (.int .u8)), (2, 1, (.int .u32)), (2, 2, (.int .u32)), (2, 3, (.int .u64)), (2, 4, (.int .u64)), (2, 5, (.slice (.int .u8)))], cretag := [(0, 12, 1012, kS3)] }, [(0, { keep := [0, 2, 4], shut := [(2, (.int .u64))], retag := [], heap := 3, dead := [], cshut := [(0, 0, (.int .u32)), (0, 1, (.slice (.int .u8))), (0, 2, (.int .u64)), (0, 4, .bool), (0, 5, .bool), (0, 6, (.int .u32)), (0, 7, (.int .u64)), (0, 8, .bool), (0, 9, .bool), (0, 10, .bool), (0, 11, (.int .u64)), (1, 0, (.int .u32)), (1, 1, (.int .u32)), (1, 2, (.int .u32)), (1, 3, .bool), (1, 4, (.int .u32)), (1, 5, (.int .u64)), (2, 0, (.int .u8)), (2, 1, (.int .u32)), (2, 2, (.int .u32)), (2, 3, (.int .u64)), (2, 4, (.int .u64)), (2, 5, (.slice (.int .u8)))], cretag := [(0, 12, 1012, kS3)] })]⟩
abbrev clientClientHear.shj19 : Shp := ⟨[.p 0 0, .u, .d (.int .u64), .u, .p 2 0, .u, .u, .u, .u, .u, .u, .u, .u, .u, .u, .u, .u, .u, .u, .u, .u, .u, .u, .u, .u, .u, .u, .u, .u, .u, .u, .u, .u, .u, .u, .u, .u, .u, .u, .u, .u, .u, .u, .u, .u, .u, .u, .u, .u, .u, .u, .u, .u, .u, .u, .u, .u, .u, .u, .u, .u, .u, .u, .u, .u, .u, .u, .u, .u, .u, .u, .u, .u, .u, .u, .u, .u, .u, .u, .u, .u, .u, .u, .u, .u, .u, .u, .u, .u, .u, .u, .u, .u, .u, .u, .u, .u, .u, .u, .u, .u, .u, .u, .u, .u, .u, .u, .u, .u, .u, .u, .u, .u, .u, .u, .u, .u, .u, .u, .u, .u, .u, .u, .u, .u, .u, .u, .u, .u, .u, .u, .u, .u, .u], [.c [.d (.int .u32), .d (.slice (.int .u8)), .d (.int .u64), .p 1 0, .d .bool, .d .bool, .d (.int .u32), .d (.int .u64), .d .bool, .d .bool, .d .bool, .d (.int .u64), .o 1012 kS3], .c [.g kS0, .d .bool, .d (.int .u32), .d (.int .u64)], .c [.g kS5]]⟩
abbrev clientClientHear.outj19e1 : Shp := ⟨[.u, .u, .u, .u, .u, .u, .d (.slice kS5), .u, .u, .u, .u, .u, .u, .u, .u, .u, .u, .u, .u, .u, .u, .u, .u, .u, .u, .u, .u, .u, .u, .u, .u, .u, .u, .u, .u, .u, .u, .u, .u, .u, .u, .u, .u, .u, .u, .u, .u, .u, .u, .u, .u, .u, .u, .u, .u, .u, .u, .u, .u, .u, .u, .u, .u, .u, .u, .u, .u, .u, .u, .u, .u, .u, .u, .u, .u, .u, .u, .u, .u, .u, .u, .u, .u, .u, .u, .u, .u, .u, .u, .u, .u, .u, .u, .u, .u, .u, .u, .u, .u, .u, .u, .u, .u, .u, .u, .u, .u, .u, .u, .u, .u, .u, .u, .u, .u, .u, .u, .u, .u, .u, .u, .u, .u, .u, .u, .u, .u, .u, .u, .u, .u, .u, .u, .u], [.c [.d (.int .u32), .d (.slice (.int .u8)), .d (.int .u64), .p 1 0, .d .bool, .d .bool, .d (.int .u32), .d (.int .u64), .d .bool, .d .bool, .d .bool, .d (.int .u64), .o 1012 kS3], .c [.g kS0, .d .bool, .d (.int .u32), .d (.int .u64)]]⟩
noncomputable def clientClientHear.nmj19 : Norm := ⟨{ keep := [0, 2, 4], shut := [(2, (.int .u64))], retag := [], heap := 3, dead := [], cshut := [(0, 0, (.int .u32)), (0, 1, (.slice (.int .u8))), (0, 2, (.int .u64)), (0, 4, .bool), (0, 5, .bool), (0, 6, (.int .u32)), (0, 7, (.int .u64)), (0, 8, .bool), (0, 9, .bool), (0, 10, .bool), (0, 11, (.int .u64)), (1, 0, (.int .u32)), (1, 1, (.int .u32)), (1, 2, (.int .u32)), (1, 3, .bool), (1, 4, (.int .u32)), (1, 5, (.int .u64)), (2, 0, (.int .u8)), (2, 1, (.int .u32)), (2, 2, (.int .u32)), (2, 3, (.int .u64)), (2, 4, (.int .u64)), (2, 5, (.slice (.int .u8)))], cretag := [(0, 12, 1012, kS3)] }, [(1, { keep := [6], shut := [(6, (.slice kS5))], retag := [], heap := 2, dead := [], cshut := [(0, 0, (.int .u32)), (0, 1, (.slice (.int .u8))), (0, 2, (.int .u64)), (0, 4, .bool), (0, 5, .bool), (0, 6, (.int .u32)), (0, 7, (.int .u64)), (0, 8, .bool), (0, 9, .bool), (0, 10, .bool), (0, 11, (.int .u64)), (1, 0, (.int .u32)), (1, 1, (.int .u32)), (1, 2, (.int .u32)), (1, 3, .bool), (1, 4, (.int .u32)), (1, 5, (.int .u64))], cretag := [(0, 12, 1012, kS3)] })]⟩
noncomputable def clientClientHear.con : OCon := { ps := [.obj kO4, .dat kS5, .dat (.int .u64)], rs := [.dat (.slice kS5)], f := fun n x => clientClientHear n x.1 x.2.1 x.2.2.1 }
noncomputable def clientClientHear.env : Env := { tys := [(37, ⟨kS5, 56⟩), (41, ⟨(.slice kS5), 24⟩), (5, ⟨(.int .u8), 1⟩), (98, ⟨kS9, 104⟩), (34, ⟨(.int .u64), 8⟩), (22, ⟨(.int .u32), 4⟩), (4, ⟨.bool, 1⟩)], elems := [(41, 37)], ptrs := [(26, 98)], cons := [], objs := [(41, [clientClientBegins.con]), (44, [clientClientSay.con]), (45, [clientClientDeliver.con])], loops := [], cuts := [(54018, clientClientHear.nmj54018), (19, clientClientHear.nmj19)], globs := globs, base := 2 }
noncomputable def clientClientHear.lp (n : Nat) : LP (RT clientClientHear.con.rs × BT clientClientHear.con.ps) := fun lo κ body nm K s =>
  cond (!lo && Nat.beq κ 54018)
    (match clientClientHear.shj54018.dec s with
    | some v => clientClientHear.j54018 n (fun w0 w1 w2 w3 w4 w5 w6 w7 w8 w9 w10 w11 w12 w13 w14 w15 w16 w17 => K .normal (clientClientHear.outj54018e0.enc (w0, w1, w2, w3, w4, w5, w6, w7, w8, w9, w10, w11, w12, w13, w14, w15, w16, w17, ()))) v.1 v.2.1 v.2.2.1 v.2.2.2.1 v.2.2.2.2.1 v.2.2.2.2.2.1 v.2.2.2.2.2.2.1 v.2.2.2.2.2.2.2.1 v.2.2.2.2.2.2.2.2.1 v.2.2.2.2.2.2.2.2.2.1 v.2.2.2.2.2.2.2.2.2.2.1 v.2.2.2.2.2.2.2.2.2.2.2.1 v.2.2.2.2.2.2.2.2.2.2.2.2.1 v.2.2.2.2.2.2.2.2.2.2.2.2.2.1 v.2.2.2.2.2.2.2.2.2.2.2.2.2.2.1 v.2.2.2.2.2.2.2.2.2.2.2.2.2.2.2.1 v.2.2.2.2.2.2.2.2.2.2.2.2.2.2.2.2.1 v.2.2.2.2.2.2.2.2.2.2.2.2.2.2.2.2.2.1 v.2.2.2.2.2.2.2.2.2.2.2.2.2.2.2.2.2.2.1
    | none => loops n (RT clientClientHear.con.rs × BT clientClientHear.con.ps) lo κ body nm K s)
    (cond (!lo && Nat.beq κ 19)
    (match clientClientHear.shj19.dec s with
    | some v => clientClientHear.j19 n (fun w0 w1 w2 w3 w4 w5 w6 w7 w8 w9 w10 w11 w12 w13 w14 w15 w16 => K .ret (clientClientHear.outj19e1.enc (w0, w1, w2, w3, w4, w5, w6, w7, w8, w9, w10, w11, w12, w13, w14, w15, w16, ()))) v.1 v.2.1 v.2.2.1 v.2.2.2.1 v.2.2.2.2.1 v.2.2.2.2.2.1 v.2.2.2.2.2.2.1 v.2.2.2.2.2.2.2.1 v.2.2.2.2.2.2.2.2.1 v.2.2.2.2.2.2.2.2.2.1 v.2.2.2.2.2.2.2.2.2.2.1 v.2.2.2.2.2.2.2.2.2.2.2.1 v.2.2.2.2.2.2.2.2.2.2.2.2.1 v.2.2.2.2.2.2.2.2.2.2.2.2.2.1 v.2.2.2.2.2.2.2.2.2.2.2.2.2.2.1 v.2.2.2.2.2.2.2.2.2.2.2.2.2.2.2.1 v.2.2.2.2.2.2.2.2.2.2.2.2.2.2.2.2.1 v.2.2.2.2.2.2.2.2.2.2.2.2.2.2.2.2.2.1
    | none => loops n (RT clientClientHear.con.rs × BT clientClientHear.con.ps) lo κ body nm K s)
    (loops n (RT clientClientHear.con.rs × BT clientClientHear.con.ps) lo κ body nm K s))
theorem clientClientHear.atj54018 (n : Nat) (s : St) (K : Ex → St → Option (RT clientClientHear.con.rs × BT clientClientHear.con.ps)) : (clientClientHear.lp n) false 54018 (evK clientClientHear.env (clientClientHear.lp n) n (sub [1, 1, 1, 0, 0, 1, 1, 1, 1, 1] clientClientHear.body)) clientClientHear.nmj54018 K s = loops n (RT clientClientHear.con.rs × BT clientClientHear.con.ps) false 54018 (evK clientClientHear.env (clientClientHear.lp n) n (sub [1, 1, 1, 0, 0, 1, 1, 1, 1, 1] clientClientHear.body)) clientClientHear.nmj54018 K s := by
  show (match clientClientHear.shj54018.dec s with | some v => clientClientHear.j54018 n (fun w0 w1 w2 w3 w4 w5 w6 w7 w8 w9 w10 w11 w12 w13 w14 w15 w16 w17 => K .normal (clientClientHear.outj54018e0.enc (w0, w1, w2, w3, w4, w5, w6, w7, w8, w9, w10, w11, w12, w13, w14, w15, w16, w17, ()))) v.1 v.2.1 v.2.2.1 v.2.2.2.1 v.2.2.2.2.1 v.2.2.2.2.2.1 v.2.2.2.2.2.2.1 v.2.2.2.2.2.2.2.1 v.2.2.2.2.2.2.2.2.1 v.2.2.2.2.2.2.2.2.2.1 v.2.2.2.2.2.2.2.2.2.2.1 v.2.2.2.2.2.2.2.2.2.2.2.1 v.2.2.2.2.2.2.2.2.2.2.2.2.1 v.2.2.2.2.2.2.2.2.2.2.2.2.2.1 v.2.2.2.2.2.2.2.2.2.2.2.2.2.2.1 v.2.2.2.2.2.2.2.2.2.2.2.2.2.2.2.1 v.2.2.2.2.2.2.2.2.2.2.2.2.2.2.2.2.1 v.2.2.2.2.2.2.2.2.2.2.2.2.2.2.2.2.2.1 v.2.2.2.2.2.2.2.2.2.2.2.2.2.2.2.2.2.2.1 | none => loops n (RT clientClientHear.con.rs × BT clientClientHear.con.ps) false 54018 (evK clientClientHear.env (clientClientHear.lp n) n (sub [1, 1, 1, 0, 0, 1, 1, 1, 1, 1] clientClientHear.body)) clientClientHear.nmj54018 K s) = _
  cases h : clientClientHear.shj54018.dec s with
  | none => rfl
  | some v =>
    rw [Shp.dec_enc h]
    kernel_rfl
theorem clientClientHear.atj19 (n : Nat) (s : St) (K : Ex → St → Option (RT clientClientHear.con.rs × BT clientClientHear.con.ps)) : (clientClientHear.lp n) false 19 (evK clientClientHear.env (clientClientHear.lp n) n (sub [1, 1, 1, 1] clientClientHear.body)) clientClientHear.nmj19 K s = loops n (RT clientClientHear.con.rs × BT clientClientHear.con.ps) false 19 (evK clientClientHear.env (clientClientHear.lp n) n (sub [1, 1, 1, 1] clientClientHear.body)) clientClientHear.nmj19 K s := by
  show (match clientClientHear.shj19.dec s with | some v => clientClientHear.j19 n (fun w0 w1 w2 w3 w4 w5 w6 w7 w8 w9 w10 w11 w12 w13 w14 w15 w16 => K .ret (clientClientHear.outj19e1.enc (w0, w1, w2, w3, w4, w5, w6, w7, w8, w9, w10, w11, w12, w13, w14, w15, w16, ()))) v.1 v.2.1 v.2.2.1 v.2.2.2.1 v.2.2.2.2.1 v.2.2.2.2.2.1 v.2.2.2.2.2.2.1 v.2.2.2.2.2.2.2.1 v.2.2.2.2.2.2.2.2.1 v.2.2.2.2.2.2.2.2.2.1 v.2.2.2.2.2.2.2.2.2.2.1 v.2.2.2.2.2.2.2.2.2.2.2.1 v.2.2.2.2.2.2.2.2.2.2.2.2.1 v.2.2.2.2.2.2.2.2.2.2.2.2.2.1 v.2.2.2.2.2.2.2.2.2.2.2.2.2.2.1 v.2.2.2.2.2.2.2.2.2.2.2.2.2.2.2.1 v.2.2.2.2.2.2.2.2.2.2.2.2.2.2.2.2.1 v.2.2.2.2.2.2.2.2.2.2.2.2.2.2.2.2.2.1 | none => loops n (RT clientClientHear.con.rs × BT clientClientHear.con.ps) false 19 (evK clientClientHear.env (clientClientHear.lp n) n (sub [1, 1, 1, 1] clientClientHear.body)) clientClientHear.nmj19 K s) = _
  cases h : clientClientHear.shj19.dec s with
  | none => rfl
  | some v =>
    rw [Shp.dec_enc h]
    kernel_rfl
theorem clientClientHear.eq (n : Nat) (x : PT clientClientHear.con.ps) : evFuncO clientClientHear.env Try.f16 clientClientHear.body clientClientHear.con.ps clientClientHear.con.rs (clientClientHear.lp n) n x = clientClientHear.con.f n x := by kernel_rfl
theorem clientClientHear.sound : SoundO Try.prog globs 16 clientClientHear.con :=
  sound_byO (E := clientClientHear.env) (c := clientClientHear.body) (envOk (G := globs) (lc := []) (lo := [(41, [clientClientBegins.con]), (44, [clientClientSay.con]), (45, [clientClientDeliver.con])]) (envB_spec (by kernel_rfl)) rfl rfl trivial rfl ⟨⟨⟨clientClientBegins.sound, trivial⟩, by kernel_rfl⟩, ⟨⟨⟨clientClientSay.sound, trivial⟩, by kernel_rfl⟩, ⟨⟨⟨clientClientDeliver.sound, trivial⟩, by kernel_rfl⟩, trivial⟩⟩⟩ (by kernel_rfl) (by kernel_rfl)) Try.func16 (by kernel_rfl) (by kernel_rfl) (by kernel_rfl) clientClientHear.lp (l := [(false, sub [1, 1, 1, 0, 0, 1, 1, 1, 1, 1] clientClientHear.body, clientClientHear.nmj54018), (false, sub [1, 1, 1, 1] clientClientHear.body, clientClientHear.nmj19)]) (by kernel_rfl) (fun n => ⟨clientClientHear.atj54018 n, ⟨clientClientHear.atj19 n, trivial⟩⟩) clientClientHear.eq
noncomputable def ref20Same (fu : Nat) (a : S5) (b : S5) : Option (Bool × Unit) :=
  cond (a.1 == b.1) (
    cond (a.2.1 == b.2.1) (
      cond (a.2.2.1 == b.2.2.1) (
        cond (a.2.2.2.1 == b.2.2.2.1) (
          let t1 := a.2.2.2.2.1 == b.2.2.2.2.1
          cond t1 (
            let t2 := a.2.2.2.2.2.1 == b.2.2.2.2.2.1
            some (t2, ())) (
            some (false, ()))) (
          some (false, ()))) (
        some (false, ()))) (
      some (false, ()))) (
    some (false, ()))

noncomputable def ref20Same.body : Code := Try.f55.body.getD .skip
noncomputable def ref20Same.con : Con := { ps := [kS5, kS5], rs := [.bool], f := fun n x => ref20Same n x.1 x.2.1 }
noncomputable def ref20Same.env : Env := { tys := [(37, ⟨kS5, 56⟩), (4, ⟨.bool, 1⟩), (5, ⟨(.int .u8), 1⟩), (22, ⟨(.int .u32), 4⟩), (34, ⟨(.int .u64), 8⟩), (35, ⟨(.slice (.int .u8)), 24⟩), (9, ⟨.str, 16⟩)], elems := [(35, 5)], ptrs := [], cons := [], objs := [], loops := [], cuts := [], globs := globs, base := 0 }
noncomputable def ref20Same.lp (n : Nat) : LP (Kd.struct ref20Same.con.rs).T := fun lo κ body nm K s =>
  loops n (Kd.struct ref20Same.con.rs).T lo κ body nm K s
theorem ref20Same.eq (n : Nat) (x : (Kd.struct ref20Same.con.ps).T) : evFunc ref20Same.env Try.f55 ref20Same.body ref20Same.con.ps ref20Same.con.rs (ref20Same.lp n) n x = ref20Same.con.f n x := by kernel_rfl
theorem ref20Same.sound : Sound Try.prog globs 55 ref20Same.con :=
  sound_by (E := ref20Same.env) (c := ref20Same.body) (envOk (G := globs) (lc := []) (lo := []) (envB_spec (by kernel_rfl)) rfl rfl trivial rfl trivial (by kernel_rfl) (by kernel_rfl)) Try.func55 (by kernel_rfl) ref20Same.lp (l := []) (by kernel_rfl) (fun n => trivial) ref20Same.eq
noncomputable def ref20SameAll.b4 (fu : Nat) (next : (List S5) → (List S5) → Int → Int → Option (Bool × Unit)) (k1 : Bool → Option (Bool × Unit)) (k2 : Unit → Option (Bool × Unit)) (a : List S5) (b : List S5) (v : Int) (vx2 : Int) : Option (Bool × Unit) :=
  cond (decide (vx2 < v)) (
    chk (ixOk a vx2) <|
    let e1 := ixL ((0 : Int), (0 : Int), (0 : Int), (0 : Int), (0 : Int), [], ()) a vx2
    chk (ixOk b vx2) <|
    let e2 := ixL ((0 : Int), (0 : Int), (0 : Int), (0 : Int), (0 : Int), [], ()) b vx2
    (ref20Same fu e1 e2).bind fun r3 =>
    cond (!r3.1) (
      k1 false) (
      let t4 := IntKind.i64.wrap (vx2 + (1 : Int))
      next a b v t4)) (
    k2 ())
noncomputable def ref20SameAll.l4 (fu : Nat) (k1 : Bool → Option (Bool × Unit)) (k2 : Unit → Option (Bool × Unit)) : Nat → (List S5) → (List S5) → Int → Int → Option (Bool × Unit)
  | 0, _, _, _, _ => none
  | m + 1, a, b, v, vx2 => ref20SameAll.b4 fu (ref20SameAll.l4 fu k1 k2 m) k1 k2 a b v vx2
noncomputable def ref20SameAll (fu : Nat) (a : List S5) (b : List S5) : Option (Bool × Unit) :=
  let t1 := (a.length : Int) != (b.length : Int)
  cond t1 (
    some (false, ())) (
    ref20SameAll.l4 fu (fun vq3 => 
        some (vq3, ())) (fun (_ : Unit) => 
        some (true, ())) fu a b (a.length : Int) (0 : Int))

noncomputable def ref20SameAll.body : Code := Try.f35.body.getD .skip
abbrev ref20SameAll.shl4 : Shp := ⟨[.d (.slice kS5), .d (.slice kS5), .u, .u, .u, .u, .u, .u, .u, .u, .u, .u, .d (.int .i64), .d (.int .i64), .u, .u, .u, .u, .u, .u, .u, .u, .u, .u, .u, .u, .u], []⟩
abbrev ref20SameAll.outl4e1 : Shp := ⟨[.u, .u, .u, .u, .d .bool, .u, .u, .u, .u, .u, .u, .u, .u, .u, .u, .u, .u, .u, .u, .u, .u, .u, .u, .u, .u, .u, .u], []⟩
abbrev ref20SameAll.outl4e2 : Shp := ⟨[.u, .u, .u, .u, .u, .u, .u, .u, .u, .u, .u, .u, .u, .u, .u, .u, .u, .u, .u, .u, .u, .u, .u, .u, .u, .u, .u], []⟩
noncomputable def ref20SameAll.nml4 : Norm := ⟨{ keep := [0, 1, 12, 13], shut := [(0, (.slice kS5)), (1, (.slice kS5)), (12, (.int .i64)), (13, (.int .i64))], retag := [], heap := 0, dead := [], cshut := [], cretag := [] }, [(1, { keep := [4], shut := [(4, .bool)], retag := [], heap := 0, dead := [], cshut := [], cretag := [] }), (2, { keep := [], shut := [], retag := [], heap := 0, dead := [], cshut := [], cretag := [] })]⟩
noncomputable def ref20SameAll.con : Con := { ps := [(.slice kS5), (.slice kS5)], rs := [.bool], f := fun n x => ref20SameAll n x.1 x.2.1 }
noncomputable def ref20SameAll.env : Env := { tys := [(4, ⟨.bool, 1⟩), (37, ⟨kS5, 56⟩), (3, ⟨(.int .i64), 8⟩)], elems := [(41, 37)], ptrs := [], cons := [(55, ref20Same.con)], objs := [], loops := [(4, ref20SameAll.nml4)], cuts := [], globs := globs, base := 0 }
noncomputable def ref20SameAll.lp (n : Nat) : LP (Kd.struct ref20SameAll.con.rs).T := fun lo κ body nm K s =>
  cond (lo && Nat.beq κ 4)
    (match ref20SameAll.shl4.dec s with
    | some v => ref20SameAll.l4 n (fun w0 => K .ret (ref20SameAll.outl4e1.enc (w0, ()))) (fun _ => K (.exit 0) (ref20SameAll.outl4e2.enc (()))) n v.1 v.2.1 v.2.2.1 v.2.2.2.1
    | none => loops n (Kd.struct ref20SameAll.con.rs).T lo κ body nm K s)
    (loops n (Kd.struct ref20SameAll.con.rs).T lo κ body nm K s)
theorem ref20SameAll.atl4 (n : Nat) (s : St) (K : Ex → St → Option (Kd.struct ref20SameAll.con.rs).T) : (ref20SameAll.lp n) true 4 (evK ref20SameAll.env (ref20SameAll.lp n) n (sub [1, 1, 0, 1, 0, 0] ref20SameAll.body)) ref20SameAll.nml4 K s = loops n (Kd.struct ref20SameAll.con.rs).T true 4 (evK ref20SameAll.env (ref20SameAll.lp n) n (sub [1, 1, 0, 1, 0, 0] ref20SameAll.body)) ref20SameAll.nml4 K s := by
  show (match ref20SameAll.shl4.dec s with | some v => ref20SameAll.l4 n (fun w0 => K .ret (ref20SameAll.outl4e1.enc (w0, ()))) (fun _ => K (.exit 0) (ref20SameAll.outl4e2.enc (()))) n v.1 v.2.1 v.2.2.1 v.2.2.2.1 | none => loops n (Kd.struct ref20SameAll.con.rs).T true 4 (evK ref20SameAll.env (ref20SameAll.lp n) n (sub [1, 1, 0, 1, 0, 0] ref20SameAll.body)) ref20SameAll.nml4 K s) = _
  cases h : ref20SameAll.shl4.dec s with
  | none => rfl
  | some v =>
    rw [Shp.dec_enc h]
    exact (evLoop_eq (sh := ref20SameAll.shl4) (body := evK ref20SameAll.env (ref20SameAll.lp n) n (sub [1, 1, 0, 1, 0, 0] ref20SameAll.body)) (nm := ref20SameAll.nml4) (K := K) (b := fun nx v => ref20SameAll.b4 n (fun x0 x1 x2 x3 => nx (x0, x1, x2, x3, ())) (fun w0 => K .ret (ref20SameAll.outl4e1.enc (w0, ()))) (fun _ => K (.exit 0) (ref20SameAll.outl4e2.enc (()))) v.1 v.2.1 v.2.2.1 v.2.2.2.1) (l := fun m v => ref20SameAll.l4 n (fun w0 => K .ret (ref20SameAll.outl4e1.enc (w0, ()))) (fun _ => K (.exit 0) (ref20SameAll.outl4e2.enc (()))) m v.1 v.2.1 v.2.2.1 v.2.2.2.1) (fun _ => rfl) (fun _ _ => rfl) (fun m v => by kernel_rfl) n v).symm
theorem ref20SameAll.eq (n : Nat) (x : (Kd.struct ref20SameAll.con.ps).T) : evFunc ref20SameAll.env Try.f35 ref20SameAll.body ref20SameAll.con.ps ref20SameAll.con.rs (ref20SameAll.lp n) n x = ref20SameAll.con.f n x := by kernel_rfl
theorem ref20SameAll.sound : Sound Try.prog globs 35 ref20SameAll.con :=
  sound_by (E := ref20SameAll.env) (c := ref20SameAll.body) (envOk (G := globs) (lc := [(55, ref20Same.con)]) (lo := []) (envB_spec (by kernel_rfl)) rfl rfl ⟨.inl ⟨ref20Same.sound, by kernel_rfl⟩, trivial⟩ rfl trivial (by kernel_rfl) (by kernel_rfl)) Try.func35 (by kernel_rfl) ref20SameAll.lp (l := [(true, sub [1, 1, 0, 1, 0, 0] ref20SameAll.body, ref20SameAll.nml4)]) (by kernel_rfl) (fun n => ⟨ref20SameAll.atl4 n, trivial⟩) ref20SameAll.eq
noncomputable def slicesCloneDatF46 (fu : Nat) (sv : List S3) : Option ((List S3) × Unit) :=
  nilQ sv (
    some ([], ())) (
    chk (apOk [] sv 24) <|
    some ([] ++ sv, ()))

noncomputable def slicesCloneDatF46.body : Code := Try.f46.body.getD .skip
noncomputable def slicesCloneDatF46.con : Con := { ps := [(.slice kS3)], rs := [(.slice kS3)], f := fun n x => slicesCloneDatF46 n x.1 }
noncomputable def slicesCloneDatF46.env : Env := { tys := [(47, ⟨(.slice kS3), 24⟩), (52, ⟨kS3, 24⟩)], elems := [(47, 52)], ptrs := [], cons := [], objs := [], loops := [], cuts := [], globs := globs, base := 0 }
noncomputable def slicesCloneDatF46.lp (n : Nat) : LP (Kd.struct slicesCloneDatF46.con.rs).T := fun lo κ body nm K s =>
  loops n (Kd.struct slicesCloneDatF46.con.rs).T lo κ body nm K s
theorem slicesCloneDatF46.eq (n : Nat) (x : (Kd.struct slicesCloneDatF46.con.ps).T) : evFunc slicesCloneDatF46.env Try.f46 slicesCloneDatF46.body slicesCloneDatF46.con.ps slicesCloneDatF46.con.rs (slicesCloneDatF46.lp n) n x = slicesCloneDatF46.con.f n x := by kernel_rfl
theorem slicesCloneDatF46.sound : Sound Try.prog globs 46 slicesCloneDatF46.con :=
  sound_by (E := slicesCloneDatF46.env) (c := slicesCloneDatF46.body) (envOk (G := globs) (lc := []) (lo := []) (envB_spec (by kernel_rfl)) rfl rfl trivial rfl trivial (by kernel_rfl) (by kernel_rfl)) Try.func46 (by kernel_rfl) slicesCloneDatF46.lp (l := []) (by kernel_rfl) (fun n => trivial) slicesCloneDatF46.eq
noncomputable def clientClientHanded (fu : Nat) (c : O4) : Option (((List S3) × Unit) × (O4 × Unit)) :=
  (slicesCloneDatF46 fu c.2.2.2.2.2.2.2.2.2.2.2.2.1).bind fun r1 =>
  some ((r1.1, ()), (c, ()))

noncomputable def clientClientHanded.body : Code := Try.f19.body.getD .skip
noncomputable def clientClientHanded.con : OCon := { ps := [.obj kO4], rs := [.dat (.slice kS3)], f := fun n x => clientClientHanded n x.1 }
noncomputable def clientClientHanded.env : Env := { tys := [(47, ⟨(.slice kS3), 24⟩), (98, ⟨kS9, 104⟩)], elems := [], ptrs := [(26, 98)], cons := [(46, slicesCloneDatF46.con)], objs := [], loops := [], cuts := [], globs := globs, base := 2 }
noncomputable def clientClientHanded.lp (n : Nat) : LP (RT clientClientHanded.con.rs × BT clientClientHanded.con.ps) := fun lo κ body nm K s =>
  loops n (RT clientClientHanded.con.rs × BT clientClientHanded.con.ps) lo κ body nm K s
theorem clientClientHanded.eq (n : Nat) (x : PT clientClientHanded.con.ps) : evFuncO clientClientHanded.env Try.f19 clientClientHanded.body clientClientHanded.con.ps clientClientHanded.con.rs (clientClientHanded.lp n) n x = clientClientHanded.con.f n x := by kernel_rfl
theorem clientClientHanded.sound : SoundO Try.prog globs 19 clientClientHanded.con :=
  sound_byO (E := clientClientHanded.env) (c := clientClientHanded.body) (envOk (G := globs) (lc := [(46, slicesCloneDatF46.con)]) (lo := []) (envB_spec (by kernel_rfl)) rfl rfl ⟨.inl ⟨slicesCloneDatF46.sound, by kernel_rfl⟩, trivial⟩ rfl trivial (by kernel_rfl) (by kernel_rfl)) Try.func19 (by kernel_rfl) (by kernel_rfl) (by kernel_rfl) clientClientHanded.lp (l := []) (by kernel_rfl) (fun n => trivial) clientClientHanded.eq
noncomputable def law25Fixed (fu : Nat) : Option (Bool × Unit) :=
  (clientNew fu (3 : Int) [] ((1 : Int), (2 : Int), (2 : Int), ())).bind fun r1 =>
  oc r1.1.1 (
    some (false, ())) fun o2 =>
  cond (r1.1.2.1 != (0 : Int)) (
    some (false, ())) (
    (clientClientHear fu o2 ((2 : Int), (3 : Int), (1 : Int), (0 : Int), (0 : Int), [], ()) (0 : Int)).bind fun r3 =>
    (clientClientHear fu r3.2.1 ((5 : Int), (3 : Int), (1 : Int), (0 : Int), (0 : Int), [(1 : Int), (2 : Int)], ()) (0 : Int)).bind fun r4 =>
    let t5 := [((6 : Int), (3 : Int), (1 : Int), (0 : Int), (0 : Int), [], ())]
    (ref20SameAll fu r3.1.1 t5).bind fun r6 =>
    cond r6.1 (
      let t7 := [((6 : Int), (3 : Int), (1 : Int), (1 : Int), (0 : Int), [], ())]
      (ref20SameAll fu r4.1.1 t7).bind fun r8 =>
      cond r8.1 (
        (clientClientHanded fu r4.2.1).bind fun r9 =>
        let t10 := (r9.1.1.length : Int) == (1 : Int)
        some (t10, ())) (
        some (false, ()))) (
      some (false, ())))

noncomputable def law25Fixed.body : Code := Try.f10.body.getD .skip
noncomputable def law25Fixed.con : Con := { ps := [], rs := [.bool], f := fun n x => law25Fixed n }
noncomputable def law25Fixed.env : Env := { tys := [(4, ⟨.bool, 1⟩), (24, ⟨kS0, 12⟩), (26, ⟨.np, 8⟩), (37, ⟨kS5, 56⟩), (5, ⟨(.int .u8), 1⟩), (52, ⟨kS3, 24⟩)], elems := [(35, 5), (41, 37), (47, 52)], ptrs := [(26, 98)], cons := [(35, ref20SameAll.con)], objs := [(9, [clientNew.con]), (16, [clientClientHear.con]), (19, [clientClientHanded.con])], loops := [], cuts := [], globs := globs, base := 0 }
noncomputable def law25Fixed.lp (n : Nat) : LP (Kd.struct law25Fixed.con.rs).T := fun lo κ body nm K s =>
  loops n (Kd.struct law25Fixed.con.rs).T lo κ body nm K s
theorem law25Fixed.eq (n : Nat) (x : (Kd.struct law25Fixed.con.ps).T) : evFunc law25Fixed.env Try.f10 law25Fixed.body law25Fixed.con.ps law25Fixed.con.rs (law25Fixed.lp n) n x = law25Fixed.con.f n x := by kernel_rfl
theorem law25Fixed.sound : Sound Try.prog globs 10 law25Fixed.con :=
  sound_by (E := law25Fixed.env) (c := law25Fixed.body) (envOk (G := globs) (lc := [(35, ref20SameAll.con)]) (lo := [(9, [clientNew.con]), (16, [clientClientHear.con]), (19, [clientClientHanded.con])]) (envB_spec (by kernel_rfl)) rfl rfl ⟨.inl ⟨ref20SameAll.sound, by kernel_rfl⟩, trivial⟩ rfl ⟨⟨⟨clientNew.sound, trivial⟩, by kernel_rfl⟩, ⟨⟨⟨clientClientHear.sound, trivial⟩, by kernel_rfl⟩, ⟨⟨⟨clientClientHanded.sound, trivial⟩, by kernel_rfl⟩, trivial⟩⟩⟩ (by kernel_rfl) (by kernel_rfl)) Try.func10 (by kernel_rfl) law25Fixed.lp (l := []) (by kernel_rfl) (fun n => trivial) law25Fixed.eq
noncomputable def ref23May (fu : Nat) (b : S0) : Option (Bool × Unit) :=
  cond (decide (b.1 > (0 : Int))) (
    let t1 := decide (b.1 ≤ (65536 : Int))
    cond t1 (
      cond (decide (b.1 ≤ b.2.1)) (
        let t2 := decide (b.2.1 ≤ (1048576 : Int))
        cond t2 (
          let t3 := decide (b.2.2.1 > (0 : Int))
          cond t3 (
            let t4 := decide (b.2.2.1 ≤ (64 : Int))
            some (t4, ())) (
            some (false, ()))) (
          some (false, ()))) (
        some (false, ()))) (
      some (false, ()))) (
    some (false, ()))

noncomputable def ref23May.body : Code := Try.f11.body.getD .skip
noncomputable def ref23May.con : Con := { ps := [kS0], rs := [.bool], f := fun n x => ref23May n x.1 }
noncomputable def ref23May.env : Env := { tys := [(24, ⟨kS0, 12⟩), (4, ⟨.bool, 1⟩), (22, ⟨(.int .u32), 4⟩)], elems := [], ptrs := [], cons := [], objs := [], loops := [], cuts := [], globs := globs, base := 0 }
noncomputable def ref23May.lp (n : Nat) : LP (Kd.struct ref23May.con.rs).T := fun lo κ body nm K s =>
  loops n (Kd.struct ref23May.con.rs).T lo κ body nm K s
theorem ref23May.eq (n : Nat) (x : (Kd.struct ref23May.con.ps).T) : evFunc ref23May.env Try.f11 ref23May.body ref23May.con.ps ref23May.con.rs (ref23May.lp n) n x = ref23May.con.f n x := by kernel_rfl
theorem ref23May.sound : Sound Try.prog globs 11 ref23May.con :=
  sound_by (E := ref23May.env) (c := ref23May.body) (envOk (G := globs) (lc := []) (lo := []) (envB_spec (by kernel_rfl)) rfl rfl trivial rfl trivial (by kernel_rfl) (by kernel_rfl)) Try.func11 (by kernel_rfl) ref23May.lp (l := []) (by kernel_rfl) (fun n => trivial) ref23May.eq
noncomputable def law25Cut.b2 (fu : Nat) (next : (List S6) → (List S6) → Int → Int → Option ((List S6) × Unit)) (k1 : (List S6) → Option ((List S6) × Unit)) (k2 : (List S6) → Option ((List S6) × Unit)) (l : List S6) (v : List S6) (vx2 : Int) (vx3 : Int) : Option ((List S6) × Unit) :=
  cond (decide (vx3 < vx2)) (
    chk (ixOk v vx3) <|
    let e1 := ixL ((0 : Int), (0 : Int), ((0 : Int), (0 : Int), (0 : Int), (0 : Int), (0 : Int), [], ()), false, ()) v vx3
    let t2 := decide (vx3 > (200 : Int))
    cond t2 (
      chk (cutOk l (0 : Int) vx3) <|
      k1 (cutL l (0 : Int) vx3)) (
      let t3 := (e1.2.2.1.2.2.2.2.2.1.length : Int)
      let t4 := decide (t3 > (2000 : Int))
      cond t4 (
        chk (cutOk l (0 : Int) vx3) <|
        k1 (cutL l (0 : Int) vx3)) (
        let t5 := IntKind.i64.wrap (vx3 + (1 : Int))
        next l v vx2 t5))) (
    k2 l)
noncomputable def law25Cut.l2 (fu : Nat) (k1 : (List S6) → Option ((List S6) × Unit)) (k2 : (List S6) → Option ((List S6) × Unit)) : Nat → (List S6) → (List S6) → Int → Int → Option ((List S6) × Unit)
  | 0, _, _, _, _ => none
  | m + 1, l, v, vx2, vx3 => law25Cut.b2 fu (law25Cut.l2 fu k1 k2 m) k1 k2 l v vx2 vx3
noncomputable def law25Cut (fu : Nat) (l : List S6) : Option ((List S6) × Unit) :=
  law25Cut.l2 fu (fun vq3 => 
      some (vq3, ())) (fun lq4 => 
      some (lq4, ())) fu l l (l.length : Int) (0 : Int)

noncomputable def law25Cut.body : Code := Try.f12.body.getD .skip
abbrev law25Cut.shl2 : Shp := ⟨[.d (.slice kS6), .u, .u, .u, .u, .d (.slice kS6), .d (.int .i64), .d (.int .i64), .u, .u, .u, .u, .u, .u, .u, .u, .u, .u, .u, .u, .u, .u, .u, .u, .u, .u], []⟩
abbrev law25Cut.outl2e1 : Shp := ⟨[.u, .u, .d (.slice kS6), .u, .u, .u, .u, .u, .u, .u, .u, .u, .u, .u, .u, .u, .u, .u, .u, .u, .u, .u, .u, .u, .u, .u], []⟩
abbrev law25Cut.outl2e2 : Shp := ⟨[.d (.slice kS6), .u, .u, .u, .u, .u, .u, .u, .u, .u, .u, .u, .u, .u, .u, .u, .u, .u, .u, .u, .u, .u, .u, .u, .u, .u], []⟩
noncomputable def law25Cut.nml2 : Norm := ⟨{ keep := [0, 5, 6, 7], shut := [(0, (.slice kS6)), (5, (.slice kS6)), (6, (.int .i64)), (7, (.int .i64))], retag := [], heap := 0, dead := [], cshut := [], cretag := [] }, [(1, { keep := [2], shut := [(2, (.slice kS6))], retag := [], heap := 0, dead := [], cshut := [], cretag := [] }), (2, { keep := [0], shut := [(0, (.slice kS6))], retag := [], heap := 0, dead := [], cshut := [], cretag := [] })]⟩
noncomputable def law25Cut.con : Con := { ps := [(.slice kS6)], rs := [(.slice kS6)], f := fun n x => law25Cut n x.1 }
noncomputable def law25Cut.env : Env := { tys := [(25, ⟨(.slice kS6), 24⟩), (39, ⟨kS6, 80⟩), (3, ⟨(.int .i64), 8⟩), (4, ⟨.bool, 1⟩), (37, ⟨kS5, 56⟩), (35, ⟨(.slice (.int .u8)), 24⟩), (5, ⟨(.int .u8), 1⟩)], elems := [(25, 39), (35, 5)], ptrs := [], cons := [], objs := [], loops := [(2, law25Cut.nml2)], cuts := [], globs := globs, base := 0 }
noncomputable def law25Cut.lp (n : Nat) : LP (Kd.struct law25Cut.con.rs).T := fun lo κ body nm K s =>
  cond (lo && Nat.beq κ 2)
    (match law25Cut.shl2.dec s with
    | some v => law25Cut.l2 n (fun w0 => K .ret (law25Cut.outl2e1.enc (w0, ()))) (fun w0 => K (.exit 0) (law25Cut.outl2e2.enc (w0, ()))) n v.1 v.2.1 v.2.2.1 v.2.2.2.1
    | none => loops n (Kd.struct law25Cut.con.rs).T lo κ body nm K s)
    (loops n (Kd.struct law25Cut.con.rs).T lo κ body nm K s)
theorem law25Cut.atl2 (n : Nat) (s : St) (K : Ex → St → Option (Kd.struct law25Cut.con.rs).T) : (law25Cut.lp n) true 2 (evK law25Cut.env (law25Cut.lp n) n (sub [1, 0, 1, 0, 0] law25Cut.body)) law25Cut.nml2 K s = loops n (Kd.struct law25Cut.con.rs).T true 2 (evK law25Cut.env (law25Cut.lp n) n (sub [1, 0, 1, 0, 0] law25Cut.body)) law25Cut.nml2 K s := by
  show (match law25Cut.shl2.dec s with | some v => law25Cut.l2 n (fun w0 => K .ret (law25Cut.outl2e1.enc (w0, ()))) (fun w0 => K (.exit 0) (law25Cut.outl2e2.enc (w0, ()))) n v.1 v.2.1 v.2.2.1 v.2.2.2.1 | none => loops n (Kd.struct law25Cut.con.rs).T true 2 (evK law25Cut.env (law25Cut.lp n) n (sub [1, 0, 1, 0, 0] law25Cut.body)) law25Cut.nml2 K s) = _
  cases h : law25Cut.shl2.dec s with
  | none => rfl
  | some v =>
    rw [Shp.dec_enc h]
    exact (evLoop_eq (sh := law25Cut.shl2) (body := evK law25Cut.env (law25Cut.lp n) n (sub [1, 0, 1, 0, 0] law25Cut.body)) (nm := law25Cut.nml2) (K := K) (b := fun nx v => law25Cut.b2 n (fun x0 x1 x2 x3 => nx (x0, x1, x2, x3, ())) (fun w0 => K .ret (law25Cut.outl2e1.enc (w0, ()))) (fun w0 => K (.exit 0) (law25Cut.outl2e2.enc (w0, ()))) v.1 v.2.1 v.2.2.1 v.2.2.2.1) (l := fun m v => law25Cut.l2 n (fun w0 => K .ret (law25Cut.outl2e1.enc (w0, ()))) (fun w0 => K (.exit 0) (law25Cut.outl2e2.enc (w0, ()))) m v.1 v.2.1 v.2.2.1 v.2.2.2.1) (fun _ => rfl) (fun _ _ => rfl) (fun m v => by kernel_rfl) n v).symm
theorem law25Cut.eq (n : Nat) (x : (Kd.struct law25Cut.con.ps).T) : evFunc law25Cut.env Try.f12 law25Cut.body law25Cut.con.ps law25Cut.con.rs (law25Cut.lp n) n x = law25Cut.con.f n x := by kernel_rfl
theorem law25Cut.sound : Sound Try.prog globs 12 law25Cut.con :=
  sound_by (E := law25Cut.env) (c := law25Cut.body) (envOk (G := globs) (lc := []) (lo := []) (envB_spec (by kernel_rfl)) rfl rfl trivial rfl trivial (by kernel_rfl) (by kernel_rfl)) Try.func12 (by kernel_rfl) law25Cut.lp (l := [(true, sub [1, 0, 1, 0, 0] law25Cut.body, law25Cut.nml2)]) (by kernel_rfl) (fun n => ⟨law25Cut.atl2 n, trivial⟩) law25Cut.eq
noncomputable def backTriesOver (fu : Nat) (tv : O1) : Option ((Bool × Unit) × (O1 × Unit)) :=
  let t1 := decide (tv.2.2.1 ≥ tv.1.2.2.1)
  some ((t1, ()), (tv, ()))

noncomputable def backTriesOver.body : Code := Try.f40.body.getD .skip
noncomputable def backTriesOver.con : OCon := { ps := [.obj kO1], rs := [.dat .bool], f := fun n x => backTriesOver n x.1 }
noncomputable def backTriesOver.env : Env := { tys := [(4, ⟨.bool, 1⟩), (121, ⟨kS7, 32⟩), (22, ⟨(.int .u32), 4⟩), (24, ⟨kS0, 12⟩)], elems := [], ptrs := [(93, 121)], cons := [], objs := [], loops := [], cuts := [], globs := globs, base := 1 }
noncomputable def backTriesOver.lp (n : Nat) : LP (RT backTriesOver.con.rs × BT backTriesOver.con.ps) := fun lo κ body nm K s =>
  loops n (RT backTriesOver.con.rs × BT backTriesOver.con.ps) lo κ body nm K s
theorem backTriesOver.eq (n : Nat) (x : PT backTriesOver.con.ps) : evFuncO backTriesOver.env Try.f40 backTriesOver.body backTriesOver.con.ps backTriesOver.con.rs (backTriesOver.lp n) n x = backTriesOver.con.f n x := by kernel_rfl
theorem backTriesOver.sound : SoundO Try.prog globs 40 backTriesOver.con :=
  sound_byO (E := backTriesOver.env) (c := backTriesOver.body) (envOk (G := globs) (lc := []) (lo := []) (envB_spec (by kernel_rfl)) rfl rfl trivial rfl trivial (by kernel_rfl) (by kernel_rfl)) Try.func40 (by kernel_rfl) (by kernel_rfl) (by kernel_rfl) backTriesOver.lp (l := []) (by kernel_rfl) (fun n => trivial) backTriesOver.eq
noncomputable def clientClientCome (fu : Nat) (c : O4) (now : Int) : Option ((Unit) × (O4 × Unit)) :=
  let t1 := decide (now > (1099511627776 : Int))
  cond t1 (
    some ((()), (c, ()))) (
    cond c.2.2.2.2.2.1 (
      some ((()), (c, ()))) (
      cond c.2.2.2.2.1 (
        (backTriesOver fu c.2.2.2.1).bind fun r2 =>
        cond (!r2.1.1) (
          some ((()), ((c.1, c.2.1, c.2.2.1, r2.2.1, c.2.2.2.2.1, c.2.2.2.2.2.1, c.2.2.2.2.2.2.1, c.2.2.2.2.2.2.2.1, c.2.2.2.2.2.2.2.2.1, c.2.2.2.2.2.2.2.2.2.1, c.2.2.2.2.2.2.2.2.2.2.1, c.2.2.2.2.2.2.2.2.2.2.2.1, c.2.2.2.2.2.2.2.2.2.2.2.2.1, ()), ()))) (
          (clientClientBegins fu (c.1, c.2.1, c.2.2.1, r2.2.1, c.2.2.2.2.1, c.2.2.2.2.2.1, c.2.2.2.2.2.2.1, c.2.2.2.2.2.2.2.1, c.2.2.2.2.2.2.2.2.1, c.2.2.2.2.2.2.2.2.2.1, c.2.2.2.2.2.2.2.2.2.2.1, c.2.2.2.2.2.2.2.2.2.2.2.1, c.2.2.2.2.2.2.2.2.2.2.2.2.1, ()) now).bind fun r3 =>
          some ((()), (r3.2.1, ())))) (
        (clientClientBegins fu c now).bind fun r4 =>
        some ((()), (r4.2.1, ())))))

noncomputable def clientClientCome.body : Code := Try.f13.body.getD .skip
noncomputable def clientClientCome.con : OCon := { ps := [.obj kO4, .dat (.int .u64)], rs := [], f := fun n x => clientClientCome n x.1 x.2.1 }
noncomputable def clientClientCome.env : Env := { tys := [(4, ⟨.bool, 1⟩), (98, ⟨kS9, 104⟩), (93, ⟨.np, 8⟩)], elems := [], ptrs := [(26, 98)], cons := [], objs := [(40, [backTriesOver.con]), (41, [clientClientBegins.con])], loops := [], cuts := [], globs := globs, base := 2 }
noncomputable def clientClientCome.lp (n : Nat) : LP (RT clientClientCome.con.rs × BT clientClientCome.con.ps) := fun lo κ body nm K s =>
  loops n (RT clientClientCome.con.rs × BT clientClientCome.con.ps) lo κ body nm K s
theorem clientClientCome.eq (n : Nat) (x : PT clientClientCome.con.ps) : evFuncO clientClientCome.env Try.f13 clientClientCome.body clientClientCome.con.ps clientClientCome.con.rs (clientClientCome.lp n) n x = clientClientCome.con.f n x := by kernel_rfl
theorem clientClientCome.sound : SoundO Try.prog globs 13 clientClientCome.con :=
  sound_byO (E := clientClientCome.env) (c := clientClientCome.body) (envOk (G := globs) (lc := []) (lo := [(40, [backTriesOver.con]), (41, [clientClientBegins.con])]) (envB_spec (by kernel_rfl)) rfl rfl trivial rfl ⟨⟨⟨backTriesOver.sound, trivial⟩, by kernel_rfl⟩, ⟨⟨⟨clientClientBegins.sound, trivial⟩, by kernel_rfl⟩, trivial⟩⟩ (by kernel_rfl) (by kernel_rfl)) Try.func13 (by kernel_rfl) (by kernel_rfl) (by kernel_rfl) clientClientCome.lp (l := []) (by kernel_rfl) (fun n => trivial) clientClientCome.eq
noncomputable def backTriesNext (fu : Nat) (tv : O1) : Option ((Int × Unit) × (O1 × Unit)) :=
  some ((tv.2.2.2.1, ()), (tv, ()))

noncomputable def backTriesNext.body : Code := Try.f42.body.getD .skip
noncomputable def backTriesNext.con : OCon := { ps := [.obj kO1], rs := [.dat (.int .u64)], f := fun n x => backTriesNext n x.1 }
noncomputable def backTriesNext.env : Env := { tys := [(34, ⟨(.int .u64), 8⟩), (121, ⟨kS7, 32⟩)], elems := [], ptrs := [(93, 121)], cons := [], objs := [], loops := [], cuts := [], globs := globs, base := 1 }
noncomputable def backTriesNext.lp (n : Nat) : LP (RT backTriesNext.con.rs × BT backTriesNext.con.ps) := fun lo κ body nm K s =>
  loops n (RT backTriesNext.con.rs × BT backTriesNext.con.ps) lo κ body nm K s
theorem backTriesNext.eq (n : Nat) (x : PT backTriesNext.con.ps) : evFuncO backTriesNext.env Try.f42 backTriesNext.body backTriesNext.con.ps backTriesNext.con.rs (backTriesNext.lp n) n x = backTriesNext.con.f n x := by kernel_rfl
theorem backTriesNext.sound : SoundO Try.prog globs 42 backTriesNext.con :=
  sound_byO (E := backTriesNext.env) (c := backTriesNext.body) (envOk (G := globs) (lc := []) (lo := []) (envB_spec (by kernel_rfl)) rfl rfl trivial rfl trivial (by kernel_rfl) (by kernel_rfl)) Try.func42 (by kernel_rfl) (by kernel_rfl) (by kernel_rfl) backTriesNext.lp (l := []) (by kernel_rfl) (fun n => trivial) backTriesNext.eq
noncomputable def backTriesDue (fu : Nat) (tv : O1) (now : Int) : Option ((Bool × Unit) × (O1 × Unit)) :=
  cond tv.2.1 (
    (backTriesOver fu tv).bind fun r1 =>
    cond (!r1.1.1) (
      let t2 := decide (r1.2.1.2.2.2.1 ≤ now)
      some ((t2, ()), (r1.2.1, ()))) (
      some ((false, ()), (r1.2.1, ())))) (
    some ((false, ()), (tv, ())))

noncomputable def backTriesDue.body : Code := Try.f57.body.getD .skip
noncomputable def backTriesDue.con : OCon := { ps := [.obj kO1, .dat (.int .u64)], rs := [.dat .bool], f := fun n x => backTriesDue n x.1 x.2.1 }
noncomputable def backTriesDue.env : Env := { tys := [(4, ⟨.bool, 1⟩), (121, ⟨kS7, 32⟩), (34, ⟨(.int .u64), 8⟩)], elems := [], ptrs := [(93, 121)], cons := [], objs := [(40, [backTriesOver.con])], loops := [], cuts := [], globs := globs, base := 1 }
noncomputable def backTriesDue.lp (n : Nat) : LP (RT backTriesDue.con.rs × BT backTriesDue.con.ps) := fun lo κ body nm K s =>
  loops n (RT backTriesDue.con.rs × BT backTriesDue.con.ps) lo κ body nm K s
theorem backTriesDue.eq (n : Nat) (x : PT backTriesDue.con.ps) : evFuncO backTriesDue.env Try.f57 backTriesDue.body backTriesDue.con.ps backTriesDue.con.rs (backTriesDue.lp n) n x = backTriesDue.con.f n x := by kernel_rfl
theorem backTriesDue.sound : SoundO Try.prog globs 57 backTriesDue.con :=
  sound_byO (E := backTriesDue.env) (c := backTriesDue.body) (envOk (G := globs) (lc := []) (lo := [(40, [backTriesOver.con])]) (envB_spec (by kernel_rfl)) rfl rfl trivial rfl ⟨⟨⟨backTriesOver.sound, trivial⟩, by kernel_rfl⟩, trivial⟩ (by kernel_rfl) (by kernel_rfl)) Try.func57 (by kernel_rfl) (by kernel_rfl) (by kernel_rfl) backTriesDue.lp (l := []) (by kernel_rfl) (fun n => trivial) backTriesDue.eq
noncomputable def backPause (fu : Nat) (b : S0) (n : Int) : Option (Int × Unit) :=
  (backMay fu b).bind fun r1 =>
  cond (!r1.1) (
    some ((0 : Int), ())) (
    cond (n == (0 : Int)) (
      some ((0 : Int), ())) (
      let t2 := IntKind.u32.wrap (n - (1 : Int))
      chk (!decide (min2 t2 (20 : Int) < 0)) <|
      let t3 := sShl .u64 (IntKind.u64.wrap b.1) (min2 t2 (20 : Int))
      let t4 := min2 t3 (IntKind.u64.wrap b.2.1)
      some (t4, ())))

noncomputable def backPause.body : Code := Try.f58.body.getD .skip
noncomputable def backPause.con : Con := { ps := [kS0, (.int .u32)], rs := [(.int .u64)], f := fun n x => backPause n x.1 x.2.1 }
noncomputable def backPause.env : Env := { tys := [(24, ⟨kS0, 12⟩), (34, ⟨(.int .u64), 8⟩), (4, ⟨.bool, 1⟩), (22, ⟨(.int .u32), 4⟩)], elems := [], ptrs := [], cons := [(56, backMay.con)], objs := [], loops := [], cuts := [], globs := globs, base := 0 }
noncomputable def backPause.lp (n : Nat) : LP (Kd.struct backPause.con.rs).T := fun lo κ body nm K s =>
  loops n (Kd.struct backPause.con.rs).T lo κ body nm K s
theorem backPause.eq (n : Nat) (x : (Kd.struct backPause.con.ps).T) : evFunc backPause.env Try.f58 backPause.body backPause.con.ps backPause.con.rs (backPause.lp n) n x = backPause.con.f n x := by kernel_rfl
theorem backPause.sound : Sound Try.prog globs 58 backPause.con :=
  sound_by (E := backPause.env) (c := backPause.body) (envOk (G := globs) (lc := [(56, backMay.con)]) (lo := []) (envB_spec (by kernel_rfl)) rfl rfl ⟨.inl ⟨backMay.sound, by kernel_rfl⟩, trivial⟩ rfl trivial (by kernel_rfl) (by kernel_rfl)) Try.func58 (by kernel_rfl) backPause.lp (l := []) (by kernel_rfl) (fun n => trivial) backPause.eq
noncomputable def backTriesTry (fu : Nat) (tv : O1) (now : Int) : Option ((Bool × Unit) × (O1 × Unit)) :=
  (backTriesDue fu tv now).bind fun r1 =>
  cond (!r1.1.1) (
    some ((false, ()), (r1.2.1, ()))) (
    let t2 := IntKind.u32.wrap (r1.2.1.2.2.1 + (1 : Int))
    (backPause fu r1.2.1.1 t2).bind fun r3 =>
    let t4 := IntKind.u64.wrap (now + r3.1)
    some ((true, ()), ((r1.2.1.1, r1.2.1.2.1, t2, t4, ()), ())))

noncomputable def backTriesTry.body : Code := Try.f43.body.getD .skip
noncomputable def backTriesTry.con : OCon := { ps := [.obj kO1, .dat (.int .u64)], rs := [.dat .bool], f := fun n x => backTriesTry n x.1 x.2.1 }
noncomputable def backTriesTry.env : Env := { tys := [(4, ⟨.bool, 1⟩), (121, ⟨kS7, 32⟩), (22, ⟨(.int .u32), 4⟩), (24, ⟨kS0, 12⟩), (34, ⟨(.int .u64), 8⟩)], elems := [], ptrs := [], cons := [(58, backPause.con)], objs := [(57, [backTriesDue.con])], loops := [], cuts := [], globs := globs, base := 1 }
noncomputable def backTriesTry.lp (n : Nat) : LP (RT backTriesTry.con.rs × BT backTriesTry.con.ps) := fun lo κ body nm K s =>
  loops n (RT backTriesTry.con.rs × BT backTriesTry.con.ps) lo κ body nm K s
theorem backTriesTry.eq (n : Nat) (x : PT backTriesTry.con.ps) : evFuncO backTriesTry.env Try.f43 backTriesTry.body backTriesTry.con.ps backTriesTry.con.rs (backTriesTry.lp n) n x = backTriesTry.con.f n x := by kernel_rfl
theorem backTriesTry.sound : SoundO Try.prog globs 43 backTriesTry.con :=
  sound_byO (E := backTriesTry.env) (c := backTriesTry.body) (envOk (G := globs) (lc := [(58, backPause.con)]) (lo := [(57, [backTriesDue.con])]) (envB_spec (by kernel_rfl)) rfl rfl ⟨.inl ⟨backPause.sound, by kernel_rfl⟩, trivial⟩ rfl ⟨⟨⟨backTriesDue.sound, trivial⟩, by kernel_rfl⟩, trivial⟩ (by kernel_rfl) (by kernel_rfl)) Try.func43 (by kernel_rfl) (by kernel_rfl) (by kernel_rfl) backTriesTry.lp (l := []) (by kernel_rfl) (fun n => trivial) backTriesTry.eq
noncomputable def clientClientSend.j13004 (fu : Nat) (k0 : Int → Bool → Int → (List Int) → Int → Bool → Bool → Int → Int → Bool → Bool → Bool → Int → (List S3) → S0 → Bool → Int → Int → Option (((List S5) × Unit) × (O4 × Unit))) (now : Int) (v : Bool) (c0 : Int) (c0x2 : List Int) (c0x3 : Int) (c0x4 : Bool) (c0x5 : Bool) (c0x6 : Int) (c0x7 : Int) (c0x8 : Bool) (c0x9 : Bool) (c0x10 : Bool) (c0x11 : Int) (c0x12 : List S3) (b1 : S0) (c1 : Bool) (c1x2 : Int) (c1x3 : Int) : Option (((List S5) × Unit) × (O4 × Unit)) :=
  cond v (
    k0 now v c0 c0x2 c0x3 c0x4 c0x5 c0x6 c0x7 c0x8 c0x9 c0x10 c0x11 c0x12 b1 c1 c1x2 c1x3) (
    cond (!c0x5) (
      cond c0x4 (
        (backTriesOver fu (b1, c1, c1x2, c1x3, ())).bind fun r1 =>
        cond r1.1.1 (
          (backTriesNext fu r1.2.1).bind fun r2 =>
          k0 now (decide (r2.1.1 ≤ now)) c0 c0x2 c0x3 c0x4 c0x5 c0x6 c0x7 c0x8 c0x9 c0x10 c0x11 c0x12 r2.2.1.1 r2.2.1.2.1 r2.2.1.2.2.1 r2.2.1.2.2.2.1) (
          k0 now false c0 c0x2 c0x3 c0x4 c0x5 c0x6 c0x7 c0x8 c0x9 c0x10 c0x11 c0x12 r1.2.1.1 r1.2.1.2.1 r1.2.1.2.2.1 r1.2.1.2.2.2.1)) (
        k0 now false c0 c0x2 c0x3 c0x4 c0x5 c0x6 c0x7 c0x8 c0x9 c0x10 c0x11 c0x12 b1 c1 c1x2 c1x3)) (
      k0 now false c0 c0x2 c0x3 c0x4 c0x5 c0x6 c0x7 c0x8 c0x9 c0x10 c0x11 c0x12 b1 c1 c1x2 c1x3))
noncomputable def clientClientSend.j6 (fu : Nat) (k1 : (List S5) → Int → (List Int) → Int → Bool → Bool → Int → Int → Bool → Bool → Bool → Int → (List S3) → S0 → Bool → Int → Int → Option (((List S5) × Unit) × (O4 × Unit))) (now : Int) (c0 : Int) (c0x2 : List Int) (c0x3 : Int) (c0x4 : Bool) (c0x5 : Bool) (c0x6 : Int) (c0x7 : Int) (c0x8 : Bool) (c0x9 : Bool) (c0x10 : Bool) (c0x11 : Int) (c0x12 : List S3) (b1 : S0) (c1 : Bool) (c1x2 : Int) (c1x3 : Int) : Option (((List S5) × Unit) × (O4 × Unit)) :=
  cond c0x5 (
    k1 [] c0 c0x2 c0x3 c0x4 c0x5 c0x6 c0x7 c0x8 c0x9 c0x10 c0x11 c0x12 b1 c1 c1x2 c1x3) (
    (backTriesTry fu (b1, c1, c1x2, c1x3, ()) now).bind fun r1 =>
    cond (!r1.1.1) (
      k1 [] c0 c0x2 c0x3 c0x4 c0x5 c0x6 c0x7 c0x8 c0x9 c0x10 c0x11 c0x12 r1.2.1.1 r1.2.1.2.1 r1.2.1.2.2.1 r1.2.1.2.2.2.1) (
      (slicesCloneDat fu c0x2).bind fun r2 =>
      let t3 := [((1 : Int), c0, (0 : Int), (0 : Int), (0 : Int), r2.1, ())]
      k1 t3 c0 c0x2 c0x3 c0x4 c0x5 c0x6 c0x7 c0x8 c0x9 c0x10 c0x11 c0x12 r1.2.1.1 r1.2.1.2.1 r1.2.1.2.2.1 r1.2.1.2.2.2.1))
noncomputable def clientClientSend (fu : Nat) (c : O4) (now : Int) : Option (((List S5) × Unit) × (O4 × Unit)) :=
  let t1 := decide (now > (1099511627776 : Int))
  cond t1 (
    some (([], ()), (c, ()))) (
    cond c.2.2.2.2.2.1 (
      let t2 := IntKind.u64.wrap (c.2.2.2.2.2.2.2.2.2.2.2.1 + c.2.2.1)
      clientClientSend.j13004 fu (fun nowq3 vq3 c0q3 c0q3x2 c0q3x3 c0q3x4 c0q3x5 c0q3x6 c0q3x7 c0q3x8 c0q3x9 c0q3x10 c0q3x11 c0q3x12 b1q3 c1q3 c1q3x2 c1q3x3 => 
          cond vq3 (
            (clientClientBegins fu (c0q3, c0q3x2, c0q3x3, (b1q3, c1q3, c1q3x2, c1q3x3, ()), c0q3x4, c0q3x5, c0q3x6, c0q3x7, c0q3x8, c0q3x9, c0q3x10, c0q3x11, c0q3x12, ()) nowq3).bind fun r3 =>
            clientClientSend.j6 fu (fun vq4 c0q4 c0q4x2 c0q4x3 c0q4x4 c0q4x5 c0q4x6 c0q4x7 c0q4x8 c0q4x9 c0q4x10 c0q4x11 c0q4x12 b1q4 c1q4 c1q4x2 c1q4x3 => 
                some ((vq4, ()), ((c0q4, c0q4x2, c0q4x3, (b1q4, c1q4, c1q4x2, c1q4x3, ()), c0q4x4, c0q4x5, c0q4x6, c0q4x7, c0q4x8, c0q4x9, c0q4x10, c0q4x11, c0q4x12, ()), ()))) nowq3 r3.2.1.1 r3.2.1.2.1 r3.2.1.2.2.1 r3.2.1.2.2.2.2.1 r3.2.1.2.2.2.2.2.1 r3.2.1.2.2.2.2.2.2.1 r3.2.1.2.2.2.2.2.2.2.1 r3.2.1.2.2.2.2.2.2.2.2.1 r3.2.1.2.2.2.2.2.2.2.2.2.1 r3.2.1.2.2.2.2.2.2.2.2.2.2.1 r3.2.1.2.2.2.2.2.2.2.2.2.2.2.1 r3.2.1.2.2.2.2.2.2.2.2.2.2.2.2.1 r3.2.1.2.2.2.1.1 r3.2.1.2.2.2.1.2.1 r3.2.1.2.2.2.1.2.2.1 r3.2.1.2.2.2.1.2.2.2.1) (
            clientClientSend.j6 fu (fun vq5 c0q5 c0q5x2 c0q5x3 c0q5x4 c0q5x5 c0q5x6 c0q5x7 c0q5x8 c0q5x9 c0q5x10 c0q5x11 c0q5x12 b1q5 c1q5 c1q5x2 c1q5x3 => 
                some ((vq5, ()), ((c0q5, c0q5x2, c0q5x3, (b1q5, c1q5, c1q5x2, c1q5x3, ()), c0q5x4, c0q5x5, c0q5x6, c0q5x7, c0q5x8, c0q5x9, c0q5x10, c0q5x11, c0q5x12, ()), ()))) nowq3 c0q3 c0q3x2 c0q3x3 c0q3x4 c0q3x5 c0q3x6 c0q3x7 c0q3x8 c0q3x9 c0q3x10 c0q3x11 c0q3x12 b1q3 c1q3 c1q3x2 c1q3x3)) now (decide (now ≥ t2)) c.1 c.2.1 c.2.2.1 c.2.2.2.2.1 c.2.2.2.2.2.1 c.2.2.2.2.2.2.1 c.2.2.2.2.2.2.2.1 c.2.2.2.2.2.2.2.2.1 c.2.2.2.2.2.2.2.2.2.1 c.2.2.2.2.2.2.2.2.2.2.1 c.2.2.2.2.2.2.2.2.2.2.2.1 c.2.2.2.2.2.2.2.2.2.2.2.2.1 c.2.2.2.1.1 c.2.2.2.1.2.1 c.2.2.2.1.2.2.1 c.2.2.2.1.2.2.2.1) (
      clientClientSend.j13004 fu (fun nowq6 vq6 c0q6 c0q6x2 c0q6x3 c0q6x4 c0q6x5 c0q6x6 c0q6x7 c0q6x8 c0q6x9 c0q6x10 c0q6x11 c0q6x12 b1q6 c1q6 c1q6x2 c1q6x3 => 
          cond vq6 (
            (clientClientBegins fu (c0q6, c0q6x2, c0q6x3, (b1q6, c1q6, c1q6x2, c1q6x3, ()), c0q6x4, c0q6x5, c0q6x6, c0q6x7, c0q6x8, c0q6x9, c0q6x10, c0q6x11, c0q6x12, ()) nowq6).bind fun r4 =>
            clientClientSend.j6 fu (fun vq7 c0q7 c0q7x2 c0q7x3 c0q7x4 c0q7x5 c0q7x6 c0q7x7 c0q7x8 c0q7x9 c0q7x10 c0q7x11 c0q7x12 b1q7 c1q7 c1q7x2 c1q7x3 => 
                some ((vq7, ()), ((c0q7, c0q7x2, c0q7x3, (b1q7, c1q7, c1q7x2, c1q7x3, ()), c0q7x4, c0q7x5, c0q7x6, c0q7x7, c0q7x8, c0q7x9, c0q7x10, c0q7x11, c0q7x12, ()), ()))) nowq6 r4.2.1.1 r4.2.1.2.1 r4.2.1.2.2.1 r4.2.1.2.2.2.2.1 r4.2.1.2.2.2.2.2.1 r4.2.1.2.2.2.2.2.2.1 r4.2.1.2.2.2.2.2.2.2.1 r4.2.1.2.2.2.2.2.2.2.2.1 r4.2.1.2.2.2.2.2.2.2.2.2.1 r4.2.1.2.2.2.2.2.2.2.2.2.2.1 r4.2.1.2.2.2.2.2.2.2.2.2.2.2.1 r4.2.1.2.2.2.2.2.2.2.2.2.2.2.2.1 r4.2.1.2.2.2.1.1 r4.2.1.2.2.2.1.2.1 r4.2.1.2.2.2.1.2.2.1 r4.2.1.2.2.2.1.2.2.2.1) (
            clientClientSend.j6 fu (fun vq8 c0q8 c0q8x2 c0q8x3 c0q8x4 c0q8x5 c0q8x6 c0q8x7 c0q8x8 c0q8x9 c0q8x10 c0q8x11 c0q8x12 b1q8 c1q8 c1q8x2 c1q8x3 => 
                some ((vq8, ()), ((c0q8, c0q8x2, c0q8x3, (b1q8, c1q8, c1q8x2, c1q8x3, ()), c0q8x4, c0q8x5, c0q8x6, c0q8x7, c0q8x8, c0q8x9, c0q8x10, c0q8x11, c0q8x12, ()), ()))) nowq6 c0q6 c0q6x2 c0q6x3 c0q6x4 c0q6x5 c0q6x6 c0q6x7 c0q6x8 c0q6x9 c0q6x10 c0q6x11 c0q6x12 b1q6 c1q6 c1q6x2 c1q6x3)) now false c.1 c.2.1 c.2.2.1 c.2.2.2.2.1 c.2.2.2.2.2.1 c.2.2.2.2.2.2.1 c.2.2.2.2.2.2.2.1 c.2.2.2.2.2.2.2.2.1 c.2.2.2.2.2.2.2.2.2.1 c.2.2.2.2.2.2.2.2.2.2.1 c.2.2.2.2.2.2.2.2.2.2.2.1 c.2.2.2.2.2.2.2.2.2.2.2.2.1 c.2.2.2.1.1 c.2.2.2.1.2.1 c.2.2.2.1.2.2.1 c.2.2.2.1.2.2.2.1))

noncomputable def clientClientSend.body : Code := Try.f14.body.getD .skip
abbrev clientClientSend.shj13004 : Shp := ⟨[.p 0 0, .d (.int .u64), .u, .u, .u, .u, .u, .u, .u, .u, .u, .u, .d .bool, .u, .u, .u, .u, .u, .u, .u, .u, .u, .u, .u, .u, .u, .u, .u, .u, .u, .u, .u, .u, .u, .u, .u, .u, .u, .u, .u, .u, .u, .u, .u, .u, .u, .u, .u, .u, .u, .u, .u, .u, .u, .u, .u, .u, .u, .u, .u, .u, .u, .u, .u, .u, .u, .u, .u, .u, .u, .u, .u, .u, .u, .u, .u, .u, .u, .u, .u, .u, .u, .u, .u], [.c [.d (.int .u32), .d (.slice (.int .u8)), .d (.int .u64), .p 1 0, .d .bool, .d .bool, .d (.int .u32), .d (.int .u64), .d .bool, .d .bool, .d .bool, .d (.int .u64), .o 1012 kS3], .c [.g kS0, .d .bool, .d (.int .u32), .d (.int .u64)]]⟩
abbrev clientClientSend.outj13004e0 : Shp := ⟨[.p 0 0, .d (.int .u64), .u, .u, .u, .u, .u, .u, .u, .u, .u, .u, .d .bool, .u, .u, .u, .u, .u, .u, .u, .u, .u, .u, .u, .u, .u, .u, .u, .u, .u, .u, .u, .u, .u, .u, .u, .u, .u, .u, .u, .u, .u, .u, .u, .u, .u, .u, .u, .u, .u, .u, .u, .u, .u, .u, .u, .u, .u, .u, .u, .u, .u, .u, .u, .u, .u, .u, .u, .u, .u, .u, .u, .u, .u, .u, .u, .u, .u, .u, .u, .u, .u, .u, .u], [.c [.d (.int .u32), .d (.slice (.int .u8)), .d (.int .u64), .p 1 0, .d .bool, .d .bool, .d (.int .u32), .d (.int .u64), .d .bool, .d .bool, .d .bool, .d (.int .u64), .o 1012 kS3], .c [.g kS0, .d .bool, .d (.int .u32), .d (.int .u64)]]⟩
noncomputable def clientClientSend.nmj13004 : Norm := ⟨{ keep := [0, 1, 12], shut := [(1, (.int .u64)), (12, .bool)], retag := [], heap := 2, dead := [], cshut := [(0, 0, (.int .u32)), (0, 1, (.slice (.int .u8))), (0, 2, (.int .u64)), (0, 4, .bool), (0, 5, .bool), (0, 6, (.int .u32)), (0, 7, (.int .u64)), (0, 8, .bool), (0, 9, .bool), (0, 10, .bool), (0, 11, (.int .u64)), (1, 0, (.int .u32)), (1, 1, (.int .u32)), (1, 2, (.int .u32)), (1, 3, .bool), (1, 4, (.int .u32)), (1, 5, (.int .u64))], cretag := [(0, 12, 1012, kS3)] }, [(0, { keep := [0, 1, 12], shut := [(1, (.int .u64)), (12, .bool)], retag := [], heap := 2, dead := [], cshut := [(0, 0, (.int .u32)), (0, 1, (.slice (.int .u8))), (0, 2, (.int .u64)), (0, 4, .bool), (0, 5, .bool), (0, 6, (.int .u32)), (0, 7, (.int .u64)), (0, 8, .bool), (0, 9, .bool), (0, 10, .bool), (0, 11, (.int .u64)), (1, 0, (.int .u32)), (1, 1, (.int .u32)), (1, 2, (.int .u32)), (1, 3, .bool), (1, 4, (.int .u32)), (1, 5, (.int .u64))], cretag := [(0, 12, 1012, kS3)] })]⟩
abbrev clientClientSend.shj6 : Shp := ⟨[.p 0 0, .d (.int .u64), .u, .u, .u, .u, .u, .u, .u, .u, .u, .u, .u, .u, .u, .u, .u, .u, .u, .u, .u, .u, .u, .u, .u, .u, .u, .u, .u, .u, .u, .u, .u, .u, .u, .u, .u, .u, .u, .u, .u, .u, .u, .u, .u, .u, .u, .u, .u, .u, .u, .u, .u, .u, .u, .u, .u, .u, .u, .u, .u, .u, .u, .u, .u, .u, .u, .u, .u, .u, .u, .u, .u, .u, .u, .u, .u, .u, .u, .u, .u, .u, .u, .u], [.c [.d (.int .u32), .d (.slice (.int .u8)), .d (.int .u64), .p 1 0, .d .bool, .d .bool, .d (.int .u32), .d (.int .u64), .d .bool, .d .bool, .d .bool, .d (.int .u64), .o 1012 kS3], .c [.g kS0, .d .bool, .d (.int .u32), .d (.int .u64)]]⟩
abbrev clientClientSend.outj6e1 : Shp := ⟨[.u, .u, .u, .u, .o 4 kS5, .u, .u, .u, .u, .u, .u, .u, .u, .u, .u, .u, .u, .u, .u, .u, .u, .u, .u, .u, .u, .u, .u, .u, .u, .u, .u, .u, .u, .u, .u, .u, .u, .u, .u, .u, .u, .u, .u, .u, .u, .u, .u, .u, .u, .u, .u, .u, .u, .u, .u, .u, .u, .u, .u, .u, .u, .u, .u, .u, .u, .u, .u, .u, .u, .u, .u, .u, .u, .u, .u, .u, .u, .u, .u, .u, .u, .u, .u, .u], [.c [.d (.int .u32), .d (.slice (.int .u8)), .d (.int .u64), .p 1 0, .d .bool, .d .bool, .d (.int .u32), .d (.int .u64), .d .bool, .d .bool, .d .bool, .d (.int .u64), .o 1012 kS3], .c [.g kS0, .d .bool, .d (.int .u32), .d (.int .u64)]]⟩
noncomputable def clientClientSend.nmj6 : Norm := ⟨{ keep := [0, 1], shut := [(1, (.int .u64))], retag := [], heap := 2, dead := [], cshut := [(0, 0, (.int .u32)), (0, 1, (.slice (.int .u8))), (0, 2, (.int .u64)), (0, 4, .bool), (0, 5, .bool), (0, 6, (.int .u32)), (0, 7, (.int .u64)), (0, 8, .bool), (0, 9, .bool), (0, 10, .bool), (0, 11, (.int .u64)), (1, 0, (.int .u32)), (1, 1, (.int .u32)), (1, 2, (.int .u32)), (1, 3, .bool), (1, 4, (.int .u32)), (1, 5, (.int .u64))], cretag := [(0, 12, 1012, kS3)] }, [(1, { keep := [4], shut := [], retag := [(4, 4, kS5)], heap := 2, dead := [], cshut := [(0, 0, (.int .u32)), (0, 1, (.slice (.int .u8))), (0, 2, (.int .u64)), (0, 4, .bool), (0, 5, .bool), (0, 6, (.int .u32)), (0, 7, (.int .u64)), (0, 8, .bool), (0, 9, .bool), (0, 10, .bool), (0, 11, (.int .u64)), (1, 0, (.int .u32)), (1, 1, (.int .u32)), (1, 2, (.int .u32)), (1, 3, .bool), (1, 4, (.int .u32)), (1, 5, (.int .u64))], cretag := [(0, 12, 1012, kS3)] })]⟩
noncomputable def clientClientSend.con : OCon := { ps := [.obj kO4, .dat (.int .u64)], rs := [.dat (.slice kS5)], f := fun n x => clientClientSend n x.1 x.2.1 }
noncomputable def clientClientSend.env : Env := { tys := [(41, ⟨(.slice kS5), 24⟩), (98, ⟨kS9, 104⟩), (4, ⟨.bool, 1⟩), (34, ⟨(.int .u64), 8⟩), (93, ⟨.np, 8⟩), (22, ⟨(.int .u32), 4⟩), (35, ⟨(.slice (.int .u8)), 24⟩), (37, ⟨kS5, 56⟩)], elems := [(41, 37)], ptrs := [(26, 98)], cons := [(39, slicesCloneDat.con)], objs := [(40, [backTriesOver.con]), (41, [clientClientBegins.con]), (42, [backTriesNext.con]), (43, [backTriesTry.con])], loops := [], cuts := [(13004, clientClientSend.nmj13004), (6, clientClientSend.nmj6)], globs := globs, base := 2 }
noncomputable def clientClientSend.lp (n : Nat) : LP (RT clientClientSend.con.rs × BT clientClientSend.con.ps) := fun lo κ body nm K s =>
  cond (!lo && Nat.beq κ 13004)
    (match clientClientSend.shj13004.dec s with
    | some v => clientClientSend.j13004 n (fun w0 w1 w2 w3 w4 w5 w6 w7 w8 w9 w10 w11 w12 w13 w14 w15 w16 w17 => K .normal (clientClientSend.outj13004e0.enc (w0, w1, w2, w3, w4, w5, w6, w7, w8, w9, w10, w11, w12, w13, w14, w15, w16, w17, ()))) v.1 v.2.1 v.2.2.1 v.2.2.2.1 v.2.2.2.2.1 v.2.2.2.2.2.1 v.2.2.2.2.2.2.1 v.2.2.2.2.2.2.2.1 v.2.2.2.2.2.2.2.2.1 v.2.2.2.2.2.2.2.2.2.1 v.2.2.2.2.2.2.2.2.2.2.1 v.2.2.2.2.2.2.2.2.2.2.2.1 v.2.2.2.2.2.2.2.2.2.2.2.2.1 v.2.2.2.2.2.2.2.2.2.2.2.2.2.1 v.2.2.2.2.2.2.2.2.2.2.2.2.2.2.1 v.2.2.2.2.2.2.2.2.2.2.2.2.2.2.2.1 v.2.2.2.2.2.2.2.2.2.2.2.2.2.2.2.2.1 v.2.2.2.2.2.2.2.2.2.2.2.2.2.2.2.2.2.1
    | none => loops n (RT clientClientSend.con.rs × BT clientClientSend.con.ps) lo κ body nm K s)
    (cond (!lo && Nat.beq κ 6)
    (match clientClientSend.shj6.dec s with
    | some v => clientClientSend.j6 n (fun w0 w1 w2 w3 w4 w5 w6 w7 w8 w9 w10 w11 w12 w13 w14 w15 w16 => K .ret (clientClientSend.outj6e1.enc (w0, w1, w2, w3, w4, w5, w6, w7, w8, w9, w10, w11, w12, w13, w14, w15, w16, ()))) v.1 v.2.1 v.2.2.1 v.2.2.2.1 v.2.2.2.2.1 v.2.2.2.2.2.1 v.2.2.2.2.2.2.1 v.2.2.2.2.2.2.2.1 v.2.2.2.2.2.2.2.2.1 v.2.2.2.2.2.2.2.2.2.1 v.2.2.2.2.2.2.2.2.2.2.1 v.2.2.2.2.2.2.2.2.2.2.2.1 v.2.2.2.2.2.2.2.2.2.2.2.2.1 v.2.2.2.2.2.2.2.2.2.2.2.2.2.1 v.2.2.2.2.2.2.2.2.2.2.2.2.2.2.1 v.2.2.2.2.2.2.2.2.2.2.2.2.2.2.2.1 v.2.2.2.2.2.2.2.2.2.2.2.2.2.2.2.2.1
    | none => loops n (RT clientClientSend.con.rs × BT clientClientSend.con.ps) lo κ body nm K s)
    (loops n (RT clientClientSend.con.rs × BT clientClientSend.con.ps) lo κ body nm K s))
theorem clientClientSend.atj13004 (n : Nat) (s : St) (K : Ex → St → Option (RT clientClientSend.con.rs × BT clientClientSend.con.ps)) : (clientClientSend.lp n) false 13004 (evK clientClientSend.env (clientClientSend.lp n) n (sub [1, 0, 0, 1, 1, 0, 1] clientClientSend.body)) clientClientSend.nmj13004 K s = loops n (RT clientClientSend.con.rs × BT clientClientSend.con.ps) false 13004 (evK clientClientSend.env (clientClientSend.lp n) n (sub [1, 0, 0, 1, 1, 0, 1] clientClientSend.body)) clientClientSend.nmj13004 K s := by
  show (match clientClientSend.shj13004.dec s with | some v => clientClientSend.j13004 n (fun w0 w1 w2 w3 w4 w5 w6 w7 w8 w9 w10 w11 w12 w13 w14 w15 w16 w17 => K .normal (clientClientSend.outj13004e0.enc (w0, w1, w2, w3, w4, w5, w6, w7, w8, w9, w10, w11, w12, w13, w14, w15, w16, w17, ()))) v.1 v.2.1 v.2.2.1 v.2.2.2.1 v.2.2.2.2.1 v.2.2.2.2.2.1 v.2.2.2.2.2.2.1 v.2.2.2.2.2.2.2.1 v.2.2.2.2.2.2.2.2.1 v.2.2.2.2.2.2.2.2.2.1 v.2.2.2.2.2.2.2.2.2.2.1 v.2.2.2.2.2.2.2.2.2.2.2.1 v.2.2.2.2.2.2.2.2.2.2.2.2.1 v.2.2.2.2.2.2.2.2.2.2.2.2.2.1 v.2.2.2.2.2.2.2.2.2.2.2.2.2.2.1 v.2.2.2.2.2.2.2.2.2.2.2.2.2.2.2.1 v.2.2.2.2.2.2.2.2.2.2.2.2.2.2.2.2.1 v.2.2.2.2.2.2.2.2.2.2.2.2.2.2.2.2.2.1 | none => loops n (RT clientClientSend.con.rs × BT clientClientSend.con.ps) false 13004 (evK clientClientSend.env (clientClientSend.lp n) n (sub [1, 0, 0, 1, 1, 0, 1] clientClientSend.body)) clientClientSend.nmj13004 K s) = _
  cases h : clientClientSend.shj13004.dec s with
  | none => rfl
  | some v =>
    rw [Shp.dec_enc h]
    kernel_rfl
theorem clientClientSend.atj6 (n : Nat) (s : St) (K : Ex → St → Option (RT clientClientSend.con.rs × BT clientClientSend.con.ps)) : (clientClientSend.lp n) false 6 (evK clientClientSend.env (clientClientSend.lp n) n (sub [1, 1] clientClientSend.body)) clientClientSend.nmj6 K s = loops n (RT clientClientSend.con.rs × BT clientClientSend.con.ps) false 6 (evK clientClientSend.env (clientClientSend.lp n) n (sub [1, 1] clientClientSend.body)) clientClientSend.nmj6 K s := by
  show (match clientClientSend.shj6.dec s with | some v => clientClientSend.j6 n (fun w0 w1 w2 w3 w4 w5 w6 w7 w8 w9 w10 w11 w12 w13 w14 w15 w16 => K .ret (clientClientSend.outj6e1.enc (w0, w1, w2, w3, w4, w5, w6, w7, w8, w9, w10, w11, w12, w13, w14, w15, w16, ()))) v.1 v.2.1 v.2.2.1 v.2.2.2.1 v.2.2.2.2.1 v.2.2.2.2.2.1 v.2.2.2.2.2.2.1 v.2.2.2.2.2.2.2.1 v.2.2.2.2.2.2.2.2.1 v.2.2.2.2.2.2.2.2.2.1 v.2.2.2.2.2.2.2.2.2.2.1 v.2.2.2.2.2.2.2.2.2.2.2.1 v.2.2.2.2.2.2.2.2.2.2.2.2.1 v.2.2.2.2.2.2.2.2.2.2.2.2.2.1 v.2.2.2.2.2.2.2.2.2.2.2.2.2.2.1 v.2.2.2.2.2.2.2.2.2.2.2.2.2.2.2.1 v.2.2.2.2.2.2.2.2.2.2.2.2.2.2.2.2.1 | none => loops n (RT clientClientSend.con.rs × BT clientClientSend.con.ps) false 6 (evK clientClientSend.env (clientClientSend.lp n) n (sub [1, 1] clientClientSend.body)) clientClientSend.nmj6 K s) = _
  cases h : clientClientSend.shj6.dec s with
  | none => rfl
  | some v =>
    rw [Shp.dec_enc h]
    kernel_rfl
theorem clientClientSend.eq (n : Nat) (x : PT clientClientSend.con.ps) : evFuncO clientClientSend.env Try.f14 clientClientSend.body clientClientSend.con.ps clientClientSend.con.rs (clientClientSend.lp n) n x = clientClientSend.con.f n x := by kernel_rfl
theorem clientClientSend.sound : SoundO Try.prog globs 14 clientClientSend.con :=
  sound_byO (E := clientClientSend.env) (c := clientClientSend.body) (envOk (G := globs) (lc := [(39, slicesCloneDat.con)]) (lo := [(40, [backTriesOver.con]), (41, [clientClientBegins.con]), (42, [backTriesNext.con]), (43, [backTriesTry.con])]) (envB_spec (by kernel_rfl)) rfl rfl ⟨.inl ⟨slicesCloneDat.sound, by kernel_rfl⟩, trivial⟩ rfl ⟨⟨⟨backTriesOver.sound, trivial⟩, by kernel_rfl⟩, ⟨⟨⟨clientClientBegins.sound, trivial⟩, by kernel_rfl⟩, ⟨⟨⟨backTriesNext.sound, trivial⟩, by kernel_rfl⟩, ⟨⟨⟨backTriesTry.sound, trivial⟩, by kernel_rfl⟩, trivial⟩⟩⟩⟩ (by kernel_rfl) (by kernel_rfl)) Try.func14 (by kernel_rfl) (by kernel_rfl) (by kernel_rfl) clientClientSend.lp (l := [(false, sub [1, 0, 0, 1, 1, 0, 1] clientClientSend.body, clientClientSend.nmj13004), (false, sub [1, 1] clientClientSend.body, clientClientSend.nmj6)]) (by kernel_rfl) (fun n => ⟨clientClientSend.atj13004 n, ⟨clientClientSend.atj6 n, trivial⟩⟩) clientClientSend.eq
noncomputable def clientClientPicky (fu : Nat) (c : O4) (onv : Bool) : Option ((Unit) × (O4 × Unit)) :=
  some ((()), ((c.1, c.2.1, c.2.2.1, c.2.2.2.1, c.2.2.2.2.1, c.2.2.2.2.2.1, c.2.2.2.2.2.2.1, c.2.2.2.2.2.2.2.1, c.2.2.2.2.2.2.2.2.1, onv, c.2.2.2.2.2.2.2.2.2.2.1, c.2.2.2.2.2.2.2.2.2.2.2.1, c.2.2.2.2.2.2.2.2.2.2.2.2.1, ()), ()))

noncomputable def clientClientPicky.body : Code := Try.f15.body.getD .skip
noncomputable def clientClientPicky.con : OCon := { ps := [.obj kO4, .dat .bool], rs := [], f := fun n x => clientClientPicky n x.1 x.2.1 }
noncomputable def clientClientPicky.env : Env := { tys := [(98, ⟨kS9, 104⟩), (4, ⟨.bool, 1⟩)], elems := [], ptrs := [(26, 98)], cons := [], objs := [], loops := [], cuts := [], globs := globs, base := 2 }
noncomputable def clientClientPicky.lp (n : Nat) : LP (RT clientClientPicky.con.rs × BT clientClientPicky.con.ps) := fun lo κ body nm K s =>
  loops n (RT clientClientPicky.con.rs × BT clientClientPicky.con.ps) lo κ body nm K s
theorem clientClientPicky.eq (n : Nat) (x : PT clientClientPicky.con.ps) : evFuncO clientClientPicky.env Try.f15 clientClientPicky.body clientClientPicky.con.ps clientClientPicky.con.rs (clientClientPicky.lp n) n x = clientClientPicky.con.f n x := by kernel_rfl
theorem clientClientPicky.sound : SoundO Try.prog globs 15 clientClientPicky.con :=
  sound_byO (E := clientClientPicky.env) (c := clientClientPicky.body) (envOk (G := globs) (lc := []) (lo := []) (envB_spec (by kernel_rfl)) rfl rfl trivial rfl trivial (by kernel_rfl) (by kernel_rfl)) Try.func15 (by kernel_rfl) (by kernel_rfl) (by kernel_rfl) clientClientPicky.lp (l := []) (by kernel_rfl) (fun n => trivial) clientClientPicky.eq
noncomputable def law25Own (fu : Nat) (f : S5) : Option (S5 × Unit) :=
  chk (apOk [] f.2.2.2.2.2.1 1) <|
  some ((f.1, f.2.1, f.2.2.1, f.2.2.2.1, f.2.2.2.2.1, [] ++ f.2.2.2.2.2.1, ()), ())

noncomputable def law25Own.body : Code := Try.f17.body.getD .skip
noncomputable def law25Own.con : Con := { ps := [kS5], rs := [kS5], f := fun n x => law25Own n x.1 }
noncomputable def law25Own.env : Env := { tys := [(37, ⟨kS5, 56⟩), (5, ⟨(.int .u8), 1⟩), (35, ⟨(.slice (.int .u8)), 24⟩)], elems := [(35, 5)], ptrs := [], cons := [], objs := [], loops := [], cuts := [], globs := globs, base := 0 }
noncomputable def law25Own.lp (n : Nat) : LP (Kd.struct law25Own.con.rs).T := fun lo κ body nm K s =>
  loops n (Kd.struct law25Own.con.rs).T lo κ body nm K s
theorem law25Own.eq (n : Nat) (x : (Kd.struct law25Own.con.ps).T) : evFunc law25Own.env Try.f17 law25Own.body law25Own.con.ps law25Own.con.rs (law25Own.lp n) n x = law25Own.con.f n x := by kernel_rfl
theorem law25Own.sound : Sound Try.prog globs 17 law25Own.con :=
  sound_by (E := law25Own.env) (c := law25Own.body) (envOk (G := globs) (lc := []) (lo := []) (envB_spec (by kernel_rfl)) rfl rfl trivial rfl trivial (by kernel_rfl) (by kernel_rfl)) Try.func17 (by kernel_rfl) law25Own.lp (l := []) (by kernel_rfl) (fun n => trivial) law25Own.eq
noncomputable def clientClientHas (fu : Nat) (c : S8) : Option (Int × Unit) :=
  some (c.2.2.2.2.2.2.2.1, ())

noncomputable def clientClientHas.body : Code := Try.f18.body.getD .skip
noncomputable def clientClientHas.con : Con := { ps := [(.rp kS8)], rs := [(.int .u64)], f := fun n x => clientClientHas n x.1 }
noncomputable def clientClientHas.env : Env := { tys := [(34, ⟨(.int .u64), 8⟩)], elems := [], ptrs := [(26, 98)], cons := [], objs := [], loops := [], cuts := [], globs := globs, base := 0, lays := [(98, kS8)] }
noncomputable def clientClientHas.lp (n : Nat) : LP (Kd.struct clientClientHas.con.rs).T := fun lo κ body nm K s =>
  loops n (Kd.struct clientClientHas.con.rs).T lo κ body nm K s
theorem clientClientHas.eq (n : Nat) (x : (Kd.struct clientClientHas.con.ps).T) : evFunc clientClientHas.env Try.f18 clientClientHas.body clientClientHas.con.ps clientClientHas.con.rs (clientClientHas.lp n) n x = clientClientHas.con.f n x := by kernel_rfl
theorem clientClientHas.sound : Sound Try.prog globs 18 clientClientHas.con :=
  sound_by (E := clientClientHas.env) (c := clientClientHas.body) (envOk (G := globs) (lc := []) (lo := []) (envB_spec (by kernel_rfl)) rfl rfl trivial rfl trivial (by kernel_rfl) (by kernel_rfl)) Try.func18 (by kernel_rfl) clientClientHas.lp (l := []) (by kernel_rfl) (fun n => trivial) clientClientHas.eq
noncomputable def law25ClientOnce.j14 (fu : Nat) (k0 : (List S6) → Int → Int → (List S5) → Int → Int → Int → (List Int) → Int → Bool → Bool → Int → Int → Bool → Bool → Bool → Int → (List S3) → S0 → Bool → Int → Int → (List (Int × Bool)) → Option (Bool × Unit)) (k1 : Bool → Option (Bool × Unit)) (v : List S6) (vx2 : Int) (vx3 : Int) (vx4 : List S5) (vx5 : Int) (vx6 : Int) (c1 : Int) (c1x2 : List Int) (c1x3 : Int) (c1x4 : Bool) (c1x5 : Bool) (c1x6 : Int) (c1x7 : Int) (c1x8 : Bool) (c1x9 : Bool) (c1x10 : Bool) (c1x11 : Int) (c1x12 : List S3) (b2 : S0) (c2 : Bool) (c2x2 : Int) (c2x3 : Int) (c3 : List (Int × Bool)) (b4 : S5) : Option (Bool × Unit) :=
  cond (b4.1 == (6 : Int)) (
    (clientClientHas fu (c1, c1x2, c1x3, (b2, c2, c2x2, c2x3, ()), c1x4, c1x5, c1x6, c1x7, c1x8, c1x9, c1x10, c1x11, c1x12, ())).bind fun r1 =>
    cond (b4.2.2.2.1 != r1.1) (
      k1 false) (
      k0 v vx2 vx3 vx4 vx5 vx6 c1 c1x2 c1x3 c1x4 c1x5 c1x6 c1x7 c1x8 c1x9 c1x10 c1x11 c1x12 b2 c2 c2x2 c2x3 c3)) (
    k0 v vx2 vx3 vx4 vx5 vx6 c1 c1x2 c1x3 c1x4 c1x5 c1x6 c1x7 c1x8 c1x9 c1x10 c1x11 c1x12 b2 c2 c2x2 c2x3 c3)
noncomputable def law25ClientOnce.b10 (fu : Nat) (next : (List S6) → Int → Int → (List S5) → Int → Int → Int → (List Int) → Int → Bool → Bool → Int → Int → Bool → Bool → Bool → Int → (List S3) → S0 → Bool → Int → Int → (List (Int × Bool)) → Option (Bool × Unit)) (k1 : Bool → Option (Bool × Unit)) (k5 : (List S6) → Int → Int → Int → (List Int) → Int → Bool → Bool → Int → Int → Bool → Bool → Bool → Int → (List S3) → S0 → Bool → Int → Int → (List (Int × Bool)) → Option (Bool × Unit)) (v : List S6) (vx2 : Int) (vx3 : Int) (vx4 : List S5) (vx5 : Int) (vx6 : Int) (c1 : Int) (c1x2 : List Int) (c1x3 : Int) (c1x4 : Bool) (c1x5 : Bool) (c1x6 : Int) (c1x7 : Int) (c1x8 : Bool) (c1x9 : Bool) (c1x10 : Bool) (c1x11 : Int) (c1x12 : List S3) (b2 : S0) (c2 : Bool) (c2x2 : Int) (c2x3 : Int) (c3 : List (Int × Bool)) : Option (Bool × Unit) :=
  cond (decide (vx6 < vx5)) (
    chk (ixOk vx4 vx6) <|
    let e1 := ixL ((0 : Int), (0 : Int), (0 : Int), (0 : Int), (0 : Int), [], ()) vx4 vx6
    cond (e1.1 == (9 : Int)) (
      let m2 := mset c3 e1.2.2.2.1 true
      law25ClientOnce.j14 fu (fun vq13 vq13x2 vq13x3 vq13x4 vq13x5 vq13x6 c1q13 c1q13x2 c1q13x3 c1q13x4 c1q13x5 c1q13x6 c1q13x7 c1q13x8 c1q13x9 c1q13x10 c1q13x11 c1q13x12 b2q13 c2q13 c2q13x2 c2q13x3 c3q13 => 
          let t3 := IntKind.i64.wrap (vq13x6 + (1 : Int))
          next vq13 vq13x2 vq13x3 vq13x4 vq13x5 t3 c1q13 c1q13x2 c1q13x3 c1q13x4 c1q13x5 c1q13x6 c1q13x7 c1q13x8 c1q13x9 c1q13x10 c1q13x11 c1q13x12 b2q13 c2q13 c2q13x2 c2q13x3 c3q13) (fun vq14 => 
          k1 vq14) v vx2 vx3 vx4 vx5 vx6 c1 c1x2 c1x3 c1x4 c1x5 c1x6 c1x7 c1x8 c1x9 c1x10 c1x11 c1x12 b2 c2 c2x2 c2x3 m2 e1) (
      law25ClientOnce.j14 fu (fun vq15 vq15x2 vq15x3 vq15x4 vq15x5 vq15x6 c1q15 c1q15x2 c1q15x3 c1q15x4 c1q15x5 c1q15x6 c1q15x7 c1q15x8 c1q15x9 c1q15x10 c1q15x11 c1q15x12 b2q15 c2q15 c2q15x2 c2q15x3 c3q15 => 
          let t4 := IntKind.i64.wrap (vq15x6 + (1 : Int))
          next vq15 vq15x2 vq15x3 vq15x4 vq15x5 t4 c1q15 c1q15x2 c1q15x3 c1q15x4 c1q15x5 c1q15x6 c1q15x7 c1q15x8 c1q15x9 c1q15x10 c1q15x11 c1q15x12 b2q15 c2q15 c2q15x2 c2q15x3 c3q15) (fun vq16 => 
          k1 vq16) v vx2 vx3 vx4 vx5 vx6 c1 c1x2 c1x3 c1x4 c1x5 c1x6 c1x7 c1x8 c1x9 c1x10 c1x11 c1x12 b2 c2 c2x2 c2x3 c3 e1)) (
    k5 v vx2 vx3 c1 c1x2 c1x3 c1x4 c1x5 c1x6 c1x7 c1x8 c1x9 c1x10 c1x11 c1x12 b2 c2 c2x2 c2x3 c3)
noncomputable def law25ClientOnce.l10 (fu : Nat) (k1 : Bool → Option (Bool × Unit)) (k5 : (List S6) → Int → Int → Int → (List Int) → Int → Bool → Bool → Int → Int → Bool → Bool → Bool → Int → (List S3) → S0 → Bool → Int → Int → (List (Int × Bool)) → Option (Bool × Unit)) : Nat → (List S6) → Int → Int → (List S5) → Int → Int → Int → (List Int) → Int → Bool → Bool → Int → Int → Bool → Bool → Bool → Int → (List S3) → S0 → Bool → Int → Int → (List (Int × Bool)) → Option (Bool × Unit)
  | 0, _, _, _, _, _, _, _, _, _, _, _, _, _, _, _, _, _, _, _, _, _, _, _ => none
  | m + 1, v, vx2, vx3, vx4, vx5, vx6, c1, c1x2, c1x3, c1x4, c1x5, c1x6, c1x7, c1x8, c1x9, c1x10, c1x11, c1x12, b2, c2, c2x2, c2x3, c3 => law25ClientOnce.b10 fu (law25ClientOnce.l10 fu k1 k5 m) k1 k5 v vx2 vx3 vx4 vx5 vx6 c1 c1x2 c1x3 c1x4 c1x5 c1x6 c1x7 c1x8 c1x9 c1x10 c1x11 c1x12 b2 c2 c2x2 c2x3 c3
noncomputable def law25ClientOnce.b25 (fu : Nat) (next : (List S3) → (List S6) → Int → Int → (List S3) → Int → Int → Int → (List Int) → Int → Bool → Bool → Int → Int → Bool → Bool → Bool → Int → (List S3) → S0 → Bool → Int → Int → (List (Int × Bool)) → Option (Bool × Unit)) (k1 : Bool → Option (Bool × Unit)) (k7 : (List S3) → (List S6) → Int → Int → Int → (List Int) → Int → Bool → Bool → Int → Int → Bool → Bool → Bool → Int → (List S3) → S0 → Bool → Int → Int → (List (Int × Bool)) → Option (Bool × Unit)) (h : List S3) (v : List S6) (vx2 : Int) (vx3 : Int) (vx4 : List S3) (vx5 : Int) (vx6 : Int) (c1 : Int) (c1x2 : List Int) (c1x3 : Int) (c1x4 : Bool) (c1x5 : Bool) (c1x6 : Int) (c1x7 : Int) (c1x8 : Bool) (c1x9 : Bool) (c1x10 : Bool) (c1x11 : Int) (c1x12 : List S3) (b2 : S0) (c2 : Bool) (c2x2 : Int) (c2x3 : Int) (c3 : List (Int × Bool)) : Option (Bool × Unit) :=
  cond (decide (vx6 < vx5)) (
    chk (ixOk vx4 vx6) <|
    let e1 := ixL ((0 : Int), ((0 : Int), (0 : Int), ()), ()) vx4 vx6
    cond (mget c3 e1.1) (
      k1 false) (
      cond (decide (vx6 > (0 : Int))) (
        let t2 := IntKind.i64.wrap (vx6 - (1 : Int))
        chk (ixOk h t2) <|
        let e3 := ixL ((0 : Int), ((0 : Int), (0 : Int), ()), ()) h t2
        cond (decide (e1.1 ≤ e3.1)) (
          k1 false) (
          let t4 := IntKind.i64.wrap (vx6 + (1 : Int))
          next h v vx2 vx3 vx4 vx5 t4 c1 c1x2 c1x3 c1x4 c1x5 c1x6 c1x7 c1x8 c1x9 c1x10 c1x11 c1x12 b2 c2 c2x2 c2x3 c3)) (
        let t5 := IntKind.i64.wrap (vx6 + (1 : Int))
        next h v vx2 vx3 vx4 vx5 t5 c1 c1x2 c1x3 c1x4 c1x5 c1x6 c1x7 c1x8 c1x9 c1x10 c1x11 c1x12 b2 c2 c2x2 c2x3 c3))) (
    k7 h v vx2 vx3 c1 c1x2 c1x3 c1x4 c1x5 c1x6 c1x7 c1x8 c1x9 c1x10 c1x11 c1x12 b2 c2 c2x2 c2x3 c3)
noncomputable def law25ClientOnce.l25 (fu : Nat) (k1 : Bool → Option (Bool × Unit)) (k7 : (List S3) → (List S6) → Int → Int → Int → (List Int) → Int → Bool → Bool → Int → Int → Bool → Bool → Bool → Int → (List S3) → S0 → Bool → Int → Int → (List (Int × Bool)) → Option (Bool × Unit)) : Nat → (List S3) → (List S6) → Int → Int → (List S3) → Int → Int → Int → (List Int) → Int → Bool → Bool → Int → Int → Bool → Bool → Bool → Int → (List S3) → S0 → Bool → Int → Int → (List (Int × Bool)) → Option (Bool × Unit)
  | 0, _, _, _, _, _, _, _, _, _, _, _, _, _, _, _, _, _, _, _, _, _, _, _, _ => none
  | m + 1, h, v, vx2, vx3, vx4, vx5, vx6, c1, c1x2, c1x3, c1x4, c1x5, c1x6, c1x7, c1x8, c1x9, c1x10, c1x11, c1x12, b2, c2, c2x2, c2x3, c3 => law25ClientOnce.b25 fu (law25ClientOnce.l25 fu k1 k7 m) k1 k7 h v vx2 vx3 vx4 vx5 vx6 c1 c1x2 c1x3 c1x4 c1x5 c1x6 c1x7 c1x8 c1x9 c1x10 c1x11 c1x12 b2 c2 c2x2 c2x3 c3
noncomputable def law25ClientOnce.j23 (fu : Nat) (k0 : (List S6) → Int → Int → Int → (List Int) → Int → Bool → Bool → Int → Int → Bool → Bool → Bool → Int → (List S3) → S0 → Bool → Int → Int → (List (Int × Bool)) → Option (Bool × Unit)) (k1 : Bool → Option (Bool × Unit)) (v : List S6) (vx2 : Int) (vx3 : Int) (c1 : Int) (c1x2 : List Int) (c1x3 : Int) (c1x4 : Bool) (c1x5 : Bool) (c1x6 : Int) (c1x7 : Int) (c1x8 : Bool) (c1x9 : Bool) (c1x10 : Bool) (c1x11 : Int) (c1x12 : List S3) (b2 : S0) (c2 : Bool) (c2x2 : Int) (c2x3 : Int) (c3 : List (Int × Bool)) : Option (Bool × Unit) :=
  (clientClientHanded fu (c1, c1x2, c1x3, (b2, c2, c2x2, c2x3, ()), c1x4, c1x5, c1x6, c1x7, c1x8, c1x9, c1x10, c1x11, c1x12, ())).bind fun r1 =>
  law25ClientOnce.l25 fu (fun vq65 => 
      k1 vq65) (fun hq66 vq66 vq66x2 vq66x3 c1q66 c1q66x2 c1q66x3 c1q66x4 c1q66x5 c1q66x6 c1q66x7 c1q66x8 c1q66x9 c1q66x10 c1q66x11 c1q66x12 b2q66 c2q66 c2q66x2 c2q66x3 c3q66 => 
      let t2 := decide ((hq66.length : Int) > (0 : Int))
      cond t2 (
        (clientClientHas fu (c1q66, c1q66x2, c1q66x3, (b2q66, c2q66, c2q66x2, c2q66x3, ()), c1q66x4, c1q66x5, c1q66x6, c1q66x7, c1q66x8, c1q66x9, c1q66x10, c1q66x11, c1q66x12, ())).bind fun r3 =>
        let t4 := IntKind.i64.wrap ((hq66.length : Int) - (1 : Int))
        chk (ixOk hq66 t4) <|
        let e5 := ixL ((0 : Int), ((0 : Int), (0 : Int), ()), ()) hq66 t4
        let t6 := IntKind.u64.wrap (e5.1 + (1 : Int))
        cond (r3.1 != t6) (
          k1 false) (
          let t7 := (hq66.length : Int) == (0 : Int)
          cond t7 (
            (clientClientHas fu (c1q66, c1q66x2, c1q66x3, (b2q66, c2q66, c2q66x2, c2q66x3, ()), c1q66x4, c1q66x5, c1q66x6, c1q66x7, c1q66x8, c1q66x9, c1q66x10, c1q66x11, c1q66x12, ())).bind fun r8 =>
            cond (r8.1 != (0 : Int)) (
              k1 false) (
              k0 vq66 vq66x2 vq66x3 c1q66 c1q66x2 c1q66x3 c1q66x4 c1q66x5 c1q66x6 c1q66x7 c1q66x8 c1q66x9 c1q66x10 c1q66x11 c1q66x12 b2q66 c2q66 c2q66x2 c2q66x3 c3q66)) (
            k0 vq66 vq66x2 vq66x3 c1q66 c1q66x2 c1q66x3 c1q66x4 c1q66x5 c1q66x6 c1q66x7 c1q66x8 c1q66x9 c1q66x10 c1q66x11 c1q66x12 b2q66 c2q66 c2q66x2 c2q66x3 c3q66))) (
        let t9 := (hq66.length : Int) == (0 : Int)
        cond t9 (
          (clientClientHas fu (c1q66, c1q66x2, c1q66x3, (b2q66, c2q66, c2q66x2, c2q66x3, ()), c1q66x4, c1q66x5, c1q66x6, c1q66x7, c1q66x8, c1q66x9, c1q66x10, c1q66x11, c1q66x12, ())).bind fun r10 =>
          cond (r10.1 != (0 : Int)) (
            k1 false) (
            k0 vq66 vq66x2 vq66x3 c1q66 c1q66x2 c1q66x3 c1q66x4 c1q66x5 c1q66x6 c1q66x7 c1q66x8 c1q66x9 c1q66x10 c1q66x11 c1q66x12 b2q66 c2q66 c2q66x2 c2q66x3 c3q66)) (
          k0 vq66 vq66x2 vq66x3 c1q66 c1q66x2 c1q66x3 c1q66x4 c1q66x5 c1q66x6 c1q66x7 c1q66x8 c1q66x9 c1q66x10 c1q66x11 c1q66x12 b2q66 c2q66 c2q66x2 c2q66x3 c3q66))) fu r1.1.1 v vx2 vx3 r1.1.1 (r1.1.1.length : Int) (0 : Int) r1.2.1.1 r1.2.1.2.1 r1.2.1.2.2.1 r1.2.1.2.2.2.2.1 r1.2.1.2.2.2.2.2.1 r1.2.1.2.2.2.2.2.2.1 r1.2.1.2.2.2.2.2.2.2.1 r1.2.1.2.2.2.2.2.2.2.2.1 r1.2.1.2.2.2.2.2.2.2.2.2.1 r1.2.1.2.2.2.2.2.2.2.2.2.2.1 r1.2.1.2.2.2.2.2.2.2.2.2.2.2.1 r1.2.1.2.2.2.2.2.2.2.2.2.2.2.2.1 r1.2.1.2.2.2.1.1 r1.2.1.2.2.2.1.2.1 r1.2.1.2.2.2.1.2.2.1 r1.2.1.2.2.2.1.2.2.2.1 c3
noncomputable def law25ClientOnce.b6 (fu : Nat) (next : (List S6) → Int → Int → Int → (List Int) → Int → Bool → Bool → Int → Int → Bool → Bool → Bool → Int → (List S3) → S0 → Bool → Int → Int → (List (Int × Bool)) → Option (Bool × Unit)) (k1 : Bool → Option (Bool × Unit)) (k2 : Unit → Option (Bool × Unit)) (v : List S6) (vx2 : Int) (vx3 : Int) (c1 : Int) (c1x2 : List Int) (c1x3 : Int) (c1x4 : Bool) (c1x5 : Bool) (c1x6 : Int) (c1x7 : Int) (c1x8 : Bool) (c1x9 : Bool) (c1x10 : Bool) (c1x11 : Int) (c1x12 : List S3) (b2 : S0) (c2 : Bool) (c2x2 : Int) (c2x3 : Int) (c3 : List (Int × Bool)) : Option (Bool × Unit) :=
  cond (decide (vx3 < vx2)) (
    chk (ixOk v vx3) <|
    let e1 := ixL ((0 : Int), (0 : Int), ((0 : Int), (0 : Int), (0 : Int), (0 : Int), (0 : Int), [], ()), false, ()) v vx3
    cond (e1.1 == (0 : Int)) (
      (clientClientCome fu (c1, c1x2, c1x3, (b2, c2, c2x2, c2x3, ()), c1x4, c1x5, c1x6, c1x7, c1x8, c1x9, c1x10, c1x11, c1x12, ()) e1.2.1).bind fun r2 =>
      law25ClientOnce.j23 fu (fun vq53 vq53x2 vq53x3 c1q53 c1q53x2 c1q53x3 c1q53x4 c1q53x5 c1q53x6 c1q53x7 c1q53x8 c1q53x9 c1q53x10 c1q53x11 c1q53x12 b2q53 c2q53 c2q53x2 c2q53x3 c3q53 => 
          let t3 := IntKind.i64.wrap (vq53x3 + (1 : Int))
          next vq53 vq53x2 t3 c1q53 c1q53x2 c1q53x3 c1q53x4 c1q53x5 c1q53x6 c1q53x7 c1q53x8 c1q53x9 c1q53x10 c1q53x11 c1q53x12 b2q53 c2q53 c2q53x2 c2q53x3 c3q53) (fun vq54 => 
          k1 vq54) v vx2 vx3 r2.2.1.1 r2.2.1.2.1 r2.2.1.2.2.1 r2.2.1.2.2.2.2.1 r2.2.1.2.2.2.2.2.1 r2.2.1.2.2.2.2.2.2.1 r2.2.1.2.2.2.2.2.2.2.1 r2.2.1.2.2.2.2.2.2.2.2.1 r2.2.1.2.2.2.2.2.2.2.2.2.1 r2.2.1.2.2.2.2.2.2.2.2.2.2.1 r2.2.1.2.2.2.2.2.2.2.2.2.2.2.1 r2.2.1.2.2.2.2.2.2.2.2.2.2.2.2.1 r2.2.1.2.2.2.1.1 r2.2.1.2.2.2.1.2.1 r2.2.1.2.2.2.1.2.2.1 r2.2.1.2.2.2.1.2.2.2.1 c3) (
      cond (e1.1 == (1 : Int)) (
        (clientClientSend fu (c1, c1x2, c1x3, (b2, c2, c2x2, c2x3, ()), c1x4, c1x5, c1x6, c1x7, c1x8, c1x9, c1x10, c1x11, c1x12, ()) e1.2.1).bind fun r4 =>
        law25ClientOnce.j23 fu (fun vq55 vq55x2 vq55x3 c1q55 c1q55x2 c1q55x3 c1q55x4 c1q55x5 c1q55x6 c1q55x7 c1q55x8 c1q55x9 c1q55x10 c1q55x11 c1q55x12 b2q55 c2q55 c2q55x2 c2q55x3 c3q55 => 
            let t5 := IntKind.i64.wrap (vq55x3 + (1 : Int))
            next vq55 vq55x2 t5 c1q55 c1q55x2 c1q55x3 c1q55x4 c1q55x5 c1q55x6 c1q55x7 c1q55x8 c1q55x9 c1q55x10 c1q55x11 c1q55x12 b2q55 c2q55 c2q55x2 c2q55x3 c3q55) (fun vq56 => 
            k1 vq56) v vx2 vx3 r4.2.1.1 r4.2.1.2.1 r4.2.1.2.2.1 r4.2.1.2.2.2.2.1 r4.2.1.2.2.2.2.2.1 r4.2.1.2.2.2.2.2.2.1 r4.2.1.2.2.2.2.2.2.2.1 r4.2.1.2.2.2.2.2.2.2.2.1 r4.2.1.2.2.2.2.2.2.2.2.2.1 r4.2.1.2.2.2.2.2.2.2.2.2.2.1 r4.2.1.2.2.2.2.2.2.2.2.2.2.2.1 r4.2.1.2.2.2.2.2.2.2.2.2.2.2.2.1 r4.2.1.2.2.2.1.1 r4.2.1.2.2.2.1.2.1 r4.2.1.2.2.2.1.2.2.1 r4.2.1.2.2.2.1.2.2.2.1 c3) (
        cond (e1.1 == (2 : Int)) (
          (clientClientPicky fu (c1, c1x2, c1x3, (b2, c2, c2x2, c2x3, ()), c1x4, c1x5, c1x6, c1x7, c1x8, c1x9, c1x10, c1x11, c1x12, ()) e1.2.2.2.1).bind fun r6 =>
          law25ClientOnce.j23 fu (fun vq57 vq57x2 vq57x3 c1q57 c1q57x2 c1q57x3 c1q57x4 c1q57x5 c1q57x6 c1q57x7 c1q57x8 c1q57x9 c1q57x10 c1q57x11 c1q57x12 b2q57 c2q57 c2q57x2 c2q57x3 c3q57 => 
              let t7 := IntKind.i64.wrap (vq57x3 + (1 : Int))
              next vq57 vq57x2 t7 c1q57 c1q57x2 c1q57x3 c1q57x4 c1q57x5 c1q57x6 c1q57x7 c1q57x8 c1q57x9 c1q57x10 c1q57x11 c1q57x12 b2q57 c2q57 c2q57x2 c2q57x3 c3q57) (fun vq58 => 
              k1 vq58) v vx2 vx3 r6.2.1.1 r6.2.1.2.1 r6.2.1.2.2.1 r6.2.1.2.2.2.2.1 r6.2.1.2.2.2.2.2.1 r6.2.1.2.2.2.2.2.2.1 r6.2.1.2.2.2.2.2.2.2.1 r6.2.1.2.2.2.2.2.2.2.2.1 r6.2.1.2.2.2.2.2.2.2.2.2.1 r6.2.1.2.2.2.2.2.2.2.2.2.2.1 r6.2.1.2.2.2.2.2.2.2.2.2.2.2.1 r6.2.1.2.2.2.2.2.2.2.2.2.2.2.2.1 r6.2.1.2.2.2.1.1 r6.2.1.2.2.2.1.2.1 r6.2.1.2.2.2.1.2.2.1 r6.2.1.2.2.2.1.2.2.2.1 c3) (
          (law25Own fu e1.2.2.1).bind fun r8 =>
          (clientClientHear fu (c1, c1x2, c1x3, (b2, c2, c2x2, c2x3, ()), c1x4, c1x5, c1x6, c1x7, c1x8, c1x9, c1x10, c1x11, c1x12, ()) r8.1 e1.2.1).bind fun r9 =>
          law25ClientOnce.l10 fu (fun vq59 => 
              k1 vq59) (fun vq60 vq60x2 vq60x3 c1q60 c1q60x2 c1q60x3 c1q60x4 c1q60x5 c1q60x6 c1q60x7 c1q60x8 c1q60x9 c1q60x10 c1q60x11 c1q60x12 b2q60 c2q60 c2q60x2 c2q60x3 c3q60 => 
              law25ClientOnce.j23 fu (fun vq61 vq61x2 vq61x3 c1q61 c1q61x2 c1q61x3 c1q61x4 c1q61x5 c1q61x6 c1q61x7 c1q61x8 c1q61x9 c1q61x10 c1q61x11 c1q61x12 b2q61 c2q61 c2q61x2 c2q61x3 c3q61 => 
                  let t10 := IntKind.i64.wrap (vq61x3 + (1 : Int))
                  next vq61 vq61x2 t10 c1q61 c1q61x2 c1q61x3 c1q61x4 c1q61x5 c1q61x6 c1q61x7 c1q61x8 c1q61x9 c1q61x10 c1q61x11 c1q61x12 b2q61 c2q61 c2q61x2 c2q61x3 c3q61) (fun vq62 => 
                  k1 vq62) vq60 vq60x2 vq60x3 c1q60 c1q60x2 c1q60x3 c1q60x4 c1q60x5 c1q60x6 c1q60x7 c1q60x8 c1q60x9 c1q60x10 c1q60x11 c1q60x12 b2q60 c2q60 c2q60x2 c2q60x3 c3q60) fu v vx2 vx3 r9.1.1 (r9.1.1.length : Int) (0 : Int) r9.2.1.1 r9.2.1.2.1 r9.2.1.2.2.1 r9.2.1.2.2.2.2.1 r9.2.1.2.2.2.2.2.1 r9.2.1.2.2.2.2.2.2.1 r9.2.1.2.2.2.2.2.2.2.1 r9.2.1.2.2.2.2.2.2.2.2.1 r9.2.1.2.2.2.2.2.2.2.2.2.1 r9.2.1.2.2.2.2.2.2.2.2.2.2.1 r9.2.1.2.2.2.2.2.2.2.2.2.2.2.1 r9.2.1.2.2.2.2.2.2.2.2.2.2.2.2.1 r9.2.1.2.2.2.1.1 r9.2.1.2.2.2.1.2.1 r9.2.1.2.2.2.1.2.2.1 r9.2.1.2.2.2.1.2.2.2.1 c3)))) (
    k2 ())
noncomputable def law25ClientOnce.l6 (fu : Nat) (k1 : Bool → Option (Bool × Unit)) (k2 : Unit → Option (Bool × Unit)) : Nat → (List S6) → Int → Int → Int → (List Int) → Int → Bool → Bool → Int → Int → Bool → Bool → Bool → Int → (List S3) → S0 → Bool → Int → Int → (List (Int × Bool)) → Option (Bool × Unit)
  | 0, _, _, _, _, _, _, _, _, _, _, _, _, _, _, _, _, _, _, _, _ => none
  | m + 1, v, vx2, vx3, c1, c1x2, c1x3, c1x4, c1x5, c1x6, c1x7, c1x8, c1x9, c1x10, c1x11, c1x12, b2, c2, c2x2, c2x3, c3 => law25ClientOnce.b6 fu (law25ClientOnce.l6 fu k1 k2 m) k1 k2 v vx2 vx3 c1 c1x2 c1x3 c1x4 c1x5 c1x6 c1x7 c1x8 c1x9 c1x10 c1x11 c1x12 b2 c2 c2x2 c2x3 c3
noncomputable def law25ClientOnce (fu : Nat) (sub : Int) (b : S0) (ops : List S6) : Option (Bool × Unit) :=
  (clientNew fu sub [] b).bind fun r1 =>
  oc r1.1.1 (
    (law25Fixed fu).bind fun r3 =>
    cond r3.1 (
      (ref23May fu b).bind fun r4 =>
      some (!r4.1, ())) (
      some (false, ()))) fun o2 =>
  cond (r1.1.2.1 != (0 : Int)) (
    (law25Fixed fu).bind fun r5 =>
    cond r5.1 (
      (ref23May fu b).bind fun r6 =>
      some (!r6.1, ())) (
      some (false, ()))) (
    (law25Cut fu ops).bind fun r7 =>
    law25ClientOnce.l6 fu (fun vq7 => 
        some (vq7, ())) (fun (_ : Unit) => 
        (law25Fixed fu).bind fun r8 =>
        some (r8.1, ())) fu r7.1 (r7.1.length : Int) (0 : Int) o2.1 o2.2.1 o2.2.2.1 o2.2.2.2.2.1 o2.2.2.2.2.2.1 o2.2.2.2.2.2.2.1 o2.2.2.2.2.2.2.2.1 o2.2.2.2.2.2.2.2.2.1 o2.2.2.2.2.2.2.2.2.2.1 o2.2.2.2.2.2.2.2.2.2.2.1 o2.2.2.2.2.2.2.2.2.2.2.2.1 o2.2.2.2.2.2.2.2.2.2.2.2.2.1 o2.2.2.2.1.1 o2.2.2.2.1.2.1 o2.2.2.2.1.2.2.1 o2.2.2.2.1.2.2.2.1 [])

noncomputable def law25ClientOnce.body : Code := Try.f3.body.getD .skip
abbrev law25ClientOnce.shj14 : Shp := ⟨[.u, .u, .u, .u, .u, .u, .u, .p 1 0, .u, .mp 3, .u, .u, .u, .p 4 0, .u, .u, .u, .u, .u, .u, .u, .u, .u, .u, .u, .u, .u, .u, .u, .u, .u, .u, .u, .u, .u, .u, .u, .d (.slice kS6), .d (.int .i64), .d (.int .i64), .u, .u, .u, .u, .u, .u, .u, .u, .u, .u, .u, .d (.slice kS5), .d (.int .i64), .d (.int .i64), .u, .u, .u, .u, .u, .u, .u, .u, .u, .u, .u, .u, .u, .u, .u, .u, .u, .u, .u, .u, .u, .u, .u, .u, .u, .u, .u, .u, .u, .u, .u, .u, .u, .u, .u, .u, .u, .u, .u, .u, .u, .u, .u, .u, .u, .u, .u, .u, .u, .u, .u, .u, .u, .u, .u, .u, .u, .u, .u, .u, .u, .u, .u, .u, .u, .u, .u, .u, .u, .u, .u, .u, .u, .u, .u, .u, .u, .u, .u, .u, .u, .u, .u, .u, .u, .u, .u, .u, .u, .u, .u, .u, .u, .u, .u], [.c [.u, .u, .u], .c [.d (.int .u32), .d (.slice (.int .u8)), .d (.int .u64), .p 2 0, .d .bool, .d .bool, .d (.int .u32), .d (.int .u64), .d .bool, .d .bool, .d .bool, .d (.int .u64), .o 1062 kS3], .c [.g kS0, .d .bool, .d (.int .u32), .d (.int .u64)], .m .u64, .c [.g kS5]]⟩
abbrev law25ClientOnce.outj14e0 : Shp := ⟨[.u, .u, .u, .u, .u, .u, .u, .p 1 0, .u, .mp 3, .u, .u, .u, .u, .u, .u, .u, .u, .u, .u, .u, .u, .u, .u, .u, .u, .u, .u, .u, .u, .u, .u, .u, .u, .u, .u, .u, .d (.slice kS6), .d (.int .i64), .d (.int .i64), .u, .u, .u, .u, .u, .u, .u, .u, .u, .u, .u, .d (.slice kS5), .d (.int .i64), .d (.int .i64), .u, .u, .u, .u, .u, .u, .u, .u, .u, .u, .u, .u, .u, .u, .u, .u, .u, .u, .u, .u, .u, .u, .u, .u, .u, .u, .u, .u, .u, .u, .u, .u, .u, .u, .u, .u, .u, .u, .u, .u, .u, .u, .u, .u, .u, .u, .u, .u, .u, .u, .u, .u, .u, .u, .u, .u, .u, .u, .u, .u, .u, .u, .u, .u, .u, .u, .u, .u, .u, .u, .u, .u, .u, .u, .u, .u, .u, .u, .u, .u, .u, .u, .u, .u, .u, .u, .u, .u, .u, .u, .u, .u, .u, .u, .u], [.c [.u, .u, .u], .c [.d (.int .u32), .d (.slice (.int .u8)), .d (.int .u64), .p 2 0, .d .bool, .d .bool, .d (.int .u32), .d (.int .u64), .d .bool, .d .bool, .d .bool, .d (.int .u64), .o 1062 kS3], .c [.g kS0, .d .bool, .d (.int .u32), .d (.int .u64)], .m .u64]⟩
abbrev law25ClientOnce.outj14e1 : Shp := ⟨[.u, .u, .u, .u, .u, .u, .d .bool, .u, .u, .u, .u, .u, .u, .u, .u, .u, .u, .u, .u, .u, .u, .u, .u, .u, .u, .u, .u, .u, .u, .u, .u, .u, .u, .u, .u, .u, .u, .u, .u, .u, .u, .u, .u, .u, .u, .u, .u, .u, .u, .u, .u, .u, .u, .u, .u, .u, .u, .u, .u, .u, .u, .u, .u, .u, .u, .u, .u, .u, .u, .u, .u, .u, .u, .u, .u, .u, .u, .u, .u, .u, .u, .u, .u, .u, .u, .u, .u, .u, .u, .u, .u, .u, .u, .u, .u, .u, .u, .u, .u, .u, .u, .u, .u, .u, .u, .u, .u, .u, .u, .u, .u, .u, .u, .u, .u, .u, .u, .u, .u, .u, .u, .u, .u, .u, .u, .u, .u, .u, .u, .u, .u, .u, .u, .u, .u, .u, .u, .u, .u, .u, .u, .u, .u, .u, .u, .u, .u, .u, .u], []⟩
noncomputable def law25ClientOnce.nmj14 : Norm := ⟨{ keep := [7, 9, 13, 37, 38, 39, 51, 52, 53], shut := [(37, (.slice kS6)), (38, (.int .i64)), (39, (.int .i64)), (51, (.slice kS5)), (52, (.int .i64)), (53, (.int .i64))], retag := [], heap := 5, dead := [0], cshut := [(1, 0, (.int .u32)), (1, 1, (.slice (.int .u8))), (1, 2, (.int .u64)), (1, 4, .bool), (1, 5, .bool), (1, 6, (.int .u32)), (1, 7, (.int .u64)), (1, 8, .bool), (1, 9, .bool), (1, 10, .bool), (1, 11, (.int .u64)), (2, 0, (.int .u32)), (2, 1, (.int .u32)), (2, 2, (.int .u32)), (2, 3, .bool), (2, 4, (.int .u32)), (2, 5, (.int .u64)), (4, 0, (.int .u8)), (4, 1, (.int .u32)), (4, 2, (.int .u32)), (4, 3, (.int .u64)), (4, 4, (.int .u64)), (4, 5, (.slice (.int .u8)))], cretag := [(1, 12, 1062, kS3)] }, [(0, { keep := [7, 9, 37, 38, 39, 51, 52, 53], shut := [(37, (.slice kS6)), (38, (.int .i64)), (39, (.int .i64)), (51, (.slice kS5)), (52, (.int .i64)), (53, (.int .i64))], retag := [], heap := 4, dead := [0], cshut := [(1, 0, (.int .u32)), (1, 1, (.slice (.int .u8))), (1, 2, (.int .u64)), (1, 4, .bool), (1, 5, .bool), (1, 6, (.int .u32)), (1, 7, (.int .u64)), (1, 8, .bool), (1, 9, .bool), (1, 10, .bool), (1, 11, (.int .u64)), (2, 0, (.int .u32)), (2, 1, (.int .u32)), (2, 2, (.int .u32)), (2, 3, .bool), (2, 4, (.int .u32)), (2, 5, (.int .u64))], cretag := [(1, 12, 1062, kS3)] }), (1, { keep := [6], shut := [(6, .bool)], retag := [], heap := 0, dead := [], cshut := [], cretag := [] })]⟩
abbrev law25ClientOnce.shl10 : Shp := ⟨[.u, .u, .u, .u, .u, .u, .u, .p 1 0, .u, .mp 3, .u, .u, .u, .u, .u, .u, .u, .u, .u, .u, .u, .u, .u, .u, .u, .u, .u, .u, .u, .u, .u, .u, .u, .u, .u, .u, .u, .d (.slice kS6), .d (.int .i64), .d (.int .i64), .u, .u, .u, .u, .u, .u, .u, .u, .u, .u, .u, .d (.slice kS5), .d (.int .i64), .d (.int .i64), .u, .u, .u, .u, .u, .u, .u, .u, .u, .u, .u, .u, .u, .u, .u, .u, .u, .u, .u, .u, .u, .u, .u, .u, .u, .u, .u, .u, .u, .u, .u, .u, .u, .u, .u, .u, .u, .u, .u, .u, .u, .u, .u, .u, .u, .u, .u, .u, .u, .u, .u, .u, .u, .u, .u, .u, .u, .u, .u, .u, .u, .u, .u, .u, .u, .u, .u, .u, .u, .u, .u, .u, .u, .u, .u, .u, .u, .u, .u, .u, .u, .u, .u, .u, .u, .u, .u, .u, .u, .u, .u, .u, .u, .u, .u], [.c [.u, .u, .u], .c [.d (.int .u32), .d (.slice (.int .u8)), .d (.int .u64), .p 2 0, .d .bool, .d .bool, .d (.int .u32), .d (.int .u64), .d .bool, .d .bool, .d .bool, .d (.int .u64), .o 1062 kS3], .c [.g kS0, .d .bool, .d (.int .u32), .d (.int .u64)], .m .u64]⟩
abbrev law25ClientOnce.outl10e1 : Shp := ⟨[.u, .u, .u, .u, .u, .u, .d .bool, .u, .u, .u, .u, .u, .u, .u, .u, .u, .u, .u, .u, .u, .u, .u, .u, .u, .u, .u, .u, .u, .u, .u, .u, .u, .u, .u, .u, .u, .u, .u, .u, .u, .u, .u, .u, .u, .u, .u, .u, .u, .u, .u, .u, .u, .u, .u, .u, .u, .u, .u, .u, .u, .u, .u, .u, .u, .u, .u, .u, .u, .u, .u, .u, .u, .u, .u, .u, .u, .u, .u, .u, .u, .u, .u, .u, .u, .u, .u, .u, .u, .u, .u, .u, .u, .u, .u, .u, .u, .u, .u, .u, .u, .u, .u, .u, .u, .u, .u, .u, .u, .u, .u, .u, .u, .u, .u, .u, .u, .u, .u, .u, .u, .u, .u, .u, .u, .u, .u, .u, .u, .u, .u, .u, .u, .u, .u, .u, .u, .u, .u, .u, .u, .u, .u, .u, .u, .u, .u, .u, .u, .u], []⟩
abbrev law25ClientOnce.outl10e5 : Shp := ⟨[.u, .u, .u, .u, .u, .u, .u, .p 1 0, .u, .mp 3, .u, .u, .u, .u, .u, .u, .u, .u, .u, .u, .u, .u, .u, .u, .u, .u, .u, .u, .u, .u, .u, .u, .u, .u, .u, .u, .u, .d (.slice kS6), .d (.int .i64), .d (.int .i64), .u, .u, .u, .u, .u, .u, .u, .u, .u, .u, .u, .u, .u, .u, .u, .u, .u, .u, .u, .u, .u, .u, .u, .u, .u, .u, .u, .u, .u, .u, .u, .u, .u, .u, .u, .u, .u, .u, .u, .u, .u, .u, .u, .u, .u, .u, .u, .u, .u, .u, .u, .u, .u, .u, .u, .u, .u, .u, .u, .u, .u, .u, .u, .u, .u, .u, .u, .u, .u, .u, .u, .u, .u, .u, .u, .u, .u, .u, .u, .u, .u, .u, .u, .u, .u, .u, .u, .u, .u, .u, .u, .u, .u, .u, .u, .u, .u, .u, .u, .u, .u, .u, .u, .u, .u, .u, .u, .u, .u], [.c [.u, .u, .u], .c [.d (.int .u32), .d (.slice (.int .u8)), .d (.int .u64), .p 2 0, .d .bool, .d .bool, .d (.int .u32), .d (.int .u64), .d .bool, .d .bool, .d .bool, .d (.int .u64), .o 1062 kS3], .c [.g kS0, .d .bool, .d (.int .u32), .d (.int .u64)], .m .u64]⟩
noncomputable def law25ClientOnce.nml10 : Norm := ⟨{ keep := [7, 9, 37, 38, 39, 51, 52, 53], shut := [(37, (.slice kS6)), (38, (.int .i64)), (39, (.int .i64)), (51, (.slice kS5)), (52, (.int .i64)), (53, (.int .i64))], retag := [], heap := 4, dead := [0], cshut := [(1, 0, (.int .u32)), (1, 1, (.slice (.int .u8))), (1, 2, (.int .u64)), (1, 4, .bool), (1, 5, .bool), (1, 6, (.int .u32)), (1, 7, (.int .u64)), (1, 8, .bool), (1, 9, .bool), (1, 10, .bool), (1, 11, (.int .u64)), (2, 0, (.int .u32)), (2, 1, (.int .u32)), (2, 2, (.int .u32)), (2, 3, .bool), (2, 4, (.int .u32)), (2, 5, (.int .u64))], cretag := [(1, 12, 1062, kS3)] }, [(1, { keep := [6], shut := [(6, .bool)], retag := [], heap := 0, dead := [], cshut := [], cretag := [] }), (5, { keep := [7, 9, 37, 38, 39], shut := [(37, (.slice kS6)), (38, (.int .i64)), (39, (.int .i64))], retag := [], heap := 4, dead := [0], cshut := [(1, 0, (.int .u32)), (1, 1, (.slice (.int .u8))), (1, 2, (.int .u64)), (1, 4, .bool), (1, 5, .bool), (1, 6, (.int .u32)), (1, 7, (.int .u64)), (1, 8, .bool), (1, 9, .bool), (1, 10, .bool), (1, 11, (.int .u64)), (2, 0, (.int .u32)), (2, 1, (.int .u32)), (2, 2, (.int .u32)), (2, 3, .bool), (2, 4, (.int .u32)), (2, 5, (.int .u64))], cretag := [(1, 12, 1062, kS3)] })]⟩
abbrev law25ClientOnce.shl25 : Shp := ⟨[.u, .u, .u, .u, .u, .u, .u, .p 1 0, .u, .mp 3, .u, .u, .u, .u, .d (.slice kS3), .u, .u, .u, .u, .u, .u, .u, .u, .u, .u, .u, .u, .u, .u, .u, .u, .u, .u, .u, .u, .u, .u, .d (.slice kS6), .d (.int .i64), .d (.int .i64), .u, .u, .u, .u, .u, .u, .u, .u, .u, .u, .u, .u, .u, .u, .u, .u, .u, .u, .u, .u, .u, .u, .u, .u, .u, .u, .u, .u, .u, .u, .u, .u, .u, .u, .u, .u, .u, .u, .u, .u, .u, .u, .u, .u, .u, .u, .u, .u, .u, .u, .u, .u, .u, .u, .d (.slice kS3), .d (.int .i64), .d (.int .i64), .u, .u, .u, .u, .u, .u, .u, .u, .u, .u, .u, .u, .u, .u, .u, .u, .u, .u, .u, .u, .u, .u, .u, .u, .u, .u, .u, .u, .u, .u, .u, .u, .u, .u, .u, .u, .u, .u, .u, .u, .u, .u, .u, .u, .u, .u, .u, .u, .u, .u, .u, .u], [.c [.u, .u, .u], .c [.d (.int .u32), .d (.slice (.int .u8)), .d (.int .u64), .p 2 0, .d .bool, .d .bool, .d (.int .u32), .d (.int .u64), .d .bool, .d .bool, .d .bool, .d (.int .u64), .o 1062 kS3], .c [.g kS0, .d .bool, .d (.int .u32), .d (.int .u64)], .m .u64]⟩
abbrev law25ClientOnce.outl25e1 : Shp := ⟨[.u, .u, .u, .u, .u, .u, .d .bool, .u, .u, .u, .u, .u, .u, .u, .u, .u, .u, .u, .u, .u, .u, .u, .u, .u, .u, .u, .u, .u, .u, .u, .u, .u, .u, .u, .u, .u, .u, .u, .u, .u, .u, .u, .u, .u, .u, .u, .u, .u, .u, .u, .u, .u, .u, .u, .u, .u, .u, .u, .u, .u, .u, .u, .u, .u, .u, .u, .u, .u, .u, .u, .u, .u, .u, .u, .u, .u, .u, .u, .u, .u, .u, .u, .u, .u, .u, .u, .u, .u, .u, .u, .u, .u, .u, .u, .u, .u, .u, .u, .u, .u, .u, .u, .u, .u, .u, .u, .u, .u, .u, .u, .u, .u, .u, .u, .u, .u, .u, .u, .u, .u, .u, .u, .u, .u, .u, .u, .u, .u, .u, .u, .u, .u, .u, .u, .u, .u, .u, .u, .u, .u, .u, .u, .u, .u, .u, .u, .u, .u, .u], []⟩
abbrev law25ClientOnce.outl25e7 : Shp := ⟨[.u, .u, .u, .u, .u, .u, .u, .p 1 0, .u, .mp 3, .u, .u, .u, .u, .d (.slice kS3), .u, .u, .u, .u, .u, .u, .u, .u, .u, .u, .u, .u, .u, .u, .u, .u, .u, .u, .u, .u, .u, .u, .d (.slice kS6), .d (.int .i64), .d (.int .i64), .u, .u, .u, .u, .u, .u, .u, .u, .u, .u, .u, .u, .u, .u, .u, .u, .u, .u, .u, .u, .u, .u, .u, .u, .u, .u, .u, .u, .u, .u, .u, .u, .u, .u, .u, .u, .u, .u, .u, .u, .u, .u, .u, .u, .u, .u, .u, .u, .u, .u, .u, .u, .u, .u, .u, .u, .u, .u, .u, .u, .u, .u, .u, .u, .u, .u, .u, .u, .u, .u, .u, .u, .u, .u, .u, .u, .u, .u, .u, .u, .u, .u, .u, .u, .u, .u, .u, .u, .u, .u, .u, .u, .u, .u, .u, .u, .u, .u, .u, .u, .u, .u, .u, .u, .u, .u, .u, .u, .u], [.c [.u, .u, .u], .c [.d (.int .u32), .d (.slice (.int .u8)), .d (.int .u64), .p 2 0, .d .bool, .d .bool, .d (.int .u32), .d (.int .u64), .d .bool, .d .bool, .d .bool, .d (.int .u64), .o 1062 kS3], .c [.g kS0, .d .bool, .d (.int .u32), .d (.int .u64)], .m .u64]⟩
noncomputable def law25ClientOnce.nml25 : Norm := ⟨{ keep := [7, 9, 14, 37, 38, 39, 94, 95, 96], shut := [(14, (.slice kS3)), (37, (.slice kS6)), (38, (.int .i64)), (39, (.int .i64)), (94, (.slice kS3)), (95, (.int .i64)), (96, (.int .i64))], retag := [], heap := 4, dead := [0], cshut := [(1, 0, (.int .u32)), (1, 1, (.slice (.int .u8))), (1, 2, (.int .u64)), (1, 4, .bool), (1, 5, .bool), (1, 6, (.int .u32)), (1, 7, (.int .u64)), (1, 8, .bool), (1, 9, .bool), (1, 10, .bool), (1, 11, (.int .u64)), (2, 0, (.int .u32)), (2, 1, (.int .u32)), (2, 2, (.int .u32)), (2, 3, .bool), (2, 4, (.int .u32)), (2, 5, (.int .u64))], cretag := [(1, 12, 1062, kS3)] }, [(1, { keep := [6], shut := [(6, .bool)], retag := [], heap := 0, dead := [], cshut := [], cretag := [] }), (7, { keep := [7, 9, 14, 37, 38, 39], shut := [(14, (.slice kS3)), (37, (.slice kS6)), (38, (.int .i64)), (39, (.int .i64))], retag := [], heap := 4, dead := [0], cshut := [(1, 0, (.int .u32)), (1, 1, (.slice (.int .u8))), (1, 2, (.int .u64)), (1, 4, .bool), (1, 5, .bool), (1, 6, (.int .u32)), (1, 7, (.int .u64)), (1, 8, .bool), (1, 9, .bool), (1, 10, .bool), (1, 11, (.int .u64)), (2, 0, (.int .u32)), (2, 1, (.int .u32)), (2, 2, (.int .u32)), (2, 3, .bool), (2, 4, (.int .u32)), (2, 5, (.int .u64))], cretag := [(1, 12, 1062, kS3)] })]⟩
abbrev law25ClientOnce.shj23 : Shp := ⟨[.u, .u, .u, .u, .u, .u, .u, .p 1 0, .u, .mp 3, .u, .u, .u, .u, .u, .u, .u, .u, .u, .u, .u, .u, .u, .u, .u, .u, .u, .u, .u, .u, .u, .u, .u, .u, .u, .u, .u, .d (.slice kS6), .d (.int .i64), .d (.int .i64), .u, .u, .u, .u, .u, .u, .u, .u, .u, .u, .u, .u, .u, .u, .u, .u, .u, .u, .u, .u, .u, .u, .u, .u, .u, .u, .u, .u, .u, .u, .u, .u, .u, .u, .u, .u, .u, .u, .u, .u, .u, .u, .u, .u, .u, .u, .u, .u, .u, .u, .u, .u, .u, .u, .u, .u, .u, .u, .u, .u, .u, .u, .u, .u, .u, .u, .u, .u, .u, .u, .u, .u, .u, .u, .u, .u, .u, .u, .u, .u, .u, .u, .u, .u, .u, .u, .u, .u, .u, .u, .u, .u, .u, .u, .u, .u, .u, .u, .u, .u, .u, .u, .u, .u, .u, .u, .u, .u, .u], [.c [.u, .u, .u], .c [.d (.int .u32), .d (.slice (.int .u8)), .d (.int .u64), .p 2 0, .d .bool, .d .bool, .d (.int .u32), .d (.int .u64), .d .bool, .d .bool, .d .bool, .d (.int .u64), .o 1062 kS3], .c [.g kS0, .d .bool, .d (.int .u32), .d (.int .u64)], .m .u64]⟩
abbrev law25ClientOnce.outj23e0 : Shp := ⟨[.u, .u, .u, .u, .u, .u, .u, .p 1 0, .u, .mp 3, .u, .u, .u, .u, .u, .u, .u, .u, .u, .u, .u, .u, .u, .u, .u, .u, .u, .u, .u, .u, .u, .u, .u, .u, .u, .u, .u, .d (.slice kS6), .d (.int .i64), .d (.int .i64), .u, .u, .u, .u, .u, .u, .u, .u, .u, .u, .u, .u, .u, .u, .u, .u, .u, .u, .u, .u, .u, .u, .u, .u, .u, .u, .u, .u, .u, .u, .u, .u, .u, .u, .u, .u, .u, .u, .u, .u, .u, .u, .u, .u, .u, .u, .u, .u, .u, .u, .u, .u, .u, .u, .u, .u, .u, .u, .u, .u, .u, .u, .u, .u, .u, .u, .u, .u, .u, .u, .u, .u, .u, .u, .u, .u, .u, .u, .u, .u, .u, .u, .u, .u, .u, .u, .u, .u, .u, .u, .u, .u, .u, .u, .u, .u, .u, .u, .u, .u, .u, .u, .u, .u, .u, .u, .u, .u, .u], [.c [.u, .u, .u], .c [.d (.int .u32), .d (.slice (.int .u8)), .d (.int .u64), .p 2 0, .d .bool, .d .bool, .d (.int .u32), .d (.int .u64), .d .bool, .d .bool, .d .bool, .d (.int .u64), .o 1062 kS3], .c [.g kS0, .d .bool, .d (.int .u32), .d (.int .u64)], .m .u64]⟩
abbrev law25ClientOnce.outj23e1 : Shp := ⟨[.u, .u, .u, .u, .u, .u, .d .bool, .u, .u, .u, .u, .u, .u, .u, .u, .u, .u, .u, .u, .u, .u, .u, .u, .u, .u, .u, .u, .u, .u, .u, .u, .u, .u, .u, .u, .u, .u, .u, .u, .u, .u, .u, .u, .u, .u, .u, .u, .u, .u, .u, .u, .u, .u, .u, .u, .u, .u, .u, .u, .u, .u, .u, .u, .u, .u, .u, .u, .u, .u, .u, .u, .u, .u, .u, .u, .u, .u, .u, .u, .u, .u, .u, .u, .u, .u, .u, .u, .u, .u, .u, .u, .u, .u, .u, .u, .u, .u, .u, .u, .u, .u, .u, .u, .u, .u, .u, .u, .u, .u, .u, .u, .u, .u, .u, .u, .u, .u, .u, .u, .u, .u, .u, .u, .u, .u, .u, .u, .u, .u, .u, .u, .u, .u, .u, .u, .u, .u, .u, .u, .u, .u, .u, .u, .u, .u, .u, .u, .u, .u], []⟩
noncomputable def law25ClientOnce.nmj23 : Norm := ⟨{ keep := [7, 9, 37, 38, 39], shut := [(37, (.slice kS6)), (38, (.int .i64)), (39, (.int .i64))], retag := [], heap := 4, dead := [0], cshut := [(1, 0, (.int .u32)), (1, 1, (.slice (.int .u8))), (1, 2, (.int .u64)), (1, 4, .bool), (1, 5, .bool), (1, 6, (.int .u32)), (1, 7, (.int .u64)), (1, 8, .bool), (1, 9, .bool), (1, 10, .bool), (1, 11, (.int .u64)), (2, 0, (.int .u32)), (2, 1, (.int .u32)), (2, 2, (.int .u32)), (2, 3, .bool), (2, 4, (.int .u32)), (2, 5, (.int .u64))], cretag := [(1, 12, 1062, kS3)] }, [(0, { keep := [7, 9, 37, 38, 39], shut := [(37, (.slice kS6)), (38, (.int .i64)), (39, (.int .i64))], retag := [], heap := 4, dead := [0], cshut := [(1, 0, (.int .u32)), (1, 1, (.slice (.int .u8))), (1, 2, (.int .u64)), (1, 4, .bool), (1, 5, .bool), (1, 6, (.int .u32)), (1, 7, (.int .u64)), (1, 8, .bool), (1, 9, .bool), (1, 10, .bool), (1, 11, (.int .u64)), (2, 0, (.int .u32)), (2, 1, (.int .u32)), (2, 2, (.int .u32)), (2, 3, .bool), (2, 4, (.int .u32)), (2, 5, (.int .u64))], cretag := [(1, 12, 1062, kS3)] }), (1, { keep := [6], shut := [(6, .bool)], retag := [], heap := 0, dead := [], cshut := [], cretag := [] })]⟩
abbrev law25ClientOnce.shl6 : Shp := ⟨[.u, .u, .u, .u, .u, .u, .u, .p 1 0, .u, .mp 3, .u, .u, .u, .u, .u, .u, .u, .u, .u, .u, .u, .u, .u, .u, .u, .u, .u, .u, .u, .u, .u, .u, .u, .u, .u, .u, .u, .d (.slice kS6), .d (.int .i64), .d (.int .i64), .u, .u, .u, .u, .u, .u, .u, .u, .u, .u, .u, .u, .u, .u, .u, .u, .u, .u, .u, .u, .u, .u, .u, .u, .u, .u, .u, .u, .u, .u, .u, .u, .u, .u, .u, .u, .u, .u, .u, .u, .u, .u, .u, .u, .u, .u, .u, .u, .u, .u, .u, .u, .u, .u, .u, .u, .u, .u, .u, .u, .u, .u, .u, .u, .u, .u, .u, .u, .u, .u, .u, .u, .u, .u, .u, .u, .u, .u, .u, .u, .u, .u, .u, .u, .u, .u, .u, .u, .u, .u, .u, .u, .u, .u, .u, .u, .u, .u, .u, .u, .u, .u, .u, .u, .u, .u, .u, .u, .u], [.c [.u, .u, .u], .c [.d (.int .u32), .d (.slice (.int .u8)), .d (.int .u64), .p 2 0, .d .bool, .d .bool, .d (.int .u32), .d (.int .u64), .d .bool, .d .bool, .d .bool, .d (.int .u64), .o 1062 kS3], .c [.g kS0, .d .bool, .d (.int .u32), .d (.int .u64)], .m .u64]⟩
abbrev law25ClientOnce.outl6e1 : Shp := ⟨[.u, .u, .u, .u, .u, .u, .d .bool, .u, .u, .u, .u, .u, .u, .u, .u, .u, .u, .u, .u, .u, .u, .u, .u, .u, .u, .u, .u, .u, .u, .u, .u, .u, .u, .u, .u, .u, .u, .u, .u, .u, .u, .u, .u, .u, .u, .u, .u, .u, .u, .u, .u, .u, .u, .u, .u, .u, .u, .u, .u, .u, .u, .u, .u, .u, .u, .u, .u, .u, .u, .u, .u, .u, .u, .u, .u, .u, .u, .u, .u, .u, .u, .u, .u, .u, .u, .u, .u, .u, .u, .u, .u, .u, .u, .u, .u, .u, .u, .u, .u, .u, .u, .u, .u, .u, .u, .u, .u, .u, .u, .u, .u, .u, .u, .u, .u, .u, .u, .u, .u, .u, .u, .u, .u, .u, .u, .u, .u, .u, .u, .u, .u, .u, .u, .u, .u, .u, .u, .u, .u, .u, .u, .u, .u, .u, .u, .u, .u, .u, .u], []⟩
abbrev law25ClientOnce.outl6e2 : Shp := ⟨[.u, .u, .u, .u, .u, .u, .u, .u, .u, .u, .u, .u, .u, .u, .u, .u, .u, .u, .u, .u, .u, .u, .u, .u, .u, .u, .u, .u, .u, .u, .u, .u, .u, .u, .u, .u, .u, .u, .u, .u, .u, .u, .u, .u, .u, .u, .u, .u, .u, .u, .u, .u, .u, .u, .u, .u, .u, .u, .u, .u, .u, .u, .u, .u, .u, .u, .u, .u, .u, .u, .u, .u, .u, .u, .u, .u, .u, .u, .u, .u, .u, .u, .u, .u, .u, .u, .u, .u, .u, .u, .u, .u, .u, .u, .u, .u, .u, .u, .u, .u, .u, .u, .u, .u, .u, .u, .u, .u, .u, .u, .u, .u, .u, .u, .u, .u, .u, .u, .u, .u, .u, .u, .u, .u, .u, .u, .u, .u, .u, .u, .u, .u, .u, .u, .u, .u, .u, .u, .u, .u, .u, .u, .u, .u, .u, .u, .u, .u, .u], []⟩
noncomputable def law25ClientOnce.nml6 : Norm := ⟨{ keep := [7, 9, 37, 38, 39], shut := [(37, (.slice kS6)), (38, (.int .i64)), (39, (.int .i64))], retag := [], heap := 4, dead := [0], cshut := [(1, 0, (.int .u32)), (1, 1, (.slice (.int .u8))), (1, 2, (.int .u64)), (1, 4, .bool), (1, 5, .bool), (1, 6, (.int .u32)), (1, 7, (.int .u64)), (1, 8, .bool), (1, 9, .bool), (1, 10, .bool), (1, 11, (.int .u64)), (2, 0, (.int .u32)), (2, 1, (.int .u32)), (2, 2, (.int .u32)), (2, 3, .bool), (2, 4, (.int .u32)), (2, 5, (.int .u64))], cretag := [(1, 12, 1062, kS3)] }, [(1, { keep := [6], shut := [(6, .bool)], retag := [], heap := 0, dead := [], cshut := [], cretag := [] }), (2, { keep := [], shut := [], retag := [], heap := 0, dead := [], cshut := [], cretag := [] })]⟩
noncomputable def law25ClientOnce.con : Con := { ps := [(.int .u32), kS0, (.slice kS6)], rs := [.bool], f := fun n x => law25ClientOnce n x.1 x.2.1 x.2.2.1 }
noncomputable def law25ClientOnce.env : Env := { tys := [(24, ⟨kS0, 12⟩), (4, ⟨.bool, 1⟩), (26, ⟨.np, 8⟩), (39, ⟨kS6, 80⟩), (3, ⟨(.int .i64), 8⟩), (34, ⟨(.int .u64), 8⟩), (37, ⟨kS5, 56⟩), (5, ⟨(.int .u8), 1⟩), (52, ⟨kS3, 24⟩)], elems := [(25, 39), (41, 37), (47, 52)], ptrs := [(26, 98)], cons := [(10, law25Fixed.con), (11, ref23May.con), (12, law25Cut.con), (17, law25Own.con), (18, clientClientHas.con)], objs := [(9, [clientNew.con]), (13, [clientClientCome.con]), (14, [clientClientSend.con]), (15, [clientClientPicky.con]), (16, [clientClientHear.con]), (19, [clientClientHanded.con])], loops := [(10, law25ClientOnce.nml10), (25, law25ClientOnce.nml25), (6, law25ClientOnce.nml6)], cuts := [(14, law25ClientOnce.nmj14), (23, law25ClientOnce.nmj23)], globs := globs, base := 0, maps := [(32, .u64)], firsts := [(9, 8)] }
noncomputable def law25ClientOnce.lp (n : Nat) : LP (Kd.struct law25ClientOnce.con.rs).T := fun lo κ body nm K s =>
  cond (!lo && Nat.beq κ 14)
    (match law25ClientOnce.shj14.dec s with
    | some v => law25ClientOnce.j14 n (fun w0 w1 w2 w3 w4 w5 w6 w7 w8 w9 w10 w11 w12 w13 w14 w15 w16 w17 w18 w19 w20 w21 w22 => K .normal (law25ClientOnce.outj14e0.enc (w0, w1, w2, w3, w4, w5, w6, w7, w8, w9, w10, w11, w12, w13, w14, w15, w16, w17, w18, w19, w20, w21, w22, ()))) (fun w0 => K .ret (law25ClientOnce.outj14e1.enc (w0, ()))) v.1 v.2.1 v.2.2.1 v.2.2.2.1 v.2.2.2.2.1 v.2.2.2.2.2.1 v.2.2.2.2.2.2.1 v.2.2.2.2.2.2.2.1 v.2.2.2.2.2.2.2.2.1 v.2.2.2.2.2.2.2.2.2.1 v.2.2.2.2.2.2.2.2.2.2.1 v.2.2.2.2.2.2.2.2.2.2.2.1 v.2.2.2.2.2.2.2.2.2.2.2.2.1 v.2.2.2.2.2.2.2.2.2.2.2.2.2.1 v.2.2.2.2.2.2.2.2.2.2.2.2.2.2.1 v.2.2.2.2.2.2.2.2.2.2.2.2.2.2.2.1 v.2.2.2.2.2.2.2.2.2.2.2.2.2.2.2.2.1 v.2.2.2.2.2.2.2.2.2.2.2.2.2.2.2.2.2.1 v.2.2.2.2.2.2.2.2.2.2.2.2.2.2.2.2.2.2.1 v.2.2.2.2.2.2.2.2.2.2.2.2.2.2.2.2.2.2.2.1 v.2.2.2.2.2.2.2.2.2.2.2.2.2.2.2.2.2.2.2.2.1 v.2.2.2.2.2.2.2.2.2.2.2.2.2.2.2.2.2.2.2.2.2.1 v.2.2.2.2.2.2.2.2.2.2.2.2.2.2.2.2.2.2.2.2.2.2.1 v.2.2.2.2.2.2.2.2.2.2.2.2.2.2.2.2.2.2.2.2.2.2.2.1
    | none => loops n (Kd.struct law25ClientOnce.con.rs).T lo κ body nm K s)
    (cond (lo && Nat.beq κ 10)
    (match law25ClientOnce.shl10.dec s with
    | some v => law25ClientOnce.l10 n (fun w0 => K .ret (law25ClientOnce.outl10e1.enc (w0, ()))) (fun w0 w1 w2 w3 w4 w5 w6 w7 w8 w9 w10 w11 w12 w13 w14 w15 w16 w17 w18 w19 => K (.exit 3) (law25ClientOnce.outl10e5.enc (w0, w1, w2, w3, w4, w5, w6, w7, w8, w9, w10, w11, w12, w13, w14, w15, w16, w17, w18, w19, ()))) n v.1 v.2.1 v.2.2.1 v.2.2.2.1 v.2.2.2.2.1 v.2.2.2.2.2.1 v.2.2.2.2.2.2.1 v.2.2.2.2.2.2.2.1 v.2.2.2.2.2.2.2.2.1 v.2.2.2.2.2.2.2.2.2.1 v.2.2.2.2.2.2.2.2.2.2.1 v.2.2.2.2.2.2.2.2.2.2.2.1 v.2.2.2.2.2.2.2.2.2.2.2.2.1 v.2.2.2.2.2.2.2.2.2.2.2.2.2.1 v.2.2.2.2.2.2.2.2.2.2.2.2.2.2.1 v.2.2.2.2.2.2.2.2.2.2.2.2.2.2.2.1 v.2.2.2.2.2.2.2.2.2.2.2.2.2.2.2.2.1 v.2.2.2.2.2.2.2.2.2.2.2.2.2.2.2.2.2.1 v.2.2.2.2.2.2.2.2.2.2.2.2.2.2.2.2.2.2.1 v.2.2.2.2.2.2.2.2.2.2.2.2.2.2.2.2.2.2.2.1 v.2.2.2.2.2.2.2.2.2.2.2.2.2.2.2.2.2.2.2.2.1 v.2.2.2.2.2.2.2.2.2.2.2.2.2.2.2.2.2.2.2.2.2.1 v.2.2.2.2.2.2.2.2.2.2.2.2.2.2.2.2.2.2.2.2.2.2.1
    | none => loops n (Kd.struct law25ClientOnce.con.rs).T lo κ body nm K s)
    (cond (lo && Nat.beq κ 25)
    (match law25ClientOnce.shl25.dec s with
    | some v => law25ClientOnce.l25 n (fun w0 => K .ret (law25ClientOnce.outl25e1.enc (w0, ()))) (fun w0 w1 w2 w3 w4 w5 w6 w7 w8 w9 w10 w11 w12 w13 w14 w15 w16 w17 w18 w19 w20 => K (.exit 5) (law25ClientOnce.outl25e7.enc (w0, w1, w2, w3, w4, w5, w6, w7, w8, w9, w10, w11, w12, w13, w14, w15, w16, w17, w18, w19, w20, ()))) n v.1 v.2.1 v.2.2.1 v.2.2.2.1 v.2.2.2.2.1 v.2.2.2.2.2.1 v.2.2.2.2.2.2.1 v.2.2.2.2.2.2.2.1 v.2.2.2.2.2.2.2.2.1 v.2.2.2.2.2.2.2.2.2.1 v.2.2.2.2.2.2.2.2.2.2.1 v.2.2.2.2.2.2.2.2.2.2.2.1 v.2.2.2.2.2.2.2.2.2.2.2.2.1 v.2.2.2.2.2.2.2.2.2.2.2.2.2.1 v.2.2.2.2.2.2.2.2.2.2.2.2.2.2.1 v.2.2.2.2.2.2.2.2.2.2.2.2.2.2.2.1 v.2.2.2.2.2.2.2.2.2.2.2.2.2.2.2.2.1 v.2.2.2.2.2.2.2.2.2.2.2.2.2.2.2.2.2.1 v.2.2.2.2.2.2.2.2.2.2.2.2.2.2.2.2.2.2.1 v.2.2.2.2.2.2.2.2.2.2.2.2.2.2.2.2.2.2.2.1 v.2.2.2.2.2.2.2.2.2.2.2.2.2.2.2.2.2.2.2.2.1 v.2.2.2.2.2.2.2.2.2.2.2.2.2.2.2.2.2.2.2.2.2.1 v.2.2.2.2.2.2.2.2.2.2.2.2.2.2.2.2.2.2.2.2.2.2.1 v.2.2.2.2.2.2.2.2.2.2.2.2.2.2.2.2.2.2.2.2.2.2.2.1
    | none => loops n (Kd.struct law25ClientOnce.con.rs).T lo κ body nm K s)
    (cond (!lo && Nat.beq κ 23)
    (match law25ClientOnce.shj23.dec s with
    | some v => law25ClientOnce.j23 n (fun w0 w1 w2 w3 w4 w5 w6 w7 w8 w9 w10 w11 w12 w13 w14 w15 w16 w17 w18 w19 => K .normal (law25ClientOnce.outj23e0.enc (w0, w1, w2, w3, w4, w5, w6, w7, w8, w9, w10, w11, w12, w13, w14, w15, w16, w17, w18, w19, ()))) (fun w0 => K .ret (law25ClientOnce.outj23e1.enc (w0, ()))) v.1 v.2.1 v.2.2.1 v.2.2.2.1 v.2.2.2.2.1 v.2.2.2.2.2.1 v.2.2.2.2.2.2.1 v.2.2.2.2.2.2.2.1 v.2.2.2.2.2.2.2.2.1 v.2.2.2.2.2.2.2.2.2.1 v.2.2.2.2.2.2.2.2.2.2.1 v.2.2.2.2.2.2.2.2.2.2.2.1 v.2.2.2.2.2.2.2.2.2.2.2.2.1 v.2.2.2.2.2.2.2.2.2.2.2.2.2.1 v.2.2.2.2.2.2.2.2.2.2.2.2.2.2.1 v.2.2.2.2.2.2.2.2.2.2.2.2.2.2.2.1 v.2.2.2.2.2.2.2.2.2.2.2.2.2.2.2.2.1 v.2.2.2.2.2.2.2.2.2.2.2.2.2.2.2.2.2.1 v.2.2.2.2.2.2.2.2.2.2.2.2.2.2.2.2.2.2.1 v.2.2.2.2.2.2.2.2.2.2.2.2.2.2.2.2.2.2.2.1
    | none => loops n (Kd.struct law25ClientOnce.con.rs).T lo κ body nm K s)
    (cond (lo && Nat.beq κ 6)
    (match law25ClientOnce.shl6.dec s with
    | some v => law25ClientOnce.l6 n (fun w0 => K .ret (law25ClientOnce.outl6e1.enc (w0, ()))) (fun _ => K (.exit 0) (law25ClientOnce.outl6e2.enc (()))) n v.1 v.2.1 v.2.2.1 v.2.2.2.1 v.2.2.2.2.1 v.2.2.2.2.2.1 v.2.2.2.2.2.2.1 v.2.2.2.2.2.2.2.1 v.2.2.2.2.2.2.2.2.1 v.2.2.2.2.2.2.2.2.2.1 v.2.2.2.2.2.2.2.2.2.2.1 v.2.2.2.2.2.2.2.2.2.2.2.1 v.2.2.2.2.2.2.2.2.2.2.2.2.1 v.2.2.2.2.2.2.2.2.2.2.2.2.2.1 v.2.2.2.2.2.2.2.2.2.2.2.2.2.2.1 v.2.2.2.2.2.2.2.2.2.2.2.2.2.2.2.1 v.2.2.2.2.2.2.2.2.2.2.2.2.2.2.2.2.1 v.2.2.2.2.2.2.2.2.2.2.2.2.2.2.2.2.2.1 v.2.2.2.2.2.2.2.2.2.2.2.2.2.2.2.2.2.2.1 v.2.2.2.2.2.2.2.2.2.2.2.2.2.2.2.2.2.2.2.1
    | none => loops n (Kd.struct law25ClientOnce.con.rs).T lo κ body nm K s)
    (loops n (Kd.struct law25ClientOnce.con.rs).T lo κ body nm K s)))))
theorem law25ClientOnce.atj14 (n : Nat) (s : St) (K : Ex → St → Option (Kd.struct law25ClientOnce.con.rs).T) : (law25ClientOnce.lp n) false 14 (evK law25ClientOnce.env (law25ClientOnce.lp n) n (sub [1, 1, 1, 1, 0, 1, 0, 0, 1, 1, 0, 0, 1, 0, 1, 0, 1, 1, 1, 1, 1, 1, 1, 0, 0, 1, 1, 0, 0, 1, 1] law25ClientOnce.body)) law25ClientOnce.nmj14 K s = loops n (Kd.struct law25ClientOnce.con.rs).T false 14 (evK law25ClientOnce.env (law25ClientOnce.lp n) n (sub [1, 1, 1, 1, 0, 1, 0, 0, 1, 1, 0, 0, 1, 0, 1, 0, 1, 1, 1, 1, 1, 1, 1, 0, 0, 1, 1, 0, 0, 1, 1] law25ClientOnce.body)) law25ClientOnce.nmj14 K s := by
  show (match law25ClientOnce.shj14.dec s with | some v => law25ClientOnce.j14 n (fun w0 w1 w2 w3 w4 w5 w6 w7 w8 w9 w10 w11 w12 w13 w14 w15 w16 w17 w18 w19 w20 w21 w22 => K .normal (law25ClientOnce.outj14e0.enc (w0, w1, w2, w3, w4, w5, w6, w7, w8, w9, w10, w11, w12, w13, w14, w15, w16, w17, w18, w19, w20, w21, w22, ()))) (fun w0 => K .ret (law25ClientOnce.outj14e1.enc (w0, ()))) v.1 v.2.1 v.2.2.1 v.2.2.2.1 v.2.2.2.2.1 v.2.2.2.2.2.1 v.2.2.2.2.2.2.1 v.2.2.2.2.2.2.2.1 v.2.2.2.2.2.2.2.2.1 v.2.2.2.2.2.2.2.2.2.1 v.2.2.2.2.2.2.2.2.2.2.1 v.2.2.2.2.2.2.2.2.2.2.2.1 v.2.2.2.2.2.2.2.2.2.2.2.2.1 v.2.2.2.2.2.2.2.2.2.2.2.2.2.1 v.2.2.2.2.2.2.2.2.2.2.2.2.2.2.1 v.2.2.2.2.2.2.2.2.2.2.2.2.2.2.2.1 v.2.2.2.2.2.2.2.2.2.2.2.2.2.2.2.2.1 v.2.2.2.2.2.2.2.2.2.2.2.2.2.2.2.2.2.1 v.2.2.2.2.2.2.2.2.2.2.2.2.2.2.2.2.2.2.1 v.2.2.2.2.2.2.2.2.2.2.2.2.2.2.2.2.2.2.2.1 v.2.2.2.2.2.2.2.2.2.2.2.2.2.2.2.2.2.2.2.2.1 v.2.2.2.2.2.2.2.2.2.2.2.2.2.2.2.2.2.2.2.2.2.1 v.2.2.2.2.2.2.2.2.2.2.2.2.2.2.2.2.2.2.2.2.2.2.1 v.2.2.2.2.2.2.2.2.2.2.2.2.2.2.2.2.2.2.2.2.2.2.2.1 | none => loops n (Kd.struct law25ClientOnce.con.rs).T false 14 (evK law25ClientOnce.env (law25ClientOnce.lp n) n (sub [1, 1, 1, 1, 0, 1, 0, 0, 1, 1, 0, 0, 1, 0, 1, 0, 1, 1, 1, 1, 1, 1, 1, 0, 0, 1, 1, 0, 0, 1, 1] law25ClientOnce.body)) law25ClientOnce.nmj14 K s) = _
  cases h : law25ClientOnce.shj14.dec s with
  | none => rfl
  | some v =>
    rw [Shp.dec_enc h]
    kernel_rfl
theorem law25ClientOnce.atl10 (n : Nat) (s : St) (K : Ex → St → Option (Kd.struct law25ClientOnce.con.rs).T) : (law25ClientOnce.lp n) true 10 (evK law25ClientOnce.env (law25ClientOnce.lp n) n (sub [1, 1, 1, 1, 0, 1, 0, 0, 1, 1, 0, 0, 1, 0, 1, 0, 1, 1, 1, 1, 1, 1, 1, 0, 0] law25ClientOnce.body)) law25ClientOnce.nml10 K s = loops n (Kd.struct law25ClientOnce.con.rs).T true 10 (evK law25ClientOnce.env (law25ClientOnce.lp n) n (sub [1, 1, 1, 1, 0, 1, 0, 0, 1, 1, 0, 0, 1, 0, 1, 0, 1, 1, 1, 1, 1, 1, 1, 0, 0] law25ClientOnce.body)) law25ClientOnce.nml10 K s := by
  show (match law25ClientOnce.shl10.dec s with | some v => law25ClientOnce.l10 n (fun w0 => K .ret (law25ClientOnce.outl10e1.enc (w0, ()))) (fun w0 w1 w2 w3 w4 w5 w6 w7 w8 w9 w10 w11 w12 w13 w14 w15 w16 w17 w18 w19 => K (.exit 3) (law25ClientOnce.outl10e5.enc (w0, w1, w2, w3, w4, w5, w6, w7, w8, w9, w10, w11, w12, w13, w14, w15, w16, w17, w18, w19, ()))) n v.1 v.2.1 v.2.2.1 v.2.2.2.1 v.2.2.2.2.1 v.2.2.2.2.2.1 v.2.2.2.2.2.2.1 v.2.2.2.2.2.2.2.1 v.2.2.2.2.2.2.2.2.1 v.2.2.2.2.2.2.2.2.2.1 v.2.2.2.2.2.2.2.2.2.2.1 v.2.2.2.2.2.2.2.2.2.2.2.1 v.2.2.2.2.2.2.2.2.2.2.2.2.1 v.2.2.2.2.2.2.2.2.2.2.2.2.2.1 v.2.2.2.2.2.2.2.2.2.2.2.2.2.2.1 v.2.2.2.2.2.2.2.2.2.2.2.2.2.2.2.1 v.2.2.2.2.2.2.2.2.2.2.2.2.2.2.2.2.1 v.2.2.2.2.2.2.2.2.2.2.2.2.2.2.2.2.2.1 v.2.2.2.2.2.2.2.2.2.2.2.2.2.2.2.2.2.2.1 v.2.2.2.2.2.2.2.2.2.2.2.2.2.2.2.2.2.2.2.1 v.2.2.2.2.2.2.2.2.2.2.2.2.2.2.2.2.2.2.2.2.1 v.2.2.2.2.2.2.2.2.2.2.2.2.2.2.2.2.2.2.2.2.2.1 v.2.2.2.2.2.2.2.2.2.2.2.2.2.2.2.2.2.2.2.2.2.2.1 | none => loops n (Kd.struct law25ClientOnce.con.rs).T true 10 (evK law25ClientOnce.env (law25ClientOnce.lp n) n (sub [1, 1, 1, 1, 0, 1, 0, 0, 1, 1, 0, 0, 1, 0, 1, 0, 1, 1, 1, 1, 1, 1, 1, 0, 0] law25ClientOnce.body)) law25ClientOnce.nml10 K s) = _
  cases h : law25ClientOnce.shl10.dec s with
  | none => rfl
  | some v =>
    rw [Shp.dec_enc h]
    exact (evLoop_eq (sh := law25ClientOnce.shl10) (body := evK law25ClientOnce.env (law25ClientOnce.lp n) n (sub [1, 1, 1, 1, 0, 1, 0, 0, 1, 1, 0, 0, 1, 0, 1, 0, 1, 1, 1, 1, 1, 1, 1, 0, 0] law25ClientOnce.body)) (nm := law25ClientOnce.nml10) (K := K) (b := fun nx v => law25ClientOnce.b10 n (fun x0 x1 x2 x3 x4 x5 x6 x7 x8 x9 x10 x11 x12 x13 x14 x15 x16 x17 x18 x19 x20 x21 x22 => nx (x0, x1, x2, x3, x4, x5, x6, x7, x8, x9, x10, x11, x12, x13, x14, x15, x16, x17, x18, x19, x20, x21, x22, ())) (fun w0 => K .ret (law25ClientOnce.outl10e1.enc (w0, ()))) (fun w0 w1 w2 w3 w4 w5 w6 w7 w8 w9 w10 w11 w12 w13 w14 w15 w16 w17 w18 w19 => K (.exit 3) (law25ClientOnce.outl10e5.enc (w0, w1, w2, w3, w4, w5, w6, w7, w8, w9, w10, w11, w12, w13, w14, w15, w16, w17, w18, w19, ()))) v.1 v.2.1 v.2.2.1 v.2.2.2.1 v.2.2.2.2.1 v.2.2.2.2.2.1 v.2.2.2.2.2.2.1 v.2.2.2.2.2.2.2.1 v.2.2.2.2.2.2.2.2.1 v.2.2.2.2.2.2.2.2.2.1 v.2.2.2.2.2.2.2.2.2.2.1 v.2.2.2.2.2.2.2.2.2.2.2.1 v.2.2.2.2.2.2.2.2.2.2.2.2.1 v.2.2.2.2.2.2.2.2.2.2.2.2.2.1 v.2.2.2.2.2.2.2.2.2.2.2.2.2.2.1 v.2.2.2.2.2.2.2.2.2.2.2.2.2.2.2.1 v.2.2.2.2.2.2.2.2.2.2.2.2.2.2.2.2.1 v.2.2.2.2.2.2.2.2.2.2.2.2.2.2.2.2.2.1 v.2.2.2.2.2.2.2.2.2.2.2.2.2.2.2.2.2.2.1 v.2.2.2.2.2.2.2.2.2.2.2.2.2.2.2.2.2.2.2.1 v.2.2.2.2.2.2.2.2.2.2.2.2.2.2.2.2.2.2.2.2.1 v.2.2.2.2.2.2.2.2.2.2.2.2.2.2.2.2.2.2.2.2.2.1 v.2.2.2.2.2.2.2.2.2.2.2.2.2.2.2.2.2.2.2.2.2.2.1) (l := fun m v => law25ClientOnce.l10 n (fun w0 => K .ret (law25ClientOnce.outl10e1.enc (w0, ()))) (fun w0 w1 w2 w3 w4 w5 w6 w7 w8 w9 w10 w11 w12 w13 w14 w15 w16 w17 w18 w19 => K (.exit 3) (law25ClientOnce.outl10e5.enc (w0, w1, w2, w3, w4, w5, w6, w7, w8, w9, w10, w11, w12, w13, w14, w15, w16, w17, w18, w19, ()))) m v.1 v.2.1 v.2.2.1 v.2.2.2.1 v.2.2.2.2.1 v.2.2.2.2.2.1 v.2.2.2.2.2.2.1 v.2.2.2.2.2.2.2.1 v.2.2.2.2.2.2.2.2.1 v.2.2.2.2.2.2.2.2.2.1 v.2.2.2.2.2.2.2.2.2.2.1 v.2.2.2.2.2.2.2.2.2.2.2.1 v.2.2.2.2.2.2.2.2.2.2.2.2.1 v.2.2.2.2.2.2.2.2.2.2.2.2.2.1 v.2.2.2.2.2.2.2.2.2.2.2.2.2.2.1 v.2.2.2.2.2.2.2.2.2.2.2.2.2.2.2.1 v.2.2.2.2.2.2.2.2.2.2.2.2.2.2.2.2.1 v.2.2.2.2.2.2.2.2.2.2.2.2.2.2.2.2.2.1 v.2.2.2.2.2.2.2.2.2.2.2.2.2.2.2.2.2.2.1 v.2.2.2.2.2.2.2.2.2.2.2.2.2.2.2.2.2.2.2.1 v.2.2.2.2.2.2.2.2.2.2.2.2.2.2.2.2.2.2.2.2.1 v.2.2.2.2.2.2.2.2.2.2.2.2.2.2.2.2.2.2.2.2.2.1 v.2.2.2.2.2.2.2.2.2.2.2.2.2.2.2.2.2.2.2.2.2.2.1) (fun _ => rfl) (fun _ _ => rfl) (fun m v => by kernel_rfl) n v).symm
theorem law25ClientOnce.atl25 (n : Nat) (s : St) (K : Ex → St → Option (Kd.struct law25ClientOnce.con.rs).T) : (law25ClientOnce.lp n) true 25 (evK law25ClientOnce.env (law25ClientOnce.lp n) n (sub [1, 1, 1, 1, 0, 1, 0, 0, 1, 1, 0, 0, 1, 1, 1, 0, 1, 0, 0] law25ClientOnce.body)) law25ClientOnce.nml25 K s = loops n (Kd.struct law25ClientOnce.con.rs).T true 25 (evK law25ClientOnce.env (law25ClientOnce.lp n) n (sub [1, 1, 1, 1, 0, 1, 0, 0, 1, 1, 0, 0, 1, 1, 1, 0, 1, 0, 0] law25ClientOnce.body)) law25ClientOnce.nml25 K s := by
  show (match law25ClientOnce.shl25.dec s with | some v => law25ClientOnce.l25 n (fun w0 => K .ret (law25ClientOnce.outl25e1.enc (w0, ()))) (fun w0 w1 w2 w3 w4 w5 w6 w7 w8 w9 w10 w11 w12 w13 w14 w15 w16 w17 w18 w19 w20 => K (.exit 5) (law25ClientOnce.outl25e7.enc (w0, w1, w2, w3, w4, w5, w6, w7, w8, w9, w10, w11, w12, w13, w14, w15, w16, w17, w18, w19, w20, ()))) n v.1 v.2.1 v.2.2.1 v.2.2.2.1 v.2.2.2.2.1 v.2.2.2.2.2.1 v.2.2.2.2.2.2.1 v.2.2.2.2.2.2.2.1 v.2.2.2.2.2.2.2.2.1 v.2.2.2.2.2.2.2.2.2.1 v.2.2.2.2.2.2.2.2.2.2.1 v.2.2.2.2.2.2.2.2.2.2.2.1 v.2.2.2.2.2.2.2.2.2.2.2.2.1 v.2.2.2.2.2.2.2.2.2.2.2.2.2.1 v.2.2.2.2.2.2.2.2.2.2.2.2.2.2.1 v.2.2.2.2.2.2.2.2.2.2.2.2.2.2.2.1 v.2.2.2.2.2.2.2.2.2.2.2.2.2.2.2.2.1 v.2.2.2.2.2.2.2.2.2.2.2.2.2.2.2.2.2.1 v.2.2.2.2.2.2.2.2.2.2.2.2.2.2.2.2.2.2.1 v.2.2.2.2.2.2.2.2.2.2.2.2.2.2.2.2.2.2.2.1 v.2.2.2.2.2.2.2.2.2.2.2.2.2.2.2.2.2.2.2.2.1 v.2.2.2.2.2.2.2.2.2.2.2.2.2.2.2.2.2.2.2.2.2.1 v.2.2.2.2.2.2.2.2.2.2.2.2.2.2.2.2.2.2.2.2.2.2.1 v.2.2.2.2.2.2.2.2.2.2.2.2.2.2.2.2.2.2.2.2.2.2.2.1 | none => loops n (Kd.struct law25ClientOnce.con.rs).T true 25 (evK law25ClientOnce.env (law25ClientOnce.lp n) n (sub [1, 1, 1, 1, 0, 1, 0, 0, 1, 1, 0, 0, 1, 1, 1, 0, 1, 0, 0] law25ClientOnce.body)) law25ClientOnce.nml25 K s) = _
  cases h : law25ClientOnce.shl25.dec s with
  | none => rfl
  | some v =>
    rw [Shp.dec_enc h]
    exact (evLoop_eq (sh := law25ClientOnce.shl25) (body := evK law25ClientOnce.env (law25ClientOnce.lp n) n (sub [1, 1, 1, 1, 0, 1, 0, 0, 1, 1, 0, 0, 1, 1, 1, 0, 1, 0, 0] law25ClientOnce.body)) (nm := law25ClientOnce.nml25) (K := K) (b := fun nx v => law25ClientOnce.b25 n (fun x0 x1 x2 x3 x4 x5 x6 x7 x8 x9 x10 x11 x12 x13 x14 x15 x16 x17 x18 x19 x20 x21 x22 x23 => nx (x0, x1, x2, x3, x4, x5, x6, x7, x8, x9, x10, x11, x12, x13, x14, x15, x16, x17, x18, x19, x20, x21, x22, x23, ())) (fun w0 => K .ret (law25ClientOnce.outl25e1.enc (w0, ()))) (fun w0 w1 w2 w3 w4 w5 w6 w7 w8 w9 w10 w11 w12 w13 w14 w15 w16 w17 w18 w19 w20 => K (.exit 5) (law25ClientOnce.outl25e7.enc (w0, w1, w2, w3, w4, w5, w6, w7, w8, w9, w10, w11, w12, w13, w14, w15, w16, w17, w18, w19, w20, ()))) v.1 v.2.1 v.2.2.1 v.2.2.2.1 v.2.2.2.2.1 v.2.2.2.2.2.1 v.2.2.2.2.2.2.1 v.2.2.2.2.2.2.2.1 v.2.2.2.2.2.2.2.2.1 v.2.2.2.2.2.2.2.2.2.1 v.2.2.2.2.2.2.2.2.2.2.1 v.2.2.2.2.2.2.2.2.2.2.2.1 v.2.2.2.2.2.2.2.2.2.2.2.2.1 v.2.2.2.2.2.2.2.2.2.2.2.2.2.1 v.2.2.2.2.2.2.2.2.2.2.2.2.2.2.1 v.2.2.2.2.2.2.2.2.2.2.2.2.2.2.2.1 v.2.2.2.2.2.2.2.2.2.2.2.2.2.2.2.2.1 v.2.2.2.2.2.2.2.2.2.2.2.2.2.2.2.2.2.1 v.2.2.2.2.2.2.2.2.2.2.2.2.2.2.2.2.2.2.1 v.2.2.2.2.2.2.2.2.2.2.2.2.2.2.2.2.2.2.2.1 v.2.2.2.2.2.2.2.2.2.2.2.2.2.2.2.2.2.2.2.2.1 v.2.2.2.2.2.2.2.2.2.2.2.2.2.2.2.2.2.2.2.2.2.1 v.2.2.2.2.2.2.2.2.2.2.2.2.2.2.2.2.2.2.2.2.2.2.1 v.2.2.2.2.2.2.2.2.2.2.2.2.2.2.2.2.2.2.2.2.2.2.2.1) (l := fun m v => law25ClientOnce.l25 n (fun w0 => K .ret (law25ClientOnce.outl25e1.enc (w0, ()))) (fun w0 w1 w2 w3 w4 w5 w6 w7 w8 w9 w10 w11 w12 w13 w14 w15 w16 w17 w18 w19 w20 => K (.exit 5) (law25ClientOnce.outl25e7.enc (w0, w1, w2, w3, w4, w5, w6, w7, w8, w9, w10, w11, w12, w13, w14, w15, w16, w17, w18, w19, w20, ()))) m v.1 v.2.1 v.2.2.1 v.2.2.2.1 v.2.2.2.2.1 v.2.2.2.2.2.1 v.2.2.2.2.2.2.1 v.2.2.2.2.2.2.2.1 v.2.2.2.2.2.2.2.2.1 v.2.2.2.2.2.2.2.2.2.1 v.2.2.2.2.2.2.2.2.2.2.1 v.2.2.2.2.2.2.2.2.2.2.2.1 v.2.2.2.2.2.2.2.2.2.2.2.2.1 v.2.2.2.2.2.2.2.2.2.2.2.2.2.1 v.2.2.2.2.2.2.2.2.2.2.2.2.2.2.1 v.2.2.2.2.2.2.2.2.2.2.2.2.2.2.2.1 v.2.2.2.2.2.2.2.2.2.2.2.2.2.2.2.2.1 v.2.2.2.2.2.2.2.2.2.2.2.2.2.2.2.2.2.1 v.2.2.2.2.2.2.2.2.2.2.2.2.2.2.2.2.2.2.1 v.2.2.2.2.2.2.2.2.2.2.2.2.2.2.2.2.2.2.2.1 v.2.2.2.2.2.2.2.2.2.2.2.2.2.2.2.2.2.2.2.2.1 v.2.2.2.2.2.2.2.2.2.2.2.2.2.2.2.2.2.2.2.2.2.1 v.2.2.2.2.2.2.2.2.2.2.2.2.2.2.2.2.2.2.2.2.2.2.1 v.2.2.2.2.2.2.2.2.2.2.2.2.2.2.2.2.2.2.2.2.2.2.2.1) (fun _ => rfl) (fun _ _ => rfl) (fun m v => by kernel_rfl) n v).symm
theorem law25ClientOnce.atj23 (n : Nat) (s : St) (K : Ex → St → Option (Kd.struct law25ClientOnce.con.rs).T) : (law25ClientOnce.lp n) false 23 (evK law25ClientOnce.env (law25ClientOnce.lp n) n (sub [1, 1, 1, 1, 0, 1, 0, 0, 1, 1, 0, 0, 1, 1] law25ClientOnce.body)) law25ClientOnce.nmj23 K s = loops n (Kd.struct law25ClientOnce.con.rs).T false 23 (evK law25ClientOnce.env (law25ClientOnce.lp n) n (sub [1, 1, 1, 1, 0, 1, 0, 0, 1, 1, 0, 0, 1, 1] law25ClientOnce.body)) law25ClientOnce.nmj23 K s := by
  show (match law25ClientOnce.shj23.dec s with | some v => law25ClientOnce.j23 n (fun w0 w1 w2 w3 w4 w5 w6 w7 w8 w9 w10 w11 w12 w13 w14 w15 w16 w17 w18 w19 => K .normal (law25ClientOnce.outj23e0.enc (w0, w1, w2, w3, w4, w5, w6, w7, w8, w9, w10, w11, w12, w13, w14, w15, w16, w17, w18, w19, ()))) (fun w0 => K .ret (law25ClientOnce.outj23e1.enc (w0, ()))) v.1 v.2.1 v.2.2.1 v.2.2.2.1 v.2.2.2.2.1 v.2.2.2.2.2.1 v.2.2.2.2.2.2.1 v.2.2.2.2.2.2.2.1 v.2.2.2.2.2.2.2.2.1 v.2.2.2.2.2.2.2.2.2.1 v.2.2.2.2.2.2.2.2.2.2.1 v.2.2.2.2.2.2.2.2.2.2.2.1 v.2.2.2.2.2.2.2.2.2.2.2.2.1 v.2.2.2.2.2.2.2.2.2.2.2.2.2.1 v.2.2.2.2.2.2.2.2.2.2.2.2.2.2.1 v.2.2.2.2.2.2.2.2.2.2.2.2.2.2.2.1 v.2.2.2.2.2.2.2.2.2.2.2.2.2.2.2.2.1 v.2.2.2.2.2.2.2.2.2.2.2.2.2.2.2.2.2.1 v.2.2.2.2.2.2.2.2.2.2.2.2.2.2.2.2.2.2.1 v.2.2.2.2.2.2.2.2.2.2.2.2.2.2.2.2.2.2.2.1 | none => loops n (Kd.struct law25ClientOnce.con.rs).T false 23 (evK law25ClientOnce.env (law25ClientOnce.lp n) n (sub [1, 1, 1, 1, 0, 1, 0, 0, 1, 1, 0, 0, 1, 1] law25ClientOnce.body)) law25ClientOnce.nmj23 K s) = _
  cases h : law25ClientOnce.shj23.dec s with
  | none => rfl
  | some v =>
    rw [Shp.dec_enc h]
    kernel_rfl
theorem law25ClientOnce.atl6 (n : Nat) (s : St) (K : Ex → St → Option (Kd.struct law25ClientOnce.con.rs).T) : (law25ClientOnce.lp n) true 6 (evK law25ClientOnce.env (law25ClientOnce.lp n) n (sub [1, 1, 1, 1, 0, 1, 0, 0] law25ClientOnce.body)) law25ClientOnce.nml6 K s = loops n (Kd.struct law25ClientOnce.con.rs).T true 6 (evK law25ClientOnce.env (law25ClientOnce.lp n) n (sub [1, 1, 1, 1, 0, 1, 0, 0] law25ClientOnce.body)) law25ClientOnce.nml6 K s := by
  show (match law25ClientOnce.shl6.dec s with | some v => law25ClientOnce.l6 n (fun w0 => K .ret (law25ClientOnce.outl6e1.enc (w0, ()))) (fun _ => K (.exit 0) (law25ClientOnce.outl6e2.enc (()))) n v.1 v.2.1 v.2.2.1 v.2.2.2.1 v.2.2.2.2.1 v.2.2.2.2.2.1 v.2.2.2.2.2.2.1 v.2.2.2.2.2.2.2.1 v.2.2.2.2.2.2.2.2.1 v.2.2.2.2.2.2.2.2.2.1 v.2.2.2.2.2.2.2.2.2.2.1 v.2.2.2.2.2.2.2.2.2.2.2.1 v.2.2.2.2.2.2.2.2.2.2.2.2.1 v.2.2.2.2.2.2.2.2.2.2.2.2.2.1 v.2.2.2.2.2.2.2.2.2.2.2.2.2.2.1 v.2.2.2.2.2.2.2.2.2.2.2.2.2.2.2.1 v.2.2.2.2.2.2.2.2.2.2.2.2.2.2.2.2.1 v.2.2.2.2.2.2.2.2.2.2.2.2.2.2.2.2.2.1 v.2.2.2.2.2.2.2.2.2.2.2.2.2.2.2.2.2.2.1 v.2.2.2.2.2.2.2.2.2.2.2.2.2.2.2.2.2.2.2.1 | none => loops n (Kd.struct law25ClientOnce.con.rs).T true 6 (evK law25ClientOnce.env (law25ClientOnce.lp n) n (sub [1, 1, 1, 1, 0, 1, 0, 0] law25ClientOnce.body)) law25ClientOnce.nml6 K s) = _
  cases h : law25ClientOnce.shl6.dec s with
  | none => rfl
  | some v =>
    rw [Shp.dec_enc h]
    exact (evLoop_eq (sh := law25ClientOnce.shl6) (body := evK law25ClientOnce.env (law25ClientOnce.lp n) n (sub [1, 1, 1, 1, 0, 1, 0, 0] law25ClientOnce.body)) (nm := law25ClientOnce.nml6) (K := K) (b := fun nx v => law25ClientOnce.b6 n (fun x0 x1 x2 x3 x4 x5 x6 x7 x8 x9 x10 x11 x12 x13 x14 x15 x16 x17 x18 x19 => nx (x0, x1, x2, x3, x4, x5, x6, x7, x8, x9, x10, x11, x12, x13, x14, x15, x16, x17, x18, x19, ())) (fun w0 => K .ret (law25ClientOnce.outl6e1.enc (w0, ()))) (fun _ => K (.exit 0) (law25ClientOnce.outl6e2.enc (()))) v.1 v.2.1 v.2.2.1 v.2.2.2.1 v.2.2.2.2.1 v.2.2.2.2.2.1 v.2.2.2.2.2.2.1 v.2.2.2.2.2.2.2.1 v.2.2.2.2.2.2.2.2.1 v.2.2.2.2.2.2.2.2.2.1 v.2.2.2.2.2.2.2.2.2.2.1 v.2.2.2.2.2.2.2.2.2.2.2.1 v.2.2.2.2.2.2.2.2.2.2.2.2.1 v.2.2.2.2.2.2.2.2.2.2.2.2.2.1 v.2.2.2.2.2.2.2.2.2.2.2.2.2.2.1 v.2.2.2.2.2.2.2.2.2.2.2.2.2.2.2.1 v.2.2.2.2.2.2.2.2.2.2.2.2.2.2.2.2.1 v.2.2.2.2.2.2.2.2.2.2.2.2.2.2.2.2.2.1 v.2.2.2.2.2.2.2.2.2.2.2.2.2.2.2.2.2.2.1 v.2.2.2.2.2.2.2.2.2.2.2.2.2.2.2.2.2.2.2.1) (l := fun m v => law25ClientOnce.l6 n (fun w0 => K .ret (law25ClientOnce.outl6e1.enc (w0, ()))) (fun _ => K (.exit 0) (law25ClientOnce.outl6e2.enc (()))) m v.1 v.2.1 v.2.2.1 v.2.2.2.1 v.2.2.2.2.1 v.2.2.2.2.2.1 v.2.2.2.2.2.2.1 v.2.2.2.2.2.2.2.1 v.2.2.2.2.2.2.2.2.1 v.2.2.2.2.2.2.2.2.2.1 v.2.2.2.2.2.2.2.2.2.2.1 v.2.2.2.2.2.2.2.2.2.2.2.1 v.2.2.2.2.2.2.2.2.2.2.2.2.1 v.2.2.2.2.2.2.2.2.2.2.2.2.2.1 v.2.2.2.2.2.2.2.2.2.2.2.2.2.2.1 v.2.2.2.2.2.2.2.2.2.2.2.2.2.2.2.1 v.2.2.2.2.2.2.2.2.2.2.2.2.2.2.2.2.1 v.2.2.2.2.2.2.2.2.2.2.2.2.2.2.2.2.2.1 v.2.2.2.2.2.2.2.2.2.2.2.2.2.2.2.2.2.2.1 v.2.2.2.2.2.2.2.2.2.2.2.2.2.2.2.2.2.2.2.1) (fun _ => rfl) (fun _ _ => rfl) (fun m v => by kernel_rfl) n v).symm
theorem law25ClientOnce.eq (n : Nat) (x : (Kd.struct law25ClientOnce.con.ps).T) : evFunc law25ClientOnce.env Try.f3 law25ClientOnce.body law25ClientOnce.con.ps law25ClientOnce.con.rs (law25ClientOnce.lp n) n x = law25ClientOnce.con.f n x := by kernel_rfl
theorem law25ClientOnce.sound : Sound Try.prog globs 3 law25ClientOnce.con :=
  sound_by (E := law25ClientOnce.env) (c := law25ClientOnce.body) (envOk (G := globs) (lc := [(10, law25Fixed.con), (11, ref23May.con), (12, law25Cut.con), (17, law25Own.con), (18, clientClientHas.con)]) (lo := [(9, [clientNew.con]), (13, [clientClientCome.con]), (14, [clientClientSend.con]), (15, [clientClientPicky.con]), (16, [clientClientHear.con]), (19, [clientClientHanded.con])]) (envB_spec (by kernel_rfl)) rfl rfl ⟨.inl ⟨law25Fixed.sound, by kernel_rfl⟩, ⟨.inl ⟨ref23May.sound, by kernel_rfl⟩, ⟨.inl ⟨law25Cut.sound, by kernel_rfl⟩, ⟨.inl ⟨law25Own.sound, by kernel_rfl⟩, ⟨.inl ⟨clientClientHas.sound, by kernel_rfl⟩, trivial⟩⟩⟩⟩⟩ rfl ⟨⟨⟨clientNew.sound, trivial⟩, by kernel_rfl⟩, ⟨⟨⟨clientClientCome.sound, trivial⟩, by kernel_rfl⟩, ⟨⟨⟨clientClientSend.sound, trivial⟩, by kernel_rfl⟩, ⟨⟨⟨clientClientPicky.sound, trivial⟩, by kernel_rfl⟩, ⟨⟨⟨clientClientHear.sound, trivial⟩, by kernel_rfl⟩, ⟨⟨⟨clientClientHanded.sound, trivial⟩, by kernel_rfl⟩, trivial⟩⟩⟩⟩⟩⟩ (by kernel_rfl) (by kernel_rfl)) Try.func3 (by kernel_rfl) law25ClientOnce.lp (l := [(false, sub [1, 1, 1, 1, 0, 1, 0, 0, 1, 1, 0, 0, 1, 0, 1, 0, 1, 1, 1, 1, 1, 1, 1, 0, 0, 1, 1, 0, 0, 1, 1] law25ClientOnce.body, law25ClientOnce.nmj14), (true, sub [1, 1, 1, 1, 0, 1, 0, 0, 1, 1, 0, 0, 1, 0, 1, 0, 1, 1, 1, 1, 1, 1, 1, 0, 0] law25ClientOnce.body, law25ClientOnce.nml10), (true, sub [1, 1, 1, 1, 0, 1, 0, 0, 1, 1, 0, 0, 1, 1, 1, 0, 1, 0, 0] law25ClientOnce.body, law25ClientOnce.nml25), (false, sub [1, 1, 1, 1, 0, 1, 0, 0, 1, 1, 0, 0, 1, 1] law25ClientOnce.body, law25ClientOnce.nmj23), (true, sub [1, 1, 1, 1, 0, 1, 0, 0] law25ClientOnce.body, law25ClientOnce.nml6)]) (by kernel_rfl) (fun n => ⟨law25ClientOnce.atj14 n, ⟨law25ClientOnce.atl10 n, ⟨law25ClientOnce.atl25 n, ⟨law25ClientOnce.atj23 n, ⟨law25ClientOnce.atl6 n, trivial⟩⟩⟩⟩⟩) law25ClientOnce.eq
end
end Go.Shal.Pr
