/- Prints of functions, and proofs that they are what the code computes. By an AI agent. -/
import Derived.Test.YtdioeohfpgikmaaShC
import Derived.Test.YtdioeohfpgikmaaProg
set_option linter.unusedVariables false
set_option maxRecDepth 100000
namespace Go.Shal.Pr
open Go Go.Shal Go.Proofs
noncomputable section
def globs : Globs := []
abbrev kS0 : Kd := .struct [(.int .u32), (.int .u32), (.int .u32)]
abbrev S0 : Type := Int × Int × Int × Unit
abbrev kO1 : Ob := (.dat kS0 (.dat .bool (.dat (.int .u32) (.dat (.int .u64) .nil))))
abbrev O1 : Type := S0 × Bool × Int × Int × Unit
abbrev kO2 : Ob := (.dat kS0 (.dat (.int .u64) (.ref kO1 (.dat .bool (.dat (.int .u32) (.dat (.int .u64) (.dat (.int .u64) (.dat (.int .u64) (.dat .bool (.dat (.int .u64) .nil))))))))))
abbrev O2 : Type := S0 × Int × O1 × Bool × Int × Int × Int × Int × Bool × Int × Unit
abbrev kS3 : Kd := .struct [(.int .u8), (.int .u32), (.int .u32), (.int .u64), (.int .u64), (.slice (.int .u8))]
abbrev S3 : Type := Int × Int × Int × Int × Int × (List Int) × Unit
abbrev kS4 : Kd := .struct [(.int .i64), (.int .u32), (.int .u64), (.int .u64), (.int .u64)]
abbrev S4 : Type := Int × Int × Int × Int × Int × Unit
abbrev kS5 : Kd := .struct [kS0, .bool, (.int .u32), (.int .u64)]
abbrev S5 : Type := S0 × Bool × Int × Int × Unit
abbrev kS6 : Kd := .struct [kS0, (.int .u64), kS5, .bool, (.int .u32), (.int .u64), (.int .u64), (.int .u64), .bool, (.int .u64)]
abbrev S6 : Type := S0 × Int × S5 × Bool × Int × Int × Int × Int × Bool × Int × Unit
abbrev kS7 : Kd := .struct [kS0, (.int .u64), .np, .bool, (.int .u32), (.int .u64), (.int .u64), (.int .u64), .bool, (.int .u64)]
abbrev S7 : Type := S0 × Int × Unit × Bool × Int × Int × Int × Int × Bool × Int × Unit
noncomputable def serveSessionShutNil (fu : Nat) : Option ((Unit) × (Unit)) :=
  some ((()), (()))

noncomputable def serveSessionShutNil.body : Code := Try.f46.body.getD .skip
noncomputable def serveSessionShutNil.con : OCon := { ps := [.nil], rs := [], f := fun n x => serveSessionShutNil n }
noncomputable def serveSessionShutNil.env : Env := { tys := [(47, ⟨.np, 8⟩)], elems := [], ptrs := [(47, 92)], cons := [], objs := [], loops := [], cuts := [], globs := globs, base := 0 }
noncomputable def serveSessionShutNil.lp (n : Nat) : LP (RT serveSessionShutNil.con.rs × BT serveSessionShutNil.con.ps) := fun lo κ body nm K s =>
  loops n (RT serveSessionShutNil.con.rs × BT serveSessionShutNil.con.ps) lo κ body nm K s
theorem serveSessionShutNil.eq (n : Nat) (x : PT serveSessionShutNil.con.ps) : evFuncO serveSessionShutNil.env Try.f46 serveSessionShutNil.body serveSessionShutNil.con.ps serveSessionShutNil.con.rs (serveSessionShutNil.lp n) n x = serveSessionShutNil.con.f n x := by kernel_rfl
theorem serveSessionShutNil.sound : SoundO Try.prog globs 46 serveSessionShutNil.con :=
  sound_byO (E := serveSessionShutNil.env) (c := serveSessionShutNil.body) (envOk (G := globs) (lc := []) (lo := []) (envB_spec (by kernel_rfl)) rfl rfl trivial rfl trivial (by kernel_rfl) (by kernel_rfl)) Try.func46 (by kernel_rfl) (by kernel_rfl) (by kernel_rfl) serveSessionShutNil.lp (l := []) (by kernel_rfl) (fun n => trivial) serveSessionShutNil.eq
noncomputable def serveSessionIsOpenNil (fu : Nat) : Option ((Bool × Unit) × (Unit)) :=
  some ((false, ()), (()))

noncomputable def serveSessionIsOpenNil.body : Code := Try.f44.body.getD .skip
noncomputable def serveSessionIsOpenNil.con : OCon := { ps := [.nil], rs := [.dat .bool], f := fun n x => serveSessionIsOpenNil n }
noncomputable def serveSessionIsOpenNil.env : Env := { tys := [(4, ⟨.bool, 1⟩), (47, ⟨.np, 8⟩)], elems := [], ptrs := [(47, 92)], cons := [], objs := [], loops := [], cuts := [], globs := globs, base := 0 }
noncomputable def serveSessionIsOpenNil.lp (n : Nat) : LP (RT serveSessionIsOpenNil.con.rs × BT serveSessionIsOpenNil.con.ps) := fun lo κ body nm K s =>
  loops n (RT serveSessionIsOpenNil.con.rs × BT serveSessionIsOpenNil.con.ps) lo κ body nm K s
theorem serveSessionIsOpenNil.eq (n : Nat) (x : PT serveSessionIsOpenNil.con.ps) : evFuncO serveSessionIsOpenNil.env Try.f44 serveSessionIsOpenNil.body serveSessionIsOpenNil.con.ps serveSessionIsOpenNil.con.rs (serveSessionIsOpenNil.lp n) n x = serveSessionIsOpenNil.con.f n x := by kernel_rfl
theorem serveSessionIsOpenNil.sound : SoundO Try.prog globs 44 serveSessionIsOpenNil.con :=
  sound_byO (E := serveSessionIsOpenNil.env) (c := serveSessionIsOpenNil.body) (envOk (G := globs) (lc := []) (lo := []) (envB_spec (by kernel_rfl)) rfl rfl trivial rfl trivial (by kernel_rfl) (by kernel_rfl)) Try.func44 (by kernel_rfl) (by kernel_rfl) (by kernel_rfl) serveSessionIsOpenNil.lp (l := []) (by kernel_rfl) (fun n => trivial) serveSessionIsOpenNil.eq
noncomputable def serveSessionGrowNil (fu : Nat) (endv : Int) : Option ((Unit) × (Unit)) :=
  (serveSessionIsOpenNil fu).bind fun r1 =>
  cond r1.1.1 (
    let t2 := decide (endv ≤ (1099511627776 : Int))
    cond t2 (
      none) (
      some ((()), (())))) (
    some ((()), (())))

noncomputable def serveSessionGrowNil.body : Code := Try.f47.body.getD .skip
noncomputable def serveSessionGrowNil.con : OCon := { ps := [.nil, .dat (.int .u64)], rs := [], f := fun n x => serveSessionGrowNil n x.2.1 }
noncomputable def serveSessionGrowNil.env : Env := { tys := [(47, ⟨.np, 8⟩), (4, ⟨.bool, 1⟩)], elems := [], ptrs := [], cons := [], objs := [(44, [serveSessionIsOpenNil.con])], loops := [], cuts := [], globs := globs, base := 0 }
noncomputable def serveSessionGrowNil.lp (n : Nat) : LP (RT serveSessionGrowNil.con.rs × BT serveSessionGrowNil.con.ps) := fun lo κ body nm K s =>
  loops n (RT serveSessionGrowNil.con.rs × BT serveSessionGrowNil.con.ps) lo κ body nm K s
theorem serveSessionGrowNil.eq (n : Nat) (x : PT serveSessionGrowNil.con.ps) : evFuncO serveSessionGrowNil.env Try.f47 serveSessionGrowNil.body serveSessionGrowNil.con.ps serveSessionGrowNil.con.rs (serveSessionGrowNil.lp n) n x = serveSessionGrowNil.con.f n x := by kernel_rfl
theorem serveSessionGrowNil.sound : SoundO Try.prog globs 47 serveSessionGrowNil.con :=
  sound_byO (E := serveSessionGrowNil.env) (c := serveSessionGrowNil.body) (envOk (G := globs) (lc := []) (lo := [(44, [serveSessionIsOpenNil.con])]) (envB_spec (by kernel_rfl)) rfl rfl trivial rfl ⟨⟨⟨serveSessionIsOpenNil.sound, trivial⟩, by kernel_rfl⟩, trivial⟩ (by kernel_rfl) (by kernel_rfl)) Try.func47 (by kernel_rfl) (by kernel_rfl) (by kernel_rfl) serveSessionGrowNil.lp (l := []) (by kernel_rfl) (fun n => trivial) serveSessionGrowNil.eq
noncomputable def backMay (fu : Nat) (b : S0) : Option (Bool × Unit) :=
  cond (decide (b.1 ≥ (1 : Int))) (
    let t1 := decide (b.1 ≤ (65536 : Int))
    cond t1 (
      cond (decide (b.2.1 ≥ b.1)) (
        let t2 := decide (b.2.1 ≤ (1048576 : Int))
        cond t2 (
          let t3 := decide (b.2.2.1 ≥ (1 : Int))
          cond t3 (
            let t4 := decide (b.2.2.1 ≤ (64 : Int))
            some (t4, ())) (
            some (false, ()))) (
          some (false, ()))) (
        some (false, ()))) (
      some (false, ()))) (
    some (false, ()))

noncomputable def backMay.body : Code := Try.f16.body.getD .skip
noncomputable def backMay.con : Con := { ps := [kS0], rs := [.bool], f := fun n x => backMay n x.1 }
noncomputable def backMay.env : Env := { tys := [(24, ⟨kS0, 12⟩), (4, ⟨.bool, 1⟩), (22, ⟨(.int .u32), 4⟩)], elems := [], ptrs := [], cons := [], objs := [], loops := [], cuts := [], globs := globs, base := 0 }
noncomputable def backMay.lp (n : Nat) : LP (Kd.struct backMay.con.rs).T := fun lo κ body nm K s =>
  loops n (Kd.struct backMay.con.rs).T lo κ body nm K s
theorem backMay.eq (n : Nat) (x : (Kd.struct backMay.con.ps).T) : evFunc backMay.env Try.f16 backMay.body backMay.con.ps backMay.con.rs (backMay.lp n) n x = backMay.con.f n x := by kernel_rfl
theorem backMay.sound : Sound Try.prog globs 16 backMay.con :=
  sound_by (E := backMay.env) (c := backMay.body) (envOk (G := globs) (lc := []) (lo := []) (envB_spec (by kernel_rfl)) rfl rfl trivial rfl trivial (by kernel_rfl) (by kernel_rfl)) Try.func16 (by kernel_rfl) backMay.lp (l := []) (by kernel_rfl) (fun n => trivial) backMay.eq
noncomputable def backNew (fu : Nat) (b : S0) : Option (((Option O1) × Int × Unit) × (Unit)) :=
  (backMay fu b).bind fun r1 =>
  cond (!r1.1) (
    some ((none, (1 : Int), ()), (()))) (
    some ((some (b, false, (0 : Int), (0 : Int), ()), (0 : Int), ()), (())))

noncomputable def backNew.body : Code := Try.f28.body.getD .skip
noncomputable def backNew.con : OCon := { ps := [.dat kS0], rs := [.ref kO1, .dat (.int .i64)], f := fun n x => backNew n x.1 }
noncomputable def backNew.env : Env := { tys := [(24, ⟨kS0, 12⟩), (31, ⟨.np, 8⟩), (37, ⟨(.int .i64), 8⟩), (90, ⟨kS5, 32⟩)], elems := [], ptrs := [], cons := [(16, backMay.con)], objs := [], loops := [], cuts := [], globs := globs, base := 0 }
noncomputable def backNew.lp (n : Nat) : LP (RT backNew.con.rs × BT backNew.con.ps) := fun lo κ body nm K s =>
  loops n (RT backNew.con.rs × BT backNew.con.ps) lo κ body nm K s
theorem backNew.eq (n : Nat) (x : PT backNew.con.ps) : evFuncO backNew.env Try.f28 backNew.body backNew.con.ps backNew.con.rs (backNew.lp n) n x = backNew.con.f n x := by kernel_rfl
theorem backNew.sound : SoundO Try.prog globs 28 backNew.con :=
  sound_byO (E := backNew.env) (c := backNew.body) (envOk (G := globs) (lc := [(16, backMay.con)]) (lo := []) (envB_spec (by kernel_rfl)) rfl rfl ⟨.inl ⟨backMay.sound, by kernel_rfl⟩, trivial⟩ rfl trivial (by kernel_rfl) (by kernel_rfl)) Try.func28 (by kernel_rfl) (by kernel_rfl) (by kernel_rfl) backNew.lp (l := []) (by kernel_rfl) (fun n => trivial) backNew.eq
noncomputable def serveNew (fu : Nat) (b : S0) (window : Int) : Option (((Option O2) × Int × Unit) × (Unit)) :=
  (backNew fu b).bind fun r1 =>
  oc r1.1.1 (
    cond (r1.1.2.1 != (0 : Int)) (
      some ((none, (1 : Int), ()), (()))) (
      let t3 := decide (window < (1 : Int))
      cond t3 (
        some ((none, (1 : Int), ()), (()))) (
        let t4 := decide (window > (64 : Int))
        cond t4 (
          some ((none, (1 : Int), ()), (()))) (
          none)))) fun o2 =>
  cond (r1.1.2.1 != (0 : Int)) (
    some ((none, (1 : Int), ()), (()))) (
    let t5 := decide (window < (1 : Int))
    cond t5 (
      some ((none, (1 : Int), ()), (()))) (
      let t6 := decide (window > (64 : Int))
      cond t6 (
        some ((none, (1 : Int), ()), (()))) (
        some ((some (b, IntKind.u64.wrap window, o2, false, (0 : Int), (0 : Int), (0 : Int), (0 : Int), false, (0 : Int), ()), (0 : Int), ()), (())))))

noncomputable def serveNew.body : Code := Try.f31.body.getD .skip
noncomputable def serveNew.con : OCon := { ps := [.dat kS0, .dat (.int .i64)], rs := [.ref kO2, .dat (.int .i64)], f := fun n x => serveNew n x.1 x.2.1 }
noncomputable def serveNew.env : Env := { tys := [(24, ⟨kS0, 12⟩), (47, ⟨.np, 8⟩), (37, ⟨(.int .i64), 8⟩), (31, ⟨.np, 8⟩), (4, ⟨.bool, 1⟩), (27, ⟨(.int .u64), 8⟩), (3, ⟨(.int .i64), 8⟩), (92, ⟨kS7, 80⟩)], elems := [], ptrs := [], cons := [], objs := [(28, [backNew.con])], loops := [], cuts := [], globs := globs, base := 0 }
noncomputable def serveNew.lp (n : Nat) : LP (RT serveNew.con.rs × BT serveNew.con.ps) := fun lo κ body nm K s =>
  loops n (RT serveNew.con.rs × BT serveNew.con.ps) lo κ body nm K s
theorem serveNew.eq (n : Nat) (x : PT serveNew.con.ps) : evFuncO serveNew.env Try.f31 serveNew.body serveNew.con.ps serveNew.con.rs (serveNew.lp n) n x = serveNew.con.f n x := by kernel_rfl
theorem serveNew.sound : SoundO Try.prog globs 31 serveNew.con :=
  sound_byO (E := serveNew.env) (c := serveNew.body) (envOk (G := globs) (lc := []) (lo := [(28, [backNew.con])]) (envB_spec (by kernel_rfl)) rfl rfl trivial rfl ⟨⟨⟨backNew.sound, trivial⟩, by kernel_rfl⟩, trivial⟩ (by kernel_rfl) (by kernel_rfl)) Try.func31 (by kernel_rfl) (by kernel_rfl) (by kernel_rfl) serveNew.lp (l := []) (by kernel_rfl) (fun n => trivial) serveNew.eq
noncomputable def backTriesBegin (fu : Nat) (tv : O1) (now : Int) : Option ((Unit) × (O1 × Unit)) :=
  some ((()), ((tv.1, true, (0 : Int), now, ()), ()))

noncomputable def backTriesBegin.body : Code := Try.f22.body.getD .skip
noncomputable def backTriesBegin.con : OCon := { ps := [.obj kO1, .dat (.int .u64)], rs := [], f := fun n x => backTriesBegin n x.1 x.2.1 }
noncomputable def backTriesBegin.env : Env := { tys := [(90, ⟨kS5, 32⟩), (4, ⟨.bool, 1⟩), (22, ⟨(.int .u32), 4⟩), (27, ⟨(.int .u64), 8⟩)], elems := [], ptrs := [(31, 90)], cons := [], objs := [], loops := [], cuts := [], globs := globs, base := 1 }
noncomputable def backTriesBegin.lp (n : Nat) : LP (RT backTriesBegin.con.rs × BT backTriesBegin.con.ps) := fun lo κ body nm K s =>
  loops n (RT backTriesBegin.con.rs × BT backTriesBegin.con.ps) lo κ body nm K s
theorem backTriesBegin.eq (n : Nat) (x : PT backTriesBegin.con.ps) : evFuncO backTriesBegin.env Try.f22 backTriesBegin.body backTriesBegin.con.ps backTriesBegin.con.rs (backTriesBegin.lp n) n x = backTriesBegin.con.f n x := by kernel_rfl
theorem backTriesBegin.sound : SoundO Try.prog globs 22 backTriesBegin.con :=
  sound_byO (E := backTriesBegin.env) (c := backTriesBegin.body) (envOk (G := globs) (lc := []) (lo := []) (envB_spec (by kernel_rfl)) rfl rfl trivial rfl trivial (by kernel_rfl) (by kernel_rfl)) Try.func22 (by kernel_rfl) (by kernel_rfl) (by kernel_rfl) backTriesBegin.lp (l := []) (by kernel_rfl) (fun n => trivial) backTriesBegin.eq
noncomputable def serveSessionOpen (fu : Nat) (sv : O2) (epoch : Int) (cursor : Int) (endv : Int) (now : Int) : Option ((Int × Unit) × (O2 × Unit)) :=
  let t1 := decide (epoch ≤ sv.2.2.2.2.1)
  cond t1 (
    some (((15 : Int), ()), (sv, ()))) (
    cond (decide (cursor > endv)) (
      some (((5 : Int), ()), (sv, ()))) (
      let t2 := decide (endv > (1099511627776 : Int))
      cond t2 (
        some (((5 : Int), ()), (sv, ()))) (
        let t3 := decide (now > (1099511627776 : Int))
        cond t3 (
          some (((5 : Int), ()), (sv, ()))) (
          (backTriesBegin fu sv.2.2.1 now).bind fun r4 =>
          some (((0 : Int), ()), ((sv.1, sv.2.1, r4.2.1, true, epoch, cursor, endv, cursor, false, sv.2.2.2.2.2.2.2.2.2.1, ()), ()))))))

noncomputable def serveSessionOpen.body : Code := Try.f34.body.getD .skip
noncomputable def serveSessionOpen.con : OCon := { ps := [.obj kO2, .dat (.int .u32), .dat (.int .u64), .dat (.int .u64), .dat (.int .u64)], rs := [.dat (.int .i64)], f := fun n x => serveSessionOpen n x.1 x.2.1 x.2.2.1 x.2.2.2.1 x.2.2.2.2.1 }
noncomputable def serveSessionOpen.env : Env := { tys := [(37, ⟨(.int .i64), 8⟩), (92, ⟨kS7, 80⟩), (22, ⟨(.int .u32), 4⟩), (4, ⟨.bool, 1⟩), (27, ⟨(.int .u64), 8⟩), (31, ⟨.np, 8⟩)], elems := [], ptrs := [(47, 92)], cons := [], objs := [(22, [backTriesBegin.con])], loops := [], cuts := [], globs := globs, base := 2 }
noncomputable def serveSessionOpen.lp (n : Nat) : LP (RT serveSessionOpen.con.rs × BT serveSessionOpen.con.ps) := fun lo κ body nm K s =>
  loops n (RT serveSessionOpen.con.rs × BT serveSessionOpen.con.ps) lo κ body nm K s
theorem serveSessionOpen.eq (n : Nat) (x : PT serveSessionOpen.con.ps) : evFuncO serveSessionOpen.env Try.f34 serveSessionOpen.body serveSessionOpen.con.ps serveSessionOpen.con.rs (serveSessionOpen.lp n) n x = serveSessionOpen.con.f n x := by kernel_rfl
theorem serveSessionOpen.sound : SoundO Try.prog globs 34 serveSessionOpen.con :=
  sound_byO (E := serveSessionOpen.env) (c := serveSessionOpen.body) (envOk (G := globs) (lc := []) (lo := [(22, [backTriesBegin.con])]) (envB_spec (by kernel_rfl)) rfl rfl trivial rfl ⟨⟨⟨backTriesBegin.sound, trivial⟩, by kernel_rfl⟩, trivial⟩ (by kernel_rfl) (by kernel_rfl)) Try.func34 (by kernel_rfl) (by kernel_rfl) (by kernel_rfl) serveSessionOpen.lp (l := []) (by kernel_rfl) (fun n => trivial) serveSessionOpen.eq
noncomputable def serveSessionIsOpen (fu : Nat) (sv : O2) : Option ((Bool × Unit) × (O2 × Unit)) :=
  some ((sv.2.2.2.1, ()), (sv, ()))

noncomputable def serveSessionIsOpen.body : Code := Try.f44.body.getD .skip
noncomputable def serveSessionIsOpen.con : OCon := { ps := [.obj kO2], rs := [.dat .bool], f := fun n x => serveSessionIsOpen n x.1 }
noncomputable def serveSessionIsOpen.env : Env := { tys := [(4, ⟨.bool, 1⟩), (92, ⟨kS7, 80⟩)], elems := [], ptrs := [(47, 92)], cons := [], objs := [], loops := [], cuts := [], globs := globs, base := 2 }
noncomputable def serveSessionIsOpen.lp (n : Nat) : LP (RT serveSessionIsOpen.con.rs × BT serveSessionIsOpen.con.ps) := fun lo κ body nm K s =>
  loops n (RT serveSessionIsOpen.con.rs × BT serveSessionIsOpen.con.ps) lo κ body nm K s
theorem serveSessionIsOpen.eq (n : Nat) (x : PT serveSessionIsOpen.con.ps) : evFuncO serveSessionIsOpen.env Try.f44 serveSessionIsOpen.body serveSessionIsOpen.con.ps serveSessionIsOpen.con.rs (serveSessionIsOpen.lp n) n x = serveSessionIsOpen.con.f n x := by kernel_rfl
theorem serveSessionIsOpen.sound : SoundO Try.prog globs 44 serveSessionIsOpen.con :=
  sound_byO (E := serveSessionIsOpen.env) (c := serveSessionIsOpen.body) (envOk (G := globs) (lc := []) (lo := []) (envB_spec (by kernel_rfl)) rfl rfl trivial rfl trivial (by kernel_rfl) (by kernel_rfl)) Try.func44 (by kernel_rfl) (by kernel_rfl) (by kernel_rfl) serveSessionIsOpen.lp (l := []) (by kernel_rfl) (fun n => trivial) serveSessionIsOpen.eq
noncomputable def backTriesOver (fu : Nat) (tv : O1) : Option ((Bool × Unit) × (O1 × Unit)) :=
  let t1 := decide (tv.2.2.1 ≥ tv.1.2.2.1)
  some ((t1, ()), (tv, ()))

noncomputable def backTriesOver.body : Code := Try.f27.body.getD .skip
noncomputable def backTriesOver.con : OCon := { ps := [.obj kO1], rs := [.dat .bool], f := fun n x => backTriesOver n x.1 }
noncomputable def backTriesOver.env : Env := { tys := [(4, ⟨.bool, 1⟩), (90, ⟨kS5, 32⟩), (22, ⟨(.int .u32), 4⟩), (24, ⟨kS0, 12⟩)], elems := [], ptrs := [(31, 90)], cons := [], objs := [], loops := [], cuts := [], globs := globs, base := 1 }
noncomputable def backTriesOver.lp (n : Nat) : LP (RT backTriesOver.con.rs × BT backTriesOver.con.ps) := fun lo κ body nm K s =>
  loops n (RT backTriesOver.con.rs × BT backTriesOver.con.ps) lo κ body nm K s
theorem backTriesOver.eq (n : Nat) (x : PT backTriesOver.con.ps) : evFuncO backTriesOver.env Try.f27 backTriesOver.body backTriesOver.con.ps backTriesOver.con.rs (backTriesOver.lp n) n x = backTriesOver.con.f n x := by kernel_rfl
theorem backTriesOver.sound : SoundO Try.prog globs 27 backTriesOver.con :=
  sound_byO (E := backTriesOver.env) (c := backTriesOver.body) (envOk (G := globs) (lc := []) (lo := []) (envB_spec (by kernel_rfl)) rfl rfl trivial rfl trivial (by kernel_rfl) (by kernel_rfl)) Try.func27 (by kernel_rfl) (by kernel_rfl) (by kernel_rfl) backTriesOver.lp (l := []) (by kernel_rfl) (fun n => trivial) backTriesOver.eq
noncomputable def backTriesNext (fu : Nat) (tv : O1) : Option ((Int × Unit) × (O1 × Unit)) :=
  some ((tv.2.2.2.1, ()), (tv, ()))

noncomputable def backTriesNext.body : Code := Try.f26.body.getD .skip
noncomputable def backTriesNext.con : OCon := { ps := [.obj kO1], rs := [.dat (.int .u64)], f := fun n x => backTriesNext n x.1 }
noncomputable def backTriesNext.env : Env := { tys := [(27, ⟨(.int .u64), 8⟩), (90, ⟨kS5, 32⟩)], elems := [], ptrs := [(31, 90)], cons := [], objs := [], loops := [], cuts := [], globs := globs, base := 1 }
noncomputable def backTriesNext.lp (n : Nat) : LP (RT backTriesNext.con.rs × BT backTriesNext.con.ps) := fun lo κ body nm K s =>
  loops n (RT backTriesNext.con.rs × BT backTriesNext.con.ps) lo κ body nm K s
theorem backTriesNext.eq (n : Nat) (x : PT backTriesNext.con.ps) : evFuncO backTriesNext.env Try.f26 backTriesNext.body backTriesNext.con.ps backTriesNext.con.rs (backTriesNext.lp n) n x = backTriesNext.con.f n x := by kernel_rfl
theorem backTriesNext.sound : SoundO Try.prog globs 26 backTriesNext.con :=
  sound_byO (E := backTriesNext.env) (c := backTriesNext.body) (envOk (G := globs) (lc := []) (lo := []) (envB_spec (by kernel_rfl)) rfl rfl trivial rfl trivial (by kernel_rfl) (by kernel_rfl)) Try.func26 (by kernel_rfl) (by kernel_rfl) (by kernel_rfl) backTriesNext.lp (l := []) (by kernel_rfl) (fun n => trivial) backTriesNext.eq
noncomputable def backTriesDue (fu : Nat) (tv : O1) (now : Int) : Option ((Bool × Unit) × (O1 × Unit)) :=
  cond tv.2.1 (
    (backTriesOver fu tv).bind fun r1 =>
    cond (!r1.1.1) (
      let t2 := decide (r1.2.1.2.2.2.1 ≤ now)
      some ((t2, ()), (r1.2.1, ()))) (
      some ((false, ()), (r1.2.1, ())))) (
    some ((false, ()), (tv, ())))

noncomputable def backTriesDue.body : Code := Try.f23.body.getD .skip
noncomputable def backTriesDue.con : OCon := { ps := [.obj kO1, .dat (.int .u64)], rs := [.dat .bool], f := fun n x => backTriesDue n x.1 x.2.1 }
noncomputable def backTriesDue.env : Env := { tys := [(4, ⟨.bool, 1⟩), (90, ⟨kS5, 32⟩), (27, ⟨(.int .u64), 8⟩)], elems := [], ptrs := [(31, 90)], cons := [], objs := [(27, [backTriesOver.con])], loops := [], cuts := [], globs := globs, base := 1 }
noncomputable def backTriesDue.lp (n : Nat) : LP (RT backTriesDue.con.rs × BT backTriesDue.con.ps) := fun lo κ body nm K s =>
  loops n (RT backTriesDue.con.rs × BT backTriesDue.con.ps) lo κ body nm K s
theorem backTriesDue.eq (n : Nat) (x : PT backTriesDue.con.ps) : evFuncO backTriesDue.env Try.f23 backTriesDue.body backTriesDue.con.ps backTriesDue.con.rs (backTriesDue.lp n) n x = backTriesDue.con.f n x := by kernel_rfl
theorem backTriesDue.sound : SoundO Try.prog globs 23 backTriesDue.con :=
  sound_byO (E := backTriesDue.env) (c := backTriesDue.body) (envOk (G := globs) (lc := []) (lo := [(27, [backTriesOver.con])]) (envB_spec (by kernel_rfl)) rfl rfl trivial rfl ⟨⟨⟨backTriesOver.sound, trivial⟩, by kernel_rfl⟩, trivial⟩ (by kernel_rfl) (by kernel_rfl)) Try.func23 (by kernel_rfl) (by kernel_rfl) (by kernel_rfl) backTriesDue.lp (l := []) (by kernel_rfl) (fun n => trivial) backTriesDue.eq
noncomputable def backPause (fu : Nat) (b : S0) (n : Int) : Option (Int × Unit) :=
  (backMay fu b).bind fun r1 =>
  cond (!r1.1) (
    some ((0 : Int), ())) (
    cond (n == (0 : Int)) (
      some ((0 : Int), ())) (
      let t2 := IntKind.u32.wrap (n - (1 : Int))
      chk (!decide (min2 t2 (20 : Int) < 0)) <|
      let t3 := sShl .u64 (IntKind.u64.wrap b.1) (min2 t2 (20 : Int))
      let t4 := min2 t3 (IntKind.u64.wrap b.2.1)
      some (t4, ())))

noncomputable def backPause.body : Code := Try.f18.body.getD .skip
noncomputable def backPause.con : Con := { ps := [kS0, (.int .u32)], rs := [(.int .u64)], f := fun n x => backPause n x.1 x.2.1 }
noncomputable def backPause.env : Env := { tys := [(24, ⟨kS0, 12⟩), (27, ⟨(.int .u64), 8⟩), (4, ⟨.bool, 1⟩), (22, ⟨(.int .u32), 4⟩)], elems := [], ptrs := [], cons := [(16, backMay.con)], objs := [], loops := [], cuts := [], globs := globs, base := 0 }
noncomputable def backPause.lp (n : Nat) : LP (Kd.struct backPause.con.rs).T := fun lo κ body nm K s =>
  loops n (Kd.struct backPause.con.rs).T lo κ body nm K s
theorem backPause.eq (n : Nat) (x : (Kd.struct backPause.con.ps).T) : evFunc backPause.env Try.f18 backPause.body backPause.con.ps backPause.con.rs (backPause.lp n) n x = backPause.con.f n x := by kernel_rfl
theorem backPause.sound : Sound Try.prog globs 18 backPause.con :=
  sound_by (E := backPause.env) (c := backPause.body) (envOk (G := globs) (lc := [(16, backMay.con)]) (lo := []) (envB_spec (by kernel_rfl)) rfl rfl ⟨.inl ⟨backMay.sound, by kernel_rfl⟩, trivial⟩ rfl trivial (by kernel_rfl) (by kernel_rfl)) Try.func18 (by kernel_rfl) backPause.lp (l := []) (by kernel_rfl) (fun n => trivial) backPause.eq
noncomputable def backTriesTry (fu : Nat) (tv : O1) (now : Int) : Option ((Bool × Unit) × (O1 × Unit)) :=
  (backTriesDue fu tv now).bind fun r1 =>
  cond (!r1.1.1) (
    some ((false, ()), (r1.2.1, ()))) (
    let t2 := IntKind.u32.wrap (r1.2.1.2.2.1 + (1 : Int))
    (backPause fu r1.2.1.1 t2).bind fun r3 =>
    let t4 := IntKind.u64.wrap (now + r3.1)
    some ((true, ()), ((r1.2.1.1, r1.2.1.2.1, t2, t4, ()), ())))

noncomputable def backTriesTry.body : Code := Try.f24.body.getD .skip
noncomputable def backTriesTry.con : OCon := { ps := [.obj kO1, .dat (.int .u64)], rs := [.dat .bool], f := fun n x => backTriesTry n x.1 x.2.1 }
noncomputable def backTriesTry.env : Env := { tys := [(4, ⟨.bool, 1⟩), (90, ⟨kS5, 32⟩), (22, ⟨(.int .u32), 4⟩), (24, ⟨kS0, 12⟩), (27, ⟨(.int .u64), 8⟩)], elems := [], ptrs := [], cons := [(18, backPause.con)], objs := [(23, [backTriesDue.con])], loops := [], cuts := [], globs := globs, base := 1 }
noncomputable def backTriesTry.lp (n : Nat) : LP (RT backTriesTry.con.rs × BT backTriesTry.con.ps) := fun lo κ body nm K s =>
  loops n (RT backTriesTry.con.rs × BT backTriesTry.con.ps) lo κ body nm K s
theorem backTriesTry.eq (n : Nat) (x : PT backTriesTry.con.ps) : evFuncO backTriesTry.env Try.f24 backTriesTry.body backTriesTry.con.ps backTriesTry.con.rs (backTriesTry.lp n) n x = backTriesTry.con.f n x := by kernel_rfl
theorem backTriesTry.sound : SoundO Try.prog globs 24 backTriesTry.con :=
  sound_byO (E := backTriesTry.env) (c := backTriesTry.body) (envOk (G := globs) (lc := [(18, backPause.con)]) (lo := [(23, [backTriesDue.con])]) (envB_spec (by kernel_rfl)) rfl rfl ⟨.inl ⟨backPause.sound, by kernel_rfl⟩, trivial⟩ rfl ⟨⟨⟨backTriesDue.sound, trivial⟩, by kernel_rfl⟩, trivial⟩ (by kernel_rfl) (by kernel_rfl)) Try.func24 (by kernel_rfl) (by kernel_rfl) (by kernel_rfl) backTriesTry.lp (l := []) (by kernel_rfl) (fun n => trivial) backTriesTry.eq
noncomputable def serveSessionSend.j45004 (fu : Nat) (k0 : Int → S0 → Int → Bool → Int → Int → Int → Int → Bool → Int → S0 → Bool → Int → Int → Option (((List S3) × Unit) × (O2 × Unit))) (now : Int) (v : Bool) (b0 : S0) (c0 : Int) (c0x2 : Bool) (c0x3 : Int) (c0x4 : Int) (c0x5 : Int) (c0x6 : Int) (c0x7 : Bool) (c0x8 : Int) (b1 : S0) (c1 : Bool) (c1x2 : Int) (c1x3 : Int) : Option (((List S3) × Unit) × (O2 × Unit)) :=
  cond v (
    k0 now b0 c0 c0x2 c0x3 c0x4 c0x5 c0x6 true now b1 c1 c1x2 c1x3) (
    k0 now b0 c0 c0x2 c0x3 c0x4 c0x5 c0x6 c0x7 c0x8 b1 c1 c1x2 c1x3)
noncomputable def serveSessionSend.b14 (fu : Nat) (next : (List S3) → S0 → Int → Bool → Int → Int → Int → Int → Bool → Int → S0 → Bool → Int → Int → Option (((List S3) × Unit) × (O2 × Unit))) (k2 : (List S3) → S0 → Int → Bool → Int → Int → Int → Int → Bool → Int → S0 → Bool → Int → Int → Option (((List S3) × Unit) × (O2 × Unit))) (out : List S3) (b0 : S0) (c0 : Int) (c0x2 : Bool) (c0x3 : Int) (c0x4 : Int) (c0x5 : Int) (c0x6 : Int) (c0x7 : Bool) (c0x8 : Int) (b1 : S0) (c1 : Bool) (c1x2 : Int) (c1x3 : Int) : Option (((List S3) × Unit) × (O2 × Unit)) :=
  cond (decide (c0x6 > c0x4)) (
    let t1 := IntKind.u64.wrap (c0x4 + c0)
    let t2 := decide (c0x6 < min2 c0x5 t1)
    cond t2 (
      let t3 := [((5 : Int), (0 : Int), (0 : Int), c0x6, (0 : Int), [], ())]
      chk (apOk out t3 56) <|
      let t4 := IntKind.u64.wrap (c0x6 + (1 : Int))
      next (out ++ t3) b0 c0 c0x2 c0x3 c0x4 c0x5 t4 c0x7 c0x8 b1 c1 c1x2 c1x3) (
      k2 out b0 c0 c0x2 c0x3 c0x4 c0x5 c0x6 c0x7 c0x8 b1 c1 c1x2 c1x3)) (
    k2 out b0 c0 c0x2 c0x3 c0x4 c0x5 c0x6 c0x7 c0x8 b1 c1 c1x2 c1x3)
noncomputable def serveSessionSend.l14 (fu : Nat) (k2 : (List S3) → S0 → Int → Bool → Int → Int → Int → Int → Bool → Int → S0 → Bool → Int → Int → Option (((List S3) × Unit) × (O2 × Unit))) : Nat → (List S3) → S0 → Int → Bool → Int → Int → Int → Int → Bool → Int → S0 → Bool → Int → Int → Option (((List S3) × Unit) × (O2 × Unit))
  | 0, _, _, _, _, _, _, _, _, _, _, _, _, _, _ => none
  | m + 1, out, b0, c0, c0x2, c0x3, c0x4, c0x5, c0x6, c0x7, c0x8, b1, c1, c1x2, c1x3 => serveSessionSend.b14 fu (serveSessionSend.l14 fu k2 m) k2 out b0 c0 c0x2 c0x3 c0x4 c0x5 c0x6 c0x7 c0x8 b1 c1 c1x2 c1x3
noncomputable def serveSessionSend.j14 (fu : Nat) (k1 : (List S3) → S0 → Int → Bool → Int → Int → Int → Int → Bool → Int → S0 → Bool → Int → Int → Option (((List S3) × Unit) × (O2 × Unit))) (out : List S3) (b0 : S0) (c0 : Int) (c0x2 : Bool) (c0x3 : Int) (c0x4 : Int) (c0x5 : Int) (c0x6 : Int) (c0x7 : Bool) (c0x8 : Int) (b1 : S0) (c1 : Bool) (c1x2 : Int) (c1x3 : Int) : Option (((List S3) × Unit) × (O2 × Unit)) :=
  serveSessionSend.l14 fu (fun outq8 b0q8 c0q8 c0q8x2 c0q8x3 c0q8x4 c0q8x5 c0q8x6 c0q8x7 c0q8x8 b1q8 c1q8 c1q8x2 c1q8x3 => 
      k1 outq8 b0q8 c0q8 c0q8x2 c0q8x3 c0q8x4 c0q8x5 c0q8x6 c0q8x7 c0q8x8 b1q8 c1q8 c1q8x2 c1q8x3) fu out b0 c0 c0x2 c0x3 c0x4 c0x5 c0x6 c0x7 c0x8 b1 c1 c1x2 c1x3
noncomputable def serveSessionSend.j5 (fu : Nat) (k1 : (List S3) → S0 → Int → Bool → Int → Int → Int → Int → Bool → Int → S0 → Bool → Int → Int → Option (((List S3) × Unit) × (O2 × Unit))) (now : Int) (b0 : S0) (c0 : Int) (c0x2 : Bool) (c0x3 : Int) (c0x4 : Int) (c0x5 : Int) (c0x6 : Int) (c0x7 : Bool) (c0x8 : Int) (b1 : S0) (c1 : Bool) (c1x2 : Int) (c1x3 : Int) : Option (((List S3) × Unit) × (O2 × Unit)) :=
  cond c0x7 (
    cond (decide (c0x8 ≤ now)) (
      let t1 := [((8 : Int), (0 : Int), (0 : Int), c0x4, (0 : Int), [], ())]
      chk (apOk [] t1 56) <|
      let t2 := IntKind.u64.wrap (now + IntKind.u64.wrap b0.1)
      k1 ([] ++ t1) b0 c0 c0x2 c0x3 c0x4 c0x5 c0x6 c0x7 t2 b1 c1 c1x2 c1x3) (
      k1 [] b0 c0 c0x2 c0x3 c0x4 c0x5 c0x6 c0x7 c0x8 b1 c1 c1x2 c1x3)) (
    (backTriesTry fu (b1, c1, c1x2, c1x3, ()) now).bind fun r3 =>
    cond r3.1.1 (
      let t4 := [((5 : Int), (0 : Int), (0 : Int), c0x4, (0 : Int), [], ())]
      chk (apOk [] t4 56) <|
      let t5 := IntKind.u64.wrap (c0x4 + (1 : Int))
      serveSessionSend.j14 fu (fun vq9 b0q9 c0q9 c0q9x2 c0q9x3 c0q9x4 c0q9x5 c0q9x6 c0q9x7 c0q9x8 b1q9 c1q9 c1q9x2 c1q9x3 => 
          k1 vq9 b0q9 c0q9 c0q9x2 c0q9x3 c0q9x4 c0q9x5 c0q9x6 c0q9x7 c0q9x8 b1q9 c1q9 c1q9x2 c1q9x3) ([] ++ t4) b0 c0 c0x2 c0x3 c0x4 c0x5 (max2 c0x6 t5) c0x7 c0x8 r3.2.1.1 r3.2.1.2.1 r3.2.1.2.2.1 r3.2.1.2.2.2.1) (
      serveSessionSend.j14 fu (fun vq10 b0q10 c0q10 c0q10x2 c0q10x3 c0q10x4 c0q10x5 c0q10x6 c0q10x7 c0q10x8 b1q10 c1q10 c1q10x2 c1q10x3 => 
          k1 vq10 b0q10 c0q10 c0q10x2 c0q10x3 c0q10x4 c0q10x5 c0q10x6 c0q10x7 c0q10x8 b1q10 c1q10 c1q10x2 c1q10x3) [] b0 c0 c0x2 c0x3 c0x4 c0x5 c0x6 c0x7 c0x8 r3.2.1.1 r3.2.1.2.1 r3.2.1.2.2.1 r3.2.1.2.2.2.1))
noncomputable def serveSessionSend (fu : Nat) (sv : O2) (now : Int) : Option (((List S3) × Unit) × (O2 × Unit)) :=
  (serveSessionIsOpen fu sv).bind fun r1 =>
  cond (!r1.1.1) (
    some (([], ()), (r1.2.1, ()))) (
    let t2 := decide (r1.2.1.2.2.2.2.2.1 ≥ r1.2.1.2.2.2.2.2.2.1)
    cond t2 (
      some (([], ()), (r1.2.1, ()))) (
      let t3 := decide (now > (1099511627776 : Int))
      cond t3 (
        some (([], ()), (r1.2.1, ()))) (
        let t4 := !r1.2.1.2.2.2.2.2.2.2.2.1
        cond t4 (
          (backTriesOver fu r1.2.1.2.2.1).bind fun r5 =>
          cond r5.1.1 (
            (backTriesNext fu r5.2.1).bind fun r6 =>
            serveSessionSend.j45004 fu (fun nowq1 b0q1 c0q1 c0q1x2 c0q1x3 c0q1x4 c0q1x5 c0q1x6 c0q1x7 c0q1x8 b1q1 c1q1 c1q1x2 c1q1x3 => 
                serveSessionSend.j5 fu (fun vq2 b0q2 c0q2 c0q2x2 c0q2x3 c0q2x4 c0q2x5 c0q2x6 c0q2x7 c0q2x8 b1q2 c1q2 c1q2x2 c1q2x3 => 
                    some ((vq2, ()), ((b0q2, c0q2, (b1q2, c1q2, c1q2x2, c1q2x3, ()), c0q2x2, c0q2x3, c0q2x4, c0q2x5, c0q2x6, c0q2x7, c0q2x8, ()), ()))) nowq1 b0q1 c0q1 c0q1x2 c0q1x3 c0q1x4 c0q1x5 c0q1x6 c0q1x7 c0q1x8 b1q1 c1q1 c1q1x2 c1q1x3) now (decide (r6.1.1 ≤ now)) r1.2.1.1 r1.2.1.2.1 r1.2.1.2.2.2.1 r1.2.1.2.2.2.2.1 r1.2.1.2.2.2.2.2.1 r1.2.1.2.2.2.2.2.2.1 r1.2.1.2.2.2.2.2.2.2.1 r1.2.1.2.2.2.2.2.2.2.2.1 r1.2.1.2.2.2.2.2.2.2.2.2.1 r6.2.1.1 r6.2.1.2.1 r6.2.1.2.2.1 r6.2.1.2.2.2.1) (
            serveSessionSend.j45004 fu (fun nowq3 b0q3 c0q3 c0q3x2 c0q3x3 c0q3x4 c0q3x5 c0q3x6 c0q3x7 c0q3x8 b1q3 c1q3 c1q3x2 c1q3x3 => 
                serveSessionSend.j5 fu (fun vq4 b0q4 c0q4 c0q4x2 c0q4x3 c0q4x4 c0q4x5 c0q4x6 c0q4x7 c0q4x8 b1q4 c1q4 c1q4x2 c1q4x3 => 
                    some ((vq4, ()), ((b0q4, c0q4, (b1q4, c1q4, c1q4x2, c1q4x3, ()), c0q4x2, c0q4x3, c0q4x4, c0q4x5, c0q4x6, c0q4x7, c0q4x8, ()), ()))) nowq3 b0q3 c0q3 c0q3x2 c0q3x3 c0q3x4 c0q3x5 c0q3x6 c0q3x7 c0q3x8 b1q3 c1q3 c1q3x2 c1q3x3) now false r1.2.1.1 r1.2.1.2.1 r1.2.1.2.2.2.1 r1.2.1.2.2.2.2.1 r1.2.1.2.2.2.2.2.1 r1.2.1.2.2.2.2.2.2.1 r1.2.1.2.2.2.2.2.2.2.1 r1.2.1.2.2.2.2.2.2.2.2.1 r1.2.1.2.2.2.2.2.2.2.2.2.1 r5.2.1.1 r5.2.1.2.1 r5.2.1.2.2.1 r5.2.1.2.2.2.1)) (
          serveSessionSend.j45004 fu (fun nowq5 b0q5 c0q5 c0q5x2 c0q5x3 c0q5x4 c0q5x5 c0q5x6 c0q5x7 c0q5x8 b1q5 c1q5 c1q5x2 c1q5x3 => 
              serveSessionSend.j5 fu (fun vq6 b0q6 c0q6 c0q6x2 c0q6x3 c0q6x4 c0q6x5 c0q6x6 c0q6x7 c0q6x8 b1q6 c1q6 c1q6x2 c1q6x3 => 
                  some ((vq6, ()), ((b0q6, c0q6, (b1q6, c1q6, c1q6x2, c1q6x3, ()), c0q6x2, c0q6x3, c0q6x4, c0q6x5, c0q6x6, c0q6x7, c0q6x8, ()), ()))) nowq5 b0q5 c0q5 c0q5x2 c0q5x3 c0q5x4 c0q5x5 c0q5x6 c0q5x7 c0q5x8 b1q5 c1q5 c1q5x2 c1q5x3) now false r1.2.1.1 r1.2.1.2.1 r1.2.1.2.2.2.1 r1.2.1.2.2.2.2.1 r1.2.1.2.2.2.2.2.1 r1.2.1.2.2.2.2.2.2.1 r1.2.1.2.2.2.2.2.2.2.1 r1.2.1.2.2.2.2.2.2.2.2.1 r1.2.1.2.2.2.2.2.2.2.2.2.1 r1.2.1.2.2.1.1 r1.2.1.2.2.1.2.1 r1.2.1.2.2.1.2.2.1 r1.2.1.2.2.1.2.2.2.1))))

noncomputable def serveSessionSend.body : Code := Try.f35.body.getD .skip
abbrev serveSessionSend.shj45004 : Shp := ⟨[.p 0 0, .d (.int .u64), .u, .u, .u, .u, .u, .u, .u, .u, .u, .u, .u, .u, .u, .u, .u, .u, .u, .u, .u, .u, .u, .u, .u, .u, .u, .u, .u, .u, .u, .u, .u, .u, .u, .u, .u, .u, .u, .u, .u, .u, .u, .u, .d .bool, .u, .u, .u, .u, .u, .u, .u, .u, .u, .u, .u, .u, .u, .u, .u, .u, .u, .u, .u, .u, .u, .u, .u, .u, .u, .u, .u, .u, .u, .u, .u, .u, .u, .u, .u, .u, .u, .u, .u, .u, .u, .u, .u, .u, .u, .u, .u, .u, .u, .u, .u, .u, .u, .u, .u, .u, .u, .u, .u, .u, .u, .u, .u, .u, .u, .u, .u, .u, .u, .u, .u, .u, .u, .u, .u, .u, .u, .u, .u, .u, .u, .u, .u, .u, .u, .u, .u, .u, .u, .u, .u, .u, .u, .u, .u, .u, .u, .u, .u, .u, .u, .u, .u, .u, .u, .u, .u, .u, .u, .u], [[.g kS0, .d (.int .u64), .p 1 0, .d .bool, .d (.int .u32), .d (.int .u64), .d (.int .u64), .d (.int .u64), .d .bool, .d (.int .u64)], [.g kS0, .d .bool, .d (.int .u32), .d (.int .u64)]]⟩
abbrev serveSessionSend.outj45004e0 : Shp := ⟨[.p 0 0, .d (.int .u64), .u, .u, .u, .u, .u, .u, .u, .u, .u, .u, .u, .u, .u, .u, .u, .u, .u, .u, .u, .u, .u, .u, .u, .u, .u, .u, .u, .u, .u, .u, .u, .u, .u, .u, .u, .u, .u, .u, .u, .u, .u, .u, .u, .u, .u, .u, .u, .u, .u, .u, .u, .u, .u, .u, .u, .u, .u, .u, .u, .u, .u, .u, .u, .u, .u, .u, .u, .u, .u, .u, .u, .u, .u, .u, .u, .u, .u, .u, .u, .u, .u, .u, .u, .u, .u, .u, .u, .u, .u, .u, .u, .u, .u, .u, .u, .u, .u, .u, .u, .u, .u, .u, .u, .u, .u, .u, .u, .u, .u, .u, .u, .u, .u, .u, .u, .u, .u, .u, .u, .u, .u, .u, .u, .u, .u, .u, .u, .u, .u, .u, .u, .u, .u, .u, .u, .u, .u, .u, .u, .u, .u, .u, .u, .u, .u, .u, .u, .u, .u, .u, .u, .u, .u], [[.g kS0, .d (.int .u64), .p 1 0, .d .bool, .d (.int .u32), .d (.int .u64), .d (.int .u64), .d (.int .u64), .d .bool, .d (.int .u64)], [.g kS0, .d .bool, .d (.int .u32), .d (.int .u64)]]⟩
noncomputable def serveSessionSend.nmj45004 : Norm := ⟨{ keep := [0, 1, 44], shut := [(1, (.int .u64)), (44, .bool)], retag := [], heap := 2, dead := [], cshut := [(0, 0, (.int .u32)), (0, 1, (.int .u32)), (0, 2, (.int .u32)), (0, 3, (.int .u64)), (0, 5, .bool), (0, 6, (.int .u32)), (0, 7, (.int .u64)), (0, 8, (.int .u64)), (0, 9, (.int .u64)), (0, 10, .bool), (0, 11, (.int .u64)), (1, 0, (.int .u32)), (1, 1, (.int .u32)), (1, 2, (.int .u32)), (1, 3, .bool), (1, 4, (.int .u32)), (1, 5, (.int .u64))], cretag := [] }, [(0, { keep := [0, 1], shut := [(1, (.int .u64))], retag := [], heap := 2, dead := [], cshut := [(0, 0, (.int .u32)), (0, 1, (.int .u32)), (0, 2, (.int .u32)), (0, 3, (.int .u64)), (0, 5, .bool), (0, 6, (.int .u32)), (0, 7, (.int .u64)), (0, 8, (.int .u64)), (0, 9, (.int .u64)), (0, 10, .bool), (0, 11, (.int .u64)), (1, 0, (.int .u32)), (1, 1, (.int .u32)), (1, 2, (.int .u32)), (1, 3, .bool), (1, 4, (.int .u32)), (1, 5, (.int .u64))], cretag := [] })]⟩
abbrev serveSessionSend.shl14 : Shp := ⟨[.p 0 0, .u, .u, .u, .u, .o 5 kS3, .u, .u, .u, .u, .u, .u, .u, .u, .u, .u, .u, .u, .u, .u, .u, .u, .u, .u, .u, .u, .u, .u, .u, .u, .u, .u, .u, .u, .u, .u, .u, .u, .u, .u, .u, .u, .u, .u, .u, .u, .u, .u, .u, .u, .u, .u, .u, .u, .u, .u, .u, .u, .u, .u, .u, .u, .u, .u, .u, .u, .u, .u, .u, .u, .u, .u, .u, .u, .u, .u, .u, .u, .u, .u, .u, .u, .u, .u, .u, .u, .u, .u, .u, .u, .u, .u, .u, .u, .u, .u, .u, .u, .u, .u, .u, .u, .u, .u, .u, .u, .u, .u, .u, .u, .u, .u, .u, .u, .u, .u, .u, .u, .u, .u, .u, .u, .u, .u, .u, .u, .u, .u, .u, .u, .u, .u, .u, .u, .u, .u, .u, .u, .u, .u, .u, .u, .u, .u, .u, .u, .u, .u, .u, .u, .u, .u, .u, .u, .u], [[.g kS0, .d (.int .u64), .p 1 0, .d .bool, .d (.int .u32), .d (.int .u64), .d (.int .u64), .d (.int .u64), .d .bool, .d (.int .u64)], [.g kS0, .d .bool, .d (.int .u32), .d (.int .u64)]]⟩
abbrev serveSessionSend.outl14e2 : Shp := ⟨[.u, .u, .u, .u, .u, .o 5 kS3, .u, .u, .u, .u, .u, .u, .u, .u, .u, .u, .u, .u, .u, .u, .u, .u, .u, .u, .u, .u, .u, .u, .u, .u, .u, .u, .u, .u, .u, .u, .u, .u, .u, .u, .u, .u, .u, .u, .u, .u, .u, .u, .u, .u, .u, .u, .u, .u, .u, .u, .u, .u, .u, .u, .u, .u, .u, .u, .u, .u, .u, .u, .u, .u, .u, .u, .u, .u, .u, .u, .u, .u, .u, .u, .u, .u, .u, .u, .u, .u, .u, .u, .u, .u, .u, .u, .u, .u, .u, .u, .u, .u, .u, .u, .u, .u, .u, .u, .u, .u, .u, .u, .u, .u, .u, .u, .u, .u, .u, .u, .u, .u, .u, .u, .u, .u, .u, .u, .u, .u, .u, .u, .u, .u, .u, .u, .u, .u, .u, .u, .u, .u, .u, .u, .u, .u, .u, .u, .u, .u, .u, .u, .u, .u, .u, .u, .u, .u, .u], [[.g kS0, .d (.int .u64), .p 1 0, .d .bool, .d (.int .u32), .d (.int .u64), .d (.int .u64), .d (.int .u64), .d .bool, .d (.int .u64)], [.g kS0, .d .bool, .d (.int .u32), .d (.int .u64)]]⟩
noncomputable def serveSessionSend.nml14 : Norm := ⟨{ keep := [0, 5], shut := [], retag := [(5, 5, kS3)], heap := 2, dead := [], cshut := [(0, 0, (.int .u32)), (0, 1, (.int .u32)), (0, 2, (.int .u32)), (0, 3, (.int .u64)), (0, 5, .bool), (0, 6, (.int .u32)), (0, 7, (.int .u64)), (0, 8, (.int .u64)), (0, 9, (.int .u64)), (0, 10, .bool), (0, 11, (.int .u64)), (1, 0, (.int .u32)), (1, 1, (.int .u32)), (1, 2, (.int .u32)), (1, 3, .bool), (1, 4, (.int .u32)), (1, 5, (.int .u64))], cretag := [] }, [(2, { keep := [5], shut := [], retag := [(5, 5, kS3)], heap := 2, dead := [], cshut := [(0, 0, (.int .u32)), (0, 1, (.int .u32)), (0, 2, (.int .u32)), (0, 3, (.int .u64)), (0, 5, .bool), (0, 6, (.int .u32)), (0, 7, (.int .u64)), (0, 8, (.int .u64)), (0, 9, (.int .u64)), (0, 10, .bool), (0, 11, (.int .u64)), (1, 0, (.int .u32)), (1, 1, (.int .u32)), (1, 2, (.int .u32)), (1, 3, .bool), (1, 4, (.int .u32)), (1, 5, (.int .u64))], cretag := [] })]⟩
abbrev serveSessionSend.shj14 : Shp := ⟨[.p 0 0, .u, .u, .u, .u, .o 5 kS3, .u, .u, .u, .u, .u, .u, .u, .u, .u, .u, .u, .u, .u, .u, .u, .u, .u, .u, .u, .u, .u, .u, .u, .u, .u, .u, .u, .u, .u, .u, .u, .u, .u, .u, .u, .u, .u, .u, .u, .u, .u, .u, .u, .u, .u, .u, .u, .u, .u, .u, .u, .u, .u, .u, .u, .u, .u, .u, .u, .u, .u, .u, .u, .u, .u, .u, .u, .u, .u, .u, .u, .u, .u, .u, .u, .u, .u, .u, .u, .u, .u, .u, .u, .u, .u, .u, .u, .u, .u, .u, .u, .u, .u, .u, .u, .u, .u, .u, .u, .u, .u, .u, .u, .u, .u, .u, .u, .u, .u, .u, .u, .u, .u, .u, .u, .u, .u, .u, .u, .u, .u, .u, .u, .u, .u, .u, .u, .u, .u, .u, .u, .u, .u, .u, .u, .u, .u, .u, .u, .u, .u, .u, .u, .u, .u, .u, .u, .u, .u], [[.g kS0, .d (.int .u64), .p 1 0, .d .bool, .d (.int .u32), .d (.int .u64), .d (.int .u64), .d (.int .u64), .d .bool, .d (.int .u64)], [.g kS0, .d .bool, .d (.int .u32), .d (.int .u64)]]⟩
abbrev serveSessionSend.outj14e1 : Shp := ⟨[.u, .u, .u, .u, .o 4 kS3, .u, .u, .u, .u, .u, .u, .u, .u, .u, .u, .u, .u, .u, .u, .u, .u, .u, .u, .u, .u, .u, .u, .u, .u, .u, .u, .u, .u, .u, .u, .u, .u, .u, .u, .u, .u, .u, .u, .u, .u, .u, .u, .u, .u, .u, .u, .u, .u, .u, .u, .u, .u, .u, .u, .u, .u, .u, .u, .u, .u, .u, .u, .u, .u, .u, .u, .u, .u, .u, .u, .u, .u, .u, .u, .u, .u, .u, .u, .u, .u, .u, .u, .u, .u, .u, .u, .u, .u, .u, .u, .u, .u, .u, .u, .u, .u, .u, .u, .u, .u, .u, .u, .u, .u, .u, .u, .u, .u, .u, .u, .u, .u, .u, .u, .u, .u, .u, .u, .u, .u, .u, .u, .u, .u, .u, .u, .u, .u, .u, .u, .u, .u, .u, .u, .u, .u, .u, .u, .u, .u, .u, .u, .u, .u, .u, .u, .u, .u, .u, .u], [[.g kS0, .d (.int .u64), .p 1 0, .d .bool, .d (.int .u32), .d (.int .u64), .d (.int .u64), .d (.int .u64), .d .bool, .d (.int .u64)], [.g kS0, .d .bool, .d (.int .u32), .d (.int .u64)]]⟩
noncomputable def serveSessionSend.nmj14 : Norm := ⟨{ keep := [0, 5], shut := [], retag := [(5, 5, kS3)], heap := 2, dead := [], cshut := [(0, 0, (.int .u32)), (0, 1, (.int .u32)), (0, 2, (.int .u32)), (0, 3, (.int .u64)), (0, 5, .bool), (0, 6, (.int .u32)), (0, 7, (.int .u64)), (0, 8, (.int .u64)), (0, 9, (.int .u64)), (0, 10, .bool), (0, 11, (.int .u64)), (1, 0, (.int .u32)), (1, 1, (.int .u32)), (1, 2, (.int .u32)), (1, 3, .bool), (1, 4, (.int .u32)), (1, 5, (.int .u64))], cretag := [] }, [(1, { keep := [4], shut := [], retag := [(4, 4, kS3)], heap := 2, dead := [], cshut := [(0, 0, (.int .u32)), (0, 1, (.int .u32)), (0, 2, (.int .u32)), (0, 3, (.int .u64)), (0, 5, .bool), (0, 6, (.int .u32)), (0, 7, (.int .u64)), (0, 8, (.int .u64)), (0, 9, (.int .u64)), (0, 10, .bool), (0, 11, (.int .u64)), (1, 0, (.int .u32)), (1, 1, (.int .u32)), (1, 2, (.int .u32)), (1, 3, .bool), (1, 4, (.int .u32)), (1, 5, (.int .u64))], cretag := [] })]⟩
abbrev serveSessionSend.shj5 : Shp := ⟨[.p 0 0, .d (.int .u64), .u, .u, .u, .u, .u, .u, .u, .u, .u, .u, .u, .u, .u, .u, .u, .u, .u, .u, .u, .u, .u, .u, .u, .u, .u, .u, .u, .u, .u, .u, .u, .u, .u, .u, .u, .u, .u, .u, .u, .u, .u, .u, .u, .u, .u, .u, .u, .u, .u, .u, .u, .u, .u, .u, .u, .u, .u, .u, .u, .u, .u, .u, .u, .u, .u, .u, .u, .u, .u, .u, .u, .u, .u, .u, .u, .u, .u, .u, .u, .u, .u, .u, .u, .u, .u, .u, .u, .u, .u, .u, .u, .u, .u, .u, .u, .u, .u, .u, .u, .u, .u, .u, .u, .u, .u, .u, .u, .u, .u, .u, .u, .u, .u, .u, .u, .u, .u, .u, .u, .u, .u, .u, .u, .u, .u, .u, .u, .u, .u, .u, .u, .u, .u, .u, .u, .u, .u, .u, .u, .u, .u, .u, .u, .u, .u, .u, .u, .u, .u, .u, .u, .u, .u], [[.g kS0, .d (.int .u64), .p 1 0, .d .bool, .d (.int .u32), .d (.int .u64), .d (.int .u64), .d (.int .u64), .d .bool, .d (.int .u64)], [.g kS0, .d .bool, .d (.int .u32), .d (.int .u64)]]⟩
abbrev serveSessionSend.outj5e1 : Shp := ⟨[.u, .u, .u, .u, .o 4 kS3, .u, .u, .u, .u, .u, .u, .u, .u, .u, .u, .u, .u, .u, .u, .u, .u, .u, .u, .u, .u, .u, .u, .u, .u, .u, .u, .u, .u, .u, .u, .u, .u, .u, .u, .u, .u, .u, .u, .u, .u, .u, .u, .u, .u, .u, .u, .u, .u, .u, .u, .u, .u, .u, .u, .u, .u, .u, .u, .u, .u, .u, .u, .u, .u, .u, .u, .u, .u, .u, .u, .u, .u, .u, .u, .u, .u, .u, .u, .u, .u, .u, .u, .u, .u, .u, .u, .u, .u, .u, .u, .u, .u, .u, .u, .u, .u, .u, .u, .u, .u, .u, .u, .u, .u, .u, .u, .u, .u, .u, .u, .u, .u, .u, .u, .u, .u, .u, .u, .u, .u, .u, .u, .u, .u, .u, .u, .u, .u, .u, .u, .u, .u, .u, .u, .u, .u, .u, .u, .u, .u, .u, .u, .u, .u, .u, .u, .u, .u, .u, .u], [[.g kS0, .d (.int .u64), .p 1 0, .d .bool, .d (.int .u32), .d (.int .u64), .d (.int .u64), .d (.int .u64), .d .bool, .d (.int .u64)], [.g kS0, .d .bool, .d (.int .u32), .d (.int .u64)]]⟩
noncomputable def serveSessionSend.nmj5 : Norm := ⟨{ keep := [0, 1], shut := [(1, (.int .u64))], retag := [], heap := 2, dead := [], cshut := [(0, 0, (.int .u32)), (0, 1, (.int .u32)), (0, 2, (.int .u32)), (0, 3, (.int .u64)), (0, 5, .bool), (0, 6, (.int .u32)), (0, 7, (.int .u64)), (0, 8, (.int .u64)), (0, 9, (.int .u64)), (0, 10, .bool), (0, 11, (.int .u64)), (1, 0, (.int .u32)), (1, 1, (.int .u32)), (1, 2, (.int .u32)), (1, 3, .bool), (1, 4, (.int .u32)), (1, 5, (.int .u64))], cretag := [] }, [(1, { keep := [4], shut := [], retag := [(4, 4, kS3)], heap := 2, dead := [], cshut := [(0, 0, (.int .u32)), (0, 1, (.int .u32)), (0, 2, (.int .u32)), (0, 3, (.int .u64)), (0, 5, .bool), (0, 6, (.int .u32)), (0, 7, (.int .u64)), (0, 8, (.int .u64)), (0, 9, (.int .u64)), (0, 10, .bool), (0, 11, (.int .u64)), (1, 0, (.int .u32)), (1, 1, (.int .u32)), (1, 2, (.int .u32)), (1, 3, .bool), (1, 4, (.int .u32)), (1, 5, (.int .u64))], cretag := [] })]⟩
noncomputable def serveSessionSend.con : OCon := { ps := [.obj kO2, .dat (.int .u64)], rs := [.dat (.slice kS3)], f := fun n x => serveSessionSend n x.1 x.2.1 }
noncomputable def serveSessionSend.env : Env := { tys := [(52, ⟨(.slice kS3), 24⟩), (4, ⟨.bool, 1⟩), (92, ⟨kS7, 80⟩), (27, ⟨(.int .u64), 8⟩), (31, ⟨.np, 8⟩), (56, ⟨kS3, 56⟩), (24, ⟨kS0, 12⟩), (22, ⟨(.int .u32), 4⟩)], elems := [(52, 56)], ptrs := [], cons := [], objs := [(24, [backTriesTry.con]), (26, [backTriesNext.con]), (27, [backTriesOver.con]), (44, [serveSessionIsOpen.con])], loops := [(14, serveSessionSend.nml14)], cuts := [(45004, serveSessionSend.nmj45004), (14, serveSessionSend.nmj14), (5, serveSessionSend.nmj5)], globs := globs, base := 2 }
noncomputable def serveSessionSend.lp (n : Nat) : LP (RT serveSessionSend.con.rs × BT serveSessionSend.con.ps) := fun lo κ body nm K s =>
  cond (!lo && Nat.beq κ 45004)
    (match serveSessionSend.shj45004.dec s with
    | some v => serveSessionSend.j45004 n (fun w0 w1 w2 w3 w4 w5 w6 w7 w8 w9 w10 w11 w12 w13 => K .normal (serveSessionSend.outj45004e0.enc (w0, w1, w2, w3, w4, w5, w6, w7, w8, w9, w10, w11, w12, w13, ()))) v.1 v.2.1 v.2.2.1 v.2.2.2.1 v.2.2.2.2.1 v.2.2.2.2.2.1 v.2.2.2.2.2.2.1 v.2.2.2.2.2.2.2.1 v.2.2.2.2.2.2.2.2.1 v.2.2.2.2.2.2.2.2.2.1 v.2.2.2.2.2.2.2.2.2.2.1 v.2.2.2.2.2.2.2.2.2.2.2.1 v.2.2.2.2.2.2.2.2.2.2.2.2.1 v.2.2.2.2.2.2.2.2.2.2.2.2.2.1 v.2.2.2.2.2.2.2.2.2.2.2.2.2.2.1
    | none => loops n (RT serveSessionSend.con.rs × BT serveSessionSend.con.ps) lo κ body nm K s)
    (cond (lo && Nat.beq κ 14)
    (match serveSessionSend.shl14.dec s with
    | some v => serveSessionSend.l14 n (fun w0 w1 w2 w3 w4 w5 w6 w7 w8 w9 w10 w11 w12 w13 => K (.exit 0) (serveSessionSend.outl14e2.enc (w0, w1, w2, w3, w4, w5, w6, w7, w8, w9, w10, w11, w12, w13, ()))) n v.1 v.2.1 v.2.2.1 v.2.2.2.1 v.2.2.2.2.1 v.2.2.2.2.2.1 v.2.2.2.2.2.2.1 v.2.2.2.2.2.2.2.1 v.2.2.2.2.2.2.2.2.1 v.2.2.2.2.2.2.2.2.2.1 v.2.2.2.2.2.2.2.2.2.2.1 v.2.2.2.2.2.2.2.2.2.2.2.1 v.2.2.2.2.2.2.2.2.2.2.2.2.1 v.2.2.2.2.2.2.2.2.2.2.2.2.2.1
    | none => loops n (RT serveSessionSend.con.rs × BT serveSessionSend.con.ps) lo κ body nm K s)
    (cond (!lo && Nat.beq κ 14)
    (match serveSessionSend.shj14.dec s with
    | some v => serveSessionSend.j14 n (fun w0 w1 w2 w3 w4 w5 w6 w7 w8 w9 w10 w11 w12 w13 => K .ret (serveSessionSend.outj14e1.enc (w0, w1, w2, w3, w4, w5, w6, w7, w8, w9, w10, w11, w12, w13, ()))) v.1 v.2.1 v.2.2.1 v.2.2.2.1 v.2.2.2.2.1 v.2.2.2.2.2.1 v.2.2.2.2.2.2.1 v.2.2.2.2.2.2.2.1 v.2.2.2.2.2.2.2.2.1 v.2.2.2.2.2.2.2.2.2.1 v.2.2.2.2.2.2.2.2.2.2.1 v.2.2.2.2.2.2.2.2.2.2.2.1 v.2.2.2.2.2.2.2.2.2.2.2.2.1 v.2.2.2.2.2.2.2.2.2.2.2.2.2.1
    | none => loops n (RT serveSessionSend.con.rs × BT serveSessionSend.con.ps) lo κ body nm K s)
    (cond (!lo && Nat.beq κ 5)
    (match serveSessionSend.shj5.dec s with
    | some v => serveSessionSend.j5 n (fun w0 w1 w2 w3 w4 w5 w6 w7 w8 w9 w10 w11 w12 w13 => K .ret (serveSessionSend.outj5e1.enc (w0, w1, w2, w3, w4, w5, w6, w7, w8, w9, w10, w11, w12, w13, ()))) v.1 v.2.1 v.2.2.1 v.2.2.2.1 v.2.2.2.2.1 v.2.2.2.2.2.1 v.2.2.2.2.2.2.1 v.2.2.2.2.2.2.2.1 v.2.2.2.2.2.2.2.2.1 v.2.2.2.2.2.2.2.2.2.1 v.2.2.2.2.2.2.2.2.2.2.1 v.2.2.2.2.2.2.2.2.2.2.2.1 v.2.2.2.2.2.2.2.2.2.2.2.2.1 v.2.2.2.2.2.2.2.2.2.2.2.2.2.1
    | none => loops n (RT serveSessionSend.con.rs × BT serveSessionSend.con.ps) lo κ body nm K s)
    (loops n (RT serveSessionSend.con.rs × BT serveSessionSend.con.ps) lo κ body nm K s))))
theorem serveSessionSend.atj45004 (n : Nat) (s : St) (K : Ex → St → Option (RT serveSessionSend.con.rs × BT serveSessionSend.con.ps)) : serveSessionSend.lp n false 45004 (evK serveSessionSend.env (serveSessionSend.lp n) n (sub [1, 1, 0, 1] serveSessionSend.body)) serveSessionSend.nmj45004 K s = loops n (RT serveSessionSend.con.rs × BT serveSessionSend.con.ps) false 45004 (evK serveSessionSend.env (serveSessionSend.lp n) n (sub [1, 1, 0, 1] serveSessionSend.body)) serveSessionSend.nmj45004 K s := by
  show (match serveSessionSend.shj45004.dec s with | some v => serveSessionSend.j45004 n (fun w0 w1 w2 w3 w4 w5 w6 w7 w8 w9 w10 w11 w12 w13 => K .normal (serveSessionSend.outj45004e0.enc (w0, w1, w2, w3, w4, w5, w6, w7, w8, w9, w10, w11, w12, w13, ()))) v.1 v.2.1 v.2.2.1 v.2.2.2.1 v.2.2.2.2.1 v.2.2.2.2.2.1 v.2.2.2.2.2.2.1 v.2.2.2.2.2.2.2.1 v.2.2.2.2.2.2.2.2.1 v.2.2.2.2.2.2.2.2.2.1 v.2.2.2.2.2.2.2.2.2.2.1 v.2.2.2.2.2.2.2.2.2.2.2.1 v.2.2.2.2.2.2.2.2.2.2.2.2.1 v.2.2.2.2.2.2.2.2.2.2.2.2.2.1 v.2.2.2.2.2.2.2.2.2.2.2.2.2.2.1 | none => loops n (RT serveSessionSend.con.rs × BT serveSessionSend.con.ps) false 45004 (evK serveSessionSend.env (serveSessionSend.lp n) n (sub [1, 1, 0, 1] serveSessionSend.body)) serveSessionSend.nmj45004 K s) = _
  cases h : serveSessionSend.shj45004.dec s with
  | none => rfl
  | some v =>
    rw [Shp.dec_enc h]
    kernel_rfl
theorem serveSessionSend.atl14 (n : Nat) (s : St) (K : Ex → St → Option (RT serveSessionSend.con.rs × BT serveSessionSend.con.ps)) : serveSessionSend.lp n true 14 (evK serveSessionSend.env (serveSessionSend.lp n) n (sub [1, 1, 1, 1, 1, 1, 0, 0, 0] serveSessionSend.body)) serveSessionSend.nml14 K s = loops n (RT serveSessionSend.con.rs × BT serveSessionSend.con.ps) true 14 (evK serveSessionSend.env (serveSessionSend.lp n) n (sub [1, 1, 1, 1, 1, 1, 0, 0, 0] serveSessionSend.body)) serveSessionSend.nml14 K s := by
  show (match serveSessionSend.shl14.dec s with | some v => serveSessionSend.l14 n (fun w0 w1 w2 w3 w4 w5 w6 w7 w8 w9 w10 w11 w12 w13 => K (.exit 0) (serveSessionSend.outl14e2.enc (w0, w1, w2, w3, w4, w5, w6, w7, w8, w9, w10, w11, w12, w13, ()))) n v.1 v.2.1 v.2.2.1 v.2.2.2.1 v.2.2.2.2.1 v.2.2.2.2.2.1 v.2.2.2.2.2.2.1 v.2.2.2.2.2.2.2.1 v.2.2.2.2.2.2.2.2.1 v.2.2.2.2.2.2.2.2.2.1 v.2.2.2.2.2.2.2.2.2.2.1 v.2.2.2.2.2.2.2.2.2.2.2.1 v.2.2.2.2.2.2.2.2.2.2.2.2.1 v.2.2.2.2.2.2.2.2.2.2.2.2.2.1 | none => loops n (RT serveSessionSend.con.rs × BT serveSessionSend.con.ps) true 14 (evK serveSessionSend.env (serveSessionSend.lp n) n (sub [1, 1, 1, 1, 1, 1, 0, 0, 0] serveSessionSend.body)) serveSessionSend.nml14 K s) = _
  cases h : serveSessionSend.shl14.dec s with
  | none => rfl
  | some v =>
    rw [Shp.dec_enc h]
    exact (evLoop_eq (sh := serveSessionSend.shl14) (body := evK serveSessionSend.env (serveSessionSend.lp n) n (sub [1, 1, 1, 1, 1, 1, 0, 0, 0] serveSessionSend.body)) (nm := serveSessionSend.nml14) (K := K) (b := fun nx v => serveSessionSend.b14 n (fun x0 x1 x2 x3 x4 x5 x6 x7 x8 x9 x10 x11 x12 x13 => nx (x0, x1, x2, x3, x4, x5, x6, x7, x8, x9, x10, x11, x12, x13, ())) (fun w0 w1 w2 w3 w4 w5 w6 w7 w8 w9 w10 w11 w12 w13 => K (.exit 0) (serveSessionSend.outl14e2.enc (w0, w1, w2, w3, w4, w5, w6, w7, w8, w9, w10, w11, w12, w13, ()))) v.1 v.2.1 v.2.2.1 v.2.2.2.1 v.2.2.2.2.1 v.2.2.2.2.2.1 v.2.2.2.2.2.2.1 v.2.2.2.2.2.2.2.1 v.2.2.2.2.2.2.2.2.1 v.2.2.2.2.2.2.2.2.2.1 v.2.2.2.2.2.2.2.2.2.2.1 v.2.2.2.2.2.2.2.2.2.2.2.1 v.2.2.2.2.2.2.2.2.2.2.2.2.1 v.2.2.2.2.2.2.2.2.2.2.2.2.2.1) (l := fun m v => serveSessionSend.l14 n (fun w0 w1 w2 w3 w4 w5 w6 w7 w8 w9 w10 w11 w12 w13 => K (.exit 0) (serveSessionSend.outl14e2.enc (w0, w1, w2, w3, w4, w5, w6, w7, w8, w9, w10, w11, w12, w13, ()))) m v.1 v.2.1 v.2.2.1 v.2.2.2.1 v.2.2.2.2.1 v.2.2.2.2.2.1 v.2.2.2.2.2.2.1 v.2.2.2.2.2.2.2.1 v.2.2.2.2.2.2.2.2.1 v.2.2.2.2.2.2.2.2.2.1 v.2.2.2.2.2.2.2.2.2.2.1 v.2.2.2.2.2.2.2.2.2.2.2.1 v.2.2.2.2.2.2.2.2.2.2.2.2.1 v.2.2.2.2.2.2.2.2.2.2.2.2.2.1) (fun _ => rfl) (fun _ _ => rfl) (fun m v => by kernel_rfl) n v).symm
theorem serveSessionSend.atj14 (n : Nat) (s : St) (K : Ex → St → Option (RT serveSessionSend.con.rs × BT serveSessionSend.con.ps)) : serveSessionSend.lp n false 14 (evK serveSessionSend.env (serveSessionSend.lp n) n (sub [1, 1, 1, 1, 1, 1] serveSessionSend.body)) serveSessionSend.nmj14 K s = loops n (RT serveSessionSend.con.rs × BT serveSessionSend.con.ps) false 14 (evK serveSessionSend.env (serveSessionSend.lp n) n (sub [1, 1, 1, 1, 1, 1] serveSessionSend.body)) serveSessionSend.nmj14 K s := by
  show (match serveSessionSend.shj14.dec s with | some v => serveSessionSend.j14 n (fun w0 w1 w2 w3 w4 w5 w6 w7 w8 w9 w10 w11 w12 w13 => K .ret (serveSessionSend.outj14e1.enc (w0, w1, w2, w3, w4, w5, w6, w7, w8, w9, w10, w11, w12, w13, ()))) v.1 v.2.1 v.2.2.1 v.2.2.2.1 v.2.2.2.2.1 v.2.2.2.2.2.1 v.2.2.2.2.2.2.1 v.2.2.2.2.2.2.2.1 v.2.2.2.2.2.2.2.2.1 v.2.2.2.2.2.2.2.2.2.1 v.2.2.2.2.2.2.2.2.2.2.1 v.2.2.2.2.2.2.2.2.2.2.2.1 v.2.2.2.2.2.2.2.2.2.2.2.2.1 v.2.2.2.2.2.2.2.2.2.2.2.2.2.1 | none => loops n (RT serveSessionSend.con.rs × BT serveSessionSend.con.ps) false 14 (evK serveSessionSend.env (serveSessionSend.lp n) n (sub [1, 1, 1, 1, 1, 1] serveSessionSend.body)) serveSessionSend.nmj14 K s) = _
  cases h : serveSessionSend.shj14.dec s with
  | none => rfl
  | some v =>
    rw [Shp.dec_enc h]
    kernel_rfl
theorem serveSessionSend.atj5 (n : Nat) (s : St) (K : Ex → St → Option (RT serveSessionSend.con.rs × BT serveSessionSend.con.ps)) : serveSessionSend.lp n false 5 (evK serveSessionSend.env (serveSessionSend.lp n) n (sub [1, 1, 1] serveSessionSend.body)) serveSessionSend.nmj5 K s = loops n (RT serveSessionSend.con.rs × BT serveSessionSend.con.ps) false 5 (evK serveSessionSend.env (serveSessionSend.lp n) n (sub [1, 1, 1] serveSessionSend.body)) serveSessionSend.nmj5 K s := by
  show (match serveSessionSend.shj5.dec s with | some v => serveSessionSend.j5 n (fun w0 w1 w2 w3 w4 w5 w6 w7 w8 w9 w10 w11 w12 w13 => K .ret (serveSessionSend.outj5e1.enc (w0, w1, w2, w3, w4, w5, w6, w7, w8, w9, w10, w11, w12, w13, ()))) v.1 v.2.1 v.2.2.1 v.2.2.2.1 v.2.2.2.2.1 v.2.2.2.2.2.1 v.2.2.2.2.2.2.1 v.2.2.2.2.2.2.2.1 v.2.2.2.2.2.2.2.2.1 v.2.2.2.2.2.2.2.2.2.1 v.2.2.2.2.2.2.2.2.2.2.1 v.2.2.2.2.2.2.2.2.2.2.2.1 v.2.2.2.2.2.2.2.2.2.2.2.2.1 v.2.2.2.2.2.2.2.2.2.2.2.2.2.1 | none => loops n (RT serveSessionSend.con.rs × BT serveSessionSend.con.ps) false 5 (evK serveSessionSend.env (serveSessionSend.lp n) n (sub [1, 1, 1] serveSessionSend.body)) serveSessionSend.nmj5 K s) = _
  cases h : serveSessionSend.shj5.dec s with
  | none => rfl
  | some v =>
    rw [Shp.dec_enc h]
    kernel_rfl
theorem serveSessionSend.eq (n : Nat) (x : PT serveSessionSend.con.ps) : evFuncO serveSessionSend.env Try.f35 serveSessionSend.body serveSessionSend.con.ps serveSessionSend.con.rs (serveSessionSend.lp n) n x = serveSessionSend.con.f n x := by kernel_rfl
theorem serveSessionSend.sound : SoundO Try.prog globs 35 serveSessionSend.con :=
  sound_byO (E := serveSessionSend.env) (c := serveSessionSend.body) (envOk (G := globs) (lc := []) (lo := [(24, [backTriesTry.con]), (26, [backTriesNext.con]), (27, [backTriesOver.con]), (44, [serveSessionIsOpen.con])]) (envB_spec (by kernel_rfl)) rfl rfl trivial rfl ⟨⟨⟨backTriesTry.sound, trivial⟩, by kernel_rfl⟩, ⟨⟨⟨backTriesNext.sound, trivial⟩, by kernel_rfl⟩, ⟨⟨⟨backTriesOver.sound, trivial⟩, by kernel_rfl⟩, ⟨⟨⟨serveSessionIsOpen.sound, trivial⟩, by kernel_rfl⟩, trivial⟩⟩⟩⟩ (by kernel_rfl) (by kernel_rfl)) Try.func35 (by kernel_rfl) (by kernel_rfl) (by kernel_rfl) serveSessionSend.lp (l := [(false, sub [1, 1, 0, 1] serveSessionSend.body, serveSessionSend.nmj45004), (true, sub [1, 1, 1, 1, 1, 1, 0, 0, 0] serveSessionSend.body, serveSessionSend.nml14), (false, sub [1, 1, 1, 1, 1, 1] serveSessionSend.body, serveSessionSend.nmj14), (false, sub [1, 1, 1] serveSessionSend.body, serveSessionSend.nmj5)]) (by kernel_rfl) (fun n => ⟨serveSessionSend.atj45004 n, ⟨serveSessionSend.atl14 n, ⟨serveSessionSend.atj14 n, ⟨serveSessionSend.atj5 n, trivial⟩⟩⟩⟩) serveSessionSend.eq
noncomputable def ref20Same (fu : Nat) (a : S3) (b : S3) : Option (Bool × Unit) :=
  cond (a.1 == b.1) (
    cond (a.2.1 == b.2.1) (
      cond (a.2.2.1 == b.2.2.1) (
        cond (a.2.2.2.1 == b.2.2.2.1) (
          let t1 := a.2.2.2.2.1 == b.2.2.2.2.1
          cond t1 (
            let t2 := a.2.2.2.2.2.1 == b.2.2.2.2.2.1
            some (t2, ())) (
            some (false, ()))) (
          some (false, ()))) (
        some (false, ()))) (
      some (false, ()))) (
    some (false, ()))

noncomputable def ref20Same.body : Code := Try.f69.body.getD .skip
noncomputable def ref20Same.con : Con := { ps := [kS3, kS3], rs := [.bool], f := fun n x => ref20Same n x.1 x.2.1 }
noncomputable def ref20Same.env : Env := { tys := [(56, ⟨kS3, 56⟩), (4, ⟨.bool, 1⟩), (5, ⟨(.int .u8), 1⟩), (22, ⟨(.int .u32), 4⟩), (27, ⟨(.int .u64), 8⟩), (54, ⟨(.slice (.int .u8)), 24⟩), (9, ⟨.str, 16⟩)], elems := [(54, 5)], ptrs := [], cons := [], objs := [], loops := [], cuts := [], globs := globs, base := 0 }
noncomputable def ref20Same.lp (n : Nat) : LP (Kd.struct ref20Same.con.rs).T := fun lo κ body nm K s =>
  loops n (Kd.struct ref20Same.con.rs).T lo κ body nm K s
theorem ref20Same.eq (n : Nat) (x : (Kd.struct ref20Same.con.ps).T) : evFunc ref20Same.env Try.f69 ref20Same.body ref20Same.con.ps ref20Same.con.rs (ref20Same.lp n) n x = ref20Same.con.f n x := by kernel_rfl
theorem ref20Same.sound : Sound Try.prog globs 69 ref20Same.con :=
  sound_by (E := ref20Same.env) (c := ref20Same.body) (envOk (G := globs) (lc := []) (lo := []) (envB_spec (by kernel_rfl)) rfl rfl trivial rfl trivial (by kernel_rfl) (by kernel_rfl)) Try.func69 (by kernel_rfl) ref20Same.lp (l := []) (by kernel_rfl) (fun n => trivial) ref20Same.eq
noncomputable def ref20SameAll.b4 (fu : Nat) (next : (List S3) → (List S3) → Int → Int → Option (Bool × Unit)) (k1 : Bool → Option (Bool × Unit)) (k2 : Unit → Option (Bool × Unit)) (a : List S3) (b : List S3) (v : Int) (vx2 : Int) : Option (Bool × Unit) :=
  cond (decide (vx2 < v)) (
    chk (ixOk a vx2) <|
    let e1 := ixL ((0 : Int), (0 : Int), (0 : Int), (0 : Int), (0 : Int), [], ()) a vx2
    chk (ixOk b vx2) <|
    let e2 := ixL ((0 : Int), (0 : Int), (0 : Int), (0 : Int), (0 : Int), [], ()) b vx2
    (ref20Same fu e1 e2).bind fun r3 =>
    cond (!r3.1) (
      k1 false) (
      let t4 := IntKind.i64.wrap (vx2 + (1 : Int))
      next a b v t4)) (
    k2 ())
noncomputable def ref20SameAll.l4 (fu : Nat) (k1 : Bool → Option (Bool × Unit)) (k2 : Unit → Option (Bool × Unit)) : Nat → (List S3) → (List S3) → Int → Int → Option (Bool × Unit)
  | 0, _, _, _, _ => none
  | m + 1, a, b, v, vx2 => ref20SameAll.b4 fu (ref20SameAll.l4 fu k1 k2 m) k1 k2 a b v vx2
noncomputable def ref20SameAll (fu : Nat) (a : List S3) (b : List S3) : Option (Bool × Unit) :=
  let t1 := (a.length : Int) != (b.length : Int)
  cond t1 (
    some (false, ())) (
    ref20SameAll.l4 fu (fun vq3 => 
        some (vq3, ())) (fun (_ : Unit) => 
        some (true, ())) fu a b (a.length : Int) (0 : Int))

noncomputable def ref20SameAll.body : Code := Try.f57.body.getD .skip
abbrev ref20SameAll.shl4 : Shp := ⟨[.d (.slice kS3), .d (.slice kS3), .u, .u, .u, .u, .u, .u, .u, .u, .u, .u, .d (.int .i64), .d (.int .i64), .u, .u, .u, .u, .u, .u, .u, .u, .u, .u, .u, .u, .u], []⟩
abbrev ref20SameAll.outl4e1 : Shp := ⟨[.u, .u, .u, .u, .d .bool, .u, .u, .u, .u, .u, .u, .u, .u, .u, .u, .u, .u, .u, .u, .u, .u, .u, .u, .u, .u, .u, .u], []⟩
abbrev ref20SameAll.outl4e2 : Shp := ⟨[.u, .u, .u, .u, .u, .u, .u, .u, .u, .u, .u, .u, .u, .u, .u, .u, .u, .u, .u, .u, .u, .u, .u, .u, .u, .u, .u], []⟩
noncomputable def ref20SameAll.nml4 : Norm := ⟨{ keep := [0, 1, 12, 13], shut := [(0, (.slice kS3)), (1, (.slice kS3)), (12, (.int .i64)), (13, (.int .i64))], retag := [], heap := 0, dead := [], cshut := [], cretag := [] }, [(1, { keep := [4], shut := [(4, .bool)], retag := [], heap := 0, dead := [], cshut := [], cretag := [] }), (2, { keep := [], shut := [], retag := [], heap := 0, dead := [], cshut := [], cretag := [] })]⟩
noncomputable def ref20SameAll.con : Con := { ps := [(.slice kS3), (.slice kS3)], rs := [.bool], f := fun n x => ref20SameAll n x.1 x.2.1 }
noncomputable def ref20SameAll.env : Env := { tys := [(4, ⟨.bool, 1⟩), (56, ⟨kS3, 56⟩), (3, ⟨(.int .i64), 8⟩)], elems := [(52, 56)], ptrs := [], cons := [(69, ref20Same.con)], objs := [], loops := [(4, ref20SameAll.nml4)], cuts := [], globs := globs, base := 0 }
noncomputable def ref20SameAll.lp (n : Nat) : LP (Kd.struct ref20SameAll.con.rs).T := fun lo κ body nm K s =>
  cond (lo && Nat.beq κ 4)
    (match ref20SameAll.shl4.dec s with
    | some v => ref20SameAll.l4 n (fun w0 => K .ret (ref20SameAll.outl4e1.enc (w0, ()))) (fun _ => K (.exit 0) (ref20SameAll.outl4e2.enc (()))) n v.1 v.2.1 v.2.2.1 v.2.2.2.1
    | none => loops n (Kd.struct ref20SameAll.con.rs).T lo κ body nm K s)
    (loops n (Kd.struct ref20SameAll.con.rs).T lo κ body nm K s)
theorem ref20SameAll.atl4 (n : Nat) (s : St) (K : Ex → St → Option (Kd.struct ref20SameAll.con.rs).T) : ref20SameAll.lp n true 4 (evK ref20SameAll.env (ref20SameAll.lp n) n (sub [1, 1, 0, 1, 0, 0] ref20SameAll.body)) ref20SameAll.nml4 K s = loops n (Kd.struct ref20SameAll.con.rs).T true 4 (evK ref20SameAll.env (ref20SameAll.lp n) n (sub [1, 1, 0, 1, 0, 0] ref20SameAll.body)) ref20SameAll.nml4 K s := by
  show (match ref20SameAll.shl4.dec s with | some v => ref20SameAll.l4 n (fun w0 => K .ret (ref20SameAll.outl4e1.enc (w0, ()))) (fun _ => K (.exit 0) (ref20SameAll.outl4e2.enc (()))) n v.1 v.2.1 v.2.2.1 v.2.2.2.1 | none => loops n (Kd.struct ref20SameAll.con.rs).T true 4 (evK ref20SameAll.env (ref20SameAll.lp n) n (sub [1, 1, 0, 1, 0, 0] ref20SameAll.body)) ref20SameAll.nml4 K s) = _
  cases h : ref20SameAll.shl4.dec s with
  | none => rfl
  | some v =>
    rw [Shp.dec_enc h]
    exact (evLoop_eq (sh := ref20SameAll.shl4) (body := evK ref20SameAll.env (ref20SameAll.lp n) n (sub [1, 1, 0, 1, 0, 0] ref20SameAll.body)) (nm := ref20SameAll.nml4) (K := K) (b := fun nx v => ref20SameAll.b4 n (fun x0 x1 x2 x3 => nx (x0, x1, x2, x3, ())) (fun w0 => K .ret (ref20SameAll.outl4e1.enc (w0, ()))) (fun _ => K (.exit 0) (ref20SameAll.outl4e2.enc (()))) v.1 v.2.1 v.2.2.1 v.2.2.2.1) (l := fun m v => ref20SameAll.l4 n (fun w0 => K .ret (ref20SameAll.outl4e1.enc (w0, ()))) (fun _ => K (.exit 0) (ref20SameAll.outl4e2.enc (()))) m v.1 v.2.1 v.2.2.1 v.2.2.2.1) (fun _ => rfl) (fun _ _ => rfl) (fun m v => by kernel_rfl) n v).symm
theorem ref20SameAll.eq (n : Nat) (x : (Kd.struct ref20SameAll.con.ps).T) : evFunc ref20SameAll.env Try.f57 ref20SameAll.body ref20SameAll.con.ps ref20SameAll.con.rs (ref20SameAll.lp n) n x = ref20SameAll.con.f n x := by kernel_rfl
theorem ref20SameAll.sound : Sound Try.prog globs 57 ref20SameAll.con :=
  sound_by (E := ref20SameAll.env) (c := ref20SameAll.body) (envOk (G := globs) (lc := [(69, ref20Same.con)]) (lo := []) (envB_spec (by kernel_rfl)) rfl rfl ⟨.inl ⟨ref20Same.sound, by kernel_rfl⟩, trivial⟩ rfl trivial (by kernel_rfl) (by kernel_rfl)) Try.func57 (by kernel_rfl) ref20SameAll.lp (l := [(true, sub [1, 1, 0, 1, 0, 0] ref20SameAll.body, ref20SameAll.nml4)]) (by kernel_rfl) (fun n => ⟨ref20SameAll.atl4 n, trivial⟩) ref20SameAll.eq
noncomputable def law24Fixed (fu : Nat) : Option (Bool × Unit) :=
  (serveNew fu ((2 : Int), (9 : Int), (3 : Int), ()) (2 : Int)).bind fun r1 =>
  oc r1.1.1 (
    some (false, ())) fun o2 =>
  cond (r1.1.2.1 != (0 : Int)) (
    some (false, ())) (
    (serveSessionOpen fu o2 (1 : Int) (0 : Int) (3 : Int) (5 : Int)).bind fun r3 =>
    cond (r3.1.1 != (0 : Int)) (
      some (false, ())) (
      (serveSessionSend fu r3.2.1 (5 : Int)).bind fun r4 =>
      let t5 := [((5 : Int), (0 : Int), (0 : Int), (0 : Int), (0 : Int), [], ()), ((5 : Int), (0 : Int), (0 : Int), (1 : Int), (0 : Int), [], ())]
      (ref20SameAll fu r4.1.1 t5).bind fun r6 =>
      some (r6.1, ())))

noncomputable def law24Fixed.body : Code := Try.f32.body.getD .skip
noncomputable def law24Fixed.con : Con := { ps := [], rs := [.bool], f := fun n x => law24Fixed n }
noncomputable def law24Fixed.env : Env := { tys := [(4, ⟨.bool, 1⟩), (24, ⟨kS0, 12⟩), (47, ⟨.np, 8⟩), (56, ⟨kS3, 56⟩)], elems := [(52, 56)], ptrs := [(47, 92)], cons := [(57, ref20SameAll.con)], objs := [(31, [serveNew.con]), (34, [serveSessionOpen.con]), (35, [serveSessionSend.con])], loops := [], cuts := [], globs := globs, base := 0 }
noncomputable def law24Fixed.lp (n : Nat) : LP (Kd.struct law24Fixed.con.rs).T := fun lo κ body nm K s =>
  loops n (Kd.struct law24Fixed.con.rs).T lo κ body nm K s
theorem law24Fixed.eq (n : Nat) (x : (Kd.struct law24Fixed.con.ps).T) : evFunc law24Fixed.env Try.f32 law24Fixed.body law24Fixed.con.ps law24Fixed.con.rs (law24Fixed.lp n) n x = law24Fixed.con.f n x := by kernel_rfl
theorem law24Fixed.sound : Sound Try.prog globs 32 law24Fixed.con :=
  sound_by (E := law24Fixed.env) (c := law24Fixed.body) (envOk (G := globs) (lc := [(57, ref20SameAll.con)]) (lo := [(31, [serveNew.con]), (34, [serveSessionOpen.con]), (35, [serveSessionSend.con])]) (envB_spec (by kernel_rfl)) rfl rfl ⟨.inl ⟨ref20SameAll.sound, by kernel_rfl⟩, trivial⟩ rfl ⟨⟨⟨serveNew.sound, trivial⟩, by kernel_rfl⟩, ⟨⟨⟨serveSessionOpen.sound, trivial⟩, by kernel_rfl⟩, ⟨⟨⟨serveSessionSend.sound, trivial⟩, by kernel_rfl⟩, trivial⟩⟩⟩ (by kernel_rfl) (by kernel_rfl)) Try.func32 (by kernel_rfl) law24Fixed.lp (l := []) (by kernel_rfl) (fun n => trivial) law24Fixed.eq
noncomputable def serveSessionOpenNil (fu : Nat) (epoch : Int) (cursor : Int) (endv : Int) (now : Int) : Option ((Int × Unit) × (Unit)) :=
  some (((1 : Int), ()), (()))

noncomputable def serveSessionOpenNil.body : Code := Try.f34.body.getD .skip
noncomputable def serveSessionOpenNil.con : OCon := { ps := [.nil, .dat (.int .u32), .dat (.int .u64), .dat (.int .u64), .dat (.int .u64)], rs := [.dat (.int .i64)], f := fun n x => serveSessionOpenNil n x.2.1 x.2.2.1 x.2.2.2.1 x.2.2.2.2.1 }
noncomputable def serveSessionOpenNil.env : Env := { tys := [(37, ⟨(.int .i64), 8⟩), (47, ⟨.np, 8⟩)], elems := [], ptrs := [(47, 92)], cons := [], objs := [], loops := [], cuts := [], globs := globs, base := 0 }
noncomputable def serveSessionOpenNil.lp (n : Nat) : LP (RT serveSessionOpenNil.con.rs × BT serveSessionOpenNil.con.ps) := fun lo κ body nm K s =>
  loops n (RT serveSessionOpenNil.con.rs × BT serveSessionOpenNil.con.ps) lo κ body nm K s
theorem serveSessionOpenNil.eq (n : Nat) (x : PT serveSessionOpenNil.con.ps) : evFuncO serveSessionOpenNil.env Try.f34 serveSessionOpenNil.body serveSessionOpenNil.con.ps serveSessionOpenNil.con.rs (serveSessionOpenNil.lp n) n x = serveSessionOpenNil.con.f n x := by kernel_rfl
theorem serveSessionOpenNil.sound : SoundO Try.prog globs 34 serveSessionOpenNil.con :=
  sound_byO (E := serveSessionOpenNil.env) (c := serveSessionOpenNil.body) (envOk (G := globs) (lc := []) (lo := []) (envB_spec (by kernel_rfl)) rfl rfl trivial rfl trivial (by kernel_rfl) (by kernel_rfl)) Try.func34 (by kernel_rfl) (by kernel_rfl) (by kernel_rfl) serveSessionOpenNil.lp (l := []) (by kernel_rfl) (fun n => trivial) serveSessionOpenNil.eq
noncomputable def serveSessionMoveNil (fu : Nat) (n : Int) (now : Int) : Option ((Bool × Unit) × (Unit)) :=
  (serveSessionIsOpenNil fu).bind fun r1 =>
  cond (!r1.1.1) (
    some ((false, ()), (()))) (
    none)

noncomputable def serveSessionMoveNil.body : Code := Try.f39.body.getD .skip
noncomputable def serveSessionMoveNil.con : OCon := { ps := [.nil, .dat (.int .u64), .dat (.int .u64)], rs := [.dat .bool], f := fun n x => serveSessionMoveNil n x.2.1 x.2.2.1 }
noncomputable def serveSessionMoveNil.env : Env := { tys := [(4, ⟨.bool, 1⟩), (47, ⟨.np, 8⟩)], elems := [], ptrs := [], cons := [], objs := [(44, [serveSessionIsOpenNil.con])], loops := [], cuts := [], globs := globs, base := 0 }
noncomputable def serveSessionMoveNil.lp (n : Nat) : LP (RT serveSessionMoveNil.con.rs × BT serveSessionMoveNil.con.ps) := fun lo κ body nm K s =>
  loops n (RT serveSessionMoveNil.con.rs × BT serveSessionMoveNil.con.ps) lo κ body nm K s
theorem serveSessionMoveNil.eq (n : Nat) (x : PT serveSessionMoveNil.con.ps) : evFuncO serveSessionMoveNil.env Try.f39 serveSessionMoveNil.body serveSessionMoveNil.con.ps serveSessionMoveNil.con.rs (serveSessionMoveNil.lp n) n x = serveSessionMoveNil.con.f n x := by kernel_rfl
theorem serveSessionMoveNil.sound : SoundO Try.prog globs 39 serveSessionMoveNil.con :=
  sound_byO (E := serveSessionMoveNil.env) (c := serveSessionMoveNil.body) (envOk (G := globs) (lc := []) (lo := [(44, [serveSessionIsOpenNil.con])]) (envB_spec (by kernel_rfl)) rfl rfl trivial rfl ⟨⟨⟨serveSessionIsOpenNil.sound, trivial⟩, by kernel_rfl⟩, trivial⟩ (by kernel_rfl) (by kernel_rfl)) Try.func39 (by kernel_rfl) (by kernel_rfl) (by kernel_rfl) serveSessionMoveNil.lp (l := []) (by kernel_rfl) (fun n => trivial) serveSessionMoveNil.eq
noncomputable def serveSessionSendNil (fu : Nat) (now : Int) : Option (((List S3) × Unit) × (Unit)) :=
  (serveSessionIsOpenNil fu).bind fun r1 =>
  cond (!r1.1.1) (
    some (([], ()), (()))) (
    none)

noncomputable def serveSessionSendNil.body : Code := Try.f35.body.getD .skip
noncomputable def serveSessionSendNil.con : OCon := { ps := [.nil, .dat (.int .u64)], rs := [.dat (.slice kS3)], f := fun n x => serveSessionSendNil n x.2.1 }
noncomputable def serveSessionSendNil.env : Env := { tys := [(52, ⟨(.slice kS3), 24⟩), (47, ⟨.np, 8⟩), (4, ⟨.bool, 1⟩)], elems := [], ptrs := [], cons := [], objs := [(44, [serveSessionIsOpenNil.con])], loops := [], cuts := [], globs := globs, base := 0 }
noncomputable def serveSessionSendNil.lp (n : Nat) : LP (RT serveSessionSendNil.con.rs × BT serveSessionSendNil.con.ps) := fun lo κ body nm K s =>
  loops n (RT serveSessionSendNil.con.rs × BT serveSessionSendNil.con.ps) lo κ body nm K s
theorem serveSessionSendNil.eq (n : Nat) (x : PT serveSessionSendNil.con.ps) : evFuncO serveSessionSendNil.env Try.f35 serveSessionSendNil.body serveSessionSendNil.con.ps serveSessionSendNil.con.rs (serveSessionSendNil.lp n) n x = serveSessionSendNil.con.f n x := by kernel_rfl
theorem serveSessionSendNil.sound : SoundO Try.prog globs 35 serveSessionSendNil.con :=
  sound_byO (E := serveSessionSendNil.env) (c := serveSessionSendNil.body) (envOk (G := globs) (lc := []) (lo := [(44, [serveSessionIsOpenNil.con])]) (envB_spec (by kernel_rfl)) rfl rfl trivial rfl ⟨⟨⟨serveSessionIsOpenNil.sound, trivial⟩, by kernel_rfl⟩, trivial⟩ (by kernel_rfl) (by kernel_rfl)) Try.func35 (by kernel_rfl) (by kernel_rfl) (by kernel_rfl) serveSessionSendNil.lp (l := []) (by kernel_rfl) (fun n => trivial) serveSessionSendNil.eq
noncomputable def serveSessionAcksNil (fu : Nat) (epoch : Int) (n : Int) : Option ((Bool × Unit) × (Unit)) :=
  (serveSessionIsOpenNil fu).bind fun r1 =>
  cond r1.1.1 (
    none) (
    some ((false, ()), (())))

noncomputable def serveSessionAcksNil.body : Code := Try.f38.body.getD .skip
noncomputable def serveSessionAcksNil.con : OCon := { ps := [.nil, .dat (.int .u32), .dat (.int .u64)], rs := [.dat .bool], f := fun n x => serveSessionAcksNil n x.2.1 x.2.2.1 }
noncomputable def serveSessionAcksNil.env : Env := { tys := [(4, ⟨.bool, 1⟩), (47, ⟨.np, 8⟩)], elems := [], ptrs := [], cons := [], objs := [(44, [serveSessionIsOpenNil.con])], loops := [], cuts := [], globs := globs, base := 0 }
noncomputable def serveSessionAcksNil.lp (n : Nat) : LP (RT serveSessionAcksNil.con.rs × BT serveSessionAcksNil.con.ps) := fun lo κ body nm K s =>
  loops n (RT serveSessionAcksNil.con.rs × BT serveSessionAcksNil.con.ps) lo κ body nm K s
theorem serveSessionAcksNil.eq (n : Nat) (x : PT serveSessionAcksNil.con.ps) : evFuncO serveSessionAcksNil.env Try.f38 serveSessionAcksNil.body serveSessionAcksNil.con.ps serveSessionAcksNil.con.rs (serveSessionAcksNil.lp n) n x = serveSessionAcksNil.con.f n x := by kernel_rfl
theorem serveSessionAcksNil.sound : SoundO Try.prog globs 38 serveSessionAcksNil.con :=
  sound_byO (E := serveSessionAcksNil.env) (c := serveSessionAcksNil.body) (envOk (G := globs) (lc := []) (lo := [(44, [serveSessionIsOpenNil.con])]) (envB_spec (by kernel_rfl)) rfl rfl trivial rfl ⟨⟨⟨serveSessionIsOpenNil.sound, trivial⟩, by kernel_rfl⟩, trivial⟩ (by kernel_rfl) (by kernel_rfl)) Try.func38 (by kernel_rfl) (by kernel_rfl) (by kernel_rfl) serveSessionAcksNil.lp (l := []) (by kernel_rfl) (fun n => trivial) serveSessionAcksNil.eq
noncomputable def serveSessionDropsNil (fu : Nat) (epoch : Int) (n : Int) : Option ((Bool × Unit) × (Unit)) :=
  (serveSessionIsOpenNil fu).bind fun r1 =>
  cond r1.1.1 (
    none) (
    some ((false, ()), (())))

noncomputable def serveSessionDropsNil.body : Code := Try.f48.body.getD .skip
noncomputable def serveSessionDropsNil.con : OCon := { ps := [.nil, .dat (.int .u32), .dat (.int .u64)], rs := [.dat .bool], f := fun n x => serveSessionDropsNil n x.2.1 x.2.2.1 }
noncomputable def serveSessionDropsNil.env : Env := { tys := [(4, ⟨.bool, 1⟩), (47, ⟨.np, 8⟩)], elems := [], ptrs := [], cons := [], objs := [(44, [serveSessionIsOpenNil.con])], loops := [], cuts := [], globs := globs, base := 0 }
noncomputable def serveSessionDropsNil.lp (n : Nat) : LP (RT serveSessionDropsNil.con.rs × BT serveSessionDropsNil.con.ps) := fun lo κ body nm K s =>
  loops n (RT serveSessionDropsNil.con.rs × BT serveSessionDropsNil.con.ps) lo κ body nm K s
theorem serveSessionDropsNil.eq (n : Nat) (x : PT serveSessionDropsNil.con.ps) : evFuncO serveSessionDropsNil.env Try.f48 serveSessionDropsNil.body serveSessionDropsNil.con.ps serveSessionDropsNil.con.rs (serveSessionDropsNil.lp n) n x = serveSessionDropsNil.con.f n x := by kernel_rfl
theorem serveSessionDropsNil.sound : SoundO Try.prog globs 48 serveSessionDropsNil.con :=
  sound_byO (E := serveSessionDropsNil.env) (c := serveSessionDropsNil.body) (envOk (G := globs) (lc := []) (lo := [(44, [serveSessionIsOpenNil.con])]) (envB_spec (by kernel_rfl)) rfl rfl trivial rfl ⟨⟨⟨serveSessionIsOpenNil.sound, trivial⟩, by kernel_rfl⟩, trivial⟩ (by kernel_rfl) (by kernel_rfl)) Try.func48 (by kernel_rfl) (by kernel_rfl) (by kernel_rfl) serveSessionDropsNil.lp (l := []) (by kernel_rfl) (fun n => trivial) serveSessionDropsNil.eq
noncomputable def serveSessionNackNil (fu : Nat) (epoch : Int) (n : Int) (now : Int) : Option ((Bool × Unit) × (Unit)) :=
  (serveSessionIsOpenNil fu).bind fun r1 =>
  cond (!r1.1.1) (
    some ((false, ()), (()))) (
    none)

noncomputable def serveSessionNackNil.body : Code := Try.f49.body.getD .skip
noncomputable def serveSessionNackNil.con : OCon := { ps := [.nil, .dat (.int .u32), .dat (.int .u64), .dat (.int .u64)], rs := [.dat .bool], f := fun n x => serveSessionNackNil n x.2.1 x.2.2.1 x.2.2.2.1 }
noncomputable def serveSessionNackNil.env : Env := { tys := [(4, ⟨.bool, 1⟩), (47, ⟨.np, 8⟩)], elems := [], ptrs := [], cons := [], objs := [(44, [serveSessionIsOpenNil.con])], loops := [], cuts := [], globs := globs, base := 0 }
noncomputable def serveSessionNackNil.lp (n : Nat) : LP (RT serveSessionNackNil.con.rs × BT serveSessionNackNil.con.ps) := fun lo κ body nm K s =>
  loops n (RT serveSessionNackNil.con.rs × BT serveSessionNackNil.con.ps) lo κ body nm K s
theorem serveSessionNackNil.eq (n : Nat) (x : PT serveSessionNackNil.con.ps) : evFuncO serveSessionNackNil.env Try.f49 serveSessionNackNil.body serveSessionNackNil.con.ps serveSessionNackNil.con.rs (serveSessionNackNil.lp n) n x = serveSessionNackNil.con.f n x := by kernel_rfl
theorem serveSessionNackNil.sound : SoundO Try.prog globs 49 serveSessionNackNil.con :=
  sound_byO (E := serveSessionNackNil.env) (c := serveSessionNackNil.body) (envOk (G := globs) (lc := []) (lo := [(44, [serveSessionIsOpenNil.con])]) (envB_spec (by kernel_rfl)) rfl rfl trivial rfl ⟨⟨⟨serveSessionIsOpenNil.sound, trivial⟩, by kernel_rfl⟩, trivial⟩ (by kernel_rfl) (by kernel_rfl)) Try.func49 (by kernel_rfl) (by kernel_rfl) (by kernel_rfl) serveSessionNackNil.lp (l := []) (by kernel_rfl) (fun n => trivial) serveSessionNackNil.eq
noncomputable def serveSessionEpochNil (fu : Nat) : Option ((Int × Unit) × (Unit)) :=
  some (((0 : Int), ()), (()))

noncomputable def serveSessionEpochNil.body : Code := Try.f45.body.getD .skip
noncomputable def serveSessionEpochNil.con : OCon := { ps := [.nil], rs := [.dat (.int .u32)], f := fun n x => serveSessionEpochNil n }
noncomputable def serveSessionEpochNil.env : Env := { tys := [(22, ⟨(.int .u32), 4⟩), (47, ⟨.np, 8⟩)], elems := [], ptrs := [(47, 92)], cons := [], objs := [], loops := [], cuts := [], globs := globs, base := 0 }
noncomputable def serveSessionEpochNil.lp (n : Nat) : LP (RT serveSessionEpochNil.con.rs × BT serveSessionEpochNil.con.ps) := fun lo κ body nm K s =>
  loops n (RT serveSessionEpochNil.con.rs × BT serveSessionEpochNil.con.ps) lo κ body nm K s
theorem serveSessionEpochNil.eq (n : Nat) (x : PT serveSessionEpochNil.con.ps) : evFuncO serveSessionEpochNil.env Try.f45 serveSessionEpochNil.body serveSessionEpochNil.con.ps serveSessionEpochNil.con.rs (serveSessionEpochNil.lp n) n x = serveSessionEpochNil.con.f n x := by kernel_rfl
theorem serveSessionEpochNil.sound : SoundO Try.prog globs 45 serveSessionEpochNil.con :=
  sound_byO (E := serveSessionEpochNil.env) (c := serveSessionEpochNil.body) (envOk (G := globs) (lc := []) (lo := []) (envB_spec (by kernel_rfl)) rfl rfl trivial rfl trivial (by kernel_rfl) (by kernel_rfl)) Try.func45 (by kernel_rfl) (by kernel_rfl) (by kernel_rfl) serveSessionEpochNil.lp (l := []) (by kernel_rfl) (fun n => trivial) serveSessionEpochNil.eq
noncomputable def serveSessionCursorNil (fu : Nat) : Option ((Int × Unit) × (Unit)) :=
  (serveSessionIsOpenNil fu).bind fun r1 =>
  cond (!r1.1.1) (
    some (((0 : Int), ()), (()))) (
    none)

noncomputable def serveSessionCursorNil.body : Code := Try.f37.body.getD .skip
noncomputable def serveSessionCursorNil.con : OCon := { ps := [.nil], rs := [.dat (.int .u64)], f := fun n x => serveSessionCursorNil n }
noncomputable def serveSessionCursorNil.env : Env := { tys := [(27, ⟨(.int .u64), 8⟩), (47, ⟨.np, 8⟩)], elems := [], ptrs := [], cons := [], objs := [(44, [serveSessionIsOpenNil.con])], loops := [], cuts := [], globs := globs, base := 0 }
noncomputable def serveSessionCursorNil.lp (n : Nat) : LP (RT serveSessionCursorNil.con.rs × BT serveSessionCursorNil.con.ps) := fun lo κ body nm K s =>
  loops n (RT serveSessionCursorNil.con.rs × BT serveSessionCursorNil.con.ps) lo κ body nm K s
theorem serveSessionCursorNil.eq (n : Nat) (x : PT serveSessionCursorNil.con.ps) : evFuncO serveSessionCursorNil.env Try.f37 serveSessionCursorNil.body serveSessionCursorNil.con.ps serveSessionCursorNil.con.rs (serveSessionCursorNil.lp n) n x = serveSessionCursorNil.con.f n x := by kernel_rfl
theorem serveSessionCursorNil.sound : SoundO Try.prog globs 37 serveSessionCursorNil.con :=
  sound_byO (E := serveSessionCursorNil.env) (c := serveSessionCursorNil.body) (envOk (G := globs) (lc := []) (lo := [(44, [serveSessionIsOpenNil.con])]) (envB_spec (by kernel_rfl)) rfl rfl trivial rfl ⟨⟨⟨serveSessionIsOpenNil.sound, trivial⟩, by kernel_rfl⟩, trivial⟩ (by kernel_rfl) (by kernel_rfl)) Try.func37 (by kernel_rfl) (by kernel_rfl) (by kernel_rfl) serveSessionCursorNil.lp (l := []) (by kernel_rfl) (fun n => trivial) serveSessionCursorNil.eq
noncomputable def serveSessionDroppingNil (fu : Nat) : Option ((Bool × Unit) × (Unit)) :=
  (serveSessionIsOpenNil fu).bind fun r1 =>
  cond r1.1.1 (
    none) (
    some ((false, ()), (())))

noncomputable def serveSessionDroppingNil.body : Code := Try.f36.body.getD .skip
noncomputable def serveSessionDroppingNil.con : OCon := { ps := [.nil], rs := [.dat .bool], f := fun n x => serveSessionDroppingNil n }
noncomputable def serveSessionDroppingNil.env : Env := { tys := [(4, ⟨.bool, 1⟩), (47, ⟨.np, 8⟩)], elems := [], ptrs := [], cons := [], objs := [(44, [serveSessionIsOpenNil.con])], loops := [], cuts := [], globs := globs, base := 0 }
noncomputable def serveSessionDroppingNil.lp (n : Nat) : LP (RT serveSessionDroppingNil.con.rs × BT serveSessionDroppingNil.con.ps) := fun lo κ body nm K s =>
  loops n (RT serveSessionDroppingNil.con.rs × BT serveSessionDroppingNil.con.ps) lo κ body nm K s
theorem serveSessionDroppingNil.eq (n : Nat) (x : PT serveSessionDroppingNil.con.ps) : evFuncO serveSessionDroppingNil.env Try.f36 serveSessionDroppingNil.body serveSessionDroppingNil.con.ps serveSessionDroppingNil.con.rs (serveSessionDroppingNil.lp n) n x = serveSessionDroppingNil.con.f n x := by kernel_rfl
theorem serveSessionDroppingNil.sound : SoundO Try.prog globs 36 serveSessionDroppingNil.con :=
  sound_byO (E := serveSessionDroppingNil.env) (c := serveSessionDroppingNil.body) (envOk (G := globs) (lc := []) (lo := [(44, [serveSessionIsOpenNil.con])]) (envB_spec (by kernel_rfl)) rfl rfl trivial rfl ⟨⟨⟨serveSessionIsOpenNil.sound, trivial⟩, by kernel_rfl⟩, trivial⟩ (by kernel_rfl) (by kernel_rfl)) Try.func36 (by kernel_rfl) (by kernel_rfl) (by kernel_rfl) serveSessionDroppingNil.lp (l := []) (by kernel_rfl) (fun n => trivial) serveSessionDroppingNil.eq
noncomputable def law24ServeNil (fu : Nat) (o : S4) : Option (Bool × Unit) :=
  (serveSessionShutNil fu).bind fun r1 =>
  (serveSessionGrowNil fu o.2.2.1).bind fun r2 =>
  (law24Fixed fu).bind fun r3 =>
  cond r3.1 (
    (serveSessionOpenNil fu o.2.1 o.2.2.1 o.2.2.2.1 o.2.2.2.2.1).bind fun r4 =>
    cond (r4.1.1 == (1 : Int)) (
      (serveSessionMoveNil fu o.2.2.1 o.2.2.2.2.1).bind fun r5 =>
      cond (!r5.1.1) (
        (serveSessionSendNil fu o.2.2.2.2.1).bind fun r6 =>
        let t7 := (r6.1.1.length : Int) == (0 : Int)
        cond t7 (
          (serveSessionAcksNil fu o.2.1 o.2.2.1).bind fun r8 =>
          cond (!r8.1.1) (
            (serveSessionDropsNil fu o.2.1 o.2.2.1).bind fun r9 =>
            cond (!r9.1.1) (
              (serveSessionNackNil fu o.2.1 o.2.2.1 o.2.2.2.2.1).bind fun r10 =>
              cond (!r10.1.1) (
                (serveSessionIsOpenNil fu).bind fun r11 =>
                cond (!r11.1.1) (
                  (serveSessionEpochNil fu).bind fun r12 =>
                  cond (r12.1.1 == (0 : Int)) (
                    (serveSessionCursorNil fu).bind fun r13 =>
                    cond (r13.1.1 == (0 : Int)) (
                      (serveSessionDroppingNil fu).bind fun r14 =>
                      some (!r14.1.1, ())) (
                      some (false, ()))) (
                    some (false, ()))) (
                  some (false, ()))) (
                some (false, ()))) (
              some (false, ()))) (
            some (false, ()))) (
          some (false, ()))) (
        some (false, ()))) (
      some (false, ()))) (
    some (false, ()))

noncomputable def law24ServeNil.body : Code := Try.f11.body.getD .skip
noncomputable def law24ServeNil.con : Con := { ps := [kS4], rs := [.bool], f := fun n x => law24ServeNil n x.1 }
noncomputable def law24ServeNil.env : Env := { tys := [(67, ⟨kS4, 40⟩), (4, ⟨.bool, 1⟩), (47, ⟨.np, 8⟩), (27, ⟨(.int .u64), 8⟩), (22, ⟨(.int .u32), 4⟩), (56, ⟨kS3, 56⟩)], elems := [(52, 56)], ptrs := [], cons := [(32, law24Fixed.con)], objs := [(34, [serveSessionOpenNil.con]), (35, [serveSessionSendNil.con]), (36, [serveSessionDroppingNil.con]), (37, [serveSessionCursorNil.con]), (38, [serveSessionAcksNil.con]), (39, [serveSessionMoveNil.con]), (44, [serveSessionIsOpenNil.con]), (45, [serveSessionEpochNil.con]), (46, [serveSessionShutNil.con]), (47, [serveSessionGrowNil.con]), (48, [serveSessionDropsNil.con]), (49, [serveSessionNackNil.con])], loops := [], cuts := [], globs := globs, base := 0 }
noncomputable def law24ServeNil.lp (n : Nat) : LP (Kd.struct law24ServeNil.con.rs).T := fun lo κ body nm K s =>
  loops n (Kd.struct law24ServeNil.con.rs).T lo κ body nm K s
theorem law24ServeNil.eq (n : Nat) (x : (Kd.struct law24ServeNil.con.ps).T) : evFunc law24ServeNil.env Try.f11 law24ServeNil.body law24ServeNil.con.ps law24ServeNil.con.rs (law24ServeNil.lp n) n x = law24ServeNil.con.f n x := by kernel_rfl
theorem law24ServeNil.sound : Sound Try.prog globs 11 law24ServeNil.con :=
  sound_by (E := law24ServeNil.env) (c := law24ServeNil.body) (envOk (G := globs) (lc := [(32, law24Fixed.con)]) (lo := [(34, [serveSessionOpenNil.con]), (35, [serveSessionSendNil.con]), (36, [serveSessionDroppingNil.con]), (37, [serveSessionCursorNil.con]), (38, [serveSessionAcksNil.con]), (39, [serveSessionMoveNil.con]), (44, [serveSessionIsOpenNil.con]), (45, [serveSessionEpochNil.con]), (46, [serveSessionShutNil.con]), (47, [serveSessionGrowNil.con]), (48, [serveSessionDropsNil.con]), (49, [serveSessionNackNil.con])]) (envB_spec (by kernel_rfl)) rfl rfl ⟨.inl ⟨law24Fixed.sound, by kernel_rfl⟩, trivial⟩ rfl ⟨⟨⟨serveSessionOpenNil.sound, trivial⟩, by kernel_rfl⟩, ⟨⟨⟨serveSessionSendNil.sound, trivial⟩, by kernel_rfl⟩, ⟨⟨⟨serveSessionDroppingNil.sound, trivial⟩, by kernel_rfl⟩, ⟨⟨⟨serveSessionCursorNil.sound, trivial⟩, by kernel_rfl⟩, ⟨⟨⟨serveSessionAcksNil.sound, trivial⟩, by kernel_rfl⟩, ⟨⟨⟨serveSessionMoveNil.sound, trivial⟩, by kernel_rfl⟩, ⟨⟨⟨serveSessionIsOpenNil.sound, trivial⟩, by kernel_rfl⟩, ⟨⟨⟨serveSessionEpochNil.sound, trivial⟩, by kernel_rfl⟩, ⟨⟨⟨serveSessionShutNil.sound, trivial⟩, by kernel_rfl⟩, ⟨⟨⟨serveSessionGrowNil.sound, trivial⟩, by kernel_rfl⟩, ⟨⟨⟨serveSessionDropsNil.sound, trivial⟩, by kernel_rfl⟩, ⟨⟨⟨serveSessionNackNil.sound, trivial⟩, by kernel_rfl⟩, trivial⟩⟩⟩⟩⟩⟩⟩⟩⟩⟩⟩⟩ (by kernel_rfl) (by kernel_rfl)) Try.func11 (by kernel_rfl) law24ServeNil.lp (l := []) (by kernel_rfl) (fun n => trivial) law24ServeNil.eq
noncomputable def ref23May (fu : Nat) (b : S0) : Option (Bool × Unit) :=
  cond (decide (b.1 > (0 : Int))) (
    let t1 := decide (b.1 ≤ (65536 : Int))
    cond t1 (
      cond (decide (b.1 ≤ b.2.1)) (
        let t2 := decide (b.2.1 ≤ (1048576 : Int))
        cond t2 (
          let t3 := decide (b.2.2.1 > (0 : Int))
          cond t3 (
            let t4 := decide (b.2.2.1 ≤ (64 : Int))
            some (t4, ())) (
            some (false, ()))) (
          some (false, ()))) (
        some (false, ()))) (
      some (false, ()))) (
    some (false, ()))

noncomputable def ref23May.body : Code := Try.f17.body.getD .skip
noncomputable def ref23May.con : Con := { ps := [kS0], rs := [.bool], f := fun n x => ref23May n x.1 }
noncomputable def ref23May.env : Env := { tys := [(24, ⟨kS0, 12⟩), (4, ⟨.bool, 1⟩), (22, ⟨(.int .u32), 4⟩)], elems := [], ptrs := [], cons := [], objs := [], loops := [], cuts := [], globs := globs, base := 0 }
noncomputable def ref23May.lp (n : Nat) : LP (Kd.struct ref23May.con.rs).T := fun lo κ body nm K s =>
  loops n (Kd.struct ref23May.con.rs).T lo κ body nm K s
theorem ref23May.eq (n : Nat) (x : (Kd.struct ref23May.con.ps).T) : evFunc ref23May.env Try.f17 ref23May.body ref23May.con.ps ref23May.con.rs (ref23May.lp n) n x = ref23May.con.f n x := by kernel_rfl
theorem ref23May.sound : Sound Try.prog globs 17 ref23May.con :=
  sound_by (E := ref23May.env) (c := ref23May.body) (envOk (G := globs) (lc := []) (lo := []) (envB_spec (by kernel_rfl)) rfl rfl trivial rfl trivial (by kernel_rfl) (by kernel_rfl)) Try.func17 (by kernel_rfl) ref23May.lp (l := []) (by kernel_rfl) (fun n => trivial) ref23May.eq
noncomputable def ref24May (fu : Nat) (b : S0) (window : Int) : Option (Bool × Unit) :=
  (ref23May fu b).bind fun r1 =>
  cond r1.1 (
    let t2 := decide (window > (0 : Int))
    cond t2 (
      let t3 := decide (window < (65 : Int))
      some (t3, ())) (
      some (false, ()))) (
    some (false, ()))

noncomputable def ref24May.body : Code := Try.f33.body.getD .skip
noncomputable def ref24May.con : Con := { ps := [kS0, (.int .i64)], rs := [.bool], f := fun n x => ref24May n x.1 x.2.1 }
noncomputable def ref24May.env : Env := { tys := [(24, ⟨kS0, 12⟩), (4, ⟨.bool, 1⟩)], elems := [], ptrs := [], cons := [(17, ref23May.con)], objs := [], loops := [], cuts := [], globs := globs, base := 0 }
noncomputable def ref24May.lp (n : Nat) : LP (Kd.struct ref24May.con.rs).T := fun lo κ body nm K s =>
  loops n (Kd.struct ref24May.con.rs).T lo κ body nm K s
theorem ref24May.eq (n : Nat) (x : (Kd.struct ref24May.con.ps).T) : evFunc ref24May.env Try.f33 ref24May.body ref24May.con.ps ref24May.con.rs (ref24May.lp n) n x = ref24May.con.f n x := by kernel_rfl
theorem ref24May.sound : Sound Try.prog globs 33 ref24May.con :=
  sound_by (E := ref24May.env) (c := ref24May.body) (envOk (G := globs) (lc := [(17, ref23May.con)]) (lo := []) (envB_spec (by kernel_rfl)) rfl rfl ⟨.inl ⟨ref23May.sound, by kernel_rfl⟩, trivial⟩ rfl trivial (by kernel_rfl) (by kernel_rfl)) Try.func33 (by kernel_rfl) ref24May.lp (l := []) (by kernel_rfl) (fun n => trivial) ref24May.eq
noncomputable def ref24New (fu : Nat) (b : S0) (window : Int) : Option (S6 × Unit) :=
  some ((b, IntKind.u64.wrap window, (b, false, (0 : Int), (0 : Int), ()), false, (0 : Int), (0 : Int), (0 : Int), (0 : Int), false, (0 : Int), ()), ())

noncomputable def ref24New.body : Code := Try.f40.body.getD .skip
noncomputable def ref24New.con : Con := { ps := [kS0, (.int .i64)], rs := [kS6], f := fun n x => ref24New n x.1 x.2.1 }
noncomputable def ref24New.env : Env := { tys := [(24, ⟨kS0, 12⟩), (63, ⟨kS6, 104⟩), (27, ⟨(.int .u64), 8⟩), (3, ⟨(.int .i64), 8⟩), (41, ⟨kS5, 32⟩)], elems := [], ptrs := [], cons := [], objs := [], loops := [], cuts := [], globs := globs, base := 0 }
noncomputable def ref24New.lp (n : Nat) : LP (Kd.struct ref24New.con.rs).T := fun lo κ body nm K s =>
  loops n (Kd.struct ref24New.con.rs).T lo κ body nm K s
theorem ref24New.eq (n : Nat) (x : (Kd.struct ref24New.con.ps).T) : evFunc ref24New.env Try.f40 ref24New.body ref24New.con.ps ref24New.con.rs (ref24New.lp n) n x = ref24New.con.f n x := by kernel_rfl
theorem ref24New.sound : Sound Try.prog globs 40 ref24New.con :=
  sound_by (E := ref24New.env) (c := ref24New.body) (envOk (G := globs) (lc := []) (lo := []) (envB_spec (by kernel_rfl)) rfl rfl trivial rfl trivial (by kernel_rfl) (by kernel_rfl)) Try.func40 (by kernel_rfl) ref24New.lp (l := []) (by kernel_rfl) (fun n => trivial) ref24New.eq
noncomputable def law24Cut (fu : Nat) (l : List S4) : Option ((List S4) × Unit) :=
  let t1 := min2 (l.length : Int) (150 : Int)
  chk (cutOk l (0 : Int) t1) <|
  some (cutL l (0 : Int) t1, ())

noncomputable def law24Cut.body : Code := Try.f41.body.getD .skip
noncomputable def law24Cut.con : Con := { ps := [(.slice kS4)], rs := [(.slice kS4)], f := fun n x => law24Cut n x.1 }
noncomputable def law24Cut.env : Env := { tys := [(61, ⟨(.slice kS4), 24⟩), (67, ⟨kS4, 40⟩)], elems := [(61, 67)], ptrs := [], cons := [], objs := [], loops := [], cuts := [], globs := globs, base := 0 }
noncomputable def law24Cut.lp (n : Nat) : LP (Kd.struct law24Cut.con.rs).T := fun lo κ body nm K s =>
  loops n (Kd.struct law24Cut.con.rs).T lo κ body nm K s
theorem law24Cut.eq (n : Nat) (x : (Kd.struct law24Cut.con.ps).T) : evFunc law24Cut.env Try.f41 law24Cut.body law24Cut.con.ps law24Cut.con.rs (law24Cut.lp n) n x = law24Cut.con.f n x := by kernel_rfl
theorem law24Cut.sound : Sound Try.prog globs 41 law24Cut.con :=
  sound_by (E := law24Cut.env) (c := law24Cut.body) (envOk (G := globs) (lc := []) (lo := []) (envB_spec (by kernel_rfl)) rfl rfl trivial rfl trivial (by kernel_rfl) (by kernel_rfl)) Try.func41 (by kernel_rfl) law24Cut.lp (l := []) (by kernel_rfl) (fun n => trivial) law24Cut.eq
noncomputable def ref24SessionBegins (fu : Nat) (sv : S6) (atv : Int) : Option (S6 × Unit) :=
  some ((sv.1, sv.2.1, (sv.1, true, (0 : Int), atv, ()), sv.2.2.2.1, sv.2.2.2.2.1, sv.2.2.2.2.2.1, sv.2.2.2.2.2.2.1, sv.2.2.2.2.2.2.2.1, sv.2.2.2.2.2.2.2.2.1, sv.2.2.2.2.2.2.2.2.2.1, ()), ())

noncomputable def ref24SessionBegins.body : Code := Try.f70.body.getD .skip
noncomputable def ref24SessionBegins.con : Con := { ps := [kS6, (.int .u64)], rs := [kS6], f := fun n x => ref24SessionBegins n x.1 x.2.1 }
noncomputable def ref24SessionBegins.env : Env := { tys := [(63, ⟨kS6, 104⟩), (24, ⟨kS0, 12⟩), (41, ⟨kS5, 32⟩)], elems := [], ptrs := [], cons := [], objs := [], loops := [], cuts := [], globs := globs, base := 0 }
noncomputable def ref24SessionBegins.lp (n : Nat) : LP (Kd.struct ref24SessionBegins.con.rs).T := fun lo κ body nm K s =>
  loops n (Kd.struct ref24SessionBegins.con.rs).T lo κ body nm K s
theorem ref24SessionBegins.eq (n : Nat) (x : (Kd.struct ref24SessionBegins.con.ps).T) : evFunc ref24SessionBegins.env Try.f70 ref24SessionBegins.body ref24SessionBegins.con.ps ref24SessionBegins.con.rs (ref24SessionBegins.lp n) n x = ref24SessionBegins.con.f n x := by kernel_rfl
theorem ref24SessionBegins.sound : Sound Try.prog globs 70 ref24SessionBegins.con :=
  sound_by (E := ref24SessionBegins.env) (c := ref24SessionBegins.body) (envOk (G := globs) (lc := []) (lo := []) (envB_spec (by kernel_rfl)) rfl rfl trivial rfl trivial (by kernel_rfl) (by kernel_rfl)) Try.func70 (by kernel_rfl) ref24SessionBegins.lp (l := []) (by kernel_rfl) (fun n => trivial) ref24SessionBegins.eq
noncomputable def ref24SessionOpen (fu : Nat) (sv : S6) (epoch : Int) (cursor : Int) (endv : Int) (now : Int) : Option (Int × S6 × Unit) :=
  let t1 := decide (epoch ≤ sv.2.2.2.2.1)
  cond t1 (
    some ((15 : Int), sv, ())) (
    cond (decide (cursor > endv)) (
      some ((5 : Int), sv, ())) (
      let t2 := decide (endv > (1099511627776 : Int))
      cond t2 (
        some ((5 : Int), sv, ())) (
        let t3 := decide (now > (1099511627776 : Int))
        cond t3 (
          some ((5 : Int), sv, ())) (
          (ref24SessionBegins fu (sv.1, sv.2.1, sv.2.2.1, true, epoch, cursor, endv, cursor, false, sv.2.2.2.2.2.2.2.2.2.1, ()) now).bind fun r4 =>
          some ((0 : Int), r4.1, ())))))

noncomputable def ref24SessionOpen.body : Code := Try.f58.body.getD .skip
noncomputable def ref24SessionOpen.con : Con := { ps := [kS6, (.int .u32), (.int .u64), (.int .u64), (.int .u64)], rs := [(.int .i64), kS6], f := fun n x => ref24SessionOpen n x.1 x.2.1 x.2.2.1 x.2.2.2.1 x.2.2.2.2.1 }
noncomputable def ref24SessionOpen.env : Env := { tys := [(63, ⟨kS6, 104⟩), (3, ⟨(.int .i64), 8⟩), (22, ⟨(.int .u32), 4⟩), (4, ⟨.bool, 1⟩), (27, ⟨(.int .u64), 8⟩)], elems := [], ptrs := [], cons := [(70, ref24SessionBegins.con)], objs := [], loops := [], cuts := [], globs := globs, base := 0 }
noncomputable def ref24SessionOpen.lp (n : Nat) : LP (Kd.struct ref24SessionOpen.con.rs).T := fun lo κ body nm K s =>
  loops n (Kd.struct ref24SessionOpen.con.rs).T lo κ body nm K s
theorem ref24SessionOpen.eq (n : Nat) (x : (Kd.struct ref24SessionOpen.con.ps).T) : evFunc ref24SessionOpen.env Try.f58 ref24SessionOpen.body ref24SessionOpen.con.ps ref24SessionOpen.con.rs (ref24SessionOpen.lp n) n x = ref24SessionOpen.con.f n x := by kernel_rfl
theorem ref24SessionOpen.sound : Sound Try.prog globs 58 ref24SessionOpen.con :=
  sound_by (E := ref24SessionOpen.env) (c := ref24SessionOpen.body) (envOk (G := globs) (lc := [(70, ref24SessionBegins.con)]) (lo := []) (envB_spec (by kernel_rfl)) rfl rfl ⟨.inl ⟨ref24SessionBegins.sound, by kernel_rfl⟩, trivial⟩ rfl trivial (by kernel_rfl) (by kernel_rfl)) Try.func58 (by kernel_rfl) ref24SessionOpen.lp (l := []) (by kernel_rfl) (fun n => trivial) ref24SessionOpen.eq
noncomputable def serveSessionShut (fu : Nat) (sv : O2) : Option ((Unit) × (O2 × Unit)) :=
  some ((()), ((sv.1, sv.2.1, sv.2.2.1, false, sv.2.2.2.2.1, sv.2.2.2.2.2.1, sv.2.2.2.2.2.2.1, sv.2.2.2.2.2.2.2.1, sv.2.2.2.2.2.2.2.2.1, sv.2.2.2.2.2.2.2.2.2.1, ()), ()))

noncomputable def serveSessionShut.body : Code := Try.f46.body.getD .skip
noncomputable def serveSessionShut.con : OCon := { ps := [.obj kO2], rs := [], f := fun n x => serveSessionShut n x.1 }
noncomputable def serveSessionShut.env : Env := { tys := [(92, ⟨kS7, 80⟩), (4, ⟨.bool, 1⟩)], elems := [], ptrs := [(47, 92)], cons := [], objs := [], loops := [], cuts := [], globs := globs, base := 2 }
noncomputable def serveSessionShut.lp (n : Nat) : LP (RT serveSessionShut.con.rs × BT serveSessionShut.con.ps) := fun lo κ body nm K s =>
  loops n (RT serveSessionShut.con.rs × BT serveSessionShut.con.ps) lo κ body nm K s
theorem serveSessionShut.eq (n : Nat) (x : PT serveSessionShut.con.ps) : evFuncO serveSessionShut.env Try.f46 serveSessionShut.body serveSessionShut.con.ps serveSessionShut.con.rs (serveSessionShut.lp n) n x = serveSessionShut.con.f n x := by kernel_rfl
theorem serveSessionShut.sound : SoundO Try.prog globs 46 serveSessionShut.con :=
  sound_byO (E := serveSessionShut.env) (c := serveSessionShut.body) (envOk (G := globs) (lc := []) (lo := []) (envB_spec (by kernel_rfl)) rfl rfl trivial rfl trivial (by kernel_rfl) (by kernel_rfl)) Try.func46 (by kernel_rfl) (by kernel_rfl) (by kernel_rfl) serveSessionShut.lp (l := []) (by kernel_rfl) (fun n => trivial) serveSessionShut.eq
noncomputable def serveSessionGrow.j10001 (fu : Nat) (k0 : S0 → Int → Bool → Int → Int → Int → Int → Bool → Int → S0 → Bool → Int → Int → Option ((Unit) × (O2 × Unit))) (endv : Int) (v : Bool) (b0 : S0) (c0 : Int) (c0x2 : Bool) (c0x3 : Int) (c0x4 : Int) (c0x5 : Int) (c0x6 : Int) (c0x7 : Bool) (c0x8 : Int) (b1 : S0) (c1 : Bool) (c1x2 : Int) (c1x3 : Int) : Option ((Unit) × (O2 × Unit)) :=
  cond v (
    k0 b0 c0 c0x2 c0x3 c0x4 (max2 c0x5 endv) c0x6 c0x7 c0x8 b1 c1 c1x2 c1x3) (
    k0 b0 c0 c0x2 c0x3 c0x4 c0x5 c0x6 c0x7 c0x8 b1 c1 c1x2 c1x3)
noncomputable def serveSessionGrow (fu : Nat) (sv : O2) (endv : Int) : Option ((Unit) × (O2 × Unit)) :=
  (serveSessionIsOpen fu sv).bind fun r1 =>
  cond r1.1.1 (
    let t2 := decide (endv ≤ (1099511627776 : Int))
    serveSessionGrow.j10001 fu (fun b0q1 c0q1 c0q1x2 c0q1x3 c0q1x4 c0q1x5 c0q1x6 c0q1x7 c0q1x8 b1q1 c1q1 c1q1x2 c1q1x3 => 
        some ((()), ((b0q1, c0q1, (b1q1, c1q1, c1q1x2, c1q1x3, ()), c0q1x2, c0q1x3, c0q1x4, c0q1x5, c0q1x6, c0q1x7, c0q1x8, ()), ()))) endv t2 r1.2.1.1 r1.2.1.2.1 r1.2.1.2.2.2.1 r1.2.1.2.2.2.2.1 r1.2.1.2.2.2.2.2.1 r1.2.1.2.2.2.2.2.2.1 r1.2.1.2.2.2.2.2.2.2.1 r1.2.1.2.2.2.2.2.2.2.2.1 r1.2.1.2.2.2.2.2.2.2.2.2.1 r1.2.1.2.2.1.1 r1.2.1.2.2.1.2.1 r1.2.1.2.2.1.2.2.1 r1.2.1.2.2.1.2.2.2.1) (
    serveSessionGrow.j10001 fu (fun b0q2 c0q2 c0q2x2 c0q2x3 c0q2x4 c0q2x5 c0q2x6 c0q2x7 c0q2x8 b1q2 c1q2 c1q2x2 c1q2x3 => 
        some ((()), ((b0q2, c0q2, (b1q2, c1q2, c1q2x2, c1q2x3, ()), c0q2x2, c0q2x3, c0q2x4, c0q2x5, c0q2x6, c0q2x7, c0q2x8, ()), ()))) endv false r1.2.1.1 r1.2.1.2.1 r1.2.1.2.2.2.1 r1.2.1.2.2.2.2.1 r1.2.1.2.2.2.2.2.1 r1.2.1.2.2.2.2.2.2.1 r1.2.1.2.2.2.2.2.2.2.1 r1.2.1.2.2.2.2.2.2.2.2.1 r1.2.1.2.2.2.2.2.2.2.2.2.1 r1.2.1.2.2.1.1 r1.2.1.2.2.1.2.1 r1.2.1.2.2.1.2.2.1 r1.2.1.2.2.1.2.2.2.1)

noncomputable def serveSessionGrow.body : Code := Try.f47.body.getD .skip
abbrev serveSessionGrow.shj10001 : Shp := ⟨[.p 0 0, .d (.int .u64), .u, .u, .u, .u, .u, .u, .u, .d .bool, .u, .u, .u, .u, .u, .u, .u, .u, .u], [[.g kS0, .d (.int .u64), .p 1 0, .d .bool, .d (.int .u32), .d (.int .u64), .d (.int .u64), .d (.int .u64), .d .bool, .d (.int .u64)], [.g kS0, .d .bool, .d (.int .u32), .d (.int .u64)]]⟩
abbrev serveSessionGrow.outj10001e0 : Shp := ⟨[.u, .u, .u, .u, .u, .u, .u, .u, .u, .u, .u, .u, .u, .u, .u, .u, .u, .u, .u], [[.g kS0, .d (.int .u64), .p 1 0, .d .bool, .d (.int .u32), .d (.int .u64), .d (.int .u64), .d (.int .u64), .d .bool, .d (.int .u64)], [.g kS0, .d .bool, .d (.int .u32), .d (.int .u64)]]⟩
noncomputable def serveSessionGrow.nmj10001 : Norm := ⟨{ keep := [0, 1, 9], shut := [(1, (.int .u64)), (9, .bool)], retag := [], heap := 2, dead := [], cshut := [(0, 0, (.int .u32)), (0, 1, (.int .u32)), (0, 2, (.int .u32)), (0, 3, (.int .u64)), (0, 5, .bool), (0, 6, (.int .u32)), (0, 7, (.int .u64)), (0, 8, (.int .u64)), (0, 9, (.int .u64)), (0, 10, .bool), (0, 11, (.int .u64)), (1, 0, (.int .u32)), (1, 1, (.int .u32)), (1, 2, (.int .u32)), (1, 3, .bool), (1, 4, (.int .u32)), (1, 5, (.int .u64))], cretag := [] }, [(0, { keep := [], shut := [], retag := [], heap := 2, dead := [], cshut := [(0, 0, (.int .u32)), (0, 1, (.int .u32)), (0, 2, (.int .u32)), (0, 3, (.int .u64)), (0, 5, .bool), (0, 6, (.int .u32)), (0, 7, (.int .u64)), (0, 8, (.int .u64)), (0, 9, (.int .u64)), (0, 10, .bool), (0, 11, (.int .u64)), (1, 0, (.int .u32)), (1, 1, (.int .u32)), (1, 2, (.int .u32)), (1, 3, .bool), (1, 4, (.int .u32)), (1, 5, (.int .u64))], cretag := [] })]⟩
noncomputable def serveSessionGrow.con : OCon := { ps := [.obj kO2, .dat (.int .u64)], rs := [], f := fun n x => serveSessionGrow n x.1 x.2.1 }
noncomputable def serveSessionGrow.env : Env := { tys := [(4, ⟨.bool, 1⟩), (92, ⟨kS7, 80⟩), (27, ⟨(.int .u64), 8⟩)], elems := [], ptrs := [], cons := [], objs := [(44, [serveSessionIsOpen.con])], loops := [], cuts := [(10001, serveSessionGrow.nmj10001)], globs := globs, base := 2 }
noncomputable def serveSessionGrow.lp (n : Nat) : LP (RT serveSessionGrow.con.rs × BT serveSessionGrow.con.ps) := fun lo κ body nm K s =>
  cond (!lo && Nat.beq κ 10001)
    (match serveSessionGrow.shj10001.dec s with
    | some v => serveSessionGrow.j10001 n (fun w0 w1 w2 w3 w4 w5 w6 w7 w8 w9 w10 w11 w12 => K .normal (serveSessionGrow.outj10001e0.enc (w0, w1, w2, w3, w4, w5, w6, w7, w8, w9, w10, w11, w12, ()))) v.1 v.2.1 v.2.2.1 v.2.2.2.1 v.2.2.2.2.1 v.2.2.2.2.2.1 v.2.2.2.2.2.2.1 v.2.2.2.2.2.2.2.1 v.2.2.2.2.2.2.2.2.1 v.2.2.2.2.2.2.2.2.2.1 v.2.2.2.2.2.2.2.2.2.2.1 v.2.2.2.2.2.2.2.2.2.2.2.1 v.2.2.2.2.2.2.2.2.2.2.2.2.1 v.2.2.2.2.2.2.2.2.2.2.2.2.2.1 v.2.2.2.2.2.2.2.2.2.2.2.2.2.2.1
    | none => loops n (RT serveSessionGrow.con.rs × BT serveSessionGrow.con.ps) lo κ body nm K s)
    (loops n (RT serveSessionGrow.con.rs × BT serveSessionGrow.con.ps) lo κ body nm K s)
theorem serveSessionGrow.atj10001 (n : Nat) (s : St) (K : Ex → St → Option (RT serveSessionGrow.con.rs × BT serveSessionGrow.con.ps)) : serveSessionGrow.lp n false 10001 (evK serveSessionGrow.env (serveSessionGrow.lp n) n (sub [1] serveSessionGrow.body)) serveSessionGrow.nmj10001 K s = loops n (RT serveSessionGrow.con.rs × BT serveSessionGrow.con.ps) false 10001 (evK serveSessionGrow.env (serveSessionGrow.lp n) n (sub [1] serveSessionGrow.body)) serveSessionGrow.nmj10001 K s := by
  show (match serveSessionGrow.shj10001.dec s with | some v => serveSessionGrow.j10001 n (fun w0 w1 w2 w3 w4 w5 w6 w7 w8 w9 w10 w11 w12 => K .normal (serveSessionGrow.outj10001e0.enc (w0, w1, w2, w3, w4, w5, w6, w7, w8, w9, w10, w11, w12, ()))) v.1 v.2.1 v.2.2.1 v.2.2.2.1 v.2.2.2.2.1 v.2.2.2.2.2.1 v.2.2.2.2.2.2.1 v.2.2.2.2.2.2.2.1 v.2.2.2.2.2.2.2.2.1 v.2.2.2.2.2.2.2.2.2.1 v.2.2.2.2.2.2.2.2.2.2.1 v.2.2.2.2.2.2.2.2.2.2.2.1 v.2.2.2.2.2.2.2.2.2.2.2.2.1 v.2.2.2.2.2.2.2.2.2.2.2.2.2.1 v.2.2.2.2.2.2.2.2.2.2.2.2.2.2.1 | none => loops n (RT serveSessionGrow.con.rs × BT serveSessionGrow.con.ps) false 10001 (evK serveSessionGrow.env (serveSessionGrow.lp n) n (sub [1] serveSessionGrow.body)) serveSessionGrow.nmj10001 K s) = _
  cases h : serveSessionGrow.shj10001.dec s with
  | none => rfl
  | some v =>
    rw [Shp.dec_enc h]
    kernel_rfl
theorem serveSessionGrow.eq (n : Nat) (x : PT serveSessionGrow.con.ps) : evFuncO serveSessionGrow.env Try.f47 serveSessionGrow.body serveSessionGrow.con.ps serveSessionGrow.con.rs (serveSessionGrow.lp n) n x = serveSessionGrow.con.f n x := by kernel_rfl
theorem serveSessionGrow.sound : SoundO Try.prog globs 47 serveSessionGrow.con :=
  sound_byO (E := serveSessionGrow.env) (c := serveSessionGrow.body) (envOk (G := globs) (lc := []) (lo := [(44, [serveSessionIsOpen.con])]) (envB_spec (by kernel_rfl)) rfl rfl trivial rfl ⟨⟨⟨serveSessionIsOpen.sound, trivial⟩, by kernel_rfl⟩, trivial⟩ (by kernel_rfl) (by kernel_rfl)) Try.func47 (by kernel_rfl) (by kernel_rfl) (by kernel_rfl) serveSessionGrow.lp (l := [(false, sub [1] serveSessionGrow.body, serveSessionGrow.nmj10001)]) (by kernel_rfl) (fun n => ⟨serveSessionGrow.atj10001 n, trivial⟩) serveSessionGrow.eq
noncomputable def ref24SessionMove (fu : Nat) (sv : S6) (n : Int) (now : Int) : Option (Bool × S6 × Unit) :=
  cond (!sv.2.2.2.1) (
    some (false, sv, ())) (
    let t1 := decide (n ≤ sv.2.2.2.2.2.1)
    cond t1 (
      some (false, sv, ())) (
      let t2 := decide (n > sv.2.2.2.2.2.2.1)
      cond t2 (
        some (false, sv, ())) (
        let t3 := decide (now > (1099511627776 : Int))
        cond t3 (
          some (false, sv, ())) (
          let t4 := decide (sv.2.2.2.2.2.2.2.1 > n)
          cond t4 (
            let t5 := IntKind.u64.wrap (now + IntKind.u64.wrap sv.1.1)
            (ref24SessionBegins fu (sv.1, sv.2.1, sv.2.2.1, sv.2.2.2.1, sv.2.2.2.2.1, n, sv.2.2.2.2.2.2.1, sv.2.2.2.2.2.2.2.1, false, sv.2.2.2.2.2.2.2.2.2.1, ()) t5).bind fun r6 =>
            some (true, r6.1, ())) (
            (ref24SessionBegins fu (sv.1, sv.2.1, sv.2.2.1, sv.2.2.2.1, sv.2.2.2.2.1, n, sv.2.2.2.2.2.2.1, n, false, sv.2.2.2.2.2.2.2.2.2.1, ()) now).bind fun r7 =>
            some (true, r7.1, ()))))))

noncomputable def ref24SessionMove.body : Code := Try.f59.body.getD .skip
noncomputable def ref24SessionMove.con : Con := { ps := [kS6, (.int .u64), (.int .u64)], rs := [.bool, kS6], f := fun n x => ref24SessionMove n x.1 x.2.1 x.2.2.1 }
noncomputable def ref24SessionMove.env : Env := { tys := [(63, ⟨kS6, 104⟩), (4, ⟨.bool, 1⟩), (27, ⟨(.int .u64), 8⟩), (24, ⟨kS0, 12⟩), (22, ⟨(.int .u32), 4⟩)], elems := [], ptrs := [], cons := [(70, ref24SessionBegins.con)], objs := [], loops := [], cuts := [], globs := globs, base := 0 }
noncomputable def ref24SessionMove.lp (n : Nat) : LP (Kd.struct ref24SessionMove.con.rs).T := fun lo κ body nm K s =>
  loops n (Kd.struct ref24SessionMove.con.rs).T lo κ body nm K s
theorem ref24SessionMove.eq (n : Nat) (x : (Kd.struct ref24SessionMove.con.ps).T) : evFunc ref24SessionMove.env Try.f59 ref24SessionMove.body ref24SessionMove.con.ps ref24SessionMove.con.rs (ref24SessionMove.lp n) n x = ref24SessionMove.con.f n x := by kernel_rfl
theorem ref24SessionMove.sound : Sound Try.prog globs 59 ref24SessionMove.con :=
  sound_by (E := ref24SessionMove.env) (c := ref24SessionMove.body) (envOk (G := globs) (lc := [(70, ref24SessionBegins.con)]) (lo := []) (envB_spec (by kernel_rfl)) rfl rfl ⟨.inl ⟨ref24SessionBegins.sound, by kernel_rfl⟩, trivial⟩ rfl trivial (by kernel_rfl) (by kernel_rfl)) Try.func59 (by kernel_rfl) ref24SessionMove.lp (l := []) (by kernel_rfl) (fun n => trivial) ref24SessionMove.eq
noncomputable def serveSessionMove.j6 (fu : Nat) (k1 : Bool → S0 → Int → Bool → Int → Int → Int → Int → Bool → Int → S0 → Bool → Int → Int → Option ((Bool × Unit) × (O2 × Unit))) (n : Int) (begin : Int) (b0 : S0) (c0 : Int) (c0x2 : Bool) (c0x3 : Int) (c0x4 : Int) (c0x5 : Int) (c0x6 : Int) (c0x7 : Bool) (c0x8 : Int) (b1 : S0) (c1 : Bool) (c1x2 : Int) (c1x3 : Int) : Option ((Bool × Unit) × (O2 × Unit)) :=
  (backTriesBegin fu (b1, c1, c1x2, c1x3, ()) begin).bind fun r1 =>
  k1 true b0 c0 c0x2 c0x3 n c0x5 (max2 c0x6 n) false c0x8 r1.2.1.1 r1.2.1.2.1 r1.2.1.2.2.1 r1.2.1.2.2.2.1
noncomputable def serveSessionMove (fu : Nat) (sv : O2) (n : Int) (now : Int) : Option ((Bool × Unit) × (O2 × Unit)) :=
  (serveSessionIsOpen fu sv).bind fun r1 =>
  cond (!r1.1.1) (
    some ((false, ()), (r1.2.1, ()))) (
    let t2 := decide (n ≤ r1.2.1.2.2.2.2.2.1)
    cond t2 (
      some ((false, ()), (r1.2.1, ()))) (
      let t3 := decide (n > r1.2.1.2.2.2.2.2.2.1)
      cond t3 (
        some ((false, ()), (r1.2.1, ()))) (
        let t4 := decide (now > (1099511627776 : Int))
        cond t4 (
          some ((false, ()), (r1.2.1, ()))) (
          let t5 := decide (r1.2.1.2.2.2.2.2.2.2.1 > n)
          cond t5 (
            let t6 := IntKind.u64.wrap r1.2.1.1.1
            let t7 := IntKind.u64.wrap (now + t6)
            serveSessionMove.j6 fu (fun vq1 b0q1 c0q1 c0q1x2 c0q1x3 c0q1x4 c0q1x5 c0q1x6 c0q1x7 c0q1x8 b1q1 c1q1 c1q1x2 c1q1x3 => 
                some ((vq1, ()), ((b0q1, c0q1, (b1q1, c1q1, c1q1x2, c1q1x3, ()), c0q1x2, c0q1x3, c0q1x4, c0q1x5, c0q1x6, c0q1x7, c0q1x8, ()), ()))) n t7 r1.2.1.1 r1.2.1.2.1 r1.2.1.2.2.2.1 r1.2.1.2.2.2.2.1 r1.2.1.2.2.2.2.2.1 r1.2.1.2.2.2.2.2.2.1 r1.2.1.2.2.2.2.2.2.2.1 r1.2.1.2.2.2.2.2.2.2.2.1 r1.2.1.2.2.2.2.2.2.2.2.2.1 r1.2.1.2.2.1.1 r1.2.1.2.2.1.2.1 r1.2.1.2.2.1.2.2.1 r1.2.1.2.2.1.2.2.2.1) (
            serveSessionMove.j6 fu (fun vq2 b0q2 c0q2 c0q2x2 c0q2x3 c0q2x4 c0q2x5 c0q2x6 c0q2x7 c0q2x8 b1q2 c1q2 c1q2x2 c1q2x3 => 
                some ((vq2, ()), ((b0q2, c0q2, (b1q2, c1q2, c1q2x2, c1q2x3, ()), c0q2x2, c0q2x3, c0q2x4, c0q2x5, c0q2x6, c0q2x7, c0q2x8, ()), ()))) n now r1.2.1.1 r1.2.1.2.1 r1.2.1.2.2.2.1 r1.2.1.2.2.2.2.1 r1.2.1.2.2.2.2.2.1 r1.2.1.2.2.2.2.2.2.1 r1.2.1.2.2.2.2.2.2.2.1 r1.2.1.2.2.2.2.2.2.2.2.1 r1.2.1.2.2.2.2.2.2.2.2.2.1 r1.2.1.2.2.1.1 r1.2.1.2.2.1.2.1 r1.2.1.2.2.1.2.2.1 r1.2.1.2.2.1.2.2.2.1)))))

noncomputable def serveSessionMove.body : Code := Try.f39.body.getD .skip
abbrev serveSessionMove.shj6 : Shp := ⟨[.p 0 0, .d (.int .u64), .u, .u, .u, .u, .u, .d (.int .u64), .u, .u, .u, .u, .u, .u, .u, .u, .u, .u, .u, .u, .u, .u, .u, .u, .u, .u, .u, .u, .u, .u, .u, .u, .u, .u, .u, .u, .u, .u, .u, .u, .u, .u, .u, .u, .u, .u, .u, .u, .u, .u, .u, .u, .u, .u, .u, .u, .u, .u, .u, .u, .u, .u, .u, .u, .u, .u, .u, .u], [[.g kS0, .d (.int .u64), .p 1 0, .d .bool, .d (.int .u32), .d (.int .u64), .d (.int .u64), .d (.int .u64), .d .bool, .d (.int .u64)], [.g kS0, .d .bool, .d (.int .u32), .d (.int .u64)]]⟩
abbrev serveSessionMove.outj6e1 : Shp := ⟨[.u, .u, .u, .u, .u, .u, .d .bool, .u, .u, .u, .u, .u, .u, .u, .u, .u, .u, .u, .u, .u, .u, .u, .u, .u, .u, .u, .u, .u, .u, .u, .u, .u, .u, .u, .u, .u, .u, .u, .u, .u, .u, .u, .u, .u, .u, .u, .u, .u, .u, .u, .u, .u, .u, .u, .u, .u, .u, .u, .u, .u, .u, .u, .u, .u, .u, .u, .u, .u], [[.g kS0, .d (.int .u64), .p 1 0, .d .bool, .d (.int .u32), .d (.int .u64), .d (.int .u64), .d (.int .u64), .d .bool, .d (.int .u64)], [.g kS0, .d .bool, .d (.int .u32), .d (.int .u64)]]⟩
noncomputable def serveSessionMove.nmj6 : Norm := ⟨{ keep := [0, 1, 7], shut := [(1, (.int .u64)), (7, (.int .u64))], retag := [], heap := 2, dead := [], cshut := [(0, 0, (.int .u32)), (0, 1, (.int .u32)), (0, 2, (.int .u32)), (0, 3, (.int .u64)), (0, 5, .bool), (0, 6, (.int .u32)), (0, 7, (.int .u64)), (0, 8, (.int .u64)), (0, 9, (.int .u64)), (0, 10, .bool), (0, 11, (.int .u64)), (1, 0, (.int .u32)), (1, 1, (.int .u32)), (1, 2, (.int .u32)), (1, 3, .bool), (1, 4, (.int .u32)), (1, 5, (.int .u64))], cretag := [] }, [(1, { keep := [6], shut := [(6, .bool)], retag := [], heap := 2, dead := [], cshut := [(0, 0, (.int .u32)), (0, 1, (.int .u32)), (0, 2, (.int .u32)), (0, 3, (.int .u64)), (0, 5, .bool), (0, 6, (.int .u32)), (0, 7, (.int .u64)), (0, 8, (.int .u64)), (0, 9, (.int .u64)), (0, 10, .bool), (0, 11, (.int .u64)), (1, 0, (.int .u32)), (1, 1, (.int .u32)), (1, 2, (.int .u32)), (1, 3, .bool), (1, 4, (.int .u32)), (1, 5, (.int .u64))], cretag := [] })]⟩
noncomputable def serveSessionMove.con : OCon := { ps := [.obj kO2, .dat (.int .u64), .dat (.int .u64)], rs := [.dat .bool], f := fun n x => serveSessionMove n x.1 x.2.1 x.2.2.1 }
noncomputable def serveSessionMove.env : Env := { tys := [(4, ⟨.bool, 1⟩), (92, ⟨kS7, 80⟩), (27, ⟨(.int .u64), 8⟩), (24, ⟨kS0, 12⟩), (22, ⟨(.int .u32), 4⟩), (31, ⟨.np, 8⟩)], elems := [], ptrs := [], cons := [], objs := [(22, [backTriesBegin.con]), (44, [serveSessionIsOpen.con])], loops := [], cuts := [(6, serveSessionMove.nmj6)], globs := globs, base := 2 }
noncomputable def serveSessionMove.lp (n : Nat) : LP (RT serveSessionMove.con.rs × BT serveSessionMove.con.ps) := fun lo κ body nm K s =>
  cond (!lo && Nat.beq κ 6)
    (match serveSessionMove.shj6.dec s with
    | some v => serveSessionMove.j6 n (fun w0 w1 w2 w3 w4 w5 w6 w7 w8 w9 w10 w11 w12 w13 => K .ret (serveSessionMove.outj6e1.enc (w0, w1, w2, w3, w4, w5, w6, w7, w8, w9, w10, w11, w12, w13, ()))) v.1 v.2.1 v.2.2.1 v.2.2.2.1 v.2.2.2.2.1 v.2.2.2.2.2.1 v.2.2.2.2.2.2.1 v.2.2.2.2.2.2.2.1 v.2.2.2.2.2.2.2.2.1 v.2.2.2.2.2.2.2.2.2.1 v.2.2.2.2.2.2.2.2.2.2.1 v.2.2.2.2.2.2.2.2.2.2.2.1 v.2.2.2.2.2.2.2.2.2.2.2.2.1 v.2.2.2.2.2.2.2.2.2.2.2.2.2.1 v.2.2.2.2.2.2.2.2.2.2.2.2.2.2.1
    | none => loops n (RT serveSessionMove.con.rs × BT serveSessionMove.con.ps) lo κ body nm K s)
    (loops n (RT serveSessionMove.con.rs × BT serveSessionMove.con.ps) lo κ body nm K s)
theorem serveSessionMove.atj6 (n : Nat) (s : St) (K : Ex → St → Option (RT serveSessionMove.con.rs × BT serveSessionMove.con.ps)) : serveSessionMove.lp n false 6 (evK serveSessionMove.env (serveSessionMove.lp n) n (sub [1, 1, 1, 1] serveSessionMove.body)) serveSessionMove.nmj6 K s = loops n (RT serveSessionMove.con.rs × BT serveSessionMove.con.ps) false 6 (evK serveSessionMove.env (serveSessionMove.lp n) n (sub [1, 1, 1, 1] serveSessionMove.body)) serveSessionMove.nmj6 K s := by
  show (match serveSessionMove.shj6.dec s with | some v => serveSessionMove.j6 n (fun w0 w1 w2 w3 w4 w5 w6 w7 w8 w9 w10 w11 w12 w13 => K .ret (serveSessionMove.outj6e1.enc (w0, w1, w2, w3, w4, w5, w6, w7, w8, w9, w10, w11, w12, w13, ()))) v.1 v.2.1 v.2.2.1 v.2.2.2.1 v.2.2.2.2.1 v.2.2.2.2.2.1 v.2.2.2.2.2.2.1 v.2.2.2.2.2.2.2.1 v.2.2.2.2.2.2.2.2.1 v.2.2.2.2.2.2.2.2.2.1 v.2.2.2.2.2.2.2.2.2.2.1 v.2.2.2.2.2.2.2.2.2.2.2.1 v.2.2.2.2.2.2.2.2.2.2.2.2.1 v.2.2.2.2.2.2.2.2.2.2.2.2.2.1 v.2.2.2.2.2.2.2.2.2.2.2.2.2.2.1 | none => loops n (RT serveSessionMove.con.rs × BT serveSessionMove.con.ps) false 6 (evK serveSessionMove.env (serveSessionMove.lp n) n (sub [1, 1, 1, 1] serveSessionMove.body)) serveSessionMove.nmj6 K s) = _
  cases h : serveSessionMove.shj6.dec s with
  | none => rfl
  | some v =>
    rw [Shp.dec_enc h]
    kernel_rfl
theorem serveSessionMove.eq (n : Nat) (x : PT serveSessionMove.con.ps) : evFuncO serveSessionMove.env Try.f39 serveSessionMove.body serveSessionMove.con.ps serveSessionMove.con.rs (serveSessionMove.lp n) n x = serveSessionMove.con.f n x := by kernel_rfl
theorem serveSessionMove.sound : SoundO Try.prog globs 39 serveSessionMove.con :=
  sound_byO (E := serveSessionMove.env) (c := serveSessionMove.body) (envOk (G := globs) (lc := []) (lo := [(22, [backTriesBegin.con]), (44, [serveSessionIsOpen.con])]) (envB_spec (by kernel_rfl)) rfl rfl trivial rfl ⟨⟨⟨backTriesBegin.sound, trivial⟩, by kernel_rfl⟩, ⟨⟨⟨serveSessionIsOpen.sound, trivial⟩, by kernel_rfl⟩, trivial⟩⟩ (by kernel_rfl) (by kernel_rfl)) Try.func39 (by kernel_rfl) (by kernel_rfl) (by kernel_rfl) serveSessionMove.lp (l := [(false, sub [1, 1, 1, 1] serveSessionMove.body, serveSessionMove.nmj6)]) (by kernel_rfl) (fun n => ⟨serveSessionMove.atj6 n, trivial⟩) serveSessionMove.eq
noncomputable def ref23TriesDue (fu : Nat) (tv : S5) (now : Int) : Option (Bool × Unit) :=
  cond tv.2.1 (
    let t1 := decide (tv.2.2.1 < tv.1.2.2.1)
    cond t1 (
      let t2 := decide (now ≥ tv.2.2.2.1)
      some (t2, ())) (
      some (false, ()))) (
    some (false, ()))

noncomputable def ref23TriesDue.body : Code := Try.f30.body.getD .skip
noncomputable def ref23TriesDue.con : Con := { ps := [kS5, (.int .u64)], rs := [.bool], f := fun n x => ref23TriesDue n x.1 x.2.1 }
noncomputable def ref23TriesDue.env : Env := { tys := [(41, ⟨kS5, 32⟩), (4, ⟨.bool, 1⟩), (22, ⟨(.int .u32), 4⟩), (24, ⟨kS0, 12⟩), (27, ⟨(.int .u64), 8⟩)], elems := [], ptrs := [], cons := [], objs := [], loops := [], cuts := [], globs := globs, base := 0 }
noncomputable def ref23TriesDue.lp (n : Nat) : LP (Kd.struct ref23TriesDue.con.rs).T := fun lo κ body nm K s =>
  loops n (Kd.struct ref23TriesDue.con.rs).T lo κ body nm K s
theorem ref23TriesDue.eq (n : Nat) (x : (Kd.struct ref23TriesDue.con.ps).T) : evFunc ref23TriesDue.env Try.f30 ref23TriesDue.body ref23TriesDue.con.ps ref23TriesDue.con.rs (ref23TriesDue.lp n) n x = ref23TriesDue.con.f n x := by kernel_rfl
theorem ref23TriesDue.sound : Sound Try.prog globs 30 ref23TriesDue.con :=
  sound_by (E := ref23TriesDue.env) (c := ref23TriesDue.body) (envOk (G := globs) (lc := []) (lo := []) (envB_spec (by kernel_rfl)) rfl rfl trivial rfl trivial (by kernel_rfl) (by kernel_rfl)) Try.func30 (by kernel_rfl) ref23TriesDue.lp (l := []) (by kernel_rfl) (fun n => trivial) ref23TriesDue.eq
noncomputable def ref23Pause.b5 (fu : Nat) (next : Int → Int → Int → S0 → Option (Int × Unit)) (k2 : Int → S0 → Option (Int × Unit)) (n : Int) (p : Int) (i : Int) (b0 : S0) : Option (Int × Unit) :=
  cond (decide (i < n)) (
    let t1 := decide (p < IntKind.u64.wrap b0.2.1)
    cond t1 (
      let t2 := IntKind.u64.wrap ((2 : Int) * p)
      let t3 := IntKind.u32.wrap (i + (1 : Int))
      next n t2 t3 b0) (
      k2 p b0)) (
    k2 p b0)
noncomputable def ref23Pause.l5 (fu : Nat) (k2 : Int → S0 → Option (Int × Unit)) : Nat → Int → Int → Int → S0 → Option (Int × Unit)
  | 0, _, _, _, _ => none
  | m + 1, n, p, i, b0 => ref23Pause.b5 fu (ref23Pause.l5 fu k2 m) k2 n p i b0
noncomputable def ref23Pause (fu : Nat) (b : S0) (n : Int) : Option (Int × Unit) :=
  (ref23May fu b).bind fun r1 =>
  cond (!r1.1) (
    some ((0 : Int), ())) (
    cond (n == (0 : Int)) (
      some ((0 : Int), ())) (
      ref23Pause.l5 fu (fun pq2 b0q2 => 
          let t2 := IntKind.u64.wrap b0q2.2.1
          some (min2 pq2 t2, ())) fu n (IntKind.u64.wrap b.1) (1 : Int) b))

noncomputable def ref23Pause.body : Code := Try.f19.body.getD .skip
abbrev ref23Pause.shl5 : Shp := ⟨[.u, .d (.int .u32), .p 0 0, .u, .u, .d (.int .u64), .d (.int .u32), .u, .u, .u, .u, .u, .u, .u, .u, .u, .u, .u, .u, .u, .u, .u, .u, .u, .u, .u, .u, .u, .u, .u, .u, .u, .u, .u, .u, .u], [[.g kS0]]⟩
abbrev ref23Pause.outl5e2 : Shp := ⟨[.u, .u, .p 0 0, .u, .u, .d (.int .u64), .u, .u, .u, .u, .u, .u, .u, .u, .u, .u, .u, .u, .u, .u, .u, .u, .u, .u, .u, .u, .u, .u, .u, .u, .u, .u, .u, .u, .u, .u], [[.g kS0]]⟩
noncomputable def ref23Pause.nml5 : Norm := ⟨{ keep := [1, 2, 5, 6], shut := [(1, (.int .u32)), (5, (.int .u64)), (6, (.int .u32))], retag := [], heap := 1, dead := [], cshut := [(0, 0, (.int .u32)), (0, 1, (.int .u32)), (0, 2, (.int .u32))], cretag := [] }, [(2, { keep := [2, 5], shut := [(5, (.int .u64))], retag := [], heap := 1, dead := [], cshut := [(0, 0, (.int .u32)), (0, 1, (.int .u32)), (0, 2, (.int .u32))], cretag := [] })]⟩
noncomputable def ref23Pause.con : Con := { ps := [kS0, (.int .u32)], rs := [(.int .u64)], f := fun n x => ref23Pause n x.1 x.2.1 }
noncomputable def ref23Pause.env : Env := { tys := [(24, ⟨kS0, 12⟩), (27, ⟨(.int .u64), 8⟩), (4, ⟨.bool, 1⟩), (22, ⟨(.int .u32), 4⟩)], elems := [], ptrs := [], cons := [(17, ref23May.con)], objs := [], loops := [(5, ref23Pause.nml5)], cuts := [], globs := globs, base := 0 }
noncomputable def ref23Pause.lp (n : Nat) : LP (Kd.struct ref23Pause.con.rs).T := fun lo κ body nm K s =>
  cond (lo && Nat.beq κ 5)
    (match ref23Pause.shl5.dec s with
    | some v => ref23Pause.l5 n (fun w0 w1 => K (.exit 0) (ref23Pause.outl5e2.enc (w0, w1, ()))) n v.1 v.2.1 v.2.2.1 v.2.2.2.1
    | none => loops n (Kd.struct ref23Pause.con.rs).T lo κ body nm K s)
    (loops n (Kd.struct ref23Pause.con.rs).T lo κ body nm K s)
theorem ref23Pause.atl5 (n : Nat) (s : St) (K : Ex → St → Option (Kd.struct ref23Pause.con.rs).T) : ref23Pause.lp n true 5 (evK ref23Pause.env (ref23Pause.lp n) n (sub [1, 1, 1, 0, 1, 0, 0] ref23Pause.body)) ref23Pause.nml5 K s = loops n (Kd.struct ref23Pause.con.rs).T true 5 (evK ref23Pause.env (ref23Pause.lp n) n (sub [1, 1, 1, 0, 1, 0, 0] ref23Pause.body)) ref23Pause.nml5 K s := by
  show (match ref23Pause.shl5.dec s with | some v => ref23Pause.l5 n (fun w0 w1 => K (.exit 0) (ref23Pause.outl5e2.enc (w0, w1, ()))) n v.1 v.2.1 v.2.2.1 v.2.2.2.1 | none => loops n (Kd.struct ref23Pause.con.rs).T true 5 (evK ref23Pause.env (ref23Pause.lp n) n (sub [1, 1, 1, 0, 1, 0, 0] ref23Pause.body)) ref23Pause.nml5 K s) = _
  cases h : ref23Pause.shl5.dec s with
  | none => rfl
  | some v =>
    rw [Shp.dec_enc h]
    exact (evLoop_eq (sh := ref23Pause.shl5) (body := evK ref23Pause.env (ref23Pause.lp n) n (sub [1, 1, 1, 0, 1, 0, 0] ref23Pause.body)) (nm := ref23Pause.nml5) (K := K) (b := fun nx v => ref23Pause.b5 n (fun x0 x1 x2 x3 => nx (x0, x1, x2, x3, ())) (fun w0 w1 => K (.exit 0) (ref23Pause.outl5e2.enc (w0, w1, ()))) v.1 v.2.1 v.2.2.1 v.2.2.2.1) (l := fun m v => ref23Pause.l5 n (fun w0 w1 => K (.exit 0) (ref23Pause.outl5e2.enc (w0, w1, ()))) m v.1 v.2.1 v.2.2.1 v.2.2.2.1) (fun _ => rfl) (fun _ _ => rfl) (fun m v => by kernel_rfl) n v).symm
theorem ref23Pause.eq (n : Nat) (x : (Kd.struct ref23Pause.con.ps).T) : evFunc ref23Pause.env Try.f19 ref23Pause.body ref23Pause.con.ps ref23Pause.con.rs (ref23Pause.lp n) n x = ref23Pause.con.f n x := by kernel_rfl
theorem ref23Pause.sound : Sound Try.prog globs 19 ref23Pause.con :=
  sound_by (E := ref23Pause.env) (c := ref23Pause.body) (envOk (G := globs) (lc := [(17, ref23May.con)]) (lo := []) (envB_spec (by kernel_rfl)) rfl rfl ⟨.inl ⟨ref23May.sound, by kernel_rfl⟩, trivial⟩ rfl trivial (by kernel_rfl) (by kernel_rfl)) Try.func19 (by kernel_rfl) ref23Pause.lp (l := [(true, sub [1, 1, 1, 0, 1, 0, 0] ref23Pause.body, ref23Pause.nml5)]) (by kernel_rfl) (fun n => ⟨ref23Pause.atl5 n, trivial⟩) ref23Pause.eq
noncomputable def ref23TriesTry (fu : Nat) (tv : S5) (now : Int) : Option (Bool × S5 × Unit) :=
  (ref23TriesDue fu tv now).bind fun r1 =>
  cond (!r1.1) (
    some (false, tv, ())) (
    let t2 := IntKind.u32.wrap (tv.2.2.1 + (1 : Int))
    (ref23Pause fu tv.1 t2).bind fun r3 =>
    let t4 := IntKind.u64.wrap (now + r3.1)
    some (true, (tv.1, tv.2.1, t2, t4, ()), ()))

noncomputable def ref23TriesTry.body : Code := Try.f29.body.getD .skip
noncomputable def ref23TriesTry.con : Con := { ps := [kS5, (.int .u64)], rs := [.bool, kS5], f := fun n x => ref23TriesTry n x.1 x.2.1 }
noncomputable def ref23TriesTry.env : Env := { tys := [(41, ⟨kS5, 32⟩), (4, ⟨.bool, 1⟩), (22, ⟨(.int .u32), 4⟩), (24, ⟨kS0, 12⟩), (27, ⟨(.int .u64), 8⟩)], elems := [], ptrs := [], cons := [(30, ref23TriesDue.con), (19, ref23Pause.con)], objs := [], loops := [], cuts := [], globs := globs, base := 0 }
noncomputable def ref23TriesTry.lp (n : Nat) : LP (Kd.struct ref23TriesTry.con.rs).T := fun lo κ body nm K s =>
  loops n (Kd.struct ref23TriesTry.con.rs).T lo κ body nm K s
theorem ref23TriesTry.eq (n : Nat) (x : (Kd.struct ref23TriesTry.con.ps).T) : evFunc ref23TriesTry.env Try.f29 ref23TriesTry.body ref23TriesTry.con.ps ref23TriesTry.con.rs (ref23TriesTry.lp n) n x = ref23TriesTry.con.f n x := by kernel_rfl
theorem ref23TriesTry.sound : Sound Try.prog globs 29 ref23TriesTry.con :=
  sound_by (E := ref23TriesTry.env) (c := ref23TriesTry.body) (envOk (G := globs) (lc := [(30, ref23TriesDue.con), (19, ref23Pause.con)]) (lo := []) (envB_spec (by kernel_rfl)) rfl rfl ⟨.inl ⟨ref23TriesDue.sound, by kernel_rfl⟩, ⟨.inl ⟨ref23Pause.sound, by kernel_rfl⟩, trivial⟩⟩ rfl trivial (by kernel_rfl) (by kernel_rfl)) Try.func29 (by kernel_rfl) ref23TriesTry.lp (l := []) (by kernel_rfl) (fun n => trivial) ref23TriesTry.eq
noncomputable def ref24SessionSend.j45005 (fu : Nat) (k0 : Int → (List S3) → S6 → S6 → Option ((List S3) × S6 × Unit)) (now : Int) (out : List S3) (v : Bool) (b0 : S6) (b1 : S6) : Option ((List S3) × S6 × Unit) :=
  cond v (
    k0 now out (b0.1, b0.2.1, b0.2.2.1, b0.2.2.2.1, b0.2.2.2.2.1, b0.2.2.2.2.2.1, b0.2.2.2.2.2.2.1, b0.2.2.2.2.2.2.2.1, true, now, ()) b1) (
    k0 now out b0 b1)
noncomputable def ref24SessionSend.b18 (fu : Nat) (next : (List S3) → S6 → S6 → Option ((List S3) × S6 × Unit)) (k2 : (List S3) → S6 → S6 → Option ((List S3) × S6 × Unit)) (out : List S3) (b0 : S6) (b1 : S6) : Option ((List S3) × S6 × Unit) :=
  let t1 := decide (b0.2.2.2.2.2.2.2.1 < b0.2.2.2.2.2.2.1)
  cond t1 (
    let t2 := IntKind.u64.wrap (b0.2.2.2.2.2.1 + b0.2.1)
    let t3 := decide (b0.2.2.2.2.2.2.2.1 < t2)
    cond t3 (
      let t4 := [((5 : Int), (0 : Int), (0 : Int), b0.2.2.2.2.2.2.2.1, (0 : Int), [], ())]
      chk (apOk out t4 56) <|
      let t5 := IntKind.u64.wrap (b0.2.2.2.2.2.2.2.1 + (1 : Int))
      next (out ++ t4) (b0.1, b0.2.1, b0.2.2.1, b0.2.2.2.1, b0.2.2.2.2.1, b0.2.2.2.2.2.1, b0.2.2.2.2.2.2.1, t5, b0.2.2.2.2.2.2.2.2.1, b0.2.2.2.2.2.2.2.2.2.1, ()) b1) (
      k2 out b0 b1)) (
    k2 out b0 b1)
noncomputable def ref24SessionSend.l18 (fu : Nat) (k2 : (List S3) → S6 → S6 → Option ((List S3) × S6 × Unit)) : Nat → (List S3) → S6 → S6 → Option ((List S3) × S6 × Unit)
  | 0, _, _, _ => none
  | m + 1, out, b0, b1 => ref24SessionSend.b18 fu (ref24SessionSend.l18 fu k2 m) k2 out b0 b1
noncomputable def ref24SessionSend.j17 (fu : Nat) (k1 : (List S3) → S6 → Option ((List S3) × S6 × Unit)) (out : List S3) (b0 : S6) (b1 : S6) : Option ((List S3) × S6 × Unit) :=
  let t1 := decide (b0.2.2.2.2.2.2.2.1 > b0.2.2.2.2.2.1)
  cond t1 (
    ref24SessionSend.l18 fu (fun outq8 b0q8 b1q8 => 
        k1 outq8 b0q8) fu out b0 b1) (
    k1 out b0)
noncomputable def ref24SessionSend.j7 (fu : Nat) (k1 : (List S3) → S6 → Option ((List S3) × S6 × Unit)) (now : Int) (out : List S3) (b0 : S6) (b1 : S6) : Option ((List S3) × S6 × Unit) :=
  cond b0.2.2.2.2.2.2.2.2.1 (
    let t1 := decide (now ≥ b0.2.2.2.2.2.2.2.2.2.1)
    cond t1 (
      let t2 := IntKind.u64.wrap (now + IntKind.u64.wrap b0.1.1)
      let t3 := [((8 : Int), (0 : Int), (0 : Int), b0.2.2.2.2.2.1, (0 : Int), [], ())]
      chk (apOk out t3 56) <|
      k1 (out ++ t3) (b0.1, b0.2.1, b0.2.2.1, b0.2.2.2.1, b0.2.2.2.2.1, b0.2.2.2.2.2.1, b0.2.2.2.2.2.2.1, b0.2.2.2.2.2.2.2.1, b0.2.2.2.2.2.2.2.2.1, t2, ())) (
      k1 out b0)) (
    (ref23TriesTry fu b0.2.2.1 now).bind fun r4 =>
    cond r4.1 (
      let t5 := [((5 : Int), (0 : Int), (0 : Int), b0.2.2.2.2.2.1, (0 : Int), [], ())]
      chk (apOk out t5 56) <|
      let t6 := IntKind.u64.wrap (b0.2.2.2.2.2.1 + (1 : Int))
      let t7 := max2 b0.2.2.2.2.2.2.2.1 t6
      ref24SessionSend.j17 fu (fun vq9 b1q9 => 
          k1 vq9 b1q9) (out ++ t5) (b0.1, b0.2.1, r4.2.1, b0.2.2.2.1, b0.2.2.2.2.1, b0.2.2.2.2.2.1, b0.2.2.2.2.2.2.1, t7, b0.2.2.2.2.2.2.2.2.1, b0.2.2.2.2.2.2.2.2.2.1, ()) b1) (
      ref24SessionSend.j17 fu (fun vq10 b1q10 => 
          k1 vq10 b1q10) out (b0.1, b0.2.1, r4.2.1, b0.2.2.2.1, b0.2.2.2.2.1, b0.2.2.2.2.2.1, b0.2.2.2.2.2.2.1, b0.2.2.2.2.2.2.2.1, b0.2.2.2.2.2.2.2.2.1, b0.2.2.2.2.2.2.2.2.2.1, ()) b1))
noncomputable def ref24SessionSend (fu : Nat) (sv : S6) (now : Int) : Option ((List S3) × S6 × Unit) :=
  cond (!sv.2.2.2.1) (
    some ([], sv, ())) (
    let t1 := decide (sv.2.2.2.2.2.1 ≥ sv.2.2.2.2.2.2.1)
    cond t1 (
      some ([], sv, ())) (
      let t2 := decide (now > (1099511627776 : Int))
      cond t2 (
        some ([], sv, ())) (
        cond (!sv.2.2.2.2.2.2.2.2.1) (
          let t3 := sv.2.2.1.2.2.1 == sv.1.2.2.1
          cond t3 (
            let t4 := decide (now ≥ sv.2.2.1.2.2.2.1)
            ref24SessionSend.j45005 fu (fun nowq1 outq1 b0q1 b1q1 => 
                ref24SessionSend.j7 fu (fun vq2 b1q2 => 
                    some (vq2, b1q2, ())) nowq1 outq1 b0q1 b1q1) now [] t4 sv (((0 : Int), (0 : Int), (0 : Int), ()), (0 : Int), (((0 : Int), (0 : Int), (0 : Int), ()), false, (0 : Int), (0 : Int), ()), false, (0 : Int), (0 : Int), (0 : Int), (0 : Int), false, (0 : Int), ())) (
            ref24SessionSend.j45005 fu (fun nowq3 outq3 b0q3 b1q3 => 
                ref24SessionSend.j7 fu (fun vq4 b1q4 => 
                    some (vq4, b1q4, ())) nowq3 outq3 b0q3 b1q3) now [] false sv (((0 : Int), (0 : Int), (0 : Int), ()), (0 : Int), (((0 : Int), (0 : Int), (0 : Int), ()), false, (0 : Int), (0 : Int), ()), false, (0 : Int), (0 : Int), (0 : Int), (0 : Int), false, (0 : Int), ()))) (
          ref24SessionSend.j45005 fu (fun nowq5 outq5 b0q5 b1q5 => 
              ref24SessionSend.j7 fu (fun vq6 b1q6 => 
                  some (vq6, b1q6, ())) nowq5 outq5 b0q5 b1q5) now [] false sv (((0 : Int), (0 : Int), (0 : Int), ()), (0 : Int), (((0 : Int), (0 : Int), (0 : Int), ()), false, (0 : Int), (0 : Int), ()), false, (0 : Int), (0 : Int), (0 : Int), (0 : Int), false, (0 : Int), ())))))

noncomputable def ref24SessionSend.body : Code := Try.f43.body.getD .skip
abbrev ref24SessionSend.shj45005 : Shp := ⟨[.u, .d (.int .u64), .p 0 0, .u, .u, .p 1 0, .o 6 kS3, .u, .u, .u, .u, .u, .u, .u, .u, .u, .u, .u, .u, .u, .u, .u, .u, .u, .u, .u, .u, .u, .u, .u, .u, .u, .u, .u, .u, .u, .u, .u, .u, .u, .u, .u, .u, .u, .d .bool, .u, .u, .u, .u, .u, .u, .u, .u, .u, .u, .u, .u, .u, .u, .u, .u, .u, .u, .u, .u, .u, .u, .u, .u, .u, .u, .u, .u, .u, .u, .u, .u, .u, .u, .u, .u, .u, .u, .u, .u, .u, .u, .u, .u, .u, .u, .u, .u, .u, .u, .u, .u, .u, .u, .u, .u, .u, .u, .u, .u, .u, .u, .u, .u, .u, .u, .u, .u, .u, .u, .u, .u, .u, .u, .u, .u, .u, .u, .u], [[.g kS6], [.g kS6]]⟩
abbrev ref24SessionSend.outj45005e0 : Shp := ⟨[.u, .d (.int .u64), .p 0 0, .u, .u, .p 1 0, .o 6 kS3, .u, .u, .u, .u, .u, .u, .u, .u, .u, .u, .u, .u, .u, .u, .u, .u, .u, .u, .u, .u, .u, .u, .u, .u, .u, .u, .u, .u, .u, .u, .u, .u, .u, .u, .u, .u, .u, .u, .u, .u, .u, .u, .u, .u, .u, .u, .u, .u, .u, .u, .u, .u, .u, .u, .u, .u, .u, .u, .u, .u, .u, .u, .u, .u, .u, .u, .u, .u, .u, .u, .u, .u, .u, .u, .u, .u, .u, .u, .u, .u, .u, .u, .u, .u, .u, .u, .u, .u, .u, .u, .u, .u, .u, .u, .u, .u, .u, .u, .u, .u, .u, .u, .u, .u, .u, .u, .u, .u, .u, .u, .u, .u, .u, .u, .u, .u, .u], [[.g kS6], [.g kS6]]⟩
noncomputable def ref24SessionSend.nmj45005 : Norm := ⟨{ keep := [1, 2, 5, 6, 44], shut := [(1, (.int .u64)), (44, .bool)], retag := [(6, 6, kS3)], heap := 2, dead := [], cshut := [(0, 0, (.int .u32)), (0, 1, (.int .u32)), (0, 2, (.int .u32)), (0, 3, (.int .u64)), (0, 4, (.int .u32)), (0, 5, (.int .u32)), (0, 6, (.int .u32)), (0, 7, .bool), (0, 8, (.int .u32)), (0, 9, (.int .u64)), (0, 10, .bool), (0, 11, (.int .u32)), (0, 12, (.int .u64)), (0, 13, (.int .u64)), (0, 14, (.int .u64)), (0, 15, .bool), (0, 16, (.int .u64)), (1, 0, (.int .u32)), (1, 1, (.int .u32)), (1, 2, (.int .u32)), (1, 3, (.int .u64)), (1, 4, (.int .u32)), (1, 5, (.int .u32)), (1, 6, (.int .u32)), (1, 7, .bool), (1, 8, (.int .u32)), (1, 9, (.int .u64)), (1, 10, .bool), (1, 11, (.int .u32)), (1, 12, (.int .u64)), (1, 13, (.int .u64)), (1, 14, (.int .u64)), (1, 15, .bool), (1, 16, (.int .u64))], cretag := [] }, [(0, { keep := [1, 2, 5, 6], shut := [(1, (.int .u64))], retag := [(6, 6, kS3)], heap := 2, dead := [], cshut := [(0, 0, (.int .u32)), (0, 1, (.int .u32)), (0, 2, (.int .u32)), (0, 3, (.int .u64)), (0, 4, (.int .u32)), (0, 5, (.int .u32)), (0, 6, (.int .u32)), (0, 7, .bool), (0, 8, (.int .u32)), (0, 9, (.int .u64)), (0, 10, .bool), (0, 11, (.int .u32)), (0, 12, (.int .u64)), (0, 13, (.int .u64)), (0, 14, (.int .u64)), (0, 15, .bool), (0, 16, (.int .u64)), (1, 0, (.int .u32)), (1, 1, (.int .u32)), (1, 2, (.int .u32)), (1, 3, (.int .u64)), (1, 4, (.int .u32)), (1, 5, (.int .u32)), (1, 6, (.int .u32)), (1, 7, .bool), (1, 8, (.int .u32)), (1, 9, (.int .u64)), (1, 10, .bool), (1, 11, (.int .u32)), (1, 12, (.int .u64)), (1, 13, (.int .u64)), (1, 14, (.int .u64)), (1, 15, .bool), (1, 16, (.int .u64))], cretag := [] })]⟩
abbrev ref24SessionSend.shl18 : Shp := ⟨[.u, .u, .p 0 0, .u, .u, .p 1 0, .o 6 kS3, .u, .u, .u, .u, .u, .u, .u, .u, .u, .u, .u, .u, .u, .u, .u, .u, .u, .u, .u, .u, .u, .u, .u, .u, .u, .u, .u, .u, .u, .u, .u, .u, .u, .u, .u, .u, .u, .u, .u, .u, .u, .u, .u, .u, .u, .u, .u, .u, .u, .u, .u, .u, .u, .u, .u, .u, .u, .u, .u, .u, .u, .u, .u, .u, .u, .u, .u, .u, .u, .u, .u, .u, .u, .u, .u, .u, .u, .u, .u, .u, .u, .u, .u, .u, .u, .u, .u, .u, .u, .u, .u, .u, .u, .u, .u, .u, .u, .u, .u, .u, .u, .u, .u, .u, .u, .u, .u, .u, .u, .u, .u, .u, .u, .u, .u, .u, .u], [[.g kS6], [.g kS6]]⟩
abbrev ref24SessionSend.outl18e2 : Shp := ⟨[.u, .u, .p 0 0, .u, .u, .p 1 0, .o 6 kS3, .u, .u, .u, .u, .u, .u, .u, .u, .u, .u, .u, .u, .u, .u, .u, .u, .u, .u, .u, .u, .u, .u, .u, .u, .u, .u, .u, .u, .u, .u, .u, .u, .u, .u, .u, .u, .u, .u, .u, .u, .u, .u, .u, .u, .u, .u, .u, .u, .u, .u, .u, .u, .u, .u, .u, .u, .u, .u, .u, .u, .u, .u, .u, .u, .u, .u, .u, .u, .u, .u, .u, .u, .u, .u, .u, .u, .u, .u, .u, .u, .u, .u, .u, .u, .u, .u, .u, .u, .u, .u, .u, .u, .u, .u, .u, .u, .u, .u, .u, .u, .u, .u, .u, .u, .u, .u, .u, .u, .u, .u, .u, .u, .u, .u, .u, .u, .u], [[.g kS6], [.g kS6]]⟩
noncomputable def ref24SessionSend.nml18 : Norm := ⟨{ keep := [2, 5, 6], shut := [], retag := [(6, 6, kS3)], heap := 2, dead := [], cshut := [(0, 0, (.int .u32)), (0, 1, (.int .u32)), (0, 2, (.int .u32)), (0, 3, (.int .u64)), (0, 4, (.int .u32)), (0, 5, (.int .u32)), (0, 6, (.int .u32)), (0, 7, .bool), (0, 8, (.int .u32)), (0, 9, (.int .u64)), (0, 10, .bool), (0, 11, (.int .u32)), (0, 12, (.int .u64)), (0, 13, (.int .u64)), (0, 14, (.int .u64)), (0, 15, .bool), (0, 16, (.int .u64)), (1, 0, (.int .u32)), (1, 1, (.int .u32)), (1, 2, (.int .u32)), (1, 3, (.int .u64)), (1, 4, (.int .u32)), (1, 5, (.int .u32)), (1, 6, (.int .u32)), (1, 7, .bool), (1, 8, (.int .u32)), (1, 9, (.int .u64)), (1, 10, .bool), (1, 11, (.int .u32)), (1, 12, (.int .u64)), (1, 13, (.int .u64)), (1, 14, (.int .u64)), (1, 15, .bool), (1, 16, (.int .u64))], cretag := [] }, [(2, { keep := [2, 5, 6], shut := [], retag := [(6, 6, kS3)], heap := 2, dead := [], cshut := [(0, 0, (.int .u32)), (0, 1, (.int .u32)), (0, 2, (.int .u32)), (0, 3, (.int .u64)), (0, 4, (.int .u32)), (0, 5, (.int .u32)), (0, 6, (.int .u32)), (0, 7, .bool), (0, 8, (.int .u32)), (0, 9, (.int .u64)), (0, 10, .bool), (0, 11, (.int .u32)), (0, 12, (.int .u64)), (0, 13, (.int .u64)), (0, 14, (.int .u64)), (0, 15, .bool), (0, 16, (.int .u64)), (1, 0, (.int .u32)), (1, 1, (.int .u32)), (1, 2, (.int .u32)), (1, 3, (.int .u64)), (1, 4, (.int .u32)), (1, 5, (.int .u32)), (1, 6, (.int .u32)), (1, 7, .bool), (1, 8, (.int .u32)), (1, 9, (.int .u64)), (1, 10, .bool), (1, 11, (.int .u32)), (1, 12, (.int .u64)), (1, 13, (.int .u64)), (1, 14, (.int .u64)), (1, 15, .bool), (1, 16, (.int .u64))], cretag := [] })]⟩
abbrev ref24SessionSend.shj17 : Shp := ⟨[.u, .u, .p 0 0, .u, .u, .p 1 0, .o 6 kS3, .u, .u, .u, .u, .u, .u, .u, .u, .u, .u, .u, .u, .u, .u, .u, .u, .u, .u, .u, .u, .u, .u, .u, .u, .u, .u, .u, .u, .u, .u, .u, .u, .u, .u, .u, .u, .u, .u, .u, .u, .u, .u, .u, .u, .u, .u, .u, .u, .u, .u, .u, .u, .u, .u, .u, .u, .u, .u, .u, .u, .u, .u, .u, .u, .u, .u, .u, .u, .u, .u, .u, .u, .u, .u, .u, .u, .u, .u, .u, .u, .u, .u, .u, .u, .u, .u, .u, .u, .u, .u, .u, .u, .u, .u, .u, .u, .u, .u, .u, .u, .u, .u, .u, .u, .u, .u, .u, .u, .u, .u, .u, .u, .u, .u, .u, .u, .u], [[.g kS6], [.g kS6]]⟩
abbrev ref24SessionSend.outj17e1 : Shp := ⟨[.u, .u, .u, .u, .o 4 kS3, .p 1 0, .u, .u, .u, .u, .u, .u, .u, .u, .u, .u, .u, .u, .u, .u, .u, .u, .u, .u, .u, .u, .u, .u, .u, .u, .u, .u, .u, .u, .u, .u, .u, .u, .u, .u, .u, .u, .u, .u, .u, .u, .u, .u, .u, .u, .u, .u, .u, .u, .u, .u, .u, .u, .u, .u, .u, .u, .u, .u, .u, .u, .u, .u, .u, .u, .u, .u, .u, .u, .u, .u, .u, .u, .u, .u, .u, .u, .u, .u, .u, .u, .u, .u, .u, .u, .u, .u, .u, .u, .u, .u, .u, .u, .u, .u, .u, .u, .u, .u, .u, .u, .u, .u, .u, .u, .u, .u, .u, .u, .u, .u, .u, .u, .u, .u, .u, .u, .u, .u], [[.u, .u, .u, .u, .u, .u, .u, .u, .u, .u, .u, .u, .u, .u, .u, .u, .u], [.g kS6]]⟩
noncomputable def ref24SessionSend.nmj17 : Norm := ⟨{ keep := [2, 5, 6], shut := [], retag := [(6, 6, kS3)], heap := 2, dead := [], cshut := [(0, 0, (.int .u32)), (0, 1, (.int .u32)), (0, 2, (.int .u32)), (0, 3, (.int .u64)), (0, 4, (.int .u32)), (0, 5, (.int .u32)), (0, 6, (.int .u32)), (0, 7, .bool), (0, 8, (.int .u32)), (0, 9, (.int .u64)), (0, 10, .bool), (0, 11, (.int .u32)), (0, 12, (.int .u64)), (0, 13, (.int .u64)), (0, 14, (.int .u64)), (0, 15, .bool), (0, 16, (.int .u64)), (1, 0, (.int .u32)), (1, 1, (.int .u32)), (1, 2, (.int .u32)), (1, 3, (.int .u64)), (1, 4, (.int .u32)), (1, 5, (.int .u32)), (1, 6, (.int .u32)), (1, 7, .bool), (1, 8, (.int .u32)), (1, 9, (.int .u64)), (1, 10, .bool), (1, 11, (.int .u32)), (1, 12, (.int .u64)), (1, 13, (.int .u64)), (1, 14, (.int .u64)), (1, 15, .bool), (1, 16, (.int .u64))], cretag := [] }, [(1, { keep := [4, 5], shut := [], retag := [(4, 4, kS3)], heap := 2, dead := [0], cshut := [(1, 0, (.int .u32)), (1, 1, (.int .u32)), (1, 2, (.int .u32)), (1, 3, (.int .u64)), (1, 4, (.int .u32)), (1, 5, (.int .u32)), (1, 6, (.int .u32)), (1, 7, .bool), (1, 8, (.int .u32)), (1, 9, (.int .u64)), (1, 10, .bool), (1, 11, (.int .u32)), (1, 12, (.int .u64)), (1, 13, (.int .u64)), (1, 14, (.int .u64)), (1, 15, .bool), (1, 16, (.int .u64))], cretag := [] })]⟩
abbrev ref24SessionSend.shj7 : Shp := ⟨[.u, .d (.int .u64), .p 0 0, .u, .u, .p 1 0, .o 6 kS3, .u, .u, .u, .u, .u, .u, .u, .u, .u, .u, .u, .u, .u, .u, .u, .u, .u, .u, .u, .u, .u, .u, .u, .u, .u, .u, .u, .u, .u, .u, .u, .u, .u, .u, .u, .u, .u, .u, .u, .u, .u, .u, .u, .u, .u, .u, .u, .u, .u, .u, .u, .u, .u, .u, .u, .u, .u, .u, .u, .u, .u, .u, .u, .u, .u, .u, .u, .u, .u, .u, .u, .u, .u, .u, .u, .u, .u, .u, .u, .u, .u, .u, .u, .u, .u, .u, .u, .u, .u, .u, .u, .u, .u, .u, .u, .u, .u, .u, .u, .u, .u, .u, .u, .u, .u, .u, .u, .u, .u, .u, .u, .u, .u, .u, .u, .u, .u], [[.g kS6], [.g kS6]]⟩
abbrev ref24SessionSend.outj7e1 : Shp := ⟨[.u, .u, .u, .u, .o 4 kS3, .p 1 0, .u, .u, .u, .u, .u, .u, .u, .u, .u, .u, .u, .u, .u, .u, .u, .u, .u, .u, .u, .u, .u, .u, .u, .u, .u, .u, .u, .u, .u, .u, .u, .u, .u, .u, .u, .u, .u, .u, .u, .u, .u, .u, .u, .u, .u, .u, .u, .u, .u, .u, .u, .u, .u, .u, .u, .u, .u, .u, .u, .u, .u, .u, .u, .u, .u, .u, .u, .u, .u, .u, .u, .u, .u, .u, .u, .u, .u, .u, .u, .u, .u, .u, .u, .u, .u, .u, .u, .u, .u, .u, .u, .u, .u, .u, .u, .u, .u, .u, .u, .u, .u, .u, .u, .u, .u, .u, .u, .u, .u, .u, .u, .u, .u, .u, .u, .u, .u, .u], [[.u, .u, .u, .u, .u, .u, .u, .u, .u, .u, .u, .u, .u, .u, .u, .u, .u], [.g kS6]]⟩
noncomputable def ref24SessionSend.nmj7 : Norm := ⟨{ keep := [1, 2, 5, 6], shut := [(1, (.int .u64))], retag := [(6, 6, kS3)], heap := 2, dead := [], cshut := [(0, 0, (.int .u32)), (0, 1, (.int .u32)), (0, 2, (.int .u32)), (0, 3, (.int .u64)), (0, 4, (.int .u32)), (0, 5, (.int .u32)), (0, 6, (.int .u32)), (0, 7, .bool), (0, 8, (.int .u32)), (0, 9, (.int .u64)), (0, 10, .bool), (0, 11, (.int .u32)), (0, 12, (.int .u64)), (0, 13, (.int .u64)), (0, 14, (.int .u64)), (0, 15, .bool), (0, 16, (.int .u64)), (1, 0, (.int .u32)), (1, 1, (.int .u32)), (1, 2, (.int .u32)), (1, 3, (.int .u64)), (1, 4, (.int .u32)), (1, 5, (.int .u32)), (1, 6, (.int .u32)), (1, 7, .bool), (1, 8, (.int .u32)), (1, 9, (.int .u64)), (1, 10, .bool), (1, 11, (.int .u32)), (1, 12, (.int .u64)), (1, 13, (.int .u64)), (1, 14, (.int .u64)), (1, 15, .bool), (1, 16, (.int .u64))], cretag := [] }, [(1, { keep := [4, 5], shut := [], retag := [(4, 4, kS3)], heap := 2, dead := [0], cshut := [(1, 0, (.int .u32)), (1, 1, (.int .u32)), (1, 2, (.int .u32)), (1, 3, (.int .u64)), (1, 4, (.int .u32)), (1, 5, (.int .u32)), (1, 6, (.int .u32)), (1, 7, .bool), (1, 8, (.int .u32)), (1, 9, (.int .u64)), (1, 10, .bool), (1, 11, (.int .u32)), (1, 12, (.int .u64)), (1, 13, (.int .u64)), (1, 14, (.int .u64)), (1, 15, .bool), (1, 16, (.int .u64))], cretag := [] })]⟩
noncomputable def ref24SessionSend.con : Con := { ps := [kS6, (.int .u64)], rs := [(.slice kS3), kS6], f := fun n x => ref24SessionSend n x.1 x.2.1 }
noncomputable def ref24SessionSend.env : Env := { tys := [(63, ⟨kS6, 104⟩), (52, ⟨(.slice kS3), 24⟩), (56, ⟨kS3, 56⟩), (4, ⟨.bool, 1⟩), (27, ⟨(.int .u64), 8⟩), (41, ⟨kS5, 32⟩), (22, ⟨(.int .u32), 4⟩), (24, ⟨kS0, 12⟩)], elems := [(52, 56)], ptrs := [], cons := [(29, ref23TriesTry.con)], objs := [], loops := [(18, ref24SessionSend.nml18)], cuts := [(45005, ref24SessionSend.nmj45005), (17, ref24SessionSend.nmj17), (7, ref24SessionSend.nmj7)], globs := globs, base := 0 }
noncomputable def ref24SessionSend.lp (n : Nat) : LP (Kd.struct ref24SessionSend.con.rs).T := fun lo κ body nm K s =>
  cond (!lo && Nat.beq κ 45005)
    (match ref24SessionSend.shj45005.dec s with
    | some v => ref24SessionSend.j45005 n (fun w0 w1 w2 w3 => K .normal (ref24SessionSend.outj45005e0.enc (w0, w1, w2, w3, ()))) v.1 v.2.1 v.2.2.1 v.2.2.2.1 v.2.2.2.2.1
    | none => loops n (Kd.struct ref24SessionSend.con.rs).T lo κ body nm K s)
    (cond (lo && Nat.beq κ 18)
    (match ref24SessionSend.shl18.dec s with
    | some v => ref24SessionSend.l18 n (fun w0 w1 w2 => K (.exit 0) (ref24SessionSend.outl18e2.enc (w0, w1, w2, ()))) n v.1 v.2.1 v.2.2.1
    | none => loops n (Kd.struct ref24SessionSend.con.rs).T lo κ body nm K s)
    (cond (!lo && Nat.beq κ 17)
    (match ref24SessionSend.shj17.dec s with
    | some v => ref24SessionSend.j17 n (fun w0 w1 => K .ret (ref24SessionSend.outj17e1.enc (w0, w1, ()))) v.1 v.2.1 v.2.2.1
    | none => loops n (Kd.struct ref24SessionSend.con.rs).T lo κ body nm K s)
    (cond (!lo && Nat.beq κ 7)
    (match ref24SessionSend.shj7.dec s with
    | some v => ref24SessionSend.j7 n (fun w0 w1 => K .ret (ref24SessionSend.outj7e1.enc (w0, w1, ()))) v.1 v.2.1 v.2.2.1 v.2.2.2.1
    | none => loops n (Kd.struct ref24SessionSend.con.rs).T lo κ body nm K s)
    (loops n (Kd.struct ref24SessionSend.con.rs).T lo κ body nm K s))))
theorem ref24SessionSend.atj45005 (n : Nat) (s : St) (K : Ex → St → Option (Kd.struct ref24SessionSend.con.rs).T) : ref24SessionSend.lp n false 45005 (evK ref24SessionSend.env (ref24SessionSend.lp n) n (sub [1, 1, 1, 0, 1] ref24SessionSend.body)) ref24SessionSend.nmj45005 K s = loops n (Kd.struct ref24SessionSend.con.rs).T false 45005 (evK ref24SessionSend.env (ref24SessionSend.lp n) n (sub [1, 1, 1, 0, 1] ref24SessionSend.body)) ref24SessionSend.nmj45005 K s := by
  show (match ref24SessionSend.shj45005.dec s with | some v => ref24SessionSend.j45005 n (fun w0 w1 w2 w3 => K .normal (ref24SessionSend.outj45005e0.enc (w0, w1, w2, w3, ()))) v.1 v.2.1 v.2.2.1 v.2.2.2.1 v.2.2.2.2.1 | none => loops n (Kd.struct ref24SessionSend.con.rs).T false 45005 (evK ref24SessionSend.env (ref24SessionSend.lp n) n (sub [1, 1, 1, 0, 1] ref24SessionSend.body)) ref24SessionSend.nmj45005 K s) = _
  cases h : ref24SessionSend.shj45005.dec s with
  | none => rfl
  | some v =>
    rw [Shp.dec_enc h]
    kernel_rfl
theorem ref24SessionSend.atl18 (n : Nat) (s : St) (K : Ex → St → Option (Kd.struct ref24SessionSend.con.rs).T) : ref24SessionSend.lp n true 18 (evK ref24SessionSend.env (ref24SessionSend.lp n) n (sub [1, 1, 1, 1, 1, 1, 1, 1, 0, 1, 0, 0, 0] ref24SessionSend.body)) ref24SessionSend.nml18 K s = loops n (Kd.struct ref24SessionSend.con.rs).T true 18 (evK ref24SessionSend.env (ref24SessionSend.lp n) n (sub [1, 1, 1, 1, 1, 1, 1, 1, 0, 1, 0, 0, 0] ref24SessionSend.body)) ref24SessionSend.nml18 K s := by
  show (match ref24SessionSend.shl18.dec s with | some v => ref24SessionSend.l18 n (fun w0 w1 w2 => K (.exit 0) (ref24SessionSend.outl18e2.enc (w0, w1, w2, ()))) n v.1 v.2.1 v.2.2.1 | none => loops n (Kd.struct ref24SessionSend.con.rs).T true 18 (evK ref24SessionSend.env (ref24SessionSend.lp n) n (sub [1, 1, 1, 1, 1, 1, 1, 1, 0, 1, 0, 0, 0] ref24SessionSend.body)) ref24SessionSend.nml18 K s) = _
  cases h : ref24SessionSend.shl18.dec s with
  | none => rfl
  | some v =>
    rw [Shp.dec_enc h]
    exact (evLoop_eq (sh := ref24SessionSend.shl18) (body := evK ref24SessionSend.env (ref24SessionSend.lp n) n (sub [1, 1, 1, 1, 1, 1, 1, 1, 0, 1, 0, 0, 0] ref24SessionSend.body)) (nm := ref24SessionSend.nml18) (K := K) (b := fun nx v => ref24SessionSend.b18 n (fun x0 x1 x2 => nx (x0, x1, x2, ())) (fun w0 w1 w2 => K (.exit 0) (ref24SessionSend.outl18e2.enc (w0, w1, w2, ()))) v.1 v.2.1 v.2.2.1) (l := fun m v => ref24SessionSend.l18 n (fun w0 w1 w2 => K (.exit 0) (ref24SessionSend.outl18e2.enc (w0, w1, w2, ()))) m v.1 v.2.1 v.2.2.1) (fun _ => rfl) (fun _ _ => rfl) (fun m v => by kernel_rfl) n v).symm
theorem ref24SessionSend.atj17 (n : Nat) (s : St) (K : Ex → St → Option (Kd.struct ref24SessionSend.con.rs).T) : ref24SessionSend.lp n false 17 (evK ref24SessionSend.env (ref24SessionSend.lp n) n (sub [1, 1, 1, 1, 1, 1, 1, 1] ref24SessionSend.body)) ref24SessionSend.nmj17 K s = loops n (Kd.struct ref24SessionSend.con.rs).T false 17 (evK ref24SessionSend.env (ref24SessionSend.lp n) n (sub [1, 1, 1, 1, 1, 1, 1, 1] ref24SessionSend.body)) ref24SessionSend.nmj17 K s := by
  show (match ref24SessionSend.shj17.dec s with | some v => ref24SessionSend.j17 n (fun w0 w1 => K .ret (ref24SessionSend.outj17e1.enc (w0, w1, ()))) v.1 v.2.1 v.2.2.1 | none => loops n (Kd.struct ref24SessionSend.con.rs).T false 17 (evK ref24SessionSend.env (ref24SessionSend.lp n) n (sub [1, 1, 1, 1, 1, 1, 1, 1] ref24SessionSend.body)) ref24SessionSend.nmj17 K s) = _
  cases h : ref24SessionSend.shj17.dec s with
  | none => rfl
  | some v =>
    rw [Shp.dec_enc h]
    kernel_rfl
theorem ref24SessionSend.atj7 (n : Nat) (s : St) (K : Ex → St → Option (Kd.struct ref24SessionSend.con.rs).T) : ref24SessionSend.lp n false 7 (evK ref24SessionSend.env (ref24SessionSend.lp n) n (sub [1, 1, 1, 1] ref24SessionSend.body)) ref24SessionSend.nmj7 K s = loops n (Kd.struct ref24SessionSend.con.rs).T false 7 (evK ref24SessionSend.env (ref24SessionSend.lp n) n (sub [1, 1, 1, 1] ref24SessionSend.body)) ref24SessionSend.nmj7 K s := by
  show (match ref24SessionSend.shj7.dec s with | some v => ref24SessionSend.j7 n (fun w0 w1 => K .ret (ref24SessionSend.outj7e1.enc (w0, w1, ()))) v.1 v.2.1 v.2.2.1 v.2.2.2.1 | none => loops n (Kd.struct ref24SessionSend.con.rs).T false 7 (evK ref24SessionSend.env (ref24SessionSend.lp n) n (sub [1, 1, 1, 1] ref24SessionSend.body)) ref24SessionSend.nmj7 K s) = _
  cases h : ref24SessionSend.shj7.dec s with
  | none => rfl
  | some v =>
    rw [Shp.dec_enc h]
    kernel_rfl
theorem ref24SessionSend.eq (n : Nat) (x : (Kd.struct ref24SessionSend.con.ps).T) : evFunc ref24SessionSend.env Try.f43 ref24SessionSend.body ref24SessionSend.con.ps ref24SessionSend.con.rs (ref24SessionSend.lp n) n x = ref24SessionSend.con.f n x := by kernel_rfl
theorem ref24SessionSend.sound : Sound Try.prog globs 43 ref24SessionSend.con :=
  sound_by (E := ref24SessionSend.env) (c := ref24SessionSend.body) (envOk (G := globs) (lc := [(29, ref23TriesTry.con)]) (lo := []) (envB_spec (by kernel_rfl)) rfl rfl ⟨.inl ⟨ref23TriesTry.sound, by kernel_rfl⟩, trivial⟩ rfl trivial (by kernel_rfl) (by kernel_rfl)) Try.func43 (by kernel_rfl) ref24SessionSend.lp (l := [(false, sub [1, 1, 1, 0, 1] ref24SessionSend.body, ref24SessionSend.nmj45005), (true, sub [1, 1, 1, 1, 1, 1, 1, 1, 0, 1, 0, 0, 0] ref24SessionSend.body, ref24SessionSend.nml18), (false, sub [1, 1, 1, 1, 1, 1, 1, 1] ref24SessionSend.body, ref24SessionSend.nmj17), (false, sub [1, 1, 1, 1] ref24SessionSend.body, ref24SessionSend.nmj7)]) (by kernel_rfl) (fun n => ⟨ref24SessionSend.atj45005 n, ⟨ref24SessionSend.atl18 n, ⟨ref24SessionSend.atj17 n, ⟨ref24SessionSend.atj7 n, trivial⟩⟩⟩⟩) ref24SessionSend.eq
noncomputable def serveSessionAcks (fu : Nat) (sv : O2) (epoch : Int) (n : Int) : Option ((Bool × Unit) × (O2 × Unit)) :=
  (serveSessionIsOpen fu sv).bind fun r1 =>
  cond r1.1.1 (
    let t2 := epoch == r1.2.1.2.2.2.2.1
    cond t2 (
      let t3 := decide (n > r1.2.1.2.2.2.2.2.1)
      cond t3 (
        let t4 := decide (n ≤ r1.2.1.2.2.2.2.2.2.2.1)
        some ((t4, ()), (r1.2.1, ()))) (
        some ((false, ()), (r1.2.1, ())))) (
      some ((false, ()), (r1.2.1, ())))) (
    some ((false, ()), (r1.2.1, ())))

noncomputable def serveSessionAcks.body : Code := Try.f38.body.getD .skip
noncomputable def serveSessionAcks.con : OCon := { ps := [.obj kO2, .dat (.int .u32), .dat (.int .u64)], rs := [.dat .bool], f := fun n x => serveSessionAcks n x.1 x.2.1 x.2.2.1 }
noncomputable def serveSessionAcks.env : Env := { tys := [(4, ⟨.bool, 1⟩), (92, ⟨kS7, 80⟩), (22, ⟨(.int .u32), 4⟩), (27, ⟨(.int .u64), 8⟩)], elems := [], ptrs := [], cons := [], objs := [(44, [serveSessionIsOpen.con])], loops := [], cuts := [], globs := globs, base := 2 }
noncomputable def serveSessionAcks.lp (n : Nat) : LP (RT serveSessionAcks.con.rs × BT serveSessionAcks.con.ps) := fun lo κ body nm K s =>
  loops n (RT serveSessionAcks.con.rs × BT serveSessionAcks.con.ps) lo κ body nm K s
theorem serveSessionAcks.eq (n : Nat) (x : PT serveSessionAcks.con.ps) : evFuncO serveSessionAcks.env Try.f38 serveSessionAcks.body serveSessionAcks.con.ps serveSessionAcks.con.rs (serveSessionAcks.lp n) n x = serveSessionAcks.con.f n x := by kernel_rfl
theorem serveSessionAcks.sound : SoundO Try.prog globs 38 serveSessionAcks.con :=
  sound_byO (E := serveSessionAcks.env) (c := serveSessionAcks.body) (envOk (G := globs) (lc := []) (lo := [(44, [serveSessionIsOpen.con])]) (envB_spec (by kernel_rfl)) rfl rfl trivial rfl ⟨⟨⟨serveSessionIsOpen.sound, trivial⟩, by kernel_rfl⟩, trivial⟩ (by kernel_rfl) (by kernel_rfl)) Try.func38 (by kernel_rfl) (by kernel_rfl) (by kernel_rfl) serveSessionAcks.lp (l := []) (by kernel_rfl) (fun n => trivial) serveSessionAcks.eq
noncomputable def serveSessionDrops (fu : Nat) (sv : O2) (epoch : Int) (n : Int) : Option ((Bool × Unit) × (O2 × Unit)) :=
  (serveSessionIsOpen fu sv).bind fun r1 =>
  cond r1.1.1 (
    let t2 := epoch == r1.2.1.2.2.2.2.1
    cond t2 (
      cond r1.2.1.2.2.2.2.2.2.2.2.1 (
        some ((n == r1.2.1.2.2.2.2.2.1, ()), (r1.2.1, ()))) (
        some ((false, ()), (r1.2.1, ())))) (
      some ((false, ()), (r1.2.1, ())))) (
    some ((false, ()), (r1.2.1, ())))

noncomputable def serveSessionDrops.body : Code := Try.f48.body.getD .skip
noncomputable def serveSessionDrops.con : OCon := { ps := [.obj kO2, .dat (.int .u32), .dat (.int .u64)], rs := [.dat .bool], f := fun n x => serveSessionDrops n x.1 x.2.1 x.2.2.1 }
noncomputable def serveSessionDrops.env : Env := { tys := [(4, ⟨.bool, 1⟩), (92, ⟨kS7, 80⟩), (22, ⟨(.int .u32), 4⟩), (27, ⟨(.int .u64), 8⟩)], elems := [], ptrs := [], cons := [], objs := [(44, [serveSessionIsOpen.con])], loops := [], cuts := [], globs := globs, base := 2 }
noncomputable def serveSessionDrops.lp (n : Nat) : LP (RT serveSessionDrops.con.rs × BT serveSessionDrops.con.ps) := fun lo κ body nm K s =>
  loops n (RT serveSessionDrops.con.rs × BT serveSessionDrops.con.ps) lo κ body nm K s
theorem serveSessionDrops.eq (n : Nat) (x : PT serveSessionDrops.con.ps) : evFuncO serveSessionDrops.env Try.f48 serveSessionDrops.body serveSessionDrops.con.ps serveSessionDrops.con.rs (serveSessionDrops.lp n) n x = serveSessionDrops.con.f n x := by kernel_rfl
theorem serveSessionDrops.sound : SoundO Try.prog globs 48 serveSessionDrops.con :=
  sound_byO (E := serveSessionDrops.env) (c := serveSessionDrops.body) (envOk (G := globs) (lc := []) (lo := [(44, [serveSessionIsOpen.con])]) (envB_spec (by kernel_rfl)) rfl rfl trivial rfl ⟨⟨⟨serveSessionIsOpen.sound, trivial⟩, by kernel_rfl⟩, trivial⟩ (by kernel_rfl) (by kernel_rfl)) Try.func48 (by kernel_rfl) (by kernel_rfl) (by kernel_rfl) serveSessionDrops.lp (l := []) (by kernel_rfl) (fun n => trivial) serveSessionDrops.eq
noncomputable def serveSessionNack (fu : Nat) (sv : O2) (epoch : Int) (n : Int) (now : Int) : Option ((Bool × Unit) × (O2 × Unit)) :=
  (serveSessionIsOpen fu sv).bind fun r1 =>
  cond (!r1.1.1) (
    some ((false, ()), (r1.2.1, ()))) (
    let t2 := epoch != r1.2.1.2.2.2.2.1
    cond t2 (
      some ((false, ()), (r1.2.1, ()))) (
      cond (n != r1.2.1.2.2.2.2.2.1) (
        some ((false, ()), (r1.2.1, ()))) (
        let t3 := decide (n ≥ r1.2.1.2.2.2.2.2.2.2.1)
        cond t3 (
          some ((false, ()), (r1.2.1, ()))) (
          cond r1.2.1.2.2.2.2.2.2.2.2.1 (
            some ((false, ()), (r1.2.1, ()))) (
            some ((true, ()), ((r1.2.1.1, r1.2.1.2.1, r1.2.1.2.2.1, r1.2.1.2.2.2.1, r1.2.1.2.2.2.2.1, r1.2.1.2.2.2.2.2.1, r1.2.1.2.2.2.2.2.2.1, r1.2.1.2.2.2.2.2.2.2.1, true, now, ()), ())))))))

noncomputable def serveSessionNack.body : Code := Try.f49.body.getD .skip
noncomputable def serveSessionNack.con : OCon := { ps := [.obj kO2, .dat (.int .u32), .dat (.int .u64), .dat (.int .u64)], rs := [.dat .bool], f := fun n x => serveSessionNack n x.1 x.2.1 x.2.2.1 x.2.2.2.1 }
noncomputable def serveSessionNack.env : Env := { tys := [(4, ⟨.bool, 1⟩), (92, ⟨kS7, 80⟩), (22, ⟨(.int .u32), 4⟩), (27, ⟨(.int .u64), 8⟩)], elems := [], ptrs := [], cons := [], objs := [(44, [serveSessionIsOpen.con])], loops := [], cuts := [], globs := globs, base := 2 }
noncomputable def serveSessionNack.lp (n : Nat) : LP (RT serveSessionNack.con.rs × BT serveSessionNack.con.ps) := fun lo κ body nm K s =>
  loops n (RT serveSessionNack.con.rs × BT serveSessionNack.con.ps) lo κ body nm K s
theorem serveSessionNack.eq (n : Nat) (x : PT serveSessionNack.con.ps) : evFuncO serveSessionNack.env Try.f49 serveSessionNack.body serveSessionNack.con.ps serveSessionNack.con.rs (serveSessionNack.lp n) n x = serveSessionNack.con.f n x := by kernel_rfl
theorem serveSessionNack.sound : SoundO Try.prog globs 49 serveSessionNack.con :=
  sound_byO (E := serveSessionNack.env) (c := serveSessionNack.body) (envOk (G := globs) (lc := []) (lo := [(44, [serveSessionIsOpen.con])]) (envB_spec (by kernel_rfl)) rfl rfl trivial rfl ⟨⟨⟨serveSessionIsOpen.sound, trivial⟩, by kernel_rfl⟩, trivial⟩ (by kernel_rfl) (by kernel_rfl)) Try.func49 (by kernel_rfl) (by kernel_rfl) (by kernel_rfl) serveSessionNack.lp (l := []) (by kernel_rfl) (fun n => trivial) serveSessionNack.eq
noncomputable def law24Do.j64012 (fu : Nat) (k0 : S0 → Int → Bool → Int → Int → Int → Int → Bool → Int → S0 → Bool → Int → Int → S6 → S6 → Option ((Bool × S6 × Unit) × (O2 × Unit))) (v : Bool) (b0 : S0) (c0 : Int) (c0x2 : Bool) (c0x3 : Int) (c0x4 : Int) (c0x5 : Int) (c0x6 : Int) (c0x7 : Bool) (c0x8 : Int) (b1 : S0) (c1 : Bool) (c1x2 : Int) (c1x3 : Int) (b2 : S6) (b3 : S4) (b4 : S6) : Option ((Bool × S6 × Unit) × (O2 × Unit)) :=
  cond v (
    let t1 := max2 b2.2.2.2.2.2.2.1 b3.2.2.1
    k0 b0 c0 c0x2 c0x3 c0x4 c0x5 c0x6 c0x7 c0x8 b1 c1 c1x2 c1x3 (b2.1, b2.2.1, b2.2.2.1, b2.2.2.2.1, b2.2.2.2.2.1, b2.2.2.2.2.2.1, t1, b2.2.2.2.2.2.2.2.1, b2.2.2.2.2.2.2.2.2.1, b2.2.2.2.2.2.2.2.2.2.1, ()) b4) (
    k0 b0 c0 c0x2 c0x3 c0x4 c0x5 c0x6 c0x7 c0x8 b1 c1 c1x2 c1x3 b2 b4)
noncomputable def law24Do.j25 (fu : Nat) (k1 : Bool → S0 → Int → Bool → Int → Int → Int → Int → Bool → Int → S0 → Bool → Int → Int → S6 → Option ((Bool × S6 × Unit) × (O2 × Unit))) (ok : Bool) (b0 : S0) (c0 : Int) (c0x2 : Bool) (c0x3 : Int) (c0x4 : Int) (c0x5 : Int) (c0x6 : Int) (c0x7 : Bool) (c0x8 : Int) (b1 : S0) (c1 : Bool) (c1x2 : Int) (c1x3 : Int) (b2 : S6) (b3 : S4) (b4 : S6) : Option ((Bool × S6 × Unit) × (O2 × Unit)) :=
  cond ok (
    (serveSessionNack fu (b0, c0, (b1, c1, c1x2, c1x3, ()), c0x2, c0x3, c0x4, c0x5, c0x6, c0x7, c0x8, ()) b3.2.1 b3.2.2.1 b3.2.2.2.2.1).bind fun r1 =>
    k1 (r1.1.1 == ok) r1.2.1.1 r1.2.1.2.1 r1.2.1.2.2.2.1 r1.2.1.2.2.2.2.1 r1.2.1.2.2.2.2.2.1 r1.2.1.2.2.2.2.2.2.1 r1.2.1.2.2.2.2.2.2.2.1 r1.2.1.2.2.2.2.2.2.2.2.1 r1.2.1.2.2.2.2.2.2.2.2.2.1 r1.2.1.2.2.1.1 r1.2.1.2.2.1.2.1 r1.2.1.2.2.1.2.2.1 r1.2.1.2.2.1.2.2.2.1 (b2.1, b2.2.1, b2.2.2.1, b2.2.2.2.1, b2.2.2.2.2.1, b2.2.2.2.2.2.1, b2.2.2.2.2.2.2.1, b2.2.2.2.2.2.2.2.1, true, b3.2.2.2.2.1, ())) (
    (serveSessionNack fu (b0, c0, (b1, c1, c1x2, c1x3, ()), c0x2, c0x3, c0x4, c0x5, c0x6, c0x7, c0x8, ()) b3.2.1 b3.2.2.1 b3.2.2.2.2.1).bind fun r2 =>
    k1 (r2.1.1 == ok) r2.2.1.1 r2.2.1.2.1 r2.2.1.2.2.2.1 r2.2.1.2.2.2.2.1 r2.2.1.2.2.2.2.2.1 r2.2.1.2.2.2.2.2.2.1 r2.2.1.2.2.2.2.2.2.2.1 r2.2.1.2.2.2.2.2.2.2.2.1 r2.2.1.2.2.2.2.2.2.2.2.2.1 r2.2.1.2.2.1.1 r2.2.1.2.2.1.2.1 r2.2.1.2.2.1.2.2.1 r2.2.1.2.2.1.2.2.2.1 b2)
noncomputable def law24Do (fu : Nat) (sv : O2) (mv : S6) (o : S4) : Option ((Bool × S6 × Unit) × (O2 × Unit)) :=
  cond (o.1 == (0 : Int)) (
    (ref24SessionOpen fu mv o.2.1 o.2.2.1 o.2.2.2.1 o.2.2.2.2.1).bind fun r1 =>
    (serveSessionOpen fu sv o.2.1 o.2.2.1 o.2.2.2.1 o.2.2.2.2.1).bind fun r2 =>
    some ((r2.1.1 == r1.1, r1.2.1, ()), (r2.2.1, ()))) (
    cond (o.1 == (1 : Int)) (
      (serveSessionShut fu sv).bind fun r3 =>
      some ((true, (mv.1, mv.2.1, mv.2.2.1, false, mv.2.2.2.2.1, mv.2.2.2.2.2.1, mv.2.2.2.2.2.2.1, mv.2.2.2.2.2.2.2.1, mv.2.2.2.2.2.2.2.2.1, mv.2.2.2.2.2.2.2.2.2.1, ()), ()), (r3.2.1, ()))) (
      cond (o.1 == (2 : Int)) (
        (serveSessionGrow fu sv o.2.2.1).bind fun r4 =>
        cond mv.2.2.2.1 (
          let t5 := decide (o.2.2.1 ≤ (1099511627776 : Int))
          law24Do.j64012 fu (fun b0q7 c0q7 c0q7x2 c0q7x3 c0q7x4 c0q7x5 c0q7x6 c0q7x7 c0q7x8 b1q7 c1q7 c1q7x2 c1q7x3 b2q7 b4q7 => 
              some ((true, b2q7, ()), ((b0q7, c0q7, (b1q7, c1q7, c1q7x2, c1q7x3, ()), c0q7x2, c0q7x3, c0q7x4, c0q7x5, c0q7x6, c0q7x7, c0q7x8, ()), ()))) t5 r4.2.1.1 r4.2.1.2.1 r4.2.1.2.2.2.1 r4.2.1.2.2.2.2.1 r4.2.1.2.2.2.2.2.1 r4.2.1.2.2.2.2.2.2.1 r4.2.1.2.2.2.2.2.2.2.1 r4.2.1.2.2.2.2.2.2.2.2.1 r4.2.1.2.2.2.2.2.2.2.2.2.1 r4.2.1.2.2.1.1 r4.2.1.2.2.1.2.1 r4.2.1.2.2.1.2.2.1 r4.2.1.2.2.1.2.2.2.1 mv o (((0 : Int), (0 : Int), (0 : Int), ()), (0 : Int), (((0 : Int), (0 : Int), (0 : Int), ()), false, (0 : Int), (0 : Int), ()), false, (0 : Int), (0 : Int), (0 : Int), (0 : Int), false, (0 : Int), ())) (
          law24Do.j64012 fu (fun b0q8 c0q8 c0q8x2 c0q8x3 c0q8x4 c0q8x5 c0q8x6 c0q8x7 c0q8x8 b1q8 c1q8 c1q8x2 c1q8x3 b2q8 b4q8 => 
              some ((true, b2q8, ()), ((b0q8, c0q8, (b1q8, c1q8, c1q8x2, c1q8x3, ()), c0q8x2, c0q8x3, c0q8x4, c0q8x5, c0q8x6, c0q8x7, c0q8x8, ()), ()))) false r4.2.1.1 r4.2.1.2.1 r4.2.1.2.2.2.1 r4.2.1.2.2.2.2.1 r4.2.1.2.2.2.2.2.1 r4.2.1.2.2.2.2.2.2.1 r4.2.1.2.2.2.2.2.2.2.1 r4.2.1.2.2.2.2.2.2.2.2.1 r4.2.1.2.2.2.2.2.2.2.2.2.1 r4.2.1.2.2.1.1 r4.2.1.2.2.1.2.1 r4.2.1.2.2.1.2.2.1 r4.2.1.2.2.1.2.2.2.1 mv o (((0 : Int), (0 : Int), (0 : Int), ()), (0 : Int), (((0 : Int), (0 : Int), (0 : Int), ()), false, (0 : Int), (0 : Int), ()), false, (0 : Int), (0 : Int), (0 : Int), (0 : Int), false, (0 : Int), ()))) (
        cond (o.1 == (3 : Int)) (
          (ref24SessionMove fu mv o.2.2.1 o.2.2.2.2.1).bind fun r6 =>
          (serveSessionMove fu sv o.2.2.1 o.2.2.2.2.1).bind fun r7 =>
          some ((r7.1.1 == r6.1, r6.2.1, ()), (r7.2.1, ()))) (
          cond (o.1 == (4 : Int)) (
            (ref24SessionSend fu mv o.2.2.2.2.1).bind fun r8 =>
            (serveSessionSend fu sv o.2.2.2.2.1).bind fun r9 =>
            (ref20SameAll fu r9.1.1 r8.1).bind fun r10 =>
            some ((r10.1, r8.2.1, ()), (r9.2.1, ()))) (
            cond (o.1 == (5 : Int)) (
              (serveSessionAcks fu sv o.2.1 o.2.2.1).bind fun r11 =>
              cond mv.2.2.2.1 (
                cond (o.2.1 == mv.2.2.2.2.1) (
                  let t12 := decide (o.2.2.1 > mv.2.2.2.2.2.1)
                  cond t12 (
                    let t13 := decide (o.2.2.1 ≤ mv.2.2.2.2.2.2.2.1)
                    some ((r11.1.1 == t13, mv, ()), (r11.2.1, ()))) (
                    some ((r11.1.1 == false, mv, ()), (r11.2.1, ())))) (
                  some ((r11.1.1 == false, mv, ()), (r11.2.1, ())))) (
                some ((r11.1.1 == false, mv, ()), (r11.2.1, ())))) (
              cond (o.1 == (6 : Int)) (
                (serveSessionDrops fu sv o.2.1 o.2.2.1).bind fun r14 =>
                cond mv.2.2.2.1 (
                  cond (o.2.1 == mv.2.2.2.2.1) (
                    cond mv.2.2.2.2.2.2.2.2.1 (
                      let t15 := o.2.2.1 == mv.2.2.2.2.2.1
                      some ((r14.1.1 == t15, mv, ()), (r14.2.1, ()))) (
                      some ((r14.1.1 == false, mv, ()), (r14.2.1, ())))) (
                    some ((r14.1.1 == false, mv, ()), (r14.2.1, ())))) (
                  some ((r14.1.1 == false, mv, ()), (r14.2.1, ())))) (
                cond mv.2.2.2.1 (
                  cond (o.2.1 == mv.2.2.2.2.1) (
                    let t16 := o.2.2.1 == mv.2.2.2.2.2.1
                    cond t16 (
                      let t17 := decide (o.2.2.1 < mv.2.2.2.2.2.2.2.1)
                      cond t17 (
                        law24Do.j25 fu (fun vq9 b0q9 c0q9 c0q9x2 c0q9x3 c0q9x4 c0q9x5 c0q9x6 c0q9x7 c0q9x8 b1q9 c1q9 c1q9x2 c1q9x3 b4q9 => 
                            some ((vq9, b4q9, ()), ((b0q9, c0q9, (b1q9, c1q9, c1q9x2, c1q9x3, ()), c0q9x2, c0q9x3, c0q9x4, c0q9x5, c0q9x6, c0q9x7, c0q9x8, ()), ()))) (!mv.2.2.2.2.2.2.2.2.1) sv.1 sv.2.1 sv.2.2.2.1 sv.2.2.2.2.1 sv.2.2.2.2.2.1 sv.2.2.2.2.2.2.1 sv.2.2.2.2.2.2.2.1 sv.2.2.2.2.2.2.2.2.1 sv.2.2.2.2.2.2.2.2.2.1 sv.2.2.1.1 sv.2.2.1.2.1 sv.2.2.1.2.2.1 sv.2.2.1.2.2.2.1 mv o (((0 : Int), (0 : Int), (0 : Int), ()), (0 : Int), (((0 : Int), (0 : Int), (0 : Int), ()), false, (0 : Int), (0 : Int), ()), false, (0 : Int), (0 : Int), (0 : Int), (0 : Int), false, (0 : Int), ())) (
                        law24Do.j25 fu (fun vq10 b0q10 c0q10 c0q10x2 c0q10x3 c0q10x4 c0q10x5 c0q10x6 c0q10x7 c0q10x8 b1q10 c1q10 c1q10x2 c1q10x3 b4q10 => 
                            some ((vq10, b4q10, ()), ((b0q10, c0q10, (b1q10, c1q10, c1q10x2, c1q10x3, ()), c0q10x2, c0q10x3, c0q10x4, c0q10x5, c0q10x6, c0q10x7, c0q10x8, ()), ()))) false sv.1 sv.2.1 sv.2.2.2.1 sv.2.2.2.2.1 sv.2.2.2.2.2.1 sv.2.2.2.2.2.2.1 sv.2.2.2.2.2.2.2.1 sv.2.2.2.2.2.2.2.2.1 sv.2.2.2.2.2.2.2.2.2.1 sv.2.2.1.1 sv.2.2.1.2.1 sv.2.2.1.2.2.1 sv.2.2.1.2.2.2.1 mv o (((0 : Int), (0 : Int), (0 : Int), ()), (0 : Int), (((0 : Int), (0 : Int), (0 : Int), ()), false, (0 : Int), (0 : Int), ()), false, (0 : Int), (0 : Int), (0 : Int), (0 : Int), false, (0 : Int), ()))) (
                      law24Do.j25 fu (fun vq11 b0q11 c0q11 c0q11x2 c0q11x3 c0q11x4 c0q11x5 c0q11x6 c0q11x7 c0q11x8 b1q11 c1q11 c1q11x2 c1q11x3 b4q11 => 
                          some ((vq11, b4q11, ()), ((b0q11, c0q11, (b1q11, c1q11, c1q11x2, c1q11x3, ()), c0q11x2, c0q11x3, c0q11x4, c0q11x5, c0q11x6, c0q11x7, c0q11x8, ()), ()))) false sv.1 sv.2.1 sv.2.2.2.1 sv.2.2.2.2.1 sv.2.2.2.2.2.1 sv.2.2.2.2.2.2.1 sv.2.2.2.2.2.2.2.1 sv.2.2.2.2.2.2.2.2.1 sv.2.2.2.2.2.2.2.2.2.1 sv.2.2.1.1 sv.2.2.1.2.1 sv.2.2.1.2.2.1 sv.2.2.1.2.2.2.1 mv o (((0 : Int), (0 : Int), (0 : Int), ()), (0 : Int), (((0 : Int), (0 : Int), (0 : Int), ()), false, (0 : Int), (0 : Int), ()), false, (0 : Int), (0 : Int), (0 : Int), (0 : Int), false, (0 : Int), ()))) (
                    law24Do.j25 fu (fun vq12 b0q12 c0q12 c0q12x2 c0q12x3 c0q12x4 c0q12x5 c0q12x6 c0q12x7 c0q12x8 b1q12 c1q12 c1q12x2 c1q12x3 b4q12 => 
                        some ((vq12, b4q12, ()), ((b0q12, c0q12, (b1q12, c1q12, c1q12x2, c1q12x3, ()), c0q12x2, c0q12x3, c0q12x4, c0q12x5, c0q12x6, c0q12x7, c0q12x8, ()), ()))) false sv.1 sv.2.1 sv.2.2.2.1 sv.2.2.2.2.1 sv.2.2.2.2.2.1 sv.2.2.2.2.2.2.1 sv.2.2.2.2.2.2.2.1 sv.2.2.2.2.2.2.2.2.1 sv.2.2.2.2.2.2.2.2.2.1 sv.2.2.1.1 sv.2.2.1.2.1 sv.2.2.1.2.2.1 sv.2.2.1.2.2.2.1 mv o (((0 : Int), (0 : Int), (0 : Int), ()), (0 : Int), (((0 : Int), (0 : Int), (0 : Int), ()), false, (0 : Int), (0 : Int), ()), false, (0 : Int), (0 : Int), (0 : Int), (0 : Int), false, (0 : Int), ()))) (
                  law24Do.j25 fu (fun vq13 b0q13 c0q13 c0q13x2 c0q13x3 c0q13x4 c0q13x5 c0q13x6 c0q13x7 c0q13x8 b1q13 c1q13 c1q13x2 c1q13x3 b4q13 => 
                      some ((vq13, b4q13, ()), ((b0q13, c0q13, (b1q13, c1q13, c1q13x2, c1q13x3, ()), c0q13x2, c0q13x3, c0q13x4, c0q13x5, c0q13x6, c0q13x7, c0q13x8, ()), ()))) false sv.1 sv.2.1 sv.2.2.2.1 sv.2.2.2.2.1 sv.2.2.2.2.2.1 sv.2.2.2.2.2.2.1 sv.2.2.2.2.2.2.2.1 sv.2.2.2.2.2.2.2.2.1 sv.2.2.2.2.2.2.2.2.2.1 sv.2.2.1.1 sv.2.2.1.2.1 sv.2.2.1.2.2.1 sv.2.2.1.2.2.2.1 mv o (((0 : Int), (0 : Int), (0 : Int), ()), (0 : Int), (((0 : Int), (0 : Int), (0 : Int), ()), false, (0 : Int), (0 : Int), ()), false, (0 : Int), (0 : Int), (0 : Int), (0 : Int), false, (0 : Int), ())))))))))

noncomputable def law24Do.body : Code := Try.f42.body.getD .skip
abbrev law24Do.shj64012 : Shp := ⟨[.u, .u, .u, .u, .p 2 0, .p 3 0, .u, .p 4 0, .u, .u, .u, .u, .u, .u, .u, .u, .u, .u, .u, .u, .u, .u, .u, .u, .u, .u, .u, .u, .u, .u, .u, .u, .u, .u, .u, .u, .u, .u, .u, .u, .u, .u, .u, .u, .u, .u, .u, .u, .u, .u, .u, .u, .u, .u, .u, .u, .u, .u, .u, .u, .u, .u, .u, .d .bool, .u, .u, .u, .u, .u, .u, .u, .u, .u, .u, .u, .u, .u, .u, .u, .u, .u, .u, .u, .u, .u, .u, .u, .u, .u, .u, .u, .u, .u, .u, .u, .u, .u, .u, .u, .u, .u, .u, .u, .u, .u, .u, .u, .u, .u, .u, .u, .u, .u, .u, .u, .u, .u, .u, .u, .u, .u, .u, .u, .u, .u, .u, .u, .u, .u, .u, .u, .u, .u, .u, .u, .u, .u, .u, .u, .u, .u, .u, .u, .u, .u, .u, .u, .u, .u, .u, .u, .u, .u, .u, .u, .u, .u, .u, .u, .u, .u, .u, .u, .u, .u, .u, .u, .u, .u, .u, .u, .u, .u, .u, .u, .u, .u, .u, .u, .u, .u, .u, .u, .u, .u, .u, .u, .u, .u, .u, .u, .u, .u, .u, .u, .u, .u, .u, .u, .u, .u, .u, .u, .u, .u, .u, .u, .u, .u, .u, .u, .u, .u, .u], [[.g kS0, .d (.int .u64), .p 1 0, .d .bool, .d (.int .u32), .d (.int .u64), .d (.int .u64), .d (.int .u64), .d .bool, .d (.int .u64)], [.g kS0, .d .bool, .d (.int .u32), .d (.int .u64)], [.g kS6], [.g kS4], [.g kS6]]⟩
abbrev law24Do.outj64012e0 : Shp := ⟨[.u, .u, .u, .u, .p 2 0, .u, .u, .p 4 0, .u, .u, .u, .u, .u, .u, .u, .u, .u, .u, .u, .u, .u, .u, .u, .u, .u, .u, .u, .u, .u, .u, .u, .u, .u, .u, .u, .u, .u, .u, .u, .u, .u, .u, .u, .u, .u, .u, .u, .u, .u, .u, .u, .u, .u, .u, .u, .u, .u, .u, .u, .u, .u, .u, .u, .u, .u, .u, .u, .u, .u, .u, .u, .u, .u, .u, .u, .u, .u, .u, .u, .u, .u, .u, .u, .u, .u, .u, .u, .u, .u, .u, .u, .u, .u, .u, .u, .u, .u, .u, .u, .u, .u, .u, .u, .u, .u, .u, .u, .u, .u, .u, .u, .u, .u, .u, .u, .u, .u, .u, .u, .u, .u, .u, .u, .u, .u, .u, .u, .u, .u, .u, .u, .u, .u, .u, .u, .u, .u, .u, .u, .u, .u, .u, .u, .u, .u, .u, .u, .u, .u, .u, .u, .u, .u, .u, .u, .u, .u, .u, .u, .u, .u, .u, .u, .u, .u, .u, .u, .u, .u, .u, .u, .u, .u, .u, .u, .u, .u, .u, .u, .u, .u, .u, .u, .u, .u, .u, .u, .u, .u, .u, .u, .u, .u, .u, .u, .u, .u, .u, .u, .u, .u, .u, .u, .u, .u, .u, .u, .u, .u, .u, .u, .u, .u, .u], [[.g kS0, .d (.int .u64), .p 1 0, .d .bool, .d (.int .u32), .d (.int .u64), .d (.int .u64), .d (.int .u64), .d .bool, .d (.int .u64)], [.g kS0, .d .bool, .d (.int .u32), .d (.int .u64)], [.g kS6], [.u, .u, .u, .u, .u], [.g kS6]]⟩
noncomputable def law24Do.nmj64012 : Norm := ⟨{ keep := [4, 5, 7, 63], shut := [(63, .bool)], retag := [], heap := 5, dead := [], cshut := [(0, 0, (.int .u32)), (0, 1, (.int .u32)), (0, 2, (.int .u32)), (0, 3, (.int .u64)), (0, 5, .bool), (0, 6, (.int .u32)), (0, 7, (.int .u64)), (0, 8, (.int .u64)), (0, 9, (.int .u64)), (0, 10, .bool), (0, 11, (.int .u64)), (1, 0, (.int .u32)), (1, 1, (.int .u32)), (1, 2, (.int .u32)), (1, 3, .bool), (1, 4, (.int .u32)), (1, 5, (.int .u64)), (2, 0, (.int .u32)), (2, 1, (.int .u32)), (2, 2, (.int .u32)), (2, 3, (.int .u64)), (2, 4, (.int .u32)), (2, 5, (.int .u32)), (2, 6, (.int .u32)), (2, 7, .bool), (2, 8, (.int .u32)), (2, 9, (.int .u64)), (2, 10, .bool), (2, 11, (.int .u32)), (2, 12, (.int .u64)), (2, 13, (.int .u64)), (2, 14, (.int .u64)), (2, 15, .bool), (2, 16, (.int .u64)), (3, 0, (.int .i64)), (3, 1, (.int .u32)), (3, 2, (.int .u64)), (3, 3, (.int .u64)), (3, 4, (.int .u64)), (4, 0, (.int .u32)), (4, 1, (.int .u32)), (4, 2, (.int .u32)), (4, 3, (.int .u64)), (4, 4, (.int .u32)), (4, 5, (.int .u32)), (4, 6, (.int .u32)), (4, 7, .bool), (4, 8, (.int .u32)), (4, 9, (.int .u64)), (4, 10, .bool), (4, 11, (.int .u32)), (4, 12, (.int .u64)), (4, 13, (.int .u64)), (4, 14, (.int .u64)), (4, 15, .bool), (4, 16, (.int .u64))], cretag := [] }, [(0, { keep := [4, 7], shut := [], retag := [], heap := 5, dead := [3], cshut := [(0, 0, (.int .u32)), (0, 1, (.int .u32)), (0, 2, (.int .u32)), (0, 3, (.int .u64)), (0, 5, .bool), (0, 6, (.int .u32)), (0, 7, (.int .u64)), (0, 8, (.int .u64)), (0, 9, (.int .u64)), (0, 10, .bool), (0, 11, (.int .u64)), (1, 0, (.int .u32)), (1, 1, (.int .u32)), (1, 2, (.int .u32)), (1, 3, .bool), (1, 4, (.int .u32)), (1, 5, (.int .u64)), (2, 0, (.int .u32)), (2, 1, (.int .u32)), (2, 2, (.int .u32)), (2, 3, (.int .u64)), (2, 4, (.int .u32)), (2, 5, (.int .u32)), (2, 6, (.int .u32)), (2, 7, .bool), (2, 8, (.int .u32)), (2, 9, (.int .u64)), (2, 10, .bool), (2, 11, (.int .u32)), (2, 12, (.int .u64)), (2, 13, (.int .u64)), (2, 14, (.int .u64)), (2, 15, .bool), (2, 16, (.int .u64)), (4, 0, (.int .u32)), (4, 1, (.int .u32)), (4, 2, (.int .u32)), (4, 3, (.int .u64)), (4, 4, (.int .u32)), (4, 5, (.int .u32)), (4, 6, (.int .u32)), (4, 7, .bool), (4, 8, (.int .u32)), (4, 9, (.int .u64)), (4, 10, .bool), (4, 11, (.int .u32)), (4, 12, (.int .u64)), (4, 13, (.int .u64)), (4, 14, (.int .u64)), (4, 15, .bool), (4, 16, (.int .u64))], cretag := [] })]⟩
abbrev law24Do.shj25 : Shp := ⟨[.p 0 0, .u, .u, .u, .p 2 0, .p 3 0, .u, .p 4 0, .u, .u, .u, .u, .u, .u, .d .bool, .u, .u, .u, .u, .u, .u, .u, .u, .u, .u, .u, .u, .u, .u, .u, .u, .u, .u, .u, .u, .u, .u, .u, .u, .u, .u, .u, .u, .u, .u, .u, .u, .u, .u, .u, .u, .u, .u, .u, .u, .u, .u, .u, .u, .u, .u, .u, .u, .u, .u, .u, .u, .u, .u, .u, .u, .u, .u, .u, .u, .u, .u, .u, .u, .u, .u, .u, .u, .u, .u, .u, .u, .u, .u, .u, .u, .u, .u, .u, .u, .u, .u, .u, .u, .u, .u, .u, .u, .u, .u, .u, .u, .u, .u, .u, .u, .u, .u, .u, .u, .u, .u, .u, .u, .u, .u, .u, .u, .u, .u, .u, .u, .u, .u, .u, .u, .u, .u, .u, .u, .u, .u, .u, .u, .u, .u, .u, .u, .u, .u, .u, .u, .u, .u, .u, .u, .u, .u, .u, .u, .u, .u, .u, .u, .u, .u, .u, .u, .u, .u, .u, .u, .u, .u, .u, .u, .u, .u, .u, .u, .u, .u, .u, .u, .u, .u, .u, .u, .u, .u, .u, .u, .u, .u, .u, .u, .u, .u, .u, .u, .u, .u, .u, .u, .u, .u, .u, .u, .u, .u, .u, .u, .u, .u, .u, .u, .u, .u, .u], [[.g kS0, .d (.int .u64), .p 1 0, .d .bool, .d (.int .u32), .d (.int .u64), .d (.int .u64), .d (.int .u64), .d .bool, .d (.int .u64)], [.g kS0, .d .bool, .d (.int .u32), .d (.int .u64)], [.g kS6], [.g kS4], [.g kS6]]⟩
abbrev law24Do.outj25e1 : Shp := ⟨[.u, .u, .u, .u, .u, .u, .d .bool, .p 4 0, .u, .u, .u, .u, .u, .u, .u, .u, .u, .u, .u, .u, .u, .u, .u, .u, .u, .u, .u, .u, .u, .u, .u, .u, .u, .u, .u, .u, .u, .u, .u, .u, .u, .u, .u, .u, .u, .u, .u, .u, .u, .u, .u, .u, .u, .u, .u, .u, .u, .u, .u, .u, .u, .u, .u, .u, .u, .u, .u, .u, .u, .u, .u, .u, .u, .u, .u, .u, .u, .u, .u, .u, .u, .u, .u, .u, .u, .u, .u, .u, .u, .u, .u, .u, .u, .u, .u, .u, .u, .u, .u, .u, .u, .u, .u, .u, .u, .u, .u, .u, .u, .u, .u, .u, .u, .u, .u, .u, .u, .u, .u, .u, .u, .u, .u, .u, .u, .u, .u, .u, .u, .u, .u, .u, .u, .u, .u, .u, .u, .u, .u, .u, .u, .u, .u, .u, .u, .u, .u, .u, .u, .u, .u, .u, .u, .u, .u, .u, .u, .u, .u, .u, .u, .u, .u, .u, .u, .u, .u, .u, .u, .u, .u, .u, .u, .u, .u, .u, .u, .u, .u, .u, .u, .u, .u, .u, .u, .u, .u, .u, .u, .u, .u, .u, .u, .u, .u, .u, .u, .u, .u, .u, .u, .u, .u, .u, .u, .u, .u, .u, .u, .u, .u, .u, .u, .u], [[.g kS0, .d (.int .u64), .p 1 0, .d .bool, .d (.int .u32), .d (.int .u64), .d (.int .u64), .d (.int .u64), .d .bool, .d (.int .u64)], [.g kS0, .d .bool, .d (.int .u32), .d (.int .u64)], [.u, .u, .u, .u, .u, .u, .u, .u, .u, .u, .u, .u, .u, .u, .u, .u, .u], [.u, .u, .u, .u, .u], [.g kS6]]⟩
noncomputable def law24Do.nmj25 : Norm := ⟨{ keep := [0, 4, 5, 7, 14], shut := [(14, .bool)], retag := [], heap := 5, dead := [], cshut := [(0, 0, (.int .u32)), (0, 1, (.int .u32)), (0, 2, (.int .u32)), (0, 3, (.int .u64)), (0, 5, .bool), (0, 6, (.int .u32)), (0, 7, (.int .u64)), (0, 8, (.int .u64)), (0, 9, (.int .u64)), (0, 10, .bool), (0, 11, (.int .u64)), (1, 0, (.int .u32)), (1, 1, (.int .u32)), (1, 2, (.int .u32)), (1, 3, .bool), (1, 4, (.int .u32)), (1, 5, (.int .u64)), (2, 0, (.int .u32)), (2, 1, (.int .u32)), (2, 2, (.int .u32)), (2, 3, (.int .u64)), (2, 4, (.int .u32)), (2, 5, (.int .u32)), (2, 6, (.int .u32)), (2, 7, .bool), (2, 8, (.int .u32)), (2, 9, (.int .u64)), (2, 10, .bool), (2, 11, (.int .u32)), (2, 12, (.int .u64)), (2, 13, (.int .u64)), (2, 14, (.int .u64)), (2, 15, .bool), (2, 16, (.int .u64)), (3, 0, (.int .i64)), (3, 1, (.int .u32)), (3, 2, (.int .u64)), (3, 3, (.int .u64)), (3, 4, (.int .u64)), (4, 0, (.int .u32)), (4, 1, (.int .u32)), (4, 2, (.int .u32)), (4, 3, (.int .u64)), (4, 4, (.int .u32)), (4, 5, (.int .u32)), (4, 6, (.int .u32)), (4, 7, .bool), (4, 8, (.int .u32)), (4, 9, (.int .u64)), (4, 10, .bool), (4, 11, (.int .u32)), (4, 12, (.int .u64)), (4, 13, (.int .u64)), (4, 14, (.int .u64)), (4, 15, .bool), (4, 16, (.int .u64))], cretag := [] }, [(1, { keep := [6, 7], shut := [(6, .bool)], retag := [], heap := 5, dead := [2, 3], cshut := [(0, 0, (.int .u32)), (0, 1, (.int .u32)), (0, 2, (.int .u32)), (0, 3, (.int .u64)), (0, 5, .bool), (0, 6, (.int .u32)), (0, 7, (.int .u64)), (0, 8, (.int .u64)), (0, 9, (.int .u64)), (0, 10, .bool), (0, 11, (.int .u64)), (1, 0, (.int .u32)), (1, 1, (.int .u32)), (1, 2, (.int .u32)), (1, 3, .bool), (1, 4, (.int .u32)), (1, 5, (.int .u64)), (4, 0, (.int .u32)), (4, 1, (.int .u32)), (4, 2, (.int .u32)), (4, 3, (.int .u64)), (4, 4, (.int .u32)), (4, 5, (.int .u32)), (4, 6, (.int .u32)), (4, 7, .bool), (4, 8, (.int .u32)), (4, 9, (.int .u64)), (4, 10, .bool), (4, 11, (.int .u32)), (4, 12, (.int .u64)), (4, 13, (.int .u64)), (4, 14, (.int .u64)), (4, 15, .bool), (4, 16, (.int .u64))], cretag := [] })]⟩
noncomputable def law24Do.con : OCon := { ps := [.obj kO2, .dat kS6, .dat kS4], rs := [.dat .bool, .dat kS6], f := fun n x => law24Do n x.1 x.2.1 x.2.2.1 }
noncomputable def law24Do.env : Env := { tys := [(63, ⟨kS6, 104⟩), (67, ⟨kS4, 40⟩), (4, ⟨.bool, 1⟩), (3, ⟨(.int .i64), 8⟩), (22, ⟨(.int .u32), 4⟩), (27, ⟨(.int .u64), 8⟩)], elems := [], ptrs := [], cons := [(58, ref24SessionOpen.con), (59, ref24SessionMove.con), (43, ref24SessionSend.con), (57, ref20SameAll.con)], objs := [(34, [serveSessionOpen.con]), (35, [serveSessionSend.con]), (38, [serveSessionAcks.con]), (39, [serveSessionMove.con]), (46, [serveSessionShut.con]), (47, [serveSessionGrow.con]), (48, [serveSessionDrops.con]), (49, [serveSessionNack.con])], loops := [], cuts := [(64012, law24Do.nmj64012), (25, law24Do.nmj25)], globs := globs, base := 2 }
noncomputable def law24Do.lp (n : Nat) : LP (RT law24Do.con.rs × BT law24Do.con.ps) := fun lo κ body nm K s =>
  cond (!lo && Nat.beq κ 64012)
    (match law24Do.shj64012.dec s with
    | some v => law24Do.j64012 n (fun w0 w1 w2 w3 w4 w5 w6 w7 w8 w9 w10 w11 w12 w13 w14 => K .normal (law24Do.outj64012e0.enc (w0, w1, w2, w3, w4, w5, w6, w7, w8, w9, w10, w11, w12, w13, w14, ()))) v.1 v.2.1 v.2.2.1 v.2.2.2.1 v.2.2.2.2.1 v.2.2.2.2.2.1 v.2.2.2.2.2.2.1 v.2.2.2.2.2.2.2.1 v.2.2.2.2.2.2.2.2.1 v.2.2.2.2.2.2.2.2.2.1 v.2.2.2.2.2.2.2.2.2.2.1 v.2.2.2.2.2.2.2.2.2.2.2.1 v.2.2.2.2.2.2.2.2.2.2.2.2.1 v.2.2.2.2.2.2.2.2.2.2.2.2.2.1 v.2.2.2.2.2.2.2.2.2.2.2.2.2.2.1 v.2.2.2.2.2.2.2.2.2.2.2.2.2.2.2.1 v.2.2.2.2.2.2.2.2.2.2.2.2.2.2.2.2.1
    | none => loops n (RT law24Do.con.rs × BT law24Do.con.ps) lo κ body nm K s)
    (cond (!lo && Nat.beq κ 25)
    (match law24Do.shj25.dec s with
    | some v => law24Do.j25 n (fun w0 w1 w2 w3 w4 w5 w6 w7 w8 w9 w10 w11 w12 w13 w14 => K .ret (law24Do.outj25e1.enc (w0, w1, w2, w3, w4, w5, w6, w7, w8, w9, w10, w11, w12, w13, w14, ()))) v.1 v.2.1 v.2.2.1 v.2.2.2.1 v.2.2.2.2.1 v.2.2.2.2.2.1 v.2.2.2.2.2.2.1 v.2.2.2.2.2.2.2.1 v.2.2.2.2.2.2.2.2.1 v.2.2.2.2.2.2.2.2.2.1 v.2.2.2.2.2.2.2.2.2.2.1 v.2.2.2.2.2.2.2.2.2.2.2.1 v.2.2.2.2.2.2.2.2.2.2.2.2.1 v.2.2.2.2.2.2.2.2.2.2.2.2.2.1 v.2.2.2.2.2.2.2.2.2.2.2.2.2.2.1 v.2.2.2.2.2.2.2.2.2.2.2.2.2.2.2.1 v.2.2.2.2.2.2.2.2.2.2.2.2.2.2.2.2.1
    | none => loops n (RT law24Do.con.rs × BT law24Do.con.ps) lo κ body nm K s)
    (loops n (RT law24Do.con.rs × BT law24Do.con.ps) lo κ body nm K s))
theorem law24Do.atj64012 (n : Nat) (s : St) (K : Ex → St → Option (RT law24Do.con.rs × BT law24Do.con.ps)) : law24Do.lp n false 64012 (evK law24Do.env (law24Do.lp n) n (sub [1, 0, 1, 0, 1, 1, 1, 1, 1, 0, 1, 0, 1] law24Do.body)) law24Do.nmj64012 K s = loops n (RT law24Do.con.rs × BT law24Do.con.ps) false 64012 (evK law24Do.env (law24Do.lp n) n (sub [1, 0, 1, 0, 1, 1, 1, 1, 1, 0, 1, 0, 1] law24Do.body)) law24Do.nmj64012 K s := by
  show (match law24Do.shj64012.dec s with | some v => law24Do.j64012 n (fun w0 w1 w2 w3 w4 w5 w6 w7 w8 w9 w10 w11 w12 w13 w14 => K .normal (law24Do.outj64012e0.enc (w0, w1, w2, w3, w4, w5, w6, w7, w8, w9, w10, w11, w12, w13, w14, ()))) v.1 v.2.1 v.2.2.1 v.2.2.2.1 v.2.2.2.2.1 v.2.2.2.2.2.1 v.2.2.2.2.2.2.1 v.2.2.2.2.2.2.2.1 v.2.2.2.2.2.2.2.2.1 v.2.2.2.2.2.2.2.2.2.1 v.2.2.2.2.2.2.2.2.2.2.1 v.2.2.2.2.2.2.2.2.2.2.2.1 v.2.2.2.2.2.2.2.2.2.2.2.2.1 v.2.2.2.2.2.2.2.2.2.2.2.2.2.1 v.2.2.2.2.2.2.2.2.2.2.2.2.2.2.1 v.2.2.2.2.2.2.2.2.2.2.2.2.2.2.2.1 v.2.2.2.2.2.2.2.2.2.2.2.2.2.2.2.2.1 | none => loops n (RT law24Do.con.rs × BT law24Do.con.ps) false 64012 (evK law24Do.env (law24Do.lp n) n (sub [1, 0, 1, 0, 1, 1, 1, 1, 1, 0, 1, 0, 1] law24Do.body)) law24Do.nmj64012 K s) = _
  cases h : law24Do.shj64012.dec s with
  | none => rfl
  | some v =>
    rw [Shp.dec_enc h]
    kernel_rfl
theorem law24Do.atj25 (n : Nat) (s : St) (K : Ex → St → Option (RT law24Do.con.rs × BT law24Do.con.ps)) : law24Do.lp n false 25 (evK law24Do.env (law24Do.lp n) n (sub [1, 1, 1] law24Do.body)) law24Do.nmj25 K s = loops n (RT law24Do.con.rs × BT law24Do.con.ps) false 25 (evK law24Do.env (law24Do.lp n) n (sub [1, 1, 1] law24Do.body)) law24Do.nmj25 K s := by
  show (match law24Do.shj25.dec s with | some v => law24Do.j25 n (fun w0 w1 w2 w3 w4 w5 w6 w7 w8 w9 w10 w11 w12 w13 w14 => K .ret (law24Do.outj25e1.enc (w0, w1, w2, w3, w4, w5, w6, w7, w8, w9, w10, w11, w12, w13, w14, ()))) v.1 v.2.1 v.2.2.1 v.2.2.2.1 v.2.2.2.2.1 v.2.2.2.2.2.1 v.2.2.2.2.2.2.1 v.2.2.2.2.2.2.2.1 v.2.2.2.2.2.2.2.2.1 v.2.2.2.2.2.2.2.2.2.1 v.2.2.2.2.2.2.2.2.2.2.1 v.2.2.2.2.2.2.2.2.2.2.2.1 v.2.2.2.2.2.2.2.2.2.2.2.2.1 v.2.2.2.2.2.2.2.2.2.2.2.2.2.1 v.2.2.2.2.2.2.2.2.2.2.2.2.2.2.1 v.2.2.2.2.2.2.2.2.2.2.2.2.2.2.2.1 v.2.2.2.2.2.2.2.2.2.2.2.2.2.2.2.2.1 | none => loops n (RT law24Do.con.rs × BT law24Do.con.ps) false 25 (evK law24Do.env (law24Do.lp n) n (sub [1, 1, 1] law24Do.body)) law24Do.nmj25 K s) = _
  cases h : law24Do.shj25.dec s with
  | none => rfl
  | some v =>
    rw [Shp.dec_enc h]
    kernel_rfl
theorem law24Do.eq (n : Nat) (x : PT law24Do.con.ps) : evFuncO law24Do.env Try.f42 law24Do.body law24Do.con.ps law24Do.con.rs (law24Do.lp n) n x = law24Do.con.f n x := by kernel_rfl
theorem law24Do.sound : SoundO Try.prog globs 42 law24Do.con :=
  sound_byO (E := law24Do.env) (c := law24Do.body) (envOk (G := globs) (lc := [(58, ref24SessionOpen.con), (59, ref24SessionMove.con), (43, ref24SessionSend.con), (57, ref20SameAll.con)]) (lo := [(34, [serveSessionOpen.con]), (35, [serveSessionSend.con]), (38, [serveSessionAcks.con]), (39, [serveSessionMove.con]), (46, [serveSessionShut.con]), (47, [serveSessionGrow.con]), (48, [serveSessionDrops.con]), (49, [serveSessionNack.con])]) (envB_spec (by kernel_rfl)) rfl rfl ⟨.inl ⟨ref24SessionOpen.sound, by kernel_rfl⟩, ⟨.inl ⟨ref24SessionMove.sound, by kernel_rfl⟩, ⟨.inl ⟨ref24SessionSend.sound, by kernel_rfl⟩, ⟨.inl ⟨ref20SameAll.sound, by kernel_rfl⟩, trivial⟩⟩⟩⟩ rfl ⟨⟨⟨serveSessionOpen.sound, trivial⟩, by kernel_rfl⟩, ⟨⟨⟨serveSessionSend.sound, trivial⟩, by kernel_rfl⟩, ⟨⟨⟨serveSessionAcks.sound, trivial⟩, by kernel_rfl⟩, ⟨⟨⟨serveSessionMove.sound, trivial⟩, by kernel_rfl⟩, ⟨⟨⟨serveSessionShut.sound, trivial⟩, by kernel_rfl⟩, ⟨⟨⟨serveSessionGrow.sound, trivial⟩, by kernel_rfl⟩, ⟨⟨⟨serveSessionDrops.sound, trivial⟩, by kernel_rfl⟩, ⟨⟨⟨serveSessionNack.sound, trivial⟩, by kernel_rfl⟩, trivial⟩⟩⟩⟩⟩⟩⟩⟩ (by kernel_rfl) (by kernel_rfl)) Try.func42 (by kernel_rfl) (by kernel_rfl) (by kernel_rfl) law24Do.lp (l := [(false, sub [1, 0, 1, 0, 1, 1, 1, 1, 1, 0, 1, 0, 1] law24Do.body, law24Do.nmj64012), (false, sub [1, 1, 1] law24Do.body, law24Do.nmj25)]) (by kernel_rfl) (fun n => ⟨law24Do.atj64012 n, ⟨law24Do.atj25 n, trivial⟩⟩) law24Do.eq
noncomputable def serveSessionEpoch (fu : Nat) (sv : O2) : Option ((Int × Unit) × (O2 × Unit)) :=
  some ((sv.2.2.2.2.1, ()), (sv, ()))

noncomputable def serveSessionEpoch.body : Code := Try.f45.body.getD .skip
noncomputable def serveSessionEpoch.con : OCon := { ps := [.obj kO2], rs := [.dat (.int .u32)], f := fun n x => serveSessionEpoch n x.1 }
noncomputable def serveSessionEpoch.env : Env := { tys := [(22, ⟨(.int .u32), 4⟩), (92, ⟨kS7, 80⟩)], elems := [], ptrs := [(47, 92)], cons := [], objs := [], loops := [], cuts := [], globs := globs, base := 2 }
noncomputable def serveSessionEpoch.lp (n : Nat) : LP (RT serveSessionEpoch.con.rs × BT serveSessionEpoch.con.ps) := fun lo κ body nm K s =>
  loops n (RT serveSessionEpoch.con.rs × BT serveSessionEpoch.con.ps) lo κ body nm K s
theorem serveSessionEpoch.eq (n : Nat) (x : PT serveSessionEpoch.con.ps) : evFuncO serveSessionEpoch.env Try.f45 serveSessionEpoch.body serveSessionEpoch.con.ps serveSessionEpoch.con.rs (serveSessionEpoch.lp n) n x = serveSessionEpoch.con.f n x := by kernel_rfl
theorem serveSessionEpoch.sound : SoundO Try.prog globs 45 serveSessionEpoch.con :=
  sound_byO (E := serveSessionEpoch.env) (c := serveSessionEpoch.body) (envOk (G := globs) (lc := []) (lo := []) (envB_spec (by kernel_rfl)) rfl rfl trivial rfl trivial (by kernel_rfl) (by kernel_rfl)) Try.func45 (by kernel_rfl) (by kernel_rfl) (by kernel_rfl) serveSessionEpoch.lp (l := []) (by kernel_rfl) (fun n => trivial) serveSessionEpoch.eq
noncomputable def serveSessionCursor (fu : Nat) (sv : O2) : Option ((Int × Unit) × (O2 × Unit)) :=
  (serveSessionIsOpen fu sv).bind fun r1 =>
  cond (!r1.1.1) (
    some (((0 : Int), ()), (r1.2.1, ()))) (
    some ((r1.2.1.2.2.2.2.2.1, ()), (r1.2.1, ())))

noncomputable def serveSessionCursor.body : Code := Try.f37.body.getD .skip
noncomputable def serveSessionCursor.con : OCon := { ps := [.obj kO2], rs := [.dat (.int .u64)], f := fun n x => serveSessionCursor n x.1 }
noncomputable def serveSessionCursor.env : Env := { tys := [(27, ⟨(.int .u64), 8⟩), (92, ⟨kS7, 80⟩)], elems := [], ptrs := [], cons := [], objs := [(44, [serveSessionIsOpen.con])], loops := [], cuts := [], globs := globs, base := 2 }
noncomputable def serveSessionCursor.lp (n : Nat) : LP (RT serveSessionCursor.con.rs × BT serveSessionCursor.con.ps) := fun lo κ body nm K s =>
  loops n (RT serveSessionCursor.con.rs × BT serveSessionCursor.con.ps) lo κ body nm K s
theorem serveSessionCursor.eq (n : Nat) (x : PT serveSessionCursor.con.ps) : evFuncO serveSessionCursor.env Try.f37 serveSessionCursor.body serveSessionCursor.con.ps serveSessionCursor.con.rs (serveSessionCursor.lp n) n x = serveSessionCursor.con.f n x := by kernel_rfl
theorem serveSessionCursor.sound : SoundO Try.prog globs 37 serveSessionCursor.con :=
  sound_byO (E := serveSessionCursor.env) (c := serveSessionCursor.body) (envOk (G := globs) (lc := []) (lo := [(44, [serveSessionIsOpen.con])]) (envB_spec (by kernel_rfl)) rfl rfl trivial rfl ⟨⟨⟨serveSessionIsOpen.sound, trivial⟩, by kernel_rfl⟩, trivial⟩ (by kernel_rfl) (by kernel_rfl)) Try.func37 (by kernel_rfl) (by kernel_rfl) (by kernel_rfl) serveSessionCursor.lp (l := []) (by kernel_rfl) (fun n => trivial) serveSessionCursor.eq
noncomputable def serveSessionDropping (fu : Nat) (sv : O2) : Option ((Bool × Unit) × (O2 × Unit)) :=
  (serveSessionIsOpen fu sv).bind fun r1 =>
  cond r1.1.1 (
    some ((r1.2.1.2.2.2.2.2.2.2.2.1, ()), (r1.2.1, ()))) (
    some ((false, ()), (r1.2.1, ())))

noncomputable def serveSessionDropping.body : Code := Try.f36.body.getD .skip
noncomputable def serveSessionDropping.con : OCon := { ps := [.obj kO2], rs := [.dat .bool], f := fun n x => serveSessionDropping n x.1 }
noncomputable def serveSessionDropping.env : Env := { tys := [(4, ⟨.bool, 1⟩), (92, ⟨kS7, 80⟩)], elems := [], ptrs := [], cons := [], objs := [(44, [serveSessionIsOpen.con])], loops := [], cuts := [], globs := globs, base := 2 }
noncomputable def serveSessionDropping.lp (n : Nat) : LP (RT serveSessionDropping.con.rs × BT serveSessionDropping.con.ps) := fun lo κ body nm K s =>
  loops n (RT serveSessionDropping.con.rs × BT serveSessionDropping.con.ps) lo κ body nm K s
theorem serveSessionDropping.eq (n : Nat) (x : PT serveSessionDropping.con.ps) : evFuncO serveSessionDropping.env Try.f36 serveSessionDropping.body serveSessionDropping.con.ps serveSessionDropping.con.rs (serveSessionDropping.lp n) n x = serveSessionDropping.con.f n x := by kernel_rfl
theorem serveSessionDropping.sound : SoundO Try.prog globs 36 serveSessionDropping.con :=
  sound_byO (E := serveSessionDropping.env) (c := serveSessionDropping.body) (envOk (G := globs) (lc := []) (lo := [(44, [serveSessionIsOpen.con])]) (envB_spec (by kernel_rfl)) rfl rfl trivial rfl ⟨⟨⟨serveSessionIsOpen.sound, trivial⟩, by kernel_rfl⟩, trivial⟩ (by kernel_rfl) (by kernel_rfl)) Try.func36 (by kernel_rfl) (by kernel_rfl) (by kernel_rfl) serveSessionDropping.lp (l := []) (by kernel_rfl) (fun n => trivial) serveSessionDropping.eq
noncomputable def law24ServePlays.j17 (fu : Nat) (k0 : (List S4) → Int → Int → S0 → Int → Bool → Int → Int → Int → Int → Bool → Int → S0 → Bool → Int → Int → S6 → Option (Bool × Unit)) (k1 : Bool → Option (Bool × Unit)) (cursor : Int) (drops : Bool) (v : List S4) (vx2 : Int) (vx3 : Int) (b1 : S0) (c1 : Int) (c1x2 : Bool) (c1x3 : Int) (c1x4 : Int) (c1x5 : Int) (c1x6 : Int) (c1x7 : Bool) (c1x8 : Int) (b2 : S0) (c2 : Bool) (c2x2 : Int) (c2x3 : Int) (b3 : S6) : Option (Bool × Unit) :=
  (serveSessionIsOpen fu (b1, c1, (b2, c2, c2x2, c2x3, ()), c1x2, c1x3, c1x4, c1x5, c1x6, c1x7, c1x8, ())).bind fun r1 =>
  cond (!(r1.1.1 == b3.2.2.2.1)) (
    k1 false) (
    (serveSessionEpoch fu r1.2.1).bind fun r2 =>
    cond (r2.1.1 != b3.2.2.2.2.1) (
      k1 false) (
      (serveSessionCursor fu r2.2.1).bind fun r3 =>
      cond (r3.1.1 != cursor) (
        k1 false) (
        (serveSessionDropping fu r3.2.1).bind fun r4 =>
        cond (!(r4.1.1 == drops)) (
          k1 false) (
          k0 v vx2 vx3 r4.2.1.1 r4.2.1.2.1 r4.2.1.2.2.2.1 r4.2.1.2.2.2.2.1 r4.2.1.2.2.2.2.2.1 r4.2.1.2.2.2.2.2.2.1 r4.2.1.2.2.2.2.2.2.2.1 r4.2.1.2.2.2.2.2.2.2.2.1 r4.2.1.2.2.2.2.2.2.2.2.2.1 r4.2.1.2.2.1.1 r4.2.1.2.2.1.2.1 r4.2.1.2.2.1.2.2.1 r4.2.1.2.2.1.2.2.2.1 b3))))
noncomputable def law24ServePlays.b8 (fu : Nat) (next : (List S4) → Int → Int → S0 → Int → Bool → Int → Int → Int → Int → Bool → Int → S0 → Bool → Int → Int → S6 → Option (Bool × Unit)) (k1 : Bool → Option (Bool × Unit)) (k2 : Unit → Option (Bool × Unit)) (v : List S4) (vx2 : Int) (vx3 : Int) (b1 : S0) (c1 : Int) (c1x2 : Bool) (c1x3 : Int) (c1x4 : Int) (c1x5 : Int) (c1x6 : Int) (c1x7 : Bool) (c1x8 : Int) (b2 : S0) (c2 : Bool) (c2x2 : Int) (c2x3 : Int) (b3 : S6) : Option (Bool × Unit) :=
  cond (decide (vx3 < vx2)) (
    chk (ixOk v vx3) <|
    let e1 := ixL ((0 : Int), (0 : Int), (0 : Int), (0 : Int), (0 : Int), ()) v vx3
    (law24Do fu (b1, c1, (b2, c2, c2x2, c2x3, ()), c1x2, c1x3, c1x4, c1x5, c1x6, c1x7, c1x8, ()) b3 e1).bind fun r2 =>
    cond (!r2.1.1) (
      k1 false) (
      cond (!r2.1.2.1.2.2.2.1) (
        law24ServePlays.j17 fu (fun vq13 vq13x2 vq13x3 b1q13 c1q13 c1q13x2 c1q13x3 c1q13x4 c1q13x5 c1q13x6 c1q13x7 c1q13x8 b2q13 c2q13 c2q13x2 c2q13x3 b3q13 => 
            let t3 := IntKind.i64.wrap (vq13x3 + (1 : Int))
            next vq13 vq13x2 t3 b1q13 c1q13 c1q13x2 c1q13x3 c1q13x4 c1q13x5 c1q13x6 c1q13x7 c1q13x8 b2q13 c2q13 c2q13x2 c2q13x3 b3q13) (fun vq14 => 
            k1 vq14) (0 : Int) false v vx2 vx3 r2.2.1.1 r2.2.1.2.1 r2.2.1.2.2.2.1 r2.2.1.2.2.2.2.1 r2.2.1.2.2.2.2.2.1 r2.2.1.2.2.2.2.2.2.1 r2.2.1.2.2.2.2.2.2.2.1 r2.2.1.2.2.2.2.2.2.2.2.1 r2.2.1.2.2.2.2.2.2.2.2.2.1 r2.2.1.2.2.1.1 r2.2.1.2.2.1.2.1 r2.2.1.2.2.1.2.2.1 r2.2.1.2.2.1.2.2.2.1 r2.1.2.1) (
        law24ServePlays.j17 fu (fun vq15 vq15x2 vq15x3 b1q15 c1q15 c1q15x2 c1q15x3 c1q15x4 c1q15x5 c1q15x6 c1q15x7 c1q15x8 b2q15 c2q15 c2q15x2 c2q15x3 b3q15 => 
            let t4 := IntKind.i64.wrap (vq15x3 + (1 : Int))
            next vq15 vq15x2 t4 b1q15 c1q15 c1q15x2 c1q15x3 c1q15x4 c1q15x5 c1q15x6 c1q15x7 c1q15x8 b2q15 c2q15 c2q15x2 c2q15x3 b3q15) (fun vq16 => 
            k1 vq16) r2.1.2.1.2.2.2.2.2.1 r2.1.2.1.2.2.2.2.2.2.2.2.1 v vx2 vx3 r2.2.1.1 r2.2.1.2.1 r2.2.1.2.2.2.1 r2.2.1.2.2.2.2.1 r2.2.1.2.2.2.2.2.1 r2.2.1.2.2.2.2.2.2.1 r2.2.1.2.2.2.2.2.2.2.1 r2.2.1.2.2.2.2.2.2.2.2.1 r2.2.1.2.2.2.2.2.2.2.2.2.1 r2.2.1.2.2.1.1 r2.2.1.2.2.1.2.1 r2.2.1.2.2.1.2.2.1 r2.2.1.2.2.1.2.2.2.1 r2.1.2.1))) (
    k2 ())
noncomputable def law24ServePlays.l8 (fu : Nat) (k1 : Bool → Option (Bool × Unit)) (k2 : Unit → Option (Bool × Unit)) : Nat → (List S4) → Int → Int → S0 → Int → Bool → Int → Int → Int → Int → Bool → Int → S0 → Bool → Int → Int → S6 → Option (Bool × Unit)
  | 0, _, _, _, _, _, _, _, _, _, _, _, _, _, _, _, _, _ => none
  | m + 1, v, vx2, vx3, b1, c1, c1x2, c1x3, c1x4, c1x5, c1x6, c1x7, c1x8, b2, c2, c2x2, c2x3, b3 => law24ServePlays.b8 fu (law24ServePlays.l8 fu k1 k2 m) k1 k2 v vx2 vx3 b1 c1 c1x2 c1x3 c1x4 c1x5 c1x6 c1x7 c1x8 b2 c2 c2x2 c2x3 b3
noncomputable def law24ServePlays (fu : Nat) (b : S0) (window : Int) (ops : List S4) : Option (Bool × Unit) :=
  (serveNew fu b window).bind fun r1 =>
  oc r1.1.1 (
    (ref24May fu b window).bind fun r3 =>
    cond (!r3.1) (
      (law24Fixed fu).bind fun r4 =>
      cond r4.1 (
        some (r1.1.2.1 == (1 : Int), ())) (
        some (false, ()))) (
      some (false, ()))) fun o2 =>
  (ref24May fu b window).bind fun r5 =>
  cond (!r5.1) (
    (law24Fixed fu).bind fun r6 =>
    cond r6.1 (
      some (false, ())) (
      some (false, ()))) (
    cond (r1.1.2.1 != (0 : Int)) (
      some (false, ())) (
      (law24Fixed fu).bind fun r7 =>
      cond (!r7.1) (
        some (false, ())) (
        (ref24New fu b window).bind fun r8 =>
        (law24Cut fu ops).bind fun r9 =>
        law24ServePlays.l8 fu (fun vq7 => 
            some (vq7, ())) (fun (_ : Unit) => 
            some (true, ())) fu r9.1 (r9.1.length : Int) (0 : Int) o2.1 o2.2.1 o2.2.2.2.1 o2.2.2.2.2.1 o2.2.2.2.2.2.1 o2.2.2.2.2.2.2.1 o2.2.2.2.2.2.2.2.1 o2.2.2.2.2.2.2.2.2.1 o2.2.2.2.2.2.2.2.2.2.1 o2.2.2.1.1 o2.2.2.1.2.1 o2.2.2.1.2.2.1 o2.2.2.1.2.2.2.1 r8.1)))

noncomputable def law24ServePlays.body : Code := Try.f10.body.getD .skip
abbrev law24ServePlays.shj17 : Shp := ⟨[.u, .u, .u, .u, .u, .u, .u, .p 1 0, .u, .p 3 0, .u, .u, .u, .d (.int .u64), .d .bool, .u, .u, .u, .u, .u, .u, .u, .u, .u, .u, .u, .u, .u, .u, .u, .u, .u, .u, .u, .u, .u, .u, .u, .u, .u, .u, .u, .u, .u, .u, .u, .u, .u, .d (.slice kS4), .d (.int .i64), .d (.int .i64), .u, .u, .u, .u, .u, .u, .u, .u, .u, .u, .u, .u, .u, .u, .u, .u, .u, .u, .u, .u, .u, .u, .u, .u, .u, .u, .u, .u, .u, .u, .u, .u, .u, .u, .u, .u, .u, .u, .u, .u, .u, .u, .u, .u], [[.u, .u, .u], [.g kS0, .d (.int .u64), .p 2 0, .d .bool, .d (.int .u32), .d (.int .u64), .d (.int .u64), .d (.int .u64), .d .bool, .d (.int .u64)], [.g kS0, .d .bool, .d (.int .u32), .d (.int .u64)], [.g kS6]]⟩
abbrev law24ServePlays.outj17e0 : Shp := ⟨[.u, .u, .u, .u, .u, .u, .u, .p 1 0, .u, .p 3 0, .u, .u, .u, .u, .u, .u, .u, .u, .u, .u, .u, .u, .u, .u, .u, .u, .u, .u, .u, .u, .u, .u, .u, .u, .u, .u, .u, .u, .u, .u, .u, .u, .u, .u, .u, .u, .u, .u, .d (.slice kS4), .d (.int .i64), .d (.int .i64), .u, .u, .u, .u, .u, .u, .u, .u, .u, .u, .u, .u, .u, .u, .u, .u, .u, .u, .u, .u, .u, .u, .u, .u, .u, .u, .u, .u, .u, .u, .u, .u, .u, .u, .u, .u, .u, .u, .u, .u, .u, .u, .u, .u], [[.u, .u, .u], [.g kS0, .d (.int .u64), .p 2 0, .d .bool, .d (.int .u32), .d (.int .u64), .d (.int .u64), .d (.int .u64), .d .bool, .d (.int .u64)], [.g kS0, .d .bool, .d (.int .u32), .d (.int .u64)], [.g kS6]]⟩
abbrev law24ServePlays.outj17e1 : Shp := ⟨[.u, .u, .u, .u, .u, .u, .d .bool, .u, .u, .u, .u, .u, .u, .u, .u, .u, .u, .u, .u, .u, .u, .u, .u, .u, .u, .u, .u, .u, .u, .u, .u, .u, .u, .u, .u, .u, .u, .u, .u, .u, .u, .u, .u, .u, .u, .u, .u, .u, .u, .u, .u, .u, .u, .u, .u, .u, .u, .u, .u, .u, .u, .u, .u, .u, .u, .u, .u, .u, .u, .u, .u, .u, .u, .u, .u, .u, .u, .u, .u, .u, .u, .u, .u, .u, .u, .u, .u, .u, .u, .u, .u, .u, .u, .u, .u], []⟩
noncomputable def law24ServePlays.nmj17 : Norm := ⟨{ keep := [7, 9, 13, 14, 48, 49, 50], shut := [(13, (.int .u64)), (14, .bool), (48, (.slice kS4)), (49, (.int .i64)), (50, (.int .i64))], retag := [], heap := 4, dead := [0], cshut := [(1, 0, (.int .u32)), (1, 1, (.int .u32)), (1, 2, (.int .u32)), (1, 3, (.int .u64)), (1, 5, .bool), (1, 6, (.int .u32)), (1, 7, (.int .u64)), (1, 8, (.int .u64)), (1, 9, (.int .u64)), (1, 10, .bool), (1, 11, (.int .u64)), (2, 0, (.int .u32)), (2, 1, (.int .u32)), (2, 2, (.int .u32)), (2, 3, .bool), (2, 4, (.int .u32)), (2, 5, (.int .u64)), (3, 0, (.int .u32)), (3, 1, (.int .u32)), (3, 2, (.int .u32)), (3, 3, (.int .u64)), (3, 4, (.int .u32)), (3, 5, (.int .u32)), (3, 6, (.int .u32)), (3, 7, .bool), (3, 8, (.int .u32)), (3, 9, (.int .u64)), (3, 10, .bool), (3, 11, (.int .u32)), (3, 12, (.int .u64)), (3, 13, (.int .u64)), (3, 14, (.int .u64)), (3, 15, .bool), (3, 16, (.int .u64))], cretag := [] }, [(0, { keep := [7, 9, 48, 49, 50], shut := [(48, (.slice kS4)), (49, (.int .i64)), (50, (.int .i64))], retag := [], heap := 4, dead := [0], cshut := [(1, 0, (.int .u32)), (1, 1, (.int .u32)), (1, 2, (.int .u32)), (1, 3, (.int .u64)), (1, 5, .bool), (1, 6, (.int .u32)), (1, 7, (.int .u64)), (1, 8, (.int .u64)), (1, 9, (.int .u64)), (1, 10, .bool), (1, 11, (.int .u64)), (2, 0, (.int .u32)), (2, 1, (.int .u32)), (2, 2, (.int .u32)), (2, 3, .bool), (2, 4, (.int .u32)), (2, 5, (.int .u64)), (3, 0, (.int .u32)), (3, 1, (.int .u32)), (3, 2, (.int .u32)), (3, 3, (.int .u64)), (3, 4, (.int .u32)), (3, 5, (.int .u32)), (3, 6, (.int .u32)), (3, 7, .bool), (3, 8, (.int .u32)), (3, 9, (.int .u64)), (3, 10, .bool), (3, 11, (.int .u32)), (3, 12, (.int .u64)), (3, 13, (.int .u64)), (3, 14, (.int .u64)), (3, 15, .bool), (3, 16, (.int .u64))], cretag := [] }), (1, { keep := [6], shut := [(6, .bool)], retag := [], heap := 0, dead := [], cshut := [], cretag := [] })]⟩
abbrev law24ServePlays.shl8 : Shp := ⟨[.u, .u, .u, .u, .u, .u, .u, .p 1 0, .u, .p 3 0, .u, .u, .u, .u, .u, .u, .u, .u, .u, .u, .u, .u, .u, .u, .u, .u, .u, .u, .u, .u, .u, .u, .u, .u, .u, .u, .u, .u, .u, .u, .u, .u, .u, .u, .u, .u, .u, .u, .d (.slice kS4), .d (.int .i64), .d (.int .i64), .u, .u, .u, .u, .u, .u, .u, .u, .u, .u, .u, .u, .u, .u, .u, .u, .u, .u, .u, .u, .u, .u, .u, .u, .u, .u, .u, .u, .u, .u, .u, .u, .u, .u, .u, .u, .u, .u, .u, .u, .u, .u, .u, .u], [[.u, .u, .u], [.g kS0, .d (.int .u64), .p 2 0, .d .bool, .d (.int .u32), .d (.int .u64), .d (.int .u64), .d (.int .u64), .d .bool, .d (.int .u64)], [.g kS0, .d .bool, .d (.int .u32), .d (.int .u64)], [.g kS6]]⟩
abbrev law24ServePlays.outl8e1 : Shp := ⟨[.u, .u, .u, .u, .u, .u, .d .bool, .u, .u, .u, .u, .u, .u, .u, .u, .u, .u, .u, .u, .u, .u, .u, .u, .u, .u, .u, .u, .u, .u, .u, .u, .u, .u, .u, .u, .u, .u, .u, .u, .u, .u, .u, .u, .u, .u, .u, .u, .u, .u, .u, .u, .u, .u, .u, .u, .u, .u, .u, .u, .u, .u, .u, .u, .u, .u, .u, .u, .u, .u, .u, .u, .u, .u, .u, .u, .u, .u, .u, .u, .u, .u, .u, .u, .u, .u, .u, .u, .u, .u, .u, .u, .u, .u, .u, .u], []⟩
abbrev law24ServePlays.outl8e2 : Shp := ⟨[.u, .u, .u, .u, .u, .u, .u, .u, .u, .u, .u, .u, .u, .u, .u, .u, .u, .u, .u, .u, .u, .u, .u, .u, .u, .u, .u, .u, .u, .u, .u, .u, .u, .u, .u, .u, .u, .u, .u, .u, .u, .u, .u, .u, .u, .u, .u, .u, .u, .u, .u, .u, .u, .u, .u, .u, .u, .u, .u, .u, .u, .u, .u, .u, .u, .u, .u, .u, .u, .u, .u, .u, .u, .u, .u, .u, .u, .u, .u, .u, .u, .u, .u, .u, .u, .u, .u, .u, .u, .u, .u, .u, .u, .u, .u], []⟩
noncomputable def law24ServePlays.nml8 : Norm := ⟨{ keep := [7, 9, 48, 49, 50], shut := [(48, (.slice kS4)), (49, (.int .i64)), (50, (.int .i64))], retag := [], heap := 4, dead := [0], cshut := [(1, 0, (.int .u32)), (1, 1, (.int .u32)), (1, 2, (.int .u32)), (1, 3, (.int .u64)), (1, 5, .bool), (1, 6, (.int .u32)), (1, 7, (.int .u64)), (1, 8, (.int .u64)), (1, 9, (.int .u64)), (1, 10, .bool), (1, 11, (.int .u64)), (2, 0, (.int .u32)), (2, 1, (.int .u32)), (2, 2, (.int .u32)), (2, 3, .bool), (2, 4, (.int .u32)), (2, 5, (.int .u64)), (3, 0, (.int .u32)), (3, 1, (.int .u32)), (3, 2, (.int .u32)), (3, 3, (.int .u64)), (3, 4, (.int .u32)), (3, 5, (.int .u32)), (3, 6, (.int .u32)), (3, 7, .bool), (3, 8, (.int .u32)), (3, 9, (.int .u64)), (3, 10, .bool), (3, 11, (.int .u32)), (3, 12, (.int .u64)), (3, 13, (.int .u64)), (3, 14, (.int .u64)), (3, 15, .bool), (3, 16, (.int .u64))], cretag := [] }, [(1, { keep := [6], shut := [(6, .bool)], retag := [], heap := 0, dead := [], cshut := [], cretag := [] }), (2, { keep := [], shut := [], retag := [], heap := 0, dead := [], cshut := [], cretag := [] })]⟩
noncomputable def law24ServePlays.con : Con := { ps := [kS0, (.int .i64), (.slice kS4)], rs := [.bool], f := fun n x => law24ServePlays n x.1 x.2.1 x.2.2.1 }
noncomputable def law24ServePlays.env : Env := { tys := [(24, ⟨kS0, 12⟩), (4, ⟨.bool, 1⟩), (47, ⟨.np, 8⟩), (63, ⟨kS6, 104⟩), (67, ⟨kS4, 40⟩), (3, ⟨(.int .i64), 8⟩), (27, ⟨(.int .u64), 8⟩), (22, ⟨(.int .u32), 4⟩)], elems := [(61, 67)], ptrs := [(47, 92)], cons := [(33, ref24May.con), (32, law24Fixed.con), (40, ref24New.con), (41, law24Cut.con)], objs := [(31, [serveNew.con]), (36, [serveSessionDropping.con]), (37, [serveSessionCursor.con]), (42, [law24Do.con]), (44, [serveSessionIsOpen.con]), (45, [serveSessionEpoch.con])], loops := [(8, law24ServePlays.nml8)], cuts := [(17, law24ServePlays.nmj17)], globs := globs, base := 0 }
noncomputable def law24ServePlays.lp (n : Nat) : LP (Kd.struct law24ServePlays.con.rs).T := fun lo κ body nm K s =>
  cond (!lo && Nat.beq κ 17)
    (match law24ServePlays.shj17.dec s with
    | some v => law24ServePlays.j17 n (fun w0 w1 w2 w3 w4 w5 w6 w7 w8 w9 w10 w11 w12 w13 w14 w15 w16 => K .normal (law24ServePlays.outj17e0.enc (w0, w1, w2, w3, w4, w5, w6, w7, w8, w9, w10, w11, w12, w13, w14, w15, w16, ()))) (fun w0 => K .ret (law24ServePlays.outj17e1.enc (w0, ()))) v.1 v.2.1 v.2.2.1 v.2.2.2.1 v.2.2.2.2.1 v.2.2.2.2.2.1 v.2.2.2.2.2.2.1 v.2.2.2.2.2.2.2.1 v.2.2.2.2.2.2.2.2.1 v.2.2.2.2.2.2.2.2.2.1 v.2.2.2.2.2.2.2.2.2.2.1 v.2.2.2.2.2.2.2.2.2.2.2.1 v.2.2.2.2.2.2.2.2.2.2.2.2.1 v.2.2.2.2.2.2.2.2.2.2.2.2.2.1 v.2.2.2.2.2.2.2.2.2.2.2.2.2.2.1 v.2.2.2.2.2.2.2.2.2.2.2.2.2.2.2.1 v.2.2.2.2.2.2.2.2.2.2.2.2.2.2.2.2.1 v.2.2.2.2.2.2.2.2.2.2.2.2.2.2.2.2.2.1 v.2.2.2.2.2.2.2.2.2.2.2.2.2.2.2.2.2.2.1
    | none => loops n (Kd.struct law24ServePlays.con.rs).T lo κ body nm K s)
    (cond (lo && Nat.beq κ 8)
    (match law24ServePlays.shl8.dec s with
    | some v => law24ServePlays.l8 n (fun w0 => K .ret (law24ServePlays.outl8e1.enc (w0, ()))) (fun _ => K (.exit 0) (law24ServePlays.outl8e2.enc (()))) n v.1 v.2.1 v.2.2.1 v.2.2.2.1 v.2.2.2.2.1 v.2.2.2.2.2.1 v.2.2.2.2.2.2.1 v.2.2.2.2.2.2.2.1 v.2.2.2.2.2.2.2.2.1 v.2.2.2.2.2.2.2.2.2.1 v.2.2.2.2.2.2.2.2.2.2.1 v.2.2.2.2.2.2.2.2.2.2.2.1 v.2.2.2.2.2.2.2.2.2.2.2.2.1 v.2.2.2.2.2.2.2.2.2.2.2.2.2.1 v.2.2.2.2.2.2.2.2.2.2.2.2.2.2.1 v.2.2.2.2.2.2.2.2.2.2.2.2.2.2.2.1 v.2.2.2.2.2.2.2.2.2.2.2.2.2.2.2.2.1
    | none => loops n (Kd.struct law24ServePlays.con.rs).T lo κ body nm K s)
    (loops n (Kd.struct law24ServePlays.con.rs).T lo κ body nm K s))
theorem law24ServePlays.atj17 (n : Nat) (s : St) (K : Ex → St → Option (Kd.struct law24ServePlays.con.rs).T) : law24ServePlays.lp n false 17 (evK law24ServePlays.env (law24ServePlays.lp n) n (sub [1, 1, 1, 1, 1, 0, 1, 0, 0, 1, 1, 0, 0, 1, 1, 1, 1, 1] law24ServePlays.body)) law24ServePlays.nmj17 K s = loops n (Kd.struct law24ServePlays.con.rs).T false 17 (evK law24ServePlays.env (law24ServePlays.lp n) n (sub [1, 1, 1, 1, 1, 0, 1, 0, 0, 1, 1, 0, 0, 1, 1, 1, 1, 1] law24ServePlays.body)) law24ServePlays.nmj17 K s := by
  show (match law24ServePlays.shj17.dec s with | some v => law24ServePlays.j17 n (fun w0 w1 w2 w3 w4 w5 w6 w7 w8 w9 w10 w11 w12 w13 w14 w15 w16 => K .normal (law24ServePlays.outj17e0.enc (w0, w1, w2, w3, w4, w5, w6, w7, w8, w9, w10, w11, w12, w13, w14, w15, w16, ()))) (fun w0 => K .ret (law24ServePlays.outj17e1.enc (w0, ()))) v.1 v.2.1 v.2.2.1 v.2.2.2.1 v.2.2.2.2.1 v.2.2.2.2.2.1 v.2.2.2.2.2.2.1 v.2.2.2.2.2.2.2.1 v.2.2.2.2.2.2.2.2.1 v.2.2.2.2.2.2.2.2.2.1 v.2.2.2.2.2.2.2.2.2.2.1 v.2.2.2.2.2.2.2.2.2.2.2.1 v.2.2.2.2.2.2.2.2.2.2.2.2.1 v.2.2.2.2.2.2.2.2.2.2.2.2.2.1 v.2.2.2.2.2.2.2.2.2.2.2.2.2.2.1 v.2.2.2.2.2.2.2.2.2.2.2.2.2.2.2.1 v.2.2.2.2.2.2.2.2.2.2.2.2.2.2.2.2.1 v.2.2.2.2.2.2.2.2.2.2.2.2.2.2.2.2.2.1 v.2.2.2.2.2.2.2.2.2.2.2.2.2.2.2.2.2.2.1 | none => loops n (Kd.struct law24ServePlays.con.rs).T false 17 (evK law24ServePlays.env (law24ServePlays.lp n) n (sub [1, 1, 1, 1, 1, 0, 1, 0, 0, 1, 1, 0, 0, 1, 1, 1, 1, 1] law24ServePlays.body)) law24ServePlays.nmj17 K s) = _
  cases h : law24ServePlays.shj17.dec s with
  | none => rfl
  | some v =>
    rw [Shp.dec_enc h]
    kernel_rfl
theorem law24ServePlays.atl8 (n : Nat) (s : St) (K : Ex → St → Option (Kd.struct law24ServePlays.con.rs).T) : law24ServePlays.lp n true 8 (evK law24ServePlays.env (law24ServePlays.lp n) n (sub [1, 1, 1, 1, 1, 0, 1, 0, 0] law24ServePlays.body)) law24ServePlays.nml8 K s = loops n (Kd.struct law24ServePlays.con.rs).T true 8 (evK law24ServePlays.env (law24ServePlays.lp n) n (sub [1, 1, 1, 1, 1, 0, 1, 0, 0] law24ServePlays.body)) law24ServePlays.nml8 K s := by
  show (match law24ServePlays.shl8.dec s with | some v => law24ServePlays.l8 n (fun w0 => K .ret (law24ServePlays.outl8e1.enc (w0, ()))) (fun _ => K (.exit 0) (law24ServePlays.outl8e2.enc (()))) n v.1 v.2.1 v.2.2.1 v.2.2.2.1 v.2.2.2.2.1 v.2.2.2.2.2.1 v.2.2.2.2.2.2.1 v.2.2.2.2.2.2.2.1 v.2.2.2.2.2.2.2.2.1 v.2.2.2.2.2.2.2.2.2.1 v.2.2.2.2.2.2.2.2.2.2.1 v.2.2.2.2.2.2.2.2.2.2.2.1 v.2.2.2.2.2.2.2.2.2.2.2.2.1 v.2.2.2.2.2.2.2.2.2.2.2.2.2.1 v.2.2.2.2.2.2.2.2.2.2.2.2.2.2.1 v.2.2.2.2.2.2.2.2.2.2.2.2.2.2.2.1 v.2.2.2.2.2.2.2.2.2.2.2.2.2.2.2.2.1 | none => loops n (Kd.struct law24ServePlays.con.rs).T true 8 (evK law24ServePlays.env (law24ServePlays.lp n) n (sub [1, 1, 1, 1, 1, 0, 1, 0, 0] law24ServePlays.body)) law24ServePlays.nml8 K s) = _
  cases h : law24ServePlays.shl8.dec s with
  | none => rfl
  | some v =>
    rw [Shp.dec_enc h]
    exact (evLoop_eq (sh := law24ServePlays.shl8) (body := evK law24ServePlays.env (law24ServePlays.lp n) n (sub [1, 1, 1, 1, 1, 0, 1, 0, 0] law24ServePlays.body)) (nm := law24ServePlays.nml8) (K := K) (b := fun nx v => law24ServePlays.b8 n (fun x0 x1 x2 x3 x4 x5 x6 x7 x8 x9 x10 x11 x12 x13 x14 x15 x16 => nx (x0, x1, x2, x3, x4, x5, x6, x7, x8, x9, x10, x11, x12, x13, x14, x15, x16, ())) (fun w0 => K .ret (law24ServePlays.outl8e1.enc (w0, ()))) (fun _ => K (.exit 0) (law24ServePlays.outl8e2.enc (()))) v.1 v.2.1 v.2.2.1 v.2.2.2.1 v.2.2.2.2.1 v.2.2.2.2.2.1 v.2.2.2.2.2.2.1 v.2.2.2.2.2.2.2.1 v.2.2.2.2.2.2.2.2.1 v.2.2.2.2.2.2.2.2.2.1 v.2.2.2.2.2.2.2.2.2.2.1 v.2.2.2.2.2.2.2.2.2.2.2.1 v.2.2.2.2.2.2.2.2.2.2.2.2.1 v.2.2.2.2.2.2.2.2.2.2.2.2.2.1 v.2.2.2.2.2.2.2.2.2.2.2.2.2.2.1 v.2.2.2.2.2.2.2.2.2.2.2.2.2.2.2.1 v.2.2.2.2.2.2.2.2.2.2.2.2.2.2.2.2.1) (l := fun m v => law24ServePlays.l8 n (fun w0 => K .ret (law24ServePlays.outl8e1.enc (w0, ()))) (fun _ => K (.exit 0) (law24ServePlays.outl8e2.enc (()))) m v.1 v.2.1 v.2.2.1 v.2.2.2.1 v.2.2.2.2.1 v.2.2.2.2.2.1 v.2.2.2.2.2.2.1 v.2.2.2.2.2.2.2.1 v.2.2.2.2.2.2.2.2.1 v.2.2.2.2.2.2.2.2.2.1 v.2.2.2.2.2.2.2.2.2.2.1 v.2.2.2.2.2.2.2.2.2.2.2.1 v.2.2.2.2.2.2.2.2.2.2.2.2.1 v.2.2.2.2.2.2.2.2.2.2.2.2.2.1 v.2.2.2.2.2.2.2.2.2.2.2.2.2.2.1 v.2.2.2.2.2.2.2.2.2.2.2.2.2.2.2.1 v.2.2.2.2.2.2.2.2.2.2.2.2.2.2.2.2.1) (fun _ => rfl) (fun _ _ => rfl) (fun m v => by kernel_rfl) n v).symm
theorem law24ServePlays.eq (n : Nat) (x : (Kd.struct law24ServePlays.con.ps).T) : evFunc law24ServePlays.env Try.f10 law24ServePlays.body law24ServePlays.con.ps law24ServePlays.con.rs (law24ServePlays.lp n) n x = law24ServePlays.con.f n x := by kernel_rfl
theorem law24ServePlays.sound : Sound Try.prog globs 10 law24ServePlays.con :=
  sound_by (E := law24ServePlays.env) (c := law24ServePlays.body) (envOk (G := globs) (lc := [(33, ref24May.con), (32, law24Fixed.con), (40, ref24New.con), (41, law24Cut.con)]) (lo := [(31, [serveNew.con]), (36, [serveSessionDropping.con]), (37, [serveSessionCursor.con]), (42, [law24Do.con]), (44, [serveSessionIsOpen.con]), (45, [serveSessionEpoch.con])]) (envB_spec (by kernel_rfl)) rfl rfl ⟨.inl ⟨ref24May.sound, by kernel_rfl⟩, ⟨.inl ⟨law24Fixed.sound, by kernel_rfl⟩, ⟨.inl ⟨ref24New.sound, by kernel_rfl⟩, ⟨.inl ⟨law24Cut.sound, by kernel_rfl⟩, trivial⟩⟩⟩⟩ rfl ⟨⟨⟨serveNew.sound, trivial⟩, by kernel_rfl⟩, ⟨⟨⟨serveSessionDropping.sound, trivial⟩, by kernel_rfl⟩, ⟨⟨⟨serveSessionCursor.sound, trivial⟩, by kernel_rfl⟩, ⟨⟨⟨law24Do.sound, trivial⟩, by kernel_rfl⟩, ⟨⟨⟨serveSessionIsOpen.sound, trivial⟩, by kernel_rfl⟩, ⟨⟨⟨serveSessionEpoch.sound, trivial⟩, by kernel_rfl⟩, trivial⟩⟩⟩⟩⟩⟩ (by kernel_rfl) (by kernel_rfl)) Try.func10 (by kernel_rfl) law24ServePlays.lp (l := [(false, sub [1, 1, 1, 1, 1, 0, 1, 0, 0, 1, 1, 0, 0, 1, 1, 1, 1, 1] law24ServePlays.body, law24ServePlays.nmj17), (true, sub [1, 1, 1, 1, 1, 0, 1, 0, 0] law24ServePlays.body, law24ServePlays.nml8)]) (by kernel_rfl) (fun n => ⟨law24ServePlays.atj17 n, ⟨law24ServePlays.atl8 n, trivial⟩⟩) law24ServePlays.eq
noncomputable def law24ServeFlows.b11 (fu : Nat) (next : Int → Int → Int → (List S3) → Int → Int → S0 → Int → Bool → Int → Int → Int → Int → Bool → Int → S0 → Bool → Int → Int → Option (Bool × Unit)) (k1 : Bool → Option (Bool × Unit)) (k4 : Int → Int → Int → S0 → Int → Bool → Int → Int → Int → Int → Bool → Int → S0 → Bool → Int → Int → Option (Bool × Unit)) (endv : Int) (nextv : Int) (tv : Int) (v : List S3) (vx2 : Int) (vx3 : Int) (b1 : S0) (c1 : Int) (c1x2 : Bool) (c1x3 : Int) (c1x4 : Int) (c1x5 : Int) (c1x6 : Int) (c1x7 : Bool) (c1x8 : Int) (b2 : S0) (c2 : Bool) (c2x2 : Int) (c2x3 : Int) : Option (Bool × Unit) :=
  cond (decide (vx3 < vx2)) (
    chk (ixOk v vx3) <|
    let e1 := ixL ((0 : Int), (0 : Int), (0 : Int), (0 : Int), (0 : Int), [], ()) v vx3
    cond (e1.1 != (5 : Int)) (
      k1 false) (
      cond (e1.2.2.2.1 != nextv) (
        k1 false) (
        let t2 := IntKind.u64.wrap (nextv + (1 : Int))
        let t3 := IntKind.i64.wrap (vx3 + (1 : Int))
        next endv t2 tv v vx2 t3 b1 c1 c1x2 c1x3 c1x4 c1x5 c1x6 c1x7 c1x8 b2 c2 c2x2 c2x3))) (
    k4 endv nextv tv b1 c1 c1x2 c1x3 c1x4 c1x5 c1x6 c1x7 c1x8 b2 c2 c2x2 c2x3)
noncomputable def law24ServeFlows.l11 (fu : Nat) (k1 : Bool → Option (Bool × Unit)) (k4 : Int → Int → Int → S0 → Int → Bool → Int → Int → Int → Int → Bool → Int → S0 → Bool → Int → Int → Option (Bool × Unit)) : Nat → Int → Int → Int → (List S3) → Int → Int → S0 → Int → Bool → Int → Int → Int → Int → Bool → Int → S0 → Bool → Int → Int → Option (Bool × Unit)
  | 0, _, _, _, _, _, _, _, _, _, _, _, _, _, _, _, _, _, _, _ => none
  | m + 1, endv, nextv, tv, v, vx2, vx3, b1, c1, c1x2, c1x3, c1x4, c1x5, c1x6, c1x7, c1x8, b2, c2, c2x2, c2x3 => law24ServeFlows.b11 fu (law24ServeFlows.l11 fu k1 k4 m) k1 k4 endv nextv tv v vx2 vx3 b1 c1 c1x2 c1x3 c1x4 c1x5 c1x6 c1x7 c1x8 b2 c2 c2x2 c2x3
noncomputable def law24ServeFlows.b8 (fu : Nat) (next : Int → Int → Int → S0 → Int → Bool → Int → Int → Int → Int → Bool → Int → S0 → Bool → Int → Int → Option (Bool × Unit)) (k1 : Bool → Option (Bool × Unit)) (k2 : Int → Int → S0 → Int → Bool → Int → Int → Int → Int → Bool → Int → S0 → Bool → Int → Int → Option (Bool × Unit)) (endv : Int) (nextv : Int) (tv : Int) (b1 : S0) (c1 : Int) (c1x2 : Bool) (c1x3 : Int) (c1x4 : Int) (c1x5 : Int) (c1x6 : Int) (c1x7 : Bool) (c1x8 : Int) (b2 : S0) (c2 : Bool) (c2x2 : Int) (c2x3 : Int) : Option (Bool × Unit) :=
  let t1 := IntKind.u64.wrap (IntKind.u64.wrap endv + (1 : Int))
  cond (decide (tv ≤ t1)) (
    let t2 := decide (nextv < IntKind.u64.wrap endv)
    cond t2 (
      (serveSessionSend fu (b1, c1, (b2, c2, c2x2, c2x3, ()), c1x2, c1x3, c1x4, c1x5, c1x6, c1x7, c1x8, ()) tv).bind fun r3 =>
      law24ServeFlows.l11 fu (fun vq15 => 
          k1 vq15) (fun endvq16 nextvq16 tvq16 b1q16 c1q16 c1q16x2 c1q16x3 c1q16x4 c1q16x5 c1q16x6 c1q16x7 c1q16x8 b2q16 c2q16 c2q16x2 c2q16x3 => 
          (serveSessionCursor fu (b1q16, c1q16, (b2q16, c2q16, c2q16x2, c2q16x3, ()), c1q16x2, c1q16x3, c1q16x4, c1q16x5, c1q16x6, c1q16x7, c1q16x8, ())).bind fun r4 =>
          let t5 := decide (nextvq16 > r4.1.1)
          cond t5 (
            (serveSessionAcks fu r4.2.1 (1 : Int) nextvq16).bind fun r6 =>
            cond (!r6.1.1) (
              k1 false) (
              (serveSessionMove fu r6.2.1 nextvq16 tvq16).bind fun r7 =>
              cond (!r7.1.1) (
                k1 false) (
                let t8 := IntKind.u64.wrap (tvq16 + (1 : Int))
                next endvq16 nextvq16 t8 r7.2.1.1 r7.2.1.2.1 r7.2.1.2.2.2.1 r7.2.1.2.2.2.2.1 r7.2.1.2.2.2.2.2.1 r7.2.1.2.2.2.2.2.2.1 r7.2.1.2.2.2.2.2.2.2.1 r7.2.1.2.2.2.2.2.2.2.2.1 r7.2.1.2.2.2.2.2.2.2.2.2.1 r7.2.1.2.2.1.1 r7.2.1.2.2.1.2.1 r7.2.1.2.2.1.2.2.1 r7.2.1.2.2.1.2.2.2.1))) (
            let t9 := IntKind.u64.wrap (tvq16 + (1 : Int))
            next endvq16 nextvq16 t9 r4.2.1.1 r4.2.1.2.1 r4.2.1.2.2.2.1 r4.2.1.2.2.2.2.1 r4.2.1.2.2.2.2.2.1 r4.2.1.2.2.2.2.2.2.1 r4.2.1.2.2.2.2.2.2.2.1 r4.2.1.2.2.2.2.2.2.2.2.1 r4.2.1.2.2.2.2.2.2.2.2.2.1 r4.2.1.2.2.1.1 r4.2.1.2.2.1.2.1 r4.2.1.2.2.1.2.2.1 r4.2.1.2.2.1.2.2.2.1)) fu endv nextv tv r3.1.1 (r3.1.1.length : Int) (0 : Int) r3.2.1.1 r3.2.1.2.1 r3.2.1.2.2.2.1 r3.2.1.2.2.2.2.1 r3.2.1.2.2.2.2.2.1 r3.2.1.2.2.2.2.2.2.1 r3.2.1.2.2.2.2.2.2.2.1 r3.2.1.2.2.2.2.2.2.2.2.1 r3.2.1.2.2.2.2.2.2.2.2.2.1 r3.2.1.2.2.1.1 r3.2.1.2.2.1.2.1 r3.2.1.2.2.1.2.2.1 r3.2.1.2.2.1.2.2.2.1) (
      k2 endv nextv b1 c1 c1x2 c1x3 c1x4 c1x5 c1x6 c1x7 c1x8 b2 c2 c2x2 c2x3)) (
    k2 endv nextv b1 c1 c1x2 c1x3 c1x4 c1x5 c1x6 c1x7 c1x8 b2 c2 c2x2 c2x3)
noncomputable def law24ServeFlows.l8 (fu : Nat) (k1 : Bool → Option (Bool × Unit)) (k2 : Int → Int → S0 → Int → Bool → Int → Int → Int → Int → Bool → Int → S0 → Bool → Int → Int → Option (Bool × Unit)) : Nat → Int → Int → Int → S0 → Int → Bool → Int → Int → Int → Int → Bool → Int → S0 → Bool → Int → Int → Option (Bool × Unit)
  | 0, _, _, _, _, _, _, _, _, _, _, _, _, _, _, _, _ => none
  | m + 1, endv, nextv, tv, b1, c1, c1x2, c1x3, c1x4, c1x5, c1x6, c1x7, c1x8, b2, c2, c2x2, c2x3 => law24ServeFlows.b8 fu (law24ServeFlows.l8 fu k1 k2 m) k1 k2 endv nextv tv b1 c1 c1x2 c1x3 c1x4 c1x5 c1x6 c1x7 c1x8 b2 c2 c2x2 c2x3
noncomputable def law24ServeFlows (fu : Nat) (b : S0) (window : Int) (endv : Int) : Option (Bool × Unit) :=
  (serveNew fu b window).bind fun r1 =>
  oc r1.1.1 (
    (law24Fixed fu).bind fun r3 =>
    cond r3.1 (
      (ref24May fu b window).bind fun r4 =>
      some (!r4.1, ())) (
      some (false, ()))) fun o2 =>
  cond (r1.1.2.1 != (0 : Int)) (
    (law24Fixed fu).bind fun r5 =>
    cond r5.1 (
      (ref24May fu b window).bind fun r6 =>
      some (!r6.1, ())) (
      some (false, ()))) (
    (serveSessionOpen fu o2 (1 : Int) (0 : Int) (IntKind.u64.wrap endv) (0 : Int)).bind fun r7 =>
    cond (r7.1.1 != (0 : Int)) (
      some (false, ())) (
      law24ServeFlows.l8 fu (fun vq7 => 
          some (vq7, ())) (fun endvq8 nextvq8 b1q8 c1q8 c1q8x2 c1q8x3 c1q8x4 c1q8x5 c1q8x6 c1q8x7 c1q8x8 b2q8 c2q8 c2q8x2 c2q8x3 => 
          (law24Fixed fu).bind fun r8 =>
          cond r8.1 (
            let t9 := nextvq8 == IntKind.u64.wrap endvq8
            cond t9 (
              (serveSessionCursor fu (b1q8, c1q8, (b2q8, c2q8, c2q8x2, c2q8x3, ()), c1q8x2, c1q8x3, c1q8x4, c1q8x5, c1q8x6, c1q8x7, c1q8x8, ())).bind fun r10 =>
              cond (r10.1.1 == nextvq8) (
                let t11 := IntKind.u64.wrap (IntKind.u64.wrap endvq8 + (2 : Int))
                (serveSessionSend fu r10.2.1 t11).bind fun r12 =>
                let t13 := (r12.1.1.length : Int) == (0 : Int)
                some (t13, ())) (
                some (false, ()))) (
              some (false, ()))) (
            some (false, ()))) fu endv (0 : Int) (0 : Int) r7.2.1.1 r7.2.1.2.1 r7.2.1.2.2.2.1 r7.2.1.2.2.2.2.1 r7.2.1.2.2.2.2.2.1 r7.2.1.2.2.2.2.2.2.1 r7.2.1.2.2.2.2.2.2.2.1 r7.2.1.2.2.2.2.2.2.2.2.1 r7.2.1.2.2.2.2.2.2.2.2.2.1 r7.2.1.2.2.1.1 r7.2.1.2.2.1.2.1 r7.2.1.2.2.1.2.2.1 r7.2.1.2.2.1.2.2.2.1))

noncomputable def law24ServeFlows.body : Code := Try.f8.body.getD .skip
abbrev law24ServeFlows.shl11 : Shp := ⟨[.u, .u, .d (.int .u8), .u, .u, .u, .u, .p 1 0, .u, .d (.int .u64), .d (.int .u64), .u, .u, .u, .u, .u, .u, .u, .u, .u, .u, .u, .u, .u, .u, .u, .u, .u, .u, .u, .u, .u, .u, .u, .u, .u, .u, .u, .u, .u, .u, .u, .u, .u, .u, .u, .u, .u, .u, .u, .u, .u, .d (.slice kS3), .d (.int .i64), .d (.int .i64), .u, .u, .u, .u, .u, .u, .u, .u, .u, .u, .u, .u, .u, .u, .u, .u, .u, .u, .u, .u, .u, .u, .u, .u, .u, .u, .u, .u, .u, .u, .u, .u, .u, .u, .u, .u, .u, .u, .u, .u, .u, .u, .u, .u, .u, .u, .u, .u, .u, .u, .u, .u, .u, .u], [[.u, .u, .u], [.g kS0, .d (.int .u64), .p 2 0, .d .bool, .d (.int .u32), .d (.int .u64), .d (.int .u64), .d (.int .u64), .d .bool, .d (.int .u64)], [.g kS0, .d .bool, .d (.int .u32), .d (.int .u64)]]⟩
abbrev law24ServeFlows.outl11e1 : Shp := ⟨[.u, .u, .u, .u, .u, .u, .d .bool, .u, .u, .u, .u, .u, .u, .u, .u, .u, .u, .u, .u, .u, .u, .u, .u, .u, .u, .u, .u, .u, .u, .u, .u, .u, .u, .u, .u, .u, .u, .u, .u, .u, .u, .u, .u, .u, .u, .u, .u, .u, .u, .u, .u, .u, .u, .u, .u, .u, .u, .u, .u, .u, .u, .u, .u, .u, .u, .u, .u, .u, .u, .u, .u, .u, .u, .u, .u, .u, .u, .u, .u, .u, .u, .u, .u, .u, .u, .u, .u, .u, .u, .u, .u, .u, .u, .u, .u, .u, .u, .u, .u, .u, .u, .u, .u, .u, .u, .u, .u, .u, .u], []⟩
abbrev law24ServeFlows.outl11e4 : Shp := ⟨[.u, .u, .d (.int .u8), .u, .u, .u, .u, .p 1 0, .u, .d (.int .u64), .d (.int .u64), .u, .u, .u, .u, .u, .u, .u, .u, .u, .u, .u, .u, .u, .u, .u, .u, .u, .u, .u, .u, .u, .u, .u, .u, .u, .u, .u, .u, .u, .u, .u, .u, .u, .u, .u, .u, .u, .u, .u, .u, .u, .u, .u, .u, .u, .u, .u, .u, .u, .u, .u, .u, .u, .u, .u, .u, .u, .u, .u, .u, .u, .u, .u, .u, .u, .u, .u, .u, .u, .u, .u, .u, .u, .u, .u, .u, .u, .u, .u, .u, .u, .u, .u, .u, .u, .u, .u, .u, .u, .u, .u, .u, .u, .u, .u, .u, .u, .u], [[.u, .u, .u], [.g kS0, .d (.int .u64), .p 2 0, .d .bool, .d (.int .u32), .d (.int .u64), .d (.int .u64), .d (.int .u64), .d .bool, .d (.int .u64)], [.g kS0, .d .bool, .d (.int .u32), .d (.int .u64)]]⟩
noncomputable def law24ServeFlows.nml11 : Norm := ⟨{ keep := [2, 7, 9, 10, 52, 53, 54], shut := [(2, (.int .u8)), (9, (.int .u64)), (10, (.int .u64)), (52, (.slice kS3)), (53, (.int .i64)), (54, (.int .i64))], retag := [], heap := 3, dead := [0], cshut := [(1, 0, (.int .u32)), (1, 1, (.int .u32)), (1, 2, (.int .u32)), (1, 3, (.int .u64)), (1, 5, .bool), (1, 6, (.int .u32)), (1, 7, (.int .u64)), (1, 8, (.int .u64)), (1, 9, (.int .u64)), (1, 10, .bool), (1, 11, (.int .u64)), (2, 0, (.int .u32)), (2, 1, (.int .u32)), (2, 2, (.int .u32)), (2, 3, .bool), (2, 4, (.int .u32)), (2, 5, (.int .u64))], cretag := [] }, [(1, { keep := [6], shut := [(6, .bool)], retag := [], heap := 0, dead := [], cshut := [], cretag := [] }), (4, { keep := [2, 7, 9, 10], shut := [(2, (.int .u8)), (9, (.int .u64)), (10, (.int .u64))], retag := [], heap := 3, dead := [0], cshut := [(1, 0, (.int .u32)), (1, 1, (.int .u32)), (1, 2, (.int .u32)), (1, 3, (.int .u64)), (1, 5, .bool), (1, 6, (.int .u32)), (1, 7, (.int .u64)), (1, 8, (.int .u64)), (1, 9, (.int .u64)), (1, 10, .bool), (1, 11, (.int .u64)), (2, 0, (.int .u32)), (2, 1, (.int .u32)), (2, 2, (.int .u32)), (2, 3, .bool), (2, 4, (.int .u32)), (2, 5, (.int .u64))], cretag := [] })]⟩
abbrev law24ServeFlows.shl8 : Shp := ⟨[.u, .u, .d (.int .u8), .u, .u, .u, .u, .p 1 0, .u, .d (.int .u64), .d (.int .u64), .u, .u, .u, .u, .u, .u, .u, .u, .u, .u, .u, .u, .u, .u, .u, .u, .u, .u, .u, .u, .u, .u, .u, .u, .u, .u, .u, .u, .u, .u, .u, .u, .u, .u, .u, .u, .u, .u, .u, .u, .u, .u, .u, .u, .u, .u, .u, .u, .u, .u, .u, .u, .u, .u, .u, .u, .u, .u, .u, .u, .u, .u, .u, .u, .u, .u, .u, .u, .u, .u, .u, .u, .u, .u, .u, .u, .u, .u, .u, .u, .u, .u, .u, .u, .u, .u, .u, .u, .u, .u, .u, .u, .u, .u, .u, .u, .u, .u], [[.u, .u, .u], [.g kS0, .d (.int .u64), .p 2 0, .d .bool, .d (.int .u32), .d (.int .u64), .d (.int .u64), .d (.int .u64), .d .bool, .d (.int .u64)], [.g kS0, .d .bool, .d (.int .u32), .d (.int .u64)]]⟩
abbrev law24ServeFlows.outl8e1 : Shp := ⟨[.u, .u, .u, .u, .u, .u, .d .bool, .u, .u, .u, .u, .u, .u, .u, .u, .u, .u, .u, .u, .u, .u, .u, .u, .u, .u, .u, .u, .u, .u, .u, .u, .u, .u, .u, .u, .u, .u, .u, .u, .u, .u, .u, .u, .u, .u, .u, .u, .u, .u, .u, .u, .u, .u, .u, .u, .u, .u, .u, .u, .u, .u, .u, .u, .u, .u, .u, .u, .u, .u, .u, .u, .u, .u, .u, .u, .u, .u, .u, .u, .u, .u, .u, .u, .u, .u, .u, .u, .u, .u, .u, .u, .u, .u, .u, .u, .u, .u, .u, .u, .u, .u, .u, .u, .u, .u, .u, .u, .u, .u], []⟩
abbrev law24ServeFlows.outl8e2 : Shp := ⟨[.u, .u, .d (.int .u8), .u, .u, .u, .u, .p 1 0, .u, .d (.int .u64), .u, .u, .u, .u, .u, .u, .u, .u, .u, .u, .u, .u, .u, .u, .u, .u, .u, .u, .u, .u, .u, .u, .u, .u, .u, .u, .u, .u, .u, .u, .u, .u, .u, .u, .u, .u, .u, .u, .u, .u, .u, .u, .u, .u, .u, .u, .u, .u, .u, .u, .u, .u, .u, .u, .u, .u, .u, .u, .u, .u, .u, .u, .u, .u, .u, .u, .u, .u, .u, .u, .u, .u, .u, .u, .u, .u, .u, .u, .u, .u, .u, .u, .u, .u, .u, .u, .u, .u, .u, .u, .u, .u, .u, .u, .u, .u, .u, .u, .u], [[.u, .u, .u], [.g kS0, .d (.int .u64), .p 2 0, .d .bool, .d (.int .u32), .d (.int .u64), .d (.int .u64), .d (.int .u64), .d .bool, .d (.int .u64)], [.g kS0, .d .bool, .d (.int .u32), .d (.int .u64)]]⟩
noncomputable def law24ServeFlows.nml8 : Norm := ⟨{ keep := [2, 7, 9, 10], shut := [(2, (.int .u8)), (9, (.int .u64)), (10, (.int .u64))], retag := [], heap := 3, dead := [0], cshut := [(1, 0, (.int .u32)), (1, 1, (.int .u32)), (1, 2, (.int .u32)), (1, 3, (.int .u64)), (1, 5, .bool), (1, 6, (.int .u32)), (1, 7, (.int .u64)), (1, 8, (.int .u64)), (1, 9, (.int .u64)), (1, 10, .bool), (1, 11, (.int .u64)), (2, 0, (.int .u32)), (2, 1, (.int .u32)), (2, 2, (.int .u32)), (2, 3, .bool), (2, 4, (.int .u32)), (2, 5, (.int .u64))], cretag := [] }, [(1, { keep := [6], shut := [(6, .bool)], retag := [], heap := 0, dead := [], cshut := [], cretag := [] }), (2, { keep := [2, 7, 9], shut := [(2, (.int .u8)), (9, (.int .u64))], retag := [], heap := 3, dead := [0], cshut := [(1, 0, (.int .u32)), (1, 1, (.int .u32)), (1, 2, (.int .u32)), (1, 3, (.int .u64)), (1, 5, .bool), (1, 6, (.int .u32)), (1, 7, (.int .u64)), (1, 8, (.int .u64)), (1, 9, (.int .u64)), (1, 10, .bool), (1, 11, (.int .u64)), (2, 0, (.int .u32)), (2, 1, (.int .u32)), (2, 2, (.int .u32)), (2, 3, .bool), (2, 4, (.int .u32)), (2, 5, (.int .u64))], cretag := [] })]⟩
noncomputable def law24ServeFlows.con : Con := { ps := [kS0, (.int .i64), (.int .u8)], rs := [.bool], f := fun n x => law24ServeFlows n x.1 x.2.1 x.2.2.1 }
noncomputable def law24ServeFlows.env : Env := { tys := [(24, ⟨kS0, 12⟩), (4, ⟨.bool, 1⟩), (47, ⟨.np, 8⟩), (27, ⟨(.int .u64), 8⟩), (5, ⟨(.int .u8), 1⟩), (56, ⟨kS3, 56⟩), (3, ⟨(.int .i64), 8⟩)], elems := [(52, 56)], ptrs := [(47, 92)], cons := [(32, law24Fixed.con), (33, ref24May.con)], objs := [(31, [serveNew.con]), (34, [serveSessionOpen.con]), (35, [serveSessionSend.con]), (37, [serveSessionCursor.con]), (38, [serveSessionAcks.con]), (39, [serveSessionMove.con])], loops := [(11, law24ServeFlows.nml11), (8, law24ServeFlows.nml8)], cuts := [], globs := globs, base := 0 }
noncomputable def law24ServeFlows.lp (n : Nat) : LP (Kd.struct law24ServeFlows.con.rs).T := fun lo κ body nm K s =>
  cond (lo && Nat.beq κ 11)
    (match law24ServeFlows.shl11.dec s with
    | some v => law24ServeFlows.l11 n (fun w0 => K .ret (law24ServeFlows.outl11e1.enc (w0, ()))) (fun w0 w1 w2 w3 w4 w5 w6 w7 w8 w9 w10 w11 w12 w13 w14 w15 => K (.exit 2) (law24ServeFlows.outl11e4.enc (w0, w1, w2, w3, w4, w5, w6, w7, w8, w9, w10, w11, w12, w13, w14, w15, ()))) n v.1 v.2.1 v.2.2.1 v.2.2.2.1 v.2.2.2.2.1 v.2.2.2.2.2.1 v.2.2.2.2.2.2.1 v.2.2.2.2.2.2.2.1 v.2.2.2.2.2.2.2.2.1 v.2.2.2.2.2.2.2.2.2.1 v.2.2.2.2.2.2.2.2.2.2.1 v.2.2.2.2.2.2.2.2.2.2.2.1 v.2.2.2.2.2.2.2.2.2.2.2.2.1 v.2.2.2.2.2.2.2.2.2.2.2.2.2.1 v.2.2.2.2.2.2.2.2.2.2.2.2.2.2.1 v.2.2.2.2.2.2.2.2.2.2.2.2.2.2.2.1 v.2.2.2.2.2.2.2.2.2.2.2.2.2.2.2.2.1 v.2.2.2.2.2.2.2.2.2.2.2.2.2.2.2.2.2.1 v.2.2.2.2.2.2.2.2.2.2.2.2.2.2.2.2.2.2.1
    | none => loops n (Kd.struct law24ServeFlows.con.rs).T lo κ body nm K s)
    (cond (lo && Nat.beq κ 8)
    (match law24ServeFlows.shl8.dec s with
    | some v => law24ServeFlows.l8 n (fun w0 => K .ret (law24ServeFlows.outl8e1.enc (w0, ()))) (fun w0 w1 w2 w3 w4 w5 w6 w7 w8 w9 w10 w11 w12 w13 w14 => K (.exit 0) (law24ServeFlows.outl8e2.enc (w0, w1, w2, w3, w4, w5, w6, w7, w8, w9, w10, w11, w12, w13, w14, ()))) n v.1 v.2.1 v.2.2.1 v.2.2.2.1 v.2.2.2.2.1 v.2.2.2.2.2.1 v.2.2.2.2.2.2.1 v.2.2.2.2.2.2.2.1 v.2.2.2.2.2.2.2.2.1 v.2.2.2.2.2.2.2.2.2.1 v.2.2.2.2.2.2.2.2.2.2.1 v.2.2.2.2.2.2.2.2.2.2.2.1 v.2.2.2.2.2.2.2.2.2.2.2.2.1 v.2.2.2.2.2.2.2.2.2.2.2.2.2.1 v.2.2.2.2.2.2.2.2.2.2.2.2.2.2.1 v.2.2.2.2.2.2.2.2.2.2.2.2.2.2.2.1
    | none => loops n (Kd.struct law24ServeFlows.con.rs).T lo κ body nm K s)
    (loops n (Kd.struct law24ServeFlows.con.rs).T lo κ body nm K s))
theorem law24ServeFlows.atl11 (n : Nat) (s : St) (K : Ex → St → Option (Kd.struct law24ServeFlows.con.rs).T) : law24ServeFlows.lp n true 11 (evK law24ServeFlows.env (law24ServeFlows.lp n) n (sub [1, 1, 1, 1, 1, 0, 1, 0, 0, 1, 0, 0, 0, 1, 0, 0] law24ServeFlows.body)) law24ServeFlows.nml11 K s = loops n (Kd.struct law24ServeFlows.con.rs).T true 11 (evK law24ServeFlows.env (law24ServeFlows.lp n) n (sub [1, 1, 1, 1, 1, 0, 1, 0, 0, 1, 0, 0, 0, 1, 0, 0] law24ServeFlows.body)) law24ServeFlows.nml11 K s := by
  show (match law24ServeFlows.shl11.dec s with | some v => law24ServeFlows.l11 n (fun w0 => K .ret (law24ServeFlows.outl11e1.enc (w0, ()))) (fun w0 w1 w2 w3 w4 w5 w6 w7 w8 w9 w10 w11 w12 w13 w14 w15 => K (.exit 2) (law24ServeFlows.outl11e4.enc (w0, w1, w2, w3, w4, w5, w6, w7, w8, w9, w10, w11, w12, w13, w14, w15, ()))) n v.1 v.2.1 v.2.2.1 v.2.2.2.1 v.2.2.2.2.1 v.2.2.2.2.2.1 v.2.2.2.2.2.2.1 v.2.2.2.2.2.2.2.1 v.2.2.2.2.2.2.2.2.1 v.2.2.2.2.2.2.2.2.2.1 v.2.2.2.2.2.2.2.2.2.2.1 v.2.2.2.2.2.2.2.2.2.2.2.1 v.2.2.2.2.2.2.2.2.2.2.2.2.1 v.2.2.2.2.2.2.2.2.2.2.2.2.2.1 v.2.2.2.2.2.2.2.2.2.2.2.2.2.2.1 v.2.2.2.2.2.2.2.2.2.2.2.2.2.2.2.1 v.2.2.2.2.2.2.2.2.2.2.2.2.2.2.2.2.1 v.2.2.2.2.2.2.2.2.2.2.2.2.2.2.2.2.2.1 v.2.2.2.2.2.2.2.2.2.2.2.2.2.2.2.2.2.2.1 | none => loops n (Kd.struct law24ServeFlows.con.rs).T true 11 (evK law24ServeFlows.env (law24ServeFlows.lp n) n (sub [1, 1, 1, 1, 1, 0, 1, 0, 0, 1, 0, 0, 0, 1, 0, 0] law24ServeFlows.body)) law24ServeFlows.nml11 K s) = _
  cases h : law24ServeFlows.shl11.dec s with
  | none => rfl
  | some v =>
    rw [Shp.dec_enc h]
    exact (evLoop_eq (sh := law24ServeFlows.shl11) (body := evK law24ServeFlows.env (law24ServeFlows.lp n) n (sub [1, 1, 1, 1, 1, 0, 1, 0, 0, 1, 0, 0, 0, 1, 0, 0] law24ServeFlows.body)) (nm := law24ServeFlows.nml11) (K := K) (b := fun nx v => law24ServeFlows.b11 n (fun x0 x1 x2 x3 x4 x5 x6 x7 x8 x9 x10 x11 x12 x13 x14 x15 x16 x17 x18 => nx (x0, x1, x2, x3, x4, x5, x6, x7, x8, x9, x10, x11, x12, x13, x14, x15, x16, x17, x18, ())) (fun w0 => K .ret (law24ServeFlows.outl11e1.enc (w0, ()))) (fun w0 w1 w2 w3 w4 w5 w6 w7 w8 w9 w10 w11 w12 w13 w14 w15 => K (.exit 2) (law24ServeFlows.outl11e4.enc (w0, w1, w2, w3, w4, w5, w6, w7, w8, w9, w10, w11, w12, w13, w14, w15, ()))) v.1 v.2.1 v.2.2.1 v.2.2.2.1 v.2.2.2.2.1 v.2.2.2.2.2.1 v.2.2.2.2.2.2.1 v.2.2.2.2.2.2.2.1 v.2.2.2.2.2.2.2.2.1 v.2.2.2.2.2.2.2.2.2.1 v.2.2.2.2.2.2.2.2.2.2.1 v.2.2.2.2.2.2.2.2.2.2.2.1 v.2.2.2.2.2.2.2.2.2.2.2.2.1 v.2.2.2.2.2.2.2.2.2.2.2.2.2.1 v.2.2.2.2.2.2.2.2.2.2.2.2.2.2.1 v.2.2.2.2.2.2.2.2.2.2.2.2.2.2.2.1 v.2.2.2.2.2.2.2.2.2.2.2.2.2.2.2.2.1 v.2.2.2.2.2.2.2.2.2.2.2.2.2.2.2.2.2.1 v.2.2.2.2.2.2.2.2.2.2.2.2.2.2.2.2.2.2.1) (l := fun m v => law24ServeFlows.l11 n (fun w0 => K .ret (law24ServeFlows.outl11e1.enc (w0, ()))) (fun w0 w1 w2 w3 w4 w5 w6 w7 w8 w9 w10 w11 w12 w13 w14 w15 => K (.exit 2) (law24ServeFlows.outl11e4.enc (w0, w1, w2, w3, w4, w5, w6, w7, w8, w9, w10, w11, w12, w13, w14, w15, ()))) m v.1 v.2.1 v.2.2.1 v.2.2.2.1 v.2.2.2.2.1 v.2.2.2.2.2.1 v.2.2.2.2.2.2.1 v.2.2.2.2.2.2.2.1 v.2.2.2.2.2.2.2.2.1 v.2.2.2.2.2.2.2.2.2.1 v.2.2.2.2.2.2.2.2.2.2.1 v.2.2.2.2.2.2.2.2.2.2.2.1 v.2.2.2.2.2.2.2.2.2.2.2.2.1 v.2.2.2.2.2.2.2.2.2.2.2.2.2.1 v.2.2.2.2.2.2.2.2.2.2.2.2.2.2.1 v.2.2.2.2.2.2.2.2.2.2.2.2.2.2.2.1 v.2.2.2.2.2.2.2.2.2.2.2.2.2.2.2.2.1 v.2.2.2.2.2.2.2.2.2.2.2.2.2.2.2.2.2.1 v.2.2.2.2.2.2.2.2.2.2.2.2.2.2.2.2.2.2.1) (fun _ => rfl) (fun _ _ => rfl) (fun m v => by kernel_rfl) n v).symm
theorem law24ServeFlows.atl8 (n : Nat) (s : St) (K : Ex → St → Option (Kd.struct law24ServeFlows.con.rs).T) : law24ServeFlows.lp n true 8 (evK law24ServeFlows.env (law24ServeFlows.lp n) n (sub [1, 1, 1, 1, 1, 0, 1, 0, 0] law24ServeFlows.body)) law24ServeFlows.nml8 K s = loops n (Kd.struct law24ServeFlows.con.rs).T true 8 (evK law24ServeFlows.env (law24ServeFlows.lp n) n (sub [1, 1, 1, 1, 1, 0, 1, 0, 0] law24ServeFlows.body)) law24ServeFlows.nml8 K s := by
  show (match law24ServeFlows.shl8.dec s with | some v => law24ServeFlows.l8 n (fun w0 => K .ret (law24ServeFlows.outl8e1.enc (w0, ()))) (fun w0 w1 w2 w3 w4 w5 w6 w7 w8 w9 w10 w11 w12 w13 w14 => K (.exit 0) (law24ServeFlows.outl8e2.enc (w0, w1, w2, w3, w4, w5, w6, w7, w8, w9, w10, w11, w12, w13, w14, ()))) n v.1 v.2.1 v.2.2.1 v.2.2.2.1 v.2.2.2.2.1 v.2.2.2.2.2.1 v.2.2.2.2.2.2.1 v.2.2.2.2.2.2.2.1 v.2.2.2.2.2.2.2.2.1 v.2.2.2.2.2.2.2.2.2.1 v.2.2.2.2.2.2.2.2.2.2.1 v.2.2.2.2.2.2.2.2.2.2.2.1 v.2.2.2.2.2.2.2.2.2.2.2.2.1 v.2.2.2.2.2.2.2.2.2.2.2.2.2.1 v.2.2.2.2.2.2.2.2.2.2.2.2.2.2.1 v.2.2.2.2.2.2.2.2.2.2.2.2.2.2.2.1 | none => loops n (Kd.struct law24ServeFlows.con.rs).T true 8 (evK law24ServeFlows.env (law24ServeFlows.lp n) n (sub [1, 1, 1, 1, 1, 0, 1, 0, 0] law24ServeFlows.body)) law24ServeFlows.nml8 K s) = _
  cases h : law24ServeFlows.shl8.dec s with
  | none => rfl
  | some v =>
    rw [Shp.dec_enc h]
    exact (evLoop_eq (sh := law24ServeFlows.shl8) (body := evK law24ServeFlows.env (law24ServeFlows.lp n) n (sub [1, 1, 1, 1, 1, 0, 1, 0, 0] law24ServeFlows.body)) (nm := law24ServeFlows.nml8) (K := K) (b := fun nx v => law24ServeFlows.b8 n (fun x0 x1 x2 x3 x4 x5 x6 x7 x8 x9 x10 x11 x12 x13 x14 x15 => nx (x0, x1, x2, x3, x4, x5, x6, x7, x8, x9, x10, x11, x12, x13, x14, x15, ())) (fun w0 => K .ret (law24ServeFlows.outl8e1.enc (w0, ()))) (fun w0 w1 w2 w3 w4 w5 w6 w7 w8 w9 w10 w11 w12 w13 w14 => K (.exit 0) (law24ServeFlows.outl8e2.enc (w0, w1, w2, w3, w4, w5, w6, w7, w8, w9, w10, w11, w12, w13, w14, ()))) v.1 v.2.1 v.2.2.1 v.2.2.2.1 v.2.2.2.2.1 v.2.2.2.2.2.1 v.2.2.2.2.2.2.1 v.2.2.2.2.2.2.2.1 v.2.2.2.2.2.2.2.2.1 v.2.2.2.2.2.2.2.2.2.1 v.2.2.2.2.2.2.2.2.2.2.1 v.2.2.2.2.2.2.2.2.2.2.2.1 v.2.2.2.2.2.2.2.2.2.2.2.2.1 v.2.2.2.2.2.2.2.2.2.2.2.2.2.1 v.2.2.2.2.2.2.2.2.2.2.2.2.2.2.1 v.2.2.2.2.2.2.2.2.2.2.2.2.2.2.2.1) (l := fun m v => law24ServeFlows.l8 n (fun w0 => K .ret (law24ServeFlows.outl8e1.enc (w0, ()))) (fun w0 w1 w2 w3 w4 w5 w6 w7 w8 w9 w10 w11 w12 w13 w14 => K (.exit 0) (law24ServeFlows.outl8e2.enc (w0, w1, w2, w3, w4, w5, w6, w7, w8, w9, w10, w11, w12, w13, w14, ()))) m v.1 v.2.1 v.2.2.1 v.2.2.2.1 v.2.2.2.2.1 v.2.2.2.2.2.1 v.2.2.2.2.2.2.1 v.2.2.2.2.2.2.2.1 v.2.2.2.2.2.2.2.2.1 v.2.2.2.2.2.2.2.2.2.1 v.2.2.2.2.2.2.2.2.2.2.1 v.2.2.2.2.2.2.2.2.2.2.2.1 v.2.2.2.2.2.2.2.2.2.2.2.2.1 v.2.2.2.2.2.2.2.2.2.2.2.2.2.1 v.2.2.2.2.2.2.2.2.2.2.2.2.2.2.1 v.2.2.2.2.2.2.2.2.2.2.2.2.2.2.2.1) (fun _ => rfl) (fun _ _ => rfl) (fun m v => by kernel_rfl) n v).symm
theorem law24ServeFlows.eq (n : Nat) (x : (Kd.struct law24ServeFlows.con.ps).T) : evFunc law24ServeFlows.env Try.f8 law24ServeFlows.body law24ServeFlows.con.ps law24ServeFlows.con.rs (law24ServeFlows.lp n) n x = law24ServeFlows.con.f n x := by kernel_rfl
theorem law24ServeFlows.sound : Sound Try.prog globs 8 law24ServeFlows.con :=
  sound_by (E := law24ServeFlows.env) (c := law24ServeFlows.body) (envOk (G := globs) (lc := [(32, law24Fixed.con), (33, ref24May.con)]) (lo := [(31, [serveNew.con]), (34, [serveSessionOpen.con]), (35, [serveSessionSend.con]), (37, [serveSessionCursor.con]), (38, [serveSessionAcks.con]), (39, [serveSessionMove.con])]) (envB_spec (by kernel_rfl)) rfl rfl ⟨.inl ⟨law24Fixed.sound, by kernel_rfl⟩, ⟨.inl ⟨ref24May.sound, by kernel_rfl⟩, trivial⟩⟩ rfl ⟨⟨⟨serveNew.sound, trivial⟩, by kernel_rfl⟩, ⟨⟨⟨serveSessionOpen.sound, trivial⟩, by kernel_rfl⟩, ⟨⟨⟨serveSessionSend.sound, trivial⟩, by kernel_rfl⟩, ⟨⟨⟨serveSessionCursor.sound, trivial⟩, by kernel_rfl⟩, ⟨⟨⟨serveSessionAcks.sound, trivial⟩, by kernel_rfl⟩, ⟨⟨⟨serveSessionMove.sound, trivial⟩, by kernel_rfl⟩, trivial⟩⟩⟩⟩⟩⟩ (by kernel_rfl) (by kernel_rfl)) Try.func8 (by kernel_rfl) law24ServeFlows.lp (l := [(true, sub [1, 1, 1, 1, 1, 0, 1, 0, 0, 1, 0, 0, 0, 1, 0, 0] law24ServeFlows.body, law24ServeFlows.nml11), (true, sub [1, 1, 1, 1, 1, 0, 1, 0, 0] law24ServeFlows.body, law24ServeFlows.nml8)]) (by kernel_rfl) (fun n => ⟨law24ServeFlows.atl11 n, ⟨law24ServeFlows.atl8 n, trivial⟩⟩) law24ServeFlows.eq
end
end Go.Shal.Pr
