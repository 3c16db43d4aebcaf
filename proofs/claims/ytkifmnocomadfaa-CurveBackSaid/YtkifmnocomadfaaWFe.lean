/- The reading of (poundage line.Line int ).Span. -/
import Derived.Test.YtkifmnocomadfaaWTy
section
set_option linter.unusedVariables false
set_option maxRecDepth 100000
namespace Go.Proofs.Ytkifmnocomadfaa
open Go.V

noncomputable def F40 (N : Nat) : (D48 × Unit) → Option (Int × (Int × D159)) := fun x =>
cond ((x.1.1.length : Int) == (0 : Int)) (
some ((0 : Int), (0 : Int), false, ())) (
if 0 ≤ (0 : Int) then
if (0 : Int) < (x.1.1.length : Int) then
let e1 : D87 := rdAt (t := t87) x.1.1 (0 : Int)
let v2 := (IntKind.i64.wrap ((x.1.1.length : Int) - (1 : Int)))
if 0 ≤ v2 then
if v2 < (x.1.1.length : Int) then
let e3 : D87 := rdAt (t := t87) x.1.1 v2
some (e1.1, e3.2.1, true, ())
else none
else none
else none
else none)

noncomputable def ps40 : List Ty := [t48]
noncomputable def rs40 : List Ty := [(.int .i64), (.int .i64), .bool]
noncomputable def ty40 : List (TypeId × Ty) := [(3, (.int .i64)), (47, (.sl 88 t87)), (49, t48), (88, t87)]
noncomputable def by40 : List (TypeId × Nat) := []
noncomputable def eq40 : List TypeId := []
noncomputable def E40 : Go.V.Env := { ty := ty40, bytes := by40, fn := [], eqs := eq40, inl := [] }
noncomputable def M40 : List (Nat × Go.V.Mark (Ty.prods rs40).den) := []
noncomputable def C40 (N : Nat) : Go.V.Ctx (Ty.prods rs40).den := { E := E40, n := Go.Proofs.Try.f40.ntmps, marks := M40, fin := Go.V.finish (E40) Go.Proofs.Try.f40 rs40, N }
noncomputable def c40 : Code := (Go.Proofs.Try.f40.body).getD .skip

theorem tab40 : tablesB Go.Proofs.Try.prog ty40 by40 eq40 = true := by kernel_rfl
theorem ob40 (N : Nat) : obls (C40 N) 1 c40 = [] := by kernel_rfl
theorem eF40 (N : Nat) (x : (Ty.prods ps40).den) : Go.V.evBody (E40) Go.Proofs.Try.f40 rs40 (M40) N (Go.V.start Go.Proofs.Try.f40 ps40 x) = F40 N x := by kernel_rfl
theorem s40 (N : Nat) : Sound Go.Proofs.Try.prog 40 { ps := ps40, rs := rs40, f := F40 N } := by
  have hE : EnvOk Go.Proofs.Try.prog (E40) := env_ok tab40 (by
    intro p hp
    cases hp) (by
    intro p hp
    cases hp)
  have h := fn_sound hE (by kernel_rfl) Go.Proofs.Try.func40 (show Go.Proofs.Try.f40.body = some c40 by kernel_rfl) ps40 rs40 (M40) N (by
    intro o ho
    have ho : o ∈ obls (C40 N) 1 c40 := ho
    rw [ob40] at ho
    cases ho)
  have e : (fun x => Go.V.evBody (E40) Go.Proofs.Try.f40 rs40 (M40) N (Go.V.start Go.Proofs.Try.f40 ps40 x)) = F40 N := funext fun x => eF40 N x
  rw [e] at h
  exact h

end Go.Proofs.Ytkifmnocomadfaa
end

/- The reading of slices.Values   poundage line.Run int  poundage line.Run int  . -/
section
set_option linter.unusedVariables false
set_option maxRecDepth 100000
namespace Go.Proofs.Ytkifmnocomadfaa
open Go.V

noncomputable def F65 (N : Nat) : D48 → Option (((List D87) × Unit) × Unit) := fun x =>
some ((x.1, ()), ())

noncomputable def ps65 : List Ty := [(.sl 88 t87)]
noncomputable def rs65 : List Ty := [(.clo 87 (.pair (.ref (.sl 88 t87)) .unit))]
noncomputable def ty65 : List (TypeId × Ty) := [(47, (.sl 88 t87)), (88, t87)]
noncomputable def by65 : List (TypeId × Nat) := []
noncomputable def eq65 : List TypeId := []
noncomputable def E65 : Go.V.Env := { ty := ty65, bytes := by65, fn := [], eqs := eq65, inl := [] }
noncomputable def M65 : List (Nat × Go.V.Mark (Ty.prods rs65).den) := []
noncomputable def C65 (N : Nat) : Go.V.Ctx (Ty.prods rs65).den := { E := E65, n := Go.Proofs.Try.f65.ntmps, marks := M65, fin := Go.V.finish (E65) Go.Proofs.Try.f65 rs65, N }
noncomputable def c65 : Code := (Go.Proofs.Try.f65.body).getD .skip

theorem tab65 : tablesB Go.Proofs.Try.prog ty65 by65 eq65 = true := by kernel_rfl
theorem ob65 (N : Nat) : obls (C65 N) 1 c65 = [] := by kernel_rfl
theorem eF65 (N : Nat) (x : (Ty.prods ps65).den) : Go.V.evBody (E65) Go.Proofs.Try.f65 rs65 (M65) N (Go.V.start Go.Proofs.Try.f65 ps65 x) = F65 N x := by kernel_rfl
theorem s65 (N : Nat) : Sound Go.Proofs.Try.prog 65 { ps := ps65, rs := rs65, f := F65 N } := by
  have hE : EnvOk Go.Proofs.Try.prog (E65) := env_ok tab65 (by
    intro p hp
    cases hp) (by
    intro p hp
    cases hp)
  have h := fn_sound hE (by kernel_rfl) Go.Proofs.Try.func65 (show Go.Proofs.Try.f65.body = some c65 by kernel_rfl) ps65 rs65 (M65) N (by
    intro o ho
    have ho : o ∈ obls (C65 N) 1 c65 := ho
    rw [ob65] at ho
    cases ho)
  have e : (fun x => Go.V.evBody (E65) Go.Proofs.Try.f65 rs65 (M65) N (Go.V.start Go.Proofs.Try.f65 ps65 x)) = F65 N := funext fun x => eF65 N x
  rw [e] at h
  exact h

end Go.Proofs.Ytkifmnocomadfaa
end

/- The reading of (poundage line.Line int ).Runs. -/
section
set_option linter.unusedVariables false
set_option maxRecDepth 100000
namespace Go.Proofs.Ytkifmnocomadfaa
open Go.V

noncomputable def F42 (N : Nat) (g65 : D48 → Option (((List D87) × Unit) × Unit)) : (D48 × Unit) → Option (((List D87) × Unit) × Unit) := fun x =>
(g65 x.1).bind fun r1 =>
some r1

noncomputable def ps42 : List Ty := [t48]
noncomputable def rs42 : List Ty := [(.clo 87 (.pair (.ref (.sl 88 t87)) .unit))]
noncomputable def ty42 : List (TypeId × Ty) := [(47, (.sl 88 t87)), (49, t48), (88, t87)]
noncomputable def by42 : List (TypeId × Nat) := []
noncomputable def eq42 : List TypeId := []
noncomputable def E42 (g65 : D48 → Option (((List D87) × Unit) × Unit)) : Go.V.Env := { ty := ty42, bytes := by42, fn := [(65, { ps := [(.sl 88 t87)], rs := [(.clo 87 (.pair (.ref (.sl 88 t87)) .unit))], f := g65 })], eqs := eq42, inl := [] }
noncomputable def M42 (g65 : D48 → Option (((List D87) × Unit) × Unit)) : List (Nat × Go.V.Mark (Ty.prods rs42).den) := []
noncomputable def C42 (N : Nat) (g65 : D48 → Option (((List D87) × Unit) × Unit)) : Go.V.Ctx (Ty.prods rs42).den := { E := E42 g65, n := Go.Proofs.Try.f42.ntmps, marks := M42 g65, fin := Go.V.finish (E42 g65) Go.Proofs.Try.f42 rs42, N }
noncomputable def c42 : Code := (Go.Proofs.Try.f42.body).getD .skip

theorem tab42 : tablesB Go.Proofs.Try.prog ty42 by42 eq42 = true := by kernel_rfl
theorem ob42 (N : Nat) (g65 : D48 → Option (((List D87) × Unit) × Unit)) : obls (C42 N g65) 1 c42 = [] := by kernel_rfl
theorem eF42 (N : Nat) (g65 : D48 → Option (((List D87) × Unit) × Unit)) (x : (Ty.prods ps42).den) : Go.V.evBody (E42 g65) Go.Proofs.Try.f42 rs42 (M42 g65) N (Go.V.start Go.Proofs.Try.f42 ps42 x) = F42 N g65 x := by kernel_rfl
theorem s42 (N : Nat) (g65 : D48 → Option (((List D87) × Unit) × Unit)) (h65 : Sound Go.Proofs.Try.prog 65 { ps := [(.sl 88 t87)], rs := [(.clo 87 (.pair (.ref (.sl 88 t87)) .unit))], f := g65 }) : Sound Go.Proofs.Try.prog 42 { ps := ps42, rs := rs42, f := F42 N g65 } := by
  have hE : EnvOk Go.Proofs.Try.prog (E42 g65) := env_ok tab42 (by
    intro p hp
    simp only [List.mem_cons, List.not_mem_nil, or_false] at hp
    rcases hp with rfl
    · exact ⟨h65, Go.Proofs.Try.f65, Go.Proofs.Try.func65, by kernel_rfl, by kernel_rfl⟩) (by
    intro p hp
    cases hp)
  have h := fn_sound hE (by kernel_rfl) Go.Proofs.Try.func42 (show Go.Proofs.Try.f42.body = some c42 by kernel_rfl) ps42 rs42 (M42 g65) N (by
    intro o ho
    have ho : o ∈ obls (C42 N g65) 1 c42 := ho
    rw [ob42] at ho
    cases ho)
  have e : (fun x => Go.V.evBody (E42 g65) Go.Proofs.Try.f42 rs42 (M42 g65) N (Go.V.start Go.Proofs.Try.f42 ps42 x)) = F42 N g65 := funext fun x => eF42 N g65 x
  rw [e] at h
  exact h

end Go.Proofs.Ytkifmnocomadfaa
end

/- The reading of poundage curve.Of 1. -/
section
set_option linter.unusedVariables false
set_option maxRecDepth 100000
namespace Go.Proofs.Ytkifmnocomadfaa
open Go.V

noncomputable def F44 (N : Nat) : (D87 × Unit) → Option D159 := fun x =>
cond (decide (x.1.2.2.1 < (-2305843009213693952 : Int))) (
some (true, ())) (
let v1 := (decide (x.1.2.2.1 > (2305843009213693952 : Int)))
some (v1, ()))

noncomputable def ps44 : List Ty := [t87]
noncomputable def rs44 : List Ty := [.bool]
noncomputable def ty44 : List (TypeId × Ty) := [(3, (.int .i64)), (88, t87)]
noncomputable def by44 : List (TypeId × Nat) := []
noncomputable def eq44 : List TypeId := []
noncomputable def E44 : Go.V.Env := { ty := ty44, bytes := by44, fn := [], eqs := eq44, inl := [] }
noncomputable def M44 : List (Nat × Go.V.Mark (Ty.prods rs44).den) := []
noncomputable def C44 (N : Nat) : Go.V.Ctx (Ty.prods rs44).den := { E := E44, n := Go.Proofs.Try.f44.ntmps, marks := M44, fin := Go.V.finish (E44) Go.Proofs.Try.f44 rs44, N }
noncomputable def c44 : Code := (Go.Proofs.Try.f44.body).getD .skip

theorem tab44 : tablesB Go.Proofs.Try.prog ty44 by44 eq44 = true := by kernel_rfl
theorem ob44 (N : Nat) : obls (C44 N) 1 c44 = [] := by kernel_rfl
theorem eF44 (N : Nat) (x : (Ty.prods ps44).den) : Go.V.evBody (E44) Go.Proofs.Try.f44 rs44 (M44) N (Go.V.start Go.Proofs.Try.f44 ps44 x) = F44 N x := by kernel_rfl
theorem s44 (N : Nat) : Sound Go.Proofs.Try.prog 44 { ps := ps44, rs := rs44, f := F44 N } := by
  have hE : EnvOk Go.Proofs.Try.prog (E44) := env_ok tab44 (by
    intro p hp
    cases hp) (by
    intro p hp
    cases hp)
  have h := fn_sound hE (by kernel_rfl) Go.Proofs.Try.func44 (show Go.Proofs.Try.f44.body = some c44 by kernel_rfl) ps44 rs44 (M44) N (by
    intro o ho
    have ho : o ∈ obls (C44 N) 1 c44 := ho
    rw [ob44] at ho
    cases ho)
  have e : (fun x => Go.V.evBody (E44) Go.Proofs.Try.f44 rs44 (M44) N (Go.V.start Go.Proofs.Try.f44 ps44 x)) = F44 N := funext fun x => eF44 N x
  rw [e] at h
  exact h

end Go.Proofs.Ytkifmnocomadfaa
end

/- The reading of slices.IndexFunc   poundage line.Run int  poundage line.Run int  . -/
section
set_option linter.unusedVariables false
set_option maxRecDepth 100000
namespace Go.Proofs.Ytkifmnocomadfaa
open Go.V

noncomputable def L66_0i : Shape := { items := [.tm 0 (.sl 88 t87), .tm 1 (.clo 44 .unit), .tm 7 (.int .i64), .tm 8 (.int .i64)], boxes := [] }
noncomputable def L66_0o : Shape := { items := [], boxes := [] }
noncomputable def L66_0 (N : Nat) (g44 : (D87 × Unit) → Option D159) : Nat → ((List D87) × (Unit × D146)) → (Unit → Option (Int × Unit)) → Option (Int × Unit)
| 0, _, _ => none
| k + 1, x1, Kx =>
cond (decide (x1.2.2.2.1 < x1.2.2.1)) (
if 0 ≤ x1.2.2.2.1 then
if x1.2.2.2.1 < (x1.1.length : Int) then
let e2 : D87 := rdAt (t := t87) x1.1 x1.2.2.2.1
(g44 (e2, ())).bind fun r3 =>
cond r3.1 (
some x1.2.2.2) (
L66_0 N g44 k (x1.1, x1.2.1, x1.2.2.1, (IntKind.i64.wrap (x1.2.2.2.1 + (1 : Int))), ()) Kx)
else none
else none) (
Kx ())

noncomputable def F66 (N : Nat) (g44 : (D87 × Unit) → Option D159) : ((List D87) × (Unit × Unit)) → Option (Int × Unit) := fun x =>
L66_0 N g44 N (x.1, x.2.1, (x.1.length : Int), (0 : Int), ()) fun y4 =>
some ((-1 : Int), ())

noncomputable def ps66 : List Ty := [(.sl 88 t87), (.clo 44 .unit)]
noncomputable def rs66 : List Ty := [(.int .i64)]
noncomputable def ty66 : List (TypeId × Ty) := [(3, (.int .i64)), (47, (.sl 88 t87)), (88, t87)]
noncomputable def by66 : List (TypeId × Nat) := []
noncomputable def eq66 : List TypeId := []
noncomputable def E66 (g44 : (D87 × Unit) → Option D159) : Go.V.Env := { ty := ty66, bytes := by66, fn := [(44, { ps := [t87], rs := [.bool], f := g44 })], eqs := eq66, inl := [] }
noncomputable def M66 (g44 : (D87 × Unit) → Option D159) : List (Nat × Go.V.Mark (Ty.prods rs66).den) := [(52, { ins := L66_0i, outs := L66_0o, ex := some 0, f := fun N => L66_0 N g44 })]
noncomputable def C66 (N : Nat) (g44 : (D87 × Unit) → Option D159) : Go.V.Ctx (Ty.prods rs66).den := { E := E66 g44, n := Go.Proofs.Try.f66.ntmps, marks := M66 g44, fin := Go.V.finish (E66 g44) Go.Proofs.Try.f66 rs66, N }
noncomputable def c66 : Code := (Go.Proofs.Try.f66.body).getD .skip

theorem tab66 : tablesB Go.Proofs.Try.prog ty66 by66 eq66 = true := by kernel_rfl
theorem oL66_0 (N : Nat) (g44 : (D87 × Unit) → Option D159) : (Obl.loop { ins := L66_0i, outs := L66_0o, ex := some 0, f := fun N => L66_0 N g44 } 52 (subc [true, false, true, false, false] c66) : Obl (Ty.prods rs66).den).holds (C66 N g44) := by
  intro x Kx
  exact ⟨by kernel_rfl, fun k => by kernel_rfl⟩
theorem ob66 (N : Nat) (g44 : (D87 × Unit) → Option D159) : obls (C66 N g44) 1 c66 = [.loop { ins := L66_0i, outs := L66_0o, ex := some 0, f := fun N => L66_0 N g44 } 52 (subc [true, false, true, false, false] c66)] := by kernel_rfl
theorem eF66 (N : Nat) (g44 : (D87 × Unit) → Option D159) (x : (Ty.prods ps66).den) : Go.V.evBody (E66 g44) Go.Proofs.Try.f66 rs66 (M66 g44) N (Go.V.start Go.Proofs.Try.f66 ps66 x) = F66 N g44 x := by kernel_rfl
theorem s66 (N : Nat) (g44 : (D87 × Unit) → Option D159) (h44 : Sound Go.Proofs.Try.prog 44 { ps := [t87], rs := [.bool], f := g44 }) : Sound Go.Proofs.Try.prog 66 { ps := ps66, rs := rs66, f := F66 N g44 } := by
  have hE : EnvOk Go.Proofs.Try.prog (E66 g44) := env_ok tab66 (by
    intro p hp
    simp only [List.mem_cons, List.not_mem_nil, or_false] at hp
    rcases hp with rfl
    · exact ⟨h44, Go.Proofs.Try.f44, Go.Proofs.Try.func44, by kernel_rfl, by kernel_rfl⟩) (by
    intro p hp
    cases hp)
  have h := fn_sound hE (by kernel_rfl) Go.Proofs.Try.func66 (show Go.Proofs.Try.f66.body = some c66 by kernel_rfl) ps66 rs66 (M66 g44) N (by
    intro o ho
    have ho : o ∈ obls (C66 N g44) 1 c66 := ho
    rw [ob66] at ho
    simp only [List.mem_cons, List.not_mem_nil, or_false] at ho
    rcases ho with rfl
    · exact oL66_0 N g44)
  have e : (fun x => Go.V.evBody (E66 g44) Go.Proofs.Try.f66 rs66 (M66 g44) N (Go.V.start Go.Proofs.Try.f66 ps66 x)) = F66 N g44 := funext fun x => eF66 N g44 x
  rw [e] at h
  exact h

end Go.Proofs.Ytkifmnocomadfaa
end

/- The reading of slices.ContainsFunc   poundage line.Run int  poundage line.Run int  . -/
section
set_option linter.unusedVariables false
set_option maxRecDepth 100000
namespace Go.Proofs.Ytkifmnocomadfaa
open Go.V

noncomputable def F43 (N : Nat) (g66 : ((List D87) × (Unit × Unit)) → Option (Int × Unit)) : ((List D87) × (Unit × Unit)) → Option D159 := fun x =>
(g66 x).bind fun r1 =>
some ((decide (r1.1 ≥ (0 : Int))), ())

noncomputable def ps43 : List Ty := [(.sl 88 t87), (.clo 44 .unit)]
noncomputable def rs43 : List Ty := [.bool]
noncomputable def ty43 : List (TypeId × Ty) := [(3, (.int .i64))]
noncomputable def by43 : List (TypeId × Nat) := []
noncomputable def eq43 : List TypeId := []
noncomputable def E43 (g66 : ((List D87) × (Unit × Unit)) → Option (Int × Unit)) : Go.V.Env := { ty := ty43, bytes := by43, fn := [(66, { ps := [(.sl 88 t87), (.clo 44 .unit)], rs := [(.int .i64)], f := g66 })], eqs := eq43, inl := [] }
noncomputable def M43 (g66 : ((List D87) × (Unit × Unit)) → Option (Int × Unit)) : List (Nat × Go.V.Mark (Ty.prods rs43).den) := []
noncomputable def C43 (N : Nat) (g66 : ((List D87) × (Unit × Unit)) → Option (Int × Unit)) : Go.V.Ctx (Ty.prods rs43).den := { E := E43 g66, n := Go.Proofs.Try.f43.ntmps, marks := M43 g66, fin := Go.V.finish (E43 g66) Go.Proofs.Try.f43 rs43, N }
noncomputable def c43 : Code := (Go.Proofs.Try.f43.body).getD .skip

theorem tab43 : tablesB Go.Proofs.Try.prog ty43 by43 eq43 = true := by kernel_rfl
theorem ob43 (N : Nat) (g66 : ((List D87) × (Unit × Unit)) → Option (Int × Unit)) : obls (C43 N g66) 1 c43 = [] := by kernel_rfl
theorem eF43 (N : Nat) (g66 : ((List D87) × (Unit × Unit)) → Option (Int × Unit)) (x : (Ty.prods ps43).den) : Go.V.evBody (E43 g66) Go.Proofs.Try.f43 rs43 (M43 g66) N (Go.V.start Go.Proofs.Try.f43 ps43 x) = F43 N g66 x := by kernel_rfl
theorem s43 (N : Nat) (g66 : ((List D87) × (Unit × Unit)) → Option (Int × Unit)) (h66 : Sound Go.Proofs.Try.prog 66 { ps := [(.sl 88 t87), (.clo 44 .unit)], rs := [(.int .i64)], f := g66 }) : Sound Go.Proofs.Try.prog 43 { ps := ps43, rs := rs43, f := F43 N g66 } := by
  have hE : EnvOk Go.Proofs.Try.prog (E43 g66) := env_ok tab43 (by
    intro p hp
    simp only [List.mem_cons, List.not_mem_nil, or_false] at hp
    rcases hp with rfl
    · exact ⟨h66, Go.Proofs.Try.f66, Go.Proofs.Try.func66, by kernel_rfl, by kernel_rfl⟩) (by
    intro p hp
    cases hp)
  have h := fn_sound hE (by kernel_rfl) Go.Proofs.Try.func43 (show Go.Proofs.Try.f43.body = some c43 by kernel_rfl) ps43 rs43 (M43 g66) N (by
    intro o ho
    have ho : o ∈ obls (C43 N g66) 1 c43 := ho
    rw [ob43] at ho
    cases ho)
  have e : (fun x => Go.V.evBody (E43 g66) Go.Proofs.Try.f43 rs43 (M43 g66) N (Go.V.start Go.Proofs.Try.f43 ps43 x)) = F43 N g66 := funext fun x => eF43 N g66 x
  rw [e] at h
  exact h

end Go.Proofs.Ytkifmnocomadfaa
end

/- The reading of poundage curve.group. -/
section
set_option linter.unusedVariables false
set_option maxRecDepth 100000
namespace Go.Proofs.Ytkifmnocomadfaa
open Go.V

noncomputable def L45_0i : Shape := { items := [.tm 0 (.sl 88 t87), .ptr 2 0 0, .bx 0 0 t77, .ptr 4 1 0, .bx 1 0 t77], boxes := [78, 78] }
noncomputable def L45_0o : Shape := { items := [.ptr 2 0 0, .bx 0 0 t77, .ptr 4 1 0, .bx 1 0 t77], boxes := [78, 78] }
noncomputable def L45_0 (N : Nat) : Nat → ((List D87) × (Unit × (D77 × (Unit × (D77 × Unit))))) → ((Unit × (D77 × (Unit × (D77 × Unit)))) → Option (D77 × (Int × Unit))) → Option (D77 × (Int × Unit))
| 0, _, _ => none
| k + 1, x7, Kx =>
cond (decide (x7.2.2.2.2.1.2.2.2.2.1 < (x7.1.length : Int))) (
let v8 := (IntKind.i64.wrap (x7.2.2.2.2.1.2.2.2.2.1 - (1 : Int)))
if 0 ≤ v8 then
if v8 < (x7.1.length : Int) then
let e9 : D87 := rdAt (t := t87) x7.1 v8
if 0 ≤ x7.2.2.2.2.1.2.2.2.2.1 then
if x7.2.2.2.2.1.2.2.2.2.1 < (x7.1.length : Int) then
let e10 : D87 := rdAt (t := t87) x7.1 x7.2.2.2.2.1.2.2.2.2.1
cond ((IntKind.i64.wrap (e10.1 - e9.1)) != x7.2.2.2.2.1.2.2.1) (
Kx ((), x7.2.2.1, (), x7.2.2.2.2.1, ())) (
cond ((IntKind.i64.wrap (e10.2.2.1 - e9.2.2.1)) != x7.2.2.2.2.1.2.2.2.1) (
Kx ((), x7.2.2.1, (), x7.2.2.2.2.1, ())) (
let v11 := (IntKind.i64.wrap (x7.2.2.2.2.1.2.2.2.2.1 + (1 : Int)))
L45_0 N k (x7.1, (), x7.2.2.1, (), (x7.2.2.2.2.1.1, x7.2.2.2.2.1.2.1, x7.2.2.2.2.1.2.2.1, x7.2.2.2.2.1.2.2.2.1, v11, ()), ()) Kx))
else none
else none
else none
else none) (
Kx ((), x7.2.2.1, (), x7.2.2.2.2.1, ()))

noncomputable def F45 (N : Nat) : D48 → Option (D77 × (Int × Unit)) := fun x =>
if 0 ≤ (0 : Int) then
if (0 : Int) < (x.1.length : Int) then
let e1 : D87 := rdAt (t := t87) x.1 (0 : Int)
if 0 ≤ (0 : Int) then
if (0 : Int) < (x.1.length : Int) then
let e2 : D87 := rdAt (t := t87) x.1 (0 : Int)
cond ((x.1.length : Int) == (1 : Int)) (
some ((e1.1, e2.2.2.1, (0 : Int), (0 : Int), (1 : Int), ()), (1 : Int), ())) (
if 0 ≤ (1 : Int) then
if (1 : Int) < (x.1.length : Int) then
let e3 : D87 := rdAt (t := t87) x.1 (1 : Int)
if 0 ≤ (0 : Int) then
if (0 : Int) < (x.1.length : Int) then
let e4 : D87 := rdAt (t := t87) x.1 (0 : Int)
if 0 ≤ (1 : Int) then
if (1 : Int) < (x.1.length : Int) then
let e5 : D87 := rdAt (t := t87) x.1 (1 : Int)
if 0 ≤ (0 : Int) then
if (0 : Int) < (x.1.length : Int) then
let e6 : D87 := rdAt (t := t87) x.1 (0 : Int)
L45_0 N N (x.1, (), ((0 : Int), (0 : Int), (0 : Int), (0 : Int), (0 : Int), ()), (), (e1.1, e2.2.2.1, (IntKind.i64.wrap (e3.1 - e4.1)), (IntKind.i64.wrap (e5.2.2.1 - e6.2.2.1)), (1 : Int), ()), ()) fun y12 =>
some (y12.2.2.2.1, y12.2.2.2.1.2.2.2.2)
else none
else none
else none
else none
else none
else none
else none
else none)
else none
else none
else none
else none

noncomputable def ps45 : List Ty := [(.sl 88 t87)]
noncomputable def rs45 : List Ty := [t77, (.int .i64)]
noncomputable def ty45 : List (TypeId × Ty) := [(3, (.int .i64)), (47, (.sl 88 t87)), (78, t77), (88, t87)]
noncomputable def by45 : List (TypeId × Nat) := []
noncomputable def eq45 : List TypeId := []
noncomputable def E45 : Go.V.Env := { ty := ty45, bytes := by45, fn := [], eqs := eq45, inl := [] }
noncomputable def M45 : List (Nat × Go.V.Mark (Ty.prods rs45).den) := [(248, { ins := L45_0i, outs := L45_0o, ex := some 0, f := fun N => L45_0 N })]
noncomputable def C45 (N : Nat) : Go.V.Ctx (Ty.prods rs45).den := { E := E45, n := Go.Proofs.Try.f45.ntmps, marks := M45, fin := Go.V.finish (E45) Go.Proofs.Try.f45 rs45, N }
noncomputable def c45 : Code := (Go.Proofs.Try.f45.body).getD .skip

theorem tab45 : tablesB Go.Proofs.Try.prog ty45 by45 eq45 = true := by kernel_rfl
theorem oL45_0 (N : Nat) : (Obl.loop { ins := L45_0i, outs := L45_0o, ex := some 0, f := fun N => L45_0 N } 248 (subc [true, true, true, true, false, false, false] c45) : Obl (Ty.prods rs45).den).holds (C45 N) := by
  intro x Kx
  exact ⟨by kernel_rfl, fun k => by kernel_rfl⟩
theorem ob45 (N : Nat) : obls (C45 N) 1 c45 = [.loop { ins := L45_0i, outs := L45_0o, ex := some 0, f := fun N => L45_0 N } 248 (subc [true, true, true, true, false, false, false] c45)] := by kernel_rfl
theorem eF45 (N : Nat) (x : (Ty.prods ps45).den) : Go.V.evBody (E45) Go.Proofs.Try.f45 rs45 (M45) N (Go.V.start Go.Proofs.Try.f45 ps45 x) = F45 N x := by kernel_rfl
theorem s45 (N : Nat) : Sound Go.Proofs.Try.prog 45 { ps := ps45, rs := rs45, f := F45 N } := by
  have hE : EnvOk Go.Proofs.Try.prog (E45) := env_ok tab45 (by
    intro p hp
    cases hp) (by
    intro p hp
    cases hp)
  have h := fn_sound hE (by kernel_rfl) Go.Proofs.Try.func45 (show Go.Proofs.Try.f45.body = some c45 by kernel_rfl) ps45 rs45 (M45) N (by
    intro o ho
    have ho : o ∈ obls (C45 N) 1 c45 := ho
    rw [ob45] at ho
    simp only [List.mem_cons, List.not_mem_nil, or_false] at ho
    rcases ho with rfl
    · exact oL45_0 N)
  have e : (fun x => Go.V.evBody (E45) Go.Proofs.Try.f45 rs45 (M45) N (Go.V.start Go.Proofs.Try.f45 ps45 x)) = F45 N := funext fun x => eF45 N x
  rw [e] at h
  exact h

end Go.Proofs.Ytkifmnocomadfaa
end

/- The reading of poundage curve.Of. -/
section
set_option linter.unusedVariables false
set_option maxRecDepth 100000
namespace Go.Proofs.Ytkifmnocomadfaa
open Go.V

noncomputable def L16_0i : Shape := { items := [.ptr 2 1 0, .bx 1 0 (.int .i64), .tm 7 (.sl 88 t87), .ptr 8 2 0, .bx 2 0 (.int .i64), .ownB 1 1 78 t77, .ownB 2 1 78 t77], boxes := [49, 53, 53] }
noncomputable def L16_0o : Shape := { items := [.ptr 2 1 0, .bx 1 0 (.int .i64), .ptr 8 2 0, .bx 2 0 (.int .i64), .ownB 1 1 78 t77, .ownB 2 1 78 t77], boxes := [49, 53, 53] }
noncomputable def L16_0 (N : Nat) (g40 : (D48 × Unit) → Option (Int × (Int × D159))) (g41 : (((List D87) × Unit) × Unit) → Option D48) (g42 : (D48 × Unit) → Option (((List D87) × Unit) × Unit)) (g43 : ((List D87) × (Unit × Unit)) → Option D159) (g45 : D48 → Option (D77 × (Int × Unit))) : Nat → (Unit × (Int × ((List D87) × (Unit × (Int × ((List D77) × ((List D77) × Unit))))))) → ((Unit × (Int × (Unit × (Int × ((List D77) × ((List D77) × Unit)))))) → Option (D52 × D159)) → Option (D52 × D159)
| 0, _, _ => none
| k + 1, x5, Kx =>
cond (decide ((x5.2.2.1.length : Int) > (0 : Int))) (
(g45 (x5.2.2.1, ())).bind fun r6 =>
if x5.2.2.2.2.2.2.1.length + 1 ≤ 3518437208883 then
if 0 ≤ r6.2.1 then
if r6.2.1 ≤ (x5.2.2.1.length : Int) then
if (x5.2.2.1.length : Int) ≤ (x5.2.2.1.length : Int) then
let v7 := ((x5.2.2.1.take ((x5.2.2.1.length : Int)).toNat).drop (r6.2.1).toNat)
L16_0 N g40 g41 g42 g43 g45 k ((), x5.2.1, v7, (), x5.2.2.2.2.1, x5.2.2.2.2.2.1, (x5.2.2.2.2.2.2.1 ++ [r6.1]), ()) Kx
else none
else none
else none
else none) (
Kx ((), x5.2.1, (), x5.2.2.2.2.1, x5.2.2.2.2.2.1, x5.2.2.2.2.2.2.1, ()))

noncomputable def F16 (N : Nat) (g40 : (D48 × Unit) → Option (Int × (Int × D159))) (g41 : (((List D87) × Unit) × Unit) → Option D48) (g42 : (D48 × Unit) → Option (((List D87) × Unit) × Unit)) (g43 : ((List D87) × (Unit × Unit)) → Option D159) (g45 : D48 → Option (D77 × (Int × Unit))) : (D48 × Unit) → Option (D52 × D159) := fun x =>
(g40 x).bind fun r1 =>
cond (!r1.2.2.1) (
some (((0 : Int), [], ()), false, ())) (
cond (r1.1 != (0 : Int)) (
some (((0 : Int), [], ()), false, ())) (
cond (decide (r1.2.1 > (2000 : Int))) (
some (((0 : Int), [], ()), false, ())) (
(g42 x).bind fun r2 =>
(g41 r2).bind fun r3 =>
(g43 (r3.1, (), ())).bind fun r4 =>
cond r4.1 (
some (((0 : Int), [], ()), false, ())) (
L16_0 N g40 g41 g42 g43 g45 N ((), (0 : Int), r3.1, (), r1.2.1, [], [], ()) fun y8 =>
some ((y8.2.2.2.1, y8.2.2.2.2.2), true, ())))))

noncomputable def ps16 : List Ty := [t48]
noncomputable def rs16 : List Ty := [t52, .bool]
noncomputable def ty16 : List (TypeId × Ty) := [(3, (.int .i64)), (47, (.sl 88 t87)), (49, t48), (51, (.sl 78 t77)), (53, t52), (78, t77), (88, t87)]
noncomputable def by16 : List (TypeId × Nat) := [(78, 40)]
noncomputable def eq16 : List TypeId := []
noncomputable def E16 (g40 : (D48 × Unit) → Option (Int × (Int × D159))) (g41 : (((List D87) × Unit) × Unit) → Option D48) (g42 : (D48 × Unit) → Option (((List D87) × Unit) × Unit)) (g43 : ((List D87) × (Unit × Unit)) → Option D159) (g45 : D48 → Option (D77 × (Int × Unit))) : Go.V.Env := { ty := ty16, bytes := by16, fn := [(40, { ps := [t48], rs := [(.int .i64), (.int .i64), .bool], f := g40 }), (41, { ps := [(.clo 87 (.pair (.ref (.sl 88 t87)) .unit))], rs := [(.sl 88 t87)], f := g41 }), (42, { ps := [t48], rs := [(.clo 87 (.pair (.ref (.sl 88 t87)) .unit))], f := g42 }), (43, { ps := [(.sl 88 t87), (.clo 44 .unit)], rs := [.bool], f := g43 }), (45, { ps := [(.sl 88 t87)], rs := [t77, (.int .i64)], f := g45 })], eqs := eq16, inl := [] }
noncomputable def M16 (g40 : (D48 × Unit) → Option (Int × (Int × D159))) (g41 : (((List D87) × Unit) × Unit) → Option D48) (g42 : (D48 × Unit) → Option (((List D87) × Unit) × Unit)) (g43 : ((List D87) × (Unit × Unit)) → Option D159) (g45 : D48 → Option (D77 × (Int × Unit))) : List (Nat × Go.V.Mark (Ty.prods rs16).den) := [(1016, { ins := L16_0i, outs := L16_0o, ex := some 0, f := fun N => L16_0 N g40 g41 g42 g43 g45 })]
noncomputable def C16 (N : Nat) (g40 : (D48 × Unit) → Option (Int × (Int × D159))) (g41 : (((List D87) × Unit) × Unit) → Option D48) (g42 : (D48 × Unit) → Option (((List D87) × Unit) × Unit)) (g43 : ((List D87) × (Unit × Unit)) → Option D159) (g45 : D48 → Option (D77 × (Int × Unit))) : Go.V.Ctx (Ty.prods rs16).den := { E := E16 g40 g41 g42 g43 g45, n := Go.Proofs.Try.f16.ntmps, marks := M16 g40 g41 g42 g43 g45, fin := Go.V.finish (E16 g40 g41 g42 g43 g45) Go.Proofs.Try.f16 rs16, N }
noncomputable def c16 : Code := (Go.Proofs.Try.f16.body).getD .skip

theorem tab16 : tablesB Go.Proofs.Try.prog ty16 by16 eq16 = true := by kernel_rfl
theorem oL16_0 (N : Nat) (g40 : (D48 × Unit) → Option (Int × (Int × D159))) (g41 : (((List D87) × Unit) × Unit) → Option D48) (g42 : (D48 × Unit) → Option (((List D87) × Unit) × Unit)) (g43 : ((List D87) × (Unit × Unit)) → Option D159) (g45 : D48 → Option (D77 × (Int × Unit))) : (Obl.loop { ins := L16_0i, outs := L16_0o, ex := some 0, f := fun N => L16_0 N g40 g41 g42 g43 g45 } 1016 (subc [true, true, true, true, true, true, false, false, false] c16) : Obl (Ty.prods rs16).den).holds (C16 N g40 g41 g42 g43 g45) := by
  intro x Kx
  exact ⟨by kernel_rfl, fun k => by kernel_rfl⟩
theorem ob16 (N : Nat) (g40 : (D48 × Unit) → Option (Int × (Int × D159))) (g41 : (((List D87) × Unit) × Unit) → Option D48) (g42 : (D48 × Unit) → Option (((List D87) × Unit) × Unit)) (g43 : ((List D87) × (Unit × Unit)) → Option D159) (g45 : D48 → Option (D77 × (Int × Unit))) : obls (C16 N g40 g41 g42 g43 g45) 1 c16 = [.loop { ins := L16_0i, outs := L16_0o, ex := some 0, f := fun N => L16_0 N g40 g41 g42 g43 g45 } 1016 (subc [true, true, true, true, true, true, false, false, false] c16)] := by kernel_rfl
theorem eF16 (N : Nat) (g40 : (D48 × Unit) → Option (Int × (Int × D159))) (g41 : (((List D87) × Unit) × Unit) → Option D48) (g42 : (D48 × Unit) → Option (((List D87) × Unit) × Unit)) (g43 : ((List D87) × (Unit × Unit)) → Option D159) (g45 : D48 → Option (D77 × (Int × Unit))) (x : (Ty.prods ps16).den) : Go.V.evBody (E16 g40 g41 g42 g43 g45) Go.Proofs.Try.f16 rs16 (M16 g40 g41 g42 g43 g45) N (Go.V.start Go.Proofs.Try.f16 ps16 x) = F16 N g40 g41 g42 g43 g45 x := by kernel_rfl
theorem s16 (N : Nat) (g40 : (D48 × Unit) → Option (Int × (Int × D159))) (g41 : (((List D87) × Unit) × Unit) → Option D48) (g42 : (D48 × Unit) → Option (((List D87) × Unit) × Unit)) (g43 : ((List D87) × (Unit × Unit)) → Option D159) (g45 : D48 → Option (D77 × (Int × Unit))) (h40 : Sound Go.Proofs.Try.prog 40 { ps := [t48], rs := [(.int .i64), (.int .i64), .bool], f := g40 }) (h41 : Sound Go.Proofs.Try.prog 41 { ps := [(.clo 87 (.pair (.ref (.sl 88 t87)) .unit))], rs := [(.sl 88 t87)], f := g41 }) (h42 : Sound Go.Proofs.Try.prog 42 { ps := [t48], rs := [(.clo 87 (.pair (.ref (.sl 88 t87)) .unit))], f := g42 }) (h43 : Sound Go.Proofs.Try.prog 43 { ps := [(.sl 88 t87), (.clo 44 .unit)], rs := [.bool], f := g43 }) (h45 : Sound Go.Proofs.Try.prog 45 { ps := [(.sl 88 t87)], rs := [t77, (.int .i64)], f := g45 }) : Sound Go.Proofs.Try.prog 16 { ps := ps16, rs := rs16, f := F16 N g40 g41 g42 g43 g45 } := by
  have hE : EnvOk Go.Proofs.Try.prog (E16 g40 g41 g42 g43 g45) := env_ok tab16 (by
    intro p hp
    simp only [List.mem_cons, List.not_mem_nil, or_false] at hp
    rcases hp with rfl | rfl | rfl | rfl | rfl
    · exact ⟨h40, Go.Proofs.Try.f40, Go.Proofs.Try.func40, by kernel_rfl, by kernel_rfl⟩
    · exact ⟨h41, Go.Proofs.Try.f41, Go.Proofs.Try.func41, by kernel_rfl, by kernel_rfl⟩
    · exact ⟨h42, Go.Proofs.Try.f42, Go.Proofs.Try.func42, by kernel_rfl, by kernel_rfl⟩
    · exact ⟨h43, Go.Proofs.Try.f43, Go.Proofs.Try.func43, by kernel_rfl, by kernel_rfl⟩
    · exact ⟨h45, Go.Proofs.Try.f45, Go.Proofs.Try.func45, by kernel_rfl, by kernel_rfl⟩) (by
    intro p hp
    cases hp)
  have h := fn_sound hE (by kernel_rfl) Go.Proofs.Try.func16 (show Go.Proofs.Try.f16.body = some c16 by kernel_rfl) ps16 rs16 (M16 g40 g41 g42 g43 g45) N (by
    intro o ho
    have ho : o ∈ obls (C16 N g40 g41 g42 g43 g45) 1 c16 := ho
    rw [ob16] at ho
    simp only [List.mem_cons, List.not_mem_nil, or_false] at ho
    rcases ho with rfl
    · exact oL16_0 N g40 g41 g42 g43 g45)
  have e : (fun x => Go.V.evBody (E16 g40 g41 g42 g43 g45) Go.Proofs.Try.f16 rs16 (M16 g40 g41 g42 g43 g45) N (Go.V.start Go.Proofs.Try.f16 ps16 x)) = F16 N g40 g41 g42 g43 g45 := funext fun x => eF16 N g40 g41 g42 g43 g45 x
  rw [e] at h
  exact h

end Go.Proofs.Ytkifmnocomadfaa
end

/- The reading of poundage curve.Line. -/
section
set_option linter.unusedVariables false
set_option maxRecDepth 100000
namespace Go.Proofs.Ytkifmnocomadfaa
open Go.V

noncomputable def L17_0i : Shape := { items := [.ptr 1 0 0, .bx 0 0 t52, .ptr 2 1 0, .tm 42 (.int .i64), .tm 43 (.int .i64), .ownB 1 0 88 t87, .ownT 4 3 (.int .i64)], boxes := [53, 49] }
noncomputable def L17_0o : Shape := { items := [.ptr 2 1 0, .ownB 1 0 88 t87, .ownT 4 3 (.int .i64)], boxes := [53, 49] }
noncomputable def L17_0 (N : Nat) (g15 : (Int × ((List Int) × Unit)) → Option (D48 × Unit)) (g34 : (D52 × (Int × Unit)) → Option (Int × D159)) : Nat → (Unit × (D52 × (Unit × (Int × (Int × ((List D87) × ((List Int) × Unit))))))) → ((Unit × ((List D87) × ((List Int) × Unit))) → Option (D48 × D159)) → Option (D48 × D159)
| 0, _, _ => none
| k + 1, x2, Kx =>
cond (decide (x2.2.2.2.2.1 < x2.2.2.2.1)) (
(g34 (x2.2.1, x2.2.2.2.2.1, ())).bind fun r3 =>
if x2.2.2.2.2.2.2.1.length + 1 ≤ 17592186044416 then
L17_0 N g15 g34 k ((), x2.2.1, (), x2.2.2.2.1, (IntKind.i64.wrap (x2.2.2.2.2.1 + (1 : Int))), x2.2.2.2.2.2.1, (x2.2.2.2.2.2.2.1 ++ [r3.1]), ()) Kx
else none) (
Kx ((), x2.2.2.2.2.2.1, x2.2.2.2.2.2.2.1, ()))

noncomputable def F17 (N : Nat) (g15 : (Int × ((List Int) × Unit)) → Option (D48 × Unit)) (g34 : (D52 × (Int × Unit)) → Option (Int × D159)) : (D52 × Unit) → Option (D48 × D159) := fun x =>
cond (decide (x.1.1 < (0 : Int))) (
some (([], ()), false, ())) (
cond (decide (x.1.1 > (2000 : Int))) (
some (([], ()), false, ())) (
cond ((x.1.2.1.length : Int) == (0 : Int)) (
some (([], ()), false, ())) (
cond (decide ((x.1.2.1.length : Int) > (IntKind.i64.wrap (x.1.1 + (1 : Int))))) (
some (([], ()), false, ())) (
if 0 ≤ (0 : Int) then
if (0 : Int) < (x.1.2.1.length : Int) then
let e1 : D77 := rdAt (t := t77) x.1.2.1 (0 : Int)
cond (e1.1 != (0 : Int)) (
some (([], ()), false, ())) (
L17_0 N g15 g34 N ((), x.1, (), (IntKind.i64.wrap (x.1.1 + (1 : Int))), (0 : Int), [], [], ()) fun y4 =>
(g15 ((0 : Int), y4.2.2)).bind fun r5 =>
some (r5.1, true, ()))
else none
else none))))

noncomputable def ps17 : List Ty := [t52]
noncomputable def rs17 : List Ty := [t48, .bool]
noncomputable def ty17 : List (TypeId × Ty) := [(3, (.int .i64)), (27, (.sl 3 (.int .i64))), (49, t48), (51, (.sl 78 t77)), (53, t52), (78, t77)]
noncomputable def by17 : List (TypeId × Nat) := [(3, 8)]
noncomputable def eq17 : List TypeId := []
noncomputable def E17 (g15 : (Int × ((List Int) × Unit)) → Option (D48 × Unit)) (g34 : (D52 × (Int × Unit)) → Option (Int × D159)) : Go.V.Env := { ty := ty17, bytes := by17, fn := [(15, { ps := [(.int .i64), (.sl 3 (.int .i64))], rs := [t48], f := g15 }), (34, { ps := [t52, (.int .i64)], rs := [(.int .i64), .bool], f := g34 })], eqs := eq17, inl := [] }
noncomputable def M17 (g15 : (Int × ((List Int) × Unit)) → Option (D48 × Unit)) (g34 : (D52 × (Int × Unit)) → Option (Int × D159)) : List (Nat × Go.V.Mark (Ty.prods rs17).den) := [(244, { ins := L17_0i, outs := L17_0o, ex := some 0, f := fun N => L17_0 N g15 g34 })]
noncomputable def C17 (N : Nat) (g15 : (Int × ((List Int) × Unit)) → Option (D48 × Unit)) (g34 : (D52 × (Int × Unit)) → Option (Int × D159)) : Go.V.Ctx (Ty.prods rs17).den := { E := E17 g15 g34, n := Go.Proofs.Try.f17.ntmps, marks := M17 g15 g34, fin := Go.V.finish (E17 g15 g34) Go.Proofs.Try.f17 rs17, N }
noncomputable def c17 : Code := (Go.Proofs.Try.f17.body).getD .skip

theorem tab17 : tablesB Go.Proofs.Try.prog ty17 by17 eq17 = true := by kernel_rfl
theorem oL17_0 (N : Nat) (g15 : (Int × ((List Int) × Unit)) → Option (D48 × Unit)) (g34 : (D52 × (Int × Unit)) → Option (Int × D159)) : (Obl.loop { ins := L17_0i, outs := L17_0o, ex := some 0, f := fun N => L17_0 N g15 g34 } 244 (subc [true, true, true, false, true, false, false] c17) : Obl (Ty.prods rs17).den).holds (C17 N g15 g34) := by
  intro x Kx
  exact ⟨by kernel_rfl, fun k => by kernel_rfl⟩
theorem ob17 (N : Nat) (g15 : (Int × ((List Int) × Unit)) → Option (D48 × Unit)) (g34 : (D52 × (Int × Unit)) → Option (Int × D159)) : obls (C17 N g15 g34) 1 c17 = [.loop { ins := L17_0i, outs := L17_0o, ex := some 0, f := fun N => L17_0 N g15 g34 } 244 (subc [true, true, true, false, true, false, false] c17)] := by kernel_rfl
theorem eF17 (N : Nat) (g15 : (Int × ((List Int) × Unit)) → Option (D48 × Unit)) (g34 : (D52 × (Int × Unit)) → Option (Int × D159)) (x : (Ty.prods ps17).den) : Go.V.evBody (E17 g15 g34) Go.Proofs.Try.f17 rs17 (M17 g15 g34) N (Go.V.start Go.Proofs.Try.f17 ps17 x) = F17 N g15 g34 x := by kernel_rfl
theorem s17 (N : Nat) (g15 : (Int × ((List Int) × Unit)) → Option (D48 × Unit)) (g34 : (D52 × (Int × Unit)) → Option (Int × D159)) (h15 : Sound Go.Proofs.Try.prog 15 { ps := [(.int .i64), (.sl 3 (.int .i64))], rs := [t48], f := g15 }) (h34 : Sound Go.Proofs.Try.prog 34 { ps := [t52, (.int .i64)], rs := [(.int .i64), .bool], f := g34 }) : Sound Go.Proofs.Try.prog 17 { ps := ps17, rs := rs17, f := F17 N g15 g34 } := by
  have hE : EnvOk Go.Proofs.Try.prog (E17 g15 g34) := env_ok tab17 (by
    intro p hp
    simp only [List.mem_cons, List.not_mem_nil, or_false] at hp
    rcases hp with rfl | rfl
    · exact ⟨h15, Go.Proofs.Try.f15, Go.Proofs.Try.func15, by kernel_rfl, by kernel_rfl⟩
    · exact ⟨h34, Go.Proofs.Try.f34, Go.Proofs.Try.func34, by kernel_rfl, by kernel_rfl⟩) (by
    intro p hp
    cases hp)
  have h := fn_sound hE (by kernel_rfl) Go.Proofs.Try.func17 (show Go.Proofs.Try.f17.body = some c17 by kernel_rfl) ps17 rs17 (M17 g15 g34) N (by
    intro o ho
    have ho : o ∈ obls (C17 N g15 g34) 1 c17 := ho
    rw [ob17] at ho
    simp only [List.mem_cons, List.not_mem_nil, or_false] at ho
    rcases ho with rfl
    · exact oL17_0 N g15 g34)
  have e : (fun x => Go.V.evBody (E17 g15 g34) Go.Proofs.Try.f17 rs17 (M17 g15 g34) N (Go.V.start Go.Proofs.Try.f17 ps17 x)) = F17 N g15 g34 := funext fun x => eF17 N g15 g34 x
  rw [e] at h
  exact h

end Go.Proofs.Ytkifmnocomadfaa
end

/- The reading of slices.Equal   poundage api.Group poundage api.Group . -/
section
set_option linter.unusedVariables false
set_option maxRecDepth 100000
namespace Go.Proofs.Ytkifmnocomadfaa
open Go.V

noncomputable def L67_0i : Shape := { items := [.tm 0 (.sl 78 t77), .tm 1 (.sl 78 t77), .tm 12 (.int .i64), .tm 13 (.int .i64)], boxes := [] }
noncomputable def L67_0o : Shape := { items := [], boxes := [] }
noncomputable def L67_0 (N : Nat) : Nat → ((List D77) × ((List D77) × D146)) → (Unit → Option D159) → Option D159
| 0, _, _ => none
| k + 1, x1, Kx =>
cond (decide (x1.2.2.2.1 < x1.2.2.1)) (
if 0 ≤ x1.2.2.2.1 then
if x1.2.2.2.1 < (x1.1.length : Int) then
let e2 : D77 := rdAt (t := t77) x1.1 x1.2.2.2.1
if 0 ≤ x1.2.2.2.1 then
if x1.2.2.2.1 < (x1.2.1.length : Int) then
let e3 : D77 := rdAt (t := t77) x1.2.1 x1.2.2.2.1
cond (!(e2.1 == e3.1 && (e2.2.1 == e3.2.1 && (e2.2.2.1 == e3.2.2.1 && (e2.2.2.2.1 == e3.2.2.2.1 && (e2.2.2.2.2.1 == e3.2.2.2.2.1)))))) (
some (false, ())) (
L67_0 N k (x1.1, x1.2.1, x1.2.2.1, (IntKind.i64.wrap (x1.2.2.2.1 + (1 : Int))), ()) Kx)
else none
else none
else none
else none) (
Kx ())

noncomputable def F67 (N : Nat) : ((List D77) × ((List D77) × Unit)) → Option D159 := fun x =>
cond ((x.1.length : Int) != (x.2.1.length : Int)) (
some (false, ())) (
L67_0 N N (x.1, x.2.1, (x.1.length : Int), (0 : Int), ()) fun y4 =>
some (true, ()))

noncomputable def ps67 : List Ty := [(.sl 78 t77), (.sl 78 t77)]
noncomputable def rs67 : List Ty := [.bool]
noncomputable def ty67 : List (TypeId × Ty) := [(3, (.int .i64)), (51, (.sl 78 t77)), (78, t77)]
noncomputable def by67 : List (TypeId × Nat) := []
noncomputable def eq67 : List TypeId := [78]
noncomputable def E67 : Go.V.Env := { ty := ty67, bytes := by67, fn := [], eqs := eq67, inl := [] }
noncomputable def M67 : List (Nat × Go.V.Mark (Ty.prods rs67).den) := [(116, { ins := L67_0i, outs := L67_0o, ex := some 0, f := fun N => L67_0 N })]
noncomputable def C67 (N : Nat) : Go.V.Ctx (Ty.prods rs67).den := { E := E67, n := Go.Proofs.Try.f67.ntmps, marks := M67, fin := Go.V.finish (E67) Go.Proofs.Try.f67 rs67, N }
noncomputable def c67 : Code := (Go.Proofs.Try.f67.body).getD .skip

theorem tab67 : tablesB Go.Proofs.Try.prog ty67 by67 eq67 = true := by kernel_rfl
theorem oL67_0 (N : Nat) : (Obl.loop { ins := L67_0i, outs := L67_0o, ex := some 0, f := fun N => L67_0 N } 116 (subc [true, true, false, true, false, false] c67) : Obl (Ty.prods rs67).den).holds (C67 N) := by
  intro x Kx
  exact ⟨by kernel_rfl, fun k => by kernel_rfl⟩
theorem ob67 (N : Nat) : obls (C67 N) 1 c67 = [.loop { ins := L67_0i, outs := L67_0o, ex := some 0, f := fun N => L67_0 N } 116 (subc [true, true, false, true, false, false] c67)] := by kernel_rfl
theorem eF67 (N : Nat) (x : (Ty.prods ps67).den) : Go.V.evBody (E67) Go.Proofs.Try.f67 rs67 (M67) N (Go.V.start Go.Proofs.Try.f67 ps67 x) = F67 N x := by kernel_rfl
theorem s67 (N : Nat) : Sound Go.Proofs.Try.prog 67 { ps := ps67, rs := rs67, f := F67 N } := by
  have hE : EnvOk Go.Proofs.Try.prog (E67) := env_ok tab67 (by
    intro p hp
    cases hp) (by
    intro p hp
    cases hp)
  have h := fn_sound hE (by kernel_rfl) Go.Proofs.Try.func67 (show Go.Proofs.Try.f67.body = some c67 by kernel_rfl) ps67 rs67 (M67) N (by
    intro o ho
    have ho : o ∈ obls (C67 N) 1 c67 := ho
    rw [ob67] at ho
    simp only [List.mem_cons, List.not_mem_nil, or_false] at ho
    rcases ho with rfl
    · exact oL67_0 N)
  have e : (fun x => Go.V.evBody (E67) Go.Proofs.Try.f67 rs67 (M67) N (Go.V.start Go.Proofs.Try.f67 ps67 x)) = F67 N := funext fun x => eF67 N x
  rw [e] at h
  exact h

end Go.Proofs.Ytkifmnocomadfaa
end

/- The reading of poundage curve.Same. -/
section
set_option linter.unusedVariables false
set_option maxRecDepth 100000
namespace Go.Proofs.Ytkifmnocomadfaa
open Go.V

noncomputable def F47 (N : Nat) (g67 : ((List D77) × ((List D77) × Unit)) → Option D159) : (D52 × (D52 × Unit)) → Option D159 := fun x =>
cond (x.1.1 == x.2.1.1) (
(g67 (x.1.2.1, x.2.1.2)).bind fun r1 =>
some r1) (
some (false, ()))

noncomputable def ps47 : List Ty := [t52, t52]
noncomputable def rs47 : List Ty := [.bool]
noncomputable def ty47 : List (TypeId × Ty) := [(3, (.int .i64)), (51, (.sl 78 t77)), (53, t52), (78, t77)]
noncomputable def by47 : List (TypeId × Nat) := []
noncomputable def eq47 : List TypeId := []
noncomputable def E47 (g67 : ((List D77) × ((List D77) × Unit)) → Option D159) : Go.V.Env := { ty := ty47, bytes := by47, fn := [(67, { ps := [(.sl 78 t77), (.sl 78 t77)], rs := [.bool], f := g67 })], eqs := eq47, inl := [] }
noncomputable def M47 (g67 : ((List D77) × ((List D77) × Unit)) → Option D159) : List (Nat × Go.V.Mark (Ty.prods rs47).den) := []
noncomputable def C47 (N : Nat) (g67 : ((List D77) × ((List D77) × Unit)) → Option D159) : Go.V.Ctx (Ty.prods rs47).den := { E := E47 g67, n := Go.Proofs.Try.f47.ntmps, marks := M47 g67, fin := Go.V.finish (E47 g67) Go.Proofs.Try.f47 rs47, N }
noncomputable def c47 : Code := (Go.Proofs.Try.f47.body).getD .skip

theorem tab47 : tablesB Go.Proofs.Try.prog ty47 by47 eq47 = true := by kernel_rfl
theorem ob47 (N : Nat) (g67 : ((List D77) × ((List D77) × Unit)) → Option D159) : obls (C47 N g67) 1 c47 = [] := by kernel_rfl
theorem eF47 (N : Nat) (g67 : ((List D77) × ((List D77) × Unit)) → Option D159) (x : (Ty.prods ps47).den) : Go.V.evBody (E47 g67) Go.Proofs.Try.f47 rs47 (M47 g67) N (Go.V.start Go.Proofs.Try.f47 ps47 x) = F47 N g67 x := by kernel_rfl
theorem s47 (N : Nat) (g67 : ((List D77) × ((List D77) × Unit)) → Option D159) (h67 : Sound Go.Proofs.Try.prog 67 { ps := [(.sl 78 t77), (.sl 78 t77)], rs := [.bool], f := g67 }) : Sound Go.Proofs.Try.prog 47 { ps := ps47, rs := rs47, f := F47 N g67 } := by
  have hE : EnvOk Go.Proofs.Try.prog (E47 g67) := env_ok tab47 (by
    intro p hp
    simp only [List.mem_cons, List.not_mem_nil, or_false] at hp
    rcases hp with rfl
    · exact ⟨h67, Go.Proofs.Try.f67, Go.Proofs.Try.func67, by kernel_rfl, by kernel_rfl⟩) (by
    intro p hp
    cases hp)
  have h := fn_sound hE (by kernel_rfl) Go.Proofs.Try.func47 (show Go.Proofs.Try.f47.body = some c47 by kernel_rfl) ps47 rs47 (M47 g67) N (by
    intro o ho
    have ho : o ∈ obls (C47 N g67) 1 c47 := ho
    rw [ob47] at ho
    cases ho)
  have e : (fun x => Go.V.evBody (E47 g67) Go.Proofs.Try.f47 rs47 (M47 g67) N (Go.V.start Go.Proofs.Try.f47 ps47 x)) = F47 N g67 := funext fun x => eF47 N g67 x
  rw [e] at h
  exact h

end Go.Proofs.Ytkifmnocomadfaa
end

/- The reading of poundage curve.Good. -/
section
set_option linter.unusedVariables false
set_option maxRecDepth 100000
namespace Go.Proofs.Ytkifmnocomadfaa
open Go.V

noncomputable def F19 (N : Nat) (g16 : (D48 × Unit) → Option (D52 × D159)) (g17 : (D52 × Unit) → Option (D48 × D159)) (g47 : (D52 × (D52 × Unit)) → Option D159) : (D52 × Unit) → Option D159 := fun x =>
(g17 x).bind fun r1 =>
cond (!r1.2.1) (
some (false, ())) (
(g16 (r1.1, ())).bind fun r2 =>
cond r2.2.1 (
(g47 (x.1, r2.1, ())).bind fun r3 =>
some r3) (
some (false, ())))

noncomputable def ps19 : List Ty := [t52]
noncomputable def rs19 : List Ty := [.bool]
noncomputable def ty19 : List (TypeId × Ty) := [(49, t48), (53, t52)]
noncomputable def by19 : List (TypeId × Nat) := []
noncomputable def eq19 : List TypeId := []
noncomputable def E19 (g16 : (D48 × Unit) → Option (D52 × D159)) (g17 : (D52 × Unit) → Option (D48 × D159)) (g47 : (D52 × (D52 × Unit)) → Option D159) : Go.V.Env := { ty := ty19, bytes := by19, fn := [(16, { ps := [t48], rs := [t52, .bool], f := g16 }), (17, { ps := [t52], rs := [t48, .bool], f := g17 }), (47, { ps := [t52, t52], rs := [.bool], f := g47 })], eqs := eq19, inl := [] }
noncomputable def M19 (g16 : (D48 × Unit) → Option (D52 × D159)) (g17 : (D52 × Unit) → Option (D48 × D159)) (g47 : (D52 × (D52 × Unit)) → Option D159) : List (Nat × Go.V.Mark (Ty.prods rs19).den) := []
noncomputable def C19 (N : Nat) (g16 : (D48 × Unit) → Option (D52 × D159)) (g17 : (D52 × Unit) → Option (D48 × D159)) (g47 : (D52 × (D52 × Unit)) → Option D159) : Go.V.Ctx (Ty.prods rs19).den := { E := E19 g16 g17 g47, n := Go.Proofs.Try.f19.ntmps, marks := M19 g16 g17 g47, fin := Go.V.finish (E19 g16 g17 g47) Go.Proofs.Try.f19 rs19, N }
noncomputable def c19 : Code := (Go.Proofs.Try.f19.body).getD .skip

theorem tab19 : tablesB Go.Proofs.Try.prog ty19 by19 eq19 = true := by kernel_rfl
theorem ob19 (N : Nat) (g16 : (D48 × Unit) → Option (D52 × D159)) (g17 : (D52 × Unit) → Option (D48 × D159)) (g47 : (D52 × (D52 × Unit)) → Option D159) : obls (C19 N g16 g17 g47) 1 c19 = [] := by kernel_rfl
theorem eF19 (N : Nat) (g16 : (D48 × Unit) → Option (D52 × D159)) (g17 : (D52 × Unit) → Option (D48 × D159)) (g47 : (D52 × (D52 × Unit)) → Option D159) (x : (Ty.prods ps19).den) : Go.V.evBody (E19 g16 g17 g47) Go.Proofs.Try.f19 rs19 (M19 g16 g17 g47) N (Go.V.start Go.Proofs.Try.f19 ps19 x) = F19 N g16 g17 g47 x := by kernel_rfl
theorem s19 (N : Nat) (g16 : (D48 × Unit) → Option (D52 × D159)) (g17 : (D52 × Unit) → Option (D48 × D159)) (g47 : (D52 × (D52 × Unit)) → Option D159) (h16 : Sound Go.Proofs.Try.prog 16 { ps := [t48], rs := [t52, .bool], f := g16 }) (h17 : Sound Go.Proofs.Try.prog 17 { ps := [t52], rs := [t48, .bool], f := g17 }) (h47 : Sound Go.Proofs.Try.prog 47 { ps := [t52, t52], rs := [.bool], f := g47 }) : Sound Go.Proofs.Try.prog 19 { ps := ps19, rs := rs19, f := F19 N g16 g17 g47 } := by
  have hE : EnvOk Go.Proofs.Try.prog (E19 g16 g17 g47) := env_ok tab19 (by
    intro p hp
    simp only [List.mem_cons, List.not_mem_nil, or_false] at hp
    rcases hp with rfl | rfl | rfl
    · exact ⟨h16, Go.Proofs.Try.f16, Go.Proofs.Try.func16, by kernel_rfl, by kernel_rfl⟩
    · exact ⟨h17, Go.Proofs.Try.f17, Go.Proofs.Try.func17, by kernel_rfl, by kernel_rfl⟩
    · exact ⟨h47, Go.Proofs.Try.f47, Go.Proofs.Try.func47, by kernel_rfl, by kernel_rfl⟩) (by
    intro p hp
    cases hp)
  have h := fn_sound hE (by kernel_rfl) Go.Proofs.Try.func19 (show Go.Proofs.Try.f19.body = some c19 by kernel_rfl) ps19 rs19 (M19 g16 g17 g47) N (by
    intro o ho
    have ho : o ∈ obls (C19 N g16 g17 g47) 1 c19 := ho
    rw [ob19] at ho
    cases ho)
  have e : (fun x => Go.V.evBody (E19 g16 g17 g47) Go.Proofs.Try.f19 rs19 (M19 g16 g17 g47) N (Go.V.start Go.Proofs.Try.f19 ps19 x)) = F19 N g16 g17 g47 := funext fun x => eF19 N g16 g17 g47 x
  rw [e] at h
  exact h

end Go.Proofs.Ytkifmnocomadfaa
end
