/- The reading of cmp.isNaN int . -/
import Derived.Test.YtkifmnocomadfaaWTy
section
set_option linter.unusedVariables false
set_option maxRecDepth 100000
namespace Go.Proofs.Ytkifmnocomadfaa
open Go.V

noncomputable def F63 (N : Nat) : (Int × Unit) → Option D159 := fun x =>
some ((x.1 != x.1), ())

noncomputable def ps63 : List Ty := [(.int .i64)]
noncomputable def rs63 : List Ty := [.bool]
noncomputable def ty63 : List (TypeId × Ty) := [(3, (.int .i64))]
noncomputable def by63 : List (TypeId × Nat) := []
noncomputable def eq63 : List TypeId := []
noncomputable def E63 : Go.V.Env := { ty := ty63, bytes := by63, fn := [], eqs := eq63, inl := [] }
noncomputable def M63 : List (Nat × Go.V.Mark (Ty.prods rs63).den) := []
noncomputable def C63 (N : Nat) : Go.V.Ctx (Ty.prods rs63).den := { E := E63, n := Go.Proofs.Try.f63.ntmps, marks := M63, fin := Go.V.finish (E63) Go.Proofs.Try.f63 rs63, N }
noncomputable def c63 : Code := (Go.Proofs.Try.f63.body).getD .skip

theorem tab63 : tablesB Go.Proofs.Try.prog ty63 by63 eq63 = true := by kernel_rfl
theorem ob63 (N : Nat) : obls (C63 N) 1 c63 = [] := by kernel_rfl
theorem eF63 (N : Nat) (x : (Ty.prods ps63).den) : Go.V.evBody (E63) Go.Proofs.Try.f63 rs63 (M63) N (Go.V.start Go.Proofs.Try.f63 ps63 x) = F63 N x := by kernel_rfl
theorem s63 (N : Nat) : Sound Go.Proofs.Try.prog 63 { ps := ps63, rs := rs63, f := F63 N } := by
  have hE : EnvOk Go.Proofs.Try.prog (E63) := env_ok tab63 (by
    intro p hp
    cases hp) (by
    intro p hp
    cases hp)
  have h := fn_sound hE (by kernel_rfl) Go.Proofs.Try.func63 (show Go.Proofs.Try.f63.body = some c63 by kernel_rfl) ps63 rs63 (M63) N (by
    intro o ho
    have ho : o ∈ obls (C63 N) 1 c63 := ho
    rw [ob63] at ho
    cases ho)
  have e : (fun x => Go.V.evBody (E63) Go.Proofs.Try.f63 rs63 (M63) N (Go.V.start Go.Proofs.Try.f63 ps63 x)) = F63 N := funext fun x => eF63 N x
  rw [e] at h
  exact h

end Go.Proofs.Ytkifmnocomadfaa
end

/- The reading of cmp.Compare int . -/
section
set_option linter.unusedVariables false
set_option maxRecDepth 100000
namespace Go.Proofs.Ytkifmnocomadfaa
open Go.V

noncomputable def F37 (N : Nat) (g63 : (Int × Unit) → Option D159) : D146 → Option (Int × Unit) := fun x =>
(g63 (x.1, ())).bind fun r1 =>
(g63 x.2).bind fun r2 =>
cond r1.1 (
cond r2.1 (
some ((0 : Int), ())) (
some ((-1 : Int), ()))) (
cond r2.1 (
some ((1 : Int), ())) (
cond (decide (x.1 < x.2.1)) (
some ((-1 : Int), ())) (
cond (decide (x.1 > x.2.1)) (
some ((1 : Int), ())) (
some ((0 : Int), ())))))

noncomputable def ps37 : List Ty := [(.int .i64), (.int .i64)]
noncomputable def rs37 : List Ty := [(.int .i64)]
noncomputable def ty37 : List (TypeId × Ty) := [(3, (.int .i64))]
noncomputable def by37 : List (TypeId × Nat) := []
noncomputable def eq37 : List TypeId := []
noncomputable def E37 (g63 : (Int × Unit) → Option D159) : Go.V.Env := { ty := ty37, bytes := by37, fn := [(63, { ps := [(.int .i64)], rs := [.bool], f := g63 })], eqs := eq37, inl := [] }
noncomputable def M37 (g63 : (Int × Unit) → Option D159) : List (Nat × Go.V.Mark (Ty.prods rs37).den) := []
noncomputable def C37 (N : Nat) (g63 : (Int × Unit) → Option D159) : Go.V.Ctx (Ty.prods rs37).den := { E := E37 g63, n := Go.Proofs.Try.f37.ntmps, marks := M37 g63, fin := Go.V.finish (E37 g63) Go.Proofs.Try.f37 rs37, N }
noncomputable def c37 : Code := (Go.Proofs.Try.f37.body).getD .skip

theorem tab37 : tablesB Go.Proofs.Try.prog ty37 by37 eq37 = true := by kernel_rfl
theorem ob37 (N : Nat) (g63 : (Int × Unit) → Option D159) : obls (C37 N g63) 1 c37 = [] := by kernel_rfl
theorem eF37 (N : Nat) (g63 : (Int × Unit) → Option D159) (x : (Ty.prods ps37).den) : Go.V.evBody (E37 g63) Go.Proofs.Try.f37 rs37 (M37 g63) N (Go.V.start Go.Proofs.Try.f37 ps37 x) = F37 N g63 x := by kernel_rfl
theorem s37 (N : Nat) (g63 : (Int × Unit) → Option D159) (h63 : Sound Go.Proofs.Try.prog 63 { ps := [(.int .i64)], rs := [.bool], f := g63 }) : Sound Go.Proofs.Try.prog 37 { ps := ps37, rs := rs37, f := F37 N g63 } := by
  have hE : EnvOk Go.Proofs.Try.prog (E37 g63) := env_ok tab37 (by
    intro p hp
    simp only [List.mem_cons, List.not_mem_nil, or_false] at hp
    rcases hp with rfl
    · exact ⟨h63, Go.Proofs.Try.f63, Go.Proofs.Try.func63, by kernel_rfl, by kernel_rfl⟩) (by
    intro p hp
    cases hp)
  have h := fn_sound hE (by kernel_rfl) Go.Proofs.Try.func37 (show Go.Proofs.Try.f37.body = some c37 by kernel_rfl) ps37 rs37 (M37 g63) N (by
    intro o ho
    have ho : o ∈ obls (C37 N g63) 1 c37 := ho
    rw [ob37] at ho
    cases ho)
  have e : (fun x => Go.V.evBody (E37 g63) Go.Proofs.Try.f37 rs37 (M37 g63) N (Go.V.start Go.Proofs.Try.f37 ps37 x)) = F37 N g63 := funext fun x => eF37 N g63 x
  rw [e] at h
  exact h

end Go.Proofs.Ytkifmnocomadfaa
end

/- The reading of poundage lookup.On 1. -/
section
set_option linter.unusedVariables false
set_option maxRecDepth 100000
namespace Go.Proofs.Ytkifmnocomadfaa
open Go.V

noncomputable def F36 (N : Nat) (g37 : D146 → Option (Int × Unit)) : (D40 × (Int × Unit)) → Option (Int × Unit) := fun x =>
(g37 (x.1.2.1, x.2)).bind fun r1 =>
some r1

noncomputable def ps36 : List Ty := [t40, (.int .i64)]
noncomputable def rs36 : List Ty := [(.int .i64)]
noncomputable def ty36 : List (TypeId × Ty) := [(3, (.int .i64)), (41, t40)]
noncomputable def by36 : List (TypeId × Nat) := []
noncomputable def eq36 : List TypeId := []
noncomputable def E36 (g37 : D146 → Option (Int × Unit)) : Go.V.Env := { ty := ty36, bytes := by36, fn := [(37, { ps := [(.int .i64), (.int .i64)], rs := [(.int .i64)], f := g37 })], eqs := eq36, inl := [] }
noncomputable def M36 (g37 : D146 → Option (Int × Unit)) : List (Nat × Go.V.Mark (Ty.prods rs36).den) := []
noncomputable def C36 (N : Nat) (g37 : D146 → Option (Int × Unit)) : Go.V.Ctx (Ty.prods rs36).den := { E := E36 g37, n := Go.Proofs.Try.f36.ntmps, marks := M36 g37, fin := Go.V.finish (E36 g37) Go.Proofs.Try.f36 rs36, N }
noncomputable def c36 : Code := (Go.Proofs.Try.f36.body).getD .skip

theorem tab36 : tablesB Go.Proofs.Try.prog ty36 by36 eq36 = true := by kernel_rfl
theorem ob36 (N : Nat) (g37 : D146 → Option (Int × Unit)) : obls (C36 N g37) 1 c36 = [] := by kernel_rfl
theorem eF36 (N : Nat) (g37 : D146 → Option (Int × Unit)) (x : (Ty.prods ps36).den) : Go.V.evBody (E36 g37) Go.Proofs.Try.f36 rs36 (M36 g37) N (Go.V.start Go.Proofs.Try.f36 ps36 x) = F36 N g37 x := by kernel_rfl
theorem s36 (N : Nat) (g37 : D146 → Option (Int × Unit)) (h37 : Sound Go.Proofs.Try.prog 37 { ps := [(.int .i64), (.int .i64)], rs := [(.int .i64)], f := g37 }) : Sound Go.Proofs.Try.prog 36 { ps := ps36, rs := rs36, f := F36 N g37 } := by
  have hE : EnvOk Go.Proofs.Try.prog (E36 g37) := env_ok tab36 (by
    intro p hp
    simp only [List.mem_cons, List.not_mem_nil, or_false] at hp
    rcases hp with rfl
    · exact ⟨h37, Go.Proofs.Try.f37, Go.Proofs.Try.func37, by kernel_rfl, by kernel_rfl⟩) (by
    intro p hp
    cases hp)
  have h := fn_sound hE (by kernel_rfl) Go.Proofs.Try.func36 (show Go.Proofs.Try.f36.body = some c36 by kernel_rfl) ps36 rs36 (M36 g37) N (by
    intro o ho
    have ho : o ∈ obls (C36 N g37) 1 c36 := ho
    rw [ob36] at ho
    cases ho)
  have e : (fun x => Go.V.evBody (E36 g37) Go.Proofs.Try.f36 rs36 (M36 g37) N (Go.V.start Go.Proofs.Try.f36 ps36 x)) = F36 N g37 := funext fun x => eF36 N g37 x
  rw [e] at h
  exact h

end Go.Proofs.Ytkifmnocomadfaa
end

/- The reading of slices.BinarySearchFunc   poundage api.Span poundage api.Span int . -/
section
set_option linter.unusedVariables false
set_option maxRecDepth 100000
namespace Go.Proofs.Ytkifmnocomadfaa
open Go.V

noncomputable def L35_0i : Shape := { items := [.tm 0 (.sl 41 t40), .tm 1 (.int .i64), .tm 2 (.clo 36 .unit), .tm 8 (.int .i64), .tm 9 (.int .i64), .tm 10 (.int .i64)], boxes := [] }
noncomputable def L35_0o : Shape := { items := [.tm 0 (.sl 41 t40), .tm 1 (.int .i64), .tm 2 (.clo 36 .unit), .tm 8 (.int .i64), .tm 9 (.int .i64)], boxes := [] }
noncomputable def L35_0 (N : Nat) (g36 : (D40 × (Int × Unit)) → Option (Int × Unit)) : Nat → ((List D40) × (Int × (Unit × D87))) → (((List D40) × (Int × (Unit × D146))) → Option (Int × D159)) → Option (Int × D159)
| 0, _, _ => none
| k + 1, x1, Kx =>
cond (decide (x1.2.2.2.2.1 < x1.2.2.2.2.2.1)) (
if (1 : Int) < 0 then none else
let v2 := (IntKind.i64.wrap ((IntKind.u64.wrap (IntKind.i64.wrap (x1.2.2.2.2.1 + x1.2.2.2.2.2.1))).fdiv (2 ^ (min ((1 : Int)).toNat IntKind.u64.bits))))
if 0 ≤ v2 then
if v2 < (x1.1.length : Int) then
let e3 : D40 := rdAt (t := t40) x1.1 v2
(g36 (e3, x1.2.1, ())).bind fun r4 =>
cond (decide (r4.1 < (0 : Int))) (
L35_0 N g36 k (x1.1, x1.2.1, x1.2.2.1, x1.2.2.2.1, (IntKind.i64.wrap (v2 + (1 : Int))), x1.2.2.2.2.2.1, ()) Kx) (
L35_0 N g36 k (x1.1, x1.2.1, x1.2.2.1, x1.2.2.2.1, x1.2.2.2.2.1, v2, ()) Kx)
else none
else none) (
Kx (x1.1, x1.2.1, x1.2.2.1, x1.2.2.2.1, x1.2.2.2.2.1, ()))

noncomputable def F35 (N : Nat) (g36 : (D40 × (Int × Unit)) → Option (Int × Unit)) : ((List D40) × (Int × (Unit × Unit))) → Option (Int × D159) := fun x =>
L35_0 N g36 N (x.1, x.2.1, x.2.2.1, (x.1.length : Int), (0 : Int), (x.1.length : Int), ()) fun y5 =>
cond (decide (y5.2.2.2.2.1 < y5.2.2.2.1)) (
if 0 ≤ y5.2.2.2.2.1 then
if y5.2.2.2.2.1 < (y5.1.length : Int) then
let e6 : D40 := rdAt (t := t40) y5.1 y5.2.2.2.2.1
(g36 (e6, y5.2.1, ())).bind fun r7 =>
some (y5.2.2.2.2.1, (r7.1 == (0 : Int)), ())
else none
else none) (
some (y5.2.2.2.2.1, false, ()))

noncomputable def ps35 : List Ty := [(.sl 41 t40), (.int .i64), (.clo 36 .unit)]
noncomputable def rs35 : List Ty := [(.int .i64), .bool]
noncomputable def ty35 : List (TypeId × Ty) := [(3, (.int .i64)), (30, (.sl 41 t40)), (41, t40), (122, (.int .u64))]
noncomputable def by35 : List (TypeId × Nat) := []
noncomputable def eq35 : List TypeId := []
noncomputable def E35 (g36 : (D40 × (Int × Unit)) → Option (Int × Unit)) : Go.V.Env := { ty := ty35, bytes := by35, fn := [(36, { ps := [t40, (.int .i64)], rs := [(.int .i64)], f := g36 })], eqs := eq35, inl := [] }
noncomputable def M35 (g36 : (D40 × (Int × Unit)) → Option (Int × Unit)) : List (Nat × Go.V.Mark (Ty.prods rs35).den) := [(120, { ins := L35_0i, outs := L35_0o, ex := some 0, f := fun N => L35_0 N g36 })]
noncomputable def C35 (N : Nat) (g36 : (D40 × (Int × Unit)) → Option (Int × Unit)) : Go.V.Ctx (Ty.prods rs35).den := { E := E35 g36, n := Go.Proofs.Try.f35.ntmps, marks := M35 g36, fin := Go.V.finish (E35 g36) Go.Proofs.Try.f35 rs35, N }
noncomputable def c35 : Code := (Go.Proofs.Try.f35.body).getD .skip

theorem tab35 : tablesB Go.Proofs.Try.prog ty35 by35 eq35 = true := by kernel_rfl
theorem oL35_0 (N : Nat) (g36 : (D40 × (Int × Unit)) → Option (Int × Unit)) : (Obl.loop { ins := L35_0i, outs := L35_0o, ex := some 0, f := fun N => L35_0 N g36 } 120 (subc [true, true, true, false, false, false] c35) : Obl (Ty.prods rs35).den).holds (C35 N g36) := by
  intro x Kx
  exact ⟨by kernel_rfl, fun k => by kernel_rfl⟩
theorem ob35 (N : Nat) (g36 : (D40 × (Int × Unit)) → Option (Int × Unit)) : obls (C35 N g36) 1 c35 = [.loop { ins := L35_0i, outs := L35_0o, ex := some 0, f := fun N => L35_0 N g36 } 120 (subc [true, true, true, false, false, false] c35)] := by kernel_rfl
theorem eF35 (N : Nat) (g36 : (D40 × (Int × Unit)) → Option (Int × Unit)) (x : (Ty.prods ps35).den) : Go.V.evBody (E35 g36) Go.Proofs.Try.f35 rs35 (M35 g36) N (Go.V.start Go.Proofs.Try.f35 ps35 x) = F35 N g36 x := by kernel_rfl
theorem s35 (N : Nat) (g36 : (D40 × (Int × Unit)) → Option (Int × Unit)) (h36 : Sound Go.Proofs.Try.prog 36 { ps := [t40, (.int .i64)], rs := [(.int .i64)], f := g36 }) : Sound Go.Proofs.Try.prog 35 { ps := ps35, rs := rs35, f := F35 N g36 } := by
  have hE : EnvOk Go.Proofs.Try.prog (E35 g36) := env_ok tab35 (by
    intro p hp
    simp only [List.mem_cons, List.not_mem_nil, or_false] at hp
    rcases hp with rfl
    · exact ⟨h36, Go.Proofs.Try.f36, Go.Proofs.Try.func36, by kernel_rfl, by kernel_rfl⟩) (by
    intro p hp
    cases hp)
  have h := fn_sound hE (by kernel_rfl) Go.Proofs.Try.func35 (show Go.Proofs.Try.f35.body = some c35 by kernel_rfl) ps35 rs35 (M35 g36) N (by
    intro o ho
    have ho : o ∈ obls (C35 N g36) 1 c35 := ho
    rw [ob35] at ho
    simp only [List.mem_cons, List.not_mem_nil, or_false] at ho
    rcases ho with rfl
    · exact oL35_0 N g36)
  have e : (fun x => Go.V.evBody (E35 g36) Go.Proofs.Try.f35 rs35 (M35 g36) N (Go.V.start Go.Proofs.Try.f35 ps35 x)) = F35 N g36 := funext fun x => eF35 N g36 x
  rw [e] at h
  exact h

end Go.Proofs.Ytkifmnocomadfaa
end

/- The reading of poundage lookup.On. -/
section
set_option linter.unusedVariables false
set_option maxRecDepth 100000
namespace Go.Proofs.Ytkifmnocomadfaa
open Go.V

noncomputable def F11 (N : Nat) (g35 : ((List D40) × (Int × (Unit × Unit))) → Option (Int × D159)) : (D31 × (Int × Unit)) → Option (D40 × D159) := fun x =>
(g35 (x.1.2.2.2.2.1, x.2.1, (), ())).bind fun r1 =>
cond (decide (r1.1 < (x.1.2.2.2.2.1.length : Int))) (
if 0 ≤ r1.1 then
if r1.1 < (x.1.2.2.2.2.1.length : Int) then
let e2 : D40 := rdAt (t := t40) x.1.2.2.2.2.1 r1.1
cond (decide (e2.1 ≤ x.2.1)) (
if 0 ≤ r1.1 then
if r1.1 < (x.1.2.2.2.2.1.length : Int) then
let e3 : D40 := rdAt (t := t40) x.1.2.2.2.2.1 r1.1
some (e3, true, ())
else none
else none) (
some (((0 : Int), (0 : Int), (0 : Int), [], ()), false, ()))
else none
else none) (
some (((0 : Int), (0 : Int), (0 : Int), [], ()), false, ()))

noncomputable def ps11 : List Ty := [t31, (.int .i64)]
noncomputable def rs11 : List Ty := [t40, .bool]
noncomputable def ty11 : List (TypeId × Ty) := [(3, (.int .i64)), (30, (.sl 41 t40)), (32, t31), (41, t40)]
noncomputable def by11 : List (TypeId × Nat) := []
noncomputable def eq11 : List TypeId := []
noncomputable def E11 (g35 : ((List D40) × (Int × (Unit × Unit))) → Option (Int × D159)) : Go.V.Env := { ty := ty11, bytes := by11, fn := [(35, { ps := [(.sl 41 t40), (.int .i64), (.clo 36 .unit)], rs := [(.int .i64), .bool], f := g35 })], eqs := eq11, inl := [] }
noncomputable def M11 (g35 : ((List D40) × (Int × (Unit × Unit))) → Option (Int × D159)) : List (Nat × Go.V.Mark (Ty.prods rs11).den) := []
noncomputable def C11 (N : Nat) (g35 : ((List D40) × (Int × (Unit × Unit))) → Option (Int × D159)) : Go.V.Ctx (Ty.prods rs11).den := { E := E11 g35, n := Go.Proofs.Try.f11.ntmps, marks := M11 g35, fin := Go.V.finish (E11 g35) Go.Proofs.Try.f11 rs11, N }
noncomputable def c11 : Code := (Go.Proofs.Try.f11.body).getD .skip

theorem tab11 : tablesB Go.Proofs.Try.prog ty11 by11 eq11 = true := by kernel_rfl
theorem ob11 (N : Nat) (g35 : ((List D40) × (Int × (Unit × Unit))) → Option (Int × D159)) : obls (C11 N g35) 1 c11 = [] := by kernel_rfl
theorem eF11 (N : Nat) (g35 : ((List D40) × (Int × (Unit × Unit))) → Option (Int × D159)) (x : (Ty.prods ps11).den) : Go.V.evBody (E11 g35) Go.Proofs.Try.f11 rs11 (M11 g35) N (Go.V.start Go.Proofs.Try.f11 ps11 x) = F11 N g35 x := by kernel_rfl
theorem s11 (N : Nat) (g35 : ((List D40) × (Int × (Unit × Unit))) → Option (Int × D159)) (h35 : Sound Go.Proofs.Try.prog 35 { ps := [(.sl 41 t40), (.int .i64), (.clo 36 .unit)], rs := [(.int .i64), .bool], f := g35 }) : Sound Go.Proofs.Try.prog 11 { ps := ps11, rs := rs11, f := F11 N g35 } := by
  have hE : EnvOk Go.Proofs.Try.prog (E11 g35) := env_ok tab11 (by
    intro p hp
    simp only [List.mem_cons, List.not_mem_nil, or_false] at hp
    rcases hp with rfl
    · exact ⟨h35, Go.Proofs.Try.f35, Go.Proofs.Try.func35, by kernel_rfl, by kernel_rfl⟩) (by
    intro p hp
    cases hp)
  have h := fn_sound hE (by kernel_rfl) Go.Proofs.Try.func11 (show Go.Proofs.Try.f11.body = some c11 by kernel_rfl) ps11 rs11 (M11 g35) N (by
    intro o ho
    have ho : o ∈ obls (C11 N g35) 1 c11 := ho
    rw [ob11] at ho
    cases ho)
  have e : (fun x => Go.V.evBody (E11 g35) Go.Proofs.Try.f11 rs11 (M11 g35) N (Go.V.start Go.Proofs.Try.f11 ps11 x)) = F11 N g35 := funext fun x => eF11 N g35 x
  rw [e] at h
  exact h

end Go.Proofs.Ytkifmnocomadfaa
end

/- The reading of poundage curve.At. -/
section
set_option linter.unusedVariables false
set_option maxRecDepth 100000
namespace Go.Proofs.Ytkifmnocomadfaa
open Go.V

noncomputable def L34_0i : Shape := { items := [.tm 1 (.int .i64), .ptr 2 0 0, .bx 0 0 t52, .tm 6 (.int .i64)], boxes := [53] }
noncomputable def L34_0o : Shape := { items := [.tm 1 (.int .i64), .ptr 2 0 0, .bx 0 0 t52, .tm 6 (.int .i64)], boxes := [53] }
noncomputable def L34_0 (N : Nat) : Nat → (Int × (Unit × (D52 × (Int × Unit)))) → ((Int × (Unit × (D52 × (Int × Unit)))) → Option (Int × D159)) → Option (Int × D159)
| 0, _, _ => none
| k + 1, x2, Kx =>
cond (decide (x2.2.2.2.1 ≥ (0 : Int))) (
if 0 ≤ x2.2.2.2.1 then
if x2.2.2.2.1 < (x2.2.2.1.2.1.length : Int) then
let e3 : D77 := rdAt (t := t77) x2.2.2.1.2.1 x2.2.2.2.1
cond (decide (e3.1 > x2.1)) (
L34_0 N k (x2.1, (), x2.2.2.1, (IntKind.i64.wrap (x2.2.2.2.1 - (1 : Int))), ()) Kx) (
Kx (x2.1, (), x2.2.2.1, x2.2.2.2.1, ()))
else none
else none) (
Kx (x2.1, (), x2.2.2.1, x2.2.2.2.1, ()))

noncomputable def F34 (N : Nat) : (D52 × (Int × Unit)) → Option (Int × D159) := fun x =>
cond (decide (x.2.1 < (0 : Int))) (
some ((0 : Int), false, ())) (
cond (decide (x.2.1 > x.1.1)) (
some ((0 : Int), false, ())) (
let v1 := (IntKind.i64.wrap ((x.1.2.1.length : Int) - (1 : Int)))
L34_0 N N (x.2.1, (), x.1, v1, ()) fun y4 =>
cond (decide (y4.2.2.2.1 < (0 : Int))) (
some ((0 : Int), false, ())) (
if 0 ≤ y4.2.2.2.1 then
if y4.2.2.2.1 < (y4.2.2.1.2.1.length : Int) then
let e5 : D77 := rdAt (t := t77) y4.2.2.1.2.1 y4.2.2.2.1
cond (decide (e5.2.2.1 < (1 : Int))) (
some (e5.2.1, true, ())) (
if e5.2.2.1 = 0 then none else
let v6 := (IntKind.i64.wrap ((IntKind.i64.wrap (y4.1 - e5.1)).tdiv e5.2.2.1))
let v7 := (IntKind.i64.wrap (e5.2.1 + (IntKind.i64.wrap ((if (IntKind.i64.wrap (e5.2.2.2.2.1 - (1 : Int))) < v6 then (IntKind.i64.wrap (e5.2.2.2.2.1 - (1 : Int))) else v6) * e5.2.2.2.1))))
some (v7, true, ()))
else none
else none)))

noncomputable def ps34 : List Ty := [t52, (.int .i64)]
noncomputable def rs34 : List Ty := [(.int .i64), .bool]
noncomputable def ty34 : List (TypeId × Ty) := [(3, (.int .i64)), (51, (.sl 78 t77)), (53, t52), (78, t77)]
noncomputable def by34 : List (TypeId × Nat) := []
noncomputable def eq34 : List TypeId := []
noncomputable def E34 : Go.V.Env := { ty := ty34, bytes := by34, fn := [], eqs := eq34, inl := [] }
noncomputable def M34 : List (Nat × Go.V.Mark (Ty.prods rs34).den) := [(120, { ins := L34_0i, outs := L34_0o, ex := some 0, f := fun N => L34_0 N })]
noncomputable def C34 (N : Nat) : Go.V.Ctx (Ty.prods rs34).den := { E := E34, n := Go.Proofs.Try.f34.ntmps, marks := M34, fin := Go.V.finish (E34) Go.Proofs.Try.f34 rs34, N }
noncomputable def c34 : Code := (Go.Proofs.Try.f34.body).getD .skip

theorem tab34 : tablesB Go.Proofs.Try.prog ty34 by34 eq34 = true := by kernel_rfl
theorem oL34_0 (N : Nat) : (Obl.loop { ins := L34_0i, outs := L34_0o, ex := some 0, f := fun N => L34_0 N } 120 (subc [true, true, true, false, false, false] c34) : Obl (Ty.prods rs34).den).holds (C34 N) := by
  intro x Kx
  exact ⟨by kernel_rfl, fun k => by kernel_rfl⟩
theorem ob34 (N : Nat) : obls (C34 N) 1 c34 = [.loop { ins := L34_0i, outs := L34_0o, ex := some 0, f := fun N => L34_0 N } 120 (subc [true, true, true, false, false, false] c34)] := by kernel_rfl
theorem eF34 (N : Nat) (x : (Ty.prods ps34).den) : Go.V.evBody (E34) Go.Proofs.Try.f34 rs34 (M34) N (Go.V.start Go.Proofs.Try.f34 ps34 x) = F34 N x := by kernel_rfl
theorem s34 (N : Nat) : Sound Go.Proofs.Try.prog 34 { ps := ps34, rs := rs34, f := F34 N } := by
  have hE : EnvOk Go.Proofs.Try.prog (E34) := env_ok tab34 (by
    intro p hp
    cases hp) (by
    intro p hp
    cases hp)
  have h := fn_sound hE (by kernel_rfl) Go.Proofs.Try.func34 (show Go.Proofs.Try.f34.body = some c34 by kernel_rfl) ps34 rs34 (M34) N (by
    intro o ho
    have ho : o ∈ obls (C34 N) 1 c34 := ho
    rw [ob34] at ho
    simp only [List.mem_cons, List.not_mem_nil, or_false] at ho
    rcases ho with rfl
    · exact oL34_0 N)
  have e : (fun x => Go.V.evBody (E34) Go.Proofs.Try.f34 rs34 (M34) N (Go.V.start Go.Proofs.Try.f34 ps34 x)) = F34 N := funext fun x => eF34 N x
  rw [e] at h
  exact h

end Go.Proofs.Ytkifmnocomadfaa
end

/- The reading of poundage lookup.Price. -/
section
set_option linter.unusedVariables false
set_option maxRecDepth 100000
namespace Go.Proofs.Ytkifmnocomadfaa
open Go.V

noncomputable def L9_0i : Shape := { items := [.ptr 8 1 0, .bx 1 0 t40, .tm 10 (.int .i64), .tm 33 (.sl 3 (.int .i64)), .tm 34 (.int .i64), .tm 35 (.int .i64)], boxes := [32, 41] }
noncomputable def L9_0o : Shape := { items := [.tm 10 (.int .i64)], boxes := [] }
noncomputable def L9_0 (N : Nat) (g11 : (D31 × (Int × Unit)) → Option (D40 × D159)) (g34 : (D52 × (Int × Unit)) → Option (Int × D159)) : Nat → (Unit × (D40 × (Int × ((List Int) × D146)))) → ((Int × Unit) → Option D146) → Option D146
| 0, _, _ => none
| k + 1, x2, Kx =>
cond (decide (x2.2.2.2.2.2.1 < x2.2.2.2.2.1)) (
if 0 ≤ x2.2.2.2.2.2.1 then
if x2.2.2.2.2.2.1 < (x2.2.2.2.1.length : Int) then
let v3 := (rdAt (t := (.int .i64)) x2.2.2.2.1 x2.2.2.2.2.2.1)
if 0 ≤ x2.2.2.2.2.2.1 then
if x2.2.2.2.2.2.1 < (x2.2.1.2.2.2.1.length : Int) then
let e4 : D52 := rdAt (t := t52) x2.2.1.2.2.2.1 x2.2.2.2.2.2.1
(g34 (e4, v3, ())).bind fun r5 =>
cond (!r5.2.1) (
some ((0 : Int), (8 : Int), ())) (
L9_0 N g11 g34 k ((), x2.2.1, (IntKind.i64.wrap (x2.2.2.1 + r5.1)), x2.2.2.2.1, x2.2.2.2.2.1, (IntKind.i64.wrap (x2.2.2.2.2.2.1 + (1 : Int))), ()) Kx)
else none
else none
else none
else none) (
Kx (x2.2.2.1, ()))

noncomputable def F9 (N : Nat) (g11 : (D31 × (Int × Unit)) → Option (D40 × D159)) (g34 : (D52 × (Int × Unit)) → Option (Int × D159)) : (D31 × (Int × ((List Int) × Unit))) → Option D146 := fun x =>
(g11 (x.1, x.2.1, ())).bind fun r1 =>
cond (!r1.2.1) (
some ((0 : Int), (8 : Int), ())) (
cond ((x.2.2.1.length : Int) != (r1.1.2.2.2.1.length : Int)) (
some ((0 : Int), (8 : Int), ())) (
L9_0 N g11 g34 N ((), r1.1, r1.1.2.2.1, x.2.2.1, (x.2.2.1.length : Int), (0 : Int), ()) fun y6 =>
some (y6.1, (0 : Int), ())))

noncomputable def ps9 : List Ty := [t31, (.int .i64), (.sl 3 (.int .i64))]
noncomputable def rs9 : List Ty := [(.int .i64), (.int .i64)]
noncomputable def ty9 : List (TypeId × Ty) := [(3, (.int .i64)), (27, (.sl 3 (.int .i64))), (32, t31), (39, (.sl 53 t52)), (41, t40), (53, t52)]
noncomputable def by9 : List (TypeId × Nat) := []
noncomputable def eq9 : List TypeId := []
noncomputable def E9 (g11 : (D31 × (Int × Unit)) → Option (D40 × D159)) (g34 : (D52 × (Int × Unit)) → Option (Int × D159)) : Go.V.Env := { ty := ty9, bytes := by9, fn := [(11, { ps := [t31, (.int .i64)], rs := [t40, .bool], f := g11 }), (34, { ps := [t52, (.int .i64)], rs := [(.int .i64), .bool], f := g34 })], eqs := eq9, inl := [] }
noncomputable def M9 (g11 : (D31 × (Int × Unit)) → Option (D40 × D159)) (g34 : (D52 × (Int × Unit)) → Option (Int × D159)) : List (Nat × Go.V.Mark (Ty.prods rs9).den) := [(500, { ins := L9_0i, outs := L9_0o, ex := some 0, f := fun N => L9_0 N g11 g34 })]
noncomputable def C9 (N : Nat) (g11 : (D31 × (Int × Unit)) → Option (D40 × D159)) (g34 : (D52 × (Int × Unit)) → Option (Int × D159)) : Go.V.Ctx (Ty.prods rs9).den := { E := E9 g11 g34, n := Go.Proofs.Try.f9.ntmps, marks := M9 g11 g34, fin := Go.V.finish (E9 g11 g34) Go.Proofs.Try.f9 rs9, N }
noncomputable def c9 : Code := (Go.Proofs.Try.f9.body).getD .skip

theorem tab9 : tablesB Go.Proofs.Try.prog ty9 by9 eq9 = true := by kernel_rfl
theorem oL9_0 (N : Nat) (g11 : (D31 × (Int × Unit)) → Option (D40 × D159)) (g34 : (D52 × (Int × Unit)) → Option (Int × D159)) : (Obl.loop { ins := L9_0i, outs := L9_0o, ex := some 0, f := fun N => L9_0 N g11 g34 } 500 (subc [true, true, true, true, false, true, false, false] c9) : Obl (Ty.prods rs9).den).holds (C9 N g11 g34) := by
  intro x Kx
  exact ⟨by kernel_rfl, fun k => by kernel_rfl⟩
theorem ob9 (N : Nat) (g11 : (D31 × (Int × Unit)) → Option (D40 × D159)) (g34 : (D52 × (Int × Unit)) → Option (Int × D159)) : obls (C9 N g11 g34) 1 c9 = [.loop { ins := L9_0i, outs := L9_0o, ex := some 0, f := fun N => L9_0 N g11 g34 } 500 (subc [true, true, true, true, false, true, false, false] c9)] := by kernel_rfl
theorem eF9 (N : Nat) (g11 : (D31 × (Int × Unit)) → Option (D40 × D159)) (g34 : (D52 × (Int × Unit)) → Option (Int × D159)) (x : (Ty.prods ps9).den) : Go.V.evBody (E9 g11 g34) Go.Proofs.Try.f9 rs9 (M9 g11 g34) N (Go.V.start Go.Proofs.Try.f9 ps9 x) = F9 N g11 g34 x := by kernel_rfl
theorem s9 (N : Nat) (g11 : (D31 × (Int × Unit)) → Option (D40 × D159)) (g34 : (D52 × (Int × Unit)) → Option (Int × D159)) (h11 : Sound Go.Proofs.Try.prog 11 { ps := [t31, (.int .i64)], rs := [t40, .bool], f := g11 }) (h34 : Sound Go.Proofs.Try.prog 34 { ps := [t52, (.int .i64)], rs := [(.int .i64), .bool], f := g34 }) : Sound Go.Proofs.Try.prog 9 { ps := ps9, rs := rs9, f := F9 N g11 g34 } := by
  have hE : EnvOk Go.Proofs.Try.prog (E9 g11 g34) := env_ok tab9 (by
    intro p hp
    simp only [List.mem_cons, List.not_mem_nil, or_false] at hp
    rcases hp with rfl | rfl
    · exact ⟨h11, Go.Proofs.Try.f11, Go.Proofs.Try.func11, by kernel_rfl, by kernel_rfl⟩
    · exact ⟨h34, Go.Proofs.Try.f34, Go.Proofs.Try.func34, by kernel_rfl, by kernel_rfl⟩) (by
    intro p hp
    cases hp)
  have h := fn_sound hE (by kernel_rfl) Go.Proofs.Try.func9 (show Go.Proofs.Try.f9.body = some c9 by kernel_rfl) ps9 rs9 (M9 g11 g34) N (by
    intro o ho
    have ho : o ∈ obls (C9 N g11 g34) 1 c9 := ho
    rw [ob9] at ho
    simp only [List.mem_cons, List.not_mem_nil, or_false] at ho
    rcases ho with rfl
    · exact oL9_0 N g11 g34)
  have e : (fun x => Go.V.evBody (E9 g11 g34) Go.Proofs.Try.f9 rs9 (M9 g11 g34) N (Go.V.start Go.Proofs.Try.f9 ps9 x)) = F9 N g11 g34 := funext fun x => eF9 N g11 g34 x
  rw [e] at h
  exact h

end Go.Proofs.Ytkifmnocomadfaa
end

/- The reading of poundage poundagelaw19.alive. -/
section
set_option linter.unusedVariables false
set_option maxRecDepth 100000
namespace Go.Proofs.Ytkifmnocomadfaa
open Go.V

noncomputable def F6 (N : Nat) (g9 : (D31 × (Int × ((List Int) × Unit))) → Option D146) : Unit → Option D159 := fun x =>
let v1 := [((0 : Int), (0 : Int), (1 : Int), (2 : Int), (4 : Int), ())]
let v2 := [(({ data := #[109] } : ByteArray), ByteArray.empty, (3 : Int), (0 : Int), (0 : Int), ())]
let v3 := [((0 : Int), (9 : Int), (5 : Int), [((3 : Int), v1, ())], ())]
(g9 ((ByteArray.empty, (0 : Int), (9 : Int), v2, v3, ()), (4 : Int), [(3 : Int)], ())).bind fun r4 =>
(g9 ((ByteArray.empty, (0 : Int), (9 : Int), v2, v3, ()), (10 : Int), [(3 : Int)], ())).bind fun r5 =>
cond (r4.1 == (11 : Int)) (
cond (r4.2.1 == (0 : Int)) (
some ((r5.2.1 == (8 : Int)), ())) (
some (false, ()))) (
some (false, ()))

noncomputable def ps6 : List Ty := []
noncomputable def rs6 : List Ty := [.bool]
noncomputable def ty6 : List (TypeId × Ty) := [(3, (.int .i64)), (22, (.sl 68 t67)), (27, (.sl 3 (.int .i64))), (30, (.sl 41 t40)), (32, t31), (34, (.int .i64)), (39, (.sl 53 t52)), (41, t40), (51, (.sl 78 t77)), (53, t52), (68, t67), (78, t77)]
noncomputable def by6 : List (TypeId × Nat) := []
noncomputable def eq6 : List TypeId := []
noncomputable def E6 (g9 : (D31 × (Int × ((List Int) × Unit))) → Option D146) : Go.V.Env := { ty := ty6, bytes := by6, fn := [(9, { ps := [t31, (.int .i64), (.sl 3 (.int .i64))], rs := [(.int .i64), (.int .i64)], f := g9 })], eqs := eq6, inl := [] }
noncomputable def M6 (g9 : (D31 × (Int × ((List Int) × Unit))) → Option D146) : List (Nat × Go.V.Mark (Ty.prods rs6).den) := []
noncomputable def C6 (N : Nat) (g9 : (D31 × (Int × ((List Int) × Unit))) → Option D146) : Go.V.Ctx (Ty.prods rs6).den := { E := E6 g9, n := Go.Proofs.Try.f6.ntmps, marks := M6 g9, fin := Go.V.finish (E6 g9) Go.Proofs.Try.f6 rs6, N }
noncomputable def c6 : Code := (Go.Proofs.Try.f6.body).getD .skip

theorem tab6 : tablesB Go.Proofs.Try.prog ty6 by6 eq6 = true := by kernel_rfl
theorem ob6 (N : Nat) (g9 : (D31 × (Int × ((List Int) × Unit))) → Option D146) : obls (C6 N g9) 1 c6 = [] := by kernel_rfl
theorem eF6 (N : Nat) (g9 : (D31 × (Int × ((List Int) × Unit))) → Option D146) (x : (Ty.prods ps6).den) : Go.V.evBody (E6 g9) Go.Proofs.Try.f6 rs6 (M6 g9) N (Go.V.start Go.Proofs.Try.f6 ps6 x) = F6 N g9 x := by kernel_rfl
theorem s6 (N : Nat) (g9 : (D31 × (Int × ((List Int) × Unit))) → Option D146) (h9 : Sound Go.Proofs.Try.prog 9 { ps := [t31, (.int .i64), (.sl 3 (.int .i64))], rs := [(.int .i64), (.int .i64)], f := g9 }) : Sound Go.Proofs.Try.prog 6 { ps := ps6, rs := rs6, f := F6 N g9 } := by
  have hE : EnvOk Go.Proofs.Try.prog (E6 g9) := env_ok tab6 (by
    intro p hp
    simp only [List.mem_cons, List.not_mem_nil, or_false] at hp
    rcases hp with rfl
    · exact ⟨h9, Go.Proofs.Try.f9, Go.Proofs.Try.func9, by kernel_rfl, by kernel_rfl⟩) (by
    intro p hp
    cases hp)
  have h := fn_sound hE (by kernel_rfl) Go.Proofs.Try.func6 (show Go.Proofs.Try.f6.body = some c6 by kernel_rfl) ps6 rs6 (M6 g9) N (by
    intro o ho
    have ho : o ∈ obls (C6 N g9) 1 c6 := ho
    rw [ob6] at ho
    cases ho)
  have e : (fun x => Go.V.evBody (E6 g9) Go.Proofs.Try.f6 rs6 (M6 g9) N (Go.V.start Go.Proofs.Try.f6 ps6 x)) = F6 N g9 := funext fun x => eF6 N g9 x
  rw [e] at h
  exact h

end Go.Proofs.Ytkifmnocomadfaa
end

/- The reading of poundage poundageref10.Great. -/
section
set_option linter.unusedVariables false
set_option maxRecDepth 100000
namespace Go.Proofs.Ytkifmnocomadfaa
open Go.V

noncomputable def L29_0i : Shape := { items := [.ptr 1 0 0, .bx 0 0 t25, .tm 30 (.sl 68 t67), .tm 31 (.int .i64), .tm 32 (.int .i64)], boxes := [26] }
noncomputable def L29_0o : Shape := { items := [.ptr 1 0 0, .bx 0 0 t25], boxes := [26] }
noncomputable def L29_0 (N : Nat) : Nat → (Unit × (D25 × ((List D67) × D146))) → ((Unit × (D25 × Unit)) → Option D159) → Option D159
| 0, _, _ => none
| k + 1, x1, Kx =>
cond (decide (x1.2.2.2.2.1 < x1.2.2.2.1)) (
if 0 ≤ x1.2.2.2.2.1 then
if x1.2.2.2.2.1 < (x1.2.2.1.length : Int) then
let e2 : D67 := rdAt (t := t67) x1.2.2.1 x1.2.2.2.2.1
cond (decide ((e2.1.size : Int) > (200 : Int))) (
some (true, ())) (
cond (decide ((e2.2.1.size : Int) > (200 : Int))) (
some (true, ())) (
L29_0 N k ((), x1.2.1, x1.2.2.1, x1.2.2.2.1, (IntKind.i64.wrap (x1.2.2.2.2.1 + (1 : Int))), ()) Kx))
else none
else none) (
Kx ((), x1.2.1, ()))

noncomputable def L29_1i : Shape := { items := [.tm 48 (.sl 114 t113), .tm 49 (.int .i64), .tm 50 (.int .i64)], boxes := [] }
noncomputable def L29_1o : Shape := { items := [], boxes := [] }
noncomputable def L29_1 (N : Nat) : Nat → ((List D113) × D146) → (Unit → Option D159) → Option D159
| 0, _, _ => none
| k + 1, x4, Kx =>
cond (decide (x4.2.2.1 < x4.2.1)) (
if 0 ≤ x4.2.2.1 then
if x4.2.2.1 < (x4.1.length : Int) then
let e5 : D113 := rdAt (t := t113) x4.1 x4.2.2.1
cond (decide ((e5.2.2.2.2.2.2.1.length : Int) > (40 : Int))) (
some (true, ())) (
cond (decide ((e5.2.2.2.2.2.2.2.2.1.length : Int) > (40 : Int))) (
some (true, ())) (
L29_1 N k (x4.1, x4.2.1, (IntKind.i64.wrap (x4.2.2.1 + (1 : Int))), ()) Kx))
else none
else none) (
Kx ())

noncomputable def F29 (N : Nat) : (D25 × Unit) → Option D159 := fun x =>
cond (decide ((x.1.2.2.2.1.length : Int) > (20 : Int))) (
some (true, ())) (
cond (decide ((x.1.2.2.2.2.1.length : Int) > (40 : Int))) (
some (true, ())) (
cond (decide ((x.1.2.2.2.2.2.1.length : Int) > (40 : Int))) (
some (true, ())) (
cond (decide ((x.1.1.size : Int) > (200 : Int))) (
some (true, ())) (
L29_0 N N ((), x.1, x.1.2.2.2.1, (x.1.2.2.2.1.length : Int), (0 : Int), ()) fun y3 =>
L29_1 N N (y3.2.1.2.2.2.2.2.1, (y3.2.1.2.2.2.2.2.1.length : Int), (0 : Int), ()) fun y6 =>
some (false, ())))))

noncomputable def ps29 : List Ty := [t25]
noncomputable def rs29 : List Ty := [.bool]
noncomputable def ty29 : List (TypeId × Ty) := [(3, (.int .i64)), (9, .str), (22, (.sl 68 t67)), (23, (.sl 110 t87)), (24, (.sl 114 t113)), (26, t25), (68, t67), (110, t87), (111, (.sl 147 t146)), (112, (.sl 149 t87)), (114, t113), (147, t146), (149, t87)]
noncomputable def by29 : List (TypeId × Nat) := []
noncomputable def eq29 : List TypeId := []
noncomputable def E29 : Go.V.Env := { ty := ty29, bytes := by29, fn := [], eqs := eq29, inl := [] }
noncomputable def M29 : List (Nat × Go.V.Mark (Ty.prods rs29).den) := [(116, { ins := L29_0i, outs := L29_0o, ex := some 0, f := fun N => L29_0 N }), (244, { ins := L29_1i, outs := L29_1o, ex := some 2, f := fun N => L29_1 N })]
noncomputable def C29 (N : Nat) : Go.V.Ctx (Ty.prods rs29).den := { E := E29, n := Go.Proofs.Try.f29.ntmps, marks := M29, fin := Go.V.finish (E29) Go.Proofs.Try.f29 rs29, N }
noncomputable def c29 : Code := (Go.Proofs.Try.f29.body).getD .skip

theorem tab29 : tablesB Go.Proofs.Try.prog ty29 by29 eq29 = true := by kernel_rfl
theorem oL29_0 (N : Nat) : (Obl.loop { ins := L29_0i, outs := L29_0o, ex := some 0, f := fun N => L29_0 N } 116 (subc [true, true, false, true, false, false] c29) : Obl (Ty.prods rs29).den).holds (C29 N) := by
  intro x Kx
  exact ⟨by kernel_rfl, fun k => by kernel_rfl⟩
theorem oL29_1 (N : Nat) : (Obl.loop { ins := L29_1i, outs := L29_1o, ex := some 2, f := fun N => L29_1 N } 244 (subc [true, true, true, false, true, false, false] c29) : Obl (Ty.prods rs29).den).holds (C29 N) := by
  intro x Kx
  exact ⟨by kernel_rfl, fun k => by kernel_rfl⟩
theorem ob29 (N : Nat) : obls (C29 N) 1 c29 = [.loop { ins := L29_0i, outs := L29_0o, ex := some 0, f := fun N => L29_0 N } 116 (subc [true, true, false, true, false, false] c29), .loop { ins := L29_1i, outs := L29_1o, ex := some 2, f := fun N => L29_1 N } 244 (subc [true, true, true, false, true, false, false] c29)] := by kernel_rfl
theorem eF29 (N : Nat) (x : (Ty.prods ps29).den) : Go.V.evBody (E29) Go.Proofs.Try.f29 rs29 (M29) N (Go.V.start Go.Proofs.Try.f29 ps29 x) = F29 N x := by kernel_rfl
theorem s29 (N : Nat) : Sound Go.Proofs.Try.prog 29 { ps := ps29, rs := rs29, f := F29 N } := by
  have hE : EnvOk Go.Proofs.Try.prog (E29) := env_ok tab29 (by
    intro p hp
    cases hp) (by
    intro p hp
    cases hp)
  have h := fn_sound hE (by kernel_rfl) Go.Proofs.Try.func29 (show Go.Proofs.Try.f29.body = some c29 by kernel_rfl) ps29 rs29 (M29) N (by
    intro o ho
    have ho : o ∈ obls (C29 N) 1 c29 := ho
    rw [ob29] at ho
    simp only [List.mem_cons, List.not_mem_nil, or_false] at ho
    rcases ho with rfl | rfl
    · exact oL29_0 N
    · exact oL29_1 N)
  have e : (fun x => Go.V.evBody (E29) Go.Proofs.Try.f29 rs29 (M29) N (Go.V.start Go.Proofs.Try.f29 ps29 x)) = F29 N := funext fun x => eF29 N x
  rw [e] at h
  exact h

end Go.Proofs.Ytkifmnocomadfaa
end

/- The reading of poundage poundageref10.in. -/
section
set_option linter.unusedVariables false
set_option maxRecDepth 100000
namespace Go.Proofs.Ytkifmnocomadfaa
open Go.V

noncomputable def F59 (N : Nat) : D87 → Option D159 := fun x =>
cond (decide (x.2.1 ≤ x.1)) (
some ((decide (x.1 ≤ x.2.2.1)), ())) (
some (false, ()))

noncomputable def ps59 : List Ty := [(.int .i64), (.int .i64), (.int .i64)]
noncomputable def rs59 : List Ty := [.bool]
noncomputable def ty59 : List (TypeId × Ty) := [(3, (.int .i64))]
noncomputable def by59 : List (TypeId × Nat) := []
noncomputable def eq59 : List TypeId := []
noncomputable def E59 : Go.V.Env := { ty := ty59, bytes := by59, fn := [], eqs := eq59, inl := [] }
noncomputable def M59 : List (Nat × Go.V.Mark (Ty.prods rs59).den) := []
noncomputable def C59 (N : Nat) : Go.V.Ctx (Ty.prods rs59).den := { E := E59, n := Go.Proofs.Try.f59.ntmps, marks := M59, fin := Go.V.finish (E59) Go.Proofs.Try.f59 rs59, N }
noncomputable def c59 : Code := (Go.Proofs.Try.f59.body).getD .skip

theorem tab59 : tablesB Go.Proofs.Try.prog ty59 by59 eq59 = true := by kernel_rfl
theorem ob59 (N : Nat) : obls (C59 N) 1 c59 = [] := by kernel_rfl
theorem eF59 (N : Nat) (x : (Ty.prods ps59).den) : Go.V.evBody (E59) Go.Proofs.Try.f59 rs59 (M59) N (Go.V.start Go.Proofs.Try.f59 ps59 x) = F59 N x := by kernel_rfl
theorem s59 (N : Nat) : Sound Go.Proofs.Try.prog 59 { ps := ps59, rs := rs59, f := F59 N } := by
  have hE : EnvOk Go.Proofs.Try.prog (E59) := env_ok tab59 (by
    intro p hp
    cases hp) (by
    intro p hp
    cases hp)
  have h := fn_sound hE (by kernel_rfl) Go.Proofs.Try.func59 (show Go.Proofs.Try.f59.body = some c59 by kernel_rfl) ps59 rs59 (M59) N (by
    intro o ho
    have ho : o ∈ obls (C59 N) 1 c59 := ho
    rw [ob59] at ho
    cases ho)
  have e : (fun x => Go.V.evBody (E59) Go.Proofs.Try.f59 rs59 (M59) N (Go.V.start Go.Proofs.Try.f59 ps59 x)) = F59 N := funext fun x => eF59 N x
  rw [e] at h
  exact h

end Go.Proofs.Ytkifmnocomadfaa
end

/- The reading of poundage poundageref10.span. -/
section
set_option linter.unusedVariables false
set_option maxRecDepth 100000
namespace Go.Proofs.Ytkifmnocomadfaa
open Go.V

noncomputable def F60 (N : Nat) : (D25 × D146) → Option D159 := fun x =>
cond (decide (x.1.2.1 ≤ x.2.1)) (
cond (decide (x.2.1 ≤ x.2.2.1)) (
some ((decide (x.2.2.1 ≤ x.1.2.2.1)), ())) (
some (false, ()))) (
some (false, ()))

noncomputable def ps60 : List Ty := [t25, (.int .i64), (.int .i64)]
noncomputable def rs60 : List Ty := [.bool]
noncomputable def ty60 : List (TypeId × Ty) := [(3, (.int .i64)), (26, t25)]
noncomputable def by60 : List (TypeId × Nat) := []
noncomputable def eq60 : List TypeId := []
noncomputable def E60 : Go.V.Env := { ty := ty60, bytes := by60, fn := [], eqs := eq60, inl := [] }
noncomputable def M60 : List (Nat × Go.V.Mark (Ty.prods rs60).den) := []
noncomputable def C60 (N : Nat) : Go.V.Ctx (Ty.prods rs60).den := { E := E60, n := Go.Proofs.Try.f60.ntmps, marks := M60, fin := Go.V.finish (E60) Go.Proofs.Try.f60 rs60, N }
noncomputable def c60 : Code := (Go.Proofs.Try.f60.body).getD .skip

theorem tab60 : tablesB Go.Proofs.Try.prog ty60 by60 eq60 = true := by kernel_rfl
theorem ob60 (N : Nat) : obls (C60 N) 1 c60 = [] := by kernel_rfl
theorem eF60 (N : Nat) (x : (Ty.prods ps60).den) : Go.V.evBody (E60) Go.Proofs.Try.f60 rs60 (M60) N (Go.V.start Go.Proofs.Try.f60 ps60 x) = F60 N x := by kernel_rfl
theorem s60 (N : Nat) : Sound Go.Proofs.Try.prog 60 { ps := ps60, rs := rs60, f := F60 N } := by
  have hE : EnvOk Go.Proofs.Try.prog (E60) := env_ok tab60 (by
    intro p hp
    cases hp) (by
    intro p hp
    cases hp)
  have h := fn_sound hE (by kernel_rfl) Go.Proofs.Try.func60 (show Go.Proofs.Try.f60.body = some c60 by kernel_rfl) ps60 rs60 (M60) N (by
    intro o ho
    have ho : o ∈ obls (C60 N) 1 c60 := ho
    rw [ob60] at ho
    cases ho)
  have e : (fun x => Go.V.evBody (E60) Go.Proofs.Try.f60 rs60 (M60) N (Go.V.start Go.Proofs.Try.f60 ps60 x)) = F60 N := funext fun x => eF60 N x
  rw [e] at h
  exact h

end Go.Proofs.Ytkifmnocomadfaa
end

/- The reading of poundage poundageref10.Part. -/
section
set_option linter.unusedVariables false
set_option maxRecDepth 100000
namespace Go.Proofs.Ytkifmnocomadfaa
open Go.V

noncomputable def L61_0i : Shape := { items := [.ptr 3 1 0, .bx 1 0 t113, .tm 78 (.sl 147 t146), .tm 79 (.int .i64), .tm 80 (.int .i64)], boxes := [26, 114] }
noncomputable def L61_0o : Shape := { items := [.ptr 3 1 0, .bx 1 0 t113], boxes := [26, 114] }
noncomputable def L61_0 (N : Nat) (g59 : D87 → Option D159) (g60 : (D25 × D146) → Option D159) : Nat → (Unit × (D113 × ((List D146) × D146))) → ((Unit × (D113 × Unit)) → Option D159) → Option D159
| 0, _, _ => none
| k + 1, x5, Kx =>
cond (decide (x5.2.2.2.2.1 < x5.2.2.2.1)) (
if 0 ≤ x5.2.2.2.2.1 then
if x5.2.2.2.2.1 < (x5.2.2.1.length : Int) then
let e6 : D146 := rdAt (t := t146) x5.2.2.1 x5.2.2.2.2.1
cond (decide (x5.2.2.2.2.1 > (0 : Int))) (
if 0 ≤ (IntKind.i64.wrap (x5.2.2.2.2.1 - (1 : Int))) then
if (IntKind.i64.wrap (x5.2.2.2.2.1 - (1 : Int))) < (x5.2.1.2.2.2.2.2.2.1.length : Int) then
let e7 : D146 := rdAt (t := t146) x5.2.1.2.2.2.2.2.2.1 (IntKind.i64.wrap (x5.2.2.2.2.1 - (1 : Int)))
cond (decide (e7.1 ≥ (1 : Int))) (
if 0 ≤ (IntKind.i64.wrap (x5.2.2.2.2.1 - (1 : Int))) then
if (IntKind.i64.wrap (x5.2.2.2.2.1 - (1 : Int))) < (x5.2.1.2.2.2.2.2.2.1.length : Int) then
let e8 : D146 := rdAt (t := t146) x5.2.1.2.2.2.2.2.2.1 (IntKind.i64.wrap (x5.2.2.2.2.1 - (1 : Int)))
let v9 := (IntKind.i64.wrap ((if (1000000 : Int) < e8.1 then (1000000 : Int) else e8.1) + (1 : Int)))
cond (x5.2.2.2.2.1 == (IntKind.i64.wrap ((x5.2.1.2.2.2.2.2.2.1.length : Int) - (1 : Int)))) (
(g59 (e6.2.1, (0 : Int), (1000000000000 : Int), ())).bind fun r10 =>
cond (!r10.1) (
some (false, ())) (
(g59 (e6.1, (0 : Int), (0 : Int), ())).bind fun r11 =>
cond (!r11.1) (
some (false, ())) (
L61_0 N g59 g60 k ((), x5.2.1, x5.2.2.1, x5.2.2.2.1, (IntKind.i64.wrap (x5.2.2.2.2.1 + (1 : Int))), ()) Kx))) (
(g59 (e6.2.1, (0 : Int), (1000000000000 : Int), ())).bind fun r12 =>
cond (!r12.1) (
some (false, ())) (
(g59 (e6.1, v9, (1000000 : Int), ())).bind fun r13 =>
cond (!r13.1) (
some (false, ())) (
L61_0 N g59 g60 k ((), x5.2.1, x5.2.2.1, x5.2.2.2.1, (IntKind.i64.wrap (x5.2.2.2.2.1 + (1 : Int))), ()) Kx)))
else none
else none) (
cond (x5.2.2.2.2.1 == (IntKind.i64.wrap ((x5.2.1.2.2.2.2.2.2.1.length : Int) - (1 : Int)))) (
(g59 (e6.2.1, (0 : Int), (1000000000000 : Int), ())).bind fun r14 =>
cond (!r14.1) (
some (false, ())) (
(g59 (e6.1, (0 : Int), (0 : Int), ())).bind fun r15 =>
cond (!r15.1) (
some (false, ())) (
L61_0 N g59 g60 k ((), x5.2.1, x5.2.2.1, x5.2.2.2.1, (IntKind.i64.wrap (x5.2.2.2.2.1 + (1 : Int))), ()) Kx))) (
(g59 (e6.2.1, (0 : Int), (1000000000000 : Int), ())).bind fun r16 =>
cond (!r16.1) (
some (false, ())) (
(g59 (e6.1, (1 : Int), (1000000 : Int), ())).bind fun r17 =>
cond (!r17.1) (
some (false, ())) (
L61_0 N g59 g60 k ((), x5.2.1, x5.2.2.1, x5.2.2.2.1, (IntKind.i64.wrap (x5.2.2.2.2.1 + (1 : Int))), ()) Kx))))
else none
else none) (
cond (x5.2.2.2.2.1 == (IntKind.i64.wrap ((x5.2.1.2.2.2.2.2.2.1.length : Int) - (1 : Int)))) (
(g59 (e6.2.1, (0 : Int), (1000000000000 : Int), ())).bind fun r18 =>
cond (!r18.1) (
some (false, ())) (
(g59 (e6.1, (0 : Int), (0 : Int), ())).bind fun r19 =>
cond (!r19.1) (
some (false, ())) (
L61_0 N g59 g60 k ((), x5.2.1, x5.2.2.1, x5.2.2.2.1, (IntKind.i64.wrap (x5.2.2.2.2.1 + (1 : Int))), ()) Kx))) (
(g59 (e6.2.1, (0 : Int), (1000000000000 : Int), ())).bind fun r20 =>
cond (!r20.1) (
some (false, ())) (
(g59 (e6.1, (1 : Int), (1000000 : Int), ())).bind fun r21 =>
cond (!r21.1) (
some (false, ())) (
L61_0 N g59 g60 k ((), x5.2.1, x5.2.2.1, x5.2.2.2.1, (IntKind.i64.wrap (x5.2.2.2.2.1 + (1 : Int))), ()) Kx))))
else none
else none) (
Kx ((), x5.2.1, ()))

noncomputable def L61_1i : Shape := { items := [.tm 126 (.sl 149 t87), .tm 127 (.int .i64), .tm 128 (.int .i64)], boxes := [] }
noncomputable def L61_1o : Shape := { items := [], boxes := [] }
noncomputable def L61_1 (N : Nat) (g59 : D87 → Option D159) (g60 : (D25 × D146) → Option D159) : Nat → ((List D87) × D146) → (Unit → Option D159) → Option D159
| 0, _, _ => none
| k + 1, x23, Kx =>
cond (decide (x23.2.2.1 < x23.2.1)) (
if 0 ≤ x23.2.2.1 then
if x23.2.2.1 < (x23.1.length : Int) then
let e24 : D87 := rdAt (t := t87) x23.1 x23.2.2.1
cond (e24.1 == (1 : Int)) (
(g59 (e24.2.1, (0 : Int), (100000000 : Int), ())).bind fun r25 =>
cond (!r25.1) (
some (false, ())) (
(g59 (e24.2.2.1, (0 : Int), (3 : Int), ())).bind fun r26 =>
cond (!r26.1) (
some (false, ())) (
L61_1 N g59 g60 k (x23.1, x23.2.1, (IntKind.i64.wrap (x23.2.2.1 + (1 : Int))), ()) Kx))) (
cond (e24.1 == (2 : Int)) (
cond (e24.1 == (2 : Int)) (
(g59 (e24.2.1, (0 : Int), (1000000000000 : Int), ())).bind fun r27 =>
cond (!r27.1) (
some (false, ())) (
cond (e24.2.2.1 != (0 : Int)) (
some (false, ())) (
L61_1 N g59 g60 k (x23.1, x23.2.1, (IntKind.i64.wrap (x23.2.2.1 + (1 : Int))), ()) Kx))) (
some (false, ()))) (
cond (e24.1 == (3 : Int)) (
cond (e24.1 == (3 : Int)) (
(g59 (e24.2.1, (0 : Int), (1000000000000 : Int), ())).bind fun r28 =>
cond (!r28.1) (
some (false, ())) (
cond (e24.2.2.1 != (0 : Int)) (
some (false, ())) (
L61_1 N g59 g60 k (x23.1, x23.2.1, (IntKind.i64.wrap (x23.2.2.1 + (1 : Int))), ()) Kx))) (
some (false, ()))) (
cond (e24.1 == (4 : Int)) (
(g59 (e24.2.1, (0 : Int), (1000000000000 : Int), ())).bind fun r29 =>
cond (!r29.1) (
some (false, ())) (
cond (e24.2.2.1 != (0 : Int)) (
some (false, ())) (
L61_1 N g59 g60 k (x23.1, x23.2.1, (IntKind.i64.wrap (x23.2.2.1 + (1 : Int))), ()) Kx))) (
some (false, ())))))
else none
else none) (
Kx ())

noncomputable def F61 (N : Nat) (g59 : D87 → Option D159) (g60 : (D25 × D146) → Option D159) : (D25 × (D113 × Unit)) → Option D159 := fun x =>
cond (decide (x.2.1.1 < (0 : Int))) (
some (false, ())) (
cond (decide (x.2.1.1 ≥ (x.1.2.2.2.1.length : Int))) (
some (false, ())) (
(g60 (x.1, x.2.1.2.1, x.2.1.2.2.1, ())).bind fun r1 =>
cond (!r1.1) (
some (false, ())) (
(g59 (x.2.1.2.2.2.1, (0 : Int), (1000000 : Int), ())).bind fun r2 =>
cond (!r2.1) (
some (false, ())) (
(g59 (x.2.1.2.2.2.2.1, (1 : Int), (1000000 : Int), ())).bind fun r3 =>
cond (!r3.1) (
some (false, ())) (
cond (x.2.1.2.2.2.2.2.1 != (1 : Int)) (
cond (x.2.1.2.2.2.2.2.1 != (2 : Int)) (
some (false, ())) (
(g59 (x.2.1.2.2.2.2.2.2.2.1, (0 : Int), (3 : Int), ())).bind fun r4 =>
cond (!r4.1) (
some (false, ())) (
cond (decide ((x.2.1.2.2.2.2.2.2.1.length : Int) < (1 : Int))) (
some (false, ())) (
cond (decide ((x.2.1.2.2.2.2.2.2.1.length : Int) > (8 : Int))) (
some (false, ())) (
cond (decide ((x.2.1.2.2.2.2.2.2.2.2.1.length : Int) > (6 : Int))) (
some (false, ())) (
L61_0 N g59 g60 N ((), x.2.1, x.2.1.2.2.2.2.2.2.1, (x.2.1.2.2.2.2.2.2.1.length : Int), (0 : Int), ()) fun y22 =>
L61_1 N g59 g60 N (y22.2.1.2.2.2.2.2.2.2.2.1, (y22.2.1.2.2.2.2.2.2.2.2.1.length : Int), (0 : Int), ()) fun y30 =>
some (true, ()))))))) (
(g59 (x.2.1.2.2.2.2.2.2.2.1, (0 : Int), (3 : Int), ())).bind fun r31 =>
cond (!r31.1) (
some (false, ())) (
cond (decide ((x.2.1.2.2.2.2.2.2.1.length : Int) < (1 : Int))) (
some (false, ())) (
cond (decide ((x.2.1.2.2.2.2.2.2.1.length : Int) > (8 : Int))) (
some (false, ())) (
cond (decide ((x.2.1.2.2.2.2.2.2.2.2.1.length : Int) > (6 : Int))) (
some (false, ())) (
L61_0 N g59 g60 N ((), x.2.1, x.2.1.2.2.2.2.2.2.1, (x.2.1.2.2.2.2.2.2.1.length : Int), (0 : Int), ()) fun y32 =>
L61_1 N g59 g60 N (y32.2.1.2.2.2.2.2.2.2.2.1, (y32.2.1.2.2.2.2.2.2.2.2.1.length : Int), (0 : Int), ()) fun y33 =>
some (true, ())))))))))))

noncomputable def ps61 : List Ty := [t25, t113]
noncomputable def rs61 : List Ty := [.bool]
noncomputable def ty61 : List (TypeId × Ty) := [(3, (.int .i64)), (22, (.sl 68 t67)), (26, t25), (68, t67), (111, (.sl 147 t146)), (112, (.sl 149 t87)), (114, t113), (147, t146), (149, t87)]
noncomputable def by61 : List (TypeId × Nat) := []
noncomputable def eq61 : List TypeId := []
noncomputable def E61 (g59 : D87 → Option D159) (g60 : (D25 × D146) → Option D159) : Go.V.Env := { ty := ty61, bytes := by61, fn := [(59, { ps := [(.int .i64), (.int .i64), (.int .i64)], rs := [.bool], f := g59 }), (60, { ps := [t25, (.int .i64), (.int .i64)], rs := [.bool], f := g60 })], eqs := eq61, inl := [] }
noncomputable def M61 (g59 : D87 → Option D159) (g60 : (D25 × D146) → Option D159) : List (Nat × Go.V.Mark (Ty.prods rs61).den) := [(116, { ins := L61_0i, outs := L61_0o, ex := some 0, f := fun N => L61_0 N g59 g60 }), (244, { ins := L61_1i, outs := L61_1o, ex := some 2, f := fun N => L61_1 N g59 g60 })]
noncomputable def C61 (N : Nat) (g59 : D87 → Option D159) (g60 : (D25 × D146) → Option D159) : Go.V.Ctx (Ty.prods rs61).den := { E := E61 g59 g60, n := Go.Proofs.Try.f61.ntmps, marks := M61 g59 g60, fin := Go.V.finish (E61 g59 g60) Go.Proofs.Try.f61 rs61, N }
noncomputable def c61 : Code := (Go.Proofs.Try.f61.body).getD .skip

theorem tab61 : tablesB Go.Proofs.Try.prog ty61 by61 eq61 = true := by kernel_rfl
theorem oL61_0 (N : Nat) (g59 : D87 → Option D159) (g60 : (D25 × D146) → Option D159) : (Obl.loop { ins := L61_0i, outs := L61_0o, ex := some 0, f := fun N => L61_0 N g59 g60 } 116 (subc [true, true, false, true, false, false] c61) : Obl (Ty.prods rs61).den).holds (C61 N g59 g60) := by
  intro x Kx
  exact ⟨by kernel_rfl, fun k => by kernel_rfl⟩
theorem oL61_1 (N : Nat) (g59 : D87 → Option D159) (g60 : (D25 × D146) → Option D159) : (Obl.loop { ins := L61_1i, outs := L61_1o, ex := some 2, f := fun N => L61_1 N g59 g60 } 244 (subc [true, true, true, false, true, false, false] c61) : Obl (Ty.prods rs61).den).holds (C61 N g59 g60) := by
  intro x Kx
  exact ⟨by kernel_rfl, fun k => by kernel_rfl⟩
theorem ob61 (N : Nat) (g59 : D87 → Option D159) (g60 : (D25 × D146) → Option D159) : obls (C61 N g59 g60) 1 c61 = [.loop { ins := L61_0i, outs := L61_0o, ex := some 0, f := fun N => L61_0 N g59 g60 } 116 (subc [true, true, false, true, false, false] c61), .loop { ins := L61_1i, outs := L61_1o, ex := some 2, f := fun N => L61_1 N g59 g60 } 244 (subc [true, true, true, false, true, false, false] c61)] := by kernel_rfl
theorem eF61 (N : Nat) (g59 : D87 → Option D159) (g60 : (D25 × D146) → Option D159) (x : (Ty.prods ps61).den) : Go.V.evBody (E61 g59 g60) Go.Proofs.Try.f61 rs61 (M61 g59 g60) N (Go.V.start Go.Proofs.Try.f61 ps61 x) = F61 N g59 g60 x := by kernel_rfl
theorem s61 (N : Nat) (g59 : D87 → Option D159) (g60 : (D25 × D146) → Option D159) (h59 : Sound Go.Proofs.Try.prog 59 { ps := [(.int .i64), (.int .i64), (.int .i64)], rs := [.bool], f := g59 }) (h60 : Sound Go.Proofs.Try.prog 60 { ps := [t25, (.int .i64), (.int .i64)], rs := [.bool], f := g60 }) : Sound Go.Proofs.Try.prog 61 { ps := ps61, rs := rs61, f := F61 N g59 g60 } := by
  have hE : EnvOk Go.Proofs.Try.prog (E61 g59 g60) := env_ok tab61 (by
    intro p hp
    simp only [List.mem_cons, List.not_mem_nil, or_false] at hp
    rcases hp with rfl | rfl
    · exact ⟨h59, Go.Proofs.Try.f59, Go.Proofs.Try.func59, by kernel_rfl, by kernel_rfl⟩
    · exact ⟨h60, Go.Proofs.Try.f60, Go.Proofs.Try.func60, by kernel_rfl, by kernel_rfl⟩) (by
    intro p hp
    cases hp)
  have h := fn_sound hE (by kernel_rfl) Go.Proofs.Try.func61 (show Go.Proofs.Try.f61.body = some c61 by kernel_rfl) ps61 rs61 (M61 g59 g60) N (by
    intro o ho
    have ho : o ∈ obls (C61 N g59 g60) 1 c61 := ho
    rw [ob61] at ho
    simp only [List.mem_cons, List.not_mem_nil, or_false] at ho
    rcases ho with rfl | rfl
    · exact oL61_0 N g59 g60
    · exact oL61_1 N g59 g60)
  have e : (fun x => Go.V.evBody (E61 g59 g60) Go.Proofs.Try.f61 rs61 (M61 g59 g60) N (Go.V.start Go.Proofs.Try.f61 ps61 x)) = F61 N g59 g60 := funext fun x => eF61 N g59 g60 x
  rw [e] at h
  exact h

end Go.Proofs.Ytkifmnocomadfaa
end
