/- The reading of poundage poundagelaw22.alive. -/
import Derived.Test.YtkifmnocomadfaaGTy
section
set_option linter.unusedVariables false
set_option maxRecDepth 100000
namespace Go.Proofs.Ytkifmnocomadfaa
open Go.V

noncomputable def F21 (N : Nat) (g24 : (D31 × (D31 × Unit)) → Option ((List D67) × ((List D69) × (Int × Unit)))) : Unit → Option D159 := fun x =>
let v1 := [((0 : Int), (0 : Int), (0 : Int), (0 : Int), (1 : Int), ())]
let v2 := [((0 : Int), (9 : Int), (5 : Int), [((3 : Int), v1, ())], ())]
let v3 := [(({ data := #[99] } : ByteArray), ByteArray.empty, (3 : Int), (0 : Int), (0 : Int), ())]
let v4 := [(({ data := #[98] } : ByteArray), ByteArray.empty, (3 : Int), (0 : Int), (0 : Int), ())]
(g24 ((ByteArray.empty, (0 : Int), (9 : Int), v3, v2, ()), (ByteArray.empty, (0 : Int), (9 : Int), v4, v2, ()), ())).bind fun r5 =>
cond (r5.2.2.1 == (0 : Int)) (
cond ((r5.1.length : Int) == (2 : Int)) (
if 0 ≤ (0 : Int) then
if (0 : Int) < (r5.1.length : Int) then
let e6 : D67 := rdAt (t := t67) r5.1 (0 : Int)
cond (e6.1.toList == ({ data := #[98] } : ByteArray).toList) (
cond ((r5.2.1.length : Int) == (1 : Int)) (
if 0 ≤ (0 : Int) then
if (0 : Int) < (r5.2.1.length : Int) then
let e7 : D69 := rdAt (t := t69) r5.2.1 (0 : Int)
cond (e7.2.1 == (9 : Int)) (
if 0 ≤ (0 : Int) then
if (0 : Int) < (r5.2.1.length : Int) then
let e8 : D69 := rdAt (t := t69) r5.2.1 (0 : Int)
cond (e8.2.2.1.2.2.1 == (5 : Int)) (
if 0 ≤ (0 : Int) then
if (0 : Int) < (r5.2.1.length : Int) then
let e9 : D69 := rdAt (t := t69) r5.2.1 (0 : Int)
some (((e9.2.2.2.1.2.2.2.1.length : Int) == (2 : Int)), ())
else none
else none) (
some (false, ()))
else none
else none) (
some (false, ()))
else none
else none) (
some (false, ()))) (
some (false, ()))
else none
else none) (
some (false, ()))) (
some (false, ()))

noncomputable def ps21 : List Ty := []
noncomputable def rs21 : List Ty := [.bool]
noncomputable def ty21 : List (TypeId × Ty) := [(3, (.int .i64)), (9, .str), (22, (.sl 68 t67)), (30, (.sl 41 t40)), (32, t31), (34, (.int .i64)), (39, (.sl 53 t52)), (41, t40), (51, (.sl 78 t77)), (53, t52), (64, (.sl 70 t69)), (68, t67), (70, t69), (78, t77)]
noncomputable def by21 : List (TypeId × Nat) := []
noncomputable def eq21 : List TypeId := []
noncomputable def E21 (g24 : (D31 × (D31 × Unit)) → Option ((List D67) × ((List D69) × (Int × Unit)))) : Go.V.Env := { ty := ty21, bytes := by21, fn := [(24, { ps := [t31, t31], rs := [(.sl 68 t67), (.sl 70 t69), (.int .i64)], f := g24 })], eqs := eq21, inl := [] }
noncomputable def M21 (g24 : (D31 × (D31 × Unit)) → Option ((List D67) × ((List D69) × (Int × Unit)))) : List (Nat × Go.V.Mark (Ty.prods rs21).den) := []
noncomputable def C21 (N : Nat) (g24 : (D31 × (D31 × Unit)) → Option ((List D67) × ((List D69) × (Int × Unit)))) : Go.V.Ctx (Ty.prods rs21).den := { E := E21 g24, n := Go.Proofs.Try.f21.ntmps, marks := M21 g24, fin := Go.V.finish (E21 g24) Go.Proofs.Try.f21 rs21, N }
noncomputable def c21 : Code := (Go.Proofs.Try.f21.body).getD .skip

theorem tab21 : tablesB Go.Proofs.Try.prog ty21 by21 eq21 = true := by kernel_rfl
theorem ob21 (N : Nat) (g24 : (D31 × (D31 × Unit)) → Option ((List D67) × ((List D69) × (Int × Unit)))) : obls (C21 N g24) 1 c21 = [] := by kernel_rfl
theorem eF21 (N : Nat) (g24 : (D31 × (D31 × Unit)) → Option ((List D67) × ((List D69) × (Int × Unit)))) (x : (Ty.prods ps21).den) : Go.V.evBody (E21 g24) Go.Proofs.Try.f21 rs21 (M21 g24) N (Go.V.start Go.Proofs.Try.f21 ps21 x) = F21 N g24 x := by kernel_rfl
theorem s21 (N : Nat) (g24 : (D31 × (D31 × Unit)) → Option ((List D67) × ((List D69) × (Int × Unit)))) (h24 : Sound Go.Proofs.Try.prog 24 { ps := [t31, t31], rs := [(.sl 68 t67), (.sl 70 t69), (.int .i64)], f := g24 }) : Sound Go.Proofs.Try.prog 21 { ps := ps21, rs := rs21, f := F21 N g24 } := by
  have hE : EnvOk Go.Proofs.Try.prog (E21 g24) := env_ok tab21 (by
    intro p hp
    simp only [List.mem_cons, List.not_mem_nil, or_false] at hp
    rcases hp with rfl
    · exact ⟨h24, Go.Proofs.Try.f24, Go.Proofs.Try.func24, by kernel_rfl, by kernel_rfl⟩) (by
    intro p hp
    cases hp)
  have h := fn_sound hE (by kernel_rfl) Go.Proofs.Try.func21 (show Go.Proofs.Try.f21.body = some c21 by kernel_rfl) ps21 rs21 (M21 g24) N (by
    intro o ho
    have ho : o ∈ obls (C21 N g24) 1 c21 := ho
    rw [ob21] at ho
    cases ho)
  have e : (fun x => Go.V.evBody (E21 g24) Go.Proofs.Try.f21 rs21 (M21 g24) N (Go.V.start Go.Proofs.Try.f21 ps21 x)) = F21 N g24 := funext fun x => eF21 N g24 x
  rw [e] at h
  exact h

end Go.Proofs.Ytkifmnocomadfaa
end

/- The reading of poundage poundageref10.Great. -/
section
set_option linter.unusedVariables false
set_option maxRecDepth 100000
namespace Go.Proofs.Ytkifmnocomadfaa
open Go.V

noncomputable def L29_0i : Shape := { items := [.ptr 1 0 0, .bx 0 0 t25, .tm 30 (.sl 68 t67), .tm 31 (.int .i64), .tm 32 (.int .i64)], boxes := [26] }
noncomputable def L29_0o : Shape := { items := [.ptr 1 0 0, .bx 0 0 t25], boxes := [26] }
noncomputable def L29_0 (N : Nat) : Nat → (Unit × (D25 × ((List D67) × D146))) → ((Unit × (D25 × Unit)) → Option D159) → Option D159
| 0, _, _ => none
| k + 1, x1, Kx =>
cond (decide (x1.2.2.2.2.1 < x1.2.2.2.1)) (
if 0 ≤ x1.2.2.2.2.1 then
if x1.2.2.2.2.1 < (x1.2.2.1.length : Int) then
let e2 : D67 := rdAt (t := t67) x1.2.2.1 x1.2.2.2.2.1
cond (decide ((e2.1.size : Int) > (200 : Int))) (
some (true, ())) (
cond (decide ((e2.2.1.size : Int) > (200 : Int))) (
some (true, ())) (
L29_0 N k ((), x1.2.1, x1.2.2.1, x1.2.2.2.1, (IntKind.i64.wrap (x1.2.2.2.2.1 + (1 : Int))), ()) Kx))
else none
else none) (
Kx ((), x1.2.1, ()))

noncomputable def L29_1i : Shape := { items := [.tm 48 (.sl 114 t113), .tm 49 (.int .i64), .tm 50 (.int .i64)], boxes := [] }
noncomputable def L29_1o : Shape := { items := [], boxes := [] }
noncomputable def L29_1 (N : Nat) : Nat → ((List D113) × D146) → (Unit → Option D159) → Option D159
| 0, _, _ => none
| k + 1, x4, Kx =>
cond (decide (x4.2.2.1 < x4.2.1)) (
if 0 ≤ x4.2.2.1 then
if x4.2.2.1 < (x4.1.length : Int) then
let e5 : D113 := rdAt (t := t113) x4.1 x4.2.2.1
cond (decide ((e5.2.2.2.2.2.2.1.length : Int) > (40 : Int))) (
some (true, ())) (
cond (decide ((e5.2.2.2.2.2.2.2.2.1.length : Int) > (40 : Int))) (
some (true, ())) (
L29_1 N k (x4.1, x4.2.1, (IntKind.i64.wrap (x4.2.2.1 + (1 : Int))), ()) Kx))
else none
else none) (
Kx ())

noncomputable def F29 (N : Nat) : (D25 × Unit) → Option D159 := fun x =>
cond (decide ((x.1.2.2.2.1.length : Int) > (20 : Int))) (
some (true, ())) (
cond (decide ((x.1.2.2.2.2.1.length : Int) > (40 : Int))) (
some (true, ())) (
cond (decide ((x.1.2.2.2.2.2.1.length : Int) > (40 : Int))) (
some (true, ())) (
cond (decide ((x.1.1.size : Int) > (200 : Int))) (
some (true, ())) (
L29_0 N N ((), x.1, x.1.2.2.2.1, (x.1.2.2.2.1.length : Int), (0 : Int), ()) fun y3 =>
L29_1 N N (y3.2.1.2.2.2.2.2.1, (y3.2.1.2.2.2.2.2.1.length : Int), (0 : Int), ()) fun y6 =>
some (false, ())))))

noncomputable def ps29 : List Ty := [t25]
noncomputable def rs29 : List Ty := [.bool]
noncomputable def ty29 : List (TypeId × Ty) := [(3, (.int .i64)), (9, .str), (22, (.sl 68 t67)), (23, (.sl 110 t87)), (24, (.sl 114 t113)), (26, t25), (68, t67), (110, t87), (111, (.sl 147 t146)), (112, (.sl 149 t87)), (114, t113), (147, t146), (149, t87)]
noncomputable def by29 : List (TypeId × Nat) := []
noncomputable def eq29 : List TypeId := []
noncomputable def E29 : Go.V.Env := { ty := ty29, bytes := by29, fn := [], eqs := eq29, inl := [] }
noncomputable def M29 : List (Nat × Go.V.Mark (Ty.prods rs29).den) := [(116, { ins := L29_0i, outs := L29_0o, ex := some 0, f := fun N => L29_0 N }), (244, { ins := L29_1i, outs := L29_1o, ex := some 2, f := fun N => L29_1 N })]
noncomputable def C29 (N : Nat) : Go.V.Ctx (Ty.prods rs29).den := { E := E29, n := Go.Proofs.Try.f29.ntmps, marks := M29, fin := Go.V.finish (E29) Go.Proofs.Try.f29 rs29, N }
noncomputable def c29 : Code := (Go.Proofs.Try.f29.body).getD .skip

theorem tab29 : tablesB Go.Proofs.Try.prog ty29 by29 eq29 = true := by kernel_rfl
theorem oL29_0 (N : Nat) : (Obl.loop { ins := L29_0i, outs := L29_0o, ex := some 0, f := fun N => L29_0 N } 116 (subc [true, true, false, true, false, false] c29) : Obl (Ty.prods rs29).den).holds (C29 N) := by
  intro x Kx
  exact ⟨by kernel_rfl, fun k => by kernel_rfl⟩
theorem oL29_1 (N : Nat) : (Obl.loop { ins := L29_1i, outs := L29_1o, ex := some 2, f := fun N => L29_1 N } 244 (subc [true, true, true, false, true, false, false] c29) : Obl (Ty.prods rs29).den).holds (C29 N) := by
  intro x Kx
  exact ⟨by kernel_rfl, fun k => by kernel_rfl⟩
theorem ob29 (N : Nat) : obls (C29 N) 1 c29 = [.loop { ins := L29_0i, outs := L29_0o, ex := some 0, f := fun N => L29_0 N } 116 (subc [true, true, false, true, false, false] c29), .loop { ins := L29_1i, outs := L29_1o, ex := some 2, f := fun N => L29_1 N } 244 (subc [true, true, true, false, true, false, false] c29)] := by kernel_rfl
theorem eF29 (N : Nat) (x : (Ty.prods ps29).den) : Go.V.evBody (E29) Go.Proofs.Try.f29 rs29 (M29) N (Go.V.start Go.Proofs.Try.f29 ps29 x) = F29 N x := by kernel_rfl
theorem s29 (N : Nat) : Sound Go.Proofs.Try.prog 29 { ps := ps29, rs := rs29, f := F29 N } := by
  have hE : EnvOk Go.Proofs.Try.prog (E29) := env_ok tab29 (by
    intro p hp
    cases hp) (by
    intro p hp
    cases hp)
  have h := fn_sound hE (by kernel_rfl) Go.Proofs.Try.func29 (show Go.Proofs.Try.f29.body = some c29 by kernel_rfl) ps29 rs29 (M29) N (by
    intro o ho
    have ho : o ∈ obls (C29 N) 1 c29 := ho
    rw [ob29] at ho
    simp only [List.mem_cons, List.not_mem_nil, or_false] at ho
    rcases ho with rfl | rfl
    · exact oL29_0 N
    · exact oL29_1 N)
  have e : (fun x => Go.V.evBody (E29) Go.Proofs.Try.f29 rs29 (M29) N (Go.V.start Go.Proofs.Try.f29 ps29 x)) = F29 N := funext fun x => eF29 N x
  rw [e] at h
  exact h

end Go.Proofs.Ytkifmnocomadfaa
end

/- The reading of poundage poundageref10.in. -/
section
set_option linter.unusedVariables false
set_option maxRecDepth 100000
namespace Go.Proofs.Ytkifmnocomadfaa
open Go.V

noncomputable def F59 (N : Nat) : D87 → Option D159 := fun x =>
cond (decide (x.2.1 ≤ x.1)) (
some ((decide (x.1 ≤ x.2.2.1)), ())) (
some (false, ()))

noncomputable def ps59 : List Ty := [(.int .i64), (.int .i64), (.int .i64)]
noncomputable def rs59 : List Ty := [.bool]
noncomputable def ty59 : List (TypeId × Ty) := [(3, (.int .i64))]
noncomputable def by59 : List (TypeId × Nat) := []
noncomputable def eq59 : List TypeId := []
noncomputable def E59 : Go.V.Env := { ty := ty59, bytes := by59, fn := [], eqs := eq59, inl := [] }
noncomputable def M59 : List (Nat × Go.V.Mark (Ty.prods rs59).den) := []
noncomputable def C59 (N : Nat) : Go.V.Ctx (Ty.prods rs59).den := { E := E59, n := Go.Proofs.Try.f59.ntmps, marks := M59, fin := Go.V.finish (E59) Go.Proofs.Try.f59 rs59, N }
noncomputable def c59 : Code := (Go.Proofs.Try.f59.body).getD .skip

theorem tab59 : tablesB Go.Proofs.Try.prog ty59 by59 eq59 = true := by kernel_rfl
theorem ob59 (N : Nat) : obls (C59 N) 1 c59 = [] := by kernel_rfl
theorem eF59 (N : Nat) (x : (Ty.prods ps59).den) : Go.V.evBody (E59) Go.Proofs.Try.f59 rs59 (M59) N (Go.V.start Go.Proofs.Try.f59 ps59 x) = F59 N x := by kernel_rfl
theorem s59 (N : Nat) : Sound Go.Proofs.Try.prog 59 { ps := ps59, rs := rs59, f := F59 N } := by
  have hE : EnvOk Go.Proofs.Try.prog (E59) := env_ok tab59 (by
    intro p hp
    cases hp) (by
    intro p hp
    cases hp)
  have h := fn_sound hE (by kernel_rfl) Go.Proofs.Try.func59 (show Go.Proofs.Try.f59.body = some c59 by kernel_rfl) ps59 rs59 (M59) N (by
    intro o ho
    have ho : o ∈ obls (C59 N) 1 c59 := ho
    rw [ob59] at ho
    cases ho)
  have e : (fun x => Go.V.evBody (E59) Go.Proofs.Try.f59 rs59 (M59) N (Go.V.start Go.Proofs.Try.f59 ps59 x)) = F59 N := funext fun x => eF59 N x
  rw [e] at h
  exact h

end Go.Proofs.Ytkifmnocomadfaa
end

/- The reading of poundage poundageref10.span. -/
section
set_option linter.unusedVariables false
set_option maxRecDepth 100000
namespace Go.Proofs.Ytkifmnocomadfaa
open Go.V

noncomputable def F60 (N : Nat) : (D25 × D146) → Option D159 := fun x =>
cond (decide (x.1.2.1 ≤ x.2.1)) (
cond (decide (x.2.1 ≤ x.2.2.1)) (
some ((decide (x.2.2.1 ≤ x.1.2.2.1)), ())) (
some (false, ()))) (
some (false, ()))

noncomputable def ps60 : List Ty := [t25, (.int .i64), (.int .i64)]
noncomputable def rs60 : List Ty := [.bool]
noncomputable def ty60 : List (TypeId × Ty) := [(3, (.int .i64)), (26, t25)]
noncomputable def by60 : List (TypeId × Nat) := []
noncomputable def eq60 : List TypeId := []
noncomputable def E60 : Go.V.Env := { ty := ty60, bytes := by60, fn := [], eqs := eq60, inl := [] }
noncomputable def M60 : List (Nat × Go.V.Mark (Ty.prods rs60).den) := []
noncomputable def C60 (N : Nat) : Go.V.Ctx (Ty.prods rs60).den := { E := E60, n := Go.Proofs.Try.f60.ntmps, marks := M60, fin := Go.V.finish (E60) Go.Proofs.Try.f60 rs60, N }
noncomputable def c60 : Code := (Go.Proofs.Try.f60.body).getD .skip

theorem tab60 : tablesB Go.Proofs.Try.prog ty60 by60 eq60 = true := by kernel_rfl
theorem ob60 (N : Nat) : obls (C60 N) 1 c60 = [] := by kernel_rfl
theorem eF60 (N : Nat) (x : (Ty.prods ps60).den) : Go.V.evBody (E60) Go.Proofs.Try.f60 rs60 (M60) N (Go.V.start Go.Proofs.Try.f60 ps60 x) = F60 N x := by kernel_rfl
theorem s60 (N : Nat) : Sound Go.Proofs.Try.prog 60 { ps := ps60, rs := rs60, f := F60 N } := by
  have hE : EnvOk Go.Proofs.Try.prog (E60) := env_ok tab60 (by
    intro p hp
    cases hp) (by
    intro p hp
    cases hp)
  have h := fn_sound hE (by kernel_rfl) Go.Proofs.Try.func60 (show Go.Proofs.Try.f60.body = some c60 by kernel_rfl) ps60 rs60 (M60) N (by
    intro o ho
    have ho : o ∈ obls (C60 N) 1 c60 := ho
    rw [ob60] at ho
    cases ho)
  have e : (fun x => Go.V.evBody (E60) Go.Proofs.Try.f60 rs60 (M60) N (Go.V.start Go.Proofs.Try.f60 ps60 x)) = F60 N := funext fun x => eF60 N x
  rw [e] at h
  exact h

end Go.Proofs.Ytkifmnocomadfaa
end

/- The reading of poundage poundageref10.Part. -/
section
set_option linter.unusedVariables false
set_option maxRecDepth 100000
namespace Go.Proofs.Ytkifmnocomadfaa
open Go.V

noncomputable def L61_0i : Shape := { items := [.ptr 3 1 0, .bx 1 0 t113, .tm 78 (.sl 147 t146), .tm 79 (.int .i64), .tm 80 (.int .i64)], boxes := [26, 114] }
noncomputable def L61_0o : Shape := { items := [.ptr 3 1 0, .bx 1 0 t113], boxes := [26, 114] }
noncomputable def L61_0 (N : Nat) (g59 : D87 → Option D159) (g60 : (D25 × D146) → Option D159) : Nat → (Unit × (D113 × ((List D146) × D146))) → ((Unit × (D113 × Unit)) → Option D159) → Option D159
| 0, _, _ => none
| k + 1, x5, Kx =>
cond (decide (x5.2.2.2.2.1 < x5.2.2.2.1)) (
if 0 ≤ x5.2.2.2.2.1 then
if x5.2.2.2.2.1 < (x5.2.2.1.length : Int) then
let e6 : D146 := rdAt (t := t146) x5.2.2.1 x5.2.2.2.2.1
cond (decide (x5.2.2.2.2.1 > (0 : Int))) (
if 0 ≤ (IntKind.i64.wrap (x5.2.2.2.2.1 - (1 : Int))) then
if (IntKind.i64.wrap (x5.2.2.2.2.1 - (1 : Int))) < (x5.2.1.2.2.2.2.2.2.1.length : Int) then
let e7 : D146 := rdAt (t := t146) x5.2.1.2.2.2.2.2.2.1 (IntKind.i64.wrap (x5.2.2.2.2.1 - (1 : Int)))
cond (decide (e7.1 ≥ (1 : Int))) (
if 0 ≤ (IntKind.i64.wrap (x5.2.2.2.2.1 - (1 : Int))) then
if (IntKind.i64.wrap (x5.2.2.2.2.1 - (1 : Int))) < (x5.2.1.2.2.2.2.2.2.1.length : Int) then
let e8 : D146 := rdAt (t := t146) x5.2.1.2.2.2.2.2.2.1 (IntKind.i64.wrap (x5.2.2.2.2.1 - (1 : Int)))
let v9 := (IntKind.i64.wrap ((if (1000000 : Int) < e8.1 then (1000000 : Int) else e8.1) + (1 : Int)))
cond (x5.2.2.2.2.1 == (IntKind.i64.wrap ((x5.2.1.2.2.2.2.2.2.1.length : Int) - (1 : Int)))) (
(g59 (e6.2.1, (0 : Int), (1000000000000 : Int), ())).bind fun r10 =>
cond (!r10.1) (
some (false, ())) (
(g59 (e6.1, (0 : Int), (0 : Int), ())).bind fun r11 =>
cond (!r11.1) (
some (false, ())) (
L61_0 N g59 g60 k ((), x5.2.1, x5.2.2.1, x5.2.2.2.1, (IntKind.i64.wrap (x5.2.2.2.2.1 + (1 : Int))), ()) Kx))) (
(g59 (e6.2.1, (0 : Int), (1000000000000 : Int), ())).bind fun r12 =>
cond (!r12.1) (
some (false, ())) (
(g59 (e6.1, v9, (1000000 : Int), ())).bind fun r13 =>
cond (!r13.1) (
some (false, ())) (
L61_0 N g59 g60 k ((), x5.2.1, x5.2.2.1, x5.2.2.2.1, (IntKind.i64.wrap (x5.2.2.2.2.1 + (1 : Int))), ()) Kx)))
else none
else none) (
cond (x5.2.2.2.2.1 == (IntKind.i64.wrap ((x5.2.1.2.2.2.2.2.2.1.length : Int) - (1 : Int)))) (
(g59 (e6.2.1, (0 : Int), (1000000000000 : Int), ())).bind fun r14 =>
cond (!r14.1) (
some (false, ())) (
(g59 (e6.1, (0 : Int), (0 : Int), ())).bind fun r15 =>
cond (!r15.1) (
some (false, ())) (
L61_0 N g59 g60 k ((), x5.2.1, x5.2.2.1, x5.2.2.2.1, (IntKind.i64.wrap (x5.2.2.2.2.1 + (1 : Int))), ()) Kx))) (
(g59 (e6.2.1, (0 : Int), (1000000000000 : Int), ())).bind fun r16 =>
cond (!r16.1) (
some (false, ())) (
(g59 (e6.1, (1 : Int), (1000000 : Int), ())).bind fun r17 =>
cond (!r17.1) (
some (false, ())) (
L61_0 N g59 g60 k ((), x5.2.1, x5.2.2.1, x5.2.2.2.1, (IntKind.i64.wrap (x5.2.2.2.2.1 + (1 : Int))), ()) Kx))))
else none
else none) (
cond (x5.2.2.2.2.1 == (IntKind.i64.wrap ((x5.2.1.2.2.2.2.2.2.1.length : Int) - (1 : Int)))) (
(g59 (e6.2.1, (0 : Int), (1000000000000 : Int), ())).bind fun r18 =>
cond (!r18.1) (
some (false, ())) (
(g59 (e6.1, (0 : Int), (0 : Int), ())).bind fun r19 =>
cond (!r19.1) (
some (false, ())) (
L61_0 N g59 g60 k ((), x5.2.1, x5.2.2.1, x5.2.2.2.1, (IntKind.i64.wrap (x5.2.2.2.2.1 + (1 : Int))), ()) Kx))) (
(g59 (e6.2.1, (0 : Int), (1000000000000 : Int), ())).bind fun r20 =>
cond (!r20.1) (
some (false, ())) (
(g59 (e6.1, (1 : Int), (1000000 : Int), ())).bind fun r21 =>
cond (!r21.1) (
some (false, ())) (
L61_0 N g59 g60 k ((), x5.2.1, x5.2.2.1, x5.2.2.2.1, (IntKind.i64.wrap (x5.2.2.2.2.1 + (1 : Int))), ()) Kx))))
else none
else none) (
Kx ((), x5.2.1, ()))

noncomputable def L61_1i : Shape := { items := [.tm 126 (.sl 149 t87), .tm 127 (.int .i64), .tm 128 (.int .i64)], boxes := [] }
noncomputable def L61_1o : Shape := { items := [], boxes := [] }
noncomputable def L61_1 (N : Nat) (g59 : D87 → Option D159) (g60 : (D25 × D146) → Option D159) : Nat → ((List D87) × D146) → (Unit → Option D159) → Option D159
| 0, _, _ => none
| k + 1, x23, Kx =>
cond (decide (x23.2.2.1 < x23.2.1)) (
if 0 ≤ x23.2.2.1 then
if x23.2.2.1 < (x23.1.length : Int) then
let e24 : D87 := rdAt (t := t87) x23.1 x23.2.2.1
cond (e24.1 == (1 : Int)) (
(g59 (e24.2.1, (0 : Int), (100000000 : Int), ())).bind fun r25 =>
cond (!r25.1) (
some (false, ())) (
(g59 (e24.2.2.1, (0 : Int), (3 : Int), ())).bind fun r26 =>
cond (!r26.1) (
some (false, ())) (
L61_1 N g59 g60 k (x23.1, x23.2.1, (IntKind.i64.wrap (x23.2.2.1 + (1 : Int))), ()) Kx))) (
cond (e24.1 == (2 : Int)) (
cond (e24.1 == (2 : Int)) (
(g59 (e24.2.1, (0 : Int), (1000000000000 : Int), ())).bind fun r27 =>
cond (!r27.1) (
some (false, ())) (
cond (e24.2.2.1 != (0 : Int)) (
some (false, ())) (
L61_1 N g59 g60 k (x23.1, x23.2.1, (IntKind.i64.wrap (x23.2.2.1 + (1 : Int))), ()) Kx))) (
some (false, ()))) (
cond (e24.1 == (3 : Int)) (
cond (e24.1 == (3 : Int)) (
(g59 (e24.2.1, (0 : Int), (1000000000000 : Int), ())).bind fun r28 =>
cond (!r28.1) (
some (false, ())) (
cond (e24.2.2.1 != (0 : Int)) (
some (false, ())) (
L61_1 N g59 g60 k (x23.1, x23.2.1, (IntKind.i64.wrap (x23.2.2.1 + (1 : Int))), ()) Kx))) (
some (false, ()))) (
cond (e24.1 == (4 : Int)) (
(g59 (e24.2.1, (0 : Int), (1000000000000 : Int), ())).bind fun r29 =>
cond (!r29.1) (
some (false, ())) (
cond (e24.2.2.1 != (0 : Int)) (
some (false, ())) (
L61_1 N g59 g60 k (x23.1, x23.2.1, (IntKind.i64.wrap (x23.2.2.1 + (1 : Int))), ()) Kx))) (
some (false, ())))))
else none
else none) (
Kx ())

noncomputable def F61 (N : Nat) (g59 : D87 → Option D159) (g60 : (D25 × D146) → Option D159) : (D25 × (D113 × Unit)) → Option D159 := fun x =>
cond (decide (x.2.1.1 < (0 : Int))) (
some (false, ())) (
cond (decide (x.2.1.1 ≥ (x.1.2.2.2.1.length : Int))) (
some (false, ())) (
(g60 (x.1, x.2.1.2.1, x.2.1.2.2.1, ())).bind fun r1 =>
cond (!r1.1) (
some (false, ())) (
(g59 (x.2.1.2.2.2.1, (0 : Int), (1000000 : Int), ())).bind fun r2 =>
cond (!r2.1) (
some (false, ())) (
(g59 (x.2.1.2.2.2.2.1, (1 : Int), (1000000 : Int), ())).bind fun r3 =>
cond (!r3.1) (
some (false, ())) (
cond (x.2.1.2.2.2.2.2.1 != (1 : Int)) (
cond (x.2.1.2.2.2.2.2.1 != (2 : Int)) (
some (false, ())) (
(g59 (x.2.1.2.2.2.2.2.2.2.1, (0 : Int), (3 : Int), ())).bind fun r4 =>
cond (!r4.1) (
some (false, ())) (
cond (decide ((x.2.1.2.2.2.2.2.2.1.length : Int) < (1 : Int))) (
some (false, ())) (
cond (decide ((x.2.1.2.2.2.2.2.2.1.length : Int) > (8 : Int))) (
some (false, ())) (
cond (decide ((x.2.1.2.2.2.2.2.2.2.2.1.length : Int) > (6 : Int))) (
some (false, ())) (
L61_0 N g59 g60 N ((), x.2.1, x.2.1.2.2.2.2.2.2.1, (x.2.1.2.2.2.2.2.2.1.length : Int), (0 : Int), ()) fun y22 =>
L61_1 N g59 g60 N (y22.2.1.2.2.2.2.2.2.2.2.1, (y22.2.1.2.2.2.2.2.2.2.2.1.length : Int), (0 : Int), ()) fun y30 =>
some (true, ()))))))) (
(g59 (x.2.1.2.2.2.2.2.2.2.1, (0 : Int), (3 : Int), ())).bind fun r31 =>
cond (!r31.1) (
some (false, ())) (
cond (decide ((x.2.1.2.2.2.2.2.2.1.length : Int) < (1 : Int))) (
some (false, ())) (
cond (decide ((x.2.1.2.2.2.2.2.2.1.length : Int) > (8 : Int))) (
some (false, ())) (
cond (decide ((x.2.1.2.2.2.2.2.2.2.2.1.length : Int) > (6 : Int))) (
some (false, ())) (
L61_0 N g59 g60 N ((), x.2.1, x.2.1.2.2.2.2.2.2.1, (x.2.1.2.2.2.2.2.2.1.length : Int), (0 : Int), ()) fun y32 =>
L61_1 N g59 g60 N (y32.2.1.2.2.2.2.2.2.2.2.1, (y32.2.1.2.2.2.2.2.2.2.2.1.length : Int), (0 : Int), ()) fun y33 =>
some (true, ())))))))))))

noncomputable def ps61 : List Ty := [t25, t113]
noncomputable def rs61 : List Ty := [.bool]
noncomputable def ty61 : List (TypeId × Ty) := [(3, (.int .i64)), (22, (.sl 68 t67)), (26, t25), (68, t67), (111, (.sl 147 t146)), (112, (.sl 149 t87)), (114, t113), (147, t146), (149, t87)]
noncomputable def by61 : List (TypeId × Nat) := []
noncomputable def eq61 : List TypeId := []
noncomputable def E61 (g59 : D87 → Option D159) (g60 : (D25 × D146) → Option D159) : Go.V.Env := { ty := ty61, bytes := by61, fn := [(59, { ps := [(.int .i64), (.int .i64), (.int .i64)], rs := [.bool], f := g59 }), (60, { ps := [t25, (.int .i64), (.int .i64)], rs := [.bool], f := g60 })], eqs := eq61, inl := [] }
noncomputable def M61 (g59 : D87 → Option D159) (g60 : (D25 × D146) → Option D159) : List (Nat × Go.V.Mark (Ty.prods rs61).den) := [(116, { ins := L61_0i, outs := L61_0o, ex := some 0, f := fun N => L61_0 N g59 g60 }), (244, { ins := L61_1i, outs := L61_1o, ex := some 2, f := fun N => L61_1 N g59 g60 })]
noncomputable def C61 (N : Nat) (g59 : D87 → Option D159) (g60 : (D25 × D146) → Option D159) : Go.V.Ctx (Ty.prods rs61).den := { E := E61 g59 g60, n := Go.Proofs.Try.f61.ntmps, marks := M61 g59 g60, fin := Go.V.finish (E61 g59 g60) Go.Proofs.Try.f61 rs61, N }
noncomputable def c61 : Code := (Go.Proofs.Try.f61.body).getD .skip

theorem tab61 : tablesB Go.Proofs.Try.prog ty61 by61 eq61 = true := by kernel_rfl
theorem oL61_0 (N : Nat) (g59 : D87 → Option D159) (g60 : (D25 × D146) → Option D159) : (Obl.loop { ins := L61_0i, outs := L61_0o, ex := some 0, f := fun N => L61_0 N g59 g60 } 116 (subc [true, true, false, true, false, false] c61) : Obl (Ty.prods rs61).den).holds (C61 N g59 g60) := by
  intro x Kx
  exact ⟨by kernel_rfl, fun k => by kernel_rfl⟩
theorem oL61_1 (N : Nat) (g59 : D87 → Option D159) (g60 : (D25 × D146) → Option D159) : (Obl.loop { ins := L61_1i, outs := L61_1o, ex := some 2, f := fun N => L61_1 N g59 g60 } 244 (subc [true, true, true, false, true, false, false] c61) : Obl (Ty.prods rs61).den).holds (C61 N g59 g60) := by
  intro x Kx
  exact ⟨by kernel_rfl, fun k => by kernel_rfl⟩
theorem ob61 (N : Nat) (g59 : D87 → Option D159) (g60 : (D25 × D146) → Option D159) : obls (C61 N g59 g60) 1 c61 = [.loop { ins := L61_0i, outs := L61_0o, ex := some 0, f := fun N => L61_0 N g59 g60 } 116 (subc [true, true, false, true, false, false] c61), .loop { ins := L61_1i, outs := L61_1o, ex := some 2, f := fun N => L61_1 N g59 g60 } 244 (subc [true, true, true, false, true, false, false] c61)] := by kernel_rfl
theorem eF61 (N : Nat) (g59 : D87 → Option D159) (g60 : (D25 × D146) → Option D159) (x : (Ty.prods ps61).den) : Go.V.evBody (E61 g59 g60) Go.Proofs.Try.f61 rs61 (M61 g59 g60) N (Go.V.start Go.Proofs.Try.f61 ps61 x) = F61 N g59 g60 x := by kernel_rfl
theorem s61 (N : Nat) (g59 : D87 → Option D159) (g60 : (D25 × D146) → Option D159) (h59 : Sound Go.Proofs.Try.prog 59 { ps := [(.int .i64), (.int .i64), (.int .i64)], rs := [.bool], f := g59 }) (h60 : Sound Go.Proofs.Try.prog 60 { ps := [t25, (.int .i64), (.int .i64)], rs := [.bool], f := g60 }) : Sound Go.Proofs.Try.prog 61 { ps := ps61, rs := rs61, f := F61 N g59 g60 } := by
  have hE : EnvOk Go.Proofs.Try.prog (E61 g59 g60) := env_ok tab61 (by
    intro p hp
    simp only [List.mem_cons, List.not_mem_nil, or_false] at hp
    rcases hp with rfl | rfl
    · exact ⟨h59, Go.Proofs.Try.f59, Go.Proofs.Try.func59, by kernel_rfl, by kernel_rfl⟩
    · exact ⟨h60, Go.Proofs.Try.f60, Go.Proofs.Try.func60, by kernel_rfl, by kernel_rfl⟩) (by
    intro p hp
    cases hp)
  have h := fn_sound hE (by kernel_rfl) Go.Proofs.Try.func61 (show Go.Proofs.Try.f61.body = some c61 by kernel_rfl) ps61 rs61 (M61 g59 g60) N (by
    intro o ho
    have ho : o ∈ obls (C61 N g59 g60) 1 c61 := ho
    rw [ob61] at ho
    simp only [List.mem_cons, List.not_mem_nil, or_false] at ho
    rcases ho with rfl | rfl
    · exact oL61_0 N g59 g60
    · exact oL61_1 N g59 g60)
  have e : (fun x => Go.V.evBody (E61 g59 g60) Go.Proofs.Try.f61 rs61 (M61 g59 g60) N (Go.V.start Go.Proofs.Try.f61 ps61 x)) = F61 N g59 g60 := funext fun x => eF61 N g59 g60 x
  rw [e] at h
  exact h

end Go.Proofs.Ytkifmnocomadfaa
end

/- The reading of poundage poundageref10.Good. -/
section
set_option linter.unusedVariables false
set_option maxRecDepth 100000
namespace Go.Proofs.Ytkifmnocomadfaa
open Go.V

noncomputable def L30_0i : Shape := { items := [.ptr 1 0 0, .bx 0 0 t25, .tm 48 (.sl 68 t67), .tm 49 (.int .i64), .tm 50 (.int .i64)], boxes := [26] }
noncomputable def L30_0o : Shape := { items := [.ptr 1 0 0, .bx 0 0 t25], boxes := [26] }
noncomputable def L30_0 (N : Nat) (g59 : D87 → Option D159) (g60 : (D25 × D146) → Option D159) (g61 : (D25 × (D113 × Unit)) → Option D159) : Nat → (Unit × (D25 × ((List D67) × D146))) → ((Unit × (D25 × Unit)) → Option D159) → Option D159
| 0, _, _ => none
| k + 1, x3, Kx =>
cond (decide (x3.2.2.2.2.1 < x3.2.2.2.1)) (
if 0 ≤ x3.2.2.2.2.1 then
if x3.2.2.2.2.1 < (x3.2.2.1.length : Int) then
let e4 : D67 := rdAt (t := t67) x3.2.2.1 x3.2.2.2.2.1
(g59 (e4.2.2.1, (0 : Int), (2000 : Int), ())).bind fun r5 =>
cond (!r5.1) (
some (false, ())) (
cond (e4.2.2.2.1 != (0 : Int)) (
some (false, ())) (
cond (e4.2.2.2.2.1 != (0 : Int)) (
some (false, ())) (
cond (decide (x3.2.2.2.2.1 > (0 : Int))) (
if 0 ≤ (IntKind.i64.wrap (x3.2.2.2.2.1 - (1 : Int))) then
if (IntKind.i64.wrap (x3.2.2.2.2.1 - (1 : Int))) < (x3.2.1.2.2.2.1.length : Int) then
let e6 : D67 := rdAt (t := t67) x3.2.1.2.2.2.1 (IntKind.i64.wrap (x3.2.2.2.2.1 - (1 : Int)))
cond (!(Op.bytesLess e6.1.toList e4.1.toList)) (
some (false, ())) (
L30_0 N g59 g60 g61 k ((), x3.2.1, x3.2.2.1, x3.2.2.2.1, (IntKind.i64.wrap (x3.2.2.2.2.1 + (1 : Int))), ()) Kx)
else none
else none) (
L30_0 N g59 g60 g61 k ((), x3.2.1, x3.2.2.1, x3.2.2.2.1, (IntKind.i64.wrap (x3.2.2.2.2.1 + (1 : Int))), ()) Kx))))
else none
else none) (
Kx ((), x3.2.1, ()))

noncomputable def L30_1i : Shape := { items := [.ptr 1 0 0, .bx 0 0 t25, .tm 88 (.sl 110 t87), .tm 89 (.int .i64), .tm 90 (.int .i64)], boxes := [26] }
noncomputable def L30_1o : Shape := { items := [.ptr 1 0 0, .bx 0 0 t25], boxes := [26] }
noncomputable def L30_1 (N : Nat) (g59 : D87 → Option D159) (g60 : (D25 × D146) → Option D159) (g61 : (D25 × (D113 × Unit)) → Option D159) : Nat → (Unit × (D25 × ((List D87) × D146))) → ((Unit × (D25 × Unit)) → Option D159) → Option D159
| 0, _, _ => none
| k + 1, x8, Kx =>
cond (decide (x8.2.2.2.2.1 < x8.2.2.2.1)) (
if 0 ≤ x8.2.2.2.2.1 then
if x8.2.2.2.2.1 < (x8.2.2.1.length : Int) then
let e9 : D87 := rdAt (t := t87) x8.2.2.1 x8.2.2.2.2.1
(g59 (e9.1, (0 : Int), (1000000000000 : Int), ())).bind fun r10 =>
cond (!r10.1) (
some (false, ())) (
(g60 (x8.2.1, e9.2)).bind fun r11 =>
cond (!r11.1) (
some (false, ())) (
L30_1 N g59 g60 g61 k ((), x8.2.1, x8.2.2.1, x8.2.2.2.1, (IntKind.i64.wrap (x8.2.2.2.2.1 + (1 : Int))), ()) Kx))
else none
else none) (
Kx ((), x8.2.1, ()))

noncomputable def L30_2i : Shape := { items := [.ptr 1 0 0, .bx 0 0 t25, .tm 109 (.sl 114 t113), .tm 110 (.int .i64), .tm 111 (.int .i64)], boxes := [26] }
noncomputable def L30_2o : Shape := { items := [], boxes := [] }
noncomputable def L30_2 (N : Nat) (g59 : D87 → Option D159) (g60 : (D25 × D146) → Option D159) (g61 : (D25 × (D113 × Unit)) → Option D159) : Nat → (Unit × (D25 × ((List D113) × D146))) → (Unit → Option D159) → Option D159
| 0, _, _ => none
| k + 1, x13, Kx =>
cond (decide (x13.2.2.2.2.1 < x13.2.2.2.1)) (
if 0 ≤ x13.2.2.2.2.1 then
if x13.2.2.2.2.1 < (x13.2.2.1.length : Int) then
let e14 : D113 := rdAt (t := t113) x13.2.2.1 x13.2.2.2.2.1
(g61 (x13.2.1, e14, ())).bind fun r15 =>
cond (!r15.1) (
some (false, ())) (
L30_2 N g59 g60 g61 k ((), x13.2.1, x13.2.2.1, x13.2.2.2.1, (IntKind.i64.wrap (x13.2.2.2.2.1 + (1 : Int))), ()) Kx)
else none
else none) (
Kx ())

noncomputable def F30 (N : Nat) (g59 : D87 → Option D159) (g60 : (D25 × D146) → Option D159) (g61 : (D25 × (D113 × Unit)) → Option D159) : (D25 × Unit) → Option D159 := fun x =>
(g59 (x.1.2.1, (0 : Int), (3652058 : Int), ())).bind fun r1 =>
cond (!r1.1) (
some (false, ())) (
(g59 (x.1.2.2.1, x.1.2.1, (3652058 : Int), ())).bind fun r2 =>
cond (!r2.1) (
some (false, ())) (
cond (decide ((IntKind.i64.wrap (x.1.2.2.1 - x.1.2.1)) > (3999 : Int))) (
some (false, ())) (
cond (decide ((x.1.2.2.2.1.length : Int) > (4 : Int))) (
some (false, ())) (
cond (decide ((x.1.2.2.2.2.1.length : Int) > (8 : Int))) (
some (false, ())) (
cond (decide ((x.1.2.2.2.2.2.1.length : Int) > (8 : Int))) (
some (false, ())) (
L30_0 N g59 g60 g61 N ((), x.1, x.1.2.2.2.1, (x.1.2.2.2.1.length : Int), (0 : Int), ()) fun y7 =>
L30_1 N g59 g60 g61 N ((), y7.2.1, y7.2.1.2.2.2.2.1, (y7.2.1.2.2.2.2.1.length : Int), (0 : Int), ()) fun y12 =>
L30_2 N g59 g60 g61 N ((), y12.2.1, y12.2.1.2.2.2.2.2.1, (y12.2.1.2.2.2.2.2.1.length : Int), (0 : Int), ()) fun y16 =>
some (true, ())))))))

noncomputable def ps30 : List Ty := [t25]
noncomputable def rs30 : List Ty := [.bool]
noncomputable def ty30 : List (TypeId × Ty) := [(3, (.int .i64)), (9, .str), (22, (.sl 68 t67)), (23, (.sl 110 t87)), (24, (.sl 114 t113)), (26, t25), (68, t67), (110, t87), (114, t113)]
noncomputable def by30 : List (TypeId × Nat) := []
noncomputable def eq30 : List TypeId := []
noncomputable def E30 (g59 : D87 → Option D159) (g60 : (D25 × D146) → Option D159) (g61 : (D25 × (D113 × Unit)) → Option D159) : Go.V.Env := { ty := ty30, bytes := by30, fn := [(59, { ps := [(.int .i64), (.int .i64), (.int .i64)], rs := [.bool], f := g59 }), (60, { ps := [t25, (.int .i64), (.int .i64)], rs := [.bool], f := g60 }), (61, { ps := [t25, t113], rs := [.bool], f := g61 })], eqs := eq30, inl := [] }
noncomputable def M30 (g59 : D87 → Option D159) (g60 : (D25 × D146) → Option D159) (g61 : (D25 × (D113 × Unit)) → Option D159) : List (Nat × Go.V.Mark (Ty.prods rs30).den) := [(116, { ins := L30_0i, outs := L30_0o, ex := some 0, f := fun N => L30_0 N g59 g60 g61 }), (244, { ins := L30_1i, outs := L30_1o, ex := some 2, f := fun N => L30_1 N g59 g60 g61 }), (500, { ins := L30_2i, outs := L30_2o, ex := some 4, f := fun N => L30_2 N g59 g60 g61 })]
noncomputable def C30 (N : Nat) (g59 : D87 → Option D159) (g60 : (D25 × D146) → Option D159) (g61 : (D25 × (D113 × Unit)) → Option D159) : Go.V.Ctx (Ty.prods rs30).den := { E := E30 g59 g60 g61, n := Go.Proofs.Try.f30.ntmps, marks := M30 g59 g60 g61, fin := Go.V.finish (E30 g59 g60 g61) Go.Proofs.Try.f30 rs30, N }
noncomputable def c30 : Code := (Go.Proofs.Try.f30.body).getD .skip

theorem tab30 : tablesB Go.Proofs.Try.prog ty30 by30 eq30 = true := by kernel_rfl
theorem oL30_0 (N : Nat) (g59 : D87 → Option D159) (g60 : (D25 × D146) → Option D159) (g61 : (D25 × (D113 × Unit)) → Option D159) : (Obl.loop { ins := L30_0i, outs := L30_0o, ex := some 0, f := fun N => L30_0 N g59 g60 g61 } 116 (subc [true, true, false, true, false, false] c30) : Obl (Ty.prods rs30).den).holds (C30 N g59 g60 g61) := by
  intro x Kx
  exact ⟨by kernel_rfl, fun k => by kernel_rfl⟩
theorem oL30_1 (N : Nat) (g59 : D87 → Option D159) (g60 : (D25 × D146) → Option D159) (g61 : (D25 × (D113 × Unit)) → Option D159) : (Obl.loop { ins := L30_1i, outs := L30_1o, ex := some 2, f := fun N => L30_1 N g59 g60 g61 } 244 (subc [true, true, true, false, true, false, false] c30) : Obl (Ty.prods rs30).den).holds (C30 N g59 g60 g61) := by
  intro x Kx
  exact ⟨by kernel_rfl, fun k => by kernel_rfl⟩
theorem oL30_2 (N : Nat) (g59 : D87 → Option D159) (g60 : (D25 × D146) → Option D159) (g61 : (D25 × (D113 × Unit)) → Option D159) : (Obl.loop { ins := L30_2i, outs := L30_2o, ex := some 4, f := fun N => L30_2 N g59 g60 g61 } 500 (subc [true, true, true, true, false, true, false, false] c30) : Obl (Ty.prods rs30).den).holds (C30 N g59 g60 g61) := by
  intro x Kx
  exact ⟨by kernel_rfl, fun k => by kernel_rfl⟩
theorem ob30 (N : Nat) (g59 : D87 → Option D159) (g60 : (D25 × D146) → Option D159) (g61 : (D25 × (D113 × Unit)) → Option D159) : obls (C30 N g59 g60 g61) 1 c30 = [.loop { ins := L30_0i, outs := L30_0o, ex := some 0, f := fun N => L30_0 N g59 g60 g61 } 116 (subc [true, true, false, true, false, false] c30), .loop { ins := L30_1i, outs := L30_1o, ex := some 2, f := fun N => L30_1 N g59 g60 g61 } 244 (subc [true, true, true, false, true, false, false] c30), .loop { ins := L30_2i, outs := L30_2o, ex := some 4, f := fun N => L30_2 N g59 g60 g61 } 500 (subc [true, true, true, true, false, true, false, false] c30)] := by kernel_rfl
theorem eF30 (N : Nat) (g59 : D87 → Option D159) (g60 : (D25 × D146) → Option D159) (g61 : (D25 × (D113 × Unit)) → Option D159) (x : (Ty.prods ps30).den) : Go.V.evBody (E30 g59 g60 g61) Go.Proofs.Try.f30 rs30 (M30 g59 g60 g61) N (Go.V.start Go.Proofs.Try.f30 ps30 x) = F30 N g59 g60 g61 x := by kernel_rfl
theorem s30 (N : Nat) (g59 : D87 → Option D159) (g60 : (D25 × D146) → Option D159) (g61 : (D25 × (D113 × Unit)) → Option D159) (h59 : Sound Go.Proofs.Try.prog 59 { ps := [(.int .i64), (.int .i64), (.int .i64)], rs := [.bool], f := g59 }) (h60 : Sound Go.Proofs.Try.prog 60 { ps := [t25, (.int .i64), (.int .i64)], rs := [.bool], f := g60 }) (h61 : Sound Go.Proofs.Try.prog 61 { ps := [t25, t113], rs := [.bool], f := g61 }) : Sound Go.Proofs.Try.prog 30 { ps := ps30, rs := rs30, f := F30 N g59 g60 g61 } := by
  have hE : EnvOk Go.Proofs.Try.prog (E30 g59 g60 g61) := env_ok tab30 (by
    intro p hp
    simp only [List.mem_cons, List.not_mem_nil, or_false] at hp
    rcases hp with rfl | rfl | rfl
    · exact ⟨h59, Go.Proofs.Try.f59, Go.Proofs.Try.func59, by kernel_rfl, by kernel_rfl⟩
    · exact ⟨h60, Go.Proofs.Try.f60, Go.Proofs.Try.func60, by kernel_rfl, by kernel_rfl⟩
    · exact ⟨h61, Go.Proofs.Try.f61, Go.Proofs.Try.func61, by kernel_rfl, by kernel_rfl⟩) (by
    intro p hp
    cases hp)
  have h := fn_sound hE (by kernel_rfl) Go.Proofs.Try.func30 (show Go.Proofs.Try.f30.body = some c30 by kernel_rfl) ps30 rs30 (M30 g59 g60 g61) N (by
    intro o ho
    have ho : o ∈ obls (C30 N g59 g60 g61) 1 c30 := ho
    rw [ob30] at ho
    simp only [List.mem_cons, List.not_mem_nil, or_false] at ho
    rcases ho with rfl | rfl | rfl
    · exact oL30_0 N g59 g60 g61
    · exact oL30_1 N g59 g60 g61
    · exact oL30_2 N g59 g60 g61)
  have e : (fun x => Go.V.evBody (E30 g59 g60 g61) Go.Proofs.Try.f30 rs30 (M30 g59 g60 g61) N (Go.V.start Go.Proofs.Try.f30 ps30 x)) = F30 N g59 g60 g61 := funext fun x => eF30 N g59 g60 g61 x
  rw [e] at h
  exact h

end Go.Proofs.Ytkifmnocomadfaa
end

/- The reading of poundage poundageref01.Int. -/
section
set_option linter.unusedVariables false
set_option maxRecDepth 100000
namespace Go.Proofs.Ytkifmnocomadfaa
open Go.V

noncomputable def F84 (N : Nat) : (D142 × Unit) → Option (Int × D159) := fun x =>
cond (x.1.2.1 != (0 : Int)) (
some ((0 : Int), false, ())) (
cond x.1.1 (
cond (decide (x.1.2.2.1 > (9223372036854775808 : Int))) (
some ((0 : Int), false, ())) (
cond (x.1.2.2.1 == (0 : Int)) (
some ((0 : Int), true, ())) (
let v1 := (IntKind.i64.wrap ((IntKind.i64.wrap (0 - (IntKind.i64.wrap (IntKind.u64.wrap (x.1.2.2.1 - (1 : Int)))))) - (1 : Int)))
some (v1, true, ())))) (
cond (decide (x.1.2.2.1 ≥ (9223372036854775808 : Int))) (
some ((0 : Int), false, ())) (
some ((IntKind.i64.wrap x.1.2.2.1), true, ()))))

noncomputable def ps84 : List Ty := [t142]
noncomputable def rs84 : List Ty := [(.int .i64), .bool]
noncomputable def ty84 : List (TypeId × Ty) := [(3, (.int .i64)), (4, .bool), (120, (.int .u64)), (143, t142)]
noncomputable def by84 : List (TypeId × Nat) := []
noncomputable def eq84 : List TypeId := []
noncomputable def E84 : Go.V.Env := { ty := ty84, bytes := by84, fn := [], eqs := eq84, inl := [] }
noncomputable def M84 : List (Nat × Go.V.Mark (Ty.prods rs84).den) := []
noncomputable def C84 (N : Nat) : Go.V.Ctx (Ty.prods rs84).den := { E := E84, n := Go.Proofs.Try.f84.ntmps, marks := M84, fin := Go.V.finish (E84) Go.Proofs.Try.f84 rs84, N }
noncomputable def c84 : Code := (Go.Proofs.Try.f84.body).getD .skip

theorem tab84 : tablesB Go.Proofs.Try.prog ty84 by84 eq84 = true := by kernel_rfl
theorem ob84 (N : Nat) : obls (C84 N) 1 c84 = [] := by kernel_rfl
theorem eF84 (N : Nat) (x : (Ty.prods ps84).den) : Go.V.evBody (E84) Go.Proofs.Try.f84 rs84 (M84) N (Go.V.start Go.Proofs.Try.f84 ps84 x) = F84 N x := by kernel_rfl
theorem s84 (N : Nat) : Sound Go.Proofs.Try.prog 84 { ps := ps84, rs := rs84, f := F84 N } := by
  have hE : EnvOk Go.Proofs.Try.prog (E84) := env_ok tab84 (by
    intro p hp
    cases hp) (by
    intro p hp
    cases hp)
  have h := fn_sound hE (by kernel_rfl) Go.Proofs.Try.func84 (show Go.Proofs.Try.f84.body = some c84 by kernel_rfl) ps84 rs84 (M84) N (by
    intro o ho
    have ho : o ∈ obls (C84 N) 1 c84 := ho
    rw [ob84] at ho
    cases ho)
  have e : (fun x => Go.V.evBody (E84) Go.Proofs.Try.f84 rs84 (M84) N (Go.V.start Go.Proofs.Try.f84 ps84 x)) = F84 N := funext fun x => eF84 N x
  rw [e] at h
  exact h

end Go.Proofs.Ytkifmnocomadfaa
end

/- The reading of poundage poundageref01.plus. -/
section
set_option linter.unusedVariables false
set_option maxRecDepth 100000
namespace Go.Proofs.Ytkifmnocomadfaa
open Go.V

noncomputable def F101 (N : Nat) : (D142 × (D142 × Unit)) → Option (D142 × Unit) := fun x =>
cond (decide ((IntKind.u64.wrap (x.1.2.2.1 + x.2.1.2.2.1)) < x.1.2.2.1)) (
let v1 := (IntKind.u64.wrap ((IntKind.u64.wrap (x.1.2.1 + x.2.1.2.1)) + (1 : Int)))
some ((false, v1, (IntKind.u64.wrap (x.1.2.2.1 + x.2.1.2.2.1)), ()), ())) (
some ((false, (IntKind.u64.wrap (x.1.2.1 + x.2.1.2.1)), (IntKind.u64.wrap (x.1.2.2.1 + x.2.1.2.2.1)), ()), ()))

noncomputable def ps101 : List Ty := [t142, t142]
noncomputable def rs101 : List Ty := [t142]
noncomputable def ty101 : List (TypeId × Ty) := [(120, (.int .u64)), (143, t142)]
noncomputable def by101 : List (TypeId × Nat) := []
noncomputable def eq101 : List TypeId := []
noncomputable def E101 : Go.V.Env := { ty := ty101, bytes := by101, fn := [], eqs := eq101, inl := [] }
noncomputable def M101 : List (Nat × Go.V.Mark (Ty.prods rs101).den) := []
noncomputable def C101 (N : Nat) : Go.V.Ctx (Ty.prods rs101).den := { E := E101, n := Go.Proofs.Try.f101.ntmps, marks := M101, fin := Go.V.finish (E101) Go.Proofs.Try.f101 rs101, N }
noncomputable def c101 : Code := (Go.Proofs.Try.f101.body).getD .skip

theorem tab101 : tablesB Go.Proofs.Try.prog ty101 by101 eq101 = true := by kernel_rfl
theorem ob101 (N : Nat) : obls (C101 N) 1 c101 = [] := by kernel_rfl
theorem eF101 (N : Nat) (x : (Ty.prods ps101).den) : Go.V.evBody (E101) Go.Proofs.Try.f101 rs101 (M101) N (Go.V.start Go.Proofs.Try.f101 ps101 x) = F101 N x := by kernel_rfl
theorem s101 (N : Nat) : Sound Go.Proofs.Try.prog 101 { ps := ps101, rs := rs101, f := F101 N } := by
  have hE : EnvOk Go.Proofs.Try.prog (E101) := env_ok tab101 (by
    intro p hp
    cases hp) (by
    intro p hp
    cases hp)
  have h := fn_sound hE (by kernel_rfl) Go.Proofs.Try.func101 (show Go.Proofs.Try.f101.body = some c101 by kernel_rfl) ps101 rs101 (M101) N (by
    intro o ho
    have ho : o ∈ obls (C101 N) 1 c101 := ho
    rw [ob101] at ho
    cases ho)
  have e : (fun x => Go.V.evBody (E101) Go.Proofs.Try.f101 rs101 (M101) N (Go.V.start Go.Proofs.Try.f101 ps101 x)) = F101 N := funext fun x => eF101 N x
  rw [e] at h
  exact h

end Go.Proofs.Ytkifmnocomadfaa
end

/- The reading of poundage poundageref01.Zero. -/
section
set_option linter.unusedVariables false
set_option maxRecDepth 100000
namespace Go.Proofs.Ytkifmnocomadfaa
open Go.V

noncomputable def F102 (N : Nat) : (D142 × Unit) → Option D159 := fun x =>
cond (x.1.2.1 == (0 : Int)) (
some ((x.1.2.2.1 == (0 : Int)), ())) (
some (false, ()))

noncomputable def ps102 : List Ty := [t142]
noncomputable def rs102 : List Ty := [.bool]
noncomputable def ty102 : List (TypeId × Ty) := [(120, (.int .u64)), (143, t142)]
noncomputable def by102 : List (TypeId × Nat) := []
noncomputable def eq102 : List TypeId := []
noncomputable def E102 : Go.V.Env := { ty := ty102, bytes := by102, fn := [], eqs := eq102, inl := [] }
noncomputable def M102 : List (Nat × Go.V.Mark (Ty.prods rs102).den) := []
noncomputable def C102 (N : Nat) : Go.V.Ctx (Ty.prods rs102).den := { E := E102, n := Go.Proofs.Try.f102.ntmps, marks := M102, fin := Go.V.finish (E102) Go.Proofs.Try.f102 rs102, N }
noncomputable def c102 : Code := (Go.Proofs.Try.f102.body).getD .skip

theorem tab102 : tablesB Go.Proofs.Try.prog ty102 by102 eq102 = true := by kernel_rfl
theorem ob102 (N : Nat) : obls (C102 N) 1 c102 = [] := by kernel_rfl
theorem eF102 (N : Nat) (x : (Ty.prods ps102).den) : Go.V.evBody (E102) Go.Proofs.Try.f102 rs102 (M102) N (Go.V.start Go.Proofs.Try.f102 ps102 x) = F102 N x := by kernel_rfl
theorem s102 (N : Nat) : Sound Go.Proofs.Try.prog 102 { ps := ps102, rs := rs102, f := F102 N } := by
  have hE : EnvOk Go.Proofs.Try.prog (E102) := env_ok tab102 (by
    intro p hp
    cases hp) (by
    intro p hp
    cases hp)
  have h := fn_sound hE (by kernel_rfl) Go.Proofs.Try.func102 (show Go.Proofs.Try.f102.body = some c102 by kernel_rfl) ps102 rs102 (M102) N (by
    intro o ho
    have ho : o ∈ obls (C102 N) 1 c102 := ho
    rw [ob102] at ho
    cases ho)
  have e : (fun x => Go.V.evBody (E102) Go.Proofs.Try.f102 rs102 (M102) N (Go.V.start Go.Proofs.Try.f102 ps102 x)) = F102 N := funext fun x => eF102 N x
  rw [e] at h
  exact h

end Go.Proofs.Ytkifmnocomadfaa
end

/- The reading of poundage poundageref01.size. -/
section
set_option linter.unusedVariables false
set_option maxRecDepth 100000
namespace Go.Proofs.Ytkifmnocomadfaa
open Go.V

noncomputable def F103 (N : Nat) : (D142 × (D142 × Unit)) → Option D159 := fun x =>
cond (decide (x.1.2.1 < x.2.1.2.1)) (
some (true, ())) (
cond (x.1.2.1 == x.2.1.2.1) (
some ((decide (x.1.2.2.1 < x.2.1.2.2.1)), ())) (
some (false, ())))

noncomputable def ps103 : List Ty := [t142, t142]
noncomputable def rs103 : List Ty := [.bool]
noncomputable def ty103 : List (TypeId × Ty) := [(120, (.int .u64)), (143, t142)]
noncomputable def by103 : List (TypeId × Nat) := []
noncomputable def eq103 : List TypeId := []
noncomputable def E103 : Go.V.Env := { ty := ty103, bytes := by103, fn := [], eqs := eq103, inl := [] }
noncomputable def M103 : List (Nat × Go.V.Mark (Ty.prods rs103).den) := []
noncomputable def C103 (N : Nat) : Go.V.Ctx (Ty.prods rs103).den := { E := E103, n := Go.Proofs.Try.f103.ntmps, marks := M103, fin := Go.V.finish (E103) Go.Proofs.Try.f103 rs103, N }
noncomputable def c103 : Code := (Go.Proofs.Try.f103.body).getD .skip

theorem tab103 : tablesB Go.Proofs.Try.prog ty103 by103 eq103 = true := by kernel_rfl
theorem ob103 (N : Nat) : obls (C103 N) 1 c103 = [] := by kernel_rfl
theorem eF103 (N : Nat) (x : (Ty.prods ps103).den) : Go.V.evBody (E103) Go.Proofs.Try.f103 rs103 (M103) N (Go.V.start Go.Proofs.Try.f103 ps103 x) = F103 N x := by kernel_rfl
theorem s103 (N : Nat) : Sound Go.Proofs.Try.prog 103 { ps := ps103, rs := rs103, f := F103 N } := by
  have hE : EnvOk Go.Proofs.Try.prog (E103) := env_ok tab103 (by
    intro p hp
    cases hp) (by
    intro p hp
    cases hp)
  have h := fn_sound hE (by kernel_rfl) Go.Proofs.Try.func103 (show Go.Proofs.Try.f103.body = some c103 by kernel_rfl) ps103 rs103 (M103) N (by
    intro o ho
    have ho : o ∈ obls (C103 N) 1 c103 := ho
    rw [ob103] at ho
    cases ho)
  have e : (fun x => Go.V.evBody (E103) Go.Proofs.Try.f103 rs103 (M103) N (Go.V.start Go.Proofs.Try.f103 ps103 x)) = F103 N := funext fun x => eF103 N x
  rw [e] at h
  exact h

end Go.Proofs.Ytkifmnocomadfaa
end

/- The reading of poundage poundageref01.minus. -/
section
set_option linter.unusedVariables false
set_option maxRecDepth 100000
namespace Go.Proofs.Ytkifmnocomadfaa
open Go.V

noncomputable def F104 (N : Nat) : (D142 × (D142 × Unit)) → Option (D142 × Unit) := fun x =>
cond (decide (x.1.2.2.1 < x.2.1.2.2.1)) (
let v1 := (IntKind.u64.wrap ((IntKind.u64.wrap (x.1.2.1 - x.2.1.2.1)) - (1 : Int)))
some ((false, v1, (IntKind.u64.wrap (x.1.2.2.1 - x.2.1.2.2.1)), ()), ())) (
some ((false, (IntKind.u64.wrap (x.1.2.1 - x.2.1.2.1)), (IntKind.u64.wrap (x.1.2.2.1 - x.2.1.2.2.1)), ()), ()))

noncomputable def ps104 : List Ty := [t142, t142]
noncomputable def rs104 : List Ty := [t142]
noncomputable def ty104 : List (TypeId × Ty) := [(120, (.int .u64)), (143, t142)]
noncomputable def by104 : List (TypeId × Nat) := []
noncomputable def eq104 : List TypeId := []
noncomputable def E104 : Go.V.Env := { ty := ty104, bytes := by104, fn := [], eqs := eq104, inl := [] }
noncomputable def M104 : List (Nat × Go.V.Mark (Ty.prods rs104).den) := []
noncomputable def C104 (N : Nat) : Go.V.Ctx (Ty.prods rs104).den := { E := E104, n := Go.Proofs.Try.f104.ntmps, marks := M104, fin := Go.V.finish (E104) Go.Proofs.Try.f104 rs104, N }
noncomputable def c104 : Code := (Go.Proofs.Try.f104.body).getD .skip

theorem tab104 : tablesB Go.Proofs.Try.prog ty104 by104 eq104 = true := by kernel_rfl
theorem ob104 (N : Nat) : obls (C104 N) 1 c104 = [] := by kernel_rfl
theorem eF104 (N : Nat) (x : (Ty.prods ps104).den) : Go.V.evBody (E104) Go.Proofs.Try.f104 rs104 (M104) N (Go.V.start Go.Proofs.Try.f104 ps104 x) = F104 N x := by kernel_rfl
theorem s104 (N : Nat) : Sound Go.Proofs.Try.prog 104 { ps := ps104, rs := rs104, f := F104 N } := by
  have hE : EnvOk Go.Proofs.Try.prog (E104) := env_ok tab104 (by
    intro p hp
    cases hp) (by
    intro p hp
    cases hp)
  have h := fn_sound hE (by kernel_rfl) Go.Proofs.Try.func104 (show Go.Proofs.Try.f104.body = some c104 by kernel_rfl) ps104 rs104 (M104) N (by
    intro o ho
    have ho : o ∈ obls (C104 N) 1 c104 := ho
    rw [ob104] at ho
    cases ho)
  have e : (fun x => Go.V.evBody (E104) Go.Proofs.Try.f104 rs104 (M104) N (Go.V.start Go.Proofs.Try.f104 ps104 x)) = F104 N := funext fun x => eF104 N x
  rw [e] at h
  exact h

end Go.Proofs.Ytkifmnocomadfaa
end

/- The reading of poundage poundageref01.Add. -/
section
set_option linter.unusedVariables false
set_option maxRecDepth 100000
namespace Go.Proofs.Ytkifmnocomadfaa
open Go.V

noncomputable def F85 (N : Nat) (g101 : (D142 × (D142 × Unit)) → Option (D142 × Unit)) (g102 : (D142 × Unit) → Option D159) (g103 : (D142 × (D142 × Unit)) → Option D159) (g104 : (D142 × (D142 × Unit)) → Option (D142 × Unit)) : (D142 × (D142 × Unit)) → Option (D142 × Unit) := fun x =>
cond (x.1.1 == x.2.1.1) (
(g101 x).bind fun r1 =>
cond x.1.1 (
(g102 r1).bind fun r2 =>
some (((!r2.1), r1.1.2), ())) (
some ((false, r1.1.2), ()))) (
(g103 x).bind fun r3 =>
cond r3.1 (
(g104 (x.2.1, x.1, ())).bind fun r4 =>
cond x.2.1.1 (
(g102 r4).bind fun r5 =>
some (((!r5.1), r4.1.2), ())) (
some ((false, r4.1.2), ()))) (
(g104 x).bind fun r6 =>
cond x.1.1 (
(g102 r6).bind fun r7 =>
some (((!r7.1), r6.1.2), ())) (
some ((false, r6.1.2), ()))))

noncomputable def ps85 : List Ty := [t142, t142]
noncomputable def rs85 : List Ty := [t142]
noncomputable def ty85 : List (TypeId × Ty) := [(4, .bool), (143, t142)]
noncomputable def by85 : List (TypeId × Nat) := []
noncomputable def eq85 : List TypeId := []
noncomputable def E85 (g101 : (D142 × (D142 × Unit)) → Option (D142 × Unit)) (g102 : (D142 × Unit) → Option D159) (g103 : (D142 × (D142 × Unit)) → Option D159) (g104 : (D142 × (D142 × Unit)) → Option (D142 × Unit)) : Go.V.Env := { ty := ty85, bytes := by85, fn := [(101, { ps := [t142, t142], rs := [t142], f := g101 }), (102, { ps := [t142], rs := [.bool], f := g102 }), (103, { ps := [t142, t142], rs := [.bool], f := g103 }), (104, { ps := [t142, t142], rs := [t142], f := g104 })], eqs := eq85, inl := [] }
noncomputable def M85 (g101 : (D142 × (D142 × Unit)) → Option (D142 × Unit)) (g102 : (D142 × Unit) → Option D159) (g103 : (D142 × (D142 × Unit)) → Option D159) (g104 : (D142 × (D142 × Unit)) → Option (D142 × Unit)) : List (Nat × Go.V.Mark (Ty.prods rs85).den) := []
noncomputable def C85 (N : Nat) (g101 : (D142 × (D142 × Unit)) → Option (D142 × Unit)) (g102 : (D142 × Unit) → Option D159) (g103 : (D142 × (D142 × Unit)) → Option D159) (g104 : (D142 × (D142 × Unit)) → Option (D142 × Unit)) : Go.V.Ctx (Ty.prods rs85).den := { E := E85 g101 g102 g103 g104, n := Go.Proofs.Try.f85.ntmps, marks := M85 g101 g102 g103 g104, fin := Go.V.finish (E85 g101 g102 g103 g104) Go.Proofs.Try.f85 rs85, N }
noncomputable def c85 : Code := (Go.Proofs.Try.f85.body).getD .skip

theorem tab85 : tablesB Go.Proofs.Try.prog ty85 by85 eq85 = true := by kernel_rfl
theorem ob85 (N : Nat) (g101 : (D142 × (D142 × Unit)) → Option (D142 × Unit)) (g102 : (D142 × Unit) → Option D159) (g103 : (D142 × (D142 × Unit)) → Option D159) (g104 : (D142 × (D142 × Unit)) → Option (D142 × Unit)) : obls (C85 N g101 g102 g103 g104) 1 c85 = [] := by kernel_rfl
theorem eF85 (N : Nat) (g101 : (D142 × (D142 × Unit)) → Option (D142 × Unit)) (g102 : (D142 × Unit) → Option D159) (g103 : (D142 × (D142 × Unit)) → Option D159) (g104 : (D142 × (D142 × Unit)) → Option (D142 × Unit)) (x : (Ty.prods ps85).den) : Go.V.evBody (E85 g101 g102 g103 g104) Go.Proofs.Try.f85 rs85 (M85 g101 g102 g103 g104) N (Go.V.start Go.Proofs.Try.f85 ps85 x) = F85 N g101 g102 g103 g104 x := by kernel_rfl
theorem s85 (N : Nat) (g101 : (D142 × (D142 × Unit)) → Option (D142 × Unit)) (g102 : (D142 × Unit) → Option D159) (g103 : (D142 × (D142 × Unit)) → Option D159) (g104 : (D142 × (D142 × Unit)) → Option (D142 × Unit)) (h101 : Sound Go.Proofs.Try.prog 101 { ps := [t142, t142], rs := [t142], f := g101 }) (h102 : Sound Go.Proofs.Try.prog 102 { ps := [t142], rs := [.bool], f := g102 }) (h103 : Sound Go.Proofs.Try.prog 103 { ps := [t142, t142], rs := [.bool], f := g103 }) (h104 : Sound Go.Proofs.Try.prog 104 { ps := [t142, t142], rs := [t142], f := g104 }) : Sound Go.Proofs.Try.prog 85 { ps := ps85, rs := rs85, f := F85 N g101 g102 g103 g104 } := by
  have hE : EnvOk Go.Proofs.Try.prog (E85 g101 g102 g103 g104) := env_ok tab85 (by
    intro p hp
    simp only [List.mem_cons, List.not_mem_nil, or_false] at hp
    rcases hp with rfl | rfl | rfl | rfl
    · exact ⟨h101, Go.Proofs.Try.f101, Go.Proofs.Try.func101, by kernel_rfl, by kernel_rfl⟩
    · exact ⟨h102, Go.Proofs.Try.f102, Go.Proofs.Try.func102, by kernel_rfl, by kernel_rfl⟩
    · exact ⟨h103, Go.Proofs.Try.f103, Go.Proofs.Try.func103, by kernel_rfl, by kernel_rfl⟩
    · exact ⟨h104, Go.Proofs.Try.f104, Go.Proofs.Try.func104, by kernel_rfl, by kernel_rfl⟩) (by
    intro p hp
    cases hp)
  have h := fn_sound hE (by kernel_rfl) Go.Proofs.Try.func85 (show Go.Proofs.Try.f85.body = some c85 by kernel_rfl) ps85 rs85 (M85 g101 g102 g103 g104) N (by
    intro o ho
    have ho : o ∈ obls (C85 N g101 g102 g103 g104) 1 c85 := ho
    rw [ob85] at ho
    cases ho)
  have e : (fun x => Go.V.evBody (E85 g101 g102 g103 g104) Go.Proofs.Try.f85 rs85 (M85 g101 g102 g103 g104) N (Go.V.start Go.Proofs.Try.f85 ps85 x)) = F85 N g101 g102 g103 g104 := funext fun x => eF85 N g101 g102 g103 g104 x
  rw [e] at h
  exact h

end Go.Proofs.Ytkifmnocomadfaa
end

/- The reading of poundage poundageref01.Of. -/
section
set_option linter.unusedVariables false
set_option maxRecDepth 100000
namespace Go.Proofs.Ytkifmnocomadfaa
open Go.V

noncomputable def F86 (N : Nat) : (Int × Unit) → Option (D142 × Unit) := fun x =>
cond (decide (x.1 < (0 : Int))) (
let v1 := (IntKind.u64.wrap ((IntKind.u64.wrap (IntKind.i64.wrap (0 - (IntKind.i64.wrap (x.1 + (1 : Int)))))) + (1 : Int)))
some ((true, (0 : Int), v1, ()), ())) (
some ((false, (0 : Int), (IntKind.u64.wrap x.1), ()), ()))

noncomputable def ps86 : List Ty := [(.int .i64)]
noncomputable def rs86 : List Ty := [t142]
noncomputable def ty86 : List (TypeId × Ty) := [(3, (.int .i64)), (120, (.int .u64)), (143, t142)]
noncomputable def by86 : List (TypeId × Nat) := []
noncomputable def eq86 : List TypeId := []
noncomputable def E86 : Go.V.Env := { ty := ty86, bytes := by86, fn := [], eqs := eq86, inl := [] }
noncomputable def M86 : List (Nat × Go.V.Mark (Ty.prods rs86).den) := []
noncomputable def C86 (N : Nat) : Go.V.Ctx (Ty.prods rs86).den := { E := E86, n := Go.Proofs.Try.f86.ntmps, marks := M86, fin := Go.V.finish (E86) Go.Proofs.Try.f86 rs86, N }
noncomputable def c86 : Code := (Go.Proofs.Try.f86.body).getD .skip

theorem tab86 : tablesB Go.Proofs.Try.prog ty86 by86 eq86 = true := by kernel_rfl
theorem ob86 (N : Nat) : obls (C86 N) 1 c86 = [] := by kernel_rfl
theorem eF86 (N : Nat) (x : (Ty.prods ps86).den) : Go.V.evBody (E86) Go.Proofs.Try.f86 rs86 (M86) N (Go.V.start Go.Proofs.Try.f86 ps86 x) = F86 N x := by kernel_rfl
theorem s86 (N : Nat) : Sound Go.Proofs.Try.prog 86 { ps := ps86, rs := rs86, f := F86 N } := by
  have hE : EnvOk Go.Proofs.Try.prog (E86) := env_ok tab86 (by
    intro p hp
    cases hp) (by
    intro p hp
    cases hp)
  have h := fn_sound hE (by kernel_rfl) Go.Proofs.Try.func86 (show Go.Proofs.Try.f86.body = some c86 by kernel_rfl) ps86 rs86 (M86) N (by
    intro o ho
    have ho : o ∈ obls (C86 N) 1 c86 := ho
    rw [ob86] at ho
    cases ho)
  have e : (fun x => Go.V.evBody (E86) Go.Proofs.Try.f86 rs86 (M86) N (Go.V.start Go.Proofs.Try.f86 ps86 x)) = F86 N := funext fun x => eF86 N x
  rw [e] at h
  exact h

end Go.Proofs.Ytkifmnocomadfaa
end
