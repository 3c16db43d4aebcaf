/- The reading of poundage poundageref10.Good. -/
import Derived.Test.YtkifmnocomadfaaWTy
section
set_option linter.unusedVariables false
set_option maxRecDepth 100000
namespace Go.Proofs.Ytkifmnocomadfaa
open Go.V

noncomputable def L30_0i : Shape := { items := [.ptr 1 0 0, .bx 0 0 t25, .tm 48 (.sl 68 t67), .tm 49 (.int .i64), .tm 50 (.int .i64)], boxes := [26] }
noncomputable def L30_0o : Shape := { items := [.ptr 1 0 0, .bx 0 0 t25], boxes := [26] }
noncomputable def L30_0 (N : Nat) (g59 : D87 → Option D159) (g60 : (D25 × D146) → Option D159) (g61 : (D25 × (D113 × Unit)) → Option D159) : Nat → (Unit × (D25 × ((List D67) × D146))) → ((Unit × (D25 × Unit)) → Option D159) → Option D159
| 0, _, _ => none
| k + 1, x3, Kx =>
cond (decide (x3.2.2.2.2.1 < x3.2.2.2.1)) (
if 0 ≤ x3.2.2.2.2.1 then
if x3.2.2.2.2.1 < (x3.2.2.1.length : Int) then
let e4 : D67 := rdAt (t := t67) x3.2.2.1 x3.2.2.2.2.1
(g59 (e4.2.2.1, (0 : Int), (2000 : Int), ())).bind fun r5 =>
cond (!r5.1) (
some (false, ())) (
cond (e4.2.2.2.1 != (0 : Int)) (
some (false, ())) (
cond (e4.2.2.2.2.1 != (0 : Int)) (
some (false, ())) (
cond (decide (x3.2.2.2.2.1 > (0 : Int))) (
if 0 ≤ (IntKind.i64.wrap (x3.2.2.2.2.1 - (1 : Int))) then
if (IntKind.i64.wrap (x3.2.2.2.2.1 - (1 : Int))) < (x3.2.1.2.2.2.1.length : Int) then
let e6 : D67 := rdAt (t := t67) x3.2.1.2.2.2.1 (IntKind.i64.wrap (x3.2.2.2.2.1 - (1 : Int)))
cond (!(Op.bytesLess e6.1.toList e4.1.toList)) (
some (false, ())) (
L30_0 N g59 g60 g61 k ((), x3.2.1, x3.2.2.1, x3.2.2.2.1, (IntKind.i64.wrap (x3.2.2.2.2.1 + (1 : Int))), ()) Kx)
else none
else none) (
L30_0 N g59 g60 g61 k ((), x3.2.1, x3.2.2.1, x3.2.2.2.1, (IntKind.i64.wrap (x3.2.2.2.2.1 + (1 : Int))), ()) Kx))))
else none
else none) (
Kx ((), x3.2.1, ()))

noncomputable def L30_1i : Shape := { items := [.ptr 1 0 0, .bx 0 0 t25, .tm 88 (.sl 110 t87), .tm 89 (.int .i64), .tm 90 (.int .i64)], boxes := [26] }
noncomputable def L30_1o : Shape := { items := [.ptr 1 0 0, .bx 0 0 t25], boxes := [26] }
noncomputable def L30_1 (N : Nat) (g59 : D87 → Option D159) (g60 : (D25 × D146) → Option D159) (g61 : (D25 × (D113 × Unit)) → Option D159) : Nat → (Unit × (D25 × ((List D87) × D146))) → ((Unit × (D25 × Unit)) → Option D159) → Option D159
| 0, _, _ => none
| k + 1, x8, Kx =>
cond (decide (x8.2.2.2.2.1 < x8.2.2.2.1)) (
if 0 ≤ x8.2.2.2.2.1 then
if x8.2.2.2.2.1 < (x8.2.2.1.length : Int) then
let e9 : D87 := rdAt (t := t87) x8.2.2.1 x8.2.2.2.2.1
(g59 (e9.1, (0 : Int), (1000000000000 : Int), ())).bind fun r10 =>
cond (!r10.1) (
some (false, ())) (
(g60 (x8.2.1, e9.2)).bind fun r11 =>
cond (!r11.1) (
some (false, ())) (
L30_1 N g59 g60 g61 k ((), x8.2.1, x8.2.2.1, x8.2.2.2.1, (IntKind.i64.wrap (x8.2.2.2.2.1 + (1 : Int))), ()) Kx))
else none
else none) (
Kx ((), x8.2.1, ()))

noncomputable def L30_2i : Shape := { items := [.ptr 1 0 0, .bx 0 0 t25, .tm 109 (.sl 114 t113), .tm 110 (.int .i64), .tm 111 (.int .i64)], boxes := [26] }
noncomputable def L30_2o : Shape := { items := [], boxes := [] }
noncomputable def L30_2 (N : Nat) (g59 : D87 → Option D159) (g60 : (D25 × D146) → Option D159) (g61 : (D25 × (D113 × Unit)) → Option D159) : Nat → (Unit × (D25 × ((List D113) × D146))) → (Unit → Option D159) → Option D159
| 0, _, _ => none
| k + 1, x13, Kx =>
cond (decide (x13.2.2.2.2.1 < x13.2.2.2.1)) (
if 0 ≤ x13.2.2.2.2.1 then
if x13.2.2.2.2.1 < (x13.2.2.1.length : Int) then
let e14 : D113 := rdAt (t := t113) x13.2.2.1 x13.2.2.2.2.1
(g61 (x13.2.1, e14, ())).bind fun r15 =>
cond (!r15.1) (
some (false, ())) (
L30_2 N g59 g60 g61 k ((), x13.2.1, x13.2.2.1, x13.2.2.2.1, (IntKind.i64.wrap (x13.2.2.2.2.1 + (1 : Int))), ()) Kx)
else none
else none) (
Kx ())

noncomputable def F30 (N : Nat) (g59 : D87 → Option D159) (g60 : (D25 × D146) → Option D159) (g61 : (D25 × (D113 × Unit)) → Option D159) : (D25 × Unit) → Option D159 := fun x =>
(g59 (x.1.2.1, (0 : Int), (3652058 : Int), ())).bind fun r1 =>
cond (!r1.1) (
some (false, ())) (
(g59 (x.1.2.2.1, x.1.2.1, (3652058 : Int), ())).bind fun r2 =>
cond (!r2.1) (
some (false, ())) (
cond (decide ((IntKind.i64.wrap (x.1.2.2.1 - x.1.2.1)) > (3999 : Int))) (
some (false, ())) (
cond (decide ((x.1.2.2.2.1.length : Int) > (4 : Int))) (
some (false, ())) (
cond (decide ((x.1.2.2.2.2.1.length : Int) > (8 : Int))) (
some (false, ())) (
cond (decide ((x.1.2.2.2.2.2.1.length : Int) > (8 : Int))) (
some (false, ())) (
L30_0 N g59 g60 g61 N ((), x.1, x.1.2.2.2.1, (x.1.2.2.2.1.length : Int), (0 : Int), ()) fun y7 =>
L30_1 N g59 g60 g61 N ((), y7.2.1, y7.2.1.2.2.2.2.1, (y7.2.1.2.2.2.2.1.length : Int), (0 : Int), ()) fun y12 =>
L30_2 N g59 g60 g61 N ((), y12.2.1, y12.2.1.2.2.2.2.2.1, (y12.2.1.2.2.2.2.2.1.length : Int), (0 : Int), ()) fun y16 =>
some (true, ())))))))

noncomputable def ps30 : List Ty := [t25]
noncomputable def rs30 : List Ty := [.bool]
noncomputable def ty30 : List (TypeId × Ty) := [(3, (.int .i64)), (9, .str), (22, (.sl 68 t67)), (23, (.sl 110 t87)), (24, (.sl 114 t113)), (26, t25), (68, t67), (110, t87), (114, t113)]
noncomputable def by30 : List (TypeId × Nat) := []
noncomputable def eq30 : List TypeId := []
noncomputable def E30 (g59 : D87 → Option D159) (g60 : (D25 × D146) → Option D159) (g61 : (D25 × (D113 × Unit)) → Option D159) : Go.V.Env := { ty := ty30, bytes := by30, fn := [(59, { ps := [(.int .i64), (.int .i64), (.int .i64)], rs := [.bool], f := g59 }), (60, { ps := [t25, (.int .i64), (.int .i64)], rs := [.bool], f := g60 }), (61, { ps := [t25, t113], rs := [.bool], f := g61 })], eqs := eq30, inl := [] }
noncomputable def M30 (g59 : D87 → Option D159) (g60 : (D25 × D146) → Option D159) (g61 : (D25 × (D113 × Unit)) → Option D159) : List (Nat × Go.V.Mark (Ty.prods rs30).den) := [(116, { ins := L30_0i, outs := L30_0o, ex := some 0, f := fun N => L30_0 N g59 g60 g61 }), (244, { ins := L30_1i, outs := L30_1o, ex := some 2, f := fun N => L30_1 N g59 g60 g61 }), (500, { ins := L30_2i, outs := L30_2o, ex := some 4, f := fun N => L30_2 N g59 g60 g61 })]
noncomputable def C30 (N : Nat) (g59 : D87 → Option D159) (g60 : (D25 × D146) → Option D159) (g61 : (D25 × (D113 × Unit)) → Option D159) : Go.V.Ctx (Ty.prods rs30).den := { E := E30 g59 g60 g61, n := Go.Proofs.Try.f30.ntmps, marks := M30 g59 g60 g61, fin := Go.V.finish (E30 g59 g60 g61) Go.Proofs.Try.f30 rs30, N }
noncomputable def c30 : Code := (Go.Proofs.Try.f30.body).getD .skip

theorem tab30 : tablesB Go.Proofs.Try.prog ty30 by30 eq30 = true := by kernel_rfl
theorem oL30_0 (N : Nat) (g59 : D87 → Option D159) (g60 : (D25 × D146) → Option D159) (g61 : (D25 × (D113 × Unit)) → Option D159) : (Obl.loop { ins := L30_0i, outs := L30_0o, ex := some 0, f := fun N => L30_0 N g59 g60 g61 } 116 (subc [true, true, false, true, false, false] c30) : Obl (Ty.prods rs30).den).holds (C30 N g59 g60 g61) := by
  intro x Kx
  exact ⟨by kernel_rfl, fun k => by kernel_rfl⟩
theorem oL30_1 (N : Nat) (g59 : D87 → Option D159) (g60 : (D25 × D146) → Option D159) (g61 : (D25 × (D113 × Unit)) → Option D159) : (Obl.loop { ins := L30_1i, outs := L30_1o, ex := some 2, f := fun N => L30_1 N g59 g60 g61 } 244 (subc [true, true, true, false, true, false, false] c30) : Obl (Ty.prods rs30).den).holds (C30 N g59 g60 g61) := by
  intro x Kx
  exact ⟨by kernel_rfl, fun k => by kernel_rfl⟩
theorem oL30_2 (N : Nat) (g59 : D87 → Option D159) (g60 : (D25 × D146) → Option D159) (g61 : (D25 × (D113 × Unit)) → Option D159) : (Obl.loop { ins := L30_2i, outs := L30_2o, ex := some 4, f := fun N => L30_2 N g59 g60 g61 } 500 (subc [true, true, true, true, false, true, false, false] c30) : Obl (Ty.prods rs30).den).holds (C30 N g59 g60 g61) := by
  intro x Kx
  exact ⟨by kernel_rfl, fun k => by kernel_rfl⟩
theorem ob30 (N : Nat) (g59 : D87 → Option D159) (g60 : (D25 × D146) → Option D159) (g61 : (D25 × (D113 × Unit)) → Option D159) : obls (C30 N g59 g60 g61) 1 c30 = [.loop { ins := L30_0i, outs := L30_0o, ex := some 0, f := fun N => L30_0 N g59 g60 g61 } 116 (subc [true, true, false, true, false, false] c30), .loop { ins := L30_1i, outs := L30_1o, ex := some 2, f := fun N => L30_1 N g59 g60 g61 } 244 (subc [true, true, true, false, true, false, false] c30), .loop { ins := L30_2i, outs := L30_2o, ex := some 4, f := fun N => L30_2 N g59 g60 g61 } 500 (subc [true, true, true, true, false, true, false, false] c30)] := by kernel_rfl
theorem eF30 (N : Nat) (g59 : D87 → Option D159) (g60 : (D25 × D146) → Option D159) (g61 : (D25 × (D113 × Unit)) → Option D159) (x : (Ty.prods ps30).den) : Go.V.evBody (E30 g59 g60 g61) Go.Proofs.Try.f30 rs30 (M30 g59 g60 g61) N (Go.V.start Go.Proofs.Try.f30 ps30 x) = F30 N g59 g60 g61 x := by kernel_rfl
theorem s30 (N : Nat) (g59 : D87 → Option D159) (g60 : (D25 × D146) → Option D159) (g61 : (D25 × (D113 × Unit)) → Option D159) (h59 : Sound Go.Proofs.Try.prog 59 { ps := [(.int .i64), (.int .i64), (.int .i64)], rs := [.bool], f := g59 }) (h60 : Sound Go.Proofs.Try.prog 60 { ps := [t25, (.int .i64), (.int .i64)], rs := [.bool], f := g60 }) (h61 : Sound Go.Proofs.Try.prog 61 { ps := [t25, t113], rs := [.bool], f := g61 }) : Sound Go.Proofs.Try.prog 30 { ps := ps30, rs := rs30, f := F30 N g59 g60 g61 } := by
  have hE : EnvOk Go.Proofs.Try.prog (E30 g59 g60 g61) := env_ok tab30 (by
    intro p hp
    simp only [List.mem_cons, List.not_mem_nil, or_false] at hp
    rcases hp with rfl | rfl | rfl
    · exact ⟨h59, Go.Proofs.Try.f59, Go.Proofs.Try.func59, by kernel_rfl, by kernel_rfl⟩
    · exact ⟨h60, Go.Proofs.Try.f60, Go.Proofs.Try.func60, by kernel_rfl, by kernel_rfl⟩
    · exact ⟨h61, Go.Proofs.Try.f61, Go.Proofs.Try.func61, by kernel_rfl, by kernel_rfl⟩) (by
    intro p hp
    cases hp)
  have h := fn_sound hE (by kernel_rfl) Go.Proofs.Try.func30 (show Go.Proofs.Try.f30.body = some c30 by kernel_rfl) ps30 rs30 (M30 g59 g60 g61) N (by
    intro o ho
    have ho : o ∈ obls (C30 N g59 g60 g61) 1 c30 := ho
    rw [ob30] at ho
    simp only [List.mem_cons, List.not_mem_nil, or_false] at ho
    rcases ho with rfl | rfl | rfl
    · exact oL30_0 N g59 g60 g61
    · exact oL30_1 N g59 g60 g61
    · exact oL30_2 N g59 g60 g61)
  have e : (fun x => Go.V.evBody (E30 g59 g60 g61) Go.Proofs.Try.f30 rs30 (M30 g59 g60 g61) N (Go.V.start Go.Proofs.Try.f30 ps30 x)) = F30 N g59 g60 g61 := funext fun x => eF30 N g59 g60 g61 x
  rw [e] at h
  exact h

end Go.Proofs.Ytkifmnocomadfaa
end

/- The reading of poundage poundageref01.Int. -/
section
set_option linter.unusedVariables false
set_option maxRecDepth 100000
namespace Go.Proofs.Ytkifmnocomadfaa
open Go.V

noncomputable def F84 (N : Nat) : (D142 × Unit) → Option (Int × D159) := fun x =>
cond (x.1.2.1 != (0 : Int)) (
some ((0 : Int), false, ())) (
cond x.1.1 (
cond (decide (x.1.2.2.1 > (9223372036854775808 : Int))) (
some ((0 : Int), false, ())) (
cond (x.1.2.2.1 == (0 : Int)) (
some ((0 : Int), true, ())) (
let v1 := (IntKind.i64.wrap ((IntKind.i64.wrap (0 - (IntKind.i64.wrap (IntKind.u64.wrap (x.1.2.2.1 - (1 : Int)))))) - (1 : Int)))
some (v1, true, ())))) (
cond (decide (x.1.2.2.1 ≥ (9223372036854775808 : Int))) (
some ((0 : Int), false, ())) (
some ((IntKind.i64.wrap x.1.2.2.1), true, ()))))

noncomputable def ps84 : List Ty := [t142]
noncomputable def rs84 : List Ty := [(.int .i64), .bool]
noncomputable def ty84 : List (TypeId × Ty) := [(3, (.int .i64)), (4, .bool), (120, (.int .u64)), (143, t142)]
noncomputable def by84 : List (TypeId × Nat) := []
noncomputable def eq84 : List TypeId := []
noncomputable def E84 : Go.V.Env := { ty := ty84, bytes := by84, fn := [], eqs := eq84, inl := [] }
noncomputable def M84 : List (Nat × Go.V.Mark (Ty.prods rs84).den) := []
noncomputable def C84 (N : Nat) : Go.V.Ctx (Ty.prods rs84).den := { E := E84, n := Go.Proofs.Try.f84.ntmps, marks := M84, fin := Go.V.finish (E84) Go.Proofs.Try.f84 rs84, N }
noncomputable def c84 : Code := (Go.Proofs.Try.f84.body).getD .skip

theorem tab84 : tablesB Go.Proofs.Try.prog ty84 by84 eq84 = true := by kernel_rfl
theorem ob84 (N : Nat) : obls (C84 N) 1 c84 = [] := by kernel_rfl
theorem eF84 (N : Nat) (x : (Ty.prods ps84).den) : Go.V.evBody (E84) Go.Proofs.Try.f84 rs84 (M84) N (Go.V.start Go.Proofs.Try.f84 ps84 x) = F84 N x := by kernel_rfl
theorem s84 (N : Nat) : Sound Go.Proofs.Try.prog 84 { ps := ps84, rs := rs84, f := F84 N } := by
  have hE : EnvOk Go.Proofs.Try.prog (E84) := env_ok tab84 (by
    intro p hp
    cases hp) (by
    intro p hp
    cases hp)
  have h := fn_sound hE (by kernel_rfl) Go.Proofs.Try.func84 (show Go.Proofs.Try.f84.body = some c84 by kernel_rfl) ps84 rs84 (M84) N (by
    intro o ho
    have ho : o ∈ obls (C84 N) 1 c84 := ho
    rw [ob84] at ho
    cases ho)
  have e : (fun x => Go.V.evBody (E84) Go.Proofs.Try.f84 rs84 (M84) N (Go.V.start Go.Proofs.Try.f84 ps84 x)) = F84 N := funext fun x => eF84 N x
  rw [e] at h
  exact h

end Go.Proofs.Ytkifmnocomadfaa
end

/- The reading of poundage poundageref01.plus. -/
section
set_option linter.unusedVariables false
set_option maxRecDepth 100000
namespace Go.Proofs.Ytkifmnocomadfaa
open Go.V

noncomputable def F101 (N : Nat) : (D142 × (D142 × Unit)) → Option (D142 × Unit) := fun x =>
cond (decide ((IntKind.u64.wrap (x.1.2.2.1 + x.2.1.2.2.1)) < x.1.2.2.1)) (
let v1 := (IntKind.u64.wrap ((IntKind.u64.wrap (x.1.2.1 + x.2.1.2.1)) + (1 : Int)))
some ((false, v1, (IntKind.u64.wrap (x.1.2.2.1 + x.2.1.2.2.1)), ()), ())) (
some ((false, (IntKind.u64.wrap (x.1.2.1 + x.2.1.2.1)), (IntKind.u64.wrap (x.1.2.2.1 + x.2.1.2.2.1)), ()), ()))

noncomputable def ps101 : List Ty := [t142, t142]
noncomputable def rs101 : List Ty := [t142]
noncomputable def ty101 : List (TypeId × Ty) := [(120, (.int .u64)), (143, t142)]
noncomputable def by101 : List (TypeId × Nat) := []
noncomputable def eq101 : List TypeId := []
noncomputable def E101 : Go.V.Env := { ty := ty101, bytes := by101, fn := [], eqs := eq101, inl := [] }
noncomputable def M101 : List (Nat × Go.V.Mark (Ty.prods rs101).den) := []
noncomputable def C101 (N : Nat) : Go.V.Ctx (Ty.prods rs101).den := { E := E101, n := Go.Proofs.Try.f101.ntmps, marks := M101, fin := Go.V.finish (E101) Go.Proofs.Try.f101 rs101, N }
noncomputable def c101 : Code := (Go.Proofs.Try.f101.body).getD .skip

theorem tab101 : tablesB Go.Proofs.Try.prog ty101 by101 eq101 = true := by kernel_rfl
theorem ob101 (N : Nat) : obls (C101 N) 1 c101 = [] := by kernel_rfl
theorem eF101 (N : Nat) (x : (Ty.prods ps101).den) : Go.V.evBody (E101) Go.Proofs.Try.f101 rs101 (M101) N (Go.V.start Go.Proofs.Try.f101 ps101 x) = F101 N x := by kernel_rfl
theorem s101 (N : Nat) : Sound Go.Proofs.Try.prog 101 { ps := ps101, rs := rs101, f := F101 N } := by
  have hE : EnvOk Go.Proofs.Try.prog (E101) := env_ok tab101 (by
    intro p hp
    cases hp) (by
    intro p hp
    cases hp)
  have h := fn_sound hE (by kernel_rfl) Go.Proofs.Try.func101 (show Go.Proofs.Try.f101.body = some c101 by kernel_rfl) ps101 rs101 (M101) N (by
    intro o ho
    have ho : o ∈ obls (C101 N) 1 c101 := ho
    rw [ob101] at ho
    cases ho)
  have e : (fun x => Go.V.evBody (E101) Go.Proofs.Try.f101 rs101 (M101) N (Go.V.start Go.Proofs.Try.f101 ps101 x)) = F101 N := funext fun x => eF101 N x
  rw [e] at h
  exact h

end Go.Proofs.Ytkifmnocomadfaa
end

/- The reading of poundage poundageref01.Zero. -/
section
set_option linter.unusedVariables false
set_option maxRecDepth 100000
namespace Go.Proofs.Ytkifmnocomadfaa
open Go.V

noncomputable def F102 (N : Nat) : (D142 × Unit) → Option D159 := fun x =>
cond (x.1.2.1 == (0 : Int)) (
some ((x.1.2.2.1 == (0 : Int)), ())) (
some (false, ()))

noncomputable def ps102 : List Ty := [t142]
noncomputable def rs102 : List Ty := [.bool]
noncomputable def ty102 : List (TypeId × Ty) := [(120, (.int .u64)), (143, t142)]
noncomputable def by102 : List (TypeId × Nat) := []
noncomputable def eq102 : List TypeId := []
noncomputable def E102 : Go.V.Env := { ty := ty102, bytes := by102, fn := [], eqs := eq102, inl := [] }
noncomputable def M102 : List (Nat × Go.V.Mark (Ty.prods rs102).den) := []
noncomputable def C102 (N : Nat) : Go.V.Ctx (Ty.prods rs102).den := { E := E102, n := Go.Proofs.Try.f102.ntmps, marks := M102, fin := Go.V.finish (E102) Go.Proofs.Try.f102 rs102, N }
noncomputable def c102 : Code := (Go.Proofs.Try.f102.body).getD .skip

theorem tab102 : tablesB Go.Proofs.Try.prog ty102 by102 eq102 = true := by kernel_rfl
theorem ob102 (N : Nat) : obls (C102 N) 1 c102 = [] := by kernel_rfl
theorem eF102 (N : Nat) (x : (Ty.prods ps102).den) : Go.V.evBody (E102) Go.Proofs.Try.f102 rs102 (M102) N (Go.V.start Go.Proofs.Try.f102 ps102 x) = F102 N x := by kernel_rfl
theorem s102 (N : Nat) : Sound Go.Proofs.Try.prog 102 { ps := ps102, rs := rs102, f := F102 N } := by
  have hE : EnvOk Go.Proofs.Try.prog (E102) := env_ok tab102 (by
    intro p hp
    cases hp) (by
    intro p hp
    cases hp)
  have h := fn_sound hE (by kernel_rfl) Go.Proofs.Try.func102 (show Go.Proofs.Try.f102.body = some c102 by kernel_rfl) ps102 rs102 (M102) N (by
    intro o ho
    have ho : o ∈ obls (C102 N) 1 c102 := ho
    rw [ob102] at ho
    cases ho)
  have e : (fun x => Go.V.evBody (E102) Go.Proofs.Try.f102 rs102 (M102) N (Go.V.start Go.Proofs.Try.f102 ps102 x)) = F102 N := funext fun x => eF102 N x
  rw [e] at h
  exact h

end Go.Proofs.Ytkifmnocomadfaa
end

/- The reading of poundage poundageref01.size. -/
section
set_option linter.unusedVariables false
set_option maxRecDepth 100000
namespace Go.Proofs.Ytkifmnocomadfaa
open Go.V

noncomputable def F103 (N : Nat) : (D142 × (D142 × Unit)) → Option D159 := fun x =>
cond (decide (x.1.2.1 < x.2.1.2.1)) (
some (true, ())) (
cond (x.1.2.1 == x.2.1.2.1) (
some ((decide (x.1.2.2.1 < x.2.1.2.2.1)), ())) (
some (false, ())))

noncomputable def ps103 : List Ty := [t142, t142]
noncomputable def rs103 : List Ty := [.bool]
noncomputable def ty103 : List (TypeId × Ty) := [(120, (.int .u64)), (143, t142)]
noncomputable def by103 : List (TypeId × Nat) := []
noncomputable def eq103 : List TypeId := []
noncomputable def E103 : Go.V.Env := { ty := ty103, bytes := by103, fn := [], eqs := eq103, inl := [] }
noncomputable def M103 : List (Nat × Go.V.Mark (Ty.prods rs103).den) := []
noncomputable def C103 (N : Nat) : Go.V.Ctx (Ty.prods rs103).den := { E := E103, n := Go.Proofs.Try.f103.ntmps, marks := M103, fin := Go.V.finish (E103) Go.Proofs.Try.f103 rs103, N }
noncomputable def c103 : Code := (Go.Proofs.Try.f103.body).getD .skip

theorem tab103 : tablesB Go.Proofs.Try.prog ty103 by103 eq103 = true := by kernel_rfl
theorem ob103 (N : Nat) : obls (C103 N) 1 c103 = [] := by kernel_rfl
theorem eF103 (N : Nat) (x : (Ty.prods ps103).den) : Go.V.evBody (E103) Go.Proofs.Try.f103 rs103 (M103) N (Go.V.start Go.Proofs.Try.f103 ps103 x) = F103 N x := by kernel_rfl
theorem s103 (N : Nat) : Sound Go.Proofs.Try.prog 103 { ps := ps103, rs := rs103, f := F103 N } := by
  have hE : EnvOk Go.Proofs.Try.prog (E103) := env_ok tab103 (by
    intro p hp
    cases hp) (by
    intro p hp
    cases hp)
  have h := fn_sound hE (by kernel_rfl) Go.Proofs.Try.func103 (show Go.Proofs.Try.f103.body = some c103 by kernel_rfl) ps103 rs103 (M103) N (by
    intro o ho
    have ho : o ∈ obls (C103 N) 1 c103 := ho
    rw [ob103] at ho
    cases ho)
  have e : (fun x => Go.V.evBody (E103) Go.Proofs.Try.f103 rs103 (M103) N (Go.V.start Go.Proofs.Try.f103 ps103 x)) = F103 N := funext fun x => eF103 N x
  rw [e] at h
  exact h

end Go.Proofs.Ytkifmnocomadfaa
end

/- The reading of poundage poundageref01.minus. -/
section
set_option linter.unusedVariables false
set_option maxRecDepth 100000
namespace Go.Proofs.Ytkifmnocomadfaa
open Go.V

noncomputable def F104 (N : Nat) : (D142 × (D142 × Unit)) → Option (D142 × Unit) := fun x =>
cond (decide (x.1.2.2.1 < x.2.1.2.2.1)) (
let v1 := (IntKind.u64.wrap ((IntKind.u64.wrap (x.1.2.1 - x.2.1.2.1)) - (1 : Int)))
some ((false, v1, (IntKind.u64.wrap (x.1.2.2.1 - x.2.1.2.2.1)), ()), ())) (
some ((false, (IntKind.u64.wrap (x.1.2.1 - x.2.1.2.1)), (IntKind.u64.wrap (x.1.2.2.1 - x.2.1.2.2.1)), ()), ()))

noncomputable def ps104 : List Ty := [t142, t142]
noncomputable def rs104 : List Ty := [t142]
noncomputable def ty104 : List (TypeId × Ty) := [(120, (.int .u64)), (143, t142)]
noncomputable def by104 : List (TypeId × Nat) := []
noncomputable def eq104 : List TypeId := []
noncomputable def E104 : Go.V.Env := { ty := ty104, bytes := by104, fn := [], eqs := eq104, inl := [] }
noncomputable def M104 : List (Nat × Go.V.Mark (Ty.prods rs104).den) := []
noncomputable def C104 (N : Nat) : Go.V.Ctx (Ty.prods rs104).den := { E := E104, n := Go.Proofs.Try.f104.ntmps, marks := M104, fin := Go.V.finish (E104) Go.Proofs.Try.f104 rs104, N }
noncomputable def c104 : Code := (Go.Proofs.Try.f104.body).getD .skip

theorem tab104 : tablesB Go.Proofs.Try.prog ty104 by104 eq104 = true := by kernel_rfl
theorem ob104 (N : Nat) : obls (C104 N) 1 c104 = [] := by kernel_rfl
theorem eF104 (N : Nat) (x : (Ty.prods ps104).den) : Go.V.evBody (E104) Go.Proofs.Try.f104 rs104 (M104) N (Go.V.start Go.Proofs.Try.f104 ps104 x) = F104 N x := by kernel_rfl
theorem s104 (N : Nat) : Sound Go.Proofs.Try.prog 104 { ps := ps104, rs := rs104, f := F104 N } := by
  have hE : EnvOk Go.Proofs.Try.prog (E104) := env_ok tab104 (by
    intro p hp
    cases hp) (by
    intro p hp
    cases hp)
  have h := fn_sound hE (by kernel_rfl) Go.Proofs.Try.func104 (show Go.Proofs.Try.f104.body = some c104 by kernel_rfl) ps104 rs104 (M104) N (by
    intro o ho
    have ho : o ∈ obls (C104 N) 1 c104 := ho
    rw [ob104] at ho
    cases ho)
  have e : (fun x => Go.V.evBody (E104) Go.Proofs.Try.f104 rs104 (M104) N (Go.V.start Go.Proofs.Try.f104 ps104 x)) = F104 N := funext fun x => eF104 N x
  rw [e] at h
  exact h

end Go.Proofs.Ytkifmnocomadfaa
end

/- The reading of poundage poundageref01.Add. -/
section
set_option linter.unusedVariables false
set_option maxRecDepth 100000
namespace Go.Proofs.Ytkifmnocomadfaa
open Go.V

noncomputable def F85 (N : Nat) (g101 : (D142 × (D142 × Unit)) → Option (D142 × Unit)) (g102 : (D142 × Unit) → Option D159) (g103 : (D142 × (D142 × Unit)) → Option D159) (g104 : (D142 × (D142 × Unit)) → Option (D142 × Unit)) : (D142 × (D142 × Unit)) → Option (D142 × Unit) := fun x =>
cond (x.1.1 == x.2.1.1) (
(g101 x).bind fun r1 =>
cond x.1.1 (
(g102 r1).bind fun r2 =>
some (((!r2.1), r1.1.2), ())) (
some ((false, r1.1.2), ()))) (
(g103 x).bind fun r3 =>
cond r3.1 (
(g104 (x.2.1, x.1, ())).bind fun r4 =>
cond x.2.1.1 (
(g102 r4).bind fun r5 =>
some (((!r5.1), r4.1.2), ())) (
some ((false, r4.1.2), ()))) (
(g104 x).bind fun r6 =>
cond x.1.1 (
(g102 r6).bind fun r7 =>
some (((!r7.1), r6.1.2), ())) (
some ((false, r6.1.2), ()))))

noncomputable def ps85 : List Ty := [t142, t142]
noncomputable def rs85 : List Ty := [t142]
noncomputable def ty85 : List (TypeId × Ty) := [(4, .bool), (143, t142)]
noncomputable def by85 : List (TypeId × Nat) := []
noncomputable def eq85 : List TypeId := []
noncomputable def E85 (g101 : (D142 × (D142 × Unit)) → Option (D142 × Unit)) (g102 : (D142 × Unit) → Option D159) (g103 : (D142 × (D142 × Unit)) → Option D159) (g104 : (D142 × (D142 × Unit)) → Option (D142 × Unit)) : Go.V.Env := { ty := ty85, bytes := by85, fn := [(101, { ps := [t142, t142], rs := [t142], f := g101 }), (102, { ps := [t142], rs := [.bool], f := g102 }), (103, { ps := [t142, t142], rs := [.bool], f := g103 }), (104, { ps := [t142, t142], rs := [t142], f := g104 })], eqs := eq85, inl := [] }
noncomputable def M85 (g101 : (D142 × (D142 × Unit)) → Option (D142 × Unit)) (g102 : (D142 × Unit) → Option D159) (g103 : (D142 × (D142 × Unit)) → Option D159) (g104 : (D142 × (D142 × Unit)) → Option (D142 × Unit)) : List (Nat × Go.V.Mark (Ty.prods rs85).den) := []
noncomputable def C85 (N : Nat) (g101 : (D142 × (D142 × Unit)) → Option (D142 × Unit)) (g102 : (D142 × Unit) → Option D159) (g103 : (D142 × (D142 × Unit)) → Option D159) (g104 : (D142 × (D142 × Unit)) → Option (D142 × Unit)) : Go.V.Ctx (Ty.prods rs85).den := { E := E85 g101 g102 g103 g104, n := Go.Proofs.Try.f85.ntmps, marks := M85 g101 g102 g103 g104, fin := Go.V.finish (E85 g101 g102 g103 g104) Go.Proofs.Try.f85 rs85, N }
noncomputable def c85 : Code := (Go.Proofs.Try.f85.body).getD .skip

theorem tab85 : tablesB Go.Proofs.Try.prog ty85 by85 eq85 = true := by kernel_rfl
theorem ob85 (N : Nat) (g101 : (D142 × (D142 × Unit)) → Option (D142 × Unit)) (g102 : (D142 × Unit) → Option D159) (g103 : (D142 × (D142 × Unit)) → Option D159) (g104 : (D142 × (D142 × Unit)) → Option (D142 × Unit)) : obls (C85 N g101 g102 g103 g104) 1 c85 = [] := by kernel_rfl
theorem eF85 (N : Nat) (g101 : (D142 × (D142 × Unit)) → Option (D142 × Unit)) (g102 : (D142 × Unit) → Option D159) (g103 : (D142 × (D142 × Unit)) → Option D159) (g104 : (D142 × (D142 × Unit)) → Option (D142 × Unit)) (x : (Ty.prods ps85).den) : Go.V.evBody (E85 g101 g102 g103 g104) Go.Proofs.Try.f85 rs85 (M85 g101 g102 g103 g104) N (Go.V.start Go.Proofs.Try.f85 ps85 x) = F85 N g101 g102 g103 g104 x := by kernel_rfl
theorem s85 (N : Nat) (g101 : (D142 × (D142 × Unit)) → Option (D142 × Unit)) (g102 : (D142 × Unit) → Option D159) (g103 : (D142 × (D142 × Unit)) → Option D159) (g104 : (D142 × (D142 × Unit)) → Option (D142 × Unit)) (h101 : Sound Go.Proofs.Try.prog 101 { ps := [t142, t142], rs := [t142], f := g101 }) (h102 : Sound Go.Proofs.Try.prog 102 { ps := [t142], rs := [.bool], f := g102 }) (h103 : Sound Go.Proofs.Try.prog 103 { ps := [t142, t142], rs := [.bool], f := g103 }) (h104 : Sound Go.Proofs.Try.prog 104 { ps := [t142, t142], rs := [t142], f := g104 }) : Sound Go.Proofs.Try.prog 85 { ps := ps85, rs := rs85, f := F85 N g101 g102 g103 g104 } := by
  have hE : EnvOk Go.Proofs.Try.prog (E85 g101 g102 g103 g104) := env_ok tab85 (by
    intro p hp
    simp only [List.mem_cons, List.not_mem_nil, or_false] at hp
    rcases hp with rfl | rfl | rfl | rfl
    · exact ⟨h101, Go.Proofs.Try.f101, Go.Proofs.Try.func101, by kernel_rfl, by kernel_rfl⟩
    · exact ⟨h102, Go.Proofs.Try.f102, Go.Proofs.Try.func102, by kernel_rfl, by kernel_rfl⟩
    · exact ⟨h103, Go.Proofs.Try.f103, Go.Proofs.Try.func103, by kernel_rfl, by kernel_rfl⟩
    · exact ⟨h104, Go.Proofs.Try.f104, Go.Proofs.Try.func104, by kernel_rfl, by kernel_rfl⟩) (by
    intro p hp
    cases hp)
  have h := fn_sound hE (by kernel_rfl) Go.Proofs.Try.func85 (show Go.Proofs.Try.f85.body = some c85 by kernel_rfl) ps85 rs85 (M85 g101 g102 g103 g104) N (by
    intro o ho
    have ho : o ∈ obls (C85 N g101 g102 g103 g104) 1 c85 := ho
    rw [ob85] at ho
    cases ho)
  have e : (fun x => Go.V.evBody (E85 g101 g102 g103 g104) Go.Proofs.Try.f85 rs85 (M85 g101 g102 g103 g104) N (Go.V.start Go.Proofs.Try.f85 ps85 x)) = F85 N g101 g102 g103 g104 := funext fun x => eF85 N g101 g102 g103 g104 x
  rw [e] at h
  exact h

end Go.Proofs.Ytkifmnocomadfaa
end

/- The reading of poundage poundageref01.Of. -/
section
set_option linter.unusedVariables false
set_option maxRecDepth 100000
namespace Go.Proofs.Ytkifmnocomadfaa
open Go.V

noncomputable def F86 (N : Nat) : (Int × Unit) → Option (D142 × Unit) := fun x =>
cond (decide (x.1 < (0 : Int))) (
let v1 := (IntKind.u64.wrap ((IntKind.u64.wrap (IntKind.i64.wrap (0 - (IntKind.i64.wrap (x.1 + (1 : Int)))))) + (1 : Int)))
some ((true, (0 : Int), v1, ()), ())) (
some ((false, (0 : Int), (IntKind.u64.wrap x.1), ()), ()))

noncomputable def ps86 : List Ty := [(.int .i64)]
noncomputable def rs86 : List Ty := [t142]
noncomputable def ty86 : List (TypeId × Ty) := [(3, (.int .i64)), (120, (.int .u64)), (143, t142)]
noncomputable def by86 : List (TypeId × Nat) := []
noncomputable def eq86 : List TypeId := []
noncomputable def E86 : Go.V.Env := { ty := ty86, bytes := by86, fn := [], eqs := eq86, inl := [] }
noncomputable def M86 : List (Nat × Go.V.Mark (Ty.prods rs86).den) := []
noncomputable def C86 (N : Nat) : Go.V.Ctx (Ty.prods rs86).den := { E := E86, n := Go.Proofs.Try.f86.ntmps, marks := M86, fin := Go.V.finish (E86) Go.Proofs.Try.f86 rs86, N }
noncomputable def c86 : Code := (Go.Proofs.Try.f86.body).getD .skip

theorem tab86 : tablesB Go.Proofs.Try.prog ty86 by86 eq86 = true := by kernel_rfl
theorem ob86 (N : Nat) : obls (C86 N) 1 c86 = [] := by kernel_rfl
theorem eF86 (N : Nat) (x : (Ty.prods ps86).den) : Go.V.evBody (E86) Go.Proofs.Try.f86 rs86 (M86) N (Go.V.start Go.Proofs.Try.f86 ps86 x) = F86 N x := by kernel_rfl
theorem s86 (N : Nat) : Sound Go.Proofs.Try.prog 86 { ps := ps86, rs := rs86, f := F86 N } := by
  have hE : EnvOk Go.Proofs.Try.prog (E86) := env_ok tab86 (by
    intro p hp
    cases hp) (by
    intro p hp
    cases hp)
  have h := fn_sound hE (by kernel_rfl) Go.Proofs.Try.func86 (show Go.Proofs.Try.f86.body = some c86 by kernel_rfl) ps86 rs86 (M86) N (by
    intro o ho
    have ho : o ∈ obls (C86 N) 1 c86 := ho
    rw [ob86] at ho
    cases ho)
  have e : (fun x => Go.V.evBody (E86) Go.Proofs.Try.f86 rs86 (M86) N (Go.V.start Go.Proofs.Try.f86 ps86 x)) = F86 N := funext fun x => eF86 N x
  rw [e] at h
  exact h

end Go.Proofs.Ytkifmnocomadfaa
end

/- The reading of poundage poundageref01.Mul. -/
section
set_option linter.unusedVariables false
set_option maxRecDepth 100000
namespace Go.Proofs.Ytkifmnocomadfaa
open Go.V

noncomputable def L109_0i : Shape := { items := [.ptr 4 0 0, .bx 0 0 t142, .ptr 5 1 0, .bx 1 0 t142, .ptr 6 2 0, .bx 2 0 t142, .ptr 11 3 0, .bx 3 0 t142, .tm 43 (.sl 120 (.int .u64)), .tm 44 (.int .i64), .tm 45 (.int .i64)], boxes := [143, 143, 143, 143] }
noncomputable def L109_0o : Shape := { items := [.ptr 4 0 0, .bx 0 0 t142, .ptr 5 1 0, .bx 1 0 t142, .ptr 6 2 0, .bx 2 0 t142, .ptr 11 3 0, .bx 3 0 t142], boxes := [143, 143, 143, 143] }
noncomputable def L109_0 (N : Nat) (g86 : (Int × Unit) → Option (D142 × Unit)) (g101 : (D142 × (D142 × Unit)) → Option (D142 × Unit)) (g102 : (D142 × Unit) → Option D159) : Nat → (Unit × (D142 × (Unit × (D142 × (Unit × (D142 × (Unit × (D142 × ((List Int) × D146))))))))) → ((Unit × (D142 × (Unit × (D142 × (Unit × (D142 × (Unit × (D142 × Unit)))))))) → Option (D142 × Unit)) → Option (D142 × Unit)
| 0, _, _ => none
| k + 1, x6, Kx =>
cond (decide (x6.2.2.2.2.2.2.2.2.2.2.1 < x6.2.2.2.2.2.2.2.2.2.1)) (
if 0 ≤ x6.2.2.2.2.2.2.2.2.2.2.1 then
if x6.2.2.2.2.2.2.2.2.2.2.1 < (x6.2.2.2.2.2.2.2.2.1.length : Int) then
let v7 := (rdAt (t := (.int .u64)) x6.2.2.2.2.2.2.2.2.1 x6.2.2.2.2.2.2.2.2.2.2.1)
if (32 : Int) < 0 then none else
if (32 : Int) < 0 then none else
let v8 := (v7.fdiv (2 ^ (min ((32 : Int)).toNat IntKind.u64.bits)))
let v9 := (IntKind.u64.wrap (v7 * 2 ^ (min ((32 : Int)).toNat IntKind.u64.bits)))
(g101 (x6.2.2.2.2.2.2.2.1, (false, v8, v9, ()), ())).bind fun r10 =>
L109_0 N g86 g101 g102 k ((), x6.2.1, (), x6.2.2.2.1, (), x6.2.2.2.2.2.1, (), r10.1, x6.2.2.2.2.2.2.2.2.1, x6.2.2.2.2.2.2.2.2.2.1, (IntKind.i64.wrap (x6.2.2.2.2.2.2.2.2.2.2.1 + (1 : Int))), ()) Kx
else none
else none) (
Kx ((), x6.2.1, (), x6.2.2.2.1, (), x6.2.2.2.2.2.1, (), x6.2.2.2.2.2.2.2.1, ()))

noncomputable def F109 (N : Nat) (g86 : (Int × Unit) → Option (D142 × Unit)) (g101 : (D142 × (D142 × Unit)) → Option (D142 × Unit)) (g102 : (D142 × Unit) → Option D159) : D146 → Option (D142 × Unit) := fun x =>
(g86 (x.1, ())).bind fun r1 =>
(g86 x.2).bind fun r2 =>
if (4294967296 : Int) = 0 then none else
if (32 : Int) < 0 then none else
let v3 := (r1.1.2.2.1.fdiv (2 ^ (min ((32 : Int)).toNat IntKind.u64.bits)))
if (4294967296 : Int) = 0 then none else
if (32 : Int) < 0 then none else
let v4 := (r2.1.2.2.1.fdiv (2 ^ (min ((32 : Int)).toNat IntKind.u64.bits)))
let v5 := (IntKind.u64.wrap ((r1.1.2.2.1.tmod (4294967296 : Int)) * (r2.1.2.2.1.tmod (4294967296 : Int))))
L109_0 N g86 g101 g102 N ((), (false, (0 : Int), (0 : Int), ()), (), r1.1, (), r2.1, (), (false, (IntKind.u64.wrap (v3 * v4)), v5, ()), [(IntKind.u64.wrap ((r1.1.2.2.1.tmod (4294967296 : Int)) * v4)), (IntKind.u64.wrap (v3 * (r2.1.2.2.1.tmod (4294967296 : Int))))], ([(IntKind.u64.wrap ((r1.1.2.2.1.tmod (4294967296 : Int)) * v4)), (IntKind.u64.wrap (v3 * (r2.1.2.2.1.tmod (4294967296 : Int))))].length : Int), (0 : Int), ()) fun y11 =>
cond (!(y11.2.2.2.1.1 == y11.2.2.2.2.2.1.1)) (
(g102 y11.2.2.2.2.2.2.2).bind fun r12 =>
some (((!r12.1), y11.2.2.2.2.2.2.2.1.2), ())) (
some ((false, y11.2.2.2.2.2.2.2.1.2), ()))

noncomputable def ps109 : List Ty := [(.int .i64), (.int .i64)]
noncomputable def rs109 : List Ty := [t142]
noncomputable def ty109 : List (TypeId × Ty) := [(3, (.int .i64)), (4, .bool), (120, (.int .u64)), (143, t142), (177, (.sl 120 (.int .u64)))]
noncomputable def by109 : List (TypeId × Nat) := []
noncomputable def eq109 : List TypeId := []
noncomputable def E109 (g86 : (Int × Unit) → Option (D142 × Unit)) (g101 : (D142 × (D142 × Unit)) → Option (D142 × Unit)) (g102 : (D142 × Unit) → Option D159) : Go.V.Env := { ty := ty109, bytes := by109, fn := [(86, { ps := [(.int .i64)], rs := [t142], f := g86 }), (101, { ps := [t142, t142], rs := [t142], f := g101 }), (102, { ps := [t142], rs := [.bool], f := g102 })], eqs := eq109, inl := [] }
noncomputable def M109 (g86 : (Int × Unit) → Option (D142 × Unit)) (g101 : (D142 × (D142 × Unit)) → Option (D142 × Unit)) (g102 : (D142 × Unit) → Option D159) : List (Nat × Go.V.Mark (Ty.prods rs109).den) := [(1012, { ins := L109_0i, outs := L109_0o, ex := some 0, f := fun N => L109_0 N g86 g101 g102 })]
noncomputable def C109 (N : Nat) (g86 : (Int × Unit) → Option (D142 × Unit)) (g101 : (D142 × (D142 × Unit)) → Option (D142 × Unit)) (g102 : (D142 × Unit) → Option D159) : Go.V.Ctx (Ty.prods rs109).den := { E := E109 g86 g101 g102, n := Go.Proofs.Try.f109.ntmps, marks := M109 g86 g101 g102, fin := Go.V.finish (E109 g86 g101 g102) Go.Proofs.Try.f109 rs109, N }
noncomputable def c109 : Code := (Go.Proofs.Try.f109.body).getD .skip

theorem tab109 : tablesB Go.Proofs.Try.prog ty109 by109 eq109 = true := by kernel_rfl
theorem oL109_0 (N : Nat) (g86 : (Int × Unit) → Option (D142 × Unit)) (g101 : (D142 × (D142 × Unit)) → Option (D142 × Unit)) (g102 : (D142 × Unit) → Option D159) : (Obl.loop { ins := L109_0i, outs := L109_0o, ex := some 0, f := fun N => L109_0 N g86 g101 g102 } 1012 (subc [true, true, true, true, true, false, true, false, false] c109) : Obl (Ty.prods rs109).den).holds (C109 N g86 g101 g102) := by
  intro x Kx
  exact ⟨by kernel_rfl, fun k => by kernel_rfl⟩
theorem ob109 (N : Nat) (g86 : (Int × Unit) → Option (D142 × Unit)) (g101 : (D142 × (D142 × Unit)) → Option (D142 × Unit)) (g102 : (D142 × Unit) → Option D159) : obls (C109 N g86 g101 g102) 1 c109 = [.loop { ins := L109_0i, outs := L109_0o, ex := some 0, f := fun N => L109_0 N g86 g101 g102 } 1012 (subc [true, true, true, true, true, false, true, false, false] c109)] := by kernel_rfl
theorem eF109 (N : Nat) (g86 : (Int × Unit) → Option (D142 × Unit)) (g101 : (D142 × (D142 × Unit)) → Option (D142 × Unit)) (g102 : (D142 × Unit) → Option D159) (x : (Ty.prods ps109).den) : Go.V.evBody (E109 g86 g101 g102) Go.Proofs.Try.f109 rs109 (M109 g86 g101 g102) N (Go.V.start Go.Proofs.Try.f109 ps109 x) = F109 N g86 g101 g102 x := by kernel_rfl
theorem s109 (N : Nat) (g86 : (Int × Unit) → Option (D142 × Unit)) (g101 : (D142 × (D142 × Unit)) → Option (D142 × Unit)) (g102 : (D142 × Unit) → Option D159) (h86 : Sound Go.Proofs.Try.prog 86 { ps := [(.int .i64)], rs := [t142], f := g86 }) (h101 : Sound Go.Proofs.Try.prog 101 { ps := [t142, t142], rs := [t142], f := g101 }) (h102 : Sound Go.Proofs.Try.prog 102 { ps := [t142], rs := [.bool], f := g102 }) : Sound Go.Proofs.Try.prog 109 { ps := ps109, rs := rs109, f := F109 N g86 g101 g102 } := by
  have hE : EnvOk Go.Proofs.Try.prog (E109 g86 g101 g102) := env_ok tab109 (by
    intro p hp
    simp only [List.mem_cons, List.not_mem_nil, or_false] at hp
    rcases hp with rfl | rfl | rfl
    · exact ⟨h86, Go.Proofs.Try.f86, Go.Proofs.Try.func86, by kernel_rfl, by kernel_rfl⟩
    · exact ⟨h101, Go.Proofs.Try.f101, Go.Proofs.Try.func101, by kernel_rfl, by kernel_rfl⟩
    · exact ⟨h102, Go.Proofs.Try.f102, Go.Proofs.Try.func102, by kernel_rfl, by kernel_rfl⟩) (by
    intro p hp
    cases hp)
  have h := fn_sound hE (by kernel_rfl) Go.Proofs.Try.func109 (show Go.Proofs.Try.f109.body = some c109 by kernel_rfl) ps109 rs109 (M109 g86 g101 g102) N (by
    intro o ho
    have ho : o ∈ obls (C109 N g86 g101 g102) 1 c109 := ho
    rw [ob109] at ho
    simp only [List.mem_cons, List.not_mem_nil, or_false] at ho
    rcases ho with rfl
    · exact oL109_0 N g86 g101 g102)
  have e : (fun x => Go.V.evBody (E109 g86 g101 g102) Go.Proofs.Try.f109 rs109 (M109 g86 g101 g102) N (Go.V.start Go.Proofs.Try.f109 ps109 x)) = F109 N g86 g101 g102 := funext fun x => eF109 N g86 g101 g102 x
  rw [e] at h
  exact h

end Go.Proofs.Ytkifmnocomadfaa
end

/- The reading of poundage poundageref01.Opposite. -/
section
set_option linter.unusedVariables false
set_option maxRecDepth 100000
namespace Go.Proofs.Ytkifmnocomadfaa
open Go.V

noncomputable def F111 (N : Nat) (g102 : (D142 × Unit) → Option D159) : (D142 × Unit) → Option (D142 × Unit) := fun x =>
(g102 x).bind fun r1 =>
cond r1.1 (
some x) (
some (((!x.1.1), x.1.2), ()))

noncomputable def ps111 : List Ty := [t142]
noncomputable def rs111 : List Ty := [t142]
noncomputable def ty111 : List (TypeId × Ty) := [(4, .bool), (120, (.int .u64)), (143, t142)]
noncomputable def by111 : List (TypeId × Nat) := []
noncomputable def eq111 : List TypeId := []
noncomputable def E111 (g102 : (D142 × Unit) → Option D159) : Go.V.Env := { ty := ty111, bytes := by111, fn := [(102, { ps := [t142], rs := [.bool], f := g102 })], eqs := eq111, inl := [] }
noncomputable def M111 (g102 : (D142 × Unit) → Option D159) : List (Nat × Go.V.Mark (Ty.prods rs111).den) := []
noncomputable def C111 (N : Nat) (g102 : (D142 × Unit) → Option D159) : Go.V.Ctx (Ty.prods rs111).den := { E := E111 g102, n := Go.Proofs.Try.f111.ntmps, marks := M111 g102, fin := Go.V.finish (E111 g102) Go.Proofs.Try.f111 rs111, N }
noncomputable def c111 : Code := (Go.Proofs.Try.f111.body).getD .skip

theorem tab111 : tablesB Go.Proofs.Try.prog ty111 by111 eq111 = true := by kernel_rfl
theorem ob111 (N : Nat) (g102 : (D142 × Unit) → Option D159) : obls (C111 N g102) 1 c111 = [] := by kernel_rfl
theorem eF111 (N : Nat) (g102 : (D142 × Unit) → Option D159) (x : (Ty.prods ps111).den) : Go.V.evBody (E111 g102) Go.Proofs.Try.f111 rs111 (M111 g102) N (Go.V.start Go.Proofs.Try.f111 ps111 x) = F111 N g102 x := by kernel_rfl
theorem s111 (N : Nat) (g102 : (D142 × Unit) → Option D159) (h102 : Sound Go.Proofs.Try.prog 102 { ps := [t142], rs := [.bool], f := g102 }) : Sound Go.Proofs.Try.prog 111 { ps := ps111, rs := rs111, f := F111 N g102 } := by
  have hE : EnvOk Go.Proofs.Try.prog (E111 g102) := env_ok tab111 (by
    intro p hp
    simp only [List.mem_cons, List.not_mem_nil, or_false] at hp
    rcases hp with rfl
    · exact ⟨h102, Go.Proofs.Try.f102, Go.Proofs.Try.func102, by kernel_rfl, by kernel_rfl⟩) (by
    intro p hp
    cases hp)
  have h := fn_sound hE (by kernel_rfl) Go.Proofs.Try.func111 (show Go.Proofs.Try.f111.body = some c111 by kernel_rfl) ps111 rs111 (M111 g102) N (by
    intro o ho
    have ho : o ∈ obls (C111 N g102) 1 c111 := ho
    rw [ob111] at ho
    cases ho)
  have e : (fun x => Go.V.evBody (E111 g102) Go.Proofs.Try.f111 rs111 (M111 g102) N (Go.V.start Go.Proofs.Try.f111 ps111 x)) = F111 N g102 := funext fun x => eF111 N g102 x
  rw [e] at h
  exact h

end Go.Proofs.Ytkifmnocomadfaa
end

/- The reading of poundage poundageref01.Less. -/
section
set_option linter.unusedVariables false
set_option maxRecDepth 100000
namespace Go.Proofs.Ytkifmnocomadfaa
open Go.V

noncomputable def F116 (N : Nat) (g85 : (D142 × (D142 × Unit)) → Option (D142 × Unit)) (g111 : (D142 × Unit) → Option (D142 × Unit)) : (D142 × (D142 × Unit)) → Option D159 := fun x =>
(g111 x.2).bind fun r1 =>
(g85 (x.1, r1)).bind fun r2 =>
some (r2.1.1, ())

noncomputable def ps116 : List Ty := [t142, t142]
noncomputable def rs116 : List Ty := [.bool]
noncomputable def ty116 : List (TypeId × Ty) := [(4, .bool), (143, t142)]
noncomputable def by116 : List (TypeId × Nat) := []
noncomputable def eq116 : List TypeId := []
noncomputable def E116 (g85 : (D142 × (D142 × Unit)) → Option (D142 × Unit)) (g111 : (D142 × Unit) → Option (D142 × Unit)) : Go.V.Env := { ty := ty116, bytes := by116, fn := [(85, { ps := [t142, t142], rs := [t142], f := g85 }), (111, { ps := [t142], rs := [t142], f := g111 })], eqs := eq116, inl := [] }
noncomputable def M116 (g85 : (D142 × (D142 × Unit)) → Option (D142 × Unit)) (g111 : (D142 × Unit) → Option (D142 × Unit)) : List (Nat × Go.V.Mark (Ty.prods rs116).den) := []
noncomputable def C116 (N : Nat) (g85 : (D142 × (D142 × Unit)) → Option (D142 × Unit)) (g111 : (D142 × Unit) → Option (D142 × Unit)) : Go.V.Ctx (Ty.prods rs116).den := { E := E116 g85 g111, n := Go.Proofs.Try.f116.ntmps, marks := M116 g85 g111, fin := Go.V.finish (E116 g85 g111) Go.Proofs.Try.f116 rs116, N }
noncomputable def c116 : Code := (Go.Proofs.Try.f116.body).getD .skip

theorem tab116 : tablesB Go.Proofs.Try.prog ty116 by116 eq116 = true := by kernel_rfl
theorem ob116 (N : Nat) (g85 : (D142 × (D142 × Unit)) → Option (D142 × Unit)) (g111 : (D142 × Unit) → Option (D142 × Unit)) : obls (C116 N g85 g111) 1 c116 = [] := by kernel_rfl
theorem eF116 (N : Nat) (g85 : (D142 × (D142 × Unit)) → Option (D142 × Unit)) (g111 : (D142 × Unit) → Option (D142 × Unit)) (x : (Ty.prods ps116).den) : Go.V.evBody (E116 g85 g111) Go.Proofs.Try.f116 rs116 (M116 g85 g111) N (Go.V.start Go.Proofs.Try.f116 ps116 x) = F116 N g85 g111 x := by kernel_rfl
theorem s116 (N : Nat) (g85 : (D142 × (D142 × Unit)) → Option (D142 × Unit)) (g111 : (D142 × Unit) → Option (D142 × Unit)) (h85 : Sound Go.Proofs.Try.prog 85 { ps := [t142, t142], rs := [t142], f := g85 }) (h111 : Sound Go.Proofs.Try.prog 111 { ps := [t142], rs := [t142], f := g111 }) : Sound Go.Proofs.Try.prog 116 { ps := ps116, rs := rs116, f := F116 N g85 g111 } := by
  have hE : EnvOk Go.Proofs.Try.prog (E116 g85 g111) := env_ok tab116 (by
    intro p hp
    simp only [List.mem_cons, List.not_mem_nil, or_false] at hp
    rcases hp with rfl | rfl
    · exact ⟨h85, Go.Proofs.Try.f85, Go.Proofs.Try.func85, by kernel_rfl, by kernel_rfl⟩
    · exact ⟨h111, Go.Proofs.Try.f111, Go.Proofs.Try.func111, by kernel_rfl, by kernel_rfl⟩) (by
    intro p hp
    cases hp)
  have h := fn_sound hE (by kernel_rfl) Go.Proofs.Try.func116 (show Go.Proofs.Try.f116.body = some c116 by kernel_rfl) ps116 rs116 (M116 g85 g111) N (by
    intro o ho
    have ho : o ∈ obls (C116 N g85 g111) 1 c116 := ho
    rw [ob116] at ho
    cases ho)
  have e : (fun x => Go.V.evBody (E116 g85 g111) Go.Proofs.Try.f116 rs116 (M116 g85 g111) N (Go.V.start Go.Proofs.Try.f116 ps116 x)) = F116 N g85 g111 := funext fun x => eF116 N g85 g111 x
  rw [e] at h
  exact h

end Go.Proofs.Ytkifmnocomadfaa
end

/- The reading of poundage poundageref02.under. -/
section
set_option linter.unusedVariables false
set_option maxRecDepth 100000
namespace Go.Proofs.Ytkifmnocomadfaa
open Go.V

noncomputable def F114 (N : Nat) (g109 : D146 → Option (D142 × Unit)) (g116 : (D142 × (D142 × Unit)) → Option D159) : (Int × (Int × (D142 × Unit))) → Option D159 := fun x =>
(g109 (x.1, x.2.1, ())).bind fun r1 =>
(g116 (x.2.2.1, r1)).bind fun r2 =>
some ((!r2.1), ())

noncomputable def ps114 : List Ty := [(.int .i64), (.int .i64), t142]
noncomputable def rs114 : List Ty := [.bool]
noncomputable def ty114 : List (TypeId × Ty) := [(143, t142)]
noncomputable def by114 : List (TypeId × Nat) := []
noncomputable def eq114 : List TypeId := []
noncomputable def E114 (g109 : D146 → Option (D142 × Unit)) (g116 : (D142 × (D142 × Unit)) → Option D159) : Go.V.Env := { ty := ty114, bytes := by114, fn := [(109, { ps := [(.int .i64), (.int .i64)], rs := [t142], f := g109 }), (116, { ps := [t142, t142], rs := [.bool], f := g116 })], eqs := eq114, inl := [] }
noncomputable def M114 (g109 : D146 → Option (D142 × Unit)) (g116 : (D142 × (D142 × Unit)) → Option D159) : List (Nat × Go.V.Mark (Ty.prods rs114).den) := []
noncomputable def C114 (N : Nat) (g109 : D146 → Option (D142 × Unit)) (g116 : (D142 × (D142 × Unit)) → Option D159) : Go.V.Ctx (Ty.prods rs114).den := { E := E114 g109 g116, n := Go.Proofs.Try.f114.ntmps, marks := M114 g109 g116, fin := Go.V.finish (E114 g109 g116) Go.Proofs.Try.f114 rs114, N }
noncomputable def c114 : Code := (Go.Proofs.Try.f114.body).getD .skip

theorem tab114 : tablesB Go.Proofs.Try.prog ty114 by114 eq114 = true := by kernel_rfl
theorem ob114 (N : Nat) (g109 : D146 → Option (D142 × Unit)) (g116 : (D142 × (D142 × Unit)) → Option D159) : obls (C114 N g109 g116) 1 c114 = [] := by kernel_rfl
theorem eF114 (N : Nat) (g109 : D146 → Option (D142 × Unit)) (g116 : (D142 × (D142 × Unit)) → Option D159) (x : (Ty.prods ps114).den) : Go.V.evBody (E114 g109 g116) Go.Proofs.Try.f114 rs114 (M114 g109 g116) N (Go.V.start Go.Proofs.Try.f114 ps114 x) = F114 N g109 g116 x := by kernel_rfl
theorem s114 (N : Nat) (g109 : D146 → Option (D142 × Unit)) (g116 : (D142 × (D142 × Unit)) → Option D159) (h109 : Sound Go.Proofs.Try.prog 109 { ps := [(.int .i64), (.int .i64)], rs := [t142], f := g109 }) (h116 : Sound Go.Proofs.Try.prog 116 { ps := [t142, t142], rs := [.bool], f := g116 }) : Sound Go.Proofs.Try.prog 114 { ps := ps114, rs := rs114, f := F114 N g109 g116 } := by
  have hE : EnvOk Go.Proofs.Try.prog (E114 g109 g116) := env_ok tab114 (by
    intro p hp
    simp only [List.mem_cons, List.not_mem_nil, or_false] at hp
    rcases hp with rfl | rfl
    · exact ⟨h109, Go.Proofs.Try.f109, Go.Proofs.Try.func109, by kernel_rfl, by kernel_rfl⟩
    · exact ⟨h116, Go.Proofs.Try.f116, Go.Proofs.Try.func116, by kernel_rfl, by kernel_rfl⟩) (by
    intro p hp
    cases hp)
  have h := fn_sound hE (by kernel_rfl) Go.Proofs.Try.func114 (show Go.Proofs.Try.f114.body = some c114 by kernel_rfl) ps114 rs114 (M114 g109 g116) N (by
    intro o ho
    have ho : o ∈ obls (C114 N g109 g116) 1 c114 := ho
    rw [ob114] at ho
    cases ho)
  have e : (fun x => Go.V.evBody (E114 g109 g116) Go.Proofs.Try.f114 rs114 (M114 g109 g116) N (Go.V.start Go.Proofs.Try.f114 ps114 x)) = F114 N g109 g116 := funext fun x => eF114 N g109 g116 x
  rw [e] at h
  exact h

end Go.Proofs.Ytkifmnocomadfaa
end
