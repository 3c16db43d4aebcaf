/- The reading of poundage curve.Of. -/
import Derived.Test.YtkifmnocomadfaaGTy
import Derived.Test.YtkifmnocomadfaaGTx
section
set_option linter.unusedVariables false
set_option maxRecDepth 100000
namespace Go.Proofs.Ytkifmnocomadfaa
open Go.V

noncomputable def L16_0i : Shape := { items := [.ptr 2 1 0, .bx 1 0 (.int .i64), .tm 7 (.sl 88 t87), .ptr 8 2 0, .bx 2 0 (.int .i64), .ownB 1 1 78 t77, .ownB 2 1 78 t77], boxes := [49, 53, 53] }
noncomputable def L16_0o : Shape := { items := [.ptr 2 1 0, .bx 1 0 (.int .i64), .ptr 8 2 0, .bx 2 0 (.int .i64), .ownB 1 1 78 t77, .ownB 2 1 78 t77], boxes := [49, 53, 53] }
noncomputable def L16_0 (N : Nat) (g40 : (D48 × Unit) → Option (Int × (Int × D159))) (g41 : (((List D87) × Unit) × Unit) → Option D48) (g42 : (D48 × Unit) → Option (((List D87) × Unit) × Unit)) (g43 : ((List D87) × (Unit × Unit)) → Option D159) (g45 : D48 → Option (D77 × (Int × Unit))) : Nat → (Unit × (Int × ((List D87) × (Unit × (Int × ((List D77) × ((List D77) × Unit))))))) → ((Unit × (Int × (Unit × (Int × ((List D77) × ((List D77) × Unit)))))) → Option (D52 × D159)) → Option (D52 × D159)
| 0, _, _ => none
| k + 1, x5, Kx =>
cond (decide ((x5.2.2.1.length : Int) > (0 : Int))) (
(g45 (x5.2.2.1, ())).bind fun r6 =>
if x5.2.2.2.2.2.2.1.length + 1 ≤ 3518437208883 then
if 0 ≤ r6.2.1 then
if r6.2.1 ≤ (x5.2.2.1.length : Int) then
if (x5.2.2.1.length : Int) ≤ (x5.2.2.1.length : Int) then
let v7 := ((x5.2.2.1.take ((x5.2.2.1.length : Int)).toNat).drop (r6.2.1).toNat)
L16_0 N g40 g41 g42 g43 g45 k ((), x5.2.1, v7, (), x5.2.2.2.2.1, x5.2.2.2.2.2.1, (x5.2.2.2.2.2.2.1 ++ [r6.1]), ()) Kx
else none
else none
else none
else none) (
Kx ((), x5.2.1, (), x5.2.2.2.2.1, x5.2.2.2.2.2.1, x5.2.2.2.2.2.2.1, ()))

noncomputable def F16 (N : Nat) (g40 : (D48 × Unit) → Option (Int × (Int × D159))) (g41 : (((List D87) × Unit) × Unit) → Option D48) (g42 : (D48 × Unit) → Option (((List D87) × Unit) × Unit)) (g43 : ((List D87) × (Unit × Unit)) → Option D159) (g45 : D48 → Option (D77 × (Int × Unit))) : (D48 × Unit) → Option (D52 × D159) := fun x =>
(g40 x).bind fun r1 =>
cond (!r1.2.2.1) (
some (((0 : Int), [], ()), false, ())) (
cond (r1.1 != (0 : Int)) (
some (((0 : Int), [], ()), false, ())) (
cond (decide (r1.2.1 > (2000 : Int))) (
some (((0 : Int), [], ()), false, ())) (
(g42 x).bind fun r2 =>
(g41 r2).bind fun r3 =>
(g43 (r3.1, (), ())).bind fun r4 =>
cond r4.1 (
some (((0 : Int), [], ()), false, ())) (
L16_0 N g40 g41 g42 g43 g45 N ((), (0 : Int), r3.1, (), r1.2.1, [], [], ()) fun y8 =>
some ((y8.2.2.2.1, y8.2.2.2.2.2), true, ())))))

noncomputable def ps16 : List Ty := [t48]
noncomputable def rs16 : List Ty := [t52, .bool]
noncomputable def ty16 : List (TypeId × Ty) := [(3, (.int .i64)), (47, (.sl 88 t87)), (49, t48), (51, (.sl 78 t77)), (53, t52), (78, t77), (88, t87)]
noncomputable def by16 : List (TypeId × Nat) := [(78, 40)]
noncomputable def eq16 : List TypeId := []
noncomputable def E16 (g40 : (D48 × Unit) → Option (Int × (Int × D159))) (g41 : (((List D87) × Unit) × Unit) → Option D48) (g42 : (D48 × Unit) → Option (((List D87) × Unit) × Unit)) (g43 : ((List D87) × (Unit × Unit)) → Option D159) (g45 : D48 → Option (D77 × (Int × Unit))) : Go.V.Env := { ty := ty16, bytes := by16, fn := [(40, { ps := [t48], rs := [(.int .i64), (.int .i64), .bool], f := g40 }), (41, { ps := [(.clo 87 (.pair (.ref (.sl 88 t87)) .unit))], rs := [(.sl 88 t87)], f := g41 }), (42, { ps := [t48], rs := [(.clo 87 (.pair (.ref (.sl 88 t87)) .unit))], f := g42 }), (43, { ps := [(.sl 88 t87), (.clo 44 .unit)], rs := [.bool], f := g43 }), (45, { ps := [(.sl 88 t87)], rs := [t77, (.int .i64)], f := g45 })], eqs := eq16, inl := [] }
noncomputable def M16 (g40 : (D48 × Unit) → Option (Int × (Int × D159))) (g41 : (((List D87) × Unit) × Unit) → Option D48) (g42 : (D48 × Unit) → Option (((List D87) × Unit) × Unit)) (g43 : ((List D87) × (Unit × Unit)) → Option D159) (g45 : D48 → Option (D77 × (Int × Unit))) : List (Nat × Go.V.Mark (Ty.prods rs16).den) := [(1016, { ins := L16_0i, outs := L16_0o, ex := some 0, f := fun N => L16_0 N g40 g41 g42 g43 g45 })]
noncomputable def C16 (N : Nat) (g40 : (D48 × Unit) → Option (Int × (Int × D159))) (g41 : (((List D87) × Unit) × Unit) → Option D48) (g42 : (D48 × Unit) → Option (((List D87) × Unit) × Unit)) (g43 : ((List D87) × (Unit × Unit)) → Option D159) (g45 : D48 → Option (D77 × (Int × Unit))) : Go.V.Ctx (Ty.prods rs16).den := { E := E16 g40 g41 g42 g43 g45, n := Go.Proofs.Try.f16.ntmps, marks := M16 g40 g41 g42 g43 g45, fin := Go.V.finish (E16 g40 g41 g42 g43 g45) Go.Proofs.Try.f16 rs16, N }
noncomputable def c16 : Code := (Go.Proofs.Try.f16.body).getD .skip

theorem tab16 : tablesB Go.Proofs.Try.prog ty16 by16 eq16 = true := by kernel_rfl
theorem oL16_0 (N : Nat) (g40 : (D48 × Unit) → Option (Int × (Int × D159))) (g41 : (((List D87) × Unit) × Unit) → Option D48) (g42 : (D48 × Unit) → Option (((List D87) × Unit) × Unit)) (g43 : ((List D87) × (Unit × Unit)) → Option D159) (g45 : D48 → Option (D77 × (Int × Unit))) : (Obl.loop { ins := L16_0i, outs := L16_0o, ex := some 0, f := fun N => L16_0 N g40 g41 g42 g43 g45 } 1016 (subc [true, true, true, true, true, true, false, false, false] c16) : Obl (Ty.prods rs16).den).holds (C16 N g40 g41 g42 g43 g45) := by
  intro x Kx
  exact ⟨by kernel_rfl, fun k => by kernel_rfl⟩
theorem ob16 (N : Nat) (g40 : (D48 × Unit) → Option (Int × (Int × D159))) (g41 : (((List D87) × Unit) × Unit) → Option D48) (g42 : (D48 × Unit) → Option (((List D87) × Unit) × Unit)) (g43 : ((List D87) × (Unit × Unit)) → Option D159) (g45 : D48 → Option (D77 × (Int × Unit))) : obls (C16 N g40 g41 g42 g43 g45) 1 c16 = [.loop { ins := L16_0i, outs := L16_0o, ex := some 0, f := fun N => L16_0 N g40 g41 g42 g43 g45 } 1016 (subc [true, true, true, true, true, true, false, false, false] c16)] := by kernel_rfl
theorem eF16 (N : Nat) (g40 : (D48 × Unit) → Option (Int × (Int × D159))) (g41 : (((List D87) × Unit) × Unit) → Option D48) (g42 : (D48 × Unit) → Option (((List D87) × Unit) × Unit)) (g43 : ((List D87) × (Unit × Unit)) → Option D159) (g45 : D48 → Option (D77 × (Int × Unit))) (x : (Ty.prods ps16).den) : Go.V.evBody (E16 g40 g41 g42 g43 g45) Go.Proofs.Try.f16 rs16 (M16 g40 g41 g42 g43 g45) N (Go.V.start Go.Proofs.Try.f16 ps16 x) = F16 N g40 g41 g42 g43 g45 x := by kernel_rfl
theorem s16 (N : Nat) (g40 : (D48 × Unit) → Option (Int × (Int × D159))) (g41 : (((List D87) × Unit) × Unit) → Option D48) (g42 : (D48 × Unit) → Option (((List D87) × Unit) × Unit)) (g43 : ((List D87) × (Unit × Unit)) → Option D159) (g45 : D48 → Option (D77 × (Int × Unit))) (h40 : Sound Go.Proofs.Try.prog 40 { ps := [t48], rs := [(.int .i64), (.int .i64), .bool], f := g40 }) (h41 : Sound Go.Proofs.Try.prog 41 { ps := [(.clo 87 (.pair (.ref (.sl 88 t87)) .unit))], rs := [(.sl 88 t87)], f := g41 }) (h42 : Sound Go.Proofs.Try.prog 42 { ps := [t48], rs := [(.clo 87 (.pair (.ref (.sl 88 t87)) .unit))], f := g42 }) (h43 : Sound Go.Proofs.Try.prog 43 { ps := [(.sl 88 t87), (.clo 44 .unit)], rs := [.bool], f := g43 }) (h45 : Sound Go.Proofs.Try.prog 45 { ps := [(.sl 88 t87)], rs := [t77, (.int .i64)], f := g45 }) : Sound Go.Proofs.Try.prog 16 { ps := ps16, rs := rs16, f := F16 N g40 g41 g42 g43 g45 } := by
  have hE : EnvOk Go.Proofs.Try.prog (E16 g40 g41 g42 g43 g45) := env_ok tab16 (by
    intro p hp
    simp only [List.mem_cons, List.not_mem_nil, or_false] at hp
    rcases hp with rfl | rfl | rfl | rfl | rfl
    · exact ⟨h40, Go.Proofs.Try.f40, Go.Proofs.Try.func40, by kernel_rfl, by kernel_rfl⟩
    · exact ⟨h41, Go.Proofs.Try.f41, Go.Proofs.Try.func41, by kernel_rfl, by kernel_rfl⟩
    · exact ⟨h42, Go.Proofs.Try.f42, Go.Proofs.Try.func42, by kernel_rfl, by kernel_rfl⟩
    · exact ⟨h43, Go.Proofs.Try.f43, Go.Proofs.Try.func43, by kernel_rfl, by kernel_rfl⟩
    · exact ⟨h45, Go.Proofs.Try.f45, Go.Proofs.Try.func45, by kernel_rfl, by kernel_rfl⟩) (by
    intro p hp
    cases hp)
  have h := fn_sound hE (by kernel_rfl) Go.Proofs.Try.func16 (show Go.Proofs.Try.f16.body = some c16 by kernel_rfl) ps16 rs16 (M16 g40 g41 g42 g43 g45) N (by
    intro o ho
    have ho : o ∈ obls (C16 N g40 g41 g42 g43 g45) 1 c16 := ho
    rw [ob16] at ho
    simp only [List.mem_cons, List.not_mem_nil, or_false] at ho
    rcases ho with rfl
    · exact oL16_0 N g40 g41 g42 g43 g45)
  have e : (fun x => Go.V.evBody (E16 g40 g41 g42 g43 g45) Go.Proofs.Try.f16 rs16 (M16 g40 g41 g42 g43 g45) N (Go.V.start Go.Proofs.Try.f16 ps16 x)) = F16 N g40 g41 g42 g43 g45 := funext fun x => eF16 N g40 g41 g42 g43 g45 x
  rw [e] at h
  exact h

end Go.Proofs.Ytkifmnocomadfaa
end

/- The reading of poundage line.Flat int . -/
section
set_option linter.unusedVariables false
set_option maxRecDepth 100000
namespace Go.Proofs.Ytkifmnocomadfaa
open Go.V

noncomputable def F91 (N : Nat) : D87 → Option (D48 × Unit) := fun x =>
cond (decide (x.2.1 < x.1)) (
some (([], ()), ())) (
some (([x], ()), ()))

noncomputable def ps91 : List Ty := [(.int .i64), (.int .i64), (.int .i64)]
noncomputable def rs91 : List Ty := [t48]
noncomputable def ty91 : List (TypeId × Ty) := [(3, (.int .i64)), (47, (.sl 88 t87)), (49, t48), (88, t87)]
noncomputable def by91 : List (TypeId × Nat) := []
noncomputable def eq91 : List TypeId := []
noncomputable def E91 : Go.V.Env := { ty := ty91, bytes := by91, fn := [], eqs := eq91, inl := [] }
noncomputable def M91 : List (Nat × Go.V.Mark (Ty.prods rs91).den) := []
noncomputable def C91 (N : Nat) : Go.V.Ctx (Ty.prods rs91).den := { E := E91, n := Go.Proofs.Try.f91.ntmps, marks := M91, fin := Go.V.finish (E91) Go.Proofs.Try.f91 rs91, N }
noncomputable def c91 : Code := (Go.Proofs.Try.f91.body).getD .skip

theorem tab91 : tablesB Go.Proofs.Try.prog ty91 by91 eq91 = true := by kernel_rfl
theorem ob91 (N : Nat) : obls (C91 N) 1 c91 = [] := by kernel_rfl
theorem eF91 (N : Nat) (x : (Ty.prods ps91).den) : Go.V.evBody (E91) Go.Proofs.Try.f91 rs91 (M91) N (Go.V.start Go.Proofs.Try.f91 ps91 x) = F91 N x := by kernel_rfl
theorem s91 (N : Nat) : Sound Go.Proofs.Try.prog 91 { ps := ps91, rs := rs91, f := F91 N } := by
  have hE : EnvOk Go.Proofs.Try.prog (E91) := env_ok tab91 (by
    intro p hp
    cases hp) (by
    intro p hp
    cases hp)
  have h := fn_sound hE (by kernel_rfl) Go.Proofs.Try.func91 (show Go.Proofs.Try.f91.body = some c91 by kernel_rfl) ps91 rs91 (M91) N (by
    intro o ho
    have ho : o ∈ obls (C91 N) 1 c91 := ho
    rw [ob91] at ho
    cases ho)
  have e : (fun x => Go.V.evBody (E91) Go.Proofs.Try.f91 rs91 (M91) N (Go.V.start Go.Proofs.Try.f91 ps91 x)) = F91 N := funext fun x => eF91 N x
  rw [e] at h
  exact h

end Go.Proofs.Ytkifmnocomadfaa
end

/- The reading of poundage algebra.Flat. -/
section
set_option linter.unusedVariables false
set_option maxRecDepth 100000
namespace Go.Proofs.Ytkifmnocomadfaa
open Go.V

noncomputable def F77 (N : Nat) (g16 : (D48 × Unit) → Option (D52 × D159)) (g91 : D87 → Option (D48 × Unit)) : D146 → Option (D52 × D159) := fun x =>
(g91 ((0 : Int), x)).bind fun r1 =>
(g16 r1).bind fun r2 =>
some r2

noncomputable def ps77 : List Ty := [(.int .i64), (.int .i64)]
noncomputable def rs77 : List Ty := [t52, .bool]
noncomputable def ty77 : List (TypeId × Ty) := [(53, t52)]
noncomputable def by77 : List (TypeId × Nat) := []
noncomputable def eq77 : List TypeId := []
noncomputable def E77 (g16 : (D48 × Unit) → Option (D52 × D159)) (g91 : D87 → Option (D48 × Unit)) : Go.V.Env := { ty := ty77, bytes := by77, fn := [(16, { ps := [t48], rs := [t52, .bool], f := g16 }), (91, { ps := [(.int .i64), (.int .i64), (.int .i64)], rs := [t48], f := g91 })], eqs := eq77, inl := [] }
noncomputable def M77 (g16 : (D48 × Unit) → Option (D52 × D159)) (g91 : D87 → Option (D48 × Unit)) : List (Nat × Go.V.Mark (Ty.prods rs77).den) := []
noncomputable def C77 (N : Nat) (g16 : (D48 × Unit) → Option (D52 × D159)) (g91 : D87 → Option (D48 × Unit)) : Go.V.Ctx (Ty.prods rs77).den := { E := E77 g16 g91, n := Go.Proofs.Try.f77.ntmps, marks := M77 g16 g91, fin := Go.V.finish (E77 g16 g91) Go.Proofs.Try.f77 rs77, N }
noncomputable def c77 : Code := (Go.Proofs.Try.f77.body).getD .skip

theorem tab77 : tablesB Go.Proofs.Try.prog ty77 by77 eq77 = true := by kernel_rfl
theorem ob77 (N : Nat) (g16 : (D48 × Unit) → Option (D52 × D159)) (g91 : D87 → Option (D48 × Unit)) : obls (C77 N g16 g91) 1 c77 = [] := by kernel_rfl
theorem eF77 (N : Nat) (g16 : (D48 × Unit) → Option (D52 × D159)) (g91 : D87 → Option (D48 × Unit)) (x : (Ty.prods ps77).den) : Go.V.evBody (E77 g16 g91) Go.Proofs.Try.f77 rs77 (M77 g16 g91) N (Go.V.start Go.Proofs.Try.f77 ps77 x) = F77 N g16 g91 x := by kernel_rfl
theorem s77 (N : Nat) (g16 : (D48 × Unit) → Option (D52 × D159)) (g91 : D87 → Option (D48 × Unit)) (h16 : Sound Go.Proofs.Try.prog 16 { ps := [t48], rs := [t52, .bool], f := g16 }) (h91 : Sound Go.Proofs.Try.prog 91 { ps := [(.int .i64), (.int .i64), (.int .i64)], rs := [t48], f := g91 }) : Sound Go.Proofs.Try.prog 77 { ps := ps77, rs := rs77, f := F77 N g16 g91 } := by
  have hE : EnvOk Go.Proofs.Try.prog (E77 g16 g91) := env_ok tab77 (by
    intro p hp
    simp only [List.mem_cons, List.not_mem_nil, or_false] at hp
    rcases hp with rfl | rfl
    · exact ⟨h16, Go.Proofs.Try.f16, Go.Proofs.Try.func16, by kernel_rfl, by kernel_rfl⟩
    · exact ⟨h91, Go.Proofs.Try.f91, Go.Proofs.Try.func91, by kernel_rfl, by kernel_rfl⟩) (by
    intro p hp
    cases hp)
  have h := fn_sound hE (by kernel_rfl) Go.Proofs.Try.func77 (show Go.Proofs.Try.f77.body = some c77 by kernel_rfl) ps77 rs77 (M77 g16 g91) N (by
    intro o ho
    have ho : o ∈ obls (C77 N g16 g91) 1 c77 := ho
    rw [ob77] at ho
    cases ho)
  have e : (fun x => Go.V.evBody (E77 g16 g91) Go.Proofs.Try.f77 rs77 (M77 g16 g91) N (Go.V.start Go.Proofs.Try.f77 ps77 x)) = F77 N g16 g91 := funext fun x => eF77 N g16 g91 x
  rw [e] at h
  exact h

end Go.Proofs.Ytkifmnocomadfaa
end

/- The deep reading of poundage pair.widen 1. -/
section
set_option linter.unusedVariables false
set_option maxRecDepth 100000
namespace Go.Proofs.Ytkifmnocomadfaa
open Go.V

noncomputable def F79 (N : Nat) : (D67 × (D67 × Unit)) → Option D159 := fun x =>
some ((x.1.1.toList == x.2.1.1.toList), ())

noncomputable def ps79 : List Ty := [t67, (.ref t67)]
noncomputable def rs79 : List Ty := [.bool]
noncomputable def ty79 : List (TypeId × Ty) := [(9, .str), (68, t67)]
noncomputable def by79 : List (TypeId × Nat) := []
noncomputable def eq79 : List TypeId := []
noncomputable def E79 : Go.V.Env := { ty := ty79, bytes := by79, fn := [], eqs := eq79, inl := [] }
noncomputable def M79 : List (Pos × Go.V.XMark (Ty.prods rs79).den) := []
noncomputable def c79 : Code := (Go.Proofs.Try.f79.body).getD .skip
noncomputable def C79 (N : Nat) : Go.V.XCtx (Ty.prods rs79).den := { E := E79, cut := [], grow := [], marks := M79, bars := [], fin := Go.V.finish (E79) Go.Proofs.Try.f79 rs79, N, D := 0, root := c79 }

theorem tab79 : tablesB Go.Proofs.Try.prog ty79 by79 eq79 = true := by kernel_rfl
theorem eF79 (N : Nat) (x : (Ty.prods ps79).den) : Go.V.evRoot (C79 N) Go.Proofs.Try.f79 (Go.V.start Go.Proofs.Try.f79 ps79 x) = F79 N x := by kernel_rfl
theorem s79 (N : Nat) : Sound Go.Proofs.Try.prog 79 { ps := ps79, rs := rs79, f := F79 N } := by
  have hE : EnvOk Go.Proofs.Try.prog (E79) := env_ok tab79 (by
    intro p hp
    cases hp) (by
    intro p hp
    cases hp)
  have h := fnX_sound (C := C79 N) (by kernel_rfl) Go.Proofs.Try.func79 (show Go.Proofs.Try.f79.body = some c79 by kernel_rfl) ps79 rs79 rfl rfl hE (by
    intro f t h
    cases h) (by
    intro e he
    cases he)
  have e : (fun x => Go.V.evRoot (C79 N) Go.Proofs.Try.f79 (Go.V.start Go.Proofs.Try.f79 ps79 x)) = F79 N := funext fun x => eF79 N x
  rw [e] at h
  exact h

end Go.Proofs.Ytkifmnocomadfaa
end

/- The deep reading of slices.IndexFunc   poundage api.Meter poundage api.Meter . -/
section
set_option linter.unusedVariables false
set_option maxRecDepth 100000
namespace Go.Proofs.Ytkifmnocomadfaa
open Go.V

noncomputable def L78c_0i : XShape := { items := [.tm 0 (.sl 68 t67), .tm 1 (.clo 79 (.pair (.ref t67) .unit)), .tm 7 (.int .i64), .tm 8 (.int .i64)], boxes := [], n := 19, all := 19 }
noncomputable def L78c_0o : XShape := { items := [], boxes := [], n := 19, all := 19 }
noncomputable def L78c_0r : XShape := { items := [], boxes := [], n := 0, all := 0 }
noncomputable def L78c_0 (N : Nat) (g79 : (D67 × (D67 × Unit)) → Option D159) : Nat → ((List D67) × ((D67 × Unit) × D146)) → (Unit → Option (Int × Unit)) → (Unit → Option (Int × Unit)) → Option (Int × Unit)
| 0, _, _, _ => none
| k + 1, x1, Kx, Rx =>
cond (decide (x1.2.2.2.1 < x1.2.2.1)) (
if 0 ≤ x1.2.2.2.1 then
if x1.2.2.2.1 < (x1.1.length : Int) then
let e2 : D67 := rdAt (t := t67) x1.1 x1.2.2.2.1
(g79 (e2, x1.2.1.1, ())).bind fun r3 =>
cond r3.1 (
some x1.2.2.2) (
L78c_0 N g79 k (x1.1, x1.2.1, x1.2.2.1, (IntKind.i64.wrap (x1.2.2.2.1 + (1 : Int))), ()) Kx Rx)
else none
else none) (
Kx ())

noncomputable def F78c (N : Nat) (g79 : (D67 × (D67 × Unit)) → Option D159) : ((List D67) × ((D67 × Unit) × Unit)) → Option (Int × Unit) := fun x =>
L78c_0 N g79 N (x.1, x.2.1, (x.1.length : Int), (0 : Int), ()) (fun y4 =>
some ((-1 : Int), ())) (fun _ => none)

noncomputable def ps78c : List Ty := [(.sl 68 t67), (.clo 79 (.pair (.ref t67) .unit))]
noncomputable def rs78c : List Ty := [(.int .i64)]
noncomputable def ty78c : List (TypeId × Ty) := [(3, (.int .i64)), (22, (.sl 68 t67)), (68, t67)]
noncomputable def by78c : List (TypeId × Nat) := []
noncomputable def eq78c : List TypeId := []
noncomputable def E78c (g79 : (D67 × (D67 × Unit)) → Option D159) : Go.V.Env := { ty := ty78c, bytes := by78c, fn := [(79, { ps := [t67, (.ref t67)], rs := [.bool], f := g79 })], eqs := eq78c, inl := [] }
noncomputable def mL78c_0 (g79 : (D67 × (D67 × Unit)) → Option D159) : Pos × Go.V.XMark (Ty.prods rs78c).den := ((52, []), { ins := L78c_0i, outs := L78c_0o, rets := L78c_0r, ex := some 0, top := true, rt := false, f := fun N => L78c_0 N g79 })
noncomputable def M78c (g79 : (D67 × (D67 × Unit)) → Option D159) : List (Pos × Go.V.XMark (Ty.prods rs78c).den) := [mL78c_0 g79]
noncomputable def c78c : Code := (Go.Proofs.Try.f78.body).getD .skip
noncomputable def C78c (N : Nat) (g79 : (D67 × (D67 × Unit)) → Option D159) : Go.V.XCtx (Ty.prods rs78c).den := { E := E78c g79, cut := [], grow := [], marks := M78c g79, bars := [], fin := Go.V.finish (E78c g79) Go.Proofs.Try.f78 rs78c, N, D := 0, root := c78c }

theorem tab78c : tablesB Go.Proofs.Try.prog ty78c by78c eq78c = true := by kernel_rfl
theorem oL78c_0 (N : Nat) (g79 : (D67 × (D67 × Unit)) → Option D159) : ObX (C78c N g79) (mL78c_0 g79) := by
  refine obX_loop ⟨fun _ => rfl, fun _ => rfl⟩ [true, false, true, false, false] c78c (by kernel_rfl) (by kernel_rfl) (by kernel_rfl) ?_
  intro x Kx Rx
  exact ⟨by kernel_rfl, fun k => by kernel_rfl⟩
theorem eF78c (N : Nat) (g79 : (D67 × (D67 × Unit)) → Option D159) (x : (Ty.prods ps78c).den) : Go.V.evRoot (C78c N g79) Go.Proofs.Try.f78 (Go.V.start Go.Proofs.Try.f78 ps78c x) = F78c N g79 x := by kernel_rfl
theorem s78c (N : Nat) (g79 : (D67 × (D67 × Unit)) → Option D159) (h79 : Sound Go.Proofs.Try.prog 79 { ps := [t67, (.ref t67)], rs := [.bool], f := g79 }) : Sound Go.Proofs.Try.prog 78 { ps := ps78c, rs := rs78c, f := F78c N g79 } := by
  have hE : EnvOk Go.Proofs.Try.prog (E78c g79) := env_ok tab78c (by
    intro p hp
    simp only [List.mem_cons, List.not_mem_nil, or_false] at hp
    rcases hp with rfl
    · exact ⟨h79, Go.Proofs.Try.f79, Go.Proofs.Try.func79, by kernel_rfl, by kernel_rfl⟩) (by
    intro p hp
    cases hp)
  have h := fnX_sound (C := C78c N g79) (by kernel_rfl) Go.Proofs.Try.func78 (show Go.Proofs.Try.f78.body = some c78c by kernel_rfl) ps78c rs78c rfl rfl hE (by
    intro f t h
    cases h) (by
    intro e he
    have he : e ∈ M78c g79 := he
    simp only [M78c, List.mem_cons, List.not_mem_nil, or_false] at he
    rcases he with rfl
    · exact oL78c_0 N g79)
  have e : (fun x => Go.V.evRoot (C78c N g79) Go.Proofs.Try.f78 (Go.V.start Go.Proofs.Try.f78 ps78c x)) = F78c N g79 := funext fun x => eF78c N g79 x
  rw [e] at h
  exact h

end Go.Proofs.Ytkifmnocomadfaa
end

/- The deep reading of poundage pair.widen. -/
section
set_option linter.unusedVariables false
set_option maxRecDepth 100000
namespace Go.Proofs.Ytkifmnocomadfaa
open Go.V

noncomputable def L53_0i : XShape := { items := [.tm 1 (.sl 68 t67), .cst 3 (.ptr 0 0), .cst 6 (.ptr 1 0), .cst 7 (.ptr 2 0), .tm 20 (.sl 68 t67), .tm 21 (.int .i64), .tm 22 (.int .i64), .bx 0 0 t40, .bx 1 0 (.int .i64), .bx 1 1 (.int .i64), .bx 1 2 (.int .i64), .bx 2 0 (.int .i64), .bx 2 1 (.int .i64), .bx 2 2 (.int .i64), .ownB 1 3 53 t52, .ownB 2 3 53 t52], boxes := [some 41, some 41, some 41], n := 50, all := 50 }
noncomputable def L53_0o : XShape := { items := [.cst 6 (.ptr 1 0), .cst 7 (.ptr 2 0), .bx 1 0 (.int .i64), .bx 1 1 (.int .i64), .bx 1 2 (.int .i64), .bx 2 0 (.int .i64), .bx 2 1 (.int .i64), .bx 2 2 (.int .i64), .ownB 1 3 53 t52, .ownB 2 3 53 t52], boxes := [none, some 41, some 41], n := 50, all := 50 }
noncomputable def L53_0r : XShape := { items := [], boxes := [], n := 0, all := 0 }
noncomputable def L53_0 (N : Nat) (g77 : D146 → Option (D52 × D159)) (g78c : ((List D67) × ((D67 × Unit) × Unit)) → Option (Int × Unit)) : Nat → ((List D67) × (Unit × (Unit × (Unit × ((List D67) × (Int × (Int × (D40 × (Int × (Int × (Int × (Int × (Int × (Int × ((List D52) × ((List D52) × Unit)))))))))))))))) → ((Unit × (Unit × (Int × (Int × (Int × (Int × (Int × (Int × ((List D52) × ((List D52) × Unit)))))))))) → Option (D40 × Unit)) → (Unit → Option (D40 × Unit)) → Option (D40 × Unit)
| 0, _, _, _ => none
| k + 1, x1, Kx, Rx =>
cond (decide (x1.2.2.2.2.2.2.1 < x1.2.2.2.2.2.1)) (
if 0 ≤ x1.2.2.2.2.2.2.1 then
if x1.2.2.2.2.2.2.1 < (x1.2.2.2.2.1.length : Int) then
let e2 : D67 := rdAt (t := t67) x1.2.2.2.2.1 x1.2.2.2.2.2.2.1
(g77 (e2.2.2.1, (0 : Int), ())).bind fun r3 =>
(g78c (x1.1, (e2, ()), ())).bind fun r4 =>
cond (decide (r4.1 ≥ (0 : Int))) (
if 0 ≤ r4.1 then
if r4.1 < (x1.2.2.2.2.2.2.2.1.2.2.2.1.length : Int) then
let e5 : D52 := rdAt (t := t52) x1.2.2.2.2.2.2.2.1.2.2.2.1 r4.1
if x1.2.2.2.2.2.2.2.2.2.2.2.2.2.2.2.1.length + 1 ≤ 4398046511104 then
L53_0 N g77 g78c k (x1.1, (), (), (), x1.2.2.2.2.1, x1.2.2.2.2.2.1, (IntKind.i64.wrap (x1.2.2.2.2.2.2.1 + (1 : Int))), x1.2.2.2.2.2.2.2.1, x1.2.2.2.2.2.2.2.2.1, x1.2.2.2.2.2.2.2.2.2.1, x1.2.2.2.2.2.2.2.2.2.2.1, x1.2.2.2.2.2.2.2.2.2.2.2.1, x1.2.2.2.2.2.2.2.2.2.2.2.2.1, x1.2.2.2.2.2.2.2.2.2.2.2.2.2.1, x1.2.2.2.2.2.2.2.2.2.2.2.2.2.2.1, (x1.2.2.2.2.2.2.2.2.2.2.2.2.2.2.2.1 ++ [e5]), ()) Kx Rx
else none
else none
else none) (
if x1.2.2.2.2.2.2.2.2.2.2.2.2.2.2.2.1.length + 1 ≤ 4398046511104 then
L53_0 N g77 g78c k (x1.1, (), (), (), x1.2.2.2.2.1, x1.2.2.2.2.2.1, (IntKind.i64.wrap (x1.2.2.2.2.2.2.1 + (1 : Int))), x1.2.2.2.2.2.2.2.1, x1.2.2.2.2.2.2.2.2.1, x1.2.2.2.2.2.2.2.2.2.1, x1.2.2.2.2.2.2.2.2.2.2.1, x1.2.2.2.2.2.2.2.2.2.2.2.1, x1.2.2.2.2.2.2.2.2.2.2.2.2.1, x1.2.2.2.2.2.2.2.2.2.2.2.2.2.1, x1.2.2.2.2.2.2.2.2.2.2.2.2.2.2.1, (x1.2.2.2.2.2.2.2.2.2.2.2.2.2.2.2.1 ++ [r3.1]), ()) Kx Rx
else none)
else none
else none) (
Kx ((), (), x1.2.2.2.2.2.2.2.2.1, x1.2.2.2.2.2.2.2.2.2.1, x1.2.2.2.2.2.2.2.2.2.2.1, x1.2.2.2.2.2.2.2.2.2.2.2.1, x1.2.2.2.2.2.2.2.2.2.2.2.2.1, x1.2.2.2.2.2.2.2.2.2.2.2.2.2.1, x1.2.2.2.2.2.2.2.2.2.2.2.2.2.2.1, x1.2.2.2.2.2.2.2.2.2.2.2.2.2.2.2.1, ()))

noncomputable def F53 (N : Nat) (g77 : D146 → Option (D52 × D159)) (g78c : ((List D67) × ((D67 × Unit) × Unit)) → Option (Int × Unit)) : (D40 × ((List D67) × ((List D67) × Unit))) → Option (D40 × Unit) := fun x =>
L53_0 N g77 g78c N (x.2.1, (), (), (), x.2.2.1, (x.2.2.1.length : Int), (0 : Int), x.1, (0 : Int), (0 : Int), (0 : Int), x.1.1, x.1.2.1, x.1.2.2.1, [], [], ()) (fun y6 =>
some ((y6.2.2.2.2.2.1, y6.2.2.2.2.2.2.1, y6.2.2.2.2.2.2.2.1, y6.2.2.2.2.2.2.2.2.2), ())) (fun _ => none)

noncomputable def ps53 : List Ty := [t40, (.sl 68 t67), (.sl 68 t67)]
noncomputable def rs53 : List Ty := [t40]
noncomputable def ty53 : List (TypeId × Ty) := [(3, (.int .i64)), (22, (.sl 68 t67)), (39, (.sl 53 t52)), (41, t40), (53, t52), (68, t67)]
noncomputable def by53 : List (TypeId × Nat) := [(53, 32)]
noncomputable def eq53 : List TypeId := []
noncomputable def E53 (g77 : D146 → Option (D52 × D159)) (g78c : ((List D67) × ((D67 × Unit) × Unit)) → Option (Int × Unit)) : Go.V.Env := { ty := ty53, bytes := by53, fn := [(77, { ps := [(.int .i64), (.int .i64)], rs := [t52, .bool], f := g77 }), (78, { ps := [(.sl 68 t67), (.clo 79 (.pair (.ref t67) .unit))], rs := [(.int .i64)], f := g78c })], eqs := eq53, inl := [] }
noncomputable def mL53_0 (g77 : D146 → Option (D52 × D159)) (g78c : ((List D67) × ((D67 × Unit) × Unit)) → Option (Int × Unit)) : Pos × Go.V.XMark (Ty.prods rs53).den := ((116, []), { ins := L53_0i, outs := L53_0o, rets := L53_0r, ex := some 0, top := true, rt := false, f := fun N => L53_0 N g77 g78c })
noncomputable def M53 (g77 : D146 → Option (D52 × D159)) (g78c : ((List D67) × ((D67 × Unit) × Unit)) → Option (Int × Unit)) : List (Pos × Go.V.XMark (Ty.prods rs53).den) := [mL53_0 g77 g78c]
noncomputable def c53 : Code := (Go.Proofs.Try.f53.body).getD .skip
noncomputable def C53 (N : Nat) (g77 : D146 → Option (D52 × D159)) (g78c : ((List D67) × ((D67 × Unit) × Unit)) → Option (Int × Unit)) : Go.V.XCtx (Ty.prods rs53).den := { E := E53 g77 g78c, cut := [], grow := [], marks := M53 g77 g78c, bars := [], fin := Go.V.finish (E53 g77 g78c) Go.Proofs.Try.f53 rs53, N, D := 0, root := c53 }

theorem tab53 : tablesB Go.Proofs.Try.prog ty53 by53 eq53 = true := by kernel_rfl
theorem oL53_0 (N : Nat) (g77 : D146 → Option (D52 × D159)) (g78c : ((List D67) × ((D67 × Unit) × Unit)) → Option (Int × Unit)) : ObX (C53 N g77 g78c) (mL53_0 g77 g78c) := by
  refine obX_loop ⟨fun _ => rfl, fun _ => rfl⟩ [true, true, false, true, false, false] c53 (by kernel_rfl) (by kernel_rfl) (by kernel_rfl) ?_
  intro x Kx Rx
  exact ⟨by kernel_rfl, fun k => by kernel_rfl⟩
theorem eF53 (N : Nat) (g77 : D146 → Option (D52 × D159)) (g78c : ((List D67) × ((D67 × Unit) × Unit)) → Option (Int × Unit)) (x : (Ty.prods ps53).den) : Go.V.evRoot (C53 N g77 g78c) Go.Proofs.Try.f53 (Go.V.start Go.Proofs.Try.f53 ps53 x) = F53 N g77 g78c x := by kernel_rfl
theorem s53 (N : Nat) (g77 : D146 → Option (D52 × D159)) (g78c : ((List D67) × ((D67 × Unit) × Unit)) → Option (Int × Unit)) (h77 : Sound Go.Proofs.Try.prog 77 { ps := [(.int .i64), (.int .i64)], rs := [t52, .bool], f := g77 }) (h78c : Sound Go.Proofs.Try.prog 78 { ps := [(.sl 68 t67), (.clo 79 (.pair (.ref t67) .unit))], rs := [(.int .i64)], f := g78c }) : Sound Go.Proofs.Try.prog 53 { ps := ps53, rs := rs53, f := F53 N g77 g78c } := by
  have hE : EnvOk Go.Proofs.Try.prog (E53 g77 g78c) := env_ok tab53 (by
    intro p hp
    simp only [List.mem_cons, List.not_mem_nil, or_false] at hp
    rcases hp with rfl | rfl
    · exact ⟨h77, Go.Proofs.Try.f77, Go.Proofs.Try.func77, by kernel_rfl, by kernel_rfl⟩
    · exact ⟨h78c, Go.Proofs.Try.f78, Go.Proofs.Try.func78, by kernel_rfl, by kernel_rfl⟩) (by
    intro p hp
    cases hp)
  have h := fnX_sound (C := C53 N g77 g78c) (by kernel_rfl) Go.Proofs.Try.func53 (show Go.Proofs.Try.f53.body = some c53 by kernel_rfl) ps53 rs53 rfl rfl hE (by
    intro f t h
    cases h) (by
    intro e he
    have he : e ∈ M53 g77 g78c := he
    simp only [M53, List.mem_cons, List.not_mem_nil, or_false] at he
    rcases he with rfl
    · exact oL53_0 N g77 g78c)
  have e : (fun x => Go.V.evRoot (C53 N g77 g78c) Go.Proofs.Try.f53 (Go.V.start Go.Proofs.Try.f53 ps53 x)) = F53 N g77 g78c := funext fun x => eF53 N g77 g78c x
  rw [e] at h
  exact h

end Go.Proofs.Ytkifmnocomadfaa
end

/- The reading of slices.Equal   poundage api.Group poundage api.Group . -/
section
set_option linter.unusedVariables false
set_option maxRecDepth 100000
namespace Go.Proofs.Ytkifmnocomadfaa
open Go.V

noncomputable def L67_0i : Shape := { items := [.tm 0 (.sl 78 t77), .tm 1 (.sl 78 t77), .tm 12 (.int .i64), .tm 13 (.int .i64)], boxes := [] }
noncomputable def L67_0o : Shape := { items := [], boxes := [] }
noncomputable def L67_0 (N : Nat) : Nat → ((List D77) × ((List D77) × D146)) → (Unit → Option D159) → Option D159
| 0, _, _ => none
| k + 1, x1, Kx =>
cond (decide (x1.2.2.2.1 < x1.2.2.1)) (
if 0 ≤ x1.2.2.2.1 then
if x1.2.2.2.1 < (x1.1.length : Int) then
let e2 : D77 := rdAt (t := t77) x1.1 x1.2.2.2.1
if 0 ≤ x1.2.2.2.1 then
if x1.2.2.2.1 < (x1.2.1.length : Int) then
let e3 : D77 := rdAt (t := t77) x1.2.1 x1.2.2.2.1
cond (!(e2.1 == e3.1 && (e2.2.1 == e3.2.1 && (e2.2.2.1 == e3.2.2.1 && (e2.2.2.2.1 == e3.2.2.2.1 && (e2.2.2.2.2.1 == e3.2.2.2.2.1)))))) (
some (false, ())) (
L67_0 N k (x1.1, x1.2.1, x1.2.2.1, (IntKind.i64.wrap (x1.2.2.2.1 + (1 : Int))), ()) Kx)
else none
else none
else none
else none) (
Kx ())

noncomputable def F67 (N : Nat) : ((List D77) × ((List D77) × Unit)) → Option D159 := fun x =>
cond ((x.1.length : Int) != (x.2.1.length : Int)) (
some (false, ())) (
L67_0 N N (x.1, x.2.1, (x.1.length : Int), (0 : Int), ()) fun y4 =>
some (true, ()))

noncomputable def ps67 : List Ty := [(.sl 78 t77), (.sl 78 t77)]
noncomputable def rs67 : List Ty := [.bool]
noncomputable def ty67 : List (TypeId × Ty) := [(3, (.int .i64)), (51, (.sl 78 t77)), (78, t77)]
noncomputable def by67 : List (TypeId × Nat) := []
noncomputable def eq67 : List TypeId := [78]
noncomputable def E67 : Go.V.Env := { ty := ty67, bytes := by67, fn := [], eqs := eq67, inl := [] }
noncomputable def M67 : List (Nat × Go.V.Mark (Ty.prods rs67).den) := [(116, { ins := L67_0i, outs := L67_0o, ex := some 0, f := fun N => L67_0 N })]
noncomputable def C67 (N : Nat) : Go.V.Ctx (Ty.prods rs67).den := { E := E67, n := Go.Proofs.Try.f67.ntmps, marks := M67, fin := Go.V.finish (E67) Go.Proofs.Try.f67 rs67, N }
noncomputable def c67 : Code := (Go.Proofs.Try.f67.body).getD .skip

theorem tab67 : tablesB Go.Proofs.Try.prog ty67 by67 eq67 = true := by kernel_rfl
theorem oL67_0 (N : Nat) : (Obl.loop { ins := L67_0i, outs := L67_0o, ex := some 0, f := fun N => L67_0 N } 116 (subc [true, true, false, true, false, false] c67) : Obl (Ty.prods rs67).den).holds (C67 N) := by
  intro x Kx
  exact ⟨by kernel_rfl, fun k => by kernel_rfl⟩
theorem ob67 (N : Nat) : obls (C67 N) 1 c67 = [.loop { ins := L67_0i, outs := L67_0o, ex := some 0, f := fun N => L67_0 N } 116 (subc [true, true, false, true, false, false] c67)] := by kernel_rfl
theorem eF67 (N : Nat) (x : (Ty.prods ps67).den) : Go.V.evBody (E67) Go.Proofs.Try.f67 rs67 (M67) N (Go.V.start Go.Proofs.Try.f67 ps67 x) = F67 N x := by kernel_rfl
theorem s67 (N : Nat) : Sound Go.Proofs.Try.prog 67 { ps := ps67, rs := rs67, f := F67 N } := by
  have hE : EnvOk Go.Proofs.Try.prog (E67) := env_ok tab67 (by
    intro p hp
    cases hp) (by
    intro p hp
    cases hp)
  have h := fn_sound hE (by kernel_rfl) Go.Proofs.Try.func67 (show Go.Proofs.Try.f67.body = some c67 by kernel_rfl) ps67 rs67 (M67) N (by
    intro o ho
    have ho : o ∈ obls (C67 N) 1 c67 := ho
    rw [ob67] at ho
    simp only [List.mem_cons, List.not_mem_nil, or_false] at ho
    rcases ho with rfl
    · exact oL67_0 N)
  have e : (fun x => Go.V.evBody (E67) Go.Proofs.Try.f67 rs67 (M67) N (Go.V.start Go.Proofs.Try.f67 ps67 x)) = F67 N := funext fun x => eF67 N x
  rw [e] at h
  exact h

end Go.Proofs.Ytkifmnocomadfaa
end

/- The reading of poundage curve.Same. -/
section
set_option linter.unusedVariables false
set_option maxRecDepth 100000
namespace Go.Proofs.Ytkifmnocomadfaa
open Go.V

noncomputable def F47 (N : Nat) (g67 : ((List D77) × ((List D77) × Unit)) → Option D159) : (D52 × (D52 × Unit)) → Option D159 := fun x =>
cond (x.1.1 == x.2.1.1) (
(g67 (x.1.2.1, x.2.1.2)).bind fun r1 =>
some r1) (
some (false, ()))

noncomputable def ps47 : List Ty := [t52, t52]
noncomputable def rs47 : List Ty := [.bool]
noncomputable def ty47 : List (TypeId × Ty) := [(3, (.int .i64)), (51, (.sl 78 t77)), (53, t52), (78, t77)]
noncomputable def by47 : List (TypeId × Nat) := []
noncomputable def eq47 : List TypeId := []
noncomputable def E47 (g67 : ((List D77) × ((List D77) × Unit)) → Option D159) : Go.V.Env := { ty := ty47, bytes := by47, fn := [(67, { ps := [(.sl 78 t77), (.sl 78 t77)], rs := [.bool], f := g67 })], eqs := eq47, inl := [] }
noncomputable def M47 (g67 : ((List D77) × ((List D77) × Unit)) → Option D159) : List (Nat × Go.V.Mark (Ty.prods rs47).den) := []
noncomputable def C47 (N : Nat) (g67 : ((List D77) × ((List D77) × Unit)) → Option D159) : Go.V.Ctx (Ty.prods rs47).den := { E := E47 g67, n := Go.Proofs.Try.f47.ntmps, marks := M47 g67, fin := Go.V.finish (E47 g67) Go.Proofs.Try.f47 rs47, N }
noncomputable def c47 : Code := (Go.Proofs.Try.f47.body).getD .skip

theorem tab47 : tablesB Go.Proofs.Try.prog ty47 by47 eq47 = true := by kernel_rfl
theorem ob47 (N : Nat) (g67 : ((List D77) × ((List D77) × Unit)) → Option D159) : obls (C47 N g67) 1 c47 = [] := by kernel_rfl
theorem eF47 (N : Nat) (g67 : ((List D77) × ((List D77) × Unit)) → Option D159) (x : (Ty.prods ps47).den) : Go.V.evBody (E47 g67) Go.Proofs.Try.f47 rs47 (M47 g67) N (Go.V.start Go.Proofs.Try.f47 ps47 x) = F47 N g67 x := by kernel_rfl
theorem s47 (N : Nat) (g67 : ((List D77) × ((List D77) × Unit)) → Option D159) (h67 : Sound Go.Proofs.Try.prog 67 { ps := [(.sl 78 t77), (.sl 78 t77)], rs := [.bool], f := g67 }) : Sound Go.Proofs.Try.prog 47 { ps := ps47, rs := rs47, f := F47 N g67 } := by
  have hE : EnvOk Go.Proofs.Try.prog (E47 g67) := env_ok tab47 (by
    intro p hp
    simp only [List.mem_cons, List.not_mem_nil, or_false] at hp
    rcases hp with rfl
    · exact ⟨h67, Go.Proofs.Try.f67, Go.Proofs.Try.func67, by kernel_rfl, by kernel_rfl⟩) (by
    intro p hp
    cases hp)
  have h := fn_sound hE (by kernel_rfl) Go.Proofs.Try.func47 (show Go.Proofs.Try.f47.body = some c47 by kernel_rfl) ps47 rs47 (M47 g67) N (by
    intro o ho
    have ho : o ∈ obls (C47 N g67) 1 c47 := ho
    rw [ob47] at ho
    cases ho)
  have e : (fun x => Go.V.evBody (E47 g67) Go.Proofs.Try.f47 rs47 (M47 g67) N (Go.V.start Go.Proofs.Try.f47 ps47 x)) = F47 N g67 := funext fun x => eF47 N g67 x
  rw [e] at h
  exact h

end Go.Proofs.Ytkifmnocomadfaa
end

/- The reading of slices.EqualFunc   poundage api.Curve   poundage api.Curve poundage api.Curve poundage api.Curve . -/
section
set_option linter.unusedVariables false
set_option maxRecDepth 100000
namespace Go.Proofs.Ytkifmnocomadfaa
open Go.V

noncomputable def L92_0i : Shape := { items := [.tm 1 (.sl 53 t52), .tm 2 (.clo 47 .unit), .tm 15 (.sl 53 t52), .tm 16 (.int .i64), .tm 17 (.int .i64)], boxes := [] }
noncomputable def L92_0o : Shape := { items := [], boxes := [] }
noncomputable def L92_0 (N : Nat) (g47 : (D52 × (D52 × Unit)) → Option D159) : Nat → ((List D52) × (Unit × ((List D52) × D146))) → (Unit → Option D159) → Option D159
| 0, _, _ => none
| k + 1, x1, Kx =>
cond (decide (x1.2.2.2.2.1 < x1.2.2.2.1)) (
if 0 ≤ x1.2.2.2.2.1 then
if x1.2.2.2.2.1 < (x1.2.2.1.length : Int) then
let e2 : D52 := rdAt (t := t52) x1.2.2.1 x1.2.2.2.2.1
if 0 ≤ x1.2.2.2.2.1 then
if x1.2.2.2.2.1 < (x1.1.length : Int) then
let e3 : D52 := rdAt (t := t52) x1.1 x1.2.2.2.2.1
(g47 (e2, e3, ())).bind fun r4 =>
cond (!r4.1) (
some (false, ())) (
L92_0 N g47 k (x1.1, x1.2.1, x1.2.2.1, x1.2.2.2.1, (IntKind.i64.wrap (x1.2.2.2.2.1 + (1 : Int))), ()) Kx)
else none
else none
else none
else none) (
Kx ())

noncomputable def F92 (N : Nat) (g47 : (D52 × (D52 × Unit)) → Option D159) : ((List D52) × ((List D52) × (Unit × Unit))) → Option D159 := fun x =>
cond ((x.1.length : Int) != (x.2.1.length : Int)) (
some (false, ())) (
L92_0 N g47 N (x.2.1, x.2.2.1, x.1, (x.1.length : Int), (0 : Int), ()) fun y5 =>
some (true, ()))

noncomputable def ps92 : List Ty := [(.sl 53 t52), (.sl 53 t52), (.clo 47 .unit)]
noncomputable def rs92 : List Ty := [.bool]
noncomputable def ty92 : List (TypeId × Ty) := [(3, (.int .i64)), (39, (.sl 53 t52)), (53, t52)]
noncomputable def by92 : List (TypeId × Nat) := []
noncomputable def eq92 : List TypeId := []
noncomputable def E92 (g47 : (D52 × (D52 × Unit)) → Option D159) : Go.V.Env := { ty := ty92, bytes := by92, fn := [(47, { ps := [t52, t52], rs := [.bool], f := g47 })], eqs := eq92, inl := [] }
noncomputable def M92 (g47 : (D52 × (D52 × Unit)) → Option D159) : List (Nat × Go.V.Mark (Ty.prods rs92).den) := [(116, { ins := L92_0i, outs := L92_0o, ex := some 0, f := fun N => L92_0 N g47 })]
noncomputable def C92 (N : Nat) (g47 : (D52 × (D52 × Unit)) → Option D159) : Go.V.Ctx (Ty.prods rs92).den := { E := E92 g47, n := Go.Proofs.Try.f92.ntmps, marks := M92 g47, fin := Go.V.finish (E92 g47) Go.Proofs.Try.f92 rs92, N }
noncomputable def c92 : Code := (Go.Proofs.Try.f92.body).getD .skip

theorem tab92 : tablesB Go.Proofs.Try.prog ty92 by92 eq92 = true := by kernel_rfl
theorem oL92_0 (N : Nat) (g47 : (D52 × (D52 × Unit)) → Option D159) : (Obl.loop { ins := L92_0i, outs := L92_0o, ex := some 0, f := fun N => L92_0 N g47 } 116 (subc [true, true, false, true, false, false] c92) : Obl (Ty.prods rs92).den).holds (C92 N g47) := by
  intro x Kx
  exact ⟨by kernel_rfl, fun k => by kernel_rfl⟩
theorem ob92 (N : Nat) (g47 : (D52 × (D52 × Unit)) → Option D159) : obls (C92 N g47) 1 c92 = [.loop { ins := L92_0i, outs := L92_0o, ex := some 0, f := fun N => L92_0 N g47 } 116 (subc [true, true, false, true, false, false] c92)] := by kernel_rfl
theorem eF92 (N : Nat) (g47 : (D52 × (D52 × Unit)) → Option D159) (x : (Ty.prods ps92).den) : Go.V.evBody (E92 g47) Go.Proofs.Try.f92 rs92 (M92 g47) N (Go.V.start Go.Proofs.Try.f92 ps92 x) = F92 N g47 x := by kernel_rfl
theorem s92 (N : Nat) (g47 : (D52 × (D52 × Unit)) → Option D159) (h47 : Sound Go.Proofs.Try.prog 47 { ps := [t52, t52], rs := [.bool], f := g47 }) : Sound Go.Proofs.Try.prog 92 { ps := ps92, rs := rs92, f := F92 N g47 } := by
  have hE : EnvOk Go.Proofs.Try.prog (E92 g47) := env_ok tab92 (by
    intro p hp
    simp only [List.mem_cons, List.not_mem_nil, or_false] at hp
    rcases hp with rfl
    · exact ⟨h47, Go.Proofs.Try.f47, Go.Proofs.Try.func47, by kernel_rfl, by kernel_rfl⟩) (by
    intro p hp
    cases hp)
  have h := fn_sound hE (by kernel_rfl) Go.Proofs.Try.func92 (show Go.Proofs.Try.f92.body = some c92 by kernel_rfl) ps92 rs92 (M92 g47) N (by
    intro o ho
    have ho : o ∈ obls (C92 N g47) 1 c92 := ho
    rw [ob92] at ho
    simp only [List.mem_cons, List.not_mem_nil, or_false] at ho
    rcases ho with rfl
    · exact oL92_0 N g47)
  have e : (fun x => Go.V.evBody (E92 g47) Go.Proofs.Try.f92 rs92 (M92 g47) N (Go.V.start Go.Proofs.Try.f92 ps92 x)) = F92 N g47 := funext fun x => eF92 N g47 x
  rw [e] at h
  exact h

end Go.Proofs.Ytkifmnocomadfaa
end

/- The reading of poundage normal.Alike. -/
section
set_option linter.unusedVariables false
set_option maxRecDepth 100000
namespace Go.Proofs.Ytkifmnocomadfaa
open Go.V

noncomputable def F80 (N : Nat) (g92 : ((List D52) × ((List D52) × (Unit × Unit))) → Option D159) : (D40 × (D40 × Unit)) → Option D159 := fun x =>
cond (x.1.2.2.1 == x.2.1.2.2.1) (
(g92 (x.1.2.2.2.1, x.2.1.2.2.2.1, (), ())).bind fun r1 =>
some r1) (
some (false, ()))

noncomputable def ps80 : List Ty := [t40, t40]
noncomputable def rs80 : List Ty := [.bool]
noncomputable def ty80 : List (TypeId × Ty) := [(3, (.int .i64)), (39, (.sl 53 t52)), (41, t40), (53, t52)]
noncomputable def by80 : List (TypeId × Nat) := []
noncomputable def eq80 : List TypeId := []
noncomputable def E80 (g92 : ((List D52) × ((List D52) × (Unit × Unit))) → Option D159) : Go.V.Env := { ty := ty80, bytes := by80, fn := [(92, { ps := [(.sl 53 t52), (.sl 53 t52), (.clo 47 .unit)], rs := [.bool], f := g92 })], eqs := eq80, inl := [] }
noncomputable def M80 (g92 : ((List D52) × ((List D52) × (Unit × Unit))) → Option D159) : List (Nat × Go.V.Mark (Ty.prods rs80).den) := []
noncomputable def C80 (N : Nat) (g92 : ((List D52) × ((List D52) × (Unit × Unit))) → Option D159) : Go.V.Ctx (Ty.prods rs80).den := { E := E80 g92, n := Go.Proofs.Try.f80.ntmps, marks := M80 g92, fin := Go.V.finish (E80 g92) Go.Proofs.Try.f80 rs80, N }
noncomputable def c80 : Code := (Go.Proofs.Try.f80.body).getD .skip

theorem tab80 : tablesB Go.Proofs.Try.prog ty80 by80 eq80 = true := by kernel_rfl
theorem ob80 (N : Nat) (g92 : ((List D52) × ((List D52) × (Unit × Unit))) → Option D159) : obls (C80 N g92) 1 c80 = [] := by kernel_rfl
theorem eF80 (N : Nat) (g92 : ((List D52) × ((List D52) × (Unit × Unit))) → Option D159) (x : (Ty.prods ps80).den) : Go.V.evBody (E80 g92) Go.Proofs.Try.f80 rs80 (M80 g92) N (Go.V.start Go.Proofs.Try.f80 ps80 x) = F80 N g92 x := by kernel_rfl
theorem s80 (N : Nat) (g92 : ((List D52) × ((List D52) × (Unit × Unit))) → Option D159) (h92 : Sound Go.Proofs.Try.prog 92 { ps := [(.sl 53 t52), (.sl 53 t52), (.clo 47 .unit)], rs := [.bool], f := g92 }) : Sound Go.Proofs.Try.prog 80 { ps := ps80, rs := rs80, f := F80 N g92 } := by
  have hE : EnvOk Go.Proofs.Try.prog (E80 g92) := env_ok tab80 (by
    intro p hp
    simp only [List.mem_cons, List.not_mem_nil, or_false] at hp
    rcases hp with rfl
    · exact ⟨h92, Go.Proofs.Try.f92, Go.Proofs.Try.func92, by kernel_rfl, by kernel_rfl⟩) (by
    intro p hp
    cases hp)
  have h := fn_sound hE (by kernel_rfl) Go.Proofs.Try.func80 (show Go.Proofs.Try.f80.body = some c80 by kernel_rfl) ps80 rs80 (M80 g92) N (by
    intro o ho
    have ho : o ∈ obls (C80 N g92) 1 c80 := ho
    rw [ob80] at ho
    cases ho)
  have e : (fun x => Go.V.evBody (E80 g92) Go.Proofs.Try.f80 rs80 (M80 g92) N (Go.V.start Go.Proofs.Try.f80 ps80 x)) = F80 N g92 := funext fun x => eF80 N g92 x
  rw [e] at h
  exact h

end Go.Proofs.Ytkifmnocomadfaa
end
