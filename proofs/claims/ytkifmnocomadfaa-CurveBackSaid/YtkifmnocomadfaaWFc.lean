/- The reading of poundage poundageref02.Floor. -/
import Derived.Test.YtkifmnocomadfaaWTy
section
set_option linter.unusedVariables false
set_option maxRecDepth 100000
namespace Go.Proofs.Ytkifmnocomadfaa
open Go.V

noncomputable def L110_0i : Shape := { items := [.tm 1 (.int .i64), .ptr 2 0 0, .bx 0 0 t142, .tm 6 (.int .i64), .tm 7 (.int .i64)], boxes := [143] }
noncomputable def L110_0o : Shape := { items := [.tm 6 (.int .i64)], boxes := [] }
noncomputable def L110_0 (N : Nat) (g114 : (Int × (Int × (D142 × Unit))) → Option D159) : Nat → (Int × (Unit × (D142 × D146))) → ((Int × Unit) → Option (Int × D159)) → Option (Int × D159)
| 0, _, _ => none
| k + 1, x2, Kx =>
cond (decide (x2.2.2.2.2.1 ≥ (0 : Int))) (
if (IntKind.u64.wrap x2.2.2.2.2.1) < 0 then none else
let v3 := (IntKind.u64.wrap ((1 : Int) * 2 ^ (min ((IntKind.u64.wrap x2.2.2.2.2.1)).toNat IntKind.u64.bits)))
let v4 := (IntKind.u64.wrap ((IntKind.u64.wrap x2.2.2.2.1) + v3))
cond (decide ((IntKind.i64.wrap v4) > x2.2.2.2.1)) (
(g114 ((IntKind.i64.wrap v4), x2.1, x2.2.2.1, ())).bind fun r5 =>
cond r5.1 (
L110_0 N g114 k (x2.1, (), x2.2.2.1, (IntKind.i64.wrap v4), (IntKind.i64.wrap (x2.2.2.2.2.1 - (1 : Int))), ()) Kx) (
L110_0 N g114 k (x2.1, (), x2.2.2.1, x2.2.2.2.1, (IntKind.i64.wrap (x2.2.2.2.2.1 - (1 : Int))), ()) Kx)) (
L110_0 N g114 k (x2.1, (), x2.2.2.1, x2.2.2.2.1, (IntKind.i64.wrap (x2.2.2.2.2.1 - (1 : Int))), ()) Kx)) (
Kx (x2.2.2.2.1, ()))

noncomputable def F110 (N : Nat) (g114 : (Int × (Int × (D142 × Unit))) → Option D159) : (D142 × (Int × Unit)) → Option (Int × D159) := fun x =>
(g114 ((-9223372036854775808 : Int), x.2.1, x.1, ())).bind fun r1 =>
cond (!r1.1) (
some ((0 : Int), false, ())) (
L110_0 N g114 N (x.2.1, (), x.1, (-9223372036854775808 : Int), (63 : Int), ()) fun y6 =>
some (y6.1, true, ()))

noncomputable def ps110 : List Ty := [t142, (.int .i64)]
noncomputable def rs110 : List Ty := [(.int .i64), .bool]
noncomputable def ty110 : List (TypeId × Ty) := [(3, (.int .i64)), (120, (.int .u64)), (122, (.int .u64)), (143, t142)]
noncomputable def by110 : List (TypeId × Nat) := []
noncomputable def eq110 : List TypeId := []
noncomputable def E110 (g114 : (Int × (Int × (D142 × Unit))) → Option D159) : Go.V.Env := { ty := ty110, bytes := by110, fn := [(114, { ps := [(.int .i64), (.int .i64), t142], rs := [.bool], f := g114 })], eqs := eq110, inl := [] }
noncomputable def M110 (g114 : (Int × (Int × (D142 × Unit))) → Option D159) : List (Nat × Go.V.Mark (Ty.prods rs110).den) := [(244, { ins := L110_0i, outs := L110_0o, ex := some 0, f := fun N => L110_0 N g114 })]
noncomputable def C110 (N : Nat) (g114 : (Int × (Int × (D142 × Unit))) → Option D159) : Go.V.Ctx (Ty.prods rs110).den := { E := E110 g114, n := Go.Proofs.Try.f110.ntmps, marks := M110 g114, fin := Go.V.finish (E110 g114) Go.Proofs.Try.f110 rs110, N }
noncomputable def c110 : Code := (Go.Proofs.Try.f110.body).getD .skip

theorem tab110 : tablesB Go.Proofs.Try.prog ty110 by110 eq110 = true := by kernel_rfl
theorem oL110_0 (N : Nat) (g114 : (Int × (Int × (D142 × Unit))) → Option D159) : (Obl.loop { ins := L110_0i, outs := L110_0o, ex := some 0, f := fun N => L110_0 N g114 } 244 (subc [true, true, true, false, true, false, false] c110) : Obl (Ty.prods rs110).den).holds (C110 N g114) := by
  intro x Kx
  exact ⟨by kernel_rfl, fun k => by kernel_rfl⟩
theorem ob110 (N : Nat) (g114 : (Int × (Int × (D142 × Unit))) → Option D159) : obls (C110 N g114) 1 c110 = [.loop { ins := L110_0i, outs := L110_0o, ex := some 0, f := fun N => L110_0 N g114 } 244 (subc [true, true, true, false, true, false, false] c110)] := by kernel_rfl
theorem eF110 (N : Nat) (g114 : (Int × (Int × (D142 × Unit))) → Option D159) (x : (Ty.prods ps110).den) : Go.V.evBody (E110 g114) Go.Proofs.Try.f110 rs110 (M110 g114) N (Go.V.start Go.Proofs.Try.f110 ps110 x) = F110 N g114 x := by kernel_rfl
theorem s110 (N : Nat) (g114 : (Int × (Int × (D142 × Unit))) → Option D159) (h114 : Sound Go.Proofs.Try.prog 114 { ps := [(.int .i64), (.int .i64), t142], rs := [.bool], f := g114 }) : Sound Go.Proofs.Try.prog 110 { ps := ps110, rs := rs110, f := F110 N g114 } := by
  have hE : EnvOk Go.Proofs.Try.prog (E110 g114) := env_ok tab110 (by
    intro p hp
    simp only [List.mem_cons, List.not_mem_nil, or_false] at hp
    rcases hp with rfl
    · exact ⟨h114, Go.Proofs.Try.f114, Go.Proofs.Try.func114, by kernel_rfl, by kernel_rfl⟩) (by
    intro p hp
    cases hp)
  have h := fn_sound hE (by kernel_rfl) Go.Proofs.Try.func110 (show Go.Proofs.Try.f110.body = some c110 by kernel_rfl) ps110 rs110 (M110 g114) N (by
    intro o ho
    have ho : o ∈ obls (C110 N g114) 1 c110 := ho
    rw [ob110] at ho
    simp only [List.mem_cons, List.not_mem_nil, or_false] at ho
    rcases ho with rfl
    · exact oL110_0 N g114)
  have e : (fun x => Go.V.evBody (E110 g114) Go.Proofs.Try.f110 rs110 (M110 g114) N (Go.V.start Go.Proofs.Try.f110 ps110 x)) = F110 N g114 := funext fun x => eF110 N g114 x
  rw [e] at h
  exact h

end Go.Proofs.Ytkifmnocomadfaa
end

/- The reading of poundage poundageref02.edge. -/
section
set_option linter.unusedVariables false
set_option maxRecDepth 100000
namespace Go.Proofs.Ytkifmnocomadfaa
open Go.V

noncomputable def F112 (N : Nat) (g85 : (D142 × (D142 × Unit)) → Option (D142 × Unit)) (g109 : D146 → Option (D142 × Unit)) (g111 : (D142 × Unit) → Option (D142 × Unit)) : (D142 × D146) → Option (Int × D159) := fun x =>
(g109 ((-9223372036854775808 : Int), x.2.1, ())).bind fun r1 =>
(g111 (x.1, ())).bind fun r2 =>
(g85 (r1.1, r2)).bind fun r3 =>
cond r3.1.1 (
some ((0 : Int), false, ())) (
cond (decide (r3.1.2.1 > (0 : Int))) (
some ((0 : Int), false, ())) (
cond (decide (r3.1.2.2.1 ≥ (IntKind.u64.wrap x.2.1))) (
some ((0 : Int), false, ())) (
let v4 := (IntKind.u64.wrap ((IntKind.u64.wrap x.2.1) - r3.1.2.2.1))
cond (x.2.2.1 == (1 : Int)) (
some ((-9223372036854775808 : Int), true, ())) (
cond (decide (x.2.2.1 > (1 : Int))) (
cond (decide (r3.1.2.2.1 < v4)) (
some ((-9223372036854775808 : Int), true, ())) (
cond (r3.1.2.2.1 == v4) (
some ((-9223372036854775808 : Int), true, ())) (
some ((0 : Int), false, ())))) (
some ((0 : Int), false, ()))))))

noncomputable def ps112 : List Ty := [t142, (.int .i64), (.int .i64)]
noncomputable def rs112 : List Ty := [(.int .i64), .bool]
noncomputable def ty112 : List (TypeId × Ty) := [(3, (.int .i64)), (4, .bool), (120, (.int .u64)), (143, t142)]
noncomputable def by112 : List (TypeId × Nat) := []
noncomputable def eq112 : List TypeId := []
noncomputable def E112 (g85 : (D142 × (D142 × Unit)) → Option (D142 × Unit)) (g109 : D146 → Option (D142 × Unit)) (g111 : (D142 × Unit) → Option (D142 × Unit)) : Go.V.Env := { ty := ty112, bytes := by112, fn := [(85, { ps := [t142, t142], rs := [t142], f := g85 }), (109, { ps := [(.int .i64), (.int .i64)], rs := [t142], f := g109 }), (111, { ps := [t142], rs := [t142], f := g111 })], eqs := eq112, inl := [] }
noncomputable def M112 (g85 : (D142 × (D142 × Unit)) → Option (D142 × Unit)) (g109 : D146 → Option (D142 × Unit)) (g111 : (D142 × Unit) → Option (D142 × Unit)) : List (Nat × Go.V.Mark (Ty.prods rs112).den) := []
noncomputable def C112 (N : Nat) (g85 : (D142 × (D142 × Unit)) → Option (D142 × Unit)) (g109 : D146 → Option (D142 × Unit)) (g111 : (D142 × Unit) → Option (D142 × Unit)) : Go.V.Ctx (Ty.prods rs112).den := { E := E112 g85 g109 g111, n := Go.Proofs.Try.f112.ntmps, marks := M112 g85 g109 g111, fin := Go.V.finish (E112 g85 g109 g111) Go.Proofs.Try.f112 rs112, N }
noncomputable def c112 : Code := (Go.Proofs.Try.f112.body).getD .skip

theorem tab112 : tablesB Go.Proofs.Try.prog ty112 by112 eq112 = true := by kernel_rfl
theorem ob112 (N : Nat) (g85 : (D142 × (D142 × Unit)) → Option (D142 × Unit)) (g109 : D146 → Option (D142 × Unit)) (g111 : (D142 × Unit) → Option (D142 × Unit)) : obls (C112 N g85 g109 g111) 1 c112 = [] := by kernel_rfl
theorem eF112 (N : Nat) (g85 : (D142 × (D142 × Unit)) → Option (D142 × Unit)) (g109 : D146 → Option (D142 × Unit)) (g111 : (D142 × Unit) → Option (D142 × Unit)) (x : (Ty.prods ps112).den) : Go.V.evBody (E112 g85 g109 g111) Go.Proofs.Try.f112 rs112 (M112 g85 g109 g111) N (Go.V.start Go.Proofs.Try.f112 ps112 x) = F112 N g85 g109 g111 x := by kernel_rfl
theorem s112 (N : Nat) (g85 : (D142 × (D142 × Unit)) → Option (D142 × Unit)) (g109 : D146 → Option (D142 × Unit)) (g111 : (D142 × Unit) → Option (D142 × Unit)) (h85 : Sound Go.Proofs.Try.prog 85 { ps := [t142, t142], rs := [t142], f := g85 }) (h109 : Sound Go.Proofs.Try.prog 109 { ps := [(.int .i64), (.int .i64)], rs := [t142], f := g109 }) (h111 : Sound Go.Proofs.Try.prog 111 { ps := [t142], rs := [t142], f := g111 }) : Sound Go.Proofs.Try.prog 112 { ps := ps112, rs := rs112, f := F112 N g85 g109 g111 } := by
  have hE : EnvOk Go.Proofs.Try.prog (E112 g85 g109 g111) := env_ok tab112 (by
    intro p hp
    simp only [List.mem_cons, List.not_mem_nil, or_false] at hp
    rcases hp with rfl | rfl | rfl
    · exact ⟨h85, Go.Proofs.Try.f85, Go.Proofs.Try.func85, by kernel_rfl, by kernel_rfl⟩
    · exact ⟨h109, Go.Proofs.Try.f109, Go.Proofs.Try.func109, by kernel_rfl, by kernel_rfl⟩
    · exact ⟨h111, Go.Proofs.Try.f111, Go.Proofs.Try.func111, by kernel_rfl, by kernel_rfl⟩) (by
    intro p hp
    cases hp)
  have h := fn_sound hE (by kernel_rfl) Go.Proofs.Try.func112 (show Go.Proofs.Try.f112.body = some c112 by kernel_rfl) ps112 rs112 (M112 g85 g109 g111) N (by
    intro o ho
    have ho : o ∈ obls (C112 N g85 g109 g111) 1 c112 := ho
    rw [ob112] at ho
    cases ho)
  have e : (fun x => Go.V.evBody (E112 g85 g109 g111) Go.Proofs.Try.f112 rs112 (M112 g85 g109 g111) N (Go.V.start Go.Proofs.Try.f112 ps112 x)) = F112 N g85 g109 g111 := funext fun x => eF112 N g85 g109 g111 x
  rw [e] at h
  exact h

end Go.Proofs.Ytkifmnocomadfaa
end

/- The reading of poundage poundageref02.MulDiv. -/
section
set_option linter.unusedVariables false
set_option maxRecDepth 100000
namespace Go.Proofs.Ytkifmnocomadfaa
open Go.V

noncomputable def F99 (N : Nat) (g85 : (D142 × (D142 × Unit)) → Option (D142 × Unit)) (g109 : D146 → Option (D142 × Unit)) (g110 : (D142 × (Int × Unit)) → Option (Int × D159)) (g111 : (D142 × Unit) → Option (D142 × Unit)) (g112 : (D142 × D146) → Option (Int × D159)) : (Int × D87) → Option (Int × D159) := fun x =>
cond (decide (x.2.2.1 ≤ (0 : Int))) (
some ((0 : Int), false, ())) (
cond (decide (x.2.2.2.1 < (0 : Int))) (
some ((0 : Int), false, ())) (
cond (decide (x.2.2.2.1 > (3 : Int))) (
some ((0 : Int), false, ())) (
(g109 (x.1, x.2.1, ())).bind fun r1 =>
(g110 (r1.1, x.2.2.1, ())).bind fun r2 =>
(g109 (r2.1, x.2.2.1, ())).bind fun r3 =>
(g111 r3).bind fun r4 =>
(g85 (r1.1, r4)).bind fun r5 =>
cond r2.2.1 (
cond (decide (r5.1.2.1 > (0 : Int))) (
some ((0 : Int), false, ())) (
cond r2.2.1 (
cond (decide (r5.1.2.2.1 ≥ (IntKind.u64.wrap x.2.2.1))) (
some ((0 : Int), false, ())) (
cond (!r2.2.1) (
(g112 (r1.1, x.2.2)).bind fun r6 =>
cond r6.2.1 (
some (r6.1, true, ())) (
some ((0 : Int), false, ()))) (
let v7 := (IntKind.u64.wrap ((IntKind.u64.wrap x.2.2.1) - r5.1.2.2.1))
cond (x.2.2.2.1 == (1 : Int)) (
cond (!(decide (r5.1.2.2.1 > (0 : Int)))) (
some (r2.1, true, ())) (
cond (r2.1 == (9223372036854775807 : Int)) (
some ((0 : Int), false, ())) (
some ((IntKind.i64.wrap (r2.1 + (1 : Int))), true, ())))) (
cond (x.2.2.2.1 == (2 : Int)) (
cond (!(decide (r5.1.2.2.1 ≥ v7))) (
some (r2.1, true, ())) (
cond (r2.1 == (9223372036854775807 : Int)) (
some ((0 : Int), false, ())) (
some ((IntKind.i64.wrap (r2.1 + (1 : Int))), true, ())))) (
cond (x.2.2.2.1 == (3 : Int)) (
cond (decide (r5.1.2.2.1 > v7)) (
cond (r2.1 == (9223372036854775807 : Int)) (
some ((0 : Int), false, ())) (
some ((IntKind.i64.wrap (r2.1 + (1 : Int))), true, ()))) (
cond (r5.1.2.2.1 == v7) (
if (2 : Int) = 0 then none else
cond (!((r2.1.tmod (2 : Int)) != (0 : Int))) (
some (r2.1, true, ())) (
cond (r2.1 == (9223372036854775807 : Int)) (
some ((0 : Int), false, ())) (
some ((IntKind.i64.wrap (r2.1 + (1 : Int))), true, ())))) (
some (r2.1, true, ())))) (
some (r2.1, true, ()))))))) (
cond (!r2.2.1) (
(g112 (r1.1, x.2.2)).bind fun r8 =>
cond r8.2.1 (
some (r8.1, true, ())) (
some ((0 : Int), false, ()))) (
let v9 := (IntKind.u64.wrap ((IntKind.u64.wrap x.2.2.1) - r5.1.2.2.1))
cond (x.2.2.2.1 == (1 : Int)) (
cond (!(decide (r5.1.2.2.1 > (0 : Int)))) (
some (r2.1, true, ())) (
cond (r2.1 == (9223372036854775807 : Int)) (
some ((0 : Int), false, ())) (
some ((IntKind.i64.wrap (r2.1 + (1 : Int))), true, ())))) (
cond (x.2.2.2.1 == (2 : Int)) (
cond (!(decide (r5.1.2.2.1 ≥ v9))) (
some (r2.1, true, ())) (
cond (r2.1 == (9223372036854775807 : Int)) (
some ((0 : Int), false, ())) (
some ((IntKind.i64.wrap (r2.1 + (1 : Int))), true, ())))) (
cond (x.2.2.2.1 == (3 : Int)) (
cond (decide (r5.1.2.2.1 > v9)) (
cond (r2.1 == (9223372036854775807 : Int)) (
some ((0 : Int), false, ())) (
some ((IntKind.i64.wrap (r2.1 + (1 : Int))), true, ()))) (
cond (r5.1.2.2.1 == v9) (
if (2 : Int) = 0 then none else
cond (!((r2.1.tmod (2 : Int)) != (0 : Int))) (
some (r2.1, true, ())) (
cond (r2.1 == (9223372036854775807 : Int)) (
some ((0 : Int), false, ())) (
some ((IntKind.i64.wrap (r2.1 + (1 : Int))), true, ())))) (
some (r2.1, true, ())))) (
some (r2.1, true, ())))))))) (
cond r2.2.1 (
cond (decide (r5.1.2.2.1 ≥ (IntKind.u64.wrap x.2.2.1))) (
some ((0 : Int), false, ())) (
cond (!r2.2.1) (
(g112 (r1.1, x.2.2)).bind fun r10 =>
cond r10.2.1 (
some (r10.1, true, ())) (
some ((0 : Int), false, ()))) (
let v11 := (IntKind.u64.wrap ((IntKind.u64.wrap x.2.2.1) - r5.1.2.2.1))
cond (x.2.2.2.1 == (1 : Int)) (
cond (!(decide (r5.1.2.2.1 > (0 : Int)))) (
some (r2.1, true, ())) (
cond (r2.1 == (9223372036854775807 : Int)) (
some ((0 : Int), false, ())) (
some ((IntKind.i64.wrap (r2.1 + (1 : Int))), true, ())))) (
cond (x.2.2.2.1 == (2 : Int)) (
cond (!(decide (r5.1.2.2.1 ≥ v11))) (
some (r2.1, true, ())) (
cond (r2.1 == (9223372036854775807 : Int)) (
some ((0 : Int), false, ())) (
some ((IntKind.i64.wrap (r2.1 + (1 : Int))), true, ())))) (
cond (x.2.2.2.1 == (3 : Int)) (
cond (decide (r5.1.2.2.1 > v11)) (
cond (r2.1 == (9223372036854775807 : Int)) (
some ((0 : Int), false, ())) (
some ((IntKind.i64.wrap (r2.1 + (1 : Int))), true, ()))) (
cond (r5.1.2.2.1 == v11) (
if (2 : Int) = 0 then none else
cond (!((r2.1.tmod (2 : Int)) != (0 : Int))) (
some (r2.1, true, ())) (
cond (r2.1 == (9223372036854775807 : Int)) (
some ((0 : Int), false, ())) (
some ((IntKind.i64.wrap (r2.1 + (1 : Int))), true, ())))) (
some (r2.1, true, ())))) (
some (r2.1, true, ()))))))) (
cond (!r2.2.1) (
(g112 (r1.1, x.2.2)).bind fun r12 =>
cond r12.2.1 (
some (r12.1, true, ())) (
some ((0 : Int), false, ()))) (
let v13 := (IntKind.u64.wrap ((IntKind.u64.wrap x.2.2.1) - r5.1.2.2.1))
cond (x.2.2.2.1 == (1 : Int)) (
cond (!(decide (r5.1.2.2.1 > (0 : Int)))) (
some (r2.1, true, ())) (
cond (r2.1 == (9223372036854775807 : Int)) (
some ((0 : Int), false, ())) (
some ((IntKind.i64.wrap (r2.1 + (1 : Int))), true, ())))) (
cond (x.2.2.2.1 == (2 : Int)) (
cond (!(decide (r5.1.2.2.1 ≥ v13))) (
some (r2.1, true, ())) (
cond (r2.1 == (9223372036854775807 : Int)) (
some ((0 : Int), false, ())) (
some ((IntKind.i64.wrap (r2.1 + (1 : Int))), true, ())))) (
cond (x.2.2.2.1 == (3 : Int)) (
cond (decide (r5.1.2.2.1 > v13)) (
cond (r2.1 == (9223372036854775807 : Int)) (
some ((0 : Int), false, ())) (
some ((IntKind.i64.wrap (r2.1 + (1 : Int))), true, ()))) (
cond (r5.1.2.2.1 == v13) (
if (2 : Int) = 0 then none else
cond (!((r2.1.tmod (2 : Int)) != (0 : Int))) (
some (r2.1, true, ())) (
cond (r2.1 == (9223372036854775807 : Int)) (
some ((0 : Int), false, ())) (
some ((IntKind.i64.wrap (r2.1 + (1 : Int))), true, ())))) (
some (r2.1, true, ())))) (
some (r2.1, true, ()))))))))))

noncomputable def ps99 : List Ty := [(.int .i64), (.int .i64), (.int .i64), (.int .i64)]
noncomputable def rs99 : List Ty := [(.int .i64), .bool]
noncomputable def ty99 : List (TypeId × Ty) := [(3, (.int .i64)), (120, (.int .u64)), (143, t142)]
noncomputable def by99 : List (TypeId × Nat) := []
noncomputable def eq99 : List TypeId := []
noncomputable def E99 (g85 : (D142 × (D142 × Unit)) → Option (D142 × Unit)) (g109 : D146 → Option (D142 × Unit)) (g110 : (D142 × (Int × Unit)) → Option (Int × D159)) (g111 : (D142 × Unit) → Option (D142 × Unit)) (g112 : (D142 × D146) → Option (Int × D159)) : Go.V.Env := { ty := ty99, bytes := by99, fn := [(85, { ps := [t142, t142], rs := [t142], f := g85 }), (109, { ps := [(.int .i64), (.int .i64)], rs := [t142], f := g109 }), (110, { ps := [t142, (.int .i64)], rs := [(.int .i64), .bool], f := g110 }), (111, { ps := [t142], rs := [t142], f := g111 }), (112, { ps := [t142, (.int .i64), (.int .i64)], rs := [(.int .i64), .bool], f := g112 })], eqs := eq99, inl := [] }
noncomputable def M99 (g85 : (D142 × (D142 × Unit)) → Option (D142 × Unit)) (g109 : D146 → Option (D142 × Unit)) (g110 : (D142 × (Int × Unit)) → Option (Int × D159)) (g111 : (D142 × Unit) → Option (D142 × Unit)) (g112 : (D142 × D146) → Option (Int × D159)) : List (Nat × Go.V.Mark (Ty.prods rs99).den) := []
noncomputable def C99 (N : Nat) (g85 : (D142 × (D142 × Unit)) → Option (D142 × Unit)) (g109 : D146 → Option (D142 × Unit)) (g110 : (D142 × (Int × Unit)) → Option (Int × D159)) (g111 : (D142 × Unit) → Option (D142 × Unit)) (g112 : (D142 × D146) → Option (Int × D159)) : Go.V.Ctx (Ty.prods rs99).den := { E := E99 g85 g109 g110 g111 g112, n := Go.Proofs.Try.f99.ntmps, marks := M99 g85 g109 g110 g111 g112, fin := Go.V.finish (E99 g85 g109 g110 g111 g112) Go.Proofs.Try.f99 rs99, N }
noncomputable def c99 : Code := (Go.Proofs.Try.f99.body).getD .skip

theorem tab99 : tablesB Go.Proofs.Try.prog ty99 by99 eq99 = true := by kernel_rfl
theorem ob99 (N : Nat) (g85 : (D142 × (D142 × Unit)) → Option (D142 × Unit)) (g109 : D146 → Option (D142 × Unit)) (g110 : (D142 × (Int × Unit)) → Option (Int × D159)) (g111 : (D142 × Unit) → Option (D142 × Unit)) (g112 : (D142 × D146) → Option (Int × D159)) : obls (C99 N g85 g109 g110 g111 g112) 1 c99 = [] := by kernel_rfl
theorem eF99 (N : Nat) (g85 : (D142 × (D142 × Unit)) → Option (D142 × Unit)) (g109 : D146 → Option (D142 × Unit)) (g110 : (D142 × (Int × Unit)) → Option (Int × D159)) (g111 : (D142 × Unit) → Option (D142 × Unit)) (g112 : (D142 × D146) → Option (Int × D159)) (x : (Ty.prods ps99).den) : Go.V.evBody (E99 g85 g109 g110 g111 g112) Go.Proofs.Try.f99 rs99 (M99 g85 g109 g110 g111 g112) N (Go.V.start Go.Proofs.Try.f99 ps99 x) = F99 N g85 g109 g110 g111 g112 x := by kernel_rfl
theorem s99 (N : Nat) (g85 : (D142 × (D142 × Unit)) → Option (D142 × Unit)) (g109 : D146 → Option (D142 × Unit)) (g110 : (D142 × (Int × Unit)) → Option (Int × D159)) (g111 : (D142 × Unit) → Option (D142 × Unit)) (g112 : (D142 × D146) → Option (Int × D159)) (h85 : Sound Go.Proofs.Try.prog 85 { ps := [t142, t142], rs := [t142], f := g85 }) (h109 : Sound Go.Proofs.Try.prog 109 { ps := [(.int .i64), (.int .i64)], rs := [t142], f := g109 }) (h110 : Sound Go.Proofs.Try.prog 110 { ps := [t142, (.int .i64)], rs := [(.int .i64), .bool], f := g110 }) (h111 : Sound Go.Proofs.Try.prog 111 { ps := [t142], rs := [t142], f := g111 }) (h112 : Sound Go.Proofs.Try.prog 112 { ps := [t142, (.int .i64), (.int .i64)], rs := [(.int .i64), .bool], f := g112 }) : Sound Go.Proofs.Try.prog 99 { ps := ps99, rs := rs99, f := F99 N g85 g109 g110 g111 g112 } := by
  have hE : EnvOk Go.Proofs.Try.prog (E99 g85 g109 g110 g111 g112) := env_ok tab99 (by
    intro p hp
    simp only [List.mem_cons, List.not_mem_nil, or_false] at hp
    rcases hp with rfl | rfl | rfl | rfl | rfl
    · exact ⟨h85, Go.Proofs.Try.f85, Go.Proofs.Try.func85, by kernel_rfl, by kernel_rfl⟩
    · exact ⟨h109, Go.Proofs.Try.f109, Go.Proofs.Try.func109, by kernel_rfl, by kernel_rfl⟩
    · exact ⟨h110, Go.Proofs.Try.f110, Go.Proofs.Try.func110, by kernel_rfl, by kernel_rfl⟩
    · exact ⟨h111, Go.Proofs.Try.f111, Go.Proofs.Try.func111, by kernel_rfl, by kernel_rfl⟩
    · exact ⟨h112, Go.Proofs.Try.f112, Go.Proofs.Try.func112, by kernel_rfl, by kernel_rfl⟩) (by
    intro p hp
    cases hp)
  have h := fn_sound hE (by kernel_rfl) Go.Proofs.Try.func99 (show Go.Proofs.Try.f99.body = some c99 by kernel_rfl) ps99 rs99 (M99 g85 g109 g110 g111 g112) N (by
    intro o ho
    have ho : o ∈ obls (C99 N g85 g109 g110 g111 g112) 1 c99 := ho
    rw [ob99] at ho
    cases ho)
  have e : (fun x => Go.V.evBody (E99 g85 g109 g110 g111 g112) Go.Proofs.Try.f99 rs99 (M99 g85 g109 g110 g111 g112) N (Go.V.start Go.Proofs.Try.f99 ps99 x)) = F99 N g85 g109 g110 g111 g112 := funext fun x => eF99 N g85 g109 g110 g111 g112 x
  rw [e] at h
  exact h

end Go.Proofs.Ytkifmnocomadfaa
end

/- The reading of poundage poundageref11.Left. -/
section
set_option linter.unusedVariables false
set_option maxRecDepth 100000
namespace Go.Proofs.Ytkifmnocomadfaa
open Go.V

noncomputable def F107 (N : Nat) (g84 : (D142 × Unit) → Option (Int × D159)) (g99 : (Int × D87) → Option (Int × D159)) (g109 : D146 → Option (D142 × Unit)) : (D113 × (Int × Unit)) → Option (Int × D159) := fun x =>
cond (decide (x.2.1 < (0 : Int))) (
some ((0 : Int), false, ())) (
let v1 := (if (0 : Int) > (IntKind.i64.wrap (x.2.1 - x.1.2.2.2.1)) then (0 : Int) else (IntKind.i64.wrap (x.2.1 - x.1.2.2.2.1)))
(g99 (v1, (1 : Int), x.1.2.2.2.2.1, (1 : Int), ())).bind fun r2 =>
cond (!r2.2.1) (
some ((0 : Int), false, ())) (
(g109 (r2.1, x.1.2.2.2.2.1, ())).bind fun r3 =>
(g84 r3).bind fun r4 =>
some r4))

noncomputable def ps107 : List Ty := [t113, (.int .i64)]
noncomputable def rs107 : List Ty := [(.int .i64), .bool]
noncomputable def ty107 : List (TypeId × Ty) := [(3, (.int .i64)), (114, t113)]
noncomputable def by107 : List (TypeId × Nat) := []
noncomputable def eq107 : List TypeId := []
noncomputable def E107 (g84 : (D142 × Unit) → Option (Int × D159)) (g99 : (Int × D87) → Option (Int × D159)) (g109 : D146 → Option (D142 × Unit)) : Go.V.Env := { ty := ty107, bytes := by107, fn := [(84, { ps := [t142], rs := [(.int .i64), .bool], f := g84 }), (99, { ps := [(.int .i64), (.int .i64), (.int .i64), (.int .i64)], rs := [(.int .i64), .bool], f := g99 }), (109, { ps := [(.int .i64), (.int .i64)], rs := [t142], f := g109 })], eqs := eq107, inl := [] }
noncomputable def M107 (g84 : (D142 × Unit) → Option (Int × D159)) (g99 : (Int × D87) → Option (Int × D159)) (g109 : D146 → Option (D142 × Unit)) : List (Nat × Go.V.Mark (Ty.prods rs107).den) := []
noncomputable def C107 (N : Nat) (g84 : (D142 × Unit) → Option (Int × D159)) (g99 : (Int × D87) → Option (Int × D159)) (g109 : D146 → Option (D142 × Unit)) : Go.V.Ctx (Ty.prods rs107).den := { E := E107 g84 g99 g109, n := Go.Proofs.Try.f107.ntmps, marks := M107 g84 g99 g109, fin := Go.V.finish (E107 g84 g99 g109) Go.Proofs.Try.f107 rs107, N }
noncomputable def c107 : Code := (Go.Proofs.Try.f107.body).getD .skip

theorem tab107 : tablesB Go.Proofs.Try.prog ty107 by107 eq107 = true := by kernel_rfl
theorem ob107 (N : Nat) (g84 : (D142 × Unit) → Option (Int × D159)) (g99 : (Int × D87) → Option (Int × D159)) (g109 : D146 → Option (D142 × Unit)) : obls (C107 N g84 g99 g109) 1 c107 = [] := by kernel_rfl
theorem eF107 (N : Nat) (g84 : (D142 × Unit) → Option (Int × D159)) (g99 : (Int × D87) → Option (Int × D159)) (g109 : D146 → Option (D142 × Unit)) (x : (Ty.prods ps107).den) : Go.V.evBody (E107 g84 g99 g109) Go.Proofs.Try.f107 rs107 (M107 g84 g99 g109) N (Go.V.start Go.Proofs.Try.f107 ps107 x) = F107 N g84 g99 g109 x := by kernel_rfl
theorem s107 (N : Nat) (g84 : (D142 × Unit) → Option (Int × D159)) (g99 : (Int × D87) → Option (Int × D159)) (g109 : D146 → Option (D142 × Unit)) (h84 : Sound Go.Proofs.Try.prog 84 { ps := [t142], rs := [(.int .i64), .bool], f := g84 }) (h99 : Sound Go.Proofs.Try.prog 99 { ps := [(.int .i64), (.int .i64), (.int .i64), (.int .i64)], rs := [(.int .i64), .bool], f := g99 }) (h109 : Sound Go.Proofs.Try.prog 109 { ps := [(.int .i64), (.int .i64)], rs := [t142], f := g109 }) : Sound Go.Proofs.Try.prog 107 { ps := ps107, rs := rs107, f := F107 N g84 g99 g109 } := by
  have hE : EnvOk Go.Proofs.Try.prog (E107 g84 g99 g109) := env_ok tab107 (by
    intro p hp
    simp only [List.mem_cons, List.not_mem_nil, or_false] at hp
    rcases hp with rfl | rfl | rfl
    · exact ⟨h84, Go.Proofs.Try.f84, Go.Proofs.Try.func84, by kernel_rfl, by kernel_rfl⟩
    · exact ⟨h99, Go.Proofs.Try.f99, Go.Proofs.Try.func99, by kernel_rfl, by kernel_rfl⟩
    · exact ⟨h109, Go.Proofs.Try.f109, Go.Proofs.Try.func109, by kernel_rfl, by kernel_rfl⟩) (by
    intro p hp
    cases hp)
  have h := fn_sound hE (by kernel_rfl) Go.Proofs.Try.func107 (show Go.Proofs.Try.f107.body = some c107 by kernel_rfl) ps107 rs107 (M107 g84 g99 g109) N (by
    intro o ho
    have ho : o ∈ obls (C107 N g84 g99 g109) 1 c107 := ho
    rw [ob107] at ho
    cases ho)
  have e : (fun x => Go.V.evBody (E107 g84 g99 g109) Go.Proofs.Try.f107 rs107 (M107 g84 g99 g109) N (Go.V.start Go.Proofs.Try.f107 ps107 x)) = F107 N g84 g99 g109 := funext fun x => eF107 N g84 g99 g109 x
  rw [e] at h
  exact h

end Go.Proofs.Ytkifmnocomadfaa
end

/- The reading of poundage poundageref11.Steps. -/
section
set_option linter.unusedVariables false
set_option maxRecDepth 100000
namespace Go.Proofs.Ytkifmnocomadfaa
open Go.V

noncomputable def L108_0i : Shape := { items := [.tm 1 (.int .i64), .tm 6 (.int .i64), .tm 21 (.sl 147 t146), .tm 22 (.int .i64), .tm 23 (.int .i64), .ownT 5 172 t87], boxes := [] }
noncomputable def L108_0o : Shape := { items := [.ownT 5 172 t87], boxes := [] }
noncomputable def L108_0 (N : Nat) : Nat → (Int × (Int × ((List D146) × (Int × (Int × ((List D87) × Unit)))))) → (((List D87) × Unit) → Option ((List D87) × Unit)) → Option ((List D87) × Unit)
| 0, _, _ => none
| k + 1, x2, Kx =>
cond (decide (x2.2.2.2.2.1 < x2.2.2.2.1)) (
if 0 ≤ x2.2.2.2.2.1 then
if x2.2.2.2.2.1 < (x2.2.2.1.length : Int) then
let e3 : D146 := rdAt (t := t146) x2.2.2.1 x2.2.2.2.2.1
cond (x2.2.2.2.2.1 == x2.2.1) (
cond (decide (x2.1 > (0 : Int))) (
if x2.2.2.2.2.2.1.length + 1 ≤ 5864062014805 then
some ((x2.2.2.2.2.2.1 ++ [((0 : Int), x2.1, e3.2)]), ())
else none) (
some x2.2.2.2.2.2)) (
cond (decide (x2.1 ≤ e3.1)) (
cond (decide (x2.1 > (0 : Int))) (
if x2.2.2.2.2.2.1.length + 1 ≤ 5864062014805 then
some ((x2.2.2.2.2.2.1 ++ [((0 : Int), x2.1, e3.2)]), ())
else none) (
some x2.2.2.2.2.2)) (
L108_0 N k (x2.1, x2.2.1, x2.2.2.1, x2.2.2.2.1, (IntKind.i64.wrap (x2.2.2.2.2.1 + (1 : Int))), x2.2.2.2.2.2.1, ()) Kx))
else none
else none) (
Kx (x2.2.2.2.2.2.1, ()))

noncomputable def L108_1i : Shape := { items := [.tm 1 (.int .i64), .ptr 2 0 0, .bx 0 0 t113, .tm 6 (.int .i64), .tm 50 (.sl 147 t146), .tm 51 (.int .i64), .tm 52 (.int .i64), .ownT 5 172 t87], boxes := [114] }
noncomputable def L108_1o : Shape := { items := [.ownT 5 172 t87], boxes := [] }
noncomputable def L108_1 (N : Nat) : Nat → (Int × (Unit × (D113 × (Int × ((List D146) × (Int × (Int × ((List D87) × Unit)))))))) → (((List D87) × Unit) → Option ((List D87) × Unit)) → Option ((List D87) × Unit)
| 0, _, _ => none
| k + 1, x5, Kx =>
cond (decide (x5.2.2.2.2.2.2.1 < x5.2.2.2.2.2.1)) (
if 0 ≤ x5.2.2.2.2.2.2.1 then
if x5.2.2.2.2.2.2.1 < (x5.2.2.2.2.1.length : Int) then
let e6 : D146 := rdAt (t := t146) x5.2.2.2.2.1 x5.2.2.2.2.2.2.1
cond (decide (x5.2.2.2.2.2.2.1 > (0 : Int))) (
let v7 := (IntKind.i64.wrap (x5.2.2.2.2.2.2.1 - (1 : Int)))
if 0 ≤ v7 then
if v7 < (x5.2.2.1.2.2.2.2.2.2.1.length : Int) then
let e8 : D146 := rdAt (t := t146) x5.2.2.1.2.2.2.2.2.2.1 v7
cond (decide (x5.2.2.2.2.2.2.1 < x5.2.2.2.1)) (
cond (decide (e6.1 < x5.1)) (
cond (decide (e6.1 > e8.1)) (
if x5.2.2.2.2.2.2.2.1.length + 1 ≤ 5864062014805 then
L108_1 N k (x5.1, (), x5.2.2.1, x5.2.2.2.1, x5.2.2.2.2.1, x5.2.2.2.2.2.1, (IntKind.i64.wrap (x5.2.2.2.2.2.2.1 + (1 : Int))), (x5.2.2.2.2.2.2.2.1 ++ [(e8.1, e6)]), ()) Kx
else none) (
L108_1 N k (x5.1, (), x5.2.2.1, x5.2.2.2.1, x5.2.2.2.2.1, x5.2.2.2.2.2.1, (IntKind.i64.wrap (x5.2.2.2.2.2.2.1 + (1 : Int))), x5.2.2.2.2.2.2.2.1, ()) Kx)) (
cond (decide (x5.1 > e8.1)) (
if x5.2.2.2.2.2.2.2.1.length + 1 ≤ 5864062014805 then
L108_1 N k (x5.1, (), x5.2.2.1, x5.2.2.2.1, x5.2.2.2.2.1, x5.2.2.2.2.2.1, (IntKind.i64.wrap (x5.2.2.2.2.2.2.1 + (1 : Int))), (x5.2.2.2.2.2.2.2.1 ++ [(e8.1, x5.1, e6.2)]), ()) Kx
else none) (
L108_1 N k (x5.1, (), x5.2.2.1, x5.2.2.2.1, x5.2.2.2.2.1, x5.2.2.2.2.2.1, (IntKind.i64.wrap (x5.2.2.2.2.2.2.1 + (1 : Int))), x5.2.2.2.2.2.2.2.1, ()) Kx))) (
cond (decide (x5.1 > e8.1)) (
if x5.2.2.2.2.2.2.2.1.length + 1 ≤ 5864062014805 then
L108_1 N k (x5.1, (), x5.2.2.1, x5.2.2.2.1, x5.2.2.2.2.1, x5.2.2.2.2.2.1, (IntKind.i64.wrap (x5.2.2.2.2.2.2.1 + (1 : Int))), (x5.2.2.2.2.2.2.2.1 ++ [(e8.1, x5.1, e6.2)]), ()) Kx
else none) (
L108_1 N k (x5.1, (), x5.2.2.1, x5.2.2.2.1, x5.2.2.2.2.1, x5.2.2.2.2.2.1, (IntKind.i64.wrap (x5.2.2.2.2.2.2.1 + (1 : Int))), x5.2.2.2.2.2.2.2.1, ()) Kx))
else none
else none) (
cond (decide (x5.2.2.2.2.2.2.1 < x5.2.2.2.1)) (
cond (decide (e6.1 < x5.1)) (
cond (decide (e6.1 > (0 : Int))) (
if x5.2.2.2.2.2.2.2.1.length + 1 ≤ 5864062014805 then
L108_1 N k (x5.1, (), x5.2.2.1, x5.2.2.2.1, x5.2.2.2.2.1, x5.2.2.2.2.2.1, (IntKind.i64.wrap (x5.2.2.2.2.2.2.1 + (1 : Int))), (x5.2.2.2.2.2.2.2.1 ++ [((0 : Int), e6)]), ()) Kx
else none) (
L108_1 N k (x5.1, (), x5.2.2.1, x5.2.2.2.1, x5.2.2.2.2.1, x5.2.2.2.2.2.1, (IntKind.i64.wrap (x5.2.2.2.2.2.2.1 + (1 : Int))), x5.2.2.2.2.2.2.2.1, ()) Kx)) (
cond (decide (x5.1 > (0 : Int))) (
if x5.2.2.2.2.2.2.2.1.length + 1 ≤ 5864062014805 then
L108_1 N k (x5.1, (), x5.2.2.1, x5.2.2.2.1, x5.2.2.2.2.1, x5.2.2.2.2.2.1, (IntKind.i64.wrap (x5.2.2.2.2.2.2.1 + (1 : Int))), (x5.2.2.2.2.2.2.2.1 ++ [((0 : Int), x5.1, e6.2)]), ()) Kx
else none) (
L108_1 N k (x5.1, (), x5.2.2.1, x5.2.2.2.1, x5.2.2.2.2.1, x5.2.2.2.2.2.1, (IntKind.i64.wrap (x5.2.2.2.2.2.2.1 + (1 : Int))), x5.2.2.2.2.2.2.2.1, ()) Kx))) (
cond (decide (x5.1 > (0 : Int))) (
if x5.2.2.2.2.2.2.2.1.length + 1 ≤ 5864062014805 then
L108_1 N k (x5.1, (), x5.2.2.1, x5.2.2.2.1, x5.2.2.2.2.1, x5.2.2.2.2.2.1, (IntKind.i64.wrap (x5.2.2.2.2.2.2.1 + (1 : Int))), (x5.2.2.2.2.2.2.2.1 ++ [((0 : Int), x5.1, e6.2)]), ()) Kx
else none) (
L108_1 N k (x5.1, (), x5.2.2.1, x5.2.2.2.1, x5.2.2.2.2.1, x5.2.2.2.2.2.1, (IntKind.i64.wrap (x5.2.2.2.2.2.2.1 + (1 : Int))), x5.2.2.2.2.2.2.2.1, ()) Kx)))
else none
else none) (
Kx (x5.2.2.2.2.2.2.2.1, ()))

noncomputable def F108 (N : Nat) : (D113 × (Int × Unit)) → Option ((List D87) × Unit) := fun x =>
let v1 := (IntKind.i64.wrap ((x.1.2.2.2.2.2.2.1.length : Int) - (1 : Int)))
cond (x.1.2.2.2.2.2.1 == (2 : Int)) (
L108_0 N N (x.2.1, v1, x.1.2.2.2.2.2.2.1, (x.1.2.2.2.2.2.2.1.length : Int), (0 : Int), [], ()) fun y4 =>
some y4) (
L108_1 N N (x.2.1, (), x.1, v1, x.1.2.2.2.2.2.2.1, (x.1.2.2.2.2.2.2.1.length : Int), (0 : Int), [], ()) fun y9 =>
some y9)

noncomputable def ps108 : List Ty := [t113, (.int .i64)]
noncomputable def rs108 : List Ty := [(.sl 172 t87)]
noncomputable def ty108 : List (TypeId × Ty) := [(3, (.int .i64)), (111, (.sl 147 t146)), (114, t113), (147, t146), (169, (.sl 172 t87)), (172, t87)]
noncomputable def by108 : List (TypeId × Nat) := [(172, 24)]
noncomputable def eq108 : List TypeId := []
noncomputable def E108 : Go.V.Env := { ty := ty108, bytes := by108, fn := [], eqs := eq108, inl := [] }
noncomputable def M108 : List (Nat × Go.V.Mark (Ty.prods rs108).den) := [(1956, { ins := L108_0i, outs := L108_0o, ex := some 0, f := fun N => L108_0 N }), (500, { ins := L108_1i, outs := L108_1o, ex := some 2, f := fun N => L108_1 N })]
noncomputable def C108 (N : Nat) : Go.V.Ctx (Ty.prods rs108).den := { E := E108, n := Go.Proofs.Try.f108.ntmps, marks := M108, fin := Go.V.finish (E108) Go.Proofs.Try.f108 rs108, N }
noncomputable def c108 : Code := (Go.Proofs.Try.f108.body).getD .skip

theorem tab108 : tablesB Go.Proofs.Try.prog ty108 by108 eq108 = true := by kernel_rfl
theorem oL108_0 (N : Nat) : (Obl.loop { ins := L108_0i, outs := L108_0o, ex := some 0, f := fun N => L108_0 N } 1956 (subc [true, true, true, false, true, false, false, true, false, false] c108) : Obl (Ty.prods rs108).den).holds (C108 N) := by
  intro x Kx
  exact ⟨by kernel_rfl, fun k => by kernel_rfl⟩
theorem oL108_1 (N : Nat) : (Obl.loop { ins := L108_1i, outs := L108_1o, ex := some 2, f := fun N => L108_1 N } 500 (subc [true, true, true, true, false, true, false, false] c108) : Obl (Ty.prods rs108).den).holds (C108 N) := by
  intro x Kx
  exact ⟨by kernel_rfl, fun k => by kernel_rfl⟩
theorem ob108 (N : Nat) : obls (C108 N) 1 c108 = [.loop { ins := L108_0i, outs := L108_0o, ex := some 0, f := fun N => L108_0 N } 1956 (subc [true, true, true, false, true, false, false, true, false, false] c108), .loop { ins := L108_1i, outs := L108_1o, ex := some 2, f := fun N => L108_1 N } 500 (subc [true, true, true, true, false, true, false, false] c108)] := by kernel_rfl
theorem eF108 (N : Nat) (x : (Ty.prods ps108).den) : Go.V.evBody (E108) Go.Proofs.Try.f108 rs108 (M108) N (Go.V.start Go.Proofs.Try.f108 ps108 x) = F108 N x := by kernel_rfl
theorem s108 (N : Nat) : Sound Go.Proofs.Try.prog 108 { ps := ps108, rs := rs108, f := F108 N } := by
  have hE : EnvOk Go.Proofs.Try.prog (E108) := env_ok tab108 (by
    intro p hp
    cases hp) (by
    intro p hp
    cases hp)
  have h := fn_sound hE (by kernel_rfl) Go.Proofs.Try.func108 (show Go.Proofs.Try.f108.body = some c108 by kernel_rfl) ps108 rs108 (M108) N (by
    intro o ho
    have ho : o ∈ obls (C108 N) 1 c108 := ho
    rw [ob108] at ho
    simp only [List.mem_cons, List.not_mem_nil, or_false] at ho
    rcases ho with rfl | rfl
    · exact oL108_0 N
    · exact oL108_1 N)
  have e : (fun x => Go.V.evBody (E108) Go.Proofs.Try.f108 rs108 (M108) N (Go.V.start Go.Proofs.Try.f108 ps108 x)) = F108 N := funext fun x => eF108 N x
  rw [e] at h
  exact h

end Go.Proofs.Ytkifmnocomadfaa
end

/- The reading of poundage poundageref11.Micro. -/
section
set_option linter.unusedVariables false
set_option maxRecDepth 100000
namespace Go.Proofs.Ytkifmnocomadfaa
open Go.V

noncomputable def L98_0i : Shape := { items := [.tm 8 (.int .i64), .tm 25 (.sl 172 t87), .tm 26 (.int .i64), .tm 27 (.int .i64)], boxes := [] }
noncomputable def L98_0o : Shape := { items := [.tm 8 (.int .i64)], boxes := [] }
noncomputable def L98_0 (N : Nat) (g84 : (D142 × Unit) → Option (Int × D159)) (g85 : (D142 × (D142 × Unit)) → Option (D142 × Unit)) (g86 : (Int × Unit) → Option (D142 × Unit)) (g107 : (D113 × (Int × Unit)) → Option (Int × D159)) (g108 : (D113 × (Int × Unit)) → Option ((List D87) × Unit)) (g109 : D146 → Option (D142 × Unit)) : Nat → (Int × ((List D87) × D146)) → ((Int × Unit) → Option (Int × D159)) → Option (Int × D159)
| 0, _, _ => none
| k + 1, x3, Kx =>
cond (decide (x3.2.2.2.1 < x3.2.2.1)) (
if 0 ≤ x3.2.2.2.1 then
if x3.2.2.2.1 < (x3.2.1.length : Int) then
let e4 : D87 := rdAt (t := t87) x3.2.1 x3.2.2.2.1
(g109 (e4.2.2.1, (IntKind.i64.wrap (e4.2.1 - e4.1)), ())).bind fun r5 =>
(g84 r5).bind fun r6 =>
(g86 (x3.1, ())).bind fun r7 =>
(g86 (r6.1, ())).bind fun r8 =>
(g85 (r7.1, r8)).bind fun r9 =>
(g84 r9).bind fun r10 =>
cond (!r6.2.1) (
some ((0 : Int), false, ())) (
cond (!r10.2.1) (
some ((0 : Int), false, ())) (
L98_0 N g84 g85 g86 g107 g108 g109 k (r10.1, x3.2.1, x3.2.2.1, (IntKind.i64.wrap (x3.2.2.2.1 + (1 : Int))), ()) Kx))
else none
else none) (
Kx (x3.1, ()))

noncomputable def F98 (N : Nat) (g84 : (D142 × Unit) → Option (Int × D159)) (g85 : (D142 × (D142 × Unit)) → Option (D142 × Unit)) (g86 : (Int × Unit) → Option (D142 × Unit)) (g107 : (D113 × (Int × Unit)) → Option (Int × D159)) (g108 : (D113 × (Int × Unit)) → Option ((List D87) × Unit)) (g109 : D146 → Option (D142 × Unit)) : (D113 × (Int × Unit)) → Option (Int × D159) := fun x =>
(g107 x).bind fun r1 =>
cond (!r1.2.1) (
some ((0 : Int), false, ())) (
(g108 (x.1, r1.1, ())).bind fun r2 =>
L98_0 N g84 g85 g86 g107 g108 g109 N ((0 : Int), r2.1, (r2.1.length : Int), (0 : Int), ()) fun y11 =>
some (y11.1, true, ()))

noncomputable def ps98 : List Ty := [t113, (.int .i64)]
noncomputable def rs98 : List Ty := [(.int .i64), .bool]
noncomputable def ty98 : List (TypeId × Ty) := [(3, (.int .i64)), (114, t113), (169, (.sl 172 t87)), (172, t87)]
noncomputable def by98 : List (TypeId × Nat) := []
noncomputable def eq98 : List TypeId := []
noncomputable def E98 (g84 : (D142 × Unit) → Option (Int × D159)) (g85 : (D142 × (D142 × Unit)) → Option (D142 × Unit)) (g86 : (Int × Unit) → Option (D142 × Unit)) (g107 : (D113 × (Int × Unit)) → Option (Int × D159)) (g108 : (D113 × (Int × Unit)) → Option ((List D87) × Unit)) (g109 : D146 → Option (D142 × Unit)) : Go.V.Env := { ty := ty98, bytes := by98, fn := [(84, { ps := [t142], rs := [(.int .i64), .bool], f := g84 }), (85, { ps := [t142, t142], rs := [t142], f := g85 }), (86, { ps := [(.int .i64)], rs := [t142], f := g86 }), (107, { ps := [t113, (.int .i64)], rs := [(.int .i64), .bool], f := g107 }), (108, { ps := [t113, (.int .i64)], rs := [(.sl 172 t87)], f := g108 }), (109, { ps := [(.int .i64), (.int .i64)], rs := [t142], f := g109 })], eqs := eq98, inl := [] }
noncomputable def M98 (g84 : (D142 × Unit) → Option (Int × D159)) (g85 : (D142 × (D142 × Unit)) → Option (D142 × Unit)) (g86 : (Int × Unit) → Option (D142 × Unit)) (g107 : (D113 × (Int × Unit)) → Option (Int × D159)) (g108 : (D113 × (Int × Unit)) → Option ((List D87) × Unit)) (g109 : D146 → Option (D142 × Unit)) : List (Nat × Go.V.Mark (Ty.prods rs98).den) := [(500, { ins := L98_0i, outs := L98_0o, ex := some 0, f := fun N => L98_0 N g84 g85 g86 g107 g108 g109 })]
noncomputable def C98 (N : Nat) (g84 : (D142 × Unit) → Option (Int × D159)) (g85 : (D142 × (D142 × Unit)) → Option (D142 × Unit)) (g86 : (Int × Unit) → Option (D142 × Unit)) (g107 : (D113 × (Int × Unit)) → Option (Int × D159)) (g108 : (D113 × (Int × Unit)) → Option ((List D87) × Unit)) (g109 : D146 → Option (D142 × Unit)) : Go.V.Ctx (Ty.prods rs98).den := { E := E98 g84 g85 g86 g107 g108 g109, n := Go.Proofs.Try.f98.ntmps, marks := M98 g84 g85 g86 g107 g108 g109, fin := Go.V.finish (E98 g84 g85 g86 g107 g108 g109) Go.Proofs.Try.f98 rs98, N }
noncomputable def c98 : Code := (Go.Proofs.Try.f98.body).getD .skip

theorem tab98 : tablesB Go.Proofs.Try.prog ty98 by98 eq98 = true := by kernel_rfl
theorem oL98_0 (N : Nat) (g84 : (D142 × Unit) → Option (Int × D159)) (g85 : (D142 × (D142 × Unit)) → Option (D142 × Unit)) (g86 : (Int × Unit) → Option (D142 × Unit)) (g107 : (D113 × (Int × Unit)) → Option (Int × D159)) (g108 : (D113 × (Int × Unit)) → Option ((List D87) × Unit)) (g109 : D146 → Option (D142 × Unit)) : (Obl.loop { ins := L98_0i, outs := L98_0o, ex := some 0, f := fun N => L98_0 N g84 g85 g86 g107 g108 g109 } 500 (subc [true, true, true, true, false, true, false, false] c98) : Obl (Ty.prods rs98).den).holds (C98 N g84 g85 g86 g107 g108 g109) := by
  intro x Kx
  exact ⟨by kernel_rfl, fun k => by kernel_rfl⟩
theorem ob98 (N : Nat) (g84 : (D142 × Unit) → Option (Int × D159)) (g85 : (D142 × (D142 × Unit)) → Option (D142 × Unit)) (g86 : (Int × Unit) → Option (D142 × Unit)) (g107 : (D113 × (Int × Unit)) → Option (Int × D159)) (g108 : (D113 × (Int × Unit)) → Option ((List D87) × Unit)) (g109 : D146 → Option (D142 × Unit)) : obls (C98 N g84 g85 g86 g107 g108 g109) 1 c98 = [.loop { ins := L98_0i, outs := L98_0o, ex := some 0, f := fun N => L98_0 N g84 g85 g86 g107 g108 g109 } 500 (subc [true, true, true, true, false, true, false, false] c98)] := by kernel_rfl
theorem eF98 (N : Nat) (g84 : (D142 × Unit) → Option (Int × D159)) (g85 : (D142 × (D142 × Unit)) → Option (D142 × Unit)) (g86 : (Int × Unit) → Option (D142 × Unit)) (g107 : (D113 × (Int × Unit)) → Option (Int × D159)) (g108 : (D113 × (Int × Unit)) → Option ((List D87) × Unit)) (g109 : D146 → Option (D142 × Unit)) (x : (Ty.prods ps98).den) : Go.V.evBody (E98 g84 g85 g86 g107 g108 g109) Go.Proofs.Try.f98 rs98 (M98 g84 g85 g86 g107 g108 g109) N (Go.V.start Go.Proofs.Try.f98 ps98 x) = F98 N g84 g85 g86 g107 g108 g109 x := by kernel_rfl
theorem s98 (N : Nat) (g84 : (D142 × Unit) → Option (Int × D159)) (g85 : (D142 × (D142 × Unit)) → Option (D142 × Unit)) (g86 : (Int × Unit) → Option (D142 × Unit)) (g107 : (D113 × (Int × Unit)) → Option (Int × D159)) (g108 : (D113 × (Int × Unit)) → Option ((List D87) × Unit)) (g109 : D146 → Option (D142 × Unit)) (h84 : Sound Go.Proofs.Try.prog 84 { ps := [t142], rs := [(.int .i64), .bool], f := g84 }) (h85 : Sound Go.Proofs.Try.prog 85 { ps := [t142, t142], rs := [t142], f := g85 }) (h86 : Sound Go.Proofs.Try.prog 86 { ps := [(.int .i64)], rs := [t142], f := g86 }) (h107 : Sound Go.Proofs.Try.prog 107 { ps := [t113, (.int .i64)], rs := [(.int .i64), .bool], f := g107 }) (h108 : Sound Go.Proofs.Try.prog 108 { ps := [t113, (.int .i64)], rs := [(.sl 172 t87)], f := g108 }) (h109 : Sound Go.Proofs.Try.prog 109 { ps := [(.int .i64), (.int .i64)], rs := [t142], f := g109 }) : Sound Go.Proofs.Try.prog 98 { ps := ps98, rs := rs98, f := F98 N g84 g85 g86 g107 g108 g109 } := by
  have hE : EnvOk Go.Proofs.Try.prog (E98 g84 g85 g86 g107 g108 g109) := env_ok tab98 (by
    intro p hp
    simp only [List.mem_cons, List.not_mem_nil, or_false] at hp
    rcases hp with rfl | rfl | rfl | rfl | rfl | rfl
    · exact ⟨h84, Go.Proofs.Try.f84, Go.Proofs.Try.func84, by kernel_rfl, by kernel_rfl⟩
    · exact ⟨h85, Go.Proofs.Try.f85, Go.Proofs.Try.func85, by kernel_rfl, by kernel_rfl⟩
    · exact ⟨h86, Go.Proofs.Try.f86, Go.Proofs.Try.func86, by kernel_rfl, by kernel_rfl⟩
    · exact ⟨h107, Go.Proofs.Try.f107, Go.Proofs.Try.func107, by kernel_rfl, by kernel_rfl⟩
    · exact ⟨h108, Go.Proofs.Try.f108, Go.Proofs.Try.func108, by kernel_rfl, by kernel_rfl⟩
    · exact ⟨h109, Go.Proofs.Try.f109, Go.Proofs.Try.func109, by kernel_rfl, by kernel_rfl⟩) (by
    intro p hp
    cases hp)
  have h := fn_sound hE (by kernel_rfl) Go.Proofs.Try.func98 (show Go.Proofs.Try.f98.body = some c98 by kernel_rfl) ps98 rs98 (M98 g84 g85 g86 g107 g108 g109) N (by
    intro o ho
    have ho : o ∈ obls (C98 N g84 g85 g86 g107 g108 g109) 1 c98 := ho
    rw [ob98] at ho
    simp only [List.mem_cons, List.not_mem_nil, or_false] at ho
    rcases ho with rfl
    · exact oL98_0 N g84 g85 g86 g107 g108 g109)
  have e : (fun x => Go.V.evBody (E98 g84 g85 g86 g107 g108 g109) Go.Proofs.Try.f98 rs98 (M98 g84 g85 g86 g107 g108 g109) N (Go.V.start Go.Proofs.Try.f98 ps98 x)) = F98 N g84 g85 g86 g107 g108 g109 := funext fun x => eF98 N g84 g85 g86 g107 g108 g109 x
  rw [e] at h
  exact h

end Go.Proofs.Ytkifmnocomadfaa
end

/- The reading of poundage poundageref11.Charge. -/
section
set_option linter.unusedVariables false
set_option maxRecDepth 100000
namespace Go.Proofs.Ytkifmnocomadfaa
open Go.V

noncomputable def F82 (N : Nat) (g98 : (D113 × (Int × Unit)) → Option (Int × D159)) (g99 : (Int × D87) → Option (Int × D159)) : (D113 × (Int × Unit)) → Option (Int × D159) := fun x =>
(g98 x).bind fun r1 =>
cond (!r1.2.1) (
some ((0 : Int), false, ())) (
(g99 (r1.1, (1 : Int), (1000000 : Int), x.1.2.2.2.2.2.2.2.1, ())).bind fun r2 =>
some r2)

noncomputable def ps82 : List Ty := [t113, (.int .i64)]
noncomputable def rs82 : List Ty := [(.int .i64), .bool]
noncomputable def ty82 : List (TypeId × Ty) := [(3, (.int .i64)), (114, t113)]
noncomputable def by82 : List (TypeId × Nat) := []
noncomputable def eq82 : List TypeId := []
noncomputable def E82 (g98 : (D113 × (Int × Unit)) → Option (Int × D159)) (g99 : (Int × D87) → Option (Int × D159)) : Go.V.Env := { ty := ty82, bytes := by82, fn := [(98, { ps := [t113, (.int .i64)], rs := [(.int .i64), .bool], f := g98 }), (99, { ps := [(.int .i64), (.int .i64), (.int .i64), (.int .i64)], rs := [(.int .i64), .bool], f := g99 })], eqs := eq82, inl := [] }
noncomputable def M82 (g98 : (D113 × (Int × Unit)) → Option (Int × D159)) (g99 : (Int × D87) → Option (Int × D159)) : List (Nat × Go.V.Mark (Ty.prods rs82).den) := []
noncomputable def C82 (N : Nat) (g98 : (D113 × (Int × Unit)) → Option (Int × D159)) (g99 : (Int × D87) → Option (Int × D159)) : Go.V.Ctx (Ty.prods rs82).den := { E := E82 g98 g99, n := Go.Proofs.Try.f82.ntmps, marks := M82 g98 g99, fin := Go.V.finish (E82 g98 g99) Go.Proofs.Try.f82 rs82, N }
noncomputable def c82 : Code := (Go.Proofs.Try.f82.body).getD .skip

theorem tab82 : tablesB Go.Proofs.Try.prog ty82 by82 eq82 = true := by kernel_rfl
theorem ob82 (N : Nat) (g98 : (D113 × (Int × Unit)) → Option (Int × D159)) (g99 : (Int × D87) → Option (Int × D159)) : obls (C82 N g98 g99) 1 c82 = [] := by kernel_rfl
theorem eF82 (N : Nat) (g98 : (D113 × (Int × Unit)) → Option (Int × D159)) (g99 : (Int × D87) → Option (Int × D159)) (x : (Ty.prods ps82).den) : Go.V.evBody (E82 g98 g99) Go.Proofs.Try.f82 rs82 (M82 g98 g99) N (Go.V.start Go.Proofs.Try.f82 ps82 x) = F82 N g98 g99 x := by kernel_rfl
theorem s82 (N : Nat) (g98 : (D113 × (Int × Unit)) → Option (Int × D159)) (g99 : (Int × D87) → Option (Int × D159)) (h98 : Sound Go.Proofs.Try.prog 98 { ps := [t113, (.int .i64)], rs := [(.int .i64), .bool], f := g98 }) (h99 : Sound Go.Proofs.Try.prog 99 { ps := [(.int .i64), (.int .i64), (.int .i64), (.int .i64)], rs := [(.int .i64), .bool], f := g99 }) : Sound Go.Proofs.Try.prog 82 { ps := ps82, rs := rs82, f := F82 N g98 g99 } := by
  have hE : EnvOk Go.Proofs.Try.prog (E82 g98 g99) := env_ok tab82 (by
    intro p hp
    simp only [List.mem_cons, List.not_mem_nil, or_false] at hp
    rcases hp with rfl | rfl
    · exact ⟨h98, Go.Proofs.Try.f98, Go.Proofs.Try.func98, by kernel_rfl, by kernel_rfl⟩
    · exact ⟨h99, Go.Proofs.Try.f99, Go.Proofs.Try.func99, by kernel_rfl, by kernel_rfl⟩) (by
    intro p hp
    cases hp)
  have h := fn_sound hE (by kernel_rfl) Go.Proofs.Try.func82 (show Go.Proofs.Try.f82.body = some c82 by kernel_rfl) ps82 rs82 (M82 g98 g99) N (by
    intro o ho
    have ho : o ∈ obls (C82 N g98 g99) 1 c82 := ho
    rw [ob82] at ho
    cases ho)
  have e : (fun x => Go.V.evBody (E82 g98 g99) Go.Proofs.Try.f82 rs82 (M82 g98 g99) N (Go.V.start Go.Proofs.Try.f82 ps82 x)) = F82 N g98 g99 := funext fun x => eF82 N g98 g99 x
  rw [e] at h
  exact h

end Go.Proofs.Ytkifmnocomadfaa
end

/- The reading of poundage poundageref12.One. -/
section
set_option linter.unusedVariables false
set_option maxRecDepth 100000
namespace Go.Proofs.Ytkifmnocomadfaa
open Go.V

noncomputable def F100 (N : Nat) (g84 : (D142 × Unit) → Option (Int × D159)) (g85 : (D142 × (D142 × Unit)) → Option (D142 × Unit)) (g86 : (Int × Unit) → Option (D142 × Unit)) (g99 : (Int × D87) → Option (Int × D159)) : (D87 × (Int × Unit)) → Option (Int × D159) := fun x =>
cond (x.1.1 == (1 : Int)) (
(g99 (x.2.1, x.1.2.1, (100000 : Int), x.1.2.2)).bind fun r1 =>
some r1) (
cond (x.1.1 == (2 : Int)) (
cond ((decide (x.2.1 > x.1.2.1)) == (x.1.1 == (2 : Int))) (
some (x.1.2.1, true, ())) (
some (x.2.1, true, ()))) (
cond (x.1.1 == (3 : Int)) (
cond ((decide (x.2.1 > x.1.2.1)) == (x.1.1 == (2 : Int))) (
some (x.1.2.1, true, ())) (
some (x.2.1, true, ()))) (
cond (x.1.1 == (4 : Int)) (
(g86 x.2).bind fun r2 =>
(g86 (x.1.2.1, ())).bind fun r3 =>
(g85 (r2.1, r3)).bind fun r4 =>
(g84 r4).bind fun r5 =>
some r5) (
some ((0 : Int), false, ())))))

noncomputable def ps100 : List Ty := [t87, (.int .i64)]
noncomputable def rs100 : List Ty := [(.int .i64), .bool]
noncomputable def ty100 : List (TypeId × Ty) := [(3, (.int .i64)), (4, .bool), (149, t87)]
noncomputable def by100 : List (TypeId × Nat) := []
noncomputable def eq100 : List TypeId := []
noncomputable def E100 (g84 : (D142 × Unit) → Option (Int × D159)) (g85 : (D142 × (D142 × Unit)) → Option (D142 × Unit)) (g86 : (Int × Unit) → Option (D142 × Unit)) (g99 : (Int × D87) → Option (Int × D159)) : Go.V.Env := { ty := ty100, bytes := by100, fn := [(84, { ps := [t142], rs := [(.int .i64), .bool], f := g84 }), (85, { ps := [t142, t142], rs := [t142], f := g85 }), (86, { ps := [(.int .i64)], rs := [t142], f := g86 }), (99, { ps := [(.int .i64), (.int .i64), (.int .i64), (.int .i64)], rs := [(.int .i64), .bool], f := g99 })], eqs := eq100, inl := [] }
noncomputable def M100 (g84 : (D142 × Unit) → Option (Int × D159)) (g85 : (D142 × (D142 × Unit)) → Option (D142 × Unit)) (g86 : (Int × Unit) → Option (D142 × Unit)) (g99 : (Int × D87) → Option (Int × D159)) : List (Nat × Go.V.Mark (Ty.prods rs100).den) := []
noncomputable def C100 (N : Nat) (g84 : (D142 × Unit) → Option (Int × D159)) (g85 : (D142 × (D142 × Unit)) → Option (D142 × Unit)) (g86 : (Int × Unit) → Option (D142 × Unit)) (g99 : (Int × D87) → Option (Int × D159)) : Go.V.Ctx (Ty.prods rs100).den := { E := E100 g84 g85 g86 g99, n := Go.Proofs.Try.f100.ntmps, marks := M100 g84 g85 g86 g99, fin := Go.V.finish (E100 g84 g85 g86 g99) Go.Proofs.Try.f100 rs100, N }
noncomputable def c100 : Code := (Go.Proofs.Try.f100.body).getD .skip

theorem tab100 : tablesB Go.Proofs.Try.prog ty100 by100 eq100 = true := by kernel_rfl
theorem ob100 (N : Nat) (g84 : (D142 × Unit) → Option (Int × D159)) (g85 : (D142 × (D142 × Unit)) → Option (D142 × Unit)) (g86 : (Int × Unit) → Option (D142 × Unit)) (g99 : (Int × D87) → Option (Int × D159)) : obls (C100 N g84 g85 g86 g99) 1 c100 = [] := by kernel_rfl
theorem eF100 (N : Nat) (g84 : (D142 × Unit) → Option (Int × D159)) (g85 : (D142 × (D142 × Unit)) → Option (D142 × Unit)) (g86 : (Int × Unit) → Option (D142 × Unit)) (g99 : (Int × D87) → Option (Int × D159)) (x : (Ty.prods ps100).den) : Go.V.evBody (E100 g84 g85 g86 g99) Go.Proofs.Try.f100 rs100 (M100 g84 g85 g86 g99) N (Go.V.start Go.Proofs.Try.f100 ps100 x) = F100 N g84 g85 g86 g99 x := by kernel_rfl
theorem s100 (N : Nat) (g84 : (D142 × Unit) → Option (Int × D159)) (g85 : (D142 × (D142 × Unit)) → Option (D142 × Unit)) (g86 : (Int × Unit) → Option (D142 × Unit)) (g99 : (Int × D87) → Option (Int × D159)) (h84 : Sound Go.Proofs.Try.prog 84 { ps := [t142], rs := [(.int .i64), .bool], f := g84 }) (h85 : Sound Go.Proofs.Try.prog 85 { ps := [t142, t142], rs := [t142], f := g85 }) (h86 : Sound Go.Proofs.Try.prog 86 { ps := [(.int .i64)], rs := [t142], f := g86 }) (h99 : Sound Go.Proofs.Try.prog 99 { ps := [(.int .i64), (.int .i64), (.int .i64), (.int .i64)], rs := [(.int .i64), .bool], f := g99 }) : Sound Go.Proofs.Try.prog 100 { ps := ps100, rs := rs100, f := F100 N g84 g85 g86 g99 } := by
  have hE : EnvOk Go.Proofs.Try.prog (E100 g84 g85 g86 g99) := env_ok tab100 (by
    intro p hp
    simp only [List.mem_cons, List.not_mem_nil, or_false] at hp
    rcases hp with rfl | rfl | rfl | rfl
    · exact ⟨h84, Go.Proofs.Try.f84, Go.Proofs.Try.func84, by kernel_rfl, by kernel_rfl⟩
    · exact ⟨h85, Go.Proofs.Try.f85, Go.Proofs.Try.func85, by kernel_rfl, by kernel_rfl⟩
    · exact ⟨h86, Go.Proofs.Try.f86, Go.Proofs.Try.func86, by kernel_rfl, by kernel_rfl⟩
    · exact ⟨h99, Go.Proofs.Try.f99, Go.Proofs.Try.func99, by kernel_rfl, by kernel_rfl⟩) (by
    intro p hp
    cases hp)
  have h := fn_sound hE (by kernel_rfl) Go.Proofs.Try.func100 (show Go.Proofs.Try.f100.body = some c100 by kernel_rfl) ps100 rs100 (M100 g84 g85 g86 g99) N (by
    intro o ho
    have ho : o ∈ obls (C100 N g84 g85 g86 g99) 1 c100 := ho
    rw [ob100] at ho
    cases ho)
  have e : (fun x => Go.V.evBody (E100 g84 g85 g86 g99) Go.Proofs.Try.f100 rs100 (M100 g84 g85 g86 g99) N (Go.V.start Go.Proofs.Try.f100 ps100 x)) = F100 N g84 g85 g86 g99 := funext fun x => eF100 N g84 g85 g86 g99 x
  rw [e] at h
  exact h

end Go.Proofs.Ytkifmnocomadfaa
end

/- The reading of poundage poundageref12.All. -/
section
set_option linter.unusedVariables false
set_option maxRecDepth 100000
namespace Go.Proofs.Ytkifmnocomadfaa
open Go.V

noncomputable def L83_0i : Shape := { items := [.tm 0 (.int .i64), .tm 10 (.sl 149 t87), .tm 11 (.int .i64), .tm 12 (.int .i64)], boxes := [] }
noncomputable def L83_0o : Shape := { items := [.tm 0 (.int .i64)], boxes := [] }
noncomputable def L83_0 (N : Nat) (g100 : (D87 × (Int × Unit)) → Option (Int × D159)) : Nat → (Int × ((List D87) × D146)) → ((Int × Unit) → Option (Int × D159)) → Option (Int × D159)
| 0, _, _ => none
| k + 1, x1, Kx =>
cond (decide (x1.2.2.2.1 < x1.2.2.1)) (
if 0 ≤ x1.2.2.2.1 then
if x1.2.2.2.1 < (x1.2.1.length : Int) then
let e2 : D87 := rdAt (t := t87) x1.2.1 x1.2.2.2.1
(g100 (e2, x1.1, ())).bind fun r3 =>
cond (!r3.2.1) (
some ((0 : Int), false, ())) (
L83_0 N g100 k (r3.1, x1.2.1, x1.2.2.1, (IntKind.i64.wrap (x1.2.2.2.1 + (1 : Int))), ()) Kx)
else none
else none) (
Kx (x1.1, ()))

noncomputable def F83 (N : Nat) (g100 : (D87 × (Int × Unit)) → Option (Int × D159)) : (Int × ((List D87) × Unit)) → Option (Int × D159) := fun x =>
L83_0 N g100 N (x.1, x.2.1, (x.2.1.length : Int), (0 : Int), ()) fun y4 =>
some (y4.1, true, ())

noncomputable def ps83 : List Ty := [(.int .i64), (.sl 149 t87)]
noncomputable def rs83 : List Ty := [(.int .i64), .bool]
noncomputable def ty83 : List (TypeId × Ty) := [(3, (.int .i64)), (112, (.sl 149 t87)), (149, t87)]
noncomputable def by83 : List (TypeId × Nat) := []
noncomputable def eq83 : List TypeId := []
noncomputable def E83 (g100 : (D87 × (Int × Unit)) → Option (Int × D159)) : Go.V.Env := { ty := ty83, bytes := by83, fn := [(100, { ps := [t87, (.int .i64)], rs := [(.int .i64), .bool], f := g100 })], eqs := eq83, inl := [] }
noncomputable def M83 (g100 : (D87 × (Int × Unit)) → Option (Int × D159)) : List (Nat × Go.V.Mark (Ty.prods rs83).den) := [(52, { ins := L83_0i, outs := L83_0o, ex := some 0, f := fun N => L83_0 N g100 })]
noncomputable def C83 (N : Nat) (g100 : (D87 × (Int × Unit)) → Option (Int × D159)) : Go.V.Ctx (Ty.prods rs83).den := { E := E83 g100, n := Go.Proofs.Try.f83.ntmps, marks := M83 g100, fin := Go.V.finish (E83 g100) Go.Proofs.Try.f83 rs83, N }
noncomputable def c83 : Code := (Go.Proofs.Try.f83.body).getD .skip

theorem tab83 : tablesB Go.Proofs.Try.prog ty83 by83 eq83 = true := by kernel_rfl
theorem oL83_0 (N : Nat) (g100 : (D87 × (Int × Unit)) → Option (Int × D159)) : (Obl.loop { ins := L83_0i, outs := L83_0o, ex := some 0, f := fun N => L83_0 N g100 } 52 (subc [true, false, true, false, false] c83) : Obl (Ty.prods rs83).den).holds (C83 N g100) := by
  intro x Kx
  exact ⟨by kernel_rfl, fun k => by kernel_rfl⟩
theorem ob83 (N : Nat) (g100 : (D87 × (Int × Unit)) → Option (Int × D159)) : obls (C83 N g100) 1 c83 = [.loop { ins := L83_0i, outs := L83_0o, ex := some 0, f := fun N => L83_0 N g100 } 52 (subc [true, false, true, false, false] c83)] := by kernel_rfl
theorem eF83 (N : Nat) (g100 : (D87 × (Int × Unit)) → Option (Int × D159)) (x : (Ty.prods ps83).den) : Go.V.evBody (E83 g100) Go.Proofs.Try.f83 rs83 (M83 g100) N (Go.V.start Go.Proofs.Try.f83 ps83 x) = F83 N g100 x := by kernel_rfl
theorem s83 (N : Nat) (g100 : (D87 × (Int × Unit)) → Option (Int × D159)) (h100 : Sound Go.Proofs.Try.prog 100 { ps := [t87, (.int .i64)], rs := [(.int .i64), .bool], f := g100 }) : Sound Go.Proofs.Try.prog 83 { ps := ps83, rs := rs83, f := F83 N g100 } := by
  have hE : EnvOk Go.Proofs.Try.prog (E83 g100) := env_ok tab83 (by
    intro p hp
    simp only [List.mem_cons, List.not_mem_nil, or_false] at hp
    rcases hp with rfl
    · exact ⟨h100, Go.Proofs.Try.f100, Go.Proofs.Try.func100, by kernel_rfl, by kernel_rfl⟩) (by
    intro p hp
    cases hp)
  have h := fn_sound hE (by kernel_rfl) Go.Proofs.Try.func83 (show Go.Proofs.Try.f83.body = some c83 by kernel_rfl) ps83 rs83 (M83 g100) N (by
    intro o ho
    have ho : o ∈ obls (C83 N g100) 1 c83 := ho
    rw [ob83] at ho
    simp only [List.mem_cons, List.not_mem_nil, or_false] at ho
    rcases ho with rfl
    · exact oL83_0 N g100)
  have e : (fun x => Go.V.evBody (E83 g100) Go.Proofs.Try.f83 rs83 (M83 g100) N (Go.V.start Go.Proofs.Try.f83 ps83 x)) = F83 N g100 := funext fun x => eF83 N g100 x
  rw [e] at h
  exact h

end Go.Proofs.Ytkifmnocomadfaa
end

/- The reading of poundage poundageref13.Part. -/
section
set_option linter.unusedVariables false
set_option maxRecDepth 100000
namespace Go.Proofs.Ytkifmnocomadfaa
open Go.V

noncomputable def F57 (N : Nat) (g82 : (D113 × (Int × Unit)) → Option (Int × D159)) (g83 : (Int × ((List D87) × Unit)) → Option (Int × D159)) : (D113 × (Int × Unit)) → Option (Int × D159) := fun x =>
(g82 x).bind fun r1 =>
cond (!r1.2.1) (
some ((0 : Int), false, ())) (
(g83 (r1.1, x.1.2.2.2.2.2.2.2.2)).bind fun r2 =>
some r2)

noncomputable def ps57 : List Ty := [t113, (.int .i64)]
noncomputable def rs57 : List Ty := [(.int .i64), .bool]
noncomputable def ty57 : List (TypeId × Ty) := [(112, (.sl 149 t87)), (114, t113), (149, t87)]
noncomputable def by57 : List (TypeId × Nat) := []
noncomputable def eq57 : List TypeId := []
noncomputable def E57 (g82 : (D113 × (Int × Unit)) → Option (Int × D159)) (g83 : (Int × ((List D87) × Unit)) → Option (Int × D159)) : Go.V.Env := { ty := ty57, bytes := by57, fn := [(82, { ps := [t113, (.int .i64)], rs := [(.int .i64), .bool], f := g82 }), (83, { ps := [(.int .i64), (.sl 149 t87)], rs := [(.int .i64), .bool], f := g83 })], eqs := eq57, inl := [] }
noncomputable def M57 (g82 : (D113 × (Int × Unit)) → Option (Int × D159)) (g83 : (Int × ((List D87) × Unit)) → Option (Int × D159)) : List (Nat × Go.V.Mark (Ty.prods rs57).den) := []
noncomputable def C57 (N : Nat) (g82 : (D113 × (Int × Unit)) → Option (Int × D159)) (g83 : (Int × ((List D87) × Unit)) → Option (Int × D159)) : Go.V.Ctx (Ty.prods rs57).den := { E := E57 g82 g83, n := Go.Proofs.Try.f57.ntmps, marks := M57 g82 g83, fin := Go.V.finish (E57 g82 g83) Go.Proofs.Try.f57 rs57, N }
noncomputable def c57 : Code := (Go.Proofs.Try.f57.body).getD .skip

theorem tab57 : tablesB Go.Proofs.Try.prog ty57 by57 eq57 = true := by kernel_rfl
theorem ob57 (N : Nat) (g82 : (D113 × (Int × Unit)) → Option (Int × D159)) (g83 : (Int × ((List D87) × Unit)) → Option (Int × D159)) : obls (C57 N g82 g83) 1 c57 = [] := by kernel_rfl
theorem eF57 (N : Nat) (g82 : (D113 × (Int × Unit)) → Option (Int × D159)) (g83 : (Int × ((List D87) × Unit)) → Option (Int × D159)) (x : (Ty.prods ps57).den) : Go.V.evBody (E57 g82 g83) Go.Proofs.Try.f57 rs57 (M57 g82 g83) N (Go.V.start Go.Proofs.Try.f57 ps57 x) = F57 N g82 g83 x := by kernel_rfl
theorem s57 (N : Nat) (g82 : (D113 × (Int × Unit)) → Option (Int × D159)) (g83 : (Int × ((List D87) × Unit)) → Option (Int × D159)) (h82 : Sound Go.Proofs.Try.prog 82 { ps := [t113, (.int .i64)], rs := [(.int .i64), .bool], f := g82 }) (h83 : Sound Go.Proofs.Try.prog 83 { ps := [(.int .i64), (.sl 149 t87)], rs := [(.int .i64), .bool], f := g83 }) : Sound Go.Proofs.Try.prog 57 { ps := ps57, rs := rs57, f := F57 N g82 g83 } := by
  have hE : EnvOk Go.Proofs.Try.prog (E57 g82 g83) := env_ok tab57 (by
    intro p hp
    simp only [List.mem_cons, List.not_mem_nil, or_false] at hp
    rcases hp with rfl | rfl
    · exact ⟨h82, Go.Proofs.Try.f82, Go.Proofs.Try.func82, by kernel_rfl, by kernel_rfl⟩
    · exact ⟨h83, Go.Proofs.Try.f83, Go.Proofs.Try.func83, by kernel_rfl, by kernel_rfl⟩) (by
    intro p hp
    cases hp)
  have h := fn_sound hE (by kernel_rfl) Go.Proofs.Try.func57 (show Go.Proofs.Try.f57.body = some c57 by kernel_rfl) ps57 rs57 (M57 g82 g83) N (by
    intro o ho
    have ho : o ∈ obls (C57 N g82 g83) 1 c57 := ho
    rw [ob57] at ho
    cases ho)
  have e : (fun x => Go.V.evBody (E57 g82 g83) Go.Proofs.Try.f57 rs57 (M57 g82 g83) N (Go.V.start Go.Proofs.Try.f57 ps57 x)) = F57 N g82 g83 := funext fun x => eF57 N g82 g83 x
  rw [e] at h
  exact h

end Go.Proofs.Ytkifmnocomadfaa
end

/- The reading of poundage poundageref18.Most. -/
section
set_option linter.unusedVariables false
set_option maxRecDepth 100000
namespace Go.Proofs.Ytkifmnocomadfaa
open Go.V

noncomputable def L31_0i : Shape := { items := [.ptr 1 0 0, .bx 0 0 t25, .tm 4 (.int .i64), .tm 14 (.sl 110 t87), .tm 15 (.int .i64), .tm 16 (.int .i64)], boxes := [26] }
noncomputable def L31_0o : Shape := { items := [.ptr 1 0 0, .bx 0 0 t25, .tm 4 (.int .i64)], boxes := [26] }
noncomputable def L31_0 (N : Nat) (g57 : (D113 × (Int × Unit)) → Option (Int × D159)) : Nat → (Unit × (D25 × (Int × ((List D87) × D146)))) → ((Unit × (D25 × (Int × Unit))) → Option (Int × D159)) → Option (Int × D159)
| 0, _, _ => none
| k + 1, x1, Kx =>
cond (decide (x1.2.2.2.2.2.1 < x1.2.2.2.2.1)) (
if 0 ≤ x1.2.2.2.2.2.1 then
if x1.2.2.2.2.2.1 < (x1.2.2.2.1.length : Int) then
let e2 : D87 := rdAt (t := t87) x1.2.2.2.1 x1.2.2.2.2.2.1
L31_0 N g57 k ((), x1.2.1, (IntKind.i64.wrap (x1.2.2.1 + e2.1)), x1.2.2.2.1, x1.2.2.2.2.1, (IntKind.i64.wrap (x1.2.2.2.2.2.1 + (1 : Int))), ()) Kx
else none
else none) (
Kx ((), x1.2.1, x1.2.2.1, ()))

noncomputable def L31_2i : Shape := { items := [.ptr 1 0 0, .bx 0 0 t25, .tm 4 (.int .i64), .ptr 8 1 0, .bx 1 0 t113, .tm 9 (.int .i64), .tm 10 (.int .i64), .tm 26 (.sl 114 t113), .tm 27 (.int .i64), .tm 28 (.int .i64)], boxes := [26, 114] }
noncomputable def L31_2o : Shape := { items := [.ptr 1 0 0, .bx 0 0 t25, .tm 4 (.int .i64), .tm 9 (.int .i64), .tm 26 (.sl 114 t113), .tm 27 (.int .i64), .tm 28 (.int .i64)], boxes := [26] }
noncomputable def L31_2 (N : Nat) (g57 : (D113 × (Int × Unit)) → Option (Int × D159)) : Nat → (Unit × (D25 × (Int × (Unit × (D113 × (Int × (Int × ((List D113) × D146)))))))) → ((Unit × (D25 × (Int × (Int × ((List D113) × D146))))) → Option (Int × D159)) → Option (Int × D159)
| 0, _, _ => none
| k + 1, x6, Kx =>
if 0 ≤ x6.2.2.2.2.1.1 then
if x6.2.2.2.2.1.1 < (x6.2.1.2.2.2.1.length : Int) then
let e7 : D67 := rdAt (t := t67) x6.2.1.2.2.2.1 x6.2.2.2.2.1.1
cond (decide (x6.2.2.2.2.2.2.1 ≤ e7.2.2.1)) (
(g57 (x6.2.2.2.2.1, x6.2.2.2.2.2.2.1, ())).bind fun r8 =>
cond (!r8.2.1) (
some ((0 : Int), false, ())) (
cond (decide (r8.1 > (1152921504606846976 : Int))) (
some ((0 : Int), false, ())) (
cond (decide (r8.1 < (0 : Int))) (
some ((0 : Int), false, ())) (
let v9 := (if r8.1 > x6.2.2.2.2.2.1 then r8.1 else x6.2.2.2.2.2.1)
let v10 := (IntKind.i64.wrap (x6.2.2.2.2.2.2.1 + (1 : Int)))
L31_2 N g57 k ((), x6.2.1, x6.2.2.1, (), x6.2.2.2.2.1, v9, v10, x6.2.2.2.2.2.2.2.1, x6.2.2.2.2.2.2.2.2.1, x6.2.2.2.2.2.2.2.2.2.1, ()) Kx)))) (
Kx ((), x6.2.1, x6.2.2.1, x6.2.2.2.2.2.1, x6.2.2.2.2.2.2.2.1, x6.2.2.2.2.2.2.2.2.1, x6.2.2.2.2.2.2.2.2.2.1, ()))
else none
else none

noncomputable def L31_1i : Shape := { items := [.ptr 1 0 0, .bx 0 0 t25, .tm 4 (.int .i64), .tm 26 (.sl 114 t113), .tm 27 (.int .i64), .tm 28 (.int .i64)], boxes := [26] }
noncomputable def L31_1o : Shape := { items := [.tm 4 (.int .i64)], boxes := [] }
noncomputable def L31_1 (N : Nat) (g57 : (D113 × (Int × Unit)) → Option (Int × D159)) : Nat → (Unit × (D25 × (Int × ((List D113) × D146)))) → ((Int × Unit) → Option (Int × D159)) → Option (Int × D159)
| 0, _, _ => none
| k + 1, x4, Kx =>
cond (decide (x4.2.2.2.2.2.1 < x4.2.2.2.2.1)) (
if 0 ≤ x4.2.2.2.2.2.1 then
if x4.2.2.2.2.2.1 < (x4.2.2.2.1.length : Int) then
let e5 : D113 := rdAt (t := t113) x4.2.2.2.1 x4.2.2.2.2.2.1
L31_2 N g57 N ((), x4.2.1, x4.2.2.1, (), e5, (0 : Int), (0 : Int), x4.2.2.2.1, x4.2.2.2.2.1, x4.2.2.2.2.2.1, ()) fun y11 =>
cond (decide ((IntKind.i64.wrap (y11.2.2.1 + y11.2.2.2.1)) > (1152921504606846976 : Int))) (
some ((0 : Int), false, ())) (
L31_1 N g57 k ((), y11.2.1, (IntKind.i64.wrap (y11.2.2.1 + y11.2.2.2.1)), y11.2.2.2.2.1, y11.2.2.2.2.2.1, (IntKind.i64.wrap (y11.2.2.2.2.2.2.1 + (1 : Int))), ()) Kx)
else none
else none) (
Kx (x4.2.2.1, ()))

noncomputable def F31 (N : Nat) (g57 : (D113 × (Int × Unit)) → Option (Int × D159)) : (D25 × Unit) → Option (Int × D159) := fun x =>
L31_0 N g57 N ((), x.1, (0 : Int), x.1.2.2.2.2.1, (x.1.2.2.2.2.1.length : Int), (0 : Int), ()) fun y3 =>
L31_1 N g57 N ((), y3.2.1, y3.2.2.1, y3.2.1.2.2.2.2.2.1, (y3.2.1.2.2.2.2.2.1.length : Int), (0 : Int), ()) fun y12 =>
some (y12.1, (decide (y12.1 ≤ (1152921504606846976 : Int))), ())

noncomputable def ps31 : List Ty := [t25]
noncomputable def rs31 : List Ty := [(.int .i64), .bool]
noncomputable def ty31 : List (TypeId × Ty) := [(3, (.int .i64)), (22, (.sl 68 t67)), (23, (.sl 110 t87)), (24, (.sl 114 t113)), (26, t25), (68, t67), (110, t87), (114, t113)]
noncomputable def by31 : List (TypeId × Nat) := []
noncomputable def eq31 : List TypeId := []
noncomputable def E31 (g57 : (D113 × (Int × Unit)) → Option (Int × D159)) : Go.V.Env := { ty := ty31, bytes := by31, fn := [(57, { ps := [t113, (.int .i64)], rs := [(.int .i64), .bool], f := g57 })], eqs := eq31, inl := [] }
noncomputable def M31 (g57 : (D113 × (Int × Unit)) → Option (Int × D159)) : List (Nat × Go.V.Mark (Ty.prods rs31).den) := [(116, { ins := L31_0i, outs := L31_0o, ex := some 0, f := fun N => L31_0 N g57 }), (250676, { ins := L31_2i, outs := L31_2o, ex := some 4, f := fun N => L31_2 N g57 }), (244, { ins := L31_1i, outs := L31_1o, ex := some 2, f := fun N => L31_1 N g57 })]
noncomputable def C31 (N : Nat) (g57 : (D113 × (Int × Unit)) → Option (Int × D159)) : Go.V.Ctx (Ty.prods rs31).den := { E := E31 g57, n := Go.Proofs.Try.f31.ntmps, marks := M31 g57, fin := Go.V.finish (E31 g57) Go.Proofs.Try.f31 rs31, N }
noncomputable def c31 : Code := (Go.Proofs.Try.f31.body).getD .skip

theorem tab31 : tablesB Go.Proofs.Try.prog ty31 by31 eq31 = true := by kernel_rfl
theorem oL31_0 (N : Nat) (g57 : (D113 × (Int × Unit)) → Option (Int × D159)) : (Obl.loop { ins := L31_0i, outs := L31_0o, ex := some 0, f := fun N => L31_0 N g57 } 116 (subc [true, true, false, true, false, false] c31) : Obl (Ty.prods rs31).den).holds (C31 N g57) := by
  intro x Kx
  exact ⟨by kernel_rfl, fun k => by kernel_rfl⟩
theorem oL31_1 (N : Nat) (g57 : (D113 × (Int × Unit)) → Option (Int × D159)) : (Obl.loop { ins := L31_1i, outs := L31_1o, ex := some 2, f := fun N => L31_1 N g57 } 244 (subc [true, true, true, false, true, false, false] c31) : Obl (Ty.prods rs31).den).holds (C31 N g57) := by
  intro x Kx
  exact ⟨by kernel_rfl, fun k => by kernel_rfl⟩
theorem oL31_2 (N : Nat) (g57 : (D113 × (Int × Unit)) → Option (Int × D159)) : (Obl.loop { ins := L31_2i, outs := L31_2o, ex := some 4, f := fun N => L31_2 N g57 } 250676 (subc [true, true, true, false, true, false, false, true, true, false, false, true, true, false, true, false, false] c31) : Obl (Ty.prods rs31).den).holds (C31 N g57) := by
  intro x Kx
  exact ⟨by kernel_rfl, fun k => by kernel_rfl⟩
theorem ob31 (N : Nat) (g57 : (D113 × (Int × Unit)) → Option (Int × D159)) : obls (C31 N g57) 1 c31 = [.loop { ins := L31_0i, outs := L31_0o, ex := some 0, f := fun N => L31_0 N g57 } 116 (subc [true, true, false, true, false, false] c31), .loop { ins := L31_1i, outs := L31_1o, ex := some 2, f := fun N => L31_1 N g57 } 244 (subc [true, true, true, false, true, false, false] c31), .loop { ins := L31_2i, outs := L31_2o, ex := some 4, f := fun N => L31_2 N g57 } 250676 (subc [true, true, true, false, true, false, false, true, true, false, false, true, true, false, true, false, false] c31)] := by kernel_rfl
theorem eF31 (N : Nat) (g57 : (D113 × (Int × Unit)) → Option (Int × D159)) (x : (Ty.prods ps31).den) : Go.V.evBody (E31 g57) Go.Proofs.Try.f31 rs31 (M31 g57) N (Go.V.start Go.Proofs.Try.f31 ps31 x) = F31 N g57 x := by kernel_rfl
theorem s31 (N : Nat) (g57 : (D113 × (Int × Unit)) → Option (Int × D159)) (h57 : Sound Go.Proofs.Try.prog 57 { ps := [t113, (.int .i64)], rs := [(.int .i64), .bool], f := g57 }) : Sound Go.Proofs.Try.prog 31 { ps := ps31, rs := rs31, f := F31 N g57 } := by
  have hE : EnvOk Go.Proofs.Try.prog (E31 g57) := env_ok tab31 (by
    intro p hp
    simp only [List.mem_cons, List.not_mem_nil, or_false] at hp
    rcases hp with rfl
    · exact ⟨h57, Go.Proofs.Try.f57, Go.Proofs.Try.func57, by kernel_rfl, by kernel_rfl⟩) (by
    intro p hp
    cases hp)
  have h := fn_sound hE (by kernel_rfl) Go.Proofs.Try.func31 (show Go.Proofs.Try.f31.body = some c31 by kernel_rfl) ps31 rs31 (M31 g57) N (by
    intro o ho
    have ho : o ∈ obls (C31 N g57) 1 c31 := ho
    rw [ob31] at ho
    simp only [List.mem_cons, List.not_mem_nil, or_false] at ho
    rcases ho with rfl | rfl | rfl
    · exact oL31_0 N g57
    · exact oL31_1 N g57
    · exact oL31_2 N g57)
  have e : (fun x => Go.V.evBody (E31 g57) Go.Proofs.Try.f31 rs31 (M31 g57) N (Go.V.start Go.Proofs.Try.f31 ps31 x)) = F31 N g57 := funext fun x => eF31 N g57 x
  rw [e] at h
  exact h

end Go.Proofs.Ytkifmnocomadfaa
end

/- The reading of poundage poundageref18.Fits. -/
section
set_option linter.unusedVariables false
set_option maxRecDepth 100000
namespace Go.Proofs.Ytkifmnocomadfaa
open Go.V

noncomputable def F7 (N : Nat) (g29 : (D25 × Unit) → Option D159) (g30 : (D25 × Unit) → Option D159) (g31 : (D25 × Unit) → Option (Int × D159)) : (D25 × Unit) → Option D159 := fun x =>
(g29 x).bind fun r1 =>
cond r1.1 (
some (false, ())) (
(g30 x).bind fun r2 =>
cond (!r2.1) (
some (false, ())) (
(g31 x).bind fun r3 =>
some r3.2))

noncomputable def ps7 : List Ty := [t25]
noncomputable def rs7 : List Ty := [.bool]
noncomputable def ty7 : List (TypeId × Ty) := [(26, t25)]
noncomputable def by7 : List (TypeId × Nat) := []
noncomputable def eq7 : List TypeId := []
noncomputable def E7 (g29 : (D25 × Unit) → Option D159) (g30 : (D25 × Unit) → Option D159) (g31 : (D25 × Unit) → Option (Int × D159)) : Go.V.Env := { ty := ty7, bytes := by7, fn := [(29, { ps := [t25], rs := [.bool], f := g29 }), (30, { ps := [t25], rs := [.bool], f := g30 }), (31, { ps := [t25], rs := [(.int .i64), .bool], f := g31 })], eqs := eq7, inl := [] }
noncomputable def M7 (g29 : (D25 × Unit) → Option D159) (g30 : (D25 × Unit) → Option D159) (g31 : (D25 × Unit) → Option (Int × D159)) : List (Nat × Go.V.Mark (Ty.prods rs7).den) := []
noncomputable def C7 (N : Nat) (g29 : (D25 × Unit) → Option D159) (g30 : (D25 × Unit) → Option D159) (g31 : (D25 × Unit) → Option (Int × D159)) : Go.V.Ctx (Ty.prods rs7).den := { E := E7 g29 g30 g31, n := Go.Proofs.Try.f7.ntmps, marks := M7 g29 g30 g31, fin := Go.V.finish (E7 g29 g30 g31) Go.Proofs.Try.f7 rs7, N }
noncomputable def c7 : Code := (Go.Proofs.Try.f7.body).getD .skip

theorem tab7 : tablesB Go.Proofs.Try.prog ty7 by7 eq7 = true := by kernel_rfl
theorem ob7 (N : Nat) (g29 : (D25 × Unit) → Option D159) (g30 : (D25 × Unit) → Option D159) (g31 : (D25 × Unit) → Option (Int × D159)) : obls (C7 N g29 g30 g31) 1 c7 = [] := by kernel_rfl
theorem eF7 (N : Nat) (g29 : (D25 × Unit) → Option D159) (g30 : (D25 × Unit) → Option D159) (g31 : (D25 × Unit) → Option (Int × D159)) (x : (Ty.prods ps7).den) : Go.V.evBody (E7 g29 g30 g31) Go.Proofs.Try.f7 rs7 (M7 g29 g30 g31) N (Go.V.start Go.Proofs.Try.f7 ps7 x) = F7 N g29 g30 g31 x := by kernel_rfl
theorem s7 (N : Nat) (g29 : (D25 × Unit) → Option D159) (g30 : (D25 × Unit) → Option D159) (g31 : (D25 × Unit) → Option (Int × D159)) (h29 : Sound Go.Proofs.Try.prog 29 { ps := [t25], rs := [.bool], f := g29 }) (h30 : Sound Go.Proofs.Try.prog 30 { ps := [t25], rs := [.bool], f := g30 }) (h31 : Sound Go.Proofs.Try.prog 31 { ps := [t25], rs := [(.int .i64), .bool], f := g31 }) : Sound Go.Proofs.Try.prog 7 { ps := ps7, rs := rs7, f := F7 N g29 g30 g31 } := by
  have hE : EnvOk Go.Proofs.Try.prog (E7 g29 g30 g31) := env_ok tab7 (by
    intro p hp
    simp only [List.mem_cons, List.not_mem_nil, or_false] at hp
    rcases hp with rfl | rfl | rfl
    · exact ⟨h29, Go.Proofs.Try.f29, Go.Proofs.Try.func29, by kernel_rfl, by kernel_rfl⟩
    · exact ⟨h30, Go.Proofs.Try.f30, Go.Proofs.Try.func30, by kernel_rfl, by kernel_rfl⟩
    · exact ⟨h31, Go.Proofs.Try.f31, Go.Proofs.Try.func31, by kernel_rfl, by kernel_rfl⟩) (by
    intro p hp
    cases hp)
  have h := fn_sound hE (by kernel_rfl) Go.Proofs.Try.func7 (show Go.Proofs.Try.f7.body = some c7 by kernel_rfl) ps7 rs7 (M7 g29 g30 g31) N (by
    intro o ho
    have ho : o ∈ obls (C7 N g29 g30 g31) 1 c7 := ho
    rw [ob7] at ho
    cases ho)
  have e : (fun x => Go.V.evBody (E7 g29 g30 g31) Go.Proofs.Try.f7 rs7 (M7 g29 g30 g31) N (Go.V.start Go.Proofs.Try.f7 ps7 x)) = F7 N g29 g30 g31 := funext fun x => eF7 N g29 g30 g31 x
  rw [e] at h
  exact h

end Go.Proofs.Ytkifmnocomadfaa
end
