/- The reading of poundage curve.At. -/
import Derived.Test.YtkifmnocomadfaaGTy
import Derived.Test.YtkifmnocomadfaaGTx
section
set_option linter.unusedVariables false
set_option maxRecDepth 100000
namespace Go.Proofs.Ytkifmnocomadfaa
open Go.V

noncomputable def L34_0i : Shape := { items := [.tm 1 (.int .i64), .ptr 2 0 0, .bx 0 0 t52, .tm 6 (.int .i64)], boxes := [53] }
noncomputable def L34_0o : Shape := { items := [.tm 1 (.int .i64), .ptr 2 0 0, .bx 0 0 t52, .tm 6 (.int .i64)], boxes := [53] }
noncomputable def L34_0 (N : Nat) : Nat → (Int × (Unit × (D52 × (Int × Unit)))) → ((Int × (Unit × (D52 × (Int × Unit)))) → Option (Int × D159)) → Option (Int × D159)
| 0, _, _ => none
| k + 1, x2, Kx =>
cond (decide (x2.2.2.2.1 ≥ (0 : Int))) (
if 0 ≤ x2.2.2.2.1 then
if x2.2.2.2.1 < (x2.2.2.1.2.1.length : Int) then
let e3 : D77 := rdAt (t := t77) x2.2.2.1.2.1 x2.2.2.2.1
cond (decide (e3.1 > x2.1)) (
L34_0 N k (x2.1, (), x2.2.2.1, (IntKind.i64.wrap (x2.2.2.2.1 - (1 : Int))), ()) Kx) (
Kx (x2.1, (), x2.2.2.1, x2.2.2.2.1, ()))
else none
else none) (
Kx (x2.1, (), x2.2.2.1, x2.2.2.2.1, ()))

noncomputable def F34 (N : Nat) : (D52 × (Int × Unit)) → Option (Int × D159) := fun x =>
cond (decide (x.2.1 < (0 : Int))) (
some ((0 : Int), false, ())) (
cond (decide (x.2.1 > x.1.1)) (
some ((0 : Int), false, ())) (
let v1 := (IntKind.i64.wrap ((x.1.2.1.length : Int) - (1 : Int)))
L34_0 N N (x.2.1, (), x.1, v1, ()) fun y4 =>
cond (decide (y4.2.2.2.1 < (0 : Int))) (
some ((0 : Int), false, ())) (
if 0 ≤ y4.2.2.2.1 then
if y4.2.2.2.1 < (y4.2.2.1.2.1.length : Int) then
let e5 : D77 := rdAt (t := t77) y4.2.2.1.2.1 y4.2.2.2.1
cond (decide (e5.2.2.1 < (1 : Int))) (
some (e5.2.1, true, ())) (
if e5.2.2.1 = 0 then none else
let v6 := (IntKind.i64.wrap ((IntKind.i64.wrap (y4.1 - e5.1)).tdiv e5.2.2.1))
let v7 := (IntKind.i64.wrap (e5.2.1 + (IntKind.i64.wrap ((if (IntKind.i64.wrap (e5.2.2.2.2.1 - (1 : Int))) < v6 then (IntKind.i64.wrap (e5.2.2.2.2.1 - (1 : Int))) else v6) * e5.2.2.2.1))))
some (v7, true, ()))
else none
else none)))

noncomputable def ps34 : List Ty := [t52, (.int .i64)]
noncomputable def rs34 : List Ty := [(.int .i64), .bool]
noncomputable def ty34 : List (TypeId × Ty) := [(3, (.int .i64)), (51, (.sl 78 t77)), (53, t52), (78, t77)]
noncomputable def by34 : List (TypeId × Nat) := []
noncomputable def eq34 : List TypeId := []
noncomputable def E34 : Go.V.Env := { ty := ty34, bytes := by34, fn := [], eqs := eq34, inl := [] }
noncomputable def M34 : List (Nat × Go.V.Mark (Ty.prods rs34).den) := [(120, { ins := L34_0i, outs := L34_0o, ex := some 0, f := fun N => L34_0 N })]
noncomputable def C34 (N : Nat) : Go.V.Ctx (Ty.prods rs34).den := { E := E34, n := Go.Proofs.Try.f34.ntmps, marks := M34, fin := Go.V.finish (E34) Go.Proofs.Try.f34 rs34, N }
noncomputable def c34 : Code := (Go.Proofs.Try.f34.body).getD .skip

theorem tab34 : tablesB Go.Proofs.Try.prog ty34 by34 eq34 = true := by kernel_rfl
theorem oL34_0 (N : Nat) : (Obl.loop { ins := L34_0i, outs := L34_0o, ex := some 0, f := fun N => L34_0 N } 120 (subc [true, true, true, false, false, false] c34) : Obl (Ty.prods rs34).den).holds (C34 N) := by
  intro x Kx
  exact ⟨by kernel_rfl, fun k => by kernel_rfl⟩
theorem ob34 (N : Nat) : obls (C34 N) 1 c34 = [.loop { ins := L34_0i, outs := L34_0o, ex := some 0, f := fun N => L34_0 N } 120 (subc [true, true, true, false, false, false] c34)] := by kernel_rfl
theorem eF34 (N : Nat) (x : (Ty.prods ps34).den) : Go.V.evBody (E34) Go.Proofs.Try.f34 rs34 (M34) N (Go.V.start Go.Proofs.Try.f34 ps34 x) = F34 N x := by kernel_rfl
theorem s34 (N : Nat) : Sound Go.Proofs.Try.prog 34 { ps := ps34, rs := rs34, f := F34 N } := by
  have hE : EnvOk Go.Proofs.Try.prog (E34) := env_ok tab34 (by
    intro p hp
    cases hp) (by
    intro p hp
    cases hp)
  have h := fn_sound hE (by kernel_rfl) Go.Proofs.Try.func34 (show Go.Proofs.Try.f34.body = some c34 by kernel_rfl) ps34 rs34 (M34) N (by
    intro o ho
    have ho : o ∈ obls (C34 N) 1 c34 := ho
    rw [ob34] at ho
    simp only [List.mem_cons, List.not_mem_nil, or_false] at ho
    rcases ho with rfl
    · exact oL34_0 N)
  have e : (fun x => Go.V.evBody (E34) Go.Proofs.Try.f34 rs34 (M34) N (Go.V.start Go.Proofs.Try.f34 ps34 x)) = F34 N := funext fun x => eF34 N x
  rw [e] at h
  exact h

end Go.Proofs.Ytkifmnocomadfaa
end

/- The reading of poundage curve.Line. -/
section
set_option linter.unusedVariables false
set_option maxRecDepth 100000
namespace Go.Proofs.Ytkifmnocomadfaa
open Go.V

noncomputable def L17_0i : Shape := { items := [.ptr 1 0 0, .bx 0 0 t52, .ptr 2 1 0, .tm 42 (.int .i64), .tm 43 (.int .i64), .ownB 1 0 88 t87, .ownT 4 3 (.int .i64)], boxes := [53, 49] }
noncomputable def L17_0o : Shape := { items := [.ptr 2 1 0, .ownB 1 0 88 t87, .ownT 4 3 (.int .i64)], boxes := [53, 49] }
noncomputable def L17_0 (N : Nat) (g15 : (Int × ((List Int) × Unit)) → Option (D48 × Unit)) (g34 : (D52 × (Int × Unit)) → Option (Int × D159)) : Nat → (Unit × (D52 × (Unit × (Int × (Int × ((List D87) × ((List Int) × Unit))))))) → ((Unit × ((List D87) × ((List Int) × Unit))) → Option (D48 × D159)) → Option (D48 × D159)
| 0, _, _ => none
| k + 1, x2, Kx =>
cond (decide (x2.2.2.2.2.1 < x2.2.2.2.1)) (
(g34 (x2.2.1, x2.2.2.2.2.1, ())).bind fun r3 =>
if x2.2.2.2.2.2.2.1.length + 1 ≤ 17592186044416 then
L17_0 N g15 g34 k ((), x2.2.1, (), x2.2.2.2.1, (IntKind.i64.wrap (x2.2.2.2.2.1 + (1 : Int))), x2.2.2.2.2.2.1, (x2.2.2.2.2.2.2.1 ++ [r3.1]), ()) Kx
else none) (
Kx ((), x2.2.2.2.2.2.1, x2.2.2.2.2.2.2.1, ()))

noncomputable def F17 (N : Nat) (g15 : (Int × ((List Int) × Unit)) → Option (D48 × Unit)) (g34 : (D52 × (Int × Unit)) → Option (Int × D159)) : (D52 × Unit) → Option (D48 × D159) := fun x =>
cond (decide (x.1.1 < (0 : Int))) (
some (([], ()), false, ())) (
cond (decide (x.1.1 > (2000 : Int))) (
some (([], ()), false, ())) (
cond ((x.1.2.1.length : Int) == (0 : Int)) (
some (([], ()), false, ())) (
cond (decide ((x.1.2.1.length : Int) > (IntKind.i64.wrap (x.1.1 + (1 : Int))))) (
some (([], ()), false, ())) (
if 0 ≤ (0 : Int) then
if (0 : Int) < (x.1.2.1.length : Int) then
let e1 : D77 := rdAt (t := t77) x.1.2.1 (0 : Int)
cond (e1.1 != (0 : Int)) (
some (([], ()), false, ())) (
L17_0 N g15 g34 N ((), x.1, (), (IntKind.i64.wrap (x.1.1 + (1 : Int))), (0 : Int), [], [], ()) fun y4 =>
(g15 ((0 : Int), y4.2.2)).bind fun r5 =>
some (r5.1, true, ()))
else none
else none))))

noncomputable def ps17 : List Ty := [t52]
noncomputable def rs17 : List Ty := [t48, .bool]
noncomputable def ty17 : List (TypeId × Ty) := [(3, (.int .i64)), (27, (.sl 3 (.int .i64))), (49, t48), (51, (.sl 78 t77)), (53, t52), (78, t77)]
noncomputable def by17 : List (TypeId × Nat) := [(3, 8)]
noncomputable def eq17 : List TypeId := []
noncomputable def E17 (g15 : (Int × ((List Int) × Unit)) → Option (D48 × Unit)) (g34 : (D52 × (Int × Unit)) → Option (Int × D159)) : Go.V.Env := { ty := ty17, bytes := by17, fn := [(15, { ps := [(.int .i64), (.sl 3 (.int .i64))], rs := [t48], f := g15 }), (34, { ps := [t52, (.int .i64)], rs := [(.int .i64), .bool], f := g34 })], eqs := eq17, inl := [] }
noncomputable def M17 (g15 : (Int × ((List Int) × Unit)) → Option (D48 × Unit)) (g34 : (D52 × (Int × Unit)) → Option (Int × D159)) : List (Nat × Go.V.Mark (Ty.prods rs17).den) := [(244, { ins := L17_0i, outs := L17_0o, ex := some 0, f := fun N => L17_0 N g15 g34 })]
noncomputable def C17 (N : Nat) (g15 : (Int × ((List Int) × Unit)) → Option (D48 × Unit)) (g34 : (D52 × (Int × Unit)) → Option (Int × D159)) : Go.V.Ctx (Ty.prods rs17).den := { E := E17 g15 g34, n := Go.Proofs.Try.f17.ntmps, marks := M17 g15 g34, fin := Go.V.finish (E17 g15 g34) Go.Proofs.Try.f17 rs17, N }
noncomputable def c17 : Code := (Go.Proofs.Try.f17.body).getD .skip

theorem tab17 : tablesB Go.Proofs.Try.prog ty17 by17 eq17 = true := by kernel_rfl
theorem oL17_0 (N : Nat) (g15 : (Int × ((List Int) × Unit)) → Option (D48 × Unit)) (g34 : (D52 × (Int × Unit)) → Option (Int × D159)) : (Obl.loop { ins := L17_0i, outs := L17_0o, ex := some 0, f := fun N => L17_0 N g15 g34 } 244 (subc [true, true, true, false, true, false, false] c17) : Obl (Ty.prods rs17).den).holds (C17 N g15 g34) := by
  intro x Kx
  exact ⟨by kernel_rfl, fun k => by kernel_rfl⟩
theorem ob17 (N : Nat) (g15 : (Int × ((List Int) × Unit)) → Option (D48 × Unit)) (g34 : (D52 × (Int × Unit)) → Option (Int × D159)) : obls (C17 N g15 g34) 1 c17 = [.loop { ins := L17_0i, outs := L17_0o, ex := some 0, f := fun N => L17_0 N g15 g34 } 244 (subc [true, true, true, false, true, false, false] c17)] := by kernel_rfl
theorem eF17 (N : Nat) (g15 : (Int × ((List Int) × Unit)) → Option (D48 × Unit)) (g34 : (D52 × (Int × Unit)) → Option (Int × D159)) (x : (Ty.prods ps17).den) : Go.V.evBody (E17 g15 g34) Go.Proofs.Try.f17 rs17 (M17 g15 g34) N (Go.V.start Go.Proofs.Try.f17 ps17 x) = F17 N g15 g34 x := by kernel_rfl
theorem s17 (N : Nat) (g15 : (Int × ((List Int) × Unit)) → Option (D48 × Unit)) (g34 : (D52 × (Int × Unit)) → Option (Int × D159)) (h15 : Sound Go.Proofs.Try.prog 15 { ps := [(.int .i64), (.sl 3 (.int .i64))], rs := [t48], f := g15 }) (h34 : Sound Go.Proofs.Try.prog 34 { ps := [t52, (.int .i64)], rs := [(.int .i64), .bool], f := g34 }) : Sound Go.Proofs.Try.prog 17 { ps := ps17, rs := rs17, f := F17 N g15 g34 } := by
  have hE : EnvOk Go.Proofs.Try.prog (E17 g15 g34) := env_ok tab17 (by
    intro p hp
    simp only [List.mem_cons, List.not_mem_nil, or_false] at hp
    rcases hp with rfl | rfl
    · exact ⟨h15, Go.Proofs.Try.f15, Go.Proofs.Try.func15, by kernel_rfl, by kernel_rfl⟩
    · exact ⟨h34, Go.Proofs.Try.f34, Go.Proofs.Try.func34, by kernel_rfl, by kernel_rfl⟩) (by
    intro p hp
    cases hp)
  have h := fn_sound hE (by kernel_rfl) Go.Proofs.Try.func17 (show Go.Proofs.Try.f17.body = some c17 by kernel_rfl) ps17 rs17 (M17 g15 g34) N (by
    intro o ho
    have ho : o ∈ obls (C17 N g15 g34) 1 c17 := ho
    rw [ob17] at ho
    simp only [List.mem_cons, List.not_mem_nil, or_false] at ho
    rcases ho with rfl
    · exact oL17_0 N g15 g34)
  have e : (fun x => Go.V.evBody (E17 g15 g34) Go.Proofs.Try.f17 rs17 (M17 g15 g34) N (Go.V.start Go.Proofs.Try.f17 ps17 x)) = F17 N g15 g34 := funext fun x => eF17 N g15 g34 x
  rw [e] at h
  exact h

end Go.Proofs.Ytkifmnocomadfaa
end

/- The reading of poundage curve.Good. -/
section
set_option linter.unusedVariables false
set_option maxRecDepth 100000
namespace Go.Proofs.Ytkifmnocomadfaa
open Go.V

noncomputable def F19 (N : Nat) (g16 : (D48 × Unit) → Option (D52 × D159)) (g17 : (D52 × Unit) → Option (D48 × D159)) (g47 : (D52 × (D52 × Unit)) → Option D159) : (D52 × Unit) → Option D159 := fun x =>
(g17 x).bind fun r1 =>
cond (!r1.2.1) (
some (false, ())) (
(g16 (r1.1, ())).bind fun r2 =>
cond r2.2.1 (
(g47 (x.1, r2.1, ())).bind fun r3 =>
some r3) (
some (false, ())))

noncomputable def ps19 : List Ty := [t52]
noncomputable def rs19 : List Ty := [.bool]
noncomputable def ty19 : List (TypeId × Ty) := [(49, t48), (53, t52)]
noncomputable def by19 : List (TypeId × Nat) := []
noncomputable def eq19 : List TypeId := []
noncomputable def E19 (g16 : (D48 × Unit) → Option (D52 × D159)) (g17 : (D52 × Unit) → Option (D48 × D159)) (g47 : (D52 × (D52 × Unit)) → Option D159) : Go.V.Env := { ty := ty19, bytes := by19, fn := [(16, { ps := [t48], rs := [t52, .bool], f := g16 }), (17, { ps := [t52], rs := [t48, .bool], f := g17 }), (47, { ps := [t52, t52], rs := [.bool], f := g47 })], eqs := eq19, inl := [] }
noncomputable def M19 (g16 : (D48 × Unit) → Option (D52 × D159)) (g17 : (D52 × Unit) → Option (D48 × D159)) (g47 : (D52 × (D52 × Unit)) → Option D159) : List (Nat × Go.V.Mark (Ty.prods rs19).den) := []
noncomputable def C19 (N : Nat) (g16 : (D48 × Unit) → Option (D52 × D159)) (g17 : (D52 × Unit) → Option (D48 × D159)) (g47 : (D52 × (D52 × Unit)) → Option D159) : Go.V.Ctx (Ty.prods rs19).den := { E := E19 g16 g17 g47, n := Go.Proofs.Try.f19.ntmps, marks := M19 g16 g17 g47, fin := Go.V.finish (E19 g16 g17 g47) Go.Proofs.Try.f19 rs19, N }
noncomputable def c19 : Code := (Go.Proofs.Try.f19.body).getD .skip

theorem tab19 : tablesB Go.Proofs.Try.prog ty19 by19 eq19 = true := by kernel_rfl
theorem ob19 (N : Nat) (g16 : (D48 × Unit) → Option (D52 × D159)) (g17 : (D52 × Unit) → Option (D48 × D159)) (g47 : (D52 × (D52 × Unit)) → Option D159) : obls (C19 N g16 g17 g47) 1 c19 = [] := by kernel_rfl
theorem eF19 (N : Nat) (g16 : (D48 × Unit) → Option (D52 × D159)) (g17 : (D52 × Unit) → Option (D48 × D159)) (g47 : (D52 × (D52 × Unit)) → Option D159) (x : (Ty.prods ps19).den) : Go.V.evBody (E19 g16 g17 g47) Go.Proofs.Try.f19 rs19 (M19 g16 g17 g47) N (Go.V.start Go.Proofs.Try.f19 ps19 x) = F19 N g16 g17 g47 x := by kernel_rfl
theorem s19 (N : Nat) (g16 : (D48 × Unit) → Option (D52 × D159)) (g17 : (D52 × Unit) → Option (D48 × D159)) (g47 : (D52 × (D52 × Unit)) → Option D159) (h16 : Sound Go.Proofs.Try.prog 16 { ps := [t48], rs := [t52, .bool], f := g16 }) (h17 : Sound Go.Proofs.Try.prog 17 { ps := [t52], rs := [t48, .bool], f := g17 }) (h47 : Sound Go.Proofs.Try.prog 47 { ps := [t52, t52], rs := [.bool], f := g47 }) : Sound Go.Proofs.Try.prog 19 { ps := ps19, rs := rs19, f := F19 N g16 g17 g47 } := by
  have hE : EnvOk Go.Proofs.Try.prog (E19 g16 g17 g47) := env_ok tab19 (by
    intro p hp
    simp only [List.mem_cons, List.not_mem_nil, or_false] at hp
    rcases hp with rfl | rfl | rfl
    · exact ⟨h16, Go.Proofs.Try.f16, Go.Proofs.Try.func16, by kernel_rfl, by kernel_rfl⟩
    · exact ⟨h17, Go.Proofs.Try.f17, Go.Proofs.Try.func17, by kernel_rfl, by kernel_rfl⟩
    · exact ⟨h47, Go.Proofs.Try.f47, Go.Proofs.Try.func47, by kernel_rfl, by kernel_rfl⟩) (by
    intro p hp
    cases hp)
  have h := fn_sound hE (by kernel_rfl) Go.Proofs.Try.func19 (show Go.Proofs.Try.f19.body = some c19 by kernel_rfl) ps19 rs19 (M19 g16 g17 g47) N (by
    intro o ho
    have ho : o ∈ obls (C19 N g16 g17 g47) 1 c19 := ho
    rw [ob19] at ho
    cases ho)
  have e : (fun x => Go.V.evBody (E19 g16 g17 g47) Go.Proofs.Try.f19 rs19 (M19 g16 g17 g47) N (Go.V.start Go.Proofs.Try.f19 ps19 x)) = F19 N g16 g17 g47 := funext fun x => eF19 N g16 g17 g47 x
  rw [e] at h
  exact h

end Go.Proofs.Ytkifmnocomadfaa
end

/- The reading of poundage algebra.lines. -/
section
set_option linter.unusedVariables false
set_option maxRecDepth 100000
namespace Go.Proofs.Ytkifmnocomadfaa
open Go.V

noncomputable def F93 (N : Nat) (g17 : (D52 × Unit) → Option (D48 × D159)) (g19 : (D52 × Unit) → Option D159) : (D52 × (D52 × Unit)) → Option (D48 × (D48 × D159)) := fun x =>
cond (x.1.1 != x.2.1.1) (
some (([], ()), ([], ()), false, ())) (
(g19 (x.1, ())).bind fun r1 =>
cond (!r1.1) (
some (([], ()), ([], ()), false, ())) (
(g19 x.2).bind fun r2 =>
cond (!r2.1) (
some (([], ()), ([], ()), false, ())) (
(g17 (x.1, ())).bind fun r3 =>
(g17 x.2).bind fun r4 =>
some (r3.1, r4.1, true, ()))))

noncomputable def ps93 : List Ty := [t52, t52]
noncomputable def rs93 : List Ty := [t48, t48, .bool]
noncomputable def ty93 : List (TypeId × Ty) := [(3, (.int .i64)), (49, t48), (53, t52)]
noncomputable def by93 : List (TypeId × Nat) := []
noncomputable def eq93 : List TypeId := []
noncomputable def E93 (g17 : (D52 × Unit) → Option (D48 × D159)) (g19 : (D52 × Unit) → Option D159) : Go.V.Env := { ty := ty93, bytes := by93, fn := [(17, { ps := [t52], rs := [t48, .bool], f := g17 }), (19, { ps := [t52], rs := [.bool], f := g19 })], eqs := eq93, inl := [] }
noncomputable def M93 (g17 : (D52 × Unit) → Option (D48 × D159)) (g19 : (D52 × Unit) → Option D159) : List (Nat × Go.V.Mark (Ty.prods rs93).den) := []
noncomputable def C93 (N : Nat) (g17 : (D52 × Unit) → Option (D48 × D159)) (g19 : (D52 × Unit) → Option D159) : Go.V.Ctx (Ty.prods rs93).den := { E := E93 g17 g19, n := Go.Proofs.Try.f93.ntmps, marks := M93 g17 g19, fin := Go.V.finish (E93 g17 g19) Go.Proofs.Try.f93 rs93, N }
noncomputable def c93 : Code := (Go.Proofs.Try.f93.body).getD .skip

theorem tab93 : tablesB Go.Proofs.Try.prog ty93 by93 eq93 = true := by kernel_rfl
theorem ob93 (N : Nat) (g17 : (D52 × Unit) → Option (D48 × D159)) (g19 : (D52 × Unit) → Option D159) : obls (C93 N g17 g19) 1 c93 = [] := by kernel_rfl
theorem eF93 (N : Nat) (g17 : (D52 × Unit) → Option (D48 × D159)) (g19 : (D52 × Unit) → Option D159) (x : (Ty.prods ps93).den) : Go.V.evBody (E93 g17 g19) Go.Proofs.Try.f93 rs93 (M93 g17 g19) N (Go.V.start Go.Proofs.Try.f93 ps93 x) = F93 N g17 g19 x := by kernel_rfl
theorem s93 (N : Nat) (g17 : (D52 × Unit) → Option (D48 × D159)) (g19 : (D52 × Unit) → Option D159) (h17 : Sound Go.Proofs.Try.prog 17 { ps := [t52], rs := [t48, .bool], f := g17 }) (h19 : Sound Go.Proofs.Try.prog 19 { ps := [t52], rs := [.bool], f := g19 }) : Sound Go.Proofs.Try.prog 93 { ps := ps93, rs := rs93, f := F93 N g17 g19 } := by
  have hE : EnvOk Go.Proofs.Try.prog (E93 g17 g19) := env_ok tab93 (by
    intro p hp
    simp only [List.mem_cons, List.not_mem_nil, or_false] at hp
    rcases hp with rfl | rfl
    · exact ⟨h17, Go.Proofs.Try.f17, Go.Proofs.Try.func17, by kernel_rfl, by kernel_rfl⟩
    · exact ⟨h19, Go.Proofs.Try.f19, Go.Proofs.Try.func19, by kernel_rfl, by kernel_rfl⟩) (by
    intro p hp
    cases hp)
  have h := fn_sound hE (by kernel_rfl) Go.Proofs.Try.func93 (show Go.Proofs.Try.f93.body = some c93 by kernel_rfl) ps93 rs93 (M93 g17 g19) N (by
    intro o ho
    have ho : o ∈ obls (C93 N g17 g19) 1 c93 := ho
    rw [ob93] at ho
    cases ho)
  have e : (fun x => Go.V.evBody (E93 g17 g19) Go.Proofs.Try.f93 rs93 (M93 g17 g19) N (Go.V.start Go.Proofs.Try.f93 ps93 x)) = F93 N g17 g19 := funext fun x => eF93 N g17 g19 x
  rw [e] at h
  exact h

end Go.Proofs.Ytkifmnocomadfaa
end

/- The deep reading of poundage algebra.two. -/
section
set_option linter.unusedVariables false
set_option maxRecDepth 100000
namespace Go.Proofs.Ytkifmnocomadfaa
open Go.V

noncomputable def J81_1i : XShape := { items := [.cst 2 (.fn 96 [(7, 0), (2, 0)]), .cst 3 (.ptr 8 0), .cst 4 (.ptr 9 0), .cst 6 (.ptr 10 0), .cst 7 (.ptr 11 0), .tm 8 (.int .i64), .tm 9 (.int .i64), .cst 10 (.ptr 12 0), .cst 11 (.ptr 13 0), .cst 80 (.ptr 3 0), .cst 85 (.ptr 7 0), .cst 97 (.ptr 6 0), .bxc 7 0 (.ptr 6 0), .bx 2 0 (.clo 55 .unit), .bx 8 0 t48, .bx 9 0 t48, .bx 12 0 t87, .bx 13 0 t87, .bx 3 0 (.int .i64), .bx 6 0 t159, .ownB 10 0 88 t87, .ownB 11 0 88 t87, .ownB 3 1 78 t77], boxes := [none, none, some 107, some 53, none, none, some 160, some 158, some 49, some 49, some 49, some 49, some 88, some 88], n := 74, all := 106 }
noncomputable def J81_1o : XShape := { items := [.cst 2 (.fn 96 [(7, 0), (2, 0)]), .cst 3 (.ptr 8 0), .cst 4 (.ptr 9 0), .cst 6 (.ptr 10 0), .cst 7 (.ptr 11 0), .tm 8 (.int .i64), .tm 9 (.int .i64), .cst 80 (.ptr 3 0), .cst 85 (.ptr 7 0), .cst 97 (.ptr 6 0), .bxc 7 0 (.ptr 6 0), .bx 2 0 (.clo 55 .unit), .bx 8 0 t48, .bx 9 0 t48, .bx 3 0 (.int .i64), .bx 6 0 t159, .ownB 10 0 88 t87, .ownB 11 0 88 t87, .ownB 3 1 78 t77], boxes := [none, none, some 107, some 53, none, none, some 160, some 158, some 49, some 49, some 49, some 49], n := 74, all := 106 }
noncomputable def J81_1r : XShape := { items := [], boxes := [], n := 0, all := 0 }
noncomputable def J81_1 (N : Nat) (g16 : (D48 × Unit) → Option (D52 × D159)) (g55 : D146 → Option (Int × D159)) (g93 : (D52 × (D52 × Unit)) → Option (D48 × (D48 × D159))) : Nat → (Unit × (Unit × (Unit × (Unit × (Unit × (Int × (Int × (Unit × (Unit × (Unit × (Unit × (Unit × (Unit × (Unit × (D48 × (D48 × (D87 × (D87 × (Int × (D159 × ((List D87) × ((List D87) × ((List D77) × Unit))))))))))))))))))))))) → ((Unit × (Unit × (Unit × (Unit × (Unit × (Int × (Int × (Unit × (Unit × (Unit × (Unit × (Unit × (D48 × (D48 × (Int × (D159 × ((List D87) × ((List D87) × ((List D77) × Unit))))))))))))))))))) → Option (D52 × D159)) → (Unit → Option (D52 × D159)) → Option (D52 × D159) := fun _ x7 Kx Rx =>
cond (decide (x7.2.2.2.2.2.2.2.2.2.2.2.2.2.2.2.2.1.2.1 ≤ x7.2.2.2.2.2.2.2.2.2.2.2.2.2.2.2.2.2.1.2.1)) (
cond (decide (x7.2.2.2.2.2.2.2.2.2.2.2.2.2.2.2.2.2.1.2.1 ≤ x7.2.2.2.2.2.2.2.2.2.2.2.2.2.2.2.2.1.2.1)) (
let v8 := (IntKind.i64.wrap (x7.2.2.2.2.2.2.1 + (1 : Int)))
Kx ((), (), (), (), (), (IntKind.i64.wrap (x7.2.2.2.2.2.1 + (1 : Int))), v8, (), (), (), (), x7.2.2.2.2.2.2.2.2.2.2.2.2.2.1, x7.2.2.2.2.2.2.2.2.2.2.2.2.2.2.1, x7.2.2.2.2.2.2.2.2.2.2.2.2.2.2.2.1, x7.2.2.2.2.2.2.2.2.2.2.2.2.2.2.2.2.2.2.1, x7.2.2.2.2.2.2.2.2.2.2.2.2.2.2.2.2.2.2.2.1, x7.2.2.2.2.2.2.2.2.2.2.2.2.2.2.2.2.2.2.2.2.1, x7.2.2.2.2.2.2.2.2.2.2.2.2.2.2.2.2.2.2.2.2.2.1, x7.2.2.2.2.2.2.2.2.2.2.2.2.2.2.2.2.2.2.2.2.2.2.1, ())) (
Kx ((), (), (), (), (), (IntKind.i64.wrap (x7.2.2.2.2.2.1 + (1 : Int))), x7.2.2.2.2.2.2.1, (), (), (), (), x7.2.2.2.2.2.2.2.2.2.2.2.2.2.1, x7.2.2.2.2.2.2.2.2.2.2.2.2.2.2.1, x7.2.2.2.2.2.2.2.2.2.2.2.2.2.2.2.1, x7.2.2.2.2.2.2.2.2.2.2.2.2.2.2.2.2.2.2.1, x7.2.2.2.2.2.2.2.2.2.2.2.2.2.2.2.2.2.2.2.1, x7.2.2.2.2.2.2.2.2.2.2.2.2.2.2.2.2.2.2.2.2.1, x7.2.2.2.2.2.2.2.2.2.2.2.2.2.2.2.2.2.2.2.2.2.1, x7.2.2.2.2.2.2.2.2.2.2.2.2.2.2.2.2.2.2.2.2.2.2.1, ()))) (
cond (decide (x7.2.2.2.2.2.2.2.2.2.2.2.2.2.2.2.2.2.1.2.1 ≤ x7.2.2.2.2.2.2.2.2.2.2.2.2.2.2.2.2.1.2.1)) (
let v9 := (IntKind.i64.wrap (x7.2.2.2.2.2.2.1 + (1 : Int)))
Kx ((), (), (), (), (), x7.2.2.2.2.2.1, v9, (), (), (), (), x7.2.2.2.2.2.2.2.2.2.2.2.2.2.1, x7.2.2.2.2.2.2.2.2.2.2.2.2.2.2.1, x7.2.2.2.2.2.2.2.2.2.2.2.2.2.2.2.1, x7.2.2.2.2.2.2.2.2.2.2.2.2.2.2.2.2.2.2.1, x7.2.2.2.2.2.2.2.2.2.2.2.2.2.2.2.2.2.2.2.1, x7.2.2.2.2.2.2.2.2.2.2.2.2.2.2.2.2.2.2.2.2.1, x7.2.2.2.2.2.2.2.2.2.2.2.2.2.2.2.2.2.2.2.2.2.1, x7.2.2.2.2.2.2.2.2.2.2.2.2.2.2.2.2.2.2.2.2.2.2.1, ())) (
Kx ((), (), (), (), (), x7.2.2.2.2.2.1, x7.2.2.2.2.2.2.1, (), (), (), (), x7.2.2.2.2.2.2.2.2.2.2.2.2.2.1, x7.2.2.2.2.2.2.2.2.2.2.2.2.2.2.1, x7.2.2.2.2.2.2.2.2.2.2.2.2.2.2.2.1, x7.2.2.2.2.2.2.2.2.2.2.2.2.2.2.2.2.2.2.1, x7.2.2.2.2.2.2.2.2.2.2.2.2.2.2.2.2.2.2.2.1, x7.2.2.2.2.2.2.2.2.2.2.2.2.2.2.2.2.2.2.2.2.1, x7.2.2.2.2.2.2.2.2.2.2.2.2.2.2.2.2.2.2.2.2.2.1, x7.2.2.2.2.2.2.2.2.2.2.2.2.2.2.2.2.2.2.2.2.2.2.1, ())))

noncomputable def L81_0i : XShape := { items := [.cst 2 (.fn 96 [(7, 0), (2, 0)]), .cst 3 (.ptr 8 0), .cst 4 (.ptr 9 0), .cst 6 (.ptr 10 0), .cst 7 (.ptr 11 0), .tm 8 (.int .i64), .tm 9 (.int .i64), .cst 80 (.ptr 3 0), .cst 85 (.ptr 7 0), .cst 97 (.ptr 6 0), .bxc 7 0 (.ptr 6 0), .bx 2 0 (.clo 55 .unit), .bx 8 0 t48, .bx 9 0 t48, .bx 3 0 (.int .i64), .bx 6 0 t159, .ownB 10 0 88 t87, .ownB 11 0 88 t87, .ownB 3 1 78 t77], boxes := [none, none, some 107, some 53, none, none, some 160, some 158, some 49, some 49, some 49, some 49], n := 74, all := 106 }
noncomputable def L81_0o : XShape := { items := [.cst 6 (.ptr 10 0), .cst 7 (.ptr 11 0), .cst 80 (.ptr 3 0), .cst 85 (.ptr 7 0), .cst 97 (.ptr 6 0), .bx 3 0 (.int .i64), .bxc 7 0 (.ptr 6 0), .bx 6 0 t159, .ownB 10 0 88 t87, .ownB 11 0 88 t87, .ownB 3 1 78 t77], boxes := [none, none, none, some 53, none, none, some 160, some 158, none, none, some 49, some 49], n := 74, all := 106 }
noncomputable def L81_0r : XShape := { items := [], boxes := [], n := 0, all := 0 }
noncomputable def L81_0 (N : Nat) (g16 : (D48 × Unit) → Option (D52 × D159)) (g55 : D146 → Option (Int × D159)) (g93 : (D52 × (D52 × Unit)) → Option (D48 × (D48 × D159))) : Nat → (Unit × (Unit × (Unit × (Unit × (Unit × (Int × (Int × (Unit × (Unit × (Unit × (Unit × (Unit × (D48 × (D48 × (Int × (D159 × ((List D87) × ((List D87) × ((List D77) × Unit))))))))))))))))))) → ((Unit × (Unit × (Unit × (Unit × (Unit × (Int × (Unit × (D159 × ((List D87) × ((List D87) × ((List D77) × Unit))))))))))) → Option (D52 × D159)) → (Unit → Option (D52 × D159)) → Option (D52 × D159)
| 0, _, _, _ => none
| k + 1, x2, Kx, Rx =>
cond (decide (x2.2.2.2.2.2.1 < (x2.2.2.2.2.2.2.2.2.2.2.2.2.1.1.length : Int))) (
cond (decide (x2.2.2.2.2.2.2.1 < (x2.2.2.2.2.2.2.2.2.2.2.2.2.2.1.1.length : Int))) (
if 0 ≤ x2.2.2.2.2.2.1 then
if x2.2.2.2.2.2.1 < (x2.2.2.2.2.2.2.2.2.2.2.2.2.1.1.length : Int) then
let e3 : D87 := rdAt (t := t87) x2.2.2.2.2.2.2.2.2.2.2.2.2.1.1 x2.2.2.2.2.2.1
if 0 ≤ x2.2.2.2.2.2.2.1 then
if x2.2.2.2.2.2.2.1 < (x2.2.2.2.2.2.2.2.2.2.2.2.2.2.1.1.length : Int) then
let e4 : D87 := rdAt (t := t87) x2.2.2.2.2.2.2.2.2.2.2.2.2.2.1.1 x2.2.2.2.2.2.2.1
cond (decide ((if e4.1 > e3.1 then e4.1 else e3.1) ≤ (if e4.2.1 < e3.2.1 then e4.2.1 else e3.2.1))) (
(g55 (e3.2.2.1, e4.2.2)).bind fun r5 =>
cond x2.2.2.2.2.2.2.2.2.2.2.2.2.2.2.2.1.1 (
let v6 := (x2.2.2.2.2.2.2.2.2.2.2.2.2.2.2.2.2.2.1.length : Int)
cond (decide (v6 > (0 : Int))) (
if 0 ≤ (IntKind.i64.wrap (v6 - (1 : Int))) then
if (IntKind.i64.wrap (v6 - (1 : Int))) < (x2.2.2.2.2.2.2.2.2.2.2.2.2.2.2.2.2.2.1.length : Int) then
cond ((rdAt (t := t87) x2.2.2.2.2.2.2.2.2.2.2.2.2.2.2.2.2.2.1 (IntKind.i64.wrap (v6 - (1 : Int))) : D87).2.2.1 == r5.1) (
if 0 ≤ (IntKind.i64.wrap (v6 - (1 : Int))) then
if (IntKind.i64.wrap (v6 - (1 : Int))) < (x2.2.2.2.2.2.2.2.2.2.2.2.2.2.2.2.2.2.1.length : Int) then
J81_1 N g16 g55 g93 0 ((), (), (), (), (), x2.2.2.2.2.2.1, x2.2.2.2.2.2.2.1, (), (), (), (), (), (), x2.2.2.2.2.2.2.2.2.2.2.2.1, x2.2.2.2.2.2.2.2.2.2.2.2.2.1, x2.2.2.2.2.2.2.2.2.2.2.2.2.2.1, e3, e4, x2.2.2.2.2.2.2.2.2.2.2.2.2.2.2.1, (true, ()), x2.2.2.2.2.2.2.2.2.2.2.2.2.2.2.2.2.1, (x2.2.2.2.2.2.2.2.2.2.2.2.2.2.2.2.2.2.1.set ((IntKind.i64.wrap (v6 - (1 : Int)))).toNat ((rdAt (t := t87) x2.2.2.2.2.2.2.2.2.2.2.2.2.2.2.2.2.2.1 (IntKind.i64.wrap (v6 - (1 : Int))) : D87).1, (if e4.2.1 < e3.2.1 then e4.2.1 else e3.2.1), (rdAt (t := t87) x2.2.2.2.2.2.2.2.2.2.2.2.2.2.2.2.2.2.1 (IntKind.i64.wrap (v6 - (1 : Int))) : D87).2.2)), x2.2.2.2.2.2.2.2.2.2.2.2.2.2.2.2.2.2.2.1, ()) (fun y10 =>
L81_0 N g16 g55 g93 k ((), (), (), (), (), y10.2.2.2.2.2.1, y10.2.2.2.2.2.2.1, (), (), (), (), y10.2.2.2.2.2.2.2.2.2.2.2.1, y10.2.2.2.2.2.2.2.2.2.2.2.2.1, y10.2.2.2.2.2.2.2.2.2.2.2.2.2.1, y10.2.2.2.2.2.2.2.2.2.2.2.2.2.2.1, y10.2.2.2.2.2.2.2.2.2.2.2.2.2.2.2.1, y10.2.2.2.2.2.2.2.2.2.2.2.2.2.2.2.2.1, y10.2.2.2.2.2.2.2.2.2.2.2.2.2.2.2.2.2.1, y10.2.2.2.2.2.2.2.2.2.2.2.2.2.2.2.2.2.2.1, ()) Kx Rx) (fun _ => none)
else none
else none) (
if x2.2.2.2.2.2.2.2.2.2.2.2.2.2.2.2.2.2.1.length + 1 ≤ 5864062014805 then
let v11 := (x2.2.2.2.2.2.2.2.2.2.2.2.2.2.2.2.2.2.1 ++ [((if e4.1 > e3.1 then e4.1 else e3.1), (if e4.2.1 < e3.2.1 then e4.2.1 else e3.2.1), r5.1, ())])
J81_1 N g16 g55 g93 0 ((), (), (), (), (), x2.2.2.2.2.2.1, x2.2.2.2.2.2.2.1, (), (), (), (), (), (), x2.2.2.2.2.2.2.2.2.2.2.2.1, x2.2.2.2.2.2.2.2.2.2.2.2.2.1, x2.2.2.2.2.2.2.2.2.2.2.2.2.2.1, e3, e4, x2.2.2.2.2.2.2.2.2.2.2.2.2.2.2.1, (true, ()), x2.2.2.2.2.2.2.2.2.2.2.2.2.2.2.2.2.1, v11, x2.2.2.2.2.2.2.2.2.2.2.2.2.2.2.2.2.2.2.1, ()) (fun y12 =>
L81_0 N g16 g55 g93 k ((), (), (), (), (), y12.2.2.2.2.2.1, y12.2.2.2.2.2.2.1, (), (), (), (), y12.2.2.2.2.2.2.2.2.2.2.2.1, y12.2.2.2.2.2.2.2.2.2.2.2.2.1, y12.2.2.2.2.2.2.2.2.2.2.2.2.2.1, y12.2.2.2.2.2.2.2.2.2.2.2.2.2.2.1, y12.2.2.2.2.2.2.2.2.2.2.2.2.2.2.2.1, y12.2.2.2.2.2.2.2.2.2.2.2.2.2.2.2.2.1, y12.2.2.2.2.2.2.2.2.2.2.2.2.2.2.2.2.2.1, y12.2.2.2.2.2.2.2.2.2.2.2.2.2.2.2.2.2.2.1, ()) Kx Rx) (fun _ => none)
else none)
else none
else none) (
if x2.2.2.2.2.2.2.2.2.2.2.2.2.2.2.2.2.2.1.length + 1 ≤ 5864062014805 then
let v13 := (x2.2.2.2.2.2.2.2.2.2.2.2.2.2.2.2.2.2.1 ++ [((if e4.1 > e3.1 then e4.1 else e3.1), (if e4.2.1 < e3.2.1 then e4.2.1 else e3.2.1), r5.1, ())])
J81_1 N g16 g55 g93 0 ((), (), (), (), (), x2.2.2.2.2.2.1, x2.2.2.2.2.2.2.1, (), (), (), (), (), (), x2.2.2.2.2.2.2.2.2.2.2.2.1, x2.2.2.2.2.2.2.2.2.2.2.2.2.1, x2.2.2.2.2.2.2.2.2.2.2.2.2.2.1, e3, e4, x2.2.2.2.2.2.2.2.2.2.2.2.2.2.2.1, (true, ()), x2.2.2.2.2.2.2.2.2.2.2.2.2.2.2.2.2.1, v13, x2.2.2.2.2.2.2.2.2.2.2.2.2.2.2.2.2.2.2.1, ()) (fun y14 =>
L81_0 N g16 g55 g93 k ((), (), (), (), (), y14.2.2.2.2.2.1, y14.2.2.2.2.2.2.1, (), (), (), (), y14.2.2.2.2.2.2.2.2.2.2.2.1, y14.2.2.2.2.2.2.2.2.2.2.2.2.1, y14.2.2.2.2.2.2.2.2.2.2.2.2.2.1, y14.2.2.2.2.2.2.2.2.2.2.2.2.2.2.1, y14.2.2.2.2.2.2.2.2.2.2.2.2.2.2.2.1, y14.2.2.2.2.2.2.2.2.2.2.2.2.2.2.2.2.1, y14.2.2.2.2.2.2.2.2.2.2.2.2.2.2.2.2.2.1, y14.2.2.2.2.2.2.2.2.2.2.2.2.2.2.2.2.2.2.1, ()) Kx Rx) (fun _ => none)
else none)) (
let v15 := (x2.2.2.2.2.2.2.2.2.2.2.2.2.2.2.2.2.2.1.length : Int)
cond (decide (v15 > (0 : Int))) (
if 0 ≤ (IntKind.i64.wrap (v15 - (1 : Int))) then
if (IntKind.i64.wrap (v15 - (1 : Int))) < (x2.2.2.2.2.2.2.2.2.2.2.2.2.2.2.2.2.2.1.length : Int) then
cond ((rdAt (t := t87) x2.2.2.2.2.2.2.2.2.2.2.2.2.2.2.2.2.2.1 (IntKind.i64.wrap (v15 - (1 : Int))) : D87).2.2.1 == r5.1) (
if 0 ≤ (IntKind.i64.wrap (v15 - (1 : Int))) then
if (IntKind.i64.wrap (v15 - (1 : Int))) < (x2.2.2.2.2.2.2.2.2.2.2.2.2.2.2.2.2.2.1.length : Int) then
J81_1 N g16 g55 g93 0 ((), (), (), (), (), x2.2.2.2.2.2.1, x2.2.2.2.2.2.2.1, (), (), (), (), (), (), x2.2.2.2.2.2.2.2.2.2.2.2.1, x2.2.2.2.2.2.2.2.2.2.2.2.2.1, x2.2.2.2.2.2.2.2.2.2.2.2.2.2.1, e3, e4, x2.2.2.2.2.2.2.2.2.2.2.2.2.2.2.1, ((!r5.2.1), ()), x2.2.2.2.2.2.2.2.2.2.2.2.2.2.2.2.2.1, (x2.2.2.2.2.2.2.2.2.2.2.2.2.2.2.2.2.2.1.set ((IntKind.i64.wrap (v15 - (1 : Int)))).toNat ((rdAt (t := t87) x2.2.2.2.2.2.2.2.2.2.2.2.2.2.2.2.2.2.1 (IntKind.i64.wrap (v15 - (1 : Int))) : D87).1, (if e4.2.1 < e3.2.1 then e4.2.1 else e3.2.1), (rdAt (t := t87) x2.2.2.2.2.2.2.2.2.2.2.2.2.2.2.2.2.2.1 (IntKind.i64.wrap (v15 - (1 : Int))) : D87).2.2)), x2.2.2.2.2.2.2.2.2.2.2.2.2.2.2.2.2.2.2.1, ()) (fun y16 =>
L81_0 N g16 g55 g93 k ((), (), (), (), (), y16.2.2.2.2.2.1, y16.2.2.2.2.2.2.1, (), (), (), (), y16.2.2.2.2.2.2.2.2.2.2.2.1, y16.2.2.2.2.2.2.2.2.2.2.2.2.1, y16.2.2.2.2.2.2.2.2.2.2.2.2.2.1, y16.2.2.2.2.2.2.2.2.2.2.2.2.2.2.1, y16.2.2.2.2.2.2.2.2.2.2.2.2.2.2.2.1, y16.2.2.2.2.2.2.2.2.2.2.2.2.2.2.2.2.1, y16.2.2.2.2.2.2.2.2.2.2.2.2.2.2.2.2.2.1, y16.2.2.2.2.2.2.2.2.2.2.2.2.2.2.2.2.2.2.1, ()) Kx Rx) (fun _ => none)
else none
else none) (
if x2.2.2.2.2.2.2.2.2.2.2.2.2.2.2.2.2.2.1.length + 1 ≤ 5864062014805 then
let v17 := (x2.2.2.2.2.2.2.2.2.2.2.2.2.2.2.2.2.2.1 ++ [((if e4.1 > e3.1 then e4.1 else e3.1), (if e4.2.1 < e3.2.1 then e4.2.1 else e3.2.1), r5.1, ())])
J81_1 N g16 g55 g93 0 ((), (), (), (), (), x2.2.2.2.2.2.1, x2.2.2.2.2.2.2.1, (), (), (), (), (), (), x2.2.2.2.2.2.2.2.2.2.2.2.1, x2.2.2.2.2.2.2.2.2.2.2.2.2.1, x2.2.2.2.2.2.2.2.2.2.2.2.2.2.1, e3, e4, x2.2.2.2.2.2.2.2.2.2.2.2.2.2.2.1, ((!r5.2.1), ()), x2.2.2.2.2.2.2.2.2.2.2.2.2.2.2.2.2.1, v17, x2.2.2.2.2.2.2.2.2.2.2.2.2.2.2.2.2.2.2.1, ()) (fun y18 =>
L81_0 N g16 g55 g93 k ((), (), (), (), (), y18.2.2.2.2.2.1, y18.2.2.2.2.2.2.1, (), (), (), (), y18.2.2.2.2.2.2.2.2.2.2.2.1, y18.2.2.2.2.2.2.2.2.2.2.2.2.1, y18.2.2.2.2.2.2.2.2.2.2.2.2.2.1, y18.2.2.2.2.2.2.2.2.2.2.2.2.2.2.1, y18.2.2.2.2.2.2.2.2.2.2.2.2.2.2.2.1, y18.2.2.2.2.2.2.2.2.2.2.2.2.2.2.2.2.1, y18.2.2.2.2.2.2.2.2.2.2.2.2.2.2.2.2.2.1, y18.2.2.2.2.2.2.2.2.2.2.2.2.2.2.2.2.2.2.1, ()) Kx Rx) (fun _ => none)
else none)
else none
else none) (
if x2.2.2.2.2.2.2.2.2.2.2.2.2.2.2.2.2.2.1.length + 1 ≤ 5864062014805 then
let v19 := (x2.2.2.2.2.2.2.2.2.2.2.2.2.2.2.2.2.2.1 ++ [((if e4.1 > e3.1 then e4.1 else e3.1), (if e4.2.1 < e3.2.1 then e4.2.1 else e3.2.1), r5.1, ())])
J81_1 N g16 g55 g93 0 ((), (), (), (), (), x2.2.2.2.2.2.1, x2.2.2.2.2.2.2.1, (), (), (), (), (), (), x2.2.2.2.2.2.2.2.2.2.2.2.1, x2.2.2.2.2.2.2.2.2.2.2.2.2.1, x2.2.2.2.2.2.2.2.2.2.2.2.2.2.1, e3, e4, x2.2.2.2.2.2.2.2.2.2.2.2.2.2.2.1, ((!r5.2.1), ()), x2.2.2.2.2.2.2.2.2.2.2.2.2.2.2.2.2.1, v19, x2.2.2.2.2.2.2.2.2.2.2.2.2.2.2.2.2.2.2.1, ()) (fun y20 =>
L81_0 N g16 g55 g93 k ((), (), (), (), (), y20.2.2.2.2.2.1, y20.2.2.2.2.2.2.1, (), (), (), (), y20.2.2.2.2.2.2.2.2.2.2.2.1, y20.2.2.2.2.2.2.2.2.2.2.2.2.1, y20.2.2.2.2.2.2.2.2.2.2.2.2.2.1, y20.2.2.2.2.2.2.2.2.2.2.2.2.2.2.1, y20.2.2.2.2.2.2.2.2.2.2.2.2.2.2.2.1, y20.2.2.2.2.2.2.2.2.2.2.2.2.2.2.2.2.1, y20.2.2.2.2.2.2.2.2.2.2.2.2.2.2.2.2.2.1, y20.2.2.2.2.2.2.2.2.2.2.2.2.2.2.2.2.2.2.1, ()) Kx Rx) (fun _ => none)
else none))) (
J81_1 N g16 g55 g93 0 ((), (), (), (), (), x2.2.2.2.2.2.1, x2.2.2.2.2.2.2.1, (), (), (), (), (), (), x2.2.2.2.2.2.2.2.2.2.2.2.1, x2.2.2.2.2.2.2.2.2.2.2.2.2.1, x2.2.2.2.2.2.2.2.2.2.2.2.2.2.1, e3, e4, x2.2.2.2.2.2.2.2.2.2.2.2.2.2.2.1, x2.2.2.2.2.2.2.2.2.2.2.2.2.2.2.2.1, x2.2.2.2.2.2.2.2.2.2.2.2.2.2.2.2.2.1, x2.2.2.2.2.2.2.2.2.2.2.2.2.2.2.2.2.2.1, x2.2.2.2.2.2.2.2.2.2.2.2.2.2.2.2.2.2.2.1, ()) (fun y21 =>
L81_0 N g16 g55 g93 k ((), (), (), (), (), y21.2.2.2.2.2.1, y21.2.2.2.2.2.2.1, (), (), (), (), y21.2.2.2.2.2.2.2.2.2.2.2.1, y21.2.2.2.2.2.2.2.2.2.2.2.2.1, y21.2.2.2.2.2.2.2.2.2.2.2.2.2.1, y21.2.2.2.2.2.2.2.2.2.2.2.2.2.2.1, y21.2.2.2.2.2.2.2.2.2.2.2.2.2.2.2.1, y21.2.2.2.2.2.2.2.2.2.2.2.2.2.2.2.2.1, y21.2.2.2.2.2.2.2.2.2.2.2.2.2.2.2.2.2.1, y21.2.2.2.2.2.2.2.2.2.2.2.2.2.2.2.2.2.2.1, ()) Kx Rx) (fun _ => none))
else none
else none
else none
else none) (
Kx ((), (), (), (), (), x2.2.2.2.2.2.2.2.2.2.2.2.2.2.2.1, (), x2.2.2.2.2.2.2.2.2.2.2.2.2.2.2.2.1, x2.2.2.2.2.2.2.2.2.2.2.2.2.2.2.2.2.1, x2.2.2.2.2.2.2.2.2.2.2.2.2.2.2.2.2.2.1, x2.2.2.2.2.2.2.2.2.2.2.2.2.2.2.2.2.2.2.1, ()))) (
Kx ((), (), (), (), (), x2.2.2.2.2.2.2.2.2.2.2.2.2.2.2.1, (), x2.2.2.2.2.2.2.2.2.2.2.2.2.2.2.2.1, x2.2.2.2.2.2.2.2.2.2.2.2.2.2.2.2.2.1, x2.2.2.2.2.2.2.2.2.2.2.2.2.2.2.2.2.2.1, x2.2.2.2.2.2.2.2.2.2.2.2.2.2.2.2.2.2.2.1, ()))

noncomputable def F81 (N : Nat) (g16 : (D48 × Unit) → Option (D52 × D159)) (g55 : D146 → Option (Int × D159)) (g93 : (D52 × (D52 × Unit)) → Option (D48 × (D48 × D159))) : (D52 × (D52 × (Unit × Unit))) → Option (D52 × D159) := fun x =>
(g93 (x.1, x.2.1, ())).bind fun r1 =>
cond (!r1.2.2.1) (
some (((0 : Int), [], ()), false, ())) (
L81_0 N g16 g55 g93 N ((), (), (), (), (), (0 : Int), (0 : Int), (), (), (), (), x.2.2.1, r1.1, r1.2.1, (0 : Int), (false, ()), [], [], [], ()) (fun y22 =>
cond y22.2.2.2.2.2.2.2.1.1 (
some (((0 : Int), [], ()), false, ())) (
(g16 ((y22.2.2.2.2.2.2.2.2.2.1, ()), ())).bind fun r23 =>
some r23)) (fun _ => none))

noncomputable def ps81 : List Ty := [t52, t52, (.clo 55 .unit)]
noncomputable def rs81 : List Ty := [t52, .bool]
noncomputable def ty81 : List (TypeId × Ty) := [(3, (.int .i64)), (4, .bool), (47, (.sl 88 t87)), (49, t48), (53, t52), (88, t87), (107, (.clo 55 .unit)), (158, (.ref t159)), (160, t159)]
noncomputable def by81 : List (TypeId × Nat) := [(88, 24)]
noncomputable def eq81 : List TypeId := []
noncomputable def E81 (g16 : (D48 × Unit) → Option (D52 × D159)) (g55 : D146 → Option (Int × D159)) (g93 : (D52 × (D52 × Unit)) → Option (D48 × (D48 × D159))) : Go.V.Env := { ty := ty81, bytes := by81, fn := [(16, { ps := [t48], rs := [t52, .bool], f := g16 }), (55, { ps := [(.int .i64), (.int .i64)], rs := [(.int .i64), .bool], f := g55 }), (93, { ps := [t52, t52], rs := [t48, t48, .bool], f := g93 })], eqs := eq81, inl := [(39, Go.Proofs.Try.f39), (94, Go.Proofs.Try.f94), (95, Go.Proofs.Try.f95), (96, Go.Proofs.Try.f96), (97, Go.Proofs.Try.f97)] }
noncomputable def mJ81_1 (g16 : (D48 × Unit) → Option (D52 × D159)) (g55 : D146 → Option (Int × D159)) (g93 : (D52 × (D52 × Unit)) → Option (D48 × (D48 × D159))) : Pos × Go.V.XMark (Ty.prods rs81).den := ((3863, [{ f := 95, i := 4, p := 62 }]), { ins := J81_1i, outs := J81_1o, rets := J81_1r, ex := none, top := false, rt := false, f := fun N => J81_1 N g16 g55 g93 })
noncomputable def mL81_0 (g16 : (D48 × Unit) → Option (D52 × D159)) (g55 : D146 → Option (Int × D159)) (g93 : (D52 × (D52 × Unit)) → Option (D48 × (D48 × D159))) : Pos × Go.V.XMark (Ty.prods rs81).den := ((120, [{ f := 95, i := 4, p := 62 }]), { ins := L81_0i, outs := L81_0o, rets := L81_0r, ex := some 0, top := false, rt := false, f := fun N => L81_0 N g16 g55 g93 })
noncomputable def M81 (g16 : (D48 × Unit) → Option (D52 × D159)) (g55 : D146 → Option (Int × D159)) (g93 : (D52 × (D52 × Unit)) → Option (D48 × (D48 × D159))) : List (Pos × Go.V.XMark (Ty.prods rs81).den) := [mJ81_1 g16 g55 g93, mL81_0 g16 g55 g93]
noncomputable def c81 : Code := (Go.Proofs.Try.f81.body).getD .skip
noncomputable def C81 (N : Nat) (g16 : (D48 × Unit) → Option (D52 × D159)) (g55 : D146 → Option (Int × D159)) (g93 : (D52 × (D52 × Unit)) → Option (D48 × (D48 × D159))) : Go.V.XCtx (Ty.prods rs81).den := { E := E81 g16 g55 g93, cut := [], grow := [], marks := M81 g16 g55 g93, bars := [((62, []), [{ pre := [1, 2, 3], x := 4, fl := some { y := 0, d := 24, a := 11, i := 7, k := 6, o := 0, t := 23 } }, { pre := [0], x := 5, fl := none }], [6, 7, 8, 9]), ((6, [{ f := 96, i := 7, p := 15450 }, { f := 95, i := 4, p := 62 }]), [{ pre := [0, 1, 2, 3, 4, 5, 6], x := 7, fl := none }], [8])], fin := Go.V.finish (E81 g16 g55 g93) Go.Proofs.Try.f81 rs81, N, D := 3, root := c81 }

theorem tab81 : tablesB Go.Proofs.Try.prog ty81 by81 eq81 = true := by kernel_rfl
theorem oJ81_1 (N : Nat) (g16 : (D48 × Unit) → Option (D52 × D159)) (g55 : D146 → Option (Int × D159)) (g93 : (D52 × (D52 × Unit)) → Option (D48 × (D48 × D159))) : ObX (C81 N g16 g55 g93) (mJ81_1 g16 g55 g93) := by
  refine obX_join ⟨fun h => (by cases h), fun h => (by cases h)⟩ [true, true, true, false, false, false, true, false, true, true, true] ((Go.Proofs.Try.f95.body).getD .skip) (by kernel_rfl) (by kernel_rfl) (by kernel_rfl) ?_
  intro x Kx Rx
  kernel_rfl
theorem oL81_0 (N : Nat) (g16 : (D48 × Unit) → Option (D52 × D159)) (g55 : D146 → Option (Int × D159)) (g93 : (D52 × (D52 × Unit)) → Option (D48 × (D48 × D159))) : ObX (C81 N g16 g55 g93) (mL81_0 g16 g55 g93) := by
  refine obX_loop ⟨fun h => (by cases h), fun h => (by cases h)⟩ [true, true, true, false, false, false] ((Go.Proofs.Try.f95.body).getD .skip) (by kernel_rfl) (by kernel_rfl) (by kernel_rfl) ?_
  intro x Kx Rx
  exact ⟨by kernel_rfl, fun k => by kernel_rfl⟩
theorem eF81 (N : Nat) (g16 : (D48 × Unit) → Option (D52 × D159)) (g55 : D146 → Option (Int × D159)) (g93 : (D52 × (D52 × Unit)) → Option (D48 × (D48 × D159))) (x : (Ty.prods ps81).den) : Go.V.evRoot (C81 N g16 g55 g93) Go.Proofs.Try.f81 (Go.V.start Go.Proofs.Try.f81 ps81 x) = F81 N g16 g55 g93 x := by kernel_rfl
theorem s81 (N : Nat) (g16 : (D48 × Unit) → Option (D52 × D159)) (g55 : D146 → Option (Int × D159)) (g93 : (D52 × (D52 × Unit)) → Option (D48 × (D48 × D159))) (h16 : Sound Go.Proofs.Try.prog 16 { ps := [t48], rs := [t52, .bool], f := g16 }) (h55 : Sound Go.Proofs.Try.prog 55 { ps := [(.int .i64), (.int .i64)], rs := [(.int .i64), .bool], f := g55 }) (h93 : Sound Go.Proofs.Try.prog 93 { ps := [t52, t52], rs := [t48, t48, .bool], f := g93 }) : Sound Go.Proofs.Try.prog 81 { ps := ps81, rs := rs81, f := F81 N g16 g55 g93 } := by
  have hE : EnvOk Go.Proofs.Try.prog (E81 g16 g55 g93) := env_ok tab81 (by
    intro p hp
    simp only [List.mem_cons, List.not_mem_nil, or_false] at hp
    rcases hp with rfl | rfl | rfl
    · exact ⟨h16, Go.Proofs.Try.f16, Go.Proofs.Try.func16, by kernel_rfl, by kernel_rfl⟩
    · exact ⟨h55, Go.Proofs.Try.f55, Go.Proofs.Try.func55, by kernel_rfl, by kernel_rfl⟩
    · exact ⟨h93, Go.Proofs.Try.f93, Go.Proofs.Try.func93, by kernel_rfl, by kernel_rfl⟩) (by
    intro p hp
    simp only [List.mem_cons, List.not_mem_nil, or_false] at hp
    rcases hp with rfl | rfl | rfl | rfl | rfl
    · exact ⟨Go.Proofs.Try.func39, by kernel_rfl, by kernel_rfl⟩
    · exact ⟨Go.Proofs.Try.func94, by kernel_rfl, by kernel_rfl⟩
    · exact ⟨Go.Proofs.Try.func95, by kernel_rfl, by kernel_rfl⟩
    · exact ⟨Go.Proofs.Try.func96, by kernel_rfl, by kernel_rfl⟩
    · exact ⟨Go.Proofs.Try.func97, by kernel_rfl, by kernel_rfl⟩)
  have h := fnX_sound (C := C81 N g16 g55 g93) (by kernel_rfl) Go.Proofs.Try.func81 (show Go.Proofs.Try.f81.body = some c81 by kernel_rfl) ps81 rs81 rfl rfl hE (by
    intro f t h
    cases h) (by
    intro e he
    have he : e ∈ M81 g16 g55 g93 := he
    simp only [M81, List.mem_cons, List.not_mem_nil, or_false] at he
    rcases he with rfl | rfl
    · exact oJ81_1 N g16 g55 g93
    · exact oL81_0 N g16 g55 g93)
  have e : (fun x => Go.V.evRoot (C81 N g16 g55 g93) Go.Proofs.Try.f81 (Go.V.start Go.Proofs.Try.f81 ps81 x)) = F81 N g16 g55 g93 := funext fun x => eF81 N g16 g55 g93 x
  rw [e] at h
  exact h

end Go.Proofs.Ytkifmnocomadfaa
end

/- The reading of poundage algebra.Diff. -/
section
set_option linter.unusedVariables false
set_option maxRecDepth 100000
namespace Go.Proofs.Ytkifmnocomadfaa
open Go.V

noncomputable def F56 (N : Nat) (g81 : (D52 × (D52 × (Unit × Unit))) → Option (D52 × D159)) : (D52 × (D52 × Unit)) → Option (D52 × D159) := fun x =>
(g81 (x.1, x.2.1, (), ())).bind fun r1 =>
some r1

noncomputable def ps56 : List Ty := [t52, t52]
noncomputable def rs56 : List Ty := [t52, .bool]
noncomputable def ty56 : List (TypeId × Ty) := [(53, t52)]
noncomputable def by56 : List (TypeId × Nat) := []
noncomputable def eq56 : List TypeId := []
noncomputable def E56 (g81 : (D52 × (D52 × (Unit × Unit))) → Option (D52 × D159)) : Go.V.Env := { ty := ty56, bytes := by56, fn := [(81, { ps := [t52, t52, (.clo 55 .unit)], rs := [t52, .bool], f := g81 })], eqs := eq56, inl := [] }
noncomputable def M56 (g81 : (D52 × (D52 × (Unit × Unit))) → Option (D52 × D159)) : List (Nat × Go.V.Mark (Ty.prods rs56).den) := []
noncomputable def C56 (N : Nat) (g81 : (D52 × (D52 × (Unit × Unit))) → Option (D52 × D159)) : Go.V.Ctx (Ty.prods rs56).den := { E := E56 g81, n := Go.Proofs.Try.f56.ntmps, marks := M56 g81, fin := Go.V.finish (E56 g81) Go.Proofs.Try.f56 rs56, N }
noncomputable def c56 : Code := (Go.Proofs.Try.f56.body).getD .skip

theorem tab56 : tablesB Go.Proofs.Try.prog ty56 by56 eq56 = true := by kernel_rfl
theorem ob56 (N : Nat) (g81 : (D52 × (D52 × (Unit × Unit))) → Option (D52 × D159)) : obls (C56 N g81) 1 c56 = [] := by kernel_rfl
theorem eF56 (N : Nat) (g81 : (D52 × (D52 × (Unit × Unit))) → Option (D52 × D159)) (x : (Ty.prods ps56).den) : Go.V.evBody (E56 g81) Go.Proofs.Try.f56 rs56 (M56 g81) N (Go.V.start Go.Proofs.Try.f56 ps56 x) = F56 N g81 x := by kernel_rfl
theorem s56 (N : Nat) (g81 : (D52 × (D52 × (Unit × Unit))) → Option (D52 × D159)) (h81 : Sound Go.Proofs.Try.prog 81 { ps := [t52, t52, (.clo 55 .unit)], rs := [t52, .bool], f := g81 }) : Sound Go.Proofs.Try.prog 56 { ps := ps56, rs := rs56, f := F56 N g81 } := by
  have hE : EnvOk Go.Proofs.Try.prog (E56 g81) := env_ok tab56 (by
    intro p hp
    simp only [List.mem_cons, List.not_mem_nil, or_false] at hp
    rcases hp with rfl
    · exact ⟨h81, Go.Proofs.Try.f81, Go.Proofs.Try.func81, by kernel_rfl, by kernel_rfl⟩) (by
    intro p hp
    cases hp)
  have h := fn_sound hE (by kernel_rfl) Go.Proofs.Try.func56 (show Go.Proofs.Try.f56.body = some c56 by kernel_rfl) ps56 rs56 (M56 g81) N (by
    intro o ho
    have ho : o ∈ obls (C56 N g81) 1 c56 := ho
    rw [ob56] at ho
    cases ho)
  have e : (fun x => Go.V.evBody (E56 g81) Go.Proofs.Try.f56 rs56 (M56 g81) N (Go.V.start Go.Proofs.Try.f56 ps56 x)) = F56 N g81 := funext fun x => eF56 N g81 x
  rw [e] at h
  exact h

end Go.Proofs.Ytkifmnocomadfaa
end

/- The reading of poundage pair.Gap. -/
section
set_option linter.unusedVariables false
set_option maxRecDepth 100000
namespace Go.Proofs.Ytkifmnocomadfaa
open Go.V

noncomputable def L25_0i : Shape := { items := [.ptr 1 0 0, .bx 0 0 t69, .ptr 2 1 0, .bx 1 0 (.int .i64), .bx 1 1 (.int .i64), .bx 1 2 (.int .i64), .ptr 6 2 0, .bx 2 0 (.int .i64), .bx 2 1 (.int .i64), .bx 2 2 (.int .i64), .tm 43 (.sl 53 t52), .tm 44 (.int .i64), .tm 45 (.int .i64), .ownB 1 3 53 t52, .ownB 2 3 53 t52], boxes := [70, 41, 41] }
noncomputable def L25_0o : Shape := { items := [.ptr 2 1 0, .bx 1 0 (.int .i64), .bx 1 1 (.int .i64), .bx 1 2 (.int .i64), .ptr 6 2 0, .bx 2 0 (.int .i64), .bx 2 1 (.int .i64), .bx 2 2 (.int .i64), .ownB 1 3 53 t52, .ownB 2 3 53 t52], boxes := [70, 41, 41] }
noncomputable def L25_0 (N : Nat) (g55 : D146 → Option (Int × D159)) (g56 : (D52 × (D52 × Unit)) → Option (D52 × D159)) : Nat → (Unit × (D69 × (Unit × (Int × (Int × (Int × (Unit × (Int × (Int × (Int × ((List D52) × (Int × (Int × ((List D52) × ((List D52) × Unit))))))))))))))) → ((Unit × (Int × (Int × (Int × (Unit × (Int × (Int × (Int × ((List D52) × ((List D52) × Unit)))))))))) → Option (D40 × D159)) → Option (D40 × D159)
| 0, _, _ => none
| k + 1, x2, Kx =>
cond (decide (x2.2.2.2.2.2.2.2.2.2.2.2.2.1 < x2.2.2.2.2.2.2.2.2.2.2.2.1)) (
if 0 ≤ x2.2.2.2.2.2.2.2.2.2.2.2.2.1 then
if x2.2.2.2.2.2.2.2.2.2.2.2.2.1 < (x2.2.2.2.2.2.2.2.2.2.2.1.length : Int) then
let e3 : D52 := rdAt (t := t52) x2.2.2.2.2.2.2.2.2.2.2.1 x2.2.2.2.2.2.2.2.2.2.2.2.2.1
if 0 ≤ x2.2.2.2.2.2.2.2.2.2.2.2.2.1 then
if x2.2.2.2.2.2.2.2.2.2.2.2.2.1 < (x2.2.1.2.2.2.1.2.2.2.1.length : Int) then
let e4 : D52 := rdAt (t := t52) x2.2.1.2.2.2.1.2.2.2.1 x2.2.2.2.2.2.2.2.2.2.2.2.2.1
(g56 (e3, e4, ())).bind fun r5 =>
cond (!r5.2.1) (
some (((0 : Int), (0 : Int), (0 : Int), [], ()), false, ())) (
if x2.2.2.2.2.2.2.2.2.2.2.2.2.2.2.1.length + 1 ≤ 4398046511104 then
L25_0 N g55 g56 k ((), x2.2.1, (), x2.2.2.2.1, x2.2.2.2.2.1, x2.2.2.2.2.2.1, (), x2.2.2.2.2.2.2.2.1, x2.2.2.2.2.2.2.2.2.1, x2.2.2.2.2.2.2.2.2.2.1, x2.2.2.2.2.2.2.2.2.2.2.1, x2.2.2.2.2.2.2.2.2.2.2.2.1, (IntKind.i64.wrap (x2.2.2.2.2.2.2.2.2.2.2.2.2.1 + (1 : Int))), x2.2.2.2.2.2.2.2.2.2.2.2.2.2.1, (x2.2.2.2.2.2.2.2.2.2.2.2.2.2.2.1 ++ [r5.1]), ()) Kx
else none)
else none
else none
else none
else none) (
Kx ((), x2.2.2.2.1, x2.2.2.2.2.1, x2.2.2.2.2.2.1, (), x2.2.2.2.2.2.2.2.1, x2.2.2.2.2.2.2.2.2.1, x2.2.2.2.2.2.2.2.2.2.1, x2.2.2.2.2.2.2.2.2.2.2.2.2.2.1, x2.2.2.2.2.2.2.2.2.2.2.2.2.2.2.1, ()))

noncomputable def F25 (N : Nat) (g55 : D146 → Option (Int × D159)) (g56 : (D52 × (D52 × Unit)) → Option (D52 × D159)) : (D69 × Unit) → Option (D40 × D159) := fun x =>
(g55 (x.1.2.2.1.2.2.1, x.1.2.2.2.1.2.2.1, ())).bind fun r1 =>
cond (!r1.2.1) (
some (((0 : Int), (0 : Int), (0 : Int), [], ()), false, ())) (
cond ((x.1.2.2.1.2.2.2.1.length : Int) != (x.1.2.2.2.1.2.2.2.1.length : Int)) (
some (((0 : Int), (0 : Int), (0 : Int), [], ()), false, ())) (
L25_0 N g55 g56 N ((), x.1, (), (0 : Int), (0 : Int), (0 : Int), (), x.1.1, x.1.2.1, r1.1, x.1.2.2.1.2.2.2.1, (x.1.2.2.1.2.2.2.1.length : Int), (0 : Int), [], [], ()) fun y6 =>
some ((y6.2.2.2.2.2.1, y6.2.2.2.2.2.2.1, y6.2.2.2.2.2.2.2.1, y6.2.2.2.2.2.2.2.2.2), true, ())))

noncomputable def ps25 : List Ty := [t69]
noncomputable def rs25 : List Ty := [t40, .bool]
noncomputable def ty25 : List (TypeId × Ty) := [(3, (.int .i64)), (39, (.sl 53 t52)), (41, t40), (53, t52), (70, t69)]
noncomputable def by25 : List (TypeId × Nat) := [(53, 32)]
noncomputable def eq25 : List TypeId := []
noncomputable def E25 (g55 : D146 → Option (Int × D159)) (g56 : (D52 × (D52 × Unit)) → Option (D52 × D159)) : Go.V.Env := { ty := ty25, bytes := by25, fn := [(55, { ps := [(.int .i64), (.int .i64)], rs := [(.int .i64), .bool], f := g55 }), (56, { ps := [t52, t52], rs := [t52, .bool], f := g56 })], eqs := eq25, inl := [] }
noncomputable def M25 (g55 : D146 → Option (Int × D159)) (g56 : (D52 × (D52 × Unit)) → Option (D52 × D159)) : List (Nat × Go.V.Mark (Ty.prods rs25).den) := [(500, { ins := L25_0i, outs := L25_0o, ex := some 0, f := fun N => L25_0 N g55 g56 })]
noncomputable def C25 (N : Nat) (g55 : D146 → Option (Int × D159)) (g56 : (D52 × (D52 × Unit)) → Option (D52 × D159)) : Go.V.Ctx (Ty.prods rs25).den := { E := E25 g55 g56, n := Go.Proofs.Try.f25.ntmps, marks := M25 g55 g56, fin := Go.V.finish (E25 g55 g56) Go.Proofs.Try.f25 rs25, N }
noncomputable def c25 : Code := (Go.Proofs.Try.f25.body).getD .skip

theorem tab25 : tablesB Go.Proofs.Try.prog ty25 by25 eq25 = true := by kernel_rfl
theorem oL25_0 (N : Nat) (g55 : D146 → Option (Int × D159)) (g56 : (D52 × (D52 × Unit)) → Option (D52 × D159)) : (Obl.loop { ins := L25_0i, outs := L25_0o, ex := some 0, f := fun N => L25_0 N g55 g56 } 500 (subc [true, true, true, true, false, true, false, false] c25) : Obl (Ty.prods rs25).den).holds (C25 N g55 g56) := by
  intro x Kx
  exact ⟨by kernel_rfl, fun k => by kernel_rfl⟩
theorem ob25 (N : Nat) (g55 : D146 → Option (Int × D159)) (g56 : (D52 × (D52 × Unit)) → Option (D52 × D159)) : obls (C25 N g55 g56) 1 c25 = [.loop { ins := L25_0i, outs := L25_0o, ex := some 0, f := fun N => L25_0 N g55 g56 } 500 (subc [true, true, true, true, false, true, false, false] c25)] := by kernel_rfl
theorem eF25 (N : Nat) (g55 : D146 → Option (Int × D159)) (g56 : (D52 × (D52 × Unit)) → Option (D52 × D159)) (x : (Ty.prods ps25).den) : Go.V.evBody (E25 g55 g56) Go.Proofs.Try.f25 rs25 (M25 g55 g56) N (Go.V.start Go.Proofs.Try.f25 ps25 x) = F25 N g55 g56 x := by kernel_rfl
theorem s25 (N : Nat) (g55 : D146 → Option (Int × D159)) (g56 : (D52 × (D52 × Unit)) → Option (D52 × D159)) (h55 : Sound Go.Proofs.Try.prog 55 { ps := [(.int .i64), (.int .i64)], rs := [(.int .i64), .bool], f := g55 }) (h56 : Sound Go.Proofs.Try.prog 56 { ps := [t52, t52], rs := [t52, .bool], f := g56 }) : Sound Go.Proofs.Try.prog 25 { ps := ps25, rs := rs25, f := F25 N g55 g56 } := by
  have hE : EnvOk Go.Proofs.Try.prog (E25 g55 g56) := env_ok tab25 (by
    intro p hp
    simp only [List.mem_cons, List.not_mem_nil, or_false] at hp
    rcases hp with rfl | rfl
    · exact ⟨h55, Go.Proofs.Try.f55, Go.Proofs.Try.func55, by kernel_rfl, by kernel_rfl⟩
    · exact ⟨h56, Go.Proofs.Try.f56, Go.Proofs.Try.func56, by kernel_rfl, by kernel_rfl⟩) (by
    intro p hp
    cases hp)
  have h := fn_sound hE (by kernel_rfl) Go.Proofs.Try.func25 (show Go.Proofs.Try.f25.body = some c25 by kernel_rfl) ps25 rs25 (M25 g55 g56) N (by
    intro o ho
    have ho : o ∈ obls (C25 N g55 g56) 1 c25 := ho
    rw [ob25] at ho
    simp only [List.mem_cons, List.not_mem_nil, or_false] at ho
    rcases ho with rfl
    · exact oL25_0 N g55 g56)
  have e : (fun x => Go.V.evBody (E25 g55 g56) Go.Proofs.Try.f25 rs25 (M25 g55 g56) N (Go.V.start Go.Proofs.Try.f25 ps25 x)) = F25 N g55 g56 := funext fun x => eF25 N g55 g56 x
  rw [e] at h
  exact h

end Go.Proofs.Ytkifmnocomadfaa
end

/- The reading of poundage poundageref01.Sum. -/
section
set_option linter.unusedVariables false
set_option maxRecDepth 100000
namespace Go.Proofs.Ytkifmnocomadfaa
open Go.V

noncomputable def L58_0i : Shape := { items := [.tm 4 (.int .i64), .tm 9 (.sl 3 (.int .i64)), .tm 10 (.int .i64), .tm 11 (.int .i64)], boxes := [] }
noncomputable def L58_0o : Shape := { items := [.tm 4 (.int .i64)], boxes := [] }
noncomputable def L58_0 (N : Nat) (g84 : (D142 × Unit) → Option (Int × D159)) (g85 : (D142 × (D142 × Unit)) → Option (D142 × Unit)) (g86 : (Int × Unit) → Option (D142 × Unit)) : Nat → (Int × ((List Int) × D146)) → ((Int × Unit) → Option (Int × D159)) → Option (Int × D159)
| 0, _, _ => none
| k + 1, x1, Kx =>
cond (decide (x1.2.2.2.1 < x1.2.2.1)) (
if 0 ≤ x1.2.2.2.1 then
if x1.2.2.2.1 < (x1.2.1.length : Int) then
(g86 (x1.1, ())).bind fun r2 =>
(g86 ((rdAt (t := (.int .i64)) x1.2.1 x1.2.2.2.1), ())).bind fun r3 =>
(g85 (r2.1, r3)).bind fun r4 =>
(g84 r4).bind fun r5 =>
cond (!r5.2.1) (
some ((0 : Int), false, ())) (
L58_0 N g84 g85 g86 k (r5.1, x1.2.1, x1.2.2.1, (IntKind.i64.wrap (x1.2.2.2.1 + (1 : Int))), ()) Kx)
else none
else none) (
Kx (x1.1, ()))

noncomputable def F58 (N : Nat) (g84 : (D142 × Unit) → Option (Int × D159)) (g85 : (D142 × (D142 × Unit)) → Option (D142 × Unit)) (g86 : (Int × Unit) → Option (D142 × Unit)) : ((List Int) × Unit) → Option (Int × D159) := fun x =>
L58_0 N g84 g85 g86 N ((0 : Int), x.1, (x.1.length : Int), (0 : Int), ()) fun y6 =>
some (y6.1, true, ())

noncomputable def ps58 : List Ty := [(.sl 3 (.int .i64))]
noncomputable def rs58 : List Ty := [(.int .i64), .bool]
noncomputable def ty58 : List (TypeId × Ty) := [(3, (.int .i64)), (27, (.sl 3 (.int .i64)))]
noncomputable def by58 : List (TypeId × Nat) := []
noncomputable def eq58 : List TypeId := []
noncomputable def E58 (g84 : (D142 × Unit) → Option (Int × D159)) (g85 : (D142 × (D142 × Unit)) → Option (D142 × Unit)) (g86 : (Int × Unit) → Option (D142 × Unit)) : Go.V.Env := { ty := ty58, bytes := by58, fn := [(84, { ps := [t142], rs := [(.int .i64), .bool], f := g84 }), (85, { ps := [t142, t142], rs := [t142], f := g85 }), (86, { ps := [(.int .i64)], rs := [t142], f := g86 })], eqs := eq58, inl := [] }
noncomputable def M58 (g84 : (D142 × Unit) → Option (Int × D159)) (g85 : (D142 × (D142 × Unit)) → Option (D142 × Unit)) (g86 : (Int × Unit) → Option (D142 × Unit)) : List (Nat × Go.V.Mark (Ty.prods rs58).den) := [(116, { ins := L58_0i, outs := L58_0o, ex := some 0, f := fun N => L58_0 N g84 g85 g86 })]
noncomputable def C58 (N : Nat) (g84 : (D142 × Unit) → Option (Int × D159)) (g85 : (D142 × (D142 × Unit)) → Option (D142 × Unit)) (g86 : (Int × Unit) → Option (D142 × Unit)) : Go.V.Ctx (Ty.prods rs58).den := { E := E58 g84 g85 g86, n := Go.Proofs.Try.f58.ntmps, marks := M58 g84 g85 g86, fin := Go.V.finish (E58 g84 g85 g86) Go.Proofs.Try.f58 rs58, N }
noncomputable def c58 : Code := (Go.Proofs.Try.f58.body).getD .skip

theorem tab58 : tablesB Go.Proofs.Try.prog ty58 by58 eq58 = true := by kernel_rfl
theorem oL58_0 (N : Nat) (g84 : (D142 × Unit) → Option (Int × D159)) (g85 : (D142 × (D142 × Unit)) → Option (D142 × Unit)) (g86 : (Int × Unit) → Option (D142 × Unit)) : (Obl.loop { ins := L58_0i, outs := L58_0o, ex := some 0, f := fun N => L58_0 N g84 g85 g86 } 116 (subc [true, true, false, true, false, false] c58) : Obl (Ty.prods rs58).den).holds (C58 N g84 g85 g86) := by
  intro x Kx
  exact ⟨by kernel_rfl, fun k => by kernel_rfl⟩
theorem ob58 (N : Nat) (g84 : (D142 × Unit) → Option (Int × D159)) (g85 : (D142 × (D142 × Unit)) → Option (D142 × Unit)) (g86 : (Int × Unit) → Option (D142 × Unit)) : obls (C58 N g84 g85 g86) 1 c58 = [.loop { ins := L58_0i, outs := L58_0o, ex := some 0, f := fun N => L58_0 N g84 g85 g86 } 116 (subc [true, true, false, true, false, false] c58)] := by kernel_rfl
theorem eF58 (N : Nat) (g84 : (D142 × Unit) → Option (Int × D159)) (g85 : (D142 × (D142 × Unit)) → Option (D142 × Unit)) (g86 : (Int × Unit) → Option (D142 × Unit)) (x : (Ty.prods ps58).den) : Go.V.evBody (E58 g84 g85 g86) Go.Proofs.Try.f58 rs58 (M58 g84 g85 g86) N (Go.V.start Go.Proofs.Try.f58 ps58 x) = F58 N g84 g85 g86 x := by kernel_rfl
theorem s58 (N : Nat) (g84 : (D142 × Unit) → Option (Int × D159)) (g85 : (D142 × (D142 × Unit)) → Option (D142 × Unit)) (g86 : (Int × Unit) → Option (D142 × Unit)) (h84 : Sound Go.Proofs.Try.prog 84 { ps := [t142], rs := [(.int .i64), .bool], f := g84 }) (h85 : Sound Go.Proofs.Try.prog 85 { ps := [t142, t142], rs := [t142], f := g85 }) (h86 : Sound Go.Proofs.Try.prog 86 { ps := [(.int .i64)], rs := [t142], f := g86 }) : Sound Go.Proofs.Try.prog 58 { ps := ps58, rs := rs58, f := F58 N g84 g85 g86 } := by
  have hE : EnvOk Go.Proofs.Try.prog (E58 g84 g85 g86) := env_ok tab58 (by
    intro p hp
    simp only [List.mem_cons, List.not_mem_nil, or_false] at hp
    rcases hp with rfl | rfl | rfl
    · exact ⟨h84, Go.Proofs.Try.f84, Go.Proofs.Try.func84, by kernel_rfl, by kernel_rfl⟩
    · exact ⟨h85, Go.Proofs.Try.f85, Go.Proofs.Try.func85, by kernel_rfl, by kernel_rfl⟩
    · exact ⟨h86, Go.Proofs.Try.f86, Go.Proofs.Try.func86, by kernel_rfl, by kernel_rfl⟩) (by
    intro p hp
    cases hp)
  have h := fn_sound hE (by kernel_rfl) Go.Proofs.Try.func58 (show Go.Proofs.Try.f58.body = some c58 by kernel_rfl) ps58 rs58 (M58 g84 g85 g86) N (by
    intro o ho
    have ho : o ∈ obls (C58 N g84 g85 g86) 1 c58 := ho
    rw [ob58] at ho
    simp only [List.mem_cons, List.not_mem_nil, or_false] at ho
    rcases ho with rfl
    · exact oL58_0 N g84 g85 g86)
  have e : (fun x => Go.V.evBody (E58 g84 g85 g86) Go.Proofs.Try.f58 rs58 (M58 g84 g85 g86) N (Go.V.start Go.Proofs.Try.f58 ps58 x)) = F58 N g84 g85 g86 := funext fun x => eF58 N g84 g85 g86 x
  rw [e] at h
  exact h

end Go.Proofs.Ytkifmnocomadfaa
end
