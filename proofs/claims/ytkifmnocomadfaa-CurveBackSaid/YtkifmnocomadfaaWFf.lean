/- The reading of poundage poundagelaw15.alive. -/
import Derived.Test.YtkifmnocomadfaaWTy
section
set_option linter.unusedVariables false
set_option maxRecDepth 100000
namespace Go.Proofs.Ytkifmnocomadfaa
open Go.V

noncomputable def F14 (N : Nat) (g15 : (Int × ((List Int) × Unit)) → Option (D48 × Unit)) (g16 : (D48 × Unit) → Option (D52 × D159)) (g19 : (D52 × Unit) → Option D159) (g34 : (D52 × (Int × Unit)) → Option (Int × D159)) : Unit → Option D159 := fun x =>
(g15 ((0 : Int), [(0 : Int), (0 : Int), (3 : Int), (3 : Int), (6 : Int), (6 : Int)], ())).bind fun r1 =>
(g16 r1).bind fun r2 =>
(g34 (r2.1, (3 : Int), ())).bind fun r3 =>
cond r2.2.1 (
cond (r2.1.1 == (5 : Int)) (
cond ((r2.1.2.1.length : Int) == (1 : Int)) (
if 0 ≤ (0 : Int) then
if (0 : Int) < (r2.1.2.1.length : Int) then
let e4 : D77 := rdAt (t := t77) r2.1.2.1 (0 : Int)
cond (e4.1 == (0 : Int) && (e4.2.1 == (0 : Int) && (e4.2.2.1 == (2 : Int) && (e4.2.2.2.1 == (3 : Int) && (e4.2.2.2.2.1 == (3 : Int)))))) (
cond (r3.1 == (3 : Int)) (
cond r3.2.1 (
(g19 (r2.1, ())).bind fun r5 =>
some r5) (
some (false, ()))) (
some (false, ()))) (
some (false, ()))
else none
else none) (
some (false, ()))) (
some (false, ()))) (
some (false, ()))

noncomputable def ps14 : List Ty := []
noncomputable def rs14 : List Ty := [.bool]
noncomputable def ty14 : List (TypeId × Ty) := [(3, (.int .i64)), (27, (.sl 3 (.int .i64))), (51, (.sl 78 t77)), (53, t52), (78, t77)]
noncomputable def by14 : List (TypeId × Nat) := []
noncomputable def eq14 : List TypeId := [78]
noncomputable def E14 (g15 : (Int × ((List Int) × Unit)) → Option (D48 × Unit)) (g16 : (D48 × Unit) → Option (D52 × D159)) (g19 : (D52 × Unit) → Option D159) (g34 : (D52 × (Int × Unit)) → Option (Int × D159)) : Go.V.Env := { ty := ty14, bytes := by14, fn := [(15, { ps := [(.int .i64), (.sl 3 (.int .i64))], rs := [t48], f := g15 }), (16, { ps := [t48], rs := [t52, .bool], f := g16 }), (19, { ps := [t52], rs := [.bool], f := g19 }), (34, { ps := [t52, (.int .i64)], rs := [(.int .i64), .bool], f := g34 })], eqs := eq14, inl := [] }
noncomputable def M14 (g15 : (Int × ((List Int) × Unit)) → Option (D48 × Unit)) (g16 : (D48 × Unit) → Option (D52 × D159)) (g19 : (D52 × Unit) → Option D159) (g34 : (D52 × (Int × Unit)) → Option (Int × D159)) : List (Nat × Go.V.Mark (Ty.prods rs14).den) := []
noncomputable def C14 (N : Nat) (g15 : (Int × ((List Int) × Unit)) → Option (D48 × Unit)) (g16 : (D48 × Unit) → Option (D52 × D159)) (g19 : (D52 × Unit) → Option D159) (g34 : (D52 × (Int × Unit)) → Option (Int × D159)) : Go.V.Ctx (Ty.prods rs14).den := { E := E14 g15 g16 g19 g34, n := Go.Proofs.Try.f14.ntmps, marks := M14 g15 g16 g19 g34, fin := Go.V.finish (E14 g15 g16 g19 g34) Go.Proofs.Try.f14 rs14, N }
noncomputable def c14 : Code := (Go.Proofs.Try.f14.body).getD .skip

theorem tab14 : tablesB Go.Proofs.Try.prog ty14 by14 eq14 = true := by kernel_rfl
theorem ob14 (N : Nat) (g15 : (Int × ((List Int) × Unit)) → Option (D48 × Unit)) (g16 : (D48 × Unit) → Option (D52 × D159)) (g19 : (D52 × Unit) → Option D159) (g34 : (D52 × (Int × Unit)) → Option (Int × D159)) : obls (C14 N g15 g16 g19 g34) 1 c14 = [] := by kernel_rfl
theorem eF14 (N : Nat) (g15 : (Int × ((List Int) × Unit)) → Option (D48 × Unit)) (g16 : (D48 × Unit) → Option (D52 × D159)) (g19 : (D52 × Unit) → Option D159) (g34 : (D52 × (Int × Unit)) → Option (Int × D159)) (x : (Ty.prods ps14).den) : Go.V.evBody (E14 g15 g16 g19 g34) Go.Proofs.Try.f14 rs14 (M14 g15 g16 g19 g34) N (Go.V.start Go.Proofs.Try.f14 ps14 x) = F14 N g15 g16 g19 g34 x := by kernel_rfl
theorem s14 (N : Nat) (g15 : (Int × ((List Int) × Unit)) → Option (D48 × Unit)) (g16 : (D48 × Unit) → Option (D52 × D159)) (g19 : (D52 × Unit) → Option D159) (g34 : (D52 × (Int × Unit)) → Option (Int × D159)) (h15 : Sound Go.Proofs.Try.prog 15 { ps := [(.int .i64), (.sl 3 (.int .i64))], rs := [t48], f := g15 }) (h16 : Sound Go.Proofs.Try.prog 16 { ps := [t48], rs := [t52, .bool], f := g16 }) (h19 : Sound Go.Proofs.Try.prog 19 { ps := [t52], rs := [.bool], f := g19 }) (h34 : Sound Go.Proofs.Try.prog 34 { ps := [t52, (.int .i64)], rs := [(.int .i64), .bool], f := g34 }) : Sound Go.Proofs.Try.prog 14 { ps := ps14, rs := rs14, f := F14 N g15 g16 g19 g34 } := by
  have hE : EnvOk Go.Proofs.Try.prog (E14 g15 g16 g19 g34) := env_ok tab14 (by
    intro p hp
    simp only [List.mem_cons, List.not_mem_nil, or_false] at hp
    rcases hp with rfl | rfl | rfl | rfl
    · exact ⟨h15, Go.Proofs.Try.f15, Go.Proofs.Try.func15, by kernel_rfl, by kernel_rfl⟩
    · exact ⟨h16, Go.Proofs.Try.f16, Go.Proofs.Try.func16, by kernel_rfl, by kernel_rfl⟩
    · exact ⟨h19, Go.Proofs.Try.f19, Go.Proofs.Try.func19, by kernel_rfl, by kernel_rfl⟩
    · exact ⟨h34, Go.Proofs.Try.f34, Go.Proofs.Try.func34, by kernel_rfl, by kernel_rfl⟩) (by
    intro p hp
    cases hp)
  have h := fn_sound hE (by kernel_rfl) Go.Proofs.Try.func14 (show Go.Proofs.Try.f14.body = some c14 by kernel_rfl) ps14 rs14 (M14 g15 g16 g19 g34) N (by
    intro o ho
    have ho : o ∈ obls (C14 N g15 g16 g19 g34) 1 c14 := ho
    rw [ob14] at ho
    cases ho)
  have e : (fun x => Go.V.evBody (E14 g15 g16 g19 g34) Go.Proofs.Try.f14 rs14 (M14 g15 g16 g19 g34) N (Go.V.start Go.Proofs.Try.f14 ps14 x)) = F14 N g15 g16 g19 g34 := funext fun x => eF14 N g15 g16 g19 g34 x
  rw [e] at h
  exact h

end Go.Proofs.Ytkifmnocomadfaa
end

/- The reading of slices.Equal   poundage line.Run int  poundage line.Run int  . -/
section
set_option linter.unusedVariables false
set_option maxRecDepth 100000
namespace Go.Proofs.Ytkifmnocomadfaa
open Go.V

noncomputable def L46_0i : Shape := { items := [.tm 0 (.sl 88 t87), .tm 1 (.sl 88 t87), .tm 12 (.int .i64), .tm 13 (.int .i64)], boxes := [] }
noncomputable def L46_0o : Shape := { items := [], boxes := [] }
noncomputable def L46_0 (N : Nat) : Nat → ((List D87) × ((List D87) × D146)) → (Unit → Option D159) → Option D159
| 0, _, _ => none
| k + 1, x1, Kx =>
cond (decide (x1.2.2.2.1 < x1.2.2.1)) (
if 0 ≤ x1.2.2.2.1 then
if x1.2.2.2.1 < (x1.1.length : Int) then
let e2 : D87 := rdAt (t := t87) x1.1 x1.2.2.2.1
if 0 ≤ x1.2.2.2.1 then
if x1.2.2.2.1 < (x1.2.1.length : Int) then
let e3 : D87 := rdAt (t := t87) x1.2.1 x1.2.2.2.1
cond (!(e2.1 == e3.1 && (e2.2.1 == e3.2.1 && (e2.2.2.1 == e3.2.2.1)))) (
some (false, ())) (
L46_0 N k (x1.1, x1.2.1, x1.2.2.1, (IntKind.i64.wrap (x1.2.2.2.1 + (1 : Int))), ()) Kx)
else none
else none
else none
else none) (
Kx ())

noncomputable def F46 (N : Nat) : ((List D87) × D48) → Option D159 := fun x =>
cond ((x.1.length : Int) != (x.2.1.length : Int)) (
some (false, ())) (
L46_0 N N (x.1, x.2.1, (x.1.length : Int), (0 : Int), ()) fun y4 =>
some (true, ()))

noncomputable def ps46 : List Ty := [(.sl 88 t87), (.sl 88 t87)]
noncomputable def rs46 : List Ty := [.bool]
noncomputable def ty46 : List (TypeId × Ty) := [(3, (.int .i64)), (47, (.sl 88 t87)), (88, t87)]
noncomputable def by46 : List (TypeId × Nat) := []
noncomputable def eq46 : List TypeId := [88]
noncomputable def E46 : Go.V.Env := { ty := ty46, bytes := by46, fn := [], eqs := eq46, inl := [] }
noncomputable def M46 : List (Nat × Go.V.Mark (Ty.prods rs46).den) := [(116, { ins := L46_0i, outs := L46_0o, ex := some 0, f := fun N => L46_0 N })]
noncomputable def C46 (N : Nat) : Go.V.Ctx (Ty.prods rs46).den := { E := E46, n := Go.Proofs.Try.f46.ntmps, marks := M46, fin := Go.V.finish (E46) Go.Proofs.Try.f46 rs46, N }
noncomputable def c46 : Code := (Go.Proofs.Try.f46.body).getD .skip

theorem tab46 : tablesB Go.Proofs.Try.prog ty46 by46 eq46 = true := by kernel_rfl
theorem oL46_0 (N : Nat) : (Obl.loop { ins := L46_0i, outs := L46_0o, ex := some 0, f := fun N => L46_0 N } 116 (subc [true, true, false, true, false, false] c46) : Obl (Ty.prods rs46).den).holds (C46 N) := by
  intro x Kx
  exact ⟨by kernel_rfl, fun k => by kernel_rfl⟩
theorem ob46 (N : Nat) : obls (C46 N) 1 c46 = [.loop { ins := L46_0i, outs := L46_0o, ex := some 0, f := fun N => L46_0 N } 116 (subc [true, true, false, true, false, false] c46)] := by kernel_rfl
theorem eF46 (N : Nat) (x : (Ty.prods ps46).den) : Go.V.evBody (E46) Go.Proofs.Try.f46 rs46 (M46) N (Go.V.start Go.Proofs.Try.f46 ps46 x) = F46 N x := by kernel_rfl
theorem s46 (N : Nat) : Sound Go.Proofs.Try.prog 46 { ps := ps46, rs := rs46, f := F46 N } := by
  have hE : EnvOk Go.Proofs.Try.prog (E46) := env_ok tab46 (by
    intro p hp
    cases hp) (by
    intro p hp
    cases hp)
  have h := fn_sound hE (by kernel_rfl) Go.Proofs.Try.func46 (show Go.Proofs.Try.f46.body = some c46 by kernel_rfl) ps46 rs46 (M46) N (by
    intro o ho
    have ho : o ∈ obls (C46 N) 1 c46 := ho
    rw [ob46] at ho
    simp only [List.mem_cons, List.not_mem_nil, or_false] at ho
    rcases ho with rfl
    · exact oL46_0 N)
  have e : (fun x => Go.V.evBody (E46) Go.Proofs.Try.f46 rs46 (M46) N (Go.V.start Go.Proofs.Try.f46 ps46 x)) = F46 N := funext fun x => eF46 N x
  rw [e] at h
  exact h

end Go.Proofs.Ytkifmnocomadfaa
end

/- The reading of poundage line.Equal int . -/
section
set_option linter.unusedVariables false
set_option maxRecDepth 100000
namespace Go.Proofs.Ytkifmnocomadfaa
open Go.V

noncomputable def F18 (N : Nat) (g46 : ((List D87) × D48) → Option D159) : (D48 × (D48 × Unit)) → Option D159 := fun x =>
(g46 (x.1.1, x.2.1)).bind fun r1 =>
some r1

noncomputable def ps18 : List Ty := [t48, t48]
noncomputable def rs18 : List Ty := [.bool]
noncomputable def ty18 : List (TypeId × Ty) := [(47, (.sl 88 t87)), (49, t48), (88, t87)]
noncomputable def by18 : List (TypeId × Nat) := []
noncomputable def eq18 : List TypeId := []
noncomputable def E18 (g46 : ((List D87) × D48) → Option D159) : Go.V.Env := { ty := ty18, bytes := by18, fn := [(46, { ps := [(.sl 88 t87), (.sl 88 t87)], rs := [.bool], f := g46 })], eqs := eq18, inl := [] }
noncomputable def M18 (g46 : ((List D87) × D48) → Option D159) : List (Nat × Go.V.Mark (Ty.prods rs18).den) := []
noncomputable def C18 (N : Nat) (g46 : ((List D87) × D48) → Option D159) : Go.V.Ctx (Ty.prods rs18).den := { E := E18 g46, n := Go.Proofs.Try.f18.ntmps, marks := M18 g46, fin := Go.V.finish (E18 g46) Go.Proofs.Try.f18 rs18, N }
noncomputable def c18 : Code := (Go.Proofs.Try.f18.body).getD .skip

theorem tab18 : tablesB Go.Proofs.Try.prog ty18 by18 eq18 = true := by kernel_rfl
theorem ob18 (N : Nat) (g46 : ((List D87) × D48) → Option D159) : obls (C18 N g46) 1 c18 = [] := by kernel_rfl
theorem eF18 (N : Nat) (g46 : ((List D87) × D48) → Option D159) (x : (Ty.prods ps18).den) : Go.V.evBody (E18 g46) Go.Proofs.Try.f18 rs18 (M18 g46) N (Go.V.start Go.Proofs.Try.f18 ps18 x) = F18 N g46 x := by kernel_rfl
theorem s18 (N : Nat) (g46 : ((List D87) × D48) → Option D159) (h46 : Sound Go.Proofs.Try.prog 46 { ps := [(.sl 88 t87), (.sl 88 t87)], rs := [.bool], f := g46 }) : Sound Go.Proofs.Try.prog 18 { ps := ps18, rs := rs18, f := F18 N g46 } := by
  have hE : EnvOk Go.Proofs.Try.prog (E18 g46) := env_ok tab18 (by
    intro p hp
    simp only [List.mem_cons, List.not_mem_nil, or_false] at hp
    rcases hp with rfl
    · exact ⟨h46, Go.Proofs.Try.f46, Go.Proofs.Try.func46, by kernel_rfl, by kernel_rfl⟩) (by
    intro p hp
    cases hp)
  have h := fn_sound hE (by kernel_rfl) Go.Proofs.Try.func18 (show Go.Proofs.Try.f18.body = some c18 by kernel_rfl) ps18 rs18 (M18 g46) N (by
    intro o ho
    have ho : o ∈ obls (C18 N g46) 1 c18 := ho
    rw [ob18] at ho
    cases ho)
  have e : (fun x => Go.V.evBody (E18 g46) Go.Proofs.Try.f18 rs18 (M18 g46) N (Go.V.start Go.Proofs.Try.f18 ps18 x)) = F18 N g46 := funext fun x => eF18 N g46 x
  rw [e] at h
  exact h

end Go.Proofs.Ytkifmnocomadfaa
end

/- The reading of poundage poundageref15.List. -/
section
set_option linter.unusedVariables false
set_option maxRecDepth 100000
namespace Go.Proofs.Ytkifmnocomadfaa
open Go.V

noncomputable def L49_0i : Shape := { items := [.ptr 1 0 0, .bx 0 0 t52, .tm 4 (.int .i64), .ownT 3 3 (.int .i64)], boxes := [53] }
noncomputable def L49_0o : Shape := { items := [.ownT 3 3 (.int .i64)], boxes := [] }
noncomputable def L49_0 (N : Nat) (g26 : (D52 × (Int × Unit)) → Option (Int × D159)) : Nat → (Unit × (D52 × (Int × ((List Int) × Unit)))) → (((List Int) × Unit) → Option ((List Int) × Unit)) → Option ((List Int) × Unit)
| 0, _, _ => none
| k + 1, x1, Kx =>
cond (decide (x1.2.2.1 ≤ x1.2.1.1)) (
(g26 (x1.2.1, x1.2.2.1, ())).bind fun r2 =>
if x1.2.2.2.1.length + 1 ≤ 17592186044416 then
L49_0 N g26 k ((), x1.2.1, (IntKind.i64.wrap (x1.2.2.1 + (1 : Int))), (x1.2.2.2.1 ++ [r2.1]), ()) Kx
else none) (
Kx (x1.2.2.2.1, ()))

noncomputable def F49 (N : Nat) (g26 : (D52 × (Int × Unit)) → Option (Int × D159)) : (D52 × Unit) → Option ((List Int) × Unit) := fun x =>
L49_0 N g26 N ((), x.1, (0 : Int), [], ()) fun y3 =>
some y3

noncomputable def ps49 : List Ty := [t52]
noncomputable def rs49 : List Ty := [(.sl 3 (.int .i64))]
noncomputable def ty49 : List (TypeId × Ty) := [(3, (.int .i64)), (27, (.sl 3 (.int .i64))), (53, t52)]
noncomputable def by49 : List (TypeId × Nat) := [(3, 8)]
noncomputable def eq49 : List TypeId := []
noncomputable def E49 (g26 : (D52 × (Int × Unit)) → Option (Int × D159)) : Go.V.Env := { ty := ty49, bytes := by49, fn := [(26, { ps := [t52, (.int .i64)], rs := [(.int .i64), .bool], f := g26 })], eqs := eq49, inl := [] }
noncomputable def M49 (g26 : (D52 × (Int × Unit)) → Option (Int × D159)) : List (Nat × Go.V.Mark (Ty.prods rs49).den) := [(116, { ins := L49_0i, outs := L49_0o, ex := some 0, f := fun N => L49_0 N g26 })]
noncomputable def C49 (N : Nat) (g26 : (D52 × (Int × Unit)) → Option (Int × D159)) : Go.V.Ctx (Ty.prods rs49).den := { E := E49 g26, n := Go.Proofs.Try.f49.ntmps, marks := M49 g26, fin := Go.V.finish (E49 g26) Go.Proofs.Try.f49 rs49, N }
noncomputable def c49 : Code := (Go.Proofs.Try.f49.body).getD .skip

theorem tab49 : tablesB Go.Proofs.Try.prog ty49 by49 eq49 = true := by kernel_rfl
theorem oL49_0 (N : Nat) (g26 : (D52 × (Int × Unit)) → Option (Int × D159)) : (Obl.loop { ins := L49_0i, outs := L49_0o, ex := some 0, f := fun N => L49_0 N g26 } 116 (subc [true, true, false, true, false, false] c49) : Obl (Ty.prods rs49).den).holds (C49 N g26) := by
  intro x Kx
  exact ⟨by kernel_rfl, fun k => by kernel_rfl⟩
theorem ob49 (N : Nat) (g26 : (D52 × (Int × Unit)) → Option (Int × D159)) : obls (C49 N g26) 1 c49 = [.loop { ins := L49_0i, outs := L49_0o, ex := some 0, f := fun N => L49_0 N g26 } 116 (subc [true, true, false, true, false, false] c49)] := by kernel_rfl
theorem eF49 (N : Nat) (g26 : (D52 × (Int × Unit)) → Option (Int × D159)) (x : (Ty.prods ps49).den) : Go.V.evBody (E49 g26) Go.Proofs.Try.f49 rs49 (M49 g26) N (Go.V.start Go.Proofs.Try.f49 ps49 x) = F49 N g26 x := by kernel_rfl
theorem s49 (N : Nat) (g26 : (D52 × (Int × Unit)) → Option (Int × D159)) (h26 : Sound Go.Proofs.Try.prog 26 { ps := [t52, (.int .i64)], rs := [(.int .i64), .bool], f := g26 }) : Sound Go.Proofs.Try.prog 49 { ps := ps49, rs := rs49, f := F49 N g26 } := by
  have hE : EnvOk Go.Proofs.Try.prog (E49 g26) := env_ok tab49 (by
    intro p hp
    simp only [List.mem_cons, List.not_mem_nil, or_false] at hp
    rcases hp with rfl
    · exact ⟨h26, Go.Proofs.Try.f26, Go.Proofs.Try.func26, by kernel_rfl, by kernel_rfl⟩) (by
    intro p hp
    cases hp)
  have h := fn_sound hE (by kernel_rfl) Go.Proofs.Try.func49 (show Go.Proofs.Try.f49.body = some c49 by kernel_rfl) ps49 rs49 (M49 g26) N (by
    intro o ho
    have ho : o ∈ obls (C49 N g26) 1 c49 := ho
    rw [ob49] at ho
    simp only [List.mem_cons, List.not_mem_nil, or_false] at ho
    rcases ho with rfl
    · exact oL49_0 N g26)
  have e : (fun x => Go.V.evBody (E49 g26) Go.Proofs.Try.f49 rs49 (M49 g26) N (Go.V.start Go.Proofs.Try.f49 ps49 x)) = F49 N g26 := funext fun x => eF49 N g26 x
  rw [e] at h
  exact h

end Go.Proofs.Ytkifmnocomadfaa
end

/- The reading of poundage poundageref15.Good. -/
section
set_option linter.unusedVariables false
set_option maxRecDepth 100000
namespace Go.Proofs.Ytkifmnocomadfaa
open Go.V

noncomputable def L20_0i : Shape := { items := [.ptr 1 0 0, .bx 0 0 t52, .tm 39 (.sl 78 t77), .tm 40 (.int .i64), .tm 41 (.int .i64)], boxes := [53] }
noncomputable def L20_0o : Shape := { items := [.ptr 1 0 0, .bx 0 0 t52], boxes := [53] }
noncomputable def L20_0 (N : Nat) (g38 : (D52 × (D52 × Unit)) → Option D159) (g48 : ((List Int) × Unit) → Option (D52 × D159)) (g49 : (D52 × Unit) → Option ((List Int) × Unit)) : Nat → (Unit × (D52 × ((List D77) × D146))) → ((Unit × (D52 × Unit)) → Option D159) → Option D159
| 0, _, _ => none
| k + 1, x2, Kx =>
cond (decide (x2.2.2.2.2.1 < x2.2.2.2.1)) (
if 0 ≤ x2.2.2.2.2.1 then
if x2.2.2.2.2.1 < (x2.2.2.1.length : Int) then
let e3 : D77 := rdAt (t := t77) x2.2.2.1 x2.2.2.2.2.1
cond (decide (e3.1 < (0 : Int))) (
some (false, ())) (
cond (decide (e3.1 > x2.2.1.1)) (
some (false, ())) (
L20_0 N g38 g48 g49 k ((), x2.2.1, x2.2.2.1, x2.2.2.2.1, (IntKind.i64.wrap (x2.2.2.2.2.1 + (1 : Int))), ()) Kx))
else none
else none) (
Kx ((), x2.2.1, ()))

noncomputable def F20 (N : Nat) (g38 : (D52 × (D52 × Unit)) → Option D159) (g48 : ((List Int) × Unit) → Option (D52 × D159)) (g49 : (D52 × Unit) → Option ((List Int) × Unit)) : (D52 × Unit) → Option D159 := fun x =>
cond (decide (x.1.1 < (0 : Int))) (
some (false, ())) (
cond (decide (x.1.1 > (2000 : Int))) (
some (false, ())) (
cond ((x.1.2.1.length : Int) == (0 : Int)) (
some (false, ())) (
cond (decide ((x.1.2.1.length : Int) > (IntKind.i64.wrap (x.1.1 + (1 : Int))))) (
some (false, ())) (
if 0 ≤ (0 : Int) then
if (0 : Int) < (x.1.2.1.length : Int) then
let e1 : D77 := rdAt (t := t77) x.1.2.1 (0 : Int)
cond (e1.1 != (0 : Int)) (
some (false, ())) (
L20_0 N g38 g48 g49 N ((), x.1, x.1.2.1, (x.1.2.1.length : Int), (0 : Int), ()) fun y4 =>
(g49 y4.2).bind fun r5 =>
(g48 r5).bind fun r6 =>
cond r6.2.1 (
(g38 (y4.2.1, r6.1, ())).bind fun r7 =>
some r7) (
some (false, ())))
else none
else none))))

noncomputable def ps20 : List Ty := [t52]
noncomputable def rs20 : List Ty := [.bool]
noncomputable def ty20 : List (TypeId × Ty) := [(3, (.int .i64)), (51, (.sl 78 t77)), (53, t52), (78, t77)]
noncomputable def by20 : List (TypeId × Nat) := []
noncomputable def eq20 : List TypeId := []
noncomputable def E20 (g38 : (D52 × (D52 × Unit)) → Option D159) (g48 : ((List Int) × Unit) → Option (D52 × D159)) (g49 : (D52 × Unit) → Option ((List Int) × Unit)) : Go.V.Env := { ty := ty20, bytes := by20, fn := [(38, { ps := [t52, t52], rs := [.bool], f := g38 }), (48, { ps := [(.sl 3 (.int .i64))], rs := [t52, .bool], f := g48 }), (49, { ps := [t52], rs := [(.sl 3 (.int .i64))], f := g49 })], eqs := eq20, inl := [] }
noncomputable def M20 (g38 : (D52 × (D52 × Unit)) → Option D159) (g48 : ((List Int) × Unit) → Option (D52 × D159)) (g49 : (D52 × Unit) → Option ((List Int) × Unit)) : List (Nat × Go.V.Mark (Ty.prods rs20).den) := [(116, { ins := L20_0i, outs := L20_0o, ex := some 0, f := fun N => L20_0 N g38 g48 g49 })]
noncomputable def C20 (N : Nat) (g38 : (D52 × (D52 × Unit)) → Option D159) (g48 : ((List Int) × Unit) → Option (D52 × D159)) (g49 : (D52 × Unit) → Option ((List Int) × Unit)) : Go.V.Ctx (Ty.prods rs20).den := { E := E20 g38 g48 g49, n := Go.Proofs.Try.f20.ntmps, marks := M20 g38 g48 g49, fin := Go.V.finish (E20 g38 g48 g49) Go.Proofs.Try.f20 rs20, N }
noncomputable def c20 : Code := (Go.Proofs.Try.f20.body).getD .skip

theorem tab20 : tablesB Go.Proofs.Try.prog ty20 by20 eq20 = true := by kernel_rfl
theorem oL20_0 (N : Nat) (g38 : (D52 × (D52 × Unit)) → Option D159) (g48 : ((List Int) × Unit) → Option (D52 × D159)) (g49 : (D52 × Unit) → Option ((List Int) × Unit)) : (Obl.loop { ins := L20_0i, outs := L20_0o, ex := some 0, f := fun N => L20_0 N g38 g48 g49 } 116 (subc [true, true, false, true, false, false] c20) : Obl (Ty.prods rs20).den).holds (C20 N g38 g48 g49) := by
  intro x Kx
  exact ⟨by kernel_rfl, fun k => by kernel_rfl⟩
theorem ob20 (N : Nat) (g38 : (D52 × (D52 × Unit)) → Option D159) (g48 : ((List Int) × Unit) → Option (D52 × D159)) (g49 : (D52 × Unit) → Option ((List Int) × Unit)) : obls (C20 N g38 g48 g49) 1 c20 = [.loop { ins := L20_0i, outs := L20_0o, ex := some 0, f := fun N => L20_0 N g38 g48 g49 } 116 (subc [true, true, false, true, false, false] c20)] := by kernel_rfl
theorem eF20 (N : Nat) (g38 : (D52 × (D52 × Unit)) → Option D159) (g48 : ((List Int) × Unit) → Option (D52 × D159)) (g49 : (D52 × Unit) → Option ((List Int) × Unit)) (x : (Ty.prods ps20).den) : Go.V.evBody (E20 g38 g48 g49) Go.Proofs.Try.f20 rs20 (M20 g38 g48 g49) N (Go.V.start Go.Proofs.Try.f20 ps20 x) = F20 N g38 g48 g49 x := by kernel_rfl
theorem s20 (N : Nat) (g38 : (D52 × (D52 × Unit)) → Option D159) (g48 : ((List Int) × Unit) → Option (D52 × D159)) (g49 : (D52 × Unit) → Option ((List Int) × Unit)) (h38 : Sound Go.Proofs.Try.prog 38 { ps := [t52, t52], rs := [.bool], f := g38 }) (h48 : Sound Go.Proofs.Try.prog 48 { ps := [(.sl 3 (.int .i64))], rs := [t52, .bool], f := g48 }) (h49 : Sound Go.Proofs.Try.prog 49 { ps := [t52], rs := [(.sl 3 (.int .i64))], f := g49 }) : Sound Go.Proofs.Try.prog 20 { ps := ps20, rs := rs20, f := F20 N g38 g48 g49 } := by
  have hE : EnvOk Go.Proofs.Try.prog (E20 g38 g48 g49) := env_ok tab20 (by
    intro p hp
    simp only [List.mem_cons, List.not_mem_nil, or_false] at hp
    rcases hp with rfl | rfl | rfl
    · exact ⟨h38, Go.Proofs.Try.f38, Go.Proofs.Try.func38, by kernel_rfl, by kernel_rfl⟩
    · exact ⟨h48, Go.Proofs.Try.f48, Go.Proofs.Try.func48, by kernel_rfl, by kernel_rfl⟩
    · exact ⟨h49, Go.Proofs.Try.f49, Go.Proofs.Try.func49, by kernel_rfl, by kernel_rfl⟩) (by
    intro p hp
    cases hp)
  have h := fn_sound hE (by kernel_rfl) Go.Proofs.Try.func20 (show Go.Proofs.Try.f20.body = some c20 by kernel_rfl) ps20 rs20 (M20 g38 g48 g49) N (by
    intro o ho
    have ho : o ∈ obls (C20 N g38 g48 g49) 1 c20 := ho
    rw [ob20] at ho
    simp only [List.mem_cons, List.not_mem_nil, or_false] at ho
    rcases ho with rfl
    · exact oL20_0 N g38 g48 g49)
  have e : (fun x => Go.V.evBody (E20 g38 g48 g49) Go.Proofs.Try.f20 rs20 (M20 g38 g48 g49) N (Go.V.start Go.Proofs.Try.f20 ps20 x)) = F20 N g38 g48 g49 := funext fun x => eF20 N g38 g48 g49 x
  rw [e] at h
  exact h

end Go.Proofs.Ytkifmnocomadfaa
end

/- The reading of poundage poundagelaw15.CurveBack. -/
section
set_option linter.unusedVariables false
set_option maxRecDepth 100000
namespace Go.Proofs.Ytkifmnocomadfaa
open Go.V

noncomputable def F4 (N : Nat) (g14 : Unit → Option D159) (g15 : (Int × ((List Int) × Unit)) → Option (D48 × Unit)) (g16 : (D48 × Unit) → Option (D52 × D159)) (g17 : (D52 × Unit) → Option (D48 × D159)) (g18 : (D48 × (D48 × Unit)) → Option D159) (g19 : (D52 × Unit) → Option D159) (g20 : (D52 × Unit) → Option D159) : ((List Int) × Unit) → Option D159 := fun x =>
(g14 ()).bind fun r1 =>
cond (!r1.1) (
some (false, ())) (
cond (decide ((x.1.length : Int) > (2001 : Int))) (
some (true, ())) (
(g15 ((0 : Int), x)).bind fun r2 =>
(g16 r2).bind fun r3 =>
cond (!r3.2.1) (
some (true, ())) (
(g17 (r3.1, ())).bind fun r4 =>
cond r4.2.1 (
(g18 (r2.1, r4.1, ())).bind fun r5 =>
cond r5.1 (
(g19 (r3.1, ())).bind fun r6 =>
cond r6.1 (
(g20 (r3.1, ())).bind fun r7 =>
some r7) (
some (false, ()))) (
some (false, ()))) (
some (false, ())))))

noncomputable def ps4 : List Ty := [(.sl 3 (.int .i64))]
noncomputable def rs4 : List Ty := [.bool]
noncomputable def ty4 : List (TypeId × Ty) := [(3, (.int .i64)), (27, (.sl 3 (.int .i64))), (49, t48), (53, t52)]
noncomputable def by4 : List (TypeId × Nat) := []
noncomputable def eq4 : List TypeId := []
noncomputable def E4 (g14 : Unit → Option D159) (g15 : (Int × ((List Int) × Unit)) → Option (D48 × Unit)) (g16 : (D48 × Unit) → Option (D52 × D159)) (g17 : (D52 × Unit) → Option (D48 × D159)) (g18 : (D48 × (D48 × Unit)) → Option D159) (g19 : (D52 × Unit) → Option D159) (g20 : (D52 × Unit) → Option D159) : Go.V.Env := { ty := ty4, bytes := by4, fn := [(14, { ps := [], rs := [.bool], f := g14 }), (15, { ps := [(.int .i64), (.sl 3 (.int .i64))], rs := [t48], f := g15 }), (16, { ps := [t48], rs := [t52, .bool], f := g16 }), (17, { ps := [t52], rs := [t48, .bool], f := g17 }), (18, { ps := [t48, t48], rs := [.bool], f := g18 }), (19, { ps := [t52], rs := [.bool], f := g19 }), (20, { ps := [t52], rs := [.bool], f := g20 })], eqs := eq4, inl := [] }
noncomputable def M4 (g14 : Unit → Option D159) (g15 : (Int × ((List Int) × Unit)) → Option (D48 × Unit)) (g16 : (D48 × Unit) → Option (D52 × D159)) (g17 : (D52 × Unit) → Option (D48 × D159)) (g18 : (D48 × (D48 × Unit)) → Option D159) (g19 : (D52 × Unit) → Option D159) (g20 : (D52 × Unit) → Option D159) : List (Nat × Go.V.Mark (Ty.prods rs4).den) := []
noncomputable def C4 (N : Nat) (g14 : Unit → Option D159) (g15 : (Int × ((List Int) × Unit)) → Option (D48 × Unit)) (g16 : (D48 × Unit) → Option (D52 × D159)) (g17 : (D52 × Unit) → Option (D48 × D159)) (g18 : (D48 × (D48 × Unit)) → Option D159) (g19 : (D52 × Unit) → Option D159) (g20 : (D52 × Unit) → Option D159) : Go.V.Ctx (Ty.prods rs4).den := { E := E4 g14 g15 g16 g17 g18 g19 g20, n := Go.Proofs.Try.f4.ntmps, marks := M4 g14 g15 g16 g17 g18 g19 g20, fin := Go.V.finish (E4 g14 g15 g16 g17 g18 g19 g20) Go.Proofs.Try.f4 rs4, N }
noncomputable def c4 : Code := (Go.Proofs.Try.f4.body).getD .skip

theorem tab4 : tablesB Go.Proofs.Try.prog ty4 by4 eq4 = true := by kernel_rfl
theorem ob4 (N : Nat) (g14 : Unit → Option D159) (g15 : (Int × ((List Int) × Unit)) → Option (D48 × Unit)) (g16 : (D48 × Unit) → Option (D52 × D159)) (g17 : (D52 × Unit) → Option (D48 × D159)) (g18 : (D48 × (D48 × Unit)) → Option D159) (g19 : (D52 × Unit) → Option D159) (g20 : (D52 × Unit) → Option D159) : obls (C4 N g14 g15 g16 g17 g18 g19 g20) 1 c4 = [] := by kernel_rfl
theorem eF4 (N : Nat) (g14 : Unit → Option D159) (g15 : (Int × ((List Int) × Unit)) → Option (D48 × Unit)) (g16 : (D48 × Unit) → Option (D52 × D159)) (g17 : (D52 × Unit) → Option (D48 × D159)) (g18 : (D48 × (D48 × Unit)) → Option D159) (g19 : (D52 × Unit) → Option D159) (g20 : (D52 × Unit) → Option D159) (x : (Ty.prods ps4).den) : Go.V.evBody (E4 g14 g15 g16 g17 g18 g19 g20) Go.Proofs.Try.f4 rs4 (M4 g14 g15 g16 g17 g18 g19 g20) N (Go.V.start Go.Proofs.Try.f4 ps4 x) = F4 N g14 g15 g16 g17 g18 g19 g20 x := by kernel_rfl
theorem s4 (N : Nat) (g14 : Unit → Option D159) (g15 : (Int × ((List Int) × Unit)) → Option (D48 × Unit)) (g16 : (D48 × Unit) → Option (D52 × D159)) (g17 : (D52 × Unit) → Option (D48 × D159)) (g18 : (D48 × (D48 × Unit)) → Option D159) (g19 : (D52 × Unit) → Option D159) (g20 : (D52 × Unit) → Option D159) (h14 : Sound Go.Proofs.Try.prog 14 { ps := [], rs := [.bool], f := g14 }) (h15 : Sound Go.Proofs.Try.prog 15 { ps := [(.int .i64), (.sl 3 (.int .i64))], rs := [t48], f := g15 }) (h16 : Sound Go.Proofs.Try.prog 16 { ps := [t48], rs := [t52, .bool], f := g16 }) (h17 : Sound Go.Proofs.Try.prog 17 { ps := [t52], rs := [t48, .bool], f := g17 }) (h18 : Sound Go.Proofs.Try.prog 18 { ps := [t48, t48], rs := [.bool], f := g18 }) (h19 : Sound Go.Proofs.Try.prog 19 { ps := [t52], rs := [.bool], f := g19 }) (h20 : Sound Go.Proofs.Try.prog 20 { ps := [t52], rs := [.bool], f := g20 }) : Sound Go.Proofs.Try.prog 4 { ps := ps4, rs := rs4, f := F4 N g14 g15 g16 g17 g18 g19 g20 } := by
  have hE : EnvOk Go.Proofs.Try.prog (E4 g14 g15 g16 g17 g18 g19 g20) := env_ok tab4 (by
    intro p hp
    simp only [List.mem_cons, List.not_mem_nil, or_false] at hp
    rcases hp with rfl | rfl | rfl | rfl | rfl | rfl | rfl
    · exact ⟨h14, Go.Proofs.Try.f14, Go.Proofs.Try.func14, by kernel_rfl, by kernel_rfl⟩
    · exact ⟨h15, Go.Proofs.Try.f15, Go.Proofs.Try.func15, by kernel_rfl, by kernel_rfl⟩
    · exact ⟨h16, Go.Proofs.Try.f16, Go.Proofs.Try.func16, by kernel_rfl, by kernel_rfl⟩
    · exact ⟨h17, Go.Proofs.Try.f17, Go.Proofs.Try.func17, by kernel_rfl, by kernel_rfl⟩
    · exact ⟨h18, Go.Proofs.Try.f18, Go.Proofs.Try.func18, by kernel_rfl, by kernel_rfl⟩
    · exact ⟨h19, Go.Proofs.Try.f19, Go.Proofs.Try.func19, by kernel_rfl, by kernel_rfl⟩
    · exact ⟨h20, Go.Proofs.Try.f20, Go.Proofs.Try.func20, by kernel_rfl, by kernel_rfl⟩) (by
    intro p hp
    cases hp)
  have h := fn_sound hE (by kernel_rfl) Go.Proofs.Try.func4 (show Go.Proofs.Try.f4.body = some c4 by kernel_rfl) ps4 rs4 (M4 g14 g15 g16 g17 g18 g19 g20) N (by
    intro o ho
    have ho : o ∈ obls (C4 N g14 g15 g16 g17 g18 g19 g20) 1 c4 := ho
    rw [ob4] at ho
    cases ho)
  have e : (fun x => Go.V.evBody (E4 g14 g15 g16 g17 g18 g19 g20) Go.Proofs.Try.f4 rs4 (M4 g14 g15 g16 g17 g18 g19 g20) N (Go.V.start Go.Proofs.Try.f4 ps4 x)) = F4 N g14 g15 g16 g17 g18 g19 g20 := funext fun x => eF4 N g14 g15 g16 g17 g18 g19 g20 x
  rw [e] at h
  exact h

end Go.Proofs.Ytkifmnocomadfaa
end
