/- The reading of poundage poundageref11.Charge. -/
import Derived.Test.YtkifmnocomadfaaGTy
section
set_option linter.unusedVariables false
set_option maxRecDepth 100000
namespace Go.Proofs.Ytkifmnocomadfaa
open Go.V

noncomputable def F82 (N : Nat) (g98 : (D113 × (Int × Unit)) → Option (Int × D159)) (g99 : (Int × D87) → Option (Int × D159)) : (D113 × (Int × Unit)) → Option (Int × D159) := fun x =>
(g98 x).bind fun r1 =>
cond (!r1.2.1) (
some ((0 : Int), false, ())) (
(g99 (r1.1, (1 : Int), (1000000 : Int), x.1.2.2.2.2.2.2.2.1, ())).bind fun r2 =>
some r2)

noncomputable def ps82 : List Ty := [t113, (.int .i64)]
noncomputable def rs82 : List Ty := [(.int .i64), .bool]
noncomputable def ty82 : List (TypeId × Ty) := [(3, (.int .i64)), (114, t113)]
noncomputable def by82 : List (TypeId × Nat) := []
noncomputable def eq82 : List TypeId := []
noncomputable def E82 (g98 : (D113 × (Int × Unit)) → Option (Int × D159)) (g99 : (Int × D87) → Option (Int × D159)) : Go.V.Env := { ty := ty82, bytes := by82, fn := [(98, { ps := [t113, (.int .i64)], rs := [(.int .i64), .bool], f := g98 }), (99, { ps := [(.int .i64), (.int .i64), (.int .i64), (.int .i64)], rs := [(.int .i64), .bool], f := g99 })], eqs := eq82, inl := [] }
noncomputable def M82 (g98 : (D113 × (Int × Unit)) → Option (Int × D159)) (g99 : (Int × D87) → Option (Int × D159)) : List (Nat × Go.V.Mark (Ty.prods rs82).den) := []
noncomputable def C82 (N : Nat) (g98 : (D113 × (Int × Unit)) → Option (Int × D159)) (g99 : (Int × D87) → Option (Int × D159)) : Go.V.Ctx (Ty.prods rs82).den := { E := E82 g98 g99, n := Go.Proofs.Try.f82.ntmps, marks := M82 g98 g99, fin := Go.V.finish (E82 g98 g99) Go.Proofs.Try.f82 rs82, N }
noncomputable def c82 : Code := (Go.Proofs.Try.f82.body).getD .skip

theorem tab82 : tablesB Go.Proofs.Try.prog ty82 by82 eq82 = true := by kernel_rfl
theorem ob82 (N : Nat) (g98 : (D113 × (Int × Unit)) → Option (Int × D159)) (g99 : (Int × D87) → Option (Int × D159)) : obls (C82 N g98 g99) 1 c82 = [] := by kernel_rfl
theorem eF82 (N : Nat) (g98 : (D113 × (Int × Unit)) → Option (Int × D159)) (g99 : (Int × D87) → Option (Int × D159)) (x : (Ty.prods ps82).den) : Go.V.evBody (E82 g98 g99) Go.Proofs.Try.f82 rs82 (M82 g98 g99) N (Go.V.start Go.Proofs.Try.f82 ps82 x) = F82 N g98 g99 x := by kernel_rfl
theorem s82 (N : Nat) (g98 : (D113 × (Int × Unit)) → Option (Int × D159)) (g99 : (Int × D87) → Option (Int × D159)) (h98 : Sound Go.Proofs.Try.prog 98 { ps := [t113, (.int .i64)], rs := [(.int .i64), .bool], f := g98 }) (h99 : Sound Go.Proofs.Try.prog 99 { ps := [(.int .i64), (.int .i64), (.int .i64), (.int .i64)], rs := [(.int .i64), .bool], f := g99 }) : Sound Go.Proofs.Try.prog 82 { ps := ps82, rs := rs82, f := F82 N g98 g99 } := by
  have hE : EnvOk Go.Proofs.Try.prog (E82 g98 g99) := env_ok tab82 (by
    intro p hp
    simp only [List.mem_cons, List.not_mem_nil, or_false] at hp
    rcases hp with rfl | rfl
    · exact ⟨h98, Go.Proofs.Try.f98, Go.Proofs.Try.func98, by kernel_rfl, by kernel_rfl⟩
    · exact ⟨h99, Go.Proofs.Try.f99, Go.Proofs.Try.func99, by kernel_rfl, by kernel_rfl⟩) (by
    intro p hp
    cases hp)
  have h := fn_sound hE (by kernel_rfl) Go.Proofs.Try.func82 (show Go.Proofs.Try.f82.body = some c82 by kernel_rfl) ps82 rs82 (M82 g98 g99) N (by
    intro o ho
    have ho : o ∈ obls (C82 N g98 g99) 1 c82 := ho
    rw [ob82] at ho
    cases ho)
  have e : (fun x => Go.V.evBody (E82 g98 g99) Go.Proofs.Try.f82 rs82 (M82 g98 g99) N (Go.V.start Go.Proofs.Try.f82 ps82 x)) = F82 N g98 g99 := funext fun x => eF82 N g98 g99 x
  rw [e] at h
  exact h

end Go.Proofs.Ytkifmnocomadfaa
end

/- The reading of poundage poundageref12.One. -/
section
set_option linter.unusedVariables false
set_option maxRecDepth 100000
namespace Go.Proofs.Ytkifmnocomadfaa
open Go.V

noncomputable def F100 (N : Nat) (g84 : (D142 × Unit) → Option (Int × D159)) (g85 : (D142 × (D142 × Unit)) → Option (D142 × Unit)) (g86 : (Int × Unit) → Option (D142 × Unit)) (g99 : (Int × D87) → Option (Int × D159)) : (D87 × (Int × Unit)) → Option (Int × D159) := fun x =>
cond (x.1.1 == (1 : Int)) (
(g99 (x.2.1, x.1.2.1, (100000 : Int), x.1.2.2)).bind fun r1 =>
some r1) (
cond (x.1.1 == (2 : Int)) (
cond ((decide (x.2.1 > x.1.2.1)) == (x.1.1 == (2 : Int))) (
some (x.1.2.1, true, ())) (
some (x.2.1, true, ()))) (
cond (x.1.1 == (3 : Int)) (
cond ((decide (x.2.1 > x.1.2.1)) == (x.1.1 == (2 : Int))) (
some (x.1.2.1, true, ())) (
some (x.2.1, true, ()))) (
cond (x.1.1 == (4 : Int)) (
(g86 x.2).bind fun r2 =>
(g86 (x.1.2.1, ())).bind fun r3 =>
(g85 (r2.1, r3)).bind fun r4 =>
(g84 r4).bind fun r5 =>
some r5) (
some ((0 : Int), false, ())))))

noncomputable def ps100 : List Ty := [t87, (.int .i64)]
noncomputable def rs100 : List Ty := [(.int .i64), .bool]
noncomputable def ty100 : List (TypeId × Ty) := [(3, (.int .i64)), (4, .bool), (149, t87)]
noncomputable def by100 : List (TypeId × Nat) := []
noncomputable def eq100 : List TypeId := []
noncomputable def E100 (g84 : (D142 × Unit) → Option (Int × D159)) (g85 : (D142 × (D142 × Unit)) → Option (D142 × Unit)) (g86 : (Int × Unit) → Option (D142 × Unit)) (g99 : (Int × D87) → Option (Int × D159)) : Go.V.Env := { ty := ty100, bytes := by100, fn := [(84, { ps := [t142], rs := [(.int .i64), .bool], f := g84 }), (85, { ps := [t142, t142], rs := [t142], f := g85 }), (86, { ps := [(.int .i64)], rs := [t142], f := g86 }), (99, { ps := [(.int .i64), (.int .i64), (.int .i64), (.int .i64)], rs := [(.int .i64), .bool], f := g99 })], eqs := eq100, inl := [] }
noncomputable def M100 (g84 : (D142 × Unit) → Option (Int × D159)) (g85 : (D142 × (D142 × Unit)) → Option (D142 × Unit)) (g86 : (Int × Unit) → Option (D142 × Unit)) (g99 : (Int × D87) → Option (Int × D159)) : List (Nat × Go.V.Mark (Ty.prods rs100).den) := []
noncomputable def C100 (N : Nat) (g84 : (D142 × Unit) → Option (Int × D159)) (g85 : (D142 × (D142 × Unit)) → Option (D142 × Unit)) (g86 : (Int × Unit) → Option (D142 × Unit)) (g99 : (Int × D87) → Option (Int × D159)) : Go.V.Ctx (Ty.prods rs100).den := { E := E100 g84 g85 g86 g99, n := Go.Proofs.Try.f100.ntmps, marks := M100 g84 g85 g86 g99, fin := Go.V.finish (E100 g84 g85 g86 g99) Go.Proofs.Try.f100 rs100, N }
noncomputable def c100 : Code := (Go.Proofs.Try.f100.body).getD .skip

theorem tab100 : tablesB Go.Proofs.Try.prog ty100 by100 eq100 = true := by kernel_rfl
theorem ob100 (N : Nat) (g84 : (D142 × Unit) → Option (Int × D159)) (g85 : (D142 × (D142 × Unit)) → Option (D142 × Unit)) (g86 : (Int × Unit) → Option (D142 × Unit)) (g99 : (Int × D87) → Option (Int × D159)) : obls (C100 N g84 g85 g86 g99) 1 c100 = [] := by kernel_rfl
theorem eF100 (N : Nat) (g84 : (D142 × Unit) → Option (Int × D159)) (g85 : (D142 × (D142 × Unit)) → Option (D142 × Unit)) (g86 : (Int × Unit) → Option (D142 × Unit)) (g99 : (Int × D87) → Option (Int × D159)) (x : (Ty.prods ps100).den) : Go.V.evBody (E100 g84 g85 g86 g99) Go.Proofs.Try.f100 rs100 (M100 g84 g85 g86 g99) N (Go.V.start Go.Proofs.Try.f100 ps100 x) = F100 N g84 g85 g86 g99 x := by kernel_rfl
theorem s100 (N : Nat) (g84 : (D142 × Unit) → Option (Int × D159)) (g85 : (D142 × (D142 × Unit)) → Option (D142 × Unit)) (g86 : (Int × Unit) → Option (D142 × Unit)) (g99 : (Int × D87) → Option (Int × D159)) (h84 : Sound Go.Proofs.Try.prog 84 { ps := [t142], rs := [(.int .i64), .bool], f := g84 }) (h85 : Sound Go.Proofs.Try.prog 85 { ps := [t142, t142], rs := [t142], f := g85 }) (h86 : Sound Go.Proofs.Try.prog 86 { ps := [(.int .i64)], rs := [t142], f := g86 }) (h99 : Sound Go.Proofs.Try.prog 99 { ps := [(.int .i64), (.int .i64), (.int .i64), (.int .i64)], rs := [(.int .i64), .bool], f := g99 }) : Sound Go.Proofs.Try.prog 100 { ps := ps100, rs := rs100, f := F100 N g84 g85 g86 g99 } := by
  have hE : EnvOk Go.Proofs.Try.prog (E100 g84 g85 g86 g99) := env_ok tab100 (by
    intro p hp
    simp only [List.mem_cons, List.not_mem_nil, or_false] at hp
    rcases hp with rfl | rfl | rfl | rfl
    · exact ⟨h84, Go.Proofs.Try.f84, Go.Proofs.Try.func84, by kernel_rfl, by kernel_rfl⟩
    · exact ⟨h85, Go.Proofs.Try.f85, Go.Proofs.Try.func85, by kernel_rfl, by kernel_rfl⟩
    · exact ⟨h86, Go.Proofs.Try.f86, Go.Proofs.Try.func86, by kernel_rfl, by kernel_rfl⟩
    · exact ⟨h99, Go.Proofs.Try.f99, Go.Proofs.Try.func99, by kernel_rfl, by kernel_rfl⟩) (by
    intro p hp
    cases hp)
  have h := fn_sound hE (by kernel_rfl) Go.Proofs.Try.func100 (show Go.Proofs.Try.f100.body = some c100 by kernel_rfl) ps100 rs100 (M100 g84 g85 g86 g99) N (by
    intro o ho
    have ho : o ∈ obls (C100 N g84 g85 g86 g99) 1 c100 := ho
    rw [ob100] at ho
    cases ho)
  have e : (fun x => Go.V.evBody (E100 g84 g85 g86 g99) Go.Proofs.Try.f100 rs100 (M100 g84 g85 g86 g99) N (Go.V.start Go.Proofs.Try.f100 ps100 x)) = F100 N g84 g85 g86 g99 := funext fun x => eF100 N g84 g85 g86 g99 x
  rw [e] at h
  exact h

end Go.Proofs.Ytkifmnocomadfaa
end

/- The reading of poundage poundageref12.All. -/
section
set_option linter.unusedVariables false
set_option maxRecDepth 100000
namespace Go.Proofs.Ytkifmnocomadfaa
open Go.V

noncomputable def L83_0i : Shape := { items := [.tm 0 (.int .i64), .tm 10 (.sl 149 t87), .tm 11 (.int .i64), .tm 12 (.int .i64)], boxes := [] }
noncomputable def L83_0o : Shape := { items := [.tm 0 (.int .i64)], boxes := [] }
noncomputable def L83_0 (N : Nat) (g100 : (D87 × (Int × Unit)) → Option (Int × D159)) : Nat → (Int × ((List D87) × D146)) → ((Int × Unit) → Option (Int × D159)) → Option (Int × D159)
| 0, _, _ => none
| k + 1, x1, Kx =>
cond (decide (x1.2.2.2.1 < x1.2.2.1)) (
if 0 ≤ x1.2.2.2.1 then
if x1.2.2.2.1 < (x1.2.1.length : Int) then
let e2 : D87 := rdAt (t := t87) x1.2.1 x1.2.2.2.1
(g100 (e2, x1.1, ())).bind fun r3 =>
cond (!r3.2.1) (
some ((0 : Int), false, ())) (
L83_0 N g100 k (r3.1, x1.2.1, x1.2.2.1, (IntKind.i64.wrap (x1.2.2.2.1 + (1 : Int))), ()) Kx)
else none
else none) (
Kx (x1.1, ()))

noncomputable def F83 (N : Nat) (g100 : (D87 × (Int × Unit)) → Option (Int × D159)) : (Int × ((List D87) × Unit)) → Option (Int × D159) := fun x =>
L83_0 N g100 N (x.1, x.2.1, (x.2.1.length : Int), (0 : Int), ()) fun y4 =>
some (y4.1, true, ())

noncomputable def ps83 : List Ty := [(.int .i64), (.sl 149 t87)]
noncomputable def rs83 : List Ty := [(.int .i64), .bool]
noncomputable def ty83 : List (TypeId × Ty) := [(3, (.int .i64)), (112, (.sl 149 t87)), (149, t87)]
noncomputable def by83 : List (TypeId × Nat) := []
noncomputable def eq83 : List TypeId := []
noncomputable def E83 (g100 : (D87 × (Int × Unit)) → Option (Int × D159)) : Go.V.Env := { ty := ty83, bytes := by83, fn := [(100, { ps := [t87, (.int .i64)], rs := [(.int .i64), .bool], f := g100 })], eqs := eq83, inl := [] }
noncomputable def M83 (g100 : (D87 × (Int × Unit)) → Option (Int × D159)) : List (Nat × Go.V.Mark (Ty.prods rs83).den) := [(52, { ins := L83_0i, outs := L83_0o, ex := some 0, f := fun N => L83_0 N g100 })]
noncomputable def C83 (N : Nat) (g100 : (D87 × (Int × Unit)) → Option (Int × D159)) : Go.V.Ctx (Ty.prods rs83).den := { E := E83 g100, n := Go.Proofs.Try.f83.ntmps, marks := M83 g100, fin := Go.V.finish (E83 g100) Go.Proofs.Try.f83 rs83, N }
noncomputable def c83 : Code := (Go.Proofs.Try.f83.body).getD .skip

theorem tab83 : tablesB Go.Proofs.Try.prog ty83 by83 eq83 = true := by kernel_rfl
theorem oL83_0 (N : Nat) (g100 : (D87 × (Int × Unit)) → Option (Int × D159)) : (Obl.loop { ins := L83_0i, outs := L83_0o, ex := some 0, f := fun N => L83_0 N g100 } 52 (subc [true, false, true, false, false] c83) : Obl (Ty.prods rs83).den).holds (C83 N g100) := by
  intro x Kx
  exact ⟨by kernel_rfl, fun k => by kernel_rfl⟩
theorem ob83 (N : Nat) (g100 : (D87 × (Int × Unit)) → Option (Int × D159)) : obls (C83 N g100) 1 c83 = [.loop { ins := L83_0i, outs := L83_0o, ex := some 0, f := fun N => L83_0 N g100 } 52 (subc [true, false, true, false, false] c83)] := by kernel_rfl
theorem eF83 (N : Nat) (g100 : (D87 × (Int × Unit)) → Option (Int × D159)) (x : (Ty.prods ps83).den) : Go.V.evBody (E83 g100) Go.Proofs.Try.f83 rs83 (M83 g100) N (Go.V.start Go.Proofs.Try.f83 ps83 x) = F83 N g100 x := by kernel_rfl
theorem s83 (N : Nat) (g100 : (D87 × (Int × Unit)) → Option (Int × D159)) (h100 : Sound Go.Proofs.Try.prog 100 { ps := [t87, (.int .i64)], rs := [(.int .i64), .bool], f := g100 }) : Sound Go.Proofs.Try.prog 83 { ps := ps83, rs := rs83, f := F83 N g100 } := by
  have hE : EnvOk Go.Proofs.Try.prog (E83 g100) := env_ok tab83 (by
    intro p hp
    simp only [List.mem_cons, List.not_mem_nil, or_false] at hp
    rcases hp with rfl
    · exact ⟨h100, Go.Proofs.Try.f100, Go.Proofs.Try.func100, by kernel_rfl, by kernel_rfl⟩) (by
    intro p hp
    cases hp)
  have h := fn_sound hE (by kernel_rfl) Go.Proofs.Try.func83 (show Go.Proofs.Try.f83.body = some c83 by kernel_rfl) ps83 rs83 (M83 g100) N (by
    intro o ho
    have ho : o ∈ obls (C83 N g100) 1 c83 := ho
    rw [ob83] at ho
    simp only [List.mem_cons, List.not_mem_nil, or_false] at ho
    rcases ho with rfl
    · exact oL83_0 N g100)
  have e : (fun x => Go.V.evBody (E83 g100) Go.Proofs.Try.f83 rs83 (M83 g100) N (Go.V.start Go.Proofs.Try.f83 ps83 x)) = F83 N g100 := funext fun x => eF83 N g100 x
  rw [e] at h
  exact h

end Go.Proofs.Ytkifmnocomadfaa
end

/- The reading of poundage poundageref13.Part. -/
section
set_option linter.unusedVariables false
set_option maxRecDepth 100000
namespace Go.Proofs.Ytkifmnocomadfaa
open Go.V

noncomputable def F57 (N : Nat) (g82 : (D113 × (Int × Unit)) → Option (Int × D159)) (g83 : (Int × ((List D87) × Unit)) → Option (Int × D159)) : (D113 × (Int × Unit)) → Option (Int × D159) := fun x =>
(g82 x).bind fun r1 =>
cond (!r1.2.1) (
some ((0 : Int), false, ())) (
(g83 (r1.1, x.1.2.2.2.2.2.2.2.2)).bind fun r2 =>
some r2)

noncomputable def ps57 : List Ty := [t113, (.int .i64)]
noncomputable def rs57 : List Ty := [(.int .i64), .bool]
noncomputable def ty57 : List (TypeId × Ty) := [(112, (.sl 149 t87)), (114, t113), (149, t87)]
noncomputable def by57 : List (TypeId × Nat) := []
noncomputable def eq57 : List TypeId := []
noncomputable def E57 (g82 : (D113 × (Int × Unit)) → Option (Int × D159)) (g83 : (Int × ((List D87) × Unit)) → Option (Int × D159)) : Go.V.Env := { ty := ty57, bytes := by57, fn := [(82, { ps := [t113, (.int .i64)], rs := [(.int .i64), .bool], f := g82 }), (83, { ps := [(.int .i64), (.sl 149 t87)], rs := [(.int .i64), .bool], f := g83 })], eqs := eq57, inl := [] }
noncomputable def M57 (g82 : (D113 × (Int × Unit)) → Option (Int × D159)) (g83 : (Int × ((List D87) × Unit)) → Option (Int × D159)) : List (Nat × Go.V.Mark (Ty.prods rs57).den) := []
noncomputable def C57 (N : Nat) (g82 : (D113 × (Int × Unit)) → Option (Int × D159)) (g83 : (Int × ((List D87) × Unit)) → Option (Int × D159)) : Go.V.Ctx (Ty.prods rs57).den := { E := E57 g82 g83, n := Go.Proofs.Try.f57.ntmps, marks := M57 g82 g83, fin := Go.V.finish (E57 g82 g83) Go.Proofs.Try.f57 rs57, N }
noncomputable def c57 : Code := (Go.Proofs.Try.f57.body).getD .skip

theorem tab57 : tablesB Go.Proofs.Try.prog ty57 by57 eq57 = true := by kernel_rfl
theorem ob57 (N : Nat) (g82 : (D113 × (Int × Unit)) → Option (Int × D159)) (g83 : (Int × ((List D87) × Unit)) → Option (Int × D159)) : obls (C57 N g82 g83) 1 c57 = [] := by kernel_rfl
theorem eF57 (N : Nat) (g82 : (D113 × (Int × Unit)) → Option (Int × D159)) (g83 : (Int × ((List D87) × Unit)) → Option (Int × D159)) (x : (Ty.prods ps57).den) : Go.V.evBody (E57 g82 g83) Go.Proofs.Try.f57 rs57 (M57 g82 g83) N (Go.V.start Go.Proofs.Try.f57 ps57 x) = F57 N g82 g83 x := by kernel_rfl
theorem s57 (N : Nat) (g82 : (D113 × (Int × Unit)) → Option (Int × D159)) (g83 : (Int × ((List D87) × Unit)) → Option (Int × D159)) (h82 : Sound Go.Proofs.Try.prog 82 { ps := [t113, (.int .i64)], rs := [(.int .i64), .bool], f := g82 }) (h83 : Sound Go.Proofs.Try.prog 83 { ps := [(.int .i64), (.sl 149 t87)], rs := [(.int .i64), .bool], f := g83 }) : Sound Go.Proofs.Try.prog 57 { ps := ps57, rs := rs57, f := F57 N g82 g83 } := by
  have hE : EnvOk Go.Proofs.Try.prog (E57 g82 g83) := env_ok tab57 (by
    intro p hp
    simp only [List.mem_cons, List.not_mem_nil, or_false] at hp
    rcases hp with rfl | rfl
    · exact ⟨h82, Go.Proofs.Try.f82, Go.Proofs.Try.func82, by kernel_rfl, by kernel_rfl⟩
    · exact ⟨h83, Go.Proofs.Try.f83, Go.Proofs.Try.func83, by kernel_rfl, by kernel_rfl⟩) (by
    intro p hp
    cases hp)
  have h := fn_sound hE (by kernel_rfl) Go.Proofs.Try.func57 (show Go.Proofs.Try.f57.body = some c57 by kernel_rfl) ps57 rs57 (M57 g82 g83) N (by
    intro o ho
    have ho : o ∈ obls (C57 N g82 g83) 1 c57 := ho
    rw [ob57] at ho
    cases ho)
  have e : (fun x => Go.V.evBody (E57 g82 g83) Go.Proofs.Try.f57 rs57 (M57 g82 g83) N (Go.V.start Go.Proofs.Try.f57 ps57 x)) = F57 N g82 g83 := funext fun x => eF57 N g82 g83 x
  rw [e] at h
  exact h

end Go.Proofs.Ytkifmnocomadfaa
end

/- The reading of poundage poundageref18.Most. -/
section
set_option linter.unusedVariables false
set_option maxRecDepth 100000
namespace Go.Proofs.Ytkifmnocomadfaa
open Go.V

noncomputable def L31_0i : Shape := { items := [.ptr 1 0 0, .bx 0 0 t25, .tm 4 (.int .i64), .tm 14 (.sl 110 t87), .tm 15 (.int .i64), .tm 16 (.int .i64)], boxes := [26] }
noncomputable def L31_0o : Shape := { items := [.ptr 1 0 0, .bx 0 0 t25, .tm 4 (.int .i64)], boxes := [26] }
noncomputable def L31_0 (N : Nat) (g57 : (D113 × (Int × Unit)) → Option (Int × D159)) : Nat → (Unit × (D25 × (Int × ((List D87) × D146)))) → ((Unit × (D25 × (Int × Unit))) → Option (Int × D159)) → Option (Int × D159)
| 0, _, _ => none
| k + 1, x1, Kx =>
cond (decide (x1.2.2.2.2.2.1 < x1.2.2.2.2.1)) (
if 0 ≤ x1.2.2.2.2.2.1 then
if x1.2.2.2.2.2.1 < (x1.2.2.2.1.length : Int) then
let e2 : D87 := rdAt (t := t87) x1.2.2.2.1 x1.2.2.2.2.2.1
L31_0 N g57 k ((), x1.2.1, (IntKind.i64.wrap (x1.2.2.1 + e2.1)), x1.2.2.2.1, x1.2.2.2.2.1, (IntKind.i64.wrap (x1.2.2.2.2.2.1 + (1 : Int))), ()) Kx
else none
else none) (
Kx ((), x1.2.1, x1.2.2.1, ()))

noncomputable def L31_2i : Shape := { items := [.ptr 1 0 0, .bx 0 0 t25, .tm 4 (.int .i64), .ptr 8 1 0, .bx 1 0 t113, .tm 9 (.int .i64), .tm 10 (.int .i64), .tm 26 (.sl 114 t113), .tm 27 (.int .i64), .tm 28 (.int .i64)], boxes := [26, 114] }
noncomputable def L31_2o : Shape := { items := [.ptr 1 0 0, .bx 0 0 t25, .tm 4 (.int .i64), .tm 9 (.int .i64), .tm 26 (.sl 114 t113), .tm 27 (.int .i64), .tm 28 (.int .i64)], boxes := [26] }
noncomputable def L31_2 (N : Nat) (g57 : (D113 × (Int × Unit)) → Option (Int × D159)) : Nat → (Unit × (D25 × (Int × (Unit × (D113 × (Int × (Int × ((List D113) × D146)))))))) → ((Unit × (D25 × (Int × (Int × ((List D113) × D146))))) → Option (Int × D159)) → Option (Int × D159)
| 0, _, _ => none
| k + 1, x6, Kx =>
if 0 ≤ x6.2.2.2.2.1.1 then
if x6.2.2.2.2.1.1 < (x6.2.1.2.2.2.1.length : Int) then
let e7 : D67 := rdAt (t := t67) x6.2.1.2.2.2.1 x6.2.2.2.2.1.1
cond (decide (x6.2.2.2.2.2.2.1 ≤ e7.2.2.1)) (
(g57 (x6.2.2.2.2.1, x6.2.2.2.2.2.2.1, ())).bind fun r8 =>
cond (!r8.2.1) (
some ((0 : Int), false, ())) (
cond (decide (r8.1 > (1152921504606846976 : Int))) (
some ((0 : Int), false, ())) (
cond (decide (r8.1 < (0 : Int))) (
some ((0 : Int), false, ())) (
let v9 := (if r8.1 > x6.2.2.2.2.2.1 then r8.1 else x6.2.2.2.2.2.1)
let v10 := (IntKind.i64.wrap (x6.2.2.2.2.2.2.1 + (1 : Int)))
L31_2 N g57 k ((), x6.2.1, x6.2.2.1, (), x6.2.2.2.2.1, v9, v10, x6.2.2.2.2.2.2.2.1, x6.2.2.2.2.2.2.2.2.1, x6.2.2.2.2.2.2.2.2.2.1, ()) Kx)))) (
Kx ((), x6.2.1, x6.2.2.1, x6.2.2.2.2.2.1, x6.2.2.2.2.2.2.2.1, x6.2.2.2.2.2.2.2.2.1, x6.2.2.2.2.2.2.2.2.2.1, ()))
else none
else none

noncomputable def L31_1i : Shape := { items := [.ptr 1 0 0, .bx 0 0 t25, .tm 4 (.int .i64), .tm 26 (.sl 114 t113), .tm 27 (.int .i64), .tm 28 (.int .i64)], boxes := [26] }
noncomputable def L31_1o : Shape := { items := [.tm 4 (.int .i64)], boxes := [] }
noncomputable def L31_1 (N : Nat) (g57 : (D113 × (Int × Unit)) → Option (Int × D159)) : Nat → (Unit × (D25 × (Int × ((List D113) × D146)))) → ((Int × Unit) → Option (Int × D159)) → Option (Int × D159)
| 0, _, _ => none
| k + 1, x4, Kx =>
cond (decide (x4.2.2.2.2.2.1 < x4.2.2.2.2.1)) (
if 0 ≤ x4.2.2.2.2.2.1 then
if x4.2.2.2.2.2.1 < (x4.2.2.2.1.length : Int) then
let e5 : D113 := rdAt (t := t113) x4.2.2.2.1 x4.2.2.2.2.2.1
L31_2 N g57 N ((), x4.2.1, x4.2.2.1, (), e5, (0 : Int), (0 : Int), x4.2.2.2.1, x4.2.2.2.2.1, x4.2.2.2.2.2.1, ()) fun y11 =>
cond (decide ((IntKind.i64.wrap (y11.2.2.1 + y11.2.2.2.1)) > (1152921504606846976 : Int))) (
some ((0 : Int), false, ())) (
L31_1 N g57 k ((), y11.2.1, (IntKind.i64.wrap (y11.2.2.1 + y11.2.2.2.1)), y11.2.2.2.2.1, y11.2.2.2.2.2.1, (IntKind.i64.wrap (y11.2.2.2.2.2.2.1 + (1 : Int))), ()) Kx)
else none
else none) (
Kx (x4.2.2.1, ()))

noncomputable def F31 (N : Nat) (g57 : (D113 × (Int × Unit)) → Option (Int × D159)) : (D25 × Unit) → Option (Int × D159) := fun x =>
L31_0 N g57 N ((), x.1, (0 : Int), x.1.2.2.2.2.1, (x.1.2.2.2.2.1.length : Int), (0 : Int), ()) fun y3 =>
L31_1 N g57 N ((), y3.2.1, y3.2.2.1, y3.2.1.2.2.2.2.2.1, (y3.2.1.2.2.2.2.2.1.length : Int), (0 : Int), ()) fun y12 =>
some (y12.1, (decide (y12.1 ≤ (1152921504606846976 : Int))), ())

noncomputable def ps31 : List Ty := [t25]
noncomputable def rs31 : List Ty := [(.int .i64), .bool]
noncomputable def ty31 : List (TypeId × Ty) := [(3, (.int .i64)), (22, (.sl 68 t67)), (23, (.sl 110 t87)), (24, (.sl 114 t113)), (26, t25), (68, t67), (110, t87), (114, t113)]
noncomputable def by31 : List (TypeId × Nat) := []
noncomputable def eq31 : List TypeId := []
noncomputable def E31 (g57 : (D113 × (Int × Unit)) → Option (Int × D159)) : Go.V.Env := { ty := ty31, bytes := by31, fn := [(57, { ps := [t113, (.int .i64)], rs := [(.int .i64), .bool], f := g57 })], eqs := eq31, inl := [] }
noncomputable def M31 (g57 : (D113 × (Int × Unit)) → Option (Int × D159)) : List (Nat × Go.V.Mark (Ty.prods rs31).den) := [(116, { ins := L31_0i, outs := L31_0o, ex := some 0, f := fun N => L31_0 N g57 }), (250676, { ins := L31_2i, outs := L31_2o, ex := some 4, f := fun N => L31_2 N g57 }), (244, { ins := L31_1i, outs := L31_1o, ex := some 2, f := fun N => L31_1 N g57 })]
noncomputable def C31 (N : Nat) (g57 : (D113 × (Int × Unit)) → Option (Int × D159)) : Go.V.Ctx (Ty.prods rs31).den := { E := E31 g57, n := Go.Proofs.Try.f31.ntmps, marks := M31 g57, fin := Go.V.finish (E31 g57) Go.Proofs.Try.f31 rs31, N }
noncomputable def c31 : Code := (Go.Proofs.Try.f31.body).getD .skip

theorem tab31 : tablesB Go.Proofs.Try.prog ty31 by31 eq31 = true := by kernel_rfl
theorem oL31_0 (N : Nat) (g57 : (D113 × (Int × Unit)) → Option (Int × D159)) : (Obl.loop { ins := L31_0i, outs := L31_0o, ex := some 0, f := fun N => L31_0 N g57 } 116 (subc [true, true, false, true, false, false] c31) : Obl (Ty.prods rs31).den).holds (C31 N g57) := by
  intro x Kx
  exact ⟨by kernel_rfl, fun k => by kernel_rfl⟩
theorem oL31_1 (N : Nat) (g57 : (D113 × (Int × Unit)) → Option (Int × D159)) : (Obl.loop { ins := L31_1i, outs := L31_1o, ex := some 2, f := fun N => L31_1 N g57 } 244 (subc [true, true, true, false, true, false, false] c31) : Obl (Ty.prods rs31).den).holds (C31 N g57) := by
  intro x Kx
  exact ⟨by kernel_rfl, fun k => by kernel_rfl⟩
theorem oL31_2 (N : Nat) (g57 : (D113 × (Int × Unit)) → Option (Int × D159)) : (Obl.loop { ins := L31_2i, outs := L31_2o, ex := some 4, f := fun N => L31_2 N g57 } 250676 (subc [true, true, true, false, true, false, false, true, true, false, false, true, true, false, true, false, false] c31) : Obl (Ty.prods rs31).den).holds (C31 N g57) := by
  intro x Kx
  exact ⟨by kernel_rfl, fun k => by kernel_rfl⟩
theorem ob31 (N : Nat) (g57 : (D113 × (Int × Unit)) → Option (Int × D159)) : obls (C31 N g57) 1 c31 = [.loop { ins := L31_0i, outs := L31_0o, ex := some 0, f := fun N => L31_0 N g57 } 116 (subc [true, true, false, true, false, false] c31), .loop { ins := L31_1i, outs := L31_1o, ex := some 2, f := fun N => L31_1 N g57 } 244 (subc [true, true, true, false, true, false, false] c31), .loop { ins := L31_2i, outs := L31_2o, ex := some 4, f := fun N => L31_2 N g57 } 250676 (subc [true, true, true, false, true, false, false, true, true, false, false, true, true, false, true, false, false] c31)] := by kernel_rfl
theorem eF31 (N : Nat) (g57 : (D113 × (Int × Unit)) → Option (Int × D159)) (x : (Ty.prods ps31).den) : Go.V.evBody (E31 g57) Go.Proofs.Try.f31 rs31 (M31 g57) N (Go.V.start Go.Proofs.Try.f31 ps31 x) = F31 N g57 x := by kernel_rfl
theorem s31 (N : Nat) (g57 : (D113 × (Int × Unit)) → Option (Int × D159)) (h57 : Sound Go.Proofs.Try.prog 57 { ps := [t113, (.int .i64)], rs := [(.int .i64), .bool], f := g57 }) : Sound Go.Proofs.Try.prog 31 { ps := ps31, rs := rs31, f := F31 N g57 } := by
  have hE : EnvOk Go.Proofs.Try.prog (E31 g57) := env_ok tab31 (by
    intro p hp
    simp only [List.mem_cons, List.not_mem_nil, or_false] at hp
    rcases hp with rfl
    · exact ⟨h57, Go.Proofs.Try.f57, Go.Proofs.Try.func57, by kernel_rfl, by kernel_rfl⟩) (by
    intro p hp
    cases hp)
  have h := fn_sound hE (by kernel_rfl) Go.Proofs.Try.func31 (show Go.Proofs.Try.f31.body = some c31 by kernel_rfl) ps31 rs31 (M31 g57) N (by
    intro o ho
    have ho : o ∈ obls (C31 N g57) 1 c31 := ho
    rw [ob31] at ho
    simp only [List.mem_cons, List.not_mem_nil, or_false] at ho
    rcases ho with rfl | rfl | rfl
    · exact oL31_0 N g57
    · exact oL31_1 N g57
    · exact oL31_2 N g57)
  have e : (fun x => Go.V.evBody (E31 g57) Go.Proofs.Try.f31 rs31 (M31 g57) N (Go.V.start Go.Proofs.Try.f31 ps31 x)) = F31 N g57 := funext fun x => eF31 N g57 x
  rw [e] at h
  exact h

end Go.Proofs.Ytkifmnocomadfaa
end

/- The reading of poundage poundageref18.Fits. -/
section
set_option linter.unusedVariables false
set_option maxRecDepth 100000
namespace Go.Proofs.Ytkifmnocomadfaa
open Go.V

noncomputable def F7 (N : Nat) (g29 : (D25 × Unit) → Option D159) (g30 : (D25 × Unit) → Option D159) (g31 : (D25 × Unit) → Option (Int × D159)) : (D25 × Unit) → Option D159 := fun x =>
(g29 x).bind fun r1 =>
cond r1.1 (
some (false, ())) (
(g30 x).bind fun r2 =>
cond (!r2.1) (
some (false, ())) (
(g31 x).bind fun r3 =>
some r3.2))

noncomputable def ps7 : List Ty := [t25]
noncomputable def rs7 : List Ty := [.bool]
noncomputable def ty7 : List (TypeId × Ty) := [(26, t25)]
noncomputable def by7 : List (TypeId × Nat) := []
noncomputable def eq7 : List TypeId := []
noncomputable def E7 (g29 : (D25 × Unit) → Option D159) (g30 : (D25 × Unit) → Option D159) (g31 : (D25 × Unit) → Option (Int × D159)) : Go.V.Env := { ty := ty7, bytes := by7, fn := [(29, { ps := [t25], rs := [.bool], f := g29 }), (30, { ps := [t25], rs := [.bool], f := g30 }), (31, { ps := [t25], rs := [(.int .i64), .bool], f := g31 })], eqs := eq7, inl := [] }
noncomputable def M7 (g29 : (D25 × Unit) → Option D159) (g30 : (D25 × Unit) → Option D159) (g31 : (D25 × Unit) → Option (Int × D159)) : List (Nat × Go.V.Mark (Ty.prods rs7).den) := []
noncomputable def C7 (N : Nat) (g29 : (D25 × Unit) → Option D159) (g30 : (D25 × Unit) → Option D159) (g31 : (D25 × Unit) → Option (Int × D159)) : Go.V.Ctx (Ty.prods rs7).den := { E := E7 g29 g30 g31, n := Go.Proofs.Try.f7.ntmps, marks := M7 g29 g30 g31, fin := Go.V.finish (E7 g29 g30 g31) Go.Proofs.Try.f7 rs7, N }
noncomputable def c7 : Code := (Go.Proofs.Try.f7.body).getD .skip

theorem tab7 : tablesB Go.Proofs.Try.prog ty7 by7 eq7 = true := by kernel_rfl
theorem ob7 (N : Nat) (g29 : (D25 × Unit) → Option D159) (g30 : (D25 × Unit) → Option D159) (g31 : (D25 × Unit) → Option (Int × D159)) : obls (C7 N g29 g30 g31) 1 c7 = [] := by kernel_rfl
theorem eF7 (N : Nat) (g29 : (D25 × Unit) → Option D159) (g30 : (D25 × Unit) → Option D159) (g31 : (D25 × Unit) → Option (Int × D159)) (x : (Ty.prods ps7).den) : Go.V.evBody (E7 g29 g30 g31) Go.Proofs.Try.f7 rs7 (M7 g29 g30 g31) N (Go.V.start Go.Proofs.Try.f7 ps7 x) = F7 N g29 g30 g31 x := by kernel_rfl
theorem s7 (N : Nat) (g29 : (D25 × Unit) → Option D159) (g30 : (D25 × Unit) → Option D159) (g31 : (D25 × Unit) → Option (Int × D159)) (h29 : Sound Go.Proofs.Try.prog 29 { ps := [t25], rs := [.bool], f := g29 }) (h30 : Sound Go.Proofs.Try.prog 30 { ps := [t25], rs := [.bool], f := g30 }) (h31 : Sound Go.Proofs.Try.prog 31 { ps := [t25], rs := [(.int .i64), .bool], f := g31 }) : Sound Go.Proofs.Try.prog 7 { ps := ps7, rs := rs7, f := F7 N g29 g30 g31 } := by
  have hE : EnvOk Go.Proofs.Try.prog (E7 g29 g30 g31) := env_ok tab7 (by
    intro p hp
    simp only [List.mem_cons, List.not_mem_nil, or_false] at hp
    rcases hp with rfl | rfl | rfl
    · exact ⟨h29, Go.Proofs.Try.f29, Go.Proofs.Try.func29, by kernel_rfl, by kernel_rfl⟩
    · exact ⟨h30, Go.Proofs.Try.f30, Go.Proofs.Try.func30, by kernel_rfl, by kernel_rfl⟩
    · exact ⟨h31, Go.Proofs.Try.f31, Go.Proofs.Try.func31, by kernel_rfl, by kernel_rfl⟩) (by
    intro p hp
    cases hp)
  have h := fn_sound hE (by kernel_rfl) Go.Proofs.Try.func7 (show Go.Proofs.Try.f7.body = some c7 by kernel_rfl) ps7 rs7 (M7 g29 g30 g31) N (by
    intro o ho
    have ho : o ∈ obls (C7 N g29 g30 g31) 1 c7 := ho
    rw [ob7] at ho
    cases ho)
  have e : (fun x => Go.V.evBody (E7 g29 g30 g31) Go.Proofs.Try.f7 rs7 (M7 g29 g30 g31) N (Go.V.start Go.Proofs.Try.f7 ps7 x)) = F7 N g29 g30 g31 := funext fun x => eF7 N g29 g30 g31 x
  rw [e] at h
  exact h

end Go.Proofs.Ytkifmnocomadfaa
end

/- The reading of poundage poundageref18.Alike. -/
section
set_option linter.unusedVariables false
set_option maxRecDepth 100000
namespace Go.Proofs.Ytkifmnocomadfaa
open Go.V

noncomputable def L13_0i : Shape := { items := [.ptr 2 0 0, .bx 0 0 t40, .ptr 3 1 0, .bx 1 0 t40, .tm 22 (.int .i64), .tm 23 (.int .i64)], boxes := [41, 41] }
noncomputable def L13_0o : Shape := { items := [], boxes := [] }
noncomputable def L13_0 (N : Nat) (g38 : (D52 × (D52 × Unit)) → Option D159) : Nat → (Unit × (D40 × (Unit × (D40 × D146)))) → (Unit → Option D159) → Option D159
| 0, _, _ => none
| k + 1, x1, Kx =>
cond (decide (x1.2.2.2.2.2.1 < x1.2.2.2.2.1)) (
if 0 ≤ x1.2.2.2.2.2.1 then
if x1.2.2.2.2.2.1 < (x1.2.1.2.2.2.1.length : Int) then
let e2 : D52 := rdAt (t := t52) x1.2.1.2.2.2.1 x1.2.2.2.2.2.1
if 0 ≤ x1.2.2.2.2.2.1 then
if x1.2.2.2.2.2.1 < (x1.2.2.2.1.2.2.2.1.length : Int) then
let e3 : D52 := rdAt (t := t52) x1.2.2.2.1.2.2.2.1 x1.2.2.2.2.2.1
(g38 (e2, e3, ())).bind fun r4 =>
cond (!r4.1) (
some (false, ())) (
L13_0 N g38 k ((), x1.2.1, (), x1.2.2.2.1, x1.2.2.2.2.1, (IntKind.i64.wrap (x1.2.2.2.2.2.1 + (1 : Int))), ()) Kx)
else none
else none
else none
else none) (
Kx ())

noncomputable def F13 (N : Nat) (g38 : (D52 × (D52 × Unit)) → Option D159) : (D40 × (D40 × Unit)) → Option D159 := fun x =>
cond (x.1.2.2.1 != x.2.1.2.2.1) (
some (false, ())) (
cond ((x.1.2.2.2.1.length : Int) != (x.2.1.2.2.2.1.length : Int)) (
some (false, ())) (
L13_0 N g38 N ((), x.1, (), x.2.1, (x.1.2.2.2.1.length : Int), (0 : Int), ()) fun y5 =>
some (true, ())))

noncomputable def ps13 : List Ty := [t40, t40]
noncomputable def rs13 : List Ty := [.bool]
noncomputable def ty13 : List (TypeId × Ty) := [(3, (.int .i64)), (39, (.sl 53 t52)), (41, t40), (53, t52)]
noncomputable def by13 : List (TypeId × Nat) := []
noncomputable def eq13 : List TypeId := []
noncomputable def E13 (g38 : (D52 × (D52 × Unit)) → Option D159) : Go.V.Env := { ty := ty13, bytes := by13, fn := [(38, { ps := [t52, t52], rs := [.bool], f := g38 })], eqs := eq13, inl := [] }
noncomputable def M13 (g38 : (D52 × (D52 × Unit)) → Option D159) : List (Nat × Go.V.Mark (Ty.prods rs13).den) := [(116, { ins := L13_0i, outs := L13_0o, ex := some 0, f := fun N => L13_0 N g38 })]
noncomputable def C13 (N : Nat) (g38 : (D52 × (D52 × Unit)) → Option D159) : Go.V.Ctx (Ty.prods rs13).den := { E := E13 g38, n := Go.Proofs.Try.f13.ntmps, marks := M13 g38, fin := Go.V.finish (E13 g38) Go.Proofs.Try.f13 rs13, N }
noncomputable def c13 : Code := (Go.Proofs.Try.f13.body).getD .skip

theorem tab13 : tablesB Go.Proofs.Try.prog ty13 by13 eq13 = true := by kernel_rfl
theorem oL13_0 (N : Nat) (g38 : (D52 × (D52 × Unit)) → Option D159) : (Obl.loop { ins := L13_0i, outs := L13_0o, ex := some 0, f := fun N => L13_0 N g38 } 116 (subc [true, true, false, true, false, false] c13) : Obl (Ty.prods rs13).den).holds (C13 N g38) := by
  intro x Kx
  exact ⟨by kernel_rfl, fun k => by kernel_rfl⟩
theorem ob13 (N : Nat) (g38 : (D52 × (D52 × Unit)) → Option D159) : obls (C13 N g38) 1 c13 = [.loop { ins := L13_0i, outs := L13_0o, ex := some 0, f := fun N => L13_0 N g38 } 116 (subc [true, true, false, true, false, false] c13)] := by kernel_rfl
theorem eF13 (N : Nat) (g38 : (D52 × (D52 × Unit)) → Option D159) (x : (Ty.prods ps13).den) : Go.V.evBody (E13 g38) Go.Proofs.Try.f13 rs13 (M13 g38) N (Go.V.start Go.Proofs.Try.f13 ps13 x) = F13 N g38 x := by kernel_rfl
theorem s13 (N : Nat) (g38 : (D52 × (D52 × Unit)) → Option D159) (h38 : Sound Go.Proofs.Try.prog 38 { ps := [t52, t52], rs := [.bool], f := g38 }) : Sound Go.Proofs.Try.prog 13 { ps := ps13, rs := rs13, f := F13 N g38 } := by
  have hE : EnvOk Go.Proofs.Try.prog (E13 g38) := env_ok tab13 (by
    intro p hp
    simp only [List.mem_cons, List.not_mem_nil, or_false] at hp
    rcases hp with rfl
    · exact ⟨h38, Go.Proofs.Try.f38, Go.Proofs.Try.func38, by kernel_rfl, by kernel_rfl⟩) (by
    intro p hp
    cases hp)
  have h := fn_sound hE (by kernel_rfl) Go.Proofs.Try.func13 (show Go.Proofs.Try.f13.body = some c13 by kernel_rfl) ps13 rs13 (M13 g38) N (by
    intro o ho
    have ho : o ∈ obls (C13 N g38) 1 c13 := ho
    rw [ob13] at ho
    simp only [List.mem_cons, List.not_mem_nil, or_false] at ho
    rcases ho with rfl
    · exact oL13_0 N g38)
  have e : (fun x => Go.V.evBody (E13 g38) Go.Proofs.Try.f13 rs13 (M13 g38) N (Go.V.start Go.Proofs.Try.f13 ps13 x)) = F13 N g38 := funext fun x => eF13 N g38 x
  rw [e] at h
  exact h

end Go.Proofs.Ytkifmnocomadfaa
end

/- The reading of poundage poundageref17.Holds. -/
section
set_option linter.unusedVariables false
set_option maxRecDepth 100000
namespace Go.Proofs.Ytkifmnocomadfaa
open Go.V

noncomputable def L62_0i : Shape := { items := [.tm 1 (.int .i64), .ptr 2 0 0, .bx 0 0 t25, .tm 5 (.int .u64), .tm 11 (.sl 110 t87), .tm 12 (.int .i64), .tm 13 (.int .i64)], boxes := [26] }
noncomputable def L62_0o : Shape := { items := [.tm 1 (.int .i64), .ptr 2 0 0, .bx 0 0 t25, .tm 5 (.int .u64)], boxes := [26] }
noncomputable def L62_0 (N : Nat) : Nat → (Int × (Unit × (D25 × (Int × ((List D87) × D146))))) → ((Int × (Unit × (D25 × (Int × Unit)))) → Option (Int × Unit)) → Option (Int × Unit)
| 0, _, _ => none
| k + 1, x1, Kx =>
cond (decide (x1.2.2.2.2.2.2.1 < x1.2.2.2.2.2.1)) (
if 0 ≤ x1.2.2.2.2.2.2.1 then
if x1.2.2.2.2.2.2.1 < (x1.2.2.2.2.1.length : Int) then
let e2 : D87 := rdAt (t := t87) x1.2.2.2.2.1 x1.2.2.2.2.2.2.1
cond (decide (e2.2.1 ≤ x1.1)) (
cond (decide (x1.1 ≤ e2.2.2.1)) (
if (IntKind.u64.wrap x1.2.2.2.2.2.2.1) < 0 then none else
let v3 := (IntKind.u64.wrap (((BitVec.ofInt IntKind.u64.bits x1.2.2.2.1 ||| BitVec.ofInt IntKind.u64.bits (IntKind.u64.wrap ((1 : Int) * 2 ^ (min ((IntKind.u64.wrap x1.2.2.2.2.2.2.1)).toNat IntKind.u64.bits)))).toNat : Int)))
L62_0 N k (x1.1, (), x1.2.2.1, v3, x1.2.2.2.2.1, x1.2.2.2.2.2.1, (IntKind.i64.wrap (x1.2.2.2.2.2.2.1 + (1 : Int))), ()) Kx) (
L62_0 N k (x1.1, (), x1.2.2.1, x1.2.2.2.1, x1.2.2.2.2.1, x1.2.2.2.2.2.1, (IntKind.i64.wrap (x1.2.2.2.2.2.2.1 + (1 : Int))), ()) Kx)) (
L62_0 N k (x1.1, (), x1.2.2.1, x1.2.2.2.1, x1.2.2.2.2.1, x1.2.2.2.2.2.1, (IntKind.i64.wrap (x1.2.2.2.2.2.2.1 + (1 : Int))), ()) Kx)
else none
else none) (
Kx (x1.1, (), x1.2.2.1, x1.2.2.2.1, ()))

noncomputable def L62_1i : Shape := { items := [.tm 1 (.int .i64), .tm 5 (.int .u64), .tm 35 (.sl 114 t113), .tm 36 (.int .i64), .tm 37 (.int .i64)], boxes := [] }
noncomputable def L62_1o : Shape := { items := [.tm 5 (.int .u64)], boxes := [] }
noncomputable def L62_1 (N : Nat) : Nat → (Int × (Int × ((List D113) × D146))) → ((Int × Unit) → Option (Int × Unit)) → Option (Int × Unit)
| 0, _, _ => none
| k + 1, x5, Kx =>
cond (decide (x5.2.2.2.2.1 < x5.2.2.2.1)) (
if 0 ≤ x5.2.2.2.2.1 then
if x5.2.2.2.2.1 < (x5.2.2.1.length : Int) then
let e6 : D113 := rdAt (t := t113) x5.2.2.1 x5.2.2.2.2.1
cond (decide (e6.2.1 ≤ x5.1)) (
cond (decide (x5.1 ≤ e6.2.2.1)) (
if (IntKind.u64.wrap x5.2.2.2.2.1) < 0 then none else
let v7 := (IntKind.u64.wrap (((BitVec.ofInt IntKind.u64.bits x5.2.1 ||| BitVec.ofInt IntKind.u64.bits (IntKind.u64.wrap ((256 : Int) * 2 ^ (min ((IntKind.u64.wrap x5.2.2.2.2.1)).toNat IntKind.u64.bits)))).toNat : Int)))
L62_1 N k (x5.1, v7, x5.2.2.1, x5.2.2.2.1, (IntKind.i64.wrap (x5.2.2.2.2.1 + (1 : Int))), ()) Kx) (
L62_1 N k (x5.1, x5.2.1, x5.2.2.1, x5.2.2.2.1, (IntKind.i64.wrap (x5.2.2.2.2.1 + (1 : Int))), ()) Kx)) (
L62_1 N k (x5.1, x5.2.1, x5.2.2.1, x5.2.2.2.1, (IntKind.i64.wrap (x5.2.2.2.2.1 + (1 : Int))), ()) Kx)
else none
else none) (
Kx (x5.2.1, ()))

noncomputable def F62 (N : Nat) : (D25 × (Int × Unit)) → Option (Int × Unit) := fun x =>
L62_0 N N (x.2.1, (), x.1, (0 : Int), x.1.2.2.2.2.1, (x.1.2.2.2.2.1.length : Int), (0 : Int), ()) fun y4 =>
L62_1 N N (y4.1, y4.2.2.2.1, y4.2.2.1.2.2.2.2.2.1, (y4.2.2.1.2.2.2.2.2.1.length : Int), (0 : Int), ()) fun y8 =>
some y8

noncomputable def ps62 : List Ty := [t25, (.int .i64)]
noncomputable def rs62 : List Ty := [(.int .u64)]
noncomputable def ty62 : List (TypeId × Ty) := [(3, (.int .i64)), (23, (.sl 110 t87)), (24, (.sl 114 t113)), (26, t25), (110, t87), (114, t113), (120, (.int .u64)), (122, (.int .u64))]
noncomputable def by62 : List (TypeId × Nat) := []
noncomputable def eq62 : List TypeId := []
noncomputable def E62 : Go.V.Env := { ty := ty62, bytes := by62, fn := [], eqs := eq62, inl := [] }
noncomputable def M62 : List (Nat × Go.V.Mark (Ty.prods rs62).den) := [(116, { ins := L62_0i, outs := L62_0o, ex := some 0, f := fun N => L62_0 N }), (244, { ins := L62_1i, outs := L62_1o, ex := some 2, f := fun N => L62_1 N })]
noncomputable def C62 (N : Nat) : Go.V.Ctx (Ty.prods rs62).den := { E := E62, n := Go.Proofs.Try.f62.ntmps, marks := M62, fin := Go.V.finish (E62) Go.Proofs.Try.f62 rs62, N }
noncomputable def c62 : Code := (Go.Proofs.Try.f62.body).getD .skip

theorem tab62 : tablesB Go.Proofs.Try.prog ty62 by62 eq62 = true := by kernel_rfl
theorem oL62_0 (N : Nat) : (Obl.loop { ins := L62_0i, outs := L62_0o, ex := some 0, f := fun N => L62_0 N } 116 (subc [true, true, false, true, false, false] c62) : Obl (Ty.prods rs62).den).holds (C62 N) := by
  intro x Kx
  exact ⟨by kernel_rfl, fun k => by kernel_rfl⟩
theorem oL62_1 (N : Nat) : (Obl.loop { ins := L62_1i, outs := L62_1o, ex := some 2, f := fun N => L62_1 N } 244 (subc [true, true, true, false, true, false, false] c62) : Obl (Ty.prods rs62).den).holds (C62 N) := by
  intro x Kx
  exact ⟨by kernel_rfl, fun k => by kernel_rfl⟩
theorem ob62 (N : Nat) : obls (C62 N) 1 c62 = [.loop { ins := L62_0i, outs := L62_0o, ex := some 0, f := fun N => L62_0 N } 116 (subc [true, true, false, true, false, false] c62), .loop { ins := L62_1i, outs := L62_1o, ex := some 2, f := fun N => L62_1 N } 244 (subc [true, true, true, false, true, false, false] c62)] := by kernel_rfl
theorem eF62 (N : Nat) (x : (Ty.prods ps62).den) : Go.V.evBody (E62) Go.Proofs.Try.f62 rs62 (M62) N (Go.V.start Go.Proofs.Try.f62 ps62 x) = F62 N x := by kernel_rfl
theorem s62 (N : Nat) : Sound Go.Proofs.Try.prog 62 { ps := ps62, rs := rs62, f := F62 N } := by
  have hE : EnvOk Go.Proofs.Try.prog (E62) := env_ok tab62 (by
    intro p hp
    cases hp) (by
    intro p hp
    cases hp)
  have h := fn_sound hE (by kernel_rfl) Go.Proofs.Try.func62 (show Go.Proofs.Try.f62.body = some c62 by kernel_rfl) ps62 rs62 (M62) N (by
    intro o ho
    have ho : o ∈ obls (C62 N) 1 c62 := ho
    rw [ob62] at ho
    simp only [List.mem_cons, List.not_mem_nil, or_false] at ho
    rcases ho with rfl | rfl
    · exact oL62_0 N
    · exact oL62_1 N)
  have e : (fun x => Go.V.evBody (E62) Go.Proofs.Try.f62 rs62 (M62) N (Go.V.start Go.Proofs.Try.f62 ps62 x)) = F62 N := funext fun x => eF62 N x
  rw [e] at h
  exact h

end Go.Proofs.Ytkifmnocomadfaa
end

/- The reading of poundage poundageref17.Breaks. -/
section
set_option linter.unusedVariables false
set_option maxRecDepth 100000
namespace Go.Proofs.Ytkifmnocomadfaa
open Go.V

noncomputable def L32_0i : Shape := { items := [.ptr 1 0 0, .bx 0 0 t25, .tm 4 (.int .i64), .ownT 3 3 (.int .i64)], boxes := [26] }
noncomputable def L32_0o : Shape := { items := [.ownT 3 3 (.int .i64)], boxes := [] }
noncomputable def L32_0 (N : Nat) (g62 : (D25 × (Int × Unit)) → Option (Int × Unit)) : Nat → (Unit × (D25 × (Int × ((List Int) × Unit)))) → (((List Int) × Unit) → Option ((List Int) × Unit)) → Option ((List Int) × Unit)
| 0, _, _ => none
| k + 1, x1, Kx =>
cond (decide (x1.2.2.1 ≤ x1.2.1.2.2.1)) (
(g62 (x1.2.1, x1.2.2.1, ())).bind fun r2 =>
(g62 (x1.2.1, (IntKind.i64.wrap (x1.2.2.1 - (1 : Int))), ())).bind fun r3 =>
cond (r2.1 != r3.1) (
if x1.2.2.2.1.length + 1 ≤ 17592186044416 then
L32_0 N g62 k ((), x1.2.1, (IntKind.i64.wrap (x1.2.2.1 + (1 : Int))), (x1.2.2.2.1 ++ [x1.2.2.1]), ()) Kx
else none) (
L32_0 N g62 k ((), x1.2.1, (IntKind.i64.wrap (x1.2.2.1 + (1 : Int))), x1.2.2.2.1, ()) Kx)) (
Kx (x1.2.2.2.1, ()))

noncomputable def F32 (N : Nat) (g62 : (D25 × (Int × Unit)) → Option (Int × Unit)) : (D25 × Unit) → Option ((List Int) × Unit) := fun x =>
L32_0 N g62 N ((), x.1, (IntKind.i64.wrap (x.1.2.1 + (1 : Int))), [], ()) fun y4 =>
some y4

noncomputable def ps32 : List Ty := [t25]
noncomputable def rs32 : List Ty := [(.sl 3 (.int .i64))]
noncomputable def ty32 : List (TypeId × Ty) := [(3, (.int .i64)), (26, t25), (27, (.sl 3 (.int .i64))), (120, (.int .u64))]
noncomputable def by32 : List (TypeId × Nat) := [(3, 8)]
noncomputable def eq32 : List TypeId := []
noncomputable def E32 (g62 : (D25 × (Int × Unit)) → Option (Int × Unit)) : Go.V.Env := { ty := ty32, bytes := by32, fn := [(62, { ps := [t25, (.int .i64)], rs := [(.int .u64)], f := g62 })], eqs := eq32, inl := [] }
noncomputable def M32 (g62 : (D25 × (Int × Unit)) → Option (Int × Unit)) : List (Nat × Go.V.Mark (Ty.prods rs32).den) := [(116, { ins := L32_0i, outs := L32_0o, ex := some 0, f := fun N => L32_0 N g62 })]
noncomputable def C32 (N : Nat) (g62 : (D25 × (Int × Unit)) → Option (Int × Unit)) : Go.V.Ctx (Ty.prods rs32).den := { E := E32 g62, n := Go.Proofs.Try.f32.ntmps, marks := M32 g62, fin := Go.V.finish (E32 g62) Go.Proofs.Try.f32 rs32, N }
noncomputable def c32 : Code := (Go.Proofs.Try.f32.body).getD .skip

theorem tab32 : tablesB Go.Proofs.Try.prog ty32 by32 eq32 = true := by kernel_rfl
theorem oL32_0 (N : Nat) (g62 : (D25 × (Int × Unit)) → Option (Int × Unit)) : (Obl.loop { ins := L32_0i, outs := L32_0o, ex := some 0, f := fun N => L32_0 N g62 } 116 (subc [true, true, false, true, false, false] c32) : Obl (Ty.prods rs32).den).holds (C32 N g62) := by
  intro x Kx
  exact ⟨by kernel_rfl, fun k => by kernel_rfl⟩
theorem ob32 (N : Nat) (g62 : (D25 × (Int × Unit)) → Option (Int × Unit)) : obls (C32 N g62) 1 c32 = [.loop { ins := L32_0i, outs := L32_0o, ex := some 0, f := fun N => L32_0 N g62 } 116 (subc [true, true, false, true, false, false] c32)] := by kernel_rfl
theorem eF32 (N : Nat) (g62 : (D25 × (Int × Unit)) → Option (Int × Unit)) (x : (Ty.prods ps32).den) : Go.V.evBody (E32 g62) Go.Proofs.Try.f32 rs32 (M32 g62) N (Go.V.start Go.Proofs.Try.f32 ps32 x) = F32 N g62 x := by kernel_rfl
theorem s32 (N : Nat) (g62 : (D25 × (Int × Unit)) → Option (Int × Unit)) (h62 : Sound Go.Proofs.Try.prog 62 { ps := [t25, (.int .i64)], rs := [(.int .u64)], f := g62 }) : Sound Go.Proofs.Try.prog 32 { ps := ps32, rs := rs32, f := F32 N g62 } := by
  have hE : EnvOk Go.Proofs.Try.prog (E32 g62) := env_ok tab32 (by
    intro p hp
    simp only [List.mem_cons, List.not_mem_nil, or_false] at hp
    rcases hp with rfl
    · exact ⟨h62, Go.Proofs.Try.f62, Go.Proofs.Try.func62, by kernel_rfl, by kernel_rfl⟩) (by
    intro p hp
    cases hp)
  have h := fn_sound hE (by kernel_rfl) Go.Proofs.Try.func32 (show Go.Proofs.Try.f32.body = some c32 by kernel_rfl) ps32 rs32 (M32 g62) N (by
    intro o ho
    have ho : o ∈ obls (C32 N g62) 1 c32 := ho
    rw [ob32] at ho
    simp only [List.mem_cons, List.not_mem_nil, or_false] at ho
    rcases ho with rfl
    · exact oL32_0 N g62)
  have e : (fun x => Go.V.evBody (E32 g62) Go.Proofs.Try.f32 rs32 (M32 g62) N (Go.V.start Go.Proofs.Try.f32 ps32 x)) = F32 N g62 := funext fun x => eF32 N g62 x
  rw [e] at h
  exact h

end Go.Proofs.Ytkifmnocomadfaa
end
