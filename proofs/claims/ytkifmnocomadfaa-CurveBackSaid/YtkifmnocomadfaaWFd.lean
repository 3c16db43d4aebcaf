/- The reading of poundage poundageref15.Same. -/
import Derived.Test.YtkifmnocomadfaaWTy
section
set_option linter.unusedVariables false
set_option maxRecDepth 100000
namespace Go.Proofs.Ytkifmnocomadfaa
open Go.V

noncomputable def L38_0i : Shape := { items := [.ptr 2 0 0, .bx 0 0 t52, .ptr 3 1 0, .bx 1 0 t52, .tm 22 (.int .i64), .tm 23 (.int .i64)], boxes := [53, 53] }
noncomputable def L38_0o : Shape := { items := [], boxes := [] }
noncomputable def L38_0 (N : Nat) : Nat → (Unit × (D52 × (Unit × (D52 × D146)))) → (Unit → Option D159) → Option D159
| 0, _, _ => none
| k + 1, x1, Kx =>
cond (decide (x1.2.2.2.2.2.1 < x1.2.2.2.2.1)) (
if 0 ≤ x1.2.2.2.2.2.1 then
if x1.2.2.2.2.2.1 < (x1.2.1.2.1.length : Int) then
let e2 : D77 := rdAt (t := t77) x1.2.1.2.1 x1.2.2.2.2.2.1
if 0 ≤ x1.2.2.2.2.2.1 then
if x1.2.2.2.2.2.1 < (x1.2.2.2.1.2.1.length : Int) then
let e3 : D77 := rdAt (t := t77) x1.2.2.2.1.2.1 x1.2.2.2.2.2.1
cond (!(e2.1 == e3.1 && (e2.2.1 == e3.2.1 && (e2.2.2.1 == e3.2.2.1 && (e2.2.2.2.1 == e3.2.2.2.1 && (e2.2.2.2.2.1 == e3.2.2.2.2.1)))))) (
some (false, ())) (
L38_0 N k ((), x1.2.1, (), x1.2.2.2.1, x1.2.2.2.2.1, (IntKind.i64.wrap (x1.2.2.2.2.2.1 + (1 : Int))), ()) Kx)
else none
else none
else none
else none) (
Kx ())

noncomputable def F38 (N : Nat) : (D52 × (D52 × Unit)) → Option D159 := fun x =>
cond (x.1.1 != x.2.1.1) (
some (false, ())) (
cond ((x.1.2.1.length : Int) != (x.2.1.2.1.length : Int)) (
some (false, ())) (
L38_0 N N ((), x.1, (), x.2.1, (x.1.2.1.length : Int), (0 : Int), ()) fun y4 =>
some (true, ())))

noncomputable def ps38 : List Ty := [t52, t52]
noncomputable def rs38 : List Ty := [.bool]
noncomputable def ty38 : List (TypeId × Ty) := [(3, (.int .i64)), (51, (.sl 78 t77)), (53, t52), (78, t77)]
noncomputable def by38 : List (TypeId × Nat) := []
noncomputable def eq38 : List TypeId := [78]
noncomputable def E38 : Go.V.Env := { ty := ty38, bytes := by38, fn := [], eqs := eq38, inl := [] }
noncomputable def M38 : List (Nat × Go.V.Mark (Ty.prods rs38).den) := [(116, { ins := L38_0i, outs := L38_0o, ex := some 0, f := fun N => L38_0 N })]
noncomputable def C38 (N : Nat) : Go.V.Ctx (Ty.prods rs38).den := { E := E38, n := Go.Proofs.Try.f38.ntmps, marks := M38, fin := Go.V.finish (E38) Go.Proofs.Try.f38 rs38, N }
noncomputable def c38 : Code := (Go.Proofs.Try.f38.body).getD .skip

theorem tab38 : tablesB Go.Proofs.Try.prog ty38 by38 eq38 = true := by kernel_rfl
theorem oL38_0 (N : Nat) : (Obl.loop { ins := L38_0i, outs := L38_0o, ex := some 0, f := fun N => L38_0 N } 116 (subc [true, true, false, true, false, false] c38) : Obl (Ty.prods rs38).den).holds (C38 N) := by
  intro x Kx
  exact ⟨by kernel_rfl, fun k => by kernel_rfl⟩
theorem ob38 (N : Nat) : obls (C38 N) 1 c38 = [.loop { ins := L38_0i, outs := L38_0o, ex := some 0, f := fun N => L38_0 N } 116 (subc [true, true, false, true, false, false] c38)] := by kernel_rfl
theorem eF38 (N : Nat) (x : (Ty.prods ps38).den) : Go.V.evBody (E38) Go.Proofs.Try.f38 rs38 (M38) N (Go.V.start Go.Proofs.Try.f38 ps38 x) = F38 N x := by kernel_rfl
theorem s38 (N : Nat) : Sound Go.Proofs.Try.prog 38 { ps := ps38, rs := rs38, f := F38 N } := by
  have hE : EnvOk Go.Proofs.Try.prog (E38) := env_ok tab38 (by
    intro p hp
    cases hp) (by
    intro p hp
    cases hp)
  have h := fn_sound hE (by kernel_rfl) Go.Proofs.Try.func38 (show Go.Proofs.Try.f38.body = some c38 by kernel_rfl) ps38 rs38 (M38) N (by
    intro o ho
    have ho : o ∈ obls (C38 N) 1 c38 := ho
    rw [ob38] at ho
    simp only [List.mem_cons, List.not_mem_nil, or_false] at ho
    rcases ho with rfl
    · exact oL38_0 N)
  have e : (fun x => Go.V.evBody (E38) Go.Proofs.Try.f38 rs38 (M38) N (Go.V.start Go.Proofs.Try.f38 ps38 x)) = F38 N := funext fun x => eF38 N x
  rw [e] at h
  exact h

end Go.Proofs.Ytkifmnocomadfaa
end

/- The reading of poundage poundageref18.Alike. -/
section
set_option linter.unusedVariables false
set_option maxRecDepth 100000
namespace Go.Proofs.Ytkifmnocomadfaa
open Go.V

noncomputable def L13_0i : Shape := { items := [.ptr 2 0 0, .bx 0 0 t40, .ptr 3 1 0, .bx 1 0 t40, .tm 22 (.int .i64), .tm 23 (.int .i64)], boxes := [41, 41] }
noncomputable def L13_0o : Shape := { items := [], boxes := [] }
noncomputable def L13_0 (N : Nat) (g38 : (D52 × (D52 × Unit)) → Option D159) : Nat → (Unit × (D40 × (Unit × (D40 × D146)))) → (Unit → Option D159) → Option D159
| 0, _, _ => none
| k + 1, x1, Kx =>
cond (decide (x1.2.2.2.2.2.1 < x1.2.2.2.2.1)) (
if 0 ≤ x1.2.2.2.2.2.1 then
if x1.2.2.2.2.2.1 < (x1.2.1.2.2.2.1.length : Int) then
let e2 : D52 := rdAt (t := t52) x1.2.1.2.2.2.1 x1.2.2.2.2.2.1
if 0 ≤ x1.2.2.2.2.2.1 then
if x1.2.2.2.2.2.1 < (x1.2.2.2.1.2.2.2.1.length : Int) then
let e3 : D52 := rdAt (t := t52) x1.2.2.2.1.2.2.2.1 x1.2.2.2.2.2.1
(g38 (e2, e3, ())).bind fun r4 =>
cond (!r4.1) (
some (false, ())) (
L13_0 N g38 k ((), x1.2.1, (), x1.2.2.2.1, x1.2.2.2.2.1, (IntKind.i64.wrap (x1.2.2.2.2.2.1 + (1 : Int))), ()) Kx)
else none
else none
else none
else none) (
Kx ())

noncomputable def F13 (N : Nat) (g38 : (D52 × (D52 × Unit)) → Option D159) : (D40 × (D40 × Unit)) → Option D159 := fun x =>
cond (x.1.2.2.1 != x.2.1.2.2.1) (
some (false, ())) (
cond ((x.1.2.2.2.1.length : Int) != (x.2.1.2.2.2.1.length : Int)) (
some (false, ())) (
L13_0 N g38 N ((), x.1, (), x.2.1, (x.1.2.2.2.1.length : Int), (0 : Int), ()) fun y5 =>
some (true, ())))

noncomputable def ps13 : List Ty := [t40, t40]
noncomputable def rs13 : List Ty := [.bool]
noncomputable def ty13 : List (TypeId × Ty) := [(3, (.int .i64)), (39, (.sl 53 t52)), (41, t40), (53, t52)]
noncomputable def by13 : List (TypeId × Nat) := []
noncomputable def eq13 : List TypeId := []
noncomputable def E13 (g38 : (D52 × (D52 × Unit)) → Option D159) : Go.V.Env := { ty := ty13, bytes := by13, fn := [(38, { ps := [t52, t52], rs := [.bool], f := g38 })], eqs := eq13, inl := [] }
noncomputable def M13 (g38 : (D52 × (D52 × Unit)) → Option D159) : List (Nat × Go.V.Mark (Ty.prods rs13).den) := [(116, { ins := L13_0i, outs := L13_0o, ex := some 0, f := fun N => L13_0 N g38 })]
noncomputable def C13 (N : Nat) (g38 : (D52 × (D52 × Unit)) → Option D159) : Go.V.Ctx (Ty.prods rs13).den := { E := E13 g38, n := Go.Proofs.Try.f13.ntmps, marks := M13 g38, fin := Go.V.finish (E13 g38) Go.Proofs.Try.f13 rs13, N }
noncomputable def c13 : Code := (Go.Proofs.Try.f13.body).getD .skip

theorem tab13 : tablesB Go.Proofs.Try.prog ty13 by13 eq13 = true := by kernel_rfl
theorem oL13_0 (N : Nat) (g38 : (D52 × (D52 × Unit)) → Option D159) : (Obl.loop { ins := L13_0i, outs := L13_0o, ex := some 0, f := fun N => L13_0 N g38 } 116 (subc [true, true, false, true, false, false] c13) : Obl (Ty.prods rs13).den).holds (C13 N g38) := by
  intro x Kx
  exact ⟨by kernel_rfl, fun k => by kernel_rfl⟩
theorem ob13 (N : Nat) (g38 : (D52 × (D52 × Unit)) → Option D159) : obls (C13 N g38) 1 c13 = [.loop { ins := L13_0i, outs := L13_0o, ex := some 0, f := fun N => L13_0 N g38 } 116 (subc [true, true, false, true, false, false] c13)] := by kernel_rfl
theorem eF13 (N : Nat) (g38 : (D52 × (D52 × Unit)) → Option D159) (x : (Ty.prods ps13).den) : Go.V.evBody (E13 g38) Go.Proofs.Try.f13 rs13 (M13 g38) N (Go.V.start Go.Proofs.Try.f13 ps13 x) = F13 N g38 x := by kernel_rfl
theorem s13 (N : Nat) (g38 : (D52 × (D52 × Unit)) → Option D159) (h38 : Sound Go.Proofs.Try.prog 38 { ps := [t52, t52], rs := [.bool], f := g38 }) : Sound Go.Proofs.Try.prog 13 { ps := ps13, rs := rs13, f := F13 N g38 } := by
  have hE : EnvOk Go.Proofs.Try.prog (E13 g38) := env_ok tab13 (by
    intro p hp
    simp only [List.mem_cons, List.not_mem_nil, or_false] at hp
    rcases hp with rfl
    · exact ⟨h38, Go.Proofs.Try.f38, Go.Proofs.Try.func38, by kernel_rfl, by kernel_rfl⟩) (by
    intro p hp
    cases hp)
  have h := fn_sound hE (by kernel_rfl) Go.Proofs.Try.func13 (show Go.Proofs.Try.f13.body = some c13 by kernel_rfl) ps13 rs13 (M13 g38) N (by
    intro o ho
    have ho : o ∈ obls (C13 N g38) 1 c13 := ho
    rw [ob13] at ho
    simp only [List.mem_cons, List.not_mem_nil, or_false] at ho
    rcases ho with rfl
    · exact oL13_0 N g38)
  have e : (fun x => Go.V.evBody (E13 g38) Go.Proofs.Try.f13 rs13 (M13 g38) N (Go.V.start Go.Proofs.Try.f13 ps13 x)) = F13 N g38 := funext fun x => eF13 N g38 x
  rw [e] at h
  exact h

end Go.Proofs.Ytkifmnocomadfaa
end

/- The reading of poundage poundageref17.Holds. -/
section
set_option linter.unusedVariables false
set_option maxRecDepth 100000
namespace Go.Proofs.Ytkifmnocomadfaa
open Go.V

noncomputable def L62_0i : Shape := { items := [.tm 1 (.int .i64), .ptr 2 0 0, .bx 0 0 t25, .tm 5 (.int .u64), .tm 11 (.sl 110 t87), .tm 12 (.int .i64), .tm 13 (.int .i64)], boxes := [26] }
noncomputable def L62_0o : Shape := { items := [.tm 1 (.int .i64), .ptr 2 0 0, .bx 0 0 t25, .tm 5 (.int .u64)], boxes := [26] }
noncomputable def L62_0 (N : Nat) : Nat → (Int × (Unit × (D25 × (Int × ((List D87) × D146))))) → ((Int × (Unit × (D25 × (Int × Unit)))) → Option (Int × Unit)) → Option (Int × Unit)
| 0, _, _ => none
| k + 1, x1, Kx =>
cond (decide (x1.2.2.2.2.2.2.1 < x1.2.2.2.2.2.1)) (
if 0 ≤ x1.2.2.2.2.2.2.1 then
if x1.2.2.2.2.2.2.1 < (x1.2.2.2.2.1.length : Int) then
let e2 : D87 := rdAt (t := t87) x1.2.2.2.2.1 x1.2.2.2.2.2.2.1
cond (decide (e2.2.1 ≤ x1.1)) (
cond (decide (x1.1 ≤ e2.2.2.1)) (
if (IntKind.u64.wrap x1.2.2.2.2.2.2.1) < 0 then none else
let v3 := (IntKind.u64.wrap (((BitVec.ofInt IntKind.u64.bits x1.2.2.2.1 ||| BitVec.ofInt IntKind.u64.bits (IntKind.u64.wrap ((1 : Int) * 2 ^ (min ((IntKind.u64.wrap x1.2.2.2.2.2.2.1)).toNat IntKind.u64.bits)))).toNat : Int)))
L62_0 N k (x1.1, (), x1.2.2.1, v3, x1.2.2.2.2.1, x1.2.2.2.2.2.1, (IntKind.i64.wrap (x1.2.2.2.2.2.2.1 + (1 : Int))), ()) Kx) (
L62_0 N k (x1.1, (), x1.2.2.1, x1.2.2.2.1, x1.2.2.2.2.1, x1.2.2.2.2.2.1, (IntKind.i64.wrap (x1.2.2.2.2.2.2.1 + (1 : Int))), ()) Kx)) (
L62_0 N k (x1.1, (), x1.2.2.1, x1.2.2.2.1, x1.2.2.2.2.1, x1.2.2.2.2.2.1, (IntKind.i64.wrap (x1.2.2.2.2.2.2.1 + (1 : Int))), ()) Kx)
else none
else none) (
Kx (x1.1, (), x1.2.2.1, x1.2.2.2.1, ()))

noncomputable def L62_1i : Shape := { items := [.tm 1 (.int .i64), .tm 5 (.int .u64), .tm 35 (.sl 114 t113), .tm 36 (.int .i64), .tm 37 (.int .i64)], boxes := [] }
noncomputable def L62_1o : Shape := { items := [.tm 5 (.int .u64)], boxes := [] }
noncomputable def L62_1 (N : Nat) : Nat → (Int × (Int × ((List D113) × D146))) → ((Int × Unit) → Option (Int × Unit)) → Option (Int × Unit)
| 0, _, _ => none
| k + 1, x5, Kx =>
cond (decide (x5.2.2.2.2.1 < x5.2.2.2.1)) (
if 0 ≤ x5.2.2.2.2.1 then
if x5.2.2.2.2.1 < (x5.2.2.1.length : Int) then
let e6 : D113 := rdAt (t := t113) x5.2.2.1 x5.2.2.2.2.1
cond (decide (e6.2.1 ≤ x5.1)) (
cond (decide (x5.1 ≤ e6.2.2.1)) (
if (IntKind.u64.wrap x5.2.2.2.2.1) < 0 then none else
let v7 := (IntKind.u64.wrap (((BitVec.ofInt IntKind.u64.bits x5.2.1 ||| BitVec.ofInt IntKind.u64.bits (IntKind.u64.wrap ((256 : Int) * 2 ^ (min ((IntKind.u64.wrap x5.2.2.2.2.1)).toNat IntKind.u64.bits)))).toNat : Int)))
L62_1 N k (x5.1, v7, x5.2.2.1, x5.2.2.2.1, (IntKind.i64.wrap (x5.2.2.2.2.1 + (1 : Int))), ()) Kx) (
L62_1 N k (x5.1, x5.2.1, x5.2.2.1, x5.2.2.2.1, (IntKind.i64.wrap (x5.2.2.2.2.1 + (1 : Int))), ()) Kx)) (
L62_1 N k (x5.1, x5.2.1, x5.2.2.1, x5.2.2.2.1, (IntKind.i64.wrap (x5.2.2.2.2.1 + (1 : Int))), ()) Kx)
else none
else none) (
Kx (x5.2.1, ()))

noncomputable def F62 (N : Nat) : (D25 × (Int × Unit)) → Option (Int × Unit) := fun x =>
L62_0 N N (x.2.1, (), x.1, (0 : Int), x.1.2.2.2.2.1, (x.1.2.2.2.2.1.length : Int), (0 : Int), ()) fun y4 =>
L62_1 N N (y4.1, y4.2.2.2.1, y4.2.2.1.2.2.2.2.2.1, (y4.2.2.1.2.2.2.2.2.1.length : Int), (0 : Int), ()) fun y8 =>
some y8

noncomputable def ps62 : List Ty := [t25, (.int .i64)]
noncomputable def rs62 : List Ty := [(.int .u64)]
noncomputable def ty62 : List (TypeId × Ty) := [(3, (.int .i64)), (23, (.sl 110 t87)), (24, (.sl 114 t113)), (26, t25), (110, t87), (114, t113), (120, (.int .u64)), (122, (.int .u64))]
noncomputable def by62 : List (TypeId × Nat) := []
noncomputable def eq62 : List TypeId := []
noncomputable def E62 : Go.V.Env := { ty := ty62, bytes := by62, fn := [], eqs := eq62, inl := [] }
noncomputable def M62 : List (Nat × Go.V.Mark (Ty.prods rs62).den) := [(116, { ins := L62_0i, outs := L62_0o, ex := some 0, f := fun N => L62_0 N }), (244, { ins := L62_1i, outs := L62_1o, ex := some 2, f := fun N => L62_1 N })]
noncomputable def C62 (N : Nat) : Go.V.Ctx (Ty.prods rs62).den := { E := E62, n := Go.Proofs.Try.f62.ntmps, marks := M62, fin := Go.V.finish (E62) Go.Proofs.Try.f62 rs62, N }
noncomputable def c62 : Code := (Go.Proofs.Try.f62.body).getD .skip

theorem tab62 : tablesB Go.Proofs.Try.prog ty62 by62 eq62 = true := by kernel_rfl
theorem oL62_0 (N : Nat) : (Obl.loop { ins := L62_0i, outs := L62_0o, ex := some 0, f := fun N => L62_0 N } 116 (subc [true, true, false, true, false, false] c62) : Obl (Ty.prods rs62).den).holds (C62 N) := by
  intro x Kx
  exact ⟨by kernel_rfl, fun k => by kernel_rfl⟩
theorem oL62_1 (N : Nat) : (Obl.loop { ins := L62_1i, outs := L62_1o, ex := some 2, f := fun N => L62_1 N } 244 (subc [true, true, true, false, true, false, false] c62) : Obl (Ty.prods rs62).den).holds (C62 N) := by
  intro x Kx
  exact ⟨by kernel_rfl, fun k => by kernel_rfl⟩
theorem ob62 (N : Nat) : obls (C62 N) 1 c62 = [.loop { ins := L62_0i, outs := L62_0o, ex := some 0, f := fun N => L62_0 N } 116 (subc [true, true, false, true, false, false] c62), .loop { ins := L62_1i, outs := L62_1o, ex := some 2, f := fun N => L62_1 N } 244 (subc [true, true, true, false, true, false, false] c62)] := by kernel_rfl
theorem eF62 (N : Nat) (x : (Ty.prods ps62).den) : Go.V.evBody (E62) Go.Proofs.Try.f62 rs62 (M62) N (Go.V.start Go.Proofs.Try.f62 ps62 x) = F62 N x := by kernel_rfl
theorem s62 (N : Nat) : Sound Go.Proofs.Try.prog 62 { ps := ps62, rs := rs62, f := F62 N } := by
  have hE : EnvOk Go.Proofs.Try.prog (E62) := env_ok tab62 (by
    intro p hp
    cases hp) (by
    intro p hp
    cases hp)
  have h := fn_sound hE (by kernel_rfl) Go.Proofs.Try.func62 (show Go.Proofs.Try.f62.body = some c62 by kernel_rfl) ps62 rs62 (M62) N (by
    intro o ho
    have ho : o ∈ obls (C62 N) 1 c62 := ho
    rw [ob62] at ho
    simp only [List.mem_cons, List.not_mem_nil, or_false] at ho
    rcases ho with rfl | rfl
    · exact oL62_0 N
    · exact oL62_1 N)
  have e : (fun x => Go.V.evBody (E62) Go.Proofs.Try.f62 rs62 (M62) N (Go.V.start Go.Proofs.Try.f62 ps62 x)) = F62 N := funext fun x => eF62 N x
  rw [e] at h
  exact h

end Go.Proofs.Ytkifmnocomadfaa
end

/- The reading of poundage poundageref17.Breaks. -/
section
set_option linter.unusedVariables false
set_option maxRecDepth 100000
namespace Go.Proofs.Ytkifmnocomadfaa
open Go.V

noncomputable def L32_0i : Shape := { items := [.ptr 1 0 0, .bx 0 0 t25, .tm 4 (.int .i64), .ownT 3 3 (.int .i64)], boxes := [26] }
noncomputable def L32_0o : Shape := { items := [.ownT 3 3 (.int .i64)], boxes := [] }
noncomputable def L32_0 (N : Nat) (g62 : (D25 × (Int × Unit)) → Option (Int × Unit)) : Nat → (Unit × (D25 × (Int × ((List Int) × Unit)))) → (((List Int) × Unit) → Option ((List Int) × Unit)) → Option ((List Int) × Unit)
| 0, _, _ => none
| k + 1, x1, Kx =>
cond (decide (x1.2.2.1 ≤ x1.2.1.2.2.1)) (
(g62 (x1.2.1, x1.2.2.1, ())).bind fun r2 =>
(g62 (x1.2.1, (IntKind.i64.wrap (x1.2.2.1 - (1 : Int))), ())).bind fun r3 =>
cond (r2.1 != r3.1) (
if x1.2.2.2.1.length + 1 ≤ 17592186044416 then
L32_0 N g62 k ((), x1.2.1, (IntKind.i64.wrap (x1.2.2.1 + (1 : Int))), (x1.2.2.2.1 ++ [x1.2.2.1]), ()) Kx
else none) (
L32_0 N g62 k ((), x1.2.1, (IntKind.i64.wrap (x1.2.2.1 + (1 : Int))), x1.2.2.2.1, ()) Kx)) (
Kx (x1.2.2.2.1, ()))

noncomputable def F32 (N : Nat) (g62 : (D25 × (Int × Unit)) → Option (Int × Unit)) : (D25 × Unit) → Option ((List Int) × Unit) := fun x =>
L32_0 N g62 N ((), x.1, (IntKind.i64.wrap (x.1.2.1 + (1 : Int))), [], ()) fun y4 =>
some y4

noncomputable def ps32 : List Ty := [t25]
noncomputable def rs32 : List Ty := [(.sl 3 (.int .i64))]
noncomputable def ty32 : List (TypeId × Ty) := [(3, (.int .i64)), (26, t25), (27, (.sl 3 (.int .i64))), (120, (.int .u64))]
noncomputable def by32 : List (TypeId × Nat) := [(3, 8)]
noncomputable def eq32 : List TypeId := []
noncomputable def E32 (g62 : (D25 × (Int × Unit)) → Option (Int × Unit)) : Go.V.Env := { ty := ty32, bytes := by32, fn := [(62, { ps := [t25, (.int .i64)], rs := [(.int .u64)], f := g62 })], eqs := eq32, inl := [] }
noncomputable def M32 (g62 : (D25 × (Int × Unit)) → Option (Int × Unit)) : List (Nat × Go.V.Mark (Ty.prods rs32).den) := [(116, { ins := L32_0i, outs := L32_0o, ex := some 0, f := fun N => L32_0 N g62 })]
noncomputable def C32 (N : Nat) (g62 : (D25 × (Int × Unit)) → Option (Int × Unit)) : Go.V.Ctx (Ty.prods rs32).den := { E := E32 g62, n := Go.Proofs.Try.f32.ntmps, marks := M32 g62, fin := Go.V.finish (E32 g62) Go.Proofs.Try.f32 rs32, N }
noncomputable def c32 : Code := (Go.Proofs.Try.f32.body).getD .skip

theorem tab32 : tablesB Go.Proofs.Try.prog ty32 by32 eq32 = true := by kernel_rfl
theorem oL32_0 (N : Nat) (g62 : (D25 × (Int × Unit)) → Option (Int × Unit)) : (Obl.loop { ins := L32_0i, outs := L32_0o, ex := some 0, f := fun N => L32_0 N g62 } 116 (subc [true, true, false, true, false, false] c32) : Obl (Ty.prods rs32).den).holds (C32 N g62) := by
  intro x Kx
  exact ⟨by kernel_rfl, fun k => by kernel_rfl⟩
theorem ob32 (N : Nat) (g62 : (D25 × (Int × Unit)) → Option (Int × Unit)) : obls (C32 N g62) 1 c32 = [.loop { ins := L32_0i, outs := L32_0o, ex := some 0, f := fun N => L32_0 N g62 } 116 (subc [true, true, false, true, false, false] c32)] := by kernel_rfl
theorem eF32 (N : Nat) (g62 : (D25 × (Int × Unit)) → Option (Int × Unit)) (x : (Ty.prods ps32).den) : Go.V.evBody (E32 g62) Go.Proofs.Try.f32 rs32 (M32 g62) N (Go.V.start Go.Proofs.Try.f32 ps32 x) = F32 N g62 x := by kernel_rfl
theorem s32 (N : Nat) (g62 : (D25 × (Int × Unit)) → Option (Int × Unit)) (h62 : Sound Go.Proofs.Try.prog 62 { ps := [t25, (.int .i64)], rs := [(.int .u64)], f := g62 }) : Sound Go.Proofs.Try.prog 32 { ps := ps32, rs := rs32, f := F32 N g62 } := by
  have hE : EnvOk Go.Proofs.Try.prog (E32 g62) := env_ok tab32 (by
    intro p hp
    simp only [List.mem_cons, List.not_mem_nil, or_false] at hp
    rcases hp with rfl
    · exact ⟨h62, Go.Proofs.Try.f62, Go.Proofs.Try.func62, by kernel_rfl, by kernel_rfl⟩) (by
    intro p hp
    cases hp)
  have h := fn_sound hE (by kernel_rfl) Go.Proofs.Try.func32 (show Go.Proofs.Try.f32.body = some c32 by kernel_rfl) ps32 rs32 (M32 g62) N (by
    intro o ho
    have ho : o ∈ obls (C32 N g62) 1 c32 := ho
    rw [ob32] at ho
    simp only [List.mem_cons, List.not_mem_nil, or_false] at ho
    rcases ho with rfl
    · exact oL32_0 N g62)
  have e : (fun x => Go.V.evBody (E32 g62) Go.Proofs.Try.f32 rs32 (M32 g62) N (Go.V.start Go.Proofs.Try.f32 ps32 x)) = F32 N g62 := funext fun x => eF32 N g62 x
  rw [e] at h
  exact h

end Go.Proofs.Ytkifmnocomadfaa
end

/- The reading of poundage poundageref15.Of. -/
section
set_option linter.unusedVariables false
set_option maxRecDepth 100000
namespace Go.Proofs.Ytkifmnocomadfaa
open Go.V

noncomputable def L48_0i : Shape := { items := [.tm 0 (.sl 3 (.int .i64)), .ptr 2 0 0, .bx 0 0 (.int .i64), .tm 19 (.sl 3 (.int .i64)), .tm 20 (.int .i64), .tm 21 (.int .i64), .ownB 0 1 78 t77, .ownT 4 3 (.int .i64)], boxes := [53] }
noncomputable def L48_0o : Shape := { items := [.tm 0 (.sl 3 (.int .i64)), .ptr 2 0 0, .bx 0 0 (.int .i64), .ownB 0 1 78 t77, .ownT 4 3 (.int .i64)], boxes := [53] }
noncomputable def L48_0 (N : Nat) : Nat → ((List Int) × (Unit × (Int × ((List Int) × (Int × (Int × ((List D77) × ((List Int) × Unit)))))))) → (((List Int) × (Unit × (Int × ((List D77) × ((List Int) × Unit))))) → Option (D52 × D159)) → Option (D52 × D159)
| 0, _, _ => none
| k + 1, x1, Kx =>
cond (decide (x1.2.2.2.2.2.1 < x1.2.2.2.2.1)) (
if 0 ≤ x1.2.2.2.2.2.1 then
if x1.2.2.2.2.2.1 < (x1.2.2.2.1.length : Int) then
let v2 := (rdAt (t := (.int .i64)) x1.2.2.2.1 x1.2.2.2.2.2.1)
cond (decide (v2 > (2305843009213693952 : Int))) (
some (((0 : Int), [], ()), false, ())) (
cond (decide (v2 < (-2305843009213693952 : Int))) (
some (((0 : Int), [], ()), false, ())) (
cond (x1.2.2.2.2.2.1 == (0 : Int)) (
if x1.2.2.2.2.2.2.2.1.length + 1 ≤ 17592186044416 then
L48_0 N k (x1.1, (), x1.2.2.1, x1.2.2.2.1, x1.2.2.2.2.1, (IntKind.i64.wrap (x1.2.2.2.2.2.1 + (1 : Int))), x1.2.2.2.2.2.2.1, (x1.2.2.2.2.2.2.2.1 ++ [x1.2.2.2.2.2.1]), ()) Kx
else none) (
if 0 ≤ (IntKind.i64.wrap (x1.2.2.2.2.2.1 - (1 : Int))) then
if (IntKind.i64.wrap (x1.2.2.2.2.2.1 - (1 : Int))) < (x1.1.length : Int) then
cond ((rdAt (t := (.int .i64)) x1.1 (IntKind.i64.wrap (x1.2.2.2.2.2.1 - (1 : Int)))) != v2) (
if x1.2.2.2.2.2.2.2.1.length + 1 ≤ 17592186044416 then
L48_0 N k (x1.1, (), x1.2.2.1, x1.2.2.2.1, x1.2.2.2.2.1, (IntKind.i64.wrap (x1.2.2.2.2.2.1 + (1 : Int))), x1.2.2.2.2.2.2.1, (x1.2.2.2.2.2.2.2.1 ++ [x1.2.2.2.2.2.1]), ()) Kx
else none) (
L48_0 N k (x1.1, (), x1.2.2.1, x1.2.2.2.1, x1.2.2.2.2.1, (IntKind.i64.wrap (x1.2.2.2.2.2.1 + (1 : Int))), x1.2.2.2.2.2.2.1, x1.2.2.2.2.2.2.2.1, ()) Kx)
else none
else none)))
else none
else none) (
Kx (x1.1, (), x1.2.2.1, x1.2.2.2.2.2.2.1, x1.2.2.2.2.2.2.2.1, ()))

noncomputable def L48_2i : Shape := { items := [.tm 0 (.sl 3 (.int .i64)), .ptr 2 0 0, .bx 0 0 (.int .i64), .ptr 7 1 0, .bx 1 0 (.int .i64), .tm 8 (.int .i64), .ptr 9 2 0, .bx 2 0 t77, .ownB 0 1 78 t77, .ownT 4 3 (.int .i64), .ownB 1 1 78 t77], boxes := [53, 53, 78] }
noncomputable def L48_2o : Shape := { items := [.tm 0 (.sl 3 (.int .i64)), .ptr 2 0 0, .bx 0 0 (.int .i64), .ptr 7 1 0, .bx 1 0 (.int .i64), .tm 8 (.int .i64), .ptr 9 2 0, .bx 2 0 t77, .ownB 0 1 78 t77, .ownT 4 3 (.int .i64), .ownB 1 1 78 t77], boxes := [53, 53, 78] }
noncomputable def L48_2 (N : Nat) : Nat → ((List Int) × (Unit × (Int × (Unit × (Int × (Int × (Unit × (D77 × ((List D77) × ((List Int) × ((List D77) × Unit))))))))))) → (((List Int) × (Unit × (Int × (Unit × (Int × (Int × (Unit × (D77 × ((List D77) × ((List Int) × ((List D77) × Unit))))))))))) → Option (D52 × D159)) → Option (D52 × D159)
| 0, _, _ => none
| k + 1, x11, Kx =>
cond (decide ((IntKind.i64.wrap (x11.2.2.2.2.2.1 + x11.2.2.2.2.2.2.2.1.2.2.2.2.1)) < (x11.2.2.2.2.2.2.2.2.2.1.length : Int))) (
let v12 := (IntKind.i64.wrap (x11.2.2.2.2.2.1 + x11.2.2.2.2.2.2.2.1.2.2.2.2.1))
if 0 ≤ v12 then
if v12 < (x11.2.2.2.2.2.2.2.2.2.1.length : Int) then
cond ((rdAt (t := (.int .i64)) x11.2.2.2.2.2.2.2.2.2.1 v12) == (IntKind.i64.wrap (x11.2.2.2.2.2.2.2.1.1 + (IntKind.i64.wrap (x11.2.2.2.2.2.2.2.1.2.2.2.2.1 * x11.2.2.2.2.2.2.2.1.2.2.1))))) (
let v13 := (IntKind.i64.wrap (x11.2.2.2.2.2.1 + x11.2.2.2.2.2.2.2.1.2.2.2.2.1))
if 0 ≤ v13 then
if v13 < (x11.2.2.2.2.2.2.2.2.2.1.length : Int) then
let v14 := (rdAt (t := (.int .i64)) x11.2.2.2.2.2.2.2.2.2.1 v13)
if 0 ≤ v14 then
if v14 < (x11.1.length : Int) then
let v15 := (IntKind.i64.wrap ((IntKind.i64.wrap (x11.2.2.2.2.2.1 + x11.2.2.2.2.2.2.2.1.2.2.2.2.1)) - (1 : Int)))
if 0 ≤ v15 then
if v15 < (x11.2.2.2.2.2.2.2.2.2.1.length : Int) then
let v16 := (rdAt (t := (.int .i64)) x11.2.2.2.2.2.2.2.2.2.1 v15)
if 0 ≤ v16 then
if v16 < (x11.1.length : Int) then
cond ((rdAt (t := (.int .i64)) x11.1 v14) == (IntKind.i64.wrap ((rdAt (t := (.int .i64)) x11.1 v16) + x11.2.2.2.2.2.2.2.1.2.2.2.1))) (
let v17 := (IntKind.i64.wrap (x11.2.2.2.2.2.2.2.1.2.2.2.2.1 + (1 : Int)))
L48_2 N k (x11.1, (), x11.2.2.1, (), x11.2.2.2.2.1, x11.2.2.2.2.2.1, (), (x11.2.2.2.2.2.2.2.1.1, x11.2.2.2.2.2.2.2.1.2.1, x11.2.2.2.2.2.2.2.1.2.2.1, x11.2.2.2.2.2.2.2.1.2.2.2.1, v17, ()), x11.2.2.2.2.2.2.2.2.1, x11.2.2.2.2.2.2.2.2.2.1, x11.2.2.2.2.2.2.2.2.2.2.1, ()) Kx) (
Kx (x11.1, (), x11.2.2.1, (), x11.2.2.2.2.1, x11.2.2.2.2.2.1, (), x11.2.2.2.2.2.2.2.1, x11.2.2.2.2.2.2.2.2.1, x11.2.2.2.2.2.2.2.2.2.1, x11.2.2.2.2.2.2.2.2.2.2.1, ()))
else none
else none
else none
else none
else none
else none
else none
else none) (
Kx (x11.1, (), x11.2.2.1, (), x11.2.2.2.2.1, x11.2.2.2.2.2.1, (), x11.2.2.2.2.2.2.2.1, x11.2.2.2.2.2.2.2.2.1, x11.2.2.2.2.2.2.2.2.2.1, x11.2.2.2.2.2.2.2.2.2.2.1, ()))
else none
else none) (
Kx (x11.1, (), x11.2.2.1, (), x11.2.2.2.2.1, x11.2.2.2.2.2.1, (), x11.2.2.2.2.2.2.2.1, x11.2.2.2.2.2.2.2.2.1, x11.2.2.2.2.2.2.2.2.2.1, x11.2.2.2.2.2.2.2.2.2.2.1, ()))

noncomputable def L48_1i : Shape := { items := [.tm 0 (.sl 3 (.int .i64)), .ptr 2 0 0, .bx 0 0 (.int .i64), .ptr 7 1 0, .bx 1 0 (.int .i64), .tm 8 (.int .i64), .ownB 0 1 78 t77, .ownT 4 3 (.int .i64), .ownB 1 1 78 t77], boxes := [53, 53] }
noncomputable def L48_1o : Shape := { items := [.ptr 2 0 0, .bx 0 0 (.int .i64), .ptr 7 1 0, .bx 1 0 (.int .i64), .ownB 0 1 78 t77, .ownB 1 1 78 t77], boxes := [53, 53] }
noncomputable def L48_1 (N : Nat) : Nat → ((List Int) × (Unit × (Int × (Unit × (Int × (Int × ((List D77) × ((List Int) × ((List D77) × Unit))))))))) → ((Unit × (Int × (Unit × (Int × ((List D77) × ((List D77) × Unit)))))) → Option (D52 × D159)) → Option (D52 × D159)
| 0, _, _ => none
| k + 1, x5, Kx =>
cond (decide (x5.2.2.2.2.2.1 < (x5.2.2.2.2.2.2.2.1.length : Int))) (
if 0 ≤ x5.2.2.2.2.2.1 then
if x5.2.2.2.2.2.1 < (x5.2.2.2.2.2.2.2.1.length : Int) then
if 0 ≤ x5.2.2.2.2.2.1 then
if x5.2.2.2.2.2.1 < (x5.2.2.2.2.2.2.2.1.length : Int) then
let v6 := (rdAt (t := (.int .i64)) x5.2.2.2.2.2.2.2.1 x5.2.2.2.2.2.1)
if 0 ≤ v6 then
if v6 < (x5.1.length : Int) then
let v7 := (rdAt (t := (.int .i64)) x5.2.2.2.2.2.2.2.1 x5.2.2.2.2.2.1)
cond (decide ((IntKind.i64.wrap (x5.2.2.2.2.2.1 + (1 : Int))) < (x5.2.2.2.2.2.2.2.1.length : Int))) (
if 0 ≤ (IntKind.i64.wrap (x5.2.2.2.2.2.1 + (1 : Int))) then
if (IntKind.i64.wrap (x5.2.2.2.2.2.1 + (1 : Int))) < (x5.2.2.2.2.2.2.2.1.length : Int) then
if 0 ≤ x5.2.2.2.2.2.1 then
if x5.2.2.2.2.2.1 < (x5.2.2.2.2.2.2.2.1.length : Int) then
let v8 := (IntKind.i64.wrap ((rdAt (t := (.int .i64)) x5.2.2.2.2.2.2.2.1 (IntKind.i64.wrap (x5.2.2.2.2.2.1 + (1 : Int)))) - (rdAt (t := (.int .i64)) x5.2.2.2.2.2.2.2.1 x5.2.2.2.2.2.1)))
if 0 ≤ (IntKind.i64.wrap (x5.2.2.2.2.2.1 + (1 : Int))) then
if (IntKind.i64.wrap (x5.2.2.2.2.2.1 + (1 : Int))) < (x5.2.2.2.2.2.2.2.1.length : Int) then
let v9 := (rdAt (t := (.int .i64)) x5.2.2.2.2.2.2.2.1 (IntKind.i64.wrap (x5.2.2.2.2.2.1 + (1 : Int))))
if 0 ≤ v9 then
if v9 < (x5.1.length : Int) then
let v10 := (IntKind.i64.wrap ((rdAt (t := (.int .i64)) x5.1 v9) - (rdAt (t := (.int .i64)) x5.1 v6)))
L48_2 N N (x5.1, (), x5.2.2.1, (), x5.2.2.2.2.1, x5.2.2.2.2.2.1, (), (v7, (rdAt (t := (.int .i64)) x5.1 v6), v8, v10, (2 : Int), ()), x5.2.2.2.2.2.2.1, x5.2.2.2.2.2.2.2.1, x5.2.2.2.2.2.2.2.2.1, ()) fun y18 =>
if y18.2.2.2.2.2.2.2.2.2.2.1.length + 1 ≤ 3518437208883 then
let v19 := (IntKind.i64.wrap (y18.2.2.2.2.2.1 + y18.2.2.2.2.2.2.2.1.2.2.2.2.1))
L48_1 N k (y18.1, (), y18.2.2.1, (), y18.2.2.2.2.1, v19, y18.2.2.2.2.2.2.2.2.1, y18.2.2.2.2.2.2.2.2.2.1, (y18.2.2.2.2.2.2.2.2.2.2.1 ++ [y18.2.2.2.2.2.2.2.1]), ()) Kx
else none
else none
else none
else none
else none
else none
else none
else none
else none) (
if x5.2.2.2.2.2.2.2.2.1.length + 1 ≤ 3518437208883 then
let v20 := (x5.2.2.2.2.2.2.2.2.1 ++ [(v7, (rdAt (t := (.int .i64)) x5.1 v6), (0 : Int), (0 : Int), (1 : Int), ())])
L48_1 N k (x5.1, (), x5.2.2.1, (), x5.2.2.2.2.1, (IntKind.i64.wrap (x5.2.2.2.2.2.1 + (1 : Int))), x5.2.2.2.2.2.2.1, x5.2.2.2.2.2.2.2.1, v20, ()) Kx
else none)
else none
else none
else none
else none
else none
else none) (
Kx ((), x5.2.2.1, (), x5.2.2.2.2.1, x5.2.2.2.2.2.2.1, x5.2.2.2.2.2.2.2.2.1, ()))

noncomputable def F48 (N : Nat) : ((List Int) × Unit) → Option (D52 × D159) := fun x =>
cond ((x.1.length : Int) == (0 : Int)) (
some (((0 : Int), [], ()), false, ())) (
cond (decide ((x.1.length : Int) > (2001 : Int))) (
some (((0 : Int), [], ()), false, ())) (
L48_0 N N (x.1, (), (0 : Int), x.1, (x.1.length : Int), (0 : Int), [], [], ()) fun y3 =>
let v4 := (IntKind.i64.wrap ((y3.1.length : Int) - (1 : Int)))
L48_1 N N (y3.1, (), y3.2.2.1, (), v4, (0 : Int), y3.2.2.2.1, y3.2.2.2.2.1, [], ()) fun y21 =>
some ((y21.2.2.2.1, y21.2.2.2.2.2), true, ())))

noncomputable def ps48 : List Ty := [(.sl 3 (.int .i64))]
noncomputable def rs48 : List Ty := [t52, .bool]
noncomputable def ty48 : List (TypeId × Ty) := [(3, (.int .i64)), (27, (.sl 3 (.int .i64))), (51, (.sl 78 t77)), (53, t52), (78, t77)]
noncomputable def by48 : List (TypeId × Nat) := [(3, 8), (78, 40)]
noncomputable def eq48 : List TypeId := []
noncomputable def E48 : Go.V.Env := { ty := ty48, bytes := by48, fn := [], eqs := eq48, inl := [] }
noncomputable def M48 : List (Nat × Go.V.Mark (Ty.prods rs48).den) := [(244, { ins := L48_0i, outs := L48_0o, ex := some 0, f := fun N => L48_0 N }), (2073948, { ins := L48_2i, outs := L48_2o, ex := some 4, f := fun N => L48_2 N }), (1012, { ins := L48_1i, outs := L48_1o, ex := some 2, f := fun N => L48_1 N })]
noncomputable def C48 (N : Nat) : Go.V.Ctx (Ty.prods rs48).den := { E := E48, n := Go.Proofs.Try.f48.ntmps, marks := M48, fin := Go.V.finish (E48) Go.Proofs.Try.f48 rs48, N }
noncomputable def c48 : Code := (Go.Proofs.Try.f48.body).getD .skip

theorem tab48 : tablesB Go.Proofs.Try.prog ty48 by48 eq48 = true := by kernel_rfl
theorem oL48_0 (N : Nat) : (Obl.loop { ins := L48_0i, outs := L48_0o, ex := some 0, f := fun N => L48_0 N } 244 (subc [true, true, true, false, true, false, false] c48) : Obl (Ty.prods rs48).den).holds (C48 N) := by
  intro x Kx
  exact ⟨by kernel_rfl, fun k => by kernel_rfl⟩
theorem oL48_1 (N : Nat) : (Obl.loop { ins := L48_1i, outs := L48_1o, ex := some 2, f := fun N => L48_1 N } 1012 (subc [true, true, true, true, true, false, true, false, false] c48) : Obl (Ty.prods rs48).den).holds (C48 N) := by
  intro x Kx
  exact ⟨by kernel_rfl, fun k => by kernel_rfl⟩
theorem oL48_2 (N : Nat) : (Obl.loop { ins := L48_2i, outs := L48_2o, ex := some 4, f := fun N => L48_2 N } 2073948 (subc [true, true, true, true, true, false, true, false, false, true, false, true, false, true, false, true, true, true, false, false] c48) : Obl (Ty.prods rs48).den).holds (C48 N) := by
  intro x Kx
  exact ⟨by kernel_rfl, fun k => by kernel_rfl⟩
theorem ob48 (N : Nat) : obls (C48 N) 1 c48 = [.loop { ins := L48_0i, outs := L48_0o, ex := some 0, f := fun N => L48_0 N } 244 (subc [true, true, true, false, true, false, false] c48), .loop { ins := L48_1i, outs := L48_1o, ex := some 2, f := fun N => L48_1 N } 1012 (subc [true, true, true, true, true, false, true, false, false] c48), .loop { ins := L48_2i, outs := L48_2o, ex := some 4, f := fun N => L48_2 N } 2073948 (subc [true, true, true, true, true, false, true, false, false, true, false, true, false, true, false, true, true, true, false, false] c48)] := by kernel_rfl
theorem eF48 (N : Nat) (x : (Ty.prods ps48).den) : Go.V.evBody (E48) Go.Proofs.Try.f48 rs48 (M48) N (Go.V.start Go.Proofs.Try.f48 ps48 x) = F48 N x := by kernel_rfl
theorem s48 (N : Nat) : Sound Go.Proofs.Try.prog 48 { ps := ps48, rs := rs48, f := F48 N } := by
  have hE : EnvOk Go.Proofs.Try.prog (E48) := env_ok tab48 (by
    intro p hp
    cases hp) (by
    intro p hp
    cases hp)
  have h := fn_sound hE (by kernel_rfl) Go.Proofs.Try.func48 (show Go.Proofs.Try.f48.body = some c48 by kernel_rfl) ps48 rs48 (M48) N (by
    intro o ho
    have ho : o ∈ obls (C48 N) 1 c48 := ho
    rw [ob48] at ho
    simp only [List.mem_cons, List.not_mem_nil, or_false] at ho
    rcases ho with rfl | rfl | rfl
    · exact oL48_0 N
    · exact oL48_1 N
    · exact oL48_2 N)
  have e : (fun x => Go.V.evBody (E48) Go.Proofs.Try.f48 rs48 (M48) N (Go.V.start Go.Proofs.Try.f48 ps48 x)) = F48 N := funext fun x => eF48 N x
  rw [e] at h
  exact h

end Go.Proofs.Ytkifmnocomadfaa
end

/- The reading of poundage poundageref18.Day. -/
section
set_option linter.unusedVariables false
set_option maxRecDepth 100000
namespace Go.Proofs.Ytkifmnocomadfaa
open Go.V

noncomputable def L33_0i : Shape := { items := [.tm 1 (.int .i64), .ptr 2 0 0, .bx 0 0 t25, .ptr 4 1 0, .bx 1 0 (.int .i64), .bx 1 1 (.int .i64), .bx 1 2 (.int .i64), .ptr 5 2 0, .bx 2 0 (.int .i64), .bx 2 1 (.int .i64), .bx 2 2 (.int .i64), .tm 24 (.sl 110 t87), .tm 25 (.int .i64), .tm 26 (.int .i64), .ownB 1 3 53 t52, .ownB 2 3 53 t52], boxes := [26, 41, 41] }
noncomputable def L33_0o : Shape := { items := [.tm 1 (.int .i64), .ptr 2 0 0, .bx 0 0 t25, .ptr 4 1 0, .bx 1 0 (.int .i64), .bx 1 1 (.int .i64), .bx 1 2 (.int .i64), .ptr 5 2 0, .bx 2 0 (.int .i64), .bx 2 1 (.int .i64), .bx 2 2 (.int .i64), .ownB 1 3 53 t52, .ownB 2 3 53 t52], boxes := [26, 41, 41] }
noncomputable def L33_0 (N : Nat) (g48 : ((List Int) × Unit) → Option (D52 × D159)) (g57 : (D113 × (Int × Unit)) → Option (Int × D159)) : Nat → (Int × (Unit × (D25 × (Unit × (Int × (Int × (Int × (Unit × (Int × (Int × (Int × ((List D87) × (Int × (Int × ((List D52) × ((List D52) × Unit)))))))))))))))) → ((Int × (Unit × (D25 × (Unit × (Int × (Int × (Int × (Unit × (Int × (Int × (Int × ((List D52) × ((List D52) × Unit))))))))))))) → Option (D40 × Unit)) → Option (D40 × Unit)
| 0, _, _ => none
| k + 1, x1, Kx =>
cond (decide (x1.2.2.2.2.2.2.2.2.2.2.2.2.2.1 < x1.2.2.2.2.2.2.2.2.2.2.2.2.1)) (
if 0 ≤ x1.2.2.2.2.2.2.2.2.2.2.2.2.2.1 then
if x1.2.2.2.2.2.2.2.2.2.2.2.2.2.1 < (x1.2.2.2.2.2.2.2.2.2.2.2.1.length : Int) then
let e2 : D87 := rdAt (t := t87) x1.2.2.2.2.2.2.2.2.2.2.2.1 x1.2.2.2.2.2.2.2.2.2.2.2.2.2.1
cond (decide (e2.2.1 ≤ x1.1)) (
cond (decide (x1.1 ≤ e2.2.2.1)) (
let v3 := (IntKind.i64.wrap (x1.2.2.2.2.2.2.2.2.2.2.1 + e2.1))
L33_0 N g48 g57 k (x1.1, (), x1.2.2.1, (), x1.2.2.2.2.1, x1.2.2.2.2.2.1, x1.2.2.2.2.2.2.1, (), x1.2.2.2.2.2.2.2.2.1, x1.2.2.2.2.2.2.2.2.2.1, v3, x1.2.2.2.2.2.2.2.2.2.2.2.1, x1.2.2.2.2.2.2.2.2.2.2.2.2.1, (IntKind.i64.wrap (x1.2.2.2.2.2.2.2.2.2.2.2.2.2.1 + (1 : Int))), x1.2.2.2.2.2.2.2.2.2.2.2.2.2.2.1, x1.2.2.2.2.2.2.2.2.2.2.2.2.2.2.2.1, ()) Kx) (
L33_0 N g48 g57 k (x1.1, (), x1.2.2.1, (), x1.2.2.2.2.1, x1.2.2.2.2.2.1, x1.2.2.2.2.2.2.1, (), x1.2.2.2.2.2.2.2.2.1, x1.2.2.2.2.2.2.2.2.2.1, x1.2.2.2.2.2.2.2.2.2.2.1, x1.2.2.2.2.2.2.2.2.2.2.2.1, x1.2.2.2.2.2.2.2.2.2.2.2.2.1, (IntKind.i64.wrap (x1.2.2.2.2.2.2.2.2.2.2.2.2.2.1 + (1 : Int))), x1.2.2.2.2.2.2.2.2.2.2.2.2.2.2.1, x1.2.2.2.2.2.2.2.2.2.2.2.2.2.2.2.1, ()) Kx)) (
L33_0 N g48 g57 k (x1.1, (), x1.2.2.1, (), x1.2.2.2.2.1, x1.2.2.2.2.2.1, x1.2.2.2.2.2.2.1, (), x1.2.2.2.2.2.2.2.2.1, x1.2.2.2.2.2.2.2.2.2.1, x1.2.2.2.2.2.2.2.2.2.2.1, x1.2.2.2.2.2.2.2.2.2.2.2.1, x1.2.2.2.2.2.2.2.2.2.2.2.2.1, (IntKind.i64.wrap (x1.2.2.2.2.2.2.2.2.2.2.2.2.2.1 + (1 : Int))), x1.2.2.2.2.2.2.2.2.2.2.2.2.2.2.1, x1.2.2.2.2.2.2.2.2.2.2.2.2.2.2.2.1, ()) Kx)
else none
else none) (
Kx (x1.1, (), x1.2.2.1, (), x1.2.2.2.2.1, x1.2.2.2.2.2.1, x1.2.2.2.2.2.2.1, (), x1.2.2.2.2.2.2.2.2.1, x1.2.2.2.2.2.2.2.2.2.1, x1.2.2.2.2.2.2.2.2.2.2.1, x1.2.2.2.2.2.2.2.2.2.2.2.2.2.2.1, x1.2.2.2.2.2.2.2.2.2.2.2.2.2.2.2.1, ()))

noncomputable def L33_3i : Shape := { items := [.tm 1 (.int .i64), .ptr 2 0 0, .bx 0 0 t25, .ptr 4 1 0, .bx 1 0 (.int .i64), .bx 1 1 (.int .i64), .bx 1 2 (.int .i64), .ptr 5 2 0, .bx 2 0 (.int .i64), .bx 2 1 (.int .i64), .bx 2 2 (.int .i64), .tm 8 (.int .i64), .ptr 12 3 0, .bx 3 0 t113, .tm 13 (.int .i64), .tm 48 (.sl 68 t67), .tm 49 (.int .i64), .tm 50 (.int .i64), .tm 60 (.sl 114 t113), .tm 61 (.int .i64), .tm 62 (.int .i64), .tm 93 (.int .i64), .tm 94 (.int .i64), .ownB 1 3 53 t52, .ownB 2 3 53 t52, .ownT 10 3 (.int .i64)], boxes := [26, 41, 41, 114] }
noncomputable def L33_3o : Shape := { items := [.tm 1 (.int .i64), .ptr 2 0 0, .bx 0 0 t25, .ptr 4 1 0, .bx 1 0 (.int .i64), .bx 1 1 (.int .i64), .bx 1 2 (.int .i64), .ptr 5 2 0, .bx 2 0 (.int .i64), .bx 2 1 (.int .i64), .bx 2 2 (.int .i64), .tm 8 (.int .i64), .tm 48 (.sl 68 t67), .tm 49 (.int .i64), .tm 50 (.int .i64), .tm 60 (.sl 114 t113), .tm 61 (.int .i64), .tm 62 (.int .i64), .ownB 1 3 53 t52, .ownB 2 3 53 t52, .ownT 10 3 (.int .i64)], boxes := [26, 41, 41] }
noncomputable def L33_3 (N : Nat) (g48 : ((List Int) × Unit) → Option (D52 × D159)) (g57 : (D113 × (Int × Unit)) → Option (Int × D159)) : Nat → (Int × (Unit × (D25 × (Unit × (Int × (Int × (Int × (Unit × (Int × (Int × (Int × (Int × (Unit × (D113 × (Int × ((List D67) × (Int × (Int × ((List D113) × (Int × (Int × (Int × (Int × ((List D52) × ((List D52) × ((List Int) × Unit)))))))))))))))))))))))))) → ((Int × (Unit × (D25 × (Unit × (Int × (Int × (Int × (Unit × (Int × (Int × (Int × (Int × ((List D67) × (Int × (Int × ((List D113) × (Int × (Int × ((List D52) × ((List D52) × ((List Int) × Unit))))))))))))))))))))) → Option (D40 × Unit)) → Option (D40 × Unit)
| 0, _, _ => none
| k + 1, x11, Kx =>
cond (decide (x11.2.2.2.2.2.2.2.2.2.2.2.2.2.2.2.2.2.2.2.2.2.2.1 < x11.2.2.2.2.2.2.2.2.2.2.2.2.2.2.2.2.2.2.2.2.2.1)) (
(g57 (x11.2.2.2.2.2.2.2.2.2.2.2.2.2.1, x11.2.2.2.2.2.2.2.2.2.2.2.2.2.2.2.2.2.2.2.2.2.2.1, ())).bind fun r12 =>
if 0 ≤ x11.2.2.2.2.2.2.2.2.2.2.2.2.2.2.2.2.2.2.2.2.2.2.1 then
if x11.2.2.2.2.2.2.2.2.2.2.2.2.2.2.2.2.2.2.2.2.2.2.1 < (x11.2.2.2.2.2.2.2.2.2.2.2.2.2.2.2.2.2.2.2.2.2.2.2.2.2.1.length : Int) then
if 0 ≤ x11.2.2.2.2.2.2.2.2.2.2.2.2.2.2.2.2.2.2.2.2.2.2.1 then
if x11.2.2.2.2.2.2.2.2.2.2.2.2.2.2.2.2.2.2.2.2.2.2.1 < (x11.2.2.2.2.2.2.2.2.2.2.2.2.2.2.2.2.2.2.2.2.2.2.2.2.2.1.length : Int) then
let v13 := (IntKind.i64.wrap ((IntKind.i64.wrap ((rdAt (t := (.int .i64)) x11.2.2.2.2.2.2.2.2.2.2.2.2.2.2.2.2.2.2.2.2.2.2.2.2.2.1 x11.2.2.2.2.2.2.2.2.2.2.2.2.2.2.2.2.2.2.2.2.2.2.1) + r12.1)) - x11.2.2.2.2.2.2.2.2.2.2.2.2.2.2.1))
L33_3 N g48 g57 k (x11.1, (), x11.2.2.1, (), x11.2.2.2.2.1, x11.2.2.2.2.2.1, x11.2.2.2.2.2.2.1, (), x11.2.2.2.2.2.2.2.2.1, x11.2.2.2.2.2.2.2.2.2.1, x11.2.2.2.2.2.2.2.2.2.2.1, x11.2.2.2.2.2.2.2.2.2.2.2.1, (), x11.2.2.2.2.2.2.2.2.2.2.2.2.2.1, x11.2.2.2.2.2.2.2.2.2.2.2.2.2.2.1, x11.2.2.2.2.2.2.2.2.2.2.2.2.2.2.2.1, x11.2.2.2.2.2.2.2.2.2.2.2.2.2.2.2.2.1, x11.2.2.2.2.2.2.2.2.2.2.2.2.2.2.2.2.2.1, x11.2.2.2.2.2.2.2.2.2.2.2.2.2.2.2.2.2.2.1, x11.2.2.2.2.2.2.2.2.2.2.2.2.2.2.2.2.2.2.2.1, x11.2.2.2.2.2.2.2.2.2.2.2.2.2.2.2.2.2.2.2.2.1, x11.2.2.2.2.2.2.2.2.2.2.2.2.2.2.2.2.2.2.2.2.2.1, (IntKind.i64.wrap (x11.2.2.2.2.2.2.2.2.2.2.2.2.2.2.2.2.2.2.2.2.2.2.1 + (1 : Int))), x11.2.2.2.2.2.2.2.2.2.2.2.2.2.2.2.2.2.2.2.2.2.2.2.1, x11.2.2.2.2.2.2.2.2.2.2.2.2.2.2.2.2.2.2.2.2.2.2.2.2.1, (x11.2.2.2.2.2.2.2.2.2.2.2.2.2.2.2.2.2.2.2.2.2.2.2.2.2.1.set (x11.2.2.2.2.2.2.2.2.2.2.2.2.2.2.2.2.2.2.2.2.2.2.1).toNat v13), ()) Kx
else none
else none
else none
else none) (
Kx (x11.1, (), x11.2.2.1, (), x11.2.2.2.2.1, x11.2.2.2.2.2.1, x11.2.2.2.2.2.2.1, (), x11.2.2.2.2.2.2.2.2.1, x11.2.2.2.2.2.2.2.2.2.1, x11.2.2.2.2.2.2.2.2.2.2.1, x11.2.2.2.2.2.2.2.2.2.2.2.1, x11.2.2.2.2.2.2.2.2.2.2.2.2.2.2.2.1, x11.2.2.2.2.2.2.2.2.2.2.2.2.2.2.2.2.1, x11.2.2.2.2.2.2.2.2.2.2.2.2.2.2.2.2.2.1, x11.2.2.2.2.2.2.2.2.2.2.2.2.2.2.2.2.2.2.1, x11.2.2.2.2.2.2.2.2.2.2.2.2.2.2.2.2.2.2.2.1, x11.2.2.2.2.2.2.2.2.2.2.2.2.2.2.2.2.2.2.2.2.1, x11.2.2.2.2.2.2.2.2.2.2.2.2.2.2.2.2.2.2.2.2.2.2.2.1, x11.2.2.2.2.2.2.2.2.2.2.2.2.2.2.2.2.2.2.2.2.2.2.2.2.1, x11.2.2.2.2.2.2.2.2.2.2.2.2.2.2.2.2.2.2.2.2.2.2.2.2.2.1, ()))

noncomputable def L33_2i : Shape := { items := [.tm 1 (.int .i64), .ptr 2 0 0, .bx 0 0 t25, .ptr 4 1 0, .bx 1 0 (.int .i64), .bx 1 1 (.int .i64), .bx 1 2 (.int .i64), .ptr 5 2 0, .bx 2 0 (.int .i64), .bx 2 1 (.int .i64), .bx 2 2 (.int .i64), .tm 8 (.int .i64), .tm 48 (.sl 68 t67), .tm 49 (.int .i64), .tm 50 (.int .i64), .tm 60 (.sl 114 t113), .tm 61 (.int .i64), .tm 62 (.int .i64), .ownB 1 3 53 t52, .ownB 2 3 53 t52, .ownT 10 3 (.int .i64)], boxes := [26, 41, 41] }
noncomputable def L33_2o : Shape := { items := [.tm 1 (.int .i64), .ptr 2 0 0, .bx 0 0 t25, .ptr 4 1 0, .bx 1 0 (.int .i64), .bx 1 1 (.int .i64), .bx 1 2 (.int .i64), .ptr 5 2 0, .bx 2 0 (.int .i64), .bx 2 1 (.int .i64), .bx 2 2 (.int .i64), .tm 48 (.sl 68 t67), .tm 49 (.int .i64), .tm 50 (.int .i64), .ownB 1 3 53 t52, .ownB 2 3 53 t52, .ownT 10 3 (.int .i64)], boxes := [26, 41, 41] }
noncomputable def L33_2 (N : Nat) (g48 : ((List Int) × Unit) → Option (D52 × D159)) (g57 : (D113 × (Int × Unit)) → Option (Int × D159)) : Nat → (Int × (Unit × (D25 × (Unit × (Int × (Int × (Int × (Unit × (Int × (Int × (Int × (Int × ((List D67) × (Int × (Int × ((List D113) × (Int × (Int × ((List D52) × ((List D52) × ((List Int) × Unit))))))))))))))))))))) → ((Int × (Unit × (D25 × (Unit × (Int × (Int × (Int × (Unit × (Int × (Int × (Int × ((List D67) × (Int × (Int × ((List D52) × ((List D52) × ((List Int) × Unit))))))))))))))))) → Option (D40 × Unit)) → Option (D40 × Unit)
| 0, _, _ => none
| k + 1, x7, Kx =>
cond (decide (x7.2.2.2.2.2.2.2.2.2.2.2.2.2.2.2.2.2.1 < x7.2.2.2.2.2.2.2.2.2.2.2.2.2.2.2.2.1)) (
if 0 ≤ x7.2.2.2.2.2.2.2.2.2.2.2.2.2.2.2.2.2.1 then
if x7.2.2.2.2.2.2.2.2.2.2.2.2.2.2.2.2.2.1 < (x7.2.2.2.2.2.2.2.2.2.2.2.2.2.2.2.1.length : Int) then
let e8 : D113 := rdAt (t := t113) x7.2.2.2.2.2.2.2.2.2.2.2.2.2.2.2.1 x7.2.2.2.2.2.2.2.2.2.2.2.2.2.2.2.2.2.1
cond (e8.1 != x7.2.2.2.2.2.2.2.2.2.2.2.1) (
L33_2 N g48 g57 k (x7.1, (), x7.2.2.1, (), x7.2.2.2.2.1, x7.2.2.2.2.2.1, x7.2.2.2.2.2.2.1, (), x7.2.2.2.2.2.2.2.2.1, x7.2.2.2.2.2.2.2.2.2.1, x7.2.2.2.2.2.2.2.2.2.2.1, x7.2.2.2.2.2.2.2.2.2.2.2.1, x7.2.2.2.2.2.2.2.2.2.2.2.2.1, x7.2.2.2.2.2.2.2.2.2.2.2.2.2.1, x7.2.2.2.2.2.2.2.2.2.2.2.2.2.2.1, x7.2.2.2.2.2.2.2.2.2.2.2.2.2.2.2.1, x7.2.2.2.2.2.2.2.2.2.2.2.2.2.2.2.2.1, (IntKind.i64.wrap (x7.2.2.2.2.2.2.2.2.2.2.2.2.2.2.2.2.2.1 + (1 : Int))), x7.2.2.2.2.2.2.2.2.2.2.2.2.2.2.2.2.2.2.1, x7.2.2.2.2.2.2.2.2.2.2.2.2.2.2.2.2.2.2.2.1, x7.2.2.2.2.2.2.2.2.2.2.2.2.2.2.2.2.2.2.2.2.1, ()) Kx) (
cond (decide (x7.1 < e8.2.1)) (
L33_2 N g48 g57 k (x7.1, (), x7.2.2.1, (), x7.2.2.2.2.1, x7.2.2.2.2.2.1, x7.2.2.2.2.2.2.1, (), x7.2.2.2.2.2.2.2.2.1, x7.2.2.2.2.2.2.2.2.2.1, x7.2.2.2.2.2.2.2.2.2.2.1, x7.2.2.2.2.2.2.2.2.2.2.2.1, x7.2.2.2.2.2.2.2.2.2.2.2.2.1, x7.2.2.2.2.2.2.2.2.2.2.2.2.2.1, x7.2.2.2.2.2.2.2.2.2.2.2.2.2.2.1, x7.2.2.2.2.2.2.2.2.2.2.2.2.2.2.2.1, x7.2.2.2.2.2.2.2.2.2.2.2.2.2.2.2.2.1, (IntKind.i64.wrap (x7.2.2.2.2.2.2.2.2.2.2.2.2.2.2.2.2.2.1 + (1 : Int))), x7.2.2.2.2.2.2.2.2.2.2.2.2.2.2.2.2.2.2.1, x7.2.2.2.2.2.2.2.2.2.2.2.2.2.2.2.2.2.2.2.1, x7.2.2.2.2.2.2.2.2.2.2.2.2.2.2.2.2.2.2.2.2.1, ()) Kx) (
cond (decide (x7.1 > e8.2.2.1)) (
L33_2 N g48 g57 k (x7.1, (), x7.2.2.1, (), x7.2.2.2.2.1, x7.2.2.2.2.2.1, x7.2.2.2.2.2.2.1, (), x7.2.2.2.2.2.2.2.2.1, x7.2.2.2.2.2.2.2.2.2.1, x7.2.2.2.2.2.2.2.2.2.2.1, x7.2.2.2.2.2.2.2.2.2.2.2.1, x7.2.2.2.2.2.2.2.2.2.2.2.2.1, x7.2.2.2.2.2.2.2.2.2.2.2.2.2.1, x7.2.2.2.2.2.2.2.2.2.2.2.2.2.2.1, x7.2.2.2.2.2.2.2.2.2.2.2.2.2.2.2.1, x7.2.2.2.2.2.2.2.2.2.2.2.2.2.2.2.2.1, (IntKind.i64.wrap (x7.2.2.2.2.2.2.2.2.2.2.2.2.2.2.2.2.2.1 + (1 : Int))), x7.2.2.2.2.2.2.2.2.2.2.2.2.2.2.2.2.2.2.1, x7.2.2.2.2.2.2.2.2.2.2.2.2.2.2.2.2.2.2.2.1, x7.2.2.2.2.2.2.2.2.2.2.2.2.2.2.2.2.2.2.2.2.1, ()) Kx) (
(g57 (e8, (0 : Int), ())).bind fun r9 =>
let v10 := (IntKind.i64.wrap (x7.2.2.2.2.2.2.2.2.2.2.1 + r9.1))
L33_3 N g48 g57 N (x7.1, (), x7.2.2.1, (), x7.2.2.2.2.1, x7.2.2.2.2.2.1, x7.2.2.2.2.2.2.1, (), x7.2.2.2.2.2.2.2.2.1, x7.2.2.2.2.2.2.2.2.2.1, v10, x7.2.2.2.2.2.2.2.2.2.2.2.1, (), e8, r9.1, x7.2.2.2.2.2.2.2.2.2.2.2.2.1, x7.2.2.2.2.2.2.2.2.2.2.2.2.2.1, x7.2.2.2.2.2.2.2.2.2.2.2.2.2.2.1, x7.2.2.2.2.2.2.2.2.2.2.2.2.2.2.2.1, x7.2.2.2.2.2.2.2.2.2.2.2.2.2.2.2.2.1, x7.2.2.2.2.2.2.2.2.2.2.2.2.2.2.2.2.2.1, (x7.2.2.2.2.2.2.2.2.2.2.2.2.2.2.2.2.2.2.2.2.1.length : Int), (0 : Int), x7.2.2.2.2.2.2.2.2.2.2.2.2.2.2.2.2.2.2.1, x7.2.2.2.2.2.2.2.2.2.2.2.2.2.2.2.2.2.2.2.1, x7.2.2.2.2.2.2.2.2.2.2.2.2.2.2.2.2.2.2.2.2.1, ()) fun y14 =>
L33_2 N g48 g57 k (y14.1, (), y14.2.2.1, (), y14.2.2.2.2.1, y14.2.2.2.2.2.1, y14.2.2.2.2.2.2.1, (), y14.2.2.2.2.2.2.2.2.1, y14.2.2.2.2.2.2.2.2.2.1, y14.2.2.2.2.2.2.2.2.2.2.1, y14.2.2.2.2.2.2.2.2.2.2.2.1, y14.2.2.2.2.2.2.2.2.2.2.2.2.1, y14.2.2.2.2.2.2.2.2.2.2.2.2.2.1, y14.2.2.2.2.2.2.2.2.2.2.2.2.2.2.1, y14.2.2.2.2.2.2.2.2.2.2.2.2.2.2.2.1, y14.2.2.2.2.2.2.2.2.2.2.2.2.2.2.2.2.1, (IntKind.i64.wrap (y14.2.2.2.2.2.2.2.2.2.2.2.2.2.2.2.2.2.1 + (1 : Int))), y14.2.2.2.2.2.2.2.2.2.2.2.2.2.2.2.2.2.2.1, y14.2.2.2.2.2.2.2.2.2.2.2.2.2.2.2.2.2.2.2.1, y14.2.2.2.2.2.2.2.2.2.2.2.2.2.2.2.2.2.2.2.2.1, ()) Kx)))
else none
else none) (
Kx (x7.1, (), x7.2.2.1, (), x7.2.2.2.2.1, x7.2.2.2.2.2.1, x7.2.2.2.2.2.2.1, (), x7.2.2.2.2.2.2.2.2.1, x7.2.2.2.2.2.2.2.2.2.1, x7.2.2.2.2.2.2.2.2.2.2.1, x7.2.2.2.2.2.2.2.2.2.2.2.2.1, x7.2.2.2.2.2.2.2.2.2.2.2.2.2.1, x7.2.2.2.2.2.2.2.2.2.2.2.2.2.2.1, x7.2.2.2.2.2.2.2.2.2.2.2.2.2.2.2.2.2.2.1, x7.2.2.2.2.2.2.2.2.2.2.2.2.2.2.2.2.2.2.2.1, x7.2.2.2.2.2.2.2.2.2.2.2.2.2.2.2.2.2.2.2.2.1, ()))

noncomputable def L33_1i : Shape := { items := [.tm 1 (.int .i64), .ptr 2 0 0, .bx 0 0 t25, .ptr 4 1 0, .bx 1 0 (.int .i64), .bx 1 1 (.int .i64), .bx 1 2 (.int .i64), .ptr 5 2 0, .bx 2 0 (.int .i64), .bx 2 1 (.int .i64), .bx 2 2 (.int .i64), .tm 48 (.sl 68 t67), .tm 49 (.int .i64), .tm 50 (.int .i64), .ownB 1 3 53 t52, .ownB 2 3 53 t52], boxes := [26, 41, 41] }
noncomputable def L33_1o : Shape := { items := [.ptr 4 1 0, .bx 1 0 (.int .i64), .bx 1 1 (.int .i64), .bx 1 2 (.int .i64), .ptr 5 2 0, .bx 2 0 (.int .i64), .bx 2 1 (.int .i64), .bx 2 2 (.int .i64), .ownB 1 3 53 t52, .ownB 2 3 53 t52], boxes := [26, 41, 41] }
noncomputable def L33_1 (N : Nat) (g48 : ((List Int) × Unit) → Option (D52 × D159)) (g57 : (D113 × (Int × Unit)) → Option (Int × D159)) : Nat → (Int × (Unit × (D25 × (Unit × (Int × (Int × (Int × (Unit × (Int × (Int × (Int × ((List D67) × (Int × (Int × ((List D52) × ((List D52) × Unit)))))))))))))))) → ((Unit × (Int × (Int × (Int × (Unit × (Int × (Int × (Int × ((List D52) × ((List D52) × Unit)))))))))) → Option (D40 × Unit)) → Option (D40 × Unit)
| 0, _, _ => none
| k + 1, x5, Kx =>
cond (decide (x5.2.2.2.2.2.2.2.2.2.2.2.2.2.1 < x5.2.2.2.2.2.2.2.2.2.2.2.2.1)) (
if 0 ≤ x5.2.2.2.2.2.2.2.2.2.2.2.2.2.1 then
if x5.2.2.2.2.2.2.2.2.2.2.2.2.2.1 < (x5.2.2.2.2.2.2.2.2.2.2.2.1.length : Int) then
let e6 : D67 := rdAt (t := t67) x5.2.2.2.2.2.2.2.2.2.2.2.1 x5.2.2.2.2.2.2.2.2.2.2.2.2.2.1
if (IntKind.i64.wrap (e6.2.2.1 + (1 : Int))) = (IntKind.i64.wrap (e6.2.2.1 + (1 : Int))) then
if 0 ≤ (IntKind.i64.wrap (e6.2.2.1 + (1 : Int))) then
if ((IntKind.i64.wrap (e6.2.2.1 + (1 : Int)))).toNat ≤ 17592186044416 then
L33_2 N g48 g57 N (x5.1, (), x5.2.2.1, (), x5.2.2.2.2.1, x5.2.2.2.2.2.1, x5.2.2.2.2.2.2.1, (), x5.2.2.2.2.2.2.2.2.1, x5.2.2.2.2.2.2.2.2.2.1, x5.2.2.2.2.2.2.2.2.2.2.1, x5.2.2.2.2.2.2.2.2.2.2.2.2.2.1, x5.2.2.2.2.2.2.2.2.2.2.2.1, x5.2.2.2.2.2.2.2.2.2.2.2.2.1, x5.2.2.2.2.2.2.2.2.2.2.2.2.2.1, x5.2.2.1.2.2.2.2.2.1, (x5.2.2.1.2.2.2.2.2.1.length : Int), (0 : Int), x5.2.2.2.2.2.2.2.2.2.2.2.2.2.2.1, x5.2.2.2.2.2.2.2.2.2.2.2.2.2.2.2.1, (List.replicate ((IntKind.i64.wrap (e6.2.2.1 + (1 : Int)))).toNat (0 : Int)), ()) fun y15 =>
(g48 y15.2.2.2.2.2.2.2.2.2.2.2.2.2.2.2.2).bind fun r16 =>
if y15.2.2.2.2.2.2.2.2.2.2.2.2.2.2.2.1.length + 1 ≤ 4398046511104 then
L33_1 N g48 g57 k (y15.1, (), y15.2.2.1, (), y15.2.2.2.2.1, y15.2.2.2.2.2.1, y15.2.2.2.2.2.2.1, (), y15.2.2.2.2.2.2.2.2.1, y15.2.2.2.2.2.2.2.2.2.1, y15.2.2.2.2.2.2.2.2.2.2.1, y15.2.2.2.2.2.2.2.2.2.2.2.1, y15.2.2.2.2.2.2.2.2.2.2.2.2.1, (IntKind.i64.wrap (y15.2.2.2.2.2.2.2.2.2.2.2.2.2.1 + (1 : Int))), y15.2.2.2.2.2.2.2.2.2.2.2.2.2.2.1, (y15.2.2.2.2.2.2.2.2.2.2.2.2.2.2.2.1 ++ [r16.1]), ()) Kx
else none
else none
else none
else none
else none
else none) (
Kx ((), x5.2.2.2.2.1, x5.2.2.2.2.2.1, x5.2.2.2.2.2.2.1, (), x5.2.2.2.2.2.2.2.2.1, x5.2.2.2.2.2.2.2.2.2.1, x5.2.2.2.2.2.2.2.2.2.2.1, x5.2.2.2.2.2.2.2.2.2.2.2.2.2.2.1, x5.2.2.2.2.2.2.2.2.2.2.2.2.2.2.2.1, ()))

noncomputable def F33 (N : Nat) (g48 : ((List Int) × Unit) → Option (D52 × D159)) (g57 : (D113 × (Int × Unit)) → Option (Int × D159)) : (D25 × (Int × Unit)) → Option (D40 × Unit) := fun x =>
L33_0 N g48 g57 N (x.2.1, (), x.1, (), (0 : Int), (0 : Int), (0 : Int), (), x.2.1, x.2.1, (0 : Int), x.1.2.2.2.2.1, (x.1.2.2.2.2.1.length : Int), (0 : Int), [], [], ()) fun y4 =>
L33_1 N g48 g57 N (y4.1, (), y4.2.2.1, (), y4.2.2.2.2.1, y4.2.2.2.2.2.1, y4.2.2.2.2.2.2.1, (), y4.2.2.2.2.2.2.2.2.1, y4.2.2.2.2.2.2.2.2.2.1, y4.2.2.2.2.2.2.2.2.2.2.1, y4.2.2.1.2.2.2.1, (y4.2.2.1.2.2.2.1.length : Int), (0 : Int), y4.2.2.2.2.2.2.2.2.2.2.2.1, y4.2.2.2.2.2.2.2.2.2.2.2.2.1, ()) fun y17 =>
some ((y17.2.2.2.2.2.1, y17.2.2.2.2.2.2.1, y17.2.2.2.2.2.2.2.1, y17.2.2.2.2.2.2.2.2.2), ())

noncomputable def ps33 : List Ty := [t25, (.int .i64)]
noncomputable def rs33 : List Ty := [t40]
noncomputable def ty33 : List (TypeId × Ty) := [(3, (.int .i64)), (22, (.sl 68 t67)), (23, (.sl 110 t87)), (24, (.sl 114 t113)), (26, t25), (27, (.sl 3 (.int .i64))), (39, (.sl 53 t52)), (41, t40), (53, t52), (68, t67), (110, t87), (114, t113)]
noncomputable def by33 : List (TypeId × Nat) := [(3, 8), (53, 32)]
noncomputable def eq33 : List TypeId := []
noncomputable def E33 (g48 : ((List Int) × Unit) → Option (D52 × D159)) (g57 : (D113 × (Int × Unit)) → Option (Int × D159)) : Go.V.Env := { ty := ty33, bytes := by33, fn := [(48, { ps := [(.sl 3 (.int .i64))], rs := [t52, .bool], f := g48 }), (57, { ps := [t113, (.int .i64)], rs := [(.int .i64), .bool], f := g57 })], eqs := eq33, inl := [] }
noncomputable def M33 (g48 : ((List Int) × Unit) → Option (D52 × D159)) (g57 : (D113 × (Int × Unit)) → Option (Int × D159)) : List (Nat × Go.V.Mark (Ty.prods rs33).den) := [(116, { ins := L33_0i, outs := L33_0o, ex := some 0, f := fun N => L33_0 N g48 g57 }), (513386108, { ins := L33_3i, outs := L33_3o, ex := some 6, f := fun N => L33_3 N g48 g57 }), (250676, { ins := L33_2i, outs := L33_2o, ex := some 4, f := fun N => L33_2 N g48 g57 }), (244, { ins := L33_1i, outs := L33_1o, ex := some 2, f := fun N => L33_1 N g48 g57 })]
noncomputable def C33 (N : Nat) (g48 : ((List Int) × Unit) → Option (D52 × D159)) (g57 : (D113 × (Int × Unit)) → Option (Int × D159)) : Go.V.Ctx (Ty.prods rs33).den := { E := E33 g48 g57, n := Go.Proofs.Try.f33.ntmps, marks := M33 g48 g57, fin := Go.V.finish (E33 g48 g57) Go.Proofs.Try.f33 rs33, N }
noncomputable def c33 : Code := (Go.Proofs.Try.f33.body).getD .skip

theorem tab33 : tablesB Go.Proofs.Try.prog ty33 by33 eq33 = true := by kernel_rfl
theorem oL33_0 (N : Nat) (g48 : ((List Int) × Unit) → Option (D52 × D159)) (g57 : (D113 × (Int × Unit)) → Option (Int × D159)) : (Obl.loop { ins := L33_0i, outs := L33_0o, ex := some 0, f := fun N => L33_0 N g48 g57 } 116 (subc [true, true, false, true, false, false] c33) : Obl (Ty.prods rs33).den).holds (C33 N g48 g57) := by
  intro x Kx
  exact ⟨by kernel_rfl, fun k => by kernel_rfl⟩
theorem oL33_1 (N : Nat) (g48 : ((List Int) × Unit) → Option (D52 × D159)) (g57 : (D113 × (Int × Unit)) → Option (Int × D159)) : (Obl.loop { ins := L33_1i, outs := L33_1o, ex := some 2, f := fun N => L33_1 N g48 g57 } 244 (subc [true, true, true, false, true, false, false] c33) : Obl (Ty.prods rs33).den).holds (C33 N g48 g57) := by
  intro x Kx
  exact ⟨by kernel_rfl, fun k => by kernel_rfl⟩
theorem oL33_2 (N : Nat) (g48 : ((List Int) × Unit) → Option (D52 × D159)) (g57 : (D113 × (Int × Unit)) → Option (Int × D159)) : (Obl.loop { ins := L33_2i, outs := L33_2o, ex := some 4, f := fun N => L33_2 N g48 g57 } 250676 (subc [true, true, true, false, true, false, false, true, true, false, false, true, true, false, true, false, false] c33) : Obl (Ty.prods rs33).den).holds (C33 N g48 g57) := by
  intro x Kx
  exact ⟨by kernel_rfl, fun k => by kernel_rfl⟩
theorem oL33_3 (N : Nat) (g48 : ((List Int) × Unit) → Option (D52 × D159)) (g57 : (D113 × (Int × Unit)) → Option (Int × D159)) : (Obl.loop { ins := L33_3i, outs := L33_3o, ex := some 6, f := fun N => L33_3 N g48 g57 } 513386108 (subc [true, true, true, false, true, false, false, true, true, false, false, true, true, false, true, false, false, true, true, false, false, true, true, true, true, true, false, false] c33) : Obl (Ty.prods rs33).den).holds (C33 N g48 g57) := by
  intro x Kx
  exact ⟨by kernel_rfl, fun k => by kernel_rfl⟩
theorem ob33 (N : Nat) (g48 : ((List Int) × Unit) → Option (D52 × D159)) (g57 : (D113 × (Int × Unit)) → Option (Int × D159)) : obls (C33 N g48 g57) 1 c33 = [.loop { ins := L33_0i, outs := L33_0o, ex := some 0, f := fun N => L33_0 N g48 g57 } 116 (subc [true, true, false, true, false, false] c33), .loop { ins := L33_1i, outs := L33_1o, ex := some 2, f := fun N => L33_1 N g48 g57 } 244 (subc [true, true, true, false, true, false, false] c33), .loop { ins := L33_2i, outs := L33_2o, ex := some 4, f := fun N => L33_2 N g48 g57 } 250676 (subc [true, true, true, false, true, false, false, true, true, false, false, true, true, false, true, false, false] c33), .loop { ins := L33_3i, outs := L33_3o, ex := some 6, f := fun N => L33_3 N g48 g57 } 513386108 (subc [true, true, true, false, true, false, false, true, true, false, false, true, true, false, true, false, false, true, true, false, false, true, true, true, true, true, false, false] c33)] := by kernel_rfl
theorem eF33 (N : Nat) (g48 : ((List Int) × Unit) → Option (D52 × D159)) (g57 : (D113 × (Int × Unit)) → Option (Int × D159)) (x : (Ty.prods ps33).den) : Go.V.evBody (E33 g48 g57) Go.Proofs.Try.f33 rs33 (M33 g48 g57) N (Go.V.start Go.Proofs.Try.f33 ps33 x) = F33 N g48 g57 x := by kernel_rfl
theorem s33 (N : Nat) (g48 : ((List Int) × Unit) → Option (D52 × D159)) (g57 : (D113 × (Int × Unit)) → Option (Int × D159)) (h48 : Sound Go.Proofs.Try.prog 48 { ps := [(.sl 3 (.int .i64))], rs := [t52, .bool], f := g48 }) (h57 : Sound Go.Proofs.Try.prog 57 { ps := [t113, (.int .i64)], rs := [(.int .i64), .bool], f := g57 }) : Sound Go.Proofs.Try.prog 33 { ps := ps33, rs := rs33, f := F33 N g48 g57 } := by
  have hE : EnvOk Go.Proofs.Try.prog (E33 g48 g57) := env_ok tab33 (by
    intro p hp
    simp only [List.mem_cons, List.not_mem_nil, or_false] at hp
    rcases hp with rfl | rfl
    · exact ⟨h48, Go.Proofs.Try.f48, Go.Proofs.Try.func48, by kernel_rfl, by kernel_rfl⟩
    · exact ⟨h57, Go.Proofs.Try.f57, Go.Proofs.Try.func57, by kernel_rfl, by kernel_rfl⟩) (by
    intro p hp
    cases hp)
  have h := fn_sound hE (by kernel_rfl) Go.Proofs.Try.func33 (show Go.Proofs.Try.f33.body = some c33 by kernel_rfl) ps33 rs33 (M33 g48 g57) N (by
    intro o ho
    have ho : o ∈ obls (C33 N g48 g57) 1 c33 := ho
    rw [ob33] at ho
    simp only [List.mem_cons, List.not_mem_nil, or_false] at ho
    rcases ho with rfl | rfl | rfl | rfl
    · exact oL33_0 N g48 g57
    · exact oL33_1 N g48 g57
    · exact oL33_2 N g48 g57
    · exact oL33_3 N g48 g57)
  have e : (fun x => Go.V.evBody (E33 g48 g57) Go.Proofs.Try.f33 rs33 (M33 g48 g57) N (Go.V.start Go.Proofs.Try.f33 ps33 x)) = F33 N g48 g57 := funext fun x => eF33 N g48 g57 x
  rw [e] at h
  exact h

end Go.Proofs.Ytkifmnocomadfaa
end

/- The reading of poundage poundageref18.Make. -/
section
set_option linter.unusedVariables false
set_option maxRecDepth 100000
namespace Go.Proofs.Ytkifmnocomadfaa
open Go.V

noncomputable def L8_0i : Shape := { items := [.ptr 1 0 0, .bx 0 0 t25, .ptr 2 1 0, .bx 1 0 .str, .bx 1 1 (.int .i64), .bx 1 2 (.int .i64), .ptr 3 2 0, .bx 2 0 .str, .bx 2 1 (.int .i64), .bx 2 2 (.int .i64), .bx 2 3 (.sl 68 t67), .tm 24 (.sl 3 (.int .i64)), .tm 25 (.int .i64), .tm 26 (.int .i64), .ownB 1 3 68 t67, .ownB 1 4 41 t40, .ownB 2 4 41 t40], boxes := [26, 32, 32] }
noncomputable def L8_0o : Shape := { items := [.ptr 1 0 0, .bx 0 0 t25, .ptr 2 1 0, .bx 1 0 .str, .bx 1 1 (.int .i64), .bx 1 2 (.int .i64), .ptr 3 2 0, .bx 2 0 .str, .bx 2 1 (.int .i64), .bx 2 2 (.int .i64), .bx 2 3 (.sl 68 t67), .ownB 1 3 68 t67, .ownB 1 4 41 t40, .ownB 2 4 41 t40], boxes := [26, 32, 32] }
noncomputable def L8_0 (N : Nat) (g13 : (D40 × (D40 × Unit)) → Option D159) (g32 : (D25 × Unit) → Option ((List Int) × Unit)) (g33 : (D25 × (Int × Unit)) → Option (D40 × Unit)) : Nat → (Unit × (D25 × (Unit × (ByteArray × (Int × (Int × (Unit × (ByteArray × (Int × (Int × ((List D67) × ((List Int) × (Int × (Int × ((List D67) × ((List D40) × ((List D40) × Unit))))))))))))))))) → ((Unit × (D25 × (Unit × (ByteArray × (Int × (Int × (Unit × (ByteArray × (Int × (Int × ((List D67) × ((List D67) × ((List D40) × ((List D40) × Unit)))))))))))))) → Option (D31 × Unit)) → Option (D31 × Unit)
| 0, _, _ => none
| k + 1, x2, Kx =>
cond (decide (x2.2.2.2.2.2.2.2.2.2.2.2.2.2.1 < x2.2.2.2.2.2.2.2.2.2.2.2.2.1)) (
if 0 ≤ x2.2.2.2.2.2.2.2.2.2.2.2.2.2.1 then
if x2.2.2.2.2.2.2.2.2.2.2.2.2.2.1 < (x2.2.2.2.2.2.2.2.2.2.2.2.1.length : Int) then
let v3 := (rdAt (t := (.int .i64)) x2.2.2.2.2.2.2.2.2.2.2.2.1 x2.2.2.2.2.2.2.2.2.2.2.2.2.2.1)
(g33 (x2.2.1, v3, ())).bind fun r4 =>
let v5 := (x2.2.2.2.2.2.2.2.2.2.2.2.2.2.2.2.2.1.length : Int)
cond (decide (v5 > (0 : Int))) (
if 0 ≤ (IntKind.i64.wrap (v5 - (1 : Int))) then
if (IntKind.i64.wrap (v5 - (1 : Int))) < (x2.2.2.2.2.2.2.2.2.2.2.2.2.2.2.2.2.1.length : Int) then
cond (v5 == (0 : Int)) (
if (x2.2.2.2.2.2.2.2.2.2.2.2.2.2.2.2.2.1.set ((IntKind.i64.wrap (v5 - (1 : Int)))).toNat ((rdAt (t := t40) x2.2.2.2.2.2.2.2.2.2.2.2.2.2.2.2.2.1 (IntKind.i64.wrap (v5 - (1 : Int))) : D40).1, (IntKind.i64.wrap (v3 - (1 : Int))), (rdAt (t := t40) x2.2.2.2.2.2.2.2.2.2.2.2.2.2.2.2.2.1 (IntKind.i64.wrap (v5 - (1 : Int))) : D40).2.2)).length + 1 ≤ 2932031007402 then
let v6 := ((x2.2.2.2.2.2.2.2.2.2.2.2.2.2.2.2.2.1.set ((IntKind.i64.wrap (v5 - (1 : Int)))).toNat ((rdAt (t := t40) x2.2.2.2.2.2.2.2.2.2.2.2.2.2.2.2.2.1 (IntKind.i64.wrap (v5 - (1 : Int))) : D40).1, (IntKind.i64.wrap (v3 - (1 : Int))), (rdAt (t := t40) x2.2.2.2.2.2.2.2.2.2.2.2.2.2.2.2.2.1 (IntKind.i64.wrap (v5 - (1 : Int))) : D40).2.2)) ++ [r4.1])
L8_0 N g13 g32 g33 k ((), x2.2.1, (), x2.2.2.2.1, x2.2.2.2.2.1, x2.2.2.2.2.2.1, (), x2.2.2.2.2.2.2.2.1, x2.2.2.2.2.2.2.2.2.1, x2.2.2.2.2.2.2.2.2.2.1, x2.2.2.2.2.2.2.2.2.2.2.1, x2.2.2.2.2.2.2.2.2.2.2.2.1, x2.2.2.2.2.2.2.2.2.2.2.2.2.1, (IntKind.i64.wrap (x2.2.2.2.2.2.2.2.2.2.2.2.2.2.1 + (1 : Int))), x2.2.2.2.2.2.2.2.2.2.2.2.2.2.2.1, x2.2.2.2.2.2.2.2.2.2.2.2.2.2.2.2.1, v6, ()) Kx
else none) (
if 0 ≤ (IntKind.i64.wrap (v5 - (1 : Int))) then
if (IntKind.i64.wrap (v5 - (1 : Int))) < ((x2.2.2.2.2.2.2.2.2.2.2.2.2.2.2.2.2.1.set ((IntKind.i64.wrap (v5 - (1 : Int)))).toNat ((rdAt (t := t40) x2.2.2.2.2.2.2.2.2.2.2.2.2.2.2.2.2.1 (IntKind.i64.wrap (v5 - (1 : Int))) : D40).1, (IntKind.i64.wrap (v3 - (1 : Int))), (rdAt (t := t40) x2.2.2.2.2.2.2.2.2.2.2.2.2.2.2.2.2.1 (IntKind.i64.wrap (v5 - (1 : Int))) : D40).2.2)).length : Int) then
(g13 ((rdAt (t := t40) (x2.2.2.2.2.2.2.2.2.2.2.2.2.2.2.2.2.1.set ((IntKind.i64.wrap (v5 - (1 : Int)))).toNat ((rdAt (t := t40) x2.2.2.2.2.2.2.2.2.2.2.2.2.2.2.2.2.1 (IntKind.i64.wrap (v5 - (1 : Int))) : D40).1, (IntKind.i64.wrap (v3 - (1 : Int))), (rdAt (t := t40) x2.2.2.2.2.2.2.2.2.2.2.2.2.2.2.2.2.1 (IntKind.i64.wrap (v5 - (1 : Int))) : D40).2.2)) (IntKind.i64.wrap (v5 - (1 : Int))) : D40), r4)).bind fun r7 =>
cond (!r7.1) (
if (x2.2.2.2.2.2.2.2.2.2.2.2.2.2.2.2.2.1.set ((IntKind.i64.wrap (v5 - (1 : Int)))).toNat ((rdAt (t := t40) x2.2.2.2.2.2.2.2.2.2.2.2.2.2.2.2.2.1 (IntKind.i64.wrap (v5 - (1 : Int))) : D40).1, (IntKind.i64.wrap (v3 - (1 : Int))), (rdAt (t := t40) x2.2.2.2.2.2.2.2.2.2.2.2.2.2.2.2.2.1 (IntKind.i64.wrap (v5 - (1 : Int))) : D40).2.2)).length + 1 ≤ 2932031007402 then
let v8 := ((x2.2.2.2.2.2.2.2.2.2.2.2.2.2.2.2.2.1.set ((IntKind.i64.wrap (v5 - (1 : Int)))).toNat ((rdAt (t := t40) x2.2.2.2.2.2.2.2.2.2.2.2.2.2.2.2.2.1 (IntKind.i64.wrap (v5 - (1 : Int))) : D40).1, (IntKind.i64.wrap (v3 - (1 : Int))), (rdAt (t := t40) x2.2.2.2.2.2.2.2.2.2.2.2.2.2.2.2.2.1 (IntKind.i64.wrap (v5 - (1 : Int))) : D40).2.2)) ++ [r4.1])
L8_0 N g13 g32 g33 k ((), x2.2.1, (), x2.2.2.2.1, x2.2.2.2.2.1, x2.2.2.2.2.2.1, (), x2.2.2.2.2.2.2.2.1, x2.2.2.2.2.2.2.2.2.1, x2.2.2.2.2.2.2.2.2.2.1, x2.2.2.2.2.2.2.2.2.2.2.1, x2.2.2.2.2.2.2.2.2.2.2.2.1, x2.2.2.2.2.2.2.2.2.2.2.2.2.1, (IntKind.i64.wrap (x2.2.2.2.2.2.2.2.2.2.2.2.2.2.1 + (1 : Int))), x2.2.2.2.2.2.2.2.2.2.2.2.2.2.2.1, x2.2.2.2.2.2.2.2.2.2.2.2.2.2.2.2.1, v8, ()) Kx
else none) (
L8_0 N g13 g32 g33 k ((), x2.2.1, (), x2.2.2.2.1, x2.2.2.2.2.1, x2.2.2.2.2.2.1, (), x2.2.2.2.2.2.2.2.1, x2.2.2.2.2.2.2.2.2.1, x2.2.2.2.2.2.2.2.2.2.1, x2.2.2.2.2.2.2.2.2.2.2.1, x2.2.2.2.2.2.2.2.2.2.2.2.1, x2.2.2.2.2.2.2.2.2.2.2.2.2.1, (IntKind.i64.wrap (x2.2.2.2.2.2.2.2.2.2.2.2.2.2.1 + (1 : Int))), x2.2.2.2.2.2.2.2.2.2.2.2.2.2.2.1, x2.2.2.2.2.2.2.2.2.2.2.2.2.2.2.2.1, (x2.2.2.2.2.2.2.2.2.2.2.2.2.2.2.2.2.1.set ((IntKind.i64.wrap (v5 - (1 : Int)))).toNat ((rdAt (t := t40) x2.2.2.2.2.2.2.2.2.2.2.2.2.2.2.2.2.1 (IntKind.i64.wrap (v5 - (1 : Int))) : D40).1, (IntKind.i64.wrap (v3 - (1 : Int))), (rdAt (t := t40) x2.2.2.2.2.2.2.2.2.2.2.2.2.2.2.2.2.1 (IntKind.i64.wrap (v5 - (1 : Int))) : D40).2.2)), ()) Kx)
else none
else none)
else none
else none) (
cond (v5 == (0 : Int)) (
if x2.2.2.2.2.2.2.2.2.2.2.2.2.2.2.2.2.1.length + 1 ≤ 2932031007402 then
L8_0 N g13 g32 g33 k ((), x2.2.1, (), x2.2.2.2.1, x2.2.2.2.2.1, x2.2.2.2.2.2.1, (), x2.2.2.2.2.2.2.2.1, x2.2.2.2.2.2.2.2.2.1, x2.2.2.2.2.2.2.2.2.2.1, x2.2.2.2.2.2.2.2.2.2.2.1, x2.2.2.2.2.2.2.2.2.2.2.2.1, x2.2.2.2.2.2.2.2.2.2.2.2.2.1, (IntKind.i64.wrap (x2.2.2.2.2.2.2.2.2.2.2.2.2.2.1 + (1 : Int))), x2.2.2.2.2.2.2.2.2.2.2.2.2.2.2.1, x2.2.2.2.2.2.2.2.2.2.2.2.2.2.2.2.1, (x2.2.2.2.2.2.2.2.2.2.2.2.2.2.2.2.2.1 ++ [r4.1]), ()) Kx
else none) (
if 0 ≤ (IntKind.i64.wrap (v5 - (1 : Int))) then
if (IntKind.i64.wrap (v5 - (1 : Int))) < (x2.2.2.2.2.2.2.2.2.2.2.2.2.2.2.2.2.1.length : Int) then
(g13 ((rdAt (t := t40) x2.2.2.2.2.2.2.2.2.2.2.2.2.2.2.2.2.1 (IntKind.i64.wrap (v5 - (1 : Int))) : D40), r4)).bind fun r9 =>
cond (!r9.1) (
if x2.2.2.2.2.2.2.2.2.2.2.2.2.2.2.2.2.1.length + 1 ≤ 2932031007402 then
L8_0 N g13 g32 g33 k ((), x2.2.1, (), x2.2.2.2.1, x2.2.2.2.2.1, x2.2.2.2.2.2.1, (), x2.2.2.2.2.2.2.2.1, x2.2.2.2.2.2.2.2.2.1, x2.2.2.2.2.2.2.2.2.2.1, x2.2.2.2.2.2.2.2.2.2.2.1, x2.2.2.2.2.2.2.2.2.2.2.2.1, x2.2.2.2.2.2.2.2.2.2.2.2.2.1, (IntKind.i64.wrap (x2.2.2.2.2.2.2.2.2.2.2.2.2.2.1 + (1 : Int))), x2.2.2.2.2.2.2.2.2.2.2.2.2.2.2.1, x2.2.2.2.2.2.2.2.2.2.2.2.2.2.2.2.1, (x2.2.2.2.2.2.2.2.2.2.2.2.2.2.2.2.2.1 ++ [r4.1]), ()) Kx
else none) (
L8_0 N g13 g32 g33 k ((), x2.2.1, (), x2.2.2.2.1, x2.2.2.2.2.1, x2.2.2.2.2.2.1, (), x2.2.2.2.2.2.2.2.1, x2.2.2.2.2.2.2.2.2.1, x2.2.2.2.2.2.2.2.2.2.1, x2.2.2.2.2.2.2.2.2.2.2.1, x2.2.2.2.2.2.2.2.2.2.2.2.1, x2.2.2.2.2.2.2.2.2.2.2.2.2.1, (IntKind.i64.wrap (x2.2.2.2.2.2.2.2.2.2.2.2.2.2.1 + (1 : Int))), x2.2.2.2.2.2.2.2.2.2.2.2.2.2.2.1, x2.2.2.2.2.2.2.2.2.2.2.2.2.2.2.2.1, x2.2.2.2.2.2.2.2.2.2.2.2.2.2.2.2.2.1, ()) Kx)
else none
else none))
else none
else none) (
Kx ((), x2.2.1, (), x2.2.2.2.1, x2.2.2.2.2.1, x2.2.2.2.2.2.1, (), x2.2.2.2.2.2.2.2.1, x2.2.2.2.2.2.2.2.2.1, x2.2.2.2.2.2.2.2.2.2.1, x2.2.2.2.2.2.2.2.2.2.2.1, x2.2.2.2.2.2.2.2.2.2.2.2.2.2.2.1, x2.2.2.2.2.2.2.2.2.2.2.2.2.2.2.2.1, x2.2.2.2.2.2.2.2.2.2.2.2.2.2.2.2.2.1, ()))

noncomputable def F8 (N : Nat) (g13 : (D40 × (D40 × Unit)) → Option D159) (g32 : (D25 × Unit) → Option ((List Int) × Unit)) (g33 : (D25 × (Int × Unit)) → Option (D40 × Unit)) : (D25 × Unit) → Option (D31 × Unit) := fun x =>
if x.1.2.2.2.1.length = 0 then
(g32 x).bind fun r14 =>
if r14.1.length = 0 then
L8_0 N g13 g32 g33 N ((), x.1, (), ByteArray.empty, (0 : Int), (0 : Int), (), x.1.1, x.1.2.1, x.1.2.2.1, [], [x.1.2.1], ([x.1.2.1].length : Int), (0 : Int), [], [], [], ()) fun y17 =>
cond (decide ((y17.2.2.2.2.2.2.2.2.2.2.2.2.2.1.length : Int) > (0 : Int))) (
let v18 := (IntKind.i64.wrap ((y17.2.2.2.2.2.2.2.2.2.2.2.2.2.1.length : Int) - (1 : Int)))
if 0 ≤ v18 then
if v18 < (y17.2.2.2.2.2.2.2.2.2.2.2.2.2.1.length : Int) then
some ((y17.2.2.2.2.2.2.2.1, y17.2.2.2.2.2.2.2.2.1, y17.2.2.2.2.2.2.2.2.2.1, y17.2.2.2.2.2.2.2.2.2.2.1, (y17.2.2.2.2.2.2.2.2.2.2.2.2.2.1.set (v18).toNat ((rdAt (t := t40) y17.2.2.2.2.2.2.2.2.2.2.2.2.2.1 v18 : D40).1, y17.2.1.2.2.1, (rdAt (t := t40) y17.2.2.2.2.2.2.2.2.2.2.2.2.2.1 v18 : D40).2.2)), ()), ())
else none
else none) (
some ((y17.2.2.2.2.2.2.2.1, y17.2.2.2.2.2.2.2.2.1, y17.2.2.2.2.2.2.2.2.2.1, y17.2.2.2.2.2.2.2.2.2.2.1, y17.2.2.2.2.2.2.2.2.2.2.2.2.2), ()))
else
if ([x.1.2.1] : List Int).length + r14.1.length ≤ 17592186044416 then
L8_0 N g13 g32 g33 N ((), x.1, (), ByteArray.empty, (0 : Int), (0 : Int), (), x.1.1, x.1.2.1, x.1.2.2.1, [], ([x.1.2.1] ++ r14.1), (([x.1.2.1] ++ r14.1).length : Int), (0 : Int), [], [], [], ()) fun y15 =>
cond (decide ((y15.2.2.2.2.2.2.2.2.2.2.2.2.2.1.length : Int) > (0 : Int))) (
let v16 := (IntKind.i64.wrap ((y15.2.2.2.2.2.2.2.2.2.2.2.2.2.1.length : Int) - (1 : Int)))
if 0 ≤ v16 then
if v16 < (y15.2.2.2.2.2.2.2.2.2.2.2.2.2.1.length : Int) then
some ((y15.2.2.2.2.2.2.2.1, y15.2.2.2.2.2.2.2.2.1, y15.2.2.2.2.2.2.2.2.2.1, y15.2.2.2.2.2.2.2.2.2.2.1, (y15.2.2.2.2.2.2.2.2.2.2.2.2.2.1.set (v16).toNat ((rdAt (t := t40) y15.2.2.2.2.2.2.2.2.2.2.2.2.2.1 v16 : D40).1, y15.2.1.2.2.1, (rdAt (t := t40) y15.2.2.2.2.2.2.2.2.2.2.2.2.2.1 v16 : D40).2.2)), ()), ())
else none
else none) (
some ((y15.2.2.2.2.2.2.2.1, y15.2.2.2.2.2.2.2.2.1, y15.2.2.2.2.2.2.2.2.2.1, y15.2.2.2.2.2.2.2.2.2.2.1, y15.2.2.2.2.2.2.2.2.2.2.2.2.2), ()))
else none
else
if ([] : List D67).length + x.1.2.2.2.1.length ≤ 2513169434916 then
(g32 x).bind fun r1 =>
if r1.1.length = 0 then
L8_0 N g13 g32 g33 N ((), x.1, (), ByteArray.empty, (0 : Int), (0 : Int), (), x.1.1, x.1.2.1, x.1.2.2.1, x.1.2.2.2.1, [x.1.2.1], ([x.1.2.1].length : Int), (0 : Int), [], [], [], ()) fun y12 =>
cond (decide ((y12.2.2.2.2.2.2.2.2.2.2.2.2.2.1.length : Int) > (0 : Int))) (
let v13 := (IntKind.i64.wrap ((y12.2.2.2.2.2.2.2.2.2.2.2.2.2.1.length : Int) - (1 : Int)))
if 0 ≤ v13 then
if v13 < (y12.2.2.2.2.2.2.2.2.2.2.2.2.2.1.length : Int) then
some ((y12.2.2.2.2.2.2.2.1, y12.2.2.2.2.2.2.2.2.1, y12.2.2.2.2.2.2.2.2.2.1, y12.2.2.2.2.2.2.2.2.2.2.1, (y12.2.2.2.2.2.2.2.2.2.2.2.2.2.1.set (v13).toNat ((rdAt (t := t40) y12.2.2.2.2.2.2.2.2.2.2.2.2.2.1 v13 : D40).1, y12.2.1.2.2.1, (rdAt (t := t40) y12.2.2.2.2.2.2.2.2.2.2.2.2.2.1 v13 : D40).2.2)), ()), ())
else none
else none) (
some ((y12.2.2.2.2.2.2.2.1, y12.2.2.2.2.2.2.2.2.1, y12.2.2.2.2.2.2.2.2.2.1, y12.2.2.2.2.2.2.2.2.2.2.1, y12.2.2.2.2.2.2.2.2.2.2.2.2.2), ()))
else
if ([x.1.2.1] : List Int).length + r1.1.length ≤ 17592186044416 then
L8_0 N g13 g32 g33 N ((), x.1, (), ByteArray.empty, (0 : Int), (0 : Int), (), x.1.1, x.1.2.1, x.1.2.2.1, x.1.2.2.2.1, ([x.1.2.1] ++ r1.1), (([x.1.2.1] ++ r1.1).length : Int), (0 : Int), [], [], [], ()) fun y10 =>
cond (decide ((y10.2.2.2.2.2.2.2.2.2.2.2.2.2.1.length : Int) > (0 : Int))) (
let v11 := (IntKind.i64.wrap ((y10.2.2.2.2.2.2.2.2.2.2.2.2.2.1.length : Int) - (1 : Int)))
if 0 ≤ v11 then
if v11 < (y10.2.2.2.2.2.2.2.2.2.2.2.2.2.1.length : Int) then
some ((y10.2.2.2.2.2.2.2.1, y10.2.2.2.2.2.2.2.2.1, y10.2.2.2.2.2.2.2.2.2.1, y10.2.2.2.2.2.2.2.2.2.2.1, (y10.2.2.2.2.2.2.2.2.2.2.2.2.2.1.set (v11).toNat ((rdAt (t := t40) y10.2.2.2.2.2.2.2.2.2.2.2.2.2.1 v11 : D40).1, y10.2.1.2.2.1, (rdAt (t := t40) y10.2.2.2.2.2.2.2.2.2.2.2.2.2.1 v11 : D40).2.2)), ()), ())
else none
else none) (
some ((y10.2.2.2.2.2.2.2.1, y10.2.2.2.2.2.2.2.2.1, y10.2.2.2.2.2.2.2.2.2.1, y10.2.2.2.2.2.2.2.2.2.2.1, y10.2.2.2.2.2.2.2.2.2.2.2.2.2), ()))
else none
else none

noncomputable def ps8 : List Ty := [t25]
noncomputable def rs8 : List Ty := [t31]
noncomputable def ty8 : List (TypeId × Ty) := [(3, (.int .i64)), (9, .str), (22, (.sl 68 t67)), (26, t25), (27, (.sl 3 (.int .i64))), (30, (.sl 41 t40)), (32, t31), (41, t40), (68, t67)]
noncomputable def by8 : List (TypeId × Nat) := [(3, 8), (41, 48), (68, 56)]
noncomputable def eq8 : List TypeId := []
noncomputable def E8 (g13 : (D40 × (D40 × Unit)) → Option D159) (g32 : (D25 × Unit) → Option ((List Int) × Unit)) (g33 : (D25 × (Int × Unit)) → Option (D40 × Unit)) : Go.V.Env := { ty := ty8, bytes := by8, fn := [(13, { ps := [t40, t40], rs := [.bool], f := g13 }), (32, { ps := [t25], rs := [(.sl 3 (.int .i64))], f := g32 }), (33, { ps := [t25, (.int .i64)], rs := [t40], f := g33 })], eqs := eq8, inl := [] }
noncomputable def M8 (g13 : (D40 × (D40 × Unit)) → Option D159) (g32 : (D25 × Unit) → Option ((List Int) × Unit)) (g33 : (D25 × (Int × Unit)) → Option (D40 × Unit)) : List (Nat × Go.V.Mark (Ty.prods rs8).den) := [(116, { ins := L8_0i, outs := L8_0o, ex := some 0, f := fun N => L8_0 N g13 g32 g33 })]
noncomputable def C8 (N : Nat) (g13 : (D40 × (D40 × Unit)) → Option D159) (g32 : (D25 × Unit) → Option ((List Int) × Unit)) (g33 : (D25 × (Int × Unit)) → Option (D40 × Unit)) : Go.V.Ctx (Ty.prods rs8).den := { E := E8 g13 g32 g33, n := Go.Proofs.Try.f8.ntmps, marks := M8 g13 g32 g33, fin := Go.V.finish (E8 g13 g32 g33) Go.Proofs.Try.f8 rs8, N }
noncomputable def c8 : Code := (Go.Proofs.Try.f8.body).getD .skip

theorem tab8 : tablesB Go.Proofs.Try.prog ty8 by8 eq8 = true := by kernel_rfl
theorem oL8_0 (N : Nat) (g13 : (D40 × (D40 × Unit)) → Option D159) (g32 : (D25 × Unit) → Option ((List Int) × Unit)) (g33 : (D25 × (Int × Unit)) → Option (D40 × Unit)) : (Obl.loop { ins := L8_0i, outs := L8_0o, ex := some 0, f := fun N => L8_0 N g13 g32 g33 } 116 (subc [true, true, false, true, false, false] c8) : Obl (Ty.prods rs8).den).holds (C8 N g13 g32 g33) := by
  intro x Kx
  exact ⟨by kernel_rfl, fun k => by kernel_rfl⟩
theorem ob8 (N : Nat) (g13 : (D40 × (D40 × Unit)) → Option D159) (g32 : (D25 × Unit) → Option ((List Int) × Unit)) (g33 : (D25 × (Int × Unit)) → Option (D40 × Unit)) : obls (C8 N g13 g32 g33) 1 c8 = [.loop { ins := L8_0i, outs := L8_0o, ex := some 0, f := fun N => L8_0 N g13 g32 g33 } 116 (subc [true, true, false, true, false, false] c8)] := by kernel_rfl
theorem eF8 (N : Nat) (g13 : (D40 × (D40 × Unit)) → Option D159) (g32 : (D25 × Unit) → Option ((List Int) × Unit)) (g33 : (D25 × (Int × Unit)) → Option (D40 × Unit)) (x : (Ty.prods ps8).den) : Go.V.evBody (E8 g13 g32 g33) Go.Proofs.Try.f8 rs8 (M8 g13 g32 g33) N (Go.V.start Go.Proofs.Try.f8 ps8 x) = F8 N g13 g32 g33 x := by kernel_rfl
theorem s8 (N : Nat) (g13 : (D40 × (D40 × Unit)) → Option D159) (g32 : (D25 × Unit) → Option ((List Int) × Unit)) (g33 : (D25 × (Int × Unit)) → Option (D40 × Unit)) (h13 : Sound Go.Proofs.Try.prog 13 { ps := [t40, t40], rs := [.bool], f := g13 }) (h32 : Sound Go.Proofs.Try.prog 32 { ps := [t25], rs := [(.sl 3 (.int .i64))], f := g32 }) (h33 : Sound Go.Proofs.Try.prog 33 { ps := [t25, (.int .i64)], rs := [t40], f := g33 }) : Sound Go.Proofs.Try.prog 8 { ps := ps8, rs := rs8, f := F8 N g13 g32 g33 } := by
  have hE : EnvOk Go.Proofs.Try.prog (E8 g13 g32 g33) := env_ok tab8 (by
    intro p hp
    simp only [List.mem_cons, List.not_mem_nil, or_false] at hp
    rcases hp with rfl | rfl | rfl
    · exact ⟨h13, Go.Proofs.Try.f13, Go.Proofs.Try.func13, by kernel_rfl, by kernel_rfl⟩
    · exact ⟨h32, Go.Proofs.Try.f32, Go.Proofs.Try.func32, by kernel_rfl, by kernel_rfl⟩
    · exact ⟨h33, Go.Proofs.Try.f33, Go.Proofs.Try.func33, by kernel_rfl, by kernel_rfl⟩) (by
    intro p hp
    cases hp)
  have h := fn_sound hE (by kernel_rfl) Go.Proofs.Try.func8 (show Go.Proofs.Try.f8.body = some c8 by kernel_rfl) ps8 rs8 (M8 g13 g32 g33) N (by
    intro o ho
    have ho : o ∈ obls (C8 N g13 g32 g33) 1 c8 := ho
    rw [ob8] at ho
    simp only [List.mem_cons, List.not_mem_nil, or_false] at ho
    rcases ho with rfl
    · exact oL8_0 N g13 g32 g33)
  have e : (fun x => Go.V.evBody (E8 g13 g32 g33) Go.Proofs.Try.f8 rs8 (M8 g13 g32 g33) N (Go.V.start Go.Proofs.Try.f8 ps8 x)) = F8 N g13 g32 g33 := funext fun x => eF8 N g13 g32 g33 x
  rw [e] at h
  exact h

end Go.Proofs.Ytkifmnocomadfaa
end

/- The reading of poundage poundageref19.On. -/
section
set_option linter.unusedVariables false
set_option maxRecDepth 100000
namespace Go.Proofs.Ytkifmnocomadfaa
open Go.V

noncomputable def L12_0i : Shape := { items := [.tm 1 (.int .i64), .tm 8 (.sl 41 t40), .tm 9 (.int .i64), .tm 10 (.int .i64)], boxes := [] }
noncomputable def L12_0o : Shape := { items := [], boxes := [] }
noncomputable def L12_0 (N : Nat) : Nat → (Int × ((List D40) × D146)) → (Unit → Option (Int × Unit)) → Option (Int × Unit)
| 0, _, _ => none
| k + 1, x1, Kx =>
cond (decide (x1.2.2.2.1 < x1.2.2.1)) (
if 0 ≤ x1.2.2.2.1 then
if x1.2.2.2.1 < (x1.2.1.length : Int) then
let e2 : D40 := rdAt (t := t40) x1.2.1 x1.2.2.2.1
cond (decide (e2.1 ≤ x1.1)) (
cond (decide (x1.1 ≤ e2.2.1)) (
some x1.2.2.2) (
L12_0 N k (x1.1, x1.2.1, x1.2.2.1, (IntKind.i64.wrap (x1.2.2.2.1 + (1 : Int))), ()) Kx)) (
L12_0 N k (x1.1, x1.2.1, x1.2.2.1, (IntKind.i64.wrap (x1.2.2.2.1 + (1 : Int))), ()) Kx)
else none
else none) (
Kx ())

noncomputable def F12 (N : Nat) : (D31 × (Int × Unit)) → Option (Int × Unit) := fun x =>
L12_0 N N (x.2.1, x.1.2.2.2.2.1, (x.1.2.2.2.2.1.length : Int), (0 : Int), ()) fun y3 =>
some ((-1 : Int), ())

noncomputable def ps12 : List Ty := [t31, (.int .i64)]
noncomputable def rs12 : List Ty := [(.int .i64)]
noncomputable def ty12 : List (TypeId × Ty) := [(3, (.int .i64)), (30, (.sl 41 t40)), (32, t31), (41, t40)]
noncomputable def by12 : List (TypeId × Nat) := []
noncomputable def eq12 : List TypeId := []
noncomputable def E12 : Go.V.Env := { ty := ty12, bytes := by12, fn := [], eqs := eq12, inl := [] }
noncomputable def M12 : List (Nat × Go.V.Mark (Ty.prods rs12).den) := [(52, { ins := L12_0i, outs := L12_0o, ex := some 0, f := fun N => L12_0 N })]
noncomputable def C12 (N : Nat) : Go.V.Ctx (Ty.prods rs12).den := { E := E12, n := Go.Proofs.Try.f12.ntmps, marks := M12, fin := Go.V.finish (E12) Go.Proofs.Try.f12 rs12, N }
noncomputable def c12 : Code := (Go.Proofs.Try.f12.body).getD .skip

theorem tab12 : tablesB Go.Proofs.Try.prog ty12 by12 eq12 = true := by kernel_rfl
theorem oL12_0 (N : Nat) : (Obl.loop { ins := L12_0i, outs := L12_0o, ex := some 0, f := fun N => L12_0 N } 52 (subc [true, false, true, false, false] c12) : Obl (Ty.prods rs12).den).holds (C12 N) := by
  intro x Kx
  exact ⟨by kernel_rfl, fun k => by kernel_rfl⟩
theorem ob12 (N : Nat) : obls (C12 N) 1 c12 = [.loop { ins := L12_0i, outs := L12_0o, ex := some 0, f := fun N => L12_0 N } 52 (subc [true, false, true, false, false] c12)] := by kernel_rfl
theorem eF12 (N : Nat) (x : (Ty.prods ps12).den) : Go.V.evBody (E12) Go.Proofs.Try.f12 rs12 (M12) N (Go.V.start Go.Proofs.Try.f12 ps12 x) = F12 N x := by kernel_rfl
theorem s12 (N : Nat) : Sound Go.Proofs.Try.prog 12 { ps := ps12, rs := rs12, f := F12 N } := by
  have hE : EnvOk Go.Proofs.Try.prog (E12) := env_ok tab12 (by
    intro p hp
    cases hp) (by
    intro p hp
    cases hp)
  have h := fn_sound hE (by kernel_rfl) Go.Proofs.Try.func12 (show Go.Proofs.Try.f12.body = some c12 by kernel_rfl) ps12 rs12 (M12) N (by
    intro o ho
    have ho : o ∈ obls (C12 N) 1 c12 := ho
    rw [ob12] at ho
    simp only [List.mem_cons, List.not_mem_nil, or_false] at ho
    rcases ho with rfl
    · exact oL12_0 N)
  have e : (fun x => Go.V.evBody (E12) Go.Proofs.Try.f12 rs12 (M12) N (Go.V.start Go.Proofs.Try.f12 ps12 x)) = F12 N := funext fun x => eF12 N x
  rw [e] at h
  exact h

end Go.Proofs.Ytkifmnocomadfaa
end

/- The reading of poundage poundageref15.At. -/
section
set_option linter.unusedVariables false
set_option maxRecDepth 100000
namespace Go.Proofs.Ytkifmnocomadfaa
open Go.V

noncomputable def L26_1i : Shape := { items := [.tm 1 (.int .i64), .tm 6 (.int .i64), .tm 7 .bool, .ptr 9 0 0, .bx 0 0 t77, .tm 10 (.int .i64), .tm 20 (.sl 78 t77), .tm 21 (.int .i64), .tm 22 (.int .i64)], boxes := [78] }
noncomputable def L26_1o : Shape := { items := [.tm 1 (.int .i64), .tm 6 (.int .i64), .tm 7 .bool, .tm 20 (.sl 78 t77), .tm 21 (.int .i64), .tm 22 (.int .i64)], boxes := [] }
noncomputable def L26_1 (N : Nat) : Nat → (Int × (Int × (Bool × (Unit × (D77 × (Int × ((List D77) × D146))))))) → ((Int × (Int × (Bool × ((List D77) × D146)))) → Option (Int × D159)) → Option (Int × D159)
| 0, _, _ => none
| k + 1, x3, Kx =>
cond (decide (x3.2.2.2.2.1.2.2.1 > (0 : Int))) (
cond (decide (x3.2.2.2.2.2.1 < x3.2.2.2.2.1.2.2.2.2.1)) (
if x3.2.2.2.2.1.2.2.1 = 0 then none else
cond (decide (x3.2.2.2.2.2.1 ≤ (IntKind.i64.wrap ((IntKind.i64.wrap (x3.1 - x3.2.2.2.2.1.1)).tdiv x3.2.2.2.2.1.2.2.1)))) (
let v4 := (IntKind.i64.wrap (x3.2.1 + x3.2.2.2.2.1.2.2.2.1))
L26_1 N k (x3.1, v4, x3.2.2.1, (), x3.2.2.2.2.1, (IntKind.i64.wrap (x3.2.2.2.2.2.1 + (1 : Int))), x3.2.2.2.2.2.2.1, x3.2.2.2.2.2.2.2.1, x3.2.2.2.2.2.2.2.2.1, ()) Kx) (
Kx (x3.1, x3.2.1, x3.2.2.1, x3.2.2.2.2.2.2.1, x3.2.2.2.2.2.2.2.1, x3.2.2.2.2.2.2.2.2.1, ()))) (
Kx (x3.1, x3.2.1, x3.2.2.1, x3.2.2.2.2.2.2.1, x3.2.2.2.2.2.2.2.1, x3.2.2.2.2.2.2.2.2.1, ()))) (
Kx (x3.1, x3.2.1, x3.2.2.1, x3.2.2.2.2.2.2.1, x3.2.2.2.2.2.2.2.1, x3.2.2.2.2.2.2.2.2.1, ()))

noncomputable def L26_0i : Shape := { items := [.tm 1 (.int .i64), .tm 6 (.int .i64), .tm 7 .bool, .tm 20 (.sl 78 t77), .tm 21 (.int .i64), .tm 22 (.int .i64)], boxes := [] }
noncomputable def L26_0o : Shape := { items := [.tm 6 (.int .i64), .tm 7 .bool], boxes := [] }
noncomputable def L26_0 (N : Nat) : Nat → (Int × (Int × (Bool × ((List D77) × D146)))) → ((Int × D159) → Option (Int × D159)) → Option (Int × D159)
| 0, _, _ => none
| k + 1, x1, Kx =>
cond (decide (x1.2.2.2.2.2.1 < x1.2.2.2.2.1)) (
if 0 ≤ x1.2.2.2.2.2.1 then
if x1.2.2.2.2.2.1 < (x1.2.2.2.1.length : Int) then
let e2 : D77 := rdAt (t := t77) x1.2.2.2.1 x1.2.2.2.2.2.1
cond (decide (e2.1 > x1.1)) (
L26_0 N k (x1.1, x1.2.1, x1.2.2.1, x1.2.2.2.1, x1.2.2.2.2.1, (IntKind.i64.wrap (x1.2.2.2.2.2.1 + (1 : Int))), ()) Kx) (
cond (decide (e2.1 < (0 : Int))) (
L26_0 N k (x1.1, x1.2.1, x1.2.2.1, x1.2.2.2.1, x1.2.2.2.2.1, (IntKind.i64.wrap (x1.2.2.2.2.2.1 + (1 : Int))), ()) Kx) (
L26_1 N N (x1.1, e2.2.1, true, (), e2, (1 : Int), x1.2.2.2.1, x1.2.2.2.2.1, x1.2.2.2.2.2.1, ()) fun y5 =>
L26_0 N k (y5.1, y5.2.1, y5.2.2.1, y5.2.2.2.1, y5.2.2.2.2.1, (IntKind.i64.wrap (y5.2.2.2.2.2.1 + (1 : Int))), ()) Kx))
else none
else none) (
Kx (x1.2.1, x1.2.2.1, ()))

noncomputable def F26 (N : Nat) : (D52 × (Int × Unit)) → Option (Int × D159) := fun x =>
cond (decide (x.2.1 < (0 : Int))) (
some ((0 : Int), false, ())) (
cond (decide (x.2.1 > x.1.1)) (
some ((0 : Int), false, ())) (
L26_0 N N (x.2.1, (0 : Int), false, x.1.2.1, (x.1.2.1.length : Int), (0 : Int), ()) fun y6 =>
some y6))

noncomputable def ps26 : List Ty := [t52, (.int .i64)]
noncomputable def rs26 : List Ty := [(.int .i64), .bool]
noncomputable def ty26 : List (TypeId × Ty) := [(3, (.int .i64)), (51, (.sl 78 t77)), (53, t52), (78, t77)]
noncomputable def by26 : List (TypeId × Nat) := []
noncomputable def eq26 : List TypeId := []
noncomputable def E26 : Go.V.Env := { ty := ty26, bytes := by26, fn := [], eqs := eq26, inl := [] }
noncomputable def M26 : List (Nat × Go.V.Mark (Ty.prods rs26).den) := [(501372, { ins := L26_1i, outs := L26_1o, ex := some 2, f := fun N => L26_1 N }), (244, { ins := L26_0i, outs := L26_0o, ex := some 0, f := fun N => L26_0 N })]
noncomputable def C26 (N : Nat) : Go.V.Ctx (Ty.prods rs26).den := { E := E26, n := Go.Proofs.Try.f26.ntmps, marks := M26, fin := Go.V.finish (E26) Go.Proofs.Try.f26 rs26, N }
noncomputable def c26 : Code := (Go.Proofs.Try.f26.body).getD .skip

theorem tab26 : tablesB Go.Proofs.Try.prog ty26 by26 eq26 = true := by kernel_rfl
theorem oL26_0 (N : Nat) : (Obl.loop { ins := L26_0i, outs := L26_0o, ex := some 0, f := fun N => L26_0 N } 244 (subc [true, true, true, false, true, false, false] c26) : Obl (Ty.prods rs26).den).holds (C26 N) := by
  intro x Kx
  exact ⟨by kernel_rfl, fun k => by kernel_rfl⟩
theorem oL26_1 (N : Nat) : (Obl.loop { ins := L26_1i, outs := L26_1o, ex := some 2, f := fun N => L26_1 N } 501372 (subc [true, true, true, false, true, false, false, true, true, false, false, true, true, true, true, true, false, false] c26) : Obl (Ty.prods rs26).den).holds (C26 N) := by
  intro x Kx
  exact ⟨by kernel_rfl, fun k => by kernel_rfl⟩
theorem ob26 (N : Nat) : obls (C26 N) 1 c26 = [.loop { ins := L26_0i, outs := L26_0o, ex := some 0, f := fun N => L26_0 N } 244 (subc [true, true, true, false, true, false, false] c26), .loop { ins := L26_1i, outs := L26_1o, ex := some 2, f := fun N => L26_1 N } 501372 (subc [true, true, true, false, true, false, false, true, true, false, false, true, true, true, true, true, false, false] c26)] := by kernel_rfl
theorem eF26 (N : Nat) (x : (Ty.prods ps26).den) : Go.V.evBody (E26) Go.Proofs.Try.f26 rs26 (M26) N (Go.V.start Go.Proofs.Try.f26 ps26 x) = F26 N x := by kernel_rfl
theorem s26 (N : Nat) : Sound Go.Proofs.Try.prog 26 { ps := ps26, rs := rs26, f := F26 N } := by
  have hE : EnvOk Go.Proofs.Try.prog (E26) := env_ok tab26 (by
    intro p hp
    cases hp) (by
    intro p hp
    cases hp)
  have h := fn_sound hE (by kernel_rfl) Go.Proofs.Try.func26 (show Go.Proofs.Try.f26.body = some c26 by kernel_rfl) ps26 rs26 (M26) N (by
    intro o ho
    have ho : o ∈ obls (C26 N) 1 c26 := ho
    rw [ob26] at ho
    simp only [List.mem_cons, List.not_mem_nil, or_false] at ho
    rcases ho with rfl | rfl
    · exact oL26_0 N
    · exact oL26_1 N)
  have e : (fun x => Go.V.evBody (E26) Go.Proofs.Try.f26 rs26 (M26) N (Go.V.start Go.Proofs.Try.f26 ps26 x)) = F26 N := funext fun x => eF26 N x
  rw [e] at h
  exact h

end Go.Proofs.Ytkifmnocomadfaa
end

/- The reading of poundage poundageref19.Price. -/
section
set_option linter.unusedVariables false
set_option maxRecDepth 100000
namespace Go.Proofs.Ytkifmnocomadfaa
open Go.V

noncomputable def L10_0i : Shape := { items := [.ptr 3 0 0, .bx 0 0 t31, .tm 8 (.int .i64), .tm 9 (.int .i64), .tm 33 (.sl 3 (.int .i64)), .tm 34 (.int .i64), .tm 35 (.int .i64)], boxes := [32] }
noncomputable def L10_0o : Shape := { items := [.tm 9 (.int .i64)], boxes := [] }
noncomputable def L10_0 (N : Nat) (g12 : (D31 × (Int × Unit)) → Option (Int × Unit)) (g26 : (D52 × (Int × Unit)) → Option (Int × D159)) : Nat → (Unit × (D31 × (Int × (Int × ((List Int) × D146))))) → ((Int × Unit) → Option D146) → Option D146
| 0, _, _ => none
| k + 1, x3, Kx =>
cond (decide (x3.2.2.2.2.2.2.1 < x3.2.2.2.2.2.1)) (
if 0 ≤ x3.2.2.2.2.2.2.1 then
if x3.2.2.2.2.2.2.1 < (x3.2.2.2.2.1.length : Int) then
let v4 := (rdAt (t := (.int .i64)) x3.2.2.2.2.1 x3.2.2.2.2.2.2.1)
if 0 ≤ x3.2.2.1 then
if x3.2.2.1 < (x3.2.1.2.2.2.2.1.length : Int) then
let e5 : D40 := rdAt (t := t40) x3.2.1.2.2.2.2.1 x3.2.2.1
if 0 ≤ x3.2.2.2.2.2.2.1 then
if x3.2.2.2.2.2.2.1 < (e5.2.2.2.1.length : Int) then
let e6 : D52 := rdAt (t := t52) e5.2.2.2.1 x3.2.2.2.2.2.2.1
(g26 (e6, v4, ())).bind fun r7 =>
cond (!r7.2.1) (
some ((0 : Int), (8 : Int), ())) (
L10_0 N g12 g26 k ((), x3.2.1, x3.2.2.1, (IntKind.i64.wrap (x3.2.2.2.1 + r7.1)), x3.2.2.2.2.1, x3.2.2.2.2.2.1, (IntKind.i64.wrap (x3.2.2.2.2.2.2.1 + (1 : Int))), ()) Kx)
else none
else none
else none
else none
else none
else none) (
Kx (x3.2.2.2.1, ()))

noncomputable def F10 (N : Nat) (g12 : (D31 × (Int × Unit)) → Option (Int × Unit)) (g26 : (D52 × (Int × Unit)) → Option (Int × D159)) : (D31 × (Int × ((List Int) × Unit))) → Option D146 := fun x =>
(g12 (x.1, x.2.1, ())).bind fun r1 =>
cond (decide (r1.1 < (0 : Int))) (
some ((0 : Int), (8 : Int), ())) (
cond ((x.2.2.1.length : Int) != (x.1.2.2.2.1.length : Int)) (
some ((0 : Int), (8 : Int), ())) (
if 0 ≤ r1.1 then
if r1.1 < (x.1.2.2.2.2.1.length : Int) then
let e2 : D40 := rdAt (t := t40) x.1.2.2.2.2.1 r1.1
L10_0 N g12 g26 N ((), x.1, r1.1, e2.2.2.1, x.2.2.1, (x.2.2.1.length : Int), (0 : Int), ()) fun y8 =>
some (y8.1, (0 : Int), ())
else none
else none))

noncomputable def ps10 : List Ty := [t31, (.int .i64), (.sl 3 (.int .i64))]
noncomputable def rs10 : List Ty := [(.int .i64), (.int .i64)]
noncomputable def ty10 : List (TypeId × Ty) := [(3, (.int .i64)), (22, (.sl 68 t67)), (27, (.sl 3 (.int .i64))), (30, (.sl 41 t40)), (32, t31), (39, (.sl 53 t52)), (41, t40), (53, t52), (68, t67)]
noncomputable def by10 : List (TypeId × Nat) := []
noncomputable def eq10 : List TypeId := []
noncomputable def E10 (g12 : (D31 × (Int × Unit)) → Option (Int × Unit)) (g26 : (D52 × (Int × Unit)) → Option (Int × D159)) : Go.V.Env := { ty := ty10, bytes := by10, fn := [(12, { ps := [t31, (.int .i64)], rs := [(.int .i64)], f := g12 }), (26, { ps := [t52, (.int .i64)], rs := [(.int .i64), .bool], f := g26 })], eqs := eq10, inl := [] }
noncomputable def M10 (g12 : (D31 × (Int × Unit)) → Option (Int × Unit)) (g26 : (D52 × (Int × Unit)) → Option (Int × D159)) : List (Nat × Go.V.Mark (Ty.prods rs10).den) := [(500, { ins := L10_0i, outs := L10_0o, ex := some 0, f := fun N => L10_0 N g12 g26 })]
noncomputable def C10 (N : Nat) (g12 : (D31 × (Int × Unit)) → Option (Int × Unit)) (g26 : (D52 × (Int × Unit)) → Option (Int × D159)) : Go.V.Ctx (Ty.prods rs10).den := { E := E10 g12 g26, n := Go.Proofs.Try.f10.ntmps, marks := M10 g12 g26, fin := Go.V.finish (E10 g12 g26) Go.Proofs.Try.f10 rs10, N }
noncomputable def c10 : Code := (Go.Proofs.Try.f10.body).getD .skip

theorem tab10 : tablesB Go.Proofs.Try.prog ty10 by10 eq10 = true := by kernel_rfl
theorem oL10_0 (N : Nat) (g12 : (D31 × (Int × Unit)) → Option (Int × Unit)) (g26 : (D52 × (Int × Unit)) → Option (Int × D159)) : (Obl.loop { ins := L10_0i, outs := L10_0o, ex := some 0, f := fun N => L10_0 N g12 g26 } 500 (subc [true, true, true, true, false, true, false, false] c10) : Obl (Ty.prods rs10).den).holds (C10 N g12 g26) := by
  intro x Kx
  exact ⟨by kernel_rfl, fun k => by kernel_rfl⟩
theorem ob10 (N : Nat) (g12 : (D31 × (Int × Unit)) → Option (Int × Unit)) (g26 : (D52 × (Int × Unit)) → Option (Int × D159)) : obls (C10 N g12 g26) 1 c10 = [.loop { ins := L10_0i, outs := L10_0o, ex := some 0, f := fun N => L10_0 N g12 g26 } 500 (subc [true, true, true, true, false, true, false, false] c10)] := by kernel_rfl
theorem eF10 (N : Nat) (g12 : (D31 × (Int × Unit)) → Option (Int × Unit)) (g26 : (D52 × (Int × Unit)) → Option (Int × D159)) (x : (Ty.prods ps10).den) : Go.V.evBody (E10 g12 g26) Go.Proofs.Try.f10 rs10 (M10 g12 g26) N (Go.V.start Go.Proofs.Try.f10 ps10 x) = F10 N g12 g26 x := by kernel_rfl
theorem s10 (N : Nat) (g12 : (D31 × (Int × Unit)) → Option (Int × Unit)) (g26 : (D52 × (Int × Unit)) → Option (Int × D159)) (h12 : Sound Go.Proofs.Try.prog 12 { ps := [t31, (.int .i64)], rs := [(.int .i64)], f := g12 }) (h26 : Sound Go.Proofs.Try.prog 26 { ps := [t52, (.int .i64)], rs := [(.int .i64), .bool], f := g26 }) : Sound Go.Proofs.Try.prog 10 { ps := ps10, rs := rs10, f := F10 N g12 g26 } := by
  have hE : EnvOk Go.Proofs.Try.prog (E10 g12 g26) := env_ok tab10 (by
    intro p hp
    simp only [List.mem_cons, List.not_mem_nil, or_false] at hp
    rcases hp with rfl | rfl
    · exact ⟨h12, Go.Proofs.Try.f12, Go.Proofs.Try.func12, by kernel_rfl, by kernel_rfl⟩
    · exact ⟨h26, Go.Proofs.Try.f26, Go.Proofs.Try.func26, by kernel_rfl, by kernel_rfl⟩) (by
    intro p hp
    cases hp)
  have h := fn_sound hE (by kernel_rfl) Go.Proofs.Try.func10 (show Go.Proofs.Try.f10.body = some c10 by kernel_rfl) ps10 rs10 (M10 g12 g26) N (by
    intro o ho
    have ho : o ∈ obls (C10 N g12 g26) 1 c10 := ho
    rw [ob10] at ho
    simp only [List.mem_cons, List.not_mem_nil, or_false] at ho
    rcases ho with rfl
    · exact oL10_0 N g12 g26)
  have e : (fun x => Go.V.evBody (E10 g12 g26) Go.Proofs.Try.f10 rs10 (M10 g12 g26) N (Go.V.start Go.Proofs.Try.f10 ps10 x)) = F10 N g12 g26 := funext fun x => eF10 N g12 g26 x
  rw [e] at h
  exact h

end Go.Proofs.Ytkifmnocomadfaa
end

/- The reading of poundage poundagelaw19.LookupIs. -/
section
set_option linter.unusedVariables false
set_option maxRecDepth 100000
namespace Go.Proofs.Ytkifmnocomadfaa
open Go.V

noncomputable def F3 (N : Nat) (g6 : Unit → Option D159) (g7 : (D25 × Unit) → Option D159) (g8 : (D25 × Unit) → Option (D31 × Unit)) (g9 : (D31 × (Int × ((List Int) × Unit))) → Option D146) (g10 : (D31 × (Int × ((List Int) × Unit))) → Option D146) (g11 : (D31 × (Int × Unit)) → Option (D40 × D159)) (g12 : (D31 × (Int × Unit)) → Option (Int × Unit)) (g13 : (D40 × (D40 × Unit)) → Option D159) : (D25 × (Int × ((List Int) × Unit))) → Option D159 := fun x =>
(g6 ()).bind fun r1 =>
cond (!r1.1) (
some (false, ())) (
(g7 (x.1, ())).bind fun r2 =>
cond (!r2.1) (
some (true, ())) (
cond (decide ((x.2.2.1.length : Int) > (100 : Int))) (
some (true, ())) (
(g8 (x.1, ())).bind fun r3 =>
(g9 (r3.1, x.2)).bind fun r4 =>
(g10 (r3.1, x.2)).bind fun r5 =>
(g11 (r3.1, x.2.1, ())).bind fun r6 =>
(g12 (r3.1, x.2.1, ())).bind fun r7 =>
cond (r4.1 != r5.1) (
some (false, ())) (
cond (r4.2.1 != r5.2.1) (
some (false, ())) (
cond (!(r6.2.1 == (decide (r7.1 ≥ (0 : Int))))) (
some (false, ())) (
cond (!r6.2.1) (
cond (r6.1.2.1 == (0 : Int)) (
cond ((r6.1.2.2.2.1.length : Int) == (0 : Int)) (
some (true, ())) (
cond r6.2.1 (
if 0 ≤ r7.1 then
if r7.1 < (r3.1.2.2.2.2.1.length : Int) then
let e8 : D40 := rdAt (t := t40) r3.1.2.2.2.2.1 r7.1
cond (r6.1.1 == e8.1) (
if 0 ≤ r7.1 then
if r7.1 < (r3.1.2.2.2.2.1.length : Int) then
let e9 : D40 := rdAt (t := t40) r3.1.2.2.2.2.1 r7.1
cond (r6.1.2.1 == e9.2.1) (
if 0 ≤ r7.1 then
if r7.1 < (r3.1.2.2.2.2.1.length : Int) then
let e10 : D40 := rdAt (t := t40) r3.1.2.2.2.2.1 r7.1
(g13 (r6.1, e10, ())).bind fun r11 =>
some r11
else none
else none) (
some (false, ()))
else none
else none) (
some (false, ()))
else none
else none) (
some (false, ())))) (
cond r6.2.1 (
if 0 ≤ r7.1 then
if r7.1 < (r3.1.2.2.2.2.1.length : Int) then
let e12 : D40 := rdAt (t := t40) r3.1.2.2.2.2.1 r7.1
cond (r6.1.1 == e12.1) (
if 0 ≤ r7.1 then
if r7.1 < (r3.1.2.2.2.2.1.length : Int) then
let e13 : D40 := rdAt (t := t40) r3.1.2.2.2.2.1 r7.1
cond (r6.1.2.1 == e13.2.1) (
if 0 ≤ r7.1 then
if r7.1 < (r3.1.2.2.2.2.1.length : Int) then
let e14 : D40 := rdAt (t := t40) r3.1.2.2.2.2.1 r7.1
(g13 (r6.1, e14, ())).bind fun r15 =>
some r15
else none
else none) (
some (false, ()))
else none
else none) (
some (false, ()))
else none
else none) (
some (false, ())))) (
cond r6.2.1 (
if 0 ≤ r7.1 then
if r7.1 < (r3.1.2.2.2.2.1.length : Int) then
let e16 : D40 := rdAt (t := t40) r3.1.2.2.2.2.1 r7.1
cond (r6.1.1 == e16.1) (
if 0 ≤ r7.1 then
if r7.1 < (r3.1.2.2.2.2.1.length : Int) then
let e17 : D40 := rdAt (t := t40) r3.1.2.2.2.2.1 r7.1
cond (r6.1.2.1 == e17.2.1) (
if 0 ≤ r7.1 then
if r7.1 < (r3.1.2.2.2.2.1.length : Int) then
let e18 : D40 := rdAt (t := t40) r3.1.2.2.2.2.1 r7.1
(g13 (r6.1, e18, ())).bind fun r19 =>
some r19
else none
else none) (
some (false, ()))
else none
else none) (
some (false, ()))
else none
else none) (
some (false, ())))))))))

noncomputable def ps3 : List Ty := [t25, (.int .i64), (.sl 3 (.int .i64))]
noncomputable def rs3 : List Ty := [.bool]
noncomputable def ty3 : List (TypeId × Ty) := [(3, (.int .i64)), (4, .bool), (26, t25), (27, (.sl 3 (.int .i64))), (30, (.sl 41 t40)), (32, t31), (39, (.sl 53 t52)), (41, t40), (53, t52)]
noncomputable def by3 : List (TypeId × Nat) := []
noncomputable def eq3 : List TypeId := []
noncomputable def E3 (g6 : Unit → Option D159) (g7 : (D25 × Unit) → Option D159) (g8 : (D25 × Unit) → Option (D31 × Unit)) (g9 : (D31 × (Int × ((List Int) × Unit))) → Option D146) (g10 : (D31 × (Int × ((List Int) × Unit))) → Option D146) (g11 : (D31 × (Int × Unit)) → Option (D40 × D159)) (g12 : (D31 × (Int × Unit)) → Option (Int × Unit)) (g13 : (D40 × (D40 × Unit)) → Option D159) : Go.V.Env := { ty := ty3, bytes := by3, fn := [(6, { ps := [], rs := [.bool], f := g6 }), (7, { ps := [t25], rs := [.bool], f := g7 }), (8, { ps := [t25], rs := [t31], f := g8 }), (9, { ps := [t31, (.int .i64), (.sl 3 (.int .i64))], rs := [(.int .i64), (.int .i64)], f := g9 }), (10, { ps := [t31, (.int .i64), (.sl 3 (.int .i64))], rs := [(.int .i64), (.int .i64)], f := g10 }), (11, { ps := [t31, (.int .i64)], rs := [t40, .bool], f := g11 }), (12, { ps := [t31, (.int .i64)], rs := [(.int .i64)], f := g12 }), (13, { ps := [t40, t40], rs := [.bool], f := g13 })], eqs := eq3, inl := [] }
noncomputable def M3 (g6 : Unit → Option D159) (g7 : (D25 × Unit) → Option D159) (g8 : (D25 × Unit) → Option (D31 × Unit)) (g9 : (D31 × (Int × ((List Int) × Unit))) → Option D146) (g10 : (D31 × (Int × ((List Int) × Unit))) → Option D146) (g11 : (D31 × (Int × Unit)) → Option (D40 × D159)) (g12 : (D31 × (Int × Unit)) → Option (Int × Unit)) (g13 : (D40 × (D40 × Unit)) → Option D159) : List (Nat × Go.V.Mark (Ty.prods rs3).den) := []
noncomputable def C3 (N : Nat) (g6 : Unit → Option D159) (g7 : (D25 × Unit) → Option D159) (g8 : (D25 × Unit) → Option (D31 × Unit)) (g9 : (D31 × (Int × ((List Int) × Unit))) → Option D146) (g10 : (D31 × (Int × ((List Int) × Unit))) → Option D146) (g11 : (D31 × (Int × Unit)) → Option (D40 × D159)) (g12 : (D31 × (Int × Unit)) → Option (Int × Unit)) (g13 : (D40 × (D40 × Unit)) → Option D159) : Go.V.Ctx (Ty.prods rs3).den := { E := E3 g6 g7 g8 g9 g10 g11 g12 g13, n := Go.Proofs.Try.f3.ntmps, marks := M3 g6 g7 g8 g9 g10 g11 g12 g13, fin := Go.V.finish (E3 g6 g7 g8 g9 g10 g11 g12 g13) Go.Proofs.Try.f3 rs3, N }
noncomputable def c3 : Code := (Go.Proofs.Try.f3.body).getD .skip

theorem tab3 : tablesB Go.Proofs.Try.prog ty3 by3 eq3 = true := by kernel_rfl
theorem ob3 (N : Nat) (g6 : Unit → Option D159) (g7 : (D25 × Unit) → Option D159) (g8 : (D25 × Unit) → Option (D31 × Unit)) (g9 : (D31 × (Int × ((List Int) × Unit))) → Option D146) (g10 : (D31 × (Int × ((List Int) × Unit))) → Option D146) (g11 : (D31 × (Int × Unit)) → Option (D40 × D159)) (g12 : (D31 × (Int × Unit)) → Option (Int × Unit)) (g13 : (D40 × (D40 × Unit)) → Option D159) : obls (C3 N g6 g7 g8 g9 g10 g11 g12 g13) 1 c3 = [] := by kernel_rfl
theorem eF3 (N : Nat) (g6 : Unit → Option D159) (g7 : (D25 × Unit) → Option D159) (g8 : (D25 × Unit) → Option (D31 × Unit)) (g9 : (D31 × (Int × ((List Int) × Unit))) → Option D146) (g10 : (D31 × (Int × ((List Int) × Unit))) → Option D146) (g11 : (D31 × (Int × Unit)) → Option (D40 × D159)) (g12 : (D31 × (Int × Unit)) → Option (Int × Unit)) (g13 : (D40 × (D40 × Unit)) → Option D159) (x : (Ty.prods ps3).den) : Go.V.evBody (E3 g6 g7 g8 g9 g10 g11 g12 g13) Go.Proofs.Try.f3 rs3 (M3 g6 g7 g8 g9 g10 g11 g12 g13) N (Go.V.start Go.Proofs.Try.f3 ps3 x) = F3 N g6 g7 g8 g9 g10 g11 g12 g13 x := by kernel_rfl
theorem s3 (N : Nat) (g6 : Unit → Option D159) (g7 : (D25 × Unit) → Option D159) (g8 : (D25 × Unit) → Option (D31 × Unit)) (g9 : (D31 × (Int × ((List Int) × Unit))) → Option D146) (g10 : (D31 × (Int × ((List Int) × Unit))) → Option D146) (g11 : (D31 × (Int × Unit)) → Option (D40 × D159)) (g12 : (D31 × (Int × Unit)) → Option (Int × Unit)) (g13 : (D40 × (D40 × Unit)) → Option D159) (h6 : Sound Go.Proofs.Try.prog 6 { ps := [], rs := [.bool], f := g6 }) (h7 : Sound Go.Proofs.Try.prog 7 { ps := [t25], rs := [.bool], f := g7 }) (h8 : Sound Go.Proofs.Try.prog 8 { ps := [t25], rs := [t31], f := g8 }) (h9 : Sound Go.Proofs.Try.prog 9 { ps := [t31, (.int .i64), (.sl 3 (.int .i64))], rs := [(.int .i64), (.int .i64)], f := g9 }) (h10 : Sound Go.Proofs.Try.prog 10 { ps := [t31, (.int .i64), (.sl 3 (.int .i64))], rs := [(.int .i64), (.int .i64)], f := g10 }) (h11 : Sound Go.Proofs.Try.prog 11 { ps := [t31, (.int .i64)], rs := [t40, .bool], f := g11 }) (h12 : Sound Go.Proofs.Try.prog 12 { ps := [t31, (.int .i64)], rs := [(.int .i64)], f := g12 }) (h13 : Sound Go.Proofs.Try.prog 13 { ps := [t40, t40], rs := [.bool], f := g13 }) : Sound Go.Proofs.Try.prog 3 { ps := ps3, rs := rs3, f := F3 N g6 g7 g8 g9 g10 g11 g12 g13 } := by
  have hE : EnvOk Go.Proofs.Try.prog (E3 g6 g7 g8 g9 g10 g11 g12 g13) := env_ok tab3 (by
    intro p hp
    simp only [List.mem_cons, List.not_mem_nil, or_false] at hp
    rcases hp with rfl | rfl | rfl | rfl | rfl | rfl | rfl | rfl
    · exact ⟨h6, Go.Proofs.Try.f6, Go.Proofs.Try.func6, by kernel_rfl, by kernel_rfl⟩
    · exact ⟨h7, Go.Proofs.Try.f7, Go.Proofs.Try.func7, by kernel_rfl, by kernel_rfl⟩
    · exact ⟨h8, Go.Proofs.Try.f8, Go.Proofs.Try.func8, by kernel_rfl, by kernel_rfl⟩
    · exact ⟨h9, Go.Proofs.Try.f9, Go.Proofs.Try.func9, by kernel_rfl, by kernel_rfl⟩
    · exact ⟨h10, Go.Proofs.Try.f10, Go.Proofs.Try.func10, by kernel_rfl, by kernel_rfl⟩
    · exact ⟨h11, Go.Proofs.Try.f11, Go.Proofs.Try.func11, by kernel_rfl, by kernel_rfl⟩
    · exact ⟨h12, Go.Proofs.Try.f12, Go.Proofs.Try.func12, by kernel_rfl, by kernel_rfl⟩
    · exact ⟨h13, Go.Proofs.Try.f13, Go.Proofs.Try.func13, by kernel_rfl, by kernel_rfl⟩) (by
    intro p hp
    cases hp)
  have h := fn_sound hE (by kernel_rfl) Go.Proofs.Try.func3 (show Go.Proofs.Try.f3.body = some c3 by kernel_rfl) ps3 rs3 (M3 g6 g7 g8 g9 g10 g11 g12 g13) N (by
    intro o ho
    have ho : o ∈ obls (C3 N g6 g7 g8 g9 g10 g11 g12 g13) 1 c3 := ho
    rw [ob3] at ho
    cases ho)
  have e : (fun x => Go.V.evBody (E3 g6 g7 g8 g9 g10 g11 g12 g13) Go.Proofs.Try.f3 rs3 (M3 g6 g7 g8 g9 g10 g11 g12 g13) N (Go.V.start Go.Proofs.Try.f3 ps3 x)) = F3 N g6 g7 g8 g9 g10 g11 g12 g13 := funext fun x => eF3 N g6 g7 g8 g9 g10 g11 g12 g13 x
  rw [e] at h
  exact h

end Go.Proofs.Ytkifmnocomadfaa
end

/- The reading of poundage line.Of int . -/
section
set_option linter.unusedVariables false
set_option maxRecDepth 100000
namespace Go.Proofs.Ytkifmnocomadfaa
open Go.V

noncomputable def L15_0i : Shape := { items := [.tm 0 (.int .i64), .ptr 4 0 0, .ptr 5 1 0, .tm 8 (.sl 3 (.int .i64)), .tm 9 (.int .i64), .tm 10 (.int .i64), .ownB 0 0 88 t87, .ownB 1 0 88 t87], boxes := [49, 49] }
noncomputable def L15_0o : Shape := { items := [.ptr 4 0 0, .ptr 5 1 0, .ownB 0 0 88 t87, .ownB 1 0 88 t87], boxes := [49, 49] }
noncomputable def L15_0 (N : Nat) : Nat → (Int × (Unit × (Unit × ((List Int) × (Int × (Int × ((List D87) × D48))))))) → ((Unit × (Unit × ((List D87) × D48))) → Option (D48 × Unit)) → Option (D48 × Unit)
| 0, _, _ => none
| k + 1, x1, Kx =>
cond (decide (x1.2.2.2.2.2.1 < x1.2.2.2.2.1)) (
if 0 ≤ x1.2.2.2.2.2.1 then
if x1.2.2.2.2.2.1 < (x1.2.2.2.1.length : Int) then
let v2 := (rdAt (t := (.int .i64)) x1.2.2.2.1 x1.2.2.2.2.2.1)
cond (decide ((x1.2.2.2.2.2.2.2.1.length : Int) > (0 : Int))) (
let v3 := (IntKind.i64.wrap ((x1.2.2.2.2.2.2.2.1.length : Int) - (1 : Int)))
if 0 ≤ v3 then
if v3 < (x1.2.2.2.2.2.2.2.1.length : Int) then
cond ((rdAt (t := t87) x1.2.2.2.2.2.2.2.1 v3 : D87).2.2.1 == v2) (
let v4 := (IntKind.i64.wrap ((x1.2.2.2.2.2.2.2.1.length : Int) - (1 : Int)))
if 0 ≤ v4 then
if v4 < (x1.2.2.2.2.2.2.2.1.length : Int) then
L15_0 N k (x1.1, (), (), x1.2.2.2.1, x1.2.2.2.2.1, (IntKind.i64.wrap (x1.2.2.2.2.2.1 + (1 : Int))), x1.2.2.2.2.2.2.1, (x1.2.2.2.2.2.2.2.1.set (v4).toNat ((rdAt (t := t87) x1.2.2.2.2.2.2.2.1 v4 : D87).1, (IntKind.i64.wrap (x1.1 + x1.2.2.2.2.2.1)), (rdAt (t := t87) x1.2.2.2.2.2.2.2.1 v4 : D87).2.2)), ()) Kx
else none
else none) (
if x1.2.2.2.2.2.2.2.1.length + 1 ≤ 5864062014805 then
let v5 := (x1.2.2.2.2.2.2.2.1 ++ [((IntKind.i64.wrap (x1.1 + x1.2.2.2.2.2.1)), (IntKind.i64.wrap (x1.1 + x1.2.2.2.2.2.1)), v2, ())])
L15_0 N k (x1.1, (), (), x1.2.2.2.1, x1.2.2.2.2.1, (IntKind.i64.wrap (x1.2.2.2.2.2.1 + (1 : Int))), x1.2.2.2.2.2.2.1, v5, ()) Kx
else none)
else none
else none) (
if x1.2.2.2.2.2.2.2.1.length + 1 ≤ 5864062014805 then
let v6 := (x1.2.2.2.2.2.2.2.1 ++ [((IntKind.i64.wrap (x1.1 + x1.2.2.2.2.2.1)), (IntKind.i64.wrap (x1.1 + x1.2.2.2.2.2.1)), v2, ())])
L15_0 N k (x1.1, (), (), x1.2.2.2.1, x1.2.2.2.2.1, (IntKind.i64.wrap (x1.2.2.2.2.2.1 + (1 : Int))), x1.2.2.2.2.2.2.1, v6, ()) Kx
else none)
else none
else none) (
Kx ((), (), x1.2.2.2.2.2.2.1, x1.2.2.2.2.2.2.2.1, ()))

noncomputable def F15 (N : Nat) : (Int × ((List Int) × Unit)) → Option (D48 × Unit) := fun x =>
L15_0 N N (x.1, (), (), x.2.1, (x.2.1.length : Int), (0 : Int), [], [], ()) fun y7 =>
some (y7.2.2.2, ())

noncomputable def ps15 : List Ty := [(.int .i64), (.sl 3 (.int .i64))]
noncomputable def rs15 : List Ty := [t48]
noncomputable def ty15 : List (TypeId × Ty) := [(3, (.int .i64)), (27, (.sl 3 (.int .i64))), (47, (.sl 88 t87)), (49, t48), (88, t87)]
noncomputable def by15 : List (TypeId × Nat) := [(88, 24)]
noncomputable def eq15 : List TypeId := []
noncomputable def E15 : Go.V.Env := { ty := ty15, bytes := by15, fn := [], eqs := eq15, inl := [(39, Go.Proofs.Try.f39)] }
noncomputable def M15 : List (Nat × Go.V.Mark (Ty.prods rs15).den) := [(116, { ins := L15_0i, outs := L15_0o, ex := some 0, f := fun N => L15_0 N })]
noncomputable def C15 (N : Nat) : Go.V.Ctx (Ty.prods rs15).den := { E := E15, n := Go.Proofs.Try.f15.ntmps, marks := M15, fin := Go.V.finish (E15) Go.Proofs.Try.f15 rs15, N }
noncomputable def c15 : Code := (Go.Proofs.Try.f15.body).getD .skip

theorem tab15 : tablesB Go.Proofs.Try.prog ty15 by15 eq15 = true := by kernel_rfl
theorem oL15_0 (N : Nat) : (Obl.loop { ins := L15_0i, outs := L15_0o, ex := some 0, f := fun N => L15_0 N } 116 (subc [true, true, false, true, false, false] c15) : Obl (Ty.prods rs15).den).holds (C15 N) := by
  intro x Kx
  exact ⟨by kernel_rfl, fun k => by kernel_rfl⟩
theorem ob15 (N : Nat) : obls (C15 N) 1 c15 = [.loop { ins := L15_0i, outs := L15_0o, ex := some 0, f := fun N => L15_0 N } 116 (subc [true, true, false, true, false, false] c15)] := by kernel_rfl
theorem eF15 (N : Nat) (x : (Ty.prods ps15).den) : Go.V.evBody (E15) Go.Proofs.Try.f15 rs15 (M15) N (Go.V.start Go.Proofs.Try.f15 ps15 x) = F15 N x := by kernel_rfl
theorem s15 (N : Nat) : Sound Go.Proofs.Try.prog 15 { ps := ps15, rs := rs15, f := F15 N } := by
  have hE : EnvOk Go.Proofs.Try.prog (E15) := env_ok tab15 (by
    intro p hp
    cases hp) (by
    intro p hp
    simp only [List.mem_cons, List.not_mem_nil, or_false] at hp
    rcases hp with rfl
    · exact ⟨Go.Proofs.Try.func39, by kernel_rfl, by kernel_rfl⟩)
  have h := fn_sound hE (by kernel_rfl) Go.Proofs.Try.func15 (show Go.Proofs.Try.f15.body = some c15 by kernel_rfl) ps15 rs15 (M15) N (by
    intro o ho
    have ho : o ∈ obls (C15 N) 1 c15 := ho
    rw [ob15] at ho
    simp only [List.mem_cons, List.not_mem_nil, or_false] at ho
    rcases ho with rfl
    · exact oL15_0 N)
  have e : (fun x => Go.V.evBody (E15) Go.Proofs.Try.f15 rs15 (M15) N (Go.V.start Go.Proofs.Try.f15 ps15 x)) = F15 N := funext fun x => eF15 N x
  rw [e] at h
  exact h

end Go.Proofs.Ytkifmnocomadfaa
end
