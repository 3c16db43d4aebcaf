/- The reading of poundage poundageref15.Same. -/
import Derived.Test.YtkifmnocomadfaaGTy
import Derived.Test.YtkifmnocomadfaaGTx
section
set_option linter.unusedVariables false
set_option maxRecDepth 100000
namespace Go.Proofs.Ytkifmnocomadfaa
open Go.V

noncomputable def L38_0i : Shape := { items := [.ptr 2 0 0, .bx 0 0 t52, .ptr 3 1 0, .bx 1 0 t52, .tm 22 (.int .i64), .tm 23 (.int .i64)], boxes := [53, 53] }
noncomputable def L38_0o : Shape := { items := [], boxes := [] }
noncomputable def L38_0 (N : Nat) : Nat → (Unit × (D52 × (Unit × (D52 × D146)))) → (Unit → Option D159) → Option D159
| 0, _, _ => none
| k + 1, x1, Kx =>
cond (decide (x1.2.2.2.2.2.1 < x1.2.2.2.2.1)) (
if 0 ≤ x1.2.2.2.2.2.1 then
if x1.2.2.2.2.2.1 < (x1.2.1.2.1.length : Int) then
let e2 : D77 := rdAt (t := t77) x1.2.1.2.1 x1.2.2.2.2.2.1
if 0 ≤ x1.2.2.2.2.2.1 then
if x1.2.2.2.2.2.1 < (x1.2.2.2.1.2.1.length : Int) then
let e3 : D77 := rdAt (t := t77) x1.2.2.2.1.2.1 x1.2.2.2.2.2.1
cond (!(e2.1 == e3.1 && (e2.2.1 == e3.2.1 && (e2.2.2.1 == e3.2.2.1 && (e2.2.2.2.1 == e3.2.2.2.1 && (e2.2.2.2.2.1 == e3.2.2.2.2.1)))))) (
some (false, ())) (
L38_0 N k ((), x1.2.1, (), x1.2.2.2.1, x1.2.2.2.2.1, (IntKind.i64.wrap (x1.2.2.2.2.2.1 + (1 : Int))), ()) Kx)
else none
else none
else none
else none) (
Kx ())

noncomputable def F38 (N : Nat) : (D52 × (D52 × Unit)) → Option D159 := fun x =>
cond (x.1.1 != x.2.1.1) (
some (false, ())) (
cond ((x.1.2.1.length : Int) != (x.2.1.2.1.length : Int)) (
some (false, ())) (
L38_0 N N ((), x.1, (), x.2.1, (x.1.2.1.length : Int), (0 : Int), ()) fun y4 =>
some (true, ())))

noncomputable def ps38 : List Ty := [t52, t52]
noncomputable def rs38 : List Ty := [.bool]
noncomputable def ty38 : List (TypeId × Ty) := [(3, (.int .i64)), (51, (.sl 78 t77)), (53, t52), (78, t77)]
noncomputable def by38 : List (TypeId × Nat) := []
noncomputable def eq38 : List TypeId := [78]
noncomputable def E38 : Go.V.Env := { ty := ty38, bytes := by38, fn := [], eqs := eq38, inl := [] }
noncomputable def M38 : List (Nat × Go.V.Mark (Ty.prods rs38).den) := [(116, { ins := L38_0i, outs := L38_0o, ex := some 0, f := fun N => L38_0 N })]
noncomputable def C38 (N : Nat) : Go.V.Ctx (Ty.prods rs38).den := { E := E38, n := Go.Proofs.Try.f38.ntmps, marks := M38, fin := Go.V.finish (E38) Go.Proofs.Try.f38 rs38, N }
noncomputable def c38 : Code := (Go.Proofs.Try.f38.body).getD .skip

theorem tab38 : tablesB Go.Proofs.Try.prog ty38 by38 eq38 = true := by kernel_rfl
theorem oL38_0 (N : Nat) : (Obl.loop { ins := L38_0i, outs := L38_0o, ex := some 0, f := fun N => L38_0 N } 116 (subc [true, true, false, true, false, false] c38) : Obl (Ty.prods rs38).den).holds (C38 N) := by
  intro x Kx
  exact ⟨by kernel_rfl, fun k => by kernel_rfl⟩
theorem ob38 (N : Nat) : obls (C38 N) 1 c38 = [.loop { ins := L38_0i, outs := L38_0o, ex := some 0, f := fun N => L38_0 N } 116 (subc [true, true, false, true, false, false] c38)] := by kernel_rfl
theorem eF38 (N : Nat) (x : (Ty.prods ps38).den) : Go.V.evBody (E38) Go.Proofs.Try.f38 rs38 (M38) N (Go.V.start Go.Proofs.Try.f38 ps38 x) = F38 N x := by kernel_rfl
theorem s38 (N : Nat) : Sound Go.Proofs.Try.prog 38 { ps := ps38, rs := rs38, f := F38 N } := by
  have hE : EnvOk Go.Proofs.Try.prog (E38) := env_ok tab38 (by
    intro p hp
    cases hp) (by
    intro p hp
    cases hp)
  have h := fn_sound hE (by kernel_rfl) Go.Proofs.Try.func38 (show Go.Proofs.Try.f38.body = some c38 by kernel_rfl) ps38 rs38 (M38) N (by
    intro o ho
    have ho : o ∈ obls (C38 N) 1 c38 := ho
    rw [ob38] at ho
    simp only [List.mem_cons, List.not_mem_nil, or_false] at ho
    rcases ho with rfl
    · exact oL38_0 N)
  have e : (fun x => Go.V.evBody (E38) Go.Proofs.Try.f38 rs38 (M38) N (Go.V.start Go.Proofs.Try.f38 ps38 x)) = F38 N := funext fun x => eF38 N x
  rw [e] at h
  exact h

end Go.Proofs.Ytkifmnocomadfaa
end

/- The reading of poundage poundageref15.Of. -/
section
set_option linter.unusedVariables false
set_option maxRecDepth 100000
namespace Go.Proofs.Ytkifmnocomadfaa
open Go.V

noncomputable def L48_0i : Shape := { items := [.tm 0 (.sl 3 (.int .i64)), .ptr 2 0 0, .bx 0 0 (.int .i64), .tm 19 (.sl 3 (.int .i64)), .tm 20 (.int .i64), .tm 21 (.int .i64), .ownB 0 1 78 t77, .ownT 4 3 (.int .i64)], boxes := [53] }
noncomputable def L48_0o : Shape := { items := [.tm 0 (.sl 3 (.int .i64)), .ptr 2 0 0, .bx 0 0 (.int .i64), .ownB 0 1 78 t77, .ownT 4 3 (.int .i64)], boxes := [53] }
noncomputable def L48_0 (N : Nat) : Nat → ((List Int) × (Unit × (Int × ((List Int) × (Int × (Int × ((List D77) × ((List Int) × Unit)))))))) → (((List Int) × (Unit × (Int × ((List D77) × ((List Int) × Unit))))) → Option (D52 × D159)) → Option (D52 × D159)
| 0, _, _ => none
| k + 1, x1, Kx =>
cond (decide (x1.2.2.2.2.2.1 < x1.2.2.2.2.1)) (
if 0 ≤ x1.2.2.2.2.2.1 then
if x1.2.2.2.2.2.1 < (x1.2.2.2.1.length : Int) then
let v2 := (rdAt (t := (.int .i64)) x1.2.2.2.1 x1.2.2.2.2.2.1)
cond (decide (v2 > (2305843009213693952 : Int))) (
some (((0 : Int), [], ()), false, ())) (
cond (decide (v2 < (-2305843009213693952 : Int))) (
some (((0 : Int), [], ()), false, ())) (
cond (x1.2.2.2.2.2.1 == (0 : Int)) (
if x1.2.2.2.2.2.2.2.1.length + 1 ≤ 17592186044416 then
L48_0 N k (x1.1, (), x1.2.2.1, x1.2.2.2.1, x1.2.2.2.2.1, (IntKind.i64.wrap (x1.2.2.2.2.2.1 + (1 : Int))), x1.2.2.2.2.2.2.1, (x1.2.2.2.2.2.2.2.1 ++ [x1.2.2.2.2.2.1]), ()) Kx
else none) (
if 0 ≤ (IntKind.i64.wrap (x1.2.2.2.2.2.1 - (1 : Int))) then
if (IntKind.i64.wrap (x1.2.2.2.2.2.1 - (1 : Int))) < (x1.1.length : Int) then
cond ((rdAt (t := (.int .i64)) x1.1 (IntKind.i64.wrap (x1.2.2.2.2.2.1 - (1 : Int)))) != v2) (
if x1.2.2.2.2.2.2.2.1.length + 1 ≤ 17592186044416 then
L48_0 N k (x1.1, (), x1.2.2.1, x1.2.2.2.1, x1.2.2.2.2.1, (IntKind.i64.wrap (x1.2.2.2.2.2.1 + (1 : Int))), x1.2.2.2.2.2.2.1, (x1.2.2.2.2.2.2.2.1 ++ [x1.2.2.2.2.2.1]), ()) Kx
else none) (
L48_0 N k (x1.1, (), x1.2.2.1, x1.2.2.2.1, x1.2.2.2.2.1, (IntKind.i64.wrap (x1.2.2.2.2.2.1 + (1 : Int))), x1.2.2.2.2.2.2.1, x1.2.2.2.2.2.2.2.1, ()) Kx)
else none
else none)))
else none
else none) (
Kx (x1.1, (), x1.2.2.1, x1.2.2.2.2.2.2.1, x1.2.2.2.2.2.2.2.1, ()))

noncomputable def L48_2i : Shape := { items := [.tm 0 (.sl 3 (.int .i64)), .ptr 2 0 0, .bx 0 0 (.int .i64), .ptr 7 1 0, .bx 1 0 (.int .i64), .tm 8 (.int .i64), .ptr 9 2 0, .bx 2 0 t77, .ownB 0 1 78 t77, .ownT 4 3 (.int .i64), .ownB 1 1 78 t77], boxes := [53, 53, 78] }
noncomputable def L48_2o : Shape := { items := [.tm 0 (.sl 3 (.int .i64)), .ptr 2 0 0, .bx 0 0 (.int .i64), .ptr 7 1 0, .bx 1 0 (.int .i64), .tm 8 (.int .i64), .ptr 9 2 0, .bx 2 0 t77, .ownB 0 1 78 t77, .ownT 4 3 (.int .i64), .ownB 1 1 78 t77], boxes := [53, 53, 78] }
noncomputable def L48_2 (N : Nat) : Nat → ((List Int) × (Unit × (Int × (Unit × (Int × (Int × (Unit × (D77 × ((List D77) × ((List Int) × ((List D77) × Unit))))))))))) → (((List Int) × (Unit × (Int × (Unit × (Int × (Int × (Unit × (D77 × ((List D77) × ((List Int) × ((List D77) × Unit))))))))))) → Option (D52 × D159)) → Option (D52 × D159)
| 0, _, _ => none
| k + 1, x11, Kx =>
cond (decide ((IntKind.i64.wrap (x11.2.2.2.2.2.1 + x11.2.2.2.2.2.2.2.1.2.2.2.2.1)) < (x11.2.2.2.2.2.2.2.2.2.1.length : Int))) (
let v12 := (IntKind.i64.wrap (x11.2.2.2.2.2.1 + x11.2.2.2.2.2.2.2.1.2.2.2.2.1))
if 0 ≤ v12 then
if v12 < (x11.2.2.2.2.2.2.2.2.2.1.length : Int) then
cond ((rdAt (t := (.int .i64)) x11.2.2.2.2.2.2.2.2.2.1 v12) == (IntKind.i64.wrap (x11.2.2.2.2.2.2.2.1.1 + (IntKind.i64.wrap (x11.2.2.2.2.2.2.2.1.2.2.2.2.1 * x11.2.2.2.2.2.2.2.1.2.2.1))))) (
let v13 := (IntKind.i64.wrap (x11.2.2.2.2.2.1 + x11.2.2.2.2.2.2.2.1.2.2.2.2.1))
if 0 ≤ v13 then
if v13 < (x11.2.2.2.2.2.2.2.2.2.1.length : Int) then
let v14 := (rdAt (t := (.int .i64)) x11.2.2.2.2.2.2.2.2.2.1 v13)
if 0 ≤ v14 then
if v14 < (x11.1.length : Int) then
let v15 := (IntKind.i64.wrap ((IntKind.i64.wrap (x11.2.2.2.2.2.1 + x11.2.2.2.2.2.2.2.1.2.2.2.2.1)) - (1 : Int)))
if 0 ≤ v15 then
if v15 < (x11.2.2.2.2.2.2.2.2.2.1.length : Int) then
let v16 := (rdAt (t := (.int .i64)) x11.2.2.2.2.2.2.2.2.2.1 v15)
if 0 ≤ v16 then
if v16 < (x11.1.length : Int) then
cond ((rdAt (t := (.int .i64)) x11.1 v14) == (IntKind.i64.wrap ((rdAt (t := (.int .i64)) x11.1 v16) + x11.2.2.2.2.2.2.2.1.2.2.2.1))) (
let v17 := (IntKind.i64.wrap (x11.2.2.2.2.2.2.2.1.2.2.2.2.1 + (1 : Int)))
L48_2 N k (x11.1, (), x11.2.2.1, (), x11.2.2.2.2.1, x11.2.2.2.2.2.1, (), (x11.2.2.2.2.2.2.2.1.1, x11.2.2.2.2.2.2.2.1.2.1, x11.2.2.2.2.2.2.2.1.2.2.1, x11.2.2.2.2.2.2.2.1.2.2.2.1, v17, ()), x11.2.2.2.2.2.2.2.2.1, x11.2.2.2.2.2.2.2.2.2.1, x11.2.2.2.2.2.2.2.2.2.2.1, ()) Kx) (
Kx (x11.1, (), x11.2.2.1, (), x11.2.2.2.2.1, x11.2.2.2.2.2.1, (), x11.2.2.2.2.2.2.2.1, x11.2.2.2.2.2.2.2.2.1, x11.2.2.2.2.2.2.2.2.2.1, x11.2.2.2.2.2.2.2.2.2.2.1, ()))
else none
else none
else none
else none
else none
else none
else none
else none) (
Kx (x11.1, (), x11.2.2.1, (), x11.2.2.2.2.1, x11.2.2.2.2.2.1, (), x11.2.2.2.2.2.2.2.1, x11.2.2.2.2.2.2.2.2.1, x11.2.2.2.2.2.2.2.2.2.1, x11.2.2.2.2.2.2.2.2.2.2.1, ()))
else none
else none) (
Kx (x11.1, (), x11.2.2.1, (), x11.2.2.2.2.1, x11.2.2.2.2.2.1, (), x11.2.2.2.2.2.2.2.1, x11.2.2.2.2.2.2.2.2.1, x11.2.2.2.2.2.2.2.2.2.1, x11.2.2.2.2.2.2.2.2.2.2.1, ()))

noncomputable def L48_1i : Shape := { items := [.tm 0 (.sl 3 (.int .i64)), .ptr 2 0 0, .bx 0 0 (.int .i64), .ptr 7 1 0, .bx 1 0 (.int .i64), .tm 8 (.int .i64), .ownB 0 1 78 t77, .ownT 4 3 (.int .i64), .ownB 1 1 78 t77], boxes := [53, 53] }
noncomputable def L48_1o : Shape := { items := [.ptr 2 0 0, .bx 0 0 (.int .i64), .ptr 7 1 0, .bx 1 0 (.int .i64), .ownB 0 1 78 t77, .ownB 1 1 78 t77], boxes := [53, 53] }
noncomputable def L48_1 (N : Nat) : Nat → ((List Int) × (Unit × (Int × (Unit × (Int × (Int × ((List D77) × ((List Int) × ((List D77) × Unit))))))))) → ((Unit × (Int × (Unit × (Int × ((List D77) × ((List D77) × Unit)))))) → Option (D52 × D159)) → Option (D52 × D159)
| 0, _, _ => none
| k + 1, x5, Kx =>
cond (decide (x5.2.2.2.2.2.1 < (x5.2.2.2.2.2.2.2.1.length : Int))) (
if 0 ≤ x5.2.2.2.2.2.1 then
if x5.2.2.2.2.2.1 < (x5.2.2.2.2.2.2.2.1.length : Int) then
if 0 ≤ x5.2.2.2.2.2.1 then
if x5.2.2.2.2.2.1 < (x5.2.2.2.2.2.2.2.1.length : Int) then
let v6 := (rdAt (t := (.int .i64)) x5.2.2.2.2.2.2.2.1 x5.2.2.2.2.2.1)
if 0 ≤ v6 then
if v6 < (x5.1.length : Int) then
let v7 := (rdAt (t := (.int .i64)) x5.2.2.2.2.2.2.2.1 x5.2.2.2.2.2.1)
cond (decide ((IntKind.i64.wrap (x5.2.2.2.2.2.1 + (1 : Int))) < (x5.2.2.2.2.2.2.2.1.length : Int))) (
if 0 ≤ (IntKind.i64.wrap (x5.2.2.2.2.2.1 + (1 : Int))) then
if (IntKind.i64.wrap (x5.2.2.2.2.2.1 + (1 : Int))) < (x5.2.2.2.2.2.2.2.1.length : Int) then
if 0 ≤ x5.2.2.2.2.2.1 then
if x5.2.2.2.2.2.1 < (x5.2.2.2.2.2.2.2.1.length : Int) then
let v8 := (IntKind.i64.wrap ((rdAt (t := (.int .i64)) x5.2.2.2.2.2.2.2.1 (IntKind.i64.wrap (x5.2.2.2.2.2.1 + (1 : Int)))) - (rdAt (t := (.int .i64)) x5.2.2.2.2.2.2.2.1 x5.2.2.2.2.2.1)))
if 0 ≤ (IntKind.i64.wrap (x5.2.2.2.2.2.1 + (1 : Int))) then
if (IntKind.i64.wrap (x5.2.2.2.2.2.1 + (1 : Int))) < (x5.2.2.2.2.2.2.2.1.length : Int) then
let v9 := (rdAt (t := (.int .i64)) x5.2.2.2.2.2.2.2.1 (IntKind.i64.wrap (x5.2.2.2.2.2.1 + (1 : Int))))
if 0 ≤ v9 then
if v9 < (x5.1.length : Int) then
let v10 := (IntKind.i64.wrap ((rdAt (t := (.int .i64)) x5.1 v9) - (rdAt (t := (.int .i64)) x5.1 v6)))
L48_2 N N (x5.1, (), x5.2.2.1, (), x5.2.2.2.2.1, x5.2.2.2.2.2.1, (), (v7, (rdAt (t := (.int .i64)) x5.1 v6), v8, v10, (2 : Int), ()), x5.2.2.2.2.2.2.1, x5.2.2.2.2.2.2.2.1, x5.2.2.2.2.2.2.2.2.1, ()) fun y18 =>
if y18.2.2.2.2.2.2.2.2.2.2.1.length + 1 ≤ 3518437208883 then
let v19 := (IntKind.i64.wrap (y18.2.2.2.2.2.1 + y18.2.2.2.2.2.2.2.1.2.2.2.2.1))
L48_1 N k (y18.1, (), y18.2.2.1, (), y18.2.2.2.2.1, v19, y18.2.2.2.2.2.2.2.2.1, y18.2.2.2.2.2.2.2.2.2.1, (y18.2.2.2.2.2.2.2.2.2.2.1 ++ [y18.2.2.2.2.2.2.2.1]), ()) Kx
else none
else none
else none
else none
else none
else none
else none
else none
else none) (
if x5.2.2.2.2.2.2.2.2.1.length + 1 ≤ 3518437208883 then
let v20 := (x5.2.2.2.2.2.2.2.2.1 ++ [(v7, (rdAt (t := (.int .i64)) x5.1 v6), (0 : Int), (0 : Int), (1 : Int), ())])
L48_1 N k (x5.1, (), x5.2.2.1, (), x5.2.2.2.2.1, (IntKind.i64.wrap (x5.2.2.2.2.2.1 + (1 : Int))), x5.2.2.2.2.2.2.1, x5.2.2.2.2.2.2.2.1, v20, ()) Kx
else none)
else none
else none
else none
else none
else none
else none) (
Kx ((), x5.2.2.1, (), x5.2.2.2.2.1, x5.2.2.2.2.2.2.1, x5.2.2.2.2.2.2.2.2.1, ()))

noncomputable def F48 (N : Nat) : ((List Int) × Unit) → Option (D52 × D159) := fun x =>
cond ((x.1.length : Int) == (0 : Int)) (
some (((0 : Int), [], ()), false, ())) (
cond (decide ((x.1.length : Int) > (2001 : Int))) (
some (((0 : Int), [], ()), false, ())) (
L48_0 N N (x.1, (), (0 : Int), x.1, (x.1.length : Int), (0 : Int), [], [], ()) fun y3 =>
let v4 := (IntKind.i64.wrap ((y3.1.length : Int) - (1 : Int)))
L48_1 N N (y3.1, (), y3.2.2.1, (), v4, (0 : Int), y3.2.2.2.1, y3.2.2.2.2.1, [], ()) fun y21 =>
some ((y21.2.2.2.1, y21.2.2.2.2.2), true, ())))

noncomputable def ps48 : List Ty := [(.sl 3 (.int .i64))]
noncomputable def rs48 : List Ty := [t52, .bool]
noncomputable def ty48 : List (TypeId × Ty) := [(3, (.int .i64)), (27, (.sl 3 (.int .i64))), (51, (.sl 78 t77)), (53, t52), (78, t77)]
noncomputable def by48 : List (TypeId × Nat) := [(3, 8), (78, 40)]
noncomputable def eq48 : List TypeId := []
noncomputable def E48 : Go.V.Env := { ty := ty48, bytes := by48, fn := [], eqs := eq48, inl := [] }
noncomputable def M48 : List (Nat × Go.V.Mark (Ty.prods rs48).den) := [(244, { ins := L48_0i, outs := L48_0o, ex := some 0, f := fun N => L48_0 N }), (2073948, { ins := L48_2i, outs := L48_2o, ex := some 4, f := fun N => L48_2 N }), (1012, { ins := L48_1i, outs := L48_1o, ex := some 2, f := fun N => L48_1 N })]
noncomputable def C48 (N : Nat) : Go.V.Ctx (Ty.prods rs48).den := { E := E48, n := Go.Proofs.Try.f48.ntmps, marks := M48, fin := Go.V.finish (E48) Go.Proofs.Try.f48 rs48, N }
noncomputable def c48 : Code := (Go.Proofs.Try.f48.body).getD .skip

theorem tab48 : tablesB Go.Proofs.Try.prog ty48 by48 eq48 = true := by kernel_rfl
theorem oL48_0 (N : Nat) : (Obl.loop { ins := L48_0i, outs := L48_0o, ex := some 0, f := fun N => L48_0 N } 244 (subc [true, true, true, false, true, false, false] c48) : Obl (Ty.prods rs48).den).holds (C48 N) := by
  intro x Kx
  exact ⟨by kernel_rfl, fun k => by kernel_rfl⟩
theorem oL48_1 (N : Nat) : (Obl.loop { ins := L48_1i, outs := L48_1o, ex := some 2, f := fun N => L48_1 N } 1012 (subc [true, true, true, true, true, false, true, false, false] c48) : Obl (Ty.prods rs48).den).holds (C48 N) := by
  intro x Kx
  exact ⟨by kernel_rfl, fun k => by kernel_rfl⟩
theorem oL48_2 (N : Nat) : (Obl.loop { ins := L48_2i, outs := L48_2o, ex := some 4, f := fun N => L48_2 N } 2073948 (subc [true, true, true, true, true, false, true, false, false, true, false, true, false, true, false, true, true, true, false, false] c48) : Obl (Ty.prods rs48).den).holds (C48 N) := by
  intro x Kx
  exact ⟨by kernel_rfl, fun k => by kernel_rfl⟩
theorem ob48 (N : Nat) : obls (C48 N) 1 c48 = [.loop { ins := L48_0i, outs := L48_0o, ex := some 0, f := fun N => L48_0 N } 244 (subc [true, true, true, false, true, false, false] c48), .loop { ins := L48_1i, outs := L48_1o, ex := some 2, f := fun N => L48_1 N } 1012 (subc [true, true, true, true, true, false, true, false, false] c48), .loop { ins := L48_2i, outs := L48_2o, ex := some 4, f := fun N => L48_2 N } 2073948 (subc [true, true, true, true, true, false, true, false, false, true, false, true, false, true, false, true, true, true, false, false] c48)] := by kernel_rfl
theorem eF48 (N : Nat) (x : (Ty.prods ps48).den) : Go.V.evBody (E48) Go.Proofs.Try.f48 rs48 (M48) N (Go.V.start Go.Proofs.Try.f48 ps48 x) = F48 N x := by kernel_rfl
theorem s48 (N : Nat) : Sound Go.Proofs.Try.prog 48 { ps := ps48, rs := rs48, f := F48 N } := by
  have hE : EnvOk Go.Proofs.Try.prog (E48) := env_ok tab48 (by
    intro p hp
    cases hp) (by
    intro p hp
    cases hp)
  have h := fn_sound hE (by kernel_rfl) Go.Proofs.Try.func48 (show Go.Proofs.Try.f48.body = some c48 by kernel_rfl) ps48 rs48 (M48) N (by
    intro o ho
    have ho : o ∈ obls (C48 N) 1 c48 := ho
    rw [ob48] at ho
    simp only [List.mem_cons, List.not_mem_nil, or_false] at ho
    rcases ho with rfl | rfl | rfl
    · exact oL48_0 N
    · exact oL48_1 N
    · exact oL48_2 N)
  have e : (fun x => Go.V.evBody (E48) Go.Proofs.Try.f48 rs48 (M48) N (Go.V.start Go.Proofs.Try.f48 ps48 x)) = F48 N := funext fun x => eF48 N x
  rw [e] at h
  exact h

end Go.Proofs.Ytkifmnocomadfaa
end

/- The reading of poundage poundageref15.At. -/
section
set_option linter.unusedVariables false
set_option maxRecDepth 100000
namespace Go.Proofs.Ytkifmnocomadfaa
open Go.V

noncomputable def L26_1i : Shape := { items := [.tm 1 (.int .i64), .tm 6 (.int .i64), .tm 7 .bool, .ptr 9 0 0, .bx 0 0 t77, .tm 10 (.int .i64), .tm 20 (.sl 78 t77), .tm 21 (.int .i64), .tm 22 (.int .i64)], boxes := [78] }
noncomputable def L26_1o : Shape := { items := [.tm 1 (.int .i64), .tm 6 (.int .i64), .tm 7 .bool, .tm 20 (.sl 78 t77), .tm 21 (.int .i64), .tm 22 (.int .i64)], boxes := [] }
noncomputable def L26_1 (N : Nat) : Nat → (Int × (Int × (Bool × (Unit × (D77 × (Int × ((List D77) × D146))))))) → ((Int × (Int × (Bool × ((List D77) × D146)))) → Option (Int × D159)) → Option (Int × D159)
| 0, _, _ => none
| k + 1, x3, Kx =>
cond (decide (x3.2.2.2.2.1.2.2.1 > (0 : Int))) (
cond (decide (x3.2.2.2.2.2.1 < x3.2.2.2.2.1.2.2.2.2.1)) (
if x3.2.2.2.2.1.2.2.1 = 0 then none else
cond (decide (x3.2.2.2.2.2.1 ≤ (IntKind.i64.wrap ((IntKind.i64.wrap (x3.1 - x3.2.2.2.2.1.1)).tdiv x3.2.2.2.2.1.2.2.1)))) (
let v4 := (IntKind.i64.wrap (x3.2.1 + x3.2.2.2.2.1.2.2.2.1))
L26_1 N k (x3.1, v4, x3.2.2.1, (), x3.2.2.2.2.1, (IntKind.i64.wrap (x3.2.2.2.2.2.1 + (1 : Int))), x3.2.2.2.2.2.2.1, x3.2.2.2.2.2.2.2.1, x3.2.2.2.2.2.2.2.2.1, ()) Kx) (
Kx (x3.1, x3.2.1, x3.2.2.1, x3.2.2.2.2.2.2.1, x3.2.2.2.2.2.2.2.1, x3.2.2.2.2.2.2.2.2.1, ()))) (
Kx (x3.1, x3.2.1, x3.2.2.1, x3.2.2.2.2.2.2.1, x3.2.2.2.2.2.2.2.1, x3.2.2.2.2.2.2.2.2.1, ()))) (
Kx (x3.1, x3.2.1, x3.2.2.1, x3.2.2.2.2.2.2.1, x3.2.2.2.2.2.2.2.1, x3.2.2.2.2.2.2.2.2.1, ()))

noncomputable def L26_0i : Shape := { items := [.tm 1 (.int .i64), .tm 6 (.int .i64), .tm 7 .bool, .tm 20 (.sl 78 t77), .tm 21 (.int .i64), .tm 22 (.int .i64)], boxes := [] }
noncomputable def L26_0o : Shape := { items := [.tm 6 (.int .i64), .tm 7 .bool], boxes := [] }
noncomputable def L26_0 (N : Nat) : Nat → (Int × (Int × (Bool × ((List D77) × D146)))) → ((Int × D159) → Option (Int × D159)) → Option (Int × D159)
| 0, _, _ => none
| k + 1, x1, Kx =>
cond (decide (x1.2.2.2.2.2.1 < x1.2.2.2.2.1)) (
if 0 ≤ x1.2.2.2.2.2.1 then
if x1.2.2.2.2.2.1 < (x1.2.2.2.1.length : Int) then
let e2 : D77 := rdAt (t := t77) x1.2.2.2.1 x1.2.2.2.2.2.1
cond (decide (e2.1 > x1.1)) (
L26_0 N k (x1.1, x1.2.1, x1.2.2.1, x1.2.2.2.1, x1.2.2.2.2.1, (IntKind.i64.wrap (x1.2.2.2.2.2.1 + (1 : Int))), ()) Kx) (
cond (decide (e2.1 < (0 : Int))) (
L26_0 N k (x1.1, x1.2.1, x1.2.2.1, x1.2.2.2.1, x1.2.2.2.2.1, (IntKind.i64.wrap (x1.2.2.2.2.2.1 + (1 : Int))), ()) Kx) (
L26_1 N N (x1.1, e2.2.1, true, (), e2, (1 : Int), x1.2.2.2.1, x1.2.2.2.2.1, x1.2.2.2.2.2.1, ()) fun y5 =>
L26_0 N k (y5.1, y5.2.1, y5.2.2.1, y5.2.2.2.1, y5.2.2.2.2.1, (IntKind.i64.wrap (y5.2.2.2.2.2.1 + (1 : Int))), ()) Kx))
else none
else none) (
Kx (x1.2.1, x1.2.2.1, ()))

noncomputable def F26 (N : Nat) : (D52 × (Int × Unit)) → Option (Int × D159) := fun x =>
cond (decide (x.2.1 < (0 : Int))) (
some ((0 : Int), false, ())) (
cond (decide (x.2.1 > x.1.1)) (
some ((0 : Int), false, ())) (
L26_0 N N (x.2.1, (0 : Int), false, x.1.2.1, (x.1.2.1.length : Int), (0 : Int), ()) fun y6 =>
some y6))

noncomputable def ps26 : List Ty := [t52, (.int .i64)]
noncomputable def rs26 : List Ty := [(.int .i64), .bool]
noncomputable def ty26 : List (TypeId × Ty) := [(3, (.int .i64)), (51, (.sl 78 t77)), (53, t52), (78, t77)]
noncomputable def by26 : List (TypeId × Nat) := []
noncomputable def eq26 : List TypeId := []
noncomputable def E26 : Go.V.Env := { ty := ty26, bytes := by26, fn := [], eqs := eq26, inl := [] }
noncomputable def M26 : List (Nat × Go.V.Mark (Ty.prods rs26).den) := [(501372, { ins := L26_1i, outs := L26_1o, ex := some 2, f := fun N => L26_1 N }), (244, { ins := L26_0i, outs := L26_0o, ex := some 0, f := fun N => L26_0 N })]
noncomputable def C26 (N : Nat) : Go.V.Ctx (Ty.prods rs26).den := { E := E26, n := Go.Proofs.Try.f26.ntmps, marks := M26, fin := Go.V.finish (E26) Go.Proofs.Try.f26 rs26, N }
noncomputable def c26 : Code := (Go.Proofs.Try.f26.body).getD .skip

theorem tab26 : tablesB Go.Proofs.Try.prog ty26 by26 eq26 = true := by kernel_rfl
theorem oL26_0 (N : Nat) : (Obl.loop { ins := L26_0i, outs := L26_0o, ex := some 0, f := fun N => L26_0 N } 244 (subc [true, true, true, false, true, false, false] c26) : Obl (Ty.prods rs26).den).holds (C26 N) := by
  intro x Kx
  exact ⟨by kernel_rfl, fun k => by kernel_rfl⟩
theorem oL26_1 (N : Nat) : (Obl.loop { ins := L26_1i, outs := L26_1o, ex := some 2, f := fun N => L26_1 N } 501372 (subc [true, true, true, false, true, false, false, true, true, false, false, true, true, true, true, true, false, false] c26) : Obl (Ty.prods rs26).den).holds (C26 N) := by
  intro x Kx
  exact ⟨by kernel_rfl, fun k => by kernel_rfl⟩
theorem ob26 (N : Nat) : obls (C26 N) 1 c26 = [.loop { ins := L26_0i, outs := L26_0o, ex := some 0, f := fun N => L26_0 N } 244 (subc [true, true, true, false, true, false, false] c26), .loop { ins := L26_1i, outs := L26_1o, ex := some 2, f := fun N => L26_1 N } 501372 (subc [true, true, true, false, true, false, false, true, true, false, false, true, true, true, true, true, false, false] c26)] := by kernel_rfl
theorem eF26 (N : Nat) (x : (Ty.prods ps26).den) : Go.V.evBody (E26) Go.Proofs.Try.f26 rs26 (M26) N (Go.V.start Go.Proofs.Try.f26 ps26 x) = F26 N x := by kernel_rfl
theorem s26 (N : Nat) : Sound Go.Proofs.Try.prog 26 { ps := ps26, rs := rs26, f := F26 N } := by
  have hE : EnvOk Go.Proofs.Try.prog (E26) := env_ok tab26 (by
    intro p hp
    cases hp) (by
    intro p hp
    cases hp)
  have h := fn_sound hE (by kernel_rfl) Go.Proofs.Try.func26 (show Go.Proofs.Try.f26.body = some c26 by kernel_rfl) ps26 rs26 (M26) N (by
    intro o ho
    have ho : o ∈ obls (C26 N) 1 c26 := ho
    rw [ob26] at ho
    simp only [List.mem_cons, List.not_mem_nil, or_false] at ho
    rcases ho with rfl | rfl
    · exact oL26_0 N
    · exact oL26_1 N)
  have e : (fun x => Go.V.evBody (E26) Go.Proofs.Try.f26 rs26 (M26) N (Go.V.start Go.Proofs.Try.f26 ps26 x)) = F26 N := funext fun x => eF26 N x
  rw [e] at h
  exact h

end Go.Proofs.Ytkifmnocomadfaa
end

/- The reading of poundage poundageref15.List. -/
section
set_option linter.unusedVariables false
set_option maxRecDepth 100000
namespace Go.Proofs.Ytkifmnocomadfaa
open Go.V

noncomputable def L49_0i : Shape := { items := [.ptr 1 0 0, .bx 0 0 t52, .tm 4 (.int .i64), .ownT 3 3 (.int .i64)], boxes := [53] }
noncomputable def L49_0o : Shape := { items := [.ownT 3 3 (.int .i64)], boxes := [] }
noncomputable def L49_0 (N : Nat) (g26 : (D52 × (Int × Unit)) → Option (Int × D159)) : Nat → (Unit × (D52 × (Int × ((List Int) × Unit)))) → (((List Int) × Unit) → Option ((List Int) × Unit)) → Option ((List Int) × Unit)
| 0, _, _ => none
| k + 1, x1, Kx =>
cond (decide (x1.2.2.1 ≤ x1.2.1.1)) (
(g26 (x1.2.1, x1.2.2.1, ())).bind fun r2 =>
if x1.2.2.2.1.length + 1 ≤ 17592186044416 then
L49_0 N g26 k ((), x1.2.1, (IntKind.i64.wrap (x1.2.2.1 + (1 : Int))), (x1.2.2.2.1 ++ [r2.1]), ()) Kx
else none) (
Kx (x1.2.2.2.1, ()))

noncomputable def F49 (N : Nat) (g26 : (D52 × (Int × Unit)) → Option (Int × D159)) : (D52 × Unit) → Option ((List Int) × Unit) := fun x =>
L49_0 N g26 N ((), x.1, (0 : Int), [], ()) fun y3 =>
some y3

noncomputable def ps49 : List Ty := [t52]
noncomputable def rs49 : List Ty := [(.sl 3 (.int .i64))]
noncomputable def ty49 : List (TypeId × Ty) := [(3, (.int .i64)), (27, (.sl 3 (.int .i64))), (53, t52)]
noncomputable def by49 : List (TypeId × Nat) := [(3, 8)]
noncomputable def eq49 : List TypeId := []
noncomputable def E49 (g26 : (D52 × (Int × Unit)) → Option (Int × D159)) : Go.V.Env := { ty := ty49, bytes := by49, fn := [(26, { ps := [t52, (.int .i64)], rs := [(.int .i64), .bool], f := g26 })], eqs := eq49, inl := [] }
noncomputable def M49 (g26 : (D52 × (Int × Unit)) → Option (Int × D159)) : List (Nat × Go.V.Mark (Ty.prods rs49).den) := [(116, { ins := L49_0i, outs := L49_0o, ex := some 0, f := fun N => L49_0 N g26 })]
noncomputable def C49 (N : Nat) (g26 : (D52 × (Int × Unit)) → Option (Int × D159)) : Go.V.Ctx (Ty.prods rs49).den := { E := E49 g26, n := Go.Proofs.Try.f49.ntmps, marks := M49 g26, fin := Go.V.finish (E49 g26) Go.Proofs.Try.f49 rs49, N }
noncomputable def c49 : Code := (Go.Proofs.Try.f49.body).getD .skip

theorem tab49 : tablesB Go.Proofs.Try.prog ty49 by49 eq49 = true := by kernel_rfl
theorem oL49_0 (N : Nat) (g26 : (D52 × (Int × Unit)) → Option (Int × D159)) : (Obl.loop { ins := L49_0i, outs := L49_0o, ex := some 0, f := fun N => L49_0 N g26 } 116 (subc [true, true, false, true, false, false] c49) : Obl (Ty.prods rs49).den).holds (C49 N g26) := by
  intro x Kx
  exact ⟨by kernel_rfl, fun k => by kernel_rfl⟩
theorem ob49 (N : Nat) (g26 : (D52 × (Int × Unit)) → Option (Int × D159)) : obls (C49 N g26) 1 c49 = [.loop { ins := L49_0i, outs := L49_0o, ex := some 0, f := fun N => L49_0 N g26 } 116 (subc [true, true, false, true, false, false] c49)] := by kernel_rfl
theorem eF49 (N : Nat) (g26 : (D52 × (Int × Unit)) → Option (Int × D159)) (x : (Ty.prods ps49).den) : Go.V.evBody (E49 g26) Go.Proofs.Try.f49 rs49 (M49 g26) N (Go.V.start Go.Proofs.Try.f49 ps49 x) = F49 N g26 x := by kernel_rfl
theorem s49 (N : Nat) (g26 : (D52 × (Int × Unit)) → Option (Int × D159)) (h26 : Sound Go.Proofs.Try.prog 26 { ps := [t52, (.int .i64)], rs := [(.int .i64), .bool], f := g26 }) : Sound Go.Proofs.Try.prog 49 { ps := ps49, rs := rs49, f := F49 N g26 } := by
  have hE : EnvOk Go.Proofs.Try.prog (E49 g26) := env_ok tab49 (by
    intro p hp
    simp only [List.mem_cons, List.not_mem_nil, or_false] at hp
    rcases hp with rfl
    · exact ⟨h26, Go.Proofs.Try.f26, Go.Proofs.Try.func26, by kernel_rfl, by kernel_rfl⟩) (by
    intro p hp
    cases hp)
  have h := fn_sound hE (by kernel_rfl) Go.Proofs.Try.func49 (show Go.Proofs.Try.f49.body = some c49 by kernel_rfl) ps49 rs49 (M49 g26) N (by
    intro o ho
    have ho : o ∈ obls (C49 N g26) 1 c49 := ho
    rw [ob49] at ho
    simp only [List.mem_cons, List.not_mem_nil, or_false] at ho
    rcases ho with rfl
    · exact oL49_0 N g26)
  have e : (fun x => Go.V.evBody (E49 g26) Go.Proofs.Try.f49 rs49 (M49 g26) N (Go.V.start Go.Proofs.Try.f49 ps49 x)) = F49 N g26 := funext fun x => eF49 N g26 x
  rw [e] at h
  exact h

end Go.Proofs.Ytkifmnocomadfaa
end

/- The reading of poundage poundageref15.Good. -/
section
set_option linter.unusedVariables false
set_option maxRecDepth 100000
namespace Go.Proofs.Ytkifmnocomadfaa
open Go.V

noncomputable def L20_0i : Shape := { items := [.ptr 1 0 0, .bx 0 0 t52, .tm 39 (.sl 78 t77), .tm 40 (.int .i64), .tm 41 (.int .i64)], boxes := [53] }
noncomputable def L20_0o : Shape := { items := [.ptr 1 0 0, .bx 0 0 t52], boxes := [53] }
noncomputable def L20_0 (N : Nat) (g38 : (D52 × (D52 × Unit)) → Option D159) (g48 : ((List Int) × Unit) → Option (D52 × D159)) (g49 : (D52 × Unit) → Option ((List Int) × Unit)) : Nat → (Unit × (D52 × ((List D77) × D146))) → ((Unit × (D52 × Unit)) → Option D159) → Option D159
| 0, _, _ => none
| k + 1, x2, Kx =>
cond (decide (x2.2.2.2.2.1 < x2.2.2.2.1)) (
if 0 ≤ x2.2.2.2.2.1 then
if x2.2.2.2.2.1 < (x2.2.2.1.length : Int) then
let e3 : D77 := rdAt (t := t77) x2.2.2.1 x2.2.2.2.2.1
cond (decide (e3.1 < (0 : Int))) (
some (false, ())) (
cond (decide (e3.1 > x2.2.1.1)) (
some (false, ())) (
L20_0 N g38 g48 g49 k ((), x2.2.1, x2.2.2.1, x2.2.2.2.1, (IntKind.i64.wrap (x2.2.2.2.2.1 + (1 : Int))), ()) Kx))
else none
else none) (
Kx ((), x2.2.1, ()))

noncomputable def F20 (N : Nat) (g38 : (D52 × (D52 × Unit)) → Option D159) (g48 : ((List Int) × Unit) → Option (D52 × D159)) (g49 : (D52 × Unit) → Option ((List Int) × Unit)) : (D52 × Unit) → Option D159 := fun x =>
cond (decide (x.1.1 < (0 : Int))) (
some (false, ())) (
cond (decide (x.1.1 > (2000 : Int))) (
some (false, ())) (
cond ((x.1.2.1.length : Int) == (0 : Int)) (
some (false, ())) (
cond (decide ((x.1.2.1.length : Int) > (IntKind.i64.wrap (x.1.1 + (1 : Int))))) (
some (false, ())) (
if 0 ≤ (0 : Int) then
if (0 : Int) < (x.1.2.1.length : Int) then
let e1 : D77 := rdAt (t := t77) x.1.2.1 (0 : Int)
cond (e1.1 != (0 : Int)) (
some (false, ())) (
L20_0 N g38 g48 g49 N ((), x.1, x.1.2.1, (x.1.2.1.length : Int), (0 : Int), ()) fun y4 =>
(g49 y4.2).bind fun r5 =>
(g48 r5).bind fun r6 =>
cond r6.2.1 (
(g38 (y4.2.1, r6.1, ())).bind fun r7 =>
some r7) (
some (false, ())))
else none
else none))))

noncomputable def ps20 : List Ty := [t52]
noncomputable def rs20 : List Ty := [.bool]
noncomputable def ty20 : List (TypeId × Ty) := [(3, (.int .i64)), (51, (.sl 78 t77)), (53, t52), (78, t77)]
noncomputable def by20 : List (TypeId × Nat) := []
noncomputable def eq20 : List TypeId := []
noncomputable def E20 (g38 : (D52 × (D52 × Unit)) → Option D159) (g48 : ((List Int) × Unit) → Option (D52 × D159)) (g49 : (D52 × Unit) → Option ((List Int) × Unit)) : Go.V.Env := { ty := ty20, bytes := by20, fn := [(38, { ps := [t52, t52], rs := [.bool], f := g38 }), (48, { ps := [(.sl 3 (.int .i64))], rs := [t52, .bool], f := g48 }), (49, { ps := [t52], rs := [(.sl 3 (.int .i64))], f := g49 })], eqs := eq20, inl := [] }
noncomputable def M20 (g38 : (D52 × (D52 × Unit)) → Option D159) (g48 : ((List Int) × Unit) → Option (D52 × D159)) (g49 : (D52 × Unit) → Option ((List Int) × Unit)) : List (Nat × Go.V.Mark (Ty.prods rs20).den) := [(116, { ins := L20_0i, outs := L20_0o, ex := some 0, f := fun N => L20_0 N g38 g48 g49 })]
noncomputable def C20 (N : Nat) (g38 : (D52 × (D52 × Unit)) → Option D159) (g48 : ((List Int) × Unit) → Option (D52 × D159)) (g49 : (D52 × Unit) → Option ((List Int) × Unit)) : Go.V.Ctx (Ty.prods rs20).den := { E := E20 g38 g48 g49, n := Go.Proofs.Try.f20.ntmps, marks := M20 g38 g48 g49, fin := Go.V.finish (E20 g38 g48 g49) Go.Proofs.Try.f20 rs20, N }
noncomputable def c20 : Code := (Go.Proofs.Try.f20.body).getD .skip

theorem tab20 : tablesB Go.Proofs.Try.prog ty20 by20 eq20 = true := by kernel_rfl
theorem oL20_0 (N : Nat) (g38 : (D52 × (D52 × Unit)) → Option D159) (g48 : ((List Int) × Unit) → Option (D52 × D159)) (g49 : (D52 × Unit) → Option ((List Int) × Unit)) : (Obl.loop { ins := L20_0i, outs := L20_0o, ex := some 0, f := fun N => L20_0 N g38 g48 g49 } 116 (subc [true, true, false, true, false, false] c20) : Obl (Ty.prods rs20).den).holds (C20 N g38 g48 g49) := by
  intro x Kx
  exact ⟨by kernel_rfl, fun k => by kernel_rfl⟩
theorem ob20 (N : Nat) (g38 : (D52 × (D52 × Unit)) → Option D159) (g48 : ((List Int) × Unit) → Option (D52 × D159)) (g49 : (D52 × Unit) → Option ((List Int) × Unit)) : obls (C20 N g38 g48 g49) 1 c20 = [.loop { ins := L20_0i, outs := L20_0o, ex := some 0, f := fun N => L20_0 N g38 g48 g49 } 116 (subc [true, true, false, true, false, false] c20)] := by kernel_rfl
theorem eF20 (N : Nat) (g38 : (D52 × (D52 × Unit)) → Option D159) (g48 : ((List Int) × Unit) → Option (D52 × D159)) (g49 : (D52 × Unit) → Option ((List Int) × Unit)) (x : (Ty.prods ps20).den) : Go.V.evBody (E20 g38 g48 g49) Go.Proofs.Try.f20 rs20 (M20 g38 g48 g49) N (Go.V.start Go.Proofs.Try.f20 ps20 x) = F20 N g38 g48 g49 x := by kernel_rfl
theorem s20 (N : Nat) (g38 : (D52 × (D52 × Unit)) → Option D159) (g48 : ((List Int) × Unit) → Option (D52 × D159)) (g49 : (D52 × Unit) → Option ((List Int) × Unit)) (h38 : Sound Go.Proofs.Try.prog 38 { ps := [t52, t52], rs := [.bool], f := g38 }) (h48 : Sound Go.Proofs.Try.prog 48 { ps := [(.sl 3 (.int .i64))], rs := [t52, .bool], f := g48 }) (h49 : Sound Go.Proofs.Try.prog 49 { ps := [t52], rs := [(.sl 3 (.int .i64))], f := g49 }) : Sound Go.Proofs.Try.prog 20 { ps := ps20, rs := rs20, f := F20 N g38 g48 g49 } := by
  have hE : EnvOk Go.Proofs.Try.prog (E20 g38 g48 g49) := env_ok tab20 (by
    intro p hp
    simp only [List.mem_cons, List.not_mem_nil, or_false] at hp
    rcases hp with rfl | rfl | rfl
    · exact ⟨h38, Go.Proofs.Try.f38, Go.Proofs.Try.func38, by kernel_rfl, by kernel_rfl⟩
    · exact ⟨h48, Go.Proofs.Try.f48, Go.Proofs.Try.func48, by kernel_rfl, by kernel_rfl⟩
    · exact ⟨h49, Go.Proofs.Try.f49, Go.Proofs.Try.func49, by kernel_rfl, by kernel_rfl⟩) (by
    intro p hp
    cases hp)
  have h := fn_sound hE (by kernel_rfl) Go.Proofs.Try.func20 (show Go.Proofs.Try.f20.body = some c20 by kernel_rfl) ps20 rs20 (M20 g38 g48 g49) N (by
    intro o ho
    have ho : o ∈ obls (C20 N g38 g48 g49) 1 c20 := ho
    rw [ob20] at ho
    simp only [List.mem_cons, List.not_mem_nil, or_false] at ho
    rcases ho with rfl
    · exact oL20_0 N g38 g48 g49)
  have e : (fun x => Go.V.evBody (E20 g38 g48 g49) Go.Proofs.Try.f20 rs20 (M20 g38 g48 g49) N (Go.V.start Go.Proofs.Try.f20 ps20 x)) = F20 N g38 g48 g49 := funext fun x => eF20 N g38 g48 g49 x
  rw [e] at h
  exact h

end Go.Proofs.Ytkifmnocomadfaa
end

/- The deep reading of poundage pair.like 1 1. -/
section
set_option linter.unusedVariables false
set_option maxRecDepth 100000
namespace Go.Proofs.Ytkifmnocomadfaa
open Go.V

noncomputable def F70 (N : Nat) : (D67 × (D67 × Unit)) → Option D159 := fun x =>
cond (x.1.1.toList == x.2.1.1.toList) (
cond (!(x.1.2.1.toList == x.2.1.2.1.toList)) (
some (true, ())) (
some ((x.1.2.2.1 != x.2.1.2.2.1), ()))) (
some (false, ()))

noncomputable def ps70 : List Ty := [t67, (.ref t67)]
noncomputable def rs70 : List Ty := [.bool]
noncomputable def ty70 : List (TypeId × Ty) := [(3, (.int .i64)), (9, .str), (68, t67)]
noncomputable def by70 : List (TypeId × Nat) := []
noncomputable def eq70 : List TypeId := []
noncomputable def E70 : Go.V.Env := { ty := ty70, bytes := by70, fn := [], eqs := eq70, inl := [] }
noncomputable def M70 : List (Pos × Go.V.XMark (Ty.prods rs70).den) := []
noncomputable def c70 : Code := (Go.Proofs.Try.f70.body).getD .skip
noncomputable def C70 (N : Nat) : Go.V.XCtx (Ty.prods rs70).den := { E := E70, cut := [], grow := [], marks := M70, bars := [], fin := Go.V.finish (E70) Go.Proofs.Try.f70 rs70, N, D := 0, root := c70 }

theorem tab70 : tablesB Go.Proofs.Try.prog ty70 by70 eq70 = true := by kernel_rfl
theorem eF70 (N : Nat) (x : (Ty.prods ps70).den) : Go.V.evRoot (C70 N) Go.Proofs.Try.f70 (Go.V.start Go.Proofs.Try.f70 ps70 x) = F70 N x := by kernel_rfl
theorem s70 (N : Nat) : Sound Go.Proofs.Try.prog 70 { ps := ps70, rs := rs70, f := F70 N } := by
  have hE : EnvOk Go.Proofs.Try.prog (E70) := env_ok tab70 (by
    intro p hp
    cases hp) (by
    intro p hp
    cases hp)
  have h := fnX_sound (C := C70 N) (by kernel_rfl) Go.Proofs.Try.func70 (show Go.Proofs.Try.f70.body = some c70 by kernel_rfl) ps70 rs70 rfl rfl hE (by
    intro f t h
    cases h) (by
    intro e he
    cases he)
  have e : (fun x => Go.V.evRoot (C70 N) Go.Proofs.Try.f70 (Go.V.start Go.Proofs.Try.f70 ps70 x)) = F70 N := funext fun x => eF70 N x
  rw [e] at h
  exact h

end Go.Proofs.Ytkifmnocomadfaa
end

/- The deep reading of slices.IndexFunc   poundage api.Meter poundage api.Meter . -/
section
set_option linter.unusedVariables false
set_option maxRecDepth 100000
namespace Go.Proofs.Ytkifmnocomadfaa
open Go.V

noncomputable def L78b_0i : XShape := { items := [.tm 0 (.sl 68 t67), .tm 1 (.clo 70 (.pair (.ref t67) .unit)), .tm 7 (.int .i64), .tm 8 (.int .i64)], boxes := [], n := 19, all := 19 }
noncomputable def L78b_0o : XShape := { items := [], boxes := [], n := 19, all := 19 }
noncomputable def L78b_0r : XShape := { items := [], boxes := [], n := 0, all := 0 }
noncomputable def L78b_0 (N : Nat) (g70 : (D67 × (D67 × Unit)) → Option D159) : Nat → ((List D67) × ((D67 × Unit) × D146)) → (Unit → Option (Int × Unit)) → (Unit → Option (Int × Unit)) → Option (Int × Unit)
| 0, _, _, _ => none
| k + 1, x1, Kx, Rx =>
cond (decide (x1.2.2.2.1 < x1.2.2.1)) (
if 0 ≤ x1.2.2.2.1 then
if x1.2.2.2.1 < (x1.1.length : Int) then
let e2 : D67 := rdAt (t := t67) x1.1 x1.2.2.2.1
(g70 (e2, x1.2.1.1, ())).bind fun r3 =>
cond r3.1 (
some x1.2.2.2) (
L78b_0 N g70 k (x1.1, x1.2.1, x1.2.2.1, (IntKind.i64.wrap (x1.2.2.2.1 + (1 : Int))), ()) Kx Rx)
else none
else none) (
Kx ())

noncomputable def F78b (N : Nat) (g70 : (D67 × (D67 × Unit)) → Option D159) : ((List D67) × ((D67 × Unit) × Unit)) → Option (Int × Unit) := fun x =>
L78b_0 N g70 N (x.1, x.2.1, (x.1.length : Int), (0 : Int), ()) (fun y4 =>
some ((-1 : Int), ())) (fun _ => none)

noncomputable def ps78b : List Ty := [(.sl 68 t67), (.clo 70 (.pair (.ref t67) .unit))]
noncomputable def rs78b : List Ty := [(.int .i64)]
noncomputable def ty78b : List (TypeId × Ty) := [(3, (.int .i64)), (22, (.sl 68 t67)), (68, t67)]
noncomputable def by78b : List (TypeId × Nat) := []
noncomputable def eq78b : List TypeId := []
noncomputable def E78b (g70 : (D67 × (D67 × Unit)) → Option D159) : Go.V.Env := { ty := ty78b, bytes := by78b, fn := [(70, { ps := [t67, (.ref t67)], rs := [.bool], f := g70 })], eqs := eq78b, inl := [] }
noncomputable def mL78b_0 (g70 : (D67 × (D67 × Unit)) → Option D159) : Pos × Go.V.XMark (Ty.prods rs78b).den := ((52, []), { ins := L78b_0i, outs := L78b_0o, rets := L78b_0r, ex := some 0, top := true, rt := false, f := fun N => L78b_0 N g70 })
noncomputable def M78b (g70 : (D67 × (D67 × Unit)) → Option D159) : List (Pos × Go.V.XMark (Ty.prods rs78b).den) := [mL78b_0 g70]
noncomputable def c78b : Code := (Go.Proofs.Try.f78.body).getD .skip
noncomputable def C78b (N : Nat) (g70 : (D67 × (D67 × Unit)) → Option D159) : Go.V.XCtx (Ty.prods rs78b).den := { E := E78b g70, cut := [], grow := [], marks := M78b g70, bars := [], fin := Go.V.finish (E78b g70) Go.Proofs.Try.f78 rs78b, N, D := 0, root := c78b }

theorem tab78b : tablesB Go.Proofs.Try.prog ty78b by78b eq78b = true := by kernel_rfl
theorem oL78b_0 (N : Nat) (g70 : (D67 × (D67 × Unit)) → Option D159) : ObX (C78b N g70) (mL78b_0 g70) := by
  refine obX_loop ⟨fun _ => rfl, fun _ => rfl⟩ [true, false, true, false, false] c78b (by kernel_rfl) (by kernel_rfl) (by kernel_rfl) ?_
  intro x Kx Rx
  exact ⟨by kernel_rfl, fun k => by kernel_rfl⟩
theorem eF78b (N : Nat) (g70 : (D67 × (D67 × Unit)) → Option D159) (x : (Ty.prods ps78b).den) : Go.V.evRoot (C78b N g70) Go.Proofs.Try.f78 (Go.V.start Go.Proofs.Try.f78 ps78b x) = F78b N g70 x := by kernel_rfl
theorem s78b (N : Nat) (g70 : (D67 × (D67 × Unit)) → Option D159) (h70 : Sound Go.Proofs.Try.prog 70 { ps := [t67, (.ref t67)], rs := [.bool], f := g70 }) : Sound Go.Proofs.Try.prog 78 { ps := ps78b, rs := rs78b, f := F78b N g70 } := by
  have hE : EnvOk Go.Proofs.Try.prog (E78b g70) := env_ok tab78b (by
    intro p hp
    simp only [List.mem_cons, List.not_mem_nil, or_false] at hp
    rcases hp with rfl
    · exact ⟨h70, Go.Proofs.Try.f70, Go.Proofs.Try.func70, by kernel_rfl, by kernel_rfl⟩) (by
    intro p hp
    cases hp)
  have h := fnX_sound (C := C78b N g70) (by kernel_rfl) Go.Proofs.Try.func78 (show Go.Proofs.Try.f78.body = some c78b by kernel_rfl) ps78b rs78b rfl rfl hE (by
    intro f t h
    cases h) (by
    intro e he
    have he : e ∈ M78b g70 := he
    simp only [M78b, List.mem_cons, List.not_mem_nil, or_false] at he
    rcases he with rfl
    · exact oL78b_0 N g70)
  have e : (fun x => Go.V.evRoot (C78b N g70) Go.Proofs.Try.f78 (Go.V.start Go.Proofs.Try.f78 ps78b x)) = F78b N g70 := funext fun x => eF78b N g70 x
  rw [e] at h
  exact h

end Go.Proofs.Ytkifmnocomadfaa
end

/- The deep reading of slices.ContainsFunc   poundage api.Meter poundage api.Meter . -/
section
set_option linter.unusedVariables false
set_option maxRecDepth 100000
namespace Go.Proofs.Ytkifmnocomadfaa
open Go.V

noncomputable def F68b (N : Nat) (g78b : ((List D67) × ((D67 × Unit) × Unit)) → Option (Int × Unit)) : ((List D67) × ((D67 × Unit) × Unit)) → Option D159 := fun x =>
(g78b x).bind fun r1 =>
some ((decide (r1.1 ≥ (0 : Int))), ())

noncomputable def ps68b : List Ty := [(.sl 68 t67), (.clo 70 (.pair (.ref t67) .unit))]
noncomputable def rs68b : List Ty := [.bool]
noncomputable def ty68b : List (TypeId × Ty) := [(3, (.int .i64))]
noncomputable def by68b : List (TypeId × Nat) := []
noncomputable def eq68b : List TypeId := []
noncomputable def E68b (g78b : ((List D67) × ((D67 × Unit) × Unit)) → Option (Int × Unit)) : Go.V.Env := { ty := ty68b, bytes := by68b, fn := [(78, { ps := [(.sl 68 t67), (.clo 70 (.pair (.ref t67) .unit))], rs := [(.int .i64)], f := g78b })], eqs := eq68b, inl := [] }
noncomputable def M68b (g78b : ((List D67) × ((D67 × Unit) × Unit)) → Option (Int × Unit)) : List (Pos × Go.V.XMark (Ty.prods rs68b).den) := []
noncomputable def c68b : Code := (Go.Proofs.Try.f68.body).getD .skip
noncomputable def C68b (N : Nat) (g78b : ((List D67) × ((D67 × Unit) × Unit)) → Option (Int × Unit)) : Go.V.XCtx (Ty.prods rs68b).den := { E := E68b g78b, cut := [], grow := [], marks := M68b g78b, bars := [], fin := Go.V.finish (E68b g78b) Go.Proofs.Try.f68 rs68b, N, D := 0, root := c68b }

theorem tab68b : tablesB Go.Proofs.Try.prog ty68b by68b eq68b = true := by kernel_rfl
theorem eF68b (N : Nat) (g78b : ((List D67) × ((D67 × Unit) × Unit)) → Option (Int × Unit)) (x : (Ty.prods ps68b).den) : Go.V.evRoot (C68b N g78b) Go.Proofs.Try.f68 (Go.V.start Go.Proofs.Try.f68 ps68b x) = F68b N g78b x := by kernel_rfl
theorem s68b (N : Nat) (g78b : ((List D67) × ((D67 × Unit) × Unit)) → Option (Int × Unit)) (h78b : Sound Go.Proofs.Try.prog 78 { ps := [(.sl 68 t67), (.clo 70 (.pair (.ref t67) .unit))], rs := [(.int .i64)], f := g78b }) : Sound Go.Proofs.Try.prog 68 { ps := ps68b, rs := rs68b, f := F68b N g78b } := by
  have hE : EnvOk Go.Proofs.Try.prog (E68b g78b) := env_ok tab68b (by
    intro p hp
    simp only [List.mem_cons, List.not_mem_nil, or_false] at hp
    rcases hp with rfl
    · exact ⟨h78b, Go.Proofs.Try.f78, Go.Proofs.Try.func78, by kernel_rfl, by kernel_rfl⟩) (by
    intro p hp
    cases hp)
  have h := fnX_sound (C := C68b N g78b) (by kernel_rfl) Go.Proofs.Try.func68 (show Go.Proofs.Try.f68.body = some c68b by kernel_rfl) ps68b rs68b rfl rfl hE (by
    intro f t h
    cases h) (by
    intro e he
    cases he)
  have e : (fun x => Go.V.evRoot (C68b N g78b) Go.Proofs.Try.f68 (Go.V.start Go.Proofs.Try.f68 ps68b x)) = F68b N g78b := funext fun x => eF68b N g78b x
  rw [e] at h
  exact h

end Go.Proofs.Ytkifmnocomadfaa
end

/- The deep reading of poundage pair.like 1. -/
section
set_option linter.unusedVariables false
set_option maxRecDepth 100000
namespace Go.Proofs.Ytkifmnocomadfaa
open Go.V

noncomputable def F69 (N : Nat) (g68b : ((List D67) × ((D67 × Unit) × Unit)) → Option D159) : (D67 × (D31 × Unit)) → Option D159 := fun x =>
(g68b (x.2.1.2.2.2.1, (x.1, ()), ())).bind fun r1 =>
some r1

noncomputable def ps69 : List Ty := [t67, (.ref t31)]
noncomputable def rs69 : List Ty := [.bool]
noncomputable def ty69 : List (TypeId × Ty) := [(22, (.sl 68 t67)), (32, t31), (68, t67)]
noncomputable def by69 : List (TypeId × Nat) := []
noncomputable def eq69 : List TypeId := []
noncomputable def E69 (g68b : ((List D67) × ((D67 × Unit) × Unit)) → Option D159) : Go.V.Env := { ty := ty69, bytes := by69, fn := [(68, { ps := [(.sl 68 t67), (.clo 70 (.pair (.ref t67) .unit))], rs := [.bool], f := g68b })], eqs := eq69, inl := [] }
noncomputable def M69 (g68b : ((List D67) × ((D67 × Unit) × Unit)) → Option D159) : List (Pos × Go.V.XMark (Ty.prods rs69).den) := []
noncomputable def c69 : Code := (Go.Proofs.Try.f69.body).getD .skip
noncomputable def C69 (N : Nat) (g68b : ((List D67) × ((D67 × Unit) × Unit)) → Option D159) : Go.V.XCtx (Ty.prods rs69).den := { E := E69 g68b, cut := [], grow := [], marks := M69 g68b, bars := [], fin := Go.V.finish (E69 g68b) Go.Proofs.Try.f69 rs69, N, D := 0, root := c69 }

theorem tab69 : tablesB Go.Proofs.Try.prog ty69 by69 eq69 = true := by kernel_rfl
theorem eF69 (N : Nat) (g68b : ((List D67) × ((D67 × Unit) × Unit)) → Option D159) (x : (Ty.prods ps69).den) : Go.V.evRoot (C69 N g68b) Go.Proofs.Try.f69 (Go.V.start Go.Proofs.Try.f69 ps69 x) = F69 N g68b x := by kernel_rfl
theorem s69 (N : Nat) (g68b : ((List D67) × ((D67 × Unit) × Unit)) → Option D159) (h68b : Sound Go.Proofs.Try.prog 68 { ps := [(.sl 68 t67), (.clo 70 (.pair (.ref t67) .unit))], rs := [.bool], f := g68b }) : Sound Go.Proofs.Try.prog 69 { ps := ps69, rs := rs69, f := F69 N g68b } := by
  have hE : EnvOk Go.Proofs.Try.prog (E69 g68b) := env_ok tab69 (by
    intro p hp
    simp only [List.mem_cons, List.not_mem_nil, or_false] at hp
    rcases hp with rfl
    · exact ⟨h68b, Go.Proofs.Try.f68, Go.Proofs.Try.func68, by kernel_rfl, by kernel_rfl⟩) (by
    intro p hp
    cases hp)
  have h := fnX_sound (C := C69 N g68b) (by kernel_rfl) Go.Proofs.Try.func69 (show Go.Proofs.Try.f69.body = some c69 by kernel_rfl) ps69 rs69 rfl rfl hE (by
    intro f t h
    cases h) (by
    intro e he
    cases he)
  have e : (fun x => Go.V.evRoot (C69 N g68b) Go.Proofs.Try.f69 (Go.V.start Go.Proofs.Try.f69 ps69 x)) = F69 N g68b := funext fun x => eF69 N g68b x
  rw [e] at h
  exact h

end Go.Proofs.Ytkifmnocomadfaa
end

/- The deep reading of slices.IndexFunc   poundage api.Meter poundage api.Meter . -/
section
set_option linter.unusedVariables false
set_option maxRecDepth 100000
namespace Go.Proofs.Ytkifmnocomadfaa
open Go.V

noncomputable def L78a_0i : XShape := { items := [.tm 0 (.sl 68 t67), .tm 1 (.clo 69 (.pair (.ref t31) .unit)), .tm 7 (.int .i64), .tm 8 (.int .i64)], boxes := [], n := 19, all := 19 }
noncomputable def L78a_0o : XShape := { items := [], boxes := [], n := 19, all := 19 }
noncomputable def L78a_0r : XShape := { items := [], boxes := [], n := 0, all := 0 }
noncomputable def L78a_0 (N : Nat) (g69 : (D67 × (D31 × Unit)) → Option D159) : Nat → ((List D67) × ((D31 × Unit) × D146)) → (Unit → Option (Int × Unit)) → (Unit → Option (Int × Unit)) → Option (Int × Unit)
| 0, _, _, _ => none
| k + 1, x1, Kx, Rx =>
cond (decide (x1.2.2.2.1 < x1.2.2.1)) (
if 0 ≤ x1.2.2.2.1 then
if x1.2.2.2.1 < (x1.1.length : Int) then
let e2 : D67 := rdAt (t := t67) x1.1 x1.2.2.2.1
(g69 (e2, x1.2.1.1, ())).bind fun r3 =>
cond r3.1 (
some x1.2.2.2) (
L78a_0 N g69 k (x1.1, x1.2.1, x1.2.2.1, (IntKind.i64.wrap (x1.2.2.2.1 + (1 : Int))), ()) Kx Rx)
else none
else none) (
Kx ())

noncomputable def F78a (N : Nat) (g69 : (D67 × (D31 × Unit)) → Option D159) : ((List D67) × ((D31 × Unit) × Unit)) → Option (Int × Unit) := fun x =>
L78a_0 N g69 N (x.1, x.2.1, (x.1.length : Int), (0 : Int), ()) (fun y4 =>
some ((-1 : Int), ())) (fun _ => none)

noncomputable def ps78a : List Ty := [(.sl 68 t67), (.clo 69 (.pair (.ref t31) .unit))]
noncomputable def rs78a : List Ty := [(.int .i64)]
noncomputable def ty78a : List (TypeId × Ty) := [(3, (.int .i64)), (22, (.sl 68 t67)), (68, t67)]
noncomputable def by78a : List (TypeId × Nat) := []
noncomputable def eq78a : List TypeId := []
noncomputable def E78a (g69 : (D67 × (D31 × Unit)) → Option D159) : Go.V.Env := { ty := ty78a, bytes := by78a, fn := [(69, { ps := [t67, (.ref t31)], rs := [.bool], f := g69 })], eqs := eq78a, inl := [] }
noncomputable def mL78a_0 (g69 : (D67 × (D31 × Unit)) → Option D159) : Pos × Go.V.XMark (Ty.prods rs78a).den := ((52, []), { ins := L78a_0i, outs := L78a_0o, rets := L78a_0r, ex := some 0, top := true, rt := false, f := fun N => L78a_0 N g69 })
noncomputable def M78a (g69 : (D67 × (D31 × Unit)) → Option D159) : List (Pos × Go.V.XMark (Ty.prods rs78a).den) := [mL78a_0 g69]
noncomputable def c78a : Code := (Go.Proofs.Try.f78.body).getD .skip
noncomputable def C78a (N : Nat) (g69 : (D67 × (D31 × Unit)) → Option D159) : Go.V.XCtx (Ty.prods rs78a).den := { E := E78a g69, cut := [], grow := [], marks := M78a g69, bars := [], fin := Go.V.finish (E78a g69) Go.Proofs.Try.f78 rs78a, N, D := 0, root := c78a }

theorem tab78a : tablesB Go.Proofs.Try.prog ty78a by78a eq78a = true := by kernel_rfl
theorem oL78a_0 (N : Nat) (g69 : (D67 × (D31 × Unit)) → Option D159) : ObX (C78a N g69) (mL78a_0 g69) := by
  refine obX_loop ⟨fun _ => rfl, fun _ => rfl⟩ [true, false, true, false, false] c78a (by kernel_rfl) (by kernel_rfl) (by kernel_rfl) ?_
  intro x Kx Rx
  exact ⟨by kernel_rfl, fun k => by kernel_rfl⟩
theorem eF78a (N : Nat) (g69 : (D67 × (D31 × Unit)) → Option D159) (x : (Ty.prods ps78a).den) : Go.V.evRoot (C78a N g69) Go.Proofs.Try.f78 (Go.V.start Go.Proofs.Try.f78 ps78a x) = F78a N g69 x := by kernel_rfl
theorem s78a (N : Nat) (g69 : (D67 × (D31 × Unit)) → Option D159) (h69 : Sound Go.Proofs.Try.prog 69 { ps := [t67, (.ref t31)], rs := [.bool], f := g69 }) : Sound Go.Proofs.Try.prog 78 { ps := ps78a, rs := rs78a, f := F78a N g69 } := by
  have hE : EnvOk Go.Proofs.Try.prog (E78a g69) := env_ok tab78a (by
    intro p hp
    simp only [List.mem_cons, List.not_mem_nil, or_false] at hp
    rcases hp with rfl
    · exact ⟨h69, Go.Proofs.Try.f69, Go.Proofs.Try.func69, by kernel_rfl, by kernel_rfl⟩) (by
    intro p hp
    cases hp)
  have h := fnX_sound (C := C78a N g69) (by kernel_rfl) Go.Proofs.Try.func78 (show Go.Proofs.Try.f78.body = some c78a by kernel_rfl) ps78a rs78a rfl rfl hE (by
    intro f t h
    cases h) (by
    intro e he
    have he : e ∈ M78a g69 := he
    simp only [M78a, List.mem_cons, List.not_mem_nil, or_false] at he
    rcases he with rfl
    · exact oL78a_0 N g69)
  have e : (fun x => Go.V.evRoot (C78a N g69) Go.Proofs.Try.f78 (Go.V.start Go.Proofs.Try.f78 ps78a x)) = F78a N g69 := funext fun x => eF78a N g69 x
  rw [e] at h
  exact h

end Go.Proofs.Ytkifmnocomadfaa
end

/- The deep reading of slices.ContainsFunc   poundage api.Meter poundage api.Meter . -/
section
set_option linter.unusedVariables false
set_option maxRecDepth 100000
namespace Go.Proofs.Ytkifmnocomadfaa
open Go.V

noncomputable def F68a (N : Nat) (g78a : ((List D67) × ((D31 × Unit) × Unit)) → Option (Int × Unit)) : ((List D67) × ((D31 × Unit) × Unit)) → Option D159 := fun x =>
(g78a x).bind fun r1 =>
some ((decide (r1.1 ≥ (0 : Int))), ())

noncomputable def ps68a : List Ty := [(.sl 68 t67), (.clo 69 (.pair (.ref t31) .unit))]
noncomputable def rs68a : List Ty := [.bool]
noncomputable def ty68a : List (TypeId × Ty) := [(3, (.int .i64))]
noncomputable def by68a : List (TypeId × Nat) := []
noncomputable def eq68a : List TypeId := []
noncomputable def E68a (g78a : ((List D67) × ((D31 × Unit) × Unit)) → Option (Int × Unit)) : Go.V.Env := { ty := ty68a, bytes := by68a, fn := [(78, { ps := [(.sl 68 t67), (.clo 69 (.pair (.ref t31) .unit))], rs := [(.int .i64)], f := g78a })], eqs := eq68a, inl := [] }
noncomputable def M68a (g78a : ((List D67) × ((D31 × Unit) × Unit)) → Option (Int × Unit)) : List (Pos × Go.V.XMark (Ty.prods rs68a).den) := []
noncomputable def c68a : Code := (Go.Proofs.Try.f68.body).getD .skip
noncomputable def C68a (N : Nat) (g78a : ((List D67) × ((D31 × Unit) × Unit)) → Option (Int × Unit)) : Go.V.XCtx (Ty.prods rs68a).den := { E := E68a g78a, cut := [], grow := [], marks := M68a g78a, bars := [], fin := Go.V.finish (E68a g78a) Go.Proofs.Try.f68 rs68a, N, D := 0, root := c68a }

theorem tab68a : tablesB Go.Proofs.Try.prog ty68a by68a eq68a = true := by kernel_rfl
theorem eF68a (N : Nat) (g78a : ((List D67) × ((D31 × Unit) × Unit)) → Option (Int × Unit)) (x : (Ty.prods ps68a).den) : Go.V.evRoot (C68a N g78a) Go.Proofs.Try.f68 (Go.V.start Go.Proofs.Try.f68 ps68a x) = F68a N g78a x := by kernel_rfl
theorem s68a (N : Nat) (g78a : ((List D67) × ((D31 × Unit) × Unit)) → Option (Int × Unit)) (h78a : Sound Go.Proofs.Try.prog 78 { ps := [(.sl 68 t67), (.clo 69 (.pair (.ref t31) .unit))], rs := [(.int .i64)], f := g78a }) : Sound Go.Proofs.Try.prog 68 { ps := ps68a, rs := rs68a, f := F68a N g78a } := by
  have hE : EnvOk Go.Proofs.Try.prog (E68a g78a) := env_ok tab68a (by
    intro p hp
    simp only [List.mem_cons, List.not_mem_nil, or_false] at hp
    rcases hp with rfl
    · exact ⟨h78a, Go.Proofs.Try.f78, Go.Proofs.Try.func78, by kernel_rfl, by kernel_rfl⟩) (by
    intro p hp
    cases hp)
  have h := fnX_sound (C := C68a N g78a) (by kernel_rfl) Go.Proofs.Try.func68 (show Go.Proofs.Try.f68.body = some c68a by kernel_rfl) ps68a rs68a rfl rfl hE (by
    intro f t h
    cases h) (by
    intro e he
    cases he)
  have e : (fun x => Go.V.evRoot (C68a N g78a) Go.Proofs.Try.f68 (Go.V.start Go.Proofs.Try.f68 ps68a x)) = F68a N g78a := funext fun x => eF68a N g78a x
  rw [e] at h
  exact h

end Go.Proofs.Ytkifmnocomadfaa
end

/- The deep reading of poundage pair.like. -/
section
set_option linter.unusedVariables false
set_option maxRecDepth 100000
namespace Go.Proofs.Ytkifmnocomadfaa
open Go.V

noncomputable def F51 (N : Nat) (g68a : ((List D67) × ((D31 × Unit) × Unit)) → Option D159) : (D31 × (D31 × Unit)) → Option D159 := fun x =>
cond (!(x.1.1.toList == x.2.1.1.toList)) (
some (false, ())) (
cond (x.1.2.1 != x.2.1.2.1) (
some (false, ())) (
cond (x.1.2.2.1 != x.2.1.2.2.1) (
some (false, ())) (
(g68a (x.1.2.2.2.1, (x.2.1, ()), ())).bind fun r1 =>
some ((!r1.1), ()))))

noncomputable def ps51 : List Ty := [t31, t31]
noncomputable def rs51 : List Ty := [.bool]
noncomputable def ty51 : List (TypeId × Ty) := [(3, (.int .i64)), (9, .str), (22, (.sl 68 t67)), (32, t31), (68, t67)]
noncomputable def by51 : List (TypeId × Nat) := []
noncomputable def eq51 : List TypeId := []
noncomputable def E51 (g68a : ((List D67) × ((D31 × Unit) × Unit)) → Option D159) : Go.V.Env := { ty := ty51, bytes := by51, fn := [(68, { ps := [(.sl 68 t67), (.clo 69 (.pair (.ref t31) .unit))], rs := [.bool], f := g68a })], eqs := eq51, inl := [] }
noncomputable def M51 (g68a : ((List D67) × ((D31 × Unit) × Unit)) → Option D159) : List (Pos × Go.V.XMark (Ty.prods rs51).den) := []
noncomputable def c51 : Code := (Go.Proofs.Try.f51.body).getD .skip
noncomputable def C51 (N : Nat) (g68a : ((List D67) × ((D31 × Unit) × Unit)) → Option D159) : Go.V.XCtx (Ty.prods rs51).den := { E := E51 g68a, cut := [], grow := [], marks := M51 g68a, bars := [], fin := Go.V.finish (E51 g68a) Go.Proofs.Try.f51 rs51, N, D := 0, root := c51 }

theorem tab51 : tablesB Go.Proofs.Try.prog ty51 by51 eq51 = true := by kernel_rfl
theorem eF51 (N : Nat) (g68a : ((List D67) × ((D31 × Unit) × Unit)) → Option D159) (x : (Ty.prods ps51).den) : Go.V.evRoot (C51 N g68a) Go.Proofs.Try.f51 (Go.V.start Go.Proofs.Try.f51 ps51 x) = F51 N g68a x := by kernel_rfl
theorem s51 (N : Nat) (g68a : ((List D67) × ((D31 × Unit) × Unit)) → Option D159) (h68a : Sound Go.Proofs.Try.prog 68 { ps := [(.sl 68 t67), (.clo 69 (.pair (.ref t31) .unit))], rs := [.bool], f := g68a }) : Sound Go.Proofs.Try.prog 51 { ps := ps51, rs := rs51, f := F51 N g68a } := by
  have hE : EnvOk Go.Proofs.Try.prog (E51 g68a) := env_ok tab51 (by
    intro p hp
    simp only [List.mem_cons, List.not_mem_nil, or_false] at hp
    rcases hp with rfl
    · exact ⟨h68a, Go.Proofs.Try.f68, Go.Proofs.Try.func68, by kernel_rfl, by kernel_rfl⟩) (by
    intro p hp
    cases hp)
  have h := fnX_sound (C := C51 N g68a) (by kernel_rfl) Go.Proofs.Try.func51 (show Go.Proofs.Try.f51.body = some c51 by kernel_rfl) ps51 rs51 rfl rfl hE (by
    intro f t h
    cases h) (by
    intro e he
    cases he)
  have e : (fun x => Go.V.evRoot (C51 N g68a) Go.Proofs.Try.f51 (Go.V.start Go.Proofs.Try.f51 ps51 x)) = F51 N g68a := funext fun x => eF51 N g68a x
  rw [e] at h
  exact h

end Go.Proofs.Ytkifmnocomadfaa
end

/- The reading of cmp.isNaN string . -/
section
set_option linter.unusedVariables false
set_option maxRecDepth 100000
namespace Go.Proofs.Ytkifmnocomadfaa
open Go.V

noncomputable def F90 (N : Nat) : (ByteArray × Unit) → Option D159 := fun x =>
some ((!(x.1.toList == x.1.toList)), ())

noncomputable def ps90 : List Ty := [.str]
noncomputable def rs90 : List Ty := [.bool]
noncomputable def ty90 : List (TypeId × Ty) := [(9, .str)]
noncomputable def by90 : List (TypeId × Nat) := []
noncomputable def eq90 : List TypeId := []
noncomputable def E90 : Go.V.Env := { ty := ty90, bytes := by90, fn := [], eqs := eq90, inl := [] }
noncomputable def M90 : List (Nat × Go.V.Mark (Ty.prods rs90).den) := []
noncomputable def C90 (N : Nat) : Go.V.Ctx (Ty.prods rs90).den := { E := E90, n := Go.Proofs.Try.f90.ntmps, marks := M90, fin := Go.V.finish (E90) Go.Proofs.Try.f90 rs90, N }
noncomputable def c90 : Code := (Go.Proofs.Try.f90.body).getD .skip

theorem tab90 : tablesB Go.Proofs.Try.prog ty90 by90 eq90 = true := by kernel_rfl
theorem ob90 (N : Nat) : obls (C90 N) 1 c90 = [] := by kernel_rfl
theorem eF90 (N : Nat) (x : (Ty.prods ps90).den) : Go.V.evBody (E90) Go.Proofs.Try.f90 rs90 (M90) N (Go.V.start Go.Proofs.Try.f90 ps90 x) = F90 N x := by kernel_rfl
theorem s90 (N : Nat) : Sound Go.Proofs.Try.prog 90 { ps := ps90, rs := rs90, f := F90 N } := by
  have hE : EnvOk Go.Proofs.Try.prog (E90) := env_ok tab90 (by
    intro p hp
    cases hp) (by
    intro p hp
    cases hp)
  have h := fn_sound hE (by kernel_rfl) Go.Proofs.Try.func90 (show Go.Proofs.Try.f90.body = some c90 by kernel_rfl) ps90 rs90 (M90) N (by
    intro o ho
    have ho : o ∈ obls (C90 N) 1 c90 := ho
    rw [ob90] at ho
    cases ho)
  have e : (fun x => Go.V.evBody (E90) Go.Proofs.Try.f90 rs90 (M90) N (Go.V.start Go.Proofs.Try.f90 ps90 x)) = F90 N := funext fun x => eF90 N x
  rw [e] at h
  exact h

end Go.Proofs.Ytkifmnocomadfaa
end

/- The reading of cmp.Compare string . -/
section
set_option linter.unusedVariables false
set_option maxRecDepth 100000
namespace Go.Proofs.Ytkifmnocomadfaa
open Go.V

noncomputable def F74 (N : Nat) (g90 : (ByteArray × Unit) → Option D159) : (ByteArray × (ByteArray × Unit)) → Option (Int × Unit) := fun x =>
(g90 (x.1, ())).bind fun r1 =>
(g90 x.2).bind fun r2 =>
cond r1.1 (
cond r2.1 (
some ((0 : Int), ())) (
some ((-1 : Int), ()))) (
cond r2.1 (
some ((1 : Int), ())) (
cond (Op.bytesLess x.1.toList x.2.1.toList) (
some ((-1 : Int), ())) (
cond (!((Op.bytesLess x.1.toList x.2.1.toList) || (x.1.toList == x.2.1.toList))) (
some ((1 : Int), ())) (
some ((0 : Int), ())))))

noncomputable def ps74 : List Ty := [.str, .str]
noncomputable def rs74 : List Ty := [(.int .i64)]
noncomputable def ty74 : List (TypeId × Ty) := [(9, .str)]
noncomputable def by74 : List (TypeId × Nat) := []
noncomputable def eq74 : List TypeId := []
noncomputable def E74 (g90 : (ByteArray × Unit) → Option D159) : Go.V.Env := { ty := ty74, bytes := by74, fn := [(90, { ps := [.str], rs := [.bool], f := g90 })], eqs := eq74, inl := [] }
noncomputable def M74 (g90 : (ByteArray × Unit) → Option D159) : List (Nat × Go.V.Mark (Ty.prods rs74).den) := []
noncomputable def C74 (N : Nat) (g90 : (ByteArray × Unit) → Option D159) : Go.V.Ctx (Ty.prods rs74).den := { E := E74 g90, n := Go.Proofs.Try.f74.ntmps, marks := M74 g90, fin := Go.V.finish (E74 g90) Go.Proofs.Try.f74 rs74, N }
noncomputable def c74 : Code := (Go.Proofs.Try.f74.body).getD .skip

theorem tab74 : tablesB Go.Proofs.Try.prog ty74 by74 eq74 = true := by kernel_rfl
theorem ob74 (N : Nat) (g90 : (ByteArray × Unit) → Option D159) : obls (C74 N g90) 1 c74 = [] := by kernel_rfl
theorem eF74 (N : Nat) (g90 : (ByteArray × Unit) → Option D159) (x : (Ty.prods ps74).den) : Go.V.evBody (E74 g90) Go.Proofs.Try.f74 rs74 (M74 g90) N (Go.V.start Go.Proofs.Try.f74 ps74 x) = F74 N g90 x := by kernel_rfl
theorem s74 (N : Nat) (g90 : (ByteArray × Unit) → Option D159) (h90 : Sound Go.Proofs.Try.prog 90 { ps := [.str], rs := [.bool], f := g90 }) : Sound Go.Proofs.Try.prog 74 { ps := ps74, rs := rs74, f := F74 N g90 } := by
  have hE : EnvOk Go.Proofs.Try.prog (E74 g90) := env_ok tab74 (by
    intro p hp
    simp only [List.mem_cons, List.not_mem_nil, or_false] at hp
    rcases hp with rfl
    · exact ⟨h90, Go.Proofs.Try.f90, Go.Proofs.Try.func90, by kernel_rfl, by kernel_rfl⟩) (by
    intro p hp
    cases hp)
  have h := fn_sound hE (by kernel_rfl) Go.Proofs.Try.func74 (show Go.Proofs.Try.f74.body = some c74 by kernel_rfl) ps74 rs74 (M74 g90) N (by
    intro o ho
    have ho : o ∈ obls (C74 N g90) 1 c74 := ho
    rw [ob74] at ho
    cases ho)
  have e : (fun x => Go.V.evBody (E74 g90) Go.Proofs.Try.f74 rs74 (M74 g90) N (Go.V.start Go.Proofs.Try.f74 ps74 x)) = F74 N g90 := funext fun x => eF74 N g90 x
  rw [e] at h
  exact h

end Go.Proofs.Ytkifmnocomadfaa
end
