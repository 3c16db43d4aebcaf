/- The reading of poundage poundageref13.Cost. -/
import Derived.Test.YtkifmnocomadfaaGTy
section
set_option linter.unusedVariables false
set_option maxRecDepth 100000
namespace Go.Proofs.Ytkifmnocomadfaa
open Go.V

noncomputable def L27_0i : Shape := { items := [.tm 1 (.int .i64), .tm 2 (.sl 3 (.int .i64)), .ptr 3 0 0, .bx 0 0 t25, .tm 18 (.sl 110 t87), .tm 19 (.int .i64), .tm 20 (.int .i64), .ownT 8 3 (.int .i64)], boxes := [26] }
noncomputable def L27_0o : Shape := { items := [.tm 1 (.int .i64), .tm 2 (.sl 3 (.int .i64)), .ptr 3 0 0, .bx 0 0 t25, .ownT 8 3 (.int .i64)], boxes := [26] }
noncomputable def L27_0 (N : Nat) (g57 : (D113 × (Int × Unit)) → Option (Int × D159)) (g58 : ((List Int) × Unit) → Option (Int × D159)) : Nat → (Int × ((List Int) × (Unit × (D25 × ((List D87) × (Int × (Int × ((List Int) × Unit)))))))) → ((Int × ((List Int) × (Unit × (D25 × ((List Int) × Unit))))) → Option D146) → Option D146
| 0, _, _ => none
| k + 1, x1, Kx =>
cond (decide (x1.2.2.2.2.2.2.1 < x1.2.2.2.2.2.1)) (
if 0 ≤ x1.2.2.2.2.2.2.1 then
if x1.2.2.2.2.2.2.1 < (x1.2.2.2.2.1.length : Int) then
let e2 : D87 := rdAt (t := t87) x1.2.2.2.2.1 x1.2.2.2.2.2.2.1
cond (decide (e2.2.1 ≤ x1.1)) (
cond (decide (x1.1 ≤ e2.2.2.1)) (
if x1.2.2.2.2.2.2.2.1.length + 1 ≤ 17592186044416 then
L27_0 N g57 g58 k (x1.1, x1.2.1, (), x1.2.2.2.1, x1.2.2.2.2.1, x1.2.2.2.2.2.1, (IntKind.i64.wrap (x1.2.2.2.2.2.2.1 + (1 : Int))), (x1.2.2.2.2.2.2.2.1 ++ [e2.1]), ()) Kx
else none) (
L27_0 N g57 g58 k (x1.1, x1.2.1, (), x1.2.2.2.1, x1.2.2.2.2.1, x1.2.2.2.2.2.1, (IntKind.i64.wrap (x1.2.2.2.2.2.2.1 + (1 : Int))), x1.2.2.2.2.2.2.2.1, ()) Kx)) (
L27_0 N g57 g58 k (x1.1, x1.2.1, (), x1.2.2.2.1, x1.2.2.2.2.1, x1.2.2.2.2.2.1, (IntKind.i64.wrap (x1.2.2.2.2.2.2.1 + (1 : Int))), x1.2.2.2.2.2.2.2.1, ()) Kx)
else none
else none) (
Kx (x1.1, x1.2.1, (), x1.2.2.2.1, x1.2.2.2.2.2.2.2.1, ()))

noncomputable def L27_1i : Shape := { items := [.tm 1 (.int .i64), .tm 2 (.sl 3 (.int .i64)), .tm 41 (.sl 114 t113), .tm 42 (.int .i64), .tm 43 (.int .i64), .ownT 8 3 (.int .i64)], boxes := [] }
noncomputable def L27_1o : Shape := { items := [.ownT 8 3 (.int .i64)], boxes := [] }
noncomputable def L27_1 (N : Nat) (g57 : (D113 × (Int × Unit)) → Option (Int × D159)) (g58 : ((List Int) × Unit) → Option (Int × D159)) : Nat → (Int × ((List Int) × ((List D113) × (Int × (Int × ((List Int) × Unit)))))) → (((List Int) × Unit) → Option D146) → Option D146
| 0, _, _ => none
| k + 1, x4, Kx =>
cond (decide (x4.2.2.2.2.1 < x4.2.2.2.1)) (
if 0 ≤ x4.2.2.2.2.1 then
if x4.2.2.2.2.1 < (x4.2.2.1.length : Int) then
let e5 : D113 := rdAt (t := t113) x4.2.2.1 x4.2.2.2.2.1
cond (decide (e5.2.1 ≤ x4.1)) (
cond (decide (x4.1 ≤ e5.2.2.1)) (
if 0 ≤ e5.1 then
if e5.1 < (x4.2.1.length : Int) then
(g57 (e5, (rdAt (t := (.int .i64)) x4.2.1 e5.1), ())).bind fun r6 =>
cond (!r6.2.1) (
some ((0 : Int), (2 : Int), ())) (
if x4.2.2.2.2.2.1.length + 1 ≤ 17592186044416 then
L27_1 N g57 g58 k (x4.1, x4.2.1, x4.2.2.1, x4.2.2.2.1, (IntKind.i64.wrap (x4.2.2.2.2.1 + (1 : Int))), (x4.2.2.2.2.2.1 ++ [r6.1]), ()) Kx
else none)
else none
else none) (
L27_1 N g57 g58 k (x4.1, x4.2.1, x4.2.2.1, x4.2.2.2.1, (IntKind.i64.wrap (x4.2.2.2.2.1 + (1 : Int))), x4.2.2.2.2.2.1, ()) Kx)) (
L27_1 N g57 g58 k (x4.1, x4.2.1, x4.2.2.1, x4.2.2.2.1, (IntKind.i64.wrap (x4.2.2.2.2.1 + (1 : Int))), x4.2.2.2.2.2.1, ()) Kx)
else none
else none) (
Kx (x4.2.2.2.2.2.1, ()))

noncomputable def F27 (N : Nat) (g57 : (D113 × (Int × Unit)) → Option (Int × D159)) (g58 : ((List Int) × Unit) → Option (Int × D159)) : (D25 × (Int × ((List Int) × Unit))) → Option D146 := fun x =>
L27_0 N g57 g58 N (x.2.1, x.2.2.1, (), x.1, x.1.2.2.2.2.1, (x.1.2.2.2.2.1.length : Int), (0 : Int), [], ()) fun y3 =>
L27_1 N g57 g58 N (y3.1, y3.2.1, y3.2.2.2.1.2.2.2.2.2.1, (y3.2.2.2.1.2.2.2.2.2.1.length : Int), (0 : Int), y3.2.2.2.2.1, ()) fun y7 =>
(g58 y7).bind fun r8 =>
cond (!r8.2.1) (
some ((0 : Int), (2 : Int), ())) (
some (r8.1, (0 : Int), ()))

noncomputable def ps27 : List Ty := [t25, (.int .i64), (.sl 3 (.int .i64))]
noncomputable def rs27 : List Ty := [(.int .i64), (.int .i64)]
noncomputable def ty27 : List (TypeId × Ty) := [(3, (.int .i64)), (23, (.sl 110 t87)), (24, (.sl 114 t113)), (26, t25), (27, (.sl 3 (.int .i64))), (110, t87), (114, t113)]
noncomputable def by27 : List (TypeId × Nat) := [(3, 8)]
noncomputable def eq27 : List TypeId := []
noncomputable def E27 (g57 : (D113 × (Int × Unit)) → Option (Int × D159)) (g58 : ((List Int) × Unit) → Option (Int × D159)) : Go.V.Env := { ty := ty27, bytes := by27, fn := [(57, { ps := [t113, (.int .i64)], rs := [(.int .i64), .bool], f := g57 }), (58, { ps := [(.sl 3 (.int .i64))], rs := [(.int .i64), .bool], f := g58 })], eqs := eq27, inl := [] }
noncomputable def M27 (g57 : (D113 × (Int × Unit)) → Option (Int × D159)) (g58 : ((List Int) × Unit) → Option (Int × D159)) : List (Nat × Go.V.Mark (Ty.prods rs27).den) := [(116, { ins := L27_0i, outs := L27_0o, ex := some 0, f := fun N => L27_0 N g57 g58 }), (244, { ins := L27_1i, outs := L27_1o, ex := some 2, f := fun N => L27_1 N g57 g58 })]
noncomputable def C27 (N : Nat) (g57 : (D113 × (Int × Unit)) → Option (Int × D159)) (g58 : ((List Int) × Unit) → Option (Int × D159)) : Go.V.Ctx (Ty.prods rs27).den := { E := E27 g57 g58, n := Go.Proofs.Try.f27.ntmps, marks := M27 g57 g58, fin := Go.V.finish (E27 g57 g58) Go.Proofs.Try.f27 rs27, N }
noncomputable def c27 : Code := (Go.Proofs.Try.f27.body).getD .skip

theorem tab27 : tablesB Go.Proofs.Try.prog ty27 by27 eq27 = true := by kernel_rfl
theorem oL27_0 (N : Nat) (g57 : (D113 × (Int × Unit)) → Option (Int × D159)) (g58 : ((List Int) × Unit) → Option (Int × D159)) : (Obl.loop { ins := L27_0i, outs := L27_0o, ex := some 0, f := fun N => L27_0 N g57 g58 } 116 (subc [true, true, false, true, false, false] c27) : Obl (Ty.prods rs27).den).holds (C27 N g57 g58) := by
  intro x Kx
  exact ⟨by kernel_rfl, fun k => by kernel_rfl⟩
theorem oL27_1 (N : Nat) (g57 : (D113 × (Int × Unit)) → Option (Int × D159)) (g58 : ((List Int) × Unit) → Option (Int × D159)) : (Obl.loop { ins := L27_1i, outs := L27_1o, ex := some 2, f := fun N => L27_1 N g57 g58 } 244 (subc [true, true, true, false, true, false, false] c27) : Obl (Ty.prods rs27).den).holds (C27 N g57 g58) := by
  intro x Kx
  exact ⟨by kernel_rfl, fun k => by kernel_rfl⟩
theorem ob27 (N : Nat) (g57 : (D113 × (Int × Unit)) → Option (Int × D159)) (g58 : ((List Int) × Unit) → Option (Int × D159)) : obls (C27 N g57 g58) 1 c27 = [.loop { ins := L27_0i, outs := L27_0o, ex := some 0, f := fun N => L27_0 N g57 g58 } 116 (subc [true, true, false, true, false, false] c27), .loop { ins := L27_1i, outs := L27_1o, ex := some 2, f := fun N => L27_1 N g57 g58 } 244 (subc [true, true, true, false, true, false, false] c27)] := by kernel_rfl
theorem eF27 (N : Nat) (g57 : (D113 × (Int × Unit)) → Option (Int × D159)) (g58 : ((List Int) × Unit) → Option (Int × D159)) (x : (Ty.prods ps27).den) : Go.V.evBody (E27 g57 g58) Go.Proofs.Try.f27 rs27 (M27 g57 g58) N (Go.V.start Go.Proofs.Try.f27 ps27 x) = F27 N g57 g58 x := by kernel_rfl
theorem s27 (N : Nat) (g57 : (D113 × (Int × Unit)) → Option (Int × D159)) (g58 : ((List Int) × Unit) → Option (Int × D159)) (h57 : Sound Go.Proofs.Try.prog 57 { ps := [t113, (.int .i64)], rs := [(.int .i64), .bool], f := g57 }) (h58 : Sound Go.Proofs.Try.prog 58 { ps := [(.sl 3 (.int .i64))], rs := [(.int .i64), .bool], f := g58 }) : Sound Go.Proofs.Try.prog 27 { ps := ps27, rs := rs27, f := F27 N g57 g58 } := by
  have hE : EnvOk Go.Proofs.Try.prog (E27 g57 g58) := env_ok tab27 (by
    intro p hp
    simp only [List.mem_cons, List.not_mem_nil, or_false] at hp
    rcases hp with rfl | rfl
    · exact ⟨h57, Go.Proofs.Try.f57, Go.Proofs.Try.func57, by kernel_rfl, by kernel_rfl⟩
    · exact ⟨h58, Go.Proofs.Try.f58, Go.Proofs.Try.func58, by kernel_rfl, by kernel_rfl⟩) (by
    intro p hp
    cases hp)
  have h := fn_sound hE (by kernel_rfl) Go.Proofs.Try.func27 (show Go.Proofs.Try.f27.body = some c27 by kernel_rfl) ps27 rs27 (M27 g57 g58) N (by
    intro o ho
    have ho : o ∈ obls (C27 N g57 g58) 1 c27 := ho
    rw [ob27] at ho
    simp only [List.mem_cons, List.not_mem_nil, or_false] at ho
    rcases ho with rfl | rfl
    · exact oL27_0 N g57 g58
    · exact oL27_1 N g57 g58)
  have e : (fun x => Go.V.evBody (E27 g57 g58) Go.Proofs.Try.f27 rs27 (M27 g57 g58) N (Go.V.start Go.Proofs.Try.f27 ps27 x)) = F27 N g57 g58 := funext fun x => eF27 N g57 g58 x
  rw [e] at h
  exact h

end Go.Proofs.Ytkifmnocomadfaa
end

/- The reading of poundage poundagelaw22.own. -/
section
set_option linter.unusedVariables false
set_option maxRecDepth 100000
namespace Go.Proofs.Ytkifmnocomadfaa
open Go.V

noncomputable def L28_1i : Shape := { items := [.tm 1 (.sl 68 t67), .tm 2 (.sl 3 (.int .i64)), .ptr 9 0 0, .bx 0 0 t67, .tm 13 (.sl 68 t67), .tm 14 (.int .i64), .tm 15 (.int .i64), .tm 19 (.sl 68 t67), .tm 20 (.int .i64), .tm 21 (.int .i64), .ownT 7 3 (.int .i64)], boxes := [68] }
noncomputable def L28_1o : Shape := { items := [.tm 1 (.sl 68 t67), .tm 2 (.sl 3 (.int .i64)), .tm 13 (.sl 68 t67), .tm 14 (.int .i64), .tm 15 (.int .i64), .ownT 7 3 (.int .i64)], boxes := [] }
noncomputable def L28_1 (N : Nat) : Nat → ((List D67) × ((List Int) × (Unit × (D67 × ((List D67) × (Int × (Int × ((List D67) × (Int × (Int × ((List Int) × Unit))))))))))) → (((List D67) × ((List Int) × ((List D67) × (Int × (Int × ((List Int) × Unit)))))) → Option ((List Int) × Unit)) → Option ((List Int) × Unit)
| 0, _, _ => none
| k + 1, x3, Kx =>
cond (decide (x3.2.2.2.2.2.2.2.2.2.1 < x3.2.2.2.2.2.2.2.2.1)) (
if 0 ≤ x3.2.2.2.2.2.2.2.2.2.1 then
if x3.2.2.2.2.2.2.2.2.2.1 < (x3.2.2.2.2.2.2.2.1.length : Int) then
let e4 : D67 := rdAt (t := t67) x3.2.2.2.2.2.2.2.1 x3.2.2.2.2.2.2.2.2.2.1
cond (e4.1.toList == x3.2.2.2.1.1.toList) (
if 0 ≤ x3.2.2.2.2.2.2.2.2.2.1 then
if x3.2.2.2.2.2.2.2.2.2.1 < (x3.2.1.length : Int) then
if x3.2.2.2.2.2.2.2.2.2.2.1.length + 1 ≤ 17592186044416 then
let v5 := (x3.2.2.2.2.2.2.2.2.2.2.1 ++ [(rdAt (t := (.int .i64)) x3.2.1 x3.2.2.2.2.2.2.2.2.2.1)])
L28_1 N k (x3.1, x3.2.1, (), x3.2.2.2.1, x3.2.2.2.2.1, x3.2.2.2.2.2.1, x3.2.2.2.2.2.2.1, x3.2.2.2.2.2.2.2.1, x3.2.2.2.2.2.2.2.2.1, (IntKind.i64.wrap (x3.2.2.2.2.2.2.2.2.2.1 + (1 : Int))), v5, ()) Kx
else none
else none
else none) (
L28_1 N k (x3.1, x3.2.1, (), x3.2.2.2.1, x3.2.2.2.2.1, x3.2.2.2.2.2.1, x3.2.2.2.2.2.2.1, x3.2.2.2.2.2.2.2.1, x3.2.2.2.2.2.2.2.2.1, (IntKind.i64.wrap (x3.2.2.2.2.2.2.2.2.2.1 + (1 : Int))), x3.2.2.2.2.2.2.2.2.2.2.1, ()) Kx)
else none
else none) (
Kx (x3.1, x3.2.1, x3.2.2.2.2.1, x3.2.2.2.2.2.1, x3.2.2.2.2.2.2.1, x3.2.2.2.2.2.2.2.2.2.2.1, ()))

noncomputable def L28_0i : Shape := { items := [.tm 1 (.sl 68 t67), .tm 2 (.sl 3 (.int .i64)), .tm 13 (.sl 68 t67), .tm 14 (.int .i64), .tm 15 (.int .i64), .ownT 7 3 (.int .i64)], boxes := [] }
noncomputable def L28_0o : Shape := { items := [.ownT 7 3 (.int .i64)], boxes := [] }
noncomputable def L28_0 (N : Nat) : Nat → ((List D67) × ((List Int) × ((List D67) × (Int × (Int × ((List Int) × Unit)))))) → (((List Int) × Unit) → Option ((List Int) × Unit)) → Option ((List Int) × Unit)
| 0, _, _ => none
| k + 1, x1, Kx =>
cond (decide (x1.2.2.2.2.1 < x1.2.2.2.1)) (
if 0 ≤ x1.2.2.2.2.1 then
if x1.2.2.2.2.1 < (x1.2.2.1.length : Int) then
let e2 : D67 := rdAt (t := t67) x1.2.2.1 x1.2.2.2.2.1
L28_1 N N (x1.1, x1.2.1, (), e2, x1.2.2.1, x1.2.2.2.1, x1.2.2.2.2.1, x1.1, (x1.1.length : Int), (0 : Int), x1.2.2.2.2.2.1, ()) fun y6 =>
L28_0 N k (y6.1, y6.2.1, y6.2.2.1, y6.2.2.2.1, (IntKind.i64.wrap (y6.2.2.2.2.1 + (1 : Int))), y6.2.2.2.2.2.1, ()) Kx
else none
else none) (
Kx (x1.2.2.2.2.2.1, ()))

noncomputable def F28 (N : Nat) : (D25 × ((List D67) × ((List Int) × Unit))) → Option ((List Int) × Unit) := fun x =>
L28_0 N N (x.2.1, x.2.2.1, x.1.2.2.2.1, (x.1.2.2.2.1.length : Int), (0 : Int), [], ()) fun y7 =>
some y7

noncomputable def ps28 : List Ty := [t25, (.sl 68 t67), (.sl 3 (.int .i64))]
noncomputable def rs28 : List Ty := [(.sl 3 (.int .i64))]
noncomputable def ty28 : List (TypeId × Ty) := [(3, (.int .i64)), (9, .str), (22, (.sl 68 t67)), (26, t25), (27, (.sl 3 (.int .i64))), (68, t67)]
noncomputable def by28 : List (TypeId × Nat) := [(3, 8)]
noncomputable def eq28 : List TypeId := []
noncomputable def E28 : Go.V.Env := { ty := ty28, bytes := by28, fn := [], eqs := eq28, inl := [] }
noncomputable def M28 : List (Nat × Go.V.Mark (Ty.prods rs28).den) := [(29900, { ins := L28_1i, outs := L28_1o, ex := some 2, f := fun N => L28_1 N }), (116, { ins := L28_0i, outs := L28_0o, ex := some 0, f := fun N => L28_0 N })]
noncomputable def C28 (N : Nat) : Go.V.Ctx (Ty.prods rs28).den := { E := E28, n := Go.Proofs.Try.f28.ntmps, marks := M28, fin := Go.V.finish (E28) Go.Proofs.Try.f28 rs28, N }
noncomputable def c28 : Code := (Go.Proofs.Try.f28.body).getD .skip

theorem tab28 : tablesB Go.Proofs.Try.prog ty28 by28 eq28 = true := by kernel_rfl
theorem oL28_0 (N : Nat) : (Obl.loop { ins := L28_0i, outs := L28_0o, ex := some 0, f := fun N => L28_0 N } 116 (subc [true, true, false, true, false, false] c28) : Obl (Ty.prods rs28).den).holds (C28 N) := by
  intro x Kx
  exact ⟨by kernel_rfl, fun k => by kernel_rfl⟩
theorem oL28_1 (N : Nat) : (Obl.loop { ins := L28_1i, outs := L28_1o, ex := some 2, f := fun N => L28_1 N } 29900 (subc [true, true, false, true, false, false, true, true, false, false, true, true, false, false] c28) : Obl (Ty.prods rs28).den).holds (C28 N) := by
  intro x Kx
  exact ⟨by kernel_rfl, fun k => by kernel_rfl⟩
theorem ob28 (N : Nat) : obls (C28 N) 1 c28 = [.loop { ins := L28_0i, outs := L28_0o, ex := some 0, f := fun N => L28_0 N } 116 (subc [true, true, false, true, false, false] c28), .loop { ins := L28_1i, outs := L28_1o, ex := some 2, f := fun N => L28_1 N } 29900 (subc [true, true, false, true, false, false, true, true, false, false, true, true, false, false] c28)] := by kernel_rfl
theorem eF28 (N : Nat) (x : (Ty.prods ps28).den) : Go.V.evBody (E28) Go.Proofs.Try.f28 rs28 (M28) N (Go.V.start Go.Proofs.Try.f28 ps28 x) = F28 N x := by kernel_rfl
theorem s28 (N : Nat) : Sound Go.Proofs.Try.prog 28 { ps := ps28, rs := rs28, f := F28 N } := by
  have hE : EnvOk Go.Proofs.Try.prog (E28) := env_ok tab28 (by
    intro p hp
    cases hp) (by
    intro p hp
    cases hp)
  have h := fn_sound hE (by kernel_rfl) Go.Proofs.Try.func28 (show Go.Proofs.Try.f28.body = some c28 by kernel_rfl) ps28 rs28 (M28) N (by
    intro o ho
    have ho : o ∈ obls (C28 N) 1 c28 := ho
    rw [ob28] at ho
    simp only [List.mem_cons, List.not_mem_nil, or_false] at ho
    rcases ho with rfl | rfl
    · exact oL28_0 N
    · exact oL28_1 N)
  have e : (fun x => Go.V.evBody (E28) Go.Proofs.Try.f28 rs28 (M28) N (Go.V.start Go.Proofs.Try.f28 ps28 x)) = F28 N := funext fun x => eF28 N x
  rw [e] at h
  exact h

end Go.Proofs.Ytkifmnocomadfaa
end

/- The reading of poundage poundagelaw22.PairGaps. -/
section
set_option linter.unusedVariables false
set_option maxRecDepth 100000
namespace Go.Proofs.Ytkifmnocomadfaa
open Go.V

noncomputable def L5_0i : Shape := { items := [.tm 2 (.int .i64), .tm 3 (.sl 3 (.int .i64)), .ptr 4 0 0, .bx 0 0 t25, .ptr 5 1 0, .bx 1 0 t25, .tm 12 (.sl 68 t67), .tm 13 (.sl 70 t69), .tm 78 (.sl 3 (.int .i64)), .tm 79 (.int .i64), .tm 80 (.int .i64)], boxes := [26, 26] }
noncomputable def L5_0o : Shape := { items := [.tm 2 (.int .i64), .tm 3 (.sl 3 (.int .i64)), .ptr 4 0 0, .bx 0 0 t25, .ptr 5 1 0, .bx 1 0 t25, .tm 12 (.sl 68 t67), .tm 13 (.sl 70 t69)], boxes := [26, 26] }
noncomputable def L5_0 (N : Nat) (g20 : (D52 × Unit) → Option D159) (g21 : Unit → Option D159) (g22 : (D25 × (D25 × Unit)) → Option (D31 × (D31 × D159))) (g23 : (D31 × (D31 × Unit)) → Option D159) (g24 : (D31 × (D31 × Unit)) → Option ((List D67) × ((List D69) × (Int × Unit)))) (g25 : (D69 × Unit) → Option (D40 × D159)) (g26 : (D52 × (Int × Unit)) → Option (Int × D159)) (g27 : (D25 × (Int × ((List Int) × Unit))) → Option D146) (g28 : (D25 × ((List D67) × ((List Int) × Unit))) → Option ((List Int) × Unit)) : Nat → (Int × ((List Int) × (Unit × (D25 × (Unit × (D25 × ((List D67) × ((List D69) × ((List Int) × D146))))))))) → ((Int × ((List Int) × (Unit × (D25 × (Unit × (D25 × ((List D67) × ((List D69) × Unit)))))))) → Option D159) → Option D159
| 0, _, _ => none
| k + 1, x5, Kx =>
cond (decide (x5.2.2.2.2.2.2.2.2.2.2.1 < x5.2.2.2.2.2.2.2.2.2.1)) (
if 0 ≤ x5.2.2.2.2.2.2.2.2.2.2.1 then
if x5.2.2.2.2.2.2.2.2.2.2.1 < (x5.2.2.2.2.2.2.2.2.1.length : Int) then
let v6 := (rdAt (t := (.int .i64)) x5.2.2.2.2.2.2.2.2.1 x5.2.2.2.2.2.2.2.2.2.2.1)
cond (decide (v6 < (0 : Int))) (
some (true, ())) (
if 0 ≤ x5.2.2.2.2.2.2.2.2.2.2.1 then
if x5.2.2.2.2.2.2.2.2.2.2.1 < (x5.2.2.2.2.2.2.1.length : Int) then
let e7 : D67 := rdAt (t := t67) x5.2.2.2.2.2.2.1 x5.2.2.2.2.2.2.2.2.2.2.1
cond (decide (v6 > e7.2.2.1)) (
some (true, ())) (
L5_0 N g20 g21 g22 g23 g24 g25 g26 g27 g28 k (x5.1, x5.2.1, (), x5.2.2.2.1, (), x5.2.2.2.2.2.1, x5.2.2.2.2.2.2.1, x5.2.2.2.2.2.2.2.1, x5.2.2.2.2.2.2.2.2.1, x5.2.2.2.2.2.2.2.2.2.1, (IntKind.i64.wrap (x5.2.2.2.2.2.2.2.2.2.2.1 + (1 : Int))), ()) Kx)
else none
else none)
else none
else none) (
Kx (x5.1, x5.2.1, (), x5.2.2.2.1, (), x5.2.2.2.2.2.1, x5.2.2.2.2.2.2.1, x5.2.2.2.2.2.2.2.1, ()))

noncomputable def L5_2i : Shape := { items := [.tm 2 (.int .i64), .tm 3 (.sl 3 (.int .i64)), .ptr 4 0 0, .bx 0 0 t25, .ptr 5 1 0, .bx 1 0 t25, .tm 12 (.sl 68 t67), .ptr 19 3 0, .bx 3 0 t40, .tm 21 (.int .i64), .tm 144 (.sl 3 (.int .i64)), .tm 145 (.int .i64), .tm 146 (.int .i64)], boxes := [26, 26, 70, 41] }
noncomputable def L5_2o : Shape := { items := [.tm 2 (.int .i64), .tm 3 (.sl 3 (.int .i64)), .ptr 4 0 0, .bx 0 0 t25, .ptr 5 1 0, .bx 1 0 t25, .tm 12 (.sl 68 t67), .tm 21 (.int .i64)], boxes := [26, 26] }
noncomputable def L5_2 (N : Nat) (g20 : (D52 × Unit) → Option D159) (g21 : Unit → Option D159) (g22 : (D25 × (D25 × Unit)) → Option (D31 × (D31 × D159))) (g23 : (D31 × (D31 × Unit)) → Option D159) (g24 : (D31 × (D31 × Unit)) → Option ((List D67) × ((List D69) × (Int × Unit)))) (g25 : (D69 × Unit) → Option (D40 × D159)) (g26 : (D52 × (Int × Unit)) → Option (Int × D159)) (g27 : (D25 × (Int × ((List Int) × Unit))) → Option D146) (g28 : (D25 × ((List D67) × ((List Int) × Unit))) → Option ((List Int) × Unit)) : Nat → (Int × ((List Int) × (Unit × (D25 × (Unit × (D25 × ((List D67) × (Unit × (D40 × (Int × ((List Int) × D146))))))))))) → ((Int × ((List Int) × (Unit × (D25 × (Unit × (D25 × ((List D67) × (Int × Unit)))))))) → Option D159) → Option D159
| 0, _, _ => none
| k + 1, x12, Kx =>
cond (decide (x12.2.2.2.2.2.2.2.2.2.2.2.2.1 < x12.2.2.2.2.2.2.2.2.2.2.2.1)) (
if 0 ≤ x12.2.2.2.2.2.2.2.2.2.2.2.2.1 then
if x12.2.2.2.2.2.2.2.2.2.2.2.2.1 < (x12.2.2.2.2.2.2.2.2.2.2.1.length : Int) then
let v13 := (rdAt (t := (.int .i64)) x12.2.2.2.2.2.2.2.2.2.2.1 x12.2.2.2.2.2.2.2.2.2.2.2.2.1)
if 0 ≤ x12.2.2.2.2.2.2.2.2.2.2.2.2.1 then
if x12.2.2.2.2.2.2.2.2.2.2.2.2.1 < (x12.2.2.2.2.2.2.2.2.1.2.2.2.1.length : Int) then
let e14 : D52 := rdAt (t := t52) x12.2.2.2.2.2.2.2.2.1.2.2.2.1 x12.2.2.2.2.2.2.2.2.2.2.2.2.1
(g26 (e14, v13, ())).bind fun r15 =>
cond (!r15.2.1) (
some (false, ())) (
if 0 ≤ x12.2.2.2.2.2.2.2.2.2.2.2.2.1 then
if x12.2.2.2.2.2.2.2.2.2.2.2.2.1 < (x12.2.2.2.2.2.2.2.2.1.2.2.2.1.length : Int) then
let e16 : D52 := rdAt (t := t52) x12.2.2.2.2.2.2.2.2.1.2.2.2.1 x12.2.2.2.2.2.2.2.2.2.2.2.2.1
(g20 (e16, ())).bind fun r17 =>
cond (!r17.1) (
some (false, ())) (
let v18 := (IntKind.i64.wrap (x12.2.2.2.2.2.2.2.2.2.1 + r15.1))
L5_2 N g20 g21 g22 g23 g24 g25 g26 g27 g28 k (x12.1, x12.2.1, (), x12.2.2.2.1, (), x12.2.2.2.2.2.1, x12.2.2.2.2.2.2.1, (), x12.2.2.2.2.2.2.2.2.1, v18, x12.2.2.2.2.2.2.2.2.2.2.1, x12.2.2.2.2.2.2.2.2.2.2.2.1, (IntKind.i64.wrap (x12.2.2.2.2.2.2.2.2.2.2.2.2.1 + (1 : Int))), ()) Kx)
else none
else none)
else none
else none
else none
else none) (
Kx (x12.1, x12.2.1, (), x12.2.2.2.1, (), x12.2.2.2.2.2.1, x12.2.2.2.2.2.2.1, x12.2.2.2.2.2.2.2.2.2.1, ()))

noncomputable def L5_1i : Shape := { items := [.tm 2 (.int .i64), .tm 3 (.sl 3 (.int .i64)), .ptr 4 0 0, .bx 0 0 t25, .ptr 5 1 0, .bx 1 0 t25, .tm 12 (.sl 68 t67), .tm 97 (.sl 70 t69), .tm 98 (.int .i64), .tm 99 (.int .i64)], boxes := [26, 26] }
noncomputable def L5_1o : Shape := { items := [], boxes := [] }
noncomputable def L5_1 (N : Nat) (g20 : (D52 × Unit) → Option D159) (g21 : Unit → Option D159) (g22 : (D25 × (D25 × Unit)) → Option (D31 × (D31 × D159))) (g23 : (D31 × (D31 × Unit)) → Option D159) (g24 : (D31 × (D31 × Unit)) → Option ((List D67) × ((List D69) × (Int × Unit)))) (g25 : (D69 × Unit) → Option (D40 × D159)) (g26 : (D52 × (Int × Unit)) → Option (Int × D159)) (g27 : (D25 × (Int × ((List Int) × Unit))) → Option D146) (g28 : (D25 × ((List D67) × ((List Int) × Unit))) → Option ((List Int) × Unit)) : Nat → (Int × ((List Int) × (Unit × (D25 × (Unit × (D25 × ((List D67) × ((List D69) × D146)))))))) → (Unit → Option D159) → Option D159
| 0, _, _ => none
| k + 1, x9, Kx =>
cond (decide (x9.2.2.2.2.2.2.2.2.2.1 < x9.2.2.2.2.2.2.2.2.1)) (
if 0 ≤ x9.2.2.2.2.2.2.2.2.2.1 then
if x9.2.2.2.2.2.2.2.2.2.1 < (x9.2.2.2.2.2.2.2.1.length : Int) then
let e10 : D69 := rdAt (t := t69) x9.2.2.2.2.2.2.2.1 x9.2.2.2.2.2.2.2.2.2.1
cond (decide (x9.1 < e10.1)) (
L5_1 N g20 g21 g22 g23 g24 g25 g26 g27 g28 k (x9.1, x9.2.1, (), x9.2.2.2.1, (), x9.2.2.2.2.2.1, x9.2.2.2.2.2.2.1, x9.2.2.2.2.2.2.2.1, x9.2.2.2.2.2.2.2.2.1, (IntKind.i64.wrap (x9.2.2.2.2.2.2.2.2.2.1 + (1 : Int))), ()) Kx) (
cond (decide (x9.1 > e10.2.1)) (
L5_1 N g20 g21 g22 g23 g24 g25 g26 g27 g28 k (x9.1, x9.2.1, (), x9.2.2.2.1, (), x9.2.2.2.2.2.1, x9.2.2.2.2.2.2.1, x9.2.2.2.2.2.2.2.1, x9.2.2.2.2.2.2.2.2.1, (IntKind.i64.wrap (x9.2.2.2.2.2.2.2.2.2.1 + (1 : Int))), ()) Kx) (
(g25 (e10, ())).bind fun r11 =>
cond (!r11.2.1) (
some (false, ())) (
cond (r11.1.1 != e10.1) (
some (false, ())) (
cond (r11.1.2.1 != e10.2.1) (
some (false, ())) (
cond ((r11.1.2.2.2.1.length : Int) != (x9.2.2.2.2.2.2.1.length : Int)) (
some (false, ())) (
L5_2 N g20 g21 g22 g23 g24 g25 g26 g27 g28 N (x9.1, x9.2.1, (), x9.2.2.2.1, (), x9.2.2.2.2.2.1, x9.2.2.2.2.2.2.1, (), r11.1, r11.1.2.2.1, x9.2.1, (x9.2.1.length : Int), (0 : Int), ()) fun y19 =>
(g28 (y19.2.2.2.1, y19.2.2.2.2.2.2.1, y19.2.1, ())).bind fun r20 =>
(g27 (y19.2.2.2.1, y19.1, r20)).bind fun r21 =>
(g28 (y19.2.2.2.2.2.1, y19.2.2.2.2.2.2.1, y19.2.1, ())).bind fun r22 =>
(g27 (y19.2.2.2.2.2.1, y19.1, r22)).bind fun r23 =>
let v24 := (y19.2.2.2.2.2.2.2.1 == (IntKind.i64.wrap (r21.1 - r23.1)))
some (v24, ())))))))
else none
else none) (
Kx ())

noncomputable def F5 (N : Nat) (g20 : (D52 × Unit) → Option D159) (g21 : Unit → Option D159) (g22 : (D25 × (D25 × Unit)) → Option (D31 × (D31 × D159))) (g23 : (D31 × (D31 × Unit)) → Option D159) (g24 : (D31 × (D31 × Unit)) → Option ((List D67) × ((List D69) × (Int × Unit)))) (g25 : (D69 × Unit) → Option (D40 × D159)) (g26 : (D52 × (Int × Unit)) → Option (Int × D159)) (g27 : (D25 × (Int × ((List Int) × Unit))) → Option D146) (g28 : (D25 × ((List D67) × ((List Int) × Unit))) → Option ((List Int) × Unit)) : (D25 × (D25 × (Int × ((List Int) × Unit)))) → Option D159 := fun x =>
(g21 ()).bind fun r1 =>
cond (!r1.1) (
some (false, ())) (
(g22 (x.1, x.2.1, ())).bind fun r2 =>
cond (!r2.2.2.1) (
some (true, ())) (
(g23 (r2.1, r2.2.1, ())).bind fun r3 =>
cond (!r3.1) (
some (true, ())) (
cond (decide ((x.2.2.2.1.length : Int) > (8 : Int))) (
some (true, ())) (
(g24 (r2.1, r2.2.1, ())).bind fun r4 =>
cond (r4.2.2.1 != (0 : Int)) (
some (false, ())) (
cond ((x.2.2.2.1.length : Int) != (r4.1.length : Int)) (
some (true, ())) (
cond (decide (x.2.2.1 < x.1.2.1)) (
some (true, ())) (
cond (decide (x.2.2.1 > x.1.2.2.1)) (
some (true, ())) (
L5_0 N g20 g21 g22 g23 g24 g25 g26 g27 g28 N (x.2.2.1, x.2.2.2.1, (), x.1, (), x.2.1, r4.1, r4.2.1, x.2.2.2.1, (x.2.2.2.1.length : Int), (0 : Int), ()) fun y8 =>
L5_1 N g20 g21 g22 g23 g24 g25 g26 g27 g28 N (y8.1, y8.2.1, (), y8.2.2.2.1, (), y8.2.2.2.2.2.1, y8.2.2.2.2.2.2.1, y8.2.2.2.2.2.2.2.1, (y8.2.2.2.2.2.2.2.1.length : Int), (0 : Int), ()) fun y25 =>
some (false, ())))))))))

noncomputable def ps5 : List Ty := [t25, t25, (.int .i64), (.sl 3 (.int .i64))]
noncomputable def rs5 : List Ty := [.bool]
noncomputable def ty5 : List (TypeId × Ty) := [(3, (.int .i64)), (22, (.sl 68 t67)), (26, t25), (27, (.sl 3 (.int .i64))), (32, t31), (34, (.int .i64)), (39, (.sl 53 t52)), (41, t40), (53, t52), (64, (.sl 70 t69)), (68, t67), (70, t69)]
noncomputable def by5 : List (TypeId × Nat) := []
noncomputable def eq5 : List TypeId := []
noncomputable def E5 (g20 : (D52 × Unit) → Option D159) (g21 : Unit → Option D159) (g22 : (D25 × (D25 × Unit)) → Option (D31 × (D31 × D159))) (g23 : (D31 × (D31 × Unit)) → Option D159) (g24 : (D31 × (D31 × Unit)) → Option ((List D67) × ((List D69) × (Int × Unit)))) (g25 : (D69 × Unit) → Option (D40 × D159)) (g26 : (D52 × (Int × Unit)) → Option (Int × D159)) (g27 : (D25 × (Int × ((List Int) × Unit))) → Option D146) (g28 : (D25 × ((List D67) × ((List Int) × Unit))) → Option ((List Int) × Unit)) : Go.V.Env := { ty := ty5, bytes := by5, fn := [(20, { ps := [t52], rs := [.bool], f := g20 }), (21, { ps := [], rs := [.bool], f := g21 }), (22, { ps := [t25, t25], rs := [t31, t31, .bool], f := g22 }), (23, { ps := [t31, t31], rs := [.bool], f := g23 }), (24, { ps := [t31, t31], rs := [(.sl 68 t67), (.sl 70 t69), (.int .i64)], f := g24 }), (25, { ps := [t69], rs := [t40, .bool], f := g25 }), (26, { ps := [t52, (.int .i64)], rs := [(.int .i64), .bool], f := g26 }), (27, { ps := [t25, (.int .i64), (.sl 3 (.int .i64))], rs := [(.int .i64), (.int .i64)], f := g27 }), (28, { ps := [t25, (.sl 68 t67), (.sl 3 (.int .i64))], rs := [(.sl 3 (.int .i64))], f := g28 })], eqs := eq5, inl := [] }
noncomputable def M5 (g20 : (D52 × Unit) → Option D159) (g21 : Unit → Option D159) (g22 : (D25 × (D25 × Unit)) → Option (D31 × (D31 × D159))) (g23 : (D31 × (D31 × Unit)) → Option D159) (g24 : (D31 × (D31 × Unit)) → Option ((List D67) × ((List D69) × (Int × Unit)))) (g25 : (D69 × Unit) → Option (D40 × D159)) (g26 : (D52 × (Int × Unit)) → Option (Int × D159)) (g27 : (D25 × (Int × ((List Int) × Unit))) → Option D146) (g28 : (D25 × ((List D67) × ((List Int) × Unit))) → Option ((List Int) × Unit)) : List (Nat × Go.V.Mark (Ty.prods rs5).den) := [(4084, { ins := L5_0i, outs := L5_0o, ex := some 0, f := fun N => L5_0 N g20 g21 g22 g23 g24 g25 g26 g27 g28 }), (67017204, { ins := L5_2i, outs := L5_2o, ex := some 4, f := fun N => L5_2 N g20 g21 g22 g23 g24 g25 g26 g27 g28 }), (8180, { ins := L5_1i, outs := L5_1o, ex := some 2, f := fun N => L5_1 N g20 g21 g22 g23 g24 g25 g26 g27 g28 })]
noncomputable def C5 (N : Nat) (g20 : (D52 × Unit) → Option D159) (g21 : Unit → Option D159) (g22 : (D25 × (D25 × Unit)) → Option (D31 × (D31 × D159))) (g23 : (D31 × (D31 × Unit)) → Option D159) (g24 : (D31 × (D31 × Unit)) → Option ((List D67) × ((List D69) × (Int × Unit)))) (g25 : (D69 × Unit) → Option (D40 × D159)) (g26 : (D52 × (Int × Unit)) → Option (Int × D159)) (g27 : (D25 × (Int × ((List Int) × Unit))) → Option D146) (g28 : (D25 × ((List D67) × ((List Int) × Unit))) → Option ((List Int) × Unit)) : Go.V.Ctx (Ty.prods rs5).den := { E := E5 g20 g21 g22 g23 g24 g25 g26 g27 g28, n := Go.Proofs.Try.f5.ntmps, marks := M5 g20 g21 g22 g23 g24 g25 g26 g27 g28, fin := Go.V.finish (E5 g20 g21 g22 g23 g24 g25 g26 g27 g28) Go.Proofs.Try.f5 rs5, N }
noncomputable def c5 : Code := (Go.Proofs.Try.f5.body).getD .skip

theorem tab5 : tablesB Go.Proofs.Try.prog ty5 by5 eq5 = true := by kernel_rfl
theorem oL5_0 (N : Nat) (g20 : (D52 × Unit) → Option D159) (g21 : Unit → Option D159) (g22 : (D25 × (D25 × Unit)) → Option (D31 × (D31 × D159))) (g23 : (D31 × (D31 × Unit)) → Option D159) (g24 : (D31 × (D31 × Unit)) → Option ((List D67) × ((List D69) × (Int × Unit)))) (g25 : (D69 × Unit) → Option (D40 × D159)) (g26 : (D52 × (Int × Unit)) → Option (Int × D159)) (g27 : (D25 × (Int × ((List Int) × Unit))) → Option D146) (g28 : (D25 × ((List D67) × ((List Int) × Unit))) → Option ((List Int) × Unit)) : (Obl.loop { ins := L5_0i, outs := L5_0o, ex := some 0, f := fun N => L5_0 N g20 g21 g22 g23 g24 g25 g26 g27 g28 } 4084 (subc [true, true, true, true, true, true, true, false, true, false, false] c5) : Obl (Ty.prods rs5).den).holds (C5 N g20 g21 g22 g23 g24 g25 g26 g27 g28) := by
  intro x Kx
  exact ⟨by kernel_rfl, fun k => by kernel_rfl⟩
theorem oL5_1 (N : Nat) (g20 : (D52 × Unit) → Option D159) (g21 : Unit → Option D159) (g22 : (D25 × (D25 × Unit)) → Option (D31 × (D31 × D159))) (g23 : (D31 × (D31 × Unit)) → Option D159) (g24 : (D31 × (D31 × Unit)) → Option ((List D67) × ((List D69) × (Int × Unit)))) (g25 : (D69 × Unit) → Option (D40 × D159)) (g26 : (D52 × (Int × Unit)) → Option (Int × D159)) (g27 : (D25 × (Int × ((List Int) × Unit))) → Option D146) (g28 : (D25 × ((List D67) × ((List Int) × Unit))) → Option ((List Int) × Unit)) : (Obl.loop { ins := L5_1i, outs := L5_1o, ex := some 2, f := fun N => L5_1 N g20 g21 g22 g23 g24 g25 g26 g27 g28 } 8180 (subc [true, true, true, true, true, true, true, true, false, true, false, false] c5) : Obl (Ty.prods rs5).den).holds (C5 N g20 g21 g22 g23 g24 g25 g26 g27 g28) := by
  intro x Kx
  exact ⟨by kernel_rfl, fun k => by kernel_rfl⟩
theorem oL5_2 (N : Nat) (g20 : (D52 × Unit) → Option D159) (g21 : Unit → Option D159) (g22 : (D25 × (D25 × Unit)) → Option (D31 × (D31 × D159))) (g23 : (D31 × (D31 × Unit)) → Option D159) (g24 : (D31 × (D31 × Unit)) → Option ((List D67) × ((List D69) × (Int × Unit)))) (g25 : (D69 × Unit) → Option (D40 × D159)) (g26 : (D52 × (Int × Unit)) → Option (Int × D159)) (g27 : (D25 × (Int × ((List Int) × Unit))) → Option D146) (g28 : (D25 × ((List D67) × ((List Int) × Unit))) → Option ((List Int) × Unit)) : (Obl.loop { ins := L5_2i, outs := L5_2o, ex := some 4, f := fun N => L5_2 N g20 g21 g22 g23 g24 g25 g26 g27 g28 } 67017204 (subc [true, true, true, true, true, true, true, true, false, true, false, false, true, true, false, false, true, true, true, true, true, false, true, false, false] c5) : Obl (Ty.prods rs5).den).holds (C5 N g20 g21 g22 g23 g24 g25 g26 g27 g28) := by
  intro x Kx
  exact ⟨by kernel_rfl, fun k => by kernel_rfl⟩
theorem ob5 (N : Nat) (g20 : (D52 × Unit) → Option D159) (g21 : Unit → Option D159) (g22 : (D25 × (D25 × Unit)) → Option (D31 × (D31 × D159))) (g23 : (D31 × (D31 × Unit)) → Option D159) (g24 : (D31 × (D31 × Unit)) → Option ((List D67) × ((List D69) × (Int × Unit)))) (g25 : (D69 × Unit) → Option (D40 × D159)) (g26 : (D52 × (Int × Unit)) → Option (Int × D159)) (g27 : (D25 × (Int × ((List Int) × Unit))) → Option D146) (g28 : (D25 × ((List D67) × ((List Int) × Unit))) → Option ((List Int) × Unit)) : obls (C5 N g20 g21 g22 g23 g24 g25 g26 g27 g28) 1 c5 = [.loop { ins := L5_0i, outs := L5_0o, ex := some 0, f := fun N => L5_0 N g20 g21 g22 g23 g24 g25 g26 g27 g28 } 4084 (subc [true, true, true, true, true, true, true, false, true, false, false] c5), .loop { ins := L5_1i, outs := L5_1o, ex := some 2, f := fun N => L5_1 N g20 g21 g22 g23 g24 g25 g26 g27 g28 } 8180 (subc [true, true, true, true, true, true, true, true, false, true, false, false] c5), .loop { ins := L5_2i, outs := L5_2o, ex := some 4, f := fun N => L5_2 N g20 g21 g22 g23 g24 g25 g26 g27 g28 } 67017204 (subc [true, true, true, true, true, true, true, true, false, true, false, false, true, true, false, false, true, true, true, true, true, false, true, false, false] c5)] := by kernel_rfl
theorem eF5 (N : Nat) (g20 : (D52 × Unit) → Option D159) (g21 : Unit → Option D159) (g22 : (D25 × (D25 × Unit)) → Option (D31 × (D31 × D159))) (g23 : (D31 × (D31 × Unit)) → Option D159) (g24 : (D31 × (D31 × Unit)) → Option ((List D67) × ((List D69) × (Int × Unit)))) (g25 : (D69 × Unit) → Option (D40 × D159)) (g26 : (D52 × (Int × Unit)) → Option (Int × D159)) (g27 : (D25 × (Int × ((List Int) × Unit))) → Option D146) (g28 : (D25 × ((List D67) × ((List Int) × Unit))) → Option ((List Int) × Unit)) (x : (Ty.prods ps5).den) : Go.V.evBody (E5 g20 g21 g22 g23 g24 g25 g26 g27 g28) Go.Proofs.Try.f5 rs5 (M5 g20 g21 g22 g23 g24 g25 g26 g27 g28) N (Go.V.start Go.Proofs.Try.f5 ps5 x) = F5 N g20 g21 g22 g23 g24 g25 g26 g27 g28 x := by kernel_rfl
theorem s5 (N : Nat) (g20 : (D52 × Unit) → Option D159) (g21 : Unit → Option D159) (g22 : (D25 × (D25 × Unit)) → Option (D31 × (D31 × D159))) (g23 : (D31 × (D31 × Unit)) → Option D159) (g24 : (D31 × (D31 × Unit)) → Option ((List D67) × ((List D69) × (Int × Unit)))) (g25 : (D69 × Unit) → Option (D40 × D159)) (g26 : (D52 × (Int × Unit)) → Option (Int × D159)) (g27 : (D25 × (Int × ((List Int) × Unit))) → Option D146) (g28 : (D25 × ((List D67) × ((List Int) × Unit))) → Option ((List Int) × Unit)) (h20 : Sound Go.Proofs.Try.prog 20 { ps := [t52], rs := [.bool], f := g20 }) (h21 : Sound Go.Proofs.Try.prog 21 { ps := [], rs := [.bool], f := g21 }) (h22 : Sound Go.Proofs.Try.prog 22 { ps := [t25, t25], rs := [t31, t31, .bool], f := g22 }) (h23 : Sound Go.Proofs.Try.prog 23 { ps := [t31, t31], rs := [.bool], f := g23 }) (h24 : Sound Go.Proofs.Try.prog 24 { ps := [t31, t31], rs := [(.sl 68 t67), (.sl 70 t69), (.int .i64)], f := g24 }) (h25 : Sound Go.Proofs.Try.prog 25 { ps := [t69], rs := [t40, .bool], f := g25 }) (h26 : Sound Go.Proofs.Try.prog 26 { ps := [t52, (.int .i64)], rs := [(.int .i64), .bool], f := g26 }) (h27 : Sound Go.Proofs.Try.prog 27 { ps := [t25, (.int .i64), (.sl 3 (.int .i64))], rs := [(.int .i64), (.int .i64)], f := g27 }) (h28 : Sound Go.Proofs.Try.prog 28 { ps := [t25, (.sl 68 t67), (.sl 3 (.int .i64))], rs := [(.sl 3 (.int .i64))], f := g28 }) : Sound Go.Proofs.Try.prog 5 { ps := ps5, rs := rs5, f := F5 N g20 g21 g22 g23 g24 g25 g26 g27 g28 } := by
  have hE : EnvOk Go.Proofs.Try.prog (E5 g20 g21 g22 g23 g24 g25 g26 g27 g28) := env_ok tab5 (by
    intro p hp
    simp only [List.mem_cons, List.not_mem_nil, or_false] at hp
    rcases hp with rfl | rfl | rfl | rfl | rfl | rfl | rfl | rfl | rfl
    · exact ⟨h20, Go.Proofs.Try.f20, Go.Proofs.Try.func20, by kernel_rfl, by kernel_rfl⟩
    · exact ⟨h21, Go.Proofs.Try.f21, Go.Proofs.Try.func21, by kernel_rfl, by kernel_rfl⟩
    · exact ⟨h22, Go.Proofs.Try.f22, Go.Proofs.Try.func22, by kernel_rfl, by kernel_rfl⟩
    · exact ⟨h23, Go.Proofs.Try.f23, Go.Proofs.Try.func23, by kernel_rfl, by kernel_rfl⟩
    · exact ⟨h24, Go.Proofs.Try.f24, Go.Proofs.Try.func24, by kernel_rfl, by kernel_rfl⟩
    · exact ⟨h25, Go.Proofs.Try.f25, Go.Proofs.Try.func25, by kernel_rfl, by kernel_rfl⟩
    · exact ⟨h26, Go.Proofs.Try.f26, Go.Proofs.Try.func26, by kernel_rfl, by kernel_rfl⟩
    · exact ⟨h27, Go.Proofs.Try.f27, Go.Proofs.Try.func27, by kernel_rfl, by kernel_rfl⟩
    · exact ⟨h28, Go.Proofs.Try.f28, Go.Proofs.Try.func28, by kernel_rfl, by kernel_rfl⟩) (by
    intro p hp
    cases hp)
  have h := fn_sound hE (by kernel_rfl) Go.Proofs.Try.func5 (show Go.Proofs.Try.f5.body = some c5 by kernel_rfl) ps5 rs5 (M5 g20 g21 g22 g23 g24 g25 g26 g27 g28) N (by
    intro o ho
    have ho : o ∈ obls (C5 N g20 g21 g22 g23 g24 g25 g26 g27 g28) 1 c5 := ho
    rw [ob5] at ho
    simp only [List.mem_cons, List.not_mem_nil, or_false] at ho
    rcases ho with rfl | rfl | rfl
    · exact oL5_0 N g20 g21 g22 g23 g24 g25 g26 g27 g28
    · exact oL5_1 N g20 g21 g22 g23 g24 g25 g26 g27 g28
    · exact oL5_2 N g20 g21 g22 g23 g24 g25 g26 g27 g28)
  have e : (fun x => Go.V.evBody (E5 g20 g21 g22 g23 g24 g25 g26 g27 g28) Go.Proofs.Try.f5 rs5 (M5 g20 g21 g22 g23 g24 g25 g26 g27 g28) N (Go.V.start Go.Proofs.Try.f5 ps5 x)) = F5 N g20 g21 g22 g23 g24 g25 g26 g27 g28 := funext fun x => eF5 N g20 g21 g22 g23 g24 g25 g26 g27 g28 x
  rw [e] at h
  exact h

end Go.Proofs.Ytkifmnocomadfaa
end
