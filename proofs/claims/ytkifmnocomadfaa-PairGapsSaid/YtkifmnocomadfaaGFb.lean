/- The reading of poundage pair.Meters 1. -/
import Derived.Test.YtkifmnocomadfaaGTy
import Derived.Test.YtkifmnocomadfaaGTx
section
set_option linter.unusedVariables false
set_option maxRecDepth 100000
namespace Go.Proofs.Ytkifmnocomadfaa
open Go.V

noncomputable def F73 (N : Nat) (g74 : (ByteArray × (ByteArray × Unit)) → Option (Int × Unit)) : (D67 × (D67 × Unit)) → Option (Int × Unit) := fun x =>
(g74 (x.1.1, x.2.1.1, ())).bind fun r1 =>
some r1

noncomputable def ps73 : List Ty := [t67, t67]
noncomputable def rs73 : List Ty := [(.int .i64)]
noncomputable def ty73 : List (TypeId × Ty) := [(9, .str), (68, t67)]
noncomputable def by73 : List (TypeId × Nat) := []
noncomputable def eq73 : List TypeId := []
noncomputable def E73 (g74 : (ByteArray × (ByteArray × Unit)) → Option (Int × Unit)) : Go.V.Env := { ty := ty73, bytes := by73, fn := [(74, { ps := [.str, .str], rs := [(.int .i64)], f := g74 })], eqs := eq73, inl := [] }
noncomputable def M73 (g74 : (ByteArray × (ByteArray × Unit)) → Option (Int × Unit)) : List (Nat × Go.V.Mark (Ty.prods rs73).den) := []
noncomputable def C73 (N : Nat) (g74 : (ByteArray × (ByteArray × Unit)) → Option (Int × Unit)) : Go.V.Ctx (Ty.prods rs73).den := { E := E73 g74, n := Go.Proofs.Try.f73.ntmps, marks := M73 g74, fin := Go.V.finish (E73 g74) Go.Proofs.Try.f73 rs73, N }
noncomputable def c73 : Code := (Go.Proofs.Try.f73.body).getD .skip

theorem tab73 : tablesB Go.Proofs.Try.prog ty73 by73 eq73 = true := by kernel_rfl
theorem ob73 (N : Nat) (g74 : (ByteArray × (ByteArray × Unit)) → Option (Int × Unit)) : obls (C73 N g74) 1 c73 = [] := by kernel_rfl
theorem eF73 (N : Nat) (g74 : (ByteArray × (ByteArray × Unit)) → Option (Int × Unit)) (x : (Ty.prods ps73).den) : Go.V.evBody (E73 g74) Go.Proofs.Try.f73 rs73 (M73 g74) N (Go.V.start Go.Proofs.Try.f73 ps73 x) = F73 N g74 x := by kernel_rfl
theorem s73 (N : Nat) (g74 : (ByteArray × (ByteArray × Unit)) → Option (Int × Unit)) (h74 : Sound Go.Proofs.Try.prog 74 { ps := [.str, .str], rs := [(.int .i64)], f := g74 }) : Sound Go.Proofs.Try.prog 73 { ps := ps73, rs := rs73, f := F73 N g74 } := by
  have hE : EnvOk Go.Proofs.Try.prog (E73 g74) := env_ok tab73 (by
    intro p hp
    simp only [List.mem_cons, List.not_mem_nil, or_false] at hp
    rcases hp with rfl
    · exact ⟨h74, Go.Proofs.Try.f74, Go.Proofs.Try.func74, by kernel_rfl, by kernel_rfl⟩) (by
    intro p hp
    cases hp)
  have h := fn_sound hE (by kernel_rfl) Go.Proofs.Try.func73 (show Go.Proofs.Try.f73.body = some c73 by kernel_rfl) ps73 rs73 (M73 g74) N (by
    intro o ho
    have ho : o ∈ obls (C73 N g74) 1 c73 := ho
    rw [ob73] at ho
    cases ho)
  have e : (fun x => Go.V.evBody (E73 g74) Go.Proofs.Try.f73 rs73 (M73 g74) N (Go.V.start Go.Proofs.Try.f73 ps73 x)) = F73 N g74 := funext fun x => eF73 N g74 x
  rw [e] at h
  exact h

end Go.Proofs.Ytkifmnocomadfaa
end

/- The reading of poundage pair.Meters 2. -/
section
set_option linter.unusedVariables false
set_option maxRecDepth 100000
namespace Go.Proofs.Ytkifmnocomadfaa
open Go.V

noncomputable def F76 (N : Nat) : (D67 × (D67 × Unit)) → Option D159 := fun x =>
some ((x.1.1.toList == x.2.1.1.toList), ())

noncomputable def ps76 : List Ty := [t67, t67]
noncomputable def rs76 : List Ty := [.bool]
noncomputable def ty76 : List (TypeId × Ty) := [(9, .str), (68, t67)]
noncomputable def by76 : List (TypeId × Nat) := []
noncomputable def eq76 : List TypeId := []
noncomputable def E76 : Go.V.Env := { ty := ty76, bytes := by76, fn := [], eqs := eq76, inl := [] }
noncomputable def M76 : List (Nat × Go.V.Mark (Ty.prods rs76).den) := []
noncomputable def C76 (N : Nat) : Go.V.Ctx (Ty.prods rs76).den := { E := E76, n := Go.Proofs.Try.f76.ntmps, marks := M76, fin := Go.V.finish (E76) Go.Proofs.Try.f76 rs76, N }
noncomputable def c76 : Code := (Go.Proofs.Try.f76.body).getD .skip

theorem tab76 : tablesB Go.Proofs.Try.prog ty76 by76 eq76 = true := by kernel_rfl
theorem ob76 (N : Nat) : obls (C76 N) 1 c76 = [] := by kernel_rfl
theorem eF76 (N : Nat) (x : (Ty.prods ps76).den) : Go.V.evBody (E76) Go.Proofs.Try.f76 rs76 (M76) N (Go.V.start Go.Proofs.Try.f76 ps76 x) = F76 N x := by kernel_rfl
theorem s76 (N : Nat) : Sound Go.Proofs.Try.prog 76 { ps := ps76, rs := rs76, f := F76 N } := by
  have hE : EnvOk Go.Proofs.Try.prog (E76) := env_ok tab76 (by
    intro p hp
    cases hp) (by
    intro p hp
    cases hp)
  have h := fn_sound hE (by kernel_rfl) Go.Proofs.Try.func76 (show Go.Proofs.Try.f76.body = some c76 by kernel_rfl) ps76 rs76 (M76) N (by
    intro o ho
    have ho : o ∈ obls (C76 N) 1 c76 := ho
    rw [ob76] at ho
    cases ho)
  have e : (fun x => Go.V.evBody (E76) Go.Proofs.Try.f76 rs76 (M76) N (Go.V.start Go.Proofs.Try.f76 ps76 x)) = F76 N := funext fun x => eF76 N x
  rw [e] at h
  exact h

end Go.Proofs.Ytkifmnocomadfaa
end

/- The deep reading of poundage pair.Meters. -/
section
set_option linter.unusedVariables false
set_option maxRecDepth 100000
namespace Go.Proofs.Ytkifmnocomadfaa
open Go.V

noncomputable def L52_0i : XShape := { items := [.tm 0 (.sl 22 (.sl 68 t67)), .tm 3 (.int .i64), .tm 9 (.sl 22 (.sl 68 t67)), .tm 10 (.int .i64), .tm 11 (.int .i64)], boxes := [], n := 36, all := 52 }
noncomputable def L52_0o : XShape := { items := [.tm 0 (.sl 22 (.sl 68 t67)), .tm 3 (.int .i64)], boxes := [], n := 36, all := 52 }
noncomputable def L52_0r : XShape := { items := [], boxes := [], n := 0, all := 0 }
noncomputable def L52_0 (N : Nat) (g73 : (D67 × (D67 × Unit)) → Option (Int × Unit)) (g76 : (D67 × (D67 × Unit)) → Option D159) : Nat → ((List (List D67)) × (Int × ((List (List D67)) × D146))) → (((List (List D67)) × (Int × Unit)) → Option ((List D67) × Unit)) → (Unit → Option ((List D67) × Unit)) → Option ((List D67) × Unit)
| 0, _, _, _ => none
| k + 1, x1, Kx, Rx =>
cond (decide (x1.2.2.2.2.1 < x1.2.2.2.1)) (
if 0 ≤ x1.2.2.2.2.1 then
if x1.2.2.2.2.1 < (x1.2.2.1.length : Int) then
let v2 := (IntKind.i64.wrap (x1.2.1 + ((rdAt (t := (.sl 68 t67)) x1.2.2.1 x1.2.2.2.2.1).length : Int)))
cond (decide (v2 < (0 : Int))) (
none) (
L52_0 N g73 g76 k (x1.1, v2, x1.2.2.1, x1.2.2.2.1, (IntKind.i64.wrap (x1.2.2.2.2.1 + (1 : Int))), ()) Kx Rx)
else none
else none) (
Kx (x1.1, x1.2.1, ()))

noncomputable def L52_1i : XShape := { items := [.tm 25 (.sl 22 (.sl 68 t67)), .tm 26 (.int .i64), .tm 27 (.int .i64), .ownT 6 68 t67], boxes := [], n := 36, all := 52 }
noncomputable def L52_1o : XShape := { items := [.ownT 6 68 t67], boxes := [], n := 36, all := 52 }
noncomputable def L52_1r : XShape := { items := [], boxes := [], n := 0, all := 0 }
noncomputable def L52_1 (N : Nat) (g73 : (D67 × (D67 × Unit)) → Option (Int × Unit)) (g76 : (D67 × (D67 × Unit)) → Option D159) : Nat → ((List (List D67)) × (Int × (Int × ((List D67) × Unit)))) → (((List D67) × Unit) → Option ((List D67) × Unit)) → (Unit → Option ((List D67) × Unit)) → Option ((List D67) × Unit)
| 0, _, _, _ => none
| k + 1, x4, Kx, Rx =>
cond (decide (x4.2.2.1 < x4.2.1)) (
if 0 ≤ x4.2.2.1 then
if x4.2.2.1 < (x4.1.length : Int) then
if x4.2.2.2.1.length + (rdAt (t := (.sl 68 t67)) x4.1 x4.2.2.1).length ≤ 2513169434916 then
L52_1 N g73 g76 k (x4.1, x4.2.1, (IntKind.i64.wrap (x4.2.2.1 + (1 : Int))), (x4.2.2.2.1 ++ (rdAt (t := (.sl 68 t67)) x4.1 x4.2.2.1)), ()) Kx Rx
else none
else none
else none) (
Kx (x4.2.2.2.1, ()))

noncomputable def L52_4i : XShape := { items := [.tm 1 (.int .i64), .tm 2 (.int .i64), .tm 3 (.clo 73 .unit), .tm 8 (.int .i64), .tm 9 (.int .i64), .tm 54 (.int .i64), .tm 55 (.clo 73 .unit), .tm 59 (.int .i64), .tm 61 (.int .i64), .ownT 0 68 t67, .same 53 0, .same 130 0], boxes := [], n := 53, all := 141 }
noncomputable def L52_4o : XShape := { items := [.tm 1 (.int .i64), .tm 2 (.int .i64), .tm 3 (.clo 73 .unit), .tm 8 (.int .i64), .tm 54 (.int .i64), .tm 55 (.clo 73 .unit), .tm 59 (.int .i64), .tm 61 (.int .i64), .ownT 0 68 t67, .same 53 0, .same 130 0], boxes := [], n := 53, all := 141 }
noncomputable def L52_4r : XShape := { items := [], boxes := [], n := 0, all := 0 }
noncomputable def L52_4 (N : Nat) (g73 : (D67 × (D67 × Unit)) → Option (Int × Unit)) (g76 : (D67 × (D67 × Unit)) → Option D159) : Nat → (Int × (Int × (Unit × (Int × (Int × (Int × (Unit × (Int × (Int × ((List D67) × (Unit × (Unit × Unit)))))))))))) → ((Int × (Int × (Unit × (Int × (Int × (Unit × (Int × (Int × ((List D67) × (Unit × (Unit × Unit))))))))))) → Option ((List D67) × Unit)) → (Unit → Option ((List D67) × Unit)) → Option ((List D67) × Unit)
| 0, _, _, _ => none
| k + 1, x8, Kx, Rx =>
cond (decide (x8.2.2.2.2.1 > x8.1)) (
if 0 ≤ x8.2.2.2.2.1 then
if x8.2.2.2.2.1 < (x8.2.2.2.2.2.2.2.2.2.1.length : Int) then
if 0 ≤ (IntKind.i64.wrap (x8.2.2.2.2.1 - (1 : Int))) then
if (IntKind.i64.wrap (x8.2.2.2.2.1 - (1 : Int))) < (x8.2.2.2.2.2.2.2.2.2.1.length : Int) then
(g73 ((rdAt (t := t67) x8.2.2.2.2.2.2.2.2.2.1 x8.2.2.2.2.1 : D67), (rdAt (t := t67) x8.2.2.2.2.2.2.2.2.2.1 (IntKind.i64.wrap (x8.2.2.2.2.1 - (1 : Int))) : D67), ())).bind fun r9 =>
cond (decide (r9.1 < (0 : Int))) (
if 0 ≤ (IntKind.i64.wrap (x8.2.2.2.2.1 - (1 : Int))) then
if (IntKind.i64.wrap (x8.2.2.2.2.1 - (1 : Int))) < (x8.2.2.2.2.2.2.2.2.2.1.length : Int) then
if 0 ≤ x8.2.2.2.2.1 then
if x8.2.2.2.2.1 < (x8.2.2.2.2.2.2.2.2.2.1.length : Int) then
if 0 ≤ x8.2.2.2.2.1 then
if x8.2.2.2.2.1 < (x8.2.2.2.2.2.2.2.2.2.1.length : Int) then
if 0 ≤ (IntKind.i64.wrap (x8.2.2.2.2.1 - (1 : Int))) then
if (IntKind.i64.wrap (x8.2.2.2.2.1 - (1 : Int))) < ((x8.2.2.2.2.2.2.2.2.2.1.set (x8.2.2.2.2.1).toNat (rdAt (t := t67) x8.2.2.2.2.2.2.2.2.2.1 (IntKind.i64.wrap (x8.2.2.2.2.1 - (1 : Int))) : D67)).length : Int) then
L52_4 N g73 g76 k (x8.1, x8.2.1, x8.2.2.1, x8.2.2.2.1, (IntKind.i64.wrap (x8.2.2.2.2.1 - (1 : Int))), x8.2.2.2.2.2.1, x8.2.2.2.2.2.2.1, x8.2.2.2.2.2.2.2.1, x8.2.2.2.2.2.2.2.2.1, ((x8.2.2.2.2.2.2.2.2.2.1.set (x8.2.2.2.2.1).toNat (rdAt (t := t67) x8.2.2.2.2.2.2.2.2.2.1 (IntKind.i64.wrap (x8.2.2.2.2.1 - (1 : Int))) : D67)).set ((IntKind.i64.wrap (x8.2.2.2.2.1 - (1 : Int)))).toNat (rdAt (t := t67) x8.2.2.2.2.2.2.2.2.2.1 x8.2.2.2.2.1 : D67)), (), (), ()) Kx Rx
else none
else none
else none
else none
else none
else none
else none
else none) (
Kx (x8.1, x8.2.1, x8.2.2.1, x8.2.2.2.1, x8.2.2.2.2.2.1, x8.2.2.2.2.2.2.1, x8.2.2.2.2.2.2.2.1, x8.2.2.2.2.2.2.2.2.1, x8.2.2.2.2.2.2.2.2.2.1, (), (), ()))
else none
else none
else none
else none) (
Kx (x8.1, x8.2.1, x8.2.2.1, x8.2.2.2.1, x8.2.2.2.2.2.1, x8.2.2.2.2.2.2.1, x8.2.2.2.2.2.2.2.1, x8.2.2.2.2.2.2.2.2.1, x8.2.2.2.2.2.2.2.2.2.1, (), (), ()))

noncomputable def L52_3i : XShape := { items := [.tm 1 (.int .i64), .tm 2 (.int .i64), .tm 3 (.clo 73 .unit), .tm 8 (.int .i64), .tm 54 (.int .i64), .tm 55 (.clo 73 .unit), .tm 59 (.int .i64), .tm 61 (.int .i64), .ownT 0 68 t67, .same 53 0, .same 130 0], boxes := [], n := 53, all := 141 }
noncomputable def L52_3o : XShape := { items := [.tm 54 (.int .i64), .tm 55 (.clo 73 .unit), .tm 59 (.int .i64), .tm 61 (.int .i64), .ownT 53 68 t67, .same 130 0], boxes := [], n := 53, all := 141 }
noncomputable def L52_3r : XShape := { items := [], boxes := [], n := 0, all := 0 }
noncomputable def L52_3 (N : Nat) (g73 : (D67 × (D67 × Unit)) → Option (Int × Unit)) (g76 : (D67 × (D67 × Unit)) → Option D159) : Nat → (Int × (Int × (Unit × (Int × (Int × (Unit × (Int × (Int × ((List D67) × (Unit × (Unit × Unit))))))))))) → ((Int × (Unit × (Int × (Int × ((List D67) × (Unit × Unit)))))) → Option ((List D67) × Unit)) → (Unit → Option ((List D67) × Unit)) → Option ((List D67) × Unit)
| 0, _, _, _ => none
| k + 1, x7, Kx, Rx =>
cond (decide (x7.2.2.2.1 < x7.2.1)) (
L52_4 N g73 g76 N (x7.1, x7.2.1, x7.2.2.1, x7.2.2.2.1, x7.2.2.2.1, x7.2.2.2.2.1, x7.2.2.2.2.2.1, x7.2.2.2.2.2.2.1, x7.2.2.2.2.2.2.2.1, x7.2.2.2.2.2.2.2.2.1, (), (), ()) (fun y10 =>
L52_3 N g73 g76 k (y10.1, y10.2.1, y10.2.2.1, (IntKind.i64.wrap (y10.2.2.2.1 + (1 : Int))), y10.2.2.2.2.1, y10.2.2.2.2.2.1, y10.2.2.2.2.2.2.1, y10.2.2.2.2.2.2.2.1, y10.2.2.2.2.2.2.2.2.1, (), (), ()) Kx Rx) (fun _ => none)) (
Kx (x7.2.2.2.2.1, x7.2.2.2.2.2.1, x7.2.2.2.2.2.2.1, x7.2.2.2.2.2.2.2.1, x7.2.2.2.2.2.2.2.2.1, (), ()))

noncomputable def L52_2i : XShape := { items := [.tm 1 (.int .i64), .tm 2 (.clo 73 .unit), .tm 6 (.int .i64), .tm 7 (.int .i64), .tm 8 (.int .i64), .ownT 0 68 t67, .same 77 0], boxes := [], n := 63, all := 88 }
noncomputable def L52_2o : XShape := { items := [.tm 1 (.int .i64), .tm 2 (.clo 73 .unit), .tm 6 (.int .i64), .tm 7 (.int .i64), .ownT 0 68 t67, .same 77 0], boxes := [], n := 63, all := 88 }
noncomputable def L52_2r : XShape := { items := [], boxes := [], n := 0, all := 0 }
noncomputable def L52_2 (N : Nat) (g73 : (D67 × (D67 × Unit)) → Option (Int × Unit)) (g76 : (D67 × (D67 × Unit)) → Option D159) : Nat → (Int × (Unit × (Int × (Int × (Int × ((List D67) × (Unit × Unit))))))) → ((Int × (Unit × (Int × (Int × ((List D67) × (Unit × Unit)))))) → Option ((List D67) × Unit)) → (Unit → Option ((List D67) × Unit)) → Option ((List D67) × Unit)
| 0, _, _, _ => none
| k + 1, x6, Kx, Rx =>
cond (decide (x6.2.2.2.2.1 ≤ x6.1)) (
L52_3 N g73 g76 N (x6.2.2.2.1, x6.2.2.2.2.1, x6.2.1, (IntKind.i64.wrap (x6.2.2.2.1 + (1 : Int))), x6.1, x6.2.1, x6.2.2.1, x6.2.2.2.2.1, x6.2.2.2.2.2.1, (), (), ()) (fun y11 =>
L52_2 N g73 g76 k (y11.1, y11.2.1, y11.2.2.1, y11.2.2.2.1, (IntKind.i64.wrap (y11.2.2.2.1 + y11.2.2.1)), y11.2.2.2.2.1, (), ()) Kx Rx) (fun _ => none)) (
Kx (x6.1, x6.2.1, x6.2.2.1, x6.2.2.2.1, x6.2.2.2.2.2.1, (), ()))

noncomputable def L52_6i : XShape := { items := [.tm 1 (.int .i64), .tm 2 (.int .i64), .tm 3 (.clo 73 .unit), .tm 8 (.int .i64), .tm 9 (.int .i64), .tm 54 (.int .i64), .tm 55 (.clo 73 .unit), .tm 59 (.int .i64), .ownT 0 68 t67, .same 53 0, .same 130 0], boxes := [], n := 53, all := 141 }
noncomputable def L52_6o : XShape := { items := [.tm 1 (.int .i64), .tm 2 (.int .i64), .tm 3 (.clo 73 .unit), .tm 8 (.int .i64), .tm 54 (.int .i64), .tm 55 (.clo 73 .unit), .tm 59 (.int .i64), .ownT 0 68 t67, .same 53 0, .same 130 0], boxes := [], n := 53, all := 141 }
noncomputable def L52_6r : XShape := { items := [], boxes := [], n := 0, all := 0 }
noncomputable def L52_6 (N : Nat) (g73 : (D67 × (D67 × Unit)) → Option (Int × Unit)) (g76 : (D67 × (D67 × Unit)) → Option D159) : Nat → (Int × (Int × (Unit × (Int × (Int × (Int × (Unit × (Int × ((List D67) × (Unit × (Unit × Unit))))))))))) → ((Int × (Int × (Unit × (Int × (Int × (Unit × (Int × ((List D67) × (Unit × (Unit × Unit)))))))))) → Option ((List D67) × Unit)) → (Unit → Option ((List D67) × Unit)) → Option ((List D67) × Unit)
| 0, _, _, _ => none
| k + 1, x14, Kx, Rx =>
cond (decide (x14.2.2.2.2.1 > x14.1)) (
if 0 ≤ x14.2.2.2.2.1 then
if x14.2.2.2.2.1 < (x14.2.2.2.2.2.2.2.2.1.length : Int) then
if 0 ≤ (IntKind.i64.wrap (x14.2.2.2.2.1 - (1 : Int))) then
if (IntKind.i64.wrap (x14.2.2.2.2.1 - (1 : Int))) < (x14.2.2.2.2.2.2.2.2.1.length : Int) then
(g73 ((rdAt (t := t67) x14.2.2.2.2.2.2.2.2.1 x14.2.2.2.2.1 : D67), (rdAt (t := t67) x14.2.2.2.2.2.2.2.2.1 (IntKind.i64.wrap (x14.2.2.2.2.1 - (1 : Int))) : D67), ())).bind fun r15 =>
cond (decide (r15.1 < (0 : Int))) (
if 0 ≤ (IntKind.i64.wrap (x14.2.2.2.2.1 - (1 : Int))) then
if (IntKind.i64.wrap (x14.2.2.2.2.1 - (1 : Int))) < (x14.2.2.2.2.2.2.2.2.1.length : Int) then
if 0 ≤ x14.2.2.2.2.1 then
if x14.2.2.2.2.1 < (x14.2.2.2.2.2.2.2.2.1.length : Int) then
if 0 ≤ x14.2.2.2.2.1 then
if x14.2.2.2.2.1 < (x14.2.2.2.2.2.2.2.2.1.length : Int) then
if 0 ≤ (IntKind.i64.wrap (x14.2.2.2.2.1 - (1 : Int))) then
if (IntKind.i64.wrap (x14.2.2.2.2.1 - (1 : Int))) < ((x14.2.2.2.2.2.2.2.2.1.set (x14.2.2.2.2.1).toNat (rdAt (t := t67) x14.2.2.2.2.2.2.2.2.1 (IntKind.i64.wrap (x14.2.2.2.2.1 - (1 : Int))) : D67)).length : Int) then
L52_6 N g73 g76 k (x14.1, x14.2.1, x14.2.2.1, x14.2.2.2.1, (IntKind.i64.wrap (x14.2.2.2.2.1 - (1 : Int))), x14.2.2.2.2.2.1, x14.2.2.2.2.2.2.1, x14.2.2.2.2.2.2.2.1, ((x14.2.2.2.2.2.2.2.2.1.set (x14.2.2.2.2.1).toNat (rdAt (t := t67) x14.2.2.2.2.2.2.2.2.1 (IntKind.i64.wrap (x14.2.2.2.2.1 - (1 : Int))) : D67)).set ((IntKind.i64.wrap (x14.2.2.2.2.1 - (1 : Int)))).toNat (rdAt (t := t67) x14.2.2.2.2.2.2.2.2.1 x14.2.2.2.2.1 : D67)), (), (), ()) Kx Rx
else none
else none
else none
else none
else none
else none
else none
else none) (
Kx (x14.1, x14.2.1, x14.2.2.1, x14.2.2.2.1, x14.2.2.2.2.2.1, x14.2.2.2.2.2.2.1, x14.2.2.2.2.2.2.2.1, x14.2.2.2.2.2.2.2.2.1, (), (), ()))
else none
else none
else none
else none) (
Kx (x14.1, x14.2.1, x14.2.2.1, x14.2.2.2.1, x14.2.2.2.2.2.1, x14.2.2.2.2.2.2.1, x14.2.2.2.2.2.2.2.1, x14.2.2.2.2.2.2.2.2.1, (), (), ()))

noncomputable def L52_5i : XShape := { items := [.tm 1 (.int .i64), .tm 2 (.int .i64), .tm 3 (.clo 73 .unit), .tm 8 (.int .i64), .tm 54 (.int .i64), .tm 55 (.clo 73 .unit), .tm 59 (.int .i64), .ownT 0 68 t67, .same 53 0, .same 130 0], boxes := [], n := 53, all := 141 }
noncomputable def L52_5o : XShape := { items := [.tm 54 (.int .i64), .tm 55 (.clo 73 .unit), .tm 59 (.int .i64), .ownT 53 68 t67, .same 130 0], boxes := [], n := 53, all := 141 }
noncomputable def L52_5r : XShape := { items := [], boxes := [], n := 0, all := 0 }
noncomputable def L52_5 (N : Nat) (g73 : (D67 × (D67 × Unit)) → Option (Int × Unit)) (g76 : (D67 × (D67 × Unit)) → Option D159) : Nat → (Int × (Int × (Unit × (Int × (Int × (Unit × (Int × ((List D67) × (Unit × (Unit × Unit)))))))))) → ((Int × (Unit × (Int × ((List D67) × (Unit × Unit))))) → Option ((List D67) × Unit)) → (Unit → Option ((List D67) × Unit)) → Option ((List D67) × Unit)
| 0, _, _, _ => none
| k + 1, x13, Kx, Rx =>
cond (decide (x13.2.2.2.1 < x13.2.1)) (
L52_6 N g73 g76 N (x13.1, x13.2.1, x13.2.2.1, x13.2.2.2.1, x13.2.2.2.1, x13.2.2.2.2.1, x13.2.2.2.2.2.1, x13.2.2.2.2.2.2.1, x13.2.2.2.2.2.2.2.1, (), (), ()) (fun y16 =>
L52_5 N g73 g76 k (y16.1, y16.2.1, y16.2.2.1, (IntKind.i64.wrap (y16.2.2.2.1 + (1 : Int))), y16.2.2.2.2.1, y16.2.2.2.2.2.1, y16.2.2.2.2.2.2.1, y16.2.2.2.2.2.2.2.1, (), (), ()) Kx Rx) (fun _ => none)) (
Kx (x13.2.2.2.2.1, x13.2.2.2.2.2.1, x13.2.2.2.2.2.2.1, x13.2.2.2.2.2.2.2.1, (), ()))

noncomputable def L52_8i : XShape := { items := [.tm 1 (.int .i64), .tm 2 (.clo 73 .unit), .tm 6 (.int .i64), .tm 7 (.int .i64), .tm 8 (.int .i64), .ownT 0 68 t67, .same 77 0], boxes := [], n := 63, all := 88 }
noncomputable def L52_8o : XShape := { items := [.tm 1 (.int .i64), .tm 2 (.clo 73 .unit), .tm 6 (.int .i64), .tm 7 (.int .i64), .ownT 0 68 t67, .same 77 0], boxes := [], n := 63, all := 88 }
noncomputable def L52_8r : XShape := { items := [], boxes := [], n := 0, all := 0 }
noncomputable def L52_8 (N : Nat) (g73 : (D67 × (D67 × Unit)) → Option (Int × Unit)) (g76 : (D67 × (D67 × Unit)) → Option D159) : Nat → (Int × (Unit × (Int × (Int × (Int × ((List D67) × (Unit × Unit))))))) → ((Int × (Unit × (Int × (Int × ((List D67) × (Unit × Unit)))))) → Option ((List D67) × Unit)) → (Unit → Option ((List D67) × Unit)) → Option ((List D67) × Unit)
| 0, _, _, _ => none
| k + 1, x19, Kx, Rx =>
cond (decide (x19.2.2.2.2.1 ≤ x19.1)) (
none) (
Kx (x19.1, x19.2.1, x19.2.2.1, x19.2.2.2.1, x19.2.2.2.2.2.1, (), ()))

noncomputable def L52_7i : XShape := { items := [.tm 1 (.int .i64), .tm 2 (.clo 73 .unit), .tm 6 (.int .i64), .ownT 0 68 t67, .same 77 0], boxes := [], n := 63, all := 88 }
noncomputable def L52_7o : XShape := { items := [.ownT 77 68 t67], boxes := [], n := 63, all := 88 }
noncomputable def L52_7r : XShape := { items := [], boxes := [], n := 0, all := 0 }
noncomputable def L52_7 (N : Nat) (g73 : (D67 × (D67 × Unit)) → Option (Int × Unit)) (g76 : (D67 × (D67 × Unit)) → Option D159) : Nat → (Int × (Unit × (Int × ((List D67) × (Unit × Unit))))) → (((List D67) × Unit) → Option ((List D67) × Unit)) → (Unit → Option ((List D67) × Unit)) → Option ((List D67) × Unit)
| 0, _, _, _ => none
| k + 1, x18, Kx, Rx =>
cond (decide (x18.2.2.1 < x18.1)) (
L52_8 N g73 g76 N (x18.1, x18.2.1, x18.2.2.1, (0 : Int), (IntKind.i64.wrap ((2 : Int) * x18.2.2.1)), x18.2.2.2.1, (), ()) (fun y20 =>
cond (decide ((IntKind.i64.wrap (y20.2.2.2.1 + y20.2.2.1)) < y20.1)) (
none) (
L52_7 N g73 g76 k (y20.1, y20.2.1, (IntKind.i64.wrap (y20.2.2.1 * (2 : Int))), y20.2.2.2.2.1, (), ()) Kx Rx)) (fun _ => none)) (
Kx (x18.2.2.2.1, ()))

noncomputable def L52_10i : XShape := { items := [.tm 1 (.clo 76 .unit), .tm 5 (.int .i64), .tm 7 (.int .i64), .ownT 0 68 t67, .subT 6 0], boxes := [], n := 66, all := 82 }
noncomputable def L52_10o : XShape := { items := [.tm 5 (.int .i64), .ownT 0 68 t67], boxes := [], n := 66, all := 82 }
noncomputable def L52_10r : XShape := { items := [], boxes := [], n := 0, all := 0 }
noncomputable def L52_10 (N : Nat) (g73 : (D67 × (D67 × Unit)) → Option (Int × Unit)) (g76 : (D67 × (D67 × Unit)) → Option D159) : Nat → (Unit × (Int × (Int × ((List D67) × ((Int × Int) × Unit))))) → ((Int × ((List D67) × Unit)) → Option ((List D67) × Unit)) → (Unit → Option ((List D67) × Unit)) → Option ((List D67) × Unit)
| 0, _, _, _ => none
| k + 1, x24, Kx, Rx =>
cond (decide (x24.2.2.1 < (x24.2.2.2.2.1.2 - x24.2.2.2.2.1.1))) (
if 0 ≤ x24.2.2.1 then
if x24.2.2.1 < x24.2.2.2.2.1.2 - x24.2.2.2.2.1.1 then
if 0 ≤ (IntKind.i64.wrap (x24.2.2.1 - (1 : Int))) then
if (IntKind.i64.wrap (x24.2.2.1 - (1 : Int))) < x24.2.2.2.2.1.2 - x24.2.2.2.2.1.1 then
(g76 ((rdAt (t := t67) x24.2.2.2.1 (x24.2.2.2.2.1.1 + x24.2.2.1) : D67), (rdAt (t := t67) x24.2.2.2.1 (x24.2.2.2.2.1.1 + (IntKind.i64.wrap (x24.2.2.1 - (1 : Int)))) : D67), ())).bind fun r25 =>
cond (!r25.1) (
if 0 ≤ x24.2.2.1 then
if x24.2.2.1 < x24.2.2.2.2.1.2 - x24.2.2.2.2.1.1 then
if 0 ≤ x24.2.1 then
if x24.2.1 < (x24.2.2.2.1.length : Int) then
L52_10 N g73 g76 k (x24.1, (IntKind.i64.wrap (x24.2.1 + (1 : Int))), (IntKind.i64.wrap (x24.2.2.1 + (1 : Int))), (x24.2.2.2.1.set (x24.2.1).toNat (rdAt (t := t67) x24.2.2.2.1 (x24.2.2.2.2.1.1 + x24.2.2.1) : D67)), (x24.2.2.2.2.1.1, x24.2.2.2.2.1.2), ()) Kx Rx
else none
else none
else none
else none) (
L52_10 N g73 g76 k (x24.1, x24.2.1, (IntKind.i64.wrap (x24.2.2.1 + (1 : Int))), x24.2.2.2.1, (x24.2.2.2.2.1.1, x24.2.2.2.2.1.2), ()) Kx Rx)
else none
else none
else none
else none) (
Kx (x24.2.1, x24.2.2.2.1, ()))

noncomputable def L52_9i : XShape := { items := [.tm 1 (.clo 76 .unit), .tm 5 (.int .i64), .ownT 0 68 t67], boxes := [], n := 66, all := 82 }
noncomputable def L52_9o : XShape := { items := [.ownT 0 68 t67], boxes := [], n := 66, all := 82 }
noncomputable def L52_9r : XShape := { items := [.tm 4 (.sl 68 t67)], boxes := [], n := 66, all := 82 }
noncomputable def L52_9 (N : Nat) (g73 : (D67 × (D67 × Unit)) → Option (Int × Unit)) (g76 : (D67 × (D67 × Unit)) → Option D159) : Nat → (Unit × (Int × ((List D67) × Unit))) → (((List D67) × Unit) → Option ((List D67) × Unit)) → (((List D67) × Unit) → Option ((List D67) × Unit)) → Option ((List D67) × Unit)
| 0, _, _, _ => none
| k + 1, x22, Kx, Rx =>
cond (decide (x22.2.1 < (x22.2.2.1.length : Int))) (
if 0 ≤ x22.2.1 then
if x22.2.1 < (x22.2.2.1.length : Int) then
if 0 ≤ (IntKind.i64.wrap (x22.2.1 - (1 : Int))) then
if (IntKind.i64.wrap (x22.2.1 - (1 : Int))) < (x22.2.2.1.length : Int) then
(g76 ((rdAt (t := t67) x22.2.2.1 x22.2.1 : D67), (rdAt (t := t67) x22.2.2.1 (IntKind.i64.wrap (x22.2.1 - (1 : Int))) : D67), ())).bind fun r23 =>
cond r23.1 (
if 0 ≤ x22.2.1 then
if x22.2.1 < (x22.2.2.1.length : Int) then
L52_10 N g73 g76 N (x22.1, x22.2.1, (1 : Int), x22.2.2.1, (x22.2.1, (x22.2.2.1.length : Int)), ()) (fun y26 =>
if 0 ≤ y26.1 then
if y26.1 < (y26.2.1.length : Int) then
if 0 ≤ (0 : Int) then
if (0 : Int) ≤ y26.1 then
if y26.1 ≤ ((y26.2.1.take (y26.1).toNat ++ List.replicate (((y26.2.1.length : Int)).toNat - (y26.1).toNat) (ByteArray.empty, ByteArray.empty, (0 : Int), (0 : Int), (0 : Int), ()) ++ y26.2.1.drop ((y26.2.1.length : Int)).toNat).length : Int) then
let v27 := (((y26.2.1.take (y26.1).toNat ++ List.replicate (((y26.2.1.length : Int)).toNat - (y26.1).toNat) (ByteArray.empty, ByteArray.empty, (0 : Int), (0 : Int), (0 : Int), ()) ++ y26.2.1.drop ((y26.2.1.length : Int)).toNat).take (y26.1).toNat).drop ((0 : Int)).toNat)
Rx (v27, ())
else none
else none
else none
else none
else none) (fun _ => none)
else none
else none) (
L52_9 N g73 g76 k (x22.1, (IntKind.i64.wrap (x22.2.1 + (1 : Int))), x22.2.2.1, ()) Kx Rx)
else none
else none
else none
else none) (
Kx (x22.2.2.1, ()))

noncomputable def F52 (N : Nat) (g73 : (D67 × (D67 × Unit)) → Option (Int × Unit)) (g76 : (D67 × (D67 × Unit)) → Option D159) : (D31 × (D31 × Unit)) → Option ((List D67) × Unit) := fun x =>
L52_0 N g73 g76 N ([x.1.2.2.2.1, x.2.1.2.2.2.1], (0 : Int), [x.1.2.2.2.1, x.2.1.2.2.2.1], ([x.1.2.2.2.1, x.2.1.2.2.2.1].length : Int), (0 : Int), ()) (fun y3 =>
if 0 < y3.2.1 then
if (y3.2.1).toNat ≤ 2513169434916 then
L52_1 N g73 g76 N (y3.1, (y3.1.length : Int), (0 : Int), [], ()) (fun y5 =>
L52_2 N g73 g76 N ((y5.1.length : Int), (), (20 : Int), (0 : Int), (20 : Int), y5.1, (), ()) (fun y12 =>
L52_5 N g73 g76 N (y12.2.2.2.1, y12.1, y12.2.1, (IntKind.i64.wrap (y12.2.2.2.1 + (1 : Int))), y12.1, y12.2.1, y12.2.2.1, y12.2.2.2.2.1, (), (), ()) (fun y17 =>
L52_7 N g73 g76 N (y17.1, y17.2.1, y17.2.2.1, y17.2.2.2.1, (), ()) (fun y21 =>
cond (decide ((y21.1.length : Int) < (2 : Int))) (
some y21) (
L52_9 N g73 g76 N ((), (1 : Int), y21.1, ()) (fun y28 =>
some y28) (fun y29 =>
some y29))) (fun _ => none)) (fun _ => none)) (fun _ => none)) (fun _ => none)
else none
else if y3.2.1 = 0 then
L52_1 N g73 g76 N (y3.1, (y3.1.length : Int), (0 : Int), [], ()) (fun y30 =>
L52_2 N g73 g76 N ((y30.1.length : Int), (), (20 : Int), (0 : Int), (20 : Int), y30.1, (), ()) (fun y31 =>
L52_5 N g73 g76 N (y31.2.2.2.1, y31.1, y31.2.1, (IntKind.i64.wrap (y31.2.2.2.1 + (1 : Int))), y31.1, y31.2.1, y31.2.2.1, y31.2.2.2.2.1, (), (), ()) (fun y32 =>
L52_7 N g73 g76 N (y32.1, y32.2.1, y32.2.2.1, y32.2.2.2.1, (), ()) (fun y33 =>
cond (decide ((y33.1.length : Int) < (2 : Int))) (
some y33) (
L52_9 N g73 g76 N ((), (1 : Int), y33.1, ()) (fun y34 =>
some y34) (fun y35 =>
some y35))) (fun _ => none)) (fun _ => none)) (fun _ => none)) (fun _ => none)
else none) (fun _ => none)

noncomputable def ps52 : List Ty := [t31, t31]
noncomputable def rs52 : List Ty := [(.sl 68 t67)]
noncomputable def ty52 : List (TypeId × Ty) := [(3, (.int .i64)), (22, (.sl 68 t67)), (32, t31), (68, t67), (150, (.sl 22 (.sl 68 t67)))]
noncomputable def by52 : List (TypeId × Nat) := [(68, 56)]
noncomputable def eq52 : List TypeId := []
noncomputable def E52 (g73 : (D67 × (D67 × Unit)) → Option (Int × Unit)) (g76 : (D67 × (D67 × Unit)) → Option D159) : Go.V.Env := { ty := ty52, bytes := by52, fn := [(73, { ps := [t67, t67], rs := [(.int .i64)], f := g73 }), (76, { ps := [t67, t67], rs := [.bool], f := g76 })], eqs := eq52, inl := [(71, Go.Proofs.Try.f71), (72, Go.Proofs.Try.f72), (75, Go.Proofs.Try.f75), (89, Go.Proofs.Try.f89), (105, Go.Proofs.Try.f105)] }
noncomputable def mL52_0 (g73 : (D67 × (D67 × Unit)) → Option (Int × Unit)) (g76 : (D67 × (D67 × Unit)) → Option D159) : Pos × Go.V.XMark (Ty.prods rs52).den := ((116, [{ f := 71, i := 5, p := 6 }]), { ins := L52_0i, outs := L52_0o, rets := L52_0r, ex := some 0, top := false, rt := false, f := fun N => L52_0 N g73 g76 })
noncomputable def mL52_1 (g73 : (D67 × (D67 × Unit)) → Option (Int × Unit)) (g76 : (D67 × (D67 × Unit)) → Option D159) : Pos × Go.V.XMark (Ty.prods rs52).den := ((500, [{ f := 71, i := 5, p := 6 }]), { ins := L52_1i, outs := L52_1o, rets := L52_1r, ex := some 2, top := false, rt := false, f := fun N => L52_1 N g73 g76 })
noncomputable def mL52_4 (g73 : (D67 × (D67 × Unit)) → Option (Int × Unit)) (g76 : (D67 × (D67 × Unit)) → Option D159) : Pos × Go.V.XMark (Ty.prods rs52).den := ((804, [{ f := 105, i := 4, p := 452 }, { f := 89, i := 4, p := 1 }, { f := 72, i := 1, p := 14 }]), { ins := L52_4i, outs := L52_4o, rets := L52_4r, ex := some 2, top := false, rt := false, f := fun N => L52_4 N g73 g76 })
noncomputable def mL52_3 (g73 : (D67 × (D67 × Unit)) → Option (Int × Unit)) (g76 : (D67 × (D67 × Unit)) → Option D159) : Pos × Go.V.XMark (Ty.prods rs52).den := ((12, [{ f := 105, i := 4, p := 452 }, { f := 89, i := 4, p := 1 }, { f := 72, i := 1, p := 14 }]), { ins := L52_3i, outs := L52_3o, rets := L52_3r, ex := some 0, top := false, rt := false, f := fun N => L52_3 N g73 g76 })
noncomputable def mL52_2 (g73 : (D67 × (D67 × Unit)) → Option (Int × Unit)) (g76 : (D67 × (D67 × Unit)) → Option D159) : Pos × Go.V.XMark (Ty.prods rs52).den := ((56, [{ f := 89, i := 4, p := 1 }, { f := 72, i := 1, p := 14 }]), { ins := L52_2i, outs := L52_2o, rets := L52_2r, ex := some 0, top := false, rt := false, f := fun N => L52_2 N g73 g76 })
noncomputable def mL52_6 (g73 : (D67 × (D67 × Unit)) → Option (Int × Unit)) (g76 : (D67 × (D67 × Unit)) → Option D159) : Pos × Go.V.XMark (Ty.prods rs52).den := ((804, [{ f := 105, i := 4, p := 30 }, { f := 89, i := 4, p := 1 }, { f := 72, i := 1, p := 14 }]), { ins := L52_6i, outs := L52_6o, rets := L52_6r, ex := some 2, top := false, rt := false, f := fun N => L52_6 N g73 g76 })
noncomputable def mL52_5 (g73 : (D67 × (D67 × Unit)) → Option (Int × Unit)) (g76 : (D67 × (D67 × Unit)) → Option D159) : Pos × Go.V.XMark (Ty.prods rs52).den := ((12, [{ f := 105, i := 4, p := 30 }, { f := 89, i := 4, p := 1 }, { f := 72, i := 1, p := 14 }]), { ins := L52_5i, outs := L52_5o, rets := L52_5r, ex := some 0, top := false, rt := false, f := fun N => L52_5 N g73 g76 })
noncomputable def mL52_8 (g73 : (D67 × (D67 × Unit)) → Option (Int × Unit)) (g76 : (D67 × (D67 × Unit)) → Option D159) : Pos × Go.V.XMark (Ty.prods rs52).den := ((7976, [{ f := 89, i := 4, p := 1 }, { f := 72, i := 1, p := 14 }]), { ins := L52_8i, outs := L52_8o, rets := L52_8r, ex := some 4, top := false, rt := false, f := fun N => L52_8 N g73 g76 })
noncomputable def mL52_7 (g73 : (D67 × (D67 × Unit)) → Option (Int × Unit)) (g76 : (D67 × (D67 × Unit)) → Option D159) : Pos × Go.V.XMark (Ty.prods rs52).den := ((124, [{ f := 89, i := 4, p := 1 }, { f := 72, i := 1, p := 14 }]), { ins := L52_7i, outs := L52_7o, rets := L52_7r, ex := some 2, top := false, rt := false, f := fun N => L52_7 N g73 g76 })
noncomputable def mL52_10 (g73 : (D67 × (D67 × Unit)) → Option (Int × Unit)) (g76 : (D67 × (D67 × Unit)) → Option D159) : Pos × Go.V.XMark (Ty.prods rs52).den := ((119380, [{ f := 75, i := 1, p := 30 }]), { ins := L52_10i, outs := L52_10o, rets := L52_10r, ex := some 2, top := false, rt := false, f := fun N => L52_10 N g73 g76 })
noncomputable def mL52_9 (g73 : (D67 × (D67 × Unit)) → Option (Int × Unit)) (g76 : (D67 × (D67 × Unit)) → Option D159) : Pos × Go.V.XMark (Ty.prods rs52).den := ((116, [{ f := 75, i := 1, p := 30 }]), { ins := L52_9i, outs := L52_9o, rets := L52_9r, ex := some 0, top := false, rt := true, f := fun N => L52_9 N g73 g76 })
noncomputable def M52 (g73 : (D67 × (D67 × Unit)) → Option (Int × Unit)) (g76 : (D67 × (D67 × Unit)) → Option D159) : List (Pos × Go.V.XMark (Ty.prods rs52).den) := [mL52_0 g73 g76, mL52_1 g73 g76, mL52_4 g73 g76, mL52_3 g73 g76, mL52_2 g73 g76, mL52_6 g73 g76, mL52_5 g73 g76, mL52_8 g73 g76, mL52_7 g73 g76, mL52_10 g73 g76, mL52_9 g73 g76]
noncomputable def c52 : Code := (Go.Proofs.Try.f52.body).getD .skip
noncomputable def C52 (N : Nat) (g73 : (D67 × (D67 × Unit)) → Option (Int × Unit)) (g76 : (D67 × (D67 × Unit)) → Option D159) : Go.V.XCtx (Ty.prods rs52).den := { E := E52 g73 g76, cut := [22], grow := [(88, 22)], marks := M52 g73 g76, bars := [], fin := Go.V.finish (E52 g73 g76) Go.Proofs.Try.f52 rs52, N, D := 3, root := c52 }

theorem tab52 : tablesB Go.Proofs.Try.prog ty52 by52 eq52 = true := by kernel_rfl
theorem oL52_0 (N : Nat) (g73 : (D67 × (D67 × Unit)) → Option (Int × Unit)) (g76 : (D67 × (D67 × Unit)) → Option D159) : ObX (C52 N g73 g76) (mL52_0 g73 g76) := by
  refine obX_loop ⟨fun h => (by cases h), fun h => (by cases h)⟩ [true, true, false, true, false, false] ((Go.Proofs.Try.f71.body).getD .skip) (by kernel_rfl) (by kernel_rfl) (by kernel_rfl) ?_
  intro x Kx Rx
  exact ⟨by kernel_rfl, fun k => by kernel_rfl⟩
theorem oL52_1 (N : Nat) (g73 : (D67 × (D67 × Unit)) → Option (Int × Unit)) (g76 : (D67 × (D67 × Unit)) → Option D159) : ObX (C52 N g73 g76) (mL52_1 g73 g76) := by
  refine obX_loop ⟨fun h => (by cases h), fun h => (by cases h)⟩ [true, true, true, true, false, true, false, false] ((Go.Proofs.Try.f71.body).getD .skip) (by kernel_rfl) (by kernel_rfl) (by kernel_rfl) ?_
  intro x Kx Rx
  exact ⟨by kernel_rfl, fun k => by kernel_rfl⟩
theorem oL52_4 (N : Nat) (g73 : (D67 × (D67 × Unit)) → Option (Int × Unit)) (g76 : (D67 × (D67 × Unit)) → Option D159) : ObX (C52 N g73 g76) (mL52_4 g73 g76) := by
  refine obX_loop ⟨fun h => (by cases h), fun h => (by cases h)⟩ [true, false, false, true, false, false, true, false, false] ((Go.Proofs.Try.f105.body).getD .skip) (by kernel_rfl) (by kernel_rfl) (by kernel_rfl) ?_
  intro x Kx Rx
  exact ⟨by kernel_rfl, fun k => by kernel_rfl⟩
theorem oL52_3 (N : Nat) (g73 : (D67 × (D67 × Unit)) → Option (Int × Unit)) (g76 : (D67 × (D67 × Unit)) → Option D159) : ObX (C52 N g73 g76) (mL52_3 g73 g76) := by
  refine obX_loop ⟨fun h => (by cases h), fun h => (by cases h)⟩ [true, false, false] ((Go.Proofs.Try.f105.body).getD .skip) (by kernel_rfl) (by kernel_rfl) (by kernel_rfl) ?_
  intro x Kx Rx
  exact ⟨by kernel_rfl, fun k => by kernel_rfl⟩
theorem oL52_2 (N : Nat) (g73 : (D67 × (D67 × Unit)) → Option (Int × Unit)) (g76 : (D67 × (D67 × Unit)) → Option D159) : ObX (C52 N g73 g76) (mL52_2 g73 g76) := by
  refine obX_loop ⟨fun h => (by cases h), fun h => (by cases h)⟩ [true, true, false, false, false] ((Go.Proofs.Try.f89.body).getD .skip) (by kernel_rfl) (by kernel_rfl) (by kernel_rfl) ?_
  intro x Kx Rx
  exact ⟨by kernel_rfl, fun k => by kernel_rfl⟩
theorem oL52_6 (N : Nat) (g73 : (D67 × (D67 × Unit)) → Option (Int × Unit)) (g76 : (D67 × (D67 × Unit)) → Option D159) : ObX (C52 N g73 g76) (mL52_6 g73 g76) := by
  refine obX_loop ⟨fun h => (by cases h), fun h => (by cases h)⟩ [true, false, false, true, false, false, true, false, false] ((Go.Proofs.Try.f105.body).getD .skip) (by kernel_rfl) (by kernel_rfl) (by kernel_rfl) ?_
  intro x Kx Rx
  exact ⟨by kernel_rfl, fun k => by kernel_rfl⟩
theorem oL52_5 (N : Nat) (g73 : (D67 × (D67 × Unit)) → Option (Int × Unit)) (g76 : (D67 × (D67 × Unit)) → Option D159) : ObX (C52 N g73 g76) (mL52_5 g73 g76) := by
  refine obX_loop ⟨fun h => (by cases h), fun h => (by cases h)⟩ [true, false, false] ((Go.Proofs.Try.f105.body).getD .skip) (by kernel_rfl) (by kernel_rfl) (by kernel_rfl) ?_
  intro x Kx Rx
  exact ⟨by kernel_rfl, fun k => by kernel_rfl⟩
theorem oL52_8 (N : Nat) (g73 : (D67 × (D67 × Unit)) → Option (Int × Unit)) (g76 : (D67 × (D67 × Unit)) → Option D159) : ObX (C52 N g73 g76) (mL52_8 g73 g76) := by
  refine obX_loop ⟨fun h => (by cases h), fun h => (by cases h)⟩ [true, true, true, true, false, false, true, false, true, false, false, false] ((Go.Proofs.Try.f89.body).getD .skip) (by kernel_rfl) (by kernel_rfl) (by kernel_rfl) ?_
  intro x Kx Rx
  exact ⟨by kernel_rfl, fun k => by kernel_rfl⟩
theorem oL52_7 (N : Nat) (g73 : (D67 × (D67 × Unit)) → Option (Int × Unit)) (g76 : (D67 × (D67 × Unit)) → Option D159) : ObX (C52 N g73 g76) (mL52_7 g73 g76) := by
  refine obX_loop ⟨fun h => (by cases h), fun h => (by cases h)⟩ [true, true, true, true, false, false] ((Go.Proofs.Try.f89.body).getD .skip) (by kernel_rfl) (by kernel_rfl) (by kernel_rfl) ?_
  intro x Kx Rx
  exact ⟨by kernel_rfl, fun k => by kernel_rfl⟩
theorem oL52_10 (N : Nat) (g73 : (D67 × (D67 × Unit)) → Option (Int × Unit)) (g76 : (D67 × (D67 × Unit)) → Option D159) : ObX (C52 N g73 g76) (mL52_10 g73 g76) := by
  refine obX_loop ⟨fun h => (by cases h), fun h => (by cases h)⟩ [true, true, false, true, false, false, true, false, false, true, false, true, false, true, false, false] ((Go.Proofs.Try.f75.body).getD .skip) (by kernel_rfl) (by kernel_rfl) (by kernel_rfl) ?_
  intro x Kx Rx
  exact ⟨by kernel_rfl, fun k => by kernel_rfl⟩
theorem oL52_9 (N : Nat) (g73 : (D67 × (D67 × Unit)) → Option (Int × Unit)) (g76 : (D67 × (D67 × Unit)) → Option D159) : ObX (C52 N g73 g76) (mL52_9 g73 g76) := by
  refine obX_loop ⟨fun h => (by cases h), fun h => (by cases h)⟩ [true, true, false, true, false, false] ((Go.Proofs.Try.f75.body).getD .skip) (by kernel_rfl) (by kernel_rfl) (by kernel_rfl) ?_
  intro x Kx Rx
  exact ⟨by kernel_rfl, fun k => by kernel_rfl⟩
theorem eF52 (N : Nat) (g73 : (D67 × (D67 × Unit)) → Option (Int × Unit)) (g76 : (D67 × (D67 × Unit)) → Option D159) (x : (Ty.prods ps52).den) : Go.V.evRoot (C52 N g73 g76) Go.Proofs.Try.f52 (Go.V.start Go.Proofs.Try.f52 ps52 x) = F52 N g73 g76 x := by kernel_rfl
theorem s52 (N : Nat) (g73 : (D67 × (D67 × Unit)) → Option (Int × Unit)) (g76 : (D67 × (D67 × Unit)) → Option D159) (h73 : Sound Go.Proofs.Try.prog 73 { ps := [t67, t67], rs := [(.int .i64)], f := g73 }) (h76 : Sound Go.Proofs.Try.prog 76 { ps := [t67, t67], rs := [.bool], f := g76 }) (w88 : ∀ E, EnvOk Go.Proofs.Try.prog E → GrowOk Go.Proofs.Try.prog E 88 22) : Sound Go.Proofs.Try.prog 52 { ps := ps52, rs := rs52, f := F52 N g73 g76 } := by
  have hE : EnvOk Go.Proofs.Try.prog (E52 g73 g76) := env_ok tab52 (by
    intro p hp
    simp only [List.mem_cons, List.not_mem_nil, or_false] at hp
    rcases hp with rfl | rfl
    · exact ⟨h73, Go.Proofs.Try.f73, Go.Proofs.Try.func73, by kernel_rfl, by kernel_rfl⟩
    · exact ⟨h76, Go.Proofs.Try.f76, Go.Proofs.Try.func76, by kernel_rfl, by kernel_rfl⟩) (by
    intro p hp
    simp only [List.mem_cons, List.not_mem_nil, or_false] at hp
    rcases hp with rfl | rfl | rfl | rfl | rfl
    · exact ⟨Go.Proofs.Try.func71, by kernel_rfl, by kernel_rfl⟩
    · exact ⟨Go.Proofs.Try.func72, by kernel_rfl, by kernel_rfl⟩
    · exact ⟨Go.Proofs.Try.func75, by kernel_rfl, by kernel_rfl⟩
    · exact ⟨Go.Proofs.Try.func89, by kernel_rfl, by kernel_rfl⟩
    · exact ⟨Go.Proofs.Try.func105, by kernel_rfl, by kernel_rfl⟩)
  have h := fnX_sound (C := C52 N g73 g76) (by kernel_rfl) Go.Proofs.Try.func52 (show Go.Proofs.Try.f52.body = some c52 by kernel_rfl) ps52 rs52 rfl rfl hE (by
    intro f t h
    have hm : (f, t) ∈ (C52 N g73 g76).grow := look_mem h
    simp only [C52, List.mem_cons, List.not_mem_nil, or_false, Prod.mk.injEq] at hm
    rcases hm with ⟨rfl, rfl⟩
    · exact w88 _ hE) (by
    intro e he
    have he : e ∈ M52 g73 g76 := he
    simp only [M52, List.mem_cons, List.not_mem_nil, or_false] at he
    rcases he with rfl | rfl | rfl | rfl | rfl | rfl | rfl | rfl | rfl | rfl | rfl
    · exact oL52_0 N g73 g76
    · exact oL52_1 N g73 g76
    · exact oL52_4 N g73 g76
    · exact oL52_3 N g73 g76
    · exact oL52_2 N g73 g76
    · exact oL52_6 N g73 g76
    · exact oL52_5 N g73 g76
    · exact oL52_8 N g73 g76
    · exact oL52_7 N g73 g76
    · exact oL52_10 N g73 g76
    · exact oL52_9 N g73 g76)
  have e : (fun x => Go.V.evRoot (C52 N g73 g76) Go.Proofs.Try.f52 (Go.V.start Go.Proofs.Try.f52 ps52 x)) = F52 N g73 g76 := funext fun x => eF52 N g73 g76 x
  rw [e] at h
  exact h

end Go.Proofs.Ytkifmnocomadfaa
end

/- The reading of (poundage line.Line int ).Span. -/
section
set_option linter.unusedVariables false
set_option maxRecDepth 100000
namespace Go.Proofs.Ytkifmnocomadfaa
open Go.V

noncomputable def F40 (N : Nat) : (D48 × Unit) → Option (Int × (Int × D159)) := fun x =>
cond ((x.1.1.length : Int) == (0 : Int)) (
some ((0 : Int), (0 : Int), false, ())) (
if 0 ≤ (0 : Int) then
if (0 : Int) < (x.1.1.length : Int) then
let e1 : D87 := rdAt (t := t87) x.1.1 (0 : Int)
let v2 := (IntKind.i64.wrap ((x.1.1.length : Int) - (1 : Int)))
if 0 ≤ v2 then
if v2 < (x.1.1.length : Int) then
let e3 : D87 := rdAt (t := t87) x.1.1 v2
some (e1.1, e3.2.1, true, ())
else none
else none
else none
else none)

noncomputable def ps40 : List Ty := [t48]
noncomputable def rs40 : List Ty := [(.int .i64), (.int .i64), .bool]
noncomputable def ty40 : List (TypeId × Ty) := [(3, (.int .i64)), (47, (.sl 88 t87)), (49, t48), (88, t87)]
noncomputable def by40 : List (TypeId × Nat) := []
noncomputable def eq40 : List TypeId := []
noncomputable def E40 : Go.V.Env := { ty := ty40, bytes := by40, fn := [], eqs := eq40, inl := [] }
noncomputable def M40 : List (Nat × Go.V.Mark (Ty.prods rs40).den) := []
noncomputable def C40 (N : Nat) : Go.V.Ctx (Ty.prods rs40).den := { E := E40, n := Go.Proofs.Try.f40.ntmps, marks := M40, fin := Go.V.finish (E40) Go.Proofs.Try.f40 rs40, N }
noncomputable def c40 : Code := (Go.Proofs.Try.f40.body).getD .skip

theorem tab40 : tablesB Go.Proofs.Try.prog ty40 by40 eq40 = true := by kernel_rfl
theorem ob40 (N : Nat) : obls (C40 N) 1 c40 = [] := by kernel_rfl
theorem eF40 (N : Nat) (x : (Ty.prods ps40).den) : Go.V.evBody (E40) Go.Proofs.Try.f40 rs40 (M40) N (Go.V.start Go.Proofs.Try.f40 ps40 x) = F40 N x := by kernel_rfl
theorem s40 (N : Nat) : Sound Go.Proofs.Try.prog 40 { ps := ps40, rs := rs40, f := F40 N } := by
  have hE : EnvOk Go.Proofs.Try.prog (E40) := env_ok tab40 (by
    intro p hp
    cases hp) (by
    intro p hp
    cases hp)
  have h := fn_sound hE (by kernel_rfl) Go.Proofs.Try.func40 (show Go.Proofs.Try.f40.body = some c40 by kernel_rfl) ps40 rs40 (M40) N (by
    intro o ho
    have ho : o ∈ obls (C40 N) 1 c40 := ho
    rw [ob40] at ho
    cases ho)
  have e : (fun x => Go.V.evBody (E40) Go.Proofs.Try.f40 rs40 (M40) N (Go.V.start Go.Proofs.Try.f40 ps40 x)) = F40 N := funext fun x => eF40 N x
  rw [e] at h
  exact h

end Go.Proofs.Ytkifmnocomadfaa
end

/- The reading of slices.Values   poundage line.Run int  poundage line.Run int  . -/
section
set_option linter.unusedVariables false
set_option maxRecDepth 100000
namespace Go.Proofs.Ytkifmnocomadfaa
open Go.V

noncomputable def F65 (N : Nat) : D48 → Option (((List D87) × Unit) × Unit) := fun x =>
some ((x.1, ()), ())

noncomputable def ps65 : List Ty := [(.sl 88 t87)]
noncomputable def rs65 : List Ty := [(.clo 87 (.pair (.ref (.sl 88 t87)) .unit))]
noncomputable def ty65 : List (TypeId × Ty) := [(47, (.sl 88 t87)), (88, t87)]
noncomputable def by65 : List (TypeId × Nat) := []
noncomputable def eq65 : List TypeId := []
noncomputable def E65 : Go.V.Env := { ty := ty65, bytes := by65, fn := [], eqs := eq65, inl := [] }
noncomputable def M65 : List (Nat × Go.V.Mark (Ty.prods rs65).den) := []
noncomputable def C65 (N : Nat) : Go.V.Ctx (Ty.prods rs65).den := { E := E65, n := Go.Proofs.Try.f65.ntmps, marks := M65, fin := Go.V.finish (E65) Go.Proofs.Try.f65 rs65, N }
noncomputable def c65 : Code := (Go.Proofs.Try.f65.body).getD .skip

theorem tab65 : tablesB Go.Proofs.Try.prog ty65 by65 eq65 = true := by kernel_rfl
theorem ob65 (N : Nat) : obls (C65 N) 1 c65 = [] := by kernel_rfl
theorem eF65 (N : Nat) (x : (Ty.prods ps65).den) : Go.V.evBody (E65) Go.Proofs.Try.f65 rs65 (M65) N (Go.V.start Go.Proofs.Try.f65 ps65 x) = F65 N x := by kernel_rfl
theorem s65 (N : Nat) : Sound Go.Proofs.Try.prog 65 { ps := ps65, rs := rs65, f := F65 N } := by
  have hE : EnvOk Go.Proofs.Try.prog (E65) := env_ok tab65 (by
    intro p hp
    cases hp) (by
    intro p hp
    cases hp)
  have h := fn_sound hE (by kernel_rfl) Go.Proofs.Try.func65 (show Go.Proofs.Try.f65.body = some c65 by kernel_rfl) ps65 rs65 (M65) N (by
    intro o ho
    have ho : o ∈ obls (C65 N) 1 c65 := ho
    rw [ob65] at ho
    cases ho)
  have e : (fun x => Go.V.evBody (E65) Go.Proofs.Try.f65 rs65 (M65) N (Go.V.start Go.Proofs.Try.f65 ps65 x)) = F65 N := funext fun x => eF65 N x
  rw [e] at h
  exact h

end Go.Proofs.Ytkifmnocomadfaa
end

/- The reading of (poundage line.Line int ).Runs. -/
section
set_option linter.unusedVariables false
set_option maxRecDepth 100000
namespace Go.Proofs.Ytkifmnocomadfaa
open Go.V

noncomputable def F42 (N : Nat) (g65 : D48 → Option (((List D87) × Unit) × Unit)) : (D48 × Unit) → Option (((List D87) × Unit) × Unit) := fun x =>
(g65 x.1).bind fun r1 =>
some r1

noncomputable def ps42 : List Ty := [t48]
noncomputable def rs42 : List Ty := [(.clo 87 (.pair (.ref (.sl 88 t87)) .unit))]
noncomputable def ty42 : List (TypeId × Ty) := [(47, (.sl 88 t87)), (49, t48), (88, t87)]
noncomputable def by42 : List (TypeId × Nat) := []
noncomputable def eq42 : List TypeId := []
noncomputable def E42 (g65 : D48 → Option (((List D87) × Unit) × Unit)) : Go.V.Env := { ty := ty42, bytes := by42, fn := [(65, { ps := [(.sl 88 t87)], rs := [(.clo 87 (.pair (.ref (.sl 88 t87)) .unit))], f := g65 })], eqs := eq42, inl := [] }
noncomputable def M42 (g65 : D48 → Option (((List D87) × Unit) × Unit)) : List (Nat × Go.V.Mark (Ty.prods rs42).den) := []
noncomputable def C42 (N : Nat) (g65 : D48 → Option (((List D87) × Unit) × Unit)) : Go.V.Ctx (Ty.prods rs42).den := { E := E42 g65, n := Go.Proofs.Try.f42.ntmps, marks := M42 g65, fin := Go.V.finish (E42 g65) Go.Proofs.Try.f42 rs42, N }
noncomputable def c42 : Code := (Go.Proofs.Try.f42.body).getD .skip

theorem tab42 : tablesB Go.Proofs.Try.prog ty42 by42 eq42 = true := by kernel_rfl
theorem ob42 (N : Nat) (g65 : D48 → Option (((List D87) × Unit) × Unit)) : obls (C42 N g65) 1 c42 = [] := by kernel_rfl
theorem eF42 (N : Nat) (g65 : D48 → Option (((List D87) × Unit) × Unit)) (x : (Ty.prods ps42).den) : Go.V.evBody (E42 g65) Go.Proofs.Try.f42 rs42 (M42 g65) N (Go.V.start Go.Proofs.Try.f42 ps42 x) = F42 N g65 x := by kernel_rfl
theorem s42 (N : Nat) (g65 : D48 → Option (((List D87) × Unit) × Unit)) (h65 : Sound Go.Proofs.Try.prog 65 { ps := [(.sl 88 t87)], rs := [(.clo 87 (.pair (.ref (.sl 88 t87)) .unit))], f := g65 }) : Sound Go.Proofs.Try.prog 42 { ps := ps42, rs := rs42, f := F42 N g65 } := by
  have hE : EnvOk Go.Proofs.Try.prog (E42 g65) := env_ok tab42 (by
    intro p hp
    simp only [List.mem_cons, List.not_mem_nil, or_false] at hp
    rcases hp with rfl
    · exact ⟨h65, Go.Proofs.Try.f65, Go.Proofs.Try.func65, by kernel_rfl, by kernel_rfl⟩) (by
    intro p hp
    cases hp)
  have h := fn_sound hE (by kernel_rfl) Go.Proofs.Try.func42 (show Go.Proofs.Try.f42.body = some c42 by kernel_rfl) ps42 rs42 (M42 g65) N (by
    intro o ho
    have ho : o ∈ obls (C42 N g65) 1 c42 := ho
    rw [ob42] at ho
    cases ho)
  have e : (fun x => Go.V.evBody (E42 g65) Go.Proofs.Try.f42 rs42 (M42 g65) N (Go.V.start Go.Proofs.Try.f42 ps42 x)) = F42 N g65 := funext fun x => eF42 N g65 x
  rw [e] at h
  exact h

end Go.Proofs.Ytkifmnocomadfaa
end

/- The reading of poundage curve.Of 1. -/
section
set_option linter.unusedVariables false
set_option maxRecDepth 100000
namespace Go.Proofs.Ytkifmnocomadfaa
open Go.V

noncomputable def F44 (N : Nat) : (D87 × Unit) → Option D159 := fun x =>
cond (decide (x.1.2.2.1 < (-2305843009213693952 : Int))) (
some (true, ())) (
let v1 := (decide (x.1.2.2.1 > (2305843009213693952 : Int)))
some (v1, ()))

noncomputable def ps44 : List Ty := [t87]
noncomputable def rs44 : List Ty := [.bool]
noncomputable def ty44 : List (TypeId × Ty) := [(3, (.int .i64)), (88, t87)]
noncomputable def by44 : List (TypeId × Nat) := []
noncomputable def eq44 : List TypeId := []
noncomputable def E44 : Go.V.Env := { ty := ty44, bytes := by44, fn := [], eqs := eq44, inl := [] }
noncomputable def M44 : List (Nat × Go.V.Mark (Ty.prods rs44).den) := []
noncomputable def C44 (N : Nat) : Go.V.Ctx (Ty.prods rs44).den := { E := E44, n := Go.Proofs.Try.f44.ntmps, marks := M44, fin := Go.V.finish (E44) Go.Proofs.Try.f44 rs44, N }
noncomputable def c44 : Code := (Go.Proofs.Try.f44.body).getD .skip

theorem tab44 : tablesB Go.Proofs.Try.prog ty44 by44 eq44 = true := by kernel_rfl
theorem ob44 (N : Nat) : obls (C44 N) 1 c44 = [] := by kernel_rfl
theorem eF44 (N : Nat) (x : (Ty.prods ps44).den) : Go.V.evBody (E44) Go.Proofs.Try.f44 rs44 (M44) N (Go.V.start Go.Proofs.Try.f44 ps44 x) = F44 N x := by kernel_rfl
theorem s44 (N : Nat) : Sound Go.Proofs.Try.prog 44 { ps := ps44, rs := rs44, f := F44 N } := by
  have hE : EnvOk Go.Proofs.Try.prog (E44) := env_ok tab44 (by
    intro p hp
    cases hp) (by
    intro p hp
    cases hp)
  have h := fn_sound hE (by kernel_rfl) Go.Proofs.Try.func44 (show Go.Proofs.Try.f44.body = some c44 by kernel_rfl) ps44 rs44 (M44) N (by
    intro o ho
    have ho : o ∈ obls (C44 N) 1 c44 := ho
    rw [ob44] at ho
    cases ho)
  have e : (fun x => Go.V.evBody (E44) Go.Proofs.Try.f44 rs44 (M44) N (Go.V.start Go.Proofs.Try.f44 ps44 x)) = F44 N := funext fun x => eF44 N x
  rw [e] at h
  exact h

end Go.Proofs.Ytkifmnocomadfaa
end

/- The reading of slices.IndexFunc   poundage line.Run int  poundage line.Run int  . -/
section
set_option linter.unusedVariables false
set_option maxRecDepth 100000
namespace Go.Proofs.Ytkifmnocomadfaa
open Go.V

noncomputable def L66_0i : Shape := { items := [.tm 0 (.sl 88 t87), .tm 1 (.clo 44 .unit), .tm 7 (.int .i64), .tm 8 (.int .i64)], boxes := [] }
noncomputable def L66_0o : Shape := { items := [], boxes := [] }
noncomputable def L66_0 (N : Nat) (g44 : (D87 × Unit) → Option D159) : Nat → ((List D87) × (Unit × D146)) → (Unit → Option (Int × Unit)) → Option (Int × Unit)
| 0, _, _ => none
| k + 1, x1, Kx =>
cond (decide (x1.2.2.2.1 < x1.2.2.1)) (
if 0 ≤ x1.2.2.2.1 then
if x1.2.2.2.1 < (x1.1.length : Int) then
let e2 : D87 := rdAt (t := t87) x1.1 x1.2.2.2.1
(g44 (e2, ())).bind fun r3 =>
cond r3.1 (
some x1.2.2.2) (
L66_0 N g44 k (x1.1, x1.2.1, x1.2.2.1, (IntKind.i64.wrap (x1.2.2.2.1 + (1 : Int))), ()) Kx)
else none
else none) (
Kx ())

noncomputable def F66 (N : Nat) (g44 : (D87 × Unit) → Option D159) : ((List D87) × (Unit × Unit)) → Option (Int × Unit) := fun x =>
L66_0 N g44 N (x.1, x.2.1, (x.1.length : Int), (0 : Int), ()) fun y4 =>
some ((-1 : Int), ())

noncomputable def ps66 : List Ty := [(.sl 88 t87), (.clo 44 .unit)]
noncomputable def rs66 : List Ty := [(.int .i64)]
noncomputable def ty66 : List (TypeId × Ty) := [(3, (.int .i64)), (47, (.sl 88 t87)), (88, t87)]
noncomputable def by66 : List (TypeId × Nat) := []
noncomputable def eq66 : List TypeId := []
noncomputable def E66 (g44 : (D87 × Unit) → Option D159) : Go.V.Env := { ty := ty66, bytes := by66, fn := [(44, { ps := [t87], rs := [.bool], f := g44 })], eqs := eq66, inl := [] }
noncomputable def M66 (g44 : (D87 × Unit) → Option D159) : List (Nat × Go.V.Mark (Ty.prods rs66).den) := [(52, { ins := L66_0i, outs := L66_0o, ex := some 0, f := fun N => L66_0 N g44 })]
noncomputable def C66 (N : Nat) (g44 : (D87 × Unit) → Option D159) : Go.V.Ctx (Ty.prods rs66).den := { E := E66 g44, n := Go.Proofs.Try.f66.ntmps, marks := M66 g44, fin := Go.V.finish (E66 g44) Go.Proofs.Try.f66 rs66, N }
noncomputable def c66 : Code := (Go.Proofs.Try.f66.body).getD .skip

theorem tab66 : tablesB Go.Proofs.Try.prog ty66 by66 eq66 = true := by kernel_rfl
theorem oL66_0 (N : Nat) (g44 : (D87 × Unit) → Option D159) : (Obl.loop { ins := L66_0i, outs := L66_0o, ex := some 0, f := fun N => L66_0 N g44 } 52 (subc [true, false, true, false, false] c66) : Obl (Ty.prods rs66).den).holds (C66 N g44) := by
  intro x Kx
  exact ⟨by kernel_rfl, fun k => by kernel_rfl⟩
theorem ob66 (N : Nat) (g44 : (D87 × Unit) → Option D159) : obls (C66 N g44) 1 c66 = [.loop { ins := L66_0i, outs := L66_0o, ex := some 0, f := fun N => L66_0 N g44 } 52 (subc [true, false, true, false, false] c66)] := by kernel_rfl
theorem eF66 (N : Nat) (g44 : (D87 × Unit) → Option D159) (x : (Ty.prods ps66).den) : Go.V.evBody (E66 g44) Go.Proofs.Try.f66 rs66 (M66 g44) N (Go.V.start Go.Proofs.Try.f66 ps66 x) = F66 N g44 x := by kernel_rfl
theorem s66 (N : Nat) (g44 : (D87 × Unit) → Option D159) (h44 : Sound Go.Proofs.Try.prog 44 { ps := [t87], rs := [.bool], f := g44 }) : Sound Go.Proofs.Try.prog 66 { ps := ps66, rs := rs66, f := F66 N g44 } := by
  have hE : EnvOk Go.Proofs.Try.prog (E66 g44) := env_ok tab66 (by
    intro p hp
    simp only [List.mem_cons, List.not_mem_nil, or_false] at hp
    rcases hp with rfl
    · exact ⟨h44, Go.Proofs.Try.f44, Go.Proofs.Try.func44, by kernel_rfl, by kernel_rfl⟩) (by
    intro p hp
    cases hp)
  have h := fn_sound hE (by kernel_rfl) Go.Proofs.Try.func66 (show Go.Proofs.Try.f66.body = some c66 by kernel_rfl) ps66 rs66 (M66 g44) N (by
    intro o ho
    have ho : o ∈ obls (C66 N g44) 1 c66 := ho
    rw [ob66] at ho
    simp only [List.mem_cons, List.not_mem_nil, or_false] at ho
    rcases ho with rfl
    · exact oL66_0 N g44)
  have e : (fun x => Go.V.evBody (E66 g44) Go.Proofs.Try.f66 rs66 (M66 g44) N (Go.V.start Go.Proofs.Try.f66 ps66 x)) = F66 N g44 := funext fun x => eF66 N g44 x
  rw [e] at h
  exact h

end Go.Proofs.Ytkifmnocomadfaa
end

/- The reading of slices.ContainsFunc   poundage line.Run int  poundage line.Run int  . -/
section
set_option linter.unusedVariables false
set_option maxRecDepth 100000
namespace Go.Proofs.Ytkifmnocomadfaa
open Go.V

noncomputable def F43 (N : Nat) (g66 : ((List D87) × (Unit × Unit)) → Option (Int × Unit)) : ((List D87) × (Unit × Unit)) → Option D159 := fun x =>
(g66 x).bind fun r1 =>
some ((decide (r1.1 ≥ (0 : Int))), ())

noncomputable def ps43 : List Ty := [(.sl 88 t87), (.clo 44 .unit)]
noncomputable def rs43 : List Ty := [.bool]
noncomputable def ty43 : List (TypeId × Ty) := [(3, (.int .i64))]
noncomputable def by43 : List (TypeId × Nat) := []
noncomputable def eq43 : List TypeId := []
noncomputable def E43 (g66 : ((List D87) × (Unit × Unit)) → Option (Int × Unit)) : Go.V.Env := { ty := ty43, bytes := by43, fn := [(66, { ps := [(.sl 88 t87), (.clo 44 .unit)], rs := [(.int .i64)], f := g66 })], eqs := eq43, inl := [] }
noncomputable def M43 (g66 : ((List D87) × (Unit × Unit)) → Option (Int × Unit)) : List (Nat × Go.V.Mark (Ty.prods rs43).den) := []
noncomputable def C43 (N : Nat) (g66 : ((List D87) × (Unit × Unit)) → Option (Int × Unit)) : Go.V.Ctx (Ty.prods rs43).den := { E := E43 g66, n := Go.Proofs.Try.f43.ntmps, marks := M43 g66, fin := Go.V.finish (E43 g66) Go.Proofs.Try.f43 rs43, N }
noncomputable def c43 : Code := (Go.Proofs.Try.f43.body).getD .skip

theorem tab43 : tablesB Go.Proofs.Try.prog ty43 by43 eq43 = true := by kernel_rfl
theorem ob43 (N : Nat) (g66 : ((List D87) × (Unit × Unit)) → Option (Int × Unit)) : obls (C43 N g66) 1 c43 = [] := by kernel_rfl
theorem eF43 (N : Nat) (g66 : ((List D87) × (Unit × Unit)) → Option (Int × Unit)) (x : (Ty.prods ps43).den) : Go.V.evBody (E43 g66) Go.Proofs.Try.f43 rs43 (M43 g66) N (Go.V.start Go.Proofs.Try.f43 ps43 x) = F43 N g66 x := by kernel_rfl
theorem s43 (N : Nat) (g66 : ((List D87) × (Unit × Unit)) → Option (Int × Unit)) (h66 : Sound Go.Proofs.Try.prog 66 { ps := [(.sl 88 t87), (.clo 44 .unit)], rs := [(.int .i64)], f := g66 }) : Sound Go.Proofs.Try.prog 43 { ps := ps43, rs := rs43, f := F43 N g66 } := by
  have hE : EnvOk Go.Proofs.Try.prog (E43 g66) := env_ok tab43 (by
    intro p hp
    simp only [List.mem_cons, List.not_mem_nil, or_false] at hp
    rcases hp with rfl
    · exact ⟨h66, Go.Proofs.Try.f66, Go.Proofs.Try.func66, by kernel_rfl, by kernel_rfl⟩) (by
    intro p hp
    cases hp)
  have h := fn_sound hE (by kernel_rfl) Go.Proofs.Try.func43 (show Go.Proofs.Try.f43.body = some c43 by kernel_rfl) ps43 rs43 (M43 g66) N (by
    intro o ho
    have ho : o ∈ obls (C43 N g66) 1 c43 := ho
    rw [ob43] at ho
    cases ho)
  have e : (fun x => Go.V.evBody (E43 g66) Go.Proofs.Try.f43 rs43 (M43 g66) N (Go.V.start Go.Proofs.Try.f43 ps43 x)) = F43 N g66 := funext fun x => eF43 N g66 x
  rw [e] at h
  exact h

end Go.Proofs.Ytkifmnocomadfaa
end

/- The reading of poundage curve.group. -/
section
set_option linter.unusedVariables false
set_option maxRecDepth 100000
namespace Go.Proofs.Ytkifmnocomadfaa
open Go.V

noncomputable def L45_0i : Shape := { items := [.tm 0 (.sl 88 t87), .ptr 2 0 0, .bx 0 0 t77, .ptr 4 1 0, .bx 1 0 t77], boxes := [78, 78] }
noncomputable def L45_0o : Shape := { items := [.ptr 2 0 0, .bx 0 0 t77, .ptr 4 1 0, .bx 1 0 t77], boxes := [78, 78] }
noncomputable def L45_0 (N : Nat) : Nat → ((List D87) × (Unit × (D77 × (Unit × (D77 × Unit))))) → ((Unit × (D77 × (Unit × (D77 × Unit)))) → Option (D77 × (Int × Unit))) → Option (D77 × (Int × Unit))
| 0, _, _ => none
| k + 1, x7, Kx =>
cond (decide (x7.2.2.2.2.1.2.2.2.2.1 < (x7.1.length : Int))) (
let v8 := (IntKind.i64.wrap (x7.2.2.2.2.1.2.2.2.2.1 - (1 : Int)))
if 0 ≤ v8 then
if v8 < (x7.1.length : Int) then
let e9 : D87 := rdAt (t := t87) x7.1 v8
if 0 ≤ x7.2.2.2.2.1.2.2.2.2.1 then
if x7.2.2.2.2.1.2.2.2.2.1 < (x7.1.length : Int) then
let e10 : D87 := rdAt (t := t87) x7.1 x7.2.2.2.2.1.2.2.2.2.1
cond ((IntKind.i64.wrap (e10.1 - e9.1)) != x7.2.2.2.2.1.2.2.1) (
Kx ((), x7.2.2.1, (), x7.2.2.2.2.1, ())) (
cond ((IntKind.i64.wrap (e10.2.2.1 - e9.2.2.1)) != x7.2.2.2.2.1.2.2.2.1) (
Kx ((), x7.2.2.1, (), x7.2.2.2.2.1, ())) (
let v11 := (IntKind.i64.wrap (x7.2.2.2.2.1.2.2.2.2.1 + (1 : Int)))
L45_0 N k (x7.1, (), x7.2.2.1, (), (x7.2.2.2.2.1.1, x7.2.2.2.2.1.2.1, x7.2.2.2.2.1.2.2.1, x7.2.2.2.2.1.2.2.2.1, v11, ()), ()) Kx))
else none
else none
else none
else none) (
Kx ((), x7.2.2.1, (), x7.2.2.2.2.1, ()))

noncomputable def F45 (N : Nat) : D48 → Option (D77 × (Int × Unit)) := fun x =>
if 0 ≤ (0 : Int) then
if (0 : Int) < (x.1.length : Int) then
let e1 : D87 := rdAt (t := t87) x.1 (0 : Int)
if 0 ≤ (0 : Int) then
if (0 : Int) < (x.1.length : Int) then
let e2 : D87 := rdAt (t := t87) x.1 (0 : Int)
cond ((x.1.length : Int) == (1 : Int)) (
some ((e1.1, e2.2.2.1, (0 : Int), (0 : Int), (1 : Int), ()), (1 : Int), ())) (
if 0 ≤ (1 : Int) then
if (1 : Int) < (x.1.length : Int) then
let e3 : D87 := rdAt (t := t87) x.1 (1 : Int)
if 0 ≤ (0 : Int) then
if (0 : Int) < (x.1.length : Int) then
let e4 : D87 := rdAt (t := t87) x.1 (0 : Int)
if 0 ≤ (1 : Int) then
if (1 : Int) < (x.1.length : Int) then
let e5 : D87 := rdAt (t := t87) x.1 (1 : Int)
if 0 ≤ (0 : Int) then
if (0 : Int) < (x.1.length : Int) then
let e6 : D87 := rdAt (t := t87) x.1 (0 : Int)
L45_0 N N (x.1, (), ((0 : Int), (0 : Int), (0 : Int), (0 : Int), (0 : Int), ()), (), (e1.1, e2.2.2.1, (IntKind.i64.wrap (e3.1 - e4.1)), (IntKind.i64.wrap (e5.2.2.1 - e6.2.2.1)), (1 : Int), ()), ()) fun y12 =>
some (y12.2.2.2.1, y12.2.2.2.1.2.2.2.2)
else none
else none
else none
else none
else none
else none
else none
else none)
else none
else none
else none
else none

noncomputable def ps45 : List Ty := [(.sl 88 t87)]
noncomputable def rs45 : List Ty := [t77, (.int .i64)]
noncomputable def ty45 : List (TypeId × Ty) := [(3, (.int .i64)), (47, (.sl 88 t87)), (78, t77), (88, t87)]
noncomputable def by45 : List (TypeId × Nat) := []
noncomputable def eq45 : List TypeId := []
noncomputable def E45 : Go.V.Env := { ty := ty45, bytes := by45, fn := [], eqs := eq45, inl := [] }
noncomputable def M45 : List (Nat × Go.V.Mark (Ty.prods rs45).den) := [(248, { ins := L45_0i, outs := L45_0o, ex := some 0, f := fun N => L45_0 N })]
noncomputable def C45 (N : Nat) : Go.V.Ctx (Ty.prods rs45).den := { E := E45, n := Go.Proofs.Try.f45.ntmps, marks := M45, fin := Go.V.finish (E45) Go.Proofs.Try.f45 rs45, N }
noncomputable def c45 : Code := (Go.Proofs.Try.f45.body).getD .skip

theorem tab45 : tablesB Go.Proofs.Try.prog ty45 by45 eq45 = true := by kernel_rfl
theorem oL45_0 (N : Nat) : (Obl.loop { ins := L45_0i, outs := L45_0o, ex := some 0, f := fun N => L45_0 N } 248 (subc [true, true, true, true, false, false, false] c45) : Obl (Ty.prods rs45).den).holds (C45 N) := by
  intro x Kx
  exact ⟨by kernel_rfl, fun k => by kernel_rfl⟩
theorem ob45 (N : Nat) : obls (C45 N) 1 c45 = [.loop { ins := L45_0i, outs := L45_0o, ex := some 0, f := fun N => L45_0 N } 248 (subc [true, true, true, true, false, false, false] c45)] := by kernel_rfl
theorem eF45 (N : Nat) (x : (Ty.prods ps45).den) : Go.V.evBody (E45) Go.Proofs.Try.f45 rs45 (M45) N (Go.V.start Go.Proofs.Try.f45 ps45 x) = F45 N x := by kernel_rfl
theorem s45 (N : Nat) : Sound Go.Proofs.Try.prog 45 { ps := ps45, rs := rs45, f := F45 N } := by
  have hE : EnvOk Go.Proofs.Try.prog (E45) := env_ok tab45 (by
    intro p hp
    cases hp) (by
    intro p hp
    cases hp)
  have h := fn_sound hE (by kernel_rfl) Go.Proofs.Try.func45 (show Go.Proofs.Try.f45.body = some c45 by kernel_rfl) ps45 rs45 (M45) N (by
    intro o ho
    have ho : o ∈ obls (C45 N) 1 c45 := ho
    rw [ob45] at ho
    simp only [List.mem_cons, List.not_mem_nil, or_false] at ho
    rcases ho with rfl
    · exact oL45_0 N)
  have e : (fun x => Go.V.evBody (E45) Go.Proofs.Try.f45 rs45 (M45) N (Go.V.start Go.Proofs.Try.f45 ps45 x)) = F45 N := funext fun x => eF45 N x
  rw [e] at h
  exact h

end Go.Proofs.Ytkifmnocomadfaa
end
