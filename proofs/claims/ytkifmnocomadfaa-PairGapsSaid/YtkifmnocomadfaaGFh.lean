/- The reading of poundage poundageref18.Day. -/
import Derived.Test.YtkifmnocomadfaaGTy
section
set_option linter.unusedVariables false
set_option maxRecDepth 100000
namespace Go.Proofs.Ytkifmnocomadfaa
open Go.V

noncomputable def L33_0i : Shape := { items := [.tm 1 (.int .i64), .ptr 2 0 0, .bx 0 0 t25, .ptr 4 1 0, .bx 1 0 (.int .i64), .bx 1 1 (.int .i64), .bx 1 2 (.int .i64), .ptr 5 2 0, .bx 2 0 (.int .i64), .bx 2 1 (.int .i64), .bx 2 2 (.int .i64), .tm 24 (.sl 110 t87), .tm 25 (.int .i64), .tm 26 (.int .i64), .ownB 1 3 53 t52, .ownB 2 3 53 t52], boxes := [26, 41, 41] }
noncomputable def L33_0o : Shape := { items := [.tm 1 (.int .i64), .ptr 2 0 0, .bx 0 0 t25, .ptr 4 1 0, .bx 1 0 (.int .i64), .bx 1 1 (.int .i64), .bx 1 2 (.int .i64), .ptr 5 2 0, .bx 2 0 (.int .i64), .bx 2 1 (.int .i64), .bx 2 2 (.int .i64), .ownB 1 3 53 t52, .ownB 2 3 53 t52], boxes := [26, 41, 41] }
noncomputable def L33_0 (N : Nat) (g48 : ((List Int) × Unit) → Option (D52 × D159)) (g57 : (D113 × (Int × Unit)) → Option (Int × D159)) : Nat → (Int × (Unit × (D25 × (Unit × (Int × (Int × (Int × (Unit × (Int × (Int × (Int × ((List D87) × (Int × (Int × ((List D52) × ((List D52) × Unit)))))))))))))))) → ((Int × (Unit × (D25 × (Unit × (Int × (Int × (Int × (Unit × (Int × (Int × (Int × ((List D52) × ((List D52) × Unit))))))))))))) → Option (D40 × Unit)) → Option (D40 × Unit)
| 0, _, _ => none
| k + 1, x1, Kx =>
cond (decide (x1.2.2.2.2.2.2.2.2.2.2.2.2.2.1 < x1.2.2.2.2.2.2.2.2.2.2.2.2.1)) (
if 0 ≤ x1.2.2.2.2.2.2.2.2.2.2.2.2.2.1 then
if x1.2.2.2.2.2.2.2.2.2.2.2.2.2.1 < (x1.2.2.2.2.2.2.2.2.2.2.2.1.length : Int) then
let e2 : D87 := rdAt (t := t87) x1.2.2.2.2.2.2.2.2.2.2.2.1 x1.2.2.2.2.2.2.2.2.2.2.2.2.2.1
cond (decide (e2.2.1 ≤ x1.1)) (
cond (decide (x1.1 ≤ e2.2.2.1)) (
let v3 := (IntKind.i64.wrap (x1.2.2.2.2.2.2.2.2.2.2.1 + e2.1))
L33_0 N g48 g57 k (x1.1, (), x1.2.2.1, (), x1.2.2.2.2.1, x1.2.2.2.2.2.1, x1.2.2.2.2.2.2.1, (), x1.2.2.2.2.2.2.2.2.1, x1.2.2.2.2.2.2.2.2.2.1, v3, x1.2.2.2.2.2.2.2.2.2.2.2.1, x1.2.2.2.2.2.2.2.2.2.2.2.2.1, (IntKind.i64.wrap (x1.2.2.2.2.2.2.2.2.2.2.2.2.2.1 + (1 : Int))), x1.2.2.2.2.2.2.2.2.2.2.2.2.2.2.1, x1.2.2.2.2.2.2.2.2.2.2.2.2.2.2.2.1, ()) Kx) (
L33_0 N g48 g57 k (x1.1, (), x1.2.2.1, (), x1.2.2.2.2.1, x1.2.2.2.2.2.1, x1.2.2.2.2.2.2.1, (), x1.2.2.2.2.2.2.2.2.1, x1.2.2.2.2.2.2.2.2.2.1, x1.2.2.2.2.2.2.2.2.2.2.1, x1.2.2.2.2.2.2.2.2.2.2.2.1, x1.2.2.2.2.2.2.2.2.2.2.2.2.1, (IntKind.i64.wrap (x1.2.2.2.2.2.2.2.2.2.2.2.2.2.1 + (1 : Int))), x1.2.2.2.2.2.2.2.2.2.2.2.2.2.2.1, x1.2.2.2.2.2.2.2.2.2.2.2.2.2.2.2.1, ()) Kx)) (
L33_0 N g48 g57 k (x1.1, (), x1.2.2.1, (), x1.2.2.2.2.1, x1.2.2.2.2.2.1, x1.2.2.2.2.2.2.1, (), x1.2.2.2.2.2.2.2.2.1, x1.2.2.2.2.2.2.2.2.2.1, x1.2.2.2.2.2.2.2.2.2.2.1, x1.2.2.2.2.2.2.2.2.2.2.2.1, x1.2.2.2.2.2.2.2.2.2.2.2.2.1, (IntKind.i64.wrap (x1.2.2.2.2.2.2.2.2.2.2.2.2.2.1 + (1 : Int))), x1.2.2.2.2.2.2.2.2.2.2.2.2.2.2.1, x1.2.2.2.2.2.2.2.2.2.2.2.2.2.2.2.1, ()) Kx)
else none
else none) (
Kx (x1.1, (), x1.2.2.1, (), x1.2.2.2.2.1, x1.2.2.2.2.2.1, x1.2.2.2.2.2.2.1, (), x1.2.2.2.2.2.2.2.2.1, x1.2.2.2.2.2.2.2.2.2.1, x1.2.2.2.2.2.2.2.2.2.2.1, x1.2.2.2.2.2.2.2.2.2.2.2.2.2.2.1, x1.2.2.2.2.2.2.2.2.2.2.2.2.2.2.2.1, ()))

noncomputable def L33_3i : Shape := { items := [.tm 1 (.int .i64), .ptr 2 0 0, .bx 0 0 t25, .ptr 4 1 0, .bx 1 0 (.int .i64), .bx 1 1 (.int .i64), .bx 1 2 (.int .i64), .ptr 5 2 0, .bx 2 0 (.int .i64), .bx 2 1 (.int .i64), .bx 2 2 (.int .i64), .tm 8 (.int .i64), .ptr 12 3 0, .bx 3 0 t113, .tm 13 (.int .i64), .tm 48 (.sl 68 t67), .tm 49 (.int .i64), .tm 50 (.int .i64), .tm 60 (.sl 114 t113), .tm 61 (.int .i64), .tm 62 (.int .i64), .tm 93 (.int .i64), .tm 94 (.int .i64), .ownB 1 3 53 t52, .ownB 2 3 53 t52, .ownT 10 3 (.int .i64)], boxes := [26, 41, 41, 114] }
noncomputable def L33_3o : Shape := { items := [.tm 1 (.int .i64), .ptr 2 0 0, .bx 0 0 t25, .ptr 4 1 0, .bx 1 0 (.int .i64), .bx 1 1 (.int .i64), .bx 1 2 (.int .i64), .ptr 5 2 0, .bx 2 0 (.int .i64), .bx 2 1 (.int .i64), .bx 2 2 (.int .i64), .tm 8 (.int .i64), .tm 48 (.sl 68 t67), .tm 49 (.int .i64), .tm 50 (.int .i64), .tm 60 (.sl 114 t113), .tm 61 (.int .i64), .tm 62 (.int .i64), .ownB 1 3 53 t52, .ownB 2 3 53 t52, .ownT 10 3 (.int .i64)], boxes := [26, 41, 41] }
noncomputable def L33_3 (N : Nat) (g48 : ((List Int) × Unit) → Option (D52 × D159)) (g57 : (D113 × (Int × Unit)) → Option (Int × D159)) : Nat → (Int × (Unit × (D25 × (Unit × (Int × (Int × (Int × (Unit × (Int × (Int × (Int × (Int × (Unit × (D113 × (Int × ((List D67) × (Int × (Int × ((List D113) × (Int × (Int × (Int × (Int × ((List D52) × ((List D52) × ((List Int) × Unit)))))))))))))))))))))))))) → ((Int × (Unit × (D25 × (Unit × (Int × (Int × (Int × (Unit × (Int × (Int × (Int × (Int × ((List D67) × (Int × (Int × ((List D113) × (Int × (Int × ((List D52) × ((List D52) × ((List Int) × Unit))))))))))))))))))))) → Option (D40 × Unit)) → Option (D40 × Unit)
| 0, _, _ => none
| k + 1, x11, Kx =>
cond (decide (x11.2.2.2.2.2.2.2.2.2.2.2.2.2.2.2.2.2.2.2.2.2.2.1 < x11.2.2.2.2.2.2.2.2.2.2.2.2.2.2.2.2.2.2.2.2.2.1)) (
(g57 (x11.2.2.2.2.2.2.2.2.2.2.2.2.2.1, x11.2.2.2.2.2.2.2.2.2.2.2.2.2.2.2.2.2.2.2.2.2.2.1, ())).bind fun r12 =>
if 0 ≤ x11.2.2.2.2.2.2.2.2.2.2.2.2.2.2.2.2.2.2.2.2.2.2.1 then
if x11.2.2.2.2.2.2.2.2.2.2.2.2.2.2.2.2.2.2.2.2.2.2.1 < (x11.2.2.2.2.2.2.2.2.2.2.2.2.2.2.2.2.2.2.2.2.2.2.2.2.2.1.length : Int) then
if 0 ≤ x11.2.2.2.2.2.2.2.2.2.2.2.2.2.2.2.2.2.2.2.2.2.2.1 then
if x11.2.2.2.2.2.2.2.2.2.2.2.2.2.2.2.2.2.2.2.2.2.2.1 < (x11.2.2.2.2.2.2.2.2.2.2.2.2.2.2.2.2.2.2.2.2.2.2.2.2.2.1.length : Int) then
let v13 := (IntKind.i64.wrap ((IntKind.i64.wrap ((rdAt (t := (.int .i64)) x11.2.2.2.2.2.2.2.2.2.2.2.2.2.2.2.2.2.2.2.2.2.2.2.2.2.1 x11.2.2.2.2.2.2.2.2.2.2.2.2.2.2.2.2.2.2.2.2.2.2.1) + r12.1)) - x11.2.2.2.2.2.2.2.2.2.2.2.2.2.2.1))
L33_3 N g48 g57 k (x11.1, (), x11.2.2.1, (), x11.2.2.2.2.1, x11.2.2.2.2.2.1, x11.2.2.2.2.2.2.1, (), x11.2.2.2.2.2.2.2.2.1, x11.2.2.2.2.2.2.2.2.2.1, x11.2.2.2.2.2.2.2.2.2.2.1, x11.2.2.2.2.2.2.2.2.2.2.2.1, (), x11.2.2.2.2.2.2.2.2.2.2.2.2.2.1, x11.2.2.2.2.2.2.2.2.2.2.2.2.2.2.1, x11.2.2.2.2.2.2.2.2.2.2.2.2.2.2.2.1, x11.2.2.2.2.2.2.2.2.2.2.2.2.2.2.2.2.1, x11.2.2.2.2.2.2.2.2.2.2.2.2.2.2.2.2.2.1, x11.2.2.2.2.2.2.2.2.2.2.2.2.2.2.2.2.2.2.1, x11.2.2.2.2.2.2.2.2.2.2.2.2.2.2.2.2.2.2.2.1, x11.2.2.2.2.2.2.2.2.2.2.2.2.2.2.2.2.2.2.2.2.1, x11.2.2.2.2.2.2.2.2.2.2.2.2.2.2.2.2.2.2.2.2.2.1, (IntKind.i64.wrap (x11.2.2.2.2.2.2.2.2.2.2.2.2.2.2.2.2.2.2.2.2.2.2.1 + (1 : Int))), x11.2.2.2.2.2.2.2.2.2.2.2.2.2.2.2.2.2.2.2.2.2.2.2.1, x11.2.2.2.2.2.2.2.2.2.2.2.2.2.2.2.2.2.2.2.2.2.2.2.2.1, (x11.2.2.2.2.2.2.2.2.2.2.2.2.2.2.2.2.2.2.2.2.2.2.2.2.2.1.set (x11.2.2.2.2.2.2.2.2.2.2.2.2.2.2.2.2.2.2.2.2.2.2.1).toNat v13), ()) Kx
else none
else none
else none
else none) (
Kx (x11.1, (), x11.2.2.1, (), x11.2.2.2.2.1, x11.2.2.2.2.2.1, x11.2.2.2.2.2.2.1, (), x11.2.2.2.2.2.2.2.2.1, x11.2.2.2.2.2.2.2.2.2.1, x11.2.2.2.2.2.2.2.2.2.2.1, x11.2.2.2.2.2.2.2.2.2.2.2.1, x11.2.2.2.2.2.2.2.2.2.2.2.2.2.2.2.1, x11.2.2.2.2.2.2.2.2.2.2.2.2.2.2.2.2.1, x11.2.2.2.2.2.2.2.2.2.2.2.2.2.2.2.2.2.1, x11.2.2.2.2.2.2.2.2.2.2.2.2.2.2.2.2.2.2.1, x11.2.2.2.2.2.2.2.2.2.2.2.2.2.2.2.2.2.2.2.1, x11.2.2.2.2.2.2.2.2.2.2.2.2.2.2.2.2.2.2.2.2.1, x11.2.2.2.2.2.2.2.2.2.2.2.2.2.2.2.2.2.2.2.2.2.2.2.1, x11.2.2.2.2.2.2.2.2.2.2.2.2.2.2.2.2.2.2.2.2.2.2.2.2.1, x11.2.2.2.2.2.2.2.2.2.2.2.2.2.2.2.2.2.2.2.2.2.2.2.2.2.1, ()))

noncomputable def L33_2i : Shape := { items := [.tm 1 (.int .i64), .ptr 2 0 0, .bx 0 0 t25, .ptr 4 1 0, .bx 1 0 (.int .i64), .bx 1 1 (.int .i64), .bx 1 2 (.int .i64), .ptr 5 2 0, .bx 2 0 (.int .i64), .bx 2 1 (.int .i64), .bx 2 2 (.int .i64), .tm 8 (.int .i64), .tm 48 (.sl 68 t67), .tm 49 (.int .i64), .tm 50 (.int .i64), .tm 60 (.sl 114 t113), .tm 61 (.int .i64), .tm 62 (.int .i64), .ownB 1 3 53 t52, .ownB 2 3 53 t52, .ownT 10 3 (.int .i64)], boxes := [26, 41, 41] }
noncomputable def L33_2o : Shape := { items := [.tm 1 (.int .i64), .ptr 2 0 0, .bx 0 0 t25, .ptr 4 1 0, .bx 1 0 (.int .i64), .bx 1 1 (.int .i64), .bx 1 2 (.int .i64), .ptr 5 2 0, .bx 2 0 (.int .i64), .bx 2 1 (.int .i64), .bx 2 2 (.int .i64), .tm 48 (.sl 68 t67), .tm 49 (.int .i64), .tm 50 (.int .i64), .ownB 1 3 53 t52, .ownB 2 3 53 t52, .ownT 10 3 (.int .i64)], boxes := [26, 41, 41] }
noncomputable def L33_2 (N : Nat) (g48 : ((List Int) × Unit) → Option (D52 × D159)) (g57 : (D113 × (Int × Unit)) → Option (Int × D159)) : Nat → (Int × (Unit × (D25 × (Unit × (Int × (Int × (Int × (Unit × (Int × (Int × (Int × (Int × ((List D67) × (Int × (Int × ((List D113) × (Int × (Int × ((List D52) × ((List D52) × ((List Int) × Unit))))))))))))))))))))) → ((Int × (Unit × (D25 × (Unit × (Int × (Int × (Int × (Unit × (Int × (Int × (Int × ((List D67) × (Int × (Int × ((List D52) × ((List D52) × ((List Int) × Unit))))))))))))))))) → Option (D40 × Unit)) → Option (D40 × Unit)
| 0, _, _ => none
| k + 1, x7, Kx =>
cond (decide (x7.2.2.2.2.2.2.2.2.2.2.2.2.2.2.2.2.2.1 < x7.2.2.2.2.2.2.2.2.2.2.2.2.2.2.2.2.1)) (
if 0 ≤ x7.2.2.2.2.2.2.2.2.2.2.2.2.2.2.2.2.2.1 then
if x7.2.2.2.2.2.2.2.2.2.2.2.2.2.2.2.2.2.1 < (x7.2.2.2.2.2.2.2.2.2.2.2.2.2.2.2.1.length : Int) then
let e8 : D113 := rdAt (t := t113) x7.2.2.2.2.2.2.2.2.2.2.2.2.2.2.2.1 x7.2.2.2.2.2.2.2.2.2.2.2.2.2.2.2.2.2.1
cond (e8.1 != x7.2.2.2.2.2.2.2.2.2.2.2.1) (
L33_2 N g48 g57 k (x7.1, (), x7.2.2.1, (), x7.2.2.2.2.1, x7.2.2.2.2.2.1, x7.2.2.2.2.2.2.1, (), x7.2.2.2.2.2.2.2.2.1, x7.2.2.2.2.2.2.2.2.2.1, x7.2.2.2.2.2.2.2.2.2.2.1, x7.2.2.2.2.2.2.2.2.2.2.2.1, x7.2.2.2.2.2.2.2.2.2.2.2.2.1, x7.2.2.2.2.2.2.2.2.2.2.2.2.2.1, x7.2.2.2.2.2.2.2.2.2.2.2.2.2.2.1, x7.2.2.2.2.2.2.2.2.2.2.2.2.2.2.2.1, x7.2.2.2.2.2.2.2.2.2.2.2.2.2.2.2.2.1, (IntKind.i64.wrap (x7.2.2.2.2.2.2.2.2.2.2.2.2.2.2.2.2.2.1 + (1 : Int))), x7.2.2.2.2.2.2.2.2.2.2.2.2.2.2.2.2.2.2.1, x7.2.2.2.2.2.2.2.2.2.2.2.2.2.2.2.2.2.2.2.1, x7.2.2.2.2.2.2.2.2.2.2.2.2.2.2.2.2.2.2.2.2.1, ()) Kx) (
cond (decide (x7.1 < e8.2.1)) (
L33_2 N g48 g57 k (x7.1, (), x7.2.2.1, (), x7.2.2.2.2.1, x7.2.2.2.2.2.1, x7.2.2.2.2.2.2.1, (), x7.2.2.2.2.2.2.2.2.1, x7.2.2.2.2.2.2.2.2.2.1, x7.2.2.2.2.2.2.2.2.2.2.1, x7.2.2.2.2.2.2.2.2.2.2.2.1, x7.2.2.2.2.2.2.2.2.2.2.2.2.1, x7.2.2.2.2.2.2.2.2.2.2.2.2.2.1, x7.2.2.2.2.2.2.2.2.2.2.2.2.2.2.1, x7.2.2.2.2.2.2.2.2.2.2.2.2.2.2.2.1, x7.2.2.2.2.2.2.2.2.2.2.2.2.2.2.2.2.1, (IntKind.i64.wrap (x7.2.2.2.2.2.2.2.2.2.2.2.2.2.2.2.2.2.1 + (1 : Int))), x7.2.2.2.2.2.2.2.2.2.2.2.2.2.2.2.2.2.2.1, x7.2.2.2.2.2.2.2.2.2.2.2.2.2.2.2.2.2.2.2.1, x7.2.2.2.2.2.2.2.2.2.2.2.2.2.2.2.2.2.2.2.2.1, ()) Kx) (
cond (decide (x7.1 > e8.2.2.1)) (
L33_2 N g48 g57 k (x7.1, (), x7.2.2.1, (), x7.2.2.2.2.1, x7.2.2.2.2.2.1, x7.2.2.2.2.2.2.1, (), x7.2.2.2.2.2.2.2.2.1, x7.2.2.2.2.2.2.2.2.2.1, x7.2.2.2.2.2.2.2.2.2.2.1, x7.2.2.2.2.2.2.2.2.2.2.2.1, x7.2.2.2.2.2.2.2.2.2.2.2.2.1, x7.2.2.2.2.2.2.2.2.2.2.2.2.2.1, x7.2.2.2.2.2.2.2.2.2.2.2.2.2.2.1, x7.2.2.2.2.2.2.2.2.2.2.2.2.2.2.2.1, x7.2.2.2.2.2.2.2.2.2.2.2.2.2.2.2.2.1, (IntKind.i64.wrap (x7.2.2.2.2.2.2.2.2.2.2.2.2.2.2.2.2.2.1 + (1 : Int))), x7.2.2.2.2.2.2.2.2.2.2.2.2.2.2.2.2.2.2.1, x7.2.2.2.2.2.2.2.2.2.2.2.2.2.2.2.2.2.2.2.1, x7.2.2.2.2.2.2.2.2.2.2.2.2.2.2.2.2.2.2.2.2.1, ()) Kx) (
(g57 (e8, (0 : Int), ())).bind fun r9 =>
let v10 := (IntKind.i64.wrap (x7.2.2.2.2.2.2.2.2.2.2.1 + r9.1))
L33_3 N g48 g57 N (x7.1, (), x7.2.2.1, (), x7.2.2.2.2.1, x7.2.2.2.2.2.1, x7.2.2.2.2.2.2.1, (), x7.2.2.2.2.2.2.2.2.1, x7.2.2.2.2.2.2.2.2.2.1, v10, x7.2.2.2.2.2.2.2.2.2.2.2.1, (), e8, r9.1, x7.2.2.2.2.2.2.2.2.2.2.2.2.1, x7.2.2.2.2.2.2.2.2.2.2.2.2.2.1, x7.2.2.2.2.2.2.2.2.2.2.2.2.2.2.1, x7.2.2.2.2.2.2.2.2.2.2.2.2.2.2.2.1, x7.2.2.2.2.2.2.2.2.2.2.2.2.2.2.2.2.1, x7.2.2.2.2.2.2.2.2.2.2.2.2.2.2.2.2.2.1, (x7.2.2.2.2.2.2.2.2.2.2.2.2.2.2.2.2.2.2.2.2.1.length : Int), (0 : Int), x7.2.2.2.2.2.2.2.2.2.2.2.2.2.2.2.2.2.2.1, x7.2.2.2.2.2.2.2.2.2.2.2.2.2.2.2.2.2.2.2.1, x7.2.2.2.2.2.2.2.2.2.2.2.2.2.2.2.2.2.2.2.2.1, ()) fun y14 =>
L33_2 N g48 g57 k (y14.1, (), y14.2.2.1, (), y14.2.2.2.2.1, y14.2.2.2.2.2.1, y14.2.2.2.2.2.2.1, (), y14.2.2.2.2.2.2.2.2.1, y14.2.2.2.2.2.2.2.2.2.1, y14.2.2.2.2.2.2.2.2.2.2.1, y14.2.2.2.2.2.2.2.2.2.2.2.1, y14.2.2.2.2.2.2.2.2.2.2.2.2.1, y14.2.2.2.2.2.2.2.2.2.2.2.2.2.1, y14.2.2.2.2.2.2.2.2.2.2.2.2.2.2.1, y14.2.2.2.2.2.2.2.2.2.2.2.2.2.2.2.1, y14.2.2.2.2.2.2.2.2.2.2.2.2.2.2.2.2.1, (IntKind.i64.wrap (y14.2.2.2.2.2.2.2.2.2.2.2.2.2.2.2.2.2.1 + (1 : Int))), y14.2.2.2.2.2.2.2.2.2.2.2.2.2.2.2.2.2.2.1, y14.2.2.2.2.2.2.2.2.2.2.2.2.2.2.2.2.2.2.2.1, y14.2.2.2.2.2.2.2.2.2.2.2.2.2.2.2.2.2.2.2.2.1, ()) Kx)))
else none
else none) (
Kx (x7.1, (), x7.2.2.1, (), x7.2.2.2.2.1, x7.2.2.2.2.2.1, x7.2.2.2.2.2.2.1, (), x7.2.2.2.2.2.2.2.2.1, x7.2.2.2.2.2.2.2.2.2.1, x7.2.2.2.2.2.2.2.2.2.2.1, x7.2.2.2.2.2.2.2.2.2.2.2.2.1, x7.2.2.2.2.2.2.2.2.2.2.2.2.2.1, x7.2.2.2.2.2.2.2.2.2.2.2.2.2.2.1, x7.2.2.2.2.2.2.2.2.2.2.2.2.2.2.2.2.2.2.1, x7.2.2.2.2.2.2.2.2.2.2.2.2.2.2.2.2.2.2.2.1, x7.2.2.2.2.2.2.2.2.2.2.2.2.2.2.2.2.2.2.2.2.1, ()))

noncomputable def L33_1i : Shape := { items := [.tm 1 (.int .i64), .ptr 2 0 0, .bx 0 0 t25, .ptr 4 1 0, .bx 1 0 (.int .i64), .bx 1 1 (.int .i64), .bx 1 2 (.int .i64), .ptr 5 2 0, .bx 2 0 (.int .i64), .bx 2 1 (.int .i64), .bx 2 2 (.int .i64), .tm 48 (.sl 68 t67), .tm 49 (.int .i64), .tm 50 (.int .i64), .ownB 1 3 53 t52, .ownB 2 3 53 t52], boxes := [26, 41, 41] }
noncomputable def L33_1o : Shape := { items := [.ptr 4 1 0, .bx 1 0 (.int .i64), .bx 1 1 (.int .i64), .bx 1 2 (.int .i64), .ptr 5 2 0, .bx 2 0 (.int .i64), .bx 2 1 (.int .i64), .bx 2 2 (.int .i64), .ownB 1 3 53 t52, .ownB 2 3 53 t52], boxes := [26, 41, 41] }
noncomputable def L33_1 (N : Nat) (g48 : ((List Int) × Unit) → Option (D52 × D159)) (g57 : (D113 × (Int × Unit)) → Option (Int × D159)) : Nat → (Int × (Unit × (D25 × (Unit × (Int × (Int × (Int × (Unit × (Int × (Int × (Int × ((List D67) × (Int × (Int × ((List D52) × ((List D52) × Unit)))))))))))))))) → ((Unit × (Int × (Int × (Int × (Unit × (Int × (Int × (Int × ((List D52) × ((List D52) × Unit)))))))))) → Option (D40 × Unit)) → Option (D40 × Unit)
| 0, _, _ => none
| k + 1, x5, Kx =>
cond (decide (x5.2.2.2.2.2.2.2.2.2.2.2.2.2.1 < x5.2.2.2.2.2.2.2.2.2.2.2.2.1)) (
if 0 ≤ x5.2.2.2.2.2.2.2.2.2.2.2.2.2.1 then
if x5.2.2.2.2.2.2.2.2.2.2.2.2.2.1 < (x5.2.2.2.2.2.2.2.2.2.2.2.1.length : Int) then
let e6 : D67 := rdAt (t := t67) x5.2.2.2.2.2.2.2.2.2.2.2.1 x5.2.2.2.2.2.2.2.2.2.2.2.2.2.1
if (IntKind.i64.wrap (e6.2.2.1 + (1 : Int))) = (IntKind.i64.wrap (e6.2.2.1 + (1 : Int))) then
if 0 ≤ (IntKind.i64.wrap (e6.2.2.1 + (1 : Int))) then
if ((IntKind.i64.wrap (e6.2.2.1 + (1 : Int)))).toNat ≤ 17592186044416 then
L33_2 N g48 g57 N (x5.1, (), x5.2.2.1, (), x5.2.2.2.2.1, x5.2.2.2.2.2.1, x5.2.2.2.2.2.2.1, (), x5.2.2.2.2.2.2.2.2.1, x5.2.2.2.2.2.2.2.2.2.1, x5.2.2.2.2.2.2.2.2.2.2.1, x5.2.2.2.2.2.2.2.2.2.2.2.2.2.1, x5.2.2.2.2.2.2.2.2.2.2.2.1, x5.2.2.2.2.2.2.2.2.2.2.2.2.1, x5.2.2.2.2.2.2.2.2.2.2.2.2.2.1, x5.2.2.1.2.2.2.2.2.1, (x5.2.2.1.2.2.2.2.2.1.length : Int), (0 : Int), x5.2.2.2.2.2.2.2.2.2.2.2.2.2.2.1, x5.2.2.2.2.2.2.2.2.2.2.2.2.2.2.2.1, (List.replicate ((IntKind.i64.wrap (e6.2.2.1 + (1 : Int)))).toNat (0 : Int)), ()) fun y15 =>
(g48 y15.2.2.2.2.2.2.2.2.2.2.2.2.2.2.2.2).bind fun r16 =>
if y15.2.2.2.2.2.2.2.2.2.2.2.2.2.2.2.1.length + 1 ≤ 4398046511104 then
L33_1 N g48 g57 k (y15.1, (), y15.2.2.1, (), y15.2.2.2.2.1, y15.2.2.2.2.2.1, y15.2.2.2.2.2.2.1, (), y15.2.2.2.2.2.2.2.2.1, y15.2.2.2.2.2.2.2.2.2.1, y15.2.2.2.2.2.2.2.2.2.2.1, y15.2.2.2.2.2.2.2.2.2.2.2.1, y15.2.2.2.2.2.2.2.2.2.2.2.2.1, (IntKind.i64.wrap (y15.2.2.2.2.2.2.2.2.2.2.2.2.2.1 + (1 : Int))), y15.2.2.2.2.2.2.2.2.2.2.2.2.2.2.1, (y15.2.2.2.2.2.2.2.2.2.2.2.2.2.2.2.1 ++ [r16.1]), ()) Kx
else none
else none
else none
else none
else none
else none) (
Kx ((), x5.2.2.2.2.1, x5.2.2.2.2.2.1, x5.2.2.2.2.2.2.1, (), x5.2.2.2.2.2.2.2.2.1, x5.2.2.2.2.2.2.2.2.2.1, x5.2.2.2.2.2.2.2.2.2.2.1, x5.2.2.2.2.2.2.2.2.2.2.2.2.2.2.1, x5.2.2.2.2.2.2.2.2.2.2.2.2.2.2.2.1, ()))

noncomputable def F33 (N : Nat) (g48 : ((List Int) × Unit) → Option (D52 × D159)) (g57 : (D113 × (Int × Unit)) → Option (Int × D159)) : (D25 × (Int × Unit)) → Option (D40 × Unit) := fun x =>
L33_0 N g48 g57 N (x.2.1, (), x.1, (), (0 : Int), (0 : Int), (0 : Int), (), x.2.1, x.2.1, (0 : Int), x.1.2.2.2.2.1, (x.1.2.2.2.2.1.length : Int), (0 : Int), [], [], ()) fun y4 =>
L33_1 N g48 g57 N (y4.1, (), y4.2.2.1, (), y4.2.2.2.2.1, y4.2.2.2.2.2.1, y4.2.2.2.2.2.2.1, (), y4.2.2.2.2.2.2.2.2.1, y4.2.2.2.2.2.2.2.2.2.1, y4.2.2.2.2.2.2.2.2.2.2.1, y4.2.2.1.2.2.2.1, (y4.2.2.1.2.2.2.1.length : Int), (0 : Int), y4.2.2.2.2.2.2.2.2.2.2.2.1, y4.2.2.2.2.2.2.2.2.2.2.2.2.1, ()) fun y17 =>
some ((y17.2.2.2.2.2.1, y17.2.2.2.2.2.2.1, y17.2.2.2.2.2.2.2.1, y17.2.2.2.2.2.2.2.2.2), ())

noncomputable def ps33 : List Ty := [t25, (.int .i64)]
noncomputable def rs33 : List Ty := [t40]
noncomputable def ty33 : List (TypeId × Ty) := [(3, (.int .i64)), (22, (.sl 68 t67)), (23, (.sl 110 t87)), (24, (.sl 114 t113)), (26, t25), (27, (.sl 3 (.int .i64))), (39, (.sl 53 t52)), (41, t40), (53, t52), (68, t67), (110, t87), (114, t113)]
noncomputable def by33 : List (TypeId × Nat) := [(3, 8), (53, 32)]
noncomputable def eq33 : List TypeId := []
noncomputable def E33 (g48 : ((List Int) × Unit) → Option (D52 × D159)) (g57 : (D113 × (Int × Unit)) → Option (Int × D159)) : Go.V.Env := { ty := ty33, bytes := by33, fn := [(48, { ps := [(.sl 3 (.int .i64))], rs := [t52, .bool], f := g48 }), (57, { ps := [t113, (.int .i64)], rs := [(.int .i64), .bool], f := g57 })], eqs := eq33, inl := [] }
noncomputable def M33 (g48 : ((List Int) × Unit) → Option (D52 × D159)) (g57 : (D113 × (Int × Unit)) → Option (Int × D159)) : List (Nat × Go.V.Mark (Ty.prods rs33).den) := [(116, { ins := L33_0i, outs := L33_0o, ex := some 0, f := fun N => L33_0 N g48 g57 }), (513386108, { ins := L33_3i, outs := L33_3o, ex := some 6, f := fun N => L33_3 N g48 g57 }), (250676, { ins := L33_2i, outs := L33_2o, ex := some 4, f := fun N => L33_2 N g48 g57 }), (244, { ins := L33_1i, outs := L33_1o, ex := some 2, f := fun N => L33_1 N g48 g57 })]
noncomputable def C33 (N : Nat) (g48 : ((List Int) × Unit) → Option (D52 × D159)) (g57 : (D113 × (Int × Unit)) → Option (Int × D159)) : Go.V.Ctx (Ty.prods rs33).den := { E := E33 g48 g57, n := Go.Proofs.Try.f33.ntmps, marks := M33 g48 g57, fin := Go.V.finish (E33 g48 g57) Go.Proofs.Try.f33 rs33, N }
noncomputable def c33 : Code := (Go.Proofs.Try.f33.body).getD .skip

theorem tab33 : tablesB Go.Proofs.Try.prog ty33 by33 eq33 = true := by kernel_rfl
theorem oL33_0 (N : Nat) (g48 : ((List Int) × Unit) → Option (D52 × D159)) (g57 : (D113 × (Int × Unit)) → Option (Int × D159)) : (Obl.loop { ins := L33_0i, outs := L33_0o, ex := some 0, f := fun N => L33_0 N g48 g57 } 116 (subc [true, true, false, true, false, false] c33) : Obl (Ty.prods rs33).den).holds (C33 N g48 g57) := by
  intro x Kx
  exact ⟨by kernel_rfl, fun k => by kernel_rfl⟩
theorem oL33_1 (N : Nat) (g48 : ((List Int) × Unit) → Option (D52 × D159)) (g57 : (D113 × (Int × Unit)) → Option (Int × D159)) : (Obl.loop { ins := L33_1i, outs := L33_1o, ex := some 2, f := fun N => L33_1 N g48 g57 } 244 (subc [true, true, true, false, true, false, false] c33) : Obl (Ty.prods rs33).den).holds (C33 N g48 g57) := by
  intro x Kx
  exact ⟨by kernel_rfl, fun k => by kernel_rfl⟩
theorem oL33_2 (N : Nat) (g48 : ((List Int) × Unit) → Option (D52 × D159)) (g57 : (D113 × (Int × Unit)) → Option (Int × D159)) : (Obl.loop { ins := L33_2i, outs := L33_2o, ex := some 4, f := fun N => L33_2 N g48 g57 } 250676 (subc [true, true, true, false, true, false, false, true, true, false, false, true, true, false, true, false, false] c33) : Obl (Ty.prods rs33).den).holds (C33 N g48 g57) := by
  intro x Kx
  exact ⟨by kernel_rfl, fun k => by kernel_rfl⟩
theorem oL33_3 (N : Nat) (g48 : ((List Int) × Unit) → Option (D52 × D159)) (g57 : (D113 × (Int × Unit)) → Option (Int × D159)) : (Obl.loop { ins := L33_3i, outs := L33_3o, ex := some 6, f := fun N => L33_3 N g48 g57 } 513386108 (subc [true, true, true, false, true, false, false, true, true, false, false, true, true, false, true, false, false, true, true, false, false, true, true, true, true, true, false, false] c33) : Obl (Ty.prods rs33).den).holds (C33 N g48 g57) := by
  intro x Kx
  exact ⟨by kernel_rfl, fun k => by kernel_rfl⟩
theorem ob33 (N : Nat) (g48 : ((List Int) × Unit) → Option (D52 × D159)) (g57 : (D113 × (Int × Unit)) → Option (Int × D159)) : obls (C33 N g48 g57) 1 c33 = [.loop { ins := L33_0i, outs := L33_0o, ex := some 0, f := fun N => L33_0 N g48 g57 } 116 (subc [true, true, false, true, false, false] c33), .loop { ins := L33_1i, outs := L33_1o, ex := some 2, f := fun N => L33_1 N g48 g57 } 244 (subc [true, true, true, false, true, false, false] c33), .loop { ins := L33_2i, outs := L33_2o, ex := some 4, f := fun N => L33_2 N g48 g57 } 250676 (subc [true, true, true, false, true, false, false, true, true, false, false, true, true, false, true, false, false] c33), .loop { ins := L33_3i, outs := L33_3o, ex := some 6, f := fun N => L33_3 N g48 g57 } 513386108 (subc [true, true, true, false, true, false, false, true, true, false, false, true, true, false, true, false, false, true, true, false, false, true, true, true, true, true, false, false] c33)] := by kernel_rfl
theorem eF33 (N : Nat) (g48 : ((List Int) × Unit) → Option (D52 × D159)) (g57 : (D113 × (Int × Unit)) → Option (Int × D159)) (x : (Ty.prods ps33).den) : Go.V.evBody (E33 g48 g57) Go.Proofs.Try.f33 rs33 (M33 g48 g57) N (Go.V.start Go.Proofs.Try.f33 ps33 x) = F33 N g48 g57 x := by kernel_rfl
theorem s33 (N : Nat) (g48 : ((List Int) × Unit) → Option (D52 × D159)) (g57 : (D113 × (Int × Unit)) → Option (Int × D159)) (h48 : Sound Go.Proofs.Try.prog 48 { ps := [(.sl 3 (.int .i64))], rs := [t52, .bool], f := g48 }) (h57 : Sound Go.Proofs.Try.prog 57 { ps := [t113, (.int .i64)], rs := [(.int .i64), .bool], f := g57 }) : Sound Go.Proofs.Try.prog 33 { ps := ps33, rs := rs33, f := F33 N g48 g57 } := by
  have hE : EnvOk Go.Proofs.Try.prog (E33 g48 g57) := env_ok tab33 (by
    intro p hp
    simp only [List.mem_cons, List.not_mem_nil, or_false] at hp
    rcases hp with rfl | rfl
    · exact ⟨h48, Go.Proofs.Try.f48, Go.Proofs.Try.func48, by kernel_rfl, by kernel_rfl⟩
    · exact ⟨h57, Go.Proofs.Try.f57, Go.Proofs.Try.func57, by kernel_rfl, by kernel_rfl⟩) (by
    intro p hp
    cases hp)
  have h := fn_sound hE (by kernel_rfl) Go.Proofs.Try.func33 (show Go.Proofs.Try.f33.body = some c33 by kernel_rfl) ps33 rs33 (M33 g48 g57) N (by
    intro o ho
    have ho : o ∈ obls (C33 N g48 g57) 1 c33 := ho
    rw [ob33] at ho
    simp only [List.mem_cons, List.not_mem_nil, or_false] at ho
    rcases ho with rfl | rfl | rfl | rfl
    · exact oL33_0 N g48 g57
    · exact oL33_1 N g48 g57
    · exact oL33_2 N g48 g57
    · exact oL33_3 N g48 g57)
  have e : (fun x => Go.V.evBody (E33 g48 g57) Go.Proofs.Try.f33 rs33 (M33 g48 g57) N (Go.V.start Go.Proofs.Try.f33 ps33 x)) = F33 N g48 g57 := funext fun x => eF33 N g48 g57 x
  rw [e] at h
  exact h

end Go.Proofs.Ytkifmnocomadfaa
end

/- The reading of poundage poundageref18.Make. -/
section
set_option linter.unusedVariables false
set_option maxRecDepth 100000
namespace Go.Proofs.Ytkifmnocomadfaa
open Go.V

noncomputable def L8_0i : Shape := { items := [.ptr 1 0 0, .bx 0 0 t25, .ptr 2 1 0, .bx 1 0 .str, .bx 1 1 (.int .i64), .bx 1 2 (.int .i64), .ptr 3 2 0, .bx 2 0 .str, .bx 2 1 (.int .i64), .bx 2 2 (.int .i64), .bx 2 3 (.sl 68 t67), .tm 24 (.sl 3 (.int .i64)), .tm 25 (.int .i64), .tm 26 (.int .i64), .ownB 1 3 68 t67, .ownB 1 4 41 t40, .ownB 2 4 41 t40], boxes := [26, 32, 32] }
noncomputable def L8_0o : Shape := { items := [.ptr 1 0 0, .bx 0 0 t25, .ptr 2 1 0, .bx 1 0 .str, .bx 1 1 (.int .i64), .bx 1 2 (.int .i64), .ptr 3 2 0, .bx 2 0 .str, .bx 2 1 (.int .i64), .bx 2 2 (.int .i64), .bx 2 3 (.sl 68 t67), .ownB 1 3 68 t67, .ownB 1 4 41 t40, .ownB 2 4 41 t40], boxes := [26, 32, 32] }
noncomputable def L8_0 (N : Nat) (g13 : (D40 × (D40 × Unit)) → Option D159) (g32 : (D25 × Unit) → Option ((List Int) × Unit)) (g33 : (D25 × (Int × Unit)) → Option (D40 × Unit)) : Nat → (Unit × (D25 × (Unit × (ByteArray × (Int × (Int × (Unit × (ByteArray × (Int × (Int × ((List D67) × ((List Int) × (Int × (Int × ((List D67) × ((List D40) × ((List D40) × Unit))))))))))))))))) → ((Unit × (D25 × (Unit × (ByteArray × (Int × (Int × (Unit × (ByteArray × (Int × (Int × ((List D67) × ((List D67) × ((List D40) × ((List D40) × Unit)))))))))))))) → Option (D31 × Unit)) → Option (D31 × Unit)
| 0, _, _ => none
| k + 1, x2, Kx =>
cond (decide (x2.2.2.2.2.2.2.2.2.2.2.2.2.2.1 < x2.2.2.2.2.2.2.2.2.2.2.2.2.1)) (
if 0 ≤ x2.2.2.2.2.2.2.2.2.2.2.2.2.2.1 then
if x2.2.2.2.2.2.2.2.2.2.2.2.2.2.1 < (x2.2.2.2.2.2.2.2.2.2.2.2.1.length : Int) then
let v3 := (rdAt (t := (.int .i64)) x2.2.2.2.2.2.2.2.2.2.2.2.1 x2.2.2.2.2.2.2.2.2.2.2.2.2.2.1)
(g33 (x2.2.1, v3, ())).bind fun r4 =>
let v5 := (x2.2.2.2.2.2.2.2.2.2.2.2.2.2.2.2.2.1.length : Int)
cond (decide (v5 > (0 : Int))) (
if 0 ≤ (IntKind.i64.wrap (v5 - (1 : Int))) then
if (IntKind.i64.wrap (v5 - (1 : Int))) < (x2.2.2.2.2.2.2.2.2.2.2.2.2.2.2.2.2.1.length : Int) then
cond (v5 == (0 : Int)) (
if (x2.2.2.2.2.2.2.2.2.2.2.2.2.2.2.2.2.1.set ((IntKind.i64.wrap (v5 - (1 : Int)))).toNat ((rdAt (t := t40) x2.2.2.2.2.2.2.2.2.2.2.2.2.2.2.2.2.1 (IntKind.i64.wrap (v5 - (1 : Int))) : D40).1, (IntKind.i64.wrap (v3 - (1 : Int))), (rdAt (t := t40) x2.2.2.2.2.2.2.2.2.2.2.2.2.2.2.2.2.1 (IntKind.i64.wrap (v5 - (1 : Int))) : D40).2.2)).length + 1 ≤ 2932031007402 then
let v6 := ((x2.2.2.2.2.2.2.2.2.2.2.2.2.2.2.2.2.1.set ((IntKind.i64.wrap (v5 - (1 : Int)))).toNat ((rdAt (t := t40) x2.2.2.2.2.2.2.2.2.2.2.2.2.2.2.2.2.1 (IntKind.i64.wrap (v5 - (1 : Int))) : D40).1, (IntKind.i64.wrap (v3 - (1 : Int))), (rdAt (t := t40) x2.2.2.2.2.2.2.2.2.2.2.2.2.2.2.2.2.1 (IntKind.i64.wrap (v5 - (1 : Int))) : D40).2.2)) ++ [r4.1])
L8_0 N g13 g32 g33 k ((), x2.2.1, (), x2.2.2.2.1, x2.2.2.2.2.1, x2.2.2.2.2.2.1, (), x2.2.2.2.2.2.2.2.1, x2.2.2.2.2.2.2.2.2.1, x2.2.2.2.2.2.2.2.2.2.1, x2.2.2.2.2.2.2.2.2.2.2.1, x2.2.2.2.2.2.2.2.2.2.2.2.1, x2.2.2.2.2.2.2.2.2.2.2.2.2.1, (IntKind.i64.wrap (x2.2.2.2.2.2.2.2.2.2.2.2.2.2.1 + (1 : Int))), x2.2.2.2.2.2.2.2.2.2.2.2.2.2.2.1, x2.2.2.2.2.2.2.2.2.2.2.2.2.2.2.2.1, v6, ()) Kx
else none) (
if 0 ≤ (IntKind.i64.wrap (v5 - (1 : Int))) then
if (IntKind.i64.wrap (v5 - (1 : Int))) < ((x2.2.2.2.2.2.2.2.2.2.2.2.2.2.2.2.2.1.set ((IntKind.i64.wrap (v5 - (1 : Int)))).toNat ((rdAt (t := t40) x2.2.2.2.2.2.2.2.2.2.2.2.2.2.2.2.2.1 (IntKind.i64.wrap (v5 - (1 : Int))) : D40).1, (IntKind.i64.wrap (v3 - (1 : Int))), (rdAt (t := t40) x2.2.2.2.2.2.2.2.2.2.2.2.2.2.2.2.2.1 (IntKind.i64.wrap (v5 - (1 : Int))) : D40).2.2)).length : Int) then
(g13 ((rdAt (t := t40) (x2.2.2.2.2.2.2.2.2.2.2.2.2.2.2.2.2.1.set ((IntKind.i64.wrap (v5 - (1 : Int)))).toNat ((rdAt (t := t40) x2.2.2.2.2.2.2.2.2.2.2.2.2.2.2.2.2.1 (IntKind.i64.wrap (v5 - (1 : Int))) : D40).1, (IntKind.i64.wrap (v3 - (1 : Int))), (rdAt (t := t40) x2.2.2.2.2.2.2.2.2.2.2.2.2.2.2.2.2.1 (IntKind.i64.wrap (v5 - (1 : Int))) : D40).2.2)) (IntKind.i64.wrap (v5 - (1 : Int))) : D40), r4)).bind fun r7 =>
cond (!r7.1) (
if (x2.2.2.2.2.2.2.2.2.2.2.2.2.2.2.2.2.1.set ((IntKind.i64.wrap (v5 - (1 : Int)))).toNat ((rdAt (t := t40) x2.2.2.2.2.2.2.2.2.2.2.2.2.2.2.2.2.1 (IntKind.i64.wrap (v5 - (1 : Int))) : D40).1, (IntKind.i64.wrap (v3 - (1 : Int))), (rdAt (t := t40) x2.2.2.2.2.2.2.2.2.2.2.2.2.2.2.2.2.1 (IntKind.i64.wrap (v5 - (1 : Int))) : D40).2.2)).length + 1 ≤ 2932031007402 then
let v8 := ((x2.2.2.2.2.2.2.2.2.2.2.2.2.2.2.2.2.1.set ((IntKind.i64.wrap (v5 - (1 : Int)))).toNat ((rdAt (t := t40) x2.2.2.2.2.2.2.2.2.2.2.2.2.2.2.2.2.1 (IntKind.i64.wrap (v5 - (1 : Int))) : D40).1, (IntKind.i64.wrap (v3 - (1 : Int))), (rdAt (t := t40) x2.2.2.2.2.2.2.2.2.2.2.2.2.2.2.2.2.1 (IntKind.i64.wrap (v5 - (1 : Int))) : D40).2.2)) ++ [r4.1])
L8_0 N g13 g32 g33 k ((), x2.2.1, (), x2.2.2.2.1, x2.2.2.2.2.1, x2.2.2.2.2.2.1, (), x2.2.2.2.2.2.2.2.1, x2.2.2.2.2.2.2.2.2.1, x2.2.2.2.2.2.2.2.2.2.1, x2.2.2.2.2.2.2.2.2.2.2.1, x2.2.2.2.2.2.2.2.2.2.2.2.1, x2.2.2.2.2.2.2.2.2.2.2.2.2.1, (IntKind.i64.wrap (x2.2.2.2.2.2.2.2.2.2.2.2.2.2.1 + (1 : Int))), x2.2.2.2.2.2.2.2.2.2.2.2.2.2.2.1, x2.2.2.2.2.2.2.2.2.2.2.2.2.2.2.2.1, v8, ()) Kx
else none) (
L8_0 N g13 g32 g33 k ((), x2.2.1, (), x2.2.2.2.1, x2.2.2.2.2.1, x2.2.2.2.2.2.1, (), x2.2.2.2.2.2.2.2.1, x2.2.2.2.2.2.2.2.2.1, x2.2.2.2.2.2.2.2.2.2.1, x2.2.2.2.2.2.2.2.2.2.2.1, x2.2.2.2.2.2.2.2.2.2.2.2.1, x2.2.2.2.2.2.2.2.2.2.2.2.2.1, (IntKind.i64.wrap (x2.2.2.2.2.2.2.2.2.2.2.2.2.2.1 + (1 : Int))), x2.2.2.2.2.2.2.2.2.2.2.2.2.2.2.1, x2.2.2.2.2.2.2.2.2.2.2.2.2.2.2.2.1, (x2.2.2.2.2.2.2.2.2.2.2.2.2.2.2.2.2.1.set ((IntKind.i64.wrap (v5 - (1 : Int)))).toNat ((rdAt (t := t40) x2.2.2.2.2.2.2.2.2.2.2.2.2.2.2.2.2.1 (IntKind.i64.wrap (v5 - (1 : Int))) : D40).1, (IntKind.i64.wrap (v3 - (1 : Int))), (rdAt (t := t40) x2.2.2.2.2.2.2.2.2.2.2.2.2.2.2.2.2.1 (IntKind.i64.wrap (v5 - (1 : Int))) : D40).2.2)), ()) Kx)
else none
else none)
else none
else none) (
cond (v5 == (0 : Int)) (
if x2.2.2.2.2.2.2.2.2.2.2.2.2.2.2.2.2.1.length + 1 ≤ 2932031007402 then
L8_0 N g13 g32 g33 k ((), x2.2.1, (), x2.2.2.2.1, x2.2.2.2.2.1, x2.2.2.2.2.2.1, (), x2.2.2.2.2.2.2.2.1, x2.2.2.2.2.2.2.2.2.1, x2.2.2.2.2.2.2.2.2.2.1, x2.2.2.2.2.2.2.2.2.2.2.1, x2.2.2.2.2.2.2.2.2.2.2.2.1, x2.2.2.2.2.2.2.2.2.2.2.2.2.1, (IntKind.i64.wrap (x2.2.2.2.2.2.2.2.2.2.2.2.2.2.1 + (1 : Int))), x2.2.2.2.2.2.2.2.2.2.2.2.2.2.2.1, x2.2.2.2.2.2.2.2.2.2.2.2.2.2.2.2.1, (x2.2.2.2.2.2.2.2.2.2.2.2.2.2.2.2.2.1 ++ [r4.1]), ()) Kx
else none) (
if 0 ≤ (IntKind.i64.wrap (v5 - (1 : Int))) then
if (IntKind.i64.wrap (v5 - (1 : Int))) < (x2.2.2.2.2.2.2.2.2.2.2.2.2.2.2.2.2.1.length : Int) then
(g13 ((rdAt (t := t40) x2.2.2.2.2.2.2.2.2.2.2.2.2.2.2.2.2.1 (IntKind.i64.wrap (v5 - (1 : Int))) : D40), r4)).bind fun r9 =>
cond (!r9.1) (
if x2.2.2.2.2.2.2.2.2.2.2.2.2.2.2.2.2.1.length + 1 ≤ 2932031007402 then
L8_0 N g13 g32 g33 k ((), x2.2.1, (), x2.2.2.2.1, x2.2.2.2.2.1, x2.2.2.2.2.2.1, (), x2.2.2.2.2.2.2.2.1, x2.2.2.2.2.2.2.2.2.1, x2.2.2.2.2.2.2.2.2.2.1, x2.2.2.2.2.2.2.2.2.2.2.1, x2.2.2.2.2.2.2.2.2.2.2.2.1, x2.2.2.2.2.2.2.2.2.2.2.2.2.1, (IntKind.i64.wrap (x2.2.2.2.2.2.2.2.2.2.2.2.2.2.1 + (1 : Int))), x2.2.2.2.2.2.2.2.2.2.2.2.2.2.2.1, x2.2.2.2.2.2.2.2.2.2.2.2.2.2.2.2.1, (x2.2.2.2.2.2.2.2.2.2.2.2.2.2.2.2.2.1 ++ [r4.1]), ()) Kx
else none) (
L8_0 N g13 g32 g33 k ((), x2.2.1, (), x2.2.2.2.1, x2.2.2.2.2.1, x2.2.2.2.2.2.1, (), x2.2.2.2.2.2.2.2.1, x2.2.2.2.2.2.2.2.2.1, x2.2.2.2.2.2.2.2.2.2.1, x2.2.2.2.2.2.2.2.2.2.2.1, x2.2.2.2.2.2.2.2.2.2.2.2.1, x2.2.2.2.2.2.2.2.2.2.2.2.2.1, (IntKind.i64.wrap (x2.2.2.2.2.2.2.2.2.2.2.2.2.2.1 + (1 : Int))), x2.2.2.2.2.2.2.2.2.2.2.2.2.2.2.1, x2.2.2.2.2.2.2.2.2.2.2.2.2.2.2.2.1, x2.2.2.2.2.2.2.2.2.2.2.2.2.2.2.2.2.1, ()) Kx)
else none
else none))
else none
else none) (
Kx ((), x2.2.1, (), x2.2.2.2.1, x2.2.2.2.2.1, x2.2.2.2.2.2.1, (), x2.2.2.2.2.2.2.2.1, x2.2.2.2.2.2.2.2.2.1, x2.2.2.2.2.2.2.2.2.2.1, x2.2.2.2.2.2.2.2.2.2.2.1, x2.2.2.2.2.2.2.2.2.2.2.2.2.2.2.1, x2.2.2.2.2.2.2.2.2.2.2.2.2.2.2.2.1, x2.2.2.2.2.2.2.2.2.2.2.2.2.2.2.2.2.1, ()))

noncomputable def F8 (N : Nat) (g13 : (D40 × (D40 × Unit)) → Option D159) (g32 : (D25 × Unit) → Option ((List Int) × Unit)) (g33 : (D25 × (Int × Unit)) → Option (D40 × Unit)) : (D25 × Unit) → Option (D31 × Unit) := fun x =>
if x.1.2.2.2.1.length = 0 then
(g32 x).bind fun r14 =>
if r14.1.length = 0 then
L8_0 N g13 g32 g33 N ((), x.1, (), ByteArray.empty, (0 : Int), (0 : Int), (), x.1.1, x.1.2.1, x.1.2.2.1, [], [x.1.2.1], ([x.1.2.1].length : Int), (0 : Int), [], [], [], ()) fun y17 =>
cond (decide ((y17.2.2.2.2.2.2.2.2.2.2.2.2.2.1.length : Int) > (0 : Int))) (
let v18 := (IntKind.i64.wrap ((y17.2.2.2.2.2.2.2.2.2.2.2.2.2.1.length : Int) - (1 : Int)))
if 0 ≤ v18 then
if v18 < (y17.2.2.2.2.2.2.2.2.2.2.2.2.2.1.length : Int) then
some ((y17.2.2.2.2.2.2.2.1, y17.2.2.2.2.2.2.2.2.1, y17.2.2.2.2.2.2.2.2.2.1, y17.2.2.2.2.2.2.2.2.2.2.1, (y17.2.2.2.2.2.2.2.2.2.2.2.2.2.1.set (v18).toNat ((rdAt (t := t40) y17.2.2.2.2.2.2.2.2.2.2.2.2.2.1 v18 : D40).1, y17.2.1.2.2.1, (rdAt (t := t40) y17.2.2.2.2.2.2.2.2.2.2.2.2.2.1 v18 : D40).2.2)), ()), ())
else none
else none) (
some ((y17.2.2.2.2.2.2.2.1, y17.2.2.2.2.2.2.2.2.1, y17.2.2.2.2.2.2.2.2.2.1, y17.2.2.2.2.2.2.2.2.2.2.1, y17.2.2.2.2.2.2.2.2.2.2.2.2.2), ()))
else
if ([x.1.2.1] : List Int).length + r14.1.length ≤ 17592186044416 then
L8_0 N g13 g32 g33 N ((), x.1, (), ByteArray.empty, (0 : Int), (0 : Int), (), x.1.1, x.1.2.1, x.1.2.2.1, [], ([x.1.2.1] ++ r14.1), (([x.1.2.1] ++ r14.1).length : Int), (0 : Int), [], [], [], ()) fun y15 =>
cond (decide ((y15.2.2.2.2.2.2.2.2.2.2.2.2.2.1.length : Int) > (0 : Int))) (
let v16 := (IntKind.i64.wrap ((y15.2.2.2.2.2.2.2.2.2.2.2.2.2.1.length : Int) - (1 : Int)))
if 0 ≤ v16 then
if v16 < (y15.2.2.2.2.2.2.2.2.2.2.2.2.2.1.length : Int) then
some ((y15.2.2.2.2.2.2.2.1, y15.2.2.2.2.2.2.2.2.1, y15.2.2.2.2.2.2.2.2.2.1, y15.2.2.2.2.2.2.2.2.2.2.1, (y15.2.2.2.2.2.2.2.2.2.2.2.2.2.1.set (v16).toNat ((rdAt (t := t40) y15.2.2.2.2.2.2.2.2.2.2.2.2.2.1 v16 : D40).1, y15.2.1.2.2.1, (rdAt (t := t40) y15.2.2.2.2.2.2.2.2.2.2.2.2.2.1 v16 : D40).2.2)), ()), ())
else none
else none) (
some ((y15.2.2.2.2.2.2.2.1, y15.2.2.2.2.2.2.2.2.1, y15.2.2.2.2.2.2.2.2.2.1, y15.2.2.2.2.2.2.2.2.2.2.1, y15.2.2.2.2.2.2.2.2.2.2.2.2.2), ()))
else none
else
if ([] : List D67).length + x.1.2.2.2.1.length ≤ 2513169434916 then
(g32 x).bind fun r1 =>
if r1.1.length = 0 then
L8_0 N g13 g32 g33 N ((), x.1, (), ByteArray.empty, (0 : Int), (0 : Int), (), x.1.1, x.1.2.1, x.1.2.2.1, x.1.2.2.2.1, [x.1.2.1], ([x.1.2.1].length : Int), (0 : Int), [], [], [], ()) fun y12 =>
cond (decide ((y12.2.2.2.2.2.2.2.2.2.2.2.2.2.1.length : Int) > (0 : Int))) (
let v13 := (IntKind.i64.wrap ((y12.2.2.2.2.2.2.2.2.2.2.2.2.2.1.length : Int) - (1 : Int)))
if 0 ≤ v13 then
if v13 < (y12.2.2.2.2.2.2.2.2.2.2.2.2.2.1.length : Int) then
some ((y12.2.2.2.2.2.2.2.1, y12.2.2.2.2.2.2.2.2.1, y12.2.2.2.2.2.2.2.2.2.1, y12.2.2.2.2.2.2.2.2.2.2.1, (y12.2.2.2.2.2.2.2.2.2.2.2.2.2.1.set (v13).toNat ((rdAt (t := t40) y12.2.2.2.2.2.2.2.2.2.2.2.2.2.1 v13 : D40).1, y12.2.1.2.2.1, (rdAt (t := t40) y12.2.2.2.2.2.2.2.2.2.2.2.2.2.1 v13 : D40).2.2)), ()), ())
else none
else none) (
some ((y12.2.2.2.2.2.2.2.1, y12.2.2.2.2.2.2.2.2.1, y12.2.2.2.2.2.2.2.2.2.1, y12.2.2.2.2.2.2.2.2.2.2.1, y12.2.2.2.2.2.2.2.2.2.2.2.2.2), ()))
else
if ([x.1.2.1] : List Int).length + r1.1.length ≤ 17592186044416 then
L8_0 N g13 g32 g33 N ((), x.1, (), ByteArray.empty, (0 : Int), (0 : Int), (), x.1.1, x.1.2.1, x.1.2.2.1, x.1.2.2.2.1, ([x.1.2.1] ++ r1.1), (([x.1.2.1] ++ r1.1).length : Int), (0 : Int), [], [], [], ()) fun y10 =>
cond (decide ((y10.2.2.2.2.2.2.2.2.2.2.2.2.2.1.length : Int) > (0 : Int))) (
let v11 := (IntKind.i64.wrap ((y10.2.2.2.2.2.2.2.2.2.2.2.2.2.1.length : Int) - (1 : Int)))
if 0 ≤ v11 then
if v11 < (y10.2.2.2.2.2.2.2.2.2.2.2.2.2.1.length : Int) then
some ((y10.2.2.2.2.2.2.2.1, y10.2.2.2.2.2.2.2.2.1, y10.2.2.2.2.2.2.2.2.2.1, y10.2.2.2.2.2.2.2.2.2.2.1, (y10.2.2.2.2.2.2.2.2.2.2.2.2.2.1.set (v11).toNat ((rdAt (t := t40) y10.2.2.2.2.2.2.2.2.2.2.2.2.2.1 v11 : D40).1, y10.2.1.2.2.1, (rdAt (t := t40) y10.2.2.2.2.2.2.2.2.2.2.2.2.2.1 v11 : D40).2.2)), ()), ())
else none
else none) (
some ((y10.2.2.2.2.2.2.2.1, y10.2.2.2.2.2.2.2.2.1, y10.2.2.2.2.2.2.2.2.2.1, y10.2.2.2.2.2.2.2.2.2.2.1, y10.2.2.2.2.2.2.2.2.2.2.2.2.2), ()))
else none
else none

noncomputable def ps8 : List Ty := [t25]
noncomputable def rs8 : List Ty := [t31]
noncomputable def ty8 : List (TypeId × Ty) := [(3, (.int .i64)), (9, .str), (22, (.sl 68 t67)), (26, t25), (27, (.sl 3 (.int .i64))), (30, (.sl 41 t40)), (32, t31), (41, t40), (68, t67)]
noncomputable def by8 : List (TypeId × Nat) := [(3, 8), (41, 48), (68, 56)]
noncomputable def eq8 : List TypeId := []
noncomputable def E8 (g13 : (D40 × (D40 × Unit)) → Option D159) (g32 : (D25 × Unit) → Option ((List Int) × Unit)) (g33 : (D25 × (Int × Unit)) → Option (D40 × Unit)) : Go.V.Env := { ty := ty8, bytes := by8, fn := [(13, { ps := [t40, t40], rs := [.bool], f := g13 }), (32, { ps := [t25], rs := [(.sl 3 (.int .i64))], f := g32 }), (33, { ps := [t25, (.int .i64)], rs := [t40], f := g33 })], eqs := eq8, inl := [] }
noncomputable def M8 (g13 : (D40 × (D40 × Unit)) → Option D159) (g32 : (D25 × Unit) → Option ((List Int) × Unit)) (g33 : (D25 × (Int × Unit)) → Option (D40 × Unit)) : List (Nat × Go.V.Mark (Ty.prods rs8).den) := [(116, { ins := L8_0i, outs := L8_0o, ex := some 0, f := fun N => L8_0 N g13 g32 g33 })]
noncomputable def C8 (N : Nat) (g13 : (D40 × (D40 × Unit)) → Option D159) (g32 : (D25 × Unit) → Option ((List Int) × Unit)) (g33 : (D25 × (Int × Unit)) → Option (D40 × Unit)) : Go.V.Ctx (Ty.prods rs8).den := { E := E8 g13 g32 g33, n := Go.Proofs.Try.f8.ntmps, marks := M8 g13 g32 g33, fin := Go.V.finish (E8 g13 g32 g33) Go.Proofs.Try.f8 rs8, N }
noncomputable def c8 : Code := (Go.Proofs.Try.f8.body).getD .skip

theorem tab8 : tablesB Go.Proofs.Try.prog ty8 by8 eq8 = true := by kernel_rfl
theorem oL8_0 (N : Nat) (g13 : (D40 × (D40 × Unit)) → Option D159) (g32 : (D25 × Unit) → Option ((List Int) × Unit)) (g33 : (D25 × (Int × Unit)) → Option (D40 × Unit)) : (Obl.loop { ins := L8_0i, outs := L8_0o, ex := some 0, f := fun N => L8_0 N g13 g32 g33 } 116 (subc [true, true, false, true, false, false] c8) : Obl (Ty.prods rs8).den).holds (C8 N g13 g32 g33) := by
  intro x Kx
  exact ⟨by kernel_rfl, fun k => by kernel_rfl⟩
theorem ob8 (N : Nat) (g13 : (D40 × (D40 × Unit)) → Option D159) (g32 : (D25 × Unit) → Option ((List Int) × Unit)) (g33 : (D25 × (Int × Unit)) → Option (D40 × Unit)) : obls (C8 N g13 g32 g33) 1 c8 = [.loop { ins := L8_0i, outs := L8_0o, ex := some 0, f := fun N => L8_0 N g13 g32 g33 } 116 (subc [true, true, false, true, false, false] c8)] := by kernel_rfl
theorem eF8 (N : Nat) (g13 : (D40 × (D40 × Unit)) → Option D159) (g32 : (D25 × Unit) → Option ((List Int) × Unit)) (g33 : (D25 × (Int × Unit)) → Option (D40 × Unit)) (x : (Ty.prods ps8).den) : Go.V.evBody (E8 g13 g32 g33) Go.Proofs.Try.f8 rs8 (M8 g13 g32 g33) N (Go.V.start Go.Proofs.Try.f8 ps8 x) = F8 N g13 g32 g33 x := by kernel_rfl
theorem s8 (N : Nat) (g13 : (D40 × (D40 × Unit)) → Option D159) (g32 : (D25 × Unit) → Option ((List Int) × Unit)) (g33 : (D25 × (Int × Unit)) → Option (D40 × Unit)) (h13 : Sound Go.Proofs.Try.prog 13 { ps := [t40, t40], rs := [.bool], f := g13 }) (h32 : Sound Go.Proofs.Try.prog 32 { ps := [t25], rs := [(.sl 3 (.int .i64))], f := g32 }) (h33 : Sound Go.Proofs.Try.prog 33 { ps := [t25, (.int .i64)], rs := [t40], f := g33 }) : Sound Go.Proofs.Try.prog 8 { ps := ps8, rs := rs8, f := F8 N g13 g32 g33 } := by
  have hE : EnvOk Go.Proofs.Try.prog (E8 g13 g32 g33) := env_ok tab8 (by
    intro p hp
    simp only [List.mem_cons, List.not_mem_nil, or_false] at hp
    rcases hp with rfl | rfl | rfl
    · exact ⟨h13, Go.Proofs.Try.f13, Go.Proofs.Try.func13, by kernel_rfl, by kernel_rfl⟩
    · exact ⟨h32, Go.Proofs.Try.f32, Go.Proofs.Try.func32, by kernel_rfl, by kernel_rfl⟩
    · exact ⟨h33, Go.Proofs.Try.f33, Go.Proofs.Try.func33, by kernel_rfl, by kernel_rfl⟩) (by
    intro p hp
    cases hp)
  have h := fn_sound hE (by kernel_rfl) Go.Proofs.Try.func8 (show Go.Proofs.Try.f8.body = some c8 by kernel_rfl) ps8 rs8 (M8 g13 g32 g33) N (by
    intro o ho
    have ho : o ∈ obls (C8 N g13 g32 g33) 1 c8 := ho
    rw [ob8] at ho
    simp only [List.mem_cons, List.not_mem_nil, or_false] at ho
    rcases ho with rfl
    · exact oL8_0 N g13 g32 g33)
  have e : (fun x => Go.V.evBody (E8 g13 g32 g33) Go.Proofs.Try.f8 rs8 (M8 g13 g32 g33) N (Go.V.start Go.Proofs.Try.f8 ps8 x)) = F8 N g13 g32 g33 := funext fun x => eF8 N g13 g32 g33 x
  rw [e] at h
  exact h

end Go.Proofs.Ytkifmnocomadfaa
end

/- The reading of poundage poundagelaw22.forms. -/
section
set_option linter.unusedVariables false
set_option maxRecDepth 100000
namespace Go.Proofs.Ytkifmnocomadfaa
open Go.V

noncomputable def F22 (N : Nat) (g7 : (D25 × Unit) → Option D159) (g8 : (D25 × Unit) → Option (D31 × Unit)) : (D25 × (D25 × Unit)) → Option (D31 × (D31 × D159)) := fun x =>
(g7 (x.1, ())).bind fun r1 =>
cond (!r1.1) (
some ((ByteArray.empty, (0 : Int), (0 : Int), [], [], ()), (ByteArray.empty, (0 : Int), (0 : Int), [], [], ()), false, ())) (
(g7 x.2).bind fun r2 =>
cond (!r2.1) (
some ((ByteArray.empty, (0 : Int), (0 : Int), [], [], ()), (ByteArray.empty, (0 : Int), (0 : Int), [], [], ()), false, ())) (
(g8 (x.1, ())).bind fun r3 =>
(g8 x.2).bind fun r4 =>
some (r3.1, r4.1, true, ())))

noncomputable def ps22 : List Ty := [t25, t25]
noncomputable def rs22 : List Ty := [t31, t31, .bool]
noncomputable def ty22 : List (TypeId × Ty) := [(26, t25), (32, t31)]
noncomputable def by22 : List (TypeId × Nat) := []
noncomputable def eq22 : List TypeId := []
noncomputable def E22 (g7 : (D25 × Unit) → Option D159) (g8 : (D25 × Unit) → Option (D31 × Unit)) : Go.V.Env := { ty := ty22, bytes := by22, fn := [(7, { ps := [t25], rs := [.bool], f := g7 }), (8, { ps := [t25], rs := [t31], f := g8 })], eqs := eq22, inl := [] }
noncomputable def M22 (g7 : (D25 × Unit) → Option D159) (g8 : (D25 × Unit) → Option (D31 × Unit)) : List (Nat × Go.V.Mark (Ty.prods rs22).den) := []
noncomputable def C22 (N : Nat) (g7 : (D25 × Unit) → Option D159) (g8 : (D25 × Unit) → Option (D31 × Unit)) : Go.V.Ctx (Ty.prods rs22).den := { E := E22 g7 g8, n := Go.Proofs.Try.f22.ntmps, marks := M22 g7 g8, fin := Go.V.finish (E22 g7 g8) Go.Proofs.Try.f22 rs22, N }
noncomputable def c22 : Code := (Go.Proofs.Try.f22.body).getD .skip

theorem tab22 : tablesB Go.Proofs.Try.prog ty22 by22 eq22 = true := by kernel_rfl
theorem ob22 (N : Nat) (g7 : (D25 × Unit) → Option D159) (g8 : (D25 × Unit) → Option (D31 × Unit)) : obls (C22 N g7 g8) 1 c22 = [] := by kernel_rfl
theorem eF22 (N : Nat) (g7 : (D25 × Unit) → Option D159) (g8 : (D25 × Unit) → Option (D31 × Unit)) (x : (Ty.prods ps22).den) : Go.V.evBody (E22 g7 g8) Go.Proofs.Try.f22 rs22 (M22 g7 g8) N (Go.V.start Go.Proofs.Try.f22 ps22 x) = F22 N g7 g8 x := by kernel_rfl
theorem s22 (N : Nat) (g7 : (D25 × Unit) → Option D159) (g8 : (D25 × Unit) → Option (D31 × Unit)) (h7 : Sound Go.Proofs.Try.prog 7 { ps := [t25], rs := [.bool], f := g7 }) (h8 : Sound Go.Proofs.Try.prog 8 { ps := [t25], rs := [t31], f := g8 }) : Sound Go.Proofs.Try.prog 22 { ps := ps22, rs := rs22, f := F22 N g7 g8 } := by
  have hE : EnvOk Go.Proofs.Try.prog (E22 g7 g8) := env_ok tab22 (by
    intro p hp
    simp only [List.mem_cons, List.not_mem_nil, or_false] at hp
    rcases hp with rfl | rfl
    · exact ⟨h7, Go.Proofs.Try.f7, Go.Proofs.Try.func7, by kernel_rfl, by kernel_rfl⟩
    · exact ⟨h8, Go.Proofs.Try.f8, Go.Proofs.Try.func8, by kernel_rfl, by kernel_rfl⟩) (by
    intro p hp
    cases hp)
  have h := fn_sound hE (by kernel_rfl) Go.Proofs.Try.func22 (show Go.Proofs.Try.f22.body = some c22 by kernel_rfl) ps22 rs22 (M22 g7 g8) N (by
    intro o ho
    have ho : o ∈ obls (C22 N g7 g8) 1 c22 := ho
    rw [ob22] at ho
    cases ho)
  have e : (fun x => Go.V.evBody (E22 g7 g8) Go.Proofs.Try.f22 rs22 (M22 g7 g8) N (Go.V.start Go.Proofs.Try.f22 ps22 x)) = F22 N g7 g8 := funext fun x => eF22 N g7 g8 x
  rw [e] at h
  exact h

end Go.Proofs.Ytkifmnocomadfaa
end

/- The reading of poundage poundageref22.find. -/
section
set_option linter.unusedVariables false
set_option maxRecDepth 100000
namespace Go.Proofs.Ytkifmnocomadfaa
open Go.V

noncomputable def L50_0i : Shape := { items := [.tm 1 .str, .tm 7 (.sl 68 t67), .tm 8 (.int .i64), .tm 9 (.int .i64)], boxes := [] }
noncomputable def L50_0o : Shape := { items := [], boxes := [] }
noncomputable def L50_0 (N : Nat) : Nat → (ByteArray × ((List D67) × D146)) → (Unit → Option (Int × Unit)) → Option (Int × Unit)
| 0, _, _ => none
| k + 1, x1, Kx =>
cond (decide (x1.2.2.2.1 < x1.2.2.1)) (
if 0 ≤ x1.2.2.2.1 then
if x1.2.2.2.1 < (x1.2.1.length : Int) then
let e2 : D67 := rdAt (t := t67) x1.2.1 x1.2.2.2.1
cond (e2.1.toList == x1.1.toList) (
some x1.2.2.2) (
L50_0 N k (x1.1, x1.2.1, x1.2.2.1, (IntKind.i64.wrap (x1.2.2.2.1 + (1 : Int))), ()) Kx)
else none
else none) (
Kx ())

noncomputable def F50 (N : Nat) : ((List D67) × (ByteArray × Unit)) → Option (Int × Unit) := fun x =>
L50_0 N N (x.2.1, x.1, (x.1.length : Int), (0 : Int), ()) fun y3 =>
some ((-1 : Int), ())

noncomputable def ps50 : List Ty := [(.sl 68 t67), .str]
noncomputable def rs50 : List Ty := [(.int .i64)]
noncomputable def ty50 : List (TypeId × Ty) := [(3, (.int .i64)), (9, .str), (22, (.sl 68 t67)), (68, t67)]
noncomputable def by50 : List (TypeId × Nat) := []
noncomputable def eq50 : List TypeId := []
noncomputable def E50 : Go.V.Env := { ty := ty50, bytes := by50, fn := [], eqs := eq50, inl := [] }
noncomputable def M50 : List (Nat × Go.V.Mark (Ty.prods rs50).den) := [(52, { ins := L50_0i, outs := L50_0o, ex := some 0, f := fun N => L50_0 N })]
noncomputable def C50 (N : Nat) : Go.V.Ctx (Ty.prods rs50).den := { E := E50, n := Go.Proofs.Try.f50.ntmps, marks := M50, fin := Go.V.finish (E50) Go.Proofs.Try.f50 rs50, N }
noncomputable def c50 : Code := (Go.Proofs.Try.f50.body).getD .skip

theorem tab50 : tablesB Go.Proofs.Try.prog ty50 by50 eq50 = true := by kernel_rfl
theorem oL50_0 (N : Nat) : (Obl.loop { ins := L50_0i, outs := L50_0o, ex := some 0, f := fun N => L50_0 N } 52 (subc [true, false, true, false, false] c50) : Obl (Ty.prods rs50).den).holds (C50 N) := by
  intro x Kx
  exact ⟨by kernel_rfl, fun k => by kernel_rfl⟩
theorem ob50 (N : Nat) : obls (C50 N) 1 c50 = [.loop { ins := L50_0i, outs := L50_0o, ex := some 0, f := fun N => L50_0 N } 52 (subc [true, false, true, false, false] c50)] := by kernel_rfl
theorem eF50 (N : Nat) (x : (Ty.prods ps50).den) : Go.V.evBody (E50) Go.Proofs.Try.f50 rs50 (M50) N (Go.V.start Go.Proofs.Try.f50 ps50 x) = F50 N x := by kernel_rfl
theorem s50 (N : Nat) : Sound Go.Proofs.Try.prog 50 { ps := ps50, rs := rs50, f := F50 N } := by
  have hE : EnvOk Go.Proofs.Try.prog (E50) := env_ok tab50 (by
    intro p hp
    cases hp) (by
    intro p hp
    cases hp)
  have h := fn_sound hE (by kernel_rfl) Go.Proofs.Try.func50 (show Go.Proofs.Try.f50.body = some c50 by kernel_rfl) ps50 rs50 (M50) N (by
    intro o ho
    have ho : o ∈ obls (C50 N) 1 c50 := ho
    rw [ob50] at ho
    simp only [List.mem_cons, List.not_mem_nil, or_false] at ho
    rcases ho with rfl
    · exact oL50_0 N)
  have e : (fun x => Go.V.evBody (E50) Go.Proofs.Try.f50 rs50 (M50) N (Go.V.start Go.Proofs.Try.f50 ps50 x)) = F50 N := funext fun x => eF50 N x
  rw [e] at h
  exact h

end Go.Proofs.Ytkifmnocomadfaa
end

/- The reading of poundage poundageref22.Like. -/
section
set_option linter.unusedVariables false
set_option maxRecDepth 100000
namespace Go.Proofs.Ytkifmnocomadfaa
open Go.V

noncomputable def L23_0i : Shape := { items := [.ptr 2 0 0, .bx 0 0 t31, .ptr 3 1 0, .bx 1 0 t31, .tm 9 (.sl 68 t67), .tm 10 (.int .i64), .tm 11 (.int .i64)], boxes := [32, 32] }
noncomputable def L23_0o : Shape := { items := [.ptr 2 0 0, .bx 0 0 t31, .ptr 3 1 0, .bx 1 0 t31], boxes := [32, 32] }
noncomputable def L23_0 (N : Nat) (g50 : ((List D67) × (ByteArray × Unit)) → Option (Int × Unit)) : Nat → (Unit × (D31 × (Unit × (D31 × ((List D67) × D146))))) → ((Unit × (D31 × (Unit × (D31 × Unit)))) → Option D159) → Option D159
| 0, _, _ => none
| k + 1, x1, Kx =>
cond (decide (x1.2.2.2.2.2.2.1 < x1.2.2.2.2.2.1)) (
if 0 ≤ x1.2.2.2.2.2.2.1 then
if x1.2.2.2.2.2.2.1 < (x1.2.2.2.2.1.length : Int) then
let e2 : D67 := rdAt (t := t67) x1.2.2.2.2.1 x1.2.2.2.2.2.2.1
(g50 (x1.2.2.2.1.2.2.2.1, e2.1, ())).bind fun r3 =>
cond (decide (r3.1 ≥ (0 : Int))) (
if 0 ≤ r3.1 then
if r3.1 < (x1.2.2.2.1.2.2.2.1.length : Int) then
let e4 : D67 := rdAt (t := t67) x1.2.2.2.1.2.2.2.1 r3.1
cond (!(e4.2.1.toList == e2.2.1.toList)) (
some (false, ())) (
if 0 ≤ r3.1 then
if r3.1 < (x1.2.2.2.1.2.2.2.1.length : Int) then
let e5 : D67 := rdAt (t := t67) x1.2.2.2.1.2.2.2.1 r3.1
cond (e5.2.2.1 != e2.2.2.1) (
some (false, ())) (
L23_0 N g50 k ((), x1.2.1, (), x1.2.2.2.1, x1.2.2.2.2.1, x1.2.2.2.2.2.1, (IntKind.i64.wrap (x1.2.2.2.2.2.2.1 + (1 : Int))), ()) Kx)
else none
else none)
else none
else none) (
L23_0 N g50 k ((), x1.2.1, (), x1.2.2.2.1, x1.2.2.2.2.1, x1.2.2.2.2.2.1, (IntKind.i64.wrap (x1.2.2.2.2.2.2.1 + (1 : Int))), ()) Kx)
else none
else none) (
Kx ((), x1.2.1, (), x1.2.2.2.1, ()))

noncomputable def F23 (N : Nat) (g50 : ((List D67) × (ByteArray × Unit)) → Option (Int × Unit)) : (D31 × (D31 × Unit)) → Option D159 := fun x =>
L23_0 N g50 N ((), x.1, (), x.2.1, x.1.2.2.2.1, (x.1.2.2.2.1.length : Int), (0 : Int), ()) fun y6 =>
cond (y6.2.1.1.toList == y6.2.2.2.1.1.toList) (
cond (y6.2.1.2.1 == y6.2.2.2.1.2.1) (
some ((y6.2.1.2.2.1 == y6.2.2.2.1.2.2.1), ())) (
some (false, ()))) (
some (false, ()))

noncomputable def ps23 : List Ty := [t31, t31]
noncomputable def rs23 : List Ty := [.bool]
noncomputable def ty23 : List (TypeId × Ty) := [(3, (.int .i64)), (9, .str), (22, (.sl 68 t67)), (32, t31), (68, t67)]
noncomputable def by23 : List (TypeId × Nat) := []
noncomputable def eq23 : List TypeId := []
noncomputable def E23 (g50 : ((List D67) × (ByteArray × Unit)) → Option (Int × Unit)) : Go.V.Env := { ty := ty23, bytes := by23, fn := [(50, { ps := [(.sl 68 t67), .str], rs := [(.int .i64)], f := g50 })], eqs := eq23, inl := [] }
noncomputable def M23 (g50 : ((List D67) × (ByteArray × Unit)) → Option (Int × Unit)) : List (Nat × Go.V.Mark (Ty.prods rs23).den) := [(52, { ins := L23_0i, outs := L23_0o, ex := some 0, f := fun N => L23_0 N g50 })]
noncomputable def C23 (N : Nat) (g50 : ((List D67) × (ByteArray × Unit)) → Option (Int × Unit)) : Go.V.Ctx (Ty.prods rs23).den := { E := E23 g50, n := Go.Proofs.Try.f23.ntmps, marks := M23 g50, fin := Go.V.finish (E23 g50) Go.Proofs.Try.f23 rs23, N }
noncomputable def c23 : Code := (Go.Proofs.Try.f23.body).getD .skip

theorem tab23 : tablesB Go.Proofs.Try.prog ty23 by23 eq23 = true := by kernel_rfl
theorem oL23_0 (N : Nat) (g50 : ((List D67) × (ByteArray × Unit)) → Option (Int × Unit)) : (Obl.loop { ins := L23_0i, outs := L23_0o, ex := some 0, f := fun N => L23_0 N g50 } 52 (subc [true, false, true, false, false] c23) : Obl (Ty.prods rs23).den).holds (C23 N g50) := by
  intro x Kx
  exact ⟨by kernel_rfl, fun k => by kernel_rfl⟩
theorem ob23 (N : Nat) (g50 : ((List D67) × (ByteArray × Unit)) → Option (Int × Unit)) : obls (C23 N g50) 1 c23 = [.loop { ins := L23_0i, outs := L23_0o, ex := some 0, f := fun N => L23_0 N g50 } 52 (subc [true, false, true, false, false] c23)] := by kernel_rfl
theorem eF23 (N : Nat) (g50 : ((List D67) × (ByteArray × Unit)) → Option (Int × Unit)) (x : (Ty.prods ps23).den) : Go.V.evBody (E23 g50) Go.Proofs.Try.f23 rs23 (M23 g50) N (Go.V.start Go.Proofs.Try.f23 ps23 x) = F23 N g50 x := by kernel_rfl
theorem s23 (N : Nat) (g50 : ((List D67) × (ByteArray × Unit)) → Option (Int × Unit)) (h50 : Sound Go.Proofs.Try.prog 50 { ps := [(.sl 68 t67), .str], rs := [(.int .i64)], f := g50 }) : Sound Go.Proofs.Try.prog 23 { ps := ps23, rs := rs23, f := F23 N g50 } := by
  have hE : EnvOk Go.Proofs.Try.prog (E23 g50) := env_ok tab23 (by
    intro p hp
    simp only [List.mem_cons, List.not_mem_nil, or_false] at hp
    rcases hp with rfl
    · exact ⟨h50, Go.Proofs.Try.f50, Go.Proofs.Try.func50, by kernel_rfl, by kernel_rfl⟩) (by
    intro p hp
    cases hp)
  have h := fn_sound hE (by kernel_rfl) Go.Proofs.Try.func23 (show Go.Proofs.Try.f23.body = some c23 by kernel_rfl) ps23 rs23 (M23 g50) N (by
    intro o ho
    have ho : o ∈ obls (C23 N g50) 1 c23 := ho
    rw [ob23] at ho
    simp only [List.mem_cons, List.not_mem_nil, or_false] at ho
    rcases ho with rfl
    · exact oL23_0 N g50)
  have e : (fun x => Go.V.evBody (E23 g50) Go.Proofs.Try.f23 rs23 (M23 g50) N (Go.V.start Go.Proofs.Try.f23 ps23 x)) = F23 N g50 := funext fun x => eF23 N g50 x
  rw [e] at h
  exact h

end Go.Proofs.Ytkifmnocomadfaa
end

/- The reading of poundage exact.Sub. -/
section
set_option linter.unusedVariables false
set_option maxRecDepth 100000
namespace Go.Proofs.Ytkifmnocomadfaa
open Go.V

noncomputable def F55 (N : Nat) : D146 → Option (Int × D159) := fun x =>
cond (decide (x.2.1 < (0 : Int))) (
cond (decide (x.1 > (IntKind.i64.wrap ((9223372036854775807 : Int) + x.2.1)))) (
some ((0 : Int), false, ())) (
cond (decide (x.2.1 > (0 : Int))) (
cond (decide (x.1 < (IntKind.i64.wrap ((-9223372036854775808 : Int) + x.2.1)))) (
some ((0 : Int), false, ())) (
some ((IntKind.i64.wrap (x.1 - x.2.1)), true, ()))) (
some ((IntKind.i64.wrap (x.1 - x.2.1)), true, ())))) (
cond (decide (x.2.1 > (0 : Int))) (
cond (decide (x.1 < (IntKind.i64.wrap ((-9223372036854775808 : Int) + x.2.1)))) (
some ((0 : Int), false, ())) (
some ((IntKind.i64.wrap (x.1 - x.2.1)), true, ()))) (
some ((IntKind.i64.wrap (x.1 - x.2.1)), true, ())))

noncomputable def ps55 : List Ty := [(.int .i64), (.int .i64)]
noncomputable def rs55 : List Ty := [(.int .i64), .bool]
noncomputable def ty55 : List (TypeId × Ty) := [(3, (.int .i64))]
noncomputable def by55 : List (TypeId × Nat) := []
noncomputable def eq55 : List TypeId := []
noncomputable def E55 : Go.V.Env := { ty := ty55, bytes := by55, fn := [], eqs := eq55, inl := [] }
noncomputable def M55 : List (Nat × Go.V.Mark (Ty.prods rs55).den) := []
noncomputable def C55 (N : Nat) : Go.V.Ctx (Ty.prods rs55).den := { E := E55, n := Go.Proofs.Try.f55.ntmps, marks := M55, fin := Go.V.finish (E55) Go.Proofs.Try.f55 rs55, N }
noncomputable def c55 : Code := (Go.Proofs.Try.f55.body).getD .skip

theorem tab55 : tablesB Go.Proofs.Try.prog ty55 by55 eq55 = true := by kernel_rfl
theorem ob55 (N : Nat) : obls (C55 N) 1 c55 = [] := by kernel_rfl
theorem eF55 (N : Nat) (x : (Ty.prods ps55).den) : Go.V.evBody (E55) Go.Proofs.Try.f55 rs55 (M55) N (Go.V.start Go.Proofs.Try.f55 ps55 x) = F55 N x := by kernel_rfl
theorem s55 (N : Nat) : Sound Go.Proofs.Try.prog 55 { ps := ps55, rs := rs55, f := F55 N } := by
  have hE : EnvOk Go.Proofs.Try.prog (E55) := env_ok tab55 (by
    intro p hp
    cases hp) (by
    intro p hp
    cases hp)
  have h := fn_sound hE (by kernel_rfl) Go.Proofs.Try.func55 (show Go.Proofs.Try.f55.body = some c55 by kernel_rfl) ps55 rs55 (M55) N (by
    intro o ho
    have ho : o ∈ obls (C55 N) 1 c55 := ho
    rw [ob55] at ho
    cases ho)
  have e : (fun x => Go.V.evBody (E55) Go.Proofs.Try.f55 rs55 (M55) N (Go.V.start Go.Proofs.Try.f55 ps55 x)) = F55 N := funext fun x => eF55 N x
  rw [e] at h
  exact h

end Go.Proofs.Ytkifmnocomadfaa
end

/- The reading of poundage line.Of int . -/
section
set_option linter.unusedVariables false
set_option maxRecDepth 100000
namespace Go.Proofs.Ytkifmnocomadfaa
open Go.V

noncomputable def L15_0i : Shape := { items := [.tm 0 (.int .i64), .ptr 4 0 0, .ptr 5 1 0, .tm 8 (.sl 3 (.int .i64)), .tm 9 (.int .i64), .tm 10 (.int .i64), .ownB 0 0 88 t87, .ownB 1 0 88 t87], boxes := [49, 49] }
noncomputable def L15_0o : Shape := { items := [.ptr 4 0 0, .ptr 5 1 0, .ownB 0 0 88 t87, .ownB 1 0 88 t87], boxes := [49, 49] }
noncomputable def L15_0 (N : Nat) : Nat → (Int × (Unit × (Unit × ((List Int) × (Int × (Int × ((List D87) × D48))))))) → ((Unit × (Unit × ((List D87) × D48))) → Option (D48 × Unit)) → Option (D48 × Unit)
| 0, _, _ => none
| k + 1, x1, Kx =>
cond (decide (x1.2.2.2.2.2.1 < x1.2.2.2.2.1)) (
if 0 ≤ x1.2.2.2.2.2.1 then
if x1.2.2.2.2.2.1 < (x1.2.2.2.1.length : Int) then
let v2 := (rdAt (t := (.int .i64)) x1.2.2.2.1 x1.2.2.2.2.2.1)
cond (decide ((x1.2.2.2.2.2.2.2.1.length : Int) > (0 : Int))) (
let v3 := (IntKind.i64.wrap ((x1.2.2.2.2.2.2.2.1.length : Int) - (1 : Int)))
if 0 ≤ v3 then
if v3 < (x1.2.2.2.2.2.2.2.1.length : Int) then
cond ((rdAt (t := t87) x1.2.2.2.2.2.2.2.1 v3 : D87).2.2.1 == v2) (
let v4 := (IntKind.i64.wrap ((x1.2.2.2.2.2.2.2.1.length : Int) - (1 : Int)))
if 0 ≤ v4 then
if v4 < (x1.2.2.2.2.2.2.2.1.length : Int) then
L15_0 N k (x1.1, (), (), x1.2.2.2.1, x1.2.2.2.2.1, (IntKind.i64.wrap (x1.2.2.2.2.2.1 + (1 : Int))), x1.2.2.2.2.2.2.1, (x1.2.2.2.2.2.2.2.1.set (v4).toNat ((rdAt (t := t87) x1.2.2.2.2.2.2.2.1 v4 : D87).1, (IntKind.i64.wrap (x1.1 + x1.2.2.2.2.2.1)), (rdAt (t := t87) x1.2.2.2.2.2.2.2.1 v4 : D87).2.2)), ()) Kx
else none
else none) (
if x1.2.2.2.2.2.2.2.1.length + 1 ≤ 5864062014805 then
let v5 := (x1.2.2.2.2.2.2.2.1 ++ [((IntKind.i64.wrap (x1.1 + x1.2.2.2.2.2.1)), (IntKind.i64.wrap (x1.1 + x1.2.2.2.2.2.1)), v2, ())])
L15_0 N k (x1.1, (), (), x1.2.2.2.1, x1.2.2.2.2.1, (IntKind.i64.wrap (x1.2.2.2.2.2.1 + (1 : Int))), x1.2.2.2.2.2.2.1, v5, ()) Kx
else none)
else none
else none) (
if x1.2.2.2.2.2.2.2.1.length + 1 ≤ 5864062014805 then
let v6 := (x1.2.2.2.2.2.2.2.1 ++ [((IntKind.i64.wrap (x1.1 + x1.2.2.2.2.2.1)), (IntKind.i64.wrap (x1.1 + x1.2.2.2.2.2.1)), v2, ())])
L15_0 N k (x1.1, (), (), x1.2.2.2.1, x1.2.2.2.2.1, (IntKind.i64.wrap (x1.2.2.2.2.2.1 + (1 : Int))), x1.2.2.2.2.2.2.1, v6, ()) Kx
else none)
else none
else none) (
Kx ((), (), x1.2.2.2.2.2.2.1, x1.2.2.2.2.2.2.2.1, ()))

noncomputable def F15 (N : Nat) : (Int × ((List Int) × Unit)) → Option (D48 × Unit) := fun x =>
L15_0 N N (x.1, (), (), x.2.1, (x.2.1.length : Int), (0 : Int), [], [], ()) fun y7 =>
some (y7.2.2.2, ())

noncomputable def ps15 : List Ty := [(.int .i64), (.sl 3 (.int .i64))]
noncomputable def rs15 : List Ty := [t48]
noncomputable def ty15 : List (TypeId × Ty) := [(3, (.int .i64)), (27, (.sl 3 (.int .i64))), (47, (.sl 88 t87)), (49, t48), (88, t87)]
noncomputable def by15 : List (TypeId × Nat) := [(88, 24)]
noncomputable def eq15 : List TypeId := []
noncomputable def E15 : Go.V.Env := { ty := ty15, bytes := by15, fn := [], eqs := eq15, inl := [(39, Go.Proofs.Try.f39)] }
noncomputable def M15 : List (Nat × Go.V.Mark (Ty.prods rs15).den) := [(116, { ins := L15_0i, outs := L15_0o, ex := some 0, f := fun N => L15_0 N })]
noncomputable def C15 (N : Nat) : Go.V.Ctx (Ty.prods rs15).den := { E := E15, n := Go.Proofs.Try.f15.ntmps, marks := M15, fin := Go.V.finish (E15) Go.Proofs.Try.f15 rs15, N }
noncomputable def c15 : Code := (Go.Proofs.Try.f15.body).getD .skip

theorem tab15 : tablesB Go.Proofs.Try.prog ty15 by15 eq15 = true := by kernel_rfl
theorem oL15_0 (N : Nat) : (Obl.loop { ins := L15_0i, outs := L15_0o, ex := some 0, f := fun N => L15_0 N } 116 (subc [true, true, false, true, false, false] c15) : Obl (Ty.prods rs15).den).holds (C15 N) := by
  intro x Kx
  exact ⟨by kernel_rfl, fun k => by kernel_rfl⟩
theorem ob15 (N : Nat) : obls (C15 N) 1 c15 = [.loop { ins := L15_0i, outs := L15_0o, ex := some 0, f := fun N => L15_0 N } 116 (subc [true, true, false, true, false, false] c15)] := by kernel_rfl
theorem eF15 (N : Nat) (x : (Ty.prods ps15).den) : Go.V.evBody (E15) Go.Proofs.Try.f15 rs15 (M15) N (Go.V.start Go.Proofs.Try.f15 ps15 x) = F15 N x := by kernel_rfl
theorem s15 (N : Nat) : Sound Go.Proofs.Try.prog 15 { ps := ps15, rs := rs15, f := F15 N } := by
  have hE : EnvOk Go.Proofs.Try.prog (E15) := env_ok tab15 (by
    intro p hp
    cases hp) (by
    intro p hp
    simp only [List.mem_cons, List.not_mem_nil, or_false] at hp
    rcases hp with rfl
    · exact ⟨Go.Proofs.Try.func39, by kernel_rfl, by kernel_rfl⟩)
  have h := fn_sound hE (by kernel_rfl) Go.Proofs.Try.func15 (show Go.Proofs.Try.f15.body = some c15 by kernel_rfl) ps15 rs15 (M15) N (by
    intro o ho
    have ho : o ∈ obls (C15 N) 1 c15 := ho
    rw [ob15] at ho
    simp only [List.mem_cons, List.not_mem_nil, or_false] at ho
    rcases ho with rfl
    · exact oL15_0 N)
  have e : (fun x => Go.V.evBody (E15) Go.Proofs.Try.f15 rs15 (M15) N (Go.V.start Go.Proofs.Try.f15 ps15 x)) = F15 N := funext fun x => eF15 N x
  rw [e] at h
  exact h

end Go.Proofs.Ytkifmnocomadfaa
end
