/- The reading of poundage poundageref01.Mul. -/
import Derived.Test.YtkifmnocomadfaaGTy
section
set_option linter.unusedVariables false
set_option maxRecDepth 100000
namespace Go.Proofs.Ytkifmnocomadfaa
open Go.V

noncomputable def L109_0i : Shape := { items := [.ptr 4 0 0, .bx 0 0 t142, .ptr 5 1 0, .bx 1 0 t142, .ptr 6 2 0, .bx 2 0 t142, .ptr 11 3 0, .bx 3 0 t142, .tm 43 (.sl 120 (.int .u64)), .tm 44 (.int .i64), .tm 45 (.int .i64)], boxes := [143, 143, 143, 143] }
noncomputable def L109_0o : Shape := { items := [.ptr 4 0 0, .bx 0 0 t142, .ptr 5 1 0, .bx 1 0 t142, .ptr 6 2 0, .bx 2 0 t142, .ptr 11 3 0, .bx 3 0 t142], boxes := [143, 143, 143, 143] }
noncomputable def L109_0 (N : Nat) (g86 : (Int × Unit) → Option (D142 × Unit)) (g101 : (D142 × (D142 × Unit)) → Option (D142 × Unit)) (g102 : (D142 × Unit) → Option D159) : Nat → (Unit × (D142 × (Unit × (D142 × (Unit × (D142 × (Unit × (D142 × ((List Int) × D146))))))))) → ((Unit × (D142 × (Unit × (D142 × (Unit × (D142 × (Unit × (D142 × Unit)))))))) → Option (D142 × Unit)) → Option (D142 × Unit)
| 0, _, _ => none
| k + 1, x6, Kx =>
cond (decide (x6.2.2.2.2.2.2.2.2.2.2.1 < x6.2.2.2.2.2.2.2.2.2.1)) (
if 0 ≤ x6.2.2.2.2.2.2.2.2.2.2.1 then
if x6.2.2.2.2.2.2.2.2.2.2.1 < (x6.2.2.2.2.2.2.2.2.1.length : Int) then
let v7 := (rdAt (t := (.int .u64)) x6.2.2.2.2.2.2.2.2.1 x6.2.2.2.2.2.2.2.2.2.2.1)
if (32 : Int) < 0 then none else
if (32 : Int) < 0 then none else
let v8 := (v7.fdiv (2 ^ (min ((32 : Int)).toNat IntKind.u64.bits)))
let v9 := (IntKind.u64.wrap (v7 * 2 ^ (min ((32 : Int)).toNat IntKind.u64.bits)))
(g101 (x6.2.2.2.2.2.2.2.1, (false, v8, v9, ()), ())).bind fun r10 =>
L109_0 N g86 g101 g102 k ((), x6.2.1, (), x6.2.2.2.1, (), x6.2.2.2.2.2.1, (), r10.1, x6.2.2.2.2.2.2.2.2.1, x6.2.2.2.2.2.2.2.2.2.1, (IntKind.i64.wrap (x6.2.2.2.2.2.2.2.2.2.2.1 + (1 : Int))), ()) Kx
else none
else none) (
Kx ((), x6.2.1, (), x6.2.2.2.1, (), x6.2.2.2.2.2.1, (), x6.2.2.2.2.2.2.2.1, ()))

noncomputable def F109 (N : Nat) (g86 : (Int × Unit) → Option (D142 × Unit)) (g101 : (D142 × (D142 × Unit)) → Option (D142 × Unit)) (g102 : (D142 × Unit) → Option D159) : D146 → Option (D142 × Unit) := fun x =>
(g86 (x.1, ())).bind fun r1 =>
(g86 x.2).bind fun r2 =>
if (4294967296 : Int) = 0 then none else
if (32 : Int) < 0 then none else
let v3 := (r1.1.2.2.1.fdiv (2 ^ (min ((32 : Int)).toNat IntKind.u64.bits)))
if (4294967296 : Int) = 0 then none else
if (32 : Int) < 0 then none else
let v4 := (r2.1.2.2.1.fdiv (2 ^ (min ((32 : Int)).toNat IntKind.u64.bits)))
let v5 := (IntKind.u64.wrap ((r1.1.2.2.1.tmod (4294967296 : Int)) * (r2.1.2.2.1.tmod (4294967296 : Int))))
L109_0 N g86 g101 g102 N ((), (false, (0 : Int), (0 : Int), ()), (), r1.1, (), r2.1, (), (false, (IntKind.u64.wrap (v3 * v4)), v5, ()), [(IntKind.u64.wrap ((r1.1.2.2.1.tmod (4294967296 : Int)) * v4)), (IntKind.u64.wrap (v3 * (r2.1.2.2.1.tmod (4294967296 : Int))))], ([(IntKind.u64.wrap ((r1.1.2.2.1.tmod (4294967296 : Int)) * v4)), (IntKind.u64.wrap (v3 * (r2.1.2.2.1.tmod (4294967296 : Int))))].length : Int), (0 : Int), ()) fun y11 =>
cond (!(y11.2.2.2.1.1 == y11.2.2.2.2.2.1.1)) (
(g102 y11.2.2.2.2.2.2.2).bind fun r12 =>
some (((!r12.1), y11.2.2.2.2.2.2.2.1.2), ())) (
some ((false, y11.2.2.2.2.2.2.2.1.2), ()))

noncomputable def ps109 : List Ty := [(.int .i64), (.int .i64)]
noncomputable def rs109 : List Ty := [t142]
noncomputable def ty109 : List (TypeId × Ty) := [(3, (.int .i64)), (4, .bool), (120, (.int .u64)), (143, t142), (177, (.sl 120 (.int .u64)))]
noncomputable def by109 : List (TypeId × Nat) := []
noncomputable def eq109 : List TypeId := []
noncomputable def E109 (g86 : (Int × Unit) → Option (D142 × Unit)) (g101 : (D142 × (D142 × Unit)) → Option (D142 × Unit)) (g102 : (D142 × Unit) → Option D159) : Go.V.Env := { ty := ty109, bytes := by109, fn := [(86, { ps := [(.int .i64)], rs := [t142], f := g86 }), (101, { ps := [t142, t142], rs := [t142], f := g101 }), (102, { ps := [t142], rs := [.bool], f := g102 })], eqs := eq109, inl := [] }
noncomputable def M109 (g86 : (Int × Unit) → Option (D142 × Unit)) (g101 : (D142 × (D142 × Unit)) → Option (D142 × Unit)) (g102 : (D142 × Unit) → Option D159) : List (Nat × Go.V.Mark (Ty.prods rs109).den) := [(1012, { ins := L109_0i, outs := L109_0o, ex := some 0, f := fun N => L109_0 N g86 g101 g102 })]
noncomputable def C109 (N : Nat) (g86 : (Int × Unit) → Option (D142 × Unit)) (g101 : (D142 × (D142 × Unit)) → Option (D142 × Unit)) (g102 : (D142 × Unit) → Option D159) : Go.V.Ctx (Ty.prods rs109).den := { E := E109 g86 g101 g102, n := Go.Proofs.Try.f109.ntmps, marks := M109 g86 g101 g102, fin := Go.V.finish (E109 g86 g101 g102) Go.Proofs.Try.f109 rs109, N }
noncomputable def c109 : Code := (Go.Proofs.Try.f109.body).getD .skip

theorem tab109 : tablesB Go.Proofs.Try.prog ty109 by109 eq109 = true := by kernel_rfl
theorem oL109_0 (N : Nat) (g86 : (Int × Unit) → Option (D142 × Unit)) (g101 : (D142 × (D142 × Unit)) → Option (D142 × Unit)) (g102 : (D142 × Unit) → Option D159) : (Obl.loop { ins := L109_0i, outs := L109_0o, ex := some 0, f := fun N => L109_0 N g86 g101 g102 } 1012 (subc [true, true, true, true, true, false, true, false, false] c109) : Obl (Ty.prods rs109).den).holds (C109 N g86 g101 g102) := by
  intro x Kx
  exact ⟨by kernel_rfl, fun k => by kernel_rfl⟩
theorem ob109 (N : Nat) (g86 : (Int × Unit) → Option (D142 × Unit)) (g101 : (D142 × (D142 × Unit)) → Option (D142 × Unit)) (g102 : (D142 × Unit) → Option D159) : obls (C109 N g86 g101 g102) 1 c109 = [.loop { ins := L109_0i, outs := L109_0o, ex := some 0, f := fun N => L109_0 N g86 g101 g102 } 1012 (subc [true, true, true, true, true, false, true, false, false] c109)] := by kernel_rfl
theorem eF109 (N : Nat) (g86 : (Int × Unit) → Option (D142 × Unit)) (g101 : (D142 × (D142 × Unit)) → Option (D142 × Unit)) (g102 : (D142 × Unit) → Option D159) (x : (Ty.prods ps109).den) : Go.V.evBody (E109 g86 g101 g102) Go.Proofs.Try.f109 rs109 (M109 g86 g101 g102) N (Go.V.start Go.Proofs.Try.f109 ps109 x) = F109 N g86 g101 g102 x := by kernel_rfl
theorem s109 (N : Nat) (g86 : (Int × Unit) → Option (D142 × Unit)) (g101 : (D142 × (D142 × Unit)) → Option (D142 × Unit)) (g102 : (D142 × Unit) → Option D159) (h86 : Sound Go.Proofs.Try.prog 86 { ps := [(.int .i64)], rs := [t142], f := g86 }) (h101 : Sound Go.Proofs.Try.prog 101 { ps := [t142, t142], rs := [t142], f := g101 }) (h102 : Sound Go.Proofs.Try.prog 102 { ps := [t142], rs := [.bool], f := g102 }) : Sound Go.Proofs.Try.prog 109 { ps := ps109, rs := rs109, f := F109 N g86 g101 g102 } := by
  have hE : EnvOk Go.Proofs.Try.prog (E109 g86 g101 g102) := env_ok tab109 (by
    intro p hp
    simp only [List.mem_cons, List.not_mem_nil, or_false] at hp
    rcases hp with rfl | rfl | rfl
    · exact ⟨h86, Go.Proofs.Try.f86, Go.Proofs.Try.func86, by kernel_rfl, by kernel_rfl⟩
    · exact ⟨h101, Go.Proofs.Try.f101, Go.Proofs.Try.func101, by kernel_rfl, by kernel_rfl⟩
    · exact ⟨h102, Go.Proofs.Try.f102, Go.Proofs.Try.func102, by kernel_rfl, by kernel_rfl⟩) (by
    intro p hp
    cases hp)
  have h := fn_sound hE (by kernel_rfl) Go.Proofs.Try.func109 (show Go.Proofs.Try.f109.body = some c109 by kernel_rfl) ps109 rs109 (M109 g86 g101 g102) N (by
    intro o ho
    have ho : o ∈ obls (C109 N g86 g101 g102) 1 c109 := ho
    rw [ob109] at ho
    simp only [List.mem_cons, List.not_mem_nil, or_false] at ho
    rcases ho with rfl
    · exact oL109_0 N g86 g101 g102)
  have e : (fun x => Go.V.evBody (E109 g86 g101 g102) Go.Proofs.Try.f109 rs109 (M109 g86 g101 g102) N (Go.V.start Go.Proofs.Try.f109 ps109 x)) = F109 N g86 g101 g102 := funext fun x => eF109 N g86 g101 g102 x
  rw [e] at h
  exact h

end Go.Proofs.Ytkifmnocomadfaa
end

/- The reading of poundage poundageref01.Opposite. -/
section
set_option linter.unusedVariables false
set_option maxRecDepth 100000
namespace Go.Proofs.Ytkifmnocomadfaa
open Go.V

noncomputable def F111 (N : Nat) (g102 : (D142 × Unit) → Option D159) : (D142 × Unit) → Option (D142 × Unit) := fun x =>
(g102 x).bind fun r1 =>
cond r1.1 (
some x) (
some (((!x.1.1), x.1.2), ()))

noncomputable def ps111 : List Ty := [t142]
noncomputable def rs111 : List Ty := [t142]
noncomputable def ty111 : List (TypeId × Ty) := [(4, .bool), (120, (.int .u64)), (143, t142)]
noncomputable def by111 : List (TypeId × Nat) := []
noncomputable def eq111 : List TypeId := []
noncomputable def E111 (g102 : (D142 × Unit) → Option D159) : Go.V.Env := { ty := ty111, bytes := by111, fn := [(102, { ps := [t142], rs := [.bool], f := g102 })], eqs := eq111, inl := [] }
noncomputable def M111 (g102 : (D142 × Unit) → Option D159) : List (Nat × Go.V.Mark (Ty.prods rs111).den) := []
noncomputable def C111 (N : Nat) (g102 : (D142 × Unit) → Option D159) : Go.V.Ctx (Ty.prods rs111).den := { E := E111 g102, n := Go.Proofs.Try.f111.ntmps, marks := M111 g102, fin := Go.V.finish (E111 g102) Go.Proofs.Try.f111 rs111, N }
noncomputable def c111 : Code := (Go.Proofs.Try.f111.body).getD .skip

theorem tab111 : tablesB Go.Proofs.Try.prog ty111 by111 eq111 = true := by kernel_rfl
theorem ob111 (N : Nat) (g102 : (D142 × Unit) → Option D159) : obls (C111 N g102) 1 c111 = [] := by kernel_rfl
theorem eF111 (N : Nat) (g102 : (D142 × Unit) → Option D159) (x : (Ty.prods ps111).den) : Go.V.evBody (E111 g102) Go.Proofs.Try.f111 rs111 (M111 g102) N (Go.V.start Go.Proofs.Try.f111 ps111 x) = F111 N g102 x := by kernel_rfl
theorem s111 (N : Nat) (g102 : (D142 × Unit) → Option D159) (h102 : Sound Go.Proofs.Try.prog 102 { ps := [t142], rs := [.bool], f := g102 }) : Sound Go.Proofs.Try.prog 111 { ps := ps111, rs := rs111, f := F111 N g102 } := by
  have hE : EnvOk Go.Proofs.Try.prog (E111 g102) := env_ok tab111 (by
    intro p hp
    simp only [List.mem_cons, List.not_mem_nil, or_false] at hp
    rcases hp with rfl
    · exact ⟨h102, Go.Proofs.Try.f102, Go.Proofs.Try.func102, by kernel_rfl, by kernel_rfl⟩) (by
    intro p hp
    cases hp)
  have h := fn_sound hE (by kernel_rfl) Go.Proofs.Try.func111 (show Go.Proofs.Try.f111.body = some c111 by kernel_rfl) ps111 rs111 (M111 g102) N (by
    intro o ho
    have ho : o ∈ obls (C111 N g102) 1 c111 := ho
    rw [ob111] at ho
    cases ho)
  have e : (fun x => Go.V.evBody (E111 g102) Go.Proofs.Try.f111 rs111 (M111 g102) N (Go.V.start Go.Proofs.Try.f111 ps111 x)) = F111 N g102 := funext fun x => eF111 N g102 x
  rw [e] at h
  exact h

end Go.Proofs.Ytkifmnocomadfaa
end

/- The reading of poundage poundageref01.Less. -/
section
set_option linter.unusedVariables false
set_option maxRecDepth 100000
namespace Go.Proofs.Ytkifmnocomadfaa
open Go.V

noncomputable def F116 (N : Nat) (g85 : (D142 × (D142 × Unit)) → Option (D142 × Unit)) (g111 : (D142 × Unit) → Option (D142 × Unit)) : (D142 × (D142 × Unit)) → Option D159 := fun x =>
(g111 x.2).bind fun r1 =>
(g85 (x.1, r1)).bind fun r2 =>
some (r2.1.1, ())

noncomputable def ps116 : List Ty := [t142, t142]
noncomputable def rs116 : List Ty := [.bool]
noncomputable def ty116 : List (TypeId × Ty) := [(4, .bool), (143, t142)]
noncomputable def by116 : List (TypeId × Nat) := []
noncomputable def eq116 : List TypeId := []
noncomputable def E116 (g85 : (D142 × (D142 × Unit)) → Option (D142 × Unit)) (g111 : (D142 × Unit) → Option (D142 × Unit)) : Go.V.Env := { ty := ty116, bytes := by116, fn := [(85, { ps := [t142, t142], rs := [t142], f := g85 }), (111, { ps := [t142], rs := [t142], f := g111 })], eqs := eq116, inl := [] }
noncomputable def M116 (g85 : (D142 × (D142 × Unit)) → Option (D142 × Unit)) (g111 : (D142 × Unit) → Option (D142 × Unit)) : List (Nat × Go.V.Mark (Ty.prods rs116).den) := []
noncomputable def C116 (N : Nat) (g85 : (D142 × (D142 × Unit)) → Option (D142 × Unit)) (g111 : (D142 × Unit) → Option (D142 × Unit)) : Go.V.Ctx (Ty.prods rs116).den := { E := E116 g85 g111, n := Go.Proofs.Try.f116.ntmps, marks := M116 g85 g111, fin := Go.V.finish (E116 g85 g111) Go.Proofs.Try.f116 rs116, N }
noncomputable def c116 : Code := (Go.Proofs.Try.f116.body).getD .skip

theorem tab116 : tablesB Go.Proofs.Try.prog ty116 by116 eq116 = true := by kernel_rfl
theorem ob116 (N : Nat) (g85 : (D142 × (D142 × Unit)) → Option (D142 × Unit)) (g111 : (D142 × Unit) → Option (D142 × Unit)) : obls (C116 N g85 g111) 1 c116 = [] := by kernel_rfl
theorem eF116 (N : Nat) (g85 : (D142 × (D142 × Unit)) → Option (D142 × Unit)) (g111 : (D142 × Unit) → Option (D142 × Unit)) (x : (Ty.prods ps116).den) : Go.V.evBody (E116 g85 g111) Go.Proofs.Try.f116 rs116 (M116 g85 g111) N (Go.V.start Go.Proofs.Try.f116 ps116 x) = F116 N g85 g111 x := by kernel_rfl
theorem s116 (N : Nat) (g85 : (D142 × (D142 × Unit)) → Option (D142 × Unit)) (g111 : (D142 × Unit) → Option (D142 × Unit)) (h85 : Sound Go.Proofs.Try.prog 85 { ps := [t142, t142], rs := [t142], f := g85 }) (h111 : Sound Go.Proofs.Try.prog 111 { ps := [t142], rs := [t142], f := g111 }) : Sound Go.Proofs.Try.prog 116 { ps := ps116, rs := rs116, f := F116 N g85 g111 } := by
  have hE : EnvOk Go.Proofs.Try.prog (E116 g85 g111) := env_ok tab116 (by
    intro p hp
    simp only [List.mem_cons, List.not_mem_nil, or_false] at hp
    rcases hp with rfl | rfl
    · exact ⟨h85, Go.Proofs.Try.f85, Go.Proofs.Try.func85, by kernel_rfl, by kernel_rfl⟩
    · exact ⟨h111, Go.Proofs.Try.f111, Go.Proofs.Try.func111, by kernel_rfl, by kernel_rfl⟩) (by
    intro p hp
    cases hp)
  have h := fn_sound hE (by kernel_rfl) Go.Proofs.Try.func116 (show Go.Proofs.Try.f116.body = some c116 by kernel_rfl) ps116 rs116 (M116 g85 g111) N (by
    intro o ho
    have ho : o ∈ obls (C116 N g85 g111) 1 c116 := ho
    rw [ob116] at ho
    cases ho)
  have e : (fun x => Go.V.evBody (E116 g85 g111) Go.Proofs.Try.f116 rs116 (M116 g85 g111) N (Go.V.start Go.Proofs.Try.f116 ps116 x)) = F116 N g85 g111 := funext fun x => eF116 N g85 g111 x
  rw [e] at h
  exact h

end Go.Proofs.Ytkifmnocomadfaa
end

/- The reading of poundage poundageref02.under. -/
section
set_option linter.unusedVariables false
set_option maxRecDepth 100000
namespace Go.Proofs.Ytkifmnocomadfaa
open Go.V

noncomputable def F114 (N : Nat) (g109 : D146 → Option (D142 × Unit)) (g116 : (D142 × (D142 × Unit)) → Option D159) : (Int × (Int × (D142 × Unit))) → Option D159 := fun x =>
(g109 (x.1, x.2.1, ())).bind fun r1 =>
(g116 (x.2.2.1, r1)).bind fun r2 =>
some ((!r2.1), ())

noncomputable def ps114 : List Ty := [(.int .i64), (.int .i64), t142]
noncomputable def rs114 : List Ty := [.bool]
noncomputable def ty114 : List (TypeId × Ty) := [(143, t142)]
noncomputable def by114 : List (TypeId × Nat) := []
noncomputable def eq114 : List TypeId := []
noncomputable def E114 (g109 : D146 → Option (D142 × Unit)) (g116 : (D142 × (D142 × Unit)) → Option D159) : Go.V.Env := { ty := ty114, bytes := by114, fn := [(109, { ps := [(.int .i64), (.int .i64)], rs := [t142], f := g109 }), (116, { ps := [t142, t142], rs := [.bool], f := g116 })], eqs := eq114, inl := [] }
noncomputable def M114 (g109 : D146 → Option (D142 × Unit)) (g116 : (D142 × (D142 × Unit)) → Option D159) : List (Nat × Go.V.Mark (Ty.prods rs114).den) := []
noncomputable def C114 (N : Nat) (g109 : D146 → Option (D142 × Unit)) (g116 : (D142 × (D142 × Unit)) → Option D159) : Go.V.Ctx (Ty.prods rs114).den := { E := E114 g109 g116, n := Go.Proofs.Try.f114.ntmps, marks := M114 g109 g116, fin := Go.V.finish (E114 g109 g116) Go.Proofs.Try.f114 rs114, N }
noncomputable def c114 : Code := (Go.Proofs.Try.f114.body).getD .skip

theorem tab114 : tablesB Go.Proofs.Try.prog ty114 by114 eq114 = true := by kernel_rfl
theorem ob114 (N : Nat) (g109 : D146 → Option (D142 × Unit)) (g116 : (D142 × (D142 × Unit)) → Option D159) : obls (C114 N g109 g116) 1 c114 = [] := by kernel_rfl
theorem eF114 (N : Nat) (g109 : D146 → Option (D142 × Unit)) (g116 : (D142 × (D142 × Unit)) → Option D159) (x : (Ty.prods ps114).den) : Go.V.evBody (E114 g109 g116) Go.Proofs.Try.f114 rs114 (M114 g109 g116) N (Go.V.start Go.Proofs.Try.f114 ps114 x) = F114 N g109 g116 x := by kernel_rfl
theorem s114 (N : Nat) (g109 : D146 → Option (D142 × Unit)) (g116 : (D142 × (D142 × Unit)) → Option D159) (h109 : Sound Go.Proofs.Try.prog 109 { ps := [(.int .i64), (.int .i64)], rs := [t142], f := g109 }) (h116 : Sound Go.Proofs.Try.prog 116 { ps := [t142, t142], rs := [.bool], f := g116 }) : Sound Go.Proofs.Try.prog 114 { ps := ps114, rs := rs114, f := F114 N g109 g116 } := by
  have hE : EnvOk Go.Proofs.Try.prog (E114 g109 g116) := env_ok tab114 (by
    intro p hp
    simp only [List.mem_cons, List.not_mem_nil, or_false] at hp
    rcases hp with rfl | rfl
    · exact ⟨h109, Go.Proofs.Try.f109, Go.Proofs.Try.func109, by kernel_rfl, by kernel_rfl⟩
    · exact ⟨h116, Go.Proofs.Try.f116, Go.Proofs.Try.func116, by kernel_rfl, by kernel_rfl⟩) (by
    intro p hp
    cases hp)
  have h := fn_sound hE (by kernel_rfl) Go.Proofs.Try.func114 (show Go.Proofs.Try.f114.body = some c114 by kernel_rfl) ps114 rs114 (M114 g109 g116) N (by
    intro o ho
    have ho : o ∈ obls (C114 N g109 g116) 1 c114 := ho
    rw [ob114] at ho
    cases ho)
  have e : (fun x => Go.V.evBody (E114 g109 g116) Go.Proofs.Try.f114 rs114 (M114 g109 g116) N (Go.V.start Go.Proofs.Try.f114 ps114 x)) = F114 N g109 g116 := funext fun x => eF114 N g109 g116 x
  rw [e] at h
  exact h

end Go.Proofs.Ytkifmnocomadfaa
end

/- The reading of poundage poundageref02.Floor. -/
section
set_option linter.unusedVariables false
set_option maxRecDepth 100000
namespace Go.Proofs.Ytkifmnocomadfaa
open Go.V

noncomputable def L110_0i : Shape := { items := [.tm 1 (.int .i64), .ptr 2 0 0, .bx 0 0 t142, .tm 6 (.int .i64), .tm 7 (.int .i64)], boxes := [143] }
noncomputable def L110_0o : Shape := { items := [.tm 6 (.int .i64)], boxes := [] }
noncomputable def L110_0 (N : Nat) (g114 : (Int × (Int × (D142 × Unit))) → Option D159) : Nat → (Int × (Unit × (D142 × D146))) → ((Int × Unit) → Option (Int × D159)) → Option (Int × D159)
| 0, _, _ => none
| k + 1, x2, Kx =>
cond (decide (x2.2.2.2.2.1 ≥ (0 : Int))) (
if (IntKind.u64.wrap x2.2.2.2.2.1) < 0 then none else
let v3 := (IntKind.u64.wrap ((1 : Int) * 2 ^ (min ((IntKind.u64.wrap x2.2.2.2.2.1)).toNat IntKind.u64.bits)))
let v4 := (IntKind.u64.wrap ((IntKind.u64.wrap x2.2.2.2.1) + v3))
cond (decide ((IntKind.i64.wrap v4) > x2.2.2.2.1)) (
(g114 ((IntKind.i64.wrap v4), x2.1, x2.2.2.1, ())).bind fun r5 =>
cond r5.1 (
L110_0 N g114 k (x2.1, (), x2.2.2.1, (IntKind.i64.wrap v4), (IntKind.i64.wrap (x2.2.2.2.2.1 - (1 : Int))), ()) Kx) (
L110_0 N g114 k (x2.1, (), x2.2.2.1, x2.2.2.2.1, (IntKind.i64.wrap (x2.2.2.2.2.1 - (1 : Int))), ()) Kx)) (
L110_0 N g114 k (x2.1, (), x2.2.2.1, x2.2.2.2.1, (IntKind.i64.wrap (x2.2.2.2.2.1 - (1 : Int))), ()) Kx)) (
Kx (x2.2.2.2.1, ()))

noncomputable def F110 (N : Nat) (g114 : (Int × (Int × (D142 × Unit))) → Option D159) : (D142 × (Int × Unit)) → Option (Int × D159) := fun x =>
(g114 ((-9223372036854775808 : Int), x.2.1, x.1, ())).bind fun r1 =>
cond (!r1.1) (
some ((0 : Int), false, ())) (
L110_0 N g114 N (x.2.1, (), x.1, (-9223372036854775808 : Int), (63 : Int), ()) fun y6 =>
some (y6.1, true, ()))

noncomputable def ps110 : List Ty := [t142, (.int .i64)]
noncomputable def rs110 : List Ty := [(.int .i64), .bool]
noncomputable def ty110 : List (TypeId × Ty) := [(3, (.int .i64)), (120, (.int .u64)), (122, (.int .u64)), (143, t142)]
noncomputable def by110 : List (TypeId × Nat) := []
noncomputable def eq110 : List TypeId := []
noncomputable def E110 (g114 : (Int × (Int × (D142 × Unit))) → Option D159) : Go.V.Env := { ty := ty110, bytes := by110, fn := [(114, { ps := [(.int .i64), (.int .i64), t142], rs := [.bool], f := g114 })], eqs := eq110, inl := [] }
noncomputable def M110 (g114 : (Int × (Int × (D142 × Unit))) → Option D159) : List (Nat × Go.V.Mark (Ty.prods rs110).den) := [(244, { ins := L110_0i, outs := L110_0o, ex := some 0, f := fun N => L110_0 N g114 })]
noncomputable def C110 (N : Nat) (g114 : (Int × (Int × (D142 × Unit))) → Option D159) : Go.V.Ctx (Ty.prods rs110).den := { E := E110 g114, n := Go.Proofs.Try.f110.ntmps, marks := M110 g114, fin := Go.V.finish (E110 g114) Go.Proofs.Try.f110 rs110, N }
noncomputable def c110 : Code := (Go.Proofs.Try.f110.body).getD .skip

theorem tab110 : tablesB Go.Proofs.Try.prog ty110 by110 eq110 = true := by kernel_rfl
theorem oL110_0 (N : Nat) (g114 : (Int × (Int × (D142 × Unit))) → Option D159) : (Obl.loop { ins := L110_0i, outs := L110_0o, ex := some 0, f := fun N => L110_0 N g114 } 244 (subc [true, true, true, false, true, false, false] c110) : Obl (Ty.prods rs110).den).holds (C110 N g114) := by
  intro x Kx
  exact ⟨by kernel_rfl, fun k => by kernel_rfl⟩
theorem ob110 (N : Nat) (g114 : (Int × (Int × (D142 × Unit))) → Option D159) : obls (C110 N g114) 1 c110 = [.loop { ins := L110_0i, outs := L110_0o, ex := some 0, f := fun N => L110_0 N g114 } 244 (subc [true, true, true, false, true, false, false] c110)] := by kernel_rfl
theorem eF110 (N : Nat) (g114 : (Int × (Int × (D142 × Unit))) → Option D159) (x : (Ty.prods ps110).den) : Go.V.evBody (E110 g114) Go.Proofs.Try.f110 rs110 (M110 g114) N (Go.V.start Go.Proofs.Try.f110 ps110 x) = F110 N g114 x := by kernel_rfl
theorem s110 (N : Nat) (g114 : (Int × (Int × (D142 × Unit))) → Option D159) (h114 : Sound Go.Proofs.Try.prog 114 { ps := [(.int .i64), (.int .i64), t142], rs := [.bool], f := g114 }) : Sound Go.Proofs.Try.prog 110 { ps := ps110, rs := rs110, f := F110 N g114 } := by
  have hE : EnvOk Go.Proofs.Try.prog (E110 g114) := env_ok tab110 (by
    intro p hp
    simp only [List.mem_cons, List.not_mem_nil, or_false] at hp
    rcases hp with rfl
    · exact ⟨h114, Go.Proofs.Try.f114, Go.Proofs.Try.func114, by kernel_rfl, by kernel_rfl⟩) (by
    intro p hp
    cases hp)
  have h := fn_sound hE (by kernel_rfl) Go.Proofs.Try.func110 (show Go.Proofs.Try.f110.body = some c110 by kernel_rfl) ps110 rs110 (M110 g114) N (by
    intro o ho
    have ho : o ∈ obls (C110 N g114) 1 c110 := ho
    rw [ob110] at ho
    simp only [List.mem_cons, List.not_mem_nil, or_false] at ho
    rcases ho with rfl
    · exact oL110_0 N g114)
  have e : (fun x => Go.V.evBody (E110 g114) Go.Proofs.Try.f110 rs110 (M110 g114) N (Go.V.start Go.Proofs.Try.f110 ps110 x)) = F110 N g114 := funext fun x => eF110 N g114 x
  rw [e] at h
  exact h

end Go.Proofs.Ytkifmnocomadfaa
end

/- The reading of poundage poundageref02.edge. -/
section
set_option linter.unusedVariables false
set_option maxRecDepth 100000
namespace Go.Proofs.Ytkifmnocomadfaa
open Go.V

noncomputable def F112 (N : Nat) (g85 : (D142 × (D142 × Unit)) → Option (D142 × Unit)) (g109 : D146 → Option (D142 × Unit)) (g111 : (D142 × Unit) → Option (D142 × Unit)) : (D142 × D146) → Option (Int × D159) := fun x =>
(g109 ((-9223372036854775808 : Int), x.2.1, ())).bind fun r1 =>
(g111 (x.1, ())).bind fun r2 =>
(g85 (r1.1, r2)).bind fun r3 =>
cond r3.1.1 (
some ((0 : Int), false, ())) (
cond (decide (r3.1.2.1 > (0 : Int))) (
some ((0 : Int), false, ())) (
cond (decide (r3.1.2.2.1 ≥ (IntKind.u64.wrap x.2.1))) (
some ((0 : Int), false, ())) (
let v4 := (IntKind.u64.wrap ((IntKind.u64.wrap x.2.1) - r3.1.2.2.1))
cond (x.2.2.1 == (1 : Int)) (
some ((-9223372036854775808 : Int), true, ())) (
cond (decide (x.2.2.1 > (1 : Int))) (
cond (decide (r3.1.2.2.1 < v4)) (
some ((-9223372036854775808 : Int), true, ())) (
cond (r3.1.2.2.1 == v4) (
some ((-9223372036854775808 : Int), true, ())) (
some ((0 : Int), false, ())))) (
some ((0 : Int), false, ()))))))

noncomputable def ps112 : List Ty := [t142, (.int .i64), (.int .i64)]
noncomputable def rs112 : List Ty := [(.int .i64), .bool]
noncomputable def ty112 : List (TypeId × Ty) := [(3, (.int .i64)), (4, .bool), (120, (.int .u64)), (143, t142)]
noncomputable def by112 : List (TypeId × Nat) := []
noncomputable def eq112 : List TypeId := []
noncomputable def E112 (g85 : (D142 × (D142 × Unit)) → Option (D142 × Unit)) (g109 : D146 → Option (D142 × Unit)) (g111 : (D142 × Unit) → Option (D142 × Unit)) : Go.V.Env := { ty := ty112, bytes := by112, fn := [(85, { ps := [t142, t142], rs := [t142], f := g85 }), (109, { ps := [(.int .i64), (.int .i64)], rs := [t142], f := g109 }), (111, { ps := [t142], rs := [t142], f := g111 })], eqs := eq112, inl := [] }
noncomputable def M112 (g85 : (D142 × (D142 × Unit)) → Option (D142 × Unit)) (g109 : D146 → Option (D142 × Unit)) (g111 : (D142 × Unit) → Option (D142 × Unit)) : List (Nat × Go.V.Mark (Ty.prods rs112).den) := []
noncomputable def C112 (N : Nat) (g85 : (D142 × (D142 × Unit)) → Option (D142 × Unit)) (g109 : D146 → Option (D142 × Unit)) (g111 : (D142 × Unit) → Option (D142 × Unit)) : Go.V.Ctx (Ty.prods rs112).den := { E := E112 g85 g109 g111, n := Go.Proofs.Try.f112.ntmps, marks := M112 g85 g109 g111, fin := Go.V.finish (E112 g85 g109 g111) Go.Proofs.Try.f112 rs112, N }
noncomputable def c112 : Code := (Go.Proofs.Try.f112.body).getD .skip

theorem tab112 : tablesB Go.Proofs.Try.prog ty112 by112 eq112 = true := by kernel_rfl
theorem ob112 (N : Nat) (g85 : (D142 × (D142 × Unit)) → Option (D142 × Unit)) (g109 : D146 → Option (D142 × Unit)) (g111 : (D142 × Unit) → Option (D142 × Unit)) : obls (C112 N g85 g109 g111) 1 c112 = [] := by kernel_rfl
theorem eF112 (N : Nat) (g85 : (D142 × (D142 × Unit)) → Option (D142 × Unit)) (g109 : D146 → Option (D142 × Unit)) (g111 : (D142 × Unit) → Option (D142 × Unit)) (x : (Ty.prods ps112).den) : Go.V.evBody (E112 g85 g109 g111) Go.Proofs.Try.f112 rs112 (M112 g85 g109 g111) N (Go.V.start Go.Proofs.Try.f112 ps112 x) = F112 N g85 g109 g111 x := by kernel_rfl
theorem s112 (N : Nat) (g85 : (D142 × (D142 × Unit)) → Option (D142 × Unit)) (g109 : D146 → Option (D142 × Unit)) (g111 : (D142 × Unit) → Option (D142 × Unit)) (h85 : Sound Go.Proofs.Try.prog 85 { ps := [t142, t142], rs := [t142], f := g85 }) (h109 : Sound Go.Proofs.Try.prog 109 { ps := [(.int .i64), (.int .i64)], rs := [t142], f := g109 }) (h111 : Sound Go.Proofs.Try.prog 111 { ps := [t142], rs := [t142], f := g111 }) : Sound Go.Proofs.Try.prog 112 { ps := ps112, rs := rs112, f := F112 N g85 g109 g111 } := by
  have hE : EnvOk Go.Proofs.Try.prog (E112 g85 g109 g111) := env_ok tab112 (by
    intro p hp
    simp only [List.mem_cons, List.not_mem_nil, or_false] at hp
    rcases hp with rfl | rfl | rfl
    · exact ⟨h85, Go.Proofs.Try.f85, Go.Proofs.Try.func85, by kernel_rfl, by kernel_rfl⟩
    · exact ⟨h109, Go.Proofs.Try.f109, Go.Proofs.Try.func109, by kernel_rfl, by kernel_rfl⟩
    · exact ⟨h111, Go.Proofs.Try.f111, Go.Proofs.Try.func111, by kernel_rfl, by kernel_rfl⟩) (by
    intro p hp
    cases hp)
  have h := fn_sound hE (by kernel_rfl) Go.Proofs.Try.func112 (show Go.Proofs.Try.f112.body = some c112 by kernel_rfl) ps112 rs112 (M112 g85 g109 g111) N (by
    intro o ho
    have ho : o ∈ obls (C112 N g85 g109 g111) 1 c112 := ho
    rw [ob112] at ho
    cases ho)
  have e : (fun x => Go.V.evBody (E112 g85 g109 g111) Go.Proofs.Try.f112 rs112 (M112 g85 g109 g111) N (Go.V.start Go.Proofs.Try.f112 ps112 x)) = F112 N g85 g109 g111 := funext fun x => eF112 N g85 g109 g111 x
  rw [e] at h
  exact h

end Go.Proofs.Ytkifmnocomadfaa
end

/- The reading of poundage poundageref02.MulDiv. -/
section
set_option linter.unusedVariables false
set_option maxRecDepth 100000
namespace Go.Proofs.Ytkifmnocomadfaa
open Go.V

noncomputable def F99 (N : Nat) (g85 : (D142 × (D142 × Unit)) → Option (D142 × Unit)) (g109 : D146 → Option (D142 × Unit)) (g110 : (D142 × (Int × Unit)) → Option (Int × D159)) (g111 : (D142 × Unit) → Option (D142 × Unit)) (g112 : (D142 × D146) → Option (Int × D159)) : (Int × D87) → Option (Int × D159) := fun x =>
cond (decide (x.2.2.1 ≤ (0 : Int))) (
some ((0 : Int), false, ())) (
cond (decide (x.2.2.2.1 < (0 : Int))) (
some ((0 : Int), false, ())) (
cond (decide (x.2.2.2.1 > (3 : Int))) (
some ((0 : Int), false, ())) (
(g109 (x.1, x.2.1, ())).bind fun r1 =>
(g110 (r1.1, x.2.2.1, ())).bind fun r2 =>
(g109 (r2.1, x.2.2.1, ())).bind fun r3 =>
(g111 r3).bind fun r4 =>
(g85 (r1.1, r4)).bind fun r5 =>
cond r2.2.1 (
cond (decide (r5.1.2.1 > (0 : Int))) (
some ((0 : Int), false, ())) (
cond r2.2.1 (
cond (decide (r5.1.2.2.1 ≥ (IntKind.u64.wrap x.2.2.1))) (
some ((0 : Int), false, ())) (
cond (!r2.2.1) (
(g112 (r1.1, x.2.2)).bind fun r6 =>
cond r6.2.1 (
some (r6.1, true, ())) (
some ((0 : Int), false, ()))) (
let v7 := (IntKind.u64.wrap ((IntKind.u64.wrap x.2.2.1) - r5.1.2.2.1))
cond (x.2.2.2.1 == (1 : Int)) (
cond (!(decide (r5.1.2.2.1 > (0 : Int)))) (
some (r2.1, true, ())) (
cond (r2.1 == (9223372036854775807 : Int)) (
some ((0 : Int), false, ())) (
some ((IntKind.i64.wrap (r2.1 + (1 : Int))), true, ())))) (
cond (x.2.2.2.1 == (2 : Int)) (
cond (!(decide (r5.1.2.2.1 ≥ v7))) (
some (r2.1, true, ())) (
cond (r2.1 == (9223372036854775807 : Int)) (
some ((0 : Int), false, ())) (
some ((IntKind.i64.wrap (r2.1 + (1 : Int))), true, ())))) (
cond (x.2.2.2.1 == (3 : Int)) (
cond (decide (r5.1.2.2.1 > v7)) (
cond (r2.1 == (9223372036854775807 : Int)) (
some ((0 : Int), false, ())) (
some ((IntKind.i64.wrap (r2.1 + (1 : Int))), true, ()))) (
cond (r5.1.2.2.1 == v7) (
if (2 : Int) = 0 then none else
cond (!((r2.1.tmod (2 : Int)) != (0 : Int))) (
some (r2.1, true, ())) (
cond (r2.1 == (9223372036854775807 : Int)) (
some ((0 : Int), false, ())) (
some ((IntKind.i64.wrap (r2.1 + (1 : Int))), true, ())))) (
some (r2.1, true, ())))) (
some (r2.1, true, ()))))))) (
cond (!r2.2.1) (
(g112 (r1.1, x.2.2)).bind fun r8 =>
cond r8.2.1 (
some (r8.1, true, ())) (
some ((0 : Int), false, ()))) (
let v9 := (IntKind.u64.wrap ((IntKind.u64.wrap x.2.2.1) - r5.1.2.2.1))
cond (x.2.2.2.1 == (1 : Int)) (
cond (!(decide (r5.1.2.2.1 > (0 : Int)))) (
some (r2.1, true, ())) (
cond (r2.1 == (9223372036854775807 : Int)) (
some ((0 : Int), false, ())) (
some ((IntKind.i64.wrap (r2.1 + (1 : Int))), true, ())))) (
cond (x.2.2.2.1 == (2 : Int)) (
cond (!(decide (r5.1.2.2.1 ≥ v9))) (
some (r2.1, true, ())) (
cond (r2.1 == (9223372036854775807 : Int)) (
some ((0 : Int), false, ())) (
some ((IntKind.i64.wrap (r2.1 + (1 : Int))), true, ())))) (
cond (x.2.2.2.1 == (3 : Int)) (
cond (decide (r5.1.2.2.1 > v9)) (
cond (r2.1 == (9223372036854775807 : Int)) (
some ((0 : Int), false, ())) (
some ((IntKind.i64.wrap (r2.1 + (1 : Int))), true, ()))) (
cond (r5.1.2.2.1 == v9) (
if (2 : Int) = 0 then none else
cond (!((r2.1.tmod (2 : Int)) != (0 : Int))) (
some (r2.1, true, ())) (
cond (r2.1 == (9223372036854775807 : Int)) (
some ((0 : Int), false, ())) (
some ((IntKind.i64.wrap (r2.1 + (1 : Int))), true, ())))) (
some (r2.1, true, ())))) (
some (r2.1, true, ())))))))) (
cond r2.2.1 (
cond (decide (r5.1.2.2.1 ≥ (IntKind.u64.wrap x.2.2.1))) (
some ((0 : Int), false, ())) (
cond (!r2.2.1) (
(g112 (r1.1, x.2.2)).bind fun r10 =>
cond r10.2.1 (
some (r10.1, true, ())) (
some ((0 : Int), false, ()))) (
let v11 := (IntKind.u64.wrap ((IntKind.u64.wrap x.2.2.1) - r5.1.2.2.1))
cond (x.2.2.2.1 == (1 : Int)) (
cond (!(decide (r5.1.2.2.1 > (0 : Int)))) (
some (r2.1, true, ())) (
cond (r2.1 == (9223372036854775807 : Int)) (
some ((0 : Int), false, ())) (
some ((IntKind.i64.wrap (r2.1 + (1 : Int))), true, ())))) (
cond (x.2.2.2.1 == (2 : Int)) (
cond (!(decide (r5.1.2.2.1 ≥ v11))) (
some (r2.1, true, ())) (
cond (r2.1 == (9223372036854775807 : Int)) (
some ((0 : Int), false, ())) (
some ((IntKind.i64.wrap (r2.1 + (1 : Int))), true, ())))) (
cond (x.2.2.2.1 == (3 : Int)) (
cond (decide (r5.1.2.2.1 > v11)) (
cond (r2.1 == (9223372036854775807 : Int)) (
some ((0 : Int), false, ())) (
some ((IntKind.i64.wrap (r2.1 + (1 : Int))), true, ()))) (
cond (r5.1.2.2.1 == v11) (
if (2 : Int) = 0 then none else
cond (!((r2.1.tmod (2 : Int)) != (0 : Int))) (
some (r2.1, true, ())) (
cond (r2.1 == (9223372036854775807 : Int)) (
some ((0 : Int), false, ())) (
some ((IntKind.i64.wrap (r2.1 + (1 : Int))), true, ())))) (
some (r2.1, true, ())))) (
some (r2.1, true, ()))))))) (
cond (!r2.2.1) (
(g112 (r1.1, x.2.2)).bind fun r12 =>
cond r12.2.1 (
some (r12.1, true, ())) (
some ((0 : Int), false, ()))) (
let v13 := (IntKind.u64.wrap ((IntKind.u64.wrap x.2.2.1) - r5.1.2.2.1))
cond (x.2.2.2.1 == (1 : Int)) (
cond (!(decide (r5.1.2.2.1 > (0 : Int)))) (
some (r2.1, true, ())) (
cond (r2.1 == (9223372036854775807 : Int)) (
some ((0 : Int), false, ())) (
some ((IntKind.i64.wrap (r2.1 + (1 : Int))), true, ())))) (
cond (x.2.2.2.1 == (2 : Int)) (
cond (!(decide (r5.1.2.2.1 ≥ v13))) (
some (r2.1, true, ())) (
cond (r2.1 == (9223372036854775807 : Int)) (
some ((0 : Int), false, ())) (
some ((IntKind.i64.wrap (r2.1 + (1 : Int))), true, ())))) (
cond (x.2.2.2.1 == (3 : Int)) (
cond (decide (r5.1.2.2.1 > v13)) (
cond (r2.1 == (9223372036854775807 : Int)) (
some ((0 : Int), false, ())) (
some ((IntKind.i64.wrap (r2.1 + (1 : Int))), true, ()))) (
cond (r5.1.2.2.1 == v13) (
if (2 : Int) = 0 then none else
cond (!((r2.1.tmod (2 : Int)) != (0 : Int))) (
some (r2.1, true, ())) (
cond (r2.1 == (9223372036854775807 : Int)) (
some ((0 : Int), false, ())) (
some ((IntKind.i64.wrap (r2.1 + (1 : Int))), true, ())))) (
some (r2.1, true, ())))) (
some (r2.1, true, ()))))))))))

noncomputable def ps99 : List Ty := [(.int .i64), (.int .i64), (.int .i64), (.int .i64)]
noncomputable def rs99 : List Ty := [(.int .i64), .bool]
noncomputable def ty99 : List (TypeId × Ty) := [(3, (.int .i64)), (120, (.int .u64)), (143, t142)]
noncomputable def by99 : List (TypeId × Nat) := []
noncomputable def eq99 : List TypeId := []
noncomputable def E99 (g85 : (D142 × (D142 × Unit)) → Option (D142 × Unit)) (g109 : D146 → Option (D142 × Unit)) (g110 : (D142 × (Int × Unit)) → Option (Int × D159)) (g111 : (D142 × Unit) → Option (D142 × Unit)) (g112 : (D142 × D146) → Option (Int × D159)) : Go.V.Env := { ty := ty99, bytes := by99, fn := [(85, { ps := [t142, t142], rs := [t142], f := g85 }), (109, { ps := [(.int .i64), (.int .i64)], rs := [t142], f := g109 }), (110, { ps := [t142, (.int .i64)], rs := [(.int .i64), .bool], f := g110 }), (111, { ps := [t142], rs := [t142], f := g111 }), (112, { ps := [t142, (.int .i64), (.int .i64)], rs := [(.int .i64), .bool], f := g112 })], eqs := eq99, inl := [] }
noncomputable def M99 (g85 : (D142 × (D142 × Unit)) → Option (D142 × Unit)) (g109 : D146 → Option (D142 × Unit)) (g110 : (D142 × (Int × Unit)) → Option (Int × D159)) (g111 : (D142 × Unit) → Option (D142 × Unit)) (g112 : (D142 × D146) → Option (Int × D159)) : List (Nat × Go.V.Mark (Ty.prods rs99).den) := []
noncomputable def C99 (N : Nat) (g85 : (D142 × (D142 × Unit)) → Option (D142 × Unit)) (g109 : D146 → Option (D142 × Unit)) (g110 : (D142 × (Int × Unit)) → Option (Int × D159)) (g111 : (D142 × Unit) → Option (D142 × Unit)) (g112 : (D142 × D146) → Option (Int × D159)) : Go.V.Ctx (Ty.prods rs99).den := { E := E99 g85 g109 g110 g111 g112, n := Go.Proofs.Try.f99.ntmps, marks := M99 g85 g109 g110 g111 g112, fin := Go.V.finish (E99 g85 g109 g110 g111 g112) Go.Proofs.Try.f99 rs99, N }
noncomputable def c99 : Code := (Go.Proofs.Try.f99.body).getD .skip

theorem tab99 : tablesB Go.Proofs.Try.prog ty99 by99 eq99 = true := by kernel_rfl
theorem ob99 (N : Nat) (g85 : (D142 × (D142 × Unit)) → Option (D142 × Unit)) (g109 : D146 → Option (D142 × Unit)) (g110 : (D142 × (Int × Unit)) → Option (Int × D159)) (g111 : (D142 × Unit) → Option (D142 × Unit)) (g112 : (D142 × D146) → Option (Int × D159)) : obls (C99 N g85 g109 g110 g111 g112) 1 c99 = [] := by kernel_rfl
theorem eF99 (N : Nat) (g85 : (D142 × (D142 × Unit)) → Option (D142 × Unit)) (g109 : D146 → Option (D142 × Unit)) (g110 : (D142 × (Int × Unit)) → Option (Int × D159)) (g111 : (D142 × Unit) → Option (D142 × Unit)) (g112 : (D142 × D146) → Option (Int × D159)) (x : (Ty.prods ps99).den) : Go.V.evBody (E99 g85 g109 g110 g111 g112) Go.Proofs.Try.f99 rs99 (M99 g85 g109 g110 g111 g112) N (Go.V.start Go.Proofs.Try.f99 ps99 x) = F99 N g85 g109 g110 g111 g112 x := by kernel_rfl
theorem s99 (N : Nat) (g85 : (D142 × (D142 × Unit)) → Option (D142 × Unit)) (g109 : D146 → Option (D142 × Unit)) (g110 : (D142 × (Int × Unit)) → Option (Int × D159)) (g111 : (D142 × Unit) → Option (D142 × Unit)) (g112 : (D142 × D146) → Option (Int × D159)) (h85 : Sound Go.Proofs.Try.prog 85 { ps := [t142, t142], rs := [t142], f := g85 }) (h109 : Sound Go.Proofs.Try.prog 109 { ps := [(.int .i64), (.int .i64)], rs := [t142], f := g109 }) (h110 : Sound Go.Proofs.Try.prog 110 { ps := [t142, (.int .i64)], rs := [(.int .i64), .bool], f := g110 }) (h111 : Sound Go.Proofs.Try.prog 111 { ps := [t142], rs := [t142], f := g111 }) (h112 : Sound Go.Proofs.Try.prog 112 { ps := [t142, (.int .i64), (.int .i64)], rs := [(.int .i64), .bool], f := g112 }) : Sound Go.Proofs.Try.prog 99 { ps := ps99, rs := rs99, f := F99 N g85 g109 g110 g111 g112 } := by
  have hE : EnvOk Go.Proofs.Try.prog (E99 g85 g109 g110 g111 g112) := env_ok tab99 (by
    intro p hp
    simp only [List.mem_cons, List.not_mem_nil, or_false] at hp
    rcases hp with rfl | rfl | rfl | rfl | rfl
    · exact ⟨h85, Go.Proofs.Try.f85, Go.Proofs.Try.func85, by kernel_rfl, by kernel_rfl⟩
    · exact ⟨h109, Go.Proofs.Try.f109, Go.Proofs.Try.func109, by kernel_rfl, by kernel_rfl⟩
    · exact ⟨h110, Go.Proofs.Try.f110, Go.Proofs.Try.func110, by kernel_rfl, by kernel_rfl⟩
    · exact ⟨h111, Go.Proofs.Try.f111, Go.Proofs.Try.func111, by kernel_rfl, by kernel_rfl⟩
    · exact ⟨h112, Go.Proofs.Try.f112, Go.Proofs.Try.func112, by kernel_rfl, by kernel_rfl⟩) (by
    intro p hp
    cases hp)
  have h := fn_sound hE (by kernel_rfl) Go.Proofs.Try.func99 (show Go.Proofs.Try.f99.body = some c99 by kernel_rfl) ps99 rs99 (M99 g85 g109 g110 g111 g112) N (by
    intro o ho
    have ho : o ∈ obls (C99 N g85 g109 g110 g111 g112) 1 c99 := ho
    rw [ob99] at ho
    cases ho)
  have e : (fun x => Go.V.evBody (E99 g85 g109 g110 g111 g112) Go.Proofs.Try.f99 rs99 (M99 g85 g109 g110 g111 g112) N (Go.V.start Go.Proofs.Try.f99 ps99 x)) = F99 N g85 g109 g110 g111 g112 := funext fun x => eF99 N g85 g109 g110 g111 g112 x
  rw [e] at h
  exact h

end Go.Proofs.Ytkifmnocomadfaa
end

/- The reading of poundage poundageref11.Left. -/
section
set_option linter.unusedVariables false
set_option maxRecDepth 100000
namespace Go.Proofs.Ytkifmnocomadfaa
open Go.V

noncomputable def F107 (N : Nat) (g84 : (D142 × Unit) → Option (Int × D159)) (g99 : (Int × D87) → Option (Int × D159)) (g109 : D146 → Option (D142 × Unit)) : (D113 × (Int × Unit)) → Option (Int × D159) := fun x =>
cond (decide (x.2.1 < (0 : Int))) (
some ((0 : Int), false, ())) (
let v1 := (if (0 : Int) > (IntKind.i64.wrap (x.2.1 - x.1.2.2.2.1)) then (0 : Int) else (IntKind.i64.wrap (x.2.1 - x.1.2.2.2.1)))
(g99 (v1, (1 : Int), x.1.2.2.2.2.1, (1 : Int), ())).bind fun r2 =>
cond (!r2.2.1) (
some ((0 : Int), false, ())) (
(g109 (r2.1, x.1.2.2.2.2.1, ())).bind fun r3 =>
(g84 r3).bind fun r4 =>
some r4))

noncomputable def ps107 : List Ty := [t113, (.int .i64)]
noncomputable def rs107 : List Ty := [(.int .i64), .bool]
noncomputable def ty107 : List (TypeId × Ty) := [(3, (.int .i64)), (114, t113)]
noncomputable def by107 : List (TypeId × Nat) := []
noncomputable def eq107 : List TypeId := []
noncomputable def E107 (g84 : (D142 × Unit) → Option (Int × D159)) (g99 : (Int × D87) → Option (Int × D159)) (g109 : D146 → Option (D142 × Unit)) : Go.V.Env := { ty := ty107, bytes := by107, fn := [(84, { ps := [t142], rs := [(.int .i64), .bool], f := g84 }), (99, { ps := [(.int .i64), (.int .i64), (.int .i64), (.int .i64)], rs := [(.int .i64), .bool], f := g99 }), (109, { ps := [(.int .i64), (.int .i64)], rs := [t142], f := g109 })], eqs := eq107, inl := [] }
noncomputable def M107 (g84 : (D142 × Unit) → Option (Int × D159)) (g99 : (Int × D87) → Option (Int × D159)) (g109 : D146 → Option (D142 × Unit)) : List (Nat × Go.V.Mark (Ty.prods rs107).den) := []
noncomputable def C107 (N : Nat) (g84 : (D142 × Unit) → Option (Int × D159)) (g99 : (Int × D87) → Option (Int × D159)) (g109 : D146 → Option (D142 × Unit)) : Go.V.Ctx (Ty.prods rs107).den := { E := E107 g84 g99 g109, n := Go.Proofs.Try.f107.ntmps, marks := M107 g84 g99 g109, fin := Go.V.finish (E107 g84 g99 g109) Go.Proofs.Try.f107 rs107, N }
noncomputable def c107 : Code := (Go.Proofs.Try.f107.body).getD .skip

theorem tab107 : tablesB Go.Proofs.Try.prog ty107 by107 eq107 = true := by kernel_rfl
theorem ob107 (N : Nat) (g84 : (D142 × Unit) → Option (Int × D159)) (g99 : (Int × D87) → Option (Int × D159)) (g109 : D146 → Option (D142 × Unit)) : obls (C107 N g84 g99 g109) 1 c107 = [] := by kernel_rfl
theorem eF107 (N : Nat) (g84 : (D142 × Unit) → Option (Int × D159)) (g99 : (Int × D87) → Option (Int × D159)) (g109 : D146 → Option (D142 × Unit)) (x : (Ty.prods ps107).den) : Go.V.evBody (E107 g84 g99 g109) Go.Proofs.Try.f107 rs107 (M107 g84 g99 g109) N (Go.V.start Go.Proofs.Try.f107 ps107 x) = F107 N g84 g99 g109 x := by kernel_rfl
theorem s107 (N : Nat) (g84 : (D142 × Unit) → Option (Int × D159)) (g99 : (Int × D87) → Option (Int × D159)) (g109 : D146 → Option (D142 × Unit)) (h84 : Sound Go.Proofs.Try.prog 84 { ps := [t142], rs := [(.int .i64), .bool], f := g84 }) (h99 : Sound Go.Proofs.Try.prog 99 { ps := [(.int .i64), (.int .i64), (.int .i64), (.int .i64)], rs := [(.int .i64), .bool], f := g99 }) (h109 : Sound Go.Proofs.Try.prog 109 { ps := [(.int .i64), (.int .i64)], rs := [t142], f := g109 }) : Sound Go.Proofs.Try.prog 107 { ps := ps107, rs := rs107, f := F107 N g84 g99 g109 } := by
  have hE : EnvOk Go.Proofs.Try.prog (E107 g84 g99 g109) := env_ok tab107 (by
    intro p hp
    simp only [List.mem_cons, List.not_mem_nil, or_false] at hp
    rcases hp with rfl | rfl | rfl
    · exact ⟨h84, Go.Proofs.Try.f84, Go.Proofs.Try.func84, by kernel_rfl, by kernel_rfl⟩
    · exact ⟨h99, Go.Proofs.Try.f99, Go.Proofs.Try.func99, by kernel_rfl, by kernel_rfl⟩
    · exact ⟨h109, Go.Proofs.Try.f109, Go.Proofs.Try.func109, by kernel_rfl, by kernel_rfl⟩) (by
    intro p hp
    cases hp)
  have h := fn_sound hE (by kernel_rfl) Go.Proofs.Try.func107 (show Go.Proofs.Try.f107.body = some c107 by kernel_rfl) ps107 rs107 (M107 g84 g99 g109) N (by
    intro o ho
    have ho : o ∈ obls (C107 N g84 g99 g109) 1 c107 := ho
    rw [ob107] at ho
    cases ho)
  have e : (fun x => Go.V.evBody (E107 g84 g99 g109) Go.Proofs.Try.f107 rs107 (M107 g84 g99 g109) N (Go.V.start Go.Proofs.Try.f107 ps107 x)) = F107 N g84 g99 g109 := funext fun x => eF107 N g84 g99 g109 x
  rw [e] at h
  exact h

end Go.Proofs.Ytkifmnocomadfaa
end

/- The reading of poundage poundageref11.Steps. -/
section
set_option linter.unusedVariables false
set_option maxRecDepth 100000
namespace Go.Proofs.Ytkifmnocomadfaa
open Go.V

noncomputable def L108_0i : Shape := { items := [.tm 1 (.int .i64), .tm 6 (.int .i64), .tm 21 (.sl 147 t146), .tm 22 (.int .i64), .tm 23 (.int .i64), .ownT 5 172 t87], boxes := [] }
noncomputable def L108_0o : Shape := { items := [.ownT 5 172 t87], boxes := [] }
noncomputable def L108_0 (N : Nat) : Nat → (Int × (Int × ((List D146) × (Int × (Int × ((List D87) × Unit)))))) → (((List D87) × Unit) → Option ((List D87) × Unit)) → Option ((List D87) × Unit)
| 0, _, _ => none
| k + 1, x2, Kx =>
cond (decide (x2.2.2.2.2.1 < x2.2.2.2.1)) (
if 0 ≤ x2.2.2.2.2.1 then
if x2.2.2.2.2.1 < (x2.2.2.1.length : Int) then
let e3 : D146 := rdAt (t := t146) x2.2.2.1 x2.2.2.2.2.1
cond (x2.2.2.2.2.1 == x2.2.1) (
cond (decide (x2.1 > (0 : Int))) (
if x2.2.2.2.2.2.1.length + 1 ≤ 5864062014805 then
some ((x2.2.2.2.2.2.1 ++ [((0 : Int), x2.1, e3.2)]), ())
else none) (
some x2.2.2.2.2.2)) (
cond (decide (x2.1 ≤ e3.1)) (
cond (decide (x2.1 > (0 : Int))) (
if x2.2.2.2.2.2.1.length + 1 ≤ 5864062014805 then
some ((x2.2.2.2.2.2.1 ++ [((0 : Int), x2.1, e3.2)]), ())
else none) (
some x2.2.2.2.2.2)) (
L108_0 N k (x2.1, x2.2.1, x2.2.2.1, x2.2.2.2.1, (IntKind.i64.wrap (x2.2.2.2.2.1 + (1 : Int))), x2.2.2.2.2.2.1, ()) Kx))
else none
else none) (
Kx (x2.2.2.2.2.2.1, ()))

noncomputable def L108_1i : Shape := { items := [.tm 1 (.int .i64), .ptr 2 0 0, .bx 0 0 t113, .tm 6 (.int .i64), .tm 50 (.sl 147 t146), .tm 51 (.int .i64), .tm 52 (.int .i64), .ownT 5 172 t87], boxes := [114] }
noncomputable def L108_1o : Shape := { items := [.ownT 5 172 t87], boxes := [] }
noncomputable def L108_1 (N : Nat) : Nat → (Int × (Unit × (D113 × (Int × ((List D146) × (Int × (Int × ((List D87) × Unit)))))))) → (((List D87) × Unit) → Option ((List D87) × Unit)) → Option ((List D87) × Unit)
| 0, _, _ => none
| k + 1, x5, Kx =>
cond (decide (x5.2.2.2.2.2.2.1 < x5.2.2.2.2.2.1)) (
if 0 ≤ x5.2.2.2.2.2.2.1 then
if x5.2.2.2.2.2.2.1 < (x5.2.2.2.2.1.length : Int) then
let e6 : D146 := rdAt (t := t146) x5.2.2.2.2.1 x5.2.2.2.2.2.2.1
cond (decide (x5.2.2.2.2.2.2.1 > (0 : Int))) (
let v7 := (IntKind.i64.wrap (x5.2.2.2.2.2.2.1 - (1 : Int)))
if 0 ≤ v7 then
if v7 < (x5.2.2.1.2.2.2.2.2.2.1.length : Int) then
let e8 : D146 := rdAt (t := t146) x5.2.2.1.2.2.2.2.2.2.1 v7
cond (decide (x5.2.2.2.2.2.2.1 < x5.2.2.2.1)) (
cond (decide (e6.1 < x5.1)) (
cond (decide (e6.1 > e8.1)) (
if x5.2.2.2.2.2.2.2.1.length + 1 ≤ 5864062014805 then
L108_1 N k (x5.1, (), x5.2.2.1, x5.2.2.2.1, x5.2.2.2.2.1, x5.2.2.2.2.2.1, (IntKind.i64.wrap (x5.2.2.2.2.2.2.1 + (1 : Int))), (x5.2.2.2.2.2.2.2.1 ++ [(e8.1, e6)]), ()) Kx
else none) (
L108_1 N k (x5.1, (), x5.2.2.1, x5.2.2.2.1, x5.2.2.2.2.1, x5.2.2.2.2.2.1, (IntKind.i64.wrap (x5.2.2.2.2.2.2.1 + (1 : Int))), x5.2.2.2.2.2.2.2.1, ()) Kx)) (
cond (decide (x5.1 > e8.1)) (
if x5.2.2.2.2.2.2.2.1.length + 1 ≤ 5864062014805 then
L108_1 N k (x5.1, (), x5.2.2.1, x5.2.2.2.1, x5.2.2.2.2.1, x5.2.2.2.2.2.1, (IntKind.i64.wrap (x5.2.2.2.2.2.2.1 + (1 : Int))), (x5.2.2.2.2.2.2.2.1 ++ [(e8.1, x5.1, e6.2)]), ()) Kx
else none) (
L108_1 N k (x5.1, (), x5.2.2.1, x5.2.2.2.1, x5.2.2.2.2.1, x5.2.2.2.2.2.1, (IntKind.i64.wrap (x5.2.2.2.2.2.2.1 + (1 : Int))), x5.2.2.2.2.2.2.2.1, ()) Kx))) (
cond (decide (x5.1 > e8.1)) (
if x5.2.2.2.2.2.2.2.1.length + 1 ≤ 5864062014805 then
L108_1 N k (x5.1, (), x5.2.2.1, x5.2.2.2.1, x5.2.2.2.2.1, x5.2.2.2.2.2.1, (IntKind.i64.wrap (x5.2.2.2.2.2.2.1 + (1 : Int))), (x5.2.2.2.2.2.2.2.1 ++ [(e8.1, x5.1, e6.2)]), ()) Kx
else none) (
L108_1 N k (x5.1, (), x5.2.2.1, x5.2.2.2.1, x5.2.2.2.2.1, x5.2.2.2.2.2.1, (IntKind.i64.wrap (x5.2.2.2.2.2.2.1 + (1 : Int))), x5.2.2.2.2.2.2.2.1, ()) Kx))
else none
else none) (
cond (decide (x5.2.2.2.2.2.2.1 < x5.2.2.2.1)) (
cond (decide (e6.1 < x5.1)) (
cond (decide (e6.1 > (0 : Int))) (
if x5.2.2.2.2.2.2.2.1.length + 1 ≤ 5864062014805 then
L108_1 N k (x5.1, (), x5.2.2.1, x5.2.2.2.1, x5.2.2.2.2.1, x5.2.2.2.2.2.1, (IntKind.i64.wrap (x5.2.2.2.2.2.2.1 + (1 : Int))), (x5.2.2.2.2.2.2.2.1 ++ [((0 : Int), e6)]), ()) Kx
else none) (
L108_1 N k (x5.1, (), x5.2.2.1, x5.2.2.2.1, x5.2.2.2.2.1, x5.2.2.2.2.2.1, (IntKind.i64.wrap (x5.2.2.2.2.2.2.1 + (1 : Int))), x5.2.2.2.2.2.2.2.1, ()) Kx)) (
cond (decide (x5.1 > (0 : Int))) (
if x5.2.2.2.2.2.2.2.1.length + 1 ≤ 5864062014805 then
L108_1 N k (x5.1, (), x5.2.2.1, x5.2.2.2.1, x5.2.2.2.2.1, x5.2.2.2.2.2.1, (IntKind.i64.wrap (x5.2.2.2.2.2.2.1 + (1 : Int))), (x5.2.2.2.2.2.2.2.1 ++ [((0 : Int), x5.1, e6.2)]), ()) Kx
else none) (
L108_1 N k (x5.1, (), x5.2.2.1, x5.2.2.2.1, x5.2.2.2.2.1, x5.2.2.2.2.2.1, (IntKind.i64.wrap (x5.2.2.2.2.2.2.1 + (1 : Int))), x5.2.2.2.2.2.2.2.1, ()) Kx))) (
cond (decide (x5.1 > (0 : Int))) (
if x5.2.2.2.2.2.2.2.1.length + 1 ≤ 5864062014805 then
L108_1 N k (x5.1, (), x5.2.2.1, x5.2.2.2.1, x5.2.2.2.2.1, x5.2.2.2.2.2.1, (IntKind.i64.wrap (x5.2.2.2.2.2.2.1 + (1 : Int))), (x5.2.2.2.2.2.2.2.1 ++ [((0 : Int), x5.1, e6.2)]), ()) Kx
else none) (
L108_1 N k (x5.1, (), x5.2.2.1, x5.2.2.2.1, x5.2.2.2.2.1, x5.2.2.2.2.2.1, (IntKind.i64.wrap (x5.2.2.2.2.2.2.1 + (1 : Int))), x5.2.2.2.2.2.2.2.1, ()) Kx)))
else none
else none) (
Kx (x5.2.2.2.2.2.2.2.1, ()))

noncomputable def F108 (N : Nat) : (D113 × (Int × Unit)) → Option ((List D87) × Unit) := fun x =>
let v1 := (IntKind.i64.wrap ((x.1.2.2.2.2.2.2.1.length : Int) - (1 : Int)))
cond (x.1.2.2.2.2.2.1 == (2 : Int)) (
L108_0 N N (x.2.1, v1, x.1.2.2.2.2.2.2.1, (x.1.2.2.2.2.2.2.1.length : Int), (0 : Int), [], ()) fun y4 =>
some y4) (
L108_1 N N (x.2.1, (), x.1, v1, x.1.2.2.2.2.2.2.1, (x.1.2.2.2.2.2.2.1.length : Int), (0 : Int), [], ()) fun y9 =>
some y9)

noncomputable def ps108 : List Ty := [t113, (.int .i64)]
noncomputable def rs108 : List Ty := [(.sl 172 t87)]
noncomputable def ty108 : List (TypeId × Ty) := [(3, (.int .i64)), (111, (.sl 147 t146)), (114, t113), (147, t146), (169, (.sl 172 t87)), (172, t87)]
noncomputable def by108 : List (TypeId × Nat) := [(172, 24)]
noncomputable def eq108 : List TypeId := []
noncomputable def E108 : Go.V.Env := { ty := ty108, bytes := by108, fn := [], eqs := eq108, inl := [] }
noncomputable def M108 : List (Nat × Go.V.Mark (Ty.prods rs108).den) := [(1956, { ins := L108_0i, outs := L108_0o, ex := some 0, f := fun N => L108_0 N }), (500, { ins := L108_1i, outs := L108_1o, ex := some 2, f := fun N => L108_1 N })]
noncomputable def C108 (N : Nat) : Go.V.Ctx (Ty.prods rs108).den := { E := E108, n := Go.Proofs.Try.f108.ntmps, marks := M108, fin := Go.V.finish (E108) Go.Proofs.Try.f108 rs108, N }
noncomputable def c108 : Code := (Go.Proofs.Try.f108.body).getD .skip

theorem tab108 : tablesB Go.Proofs.Try.prog ty108 by108 eq108 = true := by kernel_rfl
theorem oL108_0 (N : Nat) : (Obl.loop { ins := L108_0i, outs := L108_0o, ex := some 0, f := fun N => L108_0 N } 1956 (subc [true, true, true, false, true, false, false, true, false, false] c108) : Obl (Ty.prods rs108).den).holds (C108 N) := by
  intro x Kx
  exact ⟨by kernel_rfl, fun k => by kernel_rfl⟩
theorem oL108_1 (N : Nat) : (Obl.loop { ins := L108_1i, outs := L108_1o, ex := some 2, f := fun N => L108_1 N } 500 (subc [true, true, true, true, false, true, false, false] c108) : Obl (Ty.prods rs108).den).holds (C108 N) := by
  intro x Kx
  exact ⟨by kernel_rfl, fun k => by kernel_rfl⟩
theorem ob108 (N : Nat) : obls (C108 N) 1 c108 = [.loop { ins := L108_0i, outs := L108_0o, ex := some 0, f := fun N => L108_0 N } 1956 (subc [true, true, true, false, true, false, false, true, false, false] c108), .loop { ins := L108_1i, outs := L108_1o, ex := some 2, f := fun N => L108_1 N } 500 (subc [true, true, true, true, false, true, false, false] c108)] := by kernel_rfl
theorem eF108 (N : Nat) (x : (Ty.prods ps108).den) : Go.V.evBody (E108) Go.Proofs.Try.f108 rs108 (M108) N (Go.V.start Go.Proofs.Try.f108 ps108 x) = F108 N x := by kernel_rfl
theorem s108 (N : Nat) : Sound Go.Proofs.Try.prog 108 { ps := ps108, rs := rs108, f := F108 N } := by
  have hE : EnvOk Go.Proofs.Try.prog (E108) := env_ok tab108 (by
    intro p hp
    cases hp) (by
    intro p hp
    cases hp)
  have h := fn_sound hE (by kernel_rfl) Go.Proofs.Try.func108 (show Go.Proofs.Try.f108.body = some c108 by kernel_rfl) ps108 rs108 (M108) N (by
    intro o ho
    have ho : o ∈ obls (C108 N) 1 c108 := ho
    rw [ob108] at ho
    simp only [List.mem_cons, List.not_mem_nil, or_false] at ho
    rcases ho with rfl | rfl
    · exact oL108_0 N
    · exact oL108_1 N)
  have e : (fun x => Go.V.evBody (E108) Go.Proofs.Try.f108 rs108 (M108) N (Go.V.start Go.Proofs.Try.f108 ps108 x)) = F108 N := funext fun x => eF108 N x
  rw [e] at h
  exact h

end Go.Proofs.Ytkifmnocomadfaa
end

/- The reading of poundage poundageref11.Micro. -/
section
set_option linter.unusedVariables false
set_option maxRecDepth 100000
namespace Go.Proofs.Ytkifmnocomadfaa
open Go.V

noncomputable def L98_0i : Shape := { items := [.tm 8 (.int .i64), .tm 25 (.sl 172 t87), .tm 26 (.int .i64), .tm 27 (.int .i64)], boxes := [] }
noncomputable def L98_0o : Shape := { items := [.tm 8 (.int .i64)], boxes := [] }
noncomputable def L98_0 (N : Nat) (g84 : (D142 × Unit) → Option (Int × D159)) (g85 : (D142 × (D142 × Unit)) → Option (D142 × Unit)) (g86 : (Int × Unit) → Option (D142 × Unit)) (g107 : (D113 × (Int × Unit)) → Option (Int × D159)) (g108 : (D113 × (Int × Unit)) → Option ((List D87) × Unit)) (g109 : D146 → Option (D142 × Unit)) : Nat → (Int × ((List D87) × D146)) → ((Int × Unit) → Option (Int × D159)) → Option (Int × D159)
| 0, _, _ => none
| k + 1, x3, Kx =>
cond (decide (x3.2.2.2.1 < x3.2.2.1)) (
if 0 ≤ x3.2.2.2.1 then
if x3.2.2.2.1 < (x3.2.1.length : Int) then
let e4 : D87 := rdAt (t := t87) x3.2.1 x3.2.2.2.1
(g109 (e4.2.2.1, (IntKind.i64.wrap (e4.2.1 - e4.1)), ())).bind fun r5 =>
(g84 r5).bind fun r6 =>
(g86 (x3.1, ())).bind fun r7 =>
(g86 (r6.1, ())).bind fun r8 =>
(g85 (r7.1, r8)).bind fun r9 =>
(g84 r9).bind fun r10 =>
cond (!r6.2.1) (
some ((0 : Int), false, ())) (
cond (!r10.2.1) (
some ((0 : Int), false, ())) (
L98_0 N g84 g85 g86 g107 g108 g109 k (r10.1, x3.2.1, x3.2.2.1, (IntKind.i64.wrap (x3.2.2.2.1 + (1 : Int))), ()) Kx))
else none
else none) (
Kx (x3.1, ()))

noncomputable def F98 (N : Nat) (g84 : (D142 × Unit) → Option (Int × D159)) (g85 : (D142 × (D142 × Unit)) → Option (D142 × Unit)) (g86 : (Int × Unit) → Option (D142 × Unit)) (g107 : (D113 × (Int × Unit)) → Option (Int × D159)) (g108 : (D113 × (Int × Unit)) → Option ((List D87) × Unit)) (g109 : D146 → Option (D142 × Unit)) : (D113 × (Int × Unit)) → Option (Int × D159) := fun x =>
(g107 x).bind fun r1 =>
cond (!r1.2.1) (
some ((0 : Int), false, ())) (
(g108 (x.1, r1.1, ())).bind fun r2 =>
L98_0 N g84 g85 g86 g107 g108 g109 N ((0 : Int), r2.1, (r2.1.length : Int), (0 : Int), ()) fun y11 =>
some (y11.1, true, ()))

noncomputable def ps98 : List Ty := [t113, (.int .i64)]
noncomputable def rs98 : List Ty := [(.int .i64), .bool]
noncomputable def ty98 : List (TypeId × Ty) := [(3, (.int .i64)), (114, t113), (169, (.sl 172 t87)), (172, t87)]
noncomputable def by98 : List (TypeId × Nat) := []
noncomputable def eq98 : List TypeId := []
noncomputable def E98 (g84 : (D142 × Unit) → Option (Int × D159)) (g85 : (D142 × (D142 × Unit)) → Option (D142 × Unit)) (g86 : (Int × Unit) → Option (D142 × Unit)) (g107 : (D113 × (Int × Unit)) → Option (Int × D159)) (g108 : (D113 × (Int × Unit)) → Option ((List D87) × Unit)) (g109 : D146 → Option (D142 × Unit)) : Go.V.Env := { ty := ty98, bytes := by98, fn := [(84, { ps := [t142], rs := [(.int .i64), .bool], f := g84 }), (85, { ps := [t142, t142], rs := [t142], f := g85 }), (86, { ps := [(.int .i64)], rs := [t142], f := g86 }), (107, { ps := [t113, (.int .i64)], rs := [(.int .i64), .bool], f := g107 }), (108, { ps := [t113, (.int .i64)], rs := [(.sl 172 t87)], f := g108 }), (109, { ps := [(.int .i64), (.int .i64)], rs := [t142], f := g109 })], eqs := eq98, inl := [] }
noncomputable def M98 (g84 : (D142 × Unit) → Option (Int × D159)) (g85 : (D142 × (D142 × Unit)) → Option (D142 × Unit)) (g86 : (Int × Unit) → Option (D142 × Unit)) (g107 : (D113 × (Int × Unit)) → Option (Int × D159)) (g108 : (D113 × (Int × Unit)) → Option ((List D87) × Unit)) (g109 : D146 → Option (D142 × Unit)) : List (Nat × Go.V.Mark (Ty.prods rs98).den) := [(500, { ins := L98_0i, outs := L98_0o, ex := some 0, f := fun N => L98_0 N g84 g85 g86 g107 g108 g109 })]
noncomputable def C98 (N : Nat) (g84 : (D142 × Unit) → Option (Int × D159)) (g85 : (D142 × (D142 × Unit)) → Option (D142 × Unit)) (g86 : (Int × Unit) → Option (D142 × Unit)) (g107 : (D113 × (Int × Unit)) → Option (Int × D159)) (g108 : (D113 × (Int × Unit)) → Option ((List D87) × Unit)) (g109 : D146 → Option (D142 × Unit)) : Go.V.Ctx (Ty.prods rs98).den := { E := E98 g84 g85 g86 g107 g108 g109, n := Go.Proofs.Try.f98.ntmps, marks := M98 g84 g85 g86 g107 g108 g109, fin := Go.V.finish (E98 g84 g85 g86 g107 g108 g109) Go.Proofs.Try.f98 rs98, N }
noncomputable def c98 : Code := (Go.Proofs.Try.f98.body).getD .skip

theorem tab98 : tablesB Go.Proofs.Try.prog ty98 by98 eq98 = true := by kernel_rfl
theorem oL98_0 (N : Nat) (g84 : (D142 × Unit) → Option (Int × D159)) (g85 : (D142 × (D142 × Unit)) → Option (D142 × Unit)) (g86 : (Int × Unit) → Option (D142 × Unit)) (g107 : (D113 × (Int × Unit)) → Option (Int × D159)) (g108 : (D113 × (Int × Unit)) → Option ((List D87) × Unit)) (g109 : D146 → Option (D142 × Unit)) : (Obl.loop { ins := L98_0i, outs := L98_0o, ex := some 0, f := fun N => L98_0 N g84 g85 g86 g107 g108 g109 } 500 (subc [true, true, true, true, false, true, false, false] c98) : Obl (Ty.prods rs98).den).holds (C98 N g84 g85 g86 g107 g108 g109) := by
  intro x Kx
  exact ⟨by kernel_rfl, fun k => by kernel_rfl⟩
theorem ob98 (N : Nat) (g84 : (D142 × Unit) → Option (Int × D159)) (g85 : (D142 × (D142 × Unit)) → Option (D142 × Unit)) (g86 : (Int × Unit) → Option (D142 × Unit)) (g107 : (D113 × (Int × Unit)) → Option (Int × D159)) (g108 : (D113 × (Int × Unit)) → Option ((List D87) × Unit)) (g109 : D146 → Option (D142 × Unit)) : obls (C98 N g84 g85 g86 g107 g108 g109) 1 c98 = [.loop { ins := L98_0i, outs := L98_0o, ex := some 0, f := fun N => L98_0 N g84 g85 g86 g107 g108 g109 } 500 (subc [true, true, true, true, false, true, false, false] c98)] := by kernel_rfl
theorem eF98 (N : Nat) (g84 : (D142 × Unit) → Option (Int × D159)) (g85 : (D142 × (D142 × Unit)) → Option (D142 × Unit)) (g86 : (Int × Unit) → Option (D142 × Unit)) (g107 : (D113 × (Int × Unit)) → Option (Int × D159)) (g108 : (D113 × (Int × Unit)) → Option ((List D87) × Unit)) (g109 : D146 → Option (D142 × Unit)) (x : (Ty.prods ps98).den) : Go.V.evBody (E98 g84 g85 g86 g107 g108 g109) Go.Proofs.Try.f98 rs98 (M98 g84 g85 g86 g107 g108 g109) N (Go.V.start Go.Proofs.Try.f98 ps98 x) = F98 N g84 g85 g86 g107 g108 g109 x := by kernel_rfl
theorem s98 (N : Nat) (g84 : (D142 × Unit) → Option (Int × D159)) (g85 : (D142 × (D142 × Unit)) → Option (D142 × Unit)) (g86 : (Int × Unit) → Option (D142 × Unit)) (g107 : (D113 × (Int × Unit)) → Option (Int × D159)) (g108 : (D113 × (Int × Unit)) → Option ((List D87) × Unit)) (g109 : D146 → Option (D142 × Unit)) (h84 : Sound Go.Proofs.Try.prog 84 { ps := [t142], rs := [(.int .i64), .bool], f := g84 }) (h85 : Sound Go.Proofs.Try.prog 85 { ps := [t142, t142], rs := [t142], f := g85 }) (h86 : Sound Go.Proofs.Try.prog 86 { ps := [(.int .i64)], rs := [t142], f := g86 }) (h107 : Sound Go.Proofs.Try.prog 107 { ps := [t113, (.int .i64)], rs := [(.int .i64), .bool], f := g107 }) (h108 : Sound Go.Proofs.Try.prog 108 { ps := [t113, (.int .i64)], rs := [(.sl 172 t87)], f := g108 }) (h109 : Sound Go.Proofs.Try.prog 109 { ps := [(.int .i64), (.int .i64)], rs := [t142], f := g109 }) : Sound Go.Proofs.Try.prog 98 { ps := ps98, rs := rs98, f := F98 N g84 g85 g86 g107 g108 g109 } := by
  have hE : EnvOk Go.Proofs.Try.prog (E98 g84 g85 g86 g107 g108 g109) := env_ok tab98 (by
    intro p hp
    simp only [List.mem_cons, List.not_mem_nil, or_false] at hp
    rcases hp with rfl | rfl | rfl | rfl | rfl | rfl
    · exact ⟨h84, Go.Proofs.Try.f84, Go.Proofs.Try.func84, by kernel_rfl, by kernel_rfl⟩
    · exact ⟨h85, Go.Proofs.Try.f85, Go.Proofs.Try.func85, by kernel_rfl, by kernel_rfl⟩
    · exact ⟨h86, Go.Proofs.Try.f86, Go.Proofs.Try.func86, by kernel_rfl, by kernel_rfl⟩
    · exact ⟨h107, Go.Proofs.Try.f107, Go.Proofs.Try.func107, by kernel_rfl, by kernel_rfl⟩
    · exact ⟨h108, Go.Proofs.Try.f108, Go.Proofs.Try.func108, by kernel_rfl, by kernel_rfl⟩
    · exact ⟨h109, Go.Proofs.Try.f109, Go.Proofs.Try.func109, by kernel_rfl, by kernel_rfl⟩) (by
    intro p hp
    cases hp)
  have h := fn_sound hE (by kernel_rfl) Go.Proofs.Try.func98 (show Go.Proofs.Try.f98.body = some c98 by kernel_rfl) ps98 rs98 (M98 g84 g85 g86 g107 g108 g109) N (by
    intro o ho
    have ho : o ∈ obls (C98 N g84 g85 g86 g107 g108 g109) 1 c98 := ho
    rw [ob98] at ho
    simp only [List.mem_cons, List.not_mem_nil, or_false] at ho
    rcases ho with rfl
    · exact oL98_0 N g84 g85 g86 g107 g108 g109)
  have e : (fun x => Go.V.evBody (E98 g84 g85 g86 g107 g108 g109) Go.Proofs.Try.f98 rs98 (M98 g84 g85 g86 g107 g108 g109) N (Go.V.start Go.Proofs.Try.f98 ps98 x)) = F98 N g84 g85 g86 g107 g108 g109 := funext fun x => eF98 N g84 g85 g86 g107 g108 g109 x
  rw [e] at h
  exact h

end Go.Proofs.Ytkifmnocomadfaa
end
