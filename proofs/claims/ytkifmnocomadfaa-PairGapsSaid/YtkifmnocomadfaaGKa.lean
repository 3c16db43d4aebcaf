/- Functions that always answer. -/
import Derived.Test.YtkifmnocomadfaaGVf
import Derived.Test.YtkifmnocomadfaaGCo
section
set_option linter.unusedVariables false
namespace Go.Proofs.Ytkifmnocomadfaa
open Go.V
variable (N : Nat)

theorem tt84 (x) : Wp (sp84 N x) fun _ => True := by
  unfold sp84 F84
  try dsimp only
  repeat' first
    | exact wq_some.2 trivial
    | refine wq_condD.2 ⟨fun _ => ?_, fun _ => ?_⟩
    | refine wq_condN.2 ⟨fun _ => ?_, fun _ => ?_⟩
    | refine wq_condE.2 ⟨fun _ => ?_, fun _ => ?_⟩
    | refine wq_condM.2 ⟨fun _ => ?_, fun _ => ?_⟩
    | refine wq_cond.2 ⟨fun _ => ?_, fun _ => ?_⟩
    | refine wq_iteN'.2 ⟨by omega, ?_⟩
    | refine wq_iteN.2 ⟨by omega, ?_⟩

theorem tt86 (x) : Wp (sp86 N x) fun _ => True := by
  unfold sp86 F86
  try dsimp only
  repeat' first
    | exact wq_some.2 trivial
    | refine wq_condD.2 ⟨fun _ => ?_, fun _ => ?_⟩
    | refine wq_condN.2 ⟨fun _ => ?_, fun _ => ?_⟩
    | refine wq_condE.2 ⟨fun _ => ?_, fun _ => ?_⟩
    | refine wq_condM.2 ⟨fun _ => ?_, fun _ => ?_⟩
    | refine wq_cond.2 ⟨fun _ => ?_, fun _ => ?_⟩
    | refine wq_iteN'.2 ⟨by omega, ?_⟩
    | refine wq_iteN.2 ⟨by omega, ?_⟩

theorem tt101 (x) : Wp (sp101 N x) fun _ => True := by
  unfold sp101 F101
  try dsimp only
  repeat' first
    | exact wq_some.2 trivial
    | refine wq_condD.2 ⟨fun _ => ?_, fun _ => ?_⟩
    | refine wq_condN.2 ⟨fun _ => ?_, fun _ => ?_⟩
    | refine wq_condE.2 ⟨fun _ => ?_, fun _ => ?_⟩
    | refine wq_condM.2 ⟨fun _ => ?_, fun _ => ?_⟩
    | refine wq_cond.2 ⟨fun _ => ?_, fun _ => ?_⟩
    | refine wq_iteN'.2 ⟨by omega, ?_⟩
    | refine wq_iteN.2 ⟨by omega, ?_⟩

theorem tt102 (x) : Wp (sp102 N x) fun _ => True := by
  unfold sp102 F102
  try dsimp only
  repeat' first
    | exact wq_some.2 trivial
    | refine wq_condD.2 ⟨fun _ => ?_, fun _ => ?_⟩
    | refine wq_condN.2 ⟨fun _ => ?_, fun _ => ?_⟩
    | refine wq_condE.2 ⟨fun _ => ?_, fun _ => ?_⟩
    | refine wq_condM.2 ⟨fun _ => ?_, fun _ => ?_⟩
    | refine wq_cond.2 ⟨fun _ => ?_, fun _ => ?_⟩
    | refine wq_iteN'.2 ⟨by omega, ?_⟩
    | refine wq_iteN.2 ⟨by omega, ?_⟩

theorem tt103 (x) : Wp (sp103 N x) fun _ => True := by
  unfold sp103 F103
  try dsimp only
  repeat' first
    | exact wq_some.2 trivial
    | refine wq_condD.2 ⟨fun _ => ?_, fun _ => ?_⟩
    | refine wq_condN.2 ⟨fun _ => ?_, fun _ => ?_⟩
    | refine wq_condE.2 ⟨fun _ => ?_, fun _ => ?_⟩
    | refine wq_condM.2 ⟨fun _ => ?_, fun _ => ?_⟩
    | refine wq_cond.2 ⟨fun _ => ?_, fun _ => ?_⟩
    | refine wq_iteN'.2 ⟨by omega, ?_⟩
    | refine wq_iteN.2 ⟨by omega, ?_⟩

theorem tt104 (x) : Wp (sp104 N x) fun _ => True := by
  unfold sp104 F104
  try dsimp only
  repeat' first
    | exact wq_some.2 trivial
    | refine wq_condD.2 ⟨fun _ => ?_, fun _ => ?_⟩
    | refine wq_condN.2 ⟨fun _ => ?_, fun _ => ?_⟩
    | refine wq_condE.2 ⟨fun _ => ?_, fun _ => ?_⟩
    | refine wq_condM.2 ⟨fun _ => ?_, fun _ => ?_⟩
    | refine wq_cond.2 ⟨fun _ => ?_, fun _ => ?_⟩
    | refine wq_iteN'.2 ⟨by omega, ?_⟩
    | refine wq_iteN.2 ⟨by omega, ?_⟩

theorem tt59 (x) : Wp (sp59 N x) fun _ => True := by
  unfold sp59 F59
  try dsimp only
  repeat' first
    | exact wq_some.2 trivial
    | refine wq_condD.2 ⟨fun _ => ?_, fun _ => ?_⟩
    | refine wq_condN.2 ⟨fun _ => ?_, fun _ => ?_⟩
    | refine wq_condE.2 ⟨fun _ => ?_, fun _ => ?_⟩
    | refine wq_condM.2 ⟨fun _ => ?_, fun _ => ?_⟩
    | refine wq_cond.2 ⟨fun _ => ?_, fun _ => ?_⟩
    | refine wq_iteN'.2 ⟨by omega, ?_⟩
    | refine wq_iteN.2 ⟨by omega, ?_⟩

theorem tt60 (x) : Wp (sp60 N x) fun _ => True := by
  unfold sp60 F60
  try dsimp only
  repeat' first
    | exact wq_some.2 trivial
    | refine wq_condD.2 ⟨fun _ => ?_, fun _ => ?_⟩
    | refine wq_condN.2 ⟨fun _ => ?_, fun _ => ?_⟩
    | refine wq_condE.2 ⟨fun _ => ?_, fun _ => ?_⟩
    | refine wq_condM.2 ⟨fun _ => ?_, fun _ => ?_⟩
    | refine wq_cond.2 ⟨fun _ => ?_, fun _ => ?_⟩
    | refine wq_iteN'.2 ⟨by omega, ?_⟩
    | refine wq_iteN.2 ⟨by omega, ?_⟩

theorem tt85 (x) : Wp (sp85 N x) fun _ => True := by
  unfold sp85 F85
  try dsimp only
  repeat' first
    | exact wq_some.2 trivial
    | refine wq_condD.2 ⟨fun _ => ?_, fun _ => ?_⟩
    | refine wq_condN.2 ⟨fun _ => ?_, fun _ => ?_⟩
    | refine wq_condE.2 ⟨fun _ => ?_, fun _ => ?_⟩
    | refine wq_condM.2 ⟨fun _ => ?_, fun _ => ?_⟩
    | refine wq_cond.2 ⟨fun _ => ?_, fun _ => ?_⟩
    | refine wq_iteN'.2 ⟨by omega, ?_⟩
    | refine wq_iteN.2 ⟨by omega, ?_⟩
    | refine wq_bind.2 (wq_tot (tt101 N _) fun _ => ?_)
    | refine wq_bind.2 (wq_tot (tt102 N _) fun _ => ?_)
    | refine wq_bind.2 (wq_tot (tt103 N _) fun _ => ?_)
    | refine wq_bind.2 (wq_tot (tt104 N _) fun _ => ?_)

theorem tt111 (x) : Wp (sp111 N x) fun _ => True := by
  unfold sp111 F111
  try dsimp only
  repeat' first
    | exact wq_some.2 trivial
    | refine wq_condD.2 ⟨fun _ => ?_, fun _ => ?_⟩
    | refine wq_condN.2 ⟨fun _ => ?_, fun _ => ?_⟩
    | refine wq_condE.2 ⟨fun _ => ?_, fun _ => ?_⟩
    | refine wq_condM.2 ⟨fun _ => ?_, fun _ => ?_⟩
    | refine wq_cond.2 ⟨fun _ => ?_, fun _ => ?_⟩
    | refine wq_iteN'.2 ⟨by omega, ?_⟩
    | refine wq_iteN.2 ⟨by omega, ?_⟩
    | refine wq_bind.2 (wq_tot (tt102 N _) fun _ => ?_)

theorem tt116 (x) : Wp (sp116 N x) fun _ => True := by
  unfold sp116 F116
  try dsimp only
  repeat' first
    | exact wq_some.2 trivial
    | refine wq_condD.2 ⟨fun _ => ?_, fun _ => ?_⟩
    | refine wq_condN.2 ⟨fun _ => ?_, fun _ => ?_⟩
    | refine wq_condE.2 ⟨fun _ => ?_, fun _ => ?_⟩
    | refine wq_condM.2 ⟨fun _ => ?_, fun _ => ?_⟩
    | refine wq_cond.2 ⟨fun _ => ?_, fun _ => ?_⟩
    | refine wq_iteN'.2 ⟨by omega, ?_⟩
    | refine wq_iteN.2 ⟨by omega, ?_⟩
    | refine wq_bind.2 (wq_tot (tt85 N _) fun _ => ?_)
    | refine wq_bind.2 (wq_tot (tt111 N _) fun _ => ?_)

theorem tl109 (k : Nat) : ∀ (i : Nat) (u1 u2 u3 u4 : Unit) (a b c d) (xs : List Int) (Kx : (Unit × (D142 × (Unit × (D142 × (Unit × (D142 × (Unit × (D142 × Unit)))))))) → Option (D142 × Unit)) (Q), xs.length < i + k → i ≤ xs.length → xs.length ≤ 1000 → (∀ y, Wp (Kx y) Q) →
    Wp (L109_0 N (sp86 N) (sp101 N) (sp102 N) k (u1, a, u2, b, u3, c, u4, d, xs, (xs.length : Int), (i : Int), ()) Kx) Q := by
  induction k with
  | zero => intro i u1 u2 u3 u4 a b c d xs Kx Q h1 h2; omega
  | succ k ih =>
    intro i u1 u2 u3 u4 a b c d xs Kx Q h1 h2 h3 hK
    rw [L109_0]
    dsimp only
    refine wq_condD.2 ⟨fun h => ?_, fun h => hK _⟩
    have hi : i < xs.length := by omega
    refine wq_iteN.2 ⟨by omega, wq_iteN.2 ⟨by omega, wq_iteN'.2 ⟨by decide, wq_iteN'.2 ⟨by decide, wq_bind.2 (wq_tot (tt101 N _) fun r => ?_)⟩⟩⟩⟩
    rw [wrap_succ hi (by omega)]
    exact ih (i + 1) _ _ _ _ _ _ _ _ xs Kx Q (by omega) (by omega) h3 hK

theorem tt109 (hN : 5000 ≤ N) (x) : Wp (sp109 N x) fun _ => True := by
  unfold sp109 F109
  refine wq_bind.2 (wq_tot (tt86 N _) fun r1 => wq_bind.2 (wq_tot (tt86 N _) fun r2 => ?_))
  dsimp only
  refine wq_iteN'.2 ⟨by decide, wq_iteN'.2 ⟨by decide, wq_iteN'.2 ⟨by decide, wq_iteN'.2 ⟨by decide, ?_⟩⟩⟩⟩
  refine tl109 N N 0 _ _ _ _ _ _ _ _ [_, _] _ _ (by simp; omega) (by simp) (by simp) fun y => ?_
  repeat' first
    | exact wq_some.2 trivial
    | refine wq_condD.2 ⟨fun _ => ?_, fun _ => ?_⟩
    | refine wq_condN.2 ⟨fun _ => ?_, fun _ => ?_⟩
    | refine wq_condE.2 ⟨fun _ => ?_, fun _ => ?_⟩
    | refine wq_condM.2 ⟨fun _ => ?_, fun _ => ?_⟩
    | refine wq_cond.2 ⟨fun _ => ?_, fun _ => ?_⟩
    | refine wq_iteN'.2 ⟨by omega, ?_⟩
    | refine wq_iteN.2 ⟨by omega, ?_⟩
    | refine wq_bind.2 (wq_tot (tt102 N _) fun _ => ?_)

theorem tt114 (hN : 5000 ≤ N) (x) : Wp (sp114 N x) fun _ => True := by
  unfold sp114 F114
  repeat' first
    | exact wq_some.2 trivial
    | refine wq_condD.2 ⟨fun _ => ?_, fun _ => ?_⟩
    | refine wq_condN.2 ⟨fun _ => ?_, fun _ => ?_⟩
    | refine wq_condE.2 ⟨fun _ => ?_, fun _ => ?_⟩
    | refine wq_condM.2 ⟨fun _ => ?_, fun _ => ?_⟩
    | refine wq_cond.2 ⟨fun _ => ?_, fun _ => ?_⟩
    | refine wq_iteN'.2 ⟨by omega, ?_⟩
    | refine wq_iteN.2 ⟨by omega, ?_⟩
    | refine wq_bind.2 (wq_tot (tt109 N hN _) fun _ => ?_)
    | refine wq_bind.2 (wq_tot (tt116 N _) fun _ => ?_)

theorem tl110 (hN : 5000 ≤ N) (k : Nat) : ∀ (c : Int) (u : Unit) (p) (low i : Int) (Kx : (Int × Unit) → Option (Int × D159)) (Q), i + 2 ≤ (k : Int) → -1 ≤ i → i ≤ 63 → (∀ y, Wp (Kx y) Q) →
    Wp (L110_0 N (sp114 N) k (c, u, p, low, i, ()) Kx) Q := by
  induction k with
  | zero => intro c u p low i Kx Q h1 h2; omega
  | succ k ih =>
    intro c u p low i Kx Q h1 h2 h3 hK
    rw [L110_0]
    dsimp only
    refine wq_condD.2 ⟨fun h => ?_, fun h => hK _⟩
    have hw : IntKind.i64.wrap (i - 1) = i - 1 := wrap_id (by omega) (by omega)
    refine wq_iteN'.2 ⟨by rw [wrap_u64]; omega, ?_⟩
    rw [hw]
    refine wq_condD.2 ⟨fun h => ?_, fun h => ih _ _ _ _ _ Kx Q (by omega) (by omega) (by omega) hK⟩
    refine wq_bind.2 (wq_tot (tt114 N hN _) fun r => wq_cond.2 ⟨fun _ => ?_, fun _ => ?_⟩)
    · exact ih _ _ _ _ _ Kx Q (by omega) (by omega) (by omega) hK
    · exact ih _ _ _ _ _ Kx Q (by omega) (by omega) (by omega) hK

theorem tt110 (hN : 5000 ≤ N) (x) : Wp (sp110 N x) fun _ => True := by
  unfold sp110 F110
  refine wq_bind.2 (wq_tot (tt114 N hN _) fun r => wq_condV.2 ⟨fun _ => wq_some.2 trivial, fun _ => ?_⟩)
  exact tl110 N hN N _ _ _ _ _ _ _ (by omega) (by omega) (by omega) fun y => wq_some.2 trivial

theorem tt112 (hN : 5000 ≤ N) (x) : Wp (sp112 N x) fun _ => True := by
  unfold sp112 F112
  try dsimp only
  repeat' first
    | exact wq_some.2 trivial
    | refine wq_condD.2 ⟨fun _ => ?_, fun _ => ?_⟩
    | refine wq_condN.2 ⟨fun _ => ?_, fun _ => ?_⟩
    | refine wq_condE.2 ⟨fun _ => ?_, fun _ => ?_⟩
    | refine wq_condM.2 ⟨fun _ => ?_, fun _ => ?_⟩
    | refine wq_cond.2 ⟨fun _ => ?_, fun _ => ?_⟩
    | refine wq_iteN'.2 ⟨by omega, ?_⟩
    | refine wq_iteN.2 ⟨by omega, ?_⟩
    | refine wq_bind.2 (wq_tot (tt109 N hN _) fun _ => ?_)
    | refine wq_bind.2 (wq_tot (tt111 N _) fun _ => ?_)
    | refine wq_bind.2 (wq_tot (tt85 N _) fun _ => ?_)

theorem tt99 (hN : 5000 ≤ N) (x) : Wp (sp99 N x) fun _ => True := by
  unfold sp99 F99
  try dsimp only
  repeat' first
    | exact wq_some.2 trivial
    | refine wq_condD.2 ⟨fun _ => ?_, fun _ => ?_⟩
    | refine wq_condN.2 ⟨fun _ => ?_, fun _ => ?_⟩
    | refine wq_condE.2 ⟨fun _ => ?_, fun _ => ?_⟩
    | refine wq_condM.2 ⟨fun _ => ?_, fun _ => ?_⟩
    | refine wq_cond.2 ⟨fun _ => ?_, fun _ => ?_⟩
    | refine wq_iteN'.2 ⟨by omega, ?_⟩
    | refine wq_iteN.2 ⟨by omega, ?_⟩
    | refine wq_iteN'.2 ⟨by decide, ?_⟩
    | refine wq_bind.2 (wq_tot (tt109 N hN _) fun _ => ?_)
    | refine wq_bind.2 (wq_tot (tt110 N hN _) fun _ => ?_)
    | refine wq_bind.2 (wq_tot (tt111 N _) fun _ => ?_)
    | refine wq_bind.2 (wq_tot (tt112 N hN _) fun _ => ?_)
    | refine wq_bind.2 (wq_tot (tt85 N _) fun _ => ?_)

end Go.Proofs.Ytkifmnocomadfaa
end

/- The reference functions of tiers and adjustments always answer. -/
section
set_option linter.unusedVariables false
namespace Go.Proofs.Ytkifmnocomadfaa
open Go.V
variable (N : Nat)

theorem tt107 (hN : 5000 ≤ N) (x) : Wp (sp107 N x) fun _ => True := by
  unfold sp107 F107
  try dsimp only
  repeat' first
    | exact wq_some.2 trivial
    | refine wq_condD.2 ⟨fun _ => ?_, fun _ => ?_⟩
    | refine wq_condN.2 ⟨fun _ => ?_, fun _ => ?_⟩
    | refine wq_condE.2 ⟨fun _ => ?_, fun _ => ?_⟩
    | refine wq_condM.2 ⟨fun _ => ?_, fun _ => ?_⟩
    | refine wq_cond.2 ⟨fun _ => ?_, fun _ => ?_⟩
    | refine wq_iteN'.2 ⟨by omega, ?_⟩
    | refine wq_iteN.2 ⟨by omega, ?_⟩
    | refine wq_iteN'.2 ⟨by decide, ?_⟩
    | refine wq_bind.2 (wq_tot (tt99 N hN _) fun _ => ?_)
    | refine wq_bind.2 (wq_tot (tt109 N hN _) fun _ => ?_)
    | refine wq_bind.2 (wq_tot (tt84 N _) fun _ => ?_)

theorem tt100 (hN : 5000 ≤ N) (x) : Wp (sp100 N x) fun _ => True := by
  unfold sp100 F100
  try dsimp only
  repeat' first
    | exact wq_some.2 trivial
    | refine wq_condD.2 ⟨fun _ => ?_, fun _ => ?_⟩
    | refine wq_condN.2 ⟨fun _ => ?_, fun _ => ?_⟩
    | refine wq_condE.2 ⟨fun _ => ?_, fun _ => ?_⟩
    | refine wq_condM.2 ⟨fun _ => ?_, fun _ => ?_⟩
    | refine wq_cond.2 ⟨fun _ => ?_, fun _ => ?_⟩
    | refine wq_iteN'.2 ⟨by omega, ?_⟩
    | refine wq_iteN.2 ⟨by omega, ?_⟩
    | refine wq_iteN'.2 ⟨by decide, ?_⟩
    | refine wq_bind.2 (wq_tot (tt99 N hN _) fun _ => ?_)
    | refine wq_bind.2 (wq_tot (tt86 N _) fun _ => ?_)
    | refine wq_bind.2 (wq_tot (tt85 N _) fun _ => ?_)
    | refine wq_bind.2 (wq_tot (tt84 N _) fun _ => ?_)

theorem tl83 (hN : 5000 ≤ N) (k : Nat) : ∀ (i : Nat) (n : Int) (xs : List D87) (Kx : (Int × Unit) → Option (Int × D159)) (Q), xs.length < i + k → i ≤ xs.length → xs.length ≤ 2000 → (∀ r, Q r) → (∀ y, Wp (Kx y) Q) →
    Wp (L83_0 N (sp100 N) k (n, xs, (xs.length : Int), (i : Int), ()) Kx) Q := by
  induction k with
  | zero => intro i n xs Kx Q h1 h2; omega
  | succ k ih =>
    intro i n xs Kx Q h1 h2 h3 hQ hK
    rw [L83_0]
    dsimp only
    refine wq_condD.2 ⟨fun h => ?_, fun h => hK _⟩
    rw [wrap_succ (show i < xs.length by omega) (by omega)]
    repeat' first
    | exact ih (i + 1) _ xs Kx Q (by omega) (by omega) h3 hQ hK
    | exact wq_some.2 (hQ _)
    | exact wq_some.2 trivial
    | refine wq_condD.2 ⟨fun _ => ?_, fun _ => ?_⟩
    | refine wq_condN.2 ⟨fun _ => ?_, fun _ => ?_⟩
    | refine wq_condE.2 ⟨fun _ => ?_, fun _ => ?_⟩
    | refine wq_condM.2 ⟨fun _ => ?_, fun _ => ?_⟩
    | refine wq_cond.2 ⟨fun _ => ?_, fun _ => ?_⟩
    | refine wq_iteN'.2 ⟨by omega, ?_⟩
    | refine wq_iteN.2 ⟨by omega, ?_⟩
    | refine wq_iteN'.2 ⟨by decide, ?_⟩
    | refine wq_bind.2 (wq_tot (tt100 N hN _) fun _ => ?_)

theorem tt83 (hN : 5000 ≤ N) (x) (hx : x.2.1.length ≤ 2000) : Wp (sp83 N x) fun _ => True := by
  unfold sp83 F83
  exact tl83 N hN N 0 _ x.2.1 _ _ (by omega) (by omega) hx (fun _ => trivial) fun y => wq_some.2 trivial

theorem tl108_0 (k : Nat) : ∀ (i : Nat) (q last : Int) (xs : List D146) (out : List D87) (Kx : ((List D87) × Unit) → Option ((List D87) × Unit)), xs.length < i + k → i ≤ xs.length → xs.length ≤ 1000 → out.length ≤ i → (∀ y, y.1.length ≤ 1001 → Wp (Kx y) fun r => r.1.length ≤ 1001) →
    Wp (L108_0 N k (q, last, xs, (xs.length : Int), (i : Int), out, ()) Kx) fun r => r.1.length ≤ 1001 := by
  induction k with
  | zero => intro i q last xs out Kx h1 h2; omega
  | succ k ih =>
    intro i q last xs out Kx h1 h2 h3 h4 hK
    rw [L108_0]
    dsimp only
    refine wq_condD.2 ⟨fun h => ?_, fun h => hK _ (by dsimp only; omega)⟩
    rw [wrap_succ (show i < xs.length by omega) (by omega)]
    repeat' first
    | exact ih (i + 1) _ _ xs _ Kx (by omega) (by omega) h3 (by first | (dsimp only; omega) | omega | (simp; omega)) hK
    | exact wq_some.2 (by first | (dsimp only; omega) | omega | (simp; omega))
    | exact wq_some.2 trivial
    | refine wq_condD.2 ⟨fun _ => ?_, fun _ => ?_⟩
    | refine wq_condN.2 ⟨fun _ => ?_, fun _ => ?_⟩
    | refine wq_condE.2 ⟨fun _ => ?_, fun _ => ?_⟩
    | refine wq_condM.2 ⟨fun _ => ?_, fun _ => ?_⟩
    | refine wq_cond.2 ⟨fun _ => ?_, fun _ => ?_⟩
    | refine wq_iteN'.2 ⟨by omega, ?_⟩
    | refine wq_iteN.2 ⟨by omega, ?_⟩
    | refine wq_iteN'.2 ⟨by decide, ?_⟩

theorem tl108_1 (k : Nat) : ∀ (i : Nat) (q last : Int) (u : Unit) (p : D113) (xs : List D146) (out : List D87) (Kx : ((List D87) × Unit) → Option ((List D87) × Unit)), xs.length < i + k → i ≤ xs.length → xs.length ≤ 1000 → p.2.2.2.2.2.2.1 = xs → out.length ≤ i → (∀ y, y.1.length ≤ 1001 → Wp (Kx y) fun r => r.1.length ≤ 1001) →
    Wp (L108_1 N k (q, u, p, last, xs, (xs.length : Int), (i : Int), out, ()) Kx) fun r => r.1.length ≤ 1001 := by
  induction k with
  | zero => intro i q last u p xs out Kx h1 h2; omega
  | succ k ih =>
    intro i q last u p xs out Kx h1 h2 h3 hp h4 hK
    rw [L108_1]
    dsimp only
    refine wq_condD.2 ⟨fun h => ?_, fun h => hK _ (by dsimp only; omega)⟩
    rw [wrap_succ (show i < xs.length by omega) (by omega)]
    rw [hp]
    have hw : 0 < i → IntKind.i64.wrap ((i : Int) - 1) = (i : Int) - 1 := fun _ => wrap_id (by omega) (by omega)
    repeat' first
    | exact ih (i + 1) _ _ _ _ xs _ Kx (by omega) (by omega) h3 hp (by first | (dsimp only; omega) | omega | (simp; omega)) hK
    | refine wq_iteN.2 ⟨by rw [hw (by omega)]; omega, ?_⟩
    | exact wq_some.2 trivial
    | refine wq_condD.2 ⟨fun _ => ?_, fun _ => ?_⟩
    | refine wq_condN.2 ⟨fun _ => ?_, fun _ => ?_⟩
    | refine wq_condE.2 ⟨fun _ => ?_, fun _ => ?_⟩
    | refine wq_condM.2 ⟨fun _ => ?_, fun _ => ?_⟩
    | refine wq_cond.2 ⟨fun _ => ?_, fun _ => ?_⟩
    | refine wq_iteN'.2 ⟨by omega, ?_⟩
    | refine wq_iteN.2 ⟨by omega, ?_⟩
    | refine wq_iteN'.2 ⟨by decide, ?_⟩

theorem tt108 (hN : 5000 ≤ N) (x) (hx : x.1.2.2.2.2.2.2.1.length ≤ 1000) : Wp (sp108 N x) fun r => r.1.length ≤ 1001 := by
  unfold sp108 F108
  dsimp only
  refine wq_condE.2 ⟨fun _ => ?_, fun _ => ?_⟩
  · exact tl108_0 N N 0 _ _ _ [] _ (by omega) (by omega) hx (by simp) fun y hy => wq_some.2 hy
  · exact tl108_1 N N 0 _ _ _ _ _ [] _ (by omega) (by omega) hx rfl (by simp) fun y hy => wq_some.2 hy

theorem tl98 (hN : 5000 ≤ N) (k : Nat) : ∀ (i : Nat) (n : Int) (xs : List D87) (Kx : (Int × Unit) → Option (Int × D159)) (Q), xs.length < i + k → i ≤ xs.length → xs.length ≤ 2000 → (∀ r, Q r) → (∀ y, Wp (Kx y) Q) →
    Wp (L98_0 N (sp84 N) (sp85 N) (sp86 N) (sp107 N) (sp108 N) (sp109 N) k (n, xs, (xs.length : Int), (i : Int), ()) Kx) Q := by
  induction k with
  | zero => intro i n xs Kx Q h1 h2; omega
  | succ k ih =>
    intro i n xs Kx Q h1 h2 h3 hQ hK
    rw [L98_0]
    dsimp only
    refine wq_condD.2 ⟨fun h => ?_, fun h => hK _⟩
    rw [wrap_succ (show i < xs.length by omega) (by omega)]
    repeat' first
    | exact ih (i + 1) _ xs Kx Q (by omega) (by omega) h3 hQ hK
    | exact wq_some.2 (hQ _)
    | exact wq_some.2 trivial
    | refine wq_condD.2 ⟨fun _ => ?_, fun _ => ?_⟩
    | refine wq_condN.2 ⟨fun _ => ?_, fun _ => ?_⟩
    | refine wq_condE.2 ⟨fun _ => ?_, fun _ => ?_⟩
    | refine wq_condM.2 ⟨fun _ => ?_, fun _ => ?_⟩
    | refine wq_cond.2 ⟨fun _ => ?_, fun _ => ?_⟩
    | refine wq_iteN'.2 ⟨by omega, ?_⟩
    | refine wq_iteN.2 ⟨by omega, ?_⟩
    | refine wq_iteN'.2 ⟨by decide, ?_⟩
    | refine wq_bind.2 (wq_tot (tt109 N hN _) fun _ => ?_)
    | refine wq_bind.2 (wq_tot (tt84 N _) fun _ => ?_)
    | refine wq_bind.2 (wq_tot (tt85 N _) fun _ => ?_)
    | refine wq_bind.2 (wq_tot (tt86 N _) fun _ => ?_)

theorem tt98 (hN : 5000 ≤ N) (x) (hx : x.1.2.2.2.2.2.2.1.length ≤ 1000) : Wp (sp98 N x) fun _ => True := by
  unfold sp98 F98
  refine wq_bind.2 (wq_tot (tt107 N hN _) fun r1 => wq_condV.2 ⟨fun _ => wq_some.2 trivial, fun _ => ?_⟩)
  refine wq_bind.2 ((tt108 N hN (x.1, r1.1, ()) hx).mono fun r2 h2 => ?_)
  exact tl98 N hN N 0 _ r2.1 _ _ (by omega) (by omega) (by omega) (fun _ => trivial) fun y => wq_some.2 trivial

theorem tt82 (hN : 5000 ≤ N) (x) (hx : x.1.2.2.2.2.2.2.1.length ≤ 1000) : Wp (sp82 N x) fun _ => True := by
  unfold sp82 F82
  refine wq_bind.2 (wq_tot (tt98 N hN _ hx) fun r1 => wq_condV.2 ⟨fun _ => wq_some.2 trivial, fun _ => ?_⟩)
  exact wq_bind.2 (wq_tot (tt99 N hN _) fun r2 => wq_some.2 trivial)

theorem tt57 (hN : 5000 ≤ N) (x) (hx : x.1.2.2.2.2.2.2.1.length ≤ 1000) (ha : x.1.2.2.2.2.2.2.2.2.1.length ≤ 1000) : Wp (sp57 N x) fun _ => True := by
  unfold sp57 F57
  refine wq_bind.2 (wq_tot (tt82 N hN _ hx) fun r1 => wq_condV.2 ⟨fun _ => wq_some.2 trivial, fun _ => ?_⟩)
  exact wq_bind.2 (wq_tot (tt83 N hN _ (by dsimp only; omega)) fun r2 => wq_some.2 trivial)

end Go.Proofs.Ytkifmnocomadfaa
end

/- Which cores can be; they are told whether they can. -/
section
set_option linter.unusedVariables false
namespace Go.Proofs.Ytkifmnocomadfaa
open Go.V
variable (N : Nat)

theorem tp59 (x) : Wp (sp59 N x) fun r => r.1 = true → x.2.1 ≤ x.1 ∧ x.1 ≤ x.2.2.1 := by
  unfold sp59 F59
  refine wq_condD.2 ⟨fun h => wq_some.2 fun h' => ⟨h, by simpa using h'⟩, fun h => wq_some.2 fun h' => by cases h'⟩

theorem tl61_0 (k : Nat) : ∀ (i : Nat) (u : Unit) (p : D113) (xs : List D146) (Kx : (Unit × (D113 × Unit)) → Option D159) (Q), xs.length < i + k → i ≤ xs.length → xs.length ≤ 1000 → p.2.2.2.2.2.2.1 = xs → Q (false, ()) → (∀ y, y.2.1 = p → Wp (Kx y) Q) →
    Wp (L61_0 N (sp59 N) (sp60 N) k (u, p, xs, (xs.length : Int), (i : Int), ()) Kx) Q := by
  induction k with
  | zero => intro i u p xs Kx Q h1 h2; omega
  | succ k ih =>
    intro i u p xs Kx Q h1 h2 h3 hp hQ hK
    rw [L61_0]
    dsimp only
    refine wq_condD.2 ⟨fun h => ?_, fun h => hK _ rfl⟩
    rw [wrap_succ (show i < xs.length by omega) (by omega)]
    rw [hp]
    have hw : 0 < i → IntKind.i64.wrap ((i : Int) - 1) = (i : Int) - 1 := fun _ => wrap_id (by omega) (by omega)
    repeat' first
    | exact ih (i + 1) _ _ xs Kx Q (by omega) (by omega) h3 hp hQ hK
    | exact wq_some.2 hQ
    | refine wq_condV.2 ⟨fun _ => ?_, fun _ => ?_⟩
    | refine wq_iteN.2 ⟨by rw [hw (by omega)]; omega, ?_⟩
    | exact wq_some.2 trivial
    | refine wq_condD.2 ⟨fun _ => ?_, fun _ => ?_⟩
    | refine wq_condN.2 ⟨fun _ => ?_, fun _ => ?_⟩
    | refine wq_condE.2 ⟨fun _ => ?_, fun _ => ?_⟩
    | refine wq_condM.2 ⟨fun _ => ?_, fun _ => ?_⟩
    | refine wq_cond.2 ⟨fun _ => ?_, fun _ => ?_⟩
    | refine wq_iteN'.2 ⟨by omega, ?_⟩
    | refine wq_iteN.2 ⟨by omega, ?_⟩
    | refine wq_iteN'.2 ⟨by decide, ?_⟩
    | refine wq_bind.2 (wq_tot (tt59 N _) fun _ => ?_)

theorem tl61_1 (k : Nat) : ∀ (i : Nat) (xs : List D87) (Kx : Unit → Option D159) (Q), xs.length < i + k → i ≤ xs.length → xs.length ≤ 1000 → Q (false, ()) → (∀ y, Wp (Kx y) Q) →
    Wp (L61_1 N (sp59 N) (sp60 N) k (xs, (xs.length : Int), (i : Int), ()) Kx) Q := by
  induction k with
  | zero => intro i xs Kx Q h1 h2; omega
  | succ k ih =>
    intro i xs Kx Q h1 h2 h3 hQ hK
    rw [L61_1]
    dsimp only
    refine wq_condD.2 ⟨fun h => ?_, fun h => hK _⟩
    rw [wrap_succ (show i < xs.length by omega) (by omega)]
    repeat' first
    | exact ih (i + 1) xs Kx Q (by omega) (by omega) h3 hQ hK
    | exact wq_some.2 hQ
    | refine wq_condV.2 ⟨fun _ => ?_, fun _ => ?_⟩
    | exact wq_some.2 trivial
    | refine wq_condD.2 ⟨fun _ => ?_, fun _ => ?_⟩
    | refine wq_condN.2 ⟨fun _ => ?_, fun _ => ?_⟩
    | refine wq_condE.2 ⟨fun _ => ?_, fun _ => ?_⟩
    | refine wq_condM.2 ⟨fun _ => ?_, fun _ => ?_⟩
    | refine wq_cond.2 ⟨fun _ => ?_, fun _ => ?_⟩
    | refine wq_iteN'.2 ⟨by omega, ?_⟩
    | refine wq_iteN.2 ⟨by omega, ?_⟩
    | refine wq_iteN'.2 ⟨by decide, ?_⟩
    | refine wq_bind.2 (wq_tot (tt59 N _) fun _ => ?_)

theorem tt61 (hN : 5000 ≤ N) (x) : Wp (sp61 N x) fun r => r.1 = true → 0 ≤ x.2.1.1 ∧ x.2.1.1 < (x.1.2.2.2.1.length : Int) ∧ x.2.1.2.2.2.2.2.2.1.length ≤ 8 ∧ x.2.1.2.2.2.2.2.2.2.2.1.length ≤ 6 := by
  unfold sp61 F61
  have fin : ∀ r : D159, (x.2.1.2.2.2.2.2.2.1.length : Int) ≤ 8 → (x.2.1.2.2.2.2.2.2.2.2.1.length : Int) ≤ 6 → 0 ≤ x.2.1.1 → x.2.1.1 < (x.1.2.2.2.1.length : Int) →
      r.1 = true → 0 ≤ x.2.1.1 ∧ x.2.1.1 < (x.1.2.2.2.1.length : Int) ∧ x.2.1.2.2.2.2.2.2.1.length ≤ 8 ∧ x.2.1.2.2.2.2.2.2.2.2.1.length ≤ 6 := fun r h1 h2 h3 h4 _ => ⟨h3, h4, by omega, by omega⟩
  have no : ∀ Q : Prop, ((false, ()) : D159).1 = true → Q := fun Q h => by cases h
  repeat' first
  | exact wq_some.2 (no _)
  | exact wq_some.2 (fin _ (by omega) (by omega) (by omega) (by omega))
  | refine tl61_0 N N 0 _ _ _ _ _ (by omega) (by omega) (by omega) rfl (no _) fun y hy => ?_
  | refine tl61_1 N N 0 _ _ _ (by rw [hy]; omega) (by omega) (by rw [hy]; omega) (no _) fun y => ?_
  | refine wq_condV.2 ⟨fun _ => ?_, fun _ => ?_⟩
    | exact wq_some.2 trivial
    | refine wq_condD.2 ⟨fun _ => ?_, fun _ => ?_⟩
    | refine wq_condN.2 ⟨fun _ => ?_, fun _ => ?_⟩
    | refine wq_condE.2 ⟨fun _ => ?_, fun _ => ?_⟩
    | refine wq_condM.2 ⟨fun _ => ?_, fun _ => ?_⟩
    | refine wq_cond.2 ⟨fun _ => ?_, fun _ => ?_⟩
    | refine wq_iteN'.2 ⟨by omega, ?_⟩
    | refine wq_iteN.2 ⟨by omega, ?_⟩
    | refine wq_iteN'.2 ⟨by decide, ?_⟩
    | refine wq_bind.2 (wq_tot (tt59 N _) fun _ => ?_)
    | refine wq_bind.2 (wq_tot (tt60 N _) fun _ => ?_)

abbrev meterOk (m : D67) : Prop := 0 ≤ m.2.2.1 ∧ m.2.2.1 ≤ 2000
abbrev partOk (n : Nat) (x : D113) : Prop := 0 ≤ x.1 ∧ x.1 < (n : Int) ∧ x.2.2.2.2.2.2.1.length ≤ 8 ∧ x.2.2.2.2.2.2.2.2.1.length ≤ 6

structure CoreOk (c : D25) : Prop where
  fr : 0 ≤ c.2.1
  to : c.2.1 ≤ c.2.2.1 ∧ c.2.2.1 ≤ 3652058 ∧ c.2.2.1 - c.2.1 ≤ 3999
  nm : c.2.2.2.1.length ≤ 4
  ns : c.2.2.2.2.1.length ≤ 8
  np : c.2.2.2.2.2.1.length ≤ 8
  meters : ∀ m ∈ c.2.2.2.1, meterOk m
  parts : ∀ x ∈ c.2.2.2.2.2.1, partOk c.2.2.2.1.length x

theorem all_of_lt {α : Type} {R : α → Prop} {xs : List α} {i : Nat} (h : ∀ j, j < i → ∀ m, xs[j]? = some m → R m) (hi : xs.length ≤ i) : ∀ m ∈ xs, R m := fun m hm => by
  obtain ⟨j, hj, e⟩ := List.getElem_of_mem hm
  exact h j (by omega) m (by rw [List.getElem?_eq_getElem hj, e])

theorem lt_succ_all {α : Type} {R : α → Prop} {xs : List α} {i : Nat} {a : α} (ha : xs[i]? = some a) (h : ∀ j, j < i → ∀ m, xs[j]? = some m → R m) (hr : R a) : ∀ j, j < i + 1 → ∀ m, xs[j]? = some m → R m := fun j hj m hm => by
  by_cases e : j = i
  · subst e; rw [ha] at hm; cases hm; exact hr
  · exact h j (by omega) m hm

theorem rdAt_some {t : Ty} (xs : List t.den) (i : Nat) (h : i < xs.length) : xs[i]? = some (rdAt xs (i : Int)) := by rw [rdAt_at xs i h, List.getElem?_eq_getElem h]

theorem tl30_0 (k : Nat) : ∀ (i : Nat) (u : Unit) (c : D25) (xs : List D67) (Kx : (Unit × (D25 × Unit)) → Option D159) (Q), xs.length < i + k → i ≤ xs.length → xs.length ≤ 1000 → c.2.2.2.1 = xs → Q (false, ()) → (∀ j, j < i → ∀ m, xs[j]? = some m → meterOk m) → ((∀ m ∈ xs, meterOk m) → Wp (Kx ((), c, ())) Q) →
    Wp (L30_0 N (sp59 N) (sp60 N) (sp61 N) k (u, c, xs, (xs.length : Int), (i : Int), ()) Kx) Q := by
  induction k with
  | zero => intro i u c xs Kx Q h1 h2; omega
  | succ k ih =>
    intro i u c xs Kx Q h1 h2 h3 hp hQ hI hK
    rw [L30_0]
    dsimp only
    refine wq_condD.2 ⟨fun h => ?_, fun h => hK (all_of_lt hI (by omega))⟩
    rw [wrap_succ (show i < xs.length by omega) (by omega)]
    rw [hp]
    have hw : 0 < i → IntKind.i64.wrap ((i : Int) - 1) = (i : Int) - 1 := fun _ => wrap_id (by omega) (by omega)
    refine wq_iteN.2 ⟨by omega, wq_iteN.2 ⟨by omega, wq_bind.2 ((tp59 N _).mono fun r hr => wq_condV.2 ⟨fun _ => wq_some.2 hQ, fun hr' => ?_⟩)⟩⟩
    have hI' := lt_succ_all (rdAt_some (t := t67) xs i (by omega)) hI (hr hr')
    repeat' first
    | exact ih (i + 1) _ _ xs Kx Q (by omega) (by omega) h3 hp hQ hI' hK
    | exact wq_some.2 hQ
    | refine wq_condV.2 ⟨fun _ => ?_, fun _ => ?_⟩
    | refine wq_iteN.2 ⟨by rw [hw (by omega)]; omega, ?_⟩
    | exact wq_some.2 trivial
    | refine wq_condD.2 ⟨fun _ => ?_, fun _ => ?_⟩
    | refine wq_condN.2 ⟨fun _ => ?_, fun _ => ?_⟩
    | refine wq_condE.2 ⟨fun _ => ?_, fun _ => ?_⟩
    | refine wq_condM.2 ⟨fun _ => ?_, fun _ => ?_⟩
    | refine wq_cond.2 ⟨fun _ => ?_, fun _ => ?_⟩
    | refine wq_iteN'.2 ⟨by omega, ?_⟩
    | refine wq_iteN.2 ⟨by omega, ?_⟩
    | refine wq_iteN'.2 ⟨by decide, ?_⟩

theorem tl30_2 (hN : 5000 ≤ N) (k : Nat) : ∀ (i : Nat) (u : Unit) (c : D25) (xs : List D113) (Kx : Unit → Option D159) (Q), xs.length < i + k → i ≤ xs.length → xs.length ≤ 1000 → Q (false, ()) → (∀ j, j < i → ∀ m, xs[j]? = some m → partOk c.2.2.2.1.length m) → ((∀ m ∈ xs, partOk c.2.2.2.1.length m) → Wp (Kx ()) Q) →
    Wp (L30_2 N (sp59 N) (sp60 N) (sp61 N) k (u, c, xs, (xs.length : Int), (i : Int), ()) Kx) Q := by
  induction k with
  | zero => intro i u c xs Kx Q h1 h2; omega
  | succ k ih =>
    intro i u c xs Kx Q h1 h2 h3 hQ hI hK
    rw [L30_2]
    dsimp only
    refine wq_condD.2 ⟨fun h => ?_, fun h => hK (all_of_lt hI (by omega))⟩
    rw [wrap_succ (show i < xs.length by omega) (by omega)]
    refine wq_iteN.2 ⟨by omega, wq_iteN.2 ⟨by omega, wq_bind.2 ((tt61 N hN _).mono fun r hr => wq_condV.2 ⟨fun _ => wq_some.2 hQ, fun hr' => ?_⟩)⟩⟩
    have hI' := lt_succ_all (R := partOk c.2.2.2.1.length) (rdAt_some (t := t113) xs i (by omega)) hI (hr hr')
    exact ih (i + 1) _ _ xs Kx Q (by omega) (by omega) h3 hQ hI' hK

theorem tl29_0 (k : Nat) : ∀ (i : Nat) (u : Unit) (c : D25) (xs : List D67) (Kx : (Unit × (D25 × Unit)) → Option D159) (Q), xs.length < i + k → i ≤ xs.length → xs.length ≤ 1000 → Q (true, ()) → (Wp (Kx ((), c, ())) Q) →
    Wp (L29_0 N k (u, c, xs, (xs.length : Int), (i : Int), ()) Kx) Q := by
  induction k with
  | zero => intro i u c xs Kx Q h1 h2; omega
  | succ k ih =>
    intro i u c xs Kx Q h1 h2 h3 hQ hK
    rw [L29_0]
    dsimp only
    refine wq_condD.2 ⟨fun h => ?_, fun h => hK⟩
    rw [wrap_succ (show i < xs.length by omega) (by omega)]
    repeat' first
    | exact ih (i + 1) _ _ xs Kx Q (by omega) (by omega) h3 hQ hK
    | exact wq_some.2 hQ
    | exact wq_some.2 trivial
    | refine wq_condD.2 ⟨fun _ => ?_, fun _ => ?_⟩
    | refine wq_condN.2 ⟨fun _ => ?_, fun _ => ?_⟩
    | refine wq_condE.2 ⟨fun _ => ?_, fun _ => ?_⟩
    | refine wq_condM.2 ⟨fun _ => ?_, fun _ => ?_⟩
    | refine wq_cond.2 ⟨fun _ => ?_, fun _ => ?_⟩
    | refine wq_iteN'.2 ⟨by omega, ?_⟩
    | refine wq_iteN.2 ⟨by omega, ?_⟩
    | refine wq_iteN'.2 ⟨by decide, ?_⟩

theorem tl29_1 (k : Nat) : ∀ (i : Nat) (xs : List D113) (Kx : Unit → Option D159) (Q), xs.length < i + k → i ≤ xs.length → xs.length ≤ 1000 → Q (true, ()) → (Wp (Kx ()) Q) →
    Wp (L29_1 N k (xs, (xs.length : Int), (i : Int), ()) Kx) Q := by
  induction k with
  | zero => intro i xs Kx Q h1 h2; omega
  | succ k ih =>
    intro i xs Kx Q h1 h2 h3 hQ hK
    rw [L29_1]
    dsimp only
    refine wq_condD.2 ⟨fun h => ?_, fun h => hK⟩
    rw [wrap_succ (show i < xs.length by omega) (by omega)]
    repeat' first
    | exact ih (i + 1) xs Kx Q (by omega) (by omega) h3 hQ hK
    | exact wq_some.2 hQ
    | exact wq_some.2 trivial
    | refine wq_condD.2 ⟨fun _ => ?_, fun _ => ?_⟩
    | refine wq_condN.2 ⟨fun _ => ?_, fun _ => ?_⟩
    | refine wq_condE.2 ⟨fun _ => ?_, fun _ => ?_⟩
    | refine wq_condM.2 ⟨fun _ => ?_, fun _ => ?_⟩
    | refine wq_cond.2 ⟨fun _ => ?_, fun _ => ?_⟩
    | refine wq_iteN'.2 ⟨by omega, ?_⟩
    | refine wq_iteN.2 ⟨by omega, ?_⟩
    | refine wq_iteN'.2 ⟨by decide, ?_⟩

theorem tt29 (hN : 5000 ≤ N) (c : D25) : Wp (sp29 N (c, ())) fun _ => True := by
  unfold sp29 F29
  dsimp only
  repeat' first
  | exact wq_some.2 trivial
  | refine tl29_0 N N 0 _ _ _ _ _ (by omega) (by omega) (by omega) trivial ?_
  | refine tl29_1 N N 0 _ _ _ (by dsimp only; omega) (by omega) (by dsimp only; omega) trivial ?_
    | exact wq_some.2 trivial
    | refine wq_condD.2 ⟨fun _ => ?_, fun _ => ?_⟩
    | refine wq_condN.2 ⟨fun _ => ?_, fun _ => ?_⟩
    | refine wq_condE.2 ⟨fun _ => ?_, fun _ => ?_⟩
    | refine wq_condM.2 ⟨fun _ => ?_, fun _ => ?_⟩
    | refine wq_cond.2 ⟨fun _ => ?_, fun _ => ?_⟩
    | refine wq_iteN'.2 ⟨by omega, ?_⟩
    | refine wq_iteN.2 ⟨by omega, ?_⟩
    | refine wq_iteN'.2 ⟨by decide, ?_⟩

end Go.Proofs.Ytkifmnocomadfaa
end

/- The greatest of a core; where something begins. -/
section
set_option linter.unusedVariables false
namespace Go.Proofs.Ytkifmnocomadfaa
open Go.V
variable (N : Nat)

end Go.Proofs.Ytkifmnocomadfaa
end

/- The reference's curve of numbers. -/
section
set_option linter.unusedVariables false
namespace Go.Proofs.Ytkifmnocomadfaa
open Go.V
variable (N : Nat)

abbrev grpOk (g : D77) : Prop := 0 ≤ g.1 ∧ g.1 ≤ 2001 ∧ -2305843009213693952 ≤ g.2.1 ∧ g.2.1 ≤ 2305843009213693952 ∧ 1 ≤ g.2.2.2.2.1 ∧ g.2.2.2.2.1 ≤ 2001
abbrev curveOk (c : D52) : Prop := (∀ g ∈ c.2.1, grpOk g) ∧ c.2.1.length ≤ 2001

abbrev inB (v : Int) : Prop := -2305843009213693952 ≤ v ∧ v ≤ 2305843009213693952

theorem rdAt_i (xs : List Int) (i : Int) (h0 : 0 ≤ i) (h : i < (xs.length : Int)) : rdAt (t := .int .i64) xs i ∈ xs := rdAt_mem (t := .int .i64) xs i h0 h

end Go.Proofs.Ytkifmnocomadfaa
end
