/- Runs that cover numbers one by one: lines, and what comes of two lines. -/
import Derived.Test.YtkifmnocomadfaaGC
section
set_option linter.unusedVariables false
namespace Go.Proofs.Ytkifmnocomadfaa
open Go.V
variable (N : Nat)

abbrev rdI (l : List Int) (q : Int) : Int := rdAt (t := .int .i64) l q

inductive Cov (l : List Int) : Nat → List D87 → Prop
  | nil : Cov l 0 []
  | snoc {n : Nat} {A : List D87} (m : Nat) (v : Int) : Cov l n A → n < m → m ≤ l.length → (∀ q : Nat, n ≤ q → q < m → rdI l q = v) → (∀ r ∈ A.getLast?, r.2.2.1 ≠ v) → Cov l m (A ++ [((n : Int), (m : Int) - 1, v, ())])

variable {l l1 l2 : List Int} {n m : Nat} {A rs rs1 rs2 : List D87}

theorem Cov.inv {r : D87} (h : Cov l n (A ++ [r])) : ∃ (n' : Nat) (v : Int), r = ((n' : Int), (n : Int) - 1, v, ()) ∧ Cov l n' A ∧ n' < n ∧ n ≤ l.length ∧ (∀ q : Nat, n' ≤ q → q < n → rdI l q = v) ∧ ∀ r ∈ A.getLast?, r.2.2.1 ≠ v := by
  generalize hB : A ++ [r] = B at h
  cases h with
  | nil => simp at hB
  | snoc m v h1 h2 h3 h4 h5 =>
    obtain ⟨rfl, he⟩ := List.append_inj' hB rfl
    simp only [List.cons.injEq, and_true] at he
    exact ⟨_, v, he, h1, h2, h3, h4, h5⟩

theorem Cov.nil_of (h : Cov l n []) : n = 0 := by
  generalize hB : ([] : List D87) = B at h
  cases h with
  | nil => rfl
  | snoc m v h1 h2 h3 h4 h5 => simp at hB

theorem Cov.le (h : Cov l n A) : n ≤ l.length := by
  cases h with
  | nil => exact Nat.zero_le _
  | snoc m v h1 h2 h3 h4 h5 => exact h3

theorem Cov.ne_nil (h : Cov l n A) (hn : 0 < n) : ∃ B r, A = B ++ [r] := by
  rcases List.eq_nil_or_concat A with rfl | ⟨B, r, rfl⟩
  · exact absurd h.nil_of (by omega)
  · exact ⟨B, r, by rw [List.concat_eq_append]⟩

theorem Cov.ext {r : D87} (h : Cov l n (A ++ [r])) (hnm : n ≤ m) (hm : m ≤ l.length) (hv : ∀ q : Nat, n ≤ q → q < m → rdI l q = r.2.2.1) : Cov l m (A ++ [(r.1, (m : Int) - 1, r.2.2)]) := by
  obtain ⟨n', v, rfl, h1, h2, h3, h4, h5⟩ := h.inv
  refine .snoc m v h1 (by omega) hm (fun q hq1 hq2 => ?_) h5
  by_cases hq : q < n
  · exact h4 q hq1 hq
  · exact hv q (by omega) hq2

theorem plat_const (l : List Int) {n : Nat} {v : Int} : ∀ (d : Nat), (∀ q : Nat, n ≤ q → q < n + d + 1 → rdI l q = v) → plat l (n + d + 1) = plat l n ++ (if n = 0 ∨ rdI l ((n : Int) - 1) ≠ v then [((n : Int), v)] else [])
  | 0, h => by
    have hn : rdI l (n : Int) = v := h n (Nat.le_refl _) (by omega)
    have hn' : rdAt (t := .int .i64) l (n : Int) = v := hn
    simp only [plat, hn']
  | d + 1, h => by
    have e1 := plat_const l d fun q h1 h2 => h q h1 (by omega)
    have h1 : rdAt (t := .int .i64) l ((n + d + 1 : Nat) : Int) = v := h (n + d + 1) (by omega) (by omega)
    have h2 : rdAt (t := .int .i64) l (((n + d + 1 : Nat) : Int) - 1) = v := by
      have e : (((n + d + 1 : Nat) : Int) - 1) = ((n + d : Nat) : Int) := by omega
      rw [e]
      exact h (n + d) (by omega) (by omega)
    rw [show n + (d + 1) + 1 = (n + d + 1) + 1 by omega, plat, h1, h2, if_neg (by simp), List.append_nil, e1]

theorem Cov.lastV (h : Cov l n A) (hn : 0 < n) : ∃ B r, A = B ++ [r] ∧ r.2.1 = (n : Int) - 1 ∧ r.2.2.1 = rdI l ((n : Int) - 1) := by
  obtain ⟨B, r, rfl⟩ := h.ne_nil hn
  obtain ⟨n', v, rfl, h1, h2, h3, h4, h5⟩ := h.inv
  refine ⟨B, _, rfl, rfl, ?_⟩
  have := h4 (n - 1) (by omega) (by omega)
  rw [show ((n - 1 : Nat) : Int) = (n : Int) - 1 by omega] at this
  exact this.symm

theorem Cov.runs (h : Cov l n rs) : RunsOk l n rs := by
  induction h with
  | nil => exact ⟨rfl, fun r hr => by simp at hr⟩
  | @snoc n A m v h1 h2 h3 h4 h5 ih =>
    refine ⟨?_, fun r hr => ?_⟩
    · rw [List.map_append, ih.map]
      obtain ⟨d, rfl⟩ : ∃ d, m = n + d + 1 := ⟨m - n - 1, by omega⟩
      rw [plat_const l d h4, if_pos]
      · rfl
      · rcases Nat.eq_zero_or_pos n with h0 | h0
        · exact .inl h0
        · right
          obtain ⟨B, r, rfl, e1, e2⟩ := h1.lastV h0
          rw [← e2]
          exact h5 r (by simp)
    · simp at hr
      subst hr
      rfl

theorem Cov.get (h : Cov l n rs) : ∀ i, (hi : i < rs.length) → ∃ (f t : Nat) (v : Int), rs[i] = ((f : Int), (t : Int), v, ()) ∧ f ≤ t ∧ t < n ∧ (∀ q : Nat, f ≤ q → q ≤ t → rdI l q = v) ∧ (i = 0 → f = 0) ∧ (∀ h2 : i + 1 < rs.length, (rs[i + 1]).1 = (t : Int) + 1) ∧ (i + 1 = rs.length → t + 1 = n) := by
  induction h with
  | nil => intro i hi; simp at hi
  | @snoc n A m v h1 h2 h3 h4 h5 ih =>
    intro i hi
    by_cases hA : i < A.length
    · obtain ⟨f, t, u, e1, e2, e3, e4, e5, e6, e7⟩ := ih i hA
      refine ⟨f, t, u, by rw [List.getElem_append_left hA]; exact e1, e2, by omega, e4, e5, fun h => ?_, fun h => ?_⟩
      · by_cases hB : i + 1 < A.length
        · rw [List.getElem_append_left hB]; exact e6 hB
        · have : i + 1 = A.length := by omega
          rw [List.getElem_append_right (by omega)]
          have := e7 this
          simp
          omega
      · simp at h; omega
    · have hi' : i = A.length := by simp at hi; omega
      subst hi'
      refine ⟨n, m - 1, v, by simp; omega, by omega, by omega, fun q q1 q2 => h4 q q1 (by omega), fun h0 => ?_, fun h => ?_, fun h => by omega⟩
      · have : A = [] := List.eq_nil_of_length_eq_zero h0
        subst this
        exact h1.nil_of
      · simp at h

theorem Cov.len (h : Cov l n rs) : rs.length ≤ n := by
  induction h with
  | nil => exact Nat.le_refl _
  | snoc m v h1 h2 h3 h4 h5 ih => simp; omega

theorem rd_get (rs : List D87) (i : Nat) (hi : i < rs.length) : rdAt (t := t87) rs (i : Int) = rs[i] := rdAt_at (t := t87) rs i hi

theorem tl15c (l : List Int) (hl : l.length ≤ 2001) (k : Nat) : ∀ (i : Nat) (u u' : Unit) (o0 rs : List D87) (Kx : (Unit × (Unit × ((List D87) × D48))) → Option (D48 × Unit)) (Q), l.length < i + k → i ≤ l.length → Cov l i rs →
    (∀ rs', Cov l l.length rs' → Wp (Kx ((), (), o0, rs', ())) Q) → Wp (L15_0 N k ((0 : Int), u, u', l, (l.length : Int), (i : Int), o0, rs, ()) Kx) Q := by
  induction k with
  | zero => intro i u u' o0 rs Kx Q h1 h2; omega
  | succ k ih =>
    intro i u u' o0 rs Kx Q h1 h2 hr hK
    have hrl := hr.len
    rw [L15_0]
    dsimp only
    refine wq_condD.2 ⟨fun h => ?_, fun h => ?_⟩
    · rw [wrap_succ (show i < l.length by omega) (by omega)]
      have ew : IntKind.i64.wrap (0 + (i : Int)) = (i : Int) := by rw [wrap_id] <;> omega
      rw [ew]
      have e0 : ((i : Int), (i : Int), rdAt (t := .int .i64) l (i : Int), ()) = ((i : Int), ((i + 1 : Nat) : Int) - 1, rdI l (i : Int), ()) := by
        have : ((i + 1 : Nat) : Int) - 1 = (i : Int) := by omega
        rw [this]
      have hnew : (∀ r ∈ rs.getLast?, r.2.2.1 ≠ rdI l (i : Int)) → Cov l (i + 1) (rs ++ [((i : Int), (i : Int), rdAt (t := .int .i64) l (i : Int), ())]) := fun hc => by
        rw [e0]
        exact .snoc (i + 1) _ hr (by omega) (by omega) (fun q q1 q2 => by have : q = i := by omega
                                                                          rw [this]) hc
      refine wq_iteN.2 ⟨by omega, wq_iteN.2 ⟨by omega, ?_⟩⟩
      refine wq_condD.2 ⟨fun hpos => ?_, fun hpos => ?_⟩
      · obtain ⟨A, r, rfl⟩ : ∃ A r, rs = A ++ [r] := by
          rcases List.eq_nil_or_concat rs with h | ⟨A, r, h⟩
          · rw [h] at hpos; simp at hpos
          · exact ⟨A, r, by rw [h, List.concat_eq_append]⟩
        have e3 : IntKind.i64.wrap (((A ++ [r]).length : Int) - 1) = (A.length : Int) := by
          simp only [List.length_append, List.length_singleton] at hrl ⊢
          rw [wrap_id] <;> omega
        rw [e3, rdAt_last A r _ rfl]
        have hln : (A.length : Int) < ((A ++ [r]).length : Int) := by simp; omega
        refine wq_iteN.2 ⟨by omega, wq_iteN.2 ⟨hln, wq_condE.2 ⟨fun he => ?_, fun hne => ?_⟩⟩⟩
        · refine wq_iteN.2 ⟨by omega, wq_iteN.2 ⟨hln, ?_⟩⟩
          rw [set_last A r _ _ (by simp)]
          refine ih (i + 1) _ _ o0 _ Kx Q (by omega) (by omega) ?_ hK
          have := hr.ext (m := i + 1) (by omega) (by omega) (fun q q1 q2 => by
            have : q = i := by omega
            rw [this]
            exact he.symm)
          have e4 : ((i + 1 : Nat) : Int) - 1 = (i : Int) := by omega
          rw [e4] at this
          exact this
        · refine wq_iteN.2 ⟨by omega, ih (i + 1) _ _ o0 _ Kx Q (by omega) (by omega) (hnew fun x hx => ?_) hK⟩
          simp at hx
          subst hx
          exact hne
      · have : rs = [] := List.eq_nil_of_length_eq_zero (by omega)
        subst this
        refine wq_iteN.2 ⟨by simp, ih (i + 1) _ _ o0 _ Kx Q (by omega) (by omega) (hnew fun x hx => by simp at hx) hK⟩
    · have : i = l.length := by omega
      subst this
      exact hK rs hr

theorem tp15c (hN : 5000 ≤ N) (l : List Int) (hl : l.length ≤ 2001) : Wp (sp15 N ((0 : Int), l, ())) fun r => Cov l l.length r.1.1 := by
  unfold sp15 F15
  dsimp only
  exact tl15c N l hl N 0 _ _ _ _ _ _ (by omega) (by omega) .nil fun rs' h => wq_some.2 h

abbrev sm60 (a : Int) : Prop := -1152921504606846976 ≤ a ∧ a ≤ 1152921504606846976

theorem tp55 (a b : Int) (ha : sm60 a) (hb : sm60 b) : Wp (sp55 N (a, b, ())) fun r => r = (a - b, true, ()) := by
  have w1 : IntKind.i64.wrap (9223372036854775807 + b) = 9223372036854775807 + b ∨ 0 ≤ b := by
    by_cases h : 0 ≤ b
    · exact .inr h
    · left; rw [wrap_id] <;> omega
  have w2 : IntKind.i64.wrap (-9223372036854775808 + b) = -9223372036854775808 + b ∨ b ≤ 0 := by
    by_cases h : b ≤ 0
    · exact .inr h
    · left; rw [wrap_id] <;> omega
  have w3 : IntKind.i64.wrap (a - b) = a - b := by rw [wrap_id] <;> omega
  unfold sp55 F55
  dsimp only
  rw [w3]
  repeat' first
    | exact wq_some.2 rfl
    | (refine wq_condD.2 ⟨fun _ => ?_, fun _ => ?_⟩)
    | (exfalso; omega)

end Go.Proofs.Ytkifmnocomadfaa
end

/- The difference of two curves. -/
section
set_option linter.unusedVariables false
namespace Go.Proofs.Ytkifmnocomadfaa
open Go.V
variable (N : Nat)
variable {l l1 l2 : List Int} {n m : Nat} {A rs rs1 rs2 : List D87}

structure Zat (rs1 rs2 : List D87) (n i j p : Nat) : Prop where
  on : ∀ (hi : i < rs1.length) (hj : j < rs2.length), (rs1[i]).1 ≤ (p : Int) ∧ (rs2[j]).1 ≤ (p : Int) ∧ (p : Int) ≤ (rs1[i]).2.1 ∧ (p : Int) ≤ (rs2[j]).2.1 ∧ ((rs1[i]).1 = (p : Int) ∨ (rs2[j]).1 = (p : Int))
  off : (i = rs1.length ∨ j = rs2.length) → p = n
  li : i ≤ rs1.length
  lj : j ≤ rs2.length

theorem Zat.step (h1 : Cov l1 n rs1) (h2 : Cov l2 n rs2) {i j p : Nat} (h : Zat rs1 rs2 n i j p) (hi : i < rs1.length) (hj : j < rs2.length) :
    ∃ to : Nat, ((to : Int) = if (rs2[j]).2.1 < (rs1[i]).2.1 then (rs2[j]).2.1 else (rs1[i]).2.1) ∧ p ≤ to ∧ to < n ∧ ((if (rs2[j]).1 > (rs1[i]).1 then (rs2[j]).1 else (rs1[i]).1) = (p : Int)) ∧
      (∀ q : Nat, p ≤ q → q ≤ to → rdI l1 q = (rs1[i]).2.2.1 ∧ rdI l2 q = (rs2[j]).2.2.1) ∧
      ((rs1[i]).2.1 ≤ (rs2[j]).2.1 → (rs2[j]).2.1 ≤ (rs1[i]).2.1 → Zat rs1 rs2 n (i + 1) (j + 1) (to + 1)) ∧
      ((rs1[i]).2.1 ≤ (rs2[j]).2.1 → ¬ (rs2[j]).2.1 ≤ (rs1[i]).2.1 → Zat rs1 rs2 n (i + 1) j (to + 1)) ∧
      (¬ (rs1[i]).2.1 ≤ (rs2[j]).2.1 → Zat rs1 rs2 n i (j + 1) (to + 1)) := by
  obtain ⟨f, t, v, e1, e2, e3, e4, e5, e6, e7⟩ := h1.get i hi
  obtain ⟨f', t', v', g1, g2, g3, g4, g5, g6, g7⟩ := h2.get j hj
  have hon := h.on hi hj
  rw [e1, g1] at hon
  rw [e1, g1]
  dsimp only at hon ⊢
  refine ⟨min t t', ?_, by omega, by omega, ?_, fun q q1 q2 => ⟨e4 q (by omega) (by omega), g4 q (by omega) (by omega)⟩, fun c1 c2 => ?_, fun c1 c2 => ?_, fun c1 => ?_⟩
  · split <;> omega
  · split <;> omega
  · refine ⟨fun hi' hj' => ?_, fun ho => ?_, by omega, by omega⟩
    · obtain ⟨a, b, c, k1, k2, _⟩ := h1.get (i + 1) hi'
      obtain ⟨a', b', c', m1, m2, _⟩ := h2.get (j + 1) hj'
      have e6 := e6 hi'
      have g6 := g6 hj'
      rw [k1] at e6 ⊢
      rw [m1] at g6 ⊢
      dsimp only at e6 g6 ⊢
      omega
    · rcases ho with ho | ho
      · have := e7 ho; omega
      · have := g7 ho; omega
  · refine ⟨fun hi' hj' => ?_, fun ho => ?_, by omega, by omega⟩
    · obtain ⟨a, b, c, k1, k2, _⟩ := h1.get (i + 1) hi'
      have e6 := e6 hi'
      rw [g1]
      rw [k1] at e6 ⊢
      dsimp only at e6 ⊢
      omega
    · rcases ho with ho | ho
      · have := e7 ho; omega
      · omega
  · refine ⟨fun hi' hj' => ?_, fun ho => ?_, by omega, by omega⟩
    · obtain ⟨a', b', c', m1, m2, _⟩ := h2.get (j + 1) hj'
      have g6 := g6 hj'
      rw [e1]
      rw [m1] at g6 ⊢
      dsimp only at g6 ⊢
      omega
    · rcases ho with ho | ho
      · omega
      · have := g7 ho; omega

theorem tl81 (h1 : Cov l1 n rs1) (h2 : Cov l2 n rs2) (hl : l.length = n) (hn : n ≤ 2001) (hv : ∀ q : Nat, q < n → rdI l q = rdI l1 q - rdI l2 q ∧ sm60 (rdI l1 q) ∧ sm60 (rdI l2 q)) (k : Nat) :
    ∀ (i j p : Nat) (z z' : Int) (o0 : List D87) (o1 : List D77) (out : List D87) (u0 u1 u2 u3 u4 u5 u6 u7 u8 u9 : Unit) (Kx : (Unit × (Unit × (Unit × (Unit × (Unit × (Int × (Unit × (D159 × ((List D87) × ((List D87) × ((List D77) × Unit))))))))))) → Option (D52 × D159)) (Rx : Unit → Option (D52 × D159)) (Q),
      rs1.length + rs2.length < i + j + k → Zat rs1 rs2 n i j p → Cov l p out → (∀ out' z, Cov l n out' → Wp (Kx ((), (), (), (), (), z, (), (false, ()), o0, out', o1, ())) Q) →
      Wp (L81_0 N (sp16 N) (sp55 N) (sp93 N) k (u0, u1, u2, u3, u4, (i : Int), (j : Int), u5, u6, u7, u8, u9, (rs1, ()), (rs2, ()), z, (false, ()), o0, out, o1, ()) Kx Rx) Q := by
  induction k with
  | zero => intro i j p z z' o0 o1 out u0 u1 u2 u3 u4 u5 u6 u7 u8 u9 Kx Rx Q hk hz; have := hz.li; have := hz.lj; omega
  | succ k ih =>
    intro i j p z z' o0 o1 out u0 u1 u2 u3 u4 u5 u6 u7 u8 u9 Kx Rx Q hk hz ho hK
    have hr1 := h1.len
    have hr2 := h2.len
    have hro := ho.len
    have hpl := ho.le
    rw [L81_0]
    dsimp only
    refine wq_condD.2 ⟨fun hi => wq_condD.2 ⟨fun hj => ?_, fun hj => ?_⟩, fun hi => ?_⟩
    · have hi' : i < rs1.length := by omega
      have hj' : j < rs2.length := by omega
      rw [rd_get rs1 i hi', rd_get rs2 j hj']
      obtain ⟨to, t1, t2, t3, t4, t5, t6, t7, t8⟩ := hz.step h1 h2 hi' hj'
      refine wq_iteN.2 ⟨by omega, wq_iteN.2 ⟨hi, wq_iteN.2 ⟨by omega, wq_iteN.2 ⟨hj, ?_⟩⟩⟩⟩
      rw [t4, ← t1]
      refine wq_condD.2 ⟨fun _ => ?_, fun hh => absurd hh (by omega)⟩
      have hp := t5 p (Nat.le_refl _) t2
      have hvp := hv p (by omega)
      have hval : ∀ q : Nat, p ≤ q → q < to + 1 → rdI l q = (rs1[i]).2.2.1 - (rs2[j]).2.2.1 := fun q q1 q2 => by
        have := t5 q q1 (by omega)
        rw [(hv q (by omega)).1, this.1, this.2]
      rw [hp.1, hp.2] at hvp
      refine wq_bind.2 ((tp55 N (rs1[i]).2.2.1 (rs2[j]).2.2.1 hvp.2.1 hvp.2.2).mono fun r5 h5 => ?_)
      subst h5
      dsimp only
      -- what comes behind the run that was put
      have join : ∀ out', Cov l (to + 1) out' → Wp (J81_1 N (sp16 N) (sp55 N) (sp93 N) 0 ((), (), (), (), (), (i : Int), (j : Int), (), (), (), (), (), (), u9, (rs1, ()), (rs2, ()), rs1[i], rs2[j], z, (false, ()), o0, out', o1, ()) (fun y =>
          L81_0 N (sp16 N) (sp55 N) (sp93 N) k ((), (), (), (), (), y.2.2.2.2.2.1, y.2.2.2.2.2.2.1, (), (), (), (), y.2.2.2.2.2.2.2.2.2.2.2.1, y.2.2.2.2.2.2.2.2.2.2.2.2.1, y.2.2.2.2.2.2.2.2.2.2.2.2.2.1, y.2.2.2.2.2.2.2.2.2.2.2.2.2.2.1, y.2.2.2.2.2.2.2.2.2.2.2.2.2.2.2.1, y.2.2.2.2.2.2.2.2.2.2.2.2.2.2.2.2.1, y.2.2.2.2.2.2.2.2.2.2.2.2.2.2.2.2.2.1, y.2.2.2.2.2.2.2.2.2.2.2.2.2.2.2.2.2.2.1, ()) Kx Rx) (fun _ => none)) Q := fun out' ho' => by
        unfold J81_1
        dsimp only
        rw [wrap_succ (show i < rs1.length from hi') (by omega), wrap_succ (show j < rs2.length from hj') (by omega)]
        refine wq_condD.2 ⟨fun c1 => wq_condD.2 ⟨fun c2 => ?_, fun c2 => ?_⟩, fun c1 => wq_condD.2 ⟨fun c2 => ?_, fun c2 => absurd c2 (by omega)⟩⟩
        · exact ih _ _ _ _ 0 _ _ _ _ _ _ _ _ _ _ _ _ _ _ _ _ (by omega) (t6 c1 c2) ho' hK
        · exact ih _ _ _ _ 0 _ _ _ _ _ _ _ _ _ _ _ _ _ _ _ _ (by omega) (t7 c1 c2) ho' hK
        · exact ih _ _ _ _ 0 _ _ _ _ _ _ _ _ _ _ _ _ _ _ _ _ (by omega) (t8 c1) ho' hK
      have e0 : ((to + 1 : Nat) : Int) - 1 = (to : Int) := by omega
      have hnew : (∀ r ∈ out.getLast?, r.2.2.1 ≠ (rs1[i]).2.2.1 - (rs2[j]).2.2.1) → Cov l (to + 1) (out ++ [((p : Int), (to : Int), (rs1[i]).2.2.1 - (rs2[j]).2.2.1, ())]) := fun hc => by
        have := Cov.snoc (to + 1) _ ho (by omega) (by omega) hval hc
        rw [e0] at this
        exact this
      refine wq_cond.2 ⟨fun hh => (by cases hh), fun _ => ?_⟩
      refine wq_condD.2 ⟨fun hpos => ?_, fun hpos => ?_⟩
      · obtain ⟨A, r, rfl⟩ : ∃ A r, out = A ++ [r] := by
          rcases List.eq_nil_or_concat out with h | ⟨A, r, h⟩
          · rw [h] at hpos; simp at hpos
          · exact ⟨A, r, by rw [h, List.concat_eq_append]⟩
        have e3 : IntKind.i64.wrap (((A ++ [r]).length : Int) - 1) = (A.length : Int) := by
          simp only [List.length_append, List.length_singleton] at hro ⊢
          rw [wrap_id] <;> omega
        have hln : (A.length : Int) < ((A ++ [r]).length : Int) := by simp; omega
        rw [e3, rdAt_last A r _ rfl]
        refine wq_iteN.2 ⟨by omega, wq_iteN.2 ⟨hln, wq_condE.2 ⟨fun he => ?_, fun hne => ?_⟩⟩⟩
        · refine wq_iteN.2 ⟨by omega, wq_iteN.2 ⟨hln, ?_⟩⟩
          rw [set_last A r _ _ (by simp)]
          refine join _ ?_
          have := ho.ext (m := to + 1) (by omega) (by omega) (fun q q1 q2 => by rw [he]; exact hval q q1 q2)
          rw [e0] at this
          exact this
        · refine wq_iteN.2 ⟨by omega, join _ (hnew fun x hx => ?_)⟩
          simp at hx
          subst hx
          exact hne
      · have : out = [] := List.eq_nil_of_length_eq_zero (by omega)
        subst this
        exact wq_iteN.2 ⟨by simp, join _ (hnew fun x hx => by simp at hx)⟩
    · have := hz.off (.inr (by have := hz.lj; omega))
      subst this
      exact hK out z ho
    · have := hz.off (.inl (by have := hz.li; omega))
      subst this
      exact hK out z ho

end Go.Proofs.Ytkifmnocomadfaa
end

/- Curves of numbers: there is one for all that fit; the difference, the flat one. -/
section
set_option linter.unusedVariables false
namespace Go.Proofs.Ytkifmnocomadfaa
open Go.V
variable (N : Nat)
variable {l l1 l2 : List Int} {n m : Nat} {A rs rs1 rs2 : List D87} {c c1 c2 : D52}

theorem grp_ex : ∀ (n : Nat) (P : List (Int × Int)), P.length ≤ n → ∃ gs, Grp P gs
  | _, [], _ => ⟨[], .nil⟩
  | _, [a], _ => ⟨_, .one a⟩
  | 0, _ :: _ :: _, h => by simp at h
  | n + 1, a :: b :: t, h => by
    obtain ⟨gs, hg⟩ := grp_ex n (t.drop (ext (b.1 - a.1) (b.2 - a.2) b t)) (by simp at h ⊢; omega)
    exact ⟨_, .more a b t gs hg⟩

theorem OfOk.uniq (h : OfOk l c) (h' : OfOk l c1) : c = c1 := by
  have e1 := h.max.trans h'.max.symm
  have e2 := h.grp.det h'.grp
  obtain ⟨a, b, u⟩ := c
  obtain ⟨a', b', u'⟩ := c1
  dsimp only at e1 e2
  rw [e1, e2]

theorem tp44' (x : D87) (hx : inB x.2.2.1) : Wp (sp44 N (x, ())) fun r => r.1 = false := by
  unfold sp44 F44
  dsimp only
  unfold inB at hx
  refine wq_condD.2 ⟨fun h => absurd h (by omega), fun h1 => wq_some.2 ?_⟩
  exact decide_eq_false (by omega)

theorem tl66' (rs : List D87) (hl : rs.length ≤ 2001) (hv : ∀ m ∈ rs, inB m.2.2.1) (k : Nat) : ∀ (i : Nat) (u : Unit) (Kx : Unit → Option (Int × Unit)) (Q), rs.length < i + k → i ≤ rs.length → Wp (Kx ()) Q → Wp (L66_0 N (sp44 N) k (rs, u, (rs.length : Int), (i : Int), ()) Kx) Q := by
  induction k with
  | zero => intro i u Kx Q h1 h2; omega
  | succ k ih =>
    intro i u Kx Q h1 h2 hK
    rw [L66_0]
    dsimp only
    refine wq_condD.2 ⟨fun h => ?_, fun h => hK⟩
    rw [wrap_succ (show i < rs.length by omega) (by omega)]
    refine wq_iteN.2 ⟨by omega, wq_iteN.2 ⟨by omega, wq_bind.2 ((tp44' N _ (hv _ (rdR_mem rs (i : Int) (by omega) h))).mono fun r hr => wq_cond.2 ⟨fun h => (by rw [hr] at h; cases h), fun hb => ?_⟩)⟩⟩
    exact ih (i + 1) _ Kx Q (by omega) (by omega) hK

theorem tp43' (hN : 5000 ≤ N) (rs : List D87) (hl : rs.length ≤ 2001) (hv : ∀ m ∈ rs, inB m.2.2.1) : Wp (sp43 N (rs, (), ())) fun r => r.1 = false := by
  unfold sp43 F43
  refine wq_bind.2 ?_
  unfold sp66 F66
  dsimp only
  exact tl66' N rs hl hv N 0 _ _ _ (by omega) (by omega) (wq_some.2 (wq_some.2 rfl))

theorem tp16c (hN : 5000 ≤ N) (hl : l.length ≤ 2001) (h0 : l ≠ []) (hv : ∀ v ∈ l, inB v) (hr : RunsOk l l.length rs) : Wp (sp16 N ((rs, ()), ())) fun r => r.2.1 = true ∧ OfOk l r.1 := by
  have hlen := hr.len (Nat.le_refl _)
  have ho := plat_ok l l.length (Nat.le_refl _)
  have hlpos : 0 < l.length := List.length_pos_iff.2 h0
  have hin : ∀ r ∈ rs, inB r.2.2.1 := fun r hrm => by
    have hm : pv r ∈ plat l l.length := by rw [← hr.map]; exact List.mem_map_of_mem hrm
    exact hv _ (ho.mem _ hm).2.2
  have hne : rs ≠ [] := by
    rintro rfl
    obtain ⟨T, hT⟩ := ho.head hlpos
    rw [← hr.map] at hT
    cases hT
  have hpos : 0 < rs.length := List.length_pos_iff.2 hne
  have hfirst : (rdAt (t := t87) rs 0).1 = 0 := by
    obtain ⟨T, hT⟩ := ho.head hlpos
    rw [← hr.map] at hT
    cases rs with
    | nil => exact absurd rfl hne
    | cons r rest =>
      simp only [List.map_cons, List.cons.injEq] at hT
      have := congrArg Prod.fst hT.1
      exact this
  unfold sp16 F16
  refine wq_bind.2 ((tp40 N rs (by omega)).mono ?_)
  rintro r1 ⟨h1, h2⟩
  have e1 := h2 hne
  subst e1
  dsimp only
  have hto : (rdAt (t := t87) rs ((rs.length : Int) - 1)).2.1 = (l.length : Int) - 1 := by
    obtain ⟨A, r, rfl⟩ : ∃ A r, rs = A ++ [r] := by
      rcases List.eq_nil_or_concat rs with h | ⟨A, r, h⟩
      · exact absurd h hne
      · exact ⟨A, r, by rw [h, List.concat_eq_append]⟩
    rw [rdAt_last A r _ (by simp)]
    exact hr.to r (by simp)
  refine wq_condV.2 ⟨fun h => (by cases h), fun _ => ?_⟩
  refine wq_condM.2 ⟨fun h => absurd hfirst h, fun _ => wq_condD.2 ⟨fun h => absurd h (by rw [hto]; omega), fun hmx => ?_⟩⟩
  unfold sp42 F42 sp65 F65 sp41
  dsimp only
  refine wq_bind.2 (wq_bind.2 (wq_some.2 (wq_some.2 (wq_bind.2 (wq_iteN.2 ⟨(show rs.length ≤ 100000000 by omega), wq_some.2 ?_⟩)))))
  refine wq_bind.2 ((tp43' N hN rs (by omega) hin).mono fun r4 h4 => wq_cond.2 ⟨fun h => (by rw [h4] at h; cases h), fun hb => ?_⟩)
  have hrun : ∀ r ∈ rs, runIn r := fun r hrm => by
    have hm : pv r ∈ plat l l.length := by rw [← hr.map]; exact List.mem_map_of_mem hrm
    have := ho.mem _ hm
    exact ⟨this.1, by have := this.2.1; unfold pv at this; omega, hin r hrm⟩
  refine tl16 N hN N rs _ _ _ _ _ _ _ _ (by omega) (by omega) hrun (by simp; omega) fun gs hg => wq_some.2 ⟨rfl, hto, h0, ?_, fun p hp => hv _ (ho.mem _ hp).2.2⟩
  rw [← hr.map]; simpa using hg

theorem of_ex (hl : l.length ≤ 2001) (h0 : l ≠ []) (hv : ∀ v ∈ l, inB v) : ∃ c, OfOk l c := by
  obtain ⟨gs, hg⟩ := grp_ex _ (plat l l.length) (Nat.le_refl _)
  exact ⟨((l.length : Int) - 1, gs, ()), rfl, h0, hg, fun p hp => hv _ ((plat_ok l l.length (Nat.le_refl _)).mem _ hp).2.2⟩

theorem OfOk.mem (h : OfOk l c) : ∀ v ∈ l, inB v := by
  intro v hv
  obtain ⟨q, hq, rfl⟩ := List.getElem_of_mem hv
  have := h.all q hq
  rwa [show rdAt (t := .int .i64) l (q : Int) = l[q] from rdAt_at (t := .int .i64) l q hq] at this

theorem tp48c (hN : 5000 ≤ N) (hl : l.length ≤ 2001) (h0 : l ≠ []) (hv : ∀ v ∈ l, inB v) : Wp (sp48 N (l, ())) fun r => r.2.1 = true ∧ OfOk l r.1 := by
  obtain ⟨c, hc⟩ := of_ex hl h0 hv
  refine (tp48b N hN hc hl).mono fun r hr => ?_
  subst hr
  exact ⟨rfl, hc⟩

theorem line_of (hN : 5000 ≤ N) (hl : l.length ≤ 2001) (h : OfOk l c) : ∃ rs, Cov l l.length rs ∧ Wp (sp17 N (c, ())) (fun r => r = ((rs, ()), true, ())) ∧ Wp (sp19 N (c, ())) (fun r => r = (true, ())) := by
  obtain ⟨⟨⟨rs, _⟩, _⟩, h15, hr⟩ := tp15c N hN l hl
  dsimp only at hr
  obtain ⟨⟨c', ok, _⟩, h16, h3, h4⟩ := tp16c N hN hl h.pos h.mem hr.runs
  dsimp only at h3 h4
  subst h3
  obtain rfl := h4.uniq h
  exact ⟨rs, hr, tp17 N hN h hl h15, tp19 N hN h hl h15 h16⟩

theorem tp93 (hN : 5000 ≤ N) (hl : l1.length ≤ 2001) (hll : l2.length = l1.length) (h1 : OfOk l1 c1) (h2 : OfOk l2 c2) :
    ∃ rs1 rs2, Cov l1 l1.length rs1 ∧ Cov l2 l1.length rs2 ∧ Wp (sp93 N (c1, c2, ())) fun r => r = ((rs1, ()), (rs2, ()), true, ()) := by
  obtain ⟨rs1, k1, k2, k3⟩ := line_of N hN hl h1
  obtain ⟨rs2, m1, m2, m3⟩ := line_of N hN (by omega) h2
  refine ⟨rs1, rs2, k1, hll ▸ m1, ?_⟩
  have hm1 := h1.max
  have hm2 := h2.max
  unfold sp93 F93
  dsimp only
  refine wq_condM.2 ⟨fun h => absurd (by omega) h, fun _ => wq_bind.2 (k3.mono fun r hr => ?_)⟩
  subst hr
  dsimp only
  refine wq_condV.2 ⟨fun h => (by cases h), fun _ => wq_bind.2 (m3.mono fun r hr => ?_)⟩
  subst hr
  dsimp only
  refine wq_condV.2 ⟨fun h => (by cases h), fun _ => wq_bind.2 (k2.mono fun r hr => wq_bind.2 (m2.mono fun r' hr' => ?_))⟩
  subst hr; subst hr'
  exact wq_some.2 rfl

theorem tp56 (hN : 5000 ≤ N) (hl1 : l1.length = l.length) (hl2 : l2.length = l.length) (hl : l.length ≤ 2001) (h1 : OfOk l1 c1) (h2 : OfOk l2 c2) (hv : ∀ q : Nat, q < l.length → rdI l q = rdI l1 q - rdI l2 q ∧ sm60 (rdI l1 q) ∧ sm60 (rdI l2 q)) :
    Wp (sp56 N (c1, c2, ())) fun r => r.2.1 = true ∧ OfOk l r.1 := by
  obtain ⟨rs1, rs2, k1, k2, k3⟩ := tp93 N hN (by omega) (by omega) h1 h2
  rw [hl1] at k1 k2
  have h0 : l ≠ [] := by
    rintro rfl
    exact h1.pos (List.eq_nil_of_length_eq_zero hl1)
  have hin : ∀ v ∈ l, inB v := fun v hm => by
    obtain ⟨q, hq, rfl⟩ := List.getElem_of_mem hm
    have := hv q hq
    rw [show rdI l (q : Int) = l[q] from rdAt_at (t := .int .i64) l q hq] at this
    unfold inB
    omega
  unfold sp56 F56 sp81 F81
  dsimp only
  refine wq_bind.2 (wq_bind.2 (k3.mono fun r hr => ?_))
  subst hr
  dsimp only
  refine wq_condV.2 ⟨fun h => (by cases h), fun _ => ?_⟩
  have r1 := k1.len
  have r2 := k2.len
  have hpos : 0 < l.length := List.length_pos_iff.2 h0
  refine tl81 N k1 k2 rfl hl hv N 0 0 0 0 0 [] [] [] _ _ _ _ _ _ _ _ _ _ _ _ _ (by omega) ⟨fun hi hj => ?_, fun ho => ?_, by omega, by omega⟩ .nil fun out' z ho => ?_
  · obtain ⟨f, t, v, e1, e2, _, _, e5, _⟩ := k1.get 0 hi
    obtain ⟨f', t', v', g1, g2, _, _, g5, _⟩ := k2.get 0 hj
    rw [e1, g1]
    have := e5 rfl
    have := g5 rfl
    dsimp only
    omega
  · exfalso
    have n1 := k1.ne_nil hpos
    have n2 := k2.ne_nil hpos
    obtain ⟨B, r, e⟩ := n1
    obtain ⟨B', r', e'⟩ := n2
    rcases ho with ho | ho
    · rw [e] at ho; simp at ho
    · rw [e'] at ho; simp at ho
  · dsimp only
    refine wq_cond.2 ⟨fun h => (by cases h), fun _ => wq_bind.2 ((tp16c N hN hl h0 hin ho.runs).mono fun r hr => wq_some.2 (wq_some.2 hr))⟩

theorem rd_replicate (m q : Nat) (h : q < m) : rdI (List.replicate m (0 : Int)) (q : Int) = 0 := by
  rw [show rdI (List.replicate m (0 : Int)) (q : Int) = _ from rdAt_at (t := .int .i64) _ q (by simpa using h)]
  simp

theorem tp77 (hN : 5000 ≤ N) (mx : Int) (h0 : 0 ≤ mx) (h1 : mx ≤ 2000) : Wp (sp77 N (mx, 0, ())) fun r => OfOk (List.replicate (mx.toNat + 1) 0) r.1 := by
  unfold sp77 F77 sp91 F91
  dsimp only
  refine wq_bind.2 (wq_condD.2 ⟨fun h => absurd h (by omega), fun _ => wq_some.2 (wq_bind.2 ?_)⟩)
  have hc : Cov (List.replicate (mx.toNat + 1) (0 : Int)) (mx.toNat + 1) [((0 : Int), mx, 0, ())] := by
    have := Cov.snoc (l := List.replicate (mx.toNat + 1) (0 : Int)) (n := 0) (A := []) (mx.toNat + 1) 0 .nil (by omega) (by simp) (fun q _ q2 => rd_replicate _ q q2) (by simp)
    have e : (((mx.toNat + 1 : Nat) : Int)) - 1 = mx := by omega
    rw [e] at this
    exact this
  have hlen : (List.replicate (mx.toNat + 1) (0 : Int)).length = mx.toNat + 1 := by simp
  have := tp16c N hN (l := List.replicate (mx.toNat + 1) (0 : Int)) (rs := [((0 : Int), mx, 0, ())]) (by rw [hlen]; omega) (by simp [List.replicate_succ]) (fun v hv => by
    rw [List.eq_of_mem_replicate hv]; unfold inB; omega) (by rw [hlen]; exact hc.runs)
  exact this.mono fun r hr => wq_some.2 hr.2

end Go.Proofs.Ytkifmnocomadfaa
end

/- A core that can be, whose numbers fit. -/
section
set_option linter.unusedVariables false
namespace Go.Proofs.Ytkifmnocomadfaa
open Go.V
variable (N : Nat)

abbrev less (a b : D67) : Prop := Op.bytesLess a.1.toList b.1.toList = true

structure CoreOk2 (c : D25) : Prop extends CoreOk c where
  amt : ∀ s ∈ c.2.2.2.2.1, 0 ≤ s.1 ∧ s.1 ≤ 1000000000000
  lc : ∀ m ∈ c.2.2.2.1, m.2.2.2.1 = 0 ∧ m.2.2.2.2.1 = 0
  lt : ∀ (i : Nat) (m m' : D67), c.2.2.2.1[i]? = some m → c.2.2.2.1[i + 1]? = some m' → less m m'

theorem tl30_0x (k : Nat) : ∀ (i : Nat) (u : Unit) (c : D25) (xs : List D67) (Kx : (Unit × (D25 × Unit)) → Option D159) (Q), xs.length < i + k → i ≤ xs.length → xs.length ≤ 1000 → c.2.2.2.1 = xs → Q (false, ()) →
    (∀ j, j < i → ∀ m, xs[j]? = some m → meterOk m ∧ m.2.2.2.1 = 0 ∧ m.2.2.2.2.1 = 0) → (∀ j, j + 1 < i → ∀ m m', xs[j]? = some m → xs[j + 1]? = some m' → less m m') →
    ((∀ m ∈ xs, meterOk m ∧ m.2.2.2.1 = 0 ∧ m.2.2.2.2.1 = 0) → (∀ (j : Nat) (m m' : D67), xs[j]? = some m → xs[j + 1]? = some m' → less m m') → Wp (Kx ((), c, ())) Q) →
    Wp (L30_0 N (sp59 N) (sp60 N) (sp61 N) k (u, c, xs, (xs.length : Int), (i : Int), ()) Kx) Q := by
  induction k with
  | zero => intro i u c xs Kx Q h1 h2; omega
  | succ k ih =>
    intro i u c xs Kx Q h1 h2 h3 hp hQ hI hL hK
    rw [L30_0]
    dsimp only
    refine wq_condD.2 ⟨fun h => ?_, fun h => hK (all_of_lt hI (by omega)) fun j m m' hm hm' => hL j (by have := (List.getElem?_eq_some_iff.1 hm').1; omega) m m' hm hm'⟩
    rw [wrap_succ (show i < xs.length by omega) (by omega)]
    rw [hp]
    have hxi := rdAt_some (t := t67) xs i (by omega)
    refine wq_iteN.2 ⟨by omega, wq_iteN.2 ⟨by omega, wq_bind.2 ((tp59 N _).mono fun r hr => wq_condV.2 ⟨fun _ => wq_some.2 hQ, fun hr' => ?_⟩)⟩⟩
    refine wq_condM.2 ⟨fun _ => wq_some.2 hQ, fun g1 => wq_condM.2 ⟨fun _ => wq_some.2 hQ, fun g2 => ?_⟩⟩
    have hI' := lt_succ_all (R := fun m : D67 => meterOk m ∧ m.2.2.2.1 = 0 ∧ m.2.2.2.2.1 = 0) hxi hI ⟨hr hr', g1, g2⟩
    refine wq_condD.2 ⟨fun h0 => ?_, fun h0 => ?_⟩
    · have hw : IntKind.i64.wrap ((i : Int) - 1) = ((i - 1 : Nat) : Int) := by rw [wrap_id (by omega) (by omega)]; omega
      rw [hw]
      have hx1 := rdAt_some (t := t67) xs (i - 1) (by omega)
      refine wq_iteN.2 ⟨by omega, wq_iteN.2 ⟨by omega, wq_condV.2 ⟨fun _ => wq_some.2 hQ, fun hl => ?_⟩⟩⟩
      refine ih (i + 1) _ _ xs Kx Q (by omega) (by omega) h3 hp hQ hI' (fun j hj m m' hm hm' => ?_) hK
      by_cases e : j + 1 = i
      · have ej : j = i - 1 := by omega
        rw [e, hxi] at hm'
        rw [ej, hx1] at hm
        cases hm; cases hm'
        exact hl
      · exact hL j (by omega) m m' hm hm'
    · exact ih (i + 1) _ _ xs Kx Q (by omega) (by omega) h3 hp hQ hI' (fun j hj => by omega) hK

theorem tl30_1x (k : Nat) : ∀ (i : Nat) (u : Unit) (c : D25) (xs : List D87) (Kx : (Unit × (D25 × Unit)) → Option D159) (Q), xs.length < i + k → i ≤ xs.length → xs.length ≤ 1000 → Q (false, ()) → (∀ j, j < i → ∀ s, xs[j]? = some s → 0 ≤ s.1 ∧ s.1 ≤ 1000000000000) →
    ((∀ s ∈ xs, 0 ≤ s.1 ∧ s.1 ≤ 1000000000000) → Wp (Kx ((), c, ())) Q) → Wp (L30_1 N (sp59 N) (sp60 N) (sp61 N) k (u, c, xs, (xs.length : Int), (i : Int), ()) Kx) Q := by
  induction k with
  | zero => intro i u c xs Kx Q h1 h2; omega
  | succ k ih =>
    intro i u c xs Kx Q h1 h2 h3 hQ hI hK
    rw [L30_1]
    dsimp only
    refine wq_condD.2 ⟨fun h => ?_, fun h => hK (all_of_lt hI (by omega))⟩
    rw [wrap_succ (show i < xs.length by omega) (by omega)]
    refine wq_iteN.2 ⟨by omega, wq_iteN.2 ⟨by omega, wq_bind.2 ((tp59 N _).mono fun r hr => wq_condV.2 ⟨fun _ => wq_some.2 hQ, fun hr' => ?_⟩)⟩⟩
    refine wq_bind.2 (wq_tot (tt60 N _) fun r => wq_condV.2 ⟨fun _ => wq_some.2 hQ, fun _ => ?_⟩)
    exact ih (i + 1) _ _ xs Kx Q (by omega) (by omega) h3 hQ (lt_succ_all (R := fun s : D87 => 0 ≤ s.1 ∧ s.1 ≤ 1000000000000) (rdR xs i (by omega)) hI (hr hr')) hK

theorem tt30x (hN : 5000 ≤ N) (c : D25) (hw : Wf (Ty.prods [t25]) (c, ())) : Wp (sp30 N (c, ())) fun r => r.1 = true → CoreOk2 c := by
  unfold sp30 F30
  dsimp only
  have no : ∀ Q : Prop, ((false, ()) : D159).1 = true → Q := fun Q h => by cases h
  refine wq_bind.2 ((tp59 N _).mono fun r1 h1 => wq_condV.2 ⟨fun _ => wq_some.2 (no _), fun h1' => ?_⟩)
  refine wq_bind.2 ((tp59 N _).mono fun r2 h2 => wq_condV.2 ⟨fun _ => wq_some.2 (no _), fun h2' => ?_⟩)
  have a1 := h1 h1'
  have a2 := h2 h2'
  dsimp only at a1 a2
  rw [wrap_id (by omega) (by omega)]
  refine wq_condD.2 ⟨fun _ => wq_some.2 (no _), fun b1 => wq_condD.2 ⟨fun _ => wq_some.2 (no _), fun b2 => wq_condD.2 ⟨fun _ => wq_some.2 (no _), fun b3 => wq_condD.2 ⟨fun _ => wq_some.2 (no _), fun b4 => ?_⟩⟩⟩⟩
  refine tl30_0x N N 0 _ _ _ _ _ (by omega) (by omega) (by omega) rfl (no _) (fun j hj => by omega) (fun j hj => by omega) fun m1 ml => ?_
  refine tl30_1x N N 0 _ _ _ _ _ (by dsimp only; omega) (by omega) (by dsimp only; omega) (no _) (fun j hj => by omega) fun ma => ?_
  refine tl30_2 N hN N 0 _ _ _ _ _ (by dsimp only; omega) (by omega) (by dsimp only; omega) (no _) (fun j hj => by omega) fun m2 => ?_
  exact wq_some.2 fun _ => ⟨⟨a1.1, ⟨a2.1, a2.2, by omega⟩, by omega, by omega, by omega, fun m hm => (m1 m hm).1, m2⟩, ma, fun m hm => (m1 m hm).2, ml⟩

def sm : List Int → Int
  | [] => 0
  | a :: l => a + sm l

def smm {α : Type} (f : α → Int) (l : List α) : Int := sm (l.map f)

theorem smm_nil {α : Type} (f : α → Int) : smm f [] = 0 := rfl
theorem smm_cons {α : Type} (f : α → Int) (a : α) (l : List α) : smm f (a :: l) = f a + smm f l := rfl
theorem smm_drop {α : Type} (f : α → Int) {l : List α} {i : Nat} (h : i < l.length) : smm f (l.drop i) = f l[i] + smm f (l.drop (i + 1)) := by rw [List.drop_eq_getElem_cons h, smm_cons]
theorem smm_zero {α : Type} {f : α → Int} : ∀ {l : List α}, (∀ a ∈ l, f a = 0) → smm f l = 0
  | [], _ => rfl
  | a :: l, h => by rw [smm_cons, h a (by simp), smm_zero fun b hb => h b (by simp [hb])]; rfl
theorem smm_congr {α : Type} {f g : α → Int} : ∀ {l : List α}, (∀ a ∈ l, f a = g a) → smm f l = smm g l
  | [], _ => rfl
  | a :: l, h => by rw [smm_cons, smm_cons, h a (by simp), smm_congr fun b hb => h b (by simp [hb])]
theorem smm_add {α : Type} (f g : α → Int) : ∀ (l : List α), smm (fun a => f a + g a) l = smm f l + smm g l
  | [] => rfl
  | a :: l => by rw [smm_cons, smm_cons, smm_cons, smm_add f g l]; omega
theorem smm_le {α : Type} {f g : α → Int} : ∀ {l : List α}, (∀ a ∈ l, f a ≤ g a) → smm f l ≤ smm g l
  | [], _ => Int.le_refl _
  | a :: l, h => by
    rw [smm_cons, smm_cons]
    have := h a (by simp)
    have := smm_le (l := l) fun b hb => h b (by simp [hb])
    omega
theorem smm_pos {α : Type} {f : α → Int} {l : List α} (h : ∀ a ∈ l, 0 ≤ f a) : 0 ≤ smm f l := by
  have := smm_le (f := fun _ => (0 : Int)) (g := f) (l := l) h
  rwa [smm_zero fun _ _ => rfl] at this

noncomputable def pv57 (x : D113) (q : Int) : Int × D159 := (sp57 N (x, q, ())).getD (0, false, ())
noncomputable def pt (x : D113) (q : Int) : Int := (pv57 N x q).1
noncomputable def pk (x : D113) (q : Int) : Bool := (pv57 N x q).2.1

theorem tp57 (hN : 5000 ≤ N) {n : Nat} {x : D113} (hx : partOk n x) (q : Int) : Wp (sp57 N (x, q, ())) fun r => r = (pt N x q, pk N x q, ()) := by
  obtain ⟨r, h1, _⟩ := tt57 N hN (x, q, ()) (by have := hx.2.2.1; dsimp only; omega) (by have := hx.2.2.2; dsimp only; omega)
  refine ⟨r, h1, ?_⟩
  unfold pt pk pv57
  rw [h1]
  rfl

def Best (mx : D113 → Int) : List D113 → List Int → Prop
  | [], bs => bs = []
  | x :: xs, bs => ∃ b r, bs = b :: r ∧ (∀ q : Int, 0 ≤ q → q ≤ mx x → pk N x q = true ∧ 0 ≤ pt N x q ∧ pt N x q ≤ b) ∧ Best mx xs r

theorem Best.snoc {mx : D113 → Int} {x : D113} {b : Int} (hx : ∀ q : Int, 0 ≤ q → q ≤ mx x → pk N x q = true ∧ 0 ≤ pt N x q ∧ pt N x q ≤ b) : ∀ {xs : List D113} {bs : List Int}, Best N mx xs bs → Best N mx (xs ++ [x]) (bs ++ [b])
  | [], _, h => by rw [show _ = [] from h]; exact ⟨b, [], rfl, hx, rfl⟩
  | y :: xs, _, ⟨b', r, h, h1, h2⟩ => by rw [h]; exact ⟨b', r ++ [b], rfl, h1, Best.snoc hx h2⟩

theorem sm_append : ∀ (a b : List Int), sm (a ++ b) = sm a + sm b
  | [], b => by simp [sm]
  | x :: a, b => by simp only [List.cons_append, sm, sm_append a b]; omega

theorem Best.each {mx : D113 → Int} : ∀ {xs : List D113} {bs : List Int}, Best N mx xs bs → ∀ x ∈ xs, ∀ q : Int, 0 ≤ q → q ≤ mx x → pk N x q = true ∧ 0 ≤ pt N x q
  | [], _, _, x, hx => by cases hx
  | y :: xs, _, ⟨b, r, _, h1, h2⟩, x, hx => by
    intro q h3 h4
    rcases List.mem_cons.1 hx with rfl | hx
    · exact ⟨(h1 q h3 h4).1, (h1 q h3 h4).2.1⟩
    · exact Best.each h2 x hx q h3 h4

theorem Best.sum {mx : D113 → Int} (hmx : ∀ x, 0 ≤ mx x) {v : D113 → Int} : ∀ {xs : List D113} {bs : List Int}, Best N mx xs bs → (∀ x ∈ xs, v x = 0 ∨ ∃ q : Int, 0 ≤ q ∧ q ≤ mx x ∧ v x = pt N x q) → 0 ≤ smm v xs ∧ smm v xs ≤ sm bs
  | [], _, h, _ => by rw [show _ = [] from h]; exact ⟨Int.le_refl _, Int.le_refl _⟩
  | x :: xs, _, ⟨b, r, h, h1, h2⟩, hv => by
    rw [h, smm_cons, sm]
    have i := Best.sum hmx (v := v) h2 fun y hy => hv y (by simp [hy])
    have h0 := h1 0 (Int.le_refl _) (hmx x)
    rcases hv x (by simp) with e | ⟨q, q1, q2, e⟩
    · omega
    · have := h1 q q1 q2
      omega

theorem Best.diff {mx : D113 → Int} (hmx : ∀ x, 0 ≤ mx x) {v : D113 → Int} : ∀ {xs : List D113} {bs : List Int}, Best N mx xs bs → (∀ x ∈ xs, v x = 0 ∨ ∃ q : Int, 0 ≤ q ∧ q ≤ mx x ∧ v x = pt N x q - pt N x 0) → -sm bs ≤ smm v xs ∧ smm v xs ≤ sm bs
  | [], _, h, _ => by rw [show _ = [] from h]; exact ⟨Int.le_refl _, Int.le_refl _⟩
  | x :: xs, _, ⟨b, r, h, h1, h2⟩, hv => by
    rw [h, smm_cons, sm]
    have i := Best.diff hmx (v := v) h2 fun y hy => hv y (by simp [hy])
    have h0 := h1 0 (Int.le_refl _) (hmx x)
    rcases hv x (by simp) with e | ⟨q, q1, q2, e⟩
    · omega
    · have := h1 q q1 q2
      omega

def mxOf (c : D25) (x : D113) : Int := if 0 ≤ x.1 ∧ x.1 < (c.2.2.2.1.length : Int) then (rdAt (t := t67) c.2.2.2.1 x.1).2.2.1 else 0

structure FitOk (c : D25) : Prop where
  core : CoreOk2 c
  best : ∃ bs, Best N (mxOf c) c.2.2.2.2.2.1 bs ∧ smm (·.1) c.2.2.2.2.1 + sm bs ≤ 1152921504606846976

theorem mxOf_pos {c : D25} (hc : CoreOk c) (x : D113) : 0 ≤ mxOf c x := by
  unfold mxOf
  split
  · rename_i h
    exact (hc.meters _ (rdAt_mem (t := t67) c.2.2.2.1 x.1 h.1 h.2)).1
  · exact Int.le_refl _

theorem tl31_0x (k : Nat) : ∀ (i : Nat) (u : Unit) (c : D25) (S : Int) (xs : List D87) (Kx : (Unit × (D25 × (Int × Unit))) → Option (Int × D159)) (Q), xs.length < i + k → i ≤ xs.length → xs.length ≤ 1000 → Wp (Kx ((), c, IntKind.i64.wrap (S + smm (·.1) (xs.drop i)), ())) Q →
    Wp (L31_0 N (sp57 N) k (u, c, IntKind.i64.wrap S, xs, (xs.length : Int), (i : Int), ()) Kx) Q := by
  induction k with
  | zero => intro i u c t xs Kx Q h1 h2; omega
  | succ k ih =>
    intro i u c S xs Kx Q h1 h2 h3 hK
    rw [L31_0]
    dsimp only
    refine wq_condD.2 ⟨fun h => ?_, fun h => ?_⟩
    · have hi : i < xs.length := by omega
      rw [wrap_succ (show i < xs.length by omega) (by omega), wrap_add]
      refine wq_iteN.2 ⟨by omega, wq_iteN.2 ⟨by omega, ih (i + 1) _ _ _ xs Kx Q (by omega) (by omega) h3 ?_⟩⟩
      rw [smm_drop _ hi, ← Int.add_assoc] at hK
      rw [rd_get xs i hi]
      exact hK
    · have : xs.drop i = [] := List.drop_eq_nil_of_le (by omega)
      rw [this, smm_nil, Int.add_zero] at hK
      exact hK

theorem tl31_2x (hN : 5000 ≤ N) (k : Nat) : ∀ (q : Nat) (u u' : Unit) (c : D25) (t : Int) (p : D113) (best : Int) (xs : List D113) (n i : Int) (Kx : (Unit × (D25 × (Int × (Int × ((List D113) × D146))))) → Option (Int × D159)) (Q), CoreOk c → partOk c.2.2.2.1.length p → 2002 < q + k → q ≤ 2001 →
    (Q (0, false, ())) → (∀ j : Int, 0 ≤ j → j < (q : Int) → pk N p j = true ∧ 0 ≤ pt N p j ∧ pt N p j ≤ best) → 0 ≤ best → best ≤ 1152921504606846976 →
    (∀ b, 0 ≤ b → b ≤ 1152921504606846976 → (∀ j : Int, 0 ≤ j → j ≤ mxOf c p → pk N p j = true ∧ 0 ≤ pt N p j ∧ pt N p j ≤ b) → Wp (Kx ((), c, t, b, xs, n, i, ())) Q) → Wp (L31_2 N (sp57 N) k (u, c, t, u', p, best, (q : Int), xs, n, i, ()) Kx) Q := by
  induction k with
  | zero => intro q u u' c t p best xs n i Kx Q hc hp h1 h2; omega
  | succ k ih =>
    intro q u u' c t p best xs n i Kx Q hc hp h1 h2 hQ hI hb0 hb1 hK
    rw [L31_2]
    dsimp only
    have hm := hc.meters _ (rdAt_mem (t := t67) c.2.2.2.1 p.1 hp.1 hp.2.1)
    have hmx : mxOf c p = (rdAt (t := t67) c.2.2.2.1 p.1).2.2.1 := by unfold mxOf; rw [if_pos ⟨hp.1, hp.2.1⟩]
    refine wq_iteN.2 ⟨hp.1, wq_iteN.2 ⟨hp.2.1, wq_condD.2 ⟨fun h => ?_, fun h => hK _ hb0 hb1 fun j j1 j2 => hI j j1 (by rw [hmx] at j2; omega)⟩⟩⟩
    have hq : (q : Int) ≤ 2000 := Int.le_trans h hm.2
    rw [wrap_succ (show q < 2002 by omega) (by omega)]
    refine wq_bind.2 ((tp57 N hN hp (q : Int)).mono fun r hr => ?_)
    subst hr
    dsimp only
    refine wq_condV.2 ⟨fun _ => wq_some.2 hQ, fun hk => wq_condD.2 ⟨fun _ => wq_some.2 hQ, fun g1 => wq_condD.2 ⟨fun _ => wq_some.2 hQ, fun g2 => ?_⟩⟩⟩
    refine ih (q + 1) _ _ _ _ _ _ _ _ _ Kx Q hc hp (by omega) (by omega) hQ (fun j j1 j2 => ?_) (by split <;> omega) (by split <;> omega) hK
    by_cases e : j = (q : Int)
    · subst e
      exact ⟨hk, by omega, by split <;> omega⟩
    · have := hI j j1 (by omega)
      refine ⟨this.1, this.2.1, ?_⟩
      split <;> omega

theorem tl31_1x (hN : 5000 ≤ N) (k : Nat) : ∀ (i : Nat) (u : Unit) (c : D25) (S : Int) (bs : List Int) (xs : List D113) (Kx : (Int × Unit) → Option (Int × D159)) (Q), CoreOk c → (∀ x ∈ xs, partOk c.2.2.2.1.length x) → xs.length < i + k → i ≤ xs.length → xs.length ≤ 1000 → Q (0, false, ()) →
    0 ≤ S → S ≤ 1152921504606846976 + 8000000000000 → Best N (mxOf c) (xs.take i) bs → (i = 0 ∨ S + sm bs ≤ 1152921504606846976) → 0 ≤ sm bs →
    (∀ bs', Best N (mxOf c) xs bs' → (i = 0 ∧ xs = [] ∨ S + sm bs' ≤ 1152921504606846976) → Wp (Kx (S + sm bs', ())) Q) →
    Wp (L31_1 N (sp57 N) k (u, c, S + sm bs, xs, (xs.length : Int), (i : Int), ()) Kx) Q := by
  induction k with
  | zero => intro i u c S bs xs Kx Q hc hx h1 h2; omega
  | succ k ih =>
    intro i u c S bs xs Kx Q hc hx h1 h2 h3 hQ hS0 hS1 hb hSb hb0 hK
    rw [L31_1]
    dsimp only
    refine wq_condD.2 ⟨fun h => ?_, fun h => ?_⟩
    · have hi : i < xs.length := by omega
      have hp := hx _ (rdAt_mem (t := t113) xs i (by omega) (by omega))
      refine wq_iteN.2 ⟨by omega, wq_iteN.2 ⟨by omega, ?_⟩⟩
      refine tl31_2x N hN N 0 _ _ _ _ _ _ _ _ _ _ _ hc hp (by omega) (by omega) hQ (fun j j1 j2 => by omega) (Int.le_refl _) (by omega) fun b hb1 hb2 hbq => ?_
      dsimp only
      rw [wrap_succ (show i < xs.length by omega) (by omega)]
      have hsb : sm bs ≤ 1152921504606846976 := by
        rcases hSb with h | h
        · subst h
          have : bs = [] := by rw [List.take_zero] at hb; exact hb
          rw [this]; decide
        · omega
      have hw : IntKind.i64.wrap (S + sm bs + b) = S + sm (bs ++ [b]) := by
        rw [sm_append]
        have : sm [b] = b := by simp [sm]
        rw [this, wrap_id] <;> omega
      rw [hw]
      refine wq_condD.2 ⟨fun _ => wq_some.2 hQ, fun hle => ?_⟩
      have he : sm (bs ++ [b]) = sm bs + b := by rw [sm_append]; simp [sm]
      refine ih (i + 1) _ _ S (bs ++ [b]) xs Kx Q hc hx (by omega) (by omega) h3 hQ hS0 hS1 ?_ (.inr (by omega)) (by omega) fun bs' hb' hs' => hK bs' hb' (.inr ?_)
      · rw [List.take_succ_eq_append_getElem hi]
        refine Best.snoc N ?_ hb
        rw [rdAt_at (t := t113) xs i hi] at hbq
        exact hbq
      · rcases hs' with ⟨h0, _⟩ | h0
        · omega
        · exact h0
    · have e : xs.take i = xs := List.take_of_length_le (by omega)
      rw [e] at hb
      refine hK bs hb ?_
      rcases hSb with h0 | h0
      · exact .inl ⟨h0, List.eq_nil_of_length_eq_zero (by omega)⟩
      · exact .inr h0

theorem tt31x (hN : 5000 ≤ N) (c : D25) (hc : CoreOk2 c) : Wp (sp31 N (c, ())) fun r => r.2.1 = true → FitOk N c := by
  unfold sp31 F31
  have h1 := hc.ns
  have h2 := hc.np
  have hs0 : 0 ≤ smm (·.1) c.2.2.2.2.1 := smm_pos fun s hs => (hc.amt s hs).1
  have hs1 : smm (·.1) c.2.2.2.2.1 ≤ 8000000000000 := by
    have key : ∀ (l : List D87), (∀ s ∈ l, 0 ≤ s.1 ∧ s.1 ≤ 1000000000000) → smm (·.1) l ≤ 1000000000000 * (l.length : Int) := by
      intro l
      induction l with
      | nil => intro _; simp [smm, sm]
      | cons s l ih =>
        intro hl
        rw [smm_cons]
        have i1 := ih fun x hx => hl x (by simp [hx])
        have i2 := (hl s (by simp)).2
        simp only [List.length_cons]
        omega
    have := key _ hc.amt
    omega
  have hw0 : (0 : Int) = IntKind.i64.wrap 0 := by rw [wrap_id] <;> decide
  dsimp only
  have := tl31_0x N N 0 () c 0 c.2.2.2.2.1 (fun y3 => L31_1 N (sp57 N) N ((), y3.2.1, y3.2.2.1, y3.2.1.2.2.2.2.2.1, (y3.2.1.2.2.2.2.2.1.length : Int), (0 : Int), ()) fun y12 => some (y12.1, (decide (y12.1 ≤ (1152921504606846976 : Int))), ())) (fun r => r.2.1 = true → FitOk N c)
    (by omega) (by omega) (by omega) ?_
  · rw [← hw0] at this
    exact this
  dsimp only
  rw [List.drop_zero, Int.zero_add, wrap_id (by omega) (by omega)]
  have := tl31_1x N hN N 0 () c (smm (·.1) c.2.2.2.2.1) [] c.2.2.2.2.2.1 (fun y12 => some (y12.1, (decide (y12.1 ≤ (1152921504606846976 : Int))), ())) (fun r => r.2.1 = true → FitOk N c) hc.toCoreOk hc.parts (by omega) (by omega) (by omega) (fun h => by cases h) hs0 (by omega) rfl (.inl rfl) (Int.le_refl _) fun bs' hb' hs' => wq_some.2 fun hd => ⟨hc, bs', hb', ?_⟩
  · simp only [sm, Int.add_zero] at this
    exact this
  · exact of_decide_eq_true hd

theorem tt7x (hN : 5000 ≤ N) (c : D25) (hw : Wf (Ty.prods [t25]) (c, ())) : Wp (sp7 N (c, ())) fun r => r.1 = true → FitOk N c := by
  unfold sp7 F7
  have no : ∀ Q : Prop, ((false, ()) : D159).1 = true → Q := fun Q h => by cases h
  refine wq_bind.2 (wq_tot (tt29 N hN c) fun r1 => wq_cond.2 ⟨fun _ => wq_some.2 (no _), fun _ => ?_⟩)
  refine wq_bind.2 ((tt30x N hN c hw).mono fun r2 h2 => wq_condV.2 ⟨fun _ => wq_some.2 (no _), fun h2' => ?_⟩)
  exact wq_bind.2 ((tt31x N hN c (h2 h2')).mono fun r h => wq_some.2 h)

end Go.Proofs.Ytkifmnocomadfaa
end

/- What a day's span says. -/
section
set_option linter.unusedVariables false
namespace Go.Proofs.Ytkifmnocomadfaa
open Go.V
variable (N : Nat)

abbrev onS (d : Int) (s : D87) : Prop := s.2.1 ≤ d ∧ d ≤ s.2.2.1
abbrev onP (d : Int) (x : D113) : Prop := x.2.1 ≤ d ∧ d ≤ x.2.2.1

def vS (d : Int) (s : D87) : Int := if onS d s then s.1 else 0
noncomputable def vB (d : Int) (i : Int) (x : D113) : Int := if x.1 = i ∧ onP d x then pt N x 0 else 0
noncomputable def vD (d : Int) (i q : Int) (x : D113) : Int := if x.1 = i ∧ onP d x then pt N x q - pt N x 0 else 0
noncomputable def vP (d : Int) (x : D113) : Int := if onP d x then pt N x 0 else 0

def sn (f : Nat → Int) : Nat → Int
  | 0 => 0
  | n + 1 => sn f n + f n

theorem sn_swap {α : Type} (f : Nat → α → Int) (l : List α) : ∀ n, sn (fun j => smm (f j) l) n = smm (fun x => sn (fun j => f j x) n) l
  | 0 => (smm_zero fun _ _ => rfl).symm
  | n + 1 => by
    have e : smm (fun x => sn (fun j => f j x) (n + 1)) l = smm (fun x => sn (fun j => f j x) n + f n x) l := smm_congr fun a _ => rfl
    rw [e, smm_add, ← sn_swap f l n]
    rfl

theorem sn_one (x : Int) (P : Prop) [Decidable P] (v : Nat → Int) : ∀ n, sn (fun j => if x = (j : Int) ∧ P then v j else 0) n = if (0 ≤ x ∧ x < (n : Int)) ∧ P then v x.toNat else 0
  | 0 => by
    rw [if_neg (by omega)]
    rfl
  | n + 1 => by
    have h := sn_one x P v n
    show sn (fun j => if x = (j : Int) ∧ P then v j else 0) n + (if x = (n : Int) ∧ P then v n else 0) = _
    rw [h]
    by_cases hP : P
    · by_cases hx : x = (n : Int)
      · subst hx
        rw [if_neg (by omega), if_pos ⟨rfl, hP⟩, if_pos ⟨by omega, hP⟩]
        simp
      · rw [if_neg (c := x = (n : Int) ∧ P) (fun h => hx h.1), Int.add_zero]
        by_cases hy : 0 ≤ x ∧ x < (n : Int)
        · rw [if_pos ⟨hy, hP⟩, if_pos ⟨by omega, hP⟩]
        · rw [if_neg (fun h => hy h.1), if_neg (fun h => hy (by omega))]
    · rw [if_neg (fun h => hP h.2), if_neg (fun h => hP h.2), if_neg (fun h => hP h.2)]
      rfl

noncomputable def dayF (c : D25) (d : Int) : Int := smm (vS d) c.2.2.2.2.1 + smm (vP N d) c.2.2.2.2.2.1
noncomputable def dayL (c : D25) (d i q : Int) : Int := smm (vD N d i q) c.2.2.2.2.2.1
noncomputable def lst (c : D25) (d : Int) (i : Nat) : List Int := (List.range ((rdAt (t := t67) c.2.2.2.1 (i : Int)).2.2.1.toNat + 1)).map fun q : Nat => dayL N c d (i : Int) (q : Int)

variable {N} in
theorem lst_len {c : D25} {d : Int} {i : Nat} : (lst N c d i).length = (rdAt (t := t67) c.2.2.2.1 (i : Int)).2.2.1.toNat + 1 := by simp [lst]
variable {N} in
theorem lst_rd {c : D25} {d : Int} {i q : Nat} (hq : q < (rdAt (t := t67) c.2.2.2.1 (i : Int)).2.2.1.toNat + 1) : rdI (lst N c d i) (q : Int) = dayL N c d (i : Int) (q : Int) := by
  have h : q < (lst N c d i).length := by rw [lst_len]; exact hq
  rw [show rdI (lst N c d i) (q : Int) = _ from rdAt_at (t := .int .i64) _ q h]
  simp [lst]

variable {N} in
theorem dayF_b {c : D25} (hc : FitOk N c) (d : Int) : 0 ≤ dayF N c d ∧ dayF N c d ≤ 1152921504606846976 := by
  obtain ⟨bs, hb, hs⟩ := hc.best
  have h1 := Best.sum N (mxOf_pos hc.core.toCoreOk) (v := vP N d) hb fun x _ => by
    unfold vP
    split
    · exact .inr ⟨0, Int.le_refl _, mxOf_pos hc.core.toCoreOk x, rfl⟩
    · exact .inl rfl
  have h2 : 0 ≤ smm (vS d) c.2.2.2.2.1 := smm_pos fun s hs => by
    unfold vS
    split
    · exact (hc.core.amt s hs).1
    · exact Int.le_refl _
  have h3 : smm (vS d) c.2.2.2.2.1 ≤ smm (·.1) c.2.2.2.2.1 := smm_le fun s hs => by
    unfold vS
    split
    · exact Int.le_refl _
    · exact (hc.core.amt s hs).1
  unfold dayF
  omega

variable {N} in
theorem dayL_b {c : D25} (hc : FitOk N c) (d : Int) (i q : Int) (h0 : 0 ≤ i) (h1 : i < (c.2.2.2.1.length : Int)) (h2 : 0 ≤ q) (h3 : q ≤ (rdAt (t := t67) c.2.2.2.1 i).2.2.1) : sm60 (dayL N c d i q) := by
  obtain ⟨bs, hb, hs⟩ := hc.best
  have h5 := Best.diff N (mxOf_pos hc.core.toCoreOk) (v := vD N d i q) hb fun x _ => by
    unfold vD
    split
    · rename_i h
      refine .inr ⟨q, h2, ?_, rfl⟩
      unfold mxOf
      rw [h.1, if_pos ⟨h0, h1⟩]
      exact h3
    · exact .inl rfl
  have h6 : 0 ≤ smm (·.1) c.2.2.2.2.1 := smm_pos fun s hs => (hc.core.amt s hs).1
  unfold sm60 dayL
  omega

theorem rdI_set (l : List Int) (q j : Nat) (v : Int) (hj : j < l.length) : rdI (l.set (q : Int).toNat v) (j : Int) = if q = j then v else rdI l (j : Int) := by
  rw [show rdI (l.set (q : Int).toNat v) (j : Int) = _ from rdAt_at (t := .int .i64) _ j (by simpa using hj), show rdI l (j : Int) = _ from rdAt_at (t := .int .i64) l j hj, List.getElem_set]
  simp

section
variable (d : Int) (c : D25) (a0 a1 a2 b0 b1 : Int) (cv1 : List D52)

theorem tl33_0x (k : Nat) : ∀ (i : Nat) (S : Int) (xs : List D87) (cv2 : List D52) (Kx) (Q), xs.length < i + k → i ≤ xs.length → xs.length ≤ 1000 → Wp (Kx (d, (), c, (), a0, a1, a2, (), b0, b1, IntKind.i64.wrap (S + smm (vS d) (xs.drop i)), cv1, cv2, ())) Q →
    Wp (L33_0 N (sp48 N) (sp57 N) k (d, (), c, (), a0, a1, a2, (), b0, b1, IntKind.i64.wrap S, xs, (xs.length : Int), (i : Int), cv1, cv2, ()) Kx) Q := by
  induction k with
  | zero => intro i S xs cv2 Kx Q h1 h2; omega
  | succ k ih =>
    intro i S xs cv2 Kx Q h1 h2 h3 hK
    rw [L33_0]
    dsimp only
    refine wq_condD.2 ⟨fun h => ?_, fun h => ?_⟩
    · have hi : i < xs.length := by omega
      rw [wrap_succ (show i < xs.length by omega) (by omega), wrap_add]
      rw [smm_drop _ hi, ← rd_get xs i hi] at hK
      refine wq_iteN.2 ⟨by omega, wq_iteN.2 ⟨by omega, ?_⟩⟩
      refine wq_condD.2 ⟨fun g1 => wq_condD.2 ⟨fun g2 => ?_, fun g2 => ?_⟩, fun g1 => ?_⟩
      · refine ih (i + 1) _ xs _ Kx Q (by omega) (by omega) h3 ?_
        rw [vS, if_pos ⟨g1, g2⟩, ← Int.add_assoc] at hK
        exact hK
      · refine ih (i + 1) _ xs _ Kx Q (by omega) (by omega) h3 ?_
        rw [vS, if_neg (fun h => g2 h.2), Int.zero_add] at hK
        exact hK
      · refine ih (i + 1) _ xs _ Kx Q (by omega) (by omega) h3 ?_
        rw [vS, if_neg (fun h => g1 h.1), Int.zero_add] at hK
        exact hK
    · have : xs.drop i = [] := List.drop_eq_nil_of_le (by omega)
      rw [this, smm_nil, Int.add_zero] at hK
      exact hK

theorem tl33_3x (hN : 5000 ≤ N) (k : Nat) : ∀ (q : Nat) (fx m base nm im n i : Int) (p : D113) (ms : List D67) (xs : List D113) (cv2 : List D52) (l : List Int) (len : Nat) (Kx) (Q), l.length = len → len ≤ 2001 → partOk c.2.2.2.1.length p → len < q + k → q ≤ len →
    (∀ l' : List Int, l'.length = len → (∀ j : Nat, j < len → rdI l' (j : Int) = if j < q then rdI l (j : Int) else IntKind.i64.wrap (rdI l (j : Int) + (pt N p (j : Int) - base))) → Wp (Kx (d, (), c, (), a0, a1, a2, (), b0, b1, fx, m, ms, nm, im, xs, n, i, cv1, cv2, l', ())) Q) →
    Wp (L33_3 N (sp48 N) (sp57 N) k (d, (), c, (), a0, a1, a2, (), b0, b1, fx, m, (), p, base, ms, nm, im, xs, n, i, (len : Int), (q : Int), cv1, cv2, l, ()) Kx) Q := by
  induction k with
  | zero => intro q fx m base nm im n i p ms xs cv2 l len Kx Q hl h1 hp h2 h3; omega
  | succ k ih =>
    intro q fx m base nm im n i p ms xs cv2 l len Kx Q hl h1 hp h2 h3 hK
    rw [L33_3]
    dsimp only
    refine wq_condD.2 ⟨fun h => ?_, fun h => hK l hl fun j hj => by rw [if_pos (by omega)]⟩
    rw [wrap_succ (show q < len by omega) (by omega)]
    refine wq_bind.2 ((tp57 N hN hp (q : Int)).mono fun r hr => ?_)
    subst hr
    refine wq_iteN.2 ⟨by omega, wq_iteN.2 ⟨by omega, wq_iteN.2 ⟨by omega, wq_iteN.2 ⟨by omega, ?_⟩⟩⟩⟩
    refine ih (q + 1) _ _ _ _ _ _ _ _ _ _ _ _ len Kx Q (by simp [hl]) h1 hp (by omega) (by omega) fun l' hl' hv => hK l' hl' fun j hj => ?_
    rw [hv j hj, rdI_set l q j _ (by omega)]
    by_cases e : q = j
    · subst e
      rw [if_pos (by omega), if_pos rfl, if_neg (by omega)]
      rw [Int.sub_eq_add_neg, wrap_add, Int.add_assoc, ← Int.sub_eq_add_neg]
    · rw [if_neg e]
      by_cases e2 : j < q
      · rw [if_pos (by omega), if_pos e2]
      · rw [if_neg (by omega), if_neg e2]

theorem tl33_2x (hN : 5000 ≤ N) (k : Nat) : ∀ (i : Nat) (S m nm im : Int) (G : Nat → Int) (ms : List D67) (xs : List D113) (cv2 : List D52) (l : List Int) (Kx) (Q), l.length ≤ 2001 → (∀ x ∈ xs, partOk c.2.2.2.1.length x) → xs.length < i + k → i ≤ xs.length → xs.length ≤ 1000 →
    (∀ j : Nat, j < l.length → rdI l (j : Int) = IntKind.i64.wrap (G j)) →
    (∀ l' : List Int, l'.length = l.length → (∀ j : Nat, j < l.length → rdI l' (j : Int) = IntKind.i64.wrap (G j + smm (vD N d m (j : Int)) (xs.drop i))) → Wp (Kx (d, (), c, (), a0, a1, a2, (), b0, b1, IntKind.i64.wrap (S + smm (vB N d m) (xs.drop i)), ms, nm, im, cv1, cv2, l', ())) Q) →
    Wp (L33_2 N (sp48 N) (sp57 N) k (d, (), c, (), a0, a1, a2, (), b0, b1, IntKind.i64.wrap S, m, ms, nm, im, xs, (xs.length : Int), (i : Int), cv1, cv2, l, ()) Kx) Q := by
  induction k with
  | zero => intro i S m nm im G ms xs cv2 l Kx Q hl hx h1 h2; omega
  | succ k ih =>
    intro i S m nm im G ms xs cv2 l Kx Q hl hx h1 h2 h3 hG hK
    rw [L33_2]
    dsimp only
    refine wq_condD.2 ⟨fun h => ?_, fun h => ?_⟩
    · have hi : i < xs.length := by omega
      rw [wrap_succ (show i < xs.length by omega) (by omega)]
      have hp := hx _ (rdAt_mem (t := t113) xs i (by omega) (by omega))
      have e1 : ∀ f : D113 → Int, smm f (xs.drop i) = f (rdAt (t := t113) xs (i : Int)) + smm f (xs.drop (i + 1)) := fun f => by rw [smm_drop _ hi, rdAt_at (t := t113) xs i hi]
      have hKe := hK
      rw [e1] at hKe
      have skip : ¬ ((rdAt (t := t113) xs (i : Int)).1 = m ∧ onP d (rdAt (t := t113) xs (i : Int))) → Wp (L33_2 N (sp48 N) (sp57 N) k (d, (), c, (), a0, a1, a2, (), b0, b1, IntKind.i64.wrap S, m, ms, nm, im, xs, (xs.length : Int), ((i + 1 : Nat) : Int), cv1, cv2, l, ()) Kx) Q := fun hn => by
        refine ih (i + 1) _ _ _ _ G _ xs _ l Kx Q hl hx (by omega) (by omega) h3 hG fun l' hl' hv => ?_
        rw [vB, if_neg hn, Int.zero_add] at hKe
        refine hKe l' hl' fun j hj => ?_
        rw [hv j hj, e1, vD, if_neg hn, Int.zero_add]
      refine wq_iteN.2 ⟨by omega, wq_iteN.2 ⟨by omega, ?_⟩⟩
      refine wq_condM.2 ⟨fun g => skip fun h => g h.1, fun g1 => wq_condD.2 ⟨fun g => skip fun h => by have := h.2.1; omega, fun g2 => wq_condD.2 ⟨fun g => skip fun h => by have := h.2.2; omega, fun g3 => ?_⟩⟩⟩
      have hon : (rdAt (t := t113) xs (i : Int)).1 = m ∧ onP d (rdAt (t := t113) xs (i : Int)) := ⟨g1, by omega, by omega⟩
      refine wq_bind.2 ((tp57 N hN hp 0).mono fun r hr => ?_)
      subst hr
      dsimp only
      rw [wrap_add]
      refine tl33_3x N d c a0 a1 a2 b0 b1 cv1 hN N 0 _ _ _ _ _ _ _ _ _ xs _ l l.length _ Q rfl hl hp (by omega) (by omega) fun l' hl' hv => ?_
      dsimp only
      rw [wrap_succ (show i < xs.length by omega) (by omega)]
      refine ih (i + 1) _ _ _ _ (fun j => G j + (pt N (rdAt (t := t113) xs (i : Int)) (j : Int) - pt N (rdAt (t := t113) xs (i : Int)) 0)) _ xs _ l' Kx Q (by omega) hx (by omega) (by omega) h3 (fun j hj => ?_) fun l2 hl2 hv2 => ?_
      · rw [hv j (by omega), if_neg (by omega), hG j (by omega), wrap_add]
      · rw [vB, if_pos hon, ← Int.add_assoc] at hKe
        refine hKe l2 (by omega) fun j hj => ?_
        rw [hv2 j (by omega), e1, vD, if_pos hon, ← Int.add_assoc]
    · have : xs.drop i = [] := List.drop_eq_nil_of_le (by omega)
      rw [this] at hK
      simp only [smm_nil, Int.add_zero] at hK
      exact hK l rfl hG

theorem tl33_1x (hN : 5000 ≤ N) (hc : FitOk N c) (k : Nat) : ∀ (i : Nat) (S : Int) (cv2 : List D52) (Kx) (Q), c.2.2.2.1.length < i + k → i ≤ c.2.2.2.1.length → cv2.length = i → (∀ j, j < i → ∃ x, cv2[j]? = some x ∧ OfOk (lst N c d j) x) →
    (∀ (cv : List D52), cv.length = c.2.2.2.1.length → (∀ j, j < c.2.2.2.1.length → ∃ x, cv[j]? = some x ∧ OfOk (lst N c d j) x) → Wp (Kx ((), a0, a1, a2, (), b0, b1, IntKind.i64.wrap (S + sn (fun j => smm (vB N d (j : Int)) c.2.2.2.2.2.1) c.2.2.2.1.length), cv1, cv, ())) Q) →
    Wp (L33_1 N (sp48 N) (sp57 N) k (d, (), c, (), a0, a1, a2, (), b0, b1, IntKind.i64.wrap (S + sn (fun j => smm (vB N d (j : Int)) c.2.2.2.2.2.1) i), c.2.2.2.1, (c.2.2.2.1.length : Int), (i : Int), cv1, cv2, ()) Kx) Q := by
  have hnp := hc.core.np
  have hnm := hc.core.nm
  induction k with
  | zero => intro i S cv2 Kx Q h1 h2; omega
  | succ k ih =>
    intro i S cv2 Kx Q h1 h2 h4 h5 hK
    rw [L33_1]
    dsimp only
    refine wq_condD.2 ⟨fun h => ?_, fun h => ?_⟩
    · have hmi := hc.core.meters _ (rdAt_mem (t := t67) c.2.2.2.1 i (by omega) (by omega))
      have hw : IntKind.i64.wrap ((rdAt (t := t67) c.2.2.2.1 (i : Int)).2.2.1 + 1) = (rdAt (t := t67) c.2.2.2.1 (i : Int)).2.2.1 + 1 := wrap_id (by have := hmi.1; omega) (by have := hmi.2; omega)
      rw [hw]
      have h6 := hmi.1
      have h7 := hmi.2
      refine wq_iteN.2 ⟨by omega, wq_iteN.2 ⟨by omega, wq_iteN.2 ⟨rfl, wq_iteN.2 ⟨by omega, wq_iteN.2 ⟨by omega, ?_⟩⟩⟩⟩⟩
      have hrl : (List.replicate ((rdAt (t := t67) c.2.2.2.1 (i : Int)).2.2.1 + 1).toNat (0 : Int)).length = (rdAt (t := t67) c.2.2.2.1 (i : Int)).2.2.1.toNat + 1 := by simp; omega
      refine tl33_2x N d c a0 a1 a2 b0 b1 cv1 hN N 0 _ _ _ _ (fun _ => 0) _ c.2.2.2.2.2.1 _ _ _ Q (by omega) hc.core.parts (by omega) (by omega) (by omega) (fun j hj => ?_) fun l' hl' hv => ?_
      · rw [rd_replicate _ _ (by simpa using hj), wrap_id (by omega) (by omega)]
      · dsimp only
        have he : l' = lst N c d i := by
          refine List.ext_getElem (by rw [hl', lst_len, hrl]) fun j hj1 hj2 => ?_
          have a1 := hv j (by omega)
          have a2 := lst_rd (N := N) (c := c) (d := d) (i := i) (q := j) (by rw [← lst_len (N := N) (d := d)]; exact hj2)
          rw [show rdI l' (j : Int) = _ from rdAt_at (t := .int .i64) l' j hj1] at a1
          rw [show rdI (lst N c d i) (j : Int) = _ from rdAt_at (t := .int .i64) _ j hj2] at a2
          rw [a1, a2, List.drop_zero, Int.zero_add]
          have hb := dayL_b hc d (i : Int) (j : Int) (by omega) (by omega) (by omega) (by omega)
          have e : smm (vD N d (i : Int) (j : Int)) c.2.2.2.2.2.1 = dayL N c d (i : Int) (j : Int) := rfl
          rw [e]
          unfold sm60 at hb
          exact wrap_id (by omega) (by omega)
        have hne : lst N c d i ≠ [] := fun e => by
          have := lst_len (N := N) (c := c) (d := d) (i := i)
          rw [e] at this
          simp at this
        have hin : ∀ v ∈ lst N c d i, inB v := fun v hv => by
          obtain ⟨q, hq, rfl⟩ := List.mem_map.1 hv
          have := List.mem_range.1 hq
          have hb := dayL_b hc d (i : Int) (q : Int) (by omega) (by omega) (by omega) (by omega)
          unfold sm60 at hb
          exact ⟨by omega, by omega⟩
        rw [he]
        refine wq_bind.2 ((tp48c N hN (l := lst N c d i) (by rw [lst_len]; omega) hne hin).mono fun r hr => ?_)
        rw [wrap_succ (show i < c.2.2.2.1.length by omega) (by omega), Int.add_assoc, List.drop_zero]
        refine wq_iteN.2 ⟨by omega, ih (i + 1) S _ Kx Q (by omega) (by omega) (by simp [h4]) ?_ hK⟩
        intro j hj
        by_cases e : j = i
        · subst e
          exact ⟨r.1, by rw [List.getElem?_append_right (by omega), h4, Nat.sub_self]; rfl, hr.2⟩
        · obtain ⟨x, x1, x2⟩ := h5 j (by omega)
          exact ⟨x, by rw [List.getElem?_append_left (by omega)]; exact x1, x2⟩
    · have e : i = c.2.2.2.1.length := by omega
      rw [e]
      exact hK cv2 (by omega) (by rw [← e]; exact h5)

end

structure Says (c : D25) (d : Int) (s : D40) : Prop where
  fixed : s.2.2.1 = dayF N c d
  len : s.2.2.2.1.length = c.2.2.2.1.length
  cur : ∀ j, j < c.2.2.2.1.length → ∃ x, s.2.2.2.1[j]? = some x ∧ OfOk (lst N c d j) x

theorem tp33x (hN : 5000 ≤ N) (c : D25) (hc : FitOk N c) (d : Int) : Wp (sp33 N (c, d, ())) fun r => r.1.1 = d ∧ r.1.2.1 = d ∧ Says N c d r.1 := by
  have h1 := hc.core.ns
  have h2 := hc.core.nm
  have hw0 : (0 : Int) = IntKind.i64.wrap 0 := by rw [wrap_id] <;> decide
  unfold sp33 F33
  dsimp only
  have key := tl33_0x N d c 0 0 0 d d [] N 0 0 c.2.2.2.2.1 [] (fun y4 =>
    L33_1 N (sp48 N) (sp57 N) N (y4.1, (), y4.2.2.1, (), y4.2.2.2.2.1, y4.2.2.2.2.2.1, y4.2.2.2.2.2.2.1, (), y4.2.2.2.2.2.2.2.2.1, y4.2.2.2.2.2.2.2.2.2.1, y4.2.2.2.2.2.2.2.2.2.2.1, y4.2.2.1.2.2.2.1, (y4.2.2.1.2.2.2.1.length : Int), (0 : Int), y4.2.2.2.2.2.2.2.2.2.2.2.1, y4.2.2.2.2.2.2.2.2.2.2.2.2.1, ()) fun y17 =>
    some ((y17.2.2.2.2.2.1, y17.2.2.2.2.2.2.1, y17.2.2.2.2.2.2.2.1, y17.2.2.2.2.2.2.2.2.2), ())) (fun r => r.1.1 = d ∧ r.1.2.1 = d ∧ Says N c d r.1) (by omega) (by omega) (by omega) ?_
  · rw [← hw0] at key
    exact key
  dsimp only
  rw [List.drop_zero, Int.zero_add]
  have key := tl33_1x N d c 0 0 0 d d [] hN hc N 0 (smm (vS d) c.2.2.2.2.1) [] (fun y17 => some ((y17.2.2.2.2.2.1, y17.2.2.2.2.2.2.1, y17.2.2.2.2.2.2.2.1, y17.2.2.2.2.2.2.2.2.2), ())) (fun r => r.1.1 = d ∧ r.1.2.1 = d ∧ Says N c d r.1) (by omega) (by omega) rfl (fun j hj => by omega) fun cv h3 h4 => ?_
  · rw [sn, Int.add_zero] at key
    exact key
  refine wq_some.2 ⟨rfl, rfl, ?_, h3, h4⟩
  have e : sn (fun j => smm (vB N d (j : Int)) c.2.2.2.2.2.1) c.2.2.2.1.length = smm (vP N d) c.2.2.2.2.2.1 := by
    rw [sn_swap (fun j x => vB N d (j : Int) x)]
    refine smm_congr fun x hx => ?_
    have hp := hc.core.parts x hx
    unfold vB vP
    rw [sn_one x.1 (onP d x) (fun _ => pt N x 0)]
    by_cases h : onP d x
    · rw [if_pos ⟨⟨hp.1, hp.2.1⟩, h⟩, if_pos h]
    · rw [if_neg (fun g => h g.2), if_neg h]
  have hb := dayF_b hc d
  have e2 : smm (vS d) c.2.2.2.2.1 + smm (vP N d) c.2.2.2.2.2.1 = dayF N c d := rfl
  dsimp only
  rw [e, e2]
  exact wrap_id (by omega) (by omega)

end Go.Proofs.Ytkifmnocomadfaa
end
