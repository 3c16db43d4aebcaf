/- A day's span. -/
import Derived.Test.YtkifmnocomadfaaGKa
section
set_option linter.unusedVariables false
namespace Go.Proofs.Ytkifmnocomadfaa
open Go.V
variable (N : Nat)

section
variable (d : Int) (c : D25) (a0 a1 a2 b0 b1 : Int) (cv1 : List D52)

end

abbrev spanOk (n : Nat) (s : D40) : Prop := s.2.2.2.1.length = n ∧ ∀ x ∈ s.2.2.2.1, curveOk x

end Go.Proofs.Ytkifmnocomadfaa
end

/- The normal form that the reference makes. -/
section
set_option linter.unusedVariables false
namespace Go.Proofs.Ytkifmnocomadfaa
open Go.V
variable (N : Nat)

structure Inv (n : Nat) (e : Int) (sp : List D40) : Prop where
  apart : sp.Pairwise fun s t => s.2.1 < t.1
  each : ∀ s ∈ sp, s.1 ≤ s.2.1 ∧ s.2.1 ≤ e ∧ spanOk n s

theorem last_split {α : Type} (l : List α) (h : 0 < l.length) : ∃ a x, l = a ++ [x] ∧ l.length = a.length + 1 := by
  refine ⟨l.dropLast, l.getLast (by intro e; subst e; cases h), (List.dropLast_concat_getLast _).symm, ?_⟩
  simp; omega

structure FormOk (f : D31) : Prop where
  inv : Inv f.2.2.2.1.length f.2.2.1 f.2.2.2.2.1
  ns : f.2.2.2.2.1.length ≤ 4002
  nm : f.2.2.2.1.length ≤ 4

end Go.Proofs.Ytkifmnocomadfaa
end

/- A curve's number: the program and the reference tell the same. -/
section
set_option linter.unusedVariables false
namespace Go.Proofs.Ytkifmnocomadfaa
open Go.V
variable (N : Nat)

def lastG (gs : List D77) (q : Int) : Option D77 := gs.reverse.find? fun g => decide (g.1 ≤ q)

def stepsG (g : D77) (q : Int) : Int := IntKind.i64.wrap ((IntKind.i64.wrap (q - g.1)).tdiv g.2.2.1)

def valG (g : D77) (q : Int) : Int := if g.2.2.1 < 1 then g.2.1 else
  IntKind.i64.wrap (g.2.1 + IntKind.i64.wrap ((if IntKind.i64.wrap (g.2.2.2.2.1 - 1) < stepsG g q then IntKind.i64.wrap (g.2.2.2.2.1 - 1) else stepsG g q) * g.2.2.2.1))

def atS (k : D52) (q : Int) : Int × D159 := if q < 0 then (0, false, ()) else if q > k.1 then (0, false, ()) else match lastG k.2.1 q with
  | none => (0, false, ())
  | some g => (valG g q, true, ())

theorem lastG_succ (gs : List D77) (q : Int) (m : Nat) (h : m < gs.length) (g : D77) (hg : rdAt (t := t77) gs (m : Int) = g) : lastG (gs.take (m + 1)) q = if g.1 ≤ q then some g else lastG (gs.take m) q := by
  have e : g = gs[m] := hg.symm.trans (rdAt_at (t := t77) gs m h)
  have e2 : gs.take (m + 1) = gs.take m ++ [gs[m]] := by rw [List.take_add_one, List.getElem?_eq_getElem h]; rfl
  rw [e]
  unfold lastG
  rw [e2, List.reverse_append]
  simp only [List.reverse_cons, List.reverse_nil, List.nil_append, List.singleton_append, List.find?_cons]
  by_cases hq : gs[m].1 ≤ q
  · simp [hq]
  · simp [hq]

theorem tl34 (q : Int) (c : D52) (hc : c.2.1.length ≤ 2001) (k : Nat) : ∀ (m : Nat) (Kx) (Q), m ≤ c.2.1.length → m < k → (∀ i : Int, (i = -1 ∧ lastG (c.2.1.take m) q = none) ∨ (0 ≤ i ∧ i < (c.2.1.length : Int) ∧ lastG (c.2.1.take m) q = some (rdAt (t := t77) c.2.1 i)) → Wp (Kx (q, (), c, i, ())) Q) →
    Wp (L34_0 N k (q, (), c, (m : Int) - 1, ()) Kx) Q := by
  induction k with
  | zero => intro m Kx Q h1 h2; omega
  | succ k ih =>
    intro m Kx Q h1 h2 hK
    rw [L34_0]
    dsimp only
    refine wq_condD.2 ⟨fun h => ?_, fun h => hK _ (.inl ⟨by omega, ?_⟩)⟩
    · obtain ⟨m, rfl⟩ : ∃ j, m = j + 1 := ⟨m - 1, by omega⟩
      have e : ((m + 1 : Nat) : Int) - 1 = (m : Int) := by omega
      rw [e]
      obtain ⟨g, hge⟩ : ∃ g : D77, rdAt (t := t77) c.2.1 (m : Int) = g := ⟨_, rfl⟩
      have hs := lastG_succ c.2.1 q m (by omega) g hge
      rw [hge]
      refine wq_iteN.2 ⟨by omega, wq_iteN.2 ⟨by omega, wq_condD.2 ⟨fun hg => ?_, fun hg => hK _ (.inr ⟨by omega, by omega, ?_⟩)⟩⟩⟩
      · rw [wrap_id (n := (m : Int) - 1) (by omega) (by omega)]
        rw [if_neg (by omega)] at hs
        rw [hs] at hK
        exact ih m Kx Q (by omega) (by omega) hK
      · rw [hs, if_pos (by omega), hge]
    · have : m = 0 := by omega
      subst this
      rfl

theorem tp34 (hN : 5000 ≤ N) (c : D52) (q : Int) (hc : c.2.1.length ≤ 2001) : Wp (sp34 N (c, q, ())) fun r => r = atS c q := by
  unfold sp34 F34
  dsimp only
  refine wq_condD.2 ⟨fun h => wq_some.2 (by unfold atS; rw [if_pos h]), fun h1 => wq_condD.2 ⟨fun h => wq_some.2 (by unfold atS; rw [if_neg h1, if_pos h]), fun h2 => ?_⟩⟩
  rw [wrap_id (n := (c.2.1.length : Int) - 1) (by omega) (by omega)]
  have hat : atS c q = match lastG c.2.1 q with
    | none => (0, false, ())
    | some g => (valG g q, true, ()) := by unfold atS; rw [if_neg h1, if_neg h2]
  refine tl34 N q c hc N c.2.1.length _ _ (Nat.le_refl _) (by omega) fun i hi => ?_
  rw [List.take_length] at hi
  dsimp only
  rcases hi with ⟨rfl, hn⟩ | ⟨i1, i2, hs⟩
  · exact wq_condD.2 ⟨fun _ => wq_some.2 (by rw [hat, hn]), fun h => by omega⟩
  · rw [hs] at hat
    dsimp only at hat
    refine wq_condD.2 ⟨fun h => by omega, fun _ => wq_iteN.2 ⟨i1, wq_iteN.2 ⟨i2, wq_condD.2 ⟨fun hw => wq_some.2 ?_, fun hw => ?_⟩⟩⟩⟩
    · rw [hat]; unfold valG; rw [if_pos hw]
    · exact wq_iteN'.2 ⟨by omega, wq_some.2 (by rw [hat]; unfold valG stepsG; rw [if_neg hw])⟩

theorem wrap_add' (a b : Int) : IntKind.i64.wrap (a + IntKind.i64.wrap b) = IntKind.i64.wrap (a + b) := by simp only [wrap_i64]; omega

theorem tl26_1 (q : Int) (g : D77) (ok : Bool) (gs : List D77) (n i : Int) (hg : grpOk g) (M : Int) (hM : 0 < g.2.2.1 → (0 ≤ M ∧ M ≤ g.2.2.2.2.1 - 1 ∧ M ≤ stepsG g q ∧ (M = g.2.2.2.2.1 - 1 ∨ M = stepsG g q))) (k : Nat) : ∀ (j : Nat) (Kx) (Q), 2002 < j + k → (0 < g.2.2.1 → (j : Int) ≤ M) → (¬ 0 < g.2.2.1 → j = 0) →
    Wp (Kx (q, IntKind.i64.wrap (g.2.1 + (if 0 < g.2.2.1 then M else 0) * g.2.2.2.1), ok, gs, n, i, ())) Q →
    Wp (L26_1 N k (q, IntKind.i64.wrap (g.2.1 + (j : Int) * g.2.2.2.1), ok, (), g, (j : Int) + 1, gs, n, i, ()) Kx) Q := by
  obtain ⟨g1, g2, g3, g4, g5, g6⟩ := hg
  induction k with
  | zero =>
    intro j Kx Q h1 h2 h3 hK
    by_cases hw : 0 < g.2.2.1
    · have := hM hw; have := h2 hw; omega
    · have := h3 hw; omega
  | succ k ih =>
    intro j Kx Q h1 h2 h3 hK
    rw [L26_1]
    dsimp only
    refine wq_condD.2 ⟨fun hw => ?_, fun hw => ?_⟩
    · have hw : 0 < g.2.2.1 := hw
      obtain ⟨m1, m2, m3, m4⟩ := hM hw
      have hj := h2 hw
      rw [if_pos hw] at hK
      have done : (j : Int) = M → Wp (Kx (q, IntKind.i64.wrap (g.2.1 + (j : Int) * g.2.2.2.1), ok, gs, n, i, ())) Q := fun e => by rw [e]; exact hK
      refine wq_condD.2 ⟨fun hc => wq_iteN'.2 ⟨by omega, wq_condD.2 ⟨fun hd => ?_, fun hd => done ?_⟩⟩, fun hc => done (by omega)⟩
      · have e1 : IntKind.i64.wrap ((j : Int) + 1 + 1) = ((j + 1 : Nat) : Int) + 1 := by rw [wrap_id] <;> omega
        have e2 : IntKind.i64.wrap (IntKind.i64.wrap (g.2.1 + (j : Int) * g.2.2.2.1) + g.2.2.2.1) = IntKind.i64.wrap (g.2.1 + ((j + 1 : Nat) : Int) * g.2.2.2.1) := by
          rw [wrap_add]
          congr 1
          push_cast
          rw [Int.add_mul, Int.one_mul, Int.add_assoc]
        rw [e1, e2]
        refine ih (j + 1) Kx Q (by omega) (fun _ => ?_) (fun h => absurd hw h) (by rw [if_pos hw]; exact hK)
        have hd : (j : Int) + 1 ≤ stepsG g q := hd
        omega
      · have hd : ¬ (j : Int) + 1 ≤ stepsG g q := hd
        omega
    · have hw : ¬ 0 < g.2.2.1 := hw
      have := h3 hw
      subst this
      rw [if_neg hw] at hK
      exact hK

def stG (o : Option D77) (q : Int) : Int × D159 := match o with
  | none => (0, false, ())
  | some g => (valG g q, true, ())

theorem tl26_0 (hN : 5000 ≤ N) (q : Int) (hq0 : 0 ≤ q) (hq1 : q ≤ 9223372036854775807) (gs : List D77) (hg : ∀ g ∈ gs, grpOk g) (hl : gs.length ≤ 2001) (k : Nat) : ∀ (m : Nat) (Kx) (Q), m ≤ gs.length → gs.length < m + k →
    Wp (Kx (stG (lastG gs q) q)) Q → Wp (L26_0 N k (q, (stG (lastG (gs.take m) q) q).1, (stG (lastG (gs.take m) q) q).2.1, gs, (gs.length : Int), (m : Int), ()) Kx) Q := by
  induction k with
  | zero => intro m Kx Q h1 h2; omega
  | succ k ih =>
    intro m Kx Q h1 h2 hK
    rw [L26_0]
    dsimp only
    refine wq_condD.2 ⟨fun h => ?_, fun h => ?_⟩
    · obtain ⟨g, hge⟩ : ∃ g : D77, rdAt (t := t77) gs (m : Int) = g := ⟨_, rfl⟩
      have hs := lastG_succ gs q m (by omega) g hge
      have hgm := hg _ (rdAt_mem (t := t77) gs (m : Int) (by omega) (by omega))
      have hnext := ih (m + 1) Kx Q (by omega) (by omega) hK
      rw [wrap_succ (show m < gs.length by omega) (by omega)]
      rw [hge] at hgm ⊢
      refine wq_iteN.2 ⟨by omega, wq_iteN.2 ⟨by omega, wq_condD.2 ⟨fun hgq => ?_, fun hgq => ?_⟩⟩⟩
      · rw [hs, if_neg (by omega)] at hnext
        exact hnext
      · obtain ⟨g1, g2, g3, g4, g5, g6⟩ := hgm
        refine wq_condD.2 ⟨fun hneg => by omega, fun _ => ?_⟩
        rw [hs, if_pos (by omega)] at hnext
        have hst : ∀ hw : 0 < g.2.2.1, 0 ≤ stepsG g q := fun hw => by
          unfold stepsG
          rw [wrap_id (n := q - g.1) (by omega) (by omega)]
          have a1 : 0 ≤ (q - g.1).tdiv g.2.2.1 := Int.tdiv_nonneg (by omega) (by omega)
          have a2 : (q - g.1).tdiv g.2.2.1 ≤ q - g.1 := Int.tdiv_le_self _ (by omega)
          rw [wrap_id (by omega) (by omega)]
          exact a1
        have e0 : g.2.1 = IntKind.i64.wrap (g.2.1 + ((0 : Nat) : Int) * g.2.2.2.1) := by
          rw [Int.natCast_zero, Int.zero_mul, Int.add_zero, wrap_id (by omega) (by omega)]
        have key := tl26_1 N q g true gs (gs.length : Int) (m : Int) ⟨g1, g2, g3, g4, g5, g6⟩ (if g.2.2.2.2.1 - 1 < stepsG g q then g.2.2.2.2.1 - 1 else stepsG g q) (fun hw => by
          have := hst hw
          split <;> omega) N 0 (fun y5 => L26_0 N k (y5.1, y5.2.1, y5.2.2.1, y5.2.2.2.1, y5.2.2.2.2.1, (IntKind.i64.wrap (y5.2.2.2.2.2.1 + (1 : Int))), ()) Kx) Q (by omega) (fun hw => by have := hst hw; split <;> omega) (fun _ => rfl) (by
          dsimp only
          rw [wrap_succ (show m < gs.length by omega) (by omega)]
          have ev : IntKind.i64.wrap (g.2.1 + (if 0 < g.2.2.1 then (if g.2.2.2.2.1 - 1 < stepsG g q then g.2.2.2.2.1 - 1 else stepsG g q) else 0) * g.2.2.2.1) = valG g q := by
            unfold valG
            by_cases hw : 0 < g.2.2.1
            · rw [if_pos hw, if_neg (show ¬ g.2.2.1 < 1 by omega), wrap_add', wrap_id (n := g.2.2.2.2.1 - 1) (by omega) (by omega)]
            · rw [if_neg hw, if_pos (show g.2.2.1 < 1 by omega), Int.zero_mul, Int.add_zero, wrap_id (by omega) (by omega)]
          rw [ev]
          exact hnext)
        rw [← e0] at key
        exact key
    · have : m = gs.length := by omega
      subst this
      rw [List.take_length]
      exact hK

theorem tp26 (hN : 5000 ≤ N) (c : D52) (q : Int) (hq1 : q ≤ 9223372036854775807) (hc : curveOk c) : Wp (sp26 N (c, q, ())) fun r => r = atS c q := by
  unfold sp26 F26
  dsimp only
  refine wq_condD.2 ⟨fun h => wq_some.2 (by unfold atS; rw [if_pos h]), fun h1 => wq_condD.2 ⟨fun h => wq_some.2 (by unfold atS; rw [if_neg h1, if_pos h]), fun h2 => ?_⟩⟩
  have hat : atS c q = stG (lastG c.2.1 q) q := by unfold atS stG; rw [if_neg h1, if_neg h2]
  have := tl26_0 N hN q (by omega) hq1 c.2.1 hc.1 hc.2 N 0 (fun y6 => some y6) (fun r => r = atS c q) (by omega) (by have := hc.2; omega) (wq_some.2 hat.symm)
  exact this

end Go.Proofs.Ytkifmnocomadfaa
end
