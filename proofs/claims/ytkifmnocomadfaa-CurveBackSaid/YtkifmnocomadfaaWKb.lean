/- A day's span. -/
import Derived.Test.YtkifmnocomadfaaWKa
section
set_option linter.unusedVariables false
namespace Go.Proofs.Ytkifmnocomadfaa
open Go.V
variable (N : Nat)

section
variable (d : Int) (c : D25) (a0 a1 a2 b0 b1 : Int) (cv1 : List D52)

theorem tl33_0 (k : Nat) : ∀ (i : Nat) (fx : Int) (xs : List D87) (cv2 : List D52) (Kx) (Q), xs.length < i + k → i ≤ xs.length → xs.length ≤ 1000 → (∀ fx', Wp (Kx (d, (), c, (), a0, a1, a2, (), b0, b1, fx', cv1, cv2, ())) Q) →
    Wp (L33_0 N (sp48 N) (sp57 N) k (d, (), c, (), a0, a1, a2, (), b0, b1, fx, xs, (xs.length : Int), (i : Int), cv1, cv2, ()) Kx) Q := by
  induction k with
  | zero => intro i fx xs cv2 Kx Q h1 h2; omega
  | succ k ih =>
    intro i fx xs cv2 Kx Q h1 h2 h3 hK
    rw [L33_0]
    dsimp only
    refine wq_condD.2 ⟨fun h => ?_, fun h => hK _⟩
    rw [wrap_succ (show i < xs.length by omega) (by omega)]
    repeat' first
    | exact ih (i + 1) _ xs _ Kx Q (by omega) (by omega) h3 hK
    | exact wq_some.2 trivial
    | refine wq_condD.2 ⟨fun _ => ?_, fun _ => ?_⟩
    | refine wq_condN.2 ⟨fun _ => ?_, fun _ => ?_⟩
    | refine wq_condE.2 ⟨fun _ => ?_, fun _ => ?_⟩
    | refine wq_condM.2 ⟨fun _ => ?_, fun _ => ?_⟩
    | refine wq_cond.2 ⟨fun _ => ?_, fun _ => ?_⟩
    | refine wq_iteN'.2 ⟨by omega, ?_⟩
    | refine wq_iteN.2 ⟨by omega, ?_⟩
    | refine wq_iteN'.2 ⟨by decide, ?_⟩

theorem tl33_3 (hN : 5000 ≤ N) (k : Nat) : ∀ (q : Nat) (fx m base nm im n i : Int) (p : D113) (ms : List D67) (xs : List D113) (cv2 : List D52) (l : List Int) (len : Nat) (Kx) (Q), l.length = len → len ≤ 2001 → partOk c.2.2.2.1.length p → len < q + k → q ≤ len →
    (∀ l' : List Int, l'.length = len → Wp (Kx (d, (), c, (), a0, a1, a2, (), b0, b1, fx, m, ms, nm, im, xs, n, i, cv1, cv2, l', ())) Q) →
    Wp (L33_3 N (sp48 N) (sp57 N) k (d, (), c, (), a0, a1, a2, (), b0, b1, fx, m, (), p, base, ms, nm, im, xs, n, i, (len : Int), (q : Int), cv1, cv2, l, ()) Kx) Q := by
  induction k with
  | zero => intro q fx m base nm im n i p ms xs cv2 l len Kx Q hl h1 hp h2 h3; omega
  | succ k ih =>
    intro q fx m base nm im n i p ms xs cv2 l len Kx Q hl h1 hp h2 h3 hK
    rw [L33_3]
    dsimp only
    refine wq_condD.2 ⟨fun h => ?_, fun h => hK l hl⟩
    rw [wrap_succ (show q < len by omega) (by omega)]
    refine wq_bind.2 (wq_tot (tt57 N hN _ (by have := hp.2.2.1; dsimp only; omega) (by have := hp.2.2.2; dsimp only; omega)) fun r => ?_)
    refine wq_iteN.2 ⟨by omega, wq_iteN.2 ⟨by omega, wq_iteN.2 ⟨by omega, wq_iteN.2 ⟨by omega, ?_⟩⟩⟩⟩
    exact ih (q + 1) _ _ _ _ _ _ _ _ _ _ _ _ len Kx Q (by simp [hl]) h1 hp (by omega) (by omega) hK

theorem tl33_2 (hN : 5000 ≤ N) (k : Nat) : ∀ (i : Nat) (fx m nm im : Int) (ms : List D67) (xs : List D113) (cv2 : List D52) (l : List Int) (Kx) (Q), l.length ≤ 2001 → (∀ x ∈ xs, partOk c.2.2.2.1.length x) → xs.length < i + k → i ≤ xs.length → xs.length ≤ 1000 →
    (∀ (fx' : Int) (l' : List Int), l'.length = l.length → Wp (Kx (d, (), c, (), a0, a1, a2, (), b0, b1, fx', ms, nm, im, cv1, cv2, l', ())) Q) →
    Wp (L33_2 N (sp48 N) (sp57 N) k (d, (), c, (), a0, a1, a2, (), b0, b1, fx, m, ms, nm, im, xs, (xs.length : Int), (i : Int), cv1, cv2, l, ()) Kx) Q := by
  induction k with
  | zero => intro i fx m nm im ms xs cv2 l Kx Q hl hx h1 h2; omega
  | succ k ih =>
    intro i fx m nm im ms xs cv2 l Kx Q hl hx h1 h2 h3 hK
    rw [L33_2]
    dsimp only
    refine wq_condD.2 ⟨fun h => ?_, fun h => hK _ l rfl⟩
    rw [wrap_succ (show i < xs.length by omega) (by omega)]
    have hp := hx _ (rdAt_mem (t := t113) xs i (by omega) (by omega))
    refine wq_iteN.2 ⟨by omega, wq_iteN.2 ⟨by omega, ?_⟩⟩
    repeat' first
    | exact ih (i + 1) _ _ _ _ _ xs _ l Kx Q hl hx (by omega) (by omega) h3 hK
    | refine wq_condD.2 ⟨fun _ => ?_, fun _ => ?_⟩
    | refine wq_condM.2 ⟨fun _ => ?_, fun _ => ?_⟩
    refine wq_bind.2 (wq_tot (tt57 N hN _ (by have := hp.2.2.1; dsimp only; omega) (by have := hp.2.2.2; dsimp only; omega)) fun r => ?_)
    refine tl33_3 N d c a0 a1 a2 b0 b1 cv1 hN N 0 _ _ _ _ _ _ _ _ _ xs _ l l.length _ Q rfl hl hp (by omega) (by omega) fun l' hl' => ?_
    dsimp only
    rw [wrap_succ (show i < xs.length by omega) (by omega)]
    exact ih (i + 1) _ _ _ _ _ xs _ l' Kx Q (by omega) hx (by omega) (by omega) h3 fun fx' l2 h => hK fx' l2 (by omega)

theorem tl33_1 (hN : 5000 ≤ N) (hc : CoreOk c) (k : Nat) : ∀ (i : Nat) (fx : Int) (ms : List D67) (cv2 : List D52) (Kx) (Q), (∀ m ∈ ms, meterOk m) → ms.length < i + k → i ≤ ms.length → ms.length ≤ 1000 → cv2.length = i → (∀ x ∈ cv2, curveOk x) →
    (∀ (fx' : Int) (cv : List D52), cv.length = ms.length → (∀ x ∈ cv, curveOk x) → Wp (Kx ((), a0, a1, a2, (), b0, b1, fx', cv1, cv, ())) Q) →
    Wp (L33_1 N (sp48 N) (sp57 N) k (d, (), c, (), a0, a1, a2, (), b0, b1, fx, ms, (ms.length : Int), (i : Int), cv1, cv2, ()) Kx) Q := by
  have hnp := hc.np
  induction k with
  | zero => intro i fx ms cv2 Kx Q hm h1 h2; omega
  | succ k ih =>
    intro i fx ms cv2 Kx Q hm h1 h2 h3 h4 h5 hK
    rw [L33_1]
    dsimp only
    refine wq_condD.2 ⟨fun h => ?_, fun h => hK _ _ (by omega) h5⟩
    have hmi := hm _ (rdAt_mem (t := t67) ms i (by omega) (by omega))
    have hw : IntKind.i64.wrap ((rdAt (t := t67) ms (i : Int)).2.2.1 + 1) = (rdAt (t := t67) ms (i : Int)).2.2.1 + 1 := wrap_id (by have := hmi.1; omega) (by have := hmi.2; omega)
    rw [hw]
    have h6 := hmi.1
    have h7 := hmi.2
    refine wq_iteN.2 ⟨by omega, wq_iteN.2 ⟨by omega, wq_iteN.2 ⟨rfl, wq_iteN.2 ⟨by omega, wq_iteN.2 ⟨by omega, ?_⟩⟩⟩⟩⟩
    refine tl33_2 N d c a0 a1 a2 b0 b1 cv1 hN N 0 _ _ _ _ _ c.2.2.2.2.2.1 _ _ _ Q (by simp; omega) hc.parts (by omega) (by omega) (by omega) fun fx' l' hl' => ?_
    dsimp only
    refine wq_bind.2 ((tp48 N hN l').mono fun r hr => ?_)
    rw [wrap_succ (show i < ms.length by omega) (by omega)]
    refine wq_iteN.2 ⟨by omega, ih (i + 1) _ ms _ Kx Q hm (by omega) (by omega) h3 (by simp [h4]) ?_ hK⟩
    intro x hx
    rcases List.mem_append.1 hx with hx | hx
    · exact h5 x hx
    · simp only [List.mem_singleton] at hx; subst hx; exact hr

end

abbrev spanOk (n : Nat) (s : D40) : Prop := s.2.2.2.1.length = n ∧ ∀ x ∈ s.2.2.2.1, curveOk x

theorem tp33 (hN : 5000 ≤ N) (c : D25) (hc : CoreOk c) (d : Int) : Wp (sp33 N (c, d, ())) fun r => r.1.1 = d ∧ r.1.2.1 = d ∧ spanOk c.2.2.2.1.length r.1 := by
  have h1 := hc.ns
  have h2 := hc.nm
  unfold sp33 F33
  dsimp only
  refine tl33_0 N d c 0 0 0 d d [] N 0 _ c.2.2.2.2.1 [] _ _ (by omega) (by omega) (by omega) fun fx => ?_
  dsimp only
  refine tl33_1 N d c 0 0 0 d d [] hN hc N 0 _ c.2.2.2.1 [] _ _ hc.meters (by omega) (by omega) (by omega) rfl (fun x hx => by cases hx) fun fx' cv h3 h4 => ?_
  exact wq_some.2 ⟨rfl, rfl, h3, h4⟩

end Go.Proofs.Ytkifmnocomadfaa
end

/- The normal form that the reference makes. -/
section
set_option linter.unusedVariables false
namespace Go.Proofs.Ytkifmnocomadfaa
open Go.V
variable (N : Nat)

theorem tl38 (a b : D52) (Q : D159 → Prop) (hl : a.2.1.length = b.2.1.length) (hb : a.2.1.length ≤ 2001) (k : Nat) : ∀ (i : Nat) (Kx : Unit → Option D159), a.2.1.length < i + k → i ≤ a.2.1.length → (a ≠ b → Q (false, ())) → Wp (Kx ()) Q →
    Wp (L38_0 N k ((), a, (), b, (a.2.1.length : Int), (i : Int), ()) Kx) Q := by
  induction k with
  | zero => intro i Kx h1 h2; omega
  | succ k ih =>
    intro i Kx h1 h2 hQ hK
    rw [L38_0]
    dsimp only
    refine wq_condD.2 ⟨fun h => ?_, fun h => hK⟩
    rw [wrap_succ (show i < a.2.1.length by omega) (by omega)]
    refine wq_iteN.2 ⟨by omega, wq_iteN.2 ⟨by omega, wq_iteN.2 ⟨by omega, wq_iteN.2 ⟨by omega, wq_cond.2 ⟨fun he => wq_some.2 (hQ fun hab => ?_), fun _ => ih (i + 1) Kx (by omega) (by omega) hQ hK⟩⟩⟩⟩⟩
    subst hab
    simp at he

theorem tp38 (hN : 5000 ≤ N) (a b : D52) (ha : curveOk a) : Wp (sp38 N (a, b, ())) fun r => a = b → r.1 = true := by
  unfold sp38 F38
  dsimp only
  refine wq_condM.2 ⟨fun h => wq_some.2 fun e => absurd (by rw [e]) h, fun _ => wq_condM.2 ⟨fun h => wq_some.2 fun e => absurd (by rw [e]) h, fun hl => ?_⟩⟩
  have h2 := ha.2
  exact tl38 N a b _ (by omega) ha.2 N 0 _ (by omega) (by omega) (fun hne e => absurd e hne) (wq_some.2 fun _ => rfl)

theorem tl13 (hN : 5000 ≤ N) (s t : D40) (Q : D159 → Prop) (hl : s.2.2.2.1.length = t.2.2.2.1.length) (hb : s.2.2.2.1.length ≤ 1000) (hs : ∀ x ∈ s.2.2.2.1, curveOk x) (k : Nat) : ∀ (i : Nat) (Kx : Unit → Option D159), s.2.2.2.1.length < i + k → i ≤ s.2.2.2.1.length → (s.2.2.2.1 ≠ t.2.2.2.1 → Q (false, ())) → Wp (Kx ()) Q →
    Wp (L13_0 N (sp38 N) k ((), s, (), t, (s.2.2.2.1.length : Int), (i : Int), ()) Kx) Q := by
  induction k with
  | zero => intro i Kx h1 h2; omega
  | succ k ih =>
    intro i Kx h1 h2 hQ hK
    rw [L13_0]
    dsimp only
    refine wq_condD.2 ⟨fun h => ?_, fun h => hK⟩
    rw [wrap_succ (show i < s.2.2.2.1.length by omega) (by omega)]
    refine wq_iteN.2 ⟨by omega, wq_iteN.2 ⟨by omega, wq_iteN.2 ⟨by omega, wq_iteN.2 ⟨by omega, wq_bind.2 ((tp38 N hN _ _ (hs _ (rdAt_mem (t := t52) _ _ (by omega) (by omega)))).mono fun r hr => wq_condV.2 ⟨fun he => wq_some.2 (hQ fun hab => ?_), fun _ => ih (i + 1) Kx (by omega) (by omega) hQ hK⟩)⟩⟩⟩⟩
    rw [hab] at hr
    rw [hr rfl] at he
    cases he

theorem tp13 (hN : 5000 ≤ N) (s t : D40) {n : Nat} (hs : spanOk n s) (hn : n ≤ 1000) : Wp (sp13 N (s, t, ())) fun r => s.2.2 = t.2.2 → r.1 = true := by
  unfold sp13 F13
  dsimp only
  have h1 := hs.1
  refine wq_condM.2 ⟨fun h => wq_some.2 fun e => absurd (by rw [e]) h, fun _ => wq_condM.2 ⟨fun h => wq_some.2 fun e => absurd (by rw [e]) h, fun hl => ?_⟩⟩
  exact tl13 N hN s t _ (by omega) (by omega) hs.2 N 0 _ (by omega) (by omega) (fun hne e => absurd (by rw [e]) hne) (wq_some.2 fun _ => rfl)

/-- Spans one behind the other, none beyond e. -/
structure Inv (n : Nat) (e : Int) (sp : List D40) : Prop where
  apart : sp.Pairwise fun s t => s.2.1 < t.1
  each : ∀ s ∈ sp, s.1 ≤ s.2.1 ∧ s.2.1 ≤ e ∧ spanOk n s

theorem last_split {α : Type} (l : List α) (h : 0 < l.length) : ∃ a x, l = a ++ [x] ∧ l.length = a.length + 1 := by
  refine ⟨l.dropLast, l.getLast (by intro e; subst e; cases h), (List.dropLast_concat_getLast _).symm, ?_⟩
  simp; omega

theorem Inv.stretch {n : Nat} {e e' : Int} {sp : List D40} (h : Inv n e sp) (he : e ≤ e') (hp : 0 < sp.length) : Inv n e' (sp.set (sp.length - 1) ((rdAt (t := t40) sp ((sp.length : Int) - 1)).1, e', (rdAt (t := t40) sp ((sp.length : Int) - 1)).2.2)) ∧
    (sp.set (sp.length - 1) ((rdAt (t := t40) sp ((sp.length : Int) - 1)).1, e', (rdAt (t := t40) sp ((sp.length : Int) - 1)).2.2)).length = sp.length := by
  refine ⟨?_, by simp⟩
  obtain ⟨a, x, rfl, hl⟩ := last_split sp hp
  have e1 : (a ++ [x]).length - 1 = a.length := by omega
  have e2 : (((a ++ [x]).length : Nat) : Int) - 1 = (a.length : Int) := by omega
  have e3 : rdAt (t := t40) (a ++ [x]) (a.length : Int) = x := by rw [rdAt_at _ _ (by simp)]; simp
  rw [e1, e2, e3, List.set_append_right _ _ (Nat.le_refl _)]
  simp only [Nat.sub_self, List.set_cons_zero]
  have hx := h.each x (by simp)
  have hpw := List.pairwise_append.1 h.apart
  refine ⟨List.pairwise_append.2 ⟨hpw.1, by simp, fun s hs t ht => ?_⟩, fun s hs => ?_⟩
  · simp only [List.mem_singleton] at ht
    subst ht
    exact hpw.2.2 s hs x (by simp)
  · rcases List.mem_append.1 hs with hs | hs
    · have := h.each s (by simp [hs]); exact ⟨this.1, by omega, this.2.2⟩
    · simp only [List.mem_singleton] at hs
      subst hs
      exact ⟨by dsimp only; omega, Int.le_refl _, hx.2.2⟩

theorem Inv.more {n : Nat} {e : Int} {sp : List D40} (h : Inv n e sp) {d : Int} (hd : e < d) {s : D40} (h1 : s.1 = d) (h2 : s.2.1 = d) (hs : spanOk n s) : Inv n d (sp ++ [s]) := by
  refine ⟨List.pairwise_append.2 ⟨h.apart, by simp, fun a ha b hb => ?_⟩, fun a ha => ?_⟩
  · simp only [List.mem_singleton] at hb
    subst hb
    have := (h.each a ha).2.1
    omega
  · rcases List.mem_append.1 ha with ha | ha
    · have := h.each a ha; exact ⟨this.1, by omega, this.2.2⟩
    · simp only [List.mem_singleton] at ha
      subst ha
      exact ⟨by omega, by omega, hs⟩

theorem Inv.le {n : Nat} {e e' : Int} {sp : List D40} (h : Inv n e sp) (he : e ≤ e') : Inv n e' sp := ⟨h.apart, fun s hs => ⟨(h.each s hs).1, Int.le_trans (h.each s hs).2.1 he, (h.each s hs).2.2⟩⟩

theorem tl8 (hN : 5000 ≤ N) (c : D25) (hc : CoreOk c) (ds : List Int) (h1 : ds.Pairwise (· < ·)) (h2 : ∀ x ∈ ds, c.2.1 ≤ x ∧ x ≤ c.2.2.1) (h3 : ds.length ≤ 4002) (s cur : ByteArray) (a b fr to : Int) (m2 m1 : List D67) (sp1 : List D40) (k : Nat) :
    ∀ (i : Nat) (e : Int) (sp : List D40) (Kx) (Q), ds.length < i + k → i ≤ ds.length → e ≤ c.2.2.1 → (∀ (j : Nat) x, i ≤ j → ds[j]? = some x → e < x) → Inv c.2.2.2.1.length e sp → sp.length ≤ i →
    (∀ sp', Inv c.2.2.2.1.length c.2.2.1 sp' → sp'.length ≤ 4002 → Wp (Kx ((), c, (), s, a, b, (), cur, fr, to, m2, m1, sp1, sp', ())) Q) →
    Wp (L8_0 N (sp13 N) (sp32 N) (sp33 N) k ((), c, (), s, a, b, (), cur, fr, to, m2, ds, (ds.length : Int), (i : Int), m1, sp1, sp, ()) Kx) Q := by
  have t1 := hc.to
  have t0 := hc.fr
  have tm := hc.nm
  induction k with
  | zero => intro i e sp Kx Q g1 g2; omega
  | succ k ih =>
    intro i e sp Kx Q g1 g2 g3 g4 g5 g6 hK
    rw [L8_0]
    dsimp only
    refine wq_condD.2 ⟨fun h => ?_, fun h => hK sp (g5.le g3) (by omega)⟩
    rw [wrap_succ (show i < ds.length by omega) (by omega)]
    have hd := rdAt_some (t := .int .i64) ds i (by omega)
    have hd2 := h2 _ (rdAt_i ds (i : Int) (by omega) (by omega))
    have hd3 := g4 i _ (Nat.le_refl _) hd
    generalize hdd : rdAt (t := .int .i64) ds (i : Int) = d at *
    have hnext : ∀ (j : Nat) x, i + 1 ≤ j → ds[j]? = some x → d < x := fun j x hj hx => by
      have hjl := (List.getElem?_eq_some_iff.1 hx)
      have hil := (List.getElem?_eq_some_iff.1 hd)
      have := List.pairwise_iff_getElem.1 h1 i j hil.1 hjl.1 (by omega)
      rw [hil.2, hjl.2] at this
      exact this
    refine wq_iteN.2 ⟨by omega, wq_iteN.2 ⟨by omega, wq_bind.2 ((tp33 N hN c hc d).mono fun r hr => ?_)⟩⟩
    obtain ⟨r1, r2, r3⟩ := hr
    have hw : IntKind.i64.wrap (d - 1) = d - 1 := wrap_id (by omega) (by omega)
    rw [hw]
    refine wq_condD.2 ⟨fun hp => ?_, fun hp => ?_⟩
    · have hw2 : IntKind.i64.wrap ((sp.length : Int) - 1) = (sp.length : Int) - 1 := wrap_id (by omega) (by omega)
      have hn : ((sp.length : Int) - 1).toNat = sp.length - 1 := by omega
      rw [hw2, hn]
      obtain ⟨s1, s2⟩ := g5.stretch (e' := d - 1) (by omega) (by omega)
      generalize sp.set (sp.length - 1) ((rdAt (t := t40) sp ((sp.length : Int) - 1)).1, d - 1, (rdAt (t := t40) sp ((sp.length : Int) - 1)).2.2) = sp2 at *
      refine wq_iteN.2 ⟨by omega, wq_iteN.2 ⟨by omega, wq_condE.2 ⟨fun hz => by omega, fun _ => ?_⟩⟩⟩
      refine wq_iteN.2 ⟨by omega, wq_iteN.2 ⟨by omega, ?_⟩⟩
      have hmem := (s1.each _ (rdAt_mem (t := t40) sp2 ((sp.length : Int) - 1) (by omega) (by omega))).2.2
      refine wq_bind.2 (wq_tot ((tp13 N hN _ r.1 hmem (by omega)).mono fun _ _ => trivial) fun r7 => wq_condV.2 ⟨fun _ => ?_, fun _ => ?_⟩)
      · refine wq_iteN.2 ⟨by omega, ih (i + 1) d _ Kx Q (by omega) (by omega) (by omega) hnext (s1.more (by omega) r1 r2 r3) (by simp; omega) hK⟩
      · exact ih (i + 1) d _ Kx Q (by omega) (by omega) (by omega) hnext (s1.le (by omega)) (by omega) hK
    · refine wq_condE.2 ⟨fun _ => ?_, fun hz => by omega⟩
      exact wq_iteN.2 ⟨by omega, ih (i + 1) d _ Kx Q (by omega) (by omega) (by omega) hnext (g5.more hd3 r1 r2 r3) (by simp; omega) hK⟩

/-- What the normal form of a core is known to be. -/
structure FormOk (f : D31) : Prop where
  inv : Inv f.2.2.2.1.length f.2.2.1 f.2.2.2.2.1
  ns : f.2.2.2.2.1.length ≤ 4002
  nm : f.2.2.2.1.length ≤ 4

theorem tp8 (hN : 5000 ≤ N) (c : D25) (hc : CoreOk c) : Wp (sp8 N (c, ())) fun r => FormOk r.1 := by
  have t1 := hc.to
  have t0 := hc.fr
  have tm := hc.nm
  unfold sp8 F8
  dsimp only
  have fin : ∀ (ms : List D67) (sp : List D40), ms.length = c.2.2.2.1.length → Inv c.2.2.2.1.length c.2.2.1 sp → sp.length ≤ 4002 →
      Wp (cond (decide ((sp.length : Int) > (0 : Int))) (
        if 0 ≤ IntKind.i64.wrap ((sp.length : Int) - (1 : Int)) then
        if IntKind.i64.wrap ((sp.length : Int) - (1 : Int)) < (sp.length : Int) then
        some (((c.1, c.2.1, c.2.2.1, ms, (sp.set (IntKind.i64.wrap ((sp.length : Int) - (1 : Int))).toNat ((rdAt (t := t40) sp (IntKind.i64.wrap ((sp.length : Int) - (1 : Int))) : D40).1, c.2.2.1, (rdAt (t := t40) sp (IntKind.i64.wrap ((sp.length : Int) - (1 : Int))) : D40).2.2)), ()), ()) : D31 × Unit)
        else none
        else none) (
        some ((c.1, c.2.1, c.2.2.1, ms, sp, ()), ()))) fun r => FormOk r.1 := by
    intro ms sp hms hi hl
    refine wq_condD.2 ⟨fun hp => ?_, fun _ => wq_some.2 ⟨by rw [hms]; exact hi, hl, by dsimp only; omega⟩⟩
    have hw2 : IntKind.i64.wrap ((sp.length : Int) - 1) = (sp.length : Int) - 1 := wrap_id (by omega) (by omega)
    have hn : ((sp.length : Int) - 1).toNat = sp.length - 1 := by omega
    rw [hw2, hn]
    obtain ⟨s1, s2⟩ := hi.stretch (e' := c.2.2.1) (Int.le_refl _) (by omega)
    exact wq_iteN.2 ⟨by omega, wq_iteN.2 ⟨by omega, wq_some.2 ⟨by rw [hms]; exact s1, by dsimp only; rw [s2]; exact hl, by dsimp only; omega⟩⟩⟩
  have days : ∀ (ds : List Int) (ms : List D67) (sp0 : List D40) (m0 : List D67), (∀ x ∈ ds, c.2.1 ≤ x ∧ x ≤ c.2.2.1) → ds.Pairwise (· < ·) → ds.length ≤ 4002 → ∀ Kx, (∀ sp', Inv c.2.2.2.1.length c.2.2.1 sp' → sp'.length ≤ 4002 → Wp (Kx ((), c, (), ByteArray.empty, 0, 0, (), c.1, c.2.1, c.2.2.1, ms, m0, sp0, sp', ())) fun r => FormOk r.1) →
      Wp (L8_0 N (sp13 N) (sp32 N) (sp33 N) N ((), c, (), ByteArray.empty, (0 : Int), (0 : Int), (), c.1, c.2.1, c.2.2.1, ms, ds, (ds.length : Int), (0 : Int), m0, sp0, [], ()) Kx) fun r => FormOk r.1 := by
    intro ds ms sp0 m0 h2 h1 h3 Kx hK
    refine tl8 N hN c hc ds h1 h2 h3 _ _ _ _ _ _ _ _ _ N 0 (c.2.1 - 1) [] Kx _ (by omega) (by omega) (by omega) (fun j x _ hx => ?_) ⟨.nil, fun s hs => by cases hs⟩ (by simp) hK
    have := h2 x (List.mem_of_getElem? hx)
    omega
  have one : ∀ x ∈ [c.2.1], c.2.1 ≤ x ∧ x ≤ c.2.2.1 := fun x hx => by simp only [List.mem_singleton] at hx; omega
  have both : ∀ l : List Int, l.Pairwise (· < ·) → (∀ x ∈ l, c.2.1 < x ∧ x ≤ c.2.2.1) → (∀ x ∈ [c.2.1] ++ l, c.2.1 ≤ x ∧ x ≤ c.2.2.1) ∧ ([c.2.1] ++ l).Pairwise (· < ·) := fun l p1 p2 => by
    refine ⟨fun x hx => ?_, ?_⟩
    · rcases List.mem_append.1 hx with hx | hx
      · exact one x hx
      · have := p2 x hx; omega
    · exact List.pairwise_append.2 ⟨by simp, p1, fun a ha b hb => by simp only [List.mem_singleton] at ha; have := p2 b hb; omega⟩
  refine wq_ite.2 ⟨fun hz => ?_, fun hz => ?_⟩
  · refine wq_bind.2 ((tp32 N hN c hc).mono fun r hr => wq_ite.2 ⟨fun _ => ?_, fun _ => ?_⟩)
    · refine days [c.2.1] [] [] [] one (by simp) (by simp) _ fun sp' g1 g2 => ?_
      exact fin [] sp' (by simp [hz]) g1 g2
    · have := hr.2.2
      refine wq_iteN.2 ⟨by simp; omega, days ([c.2.1] ++ r.1) [] [] [] (both r.1 hr.1 hr.2.1).1 (both r.1 hr.1 hr.2.1).2 (by simp; omega) _ fun sp' g1 g2 => ?_⟩
      exact fin [] sp' (by simp [hz]) g1 g2
  · refine wq_iteN.2 ⟨by simp; omega, ?_⟩
    refine wq_bind.2 ((tp32 N hN c hc).mono fun r hr => wq_ite.2 ⟨fun _ => ?_, fun _ => ?_⟩)
    · refine days [c.2.1] c.2.2.2.1 [] [] one (by simp) (by simp) _ fun sp' g1 g2 => ?_
      exact fin c.2.2.2.1 sp' rfl g1 g2
    · have := hr.2.2
      refine wq_iteN.2 ⟨by simp; omega, days ([c.2.1] ++ r.1) c.2.2.2.1 [] [] (both r.1 hr.1 hr.2.1).1 (both r.1 hr.1 hr.2.1).2 (by simp; omega) _ fun sp' g1 g2 => ?_⟩
      exact fin c.2.2.2.1 sp' rfl g1 g2

end Go.Proofs.Ytkifmnocomadfaa
end

/- A curve's number: the program and the reference tell the same. -/
section
set_option linter.unusedVariables false
namespace Go.Proofs.Ytkifmnocomadfaa
open Go.V
variable (N : Nat)

def lastG (gs : List D77) (q : Int) : Option D77 := gs.reverse.find? fun g => decide (g.1 ≤ q)

def stepsG (g : D77) (q : Int) : Int := IntKind.i64.wrap ((IntKind.i64.wrap (q - g.1)).tdiv g.2.2.1)

def valG (g : D77) (q : Int) : Int := if g.2.2.1 < 1 then g.2.1 else
  IntKind.i64.wrap (g.2.1 + IntKind.i64.wrap ((if IntKind.i64.wrap (g.2.2.2.2.1 - 1) < stepsG g q then IntKind.i64.wrap (g.2.2.2.2.1 - 1) else stepsG g q) * g.2.2.2.1))

/-- A curve's number at a quantity. -/
def atS (k : D52) (q : Int) : Int × D159 := if q < 0 then (0, false, ()) else if q > k.1 then (0, false, ()) else match lastG k.2.1 q with
  | none => (0, false, ())
  | some g => (valG g q, true, ())

theorem lastG_succ (gs : List D77) (q : Int) (m : Nat) (h : m < gs.length) (g : D77) (hg : rdAt (t := t77) gs (m : Int) = g) : lastG (gs.take (m + 1)) q = if g.1 ≤ q then some g else lastG (gs.take m) q := by
  have e : g = gs[m] := hg.symm.trans (rdAt_at (t := t77) gs m h)
  have e2 : gs.take (m + 1) = gs.take m ++ [gs[m]] := by rw [List.take_add_one, List.getElem?_eq_getElem h]; rfl
  rw [e]
  unfold lastG
  rw [e2, List.reverse_append]
  simp only [List.reverse_cons, List.reverse_nil, List.nil_append, List.singleton_append, List.find?_cons]
  by_cases hq : gs[m].1 ≤ q
  · simp [hq]
  · simp [hq]

theorem lastG_zero (gs : List D77) (q : Int) : lastG (gs.take 0) q = none := rfl

theorem tl34 (q : Int) (c : D52) (hc : c.2.1.length ≤ 2001) (k : Nat) : ∀ (m : Nat) (Kx) (Q), m ≤ c.2.1.length → m < k → (∀ i : Int, (i = -1 ∧ lastG (c.2.1.take m) q = none) ∨ (0 ≤ i ∧ i < (c.2.1.length : Int) ∧ lastG (c.2.1.take m) q = some (rdAt (t := t77) c.2.1 i)) → Wp (Kx (q, (), c, i, ())) Q) →
    Wp (L34_0 N k (q, (), c, (m : Int) - 1, ()) Kx) Q := by
  induction k with
  | zero => intro m Kx Q h1 h2; omega
  | succ k ih =>
    intro m Kx Q h1 h2 hK
    rw [L34_0]
    dsimp only
    refine wq_condD.2 ⟨fun h => ?_, fun h => hK _ (.inl ⟨by omega, ?_⟩)⟩
    · obtain ⟨m, rfl⟩ : ∃ j, m = j + 1 := ⟨m - 1, by omega⟩
      have e : ((m + 1 : Nat) : Int) - 1 = (m : Int) := by omega
      rw [e]
      obtain ⟨g, hge⟩ : ∃ g : D77, rdAt (t := t77) c.2.1 (m : Int) = g := ⟨_, rfl⟩
      have hs := lastG_succ c.2.1 q m (by omega) g hge
      rw [hge]
      refine wq_iteN.2 ⟨by omega, wq_iteN.2 ⟨by omega, wq_condD.2 ⟨fun hg => ?_, fun hg => hK _ (.inr ⟨by omega, by omega, ?_⟩)⟩⟩⟩
      · rw [wrap_id (n := (m : Int) - 1) (by omega) (by omega)]
        rw [if_neg (by omega)] at hs
        rw [hs] at hK
        exact ih m Kx Q (by omega) (by omega) hK
      · rw [hs, if_pos (by omega), hge]
    · have : m = 0 := by omega
      subst this
      rfl

theorem tp34 (hN : 5000 ≤ N) (c : D52) (q : Int) (hc : c.2.1.length ≤ 2001) : Wp (sp34 N (c, q, ())) fun r => r = atS c q := by
  unfold sp34 F34
  dsimp only
  refine wq_condD.2 ⟨fun h => wq_some.2 (by unfold atS; rw [if_pos h]), fun h1 => wq_condD.2 ⟨fun h => wq_some.2 (by unfold atS; rw [if_neg h1, if_pos h]), fun h2 => ?_⟩⟩
  rw [wrap_id (n := (c.2.1.length : Int) - 1) (by omega) (by omega)]
  have hat : atS c q = match lastG c.2.1 q with
    | none => (0, false, ())
    | some g => (valG g q, true, ()) := by unfold atS; rw [if_neg h1, if_neg h2]
  refine tl34 N q c hc N c.2.1.length _ _ (Nat.le_refl _) (by omega) fun i hi => ?_
  rw [List.take_length] at hi
  dsimp only
  rcases hi with ⟨rfl, hn⟩ | ⟨i1, i2, hs⟩
  · exact wq_condD.2 ⟨fun _ => wq_some.2 (by rw [hat, hn]), fun h => by omega⟩
  · rw [hs] at hat
    dsimp only at hat
    refine wq_condD.2 ⟨fun h => by omega, fun _ => wq_iteN.2 ⟨i1, wq_iteN.2 ⟨i2, wq_condD.2 ⟨fun hw => wq_some.2 ?_, fun hw => ?_⟩⟩⟩⟩
    · rw [hat]; unfold valG; rw [if_pos hw]
    · exact wq_iteN'.2 ⟨by omega, wq_some.2 (by rw [hat]; unfold valG stepsG; rw [if_neg hw])⟩

theorem wrap_add' (a b : Int) : IntKind.i64.wrap (a + IntKind.i64.wrap b) = IntKind.i64.wrap (a + b) := by simp only [wrap_i64]; omega

theorem tl26_1 (q : Int) (g : D77) (ok : Bool) (gs : List D77) (n i : Int) (hg : grpOk g) (M : Int) (hM : 0 < g.2.2.1 → (0 ≤ M ∧ M ≤ g.2.2.2.2.1 - 1 ∧ M ≤ stepsG g q ∧ (M = g.2.2.2.2.1 - 1 ∨ M = stepsG g q))) (k : Nat) : ∀ (j : Nat) (Kx) (Q), 2002 < j + k → (0 < g.2.2.1 → (j : Int) ≤ M) → (¬ 0 < g.2.2.1 → j = 0) →
    Wp (Kx (q, IntKind.i64.wrap (g.2.1 + (if 0 < g.2.2.1 then M else 0) * g.2.2.2.1), ok, gs, n, i, ())) Q →
    Wp (L26_1 N k (q, IntKind.i64.wrap (g.2.1 + (j : Int) * g.2.2.2.1), ok, (), g, (j : Int) + 1, gs, n, i, ()) Kx) Q := by
  obtain ⟨g1, g2, g3, g4, g5, g6⟩ := hg
  induction k with
  | zero =>
    intro j Kx Q h1 h2 h3 hK
    by_cases hw : 0 < g.2.2.1
    · have := hM hw; have := h2 hw; omega
    · have := h3 hw; omega
  | succ k ih =>
    intro j Kx Q h1 h2 h3 hK
    rw [L26_1]
    dsimp only
    refine wq_condD.2 ⟨fun hw => ?_, fun hw => ?_⟩
    · have hw : 0 < g.2.2.1 := hw
      obtain ⟨m1, m2, m3, m4⟩ := hM hw
      have hj := h2 hw
      rw [if_pos hw] at hK
      have done : (j : Int) = M → Wp (Kx (q, IntKind.i64.wrap (g.2.1 + (j : Int) * g.2.2.2.1), ok, gs, n, i, ())) Q := fun e => by rw [e]; exact hK
      refine wq_condD.2 ⟨fun hc => wq_iteN'.2 ⟨by omega, wq_condD.2 ⟨fun hd => ?_, fun hd => done ?_⟩⟩, fun hc => done (by omega)⟩
      · have e1 : IntKind.i64.wrap ((j : Int) + 1 + 1) = ((j + 1 : Nat) : Int) + 1 := by rw [wrap_id] <;> omega
        have e2 : IntKind.i64.wrap (IntKind.i64.wrap (g.2.1 + (j : Int) * g.2.2.2.1) + g.2.2.2.1) = IntKind.i64.wrap (g.2.1 + ((j + 1 : Nat) : Int) * g.2.2.2.1) := by
          rw [wrap_add]
          congr 1
          push_cast
          rw [Int.add_mul, Int.one_mul, Int.add_assoc]
        rw [e1, e2]
        refine ih (j + 1) Kx Q (by omega) (fun _ => ?_) (fun h => absurd hw h) (by rw [if_pos hw]; exact hK)
        have hd : (j : Int) + 1 ≤ stepsG g q := hd
        omega
      · have hd : ¬ (j : Int) + 1 ≤ stepsG g q := hd
        omega
    · have hw : ¬ 0 < g.2.2.1 := hw
      have := h3 hw
      subst this
      rw [if_neg hw] at hK
      exact hK

def stG (o : Option D77) (q : Int) : Int × D159 := match o with
  | none => (0, false, ())
  | some g => (valG g q, true, ())

theorem tl26_0 (hN : 5000 ≤ N) (q : Int) (hq0 : 0 ≤ q) (hq1 : q ≤ 9223372036854775807) (gs : List D77) (hg : ∀ g ∈ gs, grpOk g) (hl : gs.length ≤ 2001) (k : Nat) : ∀ (m : Nat) (Kx) (Q), m ≤ gs.length → gs.length < m + k →
    Wp (Kx (stG (lastG gs q) q)) Q → Wp (L26_0 N k (q, (stG (lastG (gs.take m) q) q).1, (stG (lastG (gs.take m) q) q).2.1, gs, (gs.length : Int), (m : Int), ()) Kx) Q := by
  induction k with
  | zero => intro m Kx Q h1 h2; omega
  | succ k ih =>
    intro m Kx Q h1 h2 hK
    rw [L26_0]
    dsimp only
    refine wq_condD.2 ⟨fun h => ?_, fun h => ?_⟩
    · obtain ⟨g, hge⟩ : ∃ g : D77, rdAt (t := t77) gs (m : Int) = g := ⟨_, rfl⟩
      have hs := lastG_succ gs q m (by omega) g hge
      have hgm := hg _ (rdAt_mem (t := t77) gs (m : Int) (by omega) (by omega))
      have hnext := ih (m + 1) Kx Q (by omega) (by omega) hK
      rw [wrap_succ (show m < gs.length by omega) (by omega)]
      rw [hge] at hgm ⊢
      refine wq_iteN.2 ⟨by omega, wq_iteN.2 ⟨by omega, wq_condD.2 ⟨fun hgq => ?_, fun hgq => ?_⟩⟩⟩
      · rw [hs, if_neg (by omega)] at hnext
        exact hnext
      · obtain ⟨g1, g2, g3, g4, g5, g6⟩ := hgm
        refine wq_condD.2 ⟨fun hneg => by omega, fun _ => ?_⟩
        rw [hs, if_pos (by omega)] at hnext
        have hst : ∀ hw : 0 < g.2.2.1, 0 ≤ stepsG g q := fun hw => by
          unfold stepsG
          rw [wrap_id (n := q - g.1) (by omega) (by omega)]
          have a1 : 0 ≤ (q - g.1).tdiv g.2.2.1 := Int.tdiv_nonneg (by omega) (by omega)
          have a2 : (q - g.1).tdiv g.2.2.1 ≤ q - g.1 := Int.tdiv_le_self _ (by omega)
          rw [wrap_id (by omega) (by omega)]
          exact a1
        have e0 : g.2.1 = IntKind.i64.wrap (g.2.1 + ((0 : Nat) : Int) * g.2.2.2.1) := by
          rw [Int.natCast_zero, Int.zero_mul, Int.add_zero, wrap_id (by omega) (by omega)]
        have key := tl26_1 N q g true gs (gs.length : Int) (m : Int) ⟨g1, g2, g3, g4, g5, g6⟩ (if g.2.2.2.2.1 - 1 < stepsG g q then g.2.2.2.2.1 - 1 else stepsG g q) (fun hw => by
          have := hst hw
          split <;> omega) N 0 (fun y5 => L26_0 N k (y5.1, y5.2.1, y5.2.2.1, y5.2.2.2.1, y5.2.2.2.2.1, (IntKind.i64.wrap (y5.2.2.2.2.2.1 + (1 : Int))), ()) Kx) Q (by omega) (fun hw => by have := hst hw; split <;> omega) (fun _ => rfl) (by
          dsimp only
          rw [wrap_succ (show m < gs.length by omega) (by omega)]
          have ev : IntKind.i64.wrap (g.2.1 + (if 0 < g.2.2.1 then (if g.2.2.2.2.1 - 1 < stepsG g q then g.2.2.2.2.1 - 1 else stepsG g q) else 0) * g.2.2.2.1) = valG g q := by
            unfold valG
            by_cases hw : 0 < g.2.2.1
            · rw [if_pos hw, if_neg (show ¬ g.2.2.1 < 1 by omega), wrap_add', wrap_id (n := g.2.2.2.2.1 - 1) (by omega) (by omega)]
            · rw [if_neg hw, if_pos (show g.2.2.1 < 1 by omega), Int.zero_mul, Int.add_zero, wrap_id (by omega) (by omega)]
          rw [ev]
          exact hnext)
        rw [← e0] at key
        exact key
    · have : m = gs.length := by omega
      subst this
      rw [List.take_length]
      exact hK

theorem tp26 (hN : 5000 ≤ N) (c : D52) (q : Int) (hq1 : q ≤ 9223372036854775807) (hc : curveOk c) : Wp (sp26 N (c, q, ())) fun r => r = atS c q := by
  unfold sp26 F26
  dsimp only
  refine wq_condD.2 ⟨fun h => wq_some.2 (by unfold atS; rw [if_pos h]), fun h1 => wq_condD.2 ⟨fun h => wq_some.2 (by unfold atS; rw [if_neg h1, if_pos h]), fun h2 => ?_⟩⟩
  have hat : atS c q = stG (lastG c.2.1 q) q := by unfold atS stG; rw [if_neg h1, if_neg h2]
  have := tl26_0 N hN q (by omega) hq1 c.2.1 hc.1 hc.2 N 0 (fun y6 => some y6) (fun r => r = atS c q) (by omega) (by have := hc.2; omega) (wq_some.2 hat.symm)
  exact this

end Go.Proofs.Ytkifmnocomadfaa
end
