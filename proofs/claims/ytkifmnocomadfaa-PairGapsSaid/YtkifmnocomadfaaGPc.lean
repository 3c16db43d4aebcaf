/- The meters of both: put in order, each name once. -/
import Derived.Test.YtkifmnocomadfaaGPb
section
set_option linter.unusedVariables false
namespace Go.Proofs.Ytkifmnocomadfaa
open Go.V
variable (N : Nat)

theorem tp73 (m o : D67) : Wp (sp73 N (m, o, ())) fun r => r.1 < 0 ↔ less m o := by
  unfold sp73 F73 sp74 F74 sp90 F90
  dsimp only
  refine wq_bind.2 (wq_bind.2 (wq_some.2 (wq_bind.2 (wq_some.2 ?_))))
  refine wq_cond.2 ⟨fun g => by simp at g, fun _ => wq_cond.2 ⟨fun g => by simp at g, fun _ => wq_cond.2 ⟨fun g => wq_some.2 (wq_some.2 ?_), fun g => wq_cond.2 ⟨fun _ => wq_some.2 (wq_some.2 ?_), fun _ => wq_some.2 (wq_some.2 ?_)⟩⟩⟩⟩
  · exact ⟨fun _ => g, fun _ => by decide⟩
  · exact ⟨fun h => absurd h (by decide), fun h => by rw [show _ = true from h] at g; cases g⟩
  · exact ⟨fun h => absurd h (by decide), fun h => by rw [show _ = true from h] at g; cases g⟩

theorem tp76 (m o : D67) : Wp (sp76 N (m, o, ())) fun r => r.1 = true ↔ nm m = nm o := by
  unfold sp76 F76
  exact wq_some.2 (by simp)

theorem rd_mid (P Z : List D67) (x : D67) (i : Int) (hi : i = (P.length : Int)) : rdAt (t := t67) (P ++ x :: Z) i = x := by
  subst hi
  rw [rdAt_at _ _ (by simp)]
  simp

theorem set_two (P Z : List D67) (p x : D67) : ((P ++ p :: x :: Z).set (P.length + 1) p).set P.length x = P ++ x :: p :: Z := by
  rw [List.set_append_right _ _ (by omega), List.set_append_right _ _ (by omega)]
  simp

theorem tl52_6x (n1 n2 : Int) (u1 u2 : Unit) (k : Nat) : ∀ (P R T : List D67) (x : D67) (b i : Int) (u : Unit) (Kx) (Rx) (Q), P.length < k → P.length + R.length + T.length + 1 ≤ 8 → (P ++ R).Pairwise leq → (∀ r ∈ R, less x r) →
    (∀ S : List D67, S.length = P.length + R.length + 1 → (∀ y, y ∈ S ↔ y ∈ P ++ x :: R) → S.Pairwise leq → Wp (Kx (0, b, (), i, n1, (), n2, S ++ T, (), (), ())) Q) →
    Wp (L52_6 N (sp73 N) (sp76 N) k (0, b, u, i, (P.length : Int), n1, u1, n2, P ++ x :: (R ++ T), (), u2, ()) Kx Rx) Q := by
  induction k with
  | zero => intro P R T x b i u Kx Rx Q h1 h2; omega
  | succ k ih =>
    intro P R T x b i u Kx Rx Q h1 h2 h3 h4 hK
    rw [L52_6]
    dsimp only
    have hlen : (P ++ x :: (R ++ T)).length = P.length + R.length + T.length + 1 := by simp; omega
    have fin : (∀ p ∈ P, leq p x) → Wp (Kx (0, b, (), i, n1, (), n2, P ++ x :: (R ++ T), (), (), ())) Q := fun hp => by
      have := hK (P ++ x :: R) (by simp; omega) (fun y => Iff.rfl) (by
        have h5 := List.pairwise_append.1 h3
        refine List.pairwise_append.2 ⟨h5.1, List.pairwise_cons.2 ⟨fun r hr => less_asymm (h4 r hr), h5.2.1⟩, fun a ha c hc => ?_⟩
        rcases List.mem_cons.1 hc with rfl | hc
        · exact hp a ha
        · exact h5.2.2 a ha c hc)
      rw [List.append_assoc, List.cons_append] at this
      exact this
    refine wq_condD.2 ⟨fun h => ?_, fun h => fin fun p hp => ?_⟩
    · have hP : P ≠ [] := fun e => by subst e; simp at h
      obtain ⟨P', p, rfl, hl⟩ := last_split P (List.length_pos_iff.2 hP)
      have hw : IntKind.i64.wrap (((P' ++ [p]).length : Int) - 1) = (P'.length : Int) := by rw [wrap_id (by omega) (by omega)]; omega
      rw [hw]
      have e1 : (P' ++ [p]) ++ x :: (R ++ T) = P' ++ p :: x :: (R ++ T) := by simp
      have r1 : rdAt (t := t67) (P' ++ p :: x :: (R ++ T)) (P'.length : Int) = p := rd_mid _ _ _ _ rfl
      have r2 : rdAt (t := t67) (P' ++ p :: x :: (R ++ T)) ((P' ++ [p]).length : Int) = x := by
        rw [← e1]; exact rd_mid _ _ _ _ rfl
      rw [e1] at hlen ⊢
      rw [r1, r2]
      refine wq_iteN.2 ⟨by omega, wq_iteN.2 ⟨by omega, wq_iteN.2 ⟨by omega, wq_iteN.2 ⟨by omega, wq_bind.2 ((tp73 N x p).mono fun r hr => wq_condD.2 ⟨fun g => ?_, fun g => ?_⟩)⟩⟩⟩⟩
      · refine wq_iteN.2 ⟨by omega, wq_iteN.2 ⟨by omega, wq_iteN.2 ⟨by omega, wq_iteN.2 ⟨by omega, wq_iteN.2 ⟨by omega, wq_iteN.2 ⟨by omega, wq_iteN.2 ⟨by omega, wq_iteN.2 ⟨by simp; omega, ?_⟩⟩⟩⟩⟩⟩⟩⟩
        have es : ((P' ++ p :: x :: (R ++ T)).set (((P' ++ [p]).length : Int)).toNat p).set ((P'.length : Int)).toNat x = P' ++ x :: ((p :: R) ++ T) := by
          have := set_two P' (R ++ T) p x
          simp only [Int.toNat_natCast]
          rw [hl]
          exact this
        rw [es]
        refine ih P' (p :: R) T x _ _ _ Kx Rx Q (by omega) (by simp only [List.length_cons]; omega) (by simpa using h3) (fun r' hr' => ?_) fun S s1 s2 s3 => hK S (by simp only [List.length_cons] at s1; omega) (fun y => ?_) s3
        · rcases List.mem_cons.1 hr' with rfl | hr'
          · exact hr.1 g
          · exact h4 r' hr'
        · rw [s2 y]
          simp only [List.mem_append, List.mem_cons]
          constructor
          · rintro (h | h | h | h)
            · exact .inl (.inl h)
            · exact .inr (.inl h)
            · exact .inl (.inr (.inl h))
            · exact .inr (.inr h)
          · rintro ((h | h | h) | h | h)
            · exact .inl h
            · exact .inr (.inr (.inl h))
            · cases h
            · exact .inr (.inl h)
            · exact .inr (.inr (.inr h))
      · rw [e1] at fin
        refine fin fun q hq => ?_
        have hpx : leq p x := fun h => g (hr.2 h)
        rcases List.mem_append.1 hq with hq | hq
        · have h5 := (List.pairwise_append.1 (List.pairwise_append.1 h3).1).2.2 q hq p (by simp)
          exact leq_trans h5 hpx
        · simp only [List.mem_singleton] at hq
          rw [hq]; exact hpx
    · have : P = [] := List.eq_nil_of_length_eq_zero (by omega)
      subst this
      cases hp

theorem tl52_5x (n1 n2 : Int) (hN : 5000 ≤ N) (n : Nat) (hn : n ≤ 8) (k : Nat) : ∀ (i : Nat) (u u1 u2 u3 : Unit) (S T : List D67) (Kx) (Rx) (Q), n + 1 < i + k → i ≤ n + 1 → (S ++ T).length = n → (S.length = i ∨ (T = [] ∧ n ≤ i)) → S.Pairwise leq →
    (∀ S' : List D67, S'.length = n → (∀ y, y ∈ S' ↔ y ∈ S ++ T) → S'.Pairwise leq → Wp (Kx (n1, (), n2, S', (), ())) Q) →
    Wp (L52_5 N (sp73 N) (sp76 N) k (0, (n : Int), u, (i : Int), n1, u1, n2, S ++ T, u3, u2, ()) Kx Rx) Q := by
  induction k with
  | zero => intro i u u1 u2 u3 S T Kx Rx Q h1 h2; omega
  | succ k ih =>
    intro i u u1 u2 u3 S T Kx Rx Q h1 h0 h2 h3 h4 hK
    rw [L52_5]
    dsimp only
    have hlen := h2
    rw [List.length_append] at hlen
    refine wq_condD.2 ⟨fun h => ?_, fun h => ?_⟩
    · rcases h3 with h3 | h3
      · cases T with
        | nil => simp at hlen; omega
        | cons x T =>
          subst h3
          have := tl52_6x N n1 n2 () () N S [] T x (n : Int) (S.length : Int) () (fun y16 => L52_5 N (sp73 N) (sp76 N) k (y16.1, y16.2.1, y16.2.2.1, (IntKind.i64.wrap (y16.2.2.2.1 + (1 : Int))), y16.2.2.2.2.1, y16.2.2.2.2.2.1, y16.2.2.2.2.2.2.1, y16.2.2.2.2.2.2.2.1, (), (), ()) Kx Rx) (fun _ => none) Q (by omega) (by simp only [List.length_cons, List.length_nil] at hlen ⊢; omega) (by simpa using h4) (fun r hr => by cases hr) fun S' s1 s2 s3 => ?_
          · exact this
          · dsimp only
            rw [wrap_succ (show S.length < n by omega) (by omega)]
            simp only [List.length_nil, List.length_cons, Nat.add_zero] at s1 hlen
            refine ih (S.length + 1) _ _ _ _ S' T Kx Rx Q (by omega) (by omega) (by rw [List.length_append]; omega) (.inl s1) s3 fun S2 t1 t2 t3 => hK S2 t1 (fun y => ?_) t3
            rw [t2 y, List.mem_append, s2 y]
            simp only [List.mem_append, List.mem_cons, List.not_mem_nil, or_false]
            constructor
            · rintro ((h | h) | h)
              · exact .inl h
              · exact .inr (.inl h)
              · exact .inr (.inr h)
            · rintro (h | h | h)
              · exact .inl (.inl h)
              · exact .inl (.inr h)
              · exact .inr h
      · omega
    · have hT : T = [] := by
        rcases h3 with h3 | h3
        · exact List.eq_nil_of_length_eq_zero (by omega)
        · exact h3.1
      subst hT
      rw [List.append_nil] at h2 hK ⊢
      exact hK S h2 (fun y => Iff.rfl) h4

structure Comp (A B : List D67) : Prop where
  srt : Srt A
  sub : ∀ x ∈ A, x ∈ B
  cov : ∀ x ∈ B, ∃ y ∈ A, nm y = nm x

theorem Comp.skip {A B : List D67} {x z : D67} (h : Comp A B) (hz : z ∈ B) (e : nm x = nm z) : Comp A (B ++ [x]) := by
  refine ⟨h.srt, fun y hy => by simp [h.sub y hy], fun y hy => ?_⟩
  rcases List.mem_append.1 hy with hy | hy
  · exact h.cov y hy
  · simp only [List.mem_singleton] at hy
    obtain ⟨w, hw, e2⟩ := h.cov z hz
    exact ⟨w, hw, by rw [hy, e, e2]⟩

theorem Comp.add {A B : List D67} {x : D67} (h : Comp A B) (hz : ∀ z ∈ B, less z x) : Comp (A ++ [x]) (B ++ [x]) := by
  refine ⟨List.pairwise_append.2 ⟨h.srt, by simp, fun a ha b hb => ?_⟩, fun y hy => ?_, fun y hy => ?_⟩
  · simp only [List.mem_singleton] at hb
    rw [hb]; exact hz a (h.sub a ha)
  · rcases List.mem_append.1 hy with hy | hy
    · simp [h.sub y hy]
    · simp only [List.mem_singleton] at hy; simp [hy]
  · rcases List.mem_append.1 hy with hy | hy
    · obtain ⟨w, hw, e⟩ := h.cov y hy
      exact ⟨w, by simp [hw], e⟩
    · simp only [List.mem_singleton] at hy
      exact ⟨x, by simp, by rw [hy]⟩

theorem take_add (o : List D67) (i : Nat) (h : i < o.length) : o.take (i + 1) = o.take i ++ [rdAt (t := t67) o (i : Int)] := by
  rw [List.take_succ_eq_append_getElem h, rdAt_at (t := t67) o i h]

theorem behind {o : List D67} (hs : o.Pairwise leq) {i : Nat} (h0 : 0 < i) (h : i < o.length) (hne : nm (rdAt (t := t67) o (i : Int)) ≠ nm (rdAt (t := t67) o ((i - 1 : Nat) : Int))) : ∀ z ∈ o.take i, less z (rdAt (t := t67) o (i : Int)) := by
  intro z hz
  rw [rdAt_at (t := t67) o i h, rdAt_at (t := t67) o (i - 1) (by omega)] at hne
  rw [rdAt_at (t := t67) o i h]
  have hp := List.pairwise_iff_getElem.1 hs
  have h1 : less o[i - 1] o[i] := less_or (hp (i - 1) i (by omega) h (by omega)) hne
  obtain ⟨j, hj, e⟩ := List.getElem_of_mem hz
  simp only [List.length_take] at hj
  rw [List.getElem_take] at e
  rw [← e]
  by_cases g : j = i - 1
  · subst g; exact h1
  · exact leq_less (hp j (i - 1) (by omega) (by omega) (by omega)) h1

theorem tl52_10x (hN : 5000 ≤ N) (o : List D67) (hs : o.Pairwise leq) (ho : o.length ≤ 8) (p : Nat) (hp : 0 < p) (hpl : p < o.length) (k : Nat) : ∀ (i k2 : Nat) (u : Unit) (s : List D67) (Kx) (Rx) (Q), o.length < p + k2 + k → 1 ≤ k2 → p + k2 ≤ o.length → i < p + k2 → s.length = o.length → (∀ j, p + k2 ≤ j + 1 → s[j]? = o[j]?) → Comp (s.take i) (o.take (p + k2)) →
    (∀ (s' : List D67) (i' : Nat), s'.length = o.length → i' < o.length → Comp (s'.take i') o → Wp (Kx ((i' : Int), s', ())) Q) →
    Wp (L52_10 N (sp73 N) (sp76 N) k (u, (i : Int), (k2 : Int), s, ((p : Int), (o.length : Int)), ()) Kx Rx) Q := by
  induction k with
  | zero => intro i k2 u s Kx Rx Q h1 h2; omega
  | succ k ih =>
    intro i k2 u s Kx Rx Q h1 h2 h3 h4 h5 h6 h7 hK
    rw [L52_10]
    dsimp only
    refine wq_condD.2 ⟨fun h => ?_, fun h => ?_⟩
    · have hk : p + k2 < o.length := by omega
      have w1 : IntKind.i64.wrap ((k2 : Int) - 1) = ((k2 - 1 : Nat) : Int) := by rw [wrap_id (by omega) (by omega)]; omega
      have w2 : (p : Int) + (k2 : Int) = ((p + k2 : Nat) : Int) := by omega
      have w3 : (p : Int) + ((k2 - 1 : Nat) : Int) = ((p + k2 - 1 : Nat) : Int) := by omega
      have w4 : IntKind.i64.wrap ((k2 : Int) + 1) = ((k2 + 1 : Nat) : Int) := by rw [wrap_id (by omega) (by omega)]; omega
      have w5 : IntKind.i64.wrap ((i : Int) + 1) = ((i + 1 : Nat) : Int) := by rw [wrap_id (by omega) (by omega)]; omega
      rw [w1, w2, w3, w4, w5]
      have r1 : rdAt (t := t67) s ((p + k2 : Nat) : Int) = rdAt (t := t67) o ((p + k2 : Nat) : Int) := by
        have := h6 (p + k2) (by omega)
        rw [rdAt_some (t := t67) s _ (by omega), rdAt_some (t := t67) o _ hk] at this
        exact Option.some.inj this
      have r2 : rdAt (t := t67) s ((p + k2 - 1 : Nat) : Int) = rdAt (t := t67) o ((p + k2 - 1 : Nat) : Int) := by
        have := h6 (p + k2 - 1) (by omega)
        rw [rdAt_some (t := t67) s _ (by omega), rdAt_some (t := t67) o _ (by omega)] at this
        exact Option.some.inj this
      rw [r1, r2]
      refine wq_iteN.2 ⟨by omega, wq_iteN.2 ⟨by omega, wq_iteN.2 ⟨by omega, wq_iteN.2 ⟨by omega, wq_bind.2 ((tp76 N _ _).mono fun r hr => wq_condV.2 ⟨fun g => ?_, fun g => ?_⟩)⟩⟩⟩⟩
      · have hne : nm (rdAt (t := t67) o ((p + k2 : Nat) : Int)) ≠ nm (rdAt (t := t67) o ((p + k2 - 1 : Nat) : Int)) := fun e => by rw [hr.2 e] at g; cases g
        refine wq_iteN.2 ⟨by omega, wq_iteN.2 ⟨by omega, wq_iteN.2 ⟨by omega, wq_iteN.2 ⟨by omega, ?_⟩⟩⟩⟩
        refine ih (i + 1) (k2 + 1) _ _ Kx Rx Q (by omega) (by omega) (by omega) (by omega) (by simpa using h5) (fun j hj => ?_) ?_ hK
        · rw [List.getElem?_set_ne (by simp; omega)]
          exact h6 j (by omega)
        · have e : (s.set ((i : Int)).toNat (rdAt (t := t67) o ((p + k2 : Nat) : Int))).take (i + 1) = s.take i ++ [rdAt (t := t67) o ((p + k2 : Nat) : Int)] := by
            rw [Int.toNat_natCast, List.take_succ_eq_append_getElem (by simp; omega), List.take_set_of_le (Nat.le_refl _)]
            simp
          rw [e, show p + (k2 + 1) = p + k2 + 1 from rfl, take_add o (p + k2) hk]
          exact h7.add (behind hs (by omega) hk hne)
      · have e := hr.1 g
        refine ih i (k2 + 1) _ _ Kx Rx Q (by omega) (by omega) (by omega) (by omega) h5 (fun j hj => h6 j (by omega)) ?_ hK
        rw [show p + (k2 + 1) = p + k2 + 1 from rfl, take_add o (p + k2) hk]
        refine h7.skip ?_ e
        have : rdAt (t := t67) o ((p + k2 - 1 : Nat) : Int) = (o.take (p + k2))[p + k2 - 1]'(by simp; omega) := by rw [rdAt_at (t := t67) o _ (by omega), List.getElem_take]
        rw [this]
        exact List.getElem_mem _
    · have : p + k2 = o.length := by omega
      rw [this, List.take_length] at h7
      exact hK s i h5 (by omega) h7

theorem tl52_9x (hN : 5000 ≤ N) (o : List D67) (hs : o.Pairwise leq) (ho : o.length ≤ 8) (k : Nat) : ∀ (i : Nat) (u : Unit) (Kx) (Rx) (Q), o.length < i + k → 1 ≤ i → i ≤ o.length → Srt (o.take i) → (∀ s, Comp s o → s.length ≤ 8 → Wp (Kx (s, ())) Q) → (∀ s, Comp s o → s.length ≤ 8 → Wp (Rx (s, ())) Q) →
    Wp (L52_9 N (sp73 N) (sp76 N) k (u, (i : Int), o, ()) Kx Rx) Q := by
  induction k with
  | zero => intro i u Kx Rx Q h1 h2; omega
  | succ k ih =>
    intro i u Kx Rx Q h1 h2 h3 h4 hK hR
    rw [L52_9]
    dsimp only
    refine wq_condD.2 ⟨fun h => ?_, fun h => ?_⟩
    · have hi : i < o.length := by omega
      have w1 : IntKind.i64.wrap ((i : Int) - 1) = ((i - 1 : Nat) : Int) := by rw [wrap_id (by omega) (by omega)]; omega
      rw [w1, wrap_succ (show i < o.length by omega) (by omega)]
      refine wq_iteN.2 ⟨by omega, wq_iteN.2 ⟨by omega, wq_iteN.2 ⟨by omega, wq_iteN.2 ⟨by omega, wq_bind.2 ((tp76 N _ _).mono fun r hr => wq_cond.2 ⟨fun g => ?_, fun g => ?_⟩)⟩⟩⟩⟩
      · have e := hr.1 g
        refine wq_iteN.2 ⟨by omega, wq_iteN.2 ⟨by omega, ?_⟩⟩
        have hself : Comp (o.take i) (o.take i) := ⟨h4, fun x hx => hx, fun x hx => ⟨x, hx, rfl⟩⟩
        refine tl52_10x N hN o hs ho i (by omega) hi N i 1 _ o _ _ Q (by omega) (by omega) (by omega) (by omega) rfl (fun j hj => rfl) ?_ fun s' i' s1 s2 s3 => ?_
        · rw [take_add o i hi]
          refine hself.skip ?_ e
          have : rdAt (t := t67) o ((i - 1 : Nat) : Int) = (o.take i)[i - 1]'(by simp; omega) := by rw [rdAt_at (t := t67) o _ (by omega), List.getElem_take]
          rw [this]
          exact List.getElem_mem _
        · dsimp only
          have el : (s'.take ((i' : Int)).toNat ++ List.replicate (((s'.length : Int)).toNat - ((i' : Int)).toNat) ((ByteArray.empty, ByteArray.empty, (0 : Int), (0 : Int), (0 : Int), ()) : D67) ++ s'.drop ((s'.length : Int)).toNat).length = s'.length := by simp; omega
          have ev : ((s'.take ((i' : Int)).toNat ++ List.replicate (((s'.length : Int)).toNat - ((i' : Int)).toNat) ((ByteArray.empty, ByteArray.empty, (0 : Int), (0 : Int), (0 : Int), ()) : D67) ++ s'.drop ((s'.length : Int)).toNat).take ((i' : Int)).toNat).drop ((0 : Int)).toNat = s'.take i' := by
            simp only [Int.toNat_natCast, Int.toNat_zero, List.drop_zero, List.append_assoc]
            rw [List.take_append_of_le_length (by simp; omega), List.take_take, Nat.min_self]
          refine wq_iteN.2 ⟨by omega, wq_iteN.2 ⟨by omega, wq_iteN.2 ⟨by omega, wq_iteN.2 ⟨by omega, wq_iteN.2 ⟨by rw [el]; omega, ?_⟩⟩⟩⟩⟩
          rw [ev]
          exact hR _ s3 (by simp; omega)
      · refine ih (i + 1) _ Kx Rx Q (by omega) (by omega) (by omega) ?_ hK hR
        rw [take_add o i hi]
        have hne : nm (rdAt (t := t67) o (i : Int)) ≠ nm (rdAt (t := t67) o ((i - 1 : Nat) : Int)) := fun e => by rw [hr.2 e] at g; cases g
        have hself : Comp (o.take i) (o.take i) := ⟨h4, fun x hx => hx, fun x hx => ⟨x, hx, rfl⟩⟩
        exact (hself.add (behind hs (by omega) hi hne)).srt
    · have : i = o.length := by omega
      rw [this, List.take_length] at h4
      exact hK o ⟨h4, fun x hx => hx, fun x hx => ⟨x, hx, rfl⟩⟩ ho

structure AllOk (A B all : List D67) : Prop where
  srt : Srt all
  sub : ∀ m ∈ all, m ∈ A ∨ m ∈ B
  cov : ∀ m, m ∈ A ∨ m ∈ B → ∃ o ∈ all, nm o = nm m
  len : all.length ≤ 8

theorem tl52_0x (ls : List (List D67)) (hl : ∀ l ∈ ls, l.length ≤ 4) (hn : ls.length ≤ 2) (k : Nat) : ∀ (i : Nat) (t : Int) (u : List (List D67)) (Kx) (Rx) (Q), ls.length < i + k → i ≤ ls.length → 0 ≤ t → t ≤ 4 * (i : Int) →
    (∀ t : Int, 0 ≤ t → t ≤ 8 → Wp (Kx (u, t, ())) Q) → Wp (L52_0 N (sp73 N) (sp76 N) k (u, t, ls, (ls.length : Int), (i : Int), ()) Kx Rx) Q := by
  induction k with
  | zero => intro i t u Kx Rx Q h1 h2; omega
  | succ k ih =>
    intro i t u Kx Rx Q h1 h2 h3 h4 hK
    rw [L52_0]
    dsimp only
    refine wq_condD.2 ⟨fun h => ?_, fun h => hK t h3 (by omega)⟩
    have hm := hl _ (rdAt_mem (t := .sl 68 t67) ls (i : Int) (by omega) (by omega))
    rw [wrap_succ (show i < ls.length by omega) (by omega)]
    generalize rdAt (t := .sl 68 t67) ls (i : Int) = l at hm ⊢
    have hm' : l.length ≤ 4 := hm
    rw [wrap_id (by omega) (by omega)]
    exact wq_iteN.2 ⟨by omega, wq_iteN.2 ⟨by omega, wq_condD.2 ⟨fun g => by omega, fun _ => ih (i + 1) _ _ Kx Rx Q (by omega) (by omega) (by omega) (by omega) hK⟩⟩⟩

theorem tl52_1x (ls : List (List D67)) (hl : ∀ l ∈ ls, l.length ≤ 4) (hn : ls.length ≤ 2) (k : Nat) : ∀ (i : Nat) (out : List D67) (Kx) (Rx) (Q), ls.length < i + k → i ≤ ls.length → out.length ≤ 4 * i → (∀ y, y ∈ out ↔ ∃ l ∈ ls.take i, y ∈ l) →
    (∀ o : List D67, o.length ≤ 8 → (∀ y, y ∈ o ↔ ∃ l ∈ ls, y ∈ l) → Wp (Kx (o, ())) Q) → Wp (L52_1 N (sp73 N) (sp76 N) k (ls, (ls.length : Int), (i : Int), out, ()) Kx Rx) Q := by
  induction k with
  | zero => intro i out Kx Rx Q h1 h2; omega
  | succ k ih =>
    intro i out Kx Rx Q h1 h2 h3 h4 hK
    rw [L52_1]
    dsimp only
    refine wq_condD.2 ⟨fun h => ?_, fun h => ?_⟩
    · have hi : i < ls.length := by omega
      have hm := hl _ (rdAt_mem (t := .sl 68 t67) ls (i : Int) (by omega) (by omega))
      rw [wrap_succ (show i < ls.length by omega) (by omega)]
      have e : rdAt (t := .sl 68 t67) ls (i : Int) = ls[i] := rdAt_at (t := .sl 68 t67) ls i hi
      rw [e] at hm ⊢
      refine wq_iteN.2 ⟨by omega, wq_iteN.2 ⟨by omega, wq_iteN.2 ⟨by omega, ih (i + 1) _ Kx Rx Q (by omega) (by omega) (by rw [List.length_append]; omega) (fun y => ?_) hK⟩⟩⟩
      rw [List.take_succ_eq_append_getElem hi, List.mem_append, h4 y]
      constructor
      · rintro (⟨l, g1, g2⟩ | g)
        · exact ⟨l, List.mem_append_left _ g1, g2⟩
        · exact ⟨_, List.mem_append_right _ (List.mem_singleton.2 rfl), g⟩
      · rintro ⟨l, g1, g2⟩
        rcases List.mem_append.1 g1 with g1 | g1
        · exact .inl ⟨l, g1, g2⟩
        · simp only [List.mem_singleton] at g1
          rw [g1] at g2; exact .inr g2
    · have : i = ls.length := by omega
      rw [this, List.take_length] at h4
      exact hK out (by omega) h4

theorem tl52_2x (n : Int) (hn : n ≤ 8) (d : List D67) (k : Nat) (hk : 0 < k) (Kx) (Rx) (Q) (h : Wp (Kx (n, (), (20 : Int), (0 : Int), d, (), ())) Q) : Wp (L52_2 N (sp73 N) (sp76 N) k (n, (), (20 : Int), (0 : Int), (20 : Int), d, (), ()) Kx Rx) Q := by
  cases k with
  | zero => omega
  | succ k =>
    rw [L52_2]
    dsimp only
    exact wq_condD.2 ⟨fun g => by omega, fun _ => h⟩

theorem tl52_7x (n : Int) (hn : n ≤ 8) (d : List D67) (k : Nat) (hk : 0 < k) (Kx) (Rx) (Q) (h : Wp (Kx (d, ())) Q) : Wp (L52_7 N (sp73 N) (sp76 N) k (n, (), (20 : Int), d, (), ()) Kx Rx) Q := by
  cases k with
  | zero => omega
  | succ k =>
    rw [L52_7]
    dsimp only
    exact wq_condD.2 ⟨fun g => by omega, fun _ => h⟩

theorem tp52 (hN : 5000 ≤ N) (x y : D31) (hx : x.2.2.2.1.length ≤ 4) (hy : y.2.2.2.1.length ≤ 4) : Wp (sp52 N (x, y, ())) fun r => AllOk x.2.2.2.1 y.2.2.2.1 r.1 := by
  unfold sp52 F52
  dsimp only
  have hl : ∀ l ∈ [x.2.2.2.1, y.2.2.2.1], l.length ≤ 4 := by
    intro l h
    simp only [List.mem_cons, List.not_mem_nil, or_false] at h
    rcases h with rfl | rfl
    · exact hx
    · exact hy
  have main : ∀ (Q : ((List D67) × Unit) → Prop), (∀ l, AllOk x.2.2.2.1 y.2.2.2.1 l → Q (l, ())) → Wp (L52_1 N (sp73 N) (sp76 N) N ([x.2.2.2.1, y.2.2.2.1], ([x.2.2.2.1, y.2.2.2.1].length : Int), (0 : Int), [], ()) (fun y5 =>
      L52_2 N (sp73 N) (sp76 N) N ((y5.1.length : Int), (), (20 : Int), (0 : Int), (20 : Int), y5.1, (), ()) (fun y12 =>
      L52_5 N (sp73 N) (sp76 N) N (y12.2.2.2.1, y12.1, y12.2.1, (IntKind.i64.wrap (y12.2.2.2.1 + (1 : Int))), y12.1, y12.2.1, y12.2.2.1, y12.2.2.2.2.1, (), (), ()) (fun y17 =>
      L52_7 N (sp73 N) (sp76 N) N (y17.1, y17.2.1, y17.2.2.1, y17.2.2.2.1, (), ()) (fun y21 =>
      cond (decide ((y21.1.length : Int) < (2 : Int))) (
      some y21) (
      L52_9 N (sp73 N) (sp76 N) N ((), (1 : Int), y21.1, ()) (fun y28 =>
      some y28) (fun y29 =>
      some y29))) (fun _ => none)) (fun _ => none)) (fun _ => none)) (fun _ => none)) Q := by
    intro Q hQ
    refine tl52_1x N _ hl (by simp) N 0 [] _ _ _ (by simp; omega) (by omega) (by simp) (fun y => by simp) fun o o1 o2 => ?_
    dsimp only
    refine tl52_2x N _ (by omega) o N (by omega) _ _ _ ?_
    dsimp only
    have w : IntKind.i64.wrap ((0 : Int) + 1) = ((1 : Nat) : Int) := by rw [wrap_id (by omega) (by omega)]; omega
    rw [w]
    have h5 := tl52_5x N (o.length : Int) 20 hN o.length o1 N 1 () () () () (o.take 1) (o.drop 1) (fun y17 =>
      L52_7 N (sp73 N) (sp76 N) N (y17.1, y17.2.1, y17.2.2.1, y17.2.2.2.1, (), ()) (fun y21 =>
      cond (decide ((y21.1.length : Int) < (2 : Int))) (
      some y21) (
      L52_9 N (sp73 N) (sp76 N) N ((), (1 : Int), y21.1, ()) (fun y28 =>
      some y28) (fun y29 =>
      some y29))) (fun _ => none)) (fun _ => none) Q (by omega) (by omega) (by rw [List.take_append_drop]) ?_ ?_ fun S s1 s2 s3 => ?_
    · rw [List.take_append_drop] at h5
      exact h5
    · by_cases g : 1 ≤ o.length
      · left; simp; omega
      · right; exact ⟨List.drop_eq_nil_of_le (by omega), by omega⟩
    · have h1 : (o.take 1).length ≤ 1 := by simp; omega
      match o.take 1, h1 with
      | [], _ => exact .nil
      | [a], _ => simp
      | a :: b :: l, h => simp at h
    · dsimp only
      rw [List.take_append_drop] at s2
      refine tl52_7x N _ (by omega) S N (by omega) _ _ _ ?_
      dsimp only
      have fin : ∀ l, Comp l S → l.length ≤ 8 → Q (l, ()) := fun l hl hl8 => hQ l ⟨hl.srt, fun m hm => ?_, fun m hm => ?_, hl8⟩
      · refine wq_condD.2 ⟨fun g => wq_some.2 (fin S ⟨?_, fun x hx => hx, fun x hx => ⟨x, hx, rfl⟩⟩ (by omega)), fun g => ?_⟩
        · match S, g with
          | [], _ => exact .nil
          | [a], _ => simp
          | a :: b :: l, h => simp at h; omega
        · have := tl52_9x N hN S s3 (by omega) N 1 () (fun y28 => some y28) (fun y29 => some y29) Q (by omega) (by omega) (by omega) ?_ (fun l hl hl8 => wq_some.2 (fin l hl hl8)) (fun l hl hl8 => wq_some.2 (fin l hl hl8))
          · exact this
          · have h1 : (S.take 1).length ≤ 1 := by simp; omega
            match S.take 1, h1 with
            | [], _ => exact .nil
            | [a], _ => simp
            | a :: b :: l, h => simp at h
      · have := (o2 m).1 ((s2 m).1 (hl.sub m hm))
        simpa using this
      · refine hl.cov m ((s2 m).2 ((o2 m).2 ?_))
        simpa using hm
  refine tl52_0x N _ hl (by simp) N 0 0 _ _ _ _ (by simp; omega) (by omega) (by omega) (by omega) fun t t1 t2 => ?_
  dsimp only
  refine wq_ite.2 ⟨fun _ => wq_iteN.2 ⟨by omega, main _ fun l h => h⟩, fun _ => wq_iteN.2 ⟨by omega, main _ fun l h => h⟩⟩

end Go.Proofs.Ytkifmnocomadfaa
end

/- A span made wide; spans that are alike. -/
section
set_option linter.unusedVariables false
namespace Go.Proofs.Ytkifmnocomadfaa
open Go.V
variable (N : Nat)

theorem sn_zero {f : Nat → Int} : ∀ {n : Nat}, (∀ j, j < n → f j = 0) → sn f n = 0
  | 0, _ => rfl
  | n + 1, h => by rw [sn, sn_zero fun j hj => h j (by omega), h n (by omega)]; rfl

theorem sn_congr {f g : Nat → Int} : ∀ {n : Nat}, (∀ j, j < n → f j = g j) → sn f n = sn g n
  | 0, _ => rfl
  | n + 1, h => by rw [sn, sn, sn_congr fun j hj => h j (by omega), h n (by omega)]

theorem sn_add (f g : Nat → Int) : ∀ n : Nat, sn (fun j => f j + g j) n = sn f n + sn g n
  | 0 => rfl
  | n + 1 => by rw [sn, sn, sn, sn_add f g n]; omega

theorem sn_single {f : Nat → Int} {j0 : Nat} : ∀ {n : Nat}, j0 < n → (∀ j, j < n → j ≠ j0 → f j = 0) → sn f n = f j0
  | 0, h, _ => by omega
  | n + 1, h, hz => by
    rw [sn]
    by_cases e : j0 = n
    · rw [sn_zero fun j hj => hz j (by omega) (by omega), e]; omega
    · rw [sn_single (by omega) fun j hj hne => hz j (by omega) hne, hz n (by omega) (by omega)]; omega

theorem sn_swap2 (f : Nat → Nat → Int) (m : Nat) : ∀ n, sn (fun i => sn (fun j => f i j) m) n = sn (fun j => sn (fun i => f i j) n) m
  | 0 => (sn_zero fun _ _ => rfl).symm
  | n + 1 => by
    rw [sn, sn_swap2 f m n, ← sn_add]
    rfl

noncomputable def wv (c : D25) (d : Int) (n : List UInt8) (q : Int) : Int := sn (fun j => if nm (rdAt (t := t67) c.2.2.2.1 (j : Int)) = n then dayL N c d (j : Int) q else 0) c.2.2.2.1.length
noncomputable def wl (c : D25) (d : Int) (m : D67) : List Int := (List.range (m.2.2.1.toNat + 1)).map fun q : Nat => wv N c d (nm m) (q : Int)

variable {N} in
theorem wl_len {c : D25} {d : Int} {m : D67} : (wl N c d m).length = m.2.2.1.toNat + 1 := by simp [wl]
variable {N} in
theorem wl_rd {c : D25} {d : Int} {m : D67} {q : Nat} (hq : q < m.2.2.1.toNat + 1) : rdI (wl N c d m) (q : Int) = wv N c d (nm m) (q : Int) := by
  have h : q < (wl N c d m).length := by rw [wl_len]; exact hq
  rw [show rdI (wl N c d m) (q : Int) = _ from rdAt_at (t := .int .i64) _ q h]
  simp [wl]

variable {N} in
theorem wv_at {c : D25} (hs : Srt c.2.2.2.1) {d q : Int} {j : Nat} (hj : j < c.2.2.2.1.length) {n : List UInt8} (he : nm (rdAt (t := t67) c.2.2.2.1 (j : Int)) = n) : wv N c d n q = dayL N c d (j : Int) q := by
  unfold wv
  rw [sn_single hj fun j' hj' hne => ?_, if_pos he]
  refine if_neg fun h => hne ?_
  exact hs.inj (rdAt_some (t := t67) _ j' hj') (rdAt_some (t := t67) _ j hj) (h.trans he.symm)

variable {N} in
theorem wv_no {c : D25} {d q : Int} {n : List UInt8} (h : ∀ m ∈ c.2.2.2.1, nm m ≠ n) : wv N c d n q = 0 := by
  unfold wv
  exact sn_zero fun j hj => if_neg (h _ (rdAt_mem (t := t67) _ _ (by omega) (by omega)))

structure SaysW (c : D25) (all : List D67) (d : Int) (s : D40) : Prop where
  fixed : s.2.2.1 = dayF N c d
  len : s.2.2.2.1.length = all.length
  cur : ∀ (i : Nat) (m : D67), all[i]? = some m → ∃ x, s.2.2.2.1[i]? = some x ∧ OfOk (wl N c d m) x

structure Side (c : D25) (all : List D67) : Prop where
  srt : Srt c.2.2.2.1
  ok : ∀ m ∈ all, 0 ≤ m.2.2.1 ∧ m.2.2.1 ≤ 2000
  len : all.length ≤ 8
  max : ∀ m ∈ all, ∀ o ∈ c.2.2.2.1, nm o = nm m → o.2.2.1 = m.2.2.1

variable {N} in
theorem wl_at {c : D25} {all : List D67} (h : Side c all) {d : Int} {m : D67} (hm : m ∈ all) {j : Nat} (hj : j < c.2.2.2.1.length) (he : nm (rdAt (t := t67) c.2.2.2.1 (j : Int)) = nm m) : wl N c d m = lst N c d j := by
  unfold wl lst
  rw [h.max m hm _ (rdAt_mem (t := t67) _ _ (by omega) (by omega)) he]
  exact List.map_congr_left fun q _ => wv_at h.srt hj he

theorem tl53x (hN : 5000 ≤ N) {c : D25} {all : List D67} (h : Side c all) (hc : c.2.2.2.1.length ≤ 4) {d : Int} {s : D40} (hs : Says N c d s) (a b e a' b' e' : Int) (cv1 : List D52) (k : Nat) : ∀ (i : Nat) (u1 u2 u3 : Unit) (cv : List D52) (Kx) (Rx) (Q), all.length < i + k → i ≤ all.length → cv.length = i → (∀ (j : Nat) (m : D67), j < i → all[j]? = some m → ∃ x, cv[j]? = some x ∧ OfOk (wl N c d m) x) →
    (∀ cv : List D52, cv.length = all.length → (∀ (i : Nat) (m : D67), all[i]? = some m → ∃ x, cv[i]? = some x ∧ OfOk (wl N c d m) x) → Wp (Kx ((), (), a, b, e, a', b', e', cv1, cv, ())) Q) →
    Wp (L53_0 N (sp77 N) (sp78c N) k (c.2.2.2.1, u1, u2, u3, all, (all.length : Int), (i : Int), s, a, b, e, a', b', e', cv1, cv, ()) Kx Rx) Q := by
  have hl8 := h.len
  induction k with
  | zero => intro i u1 u2 u3 cv Kx Rx Q h1 h2; omega
  | succ k ih =>
    intro i u1 u2 u3 cv Kx Rx Q h1 h2 h3 h4 hK
    rw [L53_0]
    dsimp only
    refine wq_condD.2 ⟨fun g => ?_, fun g => hK cv (by omega) fun j m hm => h4 j m (by have := (List.getElem?_eq_some_iff.1 hm).1; omega) hm⟩
    have hi : i < all.length := by omega
    rw [wrap_succ (show i < all.length by omega) (by omega)]
    have hx := rdAt_some (t := t67) all i hi
    have hm := h.ok _ (List.mem_of_getElem? hx)
    have hmem := List.mem_of_getElem? hx
    generalize rdAt (t := t67) all (i : Int) = m at hx hm hmem ⊢
    have step : ∀ x : D52, OfOk (wl N c d m) x → Wp (L53_0 N (sp77 N) (sp78c N) k (c.2.2.2.1, (), (), (), all, (all.length : Int), ((i + 1 : Nat) : Int), s, a, b, e, a', b', e', cv1, cv ++ [x], ()) Kx Rx) Q := fun x hxx => by
      refine ih (i + 1) _ _ _ _ Kx Rx Q (by omega) (by omega) (by simp [h3]) (fun j m' hj hm' => ?_) hK
      by_cases ej : j = i
      · subst ej
        rw [hx] at hm'
        cases hm'
        exact ⟨x, by rw [List.getElem?_append_right (by omega), h3, Nat.sub_self]; rfl, hxx⟩
      · obtain ⟨y, y1, y2⟩ := h4 j m' (by omega) hm'
        exact ⟨y, by rw [List.getElem?_append_left (by omega)]; exact y1, y2⟩
    refine wq_iteN.2 ⟨by omega, wq_iteN.2 ⟨by omega, wq_bind.2 ((tp77 N hN m.2.2.1 hm.1 hm.2).mono fun r3 hr3 => wq_bind.2 ((tp78c N hN c.2.2.2.1 (by omega) m).mono fun r hr => ?_))⟩⟩
    rcases hr.is with ⟨er, hn⟩ | ⟨j, o, er, hj, ho⟩
    · rw [er]
      refine wq_condD.2 ⟨fun g => by omega, fun _ => wq_iteN.2 ⟨by omega, step _ ?_⟩⟩
      have : wl N c d m = List.replicate (m.2.2.1.toNat + 1) 0 := by
        refine List.ext_getElem (by rw [wl_len]; simp) fun q q1 q2 => ?_
        have := wl_rd (N := N) (c := c) (d := d) (m := m) (q := q) (by rw [← wl_len (N := N) (c := c) (d := d)]; exact q1)
        rw [show rdI (wl N c d m) (q : Int) = _ from rdAt_at (t := .int .i64) _ q q1] at this
        rw [this, wv_no hn]
        simp
      rw [this]
      exact hr3
    · rw [er]
      have hjl := (List.getElem?_eq_some_iff.1 hj).1
      obtain ⟨x, x1, x2⟩ := hs.cur j hjl
      have hrx : rdAt (t := t52) s.2.2.2.1 (j : Int) = x := by
        have := rdAt_some (t := t52) s.2.2.2.1 j (by rw [hs.len]; exact hjl)
        rw [x1] at this
        exact (Option.some.inj this).symm
      have hrd : rdAt (t := t67) c.2.2.2.1 (j : Int) = o := by
        have := rdAt_some (t := t67) c.2.2.2.1 j hjl
        rw [hj] at this
        exact (Option.some.inj this).symm
      have hsl := hs.len
      rw [hrx]
      refine wq_condD.2 ⟨fun _ => wq_iteN.2 ⟨by omega, wq_iteN.2 ⟨by omega, wq_iteN.2 ⟨by omega, step _ ?_⟩⟩⟩, fun g => by omega⟩
      rw [wl_at h hmem hjl (by rw [hrd]; exact ho)]
      exact x2

theorem tp53 (hN : 5000 ≤ N) {c : D25} {all : List D67} (h : Side c all) (hc : c.2.2.2.1.length ≤ 4) {d : Int} {s : D40} (hs : Says N c d s) : Wp (sp53 N (s, c.2.2.2.1, all, ())) fun r => r.1.1 = s.1 ∧ r.1.2.1 = s.2.1 ∧ SaysW N c all d r.1 := by
  unfold sp53 F53
  dsimp only
  have := h.len
  refine tl53x N hN h hc hs _ _ _ _ _ _ _ N 0 _ _ _ [] _ _ _ (by omega) (by omega) rfl (fun j m hj => by omega) fun cv c1 c2 => wq_some.2 ⟨rfl, rfl, hs.fixed, c1, c2⟩

theorem tl67x (a b : List D77) (Q : D159 → Prop) (hl : a.length = b.length) (hb : a.length ≤ 2001) (hQ : Q (false, ())) (k : Nat) : ∀ (i : Nat) (Kx : Unit → Option D159), a.length < i + k → i ≤ a.length → (∀ j, j < i → a[j]? = b[j]?) → ((∀ j, j < a.length → a[j]? = b[j]?) → Wp (Kx ()) Q) →
    Wp (L67_0 N k (a, b, (a.length : Int), (i : Int), ()) Kx) Q := by
  induction k with
  | zero => intro i Kx h1 h2; omega
  | succ k ih =>
    intro i Kx h1 h2 hI hK
    rw [L67_0]
    dsimp only
    refine wq_condD.2 ⟨fun h => ?_, fun h => hK fun j hj => hI j (by omega)⟩
    rw [wrap_succ (show i < a.length by omega) (by omega)]
    refine wq_iteN.2 ⟨by omega, wq_iteN.2 ⟨by omega, wq_iteN.2 ⟨by omega, wq_iteN.2 ⟨by omega, wq_cond.2 ⟨fun he => wq_some.2 hQ, fun he => ih (i + 1) Kx (by omega) (by omega) (fun j hj => ?_) hK⟩⟩⟩⟩⟩
    by_cases e : j = i
    · subst e
      rw [rdAt_some (t := t77) a j (by omega), rdAt_some (t := t77) b j (by omega)]
      exact congrArg some (grp_eq (by simpa using he))
    · exact hI j (by omega)

theorem ext_of {α : Type} {a b : List α} (hl : a.length = b.length) (h : ∀ j, j < a.length → a[j]? = b[j]?) : a = b := by
  refine List.ext_getElem? fun j => ?_
  by_cases g : j < a.length
  · exact h j g
  · rw [List.getElem?_eq_none (by omega), List.getElem?_eq_none (by omega)]

theorem tp47x (hN : 5000 ≤ N) (a b : D52) (ha : a.2.1.length ≤ 2001) : Wp (sp47 N (a, b, ())) fun r => r.1 = true → a = b := by
  unfold sp47 F47 sp67 F67
  dsimp only
  have no : ((false, ()) : D159).1 = true → a = b := fun h => by cases h
  refine wq_cond.2 ⟨fun h1 => wq_bind.2 (wq_condM.2 ⟨fun _ => wq_some.2 (wq_some.2 no), fun hl => ?_⟩), fun _ => wq_some.2 no⟩
  refine tl67x N a.2.1 b.2.1 _ (by omega) ha (wq_some.2 no) N 0 _ (by omega) (by omega) (fun j hj => by omega) fun hK => wq_some.2 (wq_some.2 fun _ => ?_)
  obtain ⟨m, gs, ⟨⟩⟩ := a
  obtain ⟨m', gs', ⟨⟩⟩ := b
  dsimp only at h1 hl hK
  have e1 : m = m' := by simpa using h1
  rw [e1, ext_of (by omega) hK]

theorem tl92x (hN : 5000 ≤ N) (a b : List D52) (Q : D159 → Prop) (hl : a.length = b.length) (hb : a.length ≤ 8) (hs : ∀ x ∈ a, x.2.1.length ≤ 2001) (hQ : Q (false, ())) (k : Nat) : ∀ (i : Nat) (u : Unit) (Kx : Unit → Option D159), a.length < i + k → i ≤ a.length → (∀ j, j < i → a[j]? = b[j]?) → ((∀ j, j < a.length → a[j]? = b[j]?) → Wp (Kx ()) Q) →
    Wp (L92_0 N (sp47 N) k (b, u, a, (a.length : Int), (i : Int), ()) Kx) Q := by
  induction k with
  | zero => intro i u Kx h1 h2; omega
  | succ k ih =>
    intro i u Kx h1 h2 hI hK
    rw [L92_0]
    dsimp only
    refine wq_condD.2 ⟨fun h => ?_, fun h => hK fun j hj => hI j (by omega)⟩
    rw [wrap_succ (show i < a.length by omega) (by omega)]
    refine wq_iteN.2 ⟨by omega, wq_iteN.2 ⟨by omega, wq_iteN.2 ⟨by omega, wq_iteN.2 ⟨by omega, wq_bind.2 ((tp47x N hN _ _ (hs _ (rdAt_mem (t := t52) _ _ (by omega) (by omega)))).mono fun r hr => wq_condV.2 ⟨fun he => wq_some.2 hQ, fun he => ih (i + 1) _ Kx (by omega) (by omega) (fun j hj => ?_) hK⟩)⟩⟩⟩⟩
    by_cases e : j = i
    · subst e
      rw [rdAt_some (t := t52) a j (by omega), rdAt_some (t := t52) b j (by omega), hr he]
    · exact hI j (by omega)

theorem tp80 (hN : 5000 ≤ N) (s t : D40) (hn : s.2.2.2.1.length ≤ 8) (hs : ∀ x ∈ s.2.2.2.1, x.2.1.length ≤ 2001) : Wp (sp80 N (s, t, ())) fun r => r.1 = true → s.2.2 = t.2.2 := by
  unfold sp80 F80 sp92 F92
  dsimp only
  have no : ((false, ()) : D159).1 = true → s.2.2 = t.2.2 := fun h => by cases h
  refine wq_cond.2 ⟨fun h1 => wq_bind.2 (wq_condM.2 ⟨fun _ => wq_some.2 (wq_some.2 no), fun hl => ?_⟩), fun _ => wq_some.2 no⟩
  refine tl92x N hN s.2.2.2.1 t.2.2.2.1 _ (by omega) hn hs (wq_some.2 no) N 0 _ _ (by omega) (by omega) (fun j hj => by omega) fun hK => wq_some.2 (wq_some.2 fun _ => ?_)
  obtain ⟨f, o, m, gs, ⟨⟩⟩ := s
  obtain ⟨f', o', m', gs', ⟨⟩⟩ := t
  dsimp only at h1 hl hK ⊢
  have e1 : m = m' := by simpa using h1
  rw [e1, ext_of (by omega) hK]

end Go.Proofs.Ytkifmnocomadfaa
end

/- Twins: days by days, what both plans say. -/
section
set_option linter.unusedVariables false
namespace Go.Proofs.Ytkifmnocomadfaa
open Go.V
variable (N : Nat)

theorem wq_all {α : Type} {f : Option α} {Q : Int → α → Prop} {D : Int → Prop} (d0 : Int) (h0 : D d0) (h : ∀ d, D d → Wp f (Q d)) : Wp f (fun r => ∀ d, D d → Q d r) := by
  obtain ⟨r, e, _⟩ := h d0 h0
  refine ⟨r, e, fun d hd => ?_⟩
  obtain ⟨r', e', q⟩ := h d hd
  rw [e] at e'
  cases e'
  exact q

theorem Tile.len {α : Type} {fr to : α → Int} {P : Int → α → Prop} {a e : Int} {l : List α} (h : Tile fr to P a e l) : (l.length : Int) ≤ e - a := by
  induction h with
  | nil => simp
  | snoc m e A s hA h1 h2 h3 h4 ih => rw [List.length_append, List.length_singleton]; omega

theorem Tile.last {α : Type} {fr to : α → Int} {P : Int → α → Prop} {a e : Int} {l : List α} (h : Tile fr to P a e l) (h0 : 0 < l.length) : ∃ A s m, l = A ++ [s] ∧ Tile fr to P a m A ∧ m < e ∧ fr s = m ∧ to s = e - 1 ∧ ∀ d, m ≤ d → d < e → P d s := by
  cases h with
  | nil => simp at h0
  | snoc m e A s hA h1 h2 h3 h4 => exact ⟨A, s, m, rfl, hA, h1, h2, h3, h4⟩

def St (A B : List D40) (T e : Int) (i k : Nat) : Prop :=
  (∃ x y, A[i]? = some x ∧ B[k]? = some y ∧ x.1 ≤ e ∧ e ≤ x.2.1 ∧ y.1 ≤ e ∧ e ≤ y.2.1 ∧ (x.1 = e ∨ y.1 = e)) ∨ (e = T + 1 ∧ (A.length ≤ i ∨ B.length ≤ k))

theorem St.step {PA PB : Int → D40 → Prop} {F T e : Int} {A B : List D40} (hA : SpTile PA F (T + 1) A) (hB : SpTile PB F (T + 1) B) {i k : Nat} {x y : D40} (hx : A[i]? = some x) (hy : B[k]? = some y) (h1 : x.1 ≤ e) (h2 : e ≤ x.2.1) (h3 : y.1 ≤ e) (h4 : e ≤ y.2.1) {t : Int} (ht : t ≤ x.2.1) (ht' : t ≤ y.2.1) (hte : t = x.2.1 ∨ t = y.2.1) :
    St A B T (t + 1) (if x.2.1 = t then i + 1 else i) (if y.2.1 = t then k + 1 else k) := by
  obtain ⟨a1, a2, a3, _, _, a6, a7⟩ := hA.get i x hx
  obtain ⟨b1, b2, b3, _, _, b6, b7⟩ := hB.get k y hy
  have ail := (List.getElem?_eq_some_iff.1 hx).1
  have bil := (List.getElem?_eq_some_iff.1 hy).1
  have done : t = T → St A B T (t + 1) (if x.2.1 = t then i + 1 else i) (if y.2.1 = t then k + 1 else k) := fun e => by
    subst e
    refine .inr ⟨rfl, ?_⟩
    have ex : x.2.1 = t := by omega
    rw [if_pos ex]
    by_cases g : A.length ≤ i + 1
    · exact .inl g
    · exfalso
      have hz : A[i + 1]? = some A[i + 1] := List.getElem?_eq_getElem (by omega)
      obtain ⟨c1, c2, c3, _⟩ := hA.get (i + 1) _ hz
      have := a6 _ hz
      omega
  by_cases hT : t = T
  · exact done hT
  have nextA : x.2.1 = t → ∃ z, A[i + 1]? = some z ∧ z.1 = t + 1 ∧ z.1 ≤ z.2.1 := fun e => by
    have hl : i + 1 < A.length := by
      by_cases g : i + 1 < A.length
      · exact g
      · have := a7 (by omega)
        omega
    have hz : A[i + 1]? = some A[i + 1] := List.getElem?_eq_getElem hl
    obtain ⟨c1, c2, c3, _⟩ := hA.get (i + 1) _ hz
    exact ⟨_, hz, by have := a6 _ hz; omega, c2⟩
  have nextB : y.2.1 = t → ∃ z, B[k + 1]? = some z ∧ z.1 = t + 1 ∧ z.1 ≤ z.2.1 := fun e => by
    have hl : k + 1 < B.length := by
      by_cases g : k + 1 < B.length
      · exact g
      · have := b7 (by omega)
        omega
    have hz : B[k + 1]? = some B[k + 1] := List.getElem?_eq_getElem hl
    obtain ⟨c1, c2, c3, _⟩ := hB.get (k + 1) _ hz
    exact ⟨_, hz, by have := b6 _ hz; omega, c2⟩
  left
  by_cases e1 : x.2.1 = t
  · obtain ⟨z, z1, z2, z3⟩ := nextA e1
    rw [if_pos e1]
    by_cases e2 : y.2.1 = t
    · obtain ⟨w, w1, w2, w3⟩ := nextB e2
      rw [if_pos e2]
      exact ⟨z, w, z1, w1, by omega, by omega, by omega, by omega, .inl z2⟩
    · rw [if_neg e2]
      exact ⟨z, y, z1, hy, by omega, by omega, by omega, by omega, .inl z2⟩
  · have e2 : y.2.1 = t := by clear nextA nextB done; omega
    obtain ⟨w, w1, w2, w3⟩ := nextB e2
    rw [if_neg e1, if_pos e2]
    exact ⟨x, w, hx, w1, by omega, by omega, by omega, by omega, .inr w2⟩

variable {N} in
theorem SaysW.to {c : D25} {all : List D67} {d : Int} {s t : D40} (h : SaysW N c all d s) (e : t.2.2 = s.2.2) : SaysW N c all d t := ⟨by rw [e]; exact h.fixed, by rw [e]; exact h.len, by rw [e]; exact h.cur⟩

variable {N} in
theorem SaysW.small {c : D25} {all : List D67} (hs : Side c all) {d : Int} {s : D40} (h : SaysW N c all d s) : s.2.2.2.1.length ≤ 8 ∧ ∀ x ∈ s.2.2.2.1, x.2.1.length ≤ 2001 := by
  refine ⟨by rw [h.len]; exact hs.len, fun x hx => ?_⟩
  obtain ⟨i, hi, e⟩ := List.getElem_of_mem hx
  have hi' : i < all.length := by rw [← h.len]; exact hi
  have hm : all[i]? = some all[i] := List.getElem?_eq_getElem hi'
  obtain ⟨x', x1, x2⟩ := h.cur i _ hm
  rw [List.getElem?_eq_getElem hi, e] at x1
  cases x1
  have := hs.ok _ (List.mem_of_getElem? hm)
  exact (x2.curve (by rw [wl_len]; omega)).1.2

def TwinP (ca cb : D25) (all : List D67) (d : Int) (t : D69) : Prop := SaysW N ca all d t.2.2.1 ∧ SaysW N cb all d t.2.2.2.1
abbrev TwTile (P : Int → D69 → Prop) (a e : Int) (l : List D69) : Prop := Tile (fun s : D69 => s.1) (fun s : D69 => s.2.1) P a e l

theorem tl24_0x (hN : 5000 ≤ N) {ca cb : D25} {all : List D67} (sa : Side ca all) (sb : Side cb all) (ma : ca.2.2.2.1.length ≤ 4) (mb : cb.2.2.2.1.length ≤ 4) (x y : D31) (hxm : x.2.2.2.1 = ca.2.2.2.1) (hym : y.2.2.2.1 = cb.2.2.2.1) {F T : Int} (hF0 : 0 ≤ F) (hFT : T - F ≤ 3999) (hT : T ≤ 3652058)
    (hA : SpTile (Says N ca) F (T + 1) x.2.2.2.2.1) (hB : SpTile (Says N cb) F (T + 1) y.2.2.2.2.1) (k : Nat) : ∀ (e : Int) (i j : Nat) (out : List D69) (Kx) (Rx) (Q), T + 1 - e < (k : Int) → e ≤ T + 1 → F ≤ e → St x.2.2.2.2.1 y.2.2.2.2.1 T e i j → TwTile (TwinP N ca cb all) F e out →
    (∀ out, TwTile (TwinP N ca cb all) F (T + 1) out → Wp (Kx (all, out, ())) Q) →
    Wp (L24_0 N (sp51 N) (sp52 N) (sp53 N) (sp80 N) k ((), (), all, (i : Int), (j : Int), x, y, out, ()) Kx Rx) Q := by
  have lA := hA.len
  have lB := hB.len
  induction k with
  | zero => intro e i j out Kx Rx Q h1 h2; omega
  | succ k ih =>
    intro e i j out Kx Rx Q h1 h2 h3 hs ht hK
    rw [L24_0]
    dsimp only
    rcases hs with ⟨u, v, hu, hv, g1, g2, g3, g4, g5⟩ | ⟨he, hl⟩
    · have hi := (List.getElem?_eq_some_iff.1 hu).1
      have hj := (List.getElem?_eq_some_iff.1 hv).1
      have ru : rdAt (t := t40) x.2.2.2.2.1 (i : Int) = u := by
        have := rdAt_some (t := t40) _ i hi
        rw [hu] at this
        exact (Option.some.inj this).symm
      have rv : rdAt (t := t40) y.2.2.2.2.1 (j : Int) = v := by
        have := rdAt_some (t := t40) _ j hj
        rw [hv] at this
        exact (Option.some.inj this).symm
      obtain ⟨a1, a2, a3, a4, _⟩ := hA.get i u hu
      obtain ⟨b1, b2, b3, b4, _⟩ := hB.get j v hv
      have lO := ht.len
      rw [ru, rv, hxm, hym]
      refine wq_condD.2 ⟨fun _ => wq_condD.2 ⟨fun _ => wq_iteN.2 ⟨by omega, wq_iteN.2 ⟨by omega, wq_iteN.2 ⟨by omega, wq_iteN.2 ⟨by omega, ?_⟩⟩⟩⟩, fun g => by omega⟩, fun g => by omega⟩
      refine wq_bind.2 ((wq_all (D := fun d => e ≤ d ∧ d ≤ u.2.1) (Q := fun d (r : D40 × Unit) => SaysW N ca all d r.1) e ⟨by omega, g2⟩ fun d hd => (tp53 N hN sa ma (a4 d (by omega) hd.2)).mono fun r h => h.2.2).mono fun r6 h6 => ?_)
      refine wq_bind.2 ((wq_all (D := fun d => e ≤ d ∧ d ≤ v.2.1) (Q := fun d (r : D40 × Unit) => SaysW N cb all d r.1) e ⟨by omega, g4⟩ fun d hd => (tp53 N hN sb mb (b4 d (by omega) hd.2)).mono fun r h => h.2.2).mono fun r7 h7 => ?_)
      have hfr : (if v.1 > u.1 then v.1 else u.1) = e := by split <;> omega
      rw [hfr]
      obtain ⟨t, htt⟩ : ∃ t : Int, (if v.2.1 < u.2.1 then v.2.1 else u.2.1) = t := ⟨_, rfl⟩
      rw [htt]
      have ht1 : t ≤ u.2.1 ∧ t ≤ v.2.1 ∧ (t = u.2.1 ∨ t = v.2.1) ∧ e ≤ t := by
        split at htt <;> omega
      have hstep := St.step hA hB hu hv g1 g2 g3 g4 ht1.1 ht1.2.1 ht1.2.2.1
      obtain ⟨B7, ⟨⟩⟩ := r7
      have hP : ∀ d, e ≤ d → d < t + 1 → TwinP N ca cb all d (e, t, r6.1, B7, ()) := fun d d1 d2 => ⟨h6 d ⟨d1, by omega⟩, h7 d ⟨d1, by omega⟩⟩
      have w1 : IntKind.i64.wrap ((i : Int) + 1) = ((i + 1 : Nat) : Int) := by rw [wrap_id (by omega) (by omega)]; omega
      have w2 : IntKind.i64.wrap ((j : Int) + 1) = ((j + 1 : Nat) : Int) := by rw [wrap_id (by omega) (by omega)]; omega
      have join : ∀ (o : List D69), TwTile (TwinP N ca cb all) F (t + 1) o → Wp (J24_1 N (sp51 N) (sp52 N) (sp53 N) (sp80 N) 0 ((), (), all, (i : Int), (j : Int), (), (), (), x, y, u, v, (e, t, r6.1, B7, ()), o, ()) (fun y14 =>
          L24_0 N (sp51 N) (sp52 N) (sp53 N) (sp80 N) k ((), (), y14.2.2.1, y14.2.2.2.1, y14.2.2.2.2.1, y14.2.2.2.2.2.1, y14.2.2.2.2.2.2.1, y14.2.2.2.2.2.2.2.1, ()) Kx Rx) (fun _ => none)) Q := fun o ho => by
        unfold J24_1
        dsimp only
        rw [w1, w2]
        have go := fun i' j' (h : St x.2.2.2.2.1 y.2.2.2.2.1 T (t + 1) i' j') => ih (t + 1) i' j' o Kx Rx Q (by omega) (by omega) (by omega) h ho hK
        refine wq_cond.2 ⟨fun c1 => ?_, fun c1 => ?_⟩
        · have c1 : u.2.1 = t := by simpa using c1
          rw [if_pos c1] at hstep
          refine wq_cond.2 ⟨fun c2 => ?_, fun c2 => ?_⟩
          · have c2 : v.2.1 = t := by simpa using c2
            rw [if_pos c2] at hstep
            exact go _ _ hstep
          · have c2 : ¬ v.2.1 = t := by simpa using c2
            rw [if_neg c2] at hstep
            exact go _ _ hstep
        · have c1 : ¬ u.2.1 = t := by simpa using c1
          rw [if_neg c1] at hstep
          refine wq_cond.2 ⟨fun c2 => ?_, fun c2 => ?_⟩
          · have c2 : v.2.1 = t := by simpa using c2
            rw [if_pos c2] at hstep
            exact go _ _ hstep
          · have c2 : ¬ v.2.1 = t := by simpa using c2
            rw [if_neg c2] at hstep
            exact go _ _ hstep
      have app := join _ (Tile.snoc e (t + 1) out (e, t, r6.1, B7, ()) ht (by omega) rfl (by dsimp only; omega) hP)
      have w3 : ∀ h : 0 < out.length, IntKind.i64.wrap ((out.length : Int) - 1) = ((out.length - 1 : Nat) : Int) := fun h => by rw [wrap_id (by omega) (by omega)]; omega
      refine wq_condD.2 ⟨fun hp => ?_, fun hp => wq_iteN.2 ⟨by omega, app⟩⟩
      have hp' : 0 < out.length := by omega
      obtain ⟨A, s, m, ea, t1, t2, t3, t4, t5⟩ := ht.last hp'
      rw [w3 hp']
      have rs : rdAt (t := t69) out ((out.length - 1 : Nat) : Int) = s := by
        subst ea
        rw [rdAt_at _ _ (by simp)]
        simp
      rw [rs]
      have hP1 := t5 (e - 1) (by omega) (by omega)
      have sm1 := hP1.1.small sa
      have sm2 := hP1.2.small sb
      obtain ⟨R6, ⟨⟩⟩ := r6
      refine wq_iteN.2 ⟨by omega, wq_iteN.2 ⟨by omega, wq_bind.2 ((tp80 N hN s.2.2.1 R6 sm1.1 sm1.2).mono fun r9 h9 => wq_cond.2 ⟨fun c9 => ?_, fun _ => wq_iteN.2 ⟨by omega, app⟩⟩)⟩⟩
      refine wq_iteN.2 ⟨by omega, wq_iteN.2 ⟨by omega, wq_bind.2 ((tp80 N hN s.2.2.2.1 B7 sm2.1 sm2.2).mono fun r11 h11 => wq_cond.2 ⟨fun c11 => ?_, fun _ => wq_iteN.2 ⟨by omega, app⟩⟩)⟩⟩
      refine wq_iteN.2 ⟨by omega, wq_iteN.2 ⟨by omega, join _ ?_⟩⟩
      have es : out.set (((out.length - 1 : Nat) : Int)).toNat (s.1, t, s.2.2) = A ++ [(s.1, t, s.2.2)] := by
        subst ea
        simp
      rw [es]
      refine Tile.snoc m (t + 1) A _ t1 (by omega) t3 (by dsimp only; omega) fun d d1 d2 => ?_
      by_cases g : d < e
      · exact t5 d d1 g
      · have := hP d (by omega) d2
        exact ⟨this.1.to (h9 c9), this.2.to (h11 c11)⟩
    · subst he
      refine wq_condD.2 ⟨fun c1 => wq_condD.2 ⟨fun c2 => by omega, fun _ => hK out ht⟩, fun _ => hK out ht⟩

def SameT (t t' : D69) : Prop := t'.1 = t.1 ∧ t'.2.1 = t.2.1 ∧ t'.2.2.1.2.2 = t.2.2.1.2.2 ∧ t'.2.2.2.1.2.2 = t.2.2.2.1.2.2
theorem rd_setT (l : List D69) (n : Nat) (h : n < l.length) (v : D69) : rdAt (t := t69) (l.set ((n : Int)).toNat v) (n : Int) = v := by
  rw [rdAt_at _ _ (by simpa using h)]
  simp

theorem tl24_2x (all : List D67) (out : List D69) (hb : out.length ≤ 5000) (k : Nat) : ∀ (i : Nat) (l : List D69) (Kx) (Rx) (Q), out.length < i + k → i ≤ out.length → l.length = out.length → (∀ (j : Nat) (t : D69), out[j]? = some t → ∃ t', l[j]? = some t' ∧ SameT t t') →
    (∀ l : List D69, l.length = out.length → (∀ (j : Nat) (t : D69), out[j]? = some t → ∃ t', l[j]? = some t' ∧ SameT t t') → Wp (Kx (all, l, ())) Q) →
    Wp (L24_2 N (sp51 N) (sp52 N) (sp53 N) (sp80 N) k (all, (out.length : Int), (i : Int), l, ()) Kx Rx) Q := by
  induction k with
  | zero => intro i l Kx Rx Q h1 h2; omega
  | succ k ih =>
    intro i l Kx Rx Q h1 h2 h3 h4 hK
    rw [L24_2]
    dsimp only
    refine wq_condD.2 ⟨fun h => ?_, fun h => hK l h3 h4⟩
    rw [wrap_succ (show i < out.length by omega) (by omega)]
    have hi : i < l.length := by omega
    refine wq_iteN.2 ⟨by omega, wq_iteN.2 ⟨by omega, ?_⟩⟩
    have hr := fun (v : D69) => rd_setT l i hi v
    simp only [hr, List.set_set]
    refine ih (i + 1) _ Kx Rx Q (by omega) (by omega) (by simpa using h3) (fun j t hj => ?_) hK
    by_cases e : j = i
    · subst e
      obtain ⟨t', g1, g2⟩ := h4 j t hj
      have er : rdAt (t := t69) l (j : Int) = t' := by
        have := rdAt_some (t := t69) l j hi
        rw [g1] at this
        exact (Option.some.inj this).symm
      refine ⟨_, by rw [Int.toNat_natCast, List.getElem?_set_self hi], ?_⟩
      rw [er]
      exact g2
    · obtain ⟨t', g1, g2⟩ := h4 j t hj
      exact ⟨t', by rw [List.getElem?_set_ne (by simp; omega)]; exact g1, g2⟩

theorem side_of {c : D25} (hc : CoreOk2 c) {all : List D67} (hl : all.length ≤ 8) (hok : ∀ m ∈ all, 0 ≤ m.2.2.1 ∧ m.2.2.1 ≤ 2000) (hm : ∀ m ∈ all, m ∈ c.2.2.2.1 ∨ ∀ o ∈ c.2.2.2.1, nm o = nm m → o.2.2.1 = m.2.2.1) : Side c all := by
  have hs := srt_of _ hc.lt
  refine ⟨hs, hok, hl, fun m hm' o ho he => ?_⟩
  rcases hm m hm' with h | h
  · obtain ⟨i, hi, e1⟩ := List.getElem_of_mem h
    obtain ⟨j, hj, e2⟩ := List.getElem_of_mem ho
    have i' : c.2.2.2.1[i]? = some m := by rw [List.getElem?_eq_getElem hi, e1]
    have j' : c.2.2.2.1[j]? = some o := by rw [List.getElem?_eq_getElem hj, e2]
    have := hs.inj j' i' he
    rw [this, i'] at j'
    cases j'
    rfl
  · exact h o ho he

structure MadeOk (ca cb : D25) (all : List D67) (l : List D69) : Prop where
  both : AllOk ca.2.2.2.1 cb.2.2.2.1 all
  sa : Side ca all
  sb : Side cb all
  tw : ∃ o, TwTile (TwinP N ca cb all) ca.2.1 (ca.2.2.1 + 1) o ∧ l.length = o.length ∧ ∀ (j : Nat) (t : D69), o[j]? = some t → ∃ t', l[j]? = some t' ∧ SameT t t'

theorem tp24 (hN : 5000 ≤ N) {ca cb : D25} (ha : FitOk N ca) (hb : FitOk N cb) {x y : D31} (hx : FormIs N ca x) (hy : FormIs N cb y) (hl : LikeOk x y) : Wp (sp24 N (x, y, ())) fun r => r.2.2.1 = 0 ∧ MadeOk N ca cb r.1 r.2.1 := by
  have ma := ha.core.nm
  have mb := hb.core.nm
  have ta := ha.core.to
  have t0 := ha.core.fr
  unfold sp24 F24
  dsimp only
  have m1 := hx.meters
  have m2 := hy.meters
  refine wq_bind.2 ((tp51 N hN x y (by rw [m1]; omega) (by rw [m2]; omega) hl).mono fun r1 h1 => wq_condV.2 ⟨fun g => (by rw [h1] at g; cases g), fun _ => ?_⟩)
  refine wq_bind.2 ((tp52 N hN x y (by rw [m1]; omega) (by rw [m2]; omega)).mono fun r2 h2 => ?_)
  rw [m1, m2] at h2
  have hms := hl.ms.is
  rw [m1, m2] at hms
  have hok : ∀ m ∈ r2.1, 0 ≤ m.2.2.1 ∧ m.2.2.1 ≤ 2000 := fun m hm => by
    rcases h2.sub m hm with h | h
    · exact ha.core.meters m h
    · exact hb.core.meters m h
  have sa : Side ca r2.1 := side_of ha.core h2.len hok fun m hm => by
    rcases h2.sub m hm with h | h
    · exact .inl h
    · exact .inr fun o ho he => ((hms o ho m h he.symm).2).symm
  have sb : Side cb r2.1 := side_of hb.core h2.len hok fun m hm => by
    rcases h2.sub m hm with h | h
    · exact .inr fun o ho he => (hms m h o ho he).2
    · exact .inl h
  have tA := hx.tile
  have tB := hy.tile
  have e1 : ca.2.1 = cb.2.1 := by rw [← hx.fr, ← hy.fr]; exact hl.fr
  have e2 : ca.2.2.1 = cb.2.2.1 := by rw [← hx.to, ← hy.to]; exact hl.to
  rw [← e1, ← e2] at tB
  have hst : St x.2.2.2.2.1 y.2.2.2.2.1 ca.2.2.1 ca.2.1 0 0 := by
    have f : ∀ {P : Int → D40 → Prop} {A : List D40}, SpTile P ca.2.1 (ca.2.2.1 + 1) A → ∃ u, A[0]? = some u ∧ u.1 = ca.2.1 ∧ u.1 ≤ u.2.1 := fun {P A} h => by
      have : 0 < A.length := by
        cases A with
        | nil => have := h.nil_of; omega
        | cons a A => simp
      have hz : A[0]? = some A[0] := List.getElem?_eq_getElem this
      obtain ⟨c1, c2, c3, c4, c5, _⟩ := h.get 0 _ hz
      exact ⟨_, hz, c5 rfl, c2⟩
    obtain ⟨u, u1, u2, u3⟩ := f tA
    obtain ⟨v, v1, v2, v3⟩ := f tB
    exact .inl ⟨u, v, u1, v1, by omega, by omega, by omega, by omega, .inl u2⟩
  refine tl24_0x N hN sa sb ma mb x y m1 m2 t0 ta.2.2 ta.2.1 tA tB N ca.2.1 0 0 [] _ _ _ (by omega) (by omega) (by omega) hst .nil fun out hout => ?_
  have lo := hout.len
  dsimp only
  refine tl24_2x N r2.1 out (by omega) N 0 out _ _ _ (by omega) (by omega) rfl (fun j t hj => ⟨t, hj, rfl, rfl, rfl, rfl⟩) fun l l1 l2 => wq_some.2 ⟨rfl, h2, sa, sb, out, hout, l1, l2⟩

end Go.Proofs.Ytkifmnocomadfaa
end

/- The gap of a twin, and what it comes to by a basket. -/
section
set_option linter.unusedVariables false
namespace Go.Proofs.Ytkifmnocomadfaa
open Go.V
variable (N : Nat)

variable {N} in
theorem wv_b {c : D25} (hc : FitOk N c) {all : List D67} (h : Side c all) {m : D67} (hm : m ∈ all) (d q : Int) (h0 : 0 ≤ q) (h1 : q ≤ m.2.2.1) : sm60 (wv N c d (nm m) q) := by
  by_cases g : ∃ o ∈ c.2.2.2.1, nm o = nm m
  · obtain ⟨o, ho, he⟩ := g
    obtain ⟨j, hj, e⟩ := List.getElem_of_mem ho
    have er : rdAt (t := t67) c.2.2.2.1 (j : Int) = o := by rw [rdAt_at _ _ hj, e]
    rw [wv_at h.srt hj (by rw [er]; exact he)]
    exact dayL_b hc d (j : Int) q (by omega) (by omega) h0 (by rw [er, h.max m hm o ho he]; exact h1)
  · rw [wv_no fun o ho he => g ⟨o, ho, he⟩]
    exact ⟨by omega, by omega⟩

noncomputable def gv (ca cb : D25) (d : Int) (m : D67) (q : Int) : Int := wv N ca d (nm m) q - wv N cb d (nm m) q
noncomputable def gl (ca cb : D25) (d : Int) (m : D67) : List Int := (List.range (m.2.2.1.toNat + 1)).map fun q : Nat => gv N ca cb d m (q : Int)

variable {N} in
theorem gl_len {ca cb : D25} {d : Int} {m : D67} : (gl N ca cb d m).length = m.2.2.1.toNat + 1 := by simp [gl]
variable {N} in
theorem gl_rd {ca cb : D25} {d : Int} {m : D67} {q : Nat} (hq : q < m.2.2.1.toNat + 1) : rdI (gl N ca cb d m) (q : Int) = gv N ca cb d m (q : Int) := by
  have h : q < (gl N ca cb d m).length := by rw [gl_len]; exact hq
  rw [show rdI (gl N ca cb d m) (q : Int) = _ from rdAt_at (t := .int .i64) _ q h]
  simp [gl]

theorem tl25x (hN : 5000 ≤ N) {ca cb : D25} (ha : FitOk N ca) (hb : FitOk N cb) {all : List D67} (sa : Side ca all) (sb : Side cb all) (d : Int) (t : D69) (cA : List D52) (hA : cA.length = all.length) (hA2 : ∀ (i : Nat) (m : D67), all[i]? = some m → ∃ x, cA[i]? = some x ∧ OfOk (wl N ca d m) x)
    (hB : t.2.2.2.1.2.2.2.1.length = all.length) (hB2 : ∀ (i : Nat) (m : D67), all[i]? = some m → ∃ x, t.2.2.2.1.2.2.2.1[i]? = some x ∧ OfOk (wl N cb d m) x) (a b e a' b' e' : Int) (cv1 : List D52) (k : Nat) :
    ∀ (i : Nat) (u1 u2 u3 : Unit) (cv : List D52) (Kx) (Q), all.length < i + k → i ≤ all.length → cv.length = i → (∀ (j : Nat) (m : D67), j < i → all[j]? = some m → ∃ x, cv[j]? = some x ∧ OfOk (gl N ca cb d m) x) →
    (∀ cv : List D52, cv.length = all.length → (∀ (i : Nat) (m : D67), all[i]? = some m → ∃ x, cv[i]? = some x ∧ OfOk (gl N ca cb d m) x) → Wp (Kx ((), a, b, e, (), a', b', e', cv1, cv, ())) Q) →
    Wp (L25_0 N (sp55 N) (sp56 N) k (u1, t, u2, a, b, e, u3, a', b', e', cA, (all.length : Int), (i : Int), cv1, cv, ()) Kx) Q := by
  have hl8 := sa.len
  induction k with
  | zero => intro i u1 u2 u3 cv Kx Q h1 h2; omega
  | succ k ih =>
    intro i u1 u2 u3 cv Kx Q h1 h2 h3 h4 hK
    rw [L25_0]
    dsimp only
    refine wq_condD.2 ⟨fun g => ?_, fun g => hK cv (by omega) fun j m hm => h4 j m (by have := (List.getElem?_eq_some_iff.1 hm).1; omega) hm⟩
    have hi : i < all.length := by omega
    rw [wrap_succ (show i < all.length by omega) (by omega)]
    have hx := rdAt_some (t := t67) all i hi
    have hmem := List.mem_of_getElem? hx
    have hm := sa.ok _ hmem
    generalize rdAt (t := t67) all (i : Int) = m at hx hm hmem
    obtain ⟨x, x1, x2⟩ := hA2 i m hx
    obtain ⟨y, y1, y2⟩ := hB2 i m hx
    have rx : rdAt (t := t52) cA (i : Int) = x := by
      have := rdAt_some (t := t52) cA i (by omega)
      rw [x1] at this
      exact (Option.some.inj this).symm
    have ry : rdAt (t := t52) t.2.2.2.1.2.2.2.1 (i : Int) = y := by
      have := rdAt_some (t := t52) t.2.2.2.1.2.2.2.1 i (by omega)
      rw [y1] at this
      exact (Option.some.inj this).symm
    rw [rx, ry]
    refine wq_iteN.2 ⟨by omega, wq_iteN.2 ⟨by omega, wq_iteN.2 ⟨by omega, wq_iteN.2 ⟨by omega, ?_⟩⟩⟩⟩
    refine wq_bind.2 ((tp56 N hN (l := gl N ca cb d m) (by rw [wl_len, gl_len]) (by rw [wl_len, gl_len]) (by rw [gl_len]; omega) x2 y2 fun q hq => ?_).mono fun r hr => wq_condV.2 ⟨fun c => ?_, fun _ => ?_⟩)
    · rw [gl_len] at hq
      rw [gl_rd hq, wl_rd hq, wl_rd hq]
      exact ⟨rfl, wv_b ha sa hmem d q (by omega) (by omega), wv_b hb sb hmem d q (by omega) (by omega)⟩
    · rw [hr.1] at c
      cases c
    · refine wq_iteN.2 ⟨by omega, ih (i + 1) _ _ _ _ Kx Q (by omega) (by omega) (by simp [h3]) (fun j m' hj hm' => ?_) hK⟩
      by_cases ej : j = i
      · subst ej
        rw [hx] at hm'
        cases hm'
        exact ⟨r.1, by rw [List.getElem?_append_right (by omega), h3, Nat.sub_self]; rfl, hr.2⟩
      · obtain ⟨y, y1, y2⟩ := h4 j m' (by omega) hm'
        exact ⟨y, by rw [List.getElem?_append_left (by omega)]; exact y1, y2⟩

structure GapOk (ca cb : D25) (all : List D67) (d : Int) (g : D40) : Prop where
  fixed : g.2.2.1 = dayF N ca d - dayF N cb d
  len : g.2.2.2.1.length = all.length
  cur : ∀ (i : Nat) (m : D67), all[i]? = some m → ∃ x, g.2.2.2.1[i]? = some x ∧ OfOk (gl N ca cb d m) x

theorem tp25 (hN : 5000 ≤ N) {ca cb : D25} (ha : FitOk N ca) (hb : FitOk N cb) {all : List D67} (sa : Side ca all) (sb : Side cb all) (d : Int) (t : D69) (h : TwinP N ca cb all d t) : Wp (sp25 N (t, ())) fun r => r.2.1 = true ∧ r.1.1 = t.1 ∧ r.1.2.1 = t.2.1 ∧ GapOk N ca cb all d r.1 := by
  unfold sp25 F25
  dsimp only
  have fa := dayF_b ha d
  have fb := dayF_b hb d
  have h8 := sa.len
  have l1 := h.1.len
  have l2 := h.2.len
  rw [h.1.fixed, h.2.fixed]
  refine wq_bind.2 ((tp55 N _ _ ⟨by omega, by omega⟩ ⟨by omega, by omega⟩).mono fun r hr => ?_)
  subst hr
  refine wq_condV.2 ⟨fun c => (by cases c), fun _ => wq_condM.2 ⟨fun c => absurd (by omega) c, fun _ => ?_⟩⟩
  rw [l1]
  refine tl25x N hN ha hb sa sb d t t.2.2.1.2.2.2.1 l1 h.1.cur l2 h.2.cur _ _ _ _ _ _ _ N 0 _ _ _ [] _ _ (by omega) (by omega) rfl (fun j m hj => by omega) fun cv c1 c2 => wq_some.2 ⟨rfl, rfl, rfl, rfl, c1, c2⟩

variable {N} in
theorem TwinP.same {ca cb : D25} {all : List D67} {d : Int} {t t' : D69} (h : TwinP N ca cb all d t) (hs : SameT t t') : TwinP N ca cb all d t' := ⟨h.1.to hs.2.2.1, h.2.to hs.2.2.2⟩

theorem place {ca : D25} {all : List D67} (hs : Srt all) (hcov : ∀ m ∈ ca.2.2.2.1, ∃ o ∈ all, nm o = nm m) : ∃ π : Nat → Nat, ∀ j : Nat, j < ca.2.2.2.1.length → π j < all.length ∧ ∀ i : Nat, i < all.length → (nm (rdAt (t := t67) all (i : Int)) = nm (rdAt (t := t67) ca.2.2.2.1 (j : Int)) ↔ i = π j) := by
  have key : ∀ j : Nat, ∃ p : Nat, j < ca.2.2.2.1.length → p < all.length ∧ ∀ i : Nat, i < all.length → (nm (rdAt (t := t67) all (i : Int)) = nm (rdAt (t := t67) ca.2.2.2.1 (j : Int)) ↔ i = p) := fun j => by
    by_cases hj : j < ca.2.2.2.1.length
    · obtain ⟨o, ho, he⟩ := hcov _ (rdAt_mem (t := t67) ca.2.2.2.1 (j : Int) (by omega) (by omega))
      obtain ⟨p, hp, e⟩ := List.getElem_of_mem ho
      have ep : rdAt (t := t67) all (p : Int) = o := by rw [rdAt_at _ _ hp, e]
      refine ⟨p, fun _ => ⟨hp, fun i hi => ⟨fun h => ?_, fun h => ?_⟩⟩⟩
      · refine hs.inj (rdAt_some (t := t67) all i hi) (rdAt_some (t := t67) all p hp) ?_
        rw [ep, h, he]
      · rw [h, ep]; exact he
    · exact ⟨0, fun h => absurd h hj⟩
  exact ⟨fun j => (key j).choose, fun j hj => (key j).choose_spec hj⟩

theorem sum_place {ca : D25} {all : List D67} {d : Int} {bk : List Int} {π : Nat → Nat} (hπ : ∀ j : Nat, j < ca.2.2.2.1.length → π j < all.length ∧ ∀ i : Nat, i < all.length → (nm (rdAt (t := t67) all (i : Int)) = nm (rdAt (t := t67) ca.2.2.2.1 (j : Int)) ↔ i = π j)) :
    sn (fun i => wv N ca d (nm (rdAt (t := t67) all (i : Int))) (rdI bk (i : Int))) all.length = sn (fun j => dayL N ca d (j : Int) (rdI bk (π j : Int))) ca.2.2.2.1.length := by
  unfold wv
  rw [sn_swap2 (fun i j => if nm (rdAt (t := t67) ca.2.2.2.1 (j : Int)) = nm (rdAt (t := t67) all (i : Int)) then dayL N ca d (j : Int) (rdI bk (i : Int)) else 0)]
  refine sn_congr fun j hj => ?_
  obtain ⟨h1, h2⟩ := hπ j hj
  rw [sn_single h1 fun i hi hne => if_neg fun h => hne ((h2 i hi).1 h.symm), if_pos ((h2 _ h1).2 rfl).symm]

end Go.Proofs.Ytkifmnocomadfaa
end

/- PairGaps's law: what a basket costs more is what the gap says. -/
section
set_option linter.unusedVariables false
namespace Go.Proofs.Ytkifmnocomadfaa
open Go.V
variable (N : Nat)

theorem rd_of {α : Ty} {l : List α.den} {i : Nat} {x : α.den} (h : l[i]? = some x) : rdAt l (i : Int) = x := by
  have := rdAt_some l i (List.getElem?_eq_some_iff.1 h).1
  rw [h] at this
  exact (Option.some.inj this).symm

theorem tl5_0x (d : Int) (bk : List Int) (a b : D25) (all : List D67) (l : List D69) (ha : all.length ≤ 8) (hb : bk.length = all.length) (Q : D159 → Prop) (hQ : Q (true, ())) (k : Nat) : ∀ (i : Nat) (u1 u2 : Unit) (Kx), bk.length < i + k → i ≤ bk.length → (∀ j : Nat, j < i → 0 ≤ rdI bk (j : Int) ∧ rdI bk (j : Int) ≤ (rdAt (t := t67) all (j : Int)).2.2.1) →
    ((∀ j : Nat, j < bk.length → 0 ≤ rdI bk (j : Int) ∧ rdI bk (j : Int) ≤ (rdAt (t := t67) all (j : Int)).2.2.1) → Wp (Kx (d, bk, (), a, (), b, all, l, ())) Q) →
    Wp (L5_0 N (sp20 N) (sp21 N) (sp22 N) (sp23 N) (sp24 N) (sp25 N) (sp26 N) (sp27 N) (sp28 N) k (d, bk, u1, a, u2, b, all, l, bk, (bk.length : Int), (i : Int), ()) Kx) Q := by
  induction k with
  | zero => intro i u1 u2 Kx h1 h2; omega
  | succ k ih =>
    intro i u1 u2 Kx h1 h2 hI hK
    rw [L5_0]
    dsimp only
    refine wq_condD.2 ⟨fun h => ?_, fun h => hK fun j hj => hI j (by omega)⟩
    rw [wrap_succ (show i < bk.length by omega) (by omega)]
    refine wq_iteN.2 ⟨by omega, wq_iteN.2 ⟨by omega, wq_condD.2 ⟨fun _ => wq_some.2 hQ, fun g1 => wq_iteN.2 ⟨by omega, wq_iteN.2 ⟨by omega, wq_condD.2 ⟨fun _ => wq_some.2 hQ, fun g2 => ?_⟩⟩⟩⟩⟩⟩
    refine ih (i + 1) _ _ Kx (by omega) (by omega) (fun j hj => ?_) hK
    by_cases e : j = i
    · subst e
      exact ⟨Int.not_lt.1 g1, Int.not_lt.1 g2⟩
    · exact hI j (by omega)

theorem tl5_2x (hN : 5000 ≤ N) (d : Int) (bk : List Int) (a b : D25) (all : List D67) (g : D40) (h8 : all.length ≤ 8) (hok : ∀ m ∈ all, 0 ≤ m.2.2.1 ∧ m.2.2.1 ≤ 2000) (hb : bk.length = all.length) (hbk : ∀ j : Nat, j < bk.length → 0 ≤ rdI bk (j : Int) ∧ rdI bk (j : Int) ≤ (rdAt (t := t67) all (j : Int)).2.2.1) (hg : GapOk N a b all d g) (S : Int) (Q : D159 → Prop) (k : Nat) : ∀ (i : Nat) (u1 u2 u3 : Unit) (Kx), bk.length < i + k → i ≤ bk.length →
    (Wp (Kx (d, bk, (), a, (), b, all, IntKind.i64.wrap (S + sn (fun j => gv N a b d (rdAt (t := t67) all (j : Int)) (rdI bk (j : Int))) bk.length), ())) Q) →
    Wp (L5_2 N (sp20 N) (sp21 N) (sp22 N) (sp23 N) (sp24 N) (sp25 N) (sp26 N) (sp27 N) (sp28 N) k (d, bk, u1, a, u2, b, all, u3, g, IntKind.i64.wrap (S + sn (fun j => gv N a b d (rdAt (t := t67) all (j : Int)) (rdI bk (j : Int))) i), bk, (bk.length : Int), (i : Int), ()) Kx) Q := by
  induction k with
  | zero => intro i u1 u2 u3 Kx h1 h2; omega
  | succ k ih =>
    intro i u1 u2 u3 Kx h1 h2 hK
    rw [L5_2]
    dsimp only
    refine wq_condD.2 ⟨fun h => ?_, fun h => ?_⟩
    · have hi : i < bk.length := by omega
      rw [wrap_succ hi (by omega)]
      have hx := rdAt_some (t := t67) all i (by omega)
      have hm := hok _ (List.mem_of_getElem? hx)
      have hv := hbk i hi
      obtain ⟨x, x1, x2⟩ := hg.cur i _ hx
      have rx : rdAt (t := t52) g.2.2.2.1 (i : Int) = x := rd_of (α := t52) x1
      have hgl := hg.len
      have hlen : (gl N a b d (rdAt (t := t67) all (i : Int))).length ≤ 2001 := by rw [gl_len]; omega
      rw [rx]
      have rq : rdAt (t := .int .i64) bk (i : Int) = rdI bk (i : Int) := rfl
      rw [rq]
      obtain ⟨q, hq⟩ := Int.eq_ofNat_of_zero_le hv.1
      have hq2 : q < (gl N a b d (rdAt (t := t67) all (i : Int))).length := by rw [gl_len]; omega
      have at1 : atS x (rdI bk (i : Int)) = (gv N a b d (rdAt (t := t67) all (i : Int)) (rdI bk (i : Int)), true, ()) := by
        rw [hq, x2.at' hlen q hq2]
        have := gl_rd (N := N) (ca := a) (cb := b) (d := d) (m := rdAt (t := t67) all (i : Int)) (q := q) (by rw [← gl_len (N := N) (ca := a) (cb := b) (d := d)]; exact hq2)
        rw [show rdAt (t := .int .i64) (gl N a b d (rdAt (t := t67) all (i : Int))) (q : Int) = _ from this]
      refine wq_iteN.2 ⟨by omega, wq_iteN.2 ⟨by omega, wq_iteN.2 ⟨by omega, wq_iteN.2 ⟨by omega, ?_⟩⟩⟩⟩
      refine wq_bind.2 ((tp26 N hN x (rdI bk (i : Int)) (by omega) (x2.curve hlen).1).mono fun r15 e15 => ?_)
      rw [at1] at e15
      subst e15
      refine wq_condV.2 ⟨fun c => (by cases c), fun _ => wq_iteN.2 ⟨by omega, wq_iteN.2 ⟨by omega, ?_⟩⟩⟩
      refine wq_bind.2 ((tp20 N hN x2 hlen).mono fun r17 e17 => ?_)
      subst e17
      refine wq_condV.2 ⟨fun c => (by cases c), fun _ => ?_⟩
      dsimp only
      rw [wrap_add, Int.add_assoc]
      exact ih (i + 1) _ _ _ Kx (by omega) (by omega) hK
    · have : i = bk.length := by omega
      rw [this]
      exact hK

theorem gap_cost {a b : D25} (ha : FitOk N a) (hb : FitOk N b) {all : List D67} (d : Int) {bk : List Int} (hbl : bk.length = all.length) {πa πb : Nat → Nat}
    (ha' : ∀ j : Nat, j < a.2.2.2.1.length → πa j < all.length ∧ ∀ i : Nat, i < all.length → (nm (rdAt (t := t67) all (i : Int)) = nm (rdAt (t := t67) a.2.2.2.1 (j : Int)) ↔ i = πa j))
    (hb' : ∀ j : Nat, j < b.2.2.2.1.length → πb j < all.length ∧ ∀ i : Nat, i < all.length → (nm (rdAt (t := t67) all (i : Int)) = nm (rdAt (t := t67) b.2.2.2.1 (j : Int)) ↔ i = πb j)) :
    (dayF N a d - dayF N b d) + sn (fun j => gv N a b d (rdAt (t := t67) all (j : Int)) (rdI bk (j : Int))) bk.length =
      costOf N a d ((List.range a.2.2.2.1.length).map (fun i => rdI bk (πa i : Int))) - costOf N b d ((List.range b.2.2.2.1.length).map (fun i => rdI bk (πb i : Int))) := by
  have one : ∀ (c : D25), FitOk N c → ∀ π : Nat → Nat, (∀ j : Nat, j < c.2.2.2.1.length → π j < all.length ∧ ∀ i : Nat, i < all.length → (nm (rdAt (t := t67) all (i : Int)) = nm (rdAt (t := t67) c.2.2.2.1 (j : Int)) ↔ i = π j)) →
      costOf N c d ((List.range c.2.2.2.1.length).map (fun i => rdI bk (π i : Int))) = dayF N c d + sn (fun i => wv N c d (nm (rdAt (t := t67) all (i : Int))) (rdI bk (i : Int))) all.length := fun c hc π hπ => by
    rw [cost_day N hc.core.toCoreOk, sum_place N hπ]
    congr 1
    refine sn_congr fun j hj => ?_
    have : rdI ((List.range c.2.2.2.1.length).map (fun i => rdI bk (π i : Int))) (j : Int) = rdI bk (π j : Int) := by
      rw [show rdI ((List.range c.2.2.2.1.length).map (fun i => rdI bk (π i : Int))) (j : Int) = _ from rdAt_at (t := .int .i64) _ j (by simpa using hj)]
      simp
    rw [this]
  rw [one a ha πa ha', one b hb πb hb', hbl]
  have : sn (fun j => gv N a b d (rdAt (t := t67) all (j : Int)) (rdI bk (j : Int))) all.length + sn (fun i => wv N b d (nm (rdAt (t := t67) all (i : Int))) (rdI bk (i : Int))) all.length = sn (fun i => wv N a d (nm (rdAt (t := t67) all (i : Int))) (rdI bk (i : Int))) all.length := by
    rw [← sn_add]
    refine sn_congr fun j hj => ?_
    unfold gv
    omega
  omega

theorem own_ok {c : D25} {all : List D67} (hs : Side c all) {bk : List Int} (hb : bk.length = all.length) (hbk : ∀ j : Nat, j < bk.length → 0 ≤ rdI bk (j : Int) ∧ rdI bk (j : Int) ≤ (rdAt (t := t67) all (j : Int)).2.2.1) {π : Nat → Nat}
    (hπ : ∀ j : Nat, j < c.2.2.2.1.length → π j < all.length ∧ ∀ i : Nat, i < all.length → (nm (rdAt (t := t67) all (i : Int)) = nm (rdAt (t := t67) c.2.2.2.1 (j : Int)) ↔ i = π j)) : OwnOk c ((List.range c.2.2.2.1.length).map (fun i => rdI bk (π i : Int))) := by
  refine ⟨by simp, fun j hj => ?_⟩
  have e : rdI ((List.range c.2.2.2.1.length).map (fun i => rdI bk (π i : Int))) (j : Int) = rdI bk (π j : Int) := by
    rw [show rdI ((List.range c.2.2.2.1.length).map (fun i => rdI bk (π i : Int))) (j : Int) = _ from rdAt_at (t := .int .i64) _ j (by simpa using hj)]
    simp
  rw [e]
  obtain ⟨h1, h2⟩ := hπ j hj
  have := hbk (π j) (by omega)
  rw [hs.max _ (rdAt_mem (t := t67) all (π j : Int) (by omega) (by omega)) _ (rdAt_mem (t := t67) c.2.2.2.1 (j : Int) (by omega) (by omega)) ((h2 _ h1).2 rfl).symm]
  exact this

theorem tl5_1x (hN : 5000 ≤ N) (d : Int) (bk : List Int) {a b : D25} (ha : FitOk N a) (hb : FitOk N b) {all : List D67} {l o : List D69} (hall : AllOk a.2.2.2.1 b.2.2.2.1 all) (sa : Side a all) (sb : Side b all) (ho : TwTile (TwinP N a b all) a.2.1 (a.2.2.1 + 1) o) (hlen : l.length = o.length) (hsame : ∀ (j : Nat) (t : D69), o[j]? = some t → ∃ t', l[j]? = some t' ∧ SameT t t')
    (hbl : bk.length = all.length) (hbk : ∀ j : Nat, j < bk.length → 0 ≤ rdI bk (j : Int) ∧ rdI bk (j : Int) ≤ (rdAt (t := t67) all (j : Int)).2.2.1) (hd0 : a.2.1 ≤ d) (hd1 : d ≤ a.2.2.1) (k : Nat) :
    ∀ (i : Nat) (u1 u2 : Unit) (Kx : Unit → Option D159), o.length < i + k → i ≤ o.length → (i < o.length → ∀ t, o[i]? = some t → t.1 ≤ d) → (i = o.length → False) →
    Wp (L5_1 N (sp20 N) (sp21 N) (sp22 N) (sp23 N) (sp24 N) (sp25 N) (sp26 N) (sp27 N) (sp28 N) k (d, bk, u1, a, u2, b, all, l, (l.length : Int), (i : Int), ()) Kx) fun r => r = (true, ()) := by
  have hol := ho.len
  have hto := ha.core.to
  have h8 := hall.len
  induction k with
  | zero => intro i u1 u2 Kx h1 h2; omega
  | succ k ih =>
    intro i u1 u2 Kx h1 h2 h3 h4
    have hi : i < o.length := by
      by_cases g : i = o.length
      · exact absurd g h4
      · omega
    rw [L5_1]
    dsimp only
    refine wq_condD.2 ⟨fun _ => ?_, fun g => by omega⟩
    rw [wrap_succ (show i < o.length by omega) (by omega)]
    have ht : o[i]? = some o[i] := List.getElem?_eq_getElem hi
    obtain ⟨c1, c2, c3, c4, _, c6, c7⟩ := ho.get i _ ht
    obtain ⟨t', t1, t2⟩ := hsame i _ ht
    have ht0 := h3 hi _ ht
    generalize o[i] = t at *
    have rt : rdAt (t := t69) l (i : Int) = t' := rd_of (α := t69) t1
    rw [rt]
    have e1 := t2.1
    have e2 := t2.2.1
    refine wq_iteN.2 ⟨by omega, wq_iteN.2 ⟨by omega, wq_condD.2 ⟨fun g => by omega, fun _ => wq_condD.2 ⟨fun g => ?_, fun g => ?_⟩⟩⟩⟩
    · refine ih (i + 1) _ _ Kx (by omega) (by omega) (fun hi2 z hz => ?_) (fun e => ?_)
      · have := c6 z hz; omega
      · have := c7 e; omega
    · have hP := (c4 d (by omega) (by omega)).same t2
      refine wq_bind.2 ((tp25 N hN ha hb sa sb d t' hP).mono fun r11 h11 => ?_)
      obtain ⟨g1, g2, g3, g4⟩ := h11
      have gl' := g4.len
      refine wq_condV.2 ⟨fun c => (by rw [g1] at c; cases c), fun _ => wq_condM.2 ⟨fun c => absurd g2 c, fun _ => wq_condM.2 ⟨fun c => absurd g3 c, fun _ => wq_condM.2 ⟨fun c => absurd (by omega) c, fun _ => ?_⟩⟩⟩⟩
      obtain ⟨πa, pa⟩ := place (ca := a) hall.srt fun m hm => hall.cov m (.inl hm)
      obtain ⟨πb, pb⟩ := place (ca := b) hall.srt fun m hm => hall.cov m (.inr hm)
      have fa := dayF_b ha d
      have fb := dayF_b hb d
      have hfix : r11.1.2.2.1 = IntKind.i64.wrap ((dayF N a d - dayF N b d) + sn (fun j => gv N a b d (rdAt (t := t67) all (j : Int)) (rdI bk (j : Int))) 0) := by
        rw [g4.fixed, sn, Int.add_zero, wrap_id (by omega) (by omega)]
      rw [hfix]
      refine tl5_2x N hN d bk a b all r11.1 h8 sa.ok hbl hbk g4 _ _ N 0 _ _ _ _ (by omega) (by omega) ?_
      dsimp only
      have oa := own_ok sa hbl hbk pa
      have ob := own_ok sb hbl hbk pb
      rw [gap_cost N ha hb d hbl pa pb]
      refine wq_bind.2 ((tp28 N hN a ha.core.nm all bk hbl h8 πa pa).mono fun r20 e20 => ?_)
      subst e20
      refine wq_bind.2 ((tp27 N hN a ha d _ oa).mono fun r21 e21 => ?_)
      subst e21
      refine wq_bind.2 ((tp28 N hN b hb.core.nm all bk hbl h8 πb pb).mono fun r22 e22 => ?_)
      subst e22
      refine wq_bind.2 ((tp27 N hN b hb d _ ob).mono fun r23 e23 => ?_)
      subst e23
      refine wq_some.2 ?_
      simp

theorem pair_alive : sp21 5000 () = some (true, ()) := by kernel_rfl

theorem tp22 (hN : 5000 ≤ N) (a b : D25) (w1 : Wf t25 a) (w2 : Wf t25 b) : Wp (sp22 N (a, b, ())) fun r => r.2.2.1 = true → FitOk N a ∧ FitOk N b ∧ FormIs N a r.1 ∧ FormIs N b r.2.1 := by
  unfold sp22 F22
  dsimp only
  refine wq_bind.2 ((tt7x N hN a ⟨w1, trivial⟩).mono fun r1 h1 => wq_condV.2 ⟨fun _ => wq_some.2 fun h => (by cases h), fun c1 => ?_⟩)
  refine wq_bind.2 ((tt7x N hN b ⟨w2, trivial⟩).mono fun r2 h2 => wq_condV.2 ⟨fun _ => wq_some.2 fun h => (by cases h), fun c2 => ?_⟩)
  exact wq_bind.2 ((tp8x N hN a (h1 c1)).mono fun r3 hx => wq_bind.2 ((tp8x N hN b (h2 c2)).mono fun r4 hy => wq_some.2 fun _ => ⟨h1 c1, h2 c2, hx, hy⟩))

theorem pairGaps_true (a b : D25) (d : Int) (bk : List Int) (hw : Wf (Ty.prods [t25, t25, .int .i64, .sl 3 (.int .i64)]) (a, b, d, bk, ())) : sp5 5000 (a, b, d, bk, ()) = some (true, ()) := by
  have hN : 5000 ≤ 5000 := Nat.le_refl _
  obtain ⟨w1, w2, w3, _⟩ := hw
  refine eq_of_wp ?_
  unfold sp5 F5
  dsimp only
  refine wq_bind.2 (wq_of_eq pair_alive ?_)
  refine wq_condV.2 ⟨fun h => (by cases h), fun _ => ?_⟩
  refine wq_bind.2 ((tp22 5000 hN a b w1 w2).mono fun r2 h2 => wq_condV.2 ⟨fun _ => wq_some.2 rfl, fun c2 => ?_⟩)
  obtain ⟨ha, hb, hx, hy⟩ := h2 c2
  have ma := ha.core.nm
  have mb := hb.core.nm
  have m1 := hx.meters
  have m2 := hy.meters
  refine wq_bind.2 ((tp23 5000 hN r2.1 r2.2.1 (by rw [m1]; omega) (by rw [m2]; omega) (by rw [m2]; exact srt_of _ hb.core.lt)).mono fun r5 h5 => wq_condV.2 ⟨fun _ => wq_some.2 rfl, fun c5 => wq_condD.2 ⟨fun _ => wq_some.2 rfl, fun hl => ?_⟩⟩)
  refine wq_bind.2 ((tp24 5000 hN ha hb hx hy (h5 c5)).mono fun r6 h6 => ?_)
  obtain ⟨e0, hm⟩ := h6
  refine wq_condM.2 ⟨fun c => absurd e0 c, fun _ => wq_condM.2 ⟨fun _ => wq_some.2 rfl, fun hbl => wq_condD.2 ⟨fun _ => wq_some.2 rfl, fun hd0 => wq_condD.2 ⟨fun _ => wq_some.2 rfl, fun hd1 => ?_⟩⟩⟩⟩
  have h8 := hm.both.len
  have hto := ha.core.to
  obtain ⟨o, ho, hlen, hsame⟩ := hm.tw
  refine tl5_0x 5000 d bk a b r6.1 r6.2.1 h8 (by omega) (fun r => r = (true, ())) rfl 5000 0 _ _ _ (by omega) (by omega) (fun j hj => by omega) fun hbk => ?_
  have hol := ho.len
  have hne : 0 < o.length := by
    cases o with
    | nil => have := ho.nil_of; omega
    | cons t o => simp
  refine tl5_1x 5000 hN d bk ha hb hm.both hm.sa hm.sb ho hlen hsame (by omega) hbk (by omega) (by omega) 5000 0 _ _ _ (by omega) (by omega) (fun _ t ht => ?_) (fun e => by omega)
  have := (ho.get 0 t ht).2.2.2.2.1 rfl
  omega

end Go.Proofs.Ytkifmnocomadfaa
end
