/- Where something begins: between these days a day says what the day ahead says. -/
import Derived.Test.YtkifmnocomadfaaGPa
section
set_option linter.unusedVariables false
namespace Go.Proofs.Ytkifmnocomadfaa
open Go.V
variable (N : Nat)

theorem or_step (c n i : Nat) (hn : n < 2 ^ 64) (hi : i < 64) (hc : c * 2 ^ i < 2 ^ 64) :
    IntKind.u64.wrap (((BitVec.ofInt IntKind.u64.bits (n : Int) ||| BitVec.ofInt IntKind.u64.bits (IntKind.u64.wrap ((c : Int) * 2 ^ (min ((IntKind.u64.wrap (i : Int))).toNat IntKind.u64.bits)))).toNat : Int)) = ((n ||| (c * 2 ^ i) : Nat) : Int) := by
  have h1 : IntKind.u64.wrap (i : Int) = (i : Int) := by rw [wrap_u64]; omega
  have h2 : min (i : Int).toNat IntKind.u64.bits = i := by
    show min (i : Int).toNat 64 = i
    omega
  have h3 : (c : Int) * 2 ^ i = ((c * 2 ^ i : Nat) : Int) := by simp
  have h4 : IntKind.u64.wrap ((c * 2 ^ i : Nat) : Int) = ((c * 2 ^ i : Nat) : Int) := by rw [wrap_u64]; omega
  rw [h1, h2, h3, h4, BitVec.ofInt_natCast, BitVec.ofInt_natCast, BitVec.toNat_or, BitVec.toNat_ofNat, BitVec.toNat_ofNat]
  have h5 : n % 2 ^ IntKind.u64.bits = n := Nat.mod_eq_of_lt hn
  have h6 : (c * 2 ^ i) % 2 ^ IntKind.u64.bits = c * 2 ^ i := Nat.mod_eq_of_lt hc
  rw [h5, h6, wrap_u64]
  have h7 := Nat.or_lt_two_pow hn hc
  omega

theorem tl62_0x (k : Nat) : ∀ (i : Nat) (d : Int) (u : Unit) (c : D25) (n : Nat) (xs : List D87) (Kx : (Int × (Unit × (D25 × (Int × Unit)))) → Option (Int × Unit)) (Q), xs.length < i + k → i ≤ xs.length → xs.length ≤ 8 → n < 2 ^ 64 → (∀ b, n.testBit b = true ↔ b < i ∧ ∃ s, xs[b]? = some s ∧ onS d s) →
    (∀ n : Nat, n < 2 ^ 64 → (∀ b, n.testBit b = true ↔ ∃ s, xs[b]? = some s ∧ onS d s) → Wp (Kx (d, (), c, (n : Int), ())) Q) →
    Wp (L62_0 N k (d, u, c, (n : Int), xs, (xs.length : Int), (i : Int), ()) Kx) Q := by
  induction k with
  | zero => intro i d u c n xs Kx Q h1 h2; omega
  | succ k ih =>
    intro i d u c n xs Kx Q h1 h2 h3 hn hb hK
    rw [L62_0]
    dsimp only
    refine wq_condD.2 ⟨fun h => ?_, fun h => hK n hn fun b => ⟨fun g => ((hb b).1 g).2, fun g => (hb b).2 ⟨by obtain ⟨s, hs, _⟩ := g; have := (List.getElem?_eq_some_iff.1 hs).1; omega, g⟩⟩⟩
    have hi : i < xs.length := by omega
    rw [wrap_succ (show i < xs.length by omega) (by omega)]
    have hxi := rdR xs i hi
    have skip : ¬ onS d (rdAt (t := t87) xs (i : Int)) → ∀ b, n.testBit b = true ↔ b < i + 1 ∧ ∃ s, xs[b]? = some s ∧ onS d s := fun hs b => by
      rw [hb b]
      constructor
      · rintro ⟨g1, g2⟩; exact ⟨by omega, g2⟩
      · rintro ⟨g1, s, g2, g3⟩
        refine ⟨?_, s, g2, g3⟩
        by_cases e : b = i
        · rw [e, hxi] at g2; cases g2; exact absurd g3 hs
        · omega
    refine wq_iteN.2 ⟨by omega, wq_iteN.2 ⟨by omega, wq_condD.2 ⟨fun g1 => wq_condD.2 ⟨fun g2 => ?_, fun g2 => ?_⟩, fun g1 => ?_⟩⟩⟩
    · refine wq_iteN'.2 ⟨by rw [wrap_u64]; omega, ?_⟩
      have hp : 1 * 2 ^ i < 2 ^ 64 := by rw [Nat.one_mul]; exact Nat.pow_lt_pow_right (by omega) (by omega)
      have e := or_step 1 n i hn (by omega) hp
      rw [show ((1 : Nat) : Int) = 1 from rfl] at e
      rw [e]
      refine ih (i + 1) _ _ _ _ xs Kx Q (by omega) (by omega) h3 (Nat.or_lt_two_pow hn hp) (fun b => ?_) hK
      rw [Nat.testBit_or, Nat.one_mul, Nat.testBit_two_pow, Bool.or_eq_true, hb b, decide_eq_true_eq]
      constructor
      · rintro (⟨g3, g4⟩ | g3)
        · exact ⟨by omega, g4⟩
        · rw [← g3]; exact ⟨by omega, _, hxi, g1, g2⟩
      · rintro ⟨g3, g4⟩
        by_cases e : i = b
        · exact .inr e
        · exact .inl ⟨by omega, g4⟩
    · exact ih (i + 1) _ _ _ _ xs Kx Q (by omega) (by omega) h3 hn (skip fun h => g2 h.2) hK
    · exact ih (i + 1) _ _ _ _ xs Kx Q (by omega) (by omega) h3 hn (skip fun h => g1 h.1) hK

theorem tl62_1x (P : Nat → Prop) (k : Nat) : ∀ (i : Nat) (d : Int) (n : Nat) (xs : List D113) (Kx : (Int × Unit) → Option (Int × Unit)) (Q), xs.length < i + k → i ≤ xs.length → xs.length ≤ 8 → n < 2 ^ 64 → (∀ b, n.testBit b = true ↔ P b ∨ (∃ j, b = 8 + j ∧ j < i ∧ ∃ s, xs[j]? = some s ∧ onP d s)) →
    (∀ n : Nat, n < 2 ^ 64 → (∀ b, n.testBit b = true ↔ P b ∨ (∃ j, b = 8 + j ∧ ∃ s, xs[j]? = some s ∧ onP d s)) → Wp (Kx ((n : Int), ())) Q) →
    Wp (L62_1 N k (d, (n : Int), xs, (xs.length : Int), (i : Int), ()) Kx) Q := by
  induction k with
  | zero => intro i d n xs Kx Q h1 h2; omega
  | succ k ih =>
    intro i d n xs Kx Q h1 h2 h3 hn hb hK
    rw [L62_1]
    dsimp only
    refine wq_condD.2 ⟨fun h => ?_, fun h => hK n hn fun b => ?_⟩
    · have hi : i < xs.length := by omega
      rw [wrap_succ (show i < xs.length by omega) (by omega)]
      have hxi := rdAt_some (t := t113) xs i hi
      have skip : ¬ onP d (rdAt (t := t113) xs (i : Int)) → ∀ b, n.testBit b = true ↔ P b ∨ (∃ j, b = 8 + j ∧ j < i + 1 ∧ ∃ s, xs[j]? = some s ∧ onP d s) := fun hs b => by
        rw [hb b]
        constructor
        · rintro (g | ⟨j, j1, j2, j3⟩)
          · exact .inl g
          · exact .inr ⟨j, j1, by omega, j3⟩
        · rintro (g | ⟨j, j1, j2, s, j3, j4⟩)
          · exact .inl g
          · refine .inr ⟨j, j1, ?_, s, j3, j4⟩
            by_cases e : j = i
            · rw [e, hxi] at j3; cases j3; exact absurd j4 hs
            · omega
      refine wq_iteN.2 ⟨by omega, wq_iteN.2 ⟨by omega, wq_condD.2 ⟨fun g1 => wq_condD.2 ⟨fun g2 => ?_, fun g2 => ?_⟩, fun g1 => ?_⟩⟩⟩
      · refine wq_iteN'.2 ⟨by rw [wrap_u64]; omega, ?_⟩
        have hq : 256 * 2 ^ i = 2 ^ (8 + i) := by rw [Nat.pow_add]
        have hp : 256 * 2 ^ i < 2 ^ 64 := by rw [hq]; exact Nat.pow_lt_pow_right (by omega) (by omega)
        have e := or_step 256 n i hn (by omega) hp
        have e' := e
        rw [show ((256 : Nat) : Int) = 256 from rfl] at e'
        rw [e']
        refine ih (i + 1) _ _ xs Kx Q (by omega) (by omega) h3 (Nat.or_lt_two_pow hn hp) (fun b => ?_) hK
        rw [hq, Nat.testBit_or, Nat.testBit_two_pow, Bool.or_eq_true, hb b, decide_eq_true_eq]
        constructor
        · rintro ((g | ⟨j, j1, j2, j3⟩) | g)
          · exact .inl g
          · exact .inr ⟨j, j1, by omega, j3⟩
          · exact .inr ⟨i, g.symm, by omega, _, hxi, g1, g2⟩
        · rintro (g | ⟨j, j1, j2, j3⟩)
          · exact .inl (.inl g)
          · by_cases e : j = i
            · exact .inr (by omega)
            · exact .inl (.inr ⟨j, j1, by omega, j3⟩)
      · exact ih (i + 1) _ _ xs Kx Q (by omega) (by omega) h3 hn (skip fun h => g2 h.2) hK
      · exact ih (i + 1) _ _ xs Kx Q (by omega) (by omega) h3 hn (skip fun h => g1 h.1) hK
    · rw [hb b]
      constructor
      · rintro (g | ⟨j, j1, j2, j3⟩)
        · exact .inl g
        · exact .inr ⟨j, j1, j3⟩
      · rintro (g | ⟨j, j1, s, j3, j4⟩)
        · exact .inl g
        · have := (List.getElem?_eq_some_iff.1 j3).1
          exact .inr ⟨j, j1, by omega, s, j3, j4⟩

theorem tp62 (hN : 5000 ≤ N) (c : D25) (hc : CoreOk c) (d : Int) : Wp (sp62 N (c, d, ())) fun r => ∃ n : Nat, r.1 = (n : Int) ∧ ∀ b, n.testBit b = true ↔ (∃ s, c.2.2.2.2.1[b]? = some s ∧ onS d s) ∨ (∃ j, b = 8 + j ∧ ∃ s, c.2.2.2.2.2.1[j]? = some s ∧ onP d s) := by
  unfold sp62 F62
  have h1 := hc.ns
  have h2 := hc.np
  dsimp only
  refine tl62_0x N N 0 d () c 0 c.2.2.2.2.1 _ _ (by omega) (by omega) h1 (by omega) (fun b => ?_) fun n hn hb => ?_
  · simp
  · dsimp only
    refine tl62_1x N (fun b => ∃ s, c.2.2.2.2.1[b]? = some s ∧ onS d s) N 0 d n c.2.2.2.2.2.1 _ _ (by omega) (by omega) h2 hn (fun b => ?_) fun n hn hb => wq_some.2 ⟨n, rfl, hb⟩
    rw [hb b]
    constructor
    · exact .inl
    · rintro (g | ⟨j, _, j2, _⟩)
      · exact g
      · omega

def SameDay (c : D25) (d e : Int) : Prop := (∀ s ∈ c.2.2.2.2.1, onS d s ↔ onS e s) ∧ ∀ x ∈ c.2.2.2.2.2.1, onP d x ↔ onP e x

theorem same_of_bits {c : D25} (hc : CoreOk c) {d e : Int} {n : Nat} (h1 : ∀ b, n.testBit b = true ↔ (∃ s, c.2.2.2.2.1[b]? = some s ∧ onS d s) ∨ (∃ j, b = 8 + j ∧ ∃ s, c.2.2.2.2.2.1[j]? = some s ∧ onP d s))
    (h2 : ∀ b, n.testBit b = true ↔ (∃ s, c.2.2.2.2.1[b]? = some s ∧ onS e s) ∨ (∃ j, b = 8 + j ∧ ∃ s, c.2.2.2.2.2.1[j]? = some s ∧ onP e s)) : SameDay c d e := by
  have a1 := hc.ns
  have a2 := hc.np
  constructor
  · intro s hs
    obtain ⟨b, hb, e1⟩ := List.getElem_of_mem hs
    have e2 : c.2.2.2.2.1[b]? = some s := by rw [List.getElem?_eq_getElem hb, e1]
    have key : ∀ d', ((∃ s, c.2.2.2.2.1[b]? = some s ∧ onS d' s) ∨ (∃ j, b = 8 + j ∧ ∃ s, c.2.2.2.2.2.1[j]? = some s ∧ onP d' s)) ↔ onS d' s := fun d' => by
      constructor
      · rintro (⟨s', g1, g2⟩ | ⟨j, j1, _⟩)
        · rw [e2] at g1; cases g1; exact g2
        · omega
      · exact fun g => .inl ⟨s, e2, g⟩
    rw [← key d, ← key e, ← h1 b, ← h2 b]
  · intro s hs
    obtain ⟨b, hb, e1⟩ := List.getElem_of_mem hs
    have e2 : c.2.2.2.2.2.1[b]? = some s := by rw [List.getElem?_eq_getElem hb, e1]
    have key : ∀ d', ((∃ s, c.2.2.2.2.1[8 + b]? = some s ∧ onS d' s) ∨ (∃ j, 8 + b = 8 + j ∧ ∃ s, c.2.2.2.2.2.1[j]? = some s ∧ onP d' s)) ↔ onP d' s := fun d' => by
      constructor
      · rintro (⟨s', g1, g2⟩ | ⟨j, j1, s', j2, j3⟩)
        · have := (List.getElem?_eq_some_iff.1 g1).1; omega
        · have : j = b := by omega
          rw [this, e2] at j2; cases j2; exact j3
      · exact fun g => .inr ⟨b, rfl, s, e2, g⟩
    rw [← key d, ← key e, ← h1 (8 + b), ← h2 (8 + b)]

variable {N} in
theorem Says.same {c : D25} {d e : Int} {s : D40} (h : SameDay c d e) (hs : Says N c d s) : Says N c e s := by
  have hF : dayF N c d = dayF N c e := by
    unfold dayF
    congr 1
    · refine smm_congr fun x hx => ?_
      unfold vS
      by_cases g : onS d x
      · rw [if_pos g, if_pos ((h.1 x hx).1 g)]
      · rw [if_neg g, if_neg fun g' => g ((h.1 x hx).2 g')]
    · refine smm_congr fun x hx => ?_
      unfold vP
      by_cases g : onP d x
      · rw [if_pos g, if_pos ((h.2 x hx).1 g)]
      · rw [if_neg g, if_neg fun g' => g ((h.2 x hx).2 g')]
  have hL : ∀ j, lst N c d j = lst N c e j := fun j => by
    unfold lst
    refine List.map_congr_left fun q _ => smm_congr fun x hx => ?_
    unfold vD
    by_cases g : x.1 = (j : Int) ∧ onP d x
    · rw [if_pos g, if_pos ⟨g.1, (h.2 x hx).1 g.2⟩]
    · rw [if_neg g, if_neg fun g' => g ⟨g'.1, (h.2 x hx).2 g'.2⟩]
  exact ⟨hs.fixed.trans hF, hs.len, fun j hj => by rw [← hL]; exact hs.cur j hj⟩

theorem tl32x (hN : 5000 ≤ N) (c : D25) (hc : CoreOk c) (k : Nat) : ∀ (d : Int) (u : Unit) (out : List Int) (Kx : ((List Int) × Unit) → Option ((List Int) × Unit)) (Q), c.2.2.1 + 1 < d + (k : Int) → c.2.1 < d → d ≤ c.2.2.1 + 1 → (out.length : Int) ≤ d - c.2.1 →
    out.Pairwise (· < ·) → (∀ x ∈ out, c.2.1 < x ∧ x < d) → (∀ x, c.2.1 < x → x < d → x ∉ out → SameDay c (x - 1) x) → (∀ l : List Int, l.Pairwise (· < ·) → (∀ x ∈ l, c.2.1 < x ∧ x ≤ c.2.2.1) → l.length ≤ 4001 → (∀ x, c.2.1 < x → x ≤ c.2.2.1 → x ∉ l → SameDay c (x - 1) x) → Wp (Kx (l, ())) Q) →
    Wp (L32_0 N (sp62 N) k (u, c, d, out, ()) Kx) Q := by
  have t1 := hc.to
  have t0 := hc.fr
  induction k with
  | zero => intro d u out Kx Q h1 h2 h3; omega
  | succ k ih =>
    intro d u out Kx Q h1 h2 h3 h4 h5 h6 h7 hK
    rw [L32_0]
    dsimp only
    refine wq_condD.2 ⟨fun h => ?_, fun h => hK out h5 (fun x hx => ⟨(h6 x hx).1, by have := (h6 x hx).2; omega⟩) (by omega) fun x x1 x2 => h7 x x1 (by omega)⟩
    rw [wrap_id (n := d + 1) (by omega) (by omega), wrap_id (n := d - 1) (by omega) (by omega)]
    refine wq_bind.2 ((tp62 N hN c hc d).mono fun r1 hr1 => wq_bind.2 ((tp62 N hN c hc (d - 1)).mono fun r2 hr2 => wq_condM.2 ⟨fun _ => ?_, fun he => ?_⟩))
    · refine wq_iteN.2 ⟨by omega, ih (d + 1) _ _ Kx Q (by omega) (by omega) (by omega) (by simp; omega) ?_ ?_ (fun x x1 x2 x3 => ?_) hK⟩
      · refine List.pairwise_append.2 ⟨h5, by simp, fun a ha b hb => ?_⟩
        simp only [List.mem_singleton] at hb
        subst hb
        exact (h6 a ha).2
      · intro x hx
        rcases List.mem_append.1 hx with hx | hx
        · have := h6 x hx; omega
        · simp only [List.mem_singleton] at hx; omega
      · have x4 : x ∉ out ∧ x ≠ d := by simpa [not_or] using x3
        exact h7 x x1 (by omega) x4.1
    · refine ih (d + 1) _ _ Kx Q (by omega) (by omega) (by omega) (by omega) h5 (fun x hx => by have := h6 x hx; omega) (fun x x1 x2 x3 => ?_) hK
      by_cases e : x = d
      · subst e
        obtain ⟨n1, e1, b1⟩ := hr1
        obtain ⟨n2, e2, b2⟩ := hr2
        have : n1 = n2 := by omega
        subst this
        exact same_of_bits hc b2 b1
      · exact h7 x x1 (by omega) x3

theorem tp32x (hN : 5000 ≤ N) (c : D25) (hc : CoreOk c) : Wp (sp32 N (c, ())) fun r => r.1.Pairwise (· < ·) ∧ (∀ x ∈ r.1, c.2.1 < x ∧ x ≤ c.2.2.1) ∧ r.1.length ≤ 4001 ∧ (∀ x, c.2.1 < x → x ≤ c.2.2.1 → x ∉ r.1 → SameDay c (x - 1) x) := by
  unfold sp32 F32
  have t1 := hc.to
  have t0 := hc.fr
  rw [wrap_id (by dsimp only; omega) (by dsimp only; omega)]
  exact tl32x N hN c hc N _ _ [] _ _ (by dsimp only; omega) (by dsimp only; omega) (by dsimp only; omega) (by simp; omega) .nil (fun x hx => by cases hx) (fun x x1 x2 => by dsimp only at x1 x2; omega) fun l a b d e => wq_some.2 ⟨a, b, d, e⟩

theorem grp_eq {a b : D77} (h : a.1 = b.1 ∧ a.2.1 = b.2.1 ∧ a.2.2.1 = b.2.2.1 ∧ a.2.2.2.1 = b.2.2.2.1 ∧ a.2.2.2.2.1 = b.2.2.2.2.1) : a = b := by
  obtain ⟨a1, a2, a3, a4, a5, ⟨⟩⟩ := a
  obtain ⟨b1, b2, b3, b4, b5, ⟨⟩⟩ := b
  dsimp only at h
  obtain ⟨h1, h2, h3, h4, h5⟩ := h
  rw [h1, h2, h3, h4, h5]

theorem tl38x (a b : D52) (Q : D159 → Prop) (hl : a.2.1.length = b.2.1.length) (hb : a.2.1.length ≤ 2001) (hQ : Q (false, ())) (k : Nat) : ∀ (i : Nat) (Kx : Unit → Option D159), a.2.1.length < i + k → i ≤ a.2.1.length → (∀ j, j < i → a.2.1[j]? = b.2.1[j]?) → ((∀ j, j < a.2.1.length → a.2.1[j]? = b.2.1[j]?) → Wp (Kx ()) Q) →
    Wp (L38_0 N k ((), a, (), b, (a.2.1.length : Int), (i : Int), ()) Kx) Q := by
  induction k with
  | zero => intro i Kx h1 h2; omega
  | succ k ih =>
    intro i Kx h1 h2 hI hK
    rw [L38_0]
    dsimp only
    refine wq_condD.2 ⟨fun h => ?_, fun h => hK fun j hj => hI j (by omega)⟩
    rw [wrap_succ (show i < a.2.1.length by omega) (by omega)]
    refine wq_iteN.2 ⟨by omega, wq_iteN.2 ⟨by omega, wq_iteN.2 ⟨by omega, wq_iteN.2 ⟨by omega, wq_cond.2 ⟨fun he => wq_some.2 hQ, fun he => ih (i + 1) Kx (by omega) (by omega) (fun j hj => ?_) hK⟩⟩⟩⟩⟩
    by_cases e : j = i
    · subst e
      rw [rdAt_some (t := t77) a.2.1 j (by omega), rdAt_some (t := t77) b.2.1 j (by omega)]
      exact congrArg some (grp_eq (by simpa using he))
    · exact hI j (by omega)

theorem tp38x (hN : 5000 ≤ N) (a b : D52) (ha : a.2.1.length ≤ 2001) : Wp (sp38 N (a, b, ())) fun r => r.1 = true → a = b := by
  unfold sp38 F38
  dsimp only
  have no : ((false, ()) : D159).1 = true → a = b := fun h => by cases h
  refine wq_condM.2 ⟨fun h => wq_some.2 no, fun h1 => wq_condM.2 ⟨fun h => wq_some.2 no, fun hl => ?_⟩⟩
  refine tl38x N a b _ (by omega) ha no N 0 _ (by omega) (by omega) (fun j hj => by omega) fun hK => wq_some.2 fun _ => ?_
  obtain ⟨m, gs, ⟨⟩⟩ := a
  obtain ⟨m', gs', ⟨⟩⟩ := b
  dsimp only at h1 hl hK
  have e1 : m = m' := h1
  have e2 : gs = gs' := by
    refine List.ext_getElem? fun j => ?_
    by_cases h : j < gs.length
    · exact hK j h
    · rw [List.getElem?_eq_none (by omega), List.getElem?_eq_none (by omega)]
  rw [e1, e2]

theorem tl13x (hN : 5000 ≤ N) (s t : D40) (Q : D159 → Prop) (hl : s.2.2.2.1.length = t.2.2.2.1.length) (hb : s.2.2.2.1.length ≤ 1000) (hs : ∀ x ∈ s.2.2.2.1, x.2.1.length ≤ 2001) (hQ : Q (false, ())) (k : Nat) : ∀ (i : Nat) (Kx : Unit → Option D159), s.2.2.2.1.length < i + k → i ≤ s.2.2.2.1.length → (∀ j, j < i → s.2.2.2.1[j]? = t.2.2.2.1[j]?) → ((∀ j, j < s.2.2.2.1.length → s.2.2.2.1[j]? = t.2.2.2.1[j]?) → Wp (Kx ()) Q) →
    Wp (L13_0 N (sp38 N) k ((), s, (), t, (s.2.2.2.1.length : Int), (i : Int), ()) Kx) Q := by
  induction k with
  | zero => intro i Kx h1 h2; omega
  | succ k ih =>
    intro i Kx h1 h2 hI hK
    rw [L13_0]
    dsimp only
    refine wq_condD.2 ⟨fun h => ?_, fun h => hK fun j hj => hI j (by omega)⟩
    rw [wrap_succ (show i < s.2.2.2.1.length by omega) (by omega)]
    refine wq_iteN.2 ⟨by omega, wq_iteN.2 ⟨by omega, wq_iteN.2 ⟨by omega, wq_iteN.2 ⟨by omega, wq_bind.2 ((tp38x N hN _ _ (hs _ (rdAt_mem (t := t52) _ _ (by omega) (by omega)))).mono fun r hr => wq_condV.2 ⟨fun he => wq_some.2 hQ, fun he => ih (i + 1) Kx (by omega) (by omega) (fun j hj => ?_) hK⟩)⟩⟩⟩⟩
    by_cases e : j = i
    · subst e
      rw [rdAt_some (t := t52) s.2.2.2.1 j (by omega), rdAt_some (t := t52) t.2.2.2.1 j (by omega), hr he]
    · exact hI j (by omega)

theorem tp13x (hN : 5000 ≤ N) (s t : D40) (hn : s.2.2.2.1.length ≤ 1000) (hs : ∀ x ∈ s.2.2.2.1, x.2.1.length ≤ 2001) : Wp (sp13 N (s, t, ())) fun r => r.1 = true → s.2.2 = t.2.2 := by
  unfold sp13 F13
  dsimp only
  have no : ((false, ()) : D159).1 = true → s.2.2 = t.2.2 := fun h => by cases h
  refine wq_condM.2 ⟨fun h => wq_some.2 no, fun h1 => wq_condM.2 ⟨fun h => wq_some.2 no, fun hl => ?_⟩⟩
  refine tl13x N hN s t _ (by omega) (by omega) hs no N 0 _ (by omega) (by omega) (fun j hj => by omega) fun hK => wq_some.2 fun _ => ?_
  obtain ⟨f, o, m, gs, ⟨⟩⟩ := s
  obtain ⟨f', o', m', gs', ⟨⟩⟩ := t
  dsimp only at h1 hl hK ⊢
  have e1 : m = m' := h1
  have e2 : gs = gs' := by
    refine List.ext_getElem? fun j => ?_
    by_cases h : j < gs.length
    · exact hK j h
    · rw [List.getElem?_eq_none (by omega), List.getElem?_eq_none (by omega)]
  rw [e1, e2]

end Go.Proofs.Ytkifmnocomadfaa
end

/- The normal form: spans one beside the other, each says what its days say. -/
section
set_option linter.unusedVariables false
namespace Go.Proofs.Ytkifmnocomadfaa
open Go.V
variable (N : Nat)

inductive Tile {α : Type} (fr to : α → Int) (P : Int → α → Prop) (a : Int) : Int → List α → Prop
  | nil : Tile fr to P a a []
  | snoc (m e : Int) (A : List α) (s : α) : Tile fr to P a m A → m < e → fr s = m → to s = e - 1 → (∀ d, m ≤ d → d < e → P d s) → Tile fr to P a e (A ++ [s])

abbrev SpTile (P : Int → D40 → Prop) (a e : Int) (l : List D40) : Prop := Tile (fun s : D40 => s.1) (fun s : D40 => s.2.1) P a e l

theorem Tile.le {α : Type} {fr to : α → Int} {P : Int → α → Prop} {a e : Int} {l : List α} (h : Tile fr to P a e l) : a ≤ e := by
  induction h with
  | nil => exact Int.le_refl _
  | snoc m e A s _ h1 _ _ _ ih => omega

theorem Tile.nil_of {α : Type} {fr to : α → Int} {P : Int → α → Prop} {a e : Int} (h : Tile fr to P a e []) : e = a := by
  generalize hl : ([] : List α) = l at h
  cases h with
  | nil => rfl
  | snoc m e A s _ _ _ _ _ => simp at hl

theorem Tile.get {α : Type} {fr to : α → Int} {P : Int → α → Prop} {a e : Int} {l : List α} (h : Tile fr to P a e l) : ∀ i (s : α), l[i]? = some s → a ≤ fr s ∧ fr s ≤ to s ∧ to s < e ∧ (∀ d, fr s ≤ d → d ≤ to s → P d s) ∧ (i = 0 → fr s = a) ∧ (∀ t, l[i + 1]? = some t → fr t = to s + 1) ∧ (i + 1 = l.length → to s + 1 = e) := by
  induction h with
  | nil => intro i s hs; simp at hs
  | snoc m e A s hA h1 h2 h3 h4 ih =>
    have hm := hA.le
    intro i x hx
    by_cases hi : i < A.length
    · rw [List.getElem?_append_left hi] at hx
      obtain ⟨g1, g2, g3, g4, g5, g6, g7⟩ := ih i x hx
      refine ⟨g1, g2, by omega, g4, g5, fun t ht => ?_, fun hl => by simp at hl; omega⟩
      by_cases hi2 : i + 1 < A.length
      · rw [List.getElem?_append_left hi2] at ht
        exact g6 t ht
      · rw [List.getElem?_append_right (by omega), show i + 1 - A.length = 0 by omega] at ht
        cases ht
        have := g7 (by omega)
        omega
    · have hil := (List.getElem?_eq_some_iff.1 hx).1
      simp only [List.length_append, List.length_singleton] at hil
      have hi0 : i - A.length = 0 := by omega
      rw [List.getElem?_append_right (by omega), hi0] at hx
      cases hx
      refine ⟨by omega, by omega, by omega, fun d d1 d2 => h4 d (by omega) (by omega), fun h0 => ?_, fun t ht => ?_, fun _ => by omega⟩
      · have : A = [] := List.eq_nil_of_length_eq_zero (by omega)
        subst this
        rw [h2]
        exact hA.nil_of
      · have := (List.getElem?_eq_some_iff.1 ht).1
        simp at this
        omega

structure MkInv (c : D25) (p : Int) (sp : List D40) : Prop where
  ex : ∃ A s m, sp = A ++ [s] ∧ SpTile (Says N c) c.2.1 m A ∧ s.1 = m ∧ m ≤ p ∧ ∀ d, m ≤ d → d ≤ p → Says N c d s

variable {N} in
theorem Says.to {c : D25} {d : Int} {s : D40} (h : Says N c d s) {t : D40} (e : t.2.2 = s.2.2) : Says N c d t := ⟨by rw [e]; exact h.fixed, by rw [e]; exact h.len, by rw [e]; exact h.cur⟩

variable {N} in
theorem Says.all {c : D25} {p : Int} {s : D40} (h : Says N c p s) (ds : List Int) {e : Int} (hs : ∀ x, p < x → x < e → SameDay c (x - 1) x) : ∀ d, p ≤ d → d < e → Says N c d s := by
  intro d d1 d2
  obtain ⟨n, hn⟩ := Int.eq_ofNat_of_zero_le (show 0 ≤ d - p by omega)
  have : ∀ n : Nat, p + n < e → Says N c (p + n) s := fun n => by
    induction n with
    | zero => intro _; simpa using h
    | succ n ih =>
      intro g
      have := hs (p + (n + 1 : Nat)) (by omega) g
      have e1 : p + ((n + 1 : Nat) : Int) - 1 = p + (n : Int) := by omega
      rw [e1] at this
      exact (ih (by omega)).same this
  have := this n (by omega)
  have e1 : p + (n : Int) = d := by omega
  rwa [e1] at this

variable {N} in
theorem MkInv.stretch {c : D25} {p e : Int} {sp : List D40} (h : MkInv N c p sp) (he : p < e) (hs : ∀ x, p < x → x < e → SameDay c (x - 1) x) :
    ∃ A s m, (sp.set (sp.length - 1) ((rdAt (t := t40) sp ((sp.length : Int) - 1)).1, e - 1, (rdAt (t := t40) sp ((sp.length : Int) - 1)).2.2)) = A ++ [s] ∧ rdAt (t := t40) (A ++ [s]) ((sp.length : Int) - 1) = s ∧ SpTile (Says N c) c.2.1 m A ∧ s.1 = m ∧ s.2.1 = e - 1 ∧ m < e ∧ ∀ d, m ≤ d → d < e → Says N c d s := by
  obtain ⟨A, x, m, rfl, h1, h2, h3, h4⟩ := h.ex
  have hl : (A ++ [x]).length = A.length + 1 := by simp
  have e1 : (A ++ [x]).length - 1 = A.length := by omega
  have e2 : (((A ++ [x]).length : Nat) : Int) - 1 = (A.length : Int) := by omega
  have e3 : ∀ y : D40, rdAt (t := t40) (A ++ [y]) (A.length : Int) = y := fun y => by rw [rdAt_at _ _ (by simp)]; simp
  rw [e1, e2, e3, List.set_append_right _ _ (Nat.le_refl _)]
  simp only [Nat.sub_self, List.set_cons_zero]
  refine ⟨A, _, m, rfl, e3 _, h1, h2, rfl, by omega, fun d d1 d2 => ?_⟩
  by_cases g : d ≤ p
  · exact (h4 d d1 g).to rfl
  · exact ((h4 p h3 (Int.le_refl _)).all [] hs d (by omega) d2).to rfl

theorem tl8x (hN : 5000 ≤ N) (c : D25) (hc : FitOk N c) (ds : List Int) (h0 : ds[0]? = some c.2.1) (h1 : ds.Pairwise (· < ·)) (h2 : ∀ x ∈ ds, c.2.1 ≤ x ∧ x ≤ c.2.2.1) (h3 : ds.length ≤ 4002) (hsame : ∀ x, c.2.1 < x → x ≤ c.2.2.1 → x ∉ ds → SameDay c (x - 1) x) (s cur : ByteArray) (a b fr to : Int) (m2 m1 : List D67) (sp1 : List D40) (k : Nat) :
    ∀ (i : Nat) (sp : List D40) (Kx) (Q), ds.length < i + k → i ≤ ds.length → (i = 0 ∧ sp = [] ∨ ∃ j p, i = j + 1 ∧ ds[j]? = some p ∧ MkInv N c p sp) → sp.length ≤ i →
    (∀ sp' p, MkInv N c p sp' → p ≤ c.2.2.1 → (∀ x, p < x → x ≤ c.2.2.1 → SameDay c (x - 1) x) → sp'.length ≤ 4002 → Wp (Kx ((), c, (), s, a, b, (), cur, fr, to, m2, m1, sp1, sp', ())) Q) →
    Wp (L8_0 N (sp13 N) (sp32 N) (sp33 N) k ((), c, (), s, a, b, (), cur, fr, to, m2, ds, (ds.length : Int), (i : Int), m1, sp1, sp, ()) Kx) Q := by
  have t1 := hc.core.to
  have t0 := hc.core.fr
  have tm := hc.core.nm
  have hlen : 0 < ds.length := (List.getElem?_eq_some_iff.1 h0).1
  have lt : ∀ {i j : Nat} {x y : Int}, i < j → ds[i]? = some x → ds[j]? = some y → x < y := fun {i j x y} hij hx hy => by
    have hil := (List.getElem?_eq_some_iff.1 hx)
    have hjl := (List.getElem?_eq_some_iff.1 hy)
    have := List.pairwise_iff_getElem.1 h1 i j hil.1 hjl.1 hij
    rw [hil.2, hjl.2] at this
    exact this
  induction k with
  | zero => intro i sp Kx Q g1 g2; omega
  | succ k ih =>
    intro i sp Kx Q g1 g2 g5 g6 hK
    rw [L8_0]
    dsimp only
    refine wq_condD.2 ⟨fun h => ?_, fun h => ?_⟩
    · rw [wrap_succ (show i < ds.length by omega) (by omega)]
      have hd := rdAt_some (t := .int .i64) ds i (by omega)
      have hd2 := h2 _ (rdAt_i ds (i : Int) (by omega) (by omega))
      generalize hdd : rdAt (t := .int .i64) ds (i : Int) = d at *
      refine wq_iteN.2 ⟨by omega, wq_iteN.2 ⟨by omega, wq_bind.2 ((tp33x N hN c hc d).mono fun r hr => ?_)⟩⟩
      obtain ⟨r1, r2, r3⟩ := hr
      have hw : IntKind.i64.wrap (d - 1) = d - 1 := wrap_id (by omega) (by omega)
      rw [hw]
      rcases g5 with ⟨hi, he⟩ | ⟨j, p, hj, hp, hm⟩
      · subst hi he
        rw [h0] at hd
        cases hd
        refine wq_condD.2 ⟨fun hp => by simp at hp, fun hp => wq_condE.2 ⟨fun _ => ?_, fun hz => absurd rfl hz⟩⟩
        refine wq_iteN.2 ⟨by simp, ih 1 _ Kx Q (by omega) (by omega) (.inr ⟨0, c.2.1, rfl, h0, ⟨[], r.1, c.2.1, rfl, .nil, r1, Int.le_refl _, fun d d1 d2 => ?_⟩⟩) (by simp) hK⟩
        have : d = c.2.1 := by omega
        rw [this]; exact r3
      · subst hj
        have hpd := lt (by omega) hp hd
        have hs : ∀ x, p < x → x < d → SameDay c (x - 1) x := fun x x1 x2 => hsame x (by have := h2 p (List.mem_of_getElem? hp); omega) (by omega) fun hx => by
          obtain ⟨n, hn, e⟩ := List.getElem_of_mem hx
          have hx' : ds[n]? = some x := by rw [List.getElem?_eq_getElem hn, e]
          by_cases n1 : n ≤ j
          · by_cases n2 : n = j
            · rw [n2, hp] at hx'; cases hx'; omega
            · have := lt (by omega) hx' hp; omega
          · by_cases n2 : n = j + 1
            · rw [n2, hd] at hx'; cases hx'; omega
            · have := lt (by omega) hd hx'; omega
        obtain ⟨A, y, m, st1, st2, st3, st4, st5, st6, st7⟩ := hm.stretch hpd hs
        have hsl : 0 < sp.length := by obtain ⟨A', s', m', e, _⟩ := hm.ex; rw [e]; simp
        have hAl : (A ++ [y]).length = sp.length := by rw [← st1]; simp
        refine wq_condD.2 ⟨fun hp => ?_, fun hp => by omega⟩
        have hw2 : IntKind.i64.wrap ((sp.length : Int) - 1) = (sp.length : Int) - 1 := wrap_id (by omega) (by omega)
        have hn : ((sp.length : Int) - 1).toNat = sp.length - 1 := by omega
        rw [hw2, hn, st1, st2]
        refine wq_iteN.2 ⟨by omega, wq_iteN.2 ⟨by omega, wq_condE.2 ⟨fun hz => by omega, fun _ => ?_⟩⟩⟩
        refine wq_iteN.2 ⟨by omega, wq_iteN.2 ⟨by omega, ?_⟩⟩
        have hy := st7 (d - 1) (by omega) (by omega)
        refine wq_bind.2 ((tp13x N hN y r.1 (by rw [hy.len]; omega) fun x hx => ?_).mono fun r7 hr7 => wq_condV.2 ⟨fun _ => ?_, fun ha => ?_⟩)
        · obtain ⟨n, hn, e⟩ := List.getElem_of_mem hx
          obtain ⟨x', x1, x2⟩ := hy.cur n (by rw [← hy.len]; exact hn)
          rw [List.getElem?_eq_getElem hn, e] at x1
          cases x1
          have hmi := hc.core.meters _ (rdAt_mem (t := t67) c.2.2.2.1 n (by omega) (by have := hy.len; omega))
          exact (x2.curve (by rw [lst_len]; have := hmi.1; have := hmi.2; omega)).1.2
        · refine wq_iteN.2 ⟨by omega, ih (j + 1 + 1) _ Kx Q (by omega) (by omega) (.inr ⟨j + 1, d, rfl, hd, ⟨A ++ [y], r.1, d, rfl, ?_, r1, Int.le_refl _, fun d' d1 d2 => ?_⟩⟩) (by simp; simp at hAl; omega) hK⟩
          · exact .snoc m d A y st3 st6 st4 st5 st7
          · have : d' = d := by omega
            rw [this]; exact r3
        · refine ih (j + 1 + 1) _ Kx Q (by omega) (by omega) (.inr ⟨j + 1, d, rfl, hd, ⟨A, y, m, rfl, st3, st4, by omega, fun d' d1 d2 => ?_⟩⟩) (by omega) hK
          by_cases e : d' = d
          · rw [e]; exact r3.to (hr7 ha)
          · exact st7 d' d1 (by omega)
    · rcases g5 with ⟨hi, he⟩ | ⟨j, p, hj, hp, hm⟩
      · omega
      · have hj2 : j + 1 = ds.length := by omega
        refine hK sp p hm (h2 p (List.mem_of_getElem? hp)).2 (fun x x1 x2 => hsame x (by have := h2 p (List.mem_of_getElem? hp); omega) x2 fun hx => ?_) (by omega)
        obtain ⟨n, hn, e⟩ := List.getElem_of_mem hx
        have hx' : ds[n]? = some x := by rw [List.getElem?_eq_getElem hn, e]
        by_cases n2 : n = j
        · rw [n2, hp] at hx'; cases hx'; omega
        · have := lt (by omega) hx' hp; omega

structure FormIs (c : D25) (f : D31) : Prop where
  cur : f.1 = c.1
  fr : f.2.1 = c.2.1
  to : f.2.2.1 = c.2.2.1
  meters : f.2.2.2.1 = c.2.2.2.1
  tile : SpTile (Says N c) c.2.1 (c.2.2.1 + 1) f.2.2.2.2.1
  ns : f.2.2.2.2.1.length ≤ 4002

theorem tp8x (hN : 5000 ≤ N) (c : D25) (hc : FitOk N c) : Wp (sp8 N (c, ())) fun r => FormIs N c r.1 := by
  have t1 := hc.core.to
  have t0 := hc.core.fr
  have tm := hc.core.nm
  unfold sp8 F8
  dsimp only
  have fin : ∀ (ms : List D67) (sp : List D40) (p : Int), ms = c.2.2.2.1 → MkInv N c p sp → p ≤ c.2.2.1 → (∀ x, p < x → x ≤ c.2.2.1 → SameDay c (x - 1) x) → sp.length ≤ 4002 →
      Wp (cond (decide ((sp.length : Int) > (0 : Int))) (
        if 0 ≤ IntKind.i64.wrap ((sp.length : Int) - (1 : Int)) then
        if IntKind.i64.wrap ((sp.length : Int) - (1 : Int)) < (sp.length : Int) then
        some (((c.1, c.2.1, c.2.2.1, ms, (sp.set (IntKind.i64.wrap ((sp.length : Int) - (1 : Int))).toNat ((rdAt (t := t40) sp (IntKind.i64.wrap ((sp.length : Int) - (1 : Int))) : D40).1, c.2.2.1, (rdAt (t := t40) sp (IntKind.i64.wrap ((sp.length : Int) - (1 : Int))) : D40).2.2)), ()), ()) : D31 × Unit)
        else none
        else none) (
        some ((c.1, c.2.1, c.2.2.1, ms, sp, ()), ()))) fun r => FormIs N c r.1 := by
    intro ms sp p hms hi hp hs hl
    have hsl : 0 < sp.length := by obtain ⟨A', s', m', e, _⟩ := hi.ex; rw [e]; simp
    refine wq_condD.2 ⟨fun hp => ?_, fun hn => by omega⟩
    have hw2 : IntKind.i64.wrap ((sp.length : Int) - 1) = (sp.length : Int) - 1 := wrap_id (by omega) (by omega)
    have hn : ((sp.length : Int) - 1).toNat = sp.length - 1 := by omega
    rw [hw2, hn]
    obtain ⟨A, y, m, st1, st2, st3, st4, st5, st6, st7⟩ := hi.stretch (e := c.2.2.1 + 1) (by omega) fun x x1 x2 => hs x x1 (by omega)
    rw [show c.2.2.1 + 1 - 1 = c.2.2.1 by omega] at st1
    have hAl : (A ++ [y]).length = sp.length := by rw [← st1]; simp
    refine wq_iteN.2 ⟨by omega, wq_iteN.2 ⟨by omega, wq_some.2 ?_⟩⟩
    dsimp only
    rw [st1]
    exact ⟨rfl, rfl, rfl, hms, .snoc m _ A y st3 st6 st4 st5 st7, by dsimp only; omega⟩
  have days : ∀ (l : List Int) (ms : List D67) (sp0 : List D40) (m0 : List D67), l.Pairwise (· < ·) → (∀ x ∈ l, c.2.1 < x ∧ x ≤ c.2.2.1) → l.length ≤ 4001 → (∀ x, c.2.1 < x → x ≤ c.2.2.1 → x ∉ l → SameDay c (x - 1) x) → ∀ Kx, (∀ sp' p, MkInv N c p sp' → p ≤ c.2.2.1 → (∀ x, p < x → x ≤ c.2.2.1 → SameDay c (x - 1) x) → sp'.length ≤ 4002 → Wp (Kx ((), c, (), ByteArray.empty, 0, 0, (), c.1, c.2.1, c.2.2.1, ms, m0, sp0, sp', ())) fun r => FormIs N c r.1) →
      Wp (L8_0 N (sp13 N) (sp32 N) (sp33 N) N ((), c, (), ByteArray.empty, (0 : Int), (0 : Int), (), c.1, c.2.1, c.2.2.1, ms, [c.2.1] ++ l, (([c.2.1] ++ l).length : Int), (0 : Int), m0, sp0, [], ()) Kx) fun r => FormIs N c r.1 := by
    intro l ms sp0 m0 p1 p2 p3 p4 Kx hK
    refine tl8x N hN c hc ([c.2.1] ++ l) rfl ?_ ?_ (by simp; omega) (fun x x1 x2 x3 => p4 x x1 x2 fun h => x3 (by simp [h])) _ _ _ _ _ _ _ _ _ N 0 [] Kx _ (by simp; omega) (by omega) (.inl ⟨rfl, rfl⟩) (by simp) hK
    · exact List.pairwise_append.2 ⟨by simp, p1, fun a ha b hb => by simp only [List.mem_singleton] at ha; have := p2 b hb; omega⟩
    · intro x hx
      rcases List.mem_append.1 hx with hx | hx
      · simp only [List.mem_singleton] at hx; omega
      · have := p2 x hx; omega
  refine wq_ite.2 ⟨fun hz => ?_, fun hz => ?_⟩
  · have hz' : [] = c.2.2.2.1 := (List.eq_nil_of_length_eq_zero hz).symm
    refine wq_bind.2 ((tp32x N hN c hc.core.toCoreOk).mono fun r hr => wq_ite.2 ⟨fun he => ?_, fun _ => ?_⟩)
    · have e : r.1 = [] := List.eq_nil_of_length_eq_zero he
      rw [e] at hr
      exact days [] [] [] [] hr.1 hr.2.1 (by simp) hr.2.2.2 _ fun sp' p g1 g2 g3 g4 => fin [] sp' p hz' g1 g2 g3 g4
    · have := hr.2.2.1
      exact wq_iteN.2 ⟨by simp; omega, days r.1 [] [] [] hr.1 hr.2.1 hr.2.2.1 hr.2.2.2 _ fun sp' p g1 g2 g3 g4 => fin [] sp' p hz' g1 g2 g3 g4⟩
  · refine wq_iteN.2 ⟨by simp; omega, ?_⟩
    refine wq_bind.2 ((tp32x N hN c hc.core.toCoreOk).mono fun r hr => wq_ite.2 ⟨fun he => ?_, fun _ => ?_⟩)
    · have e : r.1 = [] := List.eq_nil_of_length_eq_zero he
      rw [e] at hr
      exact days [] c.2.2.2.1 [] [] hr.1 hr.2.1 (by simp) hr.2.2.2 _ fun sp' p g1 g2 g3 g4 => fin _ sp' p rfl g1 g2 g3 g4
    · have := hr.2.2.1
      exact wq_iteN.2 ⟨by simp; omega, days r.1 c.2.2.2.1 [] [] hr.1 hr.2.1 hr.2.2.1 hr.2.2.2 _ fun sp' p g1 g2 g3 g4 => fin _ sp' p rfl g1 g2 g3 g4⟩

end Go.Proofs.Ytkifmnocomadfaa
end

/- What a basket costs. -/
section
set_option linter.unusedVariables false
namespace Go.Proofs.Ytkifmnocomadfaa
open Go.V
variable (N : Nat)

theorem tp86x (a : Int) (h0 : 0 ≤ a) (h1 : a < 9223372036854775808) : Wp (sp86 N (a, ())) fun r => r = ((false, 0, a, ()), ()) := by
  unfold sp86 F86
  dsimp only
  refine wq_condD.2 ⟨fun h => (by omega), fun _ => wq_some.2 ?_⟩
  have : IntKind.u64.wrap a = a := by rw [wrap_u64]; omega
  rw [this]

theorem tp101x (a b : Int) (h0 : 0 ≤ a) (h1 : a < 4611686018427387904) (g0 : 0 ≤ b) (g1 : b < 4611686018427387904) : Wp (sp101 N ((false, 0, a, ()), (false, 0, b, ()), ())) fun r => r = ((false, 0, a + b, ()), ()) := by
  unfold sp101 F101
  dsimp only
  have e : IntKind.u64.wrap (a + b) = a + b := by rw [wrap_u64]; omega
  have e0 : IntKind.u64.wrap (0 + 0) = 0 := by rw [wrap_u64]; omega
  rw [e, e0]
  exact wq_condD.2 ⟨fun h => (by omega), fun _ => wq_some.2 rfl⟩

theorem tp85x (a b : Int) (h0 : 0 ≤ a) (h1 : a < 4611686018427387904) (g0 : 0 ≤ b) (g1 : b < 4611686018427387904) : Wp (sp85 N ((false, 0, a, ()), (false, 0, b, ()), ())) fun r => r = ((false, 0, a + b, ()), ()) := by
  unfold sp85 F85
  dsimp only
  refine wq_cond.2 ⟨fun _ => ?_, fun h => by cases h⟩
  refine wq_bind.2 ((tp101x N a b h0 h1 g0 g1).mono fun r hr => ?_)
  subst hr
  exact wq_cond.2 ⟨fun h => (by cases h), fun _ => wq_some.2 rfl⟩

theorem tp84x (a : Int) (h0 : 0 ≤ a) (h1 : a < 9223372036854775808) : Wp (sp84 N ((false, 0, a, ()), ())) fun r => r = (a, true, ()) := by
  unfold sp84 F84
  dsimp only
  refine wq_cond.2 ⟨fun h => (by simp at h), fun _ => wq_cond.2 ⟨fun h => (by cases h), fun _ => wq_condD.2 ⟨fun h => (by omega), fun _ => wq_some.2 ?_⟩⟩⟩
  rw [wrap_id (by omega) (by omega)]

theorem tl58x (k : Nat) : ∀ (i : Nat) (s : Int) (l : List Int) (Kx) (Q), l.length < i + k → i ≤ l.length → l.length ≤ 1000 → 0 ≤ s → (∀ v ∈ l, 0 ≤ v) → s + smm id (l.drop i) ≤ 1152921504606846976 → Wp (Kx (s + smm id (l.drop i), ())) Q →
    Wp (L58_0 N (sp84 N) (sp85 N) (sp86 N) k (s, l, (l.length : Int), (i : Int), ()) Kx) Q := by
  induction k with
  | zero => intro i s l Kx Q h1 h2; omega
  | succ k ih =>
    intro i s l Kx Q h1 h2 h3 h4 h5 h6 hK
    rw [L58_0]
    dsimp only
    refine wq_condD.2 ⟨fun h => ?_, fun h => ?_⟩
    · have hi : i < l.length := by omega
      rw [wrap_succ (show i < l.length by omega) (by omega)]
      rw [smm_drop _ hi] at h6 hK
      have hp : 0 ≤ smm id (l.drop (i + 1)) := smm_pos fun v hv => h5 v (List.mem_of_mem_drop hv)
      have hv := h5 _ (List.getElem_mem hi)
      have er : rdAt (t := .int .i64) l (i : Int) = l[i] := rdAt_at (t := .int .i64) l i hi
      rw [er]
      dsimp only [id] at h6 hK
      refine wq_iteN.2 ⟨by omega, wq_iteN.2 ⟨by omega, wq_bind.2 ((tp86x N s h4 (by omega)).mono fun r2 e2 => wq_bind.2 ((tp86x N l[i] hv (by omega)).mono fun r3 e3 => ?_))⟩⟩
      subst e2 e3
      refine wq_bind.2 ((tp85x N s l[i] h4 (by omega) hv (by omega)).mono fun r4 e4 => ?_)
      subst e4
      refine wq_bind.2 ((tp84x N (s + l[i]) (by omega) (by omega)).mono fun r5 e5 => ?_)
      subst e5
      refine wq_condV.2 ⟨fun h => (by cases h), fun _ => ?_⟩
      refine ih (i + 1) _ l Kx Q (by omega) (by omega) h3 (by omega) h5 (by dsimp only; omega) ?_
      rw [← Int.add_assoc] at hK
      exact hK
    · have : l.drop i = [] := List.drop_eq_nil_of_le (by omega)
      rw [this, smm_nil, Int.add_zero] at hK
      exact hK

theorem tp58 (hN : 5000 ≤ N) (l : List Int) (h3 : l.length ≤ 1000) (h5 : ∀ v ∈ l, 0 ≤ v) (h6 : smm id l ≤ 1152921504606846976) : Wp (sp58 N (l, ())) fun r => r = (smm id l, true, ()) := by
  unfold sp58 F58
  dsimp only
  refine tl58x N N 0 0 l _ _ (by omega) (by omega) h3 (by omega) h5 (by rw [List.drop_zero]; omega) (wq_some.2 ?_)
  rw [List.drop_zero, Int.zero_add]

noncomputable def vQ (d : Int) (own : List Int) (x : D113) : Int := if onP d x then pt N x (rdI own x.1) else 0
noncomputable def costOf (c : D25) (d : Int) (own : List Int) : Int := smm (vS d) c.2.2.2.2.1 + smm (vQ N d own) c.2.2.2.2.2.1

theorem smm_append {α : Type} (f : α → Int) : ∀ (a b : List α), smm f (a ++ b) = smm f a + smm f b := fun a b => by unfold smm; rw [List.map_append, sm_append]

theorem tl27_0x (k : Nat) : ∀ (i : Nat) (d : Int) (own : List Int) (u : Unit) (c : D25) (xs : List D87) (out : List Int) (Kx) (Q), xs.length < i + k → i ≤ xs.length → xs.length ≤ 8 → out.length ≤ i → (∀ s ∈ xs, 0 ≤ s.1) → (∀ v ∈ out, 0 ≤ v) →
    (∀ o : List Int, o.length ≤ xs.length → (∀ v ∈ o, 0 ≤ v) → smm id o = smm id out + smm (vS d) (xs.drop i) → Wp (Kx (d, own, (), c, o, ())) Q) →
    Wp (L27_0 N (sp57 N) (sp58 N) k (d, own, u, c, xs, (xs.length : Int), (i : Int), out, ()) Kx) Q := by
  induction k with
  | zero => intro i d own u c xs out Kx Q h1 h2; omega
  | succ k ih =>
    intro i d own u c xs out Kx Q h1 h2 h3 h4 h5 h6 hK
    rw [L27_0]
    dsimp only
    refine wq_condD.2 ⟨fun h => ?_, fun h => ?_⟩
    · have hi : i < xs.length := by omega
      rw [wrap_succ (show i < xs.length by omega) (by omega)]
      rw [smm_drop _ hi, ← rd_get xs i hi] at hK
      have hv := h5 _ (rdR_mem xs (i : Int) (by omega) (by omega))
      refine wq_iteN.2 ⟨by omega, wq_iteN.2 ⟨by omega, wq_condD.2 ⟨fun g1 => wq_condD.2 ⟨fun g2 => ?_, fun g2 => ?_⟩, fun g1 => ?_⟩⟩⟩
      · rw [vS, if_pos ⟨g1, g2⟩] at hK
        refine wq_iteN.2 ⟨by omega, ih (i + 1) _ _ _ _ xs _ Kx Q (by omega) (by omega) h3 (by simp; omega) h5 (fun v hv' => ?_) fun o o1 o2 o3 => hK o o1 o2 ?_⟩
        · rcases List.mem_append.1 hv' with hv' | hv'
          · exact h6 v hv'
          · simp only [List.mem_singleton] at hv'; rw [hv']; exact hv
        · rw [o3, smm_append]
          simp only [smm, List.map_cons, List.map_nil, sm, id]
          omega
      · rw [vS, if_neg (fun h => g2 h.2), Int.zero_add] at hK
        exact ih (i + 1) _ _ _ _ xs _ Kx Q (by omega) (by omega) h3 (by omega) h5 h6 hK
      · rw [vS, if_neg (fun h => g1 h.1), Int.zero_add] at hK
        exact ih (i + 1) _ _ _ _ xs _ Kx Q (by omega) (by omega) h3 (by omega) h5 h6 hK
    · have : xs.drop i = [] := List.drop_eq_nil_of_le (by omega)
      rw [this, smm_nil, Int.add_zero] at hK
      exact hK out (by omega) h6 rfl

theorem tl27_1x (hN : 5000 ≤ N) {n : Nat} (own : List Int) (hown : own.length = n) (k : Nat) : ∀ (i : Nat) (d : Int) (xs : List D113) (out : List Int) (Kx) (Q), xs.length < i + k → i ≤ xs.length → xs.length ≤ 8 → out.length ≤ 8 + i → (∀ x ∈ xs, partOk n x ∧ pk N x (rdI own x.1) = true ∧ 0 ≤ pt N x (rdI own x.1)) → (∀ v ∈ out, 0 ≤ v) →
    (∀ o : List Int, o.length ≤ 8 + xs.length → (∀ v ∈ o, 0 ≤ v) → smm id o = smm id out + smm (vQ N d own) (xs.drop i) → Wp (Kx (o, ())) Q) →
    Wp (L27_1 N (sp57 N) (sp58 N) k (d, own, xs, (xs.length : Int), (i : Int), out, ()) Kx) Q := by
  induction k with
  | zero => intro i d xs out Kx Q h1 h2; omega
  | succ k ih =>
    intro i d xs out Kx Q h1 h2 h3 h4 h5 h6 hK
    rw [L27_1]
    dsimp only
    refine wq_condD.2 ⟨fun h => ?_, fun h => ?_⟩
    · have hi : i < xs.length := by omega
      rw [wrap_succ (show i < xs.length by omega) (by omega)]
      have e1 : smm (vQ N d own) (xs.drop i) = vQ N d own (rdAt (t := t113) xs (i : Int)) + smm (vQ N d own) (xs.drop (i + 1)) := by rw [smm_drop _ hi, rdAt_at (t := t113) xs i hi]
      rw [e1] at hK
      obtain ⟨hp, hk, hv⟩ := h5 _ (rdAt_mem (t := t113) xs (i : Int) (by omega) (by omega))
      refine wq_iteN.2 ⟨by omega, wq_iteN.2 ⟨by omega, wq_condD.2 ⟨fun g1 => wq_condD.2 ⟨fun g2 => ?_, fun g2 => ?_⟩, fun g1 => ?_⟩⟩⟩
      · rw [vQ, if_pos ⟨g1, g2⟩] at hK
        refine wq_iteN.2 ⟨hp.1, wq_iteN.2 ⟨by have := hp.2.1; omega, wq_bind.2 ((tp57 N hN hp _).mono fun r hr => ?_)⟩⟩
        subst hr
        refine wq_condV.2 ⟨fun h => by (dsimp only at h; rw [hk] at h; cases h), fun _ => ?_⟩
        refine wq_iteN.2 ⟨by omega, ih (i + 1) _ xs _ Kx Q (by omega) (by omega) h3 (by simp; omega) h5 (fun v hv' => ?_) fun o o1 o2 o3 => hK o o1 o2 ?_⟩
        · rcases List.mem_append.1 hv' with hv' | hv'
          · exact h6 v hv'
          · simp only [List.mem_singleton] at hv'; rw [hv']; exact hv
        · rw [o3, smm_append]
          simp only [smm, List.map_cons, List.map_nil, sm, id, rdI]
          omega
      · rw [vQ, if_neg (fun h => g2 h.2), Int.zero_add] at hK
        exact ih (i + 1) _ xs _ Kx Q (by omega) (by omega) h3 (by omega) h5 h6 hK
      · rw [vQ, if_neg (fun h => g1 h.1), Int.zero_add] at hK
        exact ih (i + 1) _ xs _ Kx Q (by omega) (by omega) h3 (by omega) h5 h6 hK
    · have : xs.drop i = [] := List.drop_eq_nil_of_le (by omega)
      rw [this, smm_nil, Int.add_zero] at hK
      exact hK out (by omega) h6 rfl

structure OwnOk (c : D25) (own : List Int) : Prop where
  len : own.length = c.2.2.2.1.length
  rng : ∀ j : Nat, j < c.2.2.2.1.length → 0 ≤ rdI own (j : Int) ∧ rdI own (j : Int) ≤ (rdAt (t := t67) c.2.2.2.1 (j : Int)).2.2.1

variable {N} in
theorem OwnOk.part {c : D25} (hc : FitOk N c) {own : List Int} (ho : OwnOk c own) {x : D113} (hx : x ∈ c.2.2.2.2.2.1) : 0 ≤ rdI own x.1 ∧ rdI own x.1 ≤ mxOf c x := by
  have hp := hc.core.parts x hx
  obtain ⟨j, hj⟩ := Int.eq_ofNat_of_zero_le hp.1
  have h1 := hp.2.1
  unfold mxOf
  rw [if_pos ⟨hp.1, hp.2.1⟩, hj]
  exact ho.rng j (by omega)

variable {N} in
theorem cost_b {c : D25} (hc : FitOk N c) (d : Int) {own : List Int} (ho : OwnOk c own) : 0 ≤ costOf N c d own ∧ costOf N c d own ≤ 1152921504606846976 := by
  obtain ⟨bs, hb, hs⟩ := hc.best
  have h1 := Best.sum N (mxOf_pos hc.core.toCoreOk) (v := vQ N d own) hb fun x hx => by
    unfold vQ
    split
    · have := ho.part hc hx
      exact .inr ⟨_, this.1, this.2, rfl⟩
    · exact .inl rfl
  have h2 : 0 ≤ smm (vS d) c.2.2.2.2.1 := smm_pos fun s hs => by
    unfold vS
    split
    · exact (hc.core.amt s hs).1
    · exact Int.le_refl _
  have h3 : smm (vS d) c.2.2.2.2.1 ≤ smm (·.1) c.2.2.2.2.1 := smm_le fun s hs => by
    unfold vS
    split
    · exact Int.le_refl _
    · exact (hc.core.amt s hs).1
  unfold costOf
  omega

theorem tp27 (hN : 5000 ≤ N) (c : D25) (hc : FitOk N c) (d : Int) (own : List Int) (ho : OwnOk c own) : Wp (sp27 N (c, d, own, ())) fun r => r = (costOf N c d own, 0, ()) := by
  have h1 := hc.core.ns
  have h2 := hc.core.np
  have hb := cost_b hc d ho
  obtain ⟨bs, hbs, _⟩ := hc.best
  unfold sp27 F27
  dsimp only
  refine tl27_0x N N 0 d own () c c.2.2.2.2.1 [] _ _ (by omega) (by omega) h1 (by simp) (fun s hs => (hc.core.amt s hs).1) (fun v hv => by cases hv) fun o o1 o2 o3 => ?_
  dsimp only
  refine tl27_1x N hN own ho.len N 0 d c.2.2.2.2.2.1 o _ _ (by omega) (by omega) h2 (by omega) (fun x hx => ?_) o2 fun o' p1 p2 p3 => ?_
  · have g := ho.part hc hx
    have := hbs.each N x hx _ g.1 g.2
    exact ⟨hc.core.parts x hx, this.1, this.2⟩
  · rw [List.drop_zero] at o3 p3
    have e : smm id o' = costOf N c d own := by
      rw [p3, o3, costOf]
      have : smm id ([] : List Int) = 0 := rfl
      omega
    refine wq_bind.2 ((tp58 N hN o' (by omega) p2 (by omega)).mono fun r hr => ?_)
    subst hr
    refine wq_condV.2 ⟨fun h => (by cases h), fun _ => wq_some.2 ?_⟩
    rw [e]

theorem cost_day {c : D25} (hc : CoreOk c) (d : Int) {own : List Int} : costOf N c d own = dayF N c d + sn (fun j => dayL N c d (j : Int) (rdI own (j : Int))) c.2.2.2.1.length := by
  unfold costOf dayF dayL
  rw [sn_swap (fun j x => vD N d (j : Int) (rdI own (j : Int)) x)]
  rw [Int.add_assoc, ← smm_add]
  congr 1
  refine smm_congr fun x hx => ?_
  have hp := hc.parts x hx
  unfold vQ vP vD
  rw [sn_one x.1 (onP d x) (fun j => pt N x (rdI own (j : Int)) - pt N x 0)]
  by_cases h : onP d x
  · rw [if_pos h, if_pos h, if_pos ⟨⟨hp.1, hp.2.1⟩, h⟩, Int.toNat_of_nonneg hp.1]
    omega
  · rw [if_neg h, if_neg h, if_neg (fun g => h g.2)]
    rfl

abbrev nm (m : D67) : List UInt8 := m.1.toList

theorem tl28_1x (all ms : List D67) (bk : List Int) (hbk : bk.length = all.length) (ha : all.length ≤ 8) (m : D67) (n jx : Int) (p : Nat) (hp : ∀ i : Nat, i < all.length → (nm (rdAt (t := t67) all (i : Int)) = nm m ↔ i = p)) (k : Nat) : ∀ (i : Nat) (u : Unit) (out : List Int) (Kx) (Q), all.length < i + k → i ≤ all.length → out.length ≤ 100 + i →
    Wp (Kx (all, bk, ms, n, jx, (if i ≤ p ∧ p < all.length then out ++ [rdI bk (p : Int)] else out), ())) Q →
    Wp (L28_1 N k (all, bk, u, m, ms, n, jx, all, (all.length : Int), (i : Int), out, ()) Kx) Q := by
  induction k with
  | zero => intro i u out Kx Q h1 h2; omega
  | succ k ih =>
    intro i u out Kx Q h1 h2 h3 hK
    rw [L28_1]
    dsimp only
    refine wq_condD.2 ⟨fun h => ?_, fun h => ?_⟩
    · have hi : i < all.length := by omega
      rw [wrap_succ (show i < all.length by omega) (by omega)]
      refine wq_iteN.2 ⟨by omega, wq_iteN.2 ⟨by omega, wq_cond.2 ⟨fun g => ?_, fun g => ?_⟩⟩⟩
      · have e := (hp i hi).1 (by simpa using g)
        subst e
        rw [if_pos ⟨by omega, hi⟩] at hK
        refine wq_iteN.2 ⟨by omega, wq_iteN.2 ⟨by omega, wq_iteN.2 ⟨by omega, ih (i + 1) _ _ Kx Q (by omega) (by omega) (by simp; omega) ?_⟩⟩⟩
        rw [if_neg (by omega)]
        exact hK
      · have e : i ≠ p := fun e => by
          have := (hp i hi).2 e
          simp [this] at g
        refine ih (i + 1) _ _ Kx Q (by omega) (by omega) (by omega) ?_
        by_cases h' : i ≤ p ∧ p < all.length
        · rw [if_pos h'] at hK
          rw [if_pos (by omega)]
          exact hK
        · rw [if_neg h'] at hK
          rw [if_neg (by omega)]
          exact hK
    · rw [if_neg (by omega)] at hK
      exact hK

theorem tl28_0x (hN : 5000 ≤ N) (all ms : List D67) (bk : List Int) (hbk : bk.length = all.length) (ha : all.length ≤ 8) (hm : ms.length ≤ 4) (π : Nat → Nat) (hπ : ∀ j : Nat, j < ms.length → π j < all.length ∧ ∀ i : Nat, i < all.length → (nm (rdAt (t := t67) all (i : Int)) = nm (rdAt (t := t67) ms (j : Int)) ↔ i = π j)) (k : Nat) : ∀ (j : Nat) (out : List Int) (Kx) (Q), ms.length < j + k → j ≤ ms.length → out = (List.range j).map (fun i => rdI bk (π i : Int)) →
    Wp (Kx ((List.range ms.length).map (fun i => rdI bk (π i : Int)), ())) Q →
    Wp (L28_0 N k (all, bk, ms, (ms.length : Int), (j : Int), out, ()) Kx) Q := by
  induction k with
  | zero => intro j out Kx Q h1 h2; omega
  | succ k ih =>
    intro j out Kx Q h1 h2 h3 hK
    rw [L28_0]
    dsimp only
    refine wq_condD.2 ⟨fun h => ?_, fun h => ?_⟩
    · have hj : j < ms.length := by omega
      have hl : out.length = j := by rw [h3]; simp
      refine wq_iteN.2 ⟨by omega, wq_iteN.2 ⟨by omega, ?_⟩⟩
      refine tl28_1x N all ms bk hbk ha _ _ _ (π j) (hπ j hj).2 N 0 _ _ _ _ (by omega) (by omega) (by omega) ?_
      dsimp only
      rw [wrap_succ (show j < ms.length by omega) (by omega), if_pos ⟨by omega, (hπ j hj).1⟩]
      refine ih (j + 1) _ Kx Q (by omega) (by omega) ?_ hK
      rw [h3, List.range_succ, List.map_append]
      rfl
    · have : j = ms.length := by omega
      rw [this] at h3
      rw [h3]
      exact hK

theorem tp28 (hN : 5000 ≤ N) (c : D25) (hm : c.2.2.2.1.length ≤ 4) (all : List D67) (bk : List Int) (hbk : bk.length = all.length) (ha : all.length ≤ 8) (π : Nat → Nat) (hπ : ∀ j : Nat, j < c.2.2.2.1.length → π j < all.length ∧ ∀ i : Nat, i < all.length → (nm (rdAt (t := t67) all (i : Int)) = nm (rdAt (t := t67) c.2.2.2.1 (j : Int)) ↔ i = π j)) :
    Wp (sp28 N (c, all, bk, ())) fun r => r = ((List.range c.2.2.2.1.length).map (fun i => rdI bk (π i : Int)), ()) := by
  unfold sp28 F28
  dsimp only
  exact tl28_0x N hN all c.2.2.2.1 bk hbk ha hm π hπ N 0 [] _ _ (by omega) (by omega) rfl (wq_some.2 rfl)

end Go.Proofs.Ytkifmnocomadfaa
end

/- Names in order; two forms that can be held against each other. -/
section
set_option linter.unusedVariables false
namespace Go.Proofs.Ytkifmnocomadfaa
open Go.V
variable (N : Nat)

theorem bl_irrefl : ∀ l : List UInt8, Op.bytesLess l l = false
  | [] => rfl
  | a :: l => by simp [Op.bytesLess, bl_irrefl l, UInt8.lt_irrefl]

theorem bl_tot : ∀ {a b : List UInt8}, Op.bytesLess a b = false → Op.bytesLess b a = false → a = b
  | [], [], _, _ => rfl
  | [], _ :: _, h, _ => by simp [Op.bytesLess] at h
  | _ :: _, [], _, h => by simp [Op.bytesLess] at h
  | x :: a, y :: b, h, h' => by
    simp only [Op.bytesLess, Bool.or_eq_false_iff, Bool.and_eq_false_imp, decide_eq_false_iff_not, beq_iff_eq] at h h'
    have e : x = y := by
      have h1 := h.1
      have h2 := h'.1
      rw [UInt8.lt_iff_toNat_lt] at h1 h2
      exact UInt8.toNat_inj.1 (by omega)
    rw [e, bl_tot (h.2 e) (h'.2 e.symm)]

theorem bl_trans : ∀ {a b c : List UInt8}, Op.bytesLess a b = true → Op.bytesLess b c = true → Op.bytesLess a c = true
  | _, [], _, h, _ => by simp [Op.bytesLess] at h
  | _, _ :: _, [], _, h => by simp [Op.bytesLess] at h
  | [], _ :: _, _ :: _, _, _ => by simp [Op.bytesLess]
  | x :: a, y :: b, z :: c, h, h' => by
    simp only [Op.bytesLess, Bool.or_eq_true, Bool.and_eq_true, decide_eq_true_eq, beq_iff_eq] at h h' ⊢
    rcases h with h | ⟨e, h⟩
    · rcases h' with h' | ⟨e', h'⟩
      · exact .inl (UInt8.lt_trans h h')
      · rw [← e']; exact .inl h
    · rcases h' with h' | ⟨e', h'⟩
      · rw [e]; exact .inl h'
      · exact .inr ⟨e.trans e', bl_trans h h'⟩

theorem less_trans {a b c : D67} (h : less a b) (h' : less b c) : less a c := bl_trans h h'
theorem less_ne {a b : D67} (h : less a b) : nm a ≠ nm b := fun e => by
  unfold less at h
  rw [show a.1.toList = b.1.toList from e, bl_irrefl] at h
  cases h
theorem less_asymm {a b : D67} (h : less a b) : ¬ less b a := fun h' => less_ne (less_trans h h') rfl
theorem less_or {a b : D67} (h : ¬ less a b) (h' : nm a ≠ nm b) : less b a := by
  by_cases g : less b a
  · exact g
  · exact absurd (bl_tot (by simpa using h) (by simpa using g)) h'
abbrev leq (a b : D67) : Prop := ¬ less b a
theorem leq_less {a b c : D67} (h : leq a b) (h' : less b c) : less a c := by
  by_cases g : nm a = nm b
  · unfold less at h' ⊢
    rw [show a.1.toList = b.1.toList from g]
    exact h'
  · exact less_trans (less_or h fun e => g e.symm) h'
theorem leq_trans {a b c : D67} (h : leq a b) (h' : leq b c) : leq a c := fun g => by
  by_cases e : nm a = nm b
  · refine h' ?_
    unfold less at g ⊢
    rw [← show a.1.toList = b.1.toList from e]
    exact g
  · exact h' (less_trans g (less_or h fun h => e h.symm))

abbrev Srt (l : List D67) : Prop := l.Pairwise less

theorem srt_of (l : List D67) (h : ∀ (i : Nat) (m m' : D67), l[i]? = some m → l[i + 1]? = some m' → less m m') : Srt l := by
  have key : ∀ (d i : Nat) (m m' : D67), l[i]? = some m → l[i + d + 1]? = some m' → less m m' := fun d => by
    induction d with
    | zero => intro i m m' h1 h2; exact h i m m' h1 h2
    | succ d ih =>
      intro i m m' h1 h2
      have hl := (List.getElem?_eq_some_iff.1 h2).1
      have h3 : l[i + d + 1]? = some l[i + d + 1] := List.getElem?_eq_getElem (by omega)
      exact less_trans (ih i m _ h1 h3) (h (i + d + 1) _ m' h3 h2)
  refine List.pairwise_iff_getElem.2 fun i j hi hj hij => ?_
  refine key (j - i - 1) i _ _ (List.getElem?_eq_getElem hi) ?_
  rw [show i + (j - i - 1) + 1 = j by omega]
  exact List.getElem?_eq_getElem hj

theorem Srt.inj {l : List D67} (h : Srt l) {i j : Nat} {m m' : D67} (hi : l[i]? = some m) (hj : l[j]? = some m') (e : nm m = nm m') : i = j := by
  obtain ⟨i1, i2⟩ := List.getElem?_eq_some_iff.1 hi
  obtain ⟨j1, j2⟩ := List.getElem?_eq_some_iff.1 hj
  have h' := List.pairwise_iff_getElem.1 h
  rcases Nat.lt_trichotomy i j with g | g | g
  · have := h' i j i1 j1 g
    rw [i2, j2] at this
    exact absurd e (less_ne this)
  · exact g
  · have := h' j i j1 i1 g
    rw [i2, j2] at this
    exact absurd e.symm (less_ne this)

structure Found (l : List D67) (n : List UInt8) (k : Int) : Prop where
  is : (k = -1 ∧ ∀ m ∈ l, nm m ≠ n) ∨ ∃ (j : Nat) (m : D67), k = (j : Int) ∧ l[j]? = some m ∧ nm m = n

theorem tl50x (xs : List D67) (hb : xs.length ≤ 1000) (s : ByteArray) (k : Nat) : ∀ (i : Nat) (Kx : Unit → Option (Int × Unit)) (Q), xs.length < i + k → i ≤ xs.length → (∀ j, j < i → ∀ m, xs[j]? = some m → nm m ≠ s.toList) →
    (∀ (j : Nat) (m : D67), xs[j]? = some m → nm m = s.toList → Q ((j : Int), ())) → ((∀ m ∈ xs, nm m ≠ s.toList) → Wp (Kx ()) Q) → Wp (L50_0 N k (s, xs, (xs.length : Int), (i : Int), ()) Kx) Q := by
  induction k with
  | zero => intro i Kx Q h1 h2; omega
  | succ k ih =>
    intro i Kx Q h1 h2 hI hQ hK
    rw [L50_0]
    dsimp only
    refine wq_condD.2 ⟨fun h => ?_, fun h => hK (all_of_lt hI (by omega))⟩
    have hx := rdAt_some (t := t67) xs i (by omega)
    rw [wrap_succ (show i < xs.length by omega) (by omega)]
    refine wq_iteN.2 ⟨by omega, wq_iteN.2 ⟨by omega, wq_cond.2 ⟨fun g => wq_some.2 (hQ i _ hx (by simpa using g)), fun g => ?_⟩⟩⟩
    exact ih (i + 1) Kx Q (by omega) (by omega) (lt_succ_all (R := fun m : D67 => nm m ≠ s.toList) hx hI (by simpa using g)) hQ hK

theorem tp50 (hN : 5000 ≤ N) (xs : List D67) (hb : xs.length ≤ 1000) (s : ByteArray) : Wp (sp50 N (xs, s, ())) fun r => Found xs s.toList r.1 := by
  unfold sp50 F50
  dsimp only
  exact tl50x N xs hb s N 0 _ _ (by omega) (by omega) (fun j hj => by omega) (fun j m h1 h2 => ⟨.inr ⟨j, m, rfl, h1, h2⟩⟩) fun h => wq_some.2 ⟨.inl ⟨rfl, h⟩⟩

theorem tl78cx (xs : List D67) (hb : xs.length ≤ 1000) (o : D67) (k : Nat) : ∀ (i : Nat) (Kx Rx : Unit → Option (Int × Unit)) (Q), xs.length < i + k → i ≤ xs.length → (∀ j, j < i → ∀ m, xs[j]? = some m → nm m ≠ nm o) →
    (∀ (j : Nat) (m : D67), xs[j]? = some m → nm m = nm o → Q ((j : Int), ())) → ((∀ m ∈ xs, nm m ≠ nm o) → Wp (Kx ()) Q) → Wp (L78c_0 N (sp79 N) k (xs, (o, ()), (xs.length : Int), (i : Int), ()) Kx Rx) Q := by
  induction k with
  | zero => intro i Kx Rx Q h1 h2; omega
  | succ k ih =>
    intro i Kx Rx Q h1 h2 hI hQ hK
    rw [L78c_0]
    dsimp only
    refine wq_condD.2 ⟨fun h => ?_, fun h => hK (all_of_lt hI (by omega))⟩
    have hx := rdAt_some (t := t67) xs i (by omega)
    rw [wrap_succ (show i < xs.length by omega) (by omega)]
    refine wq_iteN.2 ⟨by omega, wq_iteN.2 ⟨by omega, wq_bind.2 (wq_some.2 (wq_cond.2 ⟨fun g => wq_some.2 (hQ i _ hx (by simpa using g)), fun g => ?_⟩))⟩⟩
    exact ih (i + 1) Kx Rx Q (by omega) (by omega) (lt_succ_all (R := fun m : D67 => nm m ≠ nm o) hx hI (by simpa using g)) hQ hK

theorem tp78c (hN : 5000 ≤ N) (xs : List D67) (hb : xs.length ≤ 1000) (o : D67) : Wp (sp78c N (xs, (o, ()), ())) fun r => Found xs (nm o) r.1 := by
  unfold sp78c F78c
  dsimp only
  exact tl78cx N xs hb o N 0 _ _ _ (by omega) (by omega) (fun j hj => by omega) (fun j m h1 h2 => ⟨.inr ⟨j, m, rfl, h1, h2⟩⟩) fun h => wq_some.2 ⟨.inl ⟨rfl, h⟩⟩

structure LikeM (a b : List D67) : Prop where
  is : ∀ m ∈ a, ∀ o ∈ b, nm o = nm m → o.2.1.toList = m.2.1.toList ∧ o.2.2.1 = m.2.2.1

structure LikeOk (x y : D31) : Prop where
  cur : x.1.toList = y.1.toList
  fr : x.2.1 = y.2.1
  to : x.2.2.1 = y.2.2.1
  ms : LikeM x.2.2.2.1 y.2.2.2.1

theorem tl23x (hN : 5000 ≤ N) (x y : D31) (hb : y.2.2.2.1.length ≤ 1000) (hs : Srt y.2.2.2.1) (xs : List D67) (hl : xs.length ≤ 1000) (k : Nat) : ∀ (i : Nat) (u u' : Unit) (Kx : (Unit × (D31 × (Unit × (D31 × Unit)))) → Option D159) (Q), xs.length < i + k → i ≤ xs.length → Q (false, ()) → (∀ j, j < i → ∀ m, xs[j]? = some m → ∀ o ∈ y.2.2.2.1, nm o = nm m → o.2.1.toList = m.2.1.toList ∧ o.2.2.1 = m.2.2.1) →
    (LikeM xs y.2.2.2.1 → Wp (Kx ((), x, (), y, ())) Q) → Wp (L23_0 N (sp50 N) k (u, x, u', y, xs, (xs.length : Int), (i : Int), ()) Kx) Q := by
  induction k with
  | zero => intro i u u' Kx Q h1 h2; omega
  | succ k ih =>
    intro i u u' Kx Q h1 h2 hQ hI hK
    rw [L23_0]
    dsimp only
    refine wq_condD.2 ⟨fun h => ?_, fun h => hK ⟨all_of_lt hI (by omega)⟩⟩
    have hx := rdAt_some (t := t67) xs i (by omega)
    rw [wrap_succ (show i < xs.length by omega) (by omega)]
    have step := fun h => ih (i + 1) () () Kx Q (by omega) (by omega) hQ (lt_succ_all (R := fun m : D67 => ∀ o ∈ y.2.2.2.1, nm o = nm m → o.2.1.toList = m.2.1.toList ∧ o.2.2.1 = m.2.2.1) hx hI h) hK
    refine wq_iteN.2 ⟨by omega, wq_iteN.2 ⟨by omega, wq_bind.2 ((tp50 N hN _ hb _).mono fun r hr => ?_)⟩⟩
    rcases hr.is with ⟨e, hn⟩ | ⟨j, m, e, hj, hm⟩
    · rw [e]
      refine wq_condD.2 ⟨fun g => by omega, fun _ => step fun o ho he => absurd he (hn o ho)⟩
    · rw [e]
      have hjl := (List.getElem?_eq_some_iff.1 hj).1
      have hrd : rdAt (t := t67) y.2.2.2.1 (j : Int) = m := by
        have := rdAt_some (t := t67) y.2.2.2.1 j hjl
        rw [hj] at this
        exact (Option.some.inj this).symm
      rw [hrd]
      refine wq_condD.2 ⟨fun _ => wq_iteN.2 ⟨by omega, wq_iteN.2 ⟨by omega, ?_⟩⟩, fun g => by omega⟩
      refine wq_cond.2 ⟨fun _ => wq_some.2 hQ, fun g => wq_iteN.2 ⟨by omega, wq_iteN.2 ⟨by omega, wq_condM.2 ⟨fun _ => wq_some.2 hQ, fun g2 => step fun o ho he => ?_⟩⟩⟩⟩
      obtain ⟨n, hn, e2⟩ := List.getElem_of_mem ho
      have ho' : y.2.2.2.1[n]? = some o := by rw [List.getElem?_eq_getElem hn, e2]
      have e3 := hs.inj ho' hj (he.trans hm.symm)
      rw [e3, hj] at ho'
      cases ho'
      exact ⟨by simpa using g, g2⟩

theorem tp23 (hN : 5000 ≤ N) (x y : D31) (hx : x.2.2.2.1.length ≤ 1000) (hy : y.2.2.2.1.length ≤ 1000) (hs : Srt y.2.2.2.1) : Wp (sp23 N (x, y, ())) fun r => r.1 = true → LikeOk x y := by
  unfold sp23 F23
  dsimp only
  have no : ((false, ()) : D159).1 = true → LikeOk x y := fun h => by cases h
  refine tl23x N hN x y hy hs x.2.2.2.1 hx N 0 _ _ _ _ (by omega) (by omega) no (fun j hj => by omega) fun hm => ?_
  dsimp only
  refine wq_cond.2 ⟨fun g1 => wq_cond.2 ⟨fun g2 => wq_some.2 fun g3 => ⟨by simpa using g1, by simpa using g2, by simpa using g3, hm⟩, fun _ => wq_some.2 no⟩, fun _ => wq_some.2 no⟩

theorem tl78bx {xs : List D67} {m : D67} (hm : ∀ o ∈ xs, nm o = nm m → o.2.1.toList = m.2.1.toList ∧ o.2.2.1 = m.2.2.1) (hb : xs.length ≤ 1000) (k : Nat) : ∀ (i : Nat) (Kx Rx : Unit → Option (Int × Unit)) (Q), xs.length < i + k → i ≤ xs.length → Wp (Kx ()) Q → Wp (L78b_0 N (sp70 N) k (xs, (m, ()), (xs.length : Int), (i : Int), ()) Kx Rx) Q := by
  induction k with
  | zero => intro i Kx Rx Q h1 h2; omega
  | succ k ih =>
    intro i Kx Rx Q h1 h2 hK
    rw [L78b_0]
    dsimp only
    refine wq_condD.2 ⟨fun h => ?_, fun h => hK⟩
    rw [wrap_succ (show i < xs.length by omega) (by omega)]
    have ho := hm _ (rdAt_mem (t := t67) xs i (by omega) (by omega))
    refine wq_iteN.2 ⟨by omega, wq_iteN.2 ⟨by omega, ?_⟩⟩
    have t70 : Wp (sp70 N (rdAt (t := t67) xs (i : Int), m, ())) fun r => r.1 = false := by
      unfold sp70 F70
      dsimp only
      refine wq_cond.2 ⟨fun g => ?_, fun g => wq_some.2 rfl⟩
      obtain ⟨e1, e2⟩ := ho (by simpa using g)
      refine wq_cond.2 ⟨fun g2 => (by rw [e1] at g2; simp at g2), fun _ => wq_some.2 ?_⟩
      simp [e2]
    refine wq_bind.2 (t70.mono fun r hr => wq_cond.2 ⟨fun g => (by rw [hr] at g; cases g), fun _ => ih (i + 1) Kx Rx Q (by omega) (by omega) hK⟩)

theorem tp69 (hN : 5000 ≤ N) (m : D67) (y : D31) (hb : y.2.2.2.1.length ≤ 1000) (hm : ∀ o ∈ y.2.2.2.1, nm o = nm m → o.2.1.toList = m.2.1.toList ∧ o.2.2.1 = m.2.2.1) : Wp (sp69 N (m, y, ())) fun r => r.1 = false := by
  unfold sp69 F69 sp68b F68b sp78b F78b
  dsimp only
  refine wq_bind.2 (wq_bind.2 ?_)
  refine tl78bx N hm hb N 0 _ _ _ (by omega) (by omega) (wq_some.2 (wq_some.2 (wq_some.2 ?_)))
  rfl

theorem tl78ax (hN : 5000 ≤ N) {xs : List D67} (y : D31) (hy : y.2.2.2.1.length ≤ 1000) (hm : LikeM xs y.2.2.2.1) (hb : xs.length ≤ 1000) (k : Nat) : ∀ (i : Nat) (Kx Rx : Unit → Option (Int × Unit)) (Q), xs.length < i + k → i ≤ xs.length → Wp (Kx ()) Q → Wp (L78a_0 N (sp69 N) k (xs, (y, ()), (xs.length : Int), (i : Int), ()) Kx Rx) Q := by
  induction k with
  | zero => intro i Kx Rx Q h1 h2; omega
  | succ k ih =>
    intro i Kx Rx Q h1 h2 hK
    rw [L78a_0]
    dsimp only
    refine wq_condD.2 ⟨fun h => ?_, fun h => hK⟩
    rw [wrap_succ (show i < xs.length by omega) (by omega)]
    refine wq_iteN.2 ⟨by omega, wq_iteN.2 ⟨by omega, wq_bind.2 ((tp69 N hN _ y hy (hm.is _ (rdAt_mem (t := t67) xs i (by omega) (by omega)))).mono fun r hr => wq_cond.2 ⟨fun g => (by rw [hr] at g; cases g), fun _ => ih (i + 1) Kx Rx Q (by omega) (by omega) hK⟩)⟩⟩

theorem tp51 (hN : 5000 ≤ N) (x y : D31) (hx : x.2.2.2.1.length ≤ 1000) (hy : y.2.2.2.1.length ≤ 1000) (h : LikeOk x y) : Wp (sp51 N (x, y, ())) fun r => r.1 = true := by
  unfold sp51 F51 sp68a F68a sp78a F78a
  dsimp only
  refine wq_cond.2 ⟨fun g => (by rw [h.cur] at g; simp at g), fun _ => wq_condM.2 ⟨fun g => absurd h.fr g, fun _ => wq_condM.2 ⟨fun g => absurd h.to g, fun _ => ?_⟩⟩⟩
  refine wq_bind.2 (wq_bind.2 ?_)
  refine tl78ax N hN y hy h.ms hx N 0 _ _ _ (by omega) (by omega) (wq_some.2 (wq_some.2 (wq_some.2 ?_)))
  rfl

end Go.Proofs.Ytkifmnocomadfaa
end
