/- Plateaus and their groups, in plain lists. -/
import Derived.Test.YtkifmnocomadfaaGKb
section
set_option linter.unusedVariables false
namespace Go.Proofs.Ytkifmnocomadfaa
open Go.V

def plat (l : List Int) : Nat → List (Int × Int)
  | 0 => []
  | i + 1 => plat l i ++ (if i = 0 ∨ rdAt (t := .int .i64) l ((i : Int) - 1) ≠ rdAt (t := .int .i64) l (i : Int) then [((i : Int), rdAt (t := .int .i64) l (i : Int))] else [])

def ext (w r : Int) : Int × Int → List (Int × Int) → Nat
  | _, [] => 0
  | a, b :: t => if b.1 - a.1 = w ∧ b.2 - a.2 = r then ext w r b t + 1 else 0

inductive Grp : List (Int × Int) → List D77 → Prop
  | nil : Grp [] []
  | one (a) : Grp [a] [(a.1, a.2, 0, 0, 1, ())]
  | more (a b t gs) : Grp (t.drop (ext (b.1 - a.1) (b.2 - a.2) b t)) gs → Grp (a :: b :: t) ((a.1, a.2, b.1 - a.1, b.2 - a.2, (ext (b.1 - a.1) (b.2 - a.2) b t : Int) + 2, ()) :: gs)

theorem Grp.det {P : List (Int × Int)} {gs : List D77} (h : Grp P gs) : ∀ {gs'}, Grp P gs' → gs = gs' := by
  induction h with
  | nil => intro gs' h'; cases h'; rfl
  | one a => intro gs' h'; cases h'; rfl
  | more a b t gs h ih =>
    intro gs' h'
    cases h' with
    | more _ _ _ gs2 h2 => rw [ih h2]

theorem ext_le (w r : Int) : ∀ (a : Int × Int) (t : List (Int × Int)), ext w r a t ≤ t.length
  | _, [] => Nat.le_refl _
  | a, b :: t => by
    unfold ext
    split
    · have := ext_le w r b t; simp; omega
    · simp

theorem Grp.facts {P : List (Int × Int)} {gs : List D77} (h : Grp P gs) : gs.length ≤ P.length ∧ ∀ g ∈ gs, (∃ p ∈ P, g.1 = p.1 ∧ g.2.1 = p.2) ∧ 1 ≤ g.2.2.2.2.1 ∧ g.2.2.2.2.1 ≤ (P.length : Int) := by
  induction h with
  | nil => exact ⟨Nat.le_refl _, fun g hg => by cases hg⟩
  | one a => exact ⟨Nat.le_refl _, fun g hg => by simp only [List.mem_singleton] at hg; subst hg; exact ⟨⟨a, by simp, rfl, rfl⟩, by simp, by simp⟩⟩
  | more a b t gs h ih =>
    obtain ⟨i1, i2⟩ := ih
    have hl := ext_le (b.1 - a.1) (b.2 - a.2) b t
    rw [List.length_drop] at i1 i2
    refine ⟨by simp; omega, fun g hg => ?_⟩
    rcases List.mem_cons.1 hg with rfl | hg
    · exact ⟨⟨a, by simp, rfl, rfl⟩, by dsimp only; omega, by simp only [List.length_cons]; omega⟩
    · obtain ⟨⟨p, hp, e⟩, h2, h3⟩ := i2 g hg
      exact ⟨⟨p, by simp [List.mem_of_mem_drop hp], e⟩, h2, by simp only [List.length_cons]; omega⟩

def valP : Int → List (Int × Int) → Int → Int
  | d, [], _ => d
  | d, p :: t, q => if p.1 ≤ q then valP p.2 t q else d

def lastV (d : Int) (A : List (Int × Int)) : Int := match A.getLast? with
  | some p => p.2
  | none => d

theorem lastV_cons (d : Int) (p : Int × Int) (A : List (Int × Int)) : lastV d (p :: A) = lastV p.2 A := by
  cases A with
  | nil => rfl
  | cons a A => simp [lastV, List.getLast?_cons]

theorem valP_app (q : Int) (B : List (Int × Int)) : ∀ (A : List (Int × Int)) (d : Int), (∀ p ∈ A, p.1 ≤ q) → valP d (A ++ B) q = valP (lastV d A) B q
  | [], d, _ => rfl
  | p :: A, d, h => by
    rw [List.cons_append, valP, if_pos (h p (by simp)), valP_app q B A p.2 (fun x hx => h x (by simp [hx])), lastV_cons]

theorem valP_gt (q : Int) (B : List (Int × Int)) (hB : ∀ p ∈ B.head?, q < p.1) : ∀ (A : List (Int × Int)) (d : Int), valP d (A ++ B) q = valP d A q
  | [], d => by
    cases B with
    | nil => rfl
    | cons b B =>
      have := hB b (by simp)
      show (if b.1 ≤ q then valP b.2 B q else d) = d
      rw [if_neg (by omega)]
  | p :: A, d => by
    rw [List.cons_append, valP, valP, valP_gt q B hB A p.2]

theorem valP_mem (q : Int) : ∀ (A : List (Int × Int)) (d : Int), valP d A q = d ∨ ∃ p ∈ A, valP d A q = p.2
  | [], d => .inl rfl
  | p :: A, d => by
    rw [valP]
    split
    · rcases valP_mem q A p.2 with h | ⟨x, hx, h⟩
      · exact .inr ⟨p, by simp, h⟩
      · exact .inr ⟨x, by simp [hx], h⟩
    · exact .inl rfl

theorem valA (w r q : Int) (hw : 0 < w) : ∀ (t : List (Int × Int)) (b : Int × Int), b.1 ≤ q → valP b.2 (t.take (ext w r b t)) q = b.2 + min ((q - b.1) / w) (ext w r b t : Int) * r
  | [], b, hb => by
    have : 0 ≤ (q - b.1) / w := Int.ediv_nonneg (by omega) (by omega)
    simp only [ext, List.take_nil, valP]
    rw [Int.min_eq_right (by simpa using this)]
    simp
  | c :: t, b, hb => by
    have h0 : 0 ≤ (q - b.1) / w := Int.ediv_nonneg (by omega) (by omega)
    rw [ext]
    split
    · rename_i h
      rw [List.take_succ_cons, valP]
      split
      · rename_i hc
        rw [valA w r q hw t c hc]
        have e1 : (q - b.1) / w = (q - c.1) / w + 1 := by
          have : q - b.1 = (q - c.1) + 1 * w := by omega
          rw [this, Int.add_mul_ediv_right _ _ (by omega)]
        have e2 : min ((q - b.1) / w) ((ext w r c t + 1 : Nat) : Int) = min ((q - c.1) / w) (ext w r c t : Int) + 1 := by rw [e1]; omega
        rw [e2, Int.add_mul, Int.one_mul]
        have := h.2
        omega
      · rename_i hc
        have : (q - b.1) / w = 0 := Int.ediv_eq_zero_of_lt (by omega) (by omega)
        rw [this, Int.min_eq_left (by omega)]
        simp
    · rw [Int.min_eq_right (by simpa using h0)]
      simp [valP]

theorem lastG_cons (g : D77) (gs : List D77) (q : Int) : lastG (g :: gs) q = match lastG gs q with
    | some h => some h
    | none => if g.1 ≤ q then some g else none := by
  unfold lastG
  rw [List.reverse_cons, List.find?_append]
  cases List.find? (fun g => decide (g.1 ≤ q)) gs.reverse with
  | some h => rfl
  | none => by_cases h : g.1 ≤ q <;> simp [h]

theorem lastG_none {gs : List D77} {q : Int} (h : ∀ g ∈ gs, q < g.1) : lastG gs q = none := by
  unfold lastG
  rw [List.find?_eq_none]
  intro g hg
  have := h g (List.mem_reverse.1 hg)
  simp; omega

theorem look {P : List (Int × Int)} {gs : List D77} (h : Grp P gs) (q : Int) (hq : 0 ≤ q ∧ q ≤ 2001) : P.Pairwise (fun a b => a.1 < b.1) → (∀ p ∈ P, 0 ≤ p.1 ∧ p.1 ≤ 2001 ∧ inB p.2) → P.length ≤ 2001 → ∀ (a : Int × Int) (T : List (Int × Int)), P = a :: T → a.1 ≤ q →
    ∃ g, lastG gs q = some g ∧ valG g q = valP a.2 T q := by
  induction h with
  | nil => intro _ _ _ a T e; cases e
  | one a =>
    intro _ hb _ a' T e ha
    cases e
    refine ⟨_, by rw [lastG_cons]; simp only [lastG, List.reverse_nil, List.find?_nil]; rw [if_pos ha], ?_⟩
    unfold valG
    rw [if_pos (show (0 : Int) < 1 by decide)]
    rfl
  | more a b t gs h ih =>
    intro hs hb hl a' T e ha
    cases e
    obtain ⟨hs1, hs2⟩ := List.pairwise_cons.1 hs
    obtain ⟨hs3, hs4⟩ := List.pairwise_cons.1 hs2
    have hab := hs1 b (by simp)
    obtain ⟨m, hm⟩ : ∃ m, ext (b.1 - a.1) (b.2 - a.2) b t = m := ⟨_, rfl⟩
    rw [hm] at h ih ⊢
    have hml : m ≤ t.length := by rw [← hm]; exact ext_le _ _ _ _
    have hsub : (t.drop m).Sublist (a :: b :: t) := ((List.drop_sublist m t).trans (List.sublist_cons_self b t)).trans (List.sublist_cons_self a _)
    have hsplit : b :: t = (b :: t.take m) ++ t.drop m := by simp
    have hlen : m + 2 ≤ 2001 := by simp at hl; omega
    by_cases hnext : ∃ c T', t.drop m = c :: T' ∧ c.1 ≤ q
    · obtain ⟨c, T', e1, hc⟩ := hnext
      obtain ⟨g, h1, h2⟩ := ih (hs.sublist hsub) (fun p hp => hb p (hsub.subset hp)) (Nat.le_trans hsub.length_le hl) c T' e1 hc
      refine ⟨g, by rw [lastG_cons, h1], ?_⟩
      rw [h2, hsplit, valP_app, e1, valP, if_pos hc]
      intro p hp
      have : p.1 < c.1 := by
        have h3 : (b :: t.take m ++ t.drop m).Pairwise fun a b => a.1 < b.1 := by rw [← hsplit]; exact hs2
        exact (List.pairwise_append.1 h3).2.2 p hp c (by rw [e1]; simp)
      omega
    · have hnone : lastG gs q = none := by
        refine lastG_none fun g hg => ?_
        obtain ⟨⟨p, hp, e1, _⟩, _⟩ := h.facts.2 g hg
        cases hd : t.drop m with
        | nil => rw [hd] at hp; cases hp
        | cons c T' =>
          have hcq : q < c.1 := by
            rcases Int.lt_or_le q c.1 with h' | h'
            · exact h'
            · exact absurd ⟨c, T', hd, h'⟩ hnext
          rw [hd] at hp
          rcases List.mem_cons.1 hp with rfl | hp
          · omega
          · have h3 := hs.sublist hsub
            rw [hd] at h3
            have := (List.pairwise_cons.1 h3).1 p hp
            omega
      refine ⟨_, by rw [lastG_cons, hnone]; dsimp only; rw [if_pos ha], ?_⟩
      have hv : valP a.2 (b :: t) q = a.2 + min ((q - a.1) / (b.1 - a.1)) ((m + 1 : Nat) : Int) * (b.2 - a.2) := by
        have e1 : ext (b.1 - a.1) (b.2 - a.2) a (b :: t) = m + 1 := by rw [ext, if_pos ⟨rfl, rfl⟩, hm]
        have e2 := valA (b.1 - a.1) (b.2 - a.2) q (by omega) (b :: t) a ha
        rw [e1, List.take_succ_cons] at e2
        rw [← e2, hsplit]
        refine valP_gt q _ (fun p hp => ?_) _ _
        cases hd : t.drop m with
        | nil => rw [hd] at hp; cases hp
        | cons c T' =>
          rw [hd] at hp
          simp only [List.head?_cons, Option.mem_some_iff] at hp
          subst hp
          rcases Int.lt_or_le q c.1 with h' | h'
          · exact h'
          · exact absurd ⟨c, T', hd, h'⟩ hnext
      have hin : inB (valP a.2 (b :: t) q) := by
        rcases valP_mem q (b :: t) a.2 with h1 | ⟨p, hp, h1⟩
        · rw [h1]; exact (hb a (by simp)).2.2
        · rw [h1]; exact (hb p (List.mem_cons_of_mem _ hp)).2.2
      have ha0 := hb a (by simp)
      have hb0 := hb b (by simp)
      have hst : stepsG (a.1, a.2, b.1 - a.1, b.2 - a.2, (m : Int) + 2, ()) q = (q - a.1) / (b.1 - a.1) := by
        unfold stepsG
        dsimp only
        rw [wrap_id (n := q - a.1) (by omega) (by omega), Int.tdiv_eq_ediv_of_nonneg (by omega)]
        have h1 : 0 ≤ (q - a.1) / (b.1 - a.1) := Int.ediv_nonneg (by omega) (by omega)
        have h2 : (q - a.1) / (b.1 - a.1) ≤ q - a.1 := Int.ediv_le_self _ (by omega)
        exact wrap_id (by omega) (by omega)
      unfold valG
      rw [hst]
      dsimp only
      rw [if_neg (by omega), wrap_id (n := (m : Int) + 2 - 1) (by omega) (by omega)]
      have e3 : (if (m : Int) + 2 - 1 < (q - a.1) / (b.1 - a.1) then (m : Int) + 2 - 1 else (q - a.1) / (b.1 - a.1)) = min ((q - a.1) / (b.1 - a.1)) ((m + 1 : Nat) : Int) := by
        generalize (q - a.1) / (b.1 - a.1) = z
        split <;> omega
      rw [e3, wrap_add', ← hv]
      unfold inB at hin
      exact wrap_id (by omega) (by omega)

end Go.Proofs.Ytkifmnocomadfaa
end

/- A line of numbers: the program's loop. -/
section
set_option linter.unusedVariables false
namespace Go.Proofs.Ytkifmnocomadfaa
open Go.V
variable (N : Nat)

theorem lastV_snoc (d : Int) (A : List (Int × Int)) (p : Int × Int) : lastV d (A ++ [p]) = p.2 := by simp [lastV]

structure PlatOk (l : List Int) (i : Nat) : Prop where
  mem : ∀ p ∈ plat l i, 0 ≤ p.1 ∧ p.1 < (i : Int) ∧ p.2 ∈ l
  sorted : (plat l i).Pairwise fun a b => a.1 < b.1
  len : (plat l i).length ≤ i
  head : 0 < i → ∃ T, plat l i = ((0 : Int), rdAt (t := .int .i64) l 0) :: T
  last : ∀ d, 0 < i → lastV d (plat l i) = rdAt (t := .int .i64) l ((i : Int) - 1)

theorem plat_ok (l : List Int) : ∀ i, i ≤ l.length → PlatOk l i
  | 0, _ => ⟨fun p hp => (by cases hp), .nil, Nat.le_refl _, fun h => absurd h (by omega), fun d h => absurd h (by omega)⟩
  | i + 1, hi => by
    obtain ⟨h1, h2, h3, h4, h5⟩ := plat_ok l i (by omega)
    have hm := rdAt_i l (i : Int) (by omega) (by omega)
    have e2 : (((i + 1 : Nat) : Int) - 1) = (i : Int) := by omega
    by_cases hc : i = 0 ∨ rdAt (t := .int .i64) l ((i : Int) - 1) ≠ rdAt (t := .int .i64) l (i : Int)
    · have e : plat l (i + 1) = plat l i ++ [((i : Int), rdAt (t := .int .i64) l (i : Int))] := by rw [plat, if_pos hc]
      refine ⟨fun p hp => ?_, ?_, ?_, fun _ => ?_, fun d _ => ?_⟩
      · rw [e] at hp
        rcases List.mem_append.1 hp with hp | hp
        · obtain ⟨a, b, c⟩ := h1 p hp; exact ⟨a, by omega, c⟩
        · simp only [List.mem_singleton] at hp; subst hp; exact ⟨by dsimp only; omega, by dsimp only; omega, hm⟩
      · rw [e]
        refine List.pairwise_append.2 ⟨h2, List.pairwise_singleton _ _, fun a ha b hb => ?_⟩
        simp only [List.mem_singleton] at hb
        subst hb
        exact (h1 a ha).2.1
      · rw [e]; simp; exact h3
      · rw [e]
        by_cases h0 : i = 0
        · subst h0; exact ⟨[], rfl⟩
        · obtain ⟨T, hT⟩ := h4 (by omega)
          exact ⟨T ++ [_], by rw [hT]; rfl⟩
      · rw [e, lastV_snoc, e2]
    · have e : plat l (i + 1) = plat l i := by rw [plat, if_neg hc, List.append_nil]
      have h0 : ¬ i = 0 := fun h => hc (.inl h)
      have heq : rdAt (t := .int .i64) l ((i : Int) - 1) = rdAt (t := .int .i64) l (i : Int) := by
        rcases Decidable.em (rdAt (t := .int .i64) l ((i : Int) - 1) = rdAt (t := .int .i64) l (i : Int)) with h | h
        · exact h
        · exact absurd (.inr h) hc
      refine ⟨fun p hp => ?_, by rw [e]; exact h2, by rw [e]; omega, fun _ => by rw [e]; exact h4 (by omega), fun d _ => by rw [e, h5 d (by omega), heq, e2]⟩
      rw [e] at hp
      obtain ⟨a, b, c⟩ := h1 p hp
      exact ⟨a, by omega, c⟩

theorem valP_all {q : Int} {A : List (Int × Int)} (d : Int) (h : ∀ p ∈ A, p.1 ≤ q) : valP d A q = lastV d A := by
  have := valP_app q [] A d h
  rw [List.append_nil] at this
  rw [this]
  rfl

theorem valP_plat (l : List Int) (d : Int) : ∀ i, i ≤ l.length → ∀ q : Nat, q < i → valP d (plat l i) (q : Int) = rdAt (t := .int .i64) l (q : Int)
  | 0, _, q, hq => by omega
  | i + 1, hi, q, hq => by
    have ih := valP_plat l d i (by omega) q
    have ho := plat_ok l i (by omega)
    have hle : ∀ p ∈ plat l i, p.1 ≤ (i : Int) := fun p hp => by have := (ho.mem p hp).2.1; omega
    by_cases hc : i = 0 ∨ rdAt (t := .int .i64) l ((i : Int) - 1) ≠ rdAt (t := .int .i64) l (i : Int)
    · have e : plat l (i + 1) = plat l i ++ [((i : Int), rdAt (t := .int .i64) l (i : Int))] := by rw [plat, if_pos hc]
      rw [e]
      by_cases h : q < i
      · rw [valP_gt (q : Int) _ (fun p hp => by simp at hp; subst hp; dsimp only; omega)]
        exact ih h
      · have : q = i := by omega
        subst this
        rw [valP_app _ _ _ _ hle, valP, if_pos (Int.le_refl _)]
        rfl
    · have e : plat l (i + 1) = plat l i := by rw [plat, if_neg hc, List.append_nil]
      rw [e]
      by_cases h : q < i
      · exact ih h
      · have : q = i := by omega
        subst this
        have h0 : ¬ q = 0 := fun h => hc (.inl h)
        rw [valP_all d hle, ho.last d (by omega)]
        rcases Decidable.em (rdAt (t := .int .i64) l ((q : Int) - 1) = rdAt (t := .int .i64) l (q : Int)) with h | h
        · exact h
        · exact absurd (.inr h) hc

def pv (r : D87) : Int × Int := (r.1, r.2.2.1)

structure RunsOk (l : List Int) (i : Nat) (rs : List D87) : Prop where
  map : rs.map pv = plat l i
  to : ∀ r ∈ rs.getLast?, r.2.1 = (i : Int) - 1

theorem RunsOk.len {l : List Int} {i : Nat} {rs : List D87} (h : RunsOk l i rs) (hi : i ≤ l.length) : rs.length ≤ i := by
  have := (plat_ok l i hi).len
  rw [← h.map] at this
  simpa using this

theorem rdAt_last (A : List D87) (r : D87) (i : Int) (hi : i = (A.length : Int)) : rdAt (t := t87) (A ++ [r]) i = r := by
  subst hi
  rw [rdAt_at (t := t87) _ _ (by simp)]
  simp

theorem set_last (A : List D87) (r r' : D87) (i : Nat) (hi : i = A.length) : (A ++ [r]).set i r' = A ++ [r'] := by
  subst hi
  simp

end Go.Proofs.Ytkifmnocomadfaa
end

/- A curve of a line: the program's loops. -/
section
set_option linter.unusedVariables false
namespace Go.Proofs.Ytkifmnocomadfaa
open Go.V
variable (N : Nat)

theorem rdR (rs : List D87) (i : Nat) (h : i < rs.length) : rs[i]? = some (rdAt (t := t87) rs (i : Int)) := rdAt_some (t := t87) rs i h

theorem drop_at (rs : List D87) (c : Nat) (h : c < rs.length) : (rs.map pv).drop c = pv (rdAt (t := t87) rs (c : Int)) :: (rs.map pv).drop (c + 1) := by
  have h1 : c < (rs.map pv).length := by simpa using h
  rw [List.drop_eq_getElem_cons h1]
  congr 1
  rw [List.getElem_map]
  have := rdR rs c h
  rw [List.getElem?_eq_getElem h] at this
  rw [Option.some.inj this]

theorem tp44 (x : D87) : Wp (sp44 N (x, ())) fun r => r.1 = false → inB x.2.2.1 := by
  unfold sp44 F44
  dsimp only
  refine wq_condD.2 ⟨fun _ => wq_some.2 fun h => (by cases h), fun h1 => wq_some.2 fun h => ?_⟩
  have h2 := of_decide_eq_false h
  unfold inB
  omega

theorem tl66 (rs : List D87) (hl : rs.length ≤ 2001) (k : Nat) : ∀ (i : Nat) (u : Unit) (Kx : Unit → Option (Int × Unit)) (Q), rs.length < i + k → i ≤ rs.length → (∀ j, j < i → ∀ m, rs[j]? = some m → inB m.2.2.1) →
    (∀ z : Int, 0 ≤ z → Q (z, ())) → ((∀ m ∈ rs, inB m.2.2.1) → Wp (Kx ()) Q) → Wp (L66_0 N (sp44 N) k (rs, u, (rs.length : Int), (i : Int), ()) Kx) Q := by
  induction k with
  | zero => intro i u Kx Q h1 h2; omega
  | succ k ih =>
    intro i u Kx Q h1 h2 hv hQ hK
    rw [L66_0]
    dsimp only
    refine wq_condD.2 ⟨fun h => ?_, fun h => hK (all_of_lt hv (by omega))⟩
    rw [wrap_succ (show i < rs.length by omega) (by omega)]
    refine wq_iteN.2 ⟨by omega, wq_iteN.2 ⟨by omega, wq_bind.2 ((tp44 N _).mono fun r hr => wq_cond.2 ⟨fun _ => wq_some.2 (hQ _ (by omega)), fun hb => ?_⟩)⟩⟩
    exact ih (i + 1) _ Kx Q (by omega) (by omega) (lt_succ_all (R := fun m : D87 => inB m.2.2.1) (rdR rs i (by omega)) hv (hr hb)) hQ hK

abbrev runIn (r : D87) : Prop := 0 ≤ r.1 ∧ r.1 ≤ 2001 ∧ inB r.2.2.1

theorem rdR_mem (rs : List D87) (i : Int) (h0 : 0 ≤ i) (h : i < (rs.length : Int)) : rdAt (t := t87) rs i ∈ rs := rdAt_mem (t := t87) rs i h0 h

theorem tl45 (rs : List D87) (hl : rs.length ≤ 2001) (hb : ∀ r ∈ rs, runIn r) (f v w r : Int) (k : Nat) : ∀ (c : Nat) (u u' : Unit) (z : D77) (Kx : (Unit × (D77 × (Unit × (D77 × Unit)))) → Option (D77 × (Int × Unit))) (Q), rs.length < c + k → 1 ≤ c → c ≤ rs.length →
    Wp (Kx ((), z, (), (f, v, w, r, ((c + ext w r (pv (rdAt (t := t87) rs ((c : Int) - 1))) ((rs.map pv).drop c) : Nat) : Int), ()), ())) Q → Wp (L45_0 N k (rs, u, z, u', (f, v, w, r, (c : Int), ()), ()) Kx) Q := by
  induction k with
  | zero => intro c u u' z Kx Q h1 h2 h3; omega
  | succ k ih =>
    intro c u u' z Kx Q h1 h2 h3 hK
    rw [L45_0]
    dsimp only
    refine wq_condD.2 ⟨fun h => ?_, fun h => ?_⟩
    · have e1 : IntKind.i64.wrap ((c : Int) - 1) = (c : Int) - 1 := wrap_id (by omega) (by omega)
      rw [e1, wrap_succ (show c < rs.length by omega) (by omega)]
      have m1 := hb _ (rdR_mem rs ((c : Int) - 1) (by omega) (by omega))
      have m2 := hb _ (rdR_mem rs (c : Int) (by omega) (by omega))
      rw [drop_at rs c (by omega)] at hK
      obtain ⟨a, ha⟩ : ∃ a : D87, rdAt (t := t87) rs ((c : Int) - 1) = a := ⟨_, rfl⟩
      obtain ⟨b, hbb⟩ : ∃ b : D87, rdAt (t := t87) rs (c : Int) = b := ⟨_, rfl⟩
      rw [ha] at m1 hK ⊢
      rw [hbb] at m2 hK ⊢
      unfold runIn inB at m1 m2
      rw [wrap_id (n := b.1 - a.1) (by omega) (by omega), wrap_id (n := b.2.2.1 - a.2.2.1) (by omega) (by omega)]
      refine wq_iteN.2 ⟨by omega, wq_iteN.2 ⟨by omega, wq_iteN.2 ⟨by omega, wq_iteN.2 ⟨by omega, ?_⟩⟩⟩⟩
      have stop : ¬ (b.1 - a.1 = w ∧ b.2.2.1 - a.2.2.1 = r) → ext w r (pv a) (pv b :: (rs.map pv).drop (c + 1)) = 0 := fun hn => by
        unfold ext
        exact if_neg hn
      refine wq_condM.2 ⟨fun hne => ?_, fun he1 => wq_condM.2 ⟨fun hne => ?_, fun he2 => ?_⟩⟩
      · rw [stop fun hh => hne hh.1] at hK
        exact hK
      · rw [stop fun hh => hne hh.2] at hK
        exact hK
      · have go : ext w r (pv a) (pv b :: (rs.map pv).drop (c + 1)) = ext w r (pv b) ((rs.map pv).drop (c + 1)) + 1 := by
          conv => lhs; unfold ext
          exact if_pos ⟨he1, he2⟩
        refine ih (c + 1) _ _ z Kx Q (by omega) (by omega) (by omega) ?_
        have e2 : (((c + 1 : Nat) : Int) - 1) = (c : Int) := by omega
        rw [e2, hbb]
        rw [go] at hK
        have e3 : c + (ext w r (pv b) ((rs.map pv).drop (c + 1)) + 1) = c + 1 + ext w r (pv b) ((rs.map pv).drop (c + 1)) := by omega
        rw [e3] at hK
        exact hK
    · have : c = rs.length := by omega
      subst this
      have : (rs.map pv).drop rs.length = [] := by rw [List.drop_eq_nil_iff]; simp
      rw [this] at hK
      simpa [ext] using hK

theorem tp45 (hN : 5000 ≤ N) (rs : List D87) (hl : rs.length ≤ 2001) (hb : ∀ r ∈ rs, runIn r) (hne : rs ≠ []) : Wp (sp45 N (rs, ())) fun x => ∃ n : Nat, x.2.1 = (n : Int) ∧ 1 ≤ n ∧ n ≤ rs.length ∧ ∀ gs, Grp ((rs.map pv).drop n) gs → Grp (rs.map pv) (x.1 :: gs) := by
  have hpos : 0 < rs.length := List.length_pos_iff.2 hne
  unfold sp45 F45
  dsimp only
  refine wq_iteN.2 ⟨by omega, wq_iteN.2 ⟨by omega, wq_iteN.2 ⟨by omega, wq_iteN.2 ⟨by omega, ?_⟩⟩⟩⟩
  have d0 := drop_at rs 0 hpos
  rw [List.drop_zero] at d0
  refine wq_condE.2 ⟨fun h1 => wq_some.2 ⟨1, rfl, Nat.le_refl _, by omega, fun gs hg => ?_⟩, fun h1 => ?_⟩
  · have : (rs.map pv).drop 1 = [] := by rw [List.drop_eq_nil_iff]; simp; omega
    rw [this] at d0 hg
    cases hg
    rw [d0]
    exact .one _
  · have d1 := drop_at rs 1 (by omega)
    have m0 := hb _ (rdR_mem rs (0 : Int) (by omega) (by omega))
    have m1 := hb _ (rdR_mem rs (1 : Int) (by omega) (by omega))
    have c1 : ((1 : Nat) : Int) = 1 := rfl
    have c0 : ((0 : Nat) : Int) = 0 := rfl
    rw [c1] at d1
    rw [c0] at d0
    obtain ⟨a, ha⟩ : ∃ a : D87, rdAt (t := t87) rs (0 : Int) = a := ⟨_, rfl⟩
    obtain ⟨b, hbb⟩ : ∃ b : D87, rdAt (t := t87) rs (1 : Int) = b := ⟨_, rfl⟩
    rw [ha] at m0 d0 ⊢
    rw [hbb] at m1 d1 ⊢
    unfold runIn inB at m0 m1
    rw [wrap_id (n := b.1 - a.1) (by omega) (by omega), wrap_id (n := b.2.2.1 - a.2.2.1) (by omega) (by omega)]
    refine wq_iteN.2 ⟨by omega, wq_iteN.2 ⟨by omega, wq_iteN.2 ⟨by omega, wq_iteN.2 ⟨by omega, ?_⟩⟩⟩⟩
    refine wq_iteN.2 ⟨by omega, wq_iteN.2 ⟨by omega, wq_iteN.2 ⟨by omega, wq_iteN.2 ⟨by omega, ?_⟩⟩⟩⟩
    have e0 : (((1 : Nat) : Int) - 1) = 0 := by omega
    refine tl45 N rs hl hb a.1 a.2.2.1 (b.1 - a.1) (b.2.2.1 - a.2.2.1) N 1 _ _ _ _ _ (by omega) (by omega) (by omega) (wq_some.2 ?_)
    rw [e0, ha, d1]
    have go : ext (b.1 - a.1) (b.2.2.1 - a.2.2.1) (pv a) (pv b :: (rs.map pv).drop (1 + 1)) = ext (b.1 - a.1) (b.2.2.1 - a.2.2.1) (pv b) ((rs.map pv).drop 2) + 1 := by
      conv => lhs; unfold ext
      exact if_pos ⟨rfl, rfl⟩
    rw [go]
    obtain ⟨m, hm⟩ : ∃ m, ext (b.1 - a.1) (b.2.2.1 - a.2.2.1) (pv b) ((rs.map pv).drop 2) = m := ⟨_, rfl⟩
    rw [hm]
    have hml : m ≤ rs.length - 2 := by
      rw [← hm]
      have := ext_le (b.1 - a.1) (b.2.2.1 - a.2.2.1) (pv b) ((rs.map pv).drop 2)
      simpa using this
    refine ⟨m + 2, by dsimp only; omega, by omega, by omega, fun gs hg => ?_⟩
    have hP : rs.map pv = pv a :: pv b :: (rs.map pv).drop 2 := d0.trans (congrArg (List.cons (pv a)) d1)
    have hg' : Grp (((rs.map pv).drop 2).drop m) gs := by rw [List.drop_drop, Nat.add_comm 2 m]; exact hg
    rw [hP]
    have := Grp.more (pv a) (pv b) ((rs.map pv).drop 2) gs (by
      show Grp (((rs.map pv).drop 2).drop (ext (b.1 - a.1) (b.2.2.1 - a.2.2.1) (pv b) ((rs.map pv).drop 2))) gs
      rw [hm]
      exact hg')
    have e4 : ((1 + (m + 1) : Nat) : Int) = (ext ((pv b).1 - (pv a).1) ((pv b).2 - (pv a).2) (pv b) ((rs.map pv).drop 2) : Int) + 2 := by
      show _ = ((ext (b.1 - a.1) (b.2.2.1 - a.2.2.1) (pv b) ((rs.map pv).drop 2) : Nat) : Int) + 2
      rw [hm]
      omega
    rw [e4]
    exact this

theorem tl16 (hN : 5000 ≤ N) (k : Nat) : ∀ (rs : List D87) (u u' : Unit) (z mx : Int) (o0 out : List D77) (Kx : (Unit × (Int × (Unit × (Int × ((List D77) × ((List D77) × Unit)))))) → Option (D52 × D159)) (Q), rs.length < k → rs.length ≤ 2001 → (∀ r ∈ rs, runIn r) → out.length + rs.length ≤ 2001 →
    (∀ gs, Grp (rs.map pv) gs → Wp (Kx ((), z, (), mx, o0, out ++ gs, ())) Q) → Wp (L16_0 N (sp40 N) (sp41 N) (sp42 N) (sp43 N) (sp45 N) k (u, z, rs, u', mx, o0, out, ()) Kx) Q := by
  induction k with
  | zero => intro rs u u' z mx o0 out Kx Q h1; omega
  | succ k ih =>
    intro rs u u' z mx o0 out Kx Q h1 h2 hb h3 hK
    rw [L16_0]
    dsimp only
    refine wq_condD.2 ⟨fun h => ?_, fun h => ?_⟩
    · have hne : rs ≠ [] := by rintro rfl; simp at h
      refine wq_bind.2 ((tp45 N hN rs h2 hb hne).mono ?_)
      rintro ⟨g, nn, _⟩ ⟨n, hn, n1, n2, hg⟩
      dsimp only at hn hg ⊢
      subst hn
      refine wq_iteN.2 ⟨by omega, wq_iteN.2 ⟨by omega, wq_iteN.2 ⟨by omega, wq_iteN.2 ⟨by omega, ?_⟩⟩⟩⟩
      have e1 : (rs.take ((rs.length : Int)).toNat).drop ((n : Int)).toNat = rs.drop n := by
        rw [show ((rs.length : Int)).toNat = rs.length by omega, List.take_length, show ((n : Int)).toNat = n by omega]
      rw [e1]
      refine ih (rs.drop n) _ _ z mx o0 (out ++ [g]) Kx Q (by simp; omega) (by simp; omega) (fun r hr => hb r (List.mem_of_mem_drop hr)) (by simp; omega) fun gs hgs => ?_
      rw [List.map_drop] at hgs
      have := hK _ (hg gs hgs)
      rw [List.append_assoc]
      exact this
    · have : rs = [] := List.eq_nil_of_length_eq_zero (by omega)
      subst this
      have := hK [] .nil
      rw [List.append_nil] at this
      exact this

theorem tp40 (rs : List D87) (h : rs.length ≤ 2001) : Wp (sp40 N ((rs, ()), ())) fun r => (r.2.2.1 = true → rs ≠ []) ∧ (rs ≠ [] → r = ((rdAt (t := t87) rs 0).1, (rdAt (t := t87) rs ((rs.length : Int) - 1)).2.1, true, ())) := by
  unfold sp40 F40
  dsimp only
  refine wq_condE.2 ⟨fun h1 => wq_some.2 ⟨fun h => (by cases h), fun hne => ?_⟩, fun h1 => ?_⟩
  · exact absurd (List.eq_nil_of_length_eq_zero (by omega)) hne
  · have e : IntKind.i64.wrap ((rs.length : Int) - 1) = (rs.length : Int) - 1 := wrap_id (by omega) (by omega)
    rw [e]
    refine wq_iteN.2 ⟨by omega, wq_iteN.2 ⟨by omega, wq_iteN.2 ⟨by omega, wq_iteN.2 ⟨by omega, wq_some.2 ⟨fun _ => ?_, fun _ => rfl⟩⟩⟩⟩⟩
    rintro rfl
    simp at h1

structure OfOk (l : List Int) (c : D52) : Prop where
  max : c.1 = (l.length : Int) - 1
  pos : l ≠ []
  grp : Grp (plat l l.length) c.2.1
  vals : ∀ p ∈ plat l l.length, inB p.2

end Go.Proofs.Ytkifmnocomadfaa
end

/- A line of a curve is the line again: the program's side. -/
section
set_option linter.unusedVariables false
namespace Go.Proofs.Ytkifmnocomadfaa
open Go.V
variable (N : Nat)

theorem Grp.head {a : Int × Int} {T : List (Int × Int)} {gs : List D77} (h : Grp (a :: T) gs) : ∃ g gs', gs = g :: gs' ∧ g.1 = a.1 := by
  cases h with
  | one => exact ⟨_, _, rfl, rfl⟩
  | more _ b t gs h => exact ⟨_, _, rfl, rfl⟩

theorem OfOk.npos {l : List Int} {c : D52} (h : OfOk l c) : 0 < l.length := List.length_pos_iff.2 h.pos

theorem OfOk.curve {l : List Int} {c : D52} (h : OfOk l c) (hl : l.length ≤ 2001) : curveOk c ∧ c.2.1.length ≤ l.length ∧ (∀ g ∈ c.2.1, 0 ≤ g.1 ∧ g.1 < (l.length : Int)) ∧ c.2.1 ≠ [] ∧ (rdAt (t := t77) c.2.1 0).1 = 0 := by
  have ho := plat_ok l l.length (Nat.le_refl _)
  obtain ⟨f1, f2⟩ := h.grp.facts
  have hpl := ho.len
  refine ⟨⟨fun g hg => ?_, by omega⟩, by omega, fun g hg => ?_, ?_⟩
  · obtain ⟨⟨p, hp, e1, e2⟩, h2, h3⟩ := f2 g hg
    have m := ho.mem p hp
    have v := h.vals p hp
    unfold inB at v
    unfold grpOk
    omega
  · obtain ⟨⟨p, hp, e1, e2⟩, h2, h3⟩ := f2 g hg
    have m := ho.mem p hp
    omega
  · obtain ⟨T, hT⟩ := ho.head h.npos
    have hg := h.grp
    rw [hT] at hg
    obtain ⟨g, gs', e, e1⟩ := hg.head
    rw [e]
    exact ⟨by simp, e1⟩

theorem OfOk.at' {l : List Int} {c : D52} (h : OfOk l c) (hl : l.length ≤ 2001) (q : Nat) (hq : q < l.length) : atS c (q : Int) = (rdAt (t := .int .i64) l (q : Int), true, ()) := by
  have ho := plat_ok l l.length (Nat.le_refl _)
  obtain ⟨T, hT⟩ := ho.head h.npos
  have hm := h.max
  have hb : ∀ p ∈ plat l l.length, 0 ≤ p.1 ∧ p.1 ≤ 2001 ∧ inB p.2 := fun p hp => by
    have := ho.mem p hp
    exact ⟨this.1, by omega, h.vals p hp⟩
  obtain ⟨g, h1, h2⟩ := look h.grp (q : Int) ⟨by omega, by omega⟩ ho.sorted hb (by have := ho.len; omega) _ T hT (by dsimp only; omega)
  unfold atS
  rw [if_neg (by omega), if_neg (by omega), h1]
  dsimp only
  rw [h2]
  have := valP_plat l 0 l.length (Nat.le_refl _) q hq
  rw [hT, valP, if_pos (by dsimp only; omega)] at this
  rw [this]

theorem take_rd (l : List Int) (i : Nat) (h : i < l.length) : l.take (i + 1) = l.take i ++ [rdAt (t := .int .i64) l (i : Int)] := by
  rw [List.take_add_one, rdAt_some (t := .int .i64) l i h]
  rfl

theorem tl17 (hN : 5000 ≤ N) {l : List Int} {c : D52} (h : OfOk l c) (hl : l.length ≤ 2001) (k : Nat) : ∀ (i : Nat) (u u' : Unit) (o : List D87) (Kx : (Unit × ((List D87) × ((List Int) × Unit))) → Option (D48 × D159)) (Q), l.length < i + k → i ≤ l.length →
    Wp (Kx ((), o, l, ())) Q → Wp (L17_0 N (sp15 N) (sp34 N) k (u, c, u', (l.length : Int), (i : Int), o, l.take i, ()) Kx) Q := by
  induction k with
  | zero => intro i u u' o Kx Q h1 h2; omega
  | succ k ih =>
    intro i u u' o Kx Q h1 h2 hK
    rw [L17_0]
    dsimp only
    have hc := (h.curve hl).1.2
    refine wq_condD.2 ⟨fun hi => ?_, fun hi => ?_⟩
    · refine wq_bind.2 ((tp34 N hN c (i : Int) hc).mono fun r hr => ?_)
      subst hr
      rw [h.at' hl i (by omega), wrap_succ (show i < l.length by omega) (by omega)]
      dsimp only
      refine wq_iteN.2 ⟨by simp; omega, ?_⟩
      rw [← take_rd l i (by omega)]
      exact ih (i + 1) _ _ o Kx Q (by omega) (by omega) hK
    · have : i = l.length := by omega
      subst this
      rw [List.take_length]
      exact hK

theorem tp17 (hN : 5000 ≤ N) {l : List Int} {c : D52} (h : OfOk l c) (hl : l.length ≤ 2001) {r0 : D48 × Unit} (h15 : sp15 N ((0 : Int), l, ()) = some r0) : Wp (sp17 N (c, ())) fun r => r = (r0.1, true, ()) := by
  obtain ⟨c1, c2, c3, c4, c5⟩ := h.curve hl
  have hp := h.npos
  have hm := h.max
  have hne : 0 < c.2.1.length := List.length_pos_iff.2 c4
  unfold sp17 F17
  dsimp only
  rw [wrap_id (n := c.1 + 1) (by omega) (by omega)]
  refine wq_condD.2 ⟨fun hh => by omega, fun _ => wq_condD.2 ⟨fun hh => by omega, fun _ => wq_condE.2 ⟨fun hh => by omega, fun _ => wq_condD.2 ⟨fun hh => by omega, fun _ => ?_⟩⟩⟩⟩
  refine wq_iteN.2 ⟨by omega, wq_iteN.2 ⟨by omega, wq_condM.2 ⟨fun hh => absurd c5 hh, fun _ => ?_⟩⟩⟩
  have e : c.1 + 1 = (l.length : Int) := by omega
  rw [e]
  have := tl17 N hN h hl N 0 () () [] (fun y4 => (sp15 N ((0 : Int), y4.2.2)).bind fun r5 => some (r5.1, true, ())) (fun r => r = (r0.1, true, ())) (by omega) (by omega)
    (wq_bind.2 (wq_of_eq h15 (wq_some.2 rfl)))
  exact this

theorem tl67 (gs : List D77) (hl : gs.length ≤ 2001) (k : Nat) : ∀ (i : Nat) (Kx : Unit → Option D159) (Q), gs.length < i + k → i ≤ gs.length → Wp (Kx ()) Q → Wp (L67_0 N k (gs, gs, (gs.length : Int), (i : Int), ()) Kx) Q := by
  induction k with
  | zero => intro i Kx Q h1 h2; omega
  | succ k ih =>
    intro i Kx Q h1 h2 hK
    rw [L67_0]
    dsimp only
    refine wq_condD.2 ⟨fun hi => ?_, fun _ => hK⟩
    rw [wrap_succ (show i < gs.length by omega) (by omega)]
    refine wq_iteN.2 ⟨by omega, wq_iteN.2 ⟨by omega, wq_iteN.2 ⟨by omega, wq_iteN.2 ⟨by omega, wq_cond.2 ⟨fun hh => ?_, fun _ => ih (i + 1) Kx Q (by omega) (by omega) hK⟩⟩⟩⟩⟩
    simp at hh

theorem tp47 (hN : 5000 ≤ N) (c : D52) (hl : c.2.1.length ≤ 2001) : Wp (sp47 N (c, c, ())) fun r => r = (true, ()) := by
  unfold sp47 F47 sp67 F67
  dsimp only
  refine wq_condE.2 ⟨fun _ => ?_, fun hh => absurd rfl hh⟩
  exact wq_bind.2 (wq_condM.2 ⟨fun hh => absurd rfl hh, fun _ => tl67 N c.2.1 hl N 0 _ _ (by omega) (by omega) (wq_some.2 (wq_some.2 rfl))⟩)

theorem tl38b (c : D52) (hl : c.2.1.length ≤ 2001) (k : Nat) : ∀ (i : Nat) (u u' : Unit) (Kx : Unit → Option D159) (Q), c.2.1.length < i + k → i ≤ c.2.1.length → Wp (Kx ()) Q → Wp (L38_0 N k (u, c, u', c, (c.2.1.length : Int), (i : Int), ()) Kx) Q := by
  induction k with
  | zero => intro i u u' Kx Q h1 h2; omega
  | succ k ih =>
    intro i u u' Kx Q h1 h2 hK
    rw [L38_0]
    dsimp only
    refine wq_condD.2 ⟨fun hi => ?_, fun _ => hK⟩
    rw [wrap_succ (show i < c.2.1.length by omega) (by omega)]
    refine wq_iteN.2 ⟨by omega, wq_iteN.2 ⟨by omega, wq_iteN.2 ⟨by omega, wq_iteN.2 ⟨by omega, wq_cond.2 ⟨fun hh => ?_, fun _ => ih (i + 1) _ _ Kx Q (by omega) (by omega) hK⟩⟩⟩⟩⟩
    simp at hh

theorem tp38b (hN : 5000 ≤ N) (c : D52) (hl : c.2.1.length ≤ 2001) : Wp (sp38 N (c, c, ())) fun r => r = (true, ()) := by
  unfold sp38 F38
  dsimp only
  refine wq_condM.2 ⟨fun hh => absurd rfl hh, fun _ => wq_condM.2 ⟨fun hh => absurd rfl hh, fun _ => ?_⟩⟩
  exact tl38b N c hl N 0 _ _ _ _ (by omega) (by omega) (wq_some.2 rfl)

theorem tp19 (hN : 5000 ≤ N) {l : List Int} {c : D52} (h : OfOk l c) (hl : l.length ≤ 2001) {r0 : D48 × Unit} (h15 : sp15 N ((0 : Int), l, ()) = some r0) (h16 : sp16 N r0 = some (c, true, ())) : Wp (sp19 N (c, ())) fun r => r = (true, ()) := by
  unfold sp19 F19
  dsimp only
  refine wq_bind.2 ((tp17 N hN h hl h15).mono fun r hr => ?_)
  subst hr
  dsimp only
  refine wq_condV.2 ⟨fun hh => (by cases hh), fun _ => wq_bind.2 (wq_of_eq h16 ?_)⟩
  dsimp only
  exact wq_cond.2 ⟨fun _ => wq_bind.2 ((tp47 N hN c (by have := (h.curve hl).2.1; omega)).mono fun r hr => wq_some.2 hr), fun hh => by cases hh⟩

end Go.Proofs.Ytkifmnocomadfaa
end

/- The reference's curve of numbers is the program's. -/
section
set_option linter.unusedVariables false
namespace Go.Proofs.Ytkifmnocomadfaa
open Go.V
variable (N : Nat)

theorem plat_val (l : List Int) : ∀ i, ∀ p ∈ plat l i, p.2 = rdAt (t := .int .i64) l p.1
  | 0, p, hp => by cases hp
  | i + 1, p, hp => by
    rw [plat] at hp
    rcases List.mem_append.1 hp with hp | hp
    · exact plat_val l i p hp
    · split at hp
      · simp only [List.mem_singleton] at hp; subst hp; rfl
      · cases hp

theorem OfOk.all {l : List Int} {c : D52} (h : OfOk l c) (q : Nat) (hq : q < l.length) : inB (rdAt (t := .int .i64) l (q : Int)) := by
  have ho := plat_ok l l.length (Nat.le_refl _)
  obtain ⟨T, hT⟩ := ho.head h.npos
  rw [← valP_plat l (rdAt (t := .int .i64) l 0) l.length (Nat.le_refl _) q hq]
  rcases valP_mem (q : Int) (plat l l.length) (rdAt (t := .int .i64) l 0) with h1 | ⟨p, hp, h1⟩
  · rw [h1]; exact h.vals ((0 : Int), rdAt (t := .int .i64) l 0) (by rw [hT]; exact List.mem_cons_self)
  · rw [h1]; exact h.vals p hp

theorem tl48b_0 {l : List Int} (hl : l.length ≤ 2001) (hv : ∀ q : Nat, q < l.length → inB (rdAt (t := .int .i64) l (q : Int))) (k : Nat) : ∀ (i : Nat) (u : Unit) (z : Int) (gs : List D77) (Kx : ((List Int) × (Unit × (Int × ((List D77) × ((List Int) × Unit))))) → Option (D52 × D159)) (Q), l.length < i + k → i ≤ l.length →
    Wp (Kx (l, (), z, gs, (plat l l.length).map (·.1), ())) Q → Wp (L48_0 N k (l, u, z, l, (l.length : Int), (i : Int), gs, (plat l i).map (·.1), ()) Kx) Q := by
  induction k with
  | zero => intro i u z gs Kx Q h1 h2; omega
  | succ k ih =>
    intro i u z gs Kx Q h1 h2 hK
    have hpl := (plat_ok l i h2).len
    have hpl' : ((plat l i).map (·.1)).length ≤ i := by simpa using hpl
    rw [L48_0]
    dsimp only
    refine wq_condD.2 ⟨fun hi => ?_, fun hi => ?_⟩
    · have hb := hv i (by omega)
      unfold inB at hb
      rw [wrap_succ (show i < l.length by omega) (by omega)]
      refine wq_iteN.2 ⟨by omega, wq_iteN.2 ⟨by omega, wq_condD.2 ⟨fun hh => absurd hh (Int.not_lt.2 hb.2), fun _ => wq_condD.2 ⟨fun hh => absurd hh (Int.not_lt.2 hb.1), fun _ => ?_⟩⟩⟩⟩
      refine wq_condE.2 ⟨fun h0 => wq_iteN.2 ⟨by omega, ?_⟩, fun h0 => ?_⟩
      · have h0 : i = 0 := by omega
        have e : (plat l (i + 1)).map (·.1) = (plat l i).map (·.1) ++ [(i : Int)] := by rw [plat, if_pos (.inl h0), List.map_append]; rfl
        rw [← e]
        exact ih (i + 1) _ z gs Kx Q (by omega) (by omega) hK
      · rw [wrap_id (n := (i : Int) - 1) (by omega) (by omega)]
        refine wq_iteN.2 ⟨by omega, wq_iteN.2 ⟨by omega, wq_condM.2 ⟨fun hne => wq_iteN.2 ⟨by omega, ?_⟩, fun he => ?_⟩⟩⟩
        · have e : (plat l (i + 1)).map (·.1) = (plat l i).map (·.1) ++ [(i : Int)] := by rw [plat, if_pos (.inr hne), List.map_append]; rfl
          rw [← e]
          exact ih (i + 1) _ z gs Kx Q (by omega) (by omega) hK
        · have e : (plat l (i + 1)) = plat l i := by
            rw [plat, if_neg, List.append_nil]
            rintro (h | h)
            · omega
            · exact h he
          rw [← e]
          exact ih (i + 1) _ z gs Kx Q (by omega) (by omega) hK
    · have : i = l.length := by omega
      subst this
      exact hK

theorem rd_map (P : List (Int × Int)) (i : Nat) (h : i < P.length) : rdAt (t := .int .i64) (P.map (·.1)) (i : Int) = (P[i]).1 := by
  rw [rdAt_at (t := .int .i64) _ _ (by simpa using h)]
  simp

structure PsOk (l : List Int) (P : List (Int × Int)) : Prop where
  len : P.length ≤ 2001
  ll : l.length ≤ 2001
  mem : ∀ p ∈ P, 0 ≤ p.1 ∧ p.1 < (l.length : Int) ∧ inB p.2 ∧ p.2 = rdAt (t := .int .i64) l p.1
  sorted : P.Pairwise fun a b => a.1 < b.1

theorem tl48b_2 {l : List Int} {P : List (Int × Int)} (hP : PsOk l P) (f v w r mx z : Int) (hw : 0 < w ∧ w ≤ 2001) (hf : 0 ≤ f ∧ f ≤ 2001) (hr : -4611686018427387904 ≤ r ∧ r ≤ 4611686018427387904) (gs out : List D77) (i : Nat) (k : Nat) : ∀ (c : Nat) (u u' u'' : Unit) (Kx : ((List Int) × (Unit × (Int × (Unit × (Int × (Int × (Unit × (D77 × ((List D77) × ((List Int) × ((List D77) × Unit))))))))))) → Option (D52 × D159)) (Q),
    2002 < c + k → (h2c : 2 ≤ c) → (hc : i + c ≤ P.length) → (P[i + c - 1]).1 = f + ((c : Int) - 1) * w →
    Wp (Kx (l, (), z, (), mx, (i : Int), (), (f, v, w, r, ((c + ext w r (P[i + c - 1]) (P.drop (i + c)) : Nat) : Int), ()), gs, P.map (·.1), out, ())) Q →
    Wp (L48_2 N k (l, u, z, u', mx, (i : Int), u'', (f, v, w, r, (c : Int), ()), gs, P.map (·.1), out, ()) Kx) Q := by
  induction k with
  | zero => intro c u u' u'' Kx Q h1 h2 h3; have := hP.len; omega
  | succ k ih =>
    intro c u u' u'' Kx Q h1 h2 h3 hinv hK
    have hl := hP.len
    have hll := hP.ll
    rw [L48_2]
    dsimp only
    have e1 : IntKind.i64.wrap ((i : Int) + (c : Int)) = ((i + c : Nat) : Int) := by rw [wrap_id] <;> omega
    have e2 : IntKind.i64.wrap (((i + c : Nat) : Int) - 1) = ((i + c - 1 : Nat) : Int) := by rw [wrap_id] <;> omega
    have e3 : IntKind.i64.wrap ((c : Int) + 1) = ((c + 1 : Nat) : Int) := by rw [wrap_id] <;> omega
    simp only [e1, e2, e3]
    have hml : ((P.map (·.1)).length : Int) = (P.length : Int) := by simp
    have ma := hP.mem _ (List.getElem_mem (show i + c - 1 < P.length by omega))
    have hcw : (c : Int) * w = ((c : Int) - 1) * w + w := by rw [Int.sub_mul]; omega
    generalize hX : ((c : Int) - 1) * w = X at hinv hcw
    rw [hcw, wrap_id (n := X + w) (by omega) (by omega), wrap_id (n := f + (X + w)) (by omega) (by omega)]
    rw [hml]
    refine wq_condD.2 ⟨fun hi => ?_, fun hi => ?_⟩
    · have hlt : i + c < P.length := by omega
      have mb := hP.mem _ (List.getElem_mem hlt)
      have hd : P.drop (i + c) = P[i + c] :: P.drop (i + (c + 1)) := by rw [List.drop_eq_getElem_cons hlt]; rfl
      rw [hd] at hK
      rw [rd_map P (i + c) hlt, rd_map P (i + c - 1) (by omega), ← mb.2.2.2, ← ma.2.2.2]
      obtain ⟨a, ha⟩ : ∃ a, P[i + c - 1] = a := ⟨_, rfl⟩
      obtain ⟨b, hb⟩ : ∃ b, P[i + c] = b := ⟨_, rfl⟩
      rw [ha] at ma hinv hK ⊢
      rw [hb] at mb hK ⊢
      obtain ⟨ma1, ma2, ma3, _⟩ := ma
      obtain ⟨mb1, mb2, mb3, _⟩ := mb
      unfold inB at ma3 mb3
      rw [wrap_id (n := a.2 + r) (by omega) (by omega)]
      have stop : ¬ (b.1 - a.1 = w ∧ b.2 - a.2 = r) → ext w r a (b :: P.drop (i + (c + 1))) = 0 := fun hn => by
        unfold ext
        exact if_neg hn
      refine wq_iteN.2 ⟨by omega, wq_iteN.2 ⟨by omega, wq_condE.2 ⟨fun hs => ?_, fun hs => ?_⟩⟩⟩
      · refine wq_iteN.2 ⟨by omega, wq_iteN.2 ⟨by omega, wq_iteN.2 ⟨by omega, wq_iteN.2 ⟨by omega, wq_iteN.2 ⟨by omega, wq_iteN.2 ⟨by omega, wq_iteN.2 ⟨by omega, wq_iteN.2 ⟨by omega, ?_⟩⟩⟩⟩⟩⟩⟩⟩
        refine wq_condE.2 ⟨fun hs2 => ?_, fun hs2 => ?_⟩
        · have go : ext w r a (b :: P.drop (i + (c + 1))) = ext w r b (P.drop (i + (c + 1))) + 1 := by
            conv => lhs; unfold ext
            exact if_pos ⟨by omega, by omega⟩
          rw [go] at hK
          have hidx : i + (c + 1) - 1 = i + c := by omega
          refine ih (c + 1) _ _ _ Kx Q (by omega) (by omega) (by omega) ?_ ?_
          · simp only [hidx, hb]
            have : ((c + 1 : Nat) : Int) - 1 = (c : Int) := by omega
            rw [this, hcw]
            exact hs
          · simp only [hidx, hb]
            have e5 : c + (ext w r b (P.drop (i + (c + 1))) + 1) = c + 1 + ext w r b (P.drop (i + (c + 1))) := by omega
            rw [e5] at hK
            exact hK
        · rw [stop fun hh => hs2 (by omega)] at hK
          exact hK
      · rw [stop fun hh => hs (by omega)] at hK
        exact hK
    · have : P.drop (i + c) = [] := by rw [List.drop_eq_nil_iff]; omega
      rw [this] at hK
      simpa [ext] using hK

theorem tl48b_1 (hN : 5000 ≤ N) {l : List Int} {P : List (Int × Int)} (hP : PsOk l P) (z mx : Int) (gs0 : List D77) (k : Nat) : ∀ (i : Nat) (u u' : Unit) (out gs : List D77) (Kx : (Unit × (Int × (Unit × (Int × ((List D77) × ((List D77) × Unit)))))) → Option (D52 × D159)) (Q),
    P.length < i + k → i ≤ P.length → out.length ≤ i → Grp (P.drop i) gs → Wp (Kx ((), z, (), mx, gs0, out ++ gs, ())) Q → Wp (L48_1 N k (l, u, z, u', mx, (i : Int), gs0, P.map (·.1), out, ()) Kx) Q := by
  induction k with
  | zero => intro i u u' out gs Kx Q h1 h2; omega
  | succ k ih =>
    intro i u u' out gs Kx Q h1 h2 ho hg hK
    have hl := hP.len
    have hll := hP.ll
    rw [L48_1]
    dsimp only
    have hml : ((P.map (·.1)).length : Int) = (P.length : Int) := by simp
    rw [hml]
    refine wq_condD.2 ⟨fun hi => ?_, fun hi => ?_⟩
    · have hlt : i < P.length := by omega
      have e1 : IntKind.i64.wrap ((i : Int) + 1) = ((i + 1 : Nat) : Int) := by rw [wrap_id] <;> omega
      simp only [e1]
      have ma := hP.mem _ (List.getElem_mem hlt)
      have hd : P.drop i = P[i] :: P.drop (i + 1) := List.drop_eq_getElem_cons hlt
      rw [hd] at hg
      rw [rd_map P i hlt, ← ma.2.2.2]
      obtain ⟨a, ha⟩ : ∃ a, P[i] = a := ⟨_, rfl⟩
      rw [ha] at ma hg ⊢
      obtain ⟨ma1, ma2, ma3, _⟩ := ma
      unfold inB at ma3
      refine wq_iteN.2 ⟨by omega, wq_iteN.2 ⟨by omega, wq_iteN.2 ⟨by omega, wq_iteN.2 ⟨by omega, wq_iteN.2 ⟨by omega, wq_iteN.2 ⟨by omega, ?_⟩⟩⟩⟩⟩⟩
      refine wq_condD.2 ⟨fun hi1 => ?_, fun hi1 => ?_⟩
      · have hlt1 : i + 1 < P.length := by omega
        have mb := hP.mem _ (List.getElem_mem hlt1)
        have hab := List.pairwise_iff_getElem.1 hP.sorted i (i + 1) hlt hlt1 (by omega)
        rw [ha] at hab
        have hd1 : P.drop (i + 1) = P[i + 1] :: P.drop (i + 2) := by rw [List.drop_eq_getElem_cons hlt1]
        rw [hd1] at hg
        rw [rd_map P (i + 1) hlt1, ← mb.2.2.2]
        obtain ⟨b, hb⟩ : ∃ b, P[i + 1] = b := ⟨_, rfl⟩
        rw [hb] at mb hab hg ⊢
        obtain ⟨mb1, mb2, mb3, _⟩ := mb
        unfold inB at mb3
        rw [wrap_id (n := b.1 - a.1) (by omega) (by omega), wrap_id (n := b.2 - a.2) (by omega) (by omega)]
        refine wq_iteN.2 ⟨by omega, wq_iteN.2 ⟨by omega, wq_iteN.2 ⟨by omega, wq_iteN.2 ⟨by omega, wq_iteN.2 ⟨by omega, wq_iteN.2 ⟨by omega, wq_iteN.2 ⟨by omega, wq_iteN.2 ⟨by omega, ?_⟩⟩⟩⟩⟩⟩⟩⟩
        cases hg with
        | more _ _ _ gs' hg' =>
          have hidx : i + 2 - 1 = i + 1 := by omega
          refine tl48b_2 N hP a.1 a.2 (b.1 - a.1) (b.2 - a.2) mx z ⟨by omega, by omega⟩ ⟨by omega, by omega⟩ ⟨by omega, by omega⟩ gs0 out i N 2 _ _ _ _ Q (by omega) (by omega) (by omega) ?_ ?_
          · simp only [hidx, hb]
            omega
          · simp only [hidx, hb]
            obtain ⟨m, hm⟩ : ∃ m, ext (b.1 - a.1) (b.2 - a.2) b (P.drop (i + 2)) = m := ⟨_, rfl⟩
            have hml2 : m ≤ P.length - (i + 2) := by
              rw [← hm]
              have := ext_le (b.1 - a.1) (b.2 - a.2) b (P.drop (i + 2))
              simpa using this
            rw [hm] at hg' hK ⊢
            have e5 : IntKind.i64.wrap ((i : Int) + ((2 + m : Nat) : Int)) = ((i + (2 + m) : Nat) : Int) := by rw [wrap_id] <;> omega
            rw [e5]
            refine wq_iteN.2 ⟨by omega, ih (i + (2 + m)) _ _ _ gs' Kx Q (by omega) (by omega) (by simp; omega) ?_ ?_⟩
            · rw [List.drop_drop] at hg'
              have e6 : i + (2 + m) = i + 2 + m := by omega
              rw [e6]
              exact hg'
            · rw [List.append_assoc]
              have e7 : ((2 + m : Nat) : Int) = (m : Int) + 2 := by omega
              rw [e7]
              exact hK
      · have hnil : P.drop (i + 1) = [] := by rw [List.drop_eq_nil_iff]; omega
        rw [hnil] at hg
        cases hg
        refine wq_iteN.2 ⟨by omega, ih (i + 1) _ _ _ [] Kx Q (by omega) (by omega) (by simp; omega) (by rw [hnil]; exact .nil) ?_⟩
        rw [List.append_nil]
        exact hK
    · have hnil : P.drop i = [] := by rw [List.drop_eq_nil_iff]; omega
      rw [hnil] at hg
      cases hg
      rw [List.append_nil] at hK
      exact hK

theorem OfOk.ps {l : List Int} {c : D52} (h : OfOk l c) (hl : l.length ≤ 2001) : PsOk l (plat l l.length) := by
  have ho := plat_ok l l.length (Nat.le_refl _)
  refine ⟨by have := ho.len; omega, hl, fun p hp => ?_, ho.sorted⟩
  have := ho.mem p hp
  exact ⟨this.1, this.2.1, h.vals p hp, plat_val l _ p hp⟩

theorem tp48b (hN : 5000 ≤ N) {l : List Int} {c : D52} (h : OfOk l c) (hl : l.length ≤ 2001) : Wp (sp48 N (l, ())) fun r => r = (c, true, ()) := by
  have hp := h.npos
  have hm := h.max
  unfold sp48 F48
  dsimp only
  refine wq_condE.2 ⟨fun hh => by omega, fun _ => wq_condD.2 ⟨fun hh => by omega, fun _ => ?_⟩⟩
  refine tl48b_0 N hl h.all N 0 _ _ _ _ _ (by omega) (by omega) ?_
  dsimp only
  rw [wrap_id (n := (l.length : Int) - 1) (by omega) (by omega)]
  refine tl48b_1 N hN (h.ps hl) 0 _ _ N 0 _ _ [] c.2.1 _ _ (by have := (h.ps hl).len; omega) (by omega) (Nat.le_refl _) (by rw [List.drop_zero]; exact h.grp) (wq_some.2 ?_)
  rw [← hm]
  rfl

theorem tl49 (hN : 5000 ≤ N) {l : List Int} {c : D52} (h : OfOk l c) (hl : l.length ≤ 2001) (k : Nat) : ∀ (i : Nat) (u : Unit) (Kx : ((List Int) × Unit) → Option ((List Int) × Unit)) (Q), l.length < i + k → i ≤ l.length →
    Wp (Kx (l, ())) Q → Wp (L49_0 N (sp26 N) k (u, c, (i : Int), l.take i, ()) Kx) Q := by
  induction k with
  | zero => intro i u Kx Q h1 h2; omega
  | succ k ih =>
    intro i u Kx Q h1 h2 hK
    have hm := h.max
    rw [L49_0]
    dsimp only
    refine wq_condD.2 ⟨fun hi => ?_, fun hi => ?_⟩
    · refine wq_bind.2 ((tp26 N hN c (i : Int) (by omega) (h.curve hl).1).mono fun r hr => ?_)
      subst hr
      rw [h.at' hl i (by omega), wrap_succ (show i < l.length by omega) (by omega)]
      dsimp only
      refine wq_iteN.2 ⟨by simp; omega, ?_⟩
      rw [← take_rd l i (by omega)]
      exact ih (i + 1) _ Kx Q (by omega) (by omega) hK
    · have : i = l.length := by omega
      subst this
      rw [List.take_length]
      exact hK

theorem tl20 {c : D52} (hc : c.2.1.length ≤ 2001) (hg : ∀ g ∈ c.2.1, 0 ≤ g.1 ∧ g.1 ≤ c.1) (g38 : (D52 × (D52 × Unit)) → Option D159) (g48 : ((List Int) × Unit) → Option (D52 × D159)) (g49 : (D52 × Unit) → Option ((List Int) × Unit)) (k : Nat) : ∀ (i : Nat) (u : Unit) (Kx : (Unit × (D52 × Unit)) → Option D159) (Q), c.2.1.length < i + k → i ≤ c.2.1.length →
    Wp (Kx ((), c, ())) Q → Wp (L20_0 N g38 g48 g49 k (u, c, c.2.1, (c.2.1.length : Int), (i : Int), ()) Kx) Q := by
  induction k with
  | zero => intro i u Kx Q h1 h2; omega
  | succ k ih =>
    intro i u Kx Q h1 h2 hK
    rw [L20_0]
    dsimp only
    refine wq_condD.2 ⟨fun hi => ?_, fun _ => hK⟩
    have hgi := hg _ (rdAt_mem (t := t77) c.2.1 (i : Int) (by omega) hi)
    rw [wrap_succ (show i < c.2.1.length by omega) (by omega)]
    refine wq_iteN.2 ⟨by omega, wq_iteN.2 ⟨by omega, wq_condD.2 ⟨fun hh => ?_, fun _ => wq_condD.2 ⟨fun hh => ?_, fun _ => ih (i + 1) _ Kx Q (by omega) (by omega) hK⟩⟩⟩⟩
    · exact absurd hgi.1 (by omega)
    · exact absurd hgi.2 (by omega)

theorem tp20 (hN : 5000 ≤ N) {l : List Int} {c : D52} (h : OfOk l c) (hl : l.length ≤ 2001) : Wp (sp20 N (c, ())) fun r => r = (true, ()) := by
  obtain ⟨c1, c2, c3, c4, c5⟩ := h.curve hl
  have hp := h.npos
  have hm := h.max
  have hne : 0 < c.2.1.length := List.length_pos_iff.2 c4
  unfold sp20 F20
  dsimp only
  rw [wrap_id (n := c.1 + 1) (by omega) (by omega)]
  refine wq_condD.2 ⟨fun hh => by omega, fun _ => wq_condD.2 ⟨fun hh => by omega, fun _ => wq_condE.2 ⟨fun hh => by omega, fun _ => wq_condD.2 ⟨fun hh => by omega, fun _ => ?_⟩⟩⟩⟩
  refine wq_iteN.2 ⟨by omega, wq_iteN.2 ⟨by omega, wq_condM.2 ⟨fun hh => absurd c5 hh, fun _ => ?_⟩⟩⟩
  refine tl20 N (by omega) (fun g hg => by have := c3 g hg; omega) _ _ _ N 0 _ _ _ (by omega) (by omega) ?_
  dsimp only
  unfold sp49 F49
  refine wq_bind.2 ?_
  refine tl49 N hN h hl N 0 _ _ _ (by omega) (by omega) (wq_some.2 ?_)
  refine wq_bind.2 ((tp48b N hN h hl).mono fun r hr => ?_)
  subst hr
  dsimp only
  exact wq_cond.2 ⟨fun _ => wq_bind.2 ((tp38b N hN c (by omega)).mono fun r hr => wq_some.2 hr), fun hh => by cases hh⟩

end Go.Proofs.Ytkifmnocomadfaa
end
