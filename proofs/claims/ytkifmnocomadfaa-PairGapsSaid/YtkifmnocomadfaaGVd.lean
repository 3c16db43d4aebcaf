/- What is carried from round to round: taken out of one state, put into a bare one. -/
import Derived.Test.YtkifmnocomadfaaGVc
namespace Go.V
open Go.RowKit

variable {P : Program} {E : Env} {w0 : Org} {g g' : Gh} {σ τ : St} {a : Act} {w : World}

theorem Rel.notFr (h : Rel w0 g σ a w) {b : Nat} (hb : some b ∈ g.β) : ¬ g.Fr b := by
  obtain ⟨i, hi, he⟩ := List.getElem_of_mem hb
  have hi' : i < σ.bx.length := by rw [h.bxn]; exact hi
  have hg : g.β[i]? = some (some b) := by rw [List.getElem?_eq_getElem hi, he]
  obtain ⟨b', vs, h1, _, _, _, h5⟩ := h.bx i (σ.bx[i].1) (σ.bx[i].2) (by simp [hi']) (by rw [hg]; simp)
  rw [hg] at h1
  cases h1
  exact h5

theorem Rel.know (h : Rel w0 g σ a w) {t : Nat} {p : PV} (hp : RelPV g w p (a.tmps.getD t undef)) : Rel w0 g (σ.put (some t) p) a w := by
  refine ⟨h.base, h.below, h.lt, fun k => ?_, ?_, h.dfr, h.bxn, h.bx, h.nodup, h.arn, h.ar, h.apart, h.oth⟩
  · rw [put_raw]
    by_cases h1 : some t = some k ∧ k < σ.n ∧ k < σ.tm.length
    · rw [if_pos h1]
      have : t = k := by simpa using h1.1
      subst this
      have hk : t < a.tmps.size := by rw [← h.tmn]; exact h1.2.1
      have e : (a.tmps.toList ++ w0.out).getD t undef = a.tmps.getD t undef := by simp [List.getElem?_append, hk]
      rw [e]
      exact hp
    · rw [if_neg h1]; exact h.tm k
  · rw [put_n]; exact h.tmn

theorem Rel.knowBox (h : Rel w0 g σ a w) {i : Nat} {t : TypeId} {cs cs' : List Cl} (hi : σ.bx[i]? = some (t, cs)) (hc : ∀ b vs, g.β[i]? = some (some b) → w.heap[b]? = some (.cells vs t (0, 0)) → RelCls g w cs vs.toList → RelCls g w cs' vs.toList) :
    Rel w0 g { tm := σ.tm, bx := σ.bx.set i (t, cs'), ar := σ.ar, n := σ.n } a w := by
  have hi' : i < σ.bx.length := (List.getElem?_eq_some_iff.1 hi).1
  refine ⟨h.base, h.below, h.lt, h.tm, h.tmn, h.dfr, by simp [h.bxn], ?_, h.nodup, h.arn, h.ar, h.apart, h.oth⟩
  intro k t' ds hk hh
  by_cases hik : i = k
  · subst hik
    rw [List.getElem?_set_self hi'] at hk
    cases hk
    obtain ⟨b, vs, h1, h2, h3, h4, h5⟩ := h.bx i t cs hi hh
    exact ⟨b, vs, h1, h2, hc b vs h1 h2 h3, h4, h5⟩
  · rw [List.getElem?_set_ne hik] at hk
    exact h.bx k t' ds hk hh

theorem Rel.refr (h : Rel w0 g τ a w) (ha : τ.ar = []) (Fr' : Nat → Prop) (hF : ∀ b, g.Fr b → Fr' b) (hl : ∀ b, Fr' b → b < w.heap.size) (hβ : ∀ b, some b ∈ g.β → ¬ Fr' b) (h0 : ∀ b, Fr' b → w0.F0 b ∨ g.base ≤ b) : Rel w0 { g with Fr := Fr' } τ a w := by
  have hle : g.le { g with Fr := Fr' } w w := ⟨rfl, fun _ _ h => h, fun _ _ h => h, hF, fun _ _ => rfl⟩
  refine ⟨h.base, h.below, hl, fun t => (h.tm t).mono hle, h.tmn, ⟨h.dfr.1, h0⟩, h.bxn, ?_, h.nodup, h.arn, ?_, h.apart, h.oth⟩
  · intro i t cs hi hh
    obtain ⟨b, vs, h1, h2, h3, h4, _⟩ := h.bx i t cs hi hh
    exact ⟨b, vs, h1, h2, h3.mono hle, h4, hβ b (List.mem_of_getElem? h1)⟩
  · intro j A hA
    rw [ha] at hA
    simp at hA

theorem RelCls.junks : ∀ {vs : List Value}, (∀ v ∈ vs, v.oneCell' = true) → RelCls g w (List.replicate vs.length .junk) vs
  | [], _ => rfl
  | v :: vs, h => ⟨v, vs, rfl, h v (by simp), RelCls.junks fun u hu => h u (by simp [hu])⟩

theorem boxesFit_get : ∀ (ts : List TypeId) (bx : List (TypeId × List Cl)), boxesFit E ts bx = true → ts.length ≤ bx.length ∧ ∀ (i : Nat) (t : TypeId), ts[i]? = some t → ∃ cs, bx[i]? = some (t, cs) ∧ cs.length = (match look E.ty t with | some ty => ty.size | none => 1)
  | [], bx, _ => ⟨Nat.zero_le _, fun i t h => by simp at h⟩
  | _ :: _, [], h => by simp [boxesFit] at h
  | t :: ts, (t', cs) :: bx, h => by
    simp only [boxesFit, Bool.and_eq_true, beq_iff_eq] at h
    obtain ⟨⟨rfl, h2⟩, h3⟩ := h
    obtain ⟨i1, i2⟩ := boxesFit_get ts bx h3
    refine ⟨by simpa using i1, fun i u hu => ?_⟩
    cases i with
    | zero =>
      simp only [List.getElem?_cons_zero, Option.some.injEq] at hu
      subst hu
      exact ⟨cs, rfl, h2⟩
    | succ i => simpa using i2 i u (by simpa using hu)

theorem bare_rel (h : Rel w0 g σ a w) {n : Nat} {ts : List TypeId} (hn : n = σ.n) (hb : boxesFit E ts σ.bx = true) : Rel w0 { base := g.base, β := g.β.take ts.length, α := [], Fr := g.Fr } (bare E n ts) a w := by
  obtain ⟨b1, b2⟩ := boxesFit_get ts σ.bx hb
  have take : ∀ (i : Nat) x, (g.β.take ts.length)[i]? = some x → g.β[i]? = some x ∧ i < ts.length := fun i x hi => by
    rw [List.getElem?_take] at hi
    split at hi
    · rename_i hlt; exact ⟨hi, hlt⟩
    · cases hi
  refine ⟨h.base, h.below, h.lt, fun t => ?_, ?_, h.dfr, ?_, ?_, ?_, rfl, ?_, ?_, h.oth⟩
  · have : (bare E n ts).raw t = .junk := by
      simp only [bare, St.raw]
      by_cases ht : t < n
      · simp [ht]
      · simp [ht]
    rw [this]
    exact .inl rfl
  · exact hn.trans h.tmn
  · simp only [bare, List.length_map, List.length_take]
    rw [← h.bxn]
    omega
  · intro i t cs hi hh
    simp only [bare, List.getElem?_map, Option.map_eq_some_iff] at hi
    obtain ⟨t', ht, he⟩ := hi
    cases he
    obtain ⟨cs', h1, h2⟩ := b2 i t ht
    have hlt : i < ts.length := (List.getElem?_eq_some_iff.1 ht).1
    have hti : (g.β.take ts.length)[i]? = g.β[i]? := by rw [List.getElem?_take, if_pos hlt]
    obtain ⟨b, vs, h3, h4, h5, h6, h7⟩ := h.bx i t cs' h1 (by rw [← hti]; exact hh)
    refine ⟨b, vs, by rw [hti]; exact h3, h4, ?_, h6, h7⟩
    have hl := h5.length
    have := RelCls.junks (g := { base := g.base, β := g.β.take ts.length, α := [], Fr := g.Fr }) (w := w) h5.oneCell
    rw [hl, h2] at this
    exact this
  · intro i k b hi hk
    exact h.nodup i k b (take i _ hi).1 (take k _ hk).1
  · intro j A hA
    simp [bare] at hA
  · intro j k A B v u s s' b _ hA
    simp [bare] at hA

end Go.V

/- Taking out and putting in, together. -/
namespace Go.V
open Go.RowKit

variable {P : Program} {E : Env} {w0 : Org} {g g' : Gh} {σ τ : St} {a : Act} {w : World}

def Taken (g h : Gh) (σ τ : St) (T : List Nat) : Prop :=
  ∀ (k : Nat) (A : Arr) (u : Value) (s b : Nat), τ.ar[k]? = some A → A.live = true → h.α[k]? = some (u, s) → u.ownBlock = some b → ∃ (j : Nat) (B : Arr) (s' : Nat), j ∈ T ∧ σ.ar[j]? = some B ∧ B.live = true ∧ g.α[j]? = some (u, s')

theorem takeOwn_rel {h : Gh} (hσ : Rel w0 g σ a w) (hτ : Rel w0 h τ a w) (hb : h.base = g.base) (hF : h.Fr = g.Fr) (hβ : ∀ b, some b ∈ h.β → some b ∈ g.β) {T T' : List Nat} (hT : Taken g h σ τ T) {c : Cl} {v : Value} {e : TypeId} {ty : Ty} {xs : List ty.den}
    (hc : RelCl g w c v) (ht : takeOwn σ T c e ty = some (xs, T')) :
    ∃ h' : Gh, Rel w0 h' { tm := τ.tm, bx := τ.bx, ar := τ.ar ++ [{ e, t := ty, xs, live := true }], n := τ.n } a w ∧ RelCl h' w (.own τ.ar.length) v ∧ h'.base = g.base ∧ h'.Fr = g.Fr ∧ h'.β = h.β ∧ Taken g h' σ { tm := τ.tm, bx := τ.bx, ar := τ.ar ++ [{ e, t := ty, xs, live := true }], n := τ.n } T' ∧ h'.α = h.α ++ [(v, ty.size)] := by
  have mk : ∀ (A : Arr), A = { e, t := ty, xs, live := true } → v.oneCell' = true → (∃ cells, w.ownsRow h.base A.e A.t.size v A.xs.length cells ∧ RepRow h.Fr w A.t A.xs cells) →
      (∀ b, v.ownBlock = some b → ¬ h.Fr b ∧ some b ∉ h.β ∧ ∀ (j : Nat) (B : Arr) (u : Value) (s : Nat), τ.ar[j]? = some B → B.live = true → h.α[j]? = some (u, s) → u.ownBlock ≠ some b) → (∀ j, j ∈ T → j ∈ T') →
      (∀ b, v.ownBlock = some b → ∃ (j : Nat) (B : Arr) (s' : Nat), j ∈ T' ∧ σ.ar[j]? = some B ∧ B.live = true ∧ g.α[j]? = some (v, s')) →
      ∃ h' : Gh, Rel w0 h' { tm := τ.tm, bx := τ.bx, ar := τ.ar ++ [{ e, t := ty, xs, live := true }], n := τ.n } a w ∧ RelCl h' w (.own τ.ar.length) v ∧ h'.base = g.base ∧ h'.Fr = g.Fr ∧ h'.β = h.β ∧ Taken g h' σ { tm := τ.tm, bx := τ.bx, ar := τ.ar ++ [{ e, t := ty, xs, live := true }], n := τ.n } T' ∧ h'.α = h.α ++ [(v, ty.size)] := by
    rintro A rfl h1 ⟨cells, h2, h3⟩ h4 h5 h6
    obtain ⟨r1, r2⟩ := hτ.newArr (A := { e, t := ty, xs, live := true }) h1 rfl h2 h3 h4
    refine ⟨_, r1, r2, hb, hF, rfl, ?_, rfl⟩
    intro k B u s b hB hl hu hbk
    dsimp only at hB hu
    rw [List.getElem?_append] at hB
    split at hB
    · rename_i hlt
      rw [List.getElem?_append_left (by rw [← hτ.arn]; exact hlt)] at hu
      obtain ⟨j, B', s', j1, j2, j3, j4⟩ := hT k B u s b hB hl hu hbk
      exact ⟨j, B', s', h5 j j1, j2, j3, j4⟩
    · rename_i hge
      have hk : k = τ.ar.length := by
        rcases Nat.eq_zero_or_pos (k - τ.ar.length) with h' | h'
        · omega
        · rw [List.getElem?_eq_none (by simp; omega)] at hB; cases hB
      rw [hk, hτ.arn] at hu
      simp at hu
      obtain ⟨rfl, _⟩ := hu
      exact h6 b hbk
  unfold takeOwn at ht
  split at ht
  · rename_i e' t
    split at ht
    · rename_i he
      obtain ⟨rfl, rfl⟩ := he
      cases ht
      have hv : v = .slice none 0 0 := hc
      subst hv
      exact mk _ rfl rfl ⟨[], ⟨by simp, .inl ⟨rfl, rfl⟩⟩, fun i x hx => by simp at hx⟩ (fun b hb => by cases hb) (fun _ h => h) (fun b hb => by cases hb)
    · cases ht
  · rename_i j
    split at ht
    · rename_i A hA
      split at ht
      · rename_i hh
        obtain ⟨hl, rfl, rfl, hnT⟩ := hh
        cases ht
        obtain ⟨s, h1, h2⟩ := hc
        obtain ⟨v', h3, h4⟩ := hσ.ar j A hA
        rw [h1] at h3
        cases h3
        obtain ⟨cells, h5, h6, h7⟩ := h4.own hl
        refine mk _ rfl h2 ⟨cells, by rw [hb]; exact h5, by rw [hF]; exact h6⟩ (fun b hbk => ?_) (fun j' hj' => List.mem_cons_of_mem _ hj') (fun b hbk => ⟨j, A, _, List.mem_cons_self, hA, hl, h1⟩)
        obtain ⟨h8, h9⟩ := h7 b hbk
        refine ⟨by rw [hF]; exact h8, fun hm => h9 (hβ b hm), fun k B u s hB hBl hu he => ?_⟩
        obtain ⟨j', B', s', j1, j2, j3, j4⟩ := hT k B u s b hB hBl hu he
        have hne : j ≠ j' := fun e => by
          subst e
          have : T.contains j = true := by simpa using j1
          rw [hnT] at this
          cases this
        exact hσ.apart j j' A B' v u _ _ b hne hA j2 hl j3 h1 j4 hbk he
      · cases ht
    · cases ht
  · cases ht

theorem splice_same (vs us : List Value) (off : Nat) (h : us = (vs.drop off).take us.length) : vs.take off ++ us ++ vs.drop (off + us.length) = vs := by
  have h1 : vs.drop (off + us.length) = (vs.drop off).drop us.length := by rw [List.drop_drop]
  rw [h1, List.append_assoc]
  conv => lhs; rhs; lhs; rw [h]
  rw [List.take_append_drop, List.take_append_drop]

theorem RelCls.over {old c : List Cl} {vs us : List Value} {off : Nat} (h1 : RelCls g w old vs) (h2 : RelCls g w c us) (h3 : us = (vs.drop off).take us.length) :
    RelCls g w (V.setRange old off c) vs := by
  have := RelCls.setRange (o := off) h1 h2
  rwa [splice_same _ _ _ h3] at this

theorem takeOwn_some (hσ : Rel w0 g σ a w) {T T' : List Nat} {c : Cl} {e : TypeId} {ty : Ty} {xs : List ty.den} (ht : takeOwn σ T c e ty = some (xs, T')) : c ≠ Cl.junk ∧ (∃ v, RelCl g w c v) := by
  unfold takeOwn at ht
  split at ht
  · exact ⟨by simp, Value.slice none 0 0, rfl⟩
  · rename_i j
    split at ht
    · rename_i A hA
      obtain ⟨v, h1, h2⟩ := hσ.ar j A hA
      exact ⟨by simp, v, _, h1, h2.one⟩
    · cases ht
  · cases ht

theorem fillBox {h : Gh} (hσ : Rel w0 g σ a w) (hτ : Rel w0 h τ a w) (hβ : ∃ m, h.β = g.β.take m) {i off : Nat} {t : TypeId} {cs c : List Cl} (hi : σ.bx[i]? = some (t, cs))
    (hc : ∀ b vs, g.β[i]? = some (some b) → w.heap[b]? = some (.cells vs t (0, 0)) → RelCls g w cs vs.toList → ∃ us, RelCls h w c us ∧ us = (vs.toList.drop off).take us.length) : Rel w0 h (setBox τ i off c) a w := by
  unfold setBox
  split
  · rename_i t' old ho
    refine hτ.knowBox ho fun b vs h1 h2 h3 => ?_
    obtain ⟨m, hm⟩ := hβ
    have hg : g.β[i]? = some (some b) := by
      rw [hm, List.getElem?_take] at h1
      split at h1
      · exact h1
      · cases h1
    obtain ⟨b', vs', h4, h5, h6, _⟩ := hσ.bx i t cs hi (by rw [hg]; simp)
    rw [hg] at h4
    cases h4
    rw [h2] at h5
    cases h5
    obtain ⟨us, h7, h8⟩ := hc b vs hg h2 h6
    exact h3.over h7 h8
  · exact hτ

theorem takeOwns_rel (hσ : Rel w0 g σ a w) : ∀ (l : List Item) {h : Gh} {τ : St} (T : List Nat) (x : (tyOf l).den), Rel w0 h τ a w → h.base = g.base → h.Fr = g.Fr → (∃ m, h.β = g.β.take m) → Taken g h σ τ T → takeOwns l σ T = some x →
    ∃ h' : Gh, Rel w0 h' (fillIn l x τ) a w ∧ h'.base = g.base
  | [], h, τ, T, x, hτ, hb, _, _, _, _ => ⟨h, hτ, hb⟩
  | .tm t ty :: r, h, τ, T, x, hτ, hb, hF, hβ, hT, ht => by simp [takeOwns] at ht
  | .bx i off ty :: r, h, τ, T, x, hτ, hb, hF, hβ, hT, ht => by simp [takeOwns] at ht
  | .ptr t i off :: r, h, τ, T, x, hτ, hb, hF, hβ, hT, ht => by simp [takeOwns] at ht
  | .ownT t e ty :: r, h, τ, T, x, hτ, hb, hF, ⟨m, hβ⟩, hT, ht => by
    simp only [takeOwns] at ht
    have hm : ∀ b, some b ∈ h.β → some b ∈ g.β := fun b hb => by rw [hβ] at hb; exact List.mem_of_mem_take hb
    split at ht
    · rename_i c hc
      split at ht
      · rename_i xs T' ho
        split at ht
        · rename_i y hy
          cases ht
          have hv := hσ.get t
          rw [hc] at hv
          have hv : RelCl g w c (a.tmps.getD t undef) := hv.elim (fun e => by subst e; simp [takeOwn] at ho) id
          obtain ⟨h', r1, r2, r3, r4, r5, r6, _⟩ := takeOwn_rel hσ hτ hb hF hm hT hv ho
          exact takeOwns_rel hσ r T' y (r1.know (RelPV.cl r2)) r3 r4 ⟨m, r5.trans hβ⟩ r6 hy
        · cases ht
      · cases ht
    · cases ht
  | .ownB i off e ty :: r, h, τ, T, x, hτ, hb, hF, ⟨m, hβ⟩, hT, ht => by
    simp only [takeOwns] at ht
    have hm : ∀ b, some b ∈ h.β → some b ∈ g.β := fun b hb => by rw [hβ] at hb; exact List.mem_of_mem_take hb
    split at ht
    · rename_i t cs hi
      split at ht
      · rename_i xs T' ho
        split at ht
        · rename_i y hy
          cases ht
          obtain ⟨hcj, v0, hv0⟩ := takeOwn_some hσ ho
          have hv : ∃ v, RelCl g w (cs.getD off .junk) v ∧ ∀ b vs, g.β[i]? = some (some b) → w.heap[b]? = some (.cells vs t (0, 0)) → RelCls g w cs vs.toList → [v] = (vs.toList.drop off).take 1 := by
            by_cases hg : ∃ b, g.β[i]? = some (some b)
            · obtain ⟨b, hg⟩ := hg
              obtain ⟨b', vs, h4, h5, h6, _⟩ := hσ.bx i t cs hi (by rw [hg]; simp)
              rw [hg] at h4
              cases h4
              have hlt : off < cs.length := by
                rcases Nat.lt_or_ge off cs.length with h' | h'
                · exact h'
                · exact absurd (by simp [List.getElem?_eq_none h']) hcj
              obtain ⟨v, h7, h8⟩ := h6.get off (cs.getD off .junk) (by simp [hlt])
              refine ⟨v, h8, fun b2 vs2 h9 h10 _ => ?_⟩
              rw [hg] at h9
              cases h9
              rw [h5] at h10
              cases h10
              obtain ⟨hl, h11⟩ := List.getElem?_eq_some_iff.1 h7
              rw [List.drop_eq_getElem_cons hl, h11]
              rfl
            · exact ⟨v0, hv0, fun b vs h1 => absurd ⟨b, h1⟩ hg⟩
          obtain ⟨v, hv, hv2⟩ := hv
          obtain ⟨h', r1, r2, r3, r4, r5, r6, _⟩ := takeOwn_rel hσ hτ hb hF hm hT hv ho
          refine takeOwns_rel hσ r T' y (fillBox hσ r1 ⟨m, r5.trans hβ⟩ hi fun b vs h1 h2 h3 => ⟨[v], ⟨v, [], rfl, r2, rfl⟩, hv2 b vs h1 h2 h3⟩) r3 r4 ⟨m, r5.trans hβ⟩ ?_ hy
          intro k A u s b hA
          refine r6 k A u s b ?_
          rw [← hA]
          unfold setBox
          split <;> rfl
        · cases ht
      · cases ht
    · cases ht

end Go.V

/- The values taken out, and the whole. -/
namespace Go.V
open Go.RowKit

variable {P : Program} {E : Env} {w0 : Org} {g g' : Gh} {σ τ : St} {a : Act} {w : World}

theorem pvOf_cells {t : Ty} {x : t.den} {p : PV} {v : Value} (hp : p.ok = true) (hr : RelPV g w p v) (ha : p.isAgg = t.agg) (hx : RepV g'.Fr w t x v.cells.toList) : RelPV g' w (pvOf t x) v := by
  refine pvOf_rel ?_
  unfold ValOk
  rw [← ha]
  cases p with
  | one c =>
    have hc : RelCl g w c v := hr.elim (fun e => by subst e; cases hp) id
    have : v.cells = #[v] := by
      have := hc.oneCell
      cases v <;> first | rfl | cases this
    rw [this] at hx
    simpa [PV.isAgg] using hx
  | agg cs =>
    obtain ⟨vs, rfl, h1⟩ := hr
    simp only [PV.isAgg, if_true]
    exact ⟨vs, rfl, by simpa [Value.cells] using hx⟩
  | tup vs => cases hp
  | skip => cases hp

theorem refr_of {h : Gh} {Fr' : Nat → Prop} (hσ : Rel w0 { g with Fr := Fr' } σ a w) (hτ : Rel w0 h τ a w) (ha : τ.ar = []) (hF : ∀ b, h.Fr b → Fr' b) (hβ : ∃ m, h.β = g.β.take m) : Rel w0 { h with Fr := Fr' } τ a w := by
  obtain ⟨m, hm⟩ := hβ
  exact hτ.refr ha Fr' hF hσ.lt (fun b hb => hσ.notFr (by rw [hm] at hb; exact List.mem_of_mem_take hb)) fun b hb => by rw [hτ.base]; exact hσ.base ▸ hσ.dfr.2 b hb

theorem takeOut_rel (m : Nat) : ∀ (l : List Item) {g h : Gh} {σ τ : St} (x : (tyOf l).den), Rel w0 g σ a w → Rel w0 h τ a w → h.base = g.base → h.Fr = g.Fr → h.β = g.β.take m → τ.ar = [] → takeOut m l σ = some x →
    ∃ h' : Gh, Rel w0 h' (fillIn l x τ) a w ∧ h'.base = g.base
  | [], g, h, σ, τ, x, hσ, hτ, hb, _, _, _, _ => ⟨h, hτ, hb⟩
  | .ownT t e ty :: r, g, h, σ, τ, x, hσ, hτ, hb, hF, hβ, ha, ht => takeOwns_rel hσ _ [] x hτ hb hF ⟨m, hβ⟩ (fun k A u s b hA => by rw [ha] at hA; simp at hA) ht
  | .ownB i off e ty :: r, g, h, σ, τ, x, hσ, hτ, hb, hF, hβ, ha, ht => takeOwns_rel hσ _ [] x hτ hb hF ⟨m, hβ⟩ (fun k A u s b hA => by rw [ha] at hA; simp at hA) ht
  | .ptr t i off :: r, g, h, σ, τ, x, hσ, hτ, hb, hF, hβ, ha, ht => by
    simp only [takeOut] at ht
    split at ht
    · rename_i i' off' hp
      split at ht
      · rename_i he
        obtain ⟨rfl, rfl, him⟩ := he
        split at ht
        · rename_i y hy
          cases ht
          have hv := hσ.get t
          rw [hp] at hv
          obtain ⟨b, h1, h2⟩ := hv.ptr
          have hk : Rel w0 h (τ.put (some t) (.one (.ptr (.box i' off')))) a w := hτ.know (.inr ⟨b, by rw [hβ, List.getElem?_take, if_pos him]; exact h1, h2⟩)
          exact takeOut_rel m r y hσ hk hb hF hβ ha hy
        · cases ht
      · cases ht
    · cases ht
  | .tm t ty :: r, g, h, σ, τ, x, hσ, hτ, hb, hF, hβ, ha, ht => by
    simp only [takeOut] at ht
    split at ht
    · rename_i x0 hx0
      split at ht
      · rename_i hok
        simp only [Bool.and_eq_true, beq_iff_eq] at hok
        split at ht
        · rename_i y hy
          cases ht
          obtain ⟨F1, f1, hle, h1, d1, _⟩ := hσ.settle (σ.get t).cells
          have hv := hσ.get t
          have hrep := unflat_all hx0 (d1 _ (hv.cells hok.1))
          have hτ' := refr_of h1 hτ ha (fun b hb' => f1 b (hF ▸ hb')) ⟨m, hβ⟩
          have hpv : RelPV { h with Fr := F1 } w (pvOf ty x0) (a.tmps.getD t undef) := pvOf_cells (g := g) hok.1 hv hok.2 hrep
          exact takeOut_rel m r (g := { g with Fr := F1 }) (h := { h with Fr := F1 }) y h1 (hτ'.know hpv) hb rfl hβ ha hy
        · cases ht
      · cases ht
    · cases ht
  | .bx i off ty :: r, g, h, σ, τ, x, hσ, hτ, hb, hF, hβ, ha, ht => by
    simp only [takeOut] at ht
    split at ht
    · rename_i t cs hi
      split at ht
      · rename_i x0 hx0
        split at ht
        · split at ht
          · rename_i y hy
            cases ht
            obtain ⟨F1, f1, hle, h1, d1, _⟩ := hσ.settle ((cs.drop off).take ty.size)
            have hτ' := refr_of h1 hτ ha (fun b hb' => f1 b (hF ▸ hb')) ⟨m, hβ⟩
            have hfill : Rel w0 { h with Fr := F1 } (setBox τ i off (flat ty x0)) a w := fillBox hσ hτ' ⟨m, hβ⟩ hi fun b vs h3 h4 h5 => by
              have hrep := unflat_all hx0 (d1 _ (h5.cut off ty.size))
              have hl := RepV.length _ _ _ hrep
              exact ⟨(vs.toList.drop off).take ty.size, RepV.flat (g := { h with Fr := F1 }) _ _ _ hrep, by rw [hl]⟩
            refine takeOut_rel m r (g := { g with Fr := F1 }) (h := { h with Fr := F1 }) y h1 hfill hb rfl hβ ?_ hy
            unfold setBox
            split <;> exact ha
          · cases ht
        · cases ht
      · cases ht
    · cases ht

theorem extract_sound {n : Nat} {s : Shape} {x : (tyOf s.items).den} (h : Rel w0 g σ a w) (hx : extract E n s σ = some x) : ∃ g', Rel w0 g' (inject E n s x) a w ∧ g'.base = g.base := by
  unfold extract at hx
  split at hx
  · rename_i hc
    simp only [Bool.and_eq_true, Nat.beq_eq] at hc
    have hb := bare_rel h hc.1 hc.2
    exact takeOut_rel s.boxes.length s.items x h hb rfl rfl rfl rfl hx
  · cases hx

end Go.V

/- Operations that change no memory: what they answer, and on what it hangs. -/
namespace Go.V
open Go.RowKit

variable {R : Type}

theorem freezes_id (σ : St) : ∀ (cs : List Cl), noOwn cs = true → cs.foldl freezeJ σ = σ
  | [], _ => rfl
  | c :: cs, h => by
    simp only [noOwn, List.all_cons, Bool.and_eq_true] at h
    have : freezeJ σ c = σ := by cases c <;> first | rfl | (simp at h)
    rw [List.foldl_cons, this]
    exact freezes_id σ cs h.2

theorem noOwn_freeze (σ : St) (c : Cl) (h : noOwn [c] = true) : freezeJ σ c = σ := by
  cases c <;> first | rfl | (simp [noOwn] at h)

theorem evOp_val {E : Env} {o : Oper} {σ : St} (hk : kind E o σ = .q) (K : St → Option R) : evOp E o σ K = evVal E o σ fun v => K (σ.put o.dst v) := by
  cases ho : o.op with
  | buildSlice t n parts =>
    simp only [kind, ho] at hk
    simp only [evOp, evVal, ho]
    generalize look E.ty t = z at *
    split at hk
    · rename_i e ty
      try dsimp only
      split at hk
      · rename_i hn
        rw [freezes_id σ _ hn]
      · cases hk
    · cases hk
  | slice t x lo hi mx =>
    simp only [kind, ho] at hk
    simp only [evOp, evVal, ho]
    generalize look E.ty t = z at *
    generalize opv E σ o.type x = y at *
    split at hk
    · rename_i hn
      cases z with
      | none => cases y <;> rfl
      | some t => cases y with
        | one c =>
          have hfr := noOwn_freeze σ c hn
          cases t with
          | sl e ty => dsimp only; rw [hfr]
          | str => cases c <;> rfl
          | _ => rfl
        | _ => cases t <;> rfl
    · cases hk
  | call c =>
    simp only [kind, ho] at hk
    simp only [evOp, evVal, ho]
    split at hk
    · cases hk
    · rename_i b hb hc
      rw [hc]
      cases b <;> first | rfl | exact absurd rfl hb
    · rename_i gx hc
      rw [hc]
      dsimp only
      split at hk
      case h_2 => cases hk
      rename_i f ct cy hgx
      try rw [hgx]
      try dsimp only
      split at hk
      · rename_i k hkn
        unfold callFn
        rw [hkn]
        dsimp only
        split at hk
        · rename_i hn
          have hσ : (if k.rs.any hasRow = true then List.foldl freezeJ σ (List.map PV.cells (List.map (fun x => opv E σ x.snd x.fst) (c.args.toList.zip c.argTypes.toList) ++ (flat ct cy).map PV.one)).flatten else σ) = σ := by
            simp only [Bool.or_eq_true, Bool.not_eq_true'] at hn
            rcases hn with hn | hn
            · rw [if_neg (by simp [hn])]
            · rw [freezes_id σ _ hn]; split <;> rfl
          simp only [hσ]
        · cases hk
      · cases hk
    · cases hk
  | alloc e => simp [kind, ho] at hk
  | box e x => simp [kind, ho] at hk
  | makeSlice t l c => simp [kind, ho] at hk
  | store t p x => simp only [kind, ho] at hk; split at hk <;> (try split at hk) <;> cases hk
  | _ => simp only [evOp, evVal, ho] <;> rfl

theorem intOp_bind (op : BinOp) (k : IntKind) (x y : Int) (K : Cl → Option R) : intOp op k x y K = (intOp op k x y some).bind K := by
  cases op <;> simp only [intOp] <;> first | rfl | (split <;> rfl)

theorem binOpV_bind (ty : Option Ty) (eqs : Bool) (op : BinOp) (x y : PV) (K : PV → Option R) : binOpV ty eqs op x y K = (binOpV ty eqs op x y some).bind K := by
  unfold binOpV
  split
  · split
    · rw [intOp_bind, intOp_bind (K := fun c => some (PV.one c))]; simp [Option.bind_assoc]
    · rw [intOp_bind, intOp_bind (K := fun c => some (PV.one c))]; simp [Option.bind_assoc]
    · split
      · rw [intOp_bind, intOp_bind (K := fun c => some (PV.one c))]; simp [Option.bind_assoc]
      · rfl
  · split <;> rfl
  · split <;> first | rfl | (split <;> rfl)
  · split
    · split
      · split <;> rfl
      · split <;> rfl
      · rfl
    · rfl
  · rfl

theorem evVal_bind (E : Env) (o : Oper) (σ : St) (put : PV → Option R) : evVal E o σ put = (evVal E o σ some).bind put := by
  cases ho : o.op with
  | binOp op t x y ty => simp only [evVal, ho]; exact binOpV_bind _ _ _ _ _ _
  | _ => simp only [evVal, ho] <;> first | rfl | (repeat' split) <;> rfl

def SameAt (l : Nat) (σ σ' : St) : Prop := (∀ i, l = 3 * i → σ'.bx[i]? = σ.bx[i]?) ∧ (∀ j, l = 3 * j + 1 → σ'.ar[j]? = σ.ar[j]?)

def Same (o : Oper) (σ σ' : St) : Prop := (∀ t ∈ opTmps o, σ'.get t = σ.get t) ∧ ∀ t ∈ opTmps o, ∀ l ∈ locP (σ.get t), SameAt l σ σ'

theorem mem_opTmps {o : Oper} {t : Tmp} (h : Operand.tmp t ∈ o.op.operands) : t ∈ opTmps o :=
  List.mem_filterMap.2 ⟨.tmp t, by simpa using h, rfl⟩

theorem Same.opv {o : Oper} {σ σ' : St} (h : Same o σ σ') (E : Env) (ty : TypeId) {x : Operand} (hx : x ∈ o.op.operands) : V.opv E σ' ty x = V.opv E σ ty x := by
  cases x with
  | tmp t => exact h.1 t (mem_opTmps hx)
  | _ => rfl

theorem constCells_locs (t : Ty) : ∀ (vs : List Value) (cs : List Cl) (r : List Value), constCells t vs = some (cs, r) → ∀ c ∈ cs, locC c = [] := by
  induction t with
  | pair a b iha ihb =>
    intro vs cs r h c hc
    simp only [constCells] at h
    split at h
    · rename_i x r1 h1
      split at h
      · rename_i y r2 h2
        simp only [Option.some.injEq, Prod.mk.injEq] at h
        obtain ⟨rfl, rfl⟩ := h
        rcases List.mem_append.1 hc with hc | hc
        · exact iha _ _ _ h1 c hc
        · exact ihb _ _ _ h2 c hc
      · cases h
    · cases h
  | unit =>
    intro vs cs r h c hc
    simp only [constCells, Option.some.injEq, Prod.mk.injEq] at h
    obtain ⟨rfl, rfl⟩ := h
    cases hc
  | ref t => intro vs cs r h; simp [constCells] at h
  | clo f t => intro vs cs r h; simp [constCells] at h
  | _ =>
    intro vs cs r h c hc
    unfold constCells at h
    split at h
    all_goals try contradiction
    all_goals try (split at h)
    all_goals first | cases h | contradiction
    all_goals (rcases hc with _ | ⟨_, hc⟩ <;> first | rfl | cases hc)

theorem locs_noTmp {E : Env} {σ : St} {ty : TypeId} {x : Operand} (hx : ∀ t, x ≠ .tmp t) : ∀ c ∈ (V.opv E σ ty x).cells, locC c = [] := by
  have gen : ∀ (v : Value), ∀ c ∈ (constPV E ty v).cells, locC c = [] := by
    intro v c hc
    unfold constPV at hc
    split at hc
    · simp only [PV.cells, List.mem_singleton] at hc; subst hc; rfl
    · simp only [PV.cells, List.mem_singleton] at hc; subst hc; rfl
    · simp only [PV.cells, List.mem_singleton] at hc; subst hc; rfl
    · split at hc
      · split at hc
        · rename_i h; exact constCells_locs _ _ _ _ h c hc
        · simp only [PV.junk, PV.cells, List.mem_singleton] at hc; subst hc; rfl
      · simp only [PV.junk, PV.cells, List.mem_singleton] at hc; subst hc; rfl
    · split at hc
      · split at hc
        · rename_i cs h
          have := constCells_locs _ _ _ _ h
          cases cs with
          | nil => simp only [PV.cells, List.headD_nil, List.mem_singleton] at hc; subst hc; rfl
          | cons d ds => simp only [PV.cells, List.headD_cons, List.mem_singleton] at hc; subst hc; exact this _ List.mem_cons_self
        · simp only [PV.junk, PV.cells, List.mem_singleton] at hc; subst hc; rfl
      · simp only [PV.junk, PV.cells, List.mem_singleton] at hc; subst hc; rfl
  cases x with
  | tmp t => exact absurd rfl (hx t)
  | const v => exact gen v
  | _ => intro c hc; simp only [V.opv, PV.junk, PV.cells, List.mem_singleton] at hc; subst hc; rfl

theorem Same.cells {o : Oper} {σ σ' : St} (h : Same o σ σ') (E : Env) (ty : TypeId) {x : Operand} (hx : x ∈ o.op.operands) : ∀ c ∈ (V.opv E σ ty x).cells, ∀ l ∈ locC c, SameAt l σ σ' := by
  intro c hc l hl
  cases x with
  | tmp t =>
    refine h.2 t (mem_opTmps hx) l ?_
    have : V.opv E σ ty (.tmp t) = σ.get t := rfl
    rw [this] at hc
    cases hp : σ.get t with
    | one d => rw [hp] at hc; simp only [PV.cells, List.mem_singleton] at hc; subst hc; exact hl
    | agg cs => rw [hp] at hc; exact List.mem_flatMap.2 ⟨c, hc, hl⟩
    | tup vs => rw [hp] at hc; simp [PV.cells] at hc
    | skip => rw [hp] at hc; simp [PV.cells] at hc
  | _ =>
    rw [locs_noTmp (by intro t; simp) c hc] at hl
    cases hl

theorem asRow_same {σ σ' : St} {c : Cl} (h : ∀ l ∈ locC c, SameAt l σ σ') : asRow σ' c = asRow σ c := by
  cases c with
  | own j => simp only [asRow, (h (3 * j + 1) (by simp [locC])).2 j rfl]
  | sub j lo hi => simp only [asRow, (h (3 * j + 1) (by simp [locC])).2 j rfl]
  | _ => rfl

theorem readAt_same {σ σ' : St} {p : Ptr} {n : Nat} (h : ∀ l ∈ locC (.ptr p), SameAt l σ σ') : readAt σ' p n = readAt σ p n := by
  cases p with
  | box i off => simp only [readAt, (h (3 * i) (by simp [locC])).1 i rfl]
  | el j i off => simp only [readAt, (h (3 * j + 1) (by simp [locC])).2 j rfl]
  | ro t x off => rfl

theorem bnd_same {E : Env} {o : Oper} {σ σ' : St} (h : Same o σ σ') (ty : TypeId) (d : Int) (x : Option Operand) (hx : ∀ y, x = some y → y ∈ o.op.operands) : bnd E σ' ty d x = bnd E σ ty d x := by
  cases x with
  | none => rfl
  | some y => simp only [bnd, h.opv E ty (hx y rfl)]

theorem rowIn_same {σ σ' : St} {c : Cl} (h : ∀ l ∈ locC c, SameAt l σ σ') : rowIn σ' c = rowIn σ c := by
  cases c with
  | sub j lo hi => rfl
  | _ => simp only [rowIn, asRow_same h]

theorem asRow_flat (σ σ' : St) : ∀ (t : Ty) (x : t.den), ∀ d ∈ flat t x, asRow σ' d = asRow σ d
  | .int _, _, d, h => by simp only [flat, List.mem_singleton] at h; subst h; rfl
  | .bool, _, d, h => by simp only [flat, List.mem_singleton] at h; subst h; rfl
  | .str, _, d, h => by simp only [flat, List.mem_singleton] at h; subst h; rfl
  | .sl _ _, _, d, h => by simp only [flat, List.mem_singleton] at h; subst h; rfl
  | .unit, _, d, h => by cases h
  | .ref _, _, d, h => by simp only [flat, List.mem_singleton] at h; subst h; rfl
  | .clo _ _, _, d, h => by simp only [flat, List.mem_singleton] at h; subst h; rfl
  | .pair a b, x, d, h => by
    rcases List.mem_append.1 h with h | h
    · exact asRow_flat σ σ' a x.1 d h
    · exact asRow_flat σ σ' b x.2 d h

theorem evVal_same {E : Env} {o : Oper} {σ σ' : St} (h : Same o σ σ') (put : PV → Option R) : evVal E o σ' put = evVal E o σ put := by
  have hv : ∀ ty {x}, x ∈ o.op.operands → V.opv E σ' ty x = V.opv E σ ty x := fun ty x hx => h.opv E ty hx
  have hc : ∀ ty {x}, x ∈ o.op.operands → ∀ c ∈ (V.opv E σ ty x).cells, ∀ l ∈ locC c, SameAt l σ σ' := fun ty x hx => h.cells E ty hx
  cases ho : o.op with
  | move x => simp only [evVal, ho]; rw [hv _ (by simp [ho, Op.operands])]
  | assign x => simp only [evVal, ho]; rw [hv _ (by simp [ho, Op.operands])]
  | pick c a b => simp only [evVal, ho]; rw [hv _ (x := c) (by simp [ho, Op.operands]), hv _ (x := a) (by simp [ho, Op.operands]), hv _ (x := b) (by simp [ho, Op.operands])]
  | fieldAddr s x f => simp only [evVal, ho]; rw [hv _ (x := x) (by simp [ho, Op.operands])]
  | load t x =>
    simp only [evVal, ho]
    rw [hv _ (x := x) (by simp [ho, Op.operands])]
    have hcx := hc o.type (x := x) (by simp [ho, Op.operands])
    generalize V.opv E σ o.type x = y at *
    split
    · rename_i p _ _
      rw [readAt_same (hcx (.ptr p) (by simp [PV.cells]))]
    · rfl
  | indexAddr t x ix =>
    simp only [evVal, ho]
    rw [hv _ (x := x) (by simp [ho, Op.operands]), hv _ (x := ix) (by simp [ho, Op.operands])]
    have hcx := hc o.type (x := x) (by simp [ho, Op.operands])
    generalize V.opv E σ o.type x = y at *
    split
    · split
      · rfl
      · rename_i j _ _ _
        rw [(hcx (.own j) (by simp [PV.cells]) (3 * j + 1) (by simp [locC])).2 j rfl]
      · rename_i j lo hi _ _ _
        rw [(hcx (.sub j lo hi) (by simp [PV.cells]) (3 * j + 1) (by simp [locC])).2 j rfl]
      · rfl
    · rfl
  | index t x ix => simp only [evVal, ho]; rw [hv _ (x := x) (by simp [ho, Op.operands]), hv _ (x := ix) (by simp [ho, Op.operands])]
  | binOp op t x y z => simp only [evVal, ho]; rw [hv _ (x := x) (by simp [ho, Op.operands]), hv _ (x := y) (by simp [ho, Op.operands])]
  | unOp op t x => simp only [evVal, ho]; rw [hv _ (x := x) (by simp [ho, Op.operands])]
  | convert s d x => simp only [evVal, ho]; rw [hv _ (x := x) (by simp [ho, Op.operands])]
  | extract x i => simp only [evVal, ho]; rw [hv _ (x := x) (by simp [ho, Op.operands])]
  | field t x f => simp only [evVal, ho]; rw [hv _ (x := x) (by simp [ho, Op.operands])]
  | nilCheck x => simp only [evVal, ho]; rw [hv _ (x := x) (by simp [ho, Op.operands])]
  | build t parts =>
    simp only [evVal, ho]
    have : parts.toList.map (fun (p : Nat × Operand) => (p.1, V.opv E σ' o.type p.2)) = parts.toList.map (fun (p : Nat × Operand) => (p.1, V.opv E σ o.type p.2)) := by
      refine List.map_congr_left fun p hp => ?_
      rw [hv _ (by simp only [ho, Op.operands]; simp only [List.mem_toArray, List.mem_map]; exact ⟨p, hp, rfl⟩)]
    rw [this]
  | buildSlice t n parts =>
    simp only [evVal, ho]
    have hm : ∀ p ∈ parts.toList, p.2 ∈ o.op.operands := fun p hp => by
      simp only [ho, Op.operands]; simp only [List.mem_toArray, List.mem_map]; exact ⟨p, hp, rfl⟩
    split
    · rename_i e ty _
      have h1 : (parts.toList.all fun x => (V.opv E σ' e x.2).ok) = (parts.toList.all fun x => (V.opv E σ e x.2).ok) := by
        rw [Bool.eq_iff_iff, List.all_eq_true, List.all_eq_true]
        exact forall_congr' fun p => forall_congr' fun hp => by rw [hv _ (hm p hp)]
      have h2 : (parts.toList.map fun x => (V.opv E σ' e x.2).cells.map (asRow σ')) = (parts.toList.map fun x => (V.opv E σ e x.2).cells.map (asRow σ)) := by
        refine List.map_congr_left fun p hp => ?_
        rw [hv _ (hm p hp)]
        exact List.map_congr_left fun c hcc => asRow_same (hc e (hm p hp) c hcc)
      rw [h1, h2]
    · rfl
  | slice t x lo hi mx =>
    simp only [evVal, ho]
    rw [hv _ (x := x) (by simp [ho, Op.operands])]
    have hcx := hc o.type (x := x) (by simp [ho, Op.operands])
    have b1 : ∀ ty d, bnd E σ' ty d lo = bnd E σ ty d lo := fun ty d => bnd_same h ty d lo (by rintro y rfl; simp [ho, Op.operands])
    have b2 : ∀ ty d, bnd E σ' ty d hi = bnd E σ ty d hi := fun ty d => bnd_same h ty d hi (by rintro y rfl; simp [ho, Op.operands])
    have b3 : ∀ ty d, bnd E σ' ty d mx = bnd E σ ty d mx := fun ty d => bnd_same h ty d mx (by rintro y rfl; simp [ho, Op.operands])
    generalize V.opv E σ o.type x = y at *
    simp only [b1, b2]
    cases hl : look E.ty t with
    | none => cases y <;> rfl
    | some t' => cases y with
      | one c =>
        have hr := rowIn_same (hcx c (by simp [PV.cells]))
        cases t' with
        | sl e ty =>
          dsimp only
          rw [hr]
          cases mx with
          | none => rfl
          | some m => simp only [b3]
        | str => cases c <;> rfl
        | _ => rfl
      | _ => cases t' <;> rfl
  | call c =>
    have ha : ∀ x ∈ c.args.toList, x ∈ o.op.operands := fun x hx => by
      simp only [ho, Op.operands, Call.operands]; simp only [Array.mem_append]; exact .inr (by simpa using hx)
    simp only [evVal, ho]
    split
    · split
      · rename_i x t hx ht
        have hx' : x ∈ c.args.toList := by rw [hx]; simp
        rw [hv _ (ha x hx')]
        have hcx := hc o.type (ha x hx')
        generalize V.opv E σ o.type x = y at *
        split
        · rfl
        · rename_i c _ _; rw [rowIn_same (hcx _ (by simp [PV.cells]))]
        · rfl
      · rfl
    · split
      · rename_i x y hx
        rw [hv _ (ha x (by rw [hx]; simp)), hv _ (ha y (by rw [hx]; simp))]
      · rfl
    · split
      · rename_i x y hx
        rw [hv _ (ha x (by rw [hx]; simp)), hv _ (ha y (by rw [hx]; simp))]
      · rfl
    · rename_i gx hgx
      rw [hv _ (x := gx) (by simp [ho, Op.operands, Call.operands, hgx])]
      generalize V.opv E σ o.type gx = gv
      split
      case h_2 => rfl
      rename_i f ct cy
      have hz : ∀ p ∈ c.args.toList.zip c.argTypes.toList, p.1 ∈ o.op.operands := fun p hp => ha _ (List.of_mem_zip hp).1
      have h1 : ((c.args.toList.zip c.argTypes.toList).map fun (p : Operand × TypeId) => V.opv E σ' p.2 p.1) = ((c.args.toList.zip c.argTypes.toList).map fun (p : Operand × TypeId) => V.opv E σ p.2 p.1) :=
        List.map_congr_left fun p hp => hv _ (hz p hp)
      have h2 : (((((c.args.toList.zip c.argTypes.toList).map fun (p : Operand × TypeId) => V.opv E σ p.2 p.1) ++ (flat ct cy).map PV.one).map PV.cells).flatten).map (asRow σ') = (((((c.args.toList.zip c.argTypes.toList).map fun (p : Operand × TypeId) => V.opv E σ p.2 p.1) ++ (flat ct cy).map PV.one).map PV.cells).flatten).map (asRow σ) := by
        refine List.map_congr_left fun d hd => ?_
        obtain ⟨l, hl, hdl⟩ := List.mem_flatten.1 hd
        obtain ⟨v, hv', rfl⟩ := List.mem_map.1 hl
        rcases List.mem_append.1 hv' with hv' | hv'
        · obtain ⟨p, hp, rfl⟩ := List.mem_map.1 hv'
          exact asRow_same (hc _ (hz p hp) d hdl)
        · obtain ⟨d', hd', rfl⟩ := List.mem_map.1 hv'
          have : d = d' := by simpa [PV.cells] using hdl
          subst this
          exact asRow_flat σ σ' ct cy d hd'
      rw [h1, h2]
    · rfl
  | makeFunc fn bd fr =>
    simp only [evVal, ho]
    have hm : fr.toList.map (fun x => V.opv E σ' o.type x) = fr.toList.map (fun x => V.opv E σ o.type x) := List.map_congr_left fun x hx => hv _ (by simp [ho, Op.operands]; exact .inr (by simpa using hx))
    rw [hm]
  | _ => simp only [evVal, ho]

end Go.V

/- Operations whose order is drawn: any order answers as the order of the text. -/
namespace Go.V
open Go.RowKit

variable {P : Program} {E : Env} {w0 : Org} {g g' : Gh} {σ τ : St} {a : Act} {w : World} {R : Type} {K : St → Option R} {r : R} {Q : Exit → Act → World → Prop} {ops : Array Oper}

abbrev Step := Rec × Eff × PV

def goE (E : Env) (x : Nat × Nat × Oper) (σ : St) : Option Step :=
  (stepD E (kind E x.2.2 σ) x.2.1 x.2.2 σ fun f v => some (f, v)).map fun p => (recOf x.1 x.2.1 x.2.2 (kind E x.2.2 σ) σ p.2, p.1, p.2)

def guardT (ops : Array Oper) (o : Oper) : Option (Option (Tmp × Bool)) := match o.guard with
  | none => some none
  | some (j, want) => match (ops[j]?).bind (·.dst) with
    | none => none
    | some t => some (some (t, want))

def stepE (E : Env) (ops : Array Oper) (x : Nat × Nat × Oper) (σ : St) : Option Step := match guardT ops x.2.2 with
  | none => none
  | some none => goE E x σ
  | some (some (t, want)) => match σ.get t with
    | .one (.bool b) => if b = want then goE E x σ else some ({ i := x.1, rd := [], wr := [] }, .no, .skip)
    | .skip => some ({ i := x.1, rd := [], wr := [] }, .no, .skip)
    | _ => none

def after (x : Nat × Nat × Oper) (s : Step) (σ : St) : St := (s.2.1.on σ).put x.2.2.dst s.2.2

theorem stE_bind (E : Env) (o : Oper) (σ : St) (K : Eff → Option R) : stE E o σ K = (stE E o σ some).bind K := by
  simp only [stE]
  repeat' split
  all_goals rfl

theorem apC_bind (E : Env) (e : TypeId) (ty : Ty) (σ : St) (ys : List ty.den) (s : Cl) (K : Eff → PV → Option R) : apC E e ty σ ys s K = (apC E e ty σ ys s fun f v => some (f, v)).bind fun p => K p.1 p.2 := by
  unfold apC
  repeat' split
  all_goals rfl

theorem apE_bind (E : Env) (o : Oper) (σ : St) (K : Eff → PV → Option R) : apE E o σ K = (apE E o σ fun f v => some (f, v)).bind fun p => K p.1 p.2 := by
  unfold apE
  repeat' split
  all_goals first | rfl | exact apC_bind _ _ _ _ _ _ _

theorem stepD_bind (E : Env) (k : Kd) (s : Nat) (o : Oper) (σ : St) (K : Eff → PV → Option R) : stepD E k s o σ K = (stepD E k s o σ fun f v => some (f, v)).bind fun p => K p.1 p.2 := by
  cases k with
  | q =>
    simp only [stepD]
    rw [evVal_bind, evVal_bind (put := fun v => some (Eff.no, v))]
    simp [Option.bind_assoc]
  | al => simp only [stepD]; repeat' split
          all_goals rfl
  | st =>
    simp only [stepD]
    rw [stE_bind, stE_bind (K := fun f => some (f, PV.junk))]
    simp [Option.bind_assoc]
  | ap => exact apE_bind _ _ _ _
  | no => rfl

def Good (E : Env) (ops : Array Oper) (K : St → Option R) (r : R) : List (Nat × Nat × Oper) → List Rec → St → Prop
  | [], _, σ => K σ = some r
  | x :: rest, recs, σ => ∃ s, stepE E ops x σ = some s ∧ s.1.i = x.1 ∧ (∀ q ∈ recs, q.i ∈ preds2 ops x.2.2 ∨ q.fits s.1 = true) ∧ (s.2.1.isApp = true → ∀ y ∈ rest, x.1 ∈ preds y.2.2) ∧ Good E ops K r rest (s.1 :: recs) (after x s σ)

theorem good_of : ∀ (xs : List (Nat × Nat × Oper)) (recs : List Rec) (σ : St), evD E ops xs recs σ K = some r → Good E ops K r xs recs σ := by
  intro xs
  induction xs with
  | nil => intro recs σ h; exact h
  | cons x rest ih =>
    obtain ⟨i, s, o⟩ := x
    intro recs σ h
    have go : ∀ τ, (stepD E (kind E o τ) s o τ fun f v => if ((recs.all fun q => (preds o).contains q.i || (preds2 ops o).contains q.i || q.fits (recOf i s o (kind E o τ) τ v)) && (!f.isApp || rest.all fun y => (preds y.2.2).contains i)) = true then evD E ops rest (recOf i s o (kind E o τ) τ v :: recs) ((f.on τ).put o.dst v) K else none) = some r →
        ∃ p, goE E (i, s, o) τ = some p ∧ p.1.i = i ∧ (∀ q ∈ recs, q.i ∈ preds2 ops o ∨ q.fits p.1 = true) ∧ (p.2.1.isApp = true → ∀ y ∈ rest, i ∈ preds y.2.2) ∧ Good E ops K r rest (p.1 :: recs) (after (i, s, o) p τ) := by
      intro τ hτ
      rw [stepD_bind] at hτ
      cases hs : stepD E (kind E o τ) s o τ fun f v => some (f, v) with
      | none => rw [hs] at hτ; cases hτ
      | some p =>
        rw [hs] at hτ
        simp only [Option.bind_some] at hτ
        split at hτ
        · rename_i hall
          simp only [Bool.and_eq_true] at hall
          refine ⟨_, by simp only [goE, hs, Option.map_some]; rfl, rfl, ?_, ?_, ih _ _ hτ⟩
          · intro q hq
            have := List.all_eq_true.1 hall.1 q hq
            simp only [Bool.or_eq_true, List.contains_iff_mem] at this
            rcases this with (h1 | h1) | h1
            · exact .inl (List.mem_append_left _ h1)
            · exact .inl h1
            · exact .inr h1
          · intro ha y hy
            have h2 := hall.2
            simp only [show p.1.isApp = true from ha, Bool.not_true, Bool.false_or] at h2
            have := List.all_eq_true.1 h2 y hy
            simpa using this
        · cases hτ
    have skip : ∀ recs', evD E ops rest recs' (σ.put o.dst .skip) K = some r → Good E ops K r rest recs' (after (i, s, o) ({ i, rd := [], wr := [] }, .no, .skip) σ) := fun recs' h' => ih _ _ h'
    have nofit : ∀ q ∈ recs, q.i ∈ preds2 ops o ∨ q.fits { i, rd := [], wr := [] } = true := fun q _ => .inr (by simp [Rec.fits, disj])
    simp only [evD] at h
    simp only [Good, stepE, guardT]
    split at h
    · rename_i hg
      obtain ⟨p, h1, h2⟩ := go σ h
      exact ⟨p, by rw [hg]; exact h1, h2⟩
    · rename_i j want hg
      rw [hg]
      dsimp only
      split at h
      · cases h
      · rename_i t ht
        rw [ht]
        dsimp only
        split at h
        · rename_i b hb
          rw [hb]
          dsimp only
          cases want <;> cases b <;> simp only [cond_true, cond_false] at h
          · rw [setLit_same hb] at h; obtain ⟨p, h1, h2⟩ := go σ h; exact ⟨p, by simpa using h1, h2⟩
          · rw [setLit_same hb] at h; exact ⟨_, if_neg (by simp), rfl, nofit, fun ha => by (cases ha), skip _ h⟩
          · rw [setLit_same hb] at h; exact ⟨_, if_neg (by simp), rfl, nofit, fun ha => by (cases ha), skip _ h⟩
          · rw [setLit_same hb] at h; obtain ⟨p, h1, h2⟩ := go σ h; exact ⟨p, by simpa using h1, h2⟩
        · rename_i hb
          rw [hb]
          exact ⟨_, rfl, rfl, nofit, fun ha => by (cases ha), skip _ h⟩
        · cases h

theorem Good.mono {xs : List (Nat × Nat × Oper)} : ∀ {recs recs' : List Rec} {σ : St}, (∀ q ∈ recs', q ∈ recs) → Good E ops K r xs recs σ → Good E ops K r xs recs' σ := by
  induction xs with
  | nil => intro _ _ _ _ h; exact h
  | cons x rest ih =>
    intro recs recs' σ hq h
    obtain ⟨s, h1, h2, h3, hR, h4⟩ := h
    refine ⟨s, h1, h2, fun q hq' => h3 q (hq q hq'), hR, ih ?_ h4⟩
    intro q hq'
    rcases List.mem_cons.1 hq' with rfl | hq'
    · exact List.mem_cons_self
    · exact List.mem_cons_of_mem _ (hq q hq')

end Go.V

/- Two steps that are apart change places. -/
namespace Go.V
open Go.RowKit

variable {P : Program} {E : Env} {w0 : Org} {g g' : Gh} {σ σ' τ : St} {a : Act} {w : World} {R : Type} {K : St → Option R} {r : R} {Q : Exit → Act → World → Prop} {ops : Array Oper} {o : Oper}

theorem kind_same (h : Same o σ σ') : kind E o σ' = kind E o σ := by
  have hv : ∀ ty {x}, x ∈ o.op.operands → V.opv E σ' ty x = V.opv E σ ty x := fun ty x hx => h.opv E ty hx
  cases ho : o.op with
  | store t p x => simp only [kind, ho]; rw [hv _ (x := x) (by simp [ho, Op.operands]), hv _ (x := p) (by simp [ho, Op.operands])]
  | slice t x lo hi mx => simp only [kind, ho]; rw [hv _ (x := x) (by simp [ho, Op.operands])]
  | buildSlice t n parts =>
    simp only [kind, ho]
    split
    · rename_i e ty _
      have : (parts.toList.map fun x => (V.opv E σ' e x.2).cells) = (parts.toList.map fun x => (V.opv E σ e x.2).cells) := by
        refine List.map_congr_left fun p hp => ?_
        rw [hv _ (by simp only [ho, Op.operands]; simp only [List.mem_toArray, List.mem_map]; exact ⟨p, hp, rfl⟩)]
      rw [this]
    · rfl
  | call c =>
    simp only [kind, ho]
    split
    · rfl
    · rfl
    · rename_i gx hgx
      rw [hv _ (x := gx) (by simp [ho, Op.operands, Call.operands, hgx])]
      have : ((c.args.toList.zip c.argTypes.toList).map fun (p : Operand × TypeId) => V.opv E σ' p.2 p.1) = ((c.args.toList.zip c.argTypes.toList).map fun (p : Operand × TypeId) => V.opv E σ p.2 p.1) := by
        refine List.map_congr_left fun p hp => hv _ ?_
        simp only [ho, Op.operands, Call.operands]; simp only [Array.mem_append]; exact .inr (by simpa using (List.of_mem_zip hp).1)
      rw [this]
    · rfl
  | _ => simp only [kind, ho]

theorem rdOf_same {k : Kd} (h : Same o σ σ') : rdOf o k σ' = rdOf o k σ := by
  have this : ((opTmps o).flatMap fun t => locP (σ'.get t)) = (opTmps o).flatMap fun t => locP (σ.get t) := by
    rw [List.flatMap_def, List.flatMap_def]
    rw [List.map_congr_left fun t ht => by rw [h.1 t ht]]
  have h2 : ∀ l ∈ (opTmps o).flatMap fun t => locP (σ.get t), (if l % 3 = 0 then (match σ'.bx[l / 3]? with | some (_, cs) => cs.flatMap locC | none => []) else []) = (if l % 3 = 0 then (match σ.bx[l / 3]? with | some (_, cs) => cs.flatMap locC | none => []) else [] : List Nat) := fun l hl => by
    obtain ⟨t, ht, hl⟩ := List.mem_flatMap.1 hl
    by_cases h0 : l % 3 = 0
    · rw [if_pos h0, if_pos h0, (h.2 t ht l hl).1 (l / 3) (by omega)]
    · rw [if_neg h0, if_neg h0]
  unfold rdOf
  rw [this]
  cases pureOp o with
  | true => rfl
  | false =>
  simp only [cond_false]
  exact congrArg (fun z : List (List Nat) => ((opTmps o).flatMap fun t => locP (σ.get t)) ++ z.flatten ++ (match k with | .ap => [2] | _ => [])) (List.map_congr_left h2)

theorem wrOf_same {k : Kd} {s : Nat} (h : Same o σ σ') (hl : k = .ap → σ'.ar.length = σ.ar.length) : wrOf o k s σ' = wrOf o k s σ := by
  cases k with
  | st =>
    simp only [wrOf]
    split
    · rename_i t _ ho
      rw [h.1 _ (mem_opTmps (by simp [ho, Op.operands]))]
    · rfl
  | ap =>
    simp only [wrOf, hl rfl]
    congr 1
    split
    · rename_i c ho
      split
      · rename_i t r ha
        rw [h.1 _ (mem_opTmps (by simp only [ho, Op.operands, Call.operands]; simp only [Array.mem_append]; exact .inr (by rw [← Array.mem_toList_iff, ha]; simp)))]
      · rfl
    · rfl
  | _ => rfl

theorem stE_same (h : Same o σ σ') (K : Eff → Option R) : stE E o σ' K = stE E o σ K := by
  cases ho : o.op with
  | store t p x =>
    simp only [stE, ho]
    have hp := h.cells E o.type (x := p) (by simp [ho, Op.operands])
    have hx := h.cells E t (x := x) (by simp [ho, Op.operands])
    rw [h.opv E o.type (x := p) (by simp [ho, Op.operands]), h.opv E t (x := x) (by simp [ho, Op.operands])]
    generalize V.opv E σ o.type p = y at *
    generalize V.opv E σ t x = z at *
    have hm : z.cells.map (asRow σ') = z.cells.map (asRow σ) := List.map_congr_left fun c hc => asRow_same (hx c hc)
    split
    · rename_i q ty _
      cases q with
      | box i off => simp only [(hp (.ptr (.box i off)) (by simp [PV.cells]) (3 * i) (by simp [locC])).1 i rfl]
      | el j i off => simp only [(hp (.ptr (.el j i off)) (by simp [PV.cells]) (3 * j + 1) (by simp [locC])).2 j rfl, hm]
      | ro t x off => rfl
    · rfl
  | _ => simp only [stE, ho]

theorem apE_same (h : Same o σ σ') (hl : σ'.ar.length = σ.ar.length) (K : Eff → PV → Option R) : apE E o σ' K = apE E o σ K := by
  cases ho : o.op with
  | call c =>
    simp only [apE, ho]
    have ha : ∀ x ∈ c.args.toList, x ∈ o.op.operands := fun x hx => by
      simp only [ho, Op.operands, Call.operands]; simp only [Array.mem_append]; exact .inr (by simpa using hx)
    split
    · rename_i s x t t' hx ht
      have hcs := h.cells E t (ha s (by rw [hx]; simp))
      have hcx := h.cells E t (ha x (by rw [hx]; simp))
      rw [h.opv E t (ha s (by rw [hx]; simp)), h.opv E t (ha x (by rw [hx]; simp))]
      generalize V.opv E σ t s = y at *
      generalize V.opv E σ t x = z at *
      split
      · split
        · split
          · rename_i c d
            rw [rowIn_same (hcx d (by simp [PV.cells]))]
            split
            · have hr : rowIn σ' (unnil c) = rowIn σ (unnil c) := rowIn_same (fun l hl => hcs c (by simp [PV.cells]) l (by
                cases c <;> first | exact hl | (simp [unnil, locC] at hl)))
              have ho : ∀ j, unnil c = .own j → σ'.ar[j]? = σ.ar[j]? := fun j hj => by
                have hj : c = .own j := by cases c <;> first | exact hj | (simp [unnil] at hj)
                exact (hcs c (by simp [PV.cells]) (3 * j + 1) (by rw [hj]; simp [locC])).2 j rfl
              unfold apC
              rw [hr, hl]
              split
              · rfl
              · rename_i j hj
                rw [ho j hj]
              · rfl
            · rfl
          · rfl
        · rfl
      · rfl
    · rfl
  | _ => simp only [apE, ho]

structure View (E : Env) (x : Nat × Nat × Oper) (σ σ' : St) : Prop where
  same : Same x.2.2 σ σ'
  slot : isAlloc x.2.2 = true → σ'.bx[x.2.1]? = σ.bx[x.2.1]?
  len : kind E x.2.2 σ = .ap → σ'.ar.length = σ.ar.length

theorem kind_al (h : kind E o σ = .al) : ∃ e, o.op = .alloc e := by
  cases ho : o.op with
  | alloc e => exact ⟨e, rfl⟩
  | store t p x => simp only [kind, ho] at h; split at h <;> (try split at h) <;> cases h
  | slice t x lo hi mx => simp only [kind, ho] at h; split at h <;> cases h
  | buildSlice t n parts => simp only [kind, ho] at h; split at h <;> (try split at h) <;> cases h
  | call c => simp only [kind, ho] at h; split at h <;> (try split at h) <;> (try split at h) <;> (try split at h) <;> cases h
  | _ => simp [kind, ho] at h

theorem goE_same {x : Nat × Nat × Oper} (h : View E x σ σ') : goE E x σ' = goE E x σ := by
  obtain ⟨i, s, o⟩ := x
  have hk := kind_same (E := E) h.same
  have h2 : ∀ v, recOf i s o (kind E o σ) σ' v = recOf i s o (kind E o σ) σ v := fun v => by
    simp only [recOf]
    rw [rdOf_same h.same, wrOf_same h.same h.len]
  have h1 : ∀ K : Eff → PV → Option (Eff × PV), stepD E (kind E o σ) s o σ' K = stepD E (kind E o σ) s o σ K := by
    intro K
    cases hkk : kind E o σ with
    | q => exact evVal_same h.same _
    | al =>
      obtain ⟨e, he⟩ := kind_al hkk
      simp only [stepD, he]
      rw [h.slot (by simp [isAlloc, he])]
    | st => exact stE_same (o := o) h.same fun f => K f .junk
    | ap => exact apE_same h.same (h.len hkk) _
    | no => rfl
  simp only [goE]
  rw [hk, h1]
  simp only [h2]

def SameG (ops : Array Oper) (o : Oper) (σ σ' : St) : Prop := ∀ t want, guardT ops o = some (some (t, want)) → σ'.get t = σ.get t

theorem stepE_cases {x : Nat × Nat × Oper} {s : Step} (h : stepE E ops x σ = some s) :
    (s = ({ i := x.1, rd := [], wr := [] }, .no, .skip) ∧ ∀ σ', SameG ops x.2.2 σ σ' → stepE E ops x σ' = some s) ∨
    (goE E x σ = some s ∧ ∀ σ', SameG ops x.2.2 σ σ' → stepE E ops x σ' = goE E x σ') := by
  unfold stepE at h
  split at h
  · cases h
  · rename_i hg
    exact .inr ⟨h, fun σ' _ => by simp only [stepE, hg]⟩
  · rename_i t want hg
    split at h
    · rename_i b hb
      split at h
      · rename_i hbw
        refine .inr ⟨h, fun σ' hs => ?_⟩
        simp only [stepE, hg, hs t want hg, hb, if_pos hbw]
      · rename_i hbw
        cases h
        refine .inl ⟨rfl, fun σ' hs => ?_⟩
        simp only [stepE, hg, hs t want hg, hb, if_neg hbw]
    · rename_i hb
      cases h
      refine .inl ⟨rfl, fun σ' hs => ?_⟩
      simp only [stepE, hg, hs t want hg, hb]
    · cases h

def EffOk (p : Rec) (σ : St) : Eff → Prop
  | .no => True
  | .box i _ => 3 * i ∈ p.wr
  | .row j _ => 3 * j + 1 ∈ p.wr ∧ j < σ.ar.length
  | .new _ => 3 * σ.ar.length + 1 ∈ p.wr ∧ 2 ∈ p.wr
  | .app j _ => 3 * j + 1 ∈ p.wr ∧ j < σ.ar.length

theorem stE_eff {f : Eff} (h : stE E o σ some = some f) (i s : Nat) (_ : kind E o σ = .st) : EffOk (recOf i s o .st σ .junk) σ f := by
  cases ho : o.op with
  | store t p x =>
    have hw : ∀ q, V.opv E σ o.type p = .one (.ptr q) → ∀ l ∈ locC (.ptr q), l ∈ wrOf o .st s σ := by
      intro q hq l hl
      cases p with
      | tmp t => simp only [wrOf, ho]; have : σ.get t = .one (.ptr q) := hq; rw [this]; exact hl
      | const z => exact absurd hl (by rw [locs_noTmp (E := E) (σ := σ) (ty := o.type) (x := .const z) (by intro t; simp) (.ptr q) (by rw [hq]; simp [PV.cells])]; simp)
      | global z => exact absurd hl (by rw [locs_noTmp (E := E) (σ := σ) (ty := o.type) (x := .global z) (by intro t; simp) (.ptr q) (by rw [hq]; simp [PV.cells])]; simp)
      | func z => exact absurd hl (by rw [locs_noTmp (E := E) (σ := σ) (ty := o.type) (x := .func z) (by intro t; simp) (.ptr q) (by rw [hq]; simp [PV.cells])]; simp)
    simp only [stE, ho] at h
    split at h
    · rename_i q ty hq _
      split at h
      · cases q with
        | box i off =>
          dsimp only at h
          split at h
          · split at h
            · cases h; exact hw _ hq _ (by simp [locC])
            · cases h
          · cases h
        | el j i off =>
          dsimp only at h
          split at h
          · rename_i A hA
            split at h
            · split at h
              · cases h; exact ⟨hw _ hq _ (by simp [locC]), (List.getElem?_eq_some_iff.1 hA).1⟩
              · cases h
            · cases h
          · cases h
        | ro t x off => cases h
      · cases h
    · cases h
  | _ => simp [stE, ho] at h

theorem apE_eff {f : Eff} {v : PV} (h : apE E o σ (fun f v => some (f, v)) = some (f, v)) (i s : Nat) : EffOk (recOf i s o .ap σ v) σ f := by
  unfold apE at h
  split at h
  · rename_i cc hop
    split at h
    · rename_i sx xx tt tt' hargs _
      split at h
      · split at h
        · split at h
          · rename_i c1 c2 hs1 hs2
            split at h
            · unfold apC at h
              split at h
              · split at h
                · split at h
                  · cases h; trivial
                  · split at h
                    · cases h; exact ⟨by simp [recOf, wrOf], by simp [recOf, wrOf]⟩
                    · cases h
                · cases h
              · rename_i j hj
                split at h
                · rename_i A hA
                  split at h
                  · split at h
                    · split at h
                      · cases h
                        refine ⟨?_, (List.getElem?_eq_some_iff.1 hA).1⟩
                        have hc : c1 = .own j := by cases c1 <;> first | exact hj | (simp [unnil] at hj)
                        subst hc
                        cases sx with
                        | tmp t =>
                          have hg : σ.get t = .one (.own j) := hs1
                          simp [recOf, wrOf, hop, hargs, hg, locP, locC]
                        | const z =>
                          have := locs_noTmp (E := E) (σ := σ) (ty := tt) (x := .const z) (by intro t; simp) (.own j) (by rw [hs1]; simp [PV.cells])
                          simp [locC] at this
                        | global z => cases hs1
                        | func z => cases hs1
                      · cases h
                    · cases h
                  · cases h
                · cases h
              · cases h
            · cases h
          · cases h
        · cases h
      · cases h
    · cases h
  · cases h

theorem goE_eff {x : Nat × Nat × Oper} {s : Step} (h : goE E x σ = some s) : EffOk s.1 σ s.2.1 := by
  obtain ⟨i, sl, o⟩ := x
  simp only [goE, Option.map_eq_some_iff] at h
  obtain ⟨⟨f, v⟩, h1, rfl⟩ := h
  dsimp only
  cases hk : kind E o σ with
  | q =>
    rw [hk] at h1
    simp only [stepD] at h1
    rw [evVal_bind] at h1
    cases hv : evVal E o σ some with
    | none => rw [hv] at h1; cases h1
    | some u => rw [hv] at h1; cases h1; trivial
  | al =>
    rw [hk] at h1
    obtain ⟨e, he⟩ := kind_al hk
    simp only [stepD, he] at h1
    split at h1
    · cases h1; simp [EffOk, recOf, wrOf]
    · cases h1
  | st =>
    rw [hk] at h1
    simp only [stepD] at h1
    rw [stE_bind] at h1
    cases hv : stE E o σ some with
    | none => rw [hv] at h1; cases h1
    | some u => rw [hv] at h1; cases h1; exact stE_eff hv _ _ hk
  | ap => rw [hk] at h1; exact apE_eff h1 _ _
  | no => rw [hk] at h1; cases h1

theorem eff_at {p : Rec} {f : Eff} {l : Nat} (hna : f.isApp = false) (h : EffOk p σ f) (hl : l ∉ p.wr) (d : Option Tmp) (v : PV) : SameAt l σ ((f.on σ).put d v) := by
  have hb : ((f.on σ).put d v).bx = (f.on σ).bx := by cases d <;> rfl
  have ha : ((f.on σ).put d v).ar = (f.on σ).ar := by cases d <;> rfl
  unfold SameAt
  rw [hb, ha]
  cases f with
  | no => exact ⟨fun _ _ => rfl, fun _ _ => rfl⟩
  | box i b =>
    refine ⟨fun k hk => ?_, fun _ _ => rfl⟩
    have : i ≠ k := fun e => hl (by rw [hk, ← e]; exact h)
    exact List.getElem?_set_ne this
  | row j A =>
    refine ⟨fun _ _ => rfl, fun k hk => ?_⟩
    have : j ≠ k := fun e => hl (by rw [hk, ← e]; exact h.1)
    exact List.getElem?_set_ne this
  | new A =>
    refine ⟨fun _ _ => rfl, fun k hk => ?_⟩
    have : σ.ar.length ≠ k := fun e => hl (by rw [hk, ← e]; exact h.1)
    show (σ.ar ++ [A])[k]? = _
    rcases Nat.lt_or_gt_of_ne this with h1 | h1
    · rw [List.getElem?_eq_none (by rw [List.length_append]; show _ + 1 ≤ _; omega), List.getElem?_eq_none (by omega)]
    · rw [List.getElem?_append_left h1]
  | app j A => cases hna

theorem eff_len {p : Rec} {f : Eff} (h : EffOk p σ f) (hl : 2 ∉ p.wr) (d : Option Tmp) (v : PV) : ((f.on σ).put d v).ar.length = σ.ar.length := by
  have ha : ((f.on σ).put d v).ar = (f.on σ).ar := by cases d <;> rfl
  rw [ha]
  cases f with
  | no => rfl
  | box i b => rfl
  | row j A => exact List.length_set
  | new A => exact absurd h.2 hl
  | app j A => exact List.length_set

theorem on_n (f : Eff) (σ : St) : (f.on σ).n = σ.n := by cases f <;> rfl

theorem on_get (f : Eff) (hna : f.isApp = false) (σ : St) (d : Option Tmp) (v : PV) (t : Tmp) (h : d ≠ some t) : ((f.on σ).put d v).get t = σ.get t := by
  rw [put_get, if_neg (fun e => h e.1)]
  cases f <;> first | rfl | cases hna

theorem dropC_id {j : Nat} {c : Cl} (h : 3 * j + 1 ∉ locC c) : dropC j c = c := by
  cases c with
  | own i =>
    simp only [dropC]
    rw [if_neg (fun e => h (by rw [e]; simp [locC]))]
  | sub i lo hi =>
    simp only [dropC]
    rw [if_neg (fun e => h (by rw [e]; simp [locC]))]
  | fn f ps =>
    simp only [dropC]
    rw [if_neg]
    intro e
    obtain ⟨p, hp, hj⟩ := List.any_eq_true.1 e
    cases p with
    | el i k off =>
      simp only [beq_iff_eq] at hj
      exact h (List.mem_flatMap.2 ⟨_, hp, by simp [hj]⟩)
    | _ => cases hj
  | ptr p => cases p with
    | el i k off =>
      simp only [dropC]
      rw [if_neg (fun e => h (by rw [e]; simp [locC]))]
    | _ => rfl
  | _ => rfl

theorem dropCs_id {j : Nat} {cs : List Cl} (h : 3 * j + 1 ∉ cs.flatMap locC) : cs.map (dropC j) = cs := by
  induction cs with
  | nil => rfl
  | cons c cs ih =>
    simp only [List.flatMap_cons, List.mem_append, not_or] at h
    rw [List.map_cons, dropC_id h.1, ih h.2]

theorem dropV_id {j : Nat} {v : PV} (h : 3 * j + 1 ∉ locP v) : dropV j v = v := by
  cases v with
  | one c => simp only [dropV]; rw [dropC_id h]
  | agg cs => simp only [dropV]; rw [dropCs_id h]
  | tup vs =>
    simp only [dropV]
    congr 1
    induction vs with
    | nil => rfl
    | cons x vs ih =>
      have h : 3 * j + 1 ∉ (x :: vs).flatMap fun y => y.2.flatMap locC := h
      simp only [List.flatMap_cons, List.mem_append, not_or] at h
      rw [List.map_cons, dropCs_id h.1, ih h.2]
  | skip => rfl

theorem app_raw (j : Nat) (A : Arr) (σ : St) (t : Nat) : ((Eff.app j A).on σ).raw t = dropV j (σ.raw t) := by
  simp only [Eff.on, St.raw, List.getD_eq_getElem?_getD, List.getElem?_map]
  cases σ.tm[t]? <;> rfl

theorem app_get (j : Nat) (A : Arr) (σ : St) (d : Option Tmp) (v : PV) (t : Tmp) (h : d ≠ some t) (hl : 3 * j + 1 ∉ locP (σ.get t)) : (((Eff.app j A).on σ).put d v).get t = σ.get t := by
  rw [put_get, if_neg (fun e => h e.1), get_raw, app_raw]
  have : ((Eff.app j A).on σ).n = σ.n := rfl
  rw [this]
  rw [get_raw] at hl ⊢
  split
  · rename_i hn; rw [if_pos hn] at hl; exact dropV_id hl
  · rfl

theorem constPV_noloc (E : Env) (ty : TypeId) (σ : St) {x : Operand} (hx : ∀ t, x ≠ .tmp t) : ∀ l, l ∉ (V.opv E σ ty x).cells.flatMap locC := fun l hl => by
  obtain ⟨c, hc, hcl⟩ := List.mem_flatMap.1 hl
  rw [locs_noTmp hx c hc] at hcl
  cases hcl

theorem locs_of (E : Env) (ty : TypeId) {x : Operand} (hx : x ∈ o.op.operands) : ∀ l, l ∈ (V.opv E σ ty x).cells.flatMap locC → l ∈ (opTmps o).flatMap fun t => locP (σ.get t) := fun l hl => by
  cases x with
  | tmp t =>
    refine List.mem_flatMap.2 ⟨t, mem_opTmps hx, ?_⟩
    have e : V.opv E σ ty (.tmp t) = σ.get t := rfl
    rw [e] at hl
    cases hp : σ.get t with
    | one d => rw [hp] at hl; simpa [PV.cells, locP] using hl
    | agg cs => rw [hp] at hl; exact hl
    | tup vs => rw [hp] at hl; simp [PV.cells] at hl
    | skip => rw [hp] at hl; simp [PV.cells] at hl
  | const v => exact absurd hl (constPV_noloc E ty σ (by intro t; simp) l)
  | global v => exact absurd hl (constPV_noloc E ty σ (by intro t; simp) l)
  | func v => exact absurd hl (constPV_noloc E ty σ (by intro t; simp) l)

theorem zeros_noloc : (t : Ty) → ∀ l, l ∉ (zeros t).flatMap locC
  | .int _, l, h => by simp [zeros, flat, locC] at h
  | .bool, l, h => by simp [zeros, flat, locC] at h
  | .str, l, h => by simp [zeros, flat, locC] at h
  | .sl _ _, l, h => by simp [zeros, locC] at h
  | .unit, l, h => by simp [zeros, flat] at h
  | .ref _, l, h => by simp [zeros, locC] at h
  | .clo _ _, l, h => by simp [zeros, locC] at h
  | .pair a b, l, h => by
    simp only [zeros, List.flatMap_append, List.mem_append] at h
    exact h.elim (zeros_noloc a l) (zeros_noloc b l)

def Named (s : Step) : Prop := (∀ l ∈ locP s.2.2, l ∈ s.1.rd ∨ l ∈ s.1.wr) ∧ ∀ i b, s.2.1 = .box i b → ∀ l ∈ b.2.flatMap locC, l ∈ s.1.rd

theorem setRange_locs {cs v : List Cl} {off : Nat} : ∀ l ∈ (setRange cs off v).flatMap locC, l ∈ cs.flatMap locC ∨ l ∈ v.flatMap locC := fun l hl => by
  obtain ⟨c, hc, hcl⟩ := List.mem_flatMap.1 hl
  unfold setRange at hc
  rcases List.mem_append.1 hc with hc | hc
  · rcases List.mem_append.1 hc with hc | hc
    · exact .inl (List.mem_flatMap.2 ⟨c, List.mem_of_mem_take hc, hcl⟩)
    · exact .inr (List.mem_flatMap.2 ⟨c, hc, hcl⟩)
  · exact .inl (List.mem_flatMap.2 ⟨c, List.mem_of_mem_drop hc, hcl⟩)

theorem goE_named {x : Nat × Nat × Oper} {s : Step} (h : goE E x σ = some s) : Named s := by
  obtain ⟨i, sl, o⟩ := x
  simp only [goE, Option.map_eq_some_iff] at h
  obtain ⟨⟨f, v⟩, h1, rfl⟩ := h
  dsimp only
  cases hk : kind E o σ with
  | q =>
    rw [hk] at h1
    simp only [stepD] at h1
    rw [evVal_bind] at h1
    cases hv : evVal E o σ some with
    | none => rw [hv] at h1; cases h1
    | some u =>
      rw [hv] at h1
      cases h1
      exact ⟨fun l hl => .inl (by simp only [recOf]; exact List.mem_append_right _ hl), fun i b e => by cases e⟩
  | al =>
    rw [hk] at h1
    obtain ⟨e, he⟩ := kind_al hk
    simp only [stepD, he] at h1
    split at h1
    · cases h1
      exact ⟨fun l hl => .inr (by simpa [recOf, wrOf, locP, locC] using hl), fun i b e => by cases e; exact fun l hl => absurd hl (zeros_noloc _ l)⟩
    · cases h1
  | st =>
    rw [hk] at h1
    simp only [stepD] at h1
    rw [stE_bind] at h1
    cases hv : stE E o σ some with
    | none => rw [hv] at h1; cases h1
    | some u =>
      rw [hv] at h1
      cases h1
      refine ⟨fun l hl => by simp [locP, locC, PV.junk] at hl, fun i b e l hl => ?_⟩
      dsimp only at e
      subst e
      cases ho : o.op with
      | store t p x =>
        simp only [stE, ho] at hv
        have hx := locs_of (σ := σ) (o := o) E t (x := x) (by simp [ho, Op.operands])
        have hp := locs_of (σ := σ) (o := o) E o.type (x := p) (by simp [ho, Op.operands])
        split at hv
        · rename_i q ty hq _
          split at hv
          · cases q with
            | box i' off =>
              dsimp only at hv
              split at hv
              · rename_i t' old hi
                split at hv
                · cases hv
                  simp only [recOf, rdOf]
                  refine List.mem_append_left _ (List.mem_append_left _ ?_)
                  have hpo : pureOp o = false := by simp [pureOp, ho]
                  rw [hpo, cond_false]
                  have hm : 3 * i ∈ (opTmps o).flatMap fun t => locP (σ.get t) := hp (3 * i) (by rw [hq]; simp [PV.cells, locC])
                  rcases setRange_locs l hl with h2 | h2
                  · refine List.mem_append_right _ (List.mem_flatMap.2 ⟨3 * i, hm, ?_⟩)
                    have e1 : 3 * i % 3 = 0 := by omega
                    have e2 : 3 * i / 3 = i := by omega
                    rw [if_pos e1, e2, hi]
                    exact h2
                  · exact List.mem_append_left _ (hx l h2)
                · cases hv
              · cases hv
            | el j k off =>
              dsimp only at hv
              split at hv
              · split at hv
                · split at hv
                  · cases hv
                  · cases hv
                · cases hv
              · cases hv
            | ro t x off => cases hv
          · cases hv
        · cases hv
      | _ => simp [stE, ho] at hv
  | ap =>
    rw [hk] at h1
    have he := apE_eff h1 i sl
    refine ⟨fun l hl => ?_, fun i b e => ?_⟩
    · simp only [stepD] at h1
      unfold apE at h1
      split at h1
      · rename_i cc hop
        split at h1
        · rename_i sx xx tt tt' hargs _
          split at h1
          · split at h1
            · split at h1
              · rename_i c1 c2 hs1 hs2
                split at h1
                · unfold apC at h1
                  split at h1
                  · rename_i hu
                    split at h1
                    · split at h1
                      · cases h1
                        rw [hu] at hl
                        simp [locP, locC] at hl
                      · split at h1
                        · cases h1
                          right
                          simp only [locP, locC, List.mem_singleton] at hl
                          subst hl
                          simp [recOf, wrOf]
                        · cases h1
                    · cases h1
                  · split at h1
                    · split at h1
                      · split at h1
                        · split at h1
                          · cases h1
                            right
                            simp only [locP, locC, List.mem_singleton] at hl
                            subst hl
                            exact he.1
                          · cases h1
                        · cases h1
                      · cases h1
                    · cases h1
                  · cases h1
                · cases h1
              · cases h1
            · cases h1
          · cases h1
        · cases h1
      · cases h1
    · dsimp only at e
      subst e
      simp only [stepD] at h1
      unfold apE at h1
      split at h1
      · split at h1
        · split at h1
          · split at h1
            · split at h1
              · split at h1
                · unfold apC at h1
                  split at h1
                  · split at h1
                    · split at h1
                      · cases h1
                      · split at h1 <;> cases h1
                    · cases h1
                  · split at h1
                    · split at h1
                      · split at h1
                        · split at h1 <;> cases h1
                        · cases h1
                      · cases h1
                    · cases h1
                  · cases h1
                · cases h1
              · cases h1
            · cases h1
          · cases h1
        · cases h1
      · cases h1
  | no => rw [hk] at h1; cases h1

theorem SameAt.symm {l : Nat} (h : SameAt l σ σ') : SameAt l σ' σ := ⟨fun i hi => (h.1 i hi).symm, fun j hj => (h.2 j hj).symm⟩

theorem step_eff {x : Nat × Nat × Oper} {s : Step} (h : stepE E ops x σ = some s) : EffOk s.1 σ s.2.1 := by
  rcases stepE_cases h with ⟨rfl, _⟩ | ⟨h1, _⟩
  · trivial
  · exact goE_eff h1

theorem mem_disj {x y : List Nat} (h : disj x y = true) {l : Nat} (hl : l ∈ x) : l ∉ y := by
  have := List.all_eq_true.1 h l hl
  simpa using this

theorem disj_mem {x y : List Nat} (h : disj x y = true) {l : Nat} (hl : l ∈ y) : l ∉ x := fun hx => mem_disj h hx hl

theorem view_of {x : Nat × Nat × Oper} {s : Step} {σ' : St} (h : goE E x σ = some s) (ht : ∀ t ∈ opTmps x.2.2, σ'.get t = σ.get t) (ha : ∀ l, l ∈ s.1.rd ∨ l ∈ s.1.wr → SameAt l σ σ')
    (hl : 2 ∈ s.1.rd → σ'.ar.length = σ.ar.length) : View E x σ σ' := by
  obtain ⟨i, sl, o⟩ := x
  simp only [goE, Option.map_eq_some_iff] at h
  obtain ⟨⟨f, v⟩, h1, rfl⟩ := h
  refine ⟨⟨ht, fun t h2 l h3 => ha l (.inl ?_)⟩, fun h2 => ?_, fun h2 => hl ?_⟩
  · exact List.mem_append_left _ (List.mem_append_left _ (List.mem_append_left _ (List.mem_flatMap.2 ⟨t, h2, h3⟩)))
  · refine (ha (3 * sl) (.inr ?_)).1 sl rfl
    have : kind E o σ = .al := by
      unfold isAlloc at h2
      split at h2
      · rename_i e he; simp at he; simp only [kind, he]
      · cases h2
    simp only [this, recOf, wrOf, List.mem_singleton]
  · dsimp only at h2
    simp only [h2, recOf, rdOf, List.mem_append, List.mem_singleton, or_true, true_or]

theorem opTmps_looks {t : Tmp} (h : t ∈ opTmps o) : t ∈ o.looksAt ops := List.mem_append_left _ h

theorem guard_looks {t : Tmp} {want : Bool} (h : guardT ops o = some (some (t, want))) : t ∈ o.looksAt ops := by
  unfold guardT at h
  split at h
  · cases h
  · rename_i j wn hg
    split at h
    · cases h
    · rename_i t' ht
      cases h
      refine List.mem_append_right _ ?_
      rw [hg]
      dsimp only
      rw [ht]
      simp

theorem put_comm (σ : St) {x y : Option Tmp} (v u : PV) (h : ∀ d, x = some d → y ≠ some d) : (σ.put x v).put y u = (σ.put y u).put x v := by
  cases x with
  | none => rfl
  | some d =>
    cases y with
    | none => rfl
    | some e =>
      have hne : d ≠ e := fun he => h d rfl (he ▸ rfl)
      cases h1 : Nat.blt d σ.n <;> cases h2 : Nat.blt e σ.n <;> simp [St.put, h1, h2, List.set_comm _ _ hne]

theorem put_on (f : Eff) (hna : f.isApp = false) (σ : St) (d : Option Tmp) (v : PV) : f.on (σ.put d v) = (f.on σ).put d v := by
  cases f <;> cases d <;> first | rfl | cases hna

theorem on_comm {p q : Rec} {f e : Eff} (hna : f.isApp = false) (hne : e.isApp = false) (hf : EffOk p σ f) (he : EffOk q σ e) (hd : disj p.wr q.wr = true) : e.on (f.on σ) = f.on (e.on σ) := by
  cases f with
  | app j A => cases hna
  | no => rfl
  | box i b => cases e with
    | app j A => cases hne
    | no => rfl
    | box k c =>
      have : i ≠ k := fun h => mem_disj hd hf (h ▸ he)
      simp only [Eff.on]; rw [List.set_comm _ _ this]
    | row k B => rfl
    | new B => rfl
  | row j A => cases e with
    | app j A => cases hne
    | no => rfl
    | box k c => rfl
    | row k B =>
      have : j ≠ k := fun h => mem_disj hd hf.1 (h ▸ he.1)
      simp only [Eff.on]; rw [List.set_comm _ _ this]
    | new B => simp only [Eff.on]; rw [List.set_append_left _ _ hf.2]
  | new A => cases e with
    | app j A => cases hne
    | no => rfl
    | box k c => rfl
    | row k B => simp only [Eff.on]; rw [List.set_append_left _ _ he.2]
    | new B => exact absurd he.2 (mem_disj hd hf.2)

theorem app_comm {p : Rec} {f : Eff} {j : Nat} {A : Arr} {d d' : Option Tmp} {v u : PV} (hna : f.isApp = false) (hf : EffOk p σ f) (hj : j < σ.ar.length) (hjw : 3 * j + 1 ∉ p.wr) (hv : dropV j v = v) (hb : ∀ i b, f = .box i b → b.2.map (dropC j) = b.2) (hd : ∀ e, d = some e → d' ≠ some e) :
    ((Eff.app j A).on ((f.on σ).put d v)).put d' u = (f.on (((Eff.app j A).on σ).put d' u)).put d v := by
  rw [put_on f hna, put_comm ((f.on ((Eff.app j A).on σ))) u v (fun e he hde => hd e hde he)]
  congr 1
  have hbx : ∀ (τ : St), (Eff.app j A).on (τ.put d v) = ((Eff.app j A).on τ).put d v := fun τ => by
    cases d with
    | none => rfl
    | some e =>
      simp only [Eff.on, St.put]
      cases hn : Nat.blt e τ.n <;> simp [List.map_set, hv]
  rw [hbx]
  congr 1
  cases f with
  | no => rfl
  | box i b =>
    simp only [Eff.on, List.map_set]
    rw [hb i b rfl]
  | row k B =>
    have : k ≠ j := fun e => hjw (by rw [← e]; exact hf.1)
    simp only [Eff.on]
    rw [List.set_comm _ _ this]
  | new B =>
    simp only [Eff.on]
    rw [List.set_append_left _ _ hj]
  | app k B => cases hna

theorem goE_slot {x : Nat × Nat × Oper} {s : Step} (h : goE E x σ = some s) (ha : isAlloc x.2.2 = true) : σ.bx[x.2.1]? = some (0, []) := by
  obtain ⟨i, sl, o⟩ := x
  simp only [goE, Option.map_eq_some_iff] at h
  obtain ⟨⟨f, v⟩, h1, rfl⟩ := h
  unfold isAlloc at ha
  split at ha
  · rename_i e he
    simp only at he
    have hk : kind E o σ = .al := by simp only [kind, he]
    rw [hk] at h1
    simp only [stepD, he] at h1
    split at h1
    · rename_i hsl; exact hsl
    · cases h1
  · cases ha

theorem goE_tmps {x : Nat × Nat × Oper} {s : Step} (h : goE E x σ = some s) : (∀ t ∈ opTmps x.2.2, ∀ l ∈ locP (σ.get t), l ∈ s.1.rd) ∧ (pureOp x.2.2 = false → ∀ t ∈ opTmps x.2.2, ∀ i, 3 * i ∈ locP (σ.get t) → ∀ b, σ.bx[i]? = some b → ∀ l ∈ b.2.flatMap locC, l ∈ s.1.rd) := by
  obtain ⟨i, sl, o⟩ := x
  simp only [goE, Option.map_eq_some_iff] at h
  obtain ⟨⟨f, v⟩, h1, rfl⟩ := h
  simp only [recOf, rdOf]
  refine ⟨fun t ht l hl => List.mem_append_left _ (List.mem_append_left _ (List.mem_append_left _ (List.mem_flatMap.2 ⟨t, ht, hl⟩))), fun hpo t ht k hk b hb l hl => ?_⟩
  have hpo : pureOp o = false := hpo
  rw [hpo, cond_false]
  refine List.mem_append_left _ (List.mem_append_left _ (List.mem_append_right _ (List.mem_flatMap.2 ⟨3 * k, List.mem_flatMap.2 ⟨t, ht, hk⟩, ?_⟩)))
  have e1 : 3 * k % 3 = 0 := by omega
  have e2 : 3 * k / 3 = k := by omega
  rw [if_pos e1, e2, hb]
  exact hl

theorem opv_get {ty : TypeId} {x : Operand} (h : ∀ t, x = .tmp t → σ'.get t = σ.get t) : V.opv E σ' ty x = V.opv E σ ty x := by
  cases x with
  | tmp t => exact h t rfl
  | _ => rfl

theorem goE_pure {x : Nat × Nat × Oper} (hp : pureOp x.2.2 = true) (ht : ∀ t ∈ opTmps x.2.2, σ'.get t = σ.get t) : goE E x σ' = goE E x σ := by
  obtain ⟨i, s, o⟩ := x
  have hl : ((opTmps o).flatMap fun t => locP (σ'.get t)) = (opTmps o).flatMap fun t => locP (σ.get t) := by
    rw [List.flatMap_def, List.flatMap_def]
    rw [List.map_congr_left fun t h => by rw [ht t h]]
  have hv : ∀ ty {x}, x ∈ o.op.operands → V.opv E σ' ty x = V.opv E σ ty x := fun ty x hx => opv_get fun t e => ht t (mem_opTmps (e ▸ hx))
  have hp : pureOp o = true := hp
  have hk : kind E o σ' = .q ∧ kind E o σ = .q := by
    unfold pureOp at hp
    unfold kind
    split at hp <;> first | cases hp; done | exact ⟨by simp only [*], by simp only [*]⟩
  have hr : ∀ v, recOf i s o .q σ' v = recOf i s o .q σ v := fun v => by
    unfold recOf rdOf
    rw [hl, hp]
    rfl
  have he : ∀ K : PV → Option (Eff × PV), evVal E o σ' K = evVal E o σ K := fun K => by
    unfold pureOp at hp
    unfold evVal
    split at hp
    · rename_i y ho; simp only [ho]; rw [hv _ (by simp [ho, Op.operands])]
    · rename_i y ho; simp only [ho]; rw [hv _ (by simp [ho, Op.operands])]
    · rename_i y1 y f ho; simp only [ho]; rw [hv _ (by simp [ho, Op.operands])]
    · rename_i y ho; simp only [ho]; rw [hv _ (by simp [ho, Op.operands])]
    · cases hp
  simp only [goE, stepD, hk.1, hk.2]
  rw [he]
  simp only [hr]

theorem stE_noApp {f : Eff} (h : stE E o σ some = some f) : f.isApp = false := by
  simp only [stE] at h
  repeat' split at h
  all_goals first | (cases h; rfl) | (cases h; done)

theorem goE_pu {x : Nat × Nat × Oper} {s : Step} (h : goE E x σ = some s) : s.1.pu = pureOp x.2.2 ∧ (s.2.1.isApp = true → s.1.ap = true) := by
  unfold goE at h
  obtain ⟨p, h1, h2⟩ := Option.map_eq_some_iff.1 h
  subst h2
  refine ⟨rfl, fun ha => ?_⟩
  dsimp only at ha ⊢
  generalize kind E x.2.2 σ = k at h1 ⊢
  cases k with
  | ap => rfl
  | q =>
    simp only [stepD] at h1
    rw [evVal_bind] at h1
    cases hv : evVal E x.2.2 σ some with
    | none => rw [hv] at h1; cases h1
    | some v => rw [hv] at h1; cases h1; cases ha
  | al =>
    simp only [stepD] at h1
    split at h1
    · split at h1
      · cases h1; cases ha
      · cases h1
    · cases h1
  | st =>
    simp only [stepD] at h1
    rw [stE_bind] at h1
    cases hv : stE E x.2.2 σ some with
    | none => rw [hv] at h1; cases h1
    | some f =>
      rw [hv] at h1
      cases h1
      have := stE_noApp hv
      rw [this] at ha
      cases ha
  | no => cases h1

theorem swap {x y : Nat × Nat × Oper} {sx sy : Step} (hy : stepE E ops y σ = some sy) (hx : stepE E ops x (after y sy σ) = some sx) (hap : y.2.2.apart ops x.2.2 = true) (hf : sy.1.fits sx.1 = true) (hny : sy.2.1.isApp = false) :
    stepE E ops x σ = some sx ∧ stepE E ops y (after x sx σ) = some sy ∧ after x sx (after y sy σ) = after y sy (after x sx σ) := by
  obtain ⟨a1, a2, a3⟩ := Oper.apart_spec hap
  simp only [Rec.fits, Bool.and_eq_true] at hf
  obtain ⟨⟨d1, d2⟩, d3⟩ := hf
  have ey := step_eff hy
  have back : ∀ t, t ∈ x.2.2.looksAt ops → σ.get t = (after y sy σ).get t := fun t ht => (on_get _ hny _ _ _ _ (fun e => a1 _ e ht)).symm
  have first : stepE E ops x σ = some sx := by
    rcases stepE_cases hx with ⟨_, h1⟩ | ⟨h1, h2⟩
    · exact h1 σ fun t want hg => back t (guard_looks hg)
    · rw [h2 σ fun t want hg => back t (guard_looks hg), ← h1]
      rcases (Bool.or_eq_true _ _).mp d1 with d1 | d1
      · refine goE_same (view_of h1 (fun t ht => back t (opTmps_looks ht)) (fun l hl => (eff_at hny ey ?_ _ _).symm) fun hl => (eff_len ey (disj_mem d1 hl) _ _).symm)
        rcases hl with hl | hl
        · exact disj_mem d1 hl
        · exact disj_mem d3 hl
      · simp only [Bool.and_eq_true] at d1
        exact goE_pure ((goE_pu h1).1 ▸ d1.1) (fun t ht => back t (opTmps_looks ht))
  have ex := step_eff first
  cases hxa : sx.2.1.isApp with
  | false =>
    have fore : ∀ t, t ∈ y.2.2.looksAt ops → (after x sx σ).get t = σ.get t := fun t ht => on_get _ hxa _ _ _ _ (fun e => a3 _ e ht)
    refine ⟨first, ?_, ?_⟩
    · rcases stepE_cases hy with ⟨_, h1⟩ | ⟨h1, h2⟩
      · exact h1 _ fun t want hg => fore t (guard_looks hg)
      · rw [h2 _ fun t want hg => fore t (guard_looks hg), ← h1]
        rcases (Bool.or_eq_true _ _).mp d2 with d2 | d2
        · refine goE_same (view_of h1 (fun t ht => fore t (opTmps_looks ht)) (fun l hl => eff_at hxa ex ?_ _ _) fun hl => eff_len ex (disj_mem d2 hl) _ _)
          rcases hl with hl | hl
          · exact disj_mem d2 hl
          · exact mem_disj d3 hl
        · simp only [Bool.and_eq_true] at d2
          exact goE_pure ((goE_pu h1).1 ▸ d2.1) (fun t ht => fore t (opTmps_looks ht))
    · unfold after
      rw [put_on _ hxa, put_on _ hny, on_comm hny hxa ey ex d3]
      exact put_comm _ _ _ a2
  | true =>
    have hap2 : sx.1.ap = true := by
      rcases stepE_cases hx with ⟨h0, _⟩ | ⟨h0, _⟩
      · rw [h0] at hxa; cases hxa
      · exact (goE_pu h0).2 hxa
    have d2 : disj sx.1.wr sy.1.rd = true := by
      rcases (Bool.or_eq_true _ _).mp d2 with d2 | d2
      · exact d2
      · simp [hap2] at d2
    obtain ⟨px, fx, vx⟩ := sx
    cases fx with
    | app j A =>
      obtain ⟨ej, el⟩ := ex
      have hjr : 3 * j + 1 ∉ sy.1.rd := mem_disj d2 ej
      have hjw : 3 * j + 1 ∉ sy.1.wr := disj_mem d3 ej
      have gt : ∀ t want, guardT ops y.2.2 = some (some (t, want)) → (after x (px, .app j A, vx) σ).get t = σ.get t := fun t want hg => by
        have ht := guard_looks hg
        refine app_get j A σ _ _ t (fun e => a3 _ e ht) ?_
        -- a guard's temporary holds a truth value, or nothing
        unfold stepE at hy
        rw [hg] at hy
        dsimp only at hy
        split at hy
        · rename_i b hb; rw [hb]; simp [locP, locC]
        · rename_i hb; rw [hb]; simp [locP]
        · cases hy
      rcases stepE_cases hy with ⟨rfl, h1⟩ | ⟨h1, h2⟩
      · refine ⟨first, h1 _ gt, ?_⟩
        exact app_comm (p := { i := y.1, rd := [], wr := [] }) rfl trivial el (by simp) rfl (fun i b e => by cases e) a2
      · have nm := goE_named h1
        obtain ⟨tm1, tm2⟩ := goE_tmps h1
        have hv : dropV j sy.2.2 = sy.2.2 := dropV_id fun hl => (nm.1 _ hl).elim hjr hjw
        have fore : ∀ t ∈ opTmps y.2.2, (after x (px, .app j A, vx) σ).get t = σ.get t := fun t ht => app_get j A σ _ _ t (fun e => a3 _ e (opTmps_looks ht)) fun hl => hjr (tm1 t ht _ hl)
        refine ⟨first, ?_, ?_⟩
        · rw [h2 _ gt, ← h1]
          have hbx : ∀ i, (after x (px, .app j A, vx) σ).bx[i]? = (σ.bx[i]?).map fun (b : TypeId × List Cl) => (b.1, b.2.map (dropC j)) := fun i => by
            unfold after
            rw [put_bx]
            exact List.getElem?_map
          have har : ∀ i, i ≠ j → (after x (px, .app j A, vx) σ).ar[i]? = σ.ar[i]? := fun i hi => by
            unfold after
            rw [put_ar]
            exact List.getElem?_set_ne (Ne.symm hi)
          cases hpo : pureOp y.2.2 with
          | true => exact goE_pure hpo fore
          | false =>
          refine goE_same ⟨⟨fore, fun t ht l hl => ⟨fun i hi => ?_, fun k hk => har k fun e => hjr (by rw [← e, ← hk]; exact tm1 t ht l hl)⟩⟩, fun ha => ?_, fun _ => ?_⟩
          · rw [hbx]
            cases hb : σ.bx[i]? with
            | none => rfl
            | some b =>
              rw [Option.map_some, dropCs_id fun hm => hjr (tm2 hpo t ht i (hi ▸ hl) b hb _ hm)]
          · rw [hbx, goE_slot h1 ha]
            rfl
          · unfold after
            rw [put_ar]
            exact List.length_set
        · exact app_comm hny ey el hjw hv (fun i b e => dropCs_id fun hm => hjr (nm.2 i b e _ hm)) a2
    | no => cases hxa
    | box i b => cases hxa
    | row k B => cases hxa
    | new B => cases hxa

end Go.V

/- A region whose order is drawn, on the machine. -/
namespace Go.V
open Go.RowKit

variable {P : Program} {E : Env} {w0 : Org} {g g' : Gh} {σ σ' τ : St} {a : Act} {w : World} {R : Type} {K : St → Option R} {r : R} {Q : Exit → Act → World → Prop} {ops : Array Oper} {o : Oper}

theorem bubble {x : Nat × Nat × Oper} {post : List (Nat × Nat × Oper)} : ∀ (pre : List (Nat × Nat × Oper)) (recs : List Rec) (σ : St), Good E ops K r (pre ++ x :: post) recs σ →
    (∀ y ∈ pre, y.1 ∉ preds2 ops x.2.2 ∧ y.2.2.apart ops x.2.2 = true) →
    ∃ s, stepE E ops x σ = some s ∧ (∀ q ∈ recs, q.i ∈ preds2 ops x.2.2 ∨ q.fits s.1 = true) ∧ Good E ops K r (pre ++ post) recs (after x s σ) := by
  intro pre
  induction pre with
  | nil =>
    intro recs σ h _
    obtain ⟨s, h1, _, h3, _, h4⟩ := h
    exact ⟨s, h1, h3, h4.mono fun q hq => List.mem_cons_of_mem _ hq⟩
  | cons y pre ih =>
    intro recs σ h hp
    obtain ⟨sy, h1, h2, h3, hR, h4⟩ := h
    obtain ⟨sx, k1, k2, k3⟩ := ih _ _ h4 fun z hz => hp z (List.mem_cons_of_mem _ hz)
    obtain ⟨p1, p2⟩ := hp y List.mem_cons_self
    have hf : sy.1.fits sx.1 = true := (k2 _ List.mem_cons_self).resolve_left (by rw [h2]; exact p1)
    have hny : sy.2.1.isApp = false := by
      cases ha : sy.2.1.isApp with
      | false => rfl
      | true => exact absurd (List.mem_append_left _ (hR ha x (by simp))) p1
    obtain ⟨m1, m2, m3⟩ := swap h1 k1 p2 hf hny
    exact ⟨sx, m1, fun q hq => k2 q (List.mem_cons_of_mem _ hq), sy, m2, h2, h3, fun ha => (by rw [hny] at ha; cases ha), by rw [← m3]; exact k3⟩

theorem Rel.fillHole (h : Rel w0 g σ a w) {cs : List Cl} {vs : List Value} (e : TypeId) (hv : RelCls g w cs vs) {s : Nat} (hs : s < σ.bx.length) (hb : g.β[s]? = some none) :
    Rel w0 { g with β := g.β.set s (some w.heap.size) } { σ with bx := σ.bx.set s (e, cs) } a (w.alloc (.cells vs.toArray e)) ∧
      RelPtr { g with β := g.β.set s (some w.heap.size) } (w.alloc (.cells vs.toArray e)) (.box s 0) (.pointer (some ⟨w.heap.size, 0, none⟩)) := by
  have hsl : s < g.β.length := by rw [← h.bxn]; exact hs
  have hbl : Below w.heap.size w (w.alloc (.cells vs.toArray e)) := (Below.refl _ w).alloc (Nat.le_refl _) _
  obtain ⟨h1, hle⟩ := h.grow hbl g.Fr (fun _ h => h) (fun _ h => .inl h) (fun b hb' => Nat.lt_of_lt_of_le (h.lt b hb') hbl.size)
  have hkeep : ∀ i b : Nat, g.β[i]? = some (some b) → (g.β.set s (some w.heap.size))[i]? = some (some b) := fun i b hi => by
    rw [List.getElem?_set_ne (fun e => by rw [← e, hb] at hi; cases hi)]; exact hi
  have hle2 : g.le { g with β := g.β.set s (some w.heap.size) } w (w.alloc (.cells vs.toArray e)) := ⟨rfl, hkeep, fun _ _ h => h, fun _ h => h, hle.same⟩
  have hle3 : ({ g with Fr := g.Fr } : Gh).le { g with β := g.β.set s (some w.heap.size) } (w.alloc (.cells vs.toArray e)) (w.alloc (.cells vs.toArray e)) :=
    ⟨rfl, hkeep, fun _ _ h => h, fun _ h => h, fun _ _ => rfl⟩
  have hnew : (g.β.set s (some w.heap.size))[s]? = some (some w.heap.size) := by simp [hsl]
  refine ⟨⟨h.base, h1.below, h1.lt, fun t => (h1.tm t).mono hle3, h.tmn, h.dfr, ?_, ?_, ?_, h.arn, ?_, h.apart, h1.oth⟩, w.heap.size, hnew, rfl⟩
  · simp [h.bxn]
  · intro i t cs' hi hh
    by_cases hsi : s = i
    · subst hsi
      have hi' : (σ.bx.set s (e, cs))[s]? = some (t, cs') := hi
      rw [List.getElem?_set_self hs] at hi'
      cases hi'
      refine ⟨w.heap.size, vs.toArray, hnew, heap_alloc_new w _, ?_, ?_, ?_⟩
      · simpa using hv.mono hle2
      · show g.base ≤ w.heap.size
        rw [h.base]; exact h.below.size
      · exact fun hf => absurd (h.lt _ hf) (Nat.lt_irrefl _)
    · have hi' : (σ.bx.set s (e, cs))[i]? = some (t, cs') := hi
      rw [List.getElem?_set_ne hsi] at hi'
      have hh' : g.β[i]? ≠ some none := fun e => hh (by show (g.β.set s _)[i]? = _; rw [List.getElem?_set_ne hsi]; exact e)
      obtain ⟨b, us, h3, h4, h5, h6, h7⟩ := h1.bx i t cs' hi' hh'
      exact ⟨b, us, hkeep i b h3, h4, h5.mono hle3, h6, h7⟩
  · have key : ∀ i b : Nat, (g.β.set s (some w.heap.size))[i]? = some (some b) → (g.β[i]? = some (some b) ∧ b < w.heap.size) ∨ (i = s ∧ b = w.heap.size) := fun i b hi => by
      by_cases hsi : s = i
      · subst hsi; rw [hnew] at hi; cases hi; exact .inr ⟨rfl, rfl⟩
      · rw [List.getElem?_set_ne hsi] at hi
        exact .inl ⟨hi, h.boxLt (List.mem_of_getElem? hi)⟩
    intro i k b hi hk
    rcases key i b hi with ⟨h2, h3⟩ | ⟨h2, h3⟩ <;> rcases key k b hk with ⟨h4, h5⟩ | ⟨h4, h5⟩
    · exact h.nodup i k b h2 h4
    · omega
    · omega
    · omega
  · intro j A hA
    obtain ⟨v, h3, h4⟩ := h1.ar j A hA
    refine ⟨v, h3, h4.one, h4.head, fun hl => ?_, h4.set⟩
    obtain ⟨cells, h5, h6, h7⟩ := h4.own hl
    obtain ⟨v', h8, h9⟩ := h.ar j A hA
    rw [h8] at h3
    cases h3
    obtain ⟨_, h10, _, _⟩ := h9.own hl
    refine ⟨cells, h5, h6, fun b hb' => ⟨(h7 b hb').1, fun hm => ?_⟩⟩
    rcases List.mem_or_eq_of_mem_set hm with hm | hm
    · exact (h7 b hb').2 hm
    · cases hm; exact absurd (h10.lt _ hb').2 (by omega)

theorem stE_evOp {o : Oper} {f : Eff} (hk : kind E o σ = .st) (h : stE E o σ some = some f) : evOp E o σ some = some ((f.on σ).put o.dst .junk) := by
  cases ho : o.op with
  | store t p x =>
    simp only [kind, ho] at hk
    have hn : (∃ i off, V.opv E σ o.type p = .one (.ptr (.box i off))) ∨ noOwn (V.opv E σ t x).cells = true := by
      split at hk
      · rename_i i off hp; exact .inl ⟨i, off, hp⟩
      · split at hk
        · rename_i hn; exact .inr hn
        · cases hk
    clear hk
    · simp only [stE, ho] at h
      simp only [evOp, ho]
      generalize V.opv E σ o.type p = y at *
      generalize V.opv E σ t x = z at *
      split at h
      · rename_i q ty hty
        split at h
        · rename_i hc
          rw [if_pos hc]
          cases q with
          | box i off =>
            dsimp only at h
            simp only [storeV, writeAt]
            split at h
            · rename_i t' old hi
              split at h
              · rename_i hl
                cases h
                rw [if_pos hl]
                rfl
              · cases h
            · cases h
          | el j i off =>
            dsimp only at h
            have hn : noOwn z.cells = true := hn.elim (fun ⟨_, _, e⟩ => by cases e) id
            simp only [storeV, freezes_id σ _ hn]
            simp only [writeAt]
            split at h
            · rename_i A hA
              split at h
              · rename_i hl
                split at h
                · rename_i v hv
                  cases h
                  rw [if_pos hl]
                  first | rfl | (rw [hv]; rfl)
                · cases h
              · cases h
            · cases h
          | ro t x off => cases h
        · cases h
      · cases h
  | _ => simp [stE, ho] at h

theorem apE_evOp {o : Oper} {f : Eff} {v : PV} (hk : kind E o σ = .ap) (h : apE E o σ (fun f v => some (f, v)) = some (f, v)) : evOp E o σ some = some ((f.on σ).put o.dst v) := by
  cases ho : o.op with
  | call c =>
    have hc : c.callee = .builtin .append := by
      simp only [kind, ho] at hk
      split at hk
      · rename_i hc; exact hc
      · cases hk
      · split at hk
        · split at hk
          · split at hk <;> cases hk
          · cases hk
        · cases hk
      · cases hk
    simp only [apE, ho] at h
    simp only [evOp, ho, hc]
    split at h
    · split at h
      · rename_i ht
        rw [if_pos ht]
        split at h
        · split at h
          · rename_i e1 e2
            rw [e1, e2]
            simp only [appendV]
            split at h
            · rename_i ys hys
              try rw [hys]
              try dsimp only
              unfold apC at h
              split at h
              · rename_i hu
                rw [hu]
                simp only [appendC]
                split at h
                · rename_i xs hxs
                  rw [hu] at hxs h
                  rw [hxs]
                  dsimp only
                  split at h
                  · rename_i h0; cases h; rw [if_pos h0]; rfl
                  · rename_i h0
                    rw [if_neg h0]
                    split at h
                    · rename_i hl; cases h; rw [if_pos hl]; rfl
                    · cases h
                · cases h
              · rename_i j hu
                rw [hu]
                simp only [appendC]
                split at h
                · rename_i A hA
                  split at h
                  · rename_i hlv
                    rw [if_pos hlv]
                    split at h
                    · rename_i xs hxs
                      rw [hu] at hxs
                      rw [hxs]
                      dsimp only
                      split at h
                      · rename_i hl; cases h; rw [if_pos hl]; rfl
                      · cases h
                    · cases h
                  · cases h
                · cases h
              · cases h
            · cases h
          · cases h
        · cases h
      · cases h
    · cases h
  | _ => simp [apE, ho] at h

theorem goE_sound (hE : EnvOk P E) {x : Nat × Nat × Oper} {s : Step} {next : Act → World → Prop} (h : Rel w0 g σ a w) (hs : goE E x σ = some s) (ha : isAlloc x.2.2 = true → g.β[x.2.1]? = some none)
    (hn : ∀ g' a' w', Rel w0 g' (after x s σ) a' w' → g'.base = g.base → (∀ k : Nat, g.β[k]? = some none → (isAlloc x.2.2 = true → k ≠ x.2.1) → g'.β[k]? = some none) → next a' w') : x.2.2.wp P a w next Q := by
  obtain ⟨i, sl, o⟩ := x
  simp only [goE, Option.map_eq_some_iff] at hs
  obtain ⟨⟨f, v⟩, h1, rfl⟩ := hs
  have one : evOp E o σ some = some ((f.on σ).put o.dst v) → o.wp P a w next Q := fun he =>
    evOp_sound hE h he fun g' σ' a' w' k1 k2 k3 => by cases k2; exact hn g' a' w' k1 k3.1 fun k hk _ => k3.2 k hk
  cases hk : kind E o σ with
  | q =>
    rw [hk] at h1
    simp only [stepD] at h1
    rw [evVal_bind] at h1
    cases hv : evVal E o σ some with
    | none => rw [hv] at h1; cases h1
    | some u =>
      rw [hv] at h1
      cases h1
      refine one ?_
      rw [evOp_val hk, evVal_bind, hv]
      rfl
  | al =>
    rw [hk] at h1
    obtain ⟨e, he⟩ := kind_al hk
    simp only [stepD, he] at h1
    split at h1
    · rename_i t ht hsl
      cases h1
      have hal : isAlloc o = true := by simp [isAlloc, he]
      obtain ⟨i, z, h1, h2, h3, h4⟩ := (hE.ty e t ht).info
      have hlt : sl < σ.bx.length := (List.getElem?_eq_some_iff.1 hsl).1
      obtain ⟨h5, h6⟩ := h.fillHole e (zeros_rel g w t) hlt (ha hal)
      refine wp_val (v := .pointer (some ⟨w.heap.size, 0, none⟩)) (w' := w.alloc (.cells (zeroV t).toArray e)) ?_ (hn _ _ _ (h5.put _ (RelPV.ofPtr h6)) rfl fun k hk1 hk2 => ?_)
      · simp [execOp, he, Instr.alloc, zeroValue, typeInfo, h1, h3, newVar, newRow, h4]
      · show (g.β.set sl _)[k]? = _
        rw [List.getElem?_set_ne (fun e => hk2 hal e.symm)]
        exact hk1
    · cases h1
  | st =>
    rw [hk] at h1
    simp only [stepD] at h1
    rw [stE_bind] at h1
    cases hv : stE E o σ some with
    | none => rw [hv] at h1; cases h1
    | some u => rw [hv] at h1; cases h1; exact one (stE_evOp hk hv)
  | ap => rw [hk] at h1; exact one (apE_evOp hk h1)
  | no => rw [hk] at h1; cases h1

theorem step_sound (hE : EnvOk P E) {x : Nat × Nat × Oper} {s : Step} {next : Act → World → Prop} (h : Rel w0 g σ a w) (hs : stepE E ops x σ = some s) (hi : ops[x.1]? = some x.2.2) (ha : isAlloc x.2.2 = true → g.β[x.2.1]? = some none)
    (hn : ∀ g' a' w', Rel w0 g' (after x s σ) a' w' → g'.base = g.base → (∀ k : Nat, g.β[k]? = some none → (isAlloc x.2.2 = true → k ≠ x.2.1) → g'.β[k]? = some none) → next a' w') : wpOp P ops Q x.1 next a w := by
  have skip : s = ({ i := x.1, rd := [], wr := [] }, .no, .skip) → next (a.put x.2.2.dst undef) w := by
    rintro rfl
    exact hn g _ _ (h.put _ (p := .skip) rfl) rfl fun k hk _ => hk
  unfold wpOp
  rw [hi]
  dsimp only
  unfold stepE guardT at hs
  cases hg : x.2.2.guard with
  | none =>
    rw [hg] at hs
    rw [if_pos (by simp [Region.wanted, hg])]
    exact .inl (goE_sound hE h hs ha hn)
  | some jw =>
    obtain ⟨j, want⟩ := jw
    rw [hg] at hs
    dsimp only at hs
    cases ht : (ops[j]?).bind (·.dst) with
    | none => rw [ht] at hs; cases hs
    | some t =>
      rw [ht] at hs
      dsimp only at hs
      split at hs
      · rename_i b hb
        have hy := yielded_of h ht hb
        split at hs
        · rename_i hbw
          rw [if_pos (by simp [Region.wanted, hg, hy, hbw])]
          exact .inl (goE_sound hE h hs ha hn)
        · rename_i hbw
          rw [if_neg (by simp [Region.wanted, hg, hy, hbw])]
          cases hs
          exact skip rfl
      · rename_i hb
        have hy := yielded_skip h ht hb
        rw [if_neg (by simp [Region.wanted, hg, hy])]
        cases hs
        exact skip rfl
      · cases hs

theorem slots_mem {x : Nat × Nat × Oper} : ∀ (l : List Oper) (b i : Nat), x ∈ slots b i l → ∃ k, x.1 = i + k ∧ l[k]? = some x.2.2
  | [], _, _, h => by cases h
  | o :: l, b, i, h => by
    simp only [slots] at h
    rcases List.mem_cons.1 h with rfl | h
    · exact ⟨0, rfl, rfl⟩
    · obtain ⟨k, h1, h2⟩ := slots_mem l _ _ h
      exact ⟨k + 1, by omega, h2⟩

theorem slots_has : ∀ (l : List Oper) (b i k : Nat) (o : Oper), l[k]? = some o → ∃ x ∈ slots b i l, x.1 = i + k ∧ x.2.2 = o
  | [], _, _, _, _, h => by simp at h
  | o :: l, b, i, 0, o', h => by
    simp at h
    subst h
    exact ⟨_, List.mem_cons_self, rfl, rfl⟩
  | o :: l, b, i, k + 1, o', h => by
    obtain ⟨x, h1, h2, h3⟩ := slots_has l (if isAlloc o then b + 1 else b) (i + 1) k o' (by simpa using h)
    exact ⟨x, List.mem_cons_of_mem _ h1, by omega, h3⟩

theorem slots_ge {x : Nat × Nat × Oper} : ∀ (l : List Oper) (b i : Nat), x ∈ slots b i l → b ≤ x.2.1 ∧ (isAlloc x.2.2 = true → x.2.1 < b + (l.filter isAlloc).length)
  | [], _, _, h => by cases h
  | o :: l, b, i, h => by
    simp only [slots] at h
    rcases List.mem_cons.1 h with rfl | h
    · refine ⟨Nat.le_refl _, fun ha => ?_⟩
      have : isAlloc o = true := ha
      rw [List.filter_cons_of_pos this]
      simp
    · obtain ⟨h1, h2⟩ := slots_ge l _ _ h
      cases ho : isAlloc o with
      | true =>
        rw [ho] at h1 h2
        rw [List.filter_cons_of_pos ho]
        simp only [if_true] at h1 h2
        exact ⟨by omega, fun ha => by have := h2 ha; simp only [List.length_cons]; omega⟩
      | false =>
        rw [ho] at h1 h2
        rw [List.filter_cons_of_neg (by simp [ho])]
        exact ⟨h1, h2⟩

theorem slots_order : ∀ (l : List Oper) (b i : Nat), (slots b i l).Pairwise fun x y => x.1 < y.1 ∧ (isAlloc x.2.2 = true → x.2.1 ≠ y.2.1)
  | [], _, _ => .nil
  | o :: l, b, i => by
    refine List.Pairwise.cons (fun y hy => ?_) (slots_order l _ _)
    obtain ⟨k, h1, _⟩ := slots_mem l _ _ hy
    refine ⟨by show i < y.1; omega, fun ha => ?_⟩
    have ho : isAlloc o = true := ha
    have := (slots_ge l _ _ hy).1
    rw [ho] at this
    show b ≠ y.2.1
    simp only [if_true] at this
    omega

theorem drawB_spec (h : drawB ops = true) {i j : Nat} {x y : Oper} (hy : ops[j]? = some y) : (∀ k ∈ preds y, k < j) ∧ (i < j → ops[i]? = some x → i ∉ preds y → x.apart ops y = true) := by
  have hj : j < ops.size := (Array.getElem?_eq_some_iff.1 hy).1
  have h1 := List.all_eq_true.1 h j (List.mem_range.2 hj)
  rw [hy] at h1
  simp only [Bool.and_eq_true, List.all_eq_true, List.mem_range] at h1
  refine ⟨fun k hk => of_eq_true (by have := h1.1 k hk; rw [Nat.blt_eq] at this; simpa using this), fun hij hx hni => ?_⟩
  have h2 := h1.2 i hij
  rw [hx] at h2
  simp only [Bool.or_eq_true, List.contains_iff_mem] at h2
  exact h2.resolve_left hni

structure Left (ops : Array Oper) (listed : Array Bool) (g : Gh) (xs : List (Nat × Nat × Oper)) : Prop where
  here : ∀ x ∈ xs, ops[x.1]? = some x.2.2 ∧ listed.getD x.1 true = false
  order : xs.Pairwise fun x y => x.1 < y.1 ∧ (isAlloc x.2.2 = true → x.2.1 ≠ y.2.1)
  all : ∀ (i : Nat) (o : Oper), ops[i]? = some o → listed.getD i false = true ∨ ∃ x ∈ xs, x.1 = i
  holes : ∀ x ∈ xs, isAlloc x.2.2 = true → g.β[x.2.1]? = some none
  closed : ∀ (i : Nat) (o : Oper), ops[i]? = some o → listed.getD i false = true → ∀ k ∈ preds o, listed.getD k false = true

theorem mem_preds {i : Nat} : i ∈ preds o ↔ ∃ e ∈ o.after, Region.binds .any e = true ∧ e.on = i := by
  unfold preds
  simp only [List.mem_map, List.mem_filter, Array.mem_toList_iff]
  exact ⟨fun ⟨e, ⟨h1, h2⟩, h3⟩ => ⟨e, h1, h2, h3⟩, fun ⟨e, h1, h2, h3⟩ => ⟨e, ⟨h1, h2⟩, h3⟩⟩

theorem getD_both {l : Array Bool} {i : Nat} (h1 : l.getD i true = false) (h2 : l.getD i false = true) : False := by
  rcases Nat.lt_or_ge i l.size with h' | h'
  · simp [h'] at h1 h2; rw [h1] at h2; cases h2
  · simp [Array.getElem?_eq_none h'] at h1

theorem Left.ready {listed : Array Bool} {xs : List (Nat × Nat × Oper)} (hB : drawB ops = true) (h : Left ops listed g xs) (hr : Region.ready .any ops listed = []) : xs = [] := by
  cases xs with
  | nil => rfl
  | cons x rest =>
    obtain ⟨h1, h2⟩ := h.here x List.mem_cons_self
    have : x.1 ∈ Region.ready .any ops listed := by
      refine mem_ready.2 ⟨h2, x.2.2, h1, fun e he hb => ?_⟩
      have hlt := (drawB_spec (i := 0) (x := x.2.2) hB h1).1 e.on (mem_preds.2 ⟨e, he, hb, rfl⟩)
      have hs : e.on < ops.size := Nat.lt_trans hlt (Array.getElem?_eq_some_iff.1 h1).1
      rcases h.all e.on ops[e.on] (by simp [hs]) with h3 | ⟨y, hy, h3⟩
      · exact h3
      · rcases List.mem_cons.1 hy with rfl | hy
        · omega
        · have := ((List.pairwise_cons.1 h.order).1 y hy).1
          omega
    rw [hr] at this
    cases this

def Then' (w0 : Org) (b : Nat) (K : St → Option R) (r : R) (next : Act → World → Prop) : Prop := ∀ g' σ' a' w', Rel w0 g' σ' a' w' → K σ' = some r → g'.base = b → next a' w'

theorem any_sound (hE : EnvOk P E) (hB : drawB ops = true) {b : Nat} (hn : Then' w0 b K r (Q .normal)) : ∀ (fuel : Nat) (listed : Array Bool) (xs : List (Nat × Nat × Oper)) (g : Gh) (σ : St) (a : Act) (w : World),
    Rel w0 g σ a w → g.base = b → Left ops listed g xs → xs.length ≤ fuel → Good E ops K r xs [] σ → wpAny P .any ops Q fuel listed a w := by
  intro fuel
  have fin : ∀ (listed : Array Bool) (xs : List (Nat × Nat × Oper)) (g : Gh) (σ : St) (a : Act) (w : World), Rel w0 g σ a w → g.base = b → xs = [] → Good E ops K r xs [] σ → Q .normal a w := by
    rintro listed xs g σ a w h hb rfl hg
    exact hn g σ a w h hg hb
  induction fuel with
  | zero =>
    intro listed xs g σ a w h hb hl hf hg
    have hx : xs = [] := List.eq_nil_of_length_eq_zero (by omega)
    refine ⟨?_, fin listed xs g σ a w h hb hx hg⟩
    cases hr : Region.ready .any ops listed with
    | nil => rfl
    | cons i is =>
      have hi : i ∈ Region.ready .any ops listed := by rw [hr]; exact List.mem_cons_self
      obtain ⟨h1, o, h2, _⟩ := mem_ready.1 hi
      rcases hl.all i o h2 with h3 | ⟨x, h3, _⟩
      · exact (getD_both h1 h3).elim
      · rw [hx] at h3; cases h3
  | succ fuel ih =>
    intro listed xs g σ a w h hb hl hf hg
    refine ⟨fun hr => fin listed xs g σ a w h hb (hl.ready hB hr) hg, fun i hi => ?_⟩
    obtain ⟨h1, o, h2, h3⟩ := mem_ready.1 hi
    rcases hl.all i o h2 with h4 | ⟨x, h4, rfl⟩
    · exact (getD_both h1 h4).elim
    · obtain ⟨h5, _⟩ := hl.here x h4
      obtain ⟨pre, post, rfl⟩ := List.append_of_mem h4
      rw [h2] at h5
      cases h5
      have hord := List.pairwise_append.1 hl.order
      obtain ⟨s, k1, _, k2⟩ := bubble pre [] σ hg fun y hy => by
        obtain ⟨h6, h7⟩ := hl.here y (List.mem_append_left _ hy)
        have hlt := (hord.2.2 y hy x List.mem_cons_self).1
        have hdir : ∀ k ∈ preds x.2.2, listed.getD k false = true := fun k hk => by
          obtain ⟨e, he, hbd, hon⟩ := mem_preds.1 hk
          exact hon ▸ h3 e he hbd
        have hnp2 : y.1 ∉ preds2 ops x.2.2 := fun hp => by
          rcases List.mem_append.1 hp with hp | hp
          · exact getD_both h7 (hdir _ hp)
          · obtain ⟨k, hk, hp⟩ := List.mem_flatMap.1 hp
            cases hz : ops[k]? with
            | none => rw [hz] at hp; cases hp
            | some z =>
              rw [hz] at hp
              exact getD_both h7 (hl.closed k z hz (hdir k hk) _ hp)
        have hnp : y.1 ∉ preds x.2.2 := fun hp => hnp2 (List.mem_append_left _ hp)
        exact ⟨hnp2, (drawB_spec hB h2).2 hlt h6 hnp⟩
      refine step_sound hE h k1 h2 (hl.holes x h4) fun g' a' w' m1 m2 m3 => ih _ (pre ++ post) g' _ a' w' m1 (m2.trans hb) ?_ (by simp at hf ⊢; omega) k2
      have hsub : (pre ++ post).Sublist (pre ++ x :: post) := List.Sublist.append_left (List.sublist_cons_self x post) pre
      have hne : ∀ y ∈ pre ++ post, y.1 ≠ x.1 ∧ (isAlloc x.2.2 = true → isAlloc y.2.2 = true → y.2.1 ≠ x.2.1) := fun y hy => by
        rcases List.mem_append.1 hy with hy | hy
        · have := hord.2.2 y hy x List.mem_cons_self
          exact ⟨Nat.ne_of_lt this.1, fun _ h => this.2 h⟩
        · have := (List.pairwise_cons.1 hord.2.1).1 y hy
          exact ⟨Nat.ne_of_gt this.1, fun h _ => (this.2 h).symm⟩
      refine ⟨fun y hy => ?_, hl.order.sublist hsub, fun j oj hj => ?_, fun y hy hya => ?_, fun j oj hj hlj k hk => ?_⟩
      · obtain ⟨h6, h7⟩ := hl.here y (hsub.subset hy)
        exact ⟨h6, by rw [getD_set_ne true (hne y hy).1.symm]; exact h7⟩
      · rcases hl.all j oj hj with h6 | ⟨y, h6, rfl⟩
        · exact .inl (getD_set_true h6)
        · rcases List.mem_append.1 h6 with h7 | h7
          · exact .inr ⟨y, List.mem_append_left _ h7, rfl⟩
          · rcases List.mem_cons.1 h7 with rfl | h7
            · left
              have : y.1 < listed.size := by
                rcases Nat.lt_or_ge y.1 listed.size with h' | h'
                · exact h'
                · simp [Array.getElem?_eq_none h'] at h1
              simp [this]
            · exact .inr ⟨y, List.mem_append_right _ h7, rfl⟩
      · exact m3 _ (hl.holes y (hsub.subset hy) hya) fun ha => (hne y hy).2 ha hya
      · by_cases hjx : j = x.1
        · subst hjx
          rw [h2] at hj
          cases hj
          obtain ⟨e, he, hbd, hon⟩ := mem_preds.1 hk
          exact getD_set_true (hon ▸ h3 e he hbd)
        · rw [getD_set_ne false (Ne.symm hjx)] at hlj
          exact getD_set_true (hl.closed j oj hj hlj k hk)

theorem Rel.holed (h : Rel w0 g σ a w) (n : Nat) : Rel w0 { g with β := g.β ++ List.replicate n none } { tm := σ.tm, bx := σ.bx ++ List.replicate n (0, []), ar := σ.ar, n := σ.n } a w := by
  have hle : g.le { g with β := g.β ++ List.replicate n none } w w :=
    ⟨rfl, fun i b hi => by rw [List.getElem?_append_left (List.getElem?_eq_some_iff.1 hi).1]; exact hi, fun _ _ h => h, fun _ h => h, fun _ _ => rfl⟩
  have hback : ∀ i b : Nat, (g.β ++ List.replicate n none)[i]? = some (some b) → g.β[i]? = some (some b) := fun i b hi => by
    rw [List.getElem?_append] at hi
    split at hi
    · exact hi
    · rw [List.getElem?_replicate] at hi
      split at hi
      · cases hi
      · cases hi
  refine ⟨h.base, h.below, h.lt, fun t => (h.tm t).mono hle, h.tmn, h.dfr, ?_, ?_, ?_, h.arn, ?_, h.apart, h.oth⟩
  · simp [h.bxn]
  · intro i t cs hi hh
    have hi' : (σ.bx ++ List.replicate n (0, []))[i]? = some (t, cs) := hi
    rcases Nat.lt_or_ge i σ.bx.length with hlt | hge
    · rw [List.getElem?_append_left hlt] at hi'
      have hlt' : i < g.β.length := by rw [← h.bxn]; exact hlt
      obtain ⟨b, vs, h1, h2, h3, h4, h5⟩ := h.bx i t cs hi' (fun e => hh (by show (g.β ++ _)[i]? = _; rw [List.getElem?_append_left hlt']; exact e))
      exact ⟨b, vs, hle.β i b h1, h2, h3.mono hle, h4, h5⟩
    · rw [List.getElem?_append_right hge, List.getElem?_replicate] at hi'
      split at hi'
      · rename_i hlt
        refine absurd ?_ hh
        show (g.β ++ List.replicate n none)[i]? = some none
        rw [List.getElem?_append_right (by rw [← h.bxn]; exact hge), List.getElem?_replicate, if_pos (by rw [← h.bxn]; exact hlt)]
      · cases hi'
  · exact fun i k b hi hk => h.nodup i k b (hback i b hi) (hback k b hk)
  · intro j A hA
    obtain ⟨v, h3, h4⟩ := h.ar j A hA
    refine ⟨v, h3, h4.one, h4.head, fun hl => ?_, h4.set⟩
    obtain ⟨cells, h5, h6, h7⟩ := h4.own hl
    refine ⟨cells, h5, h6, fun b hb => ⟨(h7 b hb).1, fun hm => ?_⟩⟩
    rcases List.mem_append.1 hm with hm | hm
    · exact (h7 b hb).2 hm
    · have := (List.mem_replicate.1 hm).2
      cases this

theorem draw_sound (hE : EnvOk P E) (hm : P.follows .mixedOrders = true) {ops : Array Oper} {id : Nat} (h : Rel w0 g σ a w) (hB : drawB ops = true) (hk : evDraw E ops σ K = some r) (hn : Then' w0 g.base K r (Q .normal)) : (Code.region id ops true).wp P Q a w := by
  refine wp_region_any hm ?_
  have h1 : Rel w0 { g with Fr := g.Fr } σ a { w with drawn := w.drawn + 1 } :=
    (h.grow (w' := { w with drawn := w.drawn + 1 }) ⟨rfl, rfl, rfl, Nat.le_refl _, fun _ _ => rfl⟩ g.Fr (fun _ h => h) (fun _ h => .inl h) h.lt).1
  have h2 := h1.holed (ops.toList.filter isAlloc).length
  refine any_sound hE hB (b := g.base) hn ops.size _ (slots σ.bx.length 0 ops.toList) _ _ a _ h2 rfl ?_ ?_ (good_of _ _ _ hk)
  · refine ⟨fun x hx => ?_, slots_order _ _ _, fun i o hi => ?_, fun x hx ha => ?_, fun i o hi hl k hk => ?_⟩
    · obtain ⟨k, k1, k2⟩ := slots_mem _ _ _ hx
      have : x.1 = k := by omega
      subst this
      have k3 : ops[x.1]? = some x.2.2 := by simpa using k2
      have hlt := (Array.getElem?_eq_some_iff.1 k3).1
      exact ⟨k3, by simp [hlt]⟩
    · obtain ⟨x, k1, k2, k3⟩ := slots_has ops.toList σ.bx.length 0 i o (by simpa using hi)
      exact .inr ⟨x, k1, by omega⟩
    · obtain ⟨k1, k2⟩ := slots_ge _ _ _ hx
      have k3 := k2 ha
      show (g.β ++ List.replicate _ none)[x.2.1]? = some none
      rw [List.getElem?_append_right (by rw [← h.bxn]; exact k1), List.getElem?_replicate, if_pos (by rw [← h.bxn]; omega)]
    · have hlt := (Array.getElem?_eq_some_iff.1 hi).1
      simp [hlt] at hl
  · have : (slots σ.bx.length 0 ops.toList).length = ops.toList.length := by
      generalize ops.toList = l
      generalize σ.bx.length = b
      generalize (0 : Nat) = i
      induction l generalizing b i with
      | nil => rfl
      | cons o l ih => simp [slots, ih]
    rw [this]
    simp

end Go.V
