/- Regions whose order is drawn, with operations that all others wait for. -/
import Derived.Test.YtkifmnocomadfaaGVg
namespace Go.V
open Go.RowKit

variable {P : Program} {E : Env} {w0 : Org} {g g' : Gh} {σ τ : St} {a : Act} {w : World} {o : Oper} {R : Type} {K : St → Option R} {r : R} {next : Act → World → Prop} {Q : Exit → Act → World → Prop} {C : XCtx R} {ops : Array Oper}

theorem wp_put (h : o.wp P a w next Q) : o.wp P a w (fun a' w' => (∀ t, o.dst ≠ some t → a'.tmps.getD t undef = a.tmps.getD t undef) ∧ next a' w') Q := by
  have key : ∀ (v : Value) (a1 : Act), a1.tmps = a.tmps → ∀ t, o.dst ≠ some t → (a1.put o.dst v).tmps.getD t undef = a.tmps.getD t undef := fun v a1 e t ht => by
    cases hd : o.dst with
    | none => simp [Act.put, e]
    | some d =>
      have hdt : d ≠ t := fun e => ht (by rw [hd, e])
      simp [Act.put, e, Array.getElem?_setIfInBounds_ne hdt]
  unfold Oper.wp at *
  generalize (execOp a.eval o).run P w = r at *
  cases r with
  | ok n w' =>
    cases n with
    | value v => exact ⟨key v a rfl, h⟩
    | skip => exact ⟨key undef a rfl, h⟩
    | defer d => exact ⟨key undef { a with defers := d :: a.defers } rfl, h⟩
    | enter f args =>
      rw [Oper.upon_enter] at h ⊢
      exact Calls.mono h fun e w'' he => by
        cases e with
        | returned v => exact ⟨key v a rfl, he⟩
        | _ => exact he
    | row row args =>
      rw [Oper.upon_row] at h ⊢
      exact Rows.mono h fun v w'' he => ⟨key v a rfl, he⟩
    | _ => simp only [Oper.upon] at h
  | halt x w' => cases x <;> simp only [Oper.upon] at h ⊢ <;> exact h

theorem wpOp_put {i : Nat} (ho : ops[i]? = some o) (h : wpOp P ops Q i next a w) : wpOp P ops Q i (fun a' w' => (∀ t, o.dst ≠ some t → a'.tmps.getD t undef = a.tmps.getD t undef) ∧ next a' w') a w := by
  unfold wpOp at *
  rw [ho] at h ⊢
  dsimp only at h ⊢
  split
  · rename_i hw; rw [if_pos hw] at h; exact h.imp wp_put id
  · rename_i hw
    rw [if_neg hw] at h
    refine ⟨fun t ht => ?_, h⟩
    cases hd : o.dst with
    | none => simp [Act.put]
    | some d =>
      have hdt : d ≠ t := fun e => ht (by rw [hd, e])
      simp [Act.put, Array.getElem?_setIfInBounds_ne hdt]

theorem fltB_spec {f : Flt} (h : fltB f σ = true) : σ.get f.a = .one (.ptr (.box f.i 0)) ∧ (∃ t, σ.bx[f.i]? = some (t, [.ptr (.box f.k f.o)])) ∧ σ.get f.t = .one (.ptr (.box f.k f.o)) ∧ σ.raw f.d = .junk ∧ f.d < σ.n ∧ f.d < σ.tm.length := by
  unfold fltB at h
  split at h
  · rename_i i t k o k' o' h1 h2 h3 h4
    simp only [Bool.and_eq_true, Nat.beq_eq, Nat.blt_eq] at h
    obtain ⟨rfl, rfl, rfl, h5, h6, h7, h8⟩ := h
    subst h5; subst h6
    exact ⟨h1, ⟨t, h2⟩, h3, h4, h7, h8⟩
  · cases h

theorem fltB_of {f : Flt} (h1 : σ.get f.a = .one (.ptr (.box f.i 0))) (h2 : ∃ t, σ.bx[f.i]? = some (t, [.ptr (.box f.k f.o)])) (h3 : σ.get f.t = .one (.ptr (.box f.k f.o))) (h4 : σ.raw f.d = .junk) (h5 : f.d < σ.n) (h6 : f.d < σ.tm.length) : fltB f σ = true := by
  obtain ⟨t, h2⟩ := h2
  unfold fltB
  rw [h1, h2, h3, h4]
  simp [PV.junk, h5, h6]

theorem dstNot_spec {l : List Nat} (h : dstNot o l = true) {t : Nat} (ht : t ∈ l) : o.dst ≠ some t := by
  intro e
  unfold dstNot at h
  rw [e] at h
  have := List.all_eq_true.1 h t ht
  simp at this

theorem put_tmlen (σ : St) (d : Option Tmp) (p : PV) : (σ.put d p).tm.length = σ.tm.length := by
  cases d with
  | none => rfl
  | some d => simp only [St.put]; cases Nat.blt d σ.n <;> simp

theorem fltB_put {f : Flt} {d : Option Tmp} {p : PV} (hd : ∀ t ∈ [f.d, f.a, f.t], d ≠ some t) (h : fltB f σ = true) : fltB f (σ.put d p) = true := by
  obtain ⟨h1, h2, h3, h4, h5, h6⟩ := fltB_spec h
  refine fltB_of ?_ (by rw [put_bx]; exact h2) ?_ ?_ (by rw [put_n]; exact h5) (by rw [put_tmlen]; exact h6)
  · rw [put_get, if_neg (fun e => hd _ (by simp) e.1)]; exact h1
  · rw [put_get, if_neg (fun e => hd _ (by simp) e.1)]; exact h3
  · rw [put_raw, if_neg (fun e => hd _ (by simp) e.1)]; exact h4

theorem quiet_step {x : Nat × Nat × Oper} {s : Step} (hq : quietOp x.2.2 = true) (h : stepE E ops x σ = some s) : s.2.1 = .no := by
  have go : goE E x σ = some s → s.2.1 = .no := fun h => by
    unfold goE at h
    obtain ⟨p, h1, h2⟩ := Option.map_eq_some_iff.1 h
    subst h2
    have hk : kind E x.2.2 σ = .q ∨ kind E x.2.2 σ = .no := by
      unfold quietOp at hq
      split at hq
      · cases hq
      · cases hq
      · cases hq
      · rename_i n1 n2 n3
        unfold kind
        split
        · rename_i e; exact absurd e (n2 _)
        · rename_i e; exact absurd e (n3 _ _ _)
        · rename_i e; exact absurd e (n1 _)
        · split
          · split
            · exact .inl rfl
            · exact .inr rfl
          · exact .inr rfl
        · split
          · exact .inl rfl
          · exact .inr rfl
        · exact .inr rfl
        · exact .inr rfl
        · exact .inl rfl
    rcases hk with hk | hk
    · rw [hk] at h1
      simp only [stepD] at h1
      rw [evVal_bind] at h1
      cases hv : evVal E x.2.2 σ some with
      | none => rw [hv] at h1; cases h1
      | some v => rw [hv] at h1; cases h1; rfl
    · rw [hk] at h1
      cases h1
  unfold stepE at h
  split at h
  · cases h
  · exact go h
  · split at h
    · split at h
      · exact go h
      · cases h; rfl
    · cases h; rfl
    · cases h

theorem fltB_after {f : Flt} {x : Nat × Nat × Oper} {s : Step} (hq : quietOp x.2.2 = true) (hd : dstNot x.2.2 [f.d, f.a, f.t] = true) (hs : stepE E ops x σ = some s) (h : fltB f σ = true) : fltB f (after x s σ) = true := by
  have : after x s σ = σ.put x.2.2.dst s.2.2 := by
    unfold after
    rw [quiet_step hq hs]
    rfl
  rw [this]
  exact fltB_put (fun t ht => dstNot_spec hd ht) h

structure FltOk (E : Env) (ops : Array Oper) (f : Flt) (o : Oper) : Prop where
  at_ : ops[f.y]? = some o
  op : ∃ t ty, o.op = .load t (.tmp f.a) ∧ look E.ty t = some ty ∧ ty.size = 1 ∧ ty.agg = false
  dst : o.dst = some f.d
  guard : o.guard = none
  ne : f.d ≠ f.t ∧ f.d ≠ f.a

theorem fltOp_spec {pre : List Nat} {x : Nat} {f : Flt} (h : fltOp E ops pre x f = true) : (∃ o, FltOk E ops f o) ∧ (∀ i ∈ pre, ∀ o, ops[i]? = some o → quietOp o = true ∧ dstNot o [f.d, f.a, f.t] = true) ∧ ∀ o, ops[x]? = some o → dstNot o [f.d, f.a, f.t] = true := by
  unfold fltOp at h
  simp only [Bool.and_eq_true] at h
  obtain ⟨⟨⟨h1, h2⟩, h3⟩, h4⟩ := h
  refine ⟨?_, fun i hi o ho => ?_, fun o ho => ?_⟩
  · split at h1
    · rename_i o ho
      simp only [Bool.and_eq_true] at h1
      obtain ⟨⟨k1, k2⟩, k3⟩ := h1
      refine ⟨o, ho, ?_, ?_, by simpa using k3, ?_⟩
      · split at k1
        · rename_i t a' he
          simp only [Bool.and_eq_true, Nat.beq_eq] at k1
          obtain ⟨rfl, k1⟩ := k1
          split at k1
          · rename_i ty hty
            simp only [Bool.and_eq_true, Nat.beq_eq, Bool.not_eq_true'] at k1
            exact ⟨t, ty, he, hty, k1.1, k1.2⟩
          · cases k1
        · cases k1
      · split at k2
        · rename_i d hd; rw [hd]; simp only [Nat.beq_eq] at k2; rw [k2]
        · cases k2
      · obtain ⟨q1, q2⟩ := h2
        simp only [Bool.not_eq_true'] at q1 q2
        exact ⟨fun e => (by rw [e, Nat.beq_refl] at q1; cases q1), fun e => (by rw [e, Nat.beq_refl] at q2; cases q2)⟩
    · cases h1
  · have := List.all_eq_true.1 h3 i hi
    rw [ho] at this
    simpa using this
  · rw [ho] at h4
    exact h4

theorem flt_step {f : Flt} (hf : FltOk E ops f o) (h : fltB f σ = true) : ∃ s, stepE E ops (f.y, 0, o) σ = some s ∧ after (f.y, 0, o) s σ = σ.put (some f.d) (.one (.ptr (.box f.k f.o))) := by
  obtain ⟨h1, ⟨te, h2⟩, h3, h4, h5, h6⟩ := fltB_spec h
  obtain ⟨t, ty, ho, hty, hs, hag⟩ := hf.op
  have hk : kind E o σ = .q := by simp [kind, ho]
  have hv : evVal E o σ some = some (.one (.ptr (.box f.k f.o))) := by
    have hop : opv E σ o.type (.tmp f.a) = .one (.ptr (.box f.i 0)) := h1
    simp only [evVal, ho, hop, hty, readAt, h2, hs]
    simp [ofCells, hag]
  have hg : goE E (f.y, 0, o) σ = some (recOf f.y 0 o .q σ (.one (.ptr (.box f.k f.o))), .no, .one (.ptr (.box f.k f.o))) := by
    unfold goE
    simp only [hk, stepD]
    rw [evVal_bind, hv]
    rfl
  refine ⟨_, by unfold stepE guardT; rw [hf.guard]; exact hg, ?_⟩
  unfold after
  simp only [hf.dst]
  rfl

theorem ptr_val {k o : Nat} {v u : Value} (h1 : RelPV g w (.one (.ptr (.box k o))) v) (h2 : RelPV g w (.one (.ptr (.box k o))) u) : v = u := by
  obtain ⟨b, e1, rfl⟩ := h1.ptr
  obtain ⟨b', e2, rfl⟩ := h2.ptr
  rw [e1] at e2
  cases e2
  rfl

theorem put_back {d : Nat} {p : PV} (h1 : σ.raw d = .junk) (h2 : d < σ.n) (h3 : d < σ.tm.length) : (σ.put (some d) p).put (some d) .junk = σ := by
  have hb : Nat.blt d σ.n = true := by rw [Nat.blt_eq]; exact h2
  have hj : σ.tm[d] = .junk := by simpa [St.raw, h3] using h1
  simp only [St.put, hb, cond_true, List.set_set]
  rw [← hj, List.set_getElem_self]

structure SegInv (ops : Array Oper) (listed : Array Bool) (all : List Nat) (early : Option Nat) : Prop where
  out : ∀ i, i < ops.size → i ∉ all → listed.getD i false = true
  inn : ∀ i ∈ all, i < ops.size ∧ (early ≠ some i → listed.getD i true = false)
  clo : ∀ (i : Nat) (o : Oper), ops[i]? = some o → listed.getD i false = true → ∀ k ∈ preds o, listed.getD k false = true
  ear : ∀ i, early = some i → i ∈ all ∧ listed.getD i false = true
  nodup : all.Nodup
  size : listed.size = ops.size

theorem listed_or {listed : Array Bool} (hs : listed.size = ops.size) {j : Nat} (hj : j < ops.size) : listed.getD j true = false ∨ listed.getD j false = true := by
  have h' : j < listed.size := by omega
  cases hb : listed[j] <;> simp [h', hb]

theorem ready_some {listed : Array Bool} (hs : listed.size = ops.size) (hB : drawB ops = true) : ∀ (n i : Nat), i ≤ n → i < ops.size → listed.getD i true = false → Region.ready .any ops listed ≠ [] := by
  intro n
  induction n with
  | zero =>
    intro i hn hi hu he
    have h0 : i = 0 := by omega
    subst h0
    have : 0 ∈ Region.ready .any ops listed := by
      refine mem_ready.2 ⟨hu, ops[0], by simp [hi], fun e he' hb => ?_⟩
      have hlt := (drawB_spec (i := 0) (x := ops[0]) hB (show ops[0]? = some ops[0] by simp [hi])).1 e.on (mem_preds.2 ⟨e, he', hb, rfl⟩)
      omega
    rw [he] at this
    cases this
  | succ n ih =>
    intro i hn hi hu
    by_cases hall : ∀ k ∈ preds ops[i], listed.getD k false = true
    · intro he
      have : i ∈ Region.ready .any ops listed := mem_ready.2 ⟨hu, ops[i], by simp [hi], fun e he' hb => hall e.on (mem_preds.2 ⟨e, he', hb, rfl⟩)⟩
      rw [he] at this
      cases this
    · obtain ⟨k, hk⟩ := Classical.not_forall.1 hall
      obtain ⟨hk1, hk2⟩ := Classical.not_imp.1 hk
      have hlt := (drawB_spec (i := 0) (x := ops[i]) hB (show ops[i]? = some ops[i] by simp [hi])).1 k hk1
      exact ih k (by omega) (by omega) ((listed_or hs (by omega)).resolve_right hk2)

theorem SegInv.step {listed : Array Bool} {all all' : List Nat} {early early' : Option Nat} {i : Nat} {o : Oper} (h : SegInv ops listed all early) (ho : ops[i]? = some o) (hp : ∀ k ∈ preds o, listed.getD k false = true)
    (hsub : ∀ j ∈ all', j ∈ all) (hnd : all'.Nodup) (hall : ∀ j ∈ all, j = i ∨ j ∈ all') (hin : ∀ j ∈ all', early' ≠ some j → j ≠ i ∧ early ≠ some j) (he : ∀ j, early' = some j → j ∈ all' ∧ (j = i ∨ early = some j)) : SegInv ops (listed.setIfInBounds i true) all' early' := by
  have hi : i < ops.size := (Array.getElem?_eq_some_iff.1 ho).1
  have hset : (listed.setIfInBounds i true).getD i false = true := by
    have : i < listed.size := by rw [h.size]; exact hi
    simp [this]
  refine ⟨fun j hj hn => ?_, fun j hj => ⟨(h.inn j (hsub j hj)).1, fun hne => ?_⟩, fun j oj hj hl k hk => ?_, fun j hj => ?_, hnd, by simp [h.size]⟩
  · by_cases hji : j = i
    · subst hji; exact hset
    · by_cases hja : j ∈ all
      · exact absurd (hall j hja) (by simp [hji, hn])
      · exact getD_set_true (h.out j hj hja)
  · obtain ⟨h1, h2⟩ := hin j hj hne
    rw [getD_set_ne true (Ne.symm h1)]
    exact (h.inn j (hsub j hj)).2 h2
  · by_cases hji : j = i
    · subst hji
      rw [ho] at hj
      cases hj
      exact getD_set_true (hp k hk)
    · rw [getD_set_ne false (Ne.symm hji)] at hl
      exact getD_set_true (h.clo j oj hj hl k hk)
  · obtain ⟨h1, h2⟩ := he j hj
    refine ⟨h1, ?_⟩
    rcases h2 with rfl | h2
    · exact hset
    · exact getD_set_true (h.ear j h2).2

theorem entries_spec {l : List Nat} (hb : plainOps ops l = true) : (l.flatMap (entry ops)).map (·.1) = l ∧ ∀ x ∈ l.flatMap (entry ops), ops[x.1]? = some x.2.2 ∧ isAlloc x.2.2 = false ∧ x.2.1 = 0 := by
  induction l with
  | nil => exact ⟨rfl, fun x hx => by simp at hx⟩
  | cons i l ih =>
    simp only [plainOps, List.all_cons, Bool.and_eq_true] at hb
    obtain ⟨h1, h2⟩ := ih hb.2
    have hh := hb.1
    split at hh
    · rename_i o ho
      have he : entry ops i = [(i, 0, o)] := by simp [entry, ho]
      refine ⟨by simp [he, h1], fun x hx => ?_⟩
      rw [List.flatMap_cons, he] at hx
      rcases List.mem_append.1 hx with hx | hx
      · simp at hx
        subst hx
        exact ⟨ho, by simpa using hh, rfl⟩
      · exact h2 x hx
    · cases hh

theorem sortedB_spec : ∀ {l : List Nat}, sortedB l = true → l.Pairwise (· < ·)
  | [], _ => .nil
  | i :: r, h => by
    simp only [sortedB, Bool.and_eq_true] at h
    exact List.pairwise_cons.2 ⟨fun j hj => by have := List.all_eq_true.1 h.1 j hj; simpa using this, sortedB_spec h.2⟩

structure Ahead (ops : Array Oper) (xs : List (Nat × Nat × Oper)) : Prop where
  here : ∀ x ∈ xs, ops[x.1]? = some x.2.2 ∧ isAlloc x.2.2 = false
  order : xs.Pairwise fun x y => x.1 < y.1

theorem Ahead.of {l : List Nat} (hs : sortedB l = true) (hb : plainOps ops l = true) : Ahead ops (l.flatMap (entry ops)) := by
  obtain ⟨h1, h2⟩ := entries_spec hb
  refine ⟨fun x hx => ⟨(h2 x hx).1, (h2 x hx).2.1⟩, ?_⟩
  have := sortedB_spec hs
  rw [← h1] at this
  exact List.pairwise_map.1 this

theorem Ahead.sub {pre post : List (Nat × Nat × Oper)} {x : Nat × Nat × Oper} (h : Ahead ops (pre ++ x :: post)) : Ahead ops (pre ++ post) := by
  have hsub : (pre ++ post).Sublist (pre ++ x :: post) := List.Sublist.append_left (List.sublist_cons_self x post) pre
  exact ⟨fun y hy => h.here y (hsub.subset hy), h.order.sublist hsub⟩

theorem draw_front {pre post : List (Nat × Nat × Oper)} {x : Nat × Nat × Oper} {listed : Array Bool} {K : St → Option R} (hB : drawB ops = true) (ha : Ahead ops (pre ++ x :: post)) (hg : Good E ops K r (pre ++ x :: post) [] σ) (hu : ∀ y ∈ pre, listed.getD y.1 true = false)
    (hc : ∀ (i : Nat) (o : Oper), ops[i]? = some o → listed.getD i false = true → ∀ k ∈ preds o, listed.getD k false = true) (hx : ∀ k ∈ preds x.2.2, listed.getD k false = true) :
    ∃ s, stepE E ops x σ = some s ∧ Good E ops K r (pre ++ post) [] (after x s σ) := by
  have hord := List.pairwise_append.1 ha.order
  obtain ⟨s, k1, _, k2⟩ := bubble pre [] σ hg fun y hy => by
    have h6 := (ha.here y (List.mem_append_left _ hy)).1
    have h7 := hu y hy
    have hlt := hord.2.2 y hy x List.mem_cons_self
    have hnp2 : y.1 ∉ preds2 ops x.2.2 := fun hp => by
      rcases List.mem_append.1 hp with hp | hp
      · exact getD_both h7 (hx _ hp)
      · obtain ⟨k, hk, hp⟩ := List.mem_flatMap.1 hp
        cases hz : ops[k]? with
        | none => rw [hz] at hp; cases hp
        | some z =>
          rw [hz] at hp
          exact getD_both h7 (hc k z hz (hx k hk) _ hp)
    have h2 := (ha.here x (by simp)).1
    have hnp : y.1 ∉ preds x.2.2 := fun hp => hnp2 (List.mem_append_left _ hp)
    exact ⟨hnp2, (drawB_spec hB h2).2 hlt h6 hnp⟩
  exact ⟨s, k1, k2⟩

theorem absorb {xs : List (Nat × Nat × Oper)} {listed : Array Bool} {K : St → Option R} {f : Flt} (hB : drawB ops = true) (ha : Ahead ops xs) (hg : Good E ops K r xs [] σ) (hf : FltOk E ops f o) (hb : fltB f σ = true) (hfx : f.y ∈ xs.map (·.1))
    (hu : ∀ y ∈ xs, y.1 ≠ f.y → listed.getD y.1 true = false) (hl : listed.getD f.y false = true)
    (hc : ∀ (i : Nat) (o : Oper), ops[i]? = some o → listed.getD i false = true → ∀ k ∈ preds o, listed.getD k false = true) (h : Rel w0 g σ a w) (heq : a.tmps.getD f.d undef = a.tmps.getD f.t undef) :
    ∃ pre x post σ', xs = pre ++ x :: post ∧ x.1 = f.y ∧ Good E ops K r (pre ++ post) [] σ' ∧ Rel w0 g σ' a w ∧ σ' = σ.put (some f.d) (.one (.ptr (.box f.k f.o))) := by
  obtain ⟨x, hx, hxy⟩ := List.mem_map.1 hfx
  obtain ⟨pre, post, rfl⟩ := List.append_of_mem hx
  have hord := List.pairwise_append.1 ha.order
  have hxo : x.2.2 = o := by
    have h1 := (ha.here x hx).1
    rw [hxy, hf.at_] at h1
    exact (Option.some.inj h1).symm
  obtain ⟨s, k1, k2⟩ := draw_front (listed := listed) hB ha hg (fun y hy => hu y (List.mem_append_left _ hy) (by have := hord.2.2 y hy x List.mem_cons_self; omega)) hc (by rw [hxo]; exact hc f.y o hf.at_ hl)
  obtain ⟨s', m1, m2⟩ := flt_step (E := E) (ops := ops) hf hb
  have hst : stepE E ops x σ = stepE E ops (f.y, 0, o) σ := by
    obtain ⟨x1, x2, x3⟩ := x
    dsimp only at hxy hxo
    subst hxy; subst hxo
    have hna := (ha.here (f.y, x2, x3) hx).2
    obtain ⟨t, ty, hop, _⟩ := hf.op
    have hk : kind E x3 σ = .q := by simp [kind, hop]
    unfold stepE guardT goE
    rw [hf.guard]
    simp only [hk, stepD]
    rfl
  rw [hst, m1] at k1
  have hss : s' = s := Option.some.inj k1
  subst hss
  have haf : after x s' σ = after (f.y, 0, o) s' σ := by unfold after; rw [hxo]
  rw [haf, m2] at k2
  refine ⟨pre, x, post, _, rfl, hxy, k2, h.know ?_, rfl⟩
  rw [heq]
  have := h.get f.t
  rw [(fltB_spec hb).2.2.1] at this
  exact this

theorem hasPred_spec {j i : Nat} (h : hasPred ops j i = true) (ho : ops[j]? = some o) : i ∈ preds o ∨ ∃ k ∈ preds o, ∃ z, ops[k]? = some z ∧ i ∈ preds z := by
  unfold hasPred at h
  rw [ho] at h
  simp only [List.contains_iff_mem] at h
  rcases List.mem_append.1 h with h | h
  · exact .inl h
  · obtain ⟨k, hk, h⟩ := List.mem_flatMap.1 h
    cases hz : ops[k]? with
    | none => rw [hz] at h; cases h
    | some z => rw [hz] at h; exact .inr ⟨k, hk, z, hz, h⟩

theorem pred_listed {listed : Array Bool} {j i : Nat} (hc : ∀ (i : Nat) (o : Oper), ops[i]? = some o → listed.getD i false = true → ∀ k ∈ preds o, listed.getD k false = true) (h : hasPred ops j i = true) (ho : ops[j]? = some o) (hr : ∀ k ∈ preds o, listed.getD k false = true) : listed.getD i false = true := by
  rcases hasPred_spec h ho with h | ⟨k, hk, z, hz, h⟩
  · exact hr i h
  · exact hc k z hz (hr k hk) i h

theorem seg_last (hE : EnvOk P E) (hB : drawB ops = true) {b : Nat} {K : St → Option R} (hn : Then' w0 b K r (Q .normal)) {fuel : Nat} {listed : Array Bool} {xs : List (Nat × Nat × Oper)} (h : Rel w0 g σ a w) (hb : g.base = b) (ha : Ahead ops xs) (hg : Good E ops K r xs [] σ)
    (hi : SegInv ops listed (xs.map (·.1)) none) (hf : xs.length ≤ fuel) : wpAny P .any ops Q fuel listed a w := by
  refine any_sound hE hB hn fuel listed xs g σ a w h hb ⟨fun x hx => ⟨(ha.here x hx).1, ?_⟩, ?_, fun i o ho => ?_, fun x hx hal => ?_, hi.clo⟩ hf hg
  · exact (hi.inn x.1 (List.mem_map.2 ⟨x, hx, rfl⟩)).2 (by simp)
  · refine List.Pairwise.imp_of_mem ?_ ha.order
    intro x y hx hy hlt
    exact ⟨hlt, fun hal => by rw [(ha.here x hx).2] at hal; cases hal⟩
  · by_cases hx : i ∈ xs.map (·.1)
    · obtain ⟨x, h1, h2⟩ := List.mem_map.1 hx
      exact .inr ⟨x, h1, h2⟩
    · exact .inl (hi.out i (Array.getElem?_eq_some_iff.1 ho).1 hx)
  · rw [(ha.here x hx).2] at hal; cases hal

def segK (C : XCtx R) (call : Nat → Caller R) (ops : Array Oper) (s : Seg) (ss : List Seg) (last : List Nat) (K : St → Option R) (σ1 : St) : Option R := match ops[s.x]? with
  | some o => match o.guard with
    | none => evX C (call s.x) o σ1 fun σ2 => cond (fltO s.fl σ2) (evSegs C call ops ss last σ2 K) none
    | some _ => none
  | none => none

def Behind (P : Program) (C : XCtx R) (call : Nat → Caller R) (ops : Array Oper) (Q : Exit → Act → World → Prop) (w0 : Org) (K : St → Option R) (r : R) (b : Nat) (ss : List Seg) (last : List Nat) : Prop :=
  ∀ (fuel : Nat) (listed : Array Bool) (ef : Option Flt) (g : Gh) (σ : St) (a : Act) (w : World), Rel w0 g σ a w → g.base = b → evSegs C call ops ss last σ K = some r → SegInv ops listed (segsAll ss last) (ef.map (·.y)) →
    (∀ f, ef = some f → f.y ∈ segsNext ss last ∧ (∃ o, FltOk C.E ops f o) ∧ fltB f σ = true ∧ a.tmps.getD f.d undef = a.tmps.getD f.t undef) → (segsAll ss last).length ≤ fuel + (match ef with | some _ => 1 | none => 0) → wpAny P .any ops Q fuel listed a w

theorem seg_main (hX : XOk P C) {call : Nat → Caller R} (hcall : ∀ i, CallOk P C (call i)) (hB : drawB ops = true) {b : Nat} {K : St → Option R} {s : Seg} {ss : List Seg} {last : List Nat}
    (hpre : ∀ i ∈ s.pre, hasPred ops s.x i = true) (hlat : ∀ j ∈ segsAll ss last, hasPred ops j s.x = true ∨ ∃ f, s.fl = some f ∧ f.y = j)
    (hfl : ∀ f, s.fl = some f → (∃ o, FltOk C.E ops f o) ∧ (∀ i ∈ s.pre, ∀ o, ops[i]? = some o → quietOp o = true ∧ dstNot o [f.d, f.a, f.t] = true) ∧ (∀ o, ops[s.x]? = some o → dstNot o [f.d, f.a, f.t] = true) ∧ f.y ∈ segsNext ss last)
    (hnext : Behind P C call ops Q w0 K r b ss last) : ∀ (fuel : Nat) (listed : Array Bool) (xs : List (Nat × Nat × Oper)) (ef : Option Flt) (g : Gh) (σ : St) (a : Act) (w : World),
    Rel w0 g σ a w → g.base = b → Ahead ops xs → (∀ x ∈ xs, x.1 ∈ s.pre) → Good C.E ops (segK C call ops s ss last K) r xs [] σ → SegInv ops listed (xs.map (·.1) ++ s.x :: segsAll ss last) (ef.map (·.y)) →
    (∀ f, s.fl = some f → fltB f σ = true) → (ef = none ∨ ef = s.fl) → (∀ f, ef = some f → a.tmps.getD f.d undef = a.tmps.getD f.t undef) → xs.length + 1 + (segsAll ss last).length ≤ fuel + (match ef with | some _ => 1 | none => 0) → wpAny P .any ops Q fuel listed a w := by
  intro fuel
  induction fuel with
  | zero =>
    intro listed xs ef g σ a w h hb ha hxp hg hi hfb hef heq hf
    exfalso
    cases ef with
    | none => simp at hf
    | some f =>
      have h1 : s.fl = some f := by rcases hef with h | h; cases h; exact h.symm
      have h2 := (hfl f h1).2.2.2
      have h3 : f.y ∈ segsAll ss last := by
        cases ss with
        | nil => exact h2
        | cons s' ss' => exact List.mem_append_left _ h2
      have := List.length_pos_of_mem h3
      simp at hf
      omega
  | succ fuel ih =>
    intro listed xs ef g σ a w h hb ha hxp hg hi hfb hef heq hf
    have hxnot : s.x ∉ xs.map (·.1) ∧ s.x ∉ segsAll ss last := by
      have := hi.nodup
      rw [List.nodup_append] at this
      obtain ⟨_, n2, n3⟩ := this
      exact ⟨fun hm => n3 _ hm _ List.mem_cons_self rfl, (List.nodup_cons.1 n2).1⟩
    have hfm : ∀ f, s.fl = some f → f.y ∈ segsAll ss last := fun f h1 => by
      have h2 := (hfl f h1).2.2.2
      cases ss with
      | nil => exact h2
      | cons s' ss' => exact List.mem_append_left _ h2
    have hefm : ∀ f, ef = some f → f.y ∈ segsAll ss last := fun f h1 => hfm f (by rcases hef with h | h; rw [h] at h1; cases h1; rw [← h]; exact h1)
    have hndx : ∀ i ∈ xs.map (·.1), i ∉ segsAll ss last := fun i h1 h2 => by
      have := hi.nodup
      rw [List.nodup_append] at this
      exact this.2.2 i h1 i (List.mem_cons_of_mem _ h2) rfl
    have hxl : listed.getD s.x true = false := (hi.inn s.x (by simp)).2 (fun e => by
      cases hh : ef with
      | none => rw [hh] at e; cases e
      | some f =>
        rw [hh] at e
        simp only [Option.map_some, Option.some.injEq] at e
        exact hxnot.2 (e ▸ hefm f hh))
    have hux : ∀ x ∈ xs, listed.getD x.1 true = false := fun x hx => (hi.inn x.1 (List.mem_append_left _ (List.mem_map.2 ⟨x, hx, rfl⟩))).2 (fun e => by
      cases hh : ef with
      | none => rw [hh] at e; cases e
      | some f =>
        rw [hh] at e
        simp only [Option.map_some, Option.some.injEq] at e
        exact hndx x.1 (List.mem_map.2 ⟨x, hx, rfl⟩) (e ▸ hefm f hh))
    have hxs : s.x < ops.size := (hi.inn s.x (by simp)).1
    refine ⟨fun hr => absurd hr (ready_some hi.size hB s.x s.x (Nat.le_refl _) hxs hxl), fun i hir => ?_⟩
    obtain ⟨hu, o, ho, hpr⟩ := mem_ready.1 hir
    have hdir : ∀ k ∈ preds o, listed.getD k false = true := fun k hk => by
      obtain ⟨e, he, hbd, hon⟩ := mem_preds.1 hk
      exact hon ▸ hpr e he hbd
    have hio : i < ops.size := (Array.getElem?_eq_some_iff.1 ho).1
    by_cases hall : i ∈ xs.map (·.1) ++ s.x :: segsAll ss last
    case neg => exact (getD_both hu (hi.out i hio hall)).elim
    have hnear : (ef.map (·.y)) ≠ some i := fun e => getD_both hu (hi.ear i e).2
    rcases List.mem_append.1 hall with hm | hm
    · -- a simple operation
      obtain ⟨x, hx, rfl⟩ := List.mem_map.1 hm
      obtain ⟨pre, post, rfl⟩ := List.append_of_mem hx
      have hxo : ops[x.1]? = some x.2.2 := (ha.here x hx).1
      rw [hxo] at ho
      cases ho
      obtain ⟨st, k1, k2⟩ := draw_front hB ha hg (fun y hy => hux y (List.mem_append_left _ hy)) hi.clo hdir
      have hq := hxp x hx
      have hsub : (pre ++ post).Sublist (pre ++ x :: post) := List.Sublist.append_left (List.sublist_cons_self x post) pre
      have hord := List.pairwise_append.1 ha.order
      have hne : ∀ y ∈ pre ++ post, y.1 ≠ x.1 := fun y hy => by
        rcases List.mem_append.1 hy with hy | hy
        · exact Nat.ne_of_lt (hord.2.2 y hy x List.mem_cons_self)
        · exact Nat.ne_of_gt ((List.pairwise_cons.1 hord.2.1).1 y hy)
      refine wpOp_mono (fun a' w' hh => ?_) (wpOp_put hxo (step_sound (next := fun a' w' => ∃ g', Rel w0 g' (after x st σ) a' w' ∧ g'.base = g.base) hX.env h k1 hxo (fun hal => by rw [(ha.here x hx).2] at hal; cases hal) fun g' a' w' m1 m2 _ => ⟨g', m1, m2⟩))
      obtain ⟨hp, g', m1, m2⟩ := hh
      refine ih _ (pre ++ post) ef g' _ a' w' m1 (m2.trans hb) ha.sub (fun y hy => hxp y (hsub.subset hy)) k2 ?_ (fun f hff => ?_) hef (fun f hff => ?_) (by simp at hf ⊢; omega)
      · refine hi.step hxo hdir (fun j hj => ?_) ?_ (fun j hj => ?_) (fun j hj hne' => ⟨fun e => ?_, hne'⟩) (fun j hj => ⟨?_, .inr hj⟩)
        · rcases List.mem_append.1 hj with hj | hj
          · exact List.mem_append_left _ ((hsub.map _).subset hj)
          · exact List.mem_append_right _ hj
        · exact hi.nodup.sublist (List.Sublist.append_right (hsub.map _) _)
        · rcases List.mem_append.1 hj with hj | hj
          · obtain ⟨y, hy, rfl⟩ := List.mem_map.1 hj
            by_cases hyx : y.1 = x.1
            · exact .inl hyx
            · right
              refine List.mem_append_left _ (List.mem_map.2 ⟨y, ?_, rfl⟩)
              rcases List.mem_append.1 hy with hy | hy
              · exact List.mem_append_left _ hy
              · rcases List.mem_cons.1 hy with rfl | hy
                · exact absurd rfl hyx
                · exact List.mem_append_right _ hy
          · exact .inr (List.mem_append_right _ hj)
        · subst e
          rcases List.mem_append.1 hj with hj | hj
          · obtain ⟨y, hy, he⟩ := List.mem_map.1 hj
            exact hne y hy he
          · rcases List.mem_cons.1 hj with e | hj
            · exact hxnot.1 (e ▸ hm)
            · exact hndx _ hm hj
        · cases hh : ef with
          | none => rw [hh] at hj; cases hj
          | some f =>
            rw [hh] at hj
            simp only [Option.map_some, Option.some.injEq] at hj
            exact List.mem_append_right _ (List.mem_cons_of_mem _ (hj ▸ hefm f hh))
      · obtain ⟨q1, q2⟩ := (hfl f hff).2.1 x.1 hq x.2.2 hxo
        exact fltB_after q1 q2 k1 (hfb f hff)
      · have hsf : s.fl = some f := by rcases hef with h | h; rw [h] at hff; cases hff; rw [← h]; exact hff
        obtain ⟨q1, q2⟩ := (hfl f hsf).2.1 x.1 hq x.2.2 hxo
        rw [hp f.d (dstNot_spec q2 (by simp)), hp f.t (dstNot_spec q2 (by simp))]
        exact heq f hff
    · rcases List.mem_cons.1 hm with rfl | hm
      · -- the great one
        have hx0 : xs = [] := by
          cases xs with
          | nil => rfl
          | cons x rest => exact (getD_both (hux x List.mem_cons_self) (pred_listed hi.clo (hpre x.1 (hxp x List.mem_cons_self)) ho hdir)).elim
        subst hx0
        have hk : segK C call ops s ss last K σ = some r := hg
        unfold segK at hk
        rw [ho] at hk
        dsimp only at hk
        split at hk
        case h_2 => cases hk
        rename_i hgd
        unfold wpOp
        rw [ho]
        dsimp only
        rw [if_pos (by simp [Region.wanted, hgd])]
        left
        have hev := evX_sound (next := fun a' w' => (∀ f, ef = some f → a'.tmps.getD f.d undef = a'.tmps.getD f.t undef) → wpAny P .any ops Q fuel (listed.setIfInBounds s.x true) a' w') (Q := Q) hX (hcall s.x) h hk ?_
        · refine Oper.wp_mono (fun a' w' hh => ?_) (wp_put hev)
          obtain ⟨hp, hh⟩ := hh
          refine hh fun f hff => ?_
          have hsf : s.fl = some f := by rcases hef with h | h; rw [h] at hff; cases hff; rw [← h]; exact hff
          have q2 := (hfl f hsf).2.2.1 o ho
          rw [hp f.d (dstNot_spec q2 (by simp)), hp f.t (dstNot_spec q2 (by simp))]
          exact heq f hff
        · intro g2 σ2 a2 w2 s1 s2 s3 heq2
          dsimp only at s2
          cases hfo : fltO s.fl σ2 with
          | false => rw [hfo] at s2; cases s2
          | true =>
            rw [hfo] at s2
            refine hnext fuel _ ef g2 σ2 a2 w2 s1 (s3.trans hb) s2 ?_ (fun f hff => ?_) (by simp at hf; omega)
            · refine hi.step ho hdir (fun j hj => by simp [hj]) (by have := hi.nodup; simp at this; exact this.2) (fun j hj => by simpa using hj) (fun j hj hne' => ⟨fun e => hxnot.2 (e ▸ hj), hne'⟩) (fun j hj => ⟨?_, .inr hj⟩)
              cases hh : ef with
              | none => rw [hh] at hj; cases hj
              | some f =>
                rw [hh] at hj
                simp only [Option.map_some, Option.some.injEq] at hj
                exact hj ▸ hefm f hh
            · have hsf : s.fl = some f := by rcases hef with h | h; rw [h] at hff; cases hff; rw [← h]; exact hff
              rw [hsf] at hfo
              exact ⟨(hfl f hsf).2.2.2, (hfl f hsf).1, hfo, heq2 f hff⟩
      · -- one that is read early
        rcases hlat i hm with hp | ⟨f, hsf, hfy⟩
        · exact (getD_both hxl (pred_listed hi.clo hp ho hdir)).elim
        · subst hfy
          have hen : ef = none := by
            rcases hef with h | h
            · exact h
            · rw [h, hsf] at hnear; simp at hnear
          subst hen
          obtain ⟨o', hfok⟩ := (hfl f hsf).1
          have hoo : o' = o := by have := hfok.at_; rw [ho] at this; exact (Option.some.inj this).symm
          subst hoo
          have hfb' := hfb f hsf
          obtain ⟨st, k1, k2⟩ := flt_step (E := C.E) (ops := ops) hfok hfb'
          obtain ⟨b1, b2, b3, b4, b5, b6⟩ := fltB_spec hfb'
          refine step_sound hX.env h k1 ho (fun hal => ?_) fun g' a' w' m1 m2 _ => ?_
          · obtain ⟨t, ty, hop, _⟩ := hfok.op
            simp [isAlloc, hop] at hal
          · rw [k2] at m1
            have hfact : a'.tmps.getD f.d undef = a'.tmps.getD f.t undef := by
              have e1 := m1.get f.d
              rw [put_get, if_pos ⟨rfl, b5, b6⟩] at e1
              have e2 := m1.get f.t
              rw [put_get, if_neg (fun e => hfok.ne.1 (Option.some.inj e.1)), b3] at e2
              exact ptr_val e1 e2
            have hback : Rel w0 g' σ a' w' := by
              have := m1.know (t := f.d) (p := .junk) (.inl rfl)
              rw [put_back b4 b5 b6] at this
              exact this
            refine ih _ xs (some f) g' σ a' w' hback (m2.trans hb) ha hxp hg ?_ hfb (.inr hsf.symm) (fun f' hf' => by cases hf'; exact hfact) (by simp at hf ⊢; omega)
            refine hi.step ho hdir (fun j hj => hj) hi.nodup (fun j hj => .inr hj) (fun j hj hne' => ⟨fun e => hne' (by rw [e]; rfl), by simp⟩) (fun j hj => ?_)
            simp only [Option.map_some, Option.some.injEq] at hj
            subst hj
            exact ⟨hall, .inl rfl⟩

theorem SegInv.absorbed {listed : Array Bool} {pre post : List (Nat × Nat × Oper)} {x : Nat × Nat × Oper} {rest : List Nat} (h : SegInv ops listed ((pre ++ x :: post).map (·.1) ++ rest) (some x.1)) : SegInv ops listed ((pre ++ post).map (·.1) ++ rest) none := by
  have hmem : ∀ i, i ∈ (pre ++ x :: post).map (·.1) ++ rest ↔ i = x.1 ∨ i ∈ (pre ++ post).map (·.1) ++ rest := fun i => by
    simp only [List.map_append, List.map_cons, List.mem_append, List.mem_cons]
    constructor
    · rintro ((h | h | h) | h)
      · exact .inr (.inl (.inl h))
      · exact .inl h
      · exact .inr (.inl (.inr h))
      · exact .inr (.inr h)
    · rintro (h | (h | h) | h)
      · exact .inl (.inr (.inl h))
      · exact .inl (.inl h)
      · exact .inl (.inr (.inr h))
      · exact .inr h
  have hnd : x.1 ∉ (pre ++ post).map (·.1) ++ rest := by
    have := h.nodup
    simp only [List.map_append, List.map_cons, List.append_assoc, List.cons_append] at this
    rw [List.nodup_append] at this
    obtain ⟨_, n2, n3⟩ := this
    have n4 := (List.nodup_cons.1 n2).1
    intro hm
    simp only [List.map_append, List.append_assoc, List.mem_append] at hm
    rcases hm with hm | hm
    · exact n3 _ hm _ List.mem_cons_self rfl
    · exact n4 (List.mem_append.2 hm)
  have hsub : ((pre ++ post).map (·.1) ++ rest).Sublist ((pre ++ x :: post).map (·.1) ++ rest) := List.Sublist.append_right ((List.Sublist.append_left (List.sublist_cons_self x post) pre).map _) _
  refine ⟨fun i hi hn => ?_, fun i hi => ⟨(h.inn i (hsub.subset hi)).1, fun _ => (h.inn i (hsub.subset hi)).2 fun e => ?_⟩, h.clo, fun i hi => (by cases hi), h.nodup.sublist hsub, h.size⟩
  · by_cases hx : i = x.1
    · subst hx; exact (h.ear _ rfl).2
    · exact h.out i hi fun hm => ((hmem i).1 hm).elim hx hn
  · exact hnd (Option.some.inj e ▸ hi)

theorem behind (hX : XOk P C) {call : Nat → Caller R} (hcall : ∀ i, CallOk P C (call i)) (hB : drawB ops = true) {b : Nat} {K : St → Option R} {last : List Nat} (hn : Then' w0 b K r (Q .normal)) : ∀ (ss : List Seg), segsB C.E ops ss last = true → Behind P C call ops Q w0 K r b ss last := by
  intro ss
  induction ss with
  | nil =>
    intro hs fuel listed ef g σ a w h hb hk hi hef hf
    simp only [segsB, Bool.and_eq_true] at hs
    have ha := Ahead.of hs.1 hs.2
    obtain ⟨e1, e2⟩ := entries_spec hs.2
    simp only [evSegs] at hk
    have hg := good_of _ _ _ hk
    simp only [segsAll] at hi hf
    rw [← e1] at hi
    cases ef with
    | none => exact seg_last hX.env hB hn h hb ha hg hi (by rw [← e1] at hf; simpa using hf)
    | some f =>
      obtain ⟨f1, ⟨o, f2⟩, f3, f4⟩ := hef f rfl
      simp only [segsNext] at f1
      obtain ⟨pre, x, post, σ', q1, q2, q3, q4, q5⟩ := absorb (listed := listed) hB ha hg f2 f3 (by rw [e1]; exact f1) (fun y hy hne => (hi.inn y.1 (List.mem_map.2 ⟨y, hy, rfl⟩)).2 (fun e => hne (by simpa using e.symm))) (hi.ear f.y rfl).2 hi.clo h f4
      rw [q1] at hi ha
      have hi2 : SegInv ops listed ((pre ++ x :: post).map (·.1) ++ []) (some x.1) := by rw [List.append_nil, q2]; exact hi
      have hi3 := hi2.absorbed
      rw [List.append_nil] at hi3
      refine seg_last hX.env hB hn q4 hb ha.sub q3 hi3 ?_
      rw [← e1, q1] at hf
      simp at hf ⊢
      omega
  | cons s ss ih =>
    intro hs fuel listed ef g σ a w h hb hk hi hef hf
    simp only [segsB, Bool.and_eq_true] at hs
    obtain ⟨⟨⟨⟨⟨s1, s2⟩, s3⟩, s4⟩, s5⟩, s6⟩ := hs
    have ha := Ahead.of s1 s2
    obtain ⟨e1, e2⟩ := entries_spec s2
    simp only [evSegs] at hk
    cases hfo : fltO s.fl σ with
    | false => rw [hfo] at hk; cases hk
    | true =>
      rw [hfo, cond_true] at hk
      have hg : Good C.E ops (segK C call ops s ss last K) r (s.pre.flatMap (entry ops)) [] σ := good_of _ _ _ hk
      have hfl : ∀ f, s.fl = some f → (∃ o, FltOk C.E ops f o) ∧ (∀ i ∈ s.pre, ∀ o, ops[i]? = some o → quietOp o = true ∧ dstNot o [f.d, f.a, f.t] = true) ∧ (∀ o, ops[s.x]? = some o → dstNot o [f.d, f.a, f.t] = true) ∧ f.y ∈ segsNext ss last := fun f hff => by
        rw [hff] at s5
        simp only [Bool.and_eq_true] at s5
        obtain ⟨k1, k2, k3⟩ := fltOp_spec s5.1
        exact ⟨k1, k2, k3, by simpa using s5.2⟩
      have hmain := seg_main (Q := Q) (r := r) hX hcall hB (K := K) (b := b) (fun i hi => List.all_eq_true.1 s3 i hi) (fun j hj => by
        have := List.all_eq_true.1 s4 j hj
        simp only [Bool.or_eq_true] at this
        rcases this with h | h
        · exact .inl h
        · split at h
          · rename_i f hff; exact .inr ⟨f, hff, by simpa using h⟩
          · cases h) hfl (ih s6)
      have hxp : ∀ x ∈ s.pre.flatMap (entry ops), x.1 ∈ s.pre := fun x hx => by rw [← e1]; exact List.mem_map.2 ⟨x, hx, rfl⟩
      simp only [segsAll] at hi hf
      have hi' : SegInv ops listed ((s.pre.flatMap (entry ops)).map (·.1) ++ s.x :: segsAll ss last) (ef.map (·.y)) := by rw [e1]; exact hi
      have hlen : (s.pre.flatMap (entry ops)).length = s.pre.length := by rw [← List.length_map (·.1), e1]
      have hfb : ∀ f, s.fl = some f → fltB f σ = true := fun f hff => by rw [hff] at hfo; exact hfo
      cases ef with
      | none =>
        refine hmain fuel listed _ none g σ a w h hb ha hxp hg hi' hfb (.inl rfl) (fun f hff => by cases hff) ?_
        simp only [List.length_append, List.length_cons] at hf
        rw [hlen]
        omega
      | some f =>
        obtain ⟨f1, ⟨o, f2⟩, f3, f4⟩ := hef f rfl
        simp only [segsNext] at f1
        have hnd : ∀ y ∈ s.pre.flatMap (entry ops), y.1 ≠ f.y → listed.getD y.1 true = false := fun y hy hne => (hi'.inn y.1 (List.mem_append_left _ (List.mem_map.2 ⟨y, hy, rfl⟩))).2 (fun e => hne (by simpa using e.symm))
        obtain ⟨pre, x, post, σ', q1, q2, q3, q4, q5⟩ := absorb (listed := listed) hB ha hg f2 f3 (by rw [e1]; exact f1) hnd (hi.ear f.y rfl).2 hi.clo h f4
        rw [q1] at hi' ha hxp hlen
        have hi2 : SegInv ops listed ((pre ++ x :: post).map (·.1) ++ s.x :: segsAll ss last) (some x.1) := by rw [q2]; exact hi'
        have hsub : (pre ++ post).Sublist (pre ++ x :: post) := List.Sublist.append_left (List.sublist_cons_self x post) pre
        refine hmain fuel listed _ none g σ' a w q4 hb ha.sub (fun y hy => hxp y (hsub.subset hy)) q3 hi2.absorbed (fun f' hff => ?_) (.inl rfl) (fun f hff => by cases hff) ?_
        · rw [q5]
          obtain ⟨_, k2⟩ := (hfl f' hff).2.1 f.y f1 o f2.at_
          exact fltB_put (fun t ht => by rw [← f2.dst]; exact dstNot_spec k2 ht) (hfb f' hff)
        · simp only [List.length_append, List.length_cons] at hf hlen ⊢
          omega

theorem nodupB_spec : ∀ {l : List Nat}, nodupB l = true → l.Nodup
  | [], _ => .nil
  | i :: r, h => by
    simp only [nodupB, Bool.and_eq_true] at h
    refine List.nodup_cons.2 ⟨fun hm => ?_, nodupB_spec h.2⟩
    have := List.all_eq_true.1 h.1 i hm
    simp at this

theorem segs_sound (hX : XOk P C) {call : Nat → Caller R} (hcall : ∀ i, CallOk P C (call i)) {id : Nat} {ss : List Seg} {last : List Nat} (h : Rel w0 g σ a w) (hB : barB C.E ops ss last = true) (hk : evSegs C call ops ss last σ K = some r) (hn : Then' w0 g.base K r (Q .normal)) : (Code.region id ops true).wp P Q a w := by
  simp only [barB, Bool.and_eq_true, Nat.beq_eq] at hB
  obtain ⟨hdr, hsg, hnd, hlt, hlen⟩ := hB
  have hnd := nodupB_spec hnd
  refine wp_region_any hX.mixed ?_
  have h1 : Rel w0 { g with Fr := g.Fr } σ a { w with drawn := w.drawn + 1 } :=
    (h.grow (w' := { w with drawn := w.drawn + 1 }) ⟨rfl, rfl, rfl, Nat.le_refl _, fun _ _ => rfl⟩ g.Fr (fun _ h => h) (fun _ h => .inl h) h.lt).1
  refine behind (b := g.base) hX hcall hdr hn ss hsg ops.size _ none _ σ a _ h1 rfl hk ?_ (fun f hf => by cases hf) (by rw [hlen]; exact Nat.le_refl _)
  have hlt' : ∀ i ∈ segsAll ss last, i < ops.size := fun i hi => by have := List.all_eq_true.1 hlt i hi; simpa using this
  have hall : ∀ i, i < ops.size → i ∈ segsAll ss last := by
    intro i hi
    by_cases hm : i ∈ segsAll ss last
    · exact hm
    · exfalso
      have hsub : segsAll ss last ⊆ (List.range ops.size).erase i := fun j hj => by
        have hne : j ≠ i := fun e => hm (by rw [← e]; exact hj)
        exact (List.mem_erase_of_ne hne).2 (List.mem_range.2 (hlt' j hj))
      have := List.Nodup.length_le_of_subset hnd hsub
      rw [List.length_erase_of_mem (List.mem_range.2 hi), List.length_range] at this
      omega
  refine ⟨fun i hi hn => absurd (hall i hi) hn, fun i hi => ⟨hlt' i hi, fun _ => ?_⟩, fun i o ho hl k hk => ?_, fun i hi => (by cases hi), hnd, by simp⟩
  · have := hlt' i hi
    simp [this]
  · have := (Array.getElem?_eq_some_iff.1 ho).1
    simp [this] at hl

end Go.V

/- The whole code of a function, those that it calls in place among it. -/
namespace Go.V
open Go.RowKit

variable {P : Program} {E : Env} {w0 : Org} {g g' : Gh} {σ τ : St} {a : Act} {w : World} {o : Oper} {R : Type} {K : St → Option R} {r : R} {next : Act → World → Prop} {Q : Exit → Act → World → Prop} {C : XCtx R}

theorem back_eq (m : XMark R) (E : Env) (F : St → Option R) (y : m.rets.D) : m.back E F y = if m.rt = true then F (injectX E m.rets y) else none := by
  cases m with
  | mk ins outs rets ex top rt f => cases rt <;> rfl

inductive At (root : Code) : Nat → Code → Prop
  | root : At root 1 root
  | seqL {p a b} : At root p (.seq a b) → At root (2 * p) a
  | seqR {p a b} : At root p (.seq a b) → At root (2 * p + 1) b
  | condL {p c a b} : At root p (.cond c a b) → At root (2 * p) a
  | condR {p c a b} : At root p (.cond c a b) → At root (2 * p + 1) b
  | block {p i b} : At root p (.block i b) → At root (2 * p) b
  | loop {p b} : At root p (.loop b) → At root (2 * p) b

def subC : List Bool → Code → Code
  | [], c => c
  | b :: r, .seq x y => subC r (cond b y x)
  | b :: r, .cond _ x y => subC r (cond b y x)
  | _ :: r, .block _ x => subC r x
  | _ :: r, .loop x => subC r x
  | _, c => c

def child (b : Bool) : Code → Code
  | .seq x y => cond b y x
  | .cond _ x y => cond b y x
  | .block _ x => x
  | .loop x => x
  | c => c

theorem subC_snoc (b : Bool) : ∀ (l : List Bool) (c : Code), subC (l ++ [b]) c = child b (subC l c)
  | [], c => by cases c <;> rfl
  | d :: l, c => by
    cases c with
    | seq x y => exact subC_snoc b l _
    | cond z x y => exact subC_snoc b l _
    | block i x => exact subC_snoc b l _
    | loop x => exact subC_snoc b l _
    | _ => rfl

def posN (l : List Bool) : Nat := l.foldl (fun n b => 2 * n + cond b 1 0) 1

theorem posN_snoc (l : List Bool) (b : Bool) : posN (l ++ [b]) = 2 * posN l + cond b 1 0 := by simp [posN]

theorem snocRec {p : List Bool → Prop} (h0 : p []) (h1 : ∀ l b, p l → p (l ++ [b])) (l : List Bool) : p l := by
  have key : ∀ n (l : List Bool), l.length = n → p l := by
    intro n
    induction n with
    | zero => intro l hl; rw [List.eq_nil_of_length_eq_zero hl]; exact h0
    | succ n ih =>
      intro l hl
      rcases List.eq_nil_or_concat l with rfl | ⟨l', b, rfl⟩
      · cases hl
      · simp at hl
        rw [List.concat_eq_append]
        exact h1 l' b (ih l' hl)
  exact key _ l rfl

theorem posN_pos (l : List Bool) : 1 ≤ posN l := by
  induction l using snocRec with
  | h0 => exact Nat.le_refl 1
  | h1 l b ih => rw [posN_snoc]; omega

theorem At.pos {root : Code} {p : Nat} {c : Code} (h : At root p c) : 1 ≤ p := by
  induction h <;> omega

theorem At.inv {root : Code} {p : Nat} {c : Code} (h : At root p c) : (p = 1 ∧ c = root) ∨ ∃ q d b, At root q d ∧ p = 2 * q + cond b 1 0 ∧ c = child b d := by
  cases h with
  | root => exact .inl ⟨rfl, rfl⟩
  | seqL h => exact .inr ⟨_, _, false, h, rfl, rfl⟩
  | seqR h => exact .inr ⟨_, _, true, h, rfl, rfl⟩
  | condL h => exact .inr ⟨_, _, false, h, rfl, rfl⟩
  | condR h => exact .inr ⟨_, _, true, h, rfl, rfl⟩
  | block h => exact .inr ⟨_, _, false, h, rfl, rfl⟩
  | loop h => exact .inr ⟨_, _, false, h, rfl, rfl⟩

theorem At.sub {root : Code} : ∀ (l : List Bool) {c : Code}, At root (posN l) c → subC l root = c := by
  intro l
  induction l using snocRec with
  | h0 =>
    intro c h
    rcases h.inv with ⟨_, rfl⟩ | ⟨q, d, b, h1, h2, _⟩
    · rfl
    · have := h1.pos
      have h2 : 1 = 2 * q + cond b 1 0 := h2
      cases b <;> simp at h2 <;> omega
  | h1 l b ih =>
    intro c h
    rw [posN_snoc] at h
    have hp := posN_pos l
    rcases h.inv with ⟨h1, _⟩ | ⟨q, d, b', h1, h2, rfl⟩
    · omega
    · have hb : b = b' ∧ posN l = q := by cases b <;> cases b' <;> simp at h2 ⊢ <;> omega
      obtain ⟨rfl, rfl⟩ := hb
      rw [subC_snoc, ih h1]

def rootOf (C : XCtx R) : List Fr → Option Code
  | [] => some C.root
  | x :: _ => match look C.E.inl x.f with
    | some fn => fn.body
    | none => none

def markHolds (C : XCtx R) (ctx : List Fr) (q : Nat) (m : XMark R) (b : Code) : Prop :=
  ∀ x Kx Rx, (m.f C.N 0 x Kx Rx = none ∧ ∀ k, m.f C.N (k + 1) x Kx Rx = evS C (evCall C (C.D - ctx.length)) ctx q b (injectX C.E m.ins x) (fun e σ' => match e with
    | none => match extractX C.E m.ins σ' with
      | some x' => m.f C.N k x' Kx Rx
      | none => none
    | some id => if m.ex = some id then match extractX C.E m.outs σ' with
      | some y => Kx y
      | none => none
      else none) (match m.top with
        | true => C.fin
        | false => fun σ' => match extractX C.E m.rets σ' with
          | some y => Rx y
          | none => none))

def joinHolds (C : XCtx R) (ctx : List Fr) (q : Nat) (m : XMark R) (b : Code) : Prop :=
  ∀ x Kx Rx, m.f C.N 0 x Kx Rx = evS C (evCall C (C.D - ctx.length)) ctx q b (injectX C.E m.ins x) (fun e σ' => if e = m.ex then match extractX C.E m.outs σ' with
      | some y => Kx y
      | none => none
      else none) (match m.top with
        | true => C.fin
        | false => fun σ' => match extractX C.E m.rets σ' with
          | some y => Rx y
          | none => none)

def Marks (C : XCtx R) : Prop := ∀ (ctx : List Fr) (q : Nat) (m : XMark R), lookP C.marks (q, ctx) = some m → ctx.length ≤ C.D → (m.top = true ↔ ctx = []) ∧ ∀ root, rootOf C ctx = some root →
  (∀ b, At root q b → (∀ p, q = 2 * p + 1 → joinHolds C ctx q m b) ∧ (∀ p, q = 2 * p → markHolds C ctx q m b))

theorem evS_sound (hX : XOk P C) (hM : Marks C) {ctx : List Fr} (hctx : ctx.length ≤ C.D) {root : Code} (hroot : rootOf C ctx = some root) (hcall : ∀ i p, CallOk P C (fun f => evCall C (C.D - ctx.length) ({ f, i, p } :: ctx) f)) :
    ∀ (c : Code) (p : Nat) (K : Option Nat → St → Option R) (F : St → Option R) (Q : Exit → Act → World → Prop) {g : Gh} {σ : St} {a : Act} {w : World}, At root p c → (ctx = [] → F = C.fin) → Rel w0 g σ a w → evS C (evCall C (C.D - ctx.length)) ctx p c σ K F = some r → KOk w0 g.base K r Q →
      Then' w0 g.base F r (Q .ret) → c.wp P Q a w := by
  intro c
  induction c with
  | skip => intro p K F Q g σ a w hp hF h hk hK hf; exact wp_skip (hK _ none _ _ _ h hk rfl)
  | label l => intro p K F Q g σ a w hp hF h hk hK hf; exact wp_label (hK _ none _ _ _ h hk rfl)
  | exit id => intro p K F Q g σ a w hp hF h hk hK hf; exact wp_exit (hK _ (some id) _ _ _ h hk rfl)
  | ret => intro p K F Q g σ a w hp hF h hk hK hf; exact wp_ret (hf _ _ _ _ h hk rfl)
  | region id ops draw =>
    intro p K F Q g σ a w hp hF h hk hK hf
    simp only [evS] at hk
    split at hk
    · exact wp_region (evXs_sound hX (fun i => hcall i p) _ _ _ (range_ops ops) h hk fun g' σ' a' w' h1 h2 h3 => hK g' none σ' a' w' h1 h2 h3)
    · split at hk
      · rename_i b hb
        cases hB : barB C.E ops b.1 b.2 with
        | false => rw [hB] at hk; cases hk
        | true =>
          rw [hB] at hk
          exact segs_sound hX (fun i => hcall i p) h hB hk fun g' σ' a' w' h1 h2 h3 => hK g' none σ' a' w' h1 h2 h3
      · split at hk
        · rename_i hB
          exact draw_sound hX.env hX.mixed h hB hk fun g' σ' a' w' h1 h2 h3 => hK g' none σ' a' w' h1 h2 h3
        · cases hk
  | seq x y ihx ihy =>
    intro p K F Q g σ a w hp hF h hk hK hf
    refine wp_seq (ihx (2 * p) _ F _ (.seqL hp) hF h hk ?_ hf)
    intro g' e σ' a' w' h1 h2 h3
    cases e with
    | some i => exact hK g' (some i) σ' a' w' h1 h2 h3
    | none =>
      simp only [exitOf, Exit.then]
      dsimp only at h2
      split at h2
      · rename_i m hmk
        split at h2
        · rename_i xx hxx
          obtain ⟨htop, hm⟩ := hM ctx _ m hmk hctx
          have ho := (hm root hroot y (.seqR hp)).1 p rfl xx (fun yy => K m.ex (injectX C.E m.outs yy)) (m.back C.E F)
          obtain ⟨g2, r1, r2⟩ := extractX_sound h1 hxx
          rw [ho] at h2
          refine ihy (2 * p + 1) _ _ Q (.seqR hp) ?_ r1 h2 ?_ ?_
          · intro hc
            rw [htop.2 hc]
          · intro g3 e σ3 a3 w3 s1 s2 s3
            dsimp only at s2
            split at s2
            · rename_i he
              subst he
              split at s2
              · rename_i yy hyy
                obtain ⟨g4, t1, t2⟩ := extractX_sound s1 hyy
                exact hK g4 _ _ _ _ t1 s2 (by rw [t2, s3, r2, h3])
              · cases s2
            · cases s2
          · intro g3 σ3 a3 w3 s1 s2 s3
            cases ht : m.top with
            | true =>
              rw [ht] at s2
              have hFC := hF (htop.1 ht)
              rw [hFC] at hf
              exact hf g3 σ3 a3 w3 s1 s2 (by rw [s3, r2, h3])
            | false =>
              rw [ht] at s2
              dsimp only at s2
              split at s2
              · rename_i yy hyy
                obtain ⟨g4, t1, t2⟩ := extractX_sound s1 hyy
                rw [back_eq] at s2
                split at s2
                · exact hf g4 _ _ _ t1 s2 (by rw [t2, s3, r2, h3])
                · cases s2
              · cases s2
        · cases h2
      · refine ihy (2 * p + 1) _ F Q (.seqR hp) hF h1 h2 ?_ ?_
        · rw [h3]; exact hK
        · rw [h3]; exact hf
  | cond c x y ihx ihy =>
    intro p K F Q g σ a w hp hF h hk hK hf
    simp only [evS] at hk
    split at hk
    · rename_i b hb
      have hc := opv_rel h C.E 0 c
      rw [hb] at hc
      cases b with
      | true => exact wp_cond_true hc.bool (ihx (2 * p) K F Q (.condL hp) hF h hk hK hf)
      | false => exact wp_cond_false hc.bool (ihy (2 * p + 1) K F Q (.condR hp) hF h hk hK hf)
    · cases hk
  | block id b ih =>
    intro p K F Q g σ a w hp hF h hk hK hf
    refine wp_block (ih (2 * p) _ F _ (.block hp) hF h hk ?_ hf)
    intro g' e σ' a' w' h1 h2 h3
    cases e with
    | none => exact hK g' none σ' a' w' h1 h2 h3
    | some i =>
      simp only [exitOf, Exit.inBlock]
      dsimp only at h2
      split at h2
      · rename_i hi; rw [if_pos hi]; exact hK g' none σ' a' w' h1 h2 h3
      · rename_i hi; rw [if_neg hi]; exact hK g' (some i) σ' a' w' h1 h2 h3
  | loop b ih =>
    intro p K F Q g σ a w hp hF h hk hK hf
    simp only [evS] at hk
    split at hk
    · rename_i m hmk
      split at hk
      · rename_i x hx
        obtain ⟨htop, hm⟩ := hM ctx _ m hmk hctx
        have ho := (hm root hroot b (.loop hp)).2 p rfl
        obtain ⟨g1, r1, r2⟩ := extractX_sound h hx
        refine wp_loop_k (fun k a w => ∃ x g', Rel w0 g' (injectX C.E m.ins x) a w ∧ g'.base = g.base ∧ m.f C.N k x (fun y => K m.ex (injectX C.E m.outs y)) (m.back C.E F) = some r) (k := C.N) ⟨x, g1, r1, r2, hk⟩ ?_
        rintro k a w ⟨x, g2, s1, s2, s3⟩
        obtain ⟨e0, e1⟩ := ho x (fun y => K m.ex (injectX C.E m.outs y)) (m.back C.E F)
        cases k with
        | zero => rw [e0] at s3; cases s3
        | succ k =>
          rw [e1 k] at s3
          refine ih (2 * p) _ _ _ (.loop hp) ?_ s1 s3 ?_ ?_
          · intro hc
            rw [htop.2 hc]
          · intro g3 e σ3 a3 w3 t1 t2 t3
            cases e with
            | none =>
              simp only [exitOf, Exit.then]
              dsimp only at t2
              split at t2
              · rename_i x' hx'
                obtain ⟨g4, u1, u2⟩ := extractX_sound t1 hx'
                exact ⟨k, Nat.lt_succ_self k, x', g4, u1, by rw [u2, t3, s2], t2⟩
              · cases t2
            | some id =>
              simp only [exitOf, Exit.then]
              dsimp only at t2
              split at t2
              · rename_i hex
                split at t2
                · rename_i y hy
                  obtain ⟨g4, u1, u2⟩ := extractX_sound t1 hy
                  have := hK g4 _ _ _ _ u1 t2 (by rw [u2, t3, s2])
                  rw [hex] at this
                  exact this
                · cases t2
              · cases t2
          · intro g3 σ3 a3 w3 t1 t2 t3
            cases ht : m.top with
            | true =>
              rw [ht] at t2
              have hFC := hF (htop.1 ht)
              rw [hFC] at hf
              exact hf g3 σ3 a3 w3 t1 t2 (by rw [t3, s2])
            | false =>
              rw [ht] at t2
              dsimp only at t2
              split at t2
              · rename_i yy hyy
                obtain ⟨g4, u1, u2⟩ := extractX_sound t1 hyy
                rw [back_eq] at t2
                split at t2
                · exact hf g4 _ _ _ u1 t2 (by rw [u2, t3, s2])
                · cases t2
              · cases t2
      · cases hk
    · cases hk
  | _ => intro p K F Q g σ a w hp hF h hk; simp [evS] at hk

theorem packPV_rel {pvs : List PV} {p : PV} {vs : List Value} (hp : packPV pvs = some p) (hl : vs.length = pvs.length) (hr : ∀ (i : Nat) p v, pvs[i]? = some p → vs[i]? = some v → RelPV g w p v) : RelPV g w p (pack vs) := by
  unfold packPV at hp
  split at hp
  · cases hp
    exact .inl rfl
  · rename_i q
    cases hp
    match vs, hl with
    | [v], _ => exact hr 0 p v rfl rfl
  · rename_i h0 h1
    split at hp
    · rename_i hok
      cases hp
      have hpk : pack vs = .tuple vs.toArray := by
        match vs, pvs, hl with
        | [], [], _ => exact absurd rfl h0
        | [_], [q], _ => exact absurd rfl (h1 q)
        | _ :: _ :: _, _, _ => rfl
      rw [hpk]
      refine ⟨vs, rfl, by simp [hl], fun i b cs u hi hu => ?_⟩
      simp only [List.getElem?_map, Option.map_eq_some_iff] at hi
      obtain ⟨q, hq, he⟩ := hi
      cases he
      have hqr := hr i q u hq hu
      have hqo : q.ok = true := List.all_eq_true.1 hok q (List.mem_of_getElem? hq)
      cases q with
      | one c =>
        have : ¬ (PV.one c).isAgg = true := by simp [PV.isAgg]
        rw [if_neg this]
        exact ⟨c, rfl, hqr.elim (fun e => by subst e; cases hqo) id⟩
      | agg cs =>
        have : (PV.agg cs).isAgg = true := rfl
        rw [if_pos this]
        obtain ⟨ws, h2, h3⟩ := hqr
        exact ⟨ws, h2, h3⟩
      | tup _ => cases hqo
      | skip => cases hqo
    · cases hp

theorem evCall_sound (hX : XOk P C) (hM : Marks C) : ∀ (d : Nat) (ctx : List Fr), C.D = d + ctx.length → ∀ i p, CallOk P C (fun f => evCall C d ({ f, i, p } :: ctx) f) := by
  intro d
  induction d with
  | zero => intro ctx hd i p w0 g σ a w K r next f fn args vs dst h1 h2 h3 h4 hk; cases hk
  | succ d ih =>
    intro ctx hD i p w0 g σ a w K r next f fn args vs dst h hl hr hi hk hn
    obtain ⟨e1, e2, e3⟩ := hX.env.inl f fn hi
    simp only [evCall, evIn] at hk
    split at hk
    case h_2 => cases hk
    rename_i c hb
    refine calls_of_wp e1 hb ?_
    have h1 := h.enter (fn.ntmps - args.length) hl hr
    rw [← hl] at h1
    have e4 : (vs.length : Nat) = vs.toArray.size := by simp
    have fin : Then' { w0 with out := a.tmps.toList ++ w0.out } g.base (fun σ' => match gather C.E σ' fn.results.toList with
        | some pvs => match packPV pvs with
          | some p => K ((σ'.pop σ.n).put dst p)
          | none => none
        | none => none) r fun a' w' => a'.defers = [] ∧ ∃ v, (results fn a'.tmps).run P w' = .ok v w' ∧ ∃ u, Ending.returned v = .returned u ∧ next (a.put dst u) w' := by
      intro g' σ' a' w' s1 s2 s3
      dsimp only at s2
      split at s2
      · rename_i pvs hg
        obtain ⟨us, t1, t2, t3⟩ := gather_rel hX.env s1 _ _ hg
        split at s2
        · rename_i p hp
          have hpr := packPV_rel hp t2 t3
          have := (s1.leave h.dfr.1).put dst hpr
          rw [← h.tmn] at this
          exact ⟨s1.dfr.1, pack us, results_run t1, pack us, rfl, hn g' _ _ w' this s2 s3⟩
        · cases s2
      · cases s2
    rw [← hl] at hk
    have hlen : C.D - (({ f, i, p } : Fr) :: ctx).length = d := by simp only [List.length_cons]; omega
    have hroot : rootOf C ({ f, i, p } :: ctx) = some c := by simp only [rootOf, hi]; exact hb
    have hev := evS_sound (w0 := { w0 with out := a.tmps.toList ++ w0.out }) hX hM (ctx := { f, i, p } :: ctx) (by simp only [List.length_cons]; omega) hroot (by
        rw [hlen]
        exact ih ({ f, i, p } :: ctx) (by simp only [List.length_cons]; omega)) c 1 _ _ (bodyPost P fn fun e w' => ∃ v, e = .returned v ∧ next (a.put dst v) w') .root (fun e => by cases e) h1 (by rw [hlen]; exact hk) ?_ fin
    · rw [e4] at hev
      exact hev
    intro g' e σ' a' w' s1 s2 s3
    cases e with
    | none => exact fin g' σ' a' w' s1 s2 s3
    | some i => cases s2

end Go.V

/- A function's contract out of its deep reading. -/
namespace Go.V
open Go.RowKit

variable {P : Program} {R : Type}

theorem frsB_eq : ∀ {l m : List Fr}, frsB l m = true → l = m
  | [], [], _ => rfl
  | a :: r, b :: s, h => by
    simp only [frsB, frB, Bool.and_eq_true, Nat.beq_eq] at h
    obtain ⟨⟨h1, h2, h3⟩, h4⟩ := h
    obtain ⟨f, i, p⟩ := a
    obtain ⟨f', i', p'⟩ := b
    dsimp only at h1 h2 h3
    subst h1; subst h2; subst h3
    rw [frsB_eq h4]
  | [], _ :: _, h => by simp [frsB] at h
  | _ :: _, [], h => by simp [frsB] at h

theorem posB_eq {a b : Pos} (h : posB a b = true) : a = b := by
  simp only [posB, Bool.and_eq_true, Nat.beq_eq] at h
  exact Prod.ext h.1 (frsB_eq h.2)

theorem lookP_mem {α : Type} {k : Pos} {x : α} : ∀ {l : List (Pos × α)}, lookP l k = some x → (k, x) ∈ l
  | [], h => by cases h
  | (j, y) :: r, h => by
    simp only [lookP] at h
    cases hb : posB j k with
    | true =>
      rw [hb] at h
      have := posB_eq hb
      cases h
      subst this
      exact List.mem_cons_self
    | false =>
      rw [hb] at h
      exact List.mem_cons_of_mem _ (lookP_mem h)

def ObX (C : XCtx R) (e : Pos × XMark R) : Prop := (e.2.top = true ↔ e.1.2 = []) ∧ ∃ bits root, rootOf C e.1.2 = some root ∧ posN bits = e.1.1 ∧
  match e.1.1 % 2 with
  | 0 => markHolds C e.1.2 e.1.1 e.2 (subC bits root)
  | _ => joinHolds C e.1.2 e.1.1 e.2 (subC bits root)

theorem obX_loop {C : XCtx R} {e : Pos × XMark R} (ht : e.2.top = true ↔ e.1.2 = []) (bits : List Bool) (root : Code) (h1 : rootOf C e.1.2 = some root) (h2 : posN bits = e.1.1) (h3 : e.1.1 % 2 = 0) (h : markHolds C e.1.2 e.1.1 e.2 (subC bits root)) : ObX C e :=
  ⟨ht, bits, root, h1, h2, by rw [h3]; exact h⟩

theorem obX_join {C : XCtx R} {e : Pos × XMark R} (ht : e.2.top = true ↔ e.1.2 = []) (bits : List Bool) (root : Code) (h1 : rootOf C e.1.2 = some root) (h2 : posN bits = e.1.1) (h3 : e.1.1 % 2 = 1) (h : joinHolds C e.1.2 e.1.1 e.2 (subC bits root)) : ObX C e :=
  ⟨ht, bits, root, h1, h2, by rw [h3]; exact h⟩

theorem marks_of {C : XCtx R} (h : ∀ e ∈ C.marks, ObX C e) : Marks C := by
  intro ctx q m hm _
  obtain ⟨h1, bits, root, h2, h3, h4⟩ := h _ (lookP_mem hm)
  refine ⟨h1, fun root' hr b hb => ?_⟩
  have : root' = root := Option.some.inj (hr.symm.trans h2)
  subst this
  have h3 : posN bits = q := h3
  rw [← h3] at hb
  have := At.sub bits hb
  subst this
  constructor
  · intro p hp
    have : q % 2 = 1 := by omega
    dsimp only at h4
    rw [this] at h4
    rw [← h3]
    rw [← h3] at h4
    exact h4
  · intro p hp
    have : q % 2 = 0 := by omega
    dsimp only at h4
    rw [this] at h4
    rw [← h3]
    rw [← h3] at h4
    exact h4

theorem fnX_sound (hm : P.follows .mixedOrders = true) {f : FuncId} {fn : Func} {c : Code} (hf : P.funcs[f]? = some fn) (hb : fn.body = some c) (ps rs : List Ty) {C : XCtx (Ty.prods rs).den} (hc : C.root = c) (hfin : C.fin = finish C.E fn rs)
    (hE : EnvOk P C.E) (hg : ∀ f t, look C.grow f = some t → GrowOk P C.E f t) (ho : ∀ e ∈ C.marks, ObX C e) :
    Sound P f { ps, rs, f := fun x => evRoot C fn (start fn ps x) } := by
  intro x r hx w F vs hF hv
  dsimp only at hx hv
  obtain ⟨hl, htm⟩ := start_rel hF ps x vs (fn.ntmps - ps.length) hv
  refine calls_of_wp hf hb ?_
  let w0 : Org := { toWorld := w, F0 := F, out := [], ref := w }
  have hrel : Rel w0 { base := w.heap.size, β := [], α := [], Fr := F } (start fn ps x) { tmps := vs.toArray ++ Array.replicate (fn.ntmps - vs.toArray.size) undef, defers := [] } w := by
    refine ⟨rfl, Below.refl _ w, hF, fun t => ?_, ?_, ⟨rfl, fun b hb => .inl hb⟩, rfl, ?_, ?_, rfl, ?_, ?_, fun _ _ hk _ => hk⟩
    · have := htm t
      have e : (vs.toArray ++ Array.replicate (fn.ntmps - vs.toArray.size) undef).getD t undef = (vs ++ List.replicate (fn.ntmps - ps.length) undef).getD t undef := by
        rw [← hl]
        simp [Array.getD_eq_getD_getElem?, List.getElem?_append, Array.getElem?_append, Array.getElem?_replicate, List.getElem?_replicate]
      have e2 : ((vs.toArray ++ Array.replicate (fn.ntmps - vs.toArray.size) undef).toList ++ w0.out).getD t undef = (vs.toArray ++ Array.replicate (fn.ntmps - vs.toArray.size) undef).getD t undef := by
        show (_ ++ []).getD t undef = _
        rw [List.append_nil]
        exact toList_getD _ _ _
      rw [e2, e]
      exact this
    · simp [start, hl]
    · intro i t cs hi; simp [start] at hi
    · intro i k b hi; simp at hi
    · intro j A hA; simp [start] at hA
    · intro j k A B v u s s' b _ hA; simp [start] at hA
  unfold evRoot at hx
  rw [hb] at hx
  have fin : Then' w0 w.heap.size C.fin r (fun a' w' => a'.defers = [] ∧ ∃ v, (results fn a'.tmps).run P w' = .ok v w' ∧ ∃ u, Ending.returned v = .returned u ∧ ResOk (fun b => F b ∨ (w.heap.size ≤ b ∧ b < w'.heap.size)) w' rs r u ∧ Below w.heap.size w w') := fun g' σ' a' w' h1 h2 h3 => by
    rw [hfin] at h2
    obtain ⟨v, r1, F', r2, us, r3, r4⟩ := finish_rel hE h1 h2
    exact ⟨h1.dfr.1, v, r1, v, rfl, ⟨us, ValsOk.mono (fun b hb' => by rw [h3] at r2; exact r2 b hb') _ _ _ r3, r4⟩, h1.below⟩
  have hX : XOk P C := ⟨hE, hg, hm⟩
  have hM := marks_of ho
  refine evS_sound (w0 := w0) hX hM (ctx := []) (Nat.zero_le _) (show rootOf C [] = some c by simp only [rootOf, hc]) (fun i p => ?_) c 1 _ C.fin _ .root (fun _ => rfl) hrel hx ?_ fin
  · exact evCall_sound hX hM C.D [] rfl i p
  intro g' e σ' a' w' h1 h2 h3
  cases e with
  | none => exact fin g' σ' a' w' h1 h2 h3
  | some i => cases h2

end Go.V
