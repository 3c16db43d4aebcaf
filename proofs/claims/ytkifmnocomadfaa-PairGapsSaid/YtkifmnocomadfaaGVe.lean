/- Functions that are read where they are called; variables that are lent to a function made. -/
import Derived.Test.YtkifmnocomadfaaGVd
import Derived.Laws.StructEq
namespace Go.V
open Go.RowKit

variable {P : Program} {E : Env} {w0 : Org} {g g' : Gh} {σ τ : St} {a : Act} {w : World} {o : Oper} {R : Type} {r : R} {K : St → Option R} {next : Act → World → Prop} {Q : Exit → Act → World → Prop}

def pack (vs : List Value) : Value := match vs with
  | [u] => u
  | vs => .tuple vs.toArray

def resOne (tmps : Array Value) : ResultVar → Sem Value
  | .tmp t => pure (tmps.getD t undef)
  | .cell a t => do loadVar t (← asAddr (tmps.getD a undef))

theorem gather_rel (hE : EnvOk P E) (h : Rel w0 g σ a w) : ∀ (l : List ResultVar) (pvs : List PV), gather E σ l = some pvs → ∃ vs : List Value, (l.mapM (resOne a.tmps)).run P w = .ok vs w ∧ vs.length = pvs.length ∧ ∀ (i : Nat) p v, pvs[i]? = some p → vs[i]? = some v → RelPV g w p v
  | [], pvs, hg => by
    simp only [gather, Option.some.injEq] at hg
    subst hg
    exact ⟨[], by simp, rfl, fun i p v h => by simp at h⟩
  | .tmp t :: l, pvs, hg => by
    simp only [gather] at hg
    split at hg
    · rename_i cs hcs
      cases hg
      obtain ⟨vs, h1, h2, h3⟩ := gather_rel hE h l cs hcs
      refine ⟨a.tmps.getD t undef :: vs, ?_, by simp [h2], fun i p v hi hv => ?_⟩
      · simp only [List.mapM_cons, resOne, Sem.run_bind, Sem.run_pure, Result.andThen_ok, h1]
      · cases i with
        | zero => simp only [List.getElem?_cons_zero, Option.some.injEq] at hi hv; subst hi; subst hv; exact h.get t
        | succ i => exact h3 i p v (by simpa using hi) (by simpa using hv)
    · cases hg
  | .cell x t :: l, pvs, hg => by
    simp only [gather] at hg
    split at hg
    · rename_i p ty hp ht
      split at hg
      · rename_i c hc
        split at hg
        · rename_i cs hcs
          cases hg
          obtain ⟨vs, h1, h2, h3⟩ := gather_rel hE h l cs hcs
          have hx := h.get x
          rw [hp] at hx
          obtain ⟨b, of, us, he, r1, r2, r3⟩ := h.read hc hx.ptr
          refine ⟨(if ty.agg = true then .agg us.toArray else us.headD undef) :: vs, ?_, by simp [h2], fun i p v hi hv => ?_⟩
          · have := loadVar_run hE ht r2 r3
            simp only [List.mapM_cons, resOne, Sem.run_bind, he, asAddr, Sem.run_pure, Result.andThen_ok, this, h1]
          · cases i with
            | zero => simp only [List.getElem?_cons_zero, Option.some.injEq] at hi hv; subst hi; subst hv; exact ofCells_rel r1 (by rw [← r1.length, r2])
            | succ i => exact h3 i p v (by simpa using hi) (by simpa using hv)
        · cases hg
      · cases hg
    · cases hg

theorem results_run {fn : Func} {tmps : Array Value} {vs : List Value} (h : (fn.results.toList.mapM (resOne tmps)).run P w = .ok vs w) : (results fn tmps).run P w = .ok (pack vs) w := by
  have h1 : (fn.results.mapM (resOne tmps)).run P w = .ok vs.toArray w := by
    rw [Array.mapM_eq_mapM_toList, map_eq_pure_bind]
    simp only [Sem.run_bind, h, Result.andThen_ok, Sem.run_pure]
  have h2 : results fn tmps = (do let vs ← fn.results.mapM (resOne tmps); pure (if h : vs.size = 1 then vs[0] else .tuple vs)) := by
    unfold results resOne
    rfl
  rw [h2]
  simp only [Sem.run_bind, h1, Result.andThen_ok, Sem.run_pure]
  match vs with
  | [] => rfl
  | [u] => rfl
  | u :: u' :: vs => rfl

def exitOf : Option Nat → Exit
  | none => .normal
  | some i => .exit i

def KOk (w0 : Org) (b : Nat) (K : Option Nat → St → Option R) (r : R) (Q : Exit → Act → World → Prop) : Prop :=
  ∀ g' e σ' a' w', Rel w0 g' σ' a' w' → K e σ' = some r → g'.base = b → Q (exitOf e) a' w'

theorem evC_sound (hE : EnvOk P E) (hm : P.follows .mixedOrders = true) {F : St → Option R} : ∀ (c : Code) (K : Option Nat → St → Option R) (Q : Exit → Act → World → Prop) {g : Gh} {σ : St} {a : Act} {w : World}, Rel w0 g σ a w → evC E c σ K F = some r → KOk w0 g.base K r Q →
    Then' w0 g.base F r (Q .ret) → c.wp P Q a w := by
  intro c
  induction c with
  | skip => intro K Q g σ a w h hk hK hf; exact wp_skip (hK _ none _ _ _ h hk rfl)
  | label l => intro K Q g σ a w h hk hK hf; exact wp_label (hK _ none _ _ _ h hk rfl)
  | exit id => intro K Q g σ a w h hk hK hf; exact wp_exit (hK _ (some id) _ _ _ h hk rfl)
  | ret => intro K Q g σ a w h hk hK hf; exact wp_ret (hf _ _ _ _ h hk rfl)
  | region id ops draw =>
    intro K Q g σ a w h hk hK hf
    simp only [evC] at hk
    split at hk
    · exact region_sound hE h hk fun g' σ' a' w' h1 h2 h3 => hK g' none σ' a' w' h1 h2 h3.1
    · split at hk
      · rename_i hB
        exact draw_sound hE hm h hB hk fun g' σ' a' w' h1 h2 h3 => hK g' none σ' a' w' h1 h2 h3
      · cases hk
  | seq x y ihx ihy =>
    intro K Q g σ a w h hk hK hf
    refine wp_seq (ihx _ _ h hk ?_ hf)
    intro g' e σ' a' w' h1 h2 h3
    cases e with
    | some i => exact hK g' (some i) σ' a' w' h1 h2 h3
    | none =>
      simp only [exitOf, Exit.then]
      dsimp only at h2
      refine ihy _ Q h1 h2 ?_ ?_
      · rw [h3]; exact hK
      · rw [h3]; exact hf
  | cond c x y ihx ihy =>
    intro K Q g σ a w h hk hK hf
    simp only [evC] at hk
    split at hk
    · rename_i b hb
      have hc := opv_rel h E 0 c
      rw [hb] at hc
      cases b with
      | true => exact wp_cond_true hc.bool (ihx K Q h hk hK hf)
      | false => exact wp_cond_false hc.bool (ihy K Q h hk hK hf)
    · cases hk
  | block id b ih =>
    intro K Q g σ a w h hk hK hf
    refine wp_block (ih _ _ h hk ?_ hf)
    intro g' e σ' a' w' h1 h2 h3
    cases e with
    | none => exact hK g' none σ' a' w' h1 h2 h3
    | some i =>
      simp only [exitOf, Exit.inBlock]
      dsimp only at h2
      split at h2
      · rename_i hi; rw [if_pos hi]; exact hK g' none σ' a' w' h1 h2 h3
      · rename_i hi; rw [if_neg hi]; exact hK g' (some i) σ' a' w' h1 h2 h3
  | _ => intro K Q g σ a w h hk; simp [evC] at hk

theorem Rel.enter (h : Rel w0 g σ a w) {args : List PV} {vs : List Value} (m : Nat) (hl : vs.length = args.length) (hr : ∀ (i : Nat) p v, args[i]? = some p → vs[i]? = some v → RelPV g w p v) :
    Rel { w0 with out := a.tmps.toList ++ w0.out } g { tm := args ++ List.replicate m .junk ++ σ.tm, bx := σ.bx, ar := σ.ar, n := args.length + m } { tmps := vs.toArray ++ Array.replicate m undef, defers := [] } w := by
  refine ⟨h.base, h.below, h.lt, fun t => ?_, by simp [hl], ⟨rfl, h.dfr.2⟩, h.bxn, h.bx, h.nodup, h.arn, h.ar, h.apart, h.oth⟩
  have e : ((vs.toArray ++ Array.replicate m undef).toList ++ (a.tmps.toList ++ w0.out)).getD t undef = (vs ++ List.replicate m undef ++ (a.tmps.toList ++ w0.out)).getD t undef := by simp
  show RelPV g w ((args ++ List.replicate m PV.junk ++ σ.tm).getD t PV.junk) (((vs.toArray ++ Array.replicate m undef).toList ++ (a.tmps.toList ++ w0.out)).getD t undef)
  rw [e]
  simp only [List.getD_eq_getElem?_getD]
  by_cases h1 : t < args.length
  · rw [List.append_assoc, List.append_assoc, List.getElem?_append_left h1, List.getElem?_append_left (by omega)]
    have h2 : t < vs.length := by omega
    rw [List.getElem?_eq_getElem h1, List.getElem?_eq_getElem h2]
    exact hr t _ _ (List.getElem?_eq_getElem h1) (List.getElem?_eq_getElem h2)
  · by_cases h2 : t < args.length + m
    · rw [List.getElem?_append_left (by simp; omega), List.getElem?_append_right (by omega), List.getElem?_append_left (by simp; omega), List.getElem?_append_right (by omega)]
      rw [List.getElem?_replicate, List.getElem?_replicate, hl]
      split
      · exact .inl rfl
      · exact .inl rfl
    · rw [List.getElem?_append_right (by simp; omega), List.getElem?_append_right (by simp; omega)]
      have := h.tm (t - (args ++ List.replicate m PV.junk).length)
      simp only [St.raw, List.getD_eq_getElem?_getD] at this
      have e2 : (vs ++ List.replicate m undef).length = (args ++ List.replicate m PV.junk).length := by simp [hl]
      rw [e2]
      exact this

theorem Rel.leave {a' : Act} {w' : World} {σ' : St} (h : Rel { w0 with out := a.tmps.toList ++ w0.out } g' σ' a' w') (hd : a.defers = []) : Rel w0 g' (σ'.pop a.tmps.size) a w' := by
  refine ⟨h.base, h.below, h.lt, fun t => ?_, rfl, ⟨hd, h.dfr.2⟩, h.bxn, h.bx, h.nodup, h.arn, h.ar, h.apart, h.oth⟩
  have h1 := h.tm (σ'.n + t)
  have e : (a'.tmps.toList ++ (a.tmps.toList ++ w0.out)).getD (σ'.n + t) undef = (a.tmps.toList ++ w0.out).getD t undef := by
    simp only [List.getD_eq_getElem?_getD]
    rw [List.getElem?_append_right (by rw [h.tmn]; simp)]
    congr 2
    rw [h.tmn]
    simp
  have e2 : (σ'.pop a.tmps.size).raw t = σ'.raw (σ'.n + t) := by simp [St.pop, St.raw]
  rw [e2, ← e]
  exact h1

theorem inl_sound (hE : EnvOk P E) (hm : P.follows .mixedOrders = true) {f : FuncId} {fn : Func} {args : List PV} {vs : List Value} {d : Option Tmp} (h : Rel w0 g σ a w) (hl : vs.length = args.length)
    (hr : ∀ (i : Nat) p v, args[i]? = some p → vs[i]? = some v → RelPV g w p v) (hf : P.funcs[f]? = some fn) (hk : evInl E fn args d σ K = some r) (hn : Then' w0 g.base K r next) :
    Calls P f vs.toArray w fun e w' => ∃ v, e = .returned v ∧ next (a.put d v) w' := by
  unfold evInl at hk
  split at hk
  case h_2 => cases hk
  rename_i c hb
  refine calls_of_wp hf hb ?_
  have h1 := h.enter (fn.ntmps - args.length) hl hr
  rw [← hl] at h1
  have e1 : (vs.length : Nat) = vs.toArray.size := by simp
  have fin : Then' { w0 with out := a.tmps.toList ++ w0.out } g.base (fun σ' => match gather E σ' fn.results.toList with
      | some [] => K ((σ'.pop σ.n).put d .junk)
      | some [p] => K ((σ'.pop σ.n).put d p)
      | _ => none) r fun a' w' => a'.defers = [] ∧ ∃ v, (results fn a'.tmps).run P w' = .ok v w' ∧ ∃ u, Ending.returned v = .returned u ∧ next (a.put d u) w' := by
    intro g' σ' a' w' s1 s2 s3
    have key : ∀ (p : PV) (v : Value), RelPV g' w' p v → K ((σ'.pop σ.n).put d p) = some r → next (a.put d v) w' := fun p v hp hk' => by
      have := (s1.leave h.dfr.1).put d hp
      rw [← h.tmn] at this
      exact hn g' _ _ w' this hk' s3
    dsimp only at s2
    split at s2
    · rename_i hg
      obtain ⟨us, t1, t2, t3⟩ := gather_rel hE s1 _ _ hg
      refine ⟨s1.dfr.1, pack us, results_run t1, pack us, rfl, key .junk _ (.inl rfl) s2⟩
    · rename_i p hg
      obtain ⟨us, t1, t2, t3⟩ := gather_rel hE s1 _ _ hg
      match us, t2 with
      | [u], _ =>
        exact ⟨s1.dfr.1, pack [u], results_run t1, u, rfl, key p u (t3 0 p u rfl rfl) s2⟩
    · cases s2
  rw [← hl] at hk
  have hc := evC_sound (w0 := { w0 with out := a.tmps.toList ++ w0.out }) hE hm c _ (bodyPost P fn fun e w' => ∃ v, e = .returned v ∧ next (a.put d v) w') h1 hk ?_ fin
  · rw [e1] at hc
    exact hc
  intro g' e σ' a' w' s1 s2 s3
  cases e with
  | none => exact fin g' σ' a' w' s1 s2 s3
  | some i => cases s2

section
variable {i b : Nat} {t : Ty} {x : t.den} {te : TypeId} {vs : Array Value}

def Gh.lent (g : Gh) (i b : Nat) : Gh := { base := g.base, β := g.β.set i none, α := g.α, Fr := fun c => g.Fr c ∨ c = b }

theorem turnP_rel (hb : g.β[i]? = some (some b)) (hh : w.heap[b]? = some (.cells vs te (0, 0))) (hv : RepV g.Fr w t x vs.toList) {p : Ptr} {v : Value} (h : RelPtr g w p v) : RelPtr (g.lent i b) w (turnP i t x p) v := by
  have hF : ∀ c, g.Fr c → (g.lent i b).Fr c := fun _ h => .inl h
  cases p with
  | box k off =>
    obtain ⟨b', h1, rfl⟩ := h
    by_cases hk : k = i
    · subst hk
      rw [hb] at h1
      cases h1
      have : Nat.beq k k = true := Nat.beq_refl k
      simp only [turnP, this, cond_true]
      refine ⟨b, 0, vs.toList, by simp, .inr rfl, RepV.mono hF (fun _ _ => rfl) _ _ _ hv, fun m u hu => ?_⟩
      simp only [Nat.zero_add]
      have hu' : vs[m]? = some u := by simpa using hu
      simp [World.cell?, hh, hu']
    · have : Nat.beq k i = false := by rw [Bool.eq_false_iff]; intro e; exact hk (Nat.eq_of_beq_eq_true e)
      simp only [turnP, this, cond_false]
      exact ⟨b', by simp only [Gh.lent]; rw [List.getElem?_set_ne (Ne.symm hk)]; exact h1, rfl⟩
  | el j i' off => exact h
  | ro t' x' off =>
    obtain ⟨b', o, ds, h1, h2, h3, h4⟩ := h
    exact ⟨b', o, ds, h1, hF _ h2, RepV.mono hF (fun _ _ => rfl) _ _ _ h3, h4⟩

theorem turnC_ptr (i : Nat) (t : Ty) (x : t.den) (p : Ptr) : turnC i t x (.ptr p) = .ptr (turnP i t x p) := by
  cases p with
  | box k off => simp only [turnC, turnP]; cases Nat.beq k i <;> rfl
  | _ => rfl

theorem turnC_rel (hb : g.β[i]? = some (some b)) (hh : w.heap[b]? = some (.cells vs te (0, 0))) (hv : RepV g.Fr w t x vs.toList) {c : Cl} {v : Value} (h : RelCl g w c v) : RelCl (g.lent i b) w (turnC i t x c) v := by
  have hF : ∀ c, g.Fr c → (g.lent i b).Fr c := fun _ h => .inl h
  cases c with
  | ptr p => rw [turnC_ptr]; exact turnP_rel hb hh hv h
  | fn f ps =>
    obtain ⟨us, h1, h2⟩ := h
    exact ⟨us, h1, RelPtrs.map (fun p _ u hu => turnP_rel hb hh hv hu) h2⟩
  | sl e t xs full => exact ⟨RepV.mono hF (fun _ _ => rfl) _ _ _ h.1, h.2⟩
  | clo f c x => exact RepV.mono hF (fun _ _ => rfl) (.clo f c) x _ h
  | own j => exact h
  | _ => exact h

theorem turnCs_rel (hb : g.β[i]? = some (some b)) (hh : w.heap[b]? = some (.cells vs te (0, 0))) (hv : RepV g.Fr w t x vs.toList) : ∀ {cs : List Cl} {us : List Value}, RelCls g w cs us → RelCls (g.lent i b) w (cs.map (turnC i t x)) us
  | [], _, h => h
  | _ :: _, _, ⟨v, r, h, h1, h2⟩ => ⟨v, r, h, turnC_rel hb hh hv h1, turnCs_rel hb hh hv h2⟩

theorem turnC_junk : turnC i t x .junk = .junk := rfl

theorem turnV_rel (hb : g.β[i]? = some (some b)) (hh : w.heap[b]? = some (.cells vs te (0, 0))) (hv : RepV g.Fr w t x vs.toList) {p : PV} {v : Value} (h : RelPV g w p v) : RelPV (g.lent i b) w (turnV i t x p) v := by
  cases p with
  | one c =>
    rcases h with rfl | h
    · exact .inl rfl
    · exact .inr (turnC_rel hb hh hv h)
  | agg cs =>
    obtain ⟨us, rfl, h⟩ := h
    exact ⟨us, rfl, turnCs_rel hb hh hv h⟩
  | skip => exact h
  | tup ys =>
    obtain ⟨us, rfl, h1, h2⟩ := h
    refine ⟨us, rfl, by simp [h1], fun k a cs u hk hu => ?_⟩
    simp only [List.getElem?_map, Option.map_eq_some_iff] at hk
    obtain ⟨⟨a', cs'⟩, hk, e⟩ := hk
    cases e
    have := h2 k a' cs' u hk hu
    split
    · rename_i ha
      rw [if_pos ha] at this
      obtain ⟨ws, rfl, h3⟩ := this
      exact ⟨ws, rfl, turnCs_rel hb hh hv h3⟩
    · rename_i ha
      rw [if_neg ha] at this
      obtain ⟨c, rfl, h3⟩ := this
      exact ⟨_, rfl, turnC_rel hb hh hv h3⟩

theorem Rel.lent (h : Rel w0 g σ a w) (hb : g.β[i]? = some (some b)) (hh : w.heap[b]? = some (.cells vs te (0, 0))) (hv : RepV g.Fr w t x vs.toList) (hbb : g.base ≤ b) : Rel w0 (g.lent i b) (lendSt i t x σ) a w := by
  have hF : ∀ c, g.Fr c → (g.lent i b).Fr c := fun _ h => .inl h
  have hset : ∀ {k c : Nat}, (g.β.set i none)[k]? = some (some c) → k ≠ i ∧ g.β[k]? = some (some c) := fun {k c} hk => by
    by_cases hki : k = i
    · subst hki
      rw [List.getElem?_set_self (List.getElem?_eq_some_iff.1 hb).1] at hk
      cases hk
    · rw [List.getElem?_set_ne (Ne.symm hki)] at hk
      exact ⟨hki, hk⟩
  refine ⟨h.base, h.below, ?_, fun k => ?_, h.tmn, ⟨h.dfr.1, ?_⟩, by simp [lendSt, Gh.lent, h.bxn], ?_, ?_, h.arn, ?_, h.apart, h.oth⟩
  · rintro c (hc | rfl)
    · exact h.lt c hc
    · exact heap_lt hh
  · have h1 := h.tm k
    have e : (lendSt i t x σ).raw k = turnV i t x (σ.raw k) := by
      simp only [lendSt, St.raw, List.getD_eq_getElem?_getD, List.getElem?_map]
      cases σ.tm[k]? <;> rfl
    rw [e]
    exact turnV_rel hb hh hv h1
  · rintro c (hc | rfl)
    · exact h.dfr.2 c hc
    · exact .inr hbb
  · intro k tk cs hk hhole
    simp only [lendSt, List.getElem?_map, Option.map_eq_some_iff] at hk
    obtain ⟨⟨tk', cs'⟩, hk, e⟩ := hk
    cases e
    have hki : k ≠ i := by
      rintro rfl
      exact hhole (by simp only [Gh.lent]; rw [List.getElem?_set_self (List.getElem?_eq_some_iff.1 hb).1])
    rw [List.getElem?_set_ne (Ne.symm hki)] at hk
    have hβ : (g.lent i b).β[k]? = g.β[k]? := by simp only [Gh.lent]; rw [List.getElem?_set_ne (Ne.symm hki)]
    rw [hβ] at hhole
    obtain ⟨bk, us, h1, h2, h3, h4, h5⟩ := h.bx k _ cs' hk hhole
    refine ⟨bk, us, hβ.trans h1, h2, turnCs_rel hb hh hv h3, h4, ?_⟩
    rintro (hc | rfl)
    · exact h5 hc
    · exact hki (h.nodup k i _ h1 hb)
  · intro k m c hk hm
    exact h.nodup k m c (hset hk).2 (hset hm).2
  · intro j A hA
    obtain ⟨v, h1, h2⟩ := h.ar j A hA
    refine ⟨v, h1, h2.one, h2.head, fun hl => ?_, fun hd => RepV.mono hF (fun _ _ => rfl) _ _ _ (h2.set hd)⟩
    obtain ⟨cells, h3, h4, h5⟩ := h2.own hl
    refine ⟨cells, h3, h4.mono hF (fun _ _ => rfl), fun c hc => ⟨?_, fun hm => ?_⟩⟩
    · rintro (hf | rfl)
      · exact (h5 c hc).1 hf
      · exact (h5 _ hc).2 (List.mem_of_getElem? hb)
    · obtain ⟨k, hk⟩ := List.mem_iff_getElem?.1 hm
      exact (h5 c hc).2 (List.mem_of_getElem? (hset hk).2)

end

theorem lend_sound (hE : EnvOk P E) {i off : Nat} {v : Value} (h : Rel w0 g σ a w) (hv : RelPtr g w (.box i off) v) (hk : lend E i σ K = some r) : ∃ g' σ', Rel w0 g' σ' a w ∧ g'.base = g.base ∧ K σ' = some r := by
  obtain ⟨b, hb, rfl⟩ := hv
  unfold lend at hk
  split at hk
  · rename_i te cs hi
    split at hk
    · rename_i ty ht
      split at hk
      · rename_i x hx
        obtain ⟨b', us, h1, h2, h3, h4, h5⟩ := h.bx i te cs hi (by rw [hb]; simp)
        rw [hb] at h1
        cases h1
        obtain ⟨F1, f1, hle, r1, d1, e1⟩ := h.settle cs
        have hrep : RepV F1 w ty x us.toList := unflat_all (g := { g with Fr := F1 }) hx (d1 _ h3)
        have hb1 : ({ g with Fr := F1 } : Gh).β[i]? = some (some b) := hb
        exact ⟨_, _, r1.lent hb1 h2 hrep h4, rfl, hk⟩
      · cases hk
    · cases hk
  · cases hk

theorem lendAll_sound (hE : EnvOk P E) : ∀ (l : List Operand) {g : Gh} {σ : St}, Rel w0 g σ a w → lendAll E o l σ K = some r → ∃ g' σ', Rel w0 g' σ' a w ∧ g'.base = g.base ∧ K σ' = some r
  | [], g, σ, h, hk => ⟨g, σ, h, rfl, hk⟩
  | x :: l, g, σ, h, hk => by
    simp only [lendAll] at hk
    split at hk
    · rename_i i off hx
      have h1 := opv_rel h E o.type x
      rw [hx] at h1
      obtain ⟨g1, σ1, r1, b1, k1⟩ := lend_sound hE h h1.ptr hk
      obtain ⟨g2, σ2, r2, b2, k2⟩ := lendAll_sound hE l r1 k1
      exact ⟨g2, σ2, r2, b2.trans b1, k2⟩
    · exact lendAll_sound hE l h hk
    · cases hk

theorem capsOf_rel : ∀ {ps : List PV} {c : Ty} {y : c.den} {vs : List Value}, capsOf ps = some ⟨c, y⟩ → vs.length = ps.length → (∀ (i : Nat) p v, ps[i]? = some p → vs[i]? = some v → RelPV g w p v) → RepV g.Fr w c y vs
  | [], c, y, vs, h, hl, _ => by
    simp only [capsOf, Option.some.injEq] at h
    cases h
    exact List.eq_nil_of_length_eq_zero hl
  | p :: ps, c, y, [], h, hl, _ => by simp at hl
  | p :: ps, c, y, v :: vs, h, hl, hr => by
    unfold capsOf at h
    split at h
    · rename_i e; cases e
    · rename_i t x r e
      cases e
      split at h
      · rename_i c' y' hc
        cases h
        have := capsOf_rel hc (by simpa using hl) fun i p v hp hv => hr (i + 1) p v (by simpa using hp) (by simpa using hv)
        obtain ⟨b, o, ds, h1, h2, h3, h4⟩ := (hr 0 _ v rfl rfl).ptr
        exact ⟨[v], vs, rfl, ⟨b, o, ds, by rw [h1]; rfl, h2, h3, h4⟩, this⟩
      · cases h
    · cases h

theorem mk_sound (hE : EnvOk P E) {f : FuncId} {fr : Array Operand} (ho : o.op = .makeFunc (.func f) #[] fr) (h : Rel w0 g σ a w) (hk : evMk E o f fr.toList σ K = some r) (hn : Then' w0 g.base K r next) : o.wp P a w next Q := by
  unfold evMk at hk
  obtain ⟨g1, σ1, r1, b1, k1⟩ := lendAll_sound hE fr.toList h hk
  split at k1
  · rename_i t y hc
    have hrep : RepV g1.Fr w t y (fr.toList.map a.eval) := capsOf_rel hc (by simp) fun i p v hp hv => by
      simp only [List.getElem?_map, Option.map_eq_some_iff] at hp hv
      obtain ⟨z, hz, rfl⟩ := hp
      obtain ⟨z', hz', rfl⟩ := hv
      rw [hz] at hz'
      cases hz'
      exact opv_rel r1 E o.type z
    have hl : (fr.toList.map a.eval).toArray = fr.map a.eval := by apply Array.ext'; simp
    have hp : RelPV g1 w (.one (.clo f t y)) (.func (.func f) #[] (fr.map a.eval)) := Or.inr ⟨_, by rw [← hl], hrep⟩
    exact wp_val (v := .func (.func f) #[] (fr.map a.eval)) (w' := w) (by simp [execOp, ho, Instr.makeFunc]) (hn _ _ _ _ (r1.put _ hp) k1 b1)
  · cases k1

theorem inlCall_sound (hE : EnvOk P E) (hm : P.follows .mixedOrders = true) {c : Call} {gx : Operand} {f : FuncId} {ct : Ty} {cy : ct.den} {fn : Func} (ho : o.op = .call c) (hc : c.callee = .value gx) (hgx : opv E σ o.type gx = .one (.clo f ct cy)) (hi : look E.inl f = some fn) (har : c.args.size = c.argTypes.size)
    (h : Rel w0 g σ a w) (hk : evInl E fn (((c.args.toList.zip c.argTypes.toList).map fun (x, t) => opv E σ t x) ++ (flat ct cy).map PV.one) o.dst σ K = some r) (hn : Then' w0 g.base K r next) : o.wp P a w next Q := by
  have hcl : RelCl g w (.clo f ct cy) (a.eval gx) := by
    have := opv_rel h E o.type gx
    rw [hgx] at this
    exact this.elim (fun e => by cases e) id
  obtain ⟨caps, hcap, hcr⟩ := hcl
  have hcap : a.eval gx = .func (.func f) #[] caps.toArray := by simpa using hcap
  have hcls := hcr.flat
  have hcln : caps.length = (flat ct cy).length := hcls.length
  have hzl : (List.map (fun x => opv E σ x.2 x.1) (c.args.toList.zip c.argTypes.toList)).length = (c.args.toList.map a.eval).length := by simp [har]
  obtain ⟨e1, e2, e3⟩ := hE.inl f fn hi
  have hcall := inl_sound hE hm (vs := c.args.toList.map a.eval ++ caps) (f := f) h (by simp [har, hcln]) (fun i p v hi hv => by
            rw [List.getElem?_append] at hi hv
            rw [hzl] at hi
            split at hi
            · rename_i hlt
              rw [if_pos hlt] at hv
              simp only [List.getElem?_map, Option.map_eq_some_iff] at hi hv
              obtain ⟨⟨z, t⟩, hz, rfl⟩ := hi
              obtain ⟨z', hz', rfl⟩ := hv
              have := (List.getElem?_zip_eq_some.1 hz).1
              rw [this] at hz'
              cases hz'
              exact opv_rel h E t z
            · rename_i hlt
              rw [if_neg hlt] at hv
              exact hcls.eachOne _ hi hv) e1 hk hn
  have e4 : fn.name ≠ "runtime.NumGoroutine" := by simpa using e2
  have e5 : fn.body ≠ none := fun e => by rw [e] at e3; cases e3
  have hrun : (execOp a.eval o).run P w = .ok (.enter f (c.args.map a.eval ++ caps.toArray)) w := by
    simp [execOp, ho, resolve, hc, hcap, Deferred.ofValue, invoke, callFunc, e1, e4, e5]
  unfold Oper.wp
  rw [hrun, Oper.upon_enter]
  have hlist : (c.args.toList.map a.eval ++ caps).toArray = c.args.map a.eval ++ caps.toArray := by apply Array.ext'; simp
  rw [hlist] at hcall
  refine hcall.mono ?_
  rintro e w' ⟨v, rfl, hres⟩
  exact hres

theorem spOf_sound (hE : EnvOk P E) (hm : P.follows .mixedOrders = true) (h : Rel w0 g σ a w) (hk : (match spOf E o σ with
      | .no => evOp E o σ K
      | .inl fn args => evInl E fn args o.dst σ K
      | .mk f fr => evMk E o f fr σ K) = some r) (hn : Then' w0 g.base K r next) : o.wp P a w next Q := by
  have plain : evOp E o σ K = some r → o.wp P a w next Q := fun hk => evOp_sound hE h hk fun g' σ' a' w' h1 h2 h3 => hn g' σ' a' w' h1 h2 h3.1
  generalize hs : spOf E o σ = s at hk
  cases s with
  | no => exact plain hk
  | inl fn args =>
    dsimp only at hk
    unfold spOf at hs
    split at hs
    · rename_i c ho
      split at hs
      · cases hs
      · split at hs
        · rename_i gx hc
          split at hs
          · rename_i f ct cy hgx
            split at hs
            · rename_i fn' hi
              split at hs
              · rename_i har
                cases hs
                exact inlCall_sound hE hm ho hc hgx hi har h hk hn
              · cases hs
            · cases hs
          · cases hs
        · cases hs
    · split at hs <;> cases hs
    · cases hs
  | mk f fr =>
    dsimp only at hk
    unfold spOf at hs
    split at hs
    · rename_i c ho
      split at hs
      · cases hs
      · split at hs
        · split at hs
          · split at hs
            · split at hs <;> cases hs
            · cases hs
          · cases hs
        · cases hs
    · rename_i fn' bd fr' ho
      split at hs
      · rename_i f' hbd
        cases hs
        have : bd = #[] := by apply Array.ext'; simpa using hbd
        subst this
        exact mk_sound hE ho h hk hn
      · cases hs
    · cases hs

theorem evOpsI_sound (hE : EnvOk P E) (hm : P.follows .mixedOrders = true) {ops : Array Oper} : ∀ (rest : List Oper) (idxs : List Nat) {g : Gh} {σ : St} {a : Act} {w : World}, idxs.map (fun i => ops[i]?) = rest.map some → Rel w0 g σ a w → evOpsI E ops rest σ K = some r → Then' w0 g.base K r (Q .normal) → wpOps P ops Q idxs a w
  | [], idxs, g, σ, a, w, hl, h, hk, hn => by
    have : idxs = [] := by simpa using hl
    subst this
    exact hn _ _ _ _ h hk rfl
  | o :: rest, [], g, σ, a, w, hl, h, hk, hn => by simp at hl
  | o :: rest, i :: idxs, g, σ, a, w, hl, h, hk, hn => by
    simp only [List.map_cons, List.cons.injEq] at hl
    obtain ⟨hi, hl⟩ := hl
    have goOn : evOp E o σ (fun σ' => evOpsI E ops rest σ' K) = some r → o.wp P a w (wpOps P ops Q idxs) Q := fun hk' =>
      evOp_sound hE h hk' fun g' σ' a' w' h1 h2 h3 => evOpsI_sound hE hm rest idxs hl h1 h2 (by rw [h3.1]; exact hn)
    have skip : evOpsI E ops rest (σ.put o.dst .skip) K = some r → wpOps P ops Q idxs (a.put o.dst undef) w := fun hk' =>
      evOpsI_sound hE hm rest idxs hl (h.put _ (p := .skip) rfl) hk' hn
    simp only [wpOps, hi]
    simp only [evOpsI] at hk
    split at hk
    · rename_i hg
      rw [if_pos (by simp [Region.wanted, hg])]
      exact .inl (spOf_sound hE hm h hk fun g' σ' a' w' h1 h2 h3 => evOpsI_sound hE hm rest idxs hl h1 h2 (by rw [h3]; exact hn))
    · rename_i j want hg
      split at hk
      · cases hk
      · rename_i t ht
        split at hk
        · rename_i b hb
          have hy := yielded_of h ht hb
          cases want <;> cases b <;> simp only [cond_true, cond_false] at hk <;> rw [setLit_same hb] at hk
          · rw [if_pos (by simp [Region.wanted, hg, hy])]; exact .inl (goOn hk)
          · rw [if_neg (by simp [Region.wanted, hg, hy])]; exact skip hk
          · rw [if_neg (by simp [Region.wanted, hg, hy])]; exact skip hk
          · rw [if_pos (by simp [Region.wanted, hg, hy])]; exact .inl (goOn hk)
        · rename_i hb
          have hy := yielded_skip h ht hb
          rw [if_neg (by simp [Region.wanted, hg, hy])]
          exact skip hk
        · cases hk

theorem regionI_sound (hE : EnvOk P E) (hm : P.follows .mixedOrders = true) {ops : Array Oper} {id : Nat} (h : Rel w0 g σ a w) (hk : evOpsI E ops ops.toList σ K = some r) (hn : Then' w0 g.base K r (Q .normal)) : (Code.region id ops false).wp P Q a w :=
  wp_region (evOpsI_sound hE hm _ _ (range_ops ops) h hk hn)

end Go.V

/- The whole code of a function. -/
namespace Go.V
open Go.RowKit

variable {P : Program} {E : Env} {w0 : Org} {g g' : Gh} {σ τ : St} {a : Act} {w : World} {R : Type} {r : R} {Q : Exit → Act → World → Prop} {C : Ctx R}

inductive Obl (R : Type) where
  | loop (m : Mark R) (p : Nat) (b : Code)
  | join (m : Mark R) (p : Nat) (b : Code)

def Obl.holds (C : Ctx R) : Obl R → Prop
  | .loop m p b => ∀ x Kx, m.f C.N 0 x Kx = none ∧ ∀ k, m.f C.N (k + 1) x Kx = evK C p b (inject C.E C.n m.ins x) fun e σ' => match e with
    | none => match extract C.E C.n m.ins σ' with
      | some x' => m.f C.N k x' Kx
      | none => none
    | some id => if m.ex = some id then match extract C.E C.n m.outs σ' with
      | some y => Kx y
      | none => none
      else none
  | .join m p b => ∀ x Kx, m.f C.N 0 x Kx = evK C p b (inject C.E C.n m.ins x) fun e σ' => if e = m.ex then match extract C.E C.n m.outs σ' with
      | some y => Kx y
      | none => none
      else none

def obls (C : Ctx R) (p : Nat) : Code → List (Obl R)
  | .seq a b => obls C (2 * p) a ++ (match look C.marks (2 * p + 1) with | some m => [.join m (2 * p + 1) b] | none => []) ++ obls C (2 * p + 1) b
  | .cond _ x y => obls C (2 * p) x ++ obls C (2 * p + 1) y
  | .block _ b => obls C (2 * p) b
  | .loop b => (match look C.marks (2 * p) with | some m => [.loop m (2 * p) b] | none => []) ++ obls C (2 * p) b
  | _ => []

theorem wp_loop_k {c : Code} (I : Nat → Act → World → Prop) {k : Nat} (h0 : I k a w) (round : ∀ k a w, I k a w → c.wp P (Exit.then (fun a' w' => ∃ k', k' < k ∧ I k' a' w') Q) a w) : (Code.loop c).wp P Q a w := by
  intro b k cs
  have key : ∀ n a w, I n a w → ∃ e a' w', Q e a' w' ∧ Arrives P (lone (b.at a (.code c :: .inLoop c :: k)) cs w) b k cs e a' w' := by
    intro n
    induction n using Nat.strongRecOn with
    | _ n ih =>
      intro a w hI
      obtain ⟨e, a₁, w₁, hq, harr⟩ := round n a w hI b (.inLoop c :: k) cs
      cases e with
      | normal =>
        obtain ⟨n', hlt, hI₁⟩ := hq
        obtain ⟨e₂, a₂, w₂, hq₂, harr₂⟩ := ih n' hlt a₁ w₁ hI₁
        exact ⟨e₂, a₂, w₂, hq₂, .of_steps (Steps.trans harr (.one step_inLoop)) harr₂⟩
      | exit id => exact ⟨_, a₁, w₁, hq, .pass (x := .inLoop c) rfl (fun _ _ => .inl (by simp)) harr⟩
      | goto l => exact ⟨_, a₁, w₁, hq, .pass (x := .inLoop c) rfl (fun _ _ => .inl (by simp)) harr⟩
      | ret => exact ⟨_, a₁, w₁, hq, .pass (x := .inLoop c) rfl (fun _ _ => .inl (by simp)) harr⟩
      | panic ch => exact ⟨_, a₁, w₁, hq, .pass (x := .inLoop c) rfl (fun _ _ => .inl (by simp)) harr⟩
      | outgrown => exact ⟨_, a₁, w₁, hq, .pass (x := .inLoop c) rfl (fun _ _ => .inl (by simp)) harr⟩
  obtain ⟨e, a', w', hq, harr⟩ := key _ a w h0
  exact ⟨e, a', w', hq, .of_steps (.one step_loop) harr⟩

theorem evK_sound (hE : EnvOk P C.E) (hm : P.follows .mixedOrders = true) : ∀ (c : Code) (p : Nat) (K : Option Nat → St → Option R) (Q : Exit → Act → World → Prop) {g : Gh} {σ : St} {a : Act} {w : World}, Rel w0 g σ a w → evK C p c σ K = some r → KOk w0 g.base K r Q →
    Then' w0 g.base C.fin r (Q .ret) → (∀ o ∈ obls C p c, o.holds C) → c.wp P Q a w := by
  intro c
  induction c with
  | skip => intro p K Q g σ a w h hk hK hf hg; exact wp_skip (hK _ none _ _ _ h hk rfl)
  | label l => intro p K Q g σ a w h hk hK hf hg; exact wp_label (hK _ none _ _ _ h hk rfl)
  | exit id => intro p K Q g σ a w h hk hK hf hg; exact wp_exit (hK _ (some id) _ _ _ h hk rfl)
  | ret => intro p K Q g σ a w h hk hK hf hg; exact wp_ret (hf _ _ _ _ h hk rfl)
  | region id ops draw =>
    intro p K Q g σ a w h hk hK hf hg
    simp only [evK] at hk
    split at hk
    · exact regionI_sound hE hm h hk fun g' σ' a' w' h1 h2 h3 => hK g' none σ' a' w' h1 h2 h3
    · split at hk
      · rename_i hB
        exact draw_sound hE hm h hB hk fun g' σ' a' w' h1 h2 h3 => hK g' none σ' a' w' h1 h2 h3
      · cases hk
  | seq x y ihx ihy =>
    intro p K Q g σ a w h hk hK hf hg
    simp only [obls, List.mem_append] at hg
    refine wp_seq (ihx (2 * p) _ _ h hk ?_ ?_ fun o ho => hg o (.inl (.inl ho)))
    · intro g' e σ' a' w' h1 h2 h3
      cases e with
      | some i => exact hK g' (some i) σ' a' w' h1 h2 h3
      | none =>
        simp only [exitOf, Exit.then]
        dsimp only at h2
        split at h2
        · rename_i m hmk
          unfold Mark.go at h2
          split at h2
          · rename_i xx hxx
            have ho := hg (.join m (2 * p + 1) y) (.inl (.inr (by rw [hmk]; simp)))
            obtain ⟨g2, r1, r2⟩ := extract_sound h1 hxx
            have heq := ho xx (fun yy => K m.ex (inject C.E C.n m.outs yy))
            rw [heq] at h2
            refine ihy (2 * p + 1) _ Q r1 h2 ?_ ?_ fun o ho => hg o (.inr ho)
            · intro g3 e σ3 a3 w3 s1 s2 s3
              dsimp only at s2
              split at s2
              · rename_i he
                subst he
                split at s2
                · rename_i yy hyy
                  obtain ⟨g4, t1, t2⟩ := extract_sound s1 hyy
                  exact hK g4 _ _ _ _ t1 s2 (by rw [t2, s3, r2, h3])
                · cases s2
              · cases s2
            · intro g3 σ3 a3 w3 s1 s2 s3
              exact hf g3 σ3 a3 w3 s1 s2 (by rw [s3, r2, h3])
          · cases h2
        · refine ihy (2 * p + 1) _ Q h1 h2 ?_ ?_ fun o ho => hg o (.inr ho)
          · rw [h3]; exact hK
          · rw [h3]; exact hf
    · exact hf
  | cond c x y ihx ihy =>
    intro p K Q g σ a w h hk hK hf hg
    simp only [obls, List.mem_append] at hg
    simp only [evK] at hk
    split at hk
    · rename_i b hb
      have hc := opv_rel h C.E 0 c
      rw [hb] at hc
      cases b with
      | true => exact wp_cond_true hc.bool (ihx (2 * p) K Q h hk hK hf fun o ho => hg o (.inl ho))
      | false => exact wp_cond_false hc.bool (ihy (2 * p + 1) K Q h hk hK hf fun o ho => hg o (.inr ho))
    · cases hk
  | block id b ih =>
    intro p K Q g σ a w h hk hK hf hg
    refine wp_block (ih (2 * p) _ _ h hk ?_ hf hg)
    intro g' e σ' a' w' h1 h2 h3
    cases e with
    | none => exact hK g' none σ' a' w' h1 h2 h3
    | some i =>
      simp only [exitOf, Exit.inBlock]
      dsimp only at h2
      split at h2
      · rename_i hi; rw [if_pos hi]; exact hK g' none σ' a' w' h1 h2 h3
      · rename_i hi; rw [if_neg hi]; exact hK g' (some i) σ' a' w' h1 h2 h3
  | loop b ih =>
    intro p K Q g σ a w h hk hK hf hg
    simp only [evK] at hk
    split at hk
    · rename_i m hmk
      unfold Mark.go at hk
      split at hk
      · rename_i x hx
        have ho := hg (.loop m (2 * p) b) (by simp only [obls, List.mem_append]; exact .inl (by rw [hmk]; simp))
        obtain ⟨g1, r1, r2⟩ := extract_sound h hx
        refine wp_loop_k (fun k a w => ∃ x g', Rel w0 g' (inject C.E C.n m.ins x) a w ∧ g'.base = g.base ∧ m.f C.N k x (fun y => K m.ex (inject C.E C.n m.outs y)) = some r) (k := C.N) ⟨x, g1, r1, r2, hk⟩ ?_
        rintro k a w ⟨x, g2, s1, s2, s3⟩
        obtain ⟨e0, e1⟩ := ho x (fun y => K m.ex (inject C.E C.n m.outs y))
        cases k with
        | zero => rw [e0] at s3; cases s3
        | succ k =>
          rw [e1 k] at s3
          refine ih (2 * p) _ _ s1 s3 ?_ ?_ fun o ho => hg o (by simp only [obls, List.mem_append]; exact .inr ho)
          · intro g3 e σ3 a3 w3 t1 t2 t3
            cases e with
            | none =>
              simp only [exitOf, Exit.then]
              dsimp only at t2
              split at t2
              · rename_i x' hx'
                obtain ⟨g4, u1, u2⟩ := extract_sound t1 hx'
                exact ⟨k, Nat.lt_succ_self k, x', g4, u1, by rw [u2, t3, s2], t2⟩
              · cases t2
            | some id =>
              simp only [exitOf, Exit.then]
              dsimp only at t2
              split at t2
              · rename_i hex
                split at t2
                · rename_i y hy
                  obtain ⟨g4, u1, u2⟩ := extract_sound t1 hy
                  have := hK g4 _ _ _ _ u1 t2 (by rw [u2, t3, s2])
                  rw [hex] at this
                  exact this
                · cases t2
              · cases t2
          · intro g3 σ3 a3 w3 t1 t2 t3
            exact hf g3 σ3 a3 w3 t1 t2 (by rw [t3, s2])
      · cases hk
    · cases hk
  | _ => intro p K Q g σ a w h hk; simp [evK] at hk

end Go.V

/- A function. -/
namespace Go.V
open Go.RowKit

variable {P : Program} {E : Env} {w0 : Org} {g g' : Gh} {σ τ : St} {a : Act} {w : World} {R : Type} {r : R} {Q : Exit → Act → World → Prop}

theorem finish_rel (hE : EnvOk P E) (h : Rel w0 g σ a w) {fn : Func} {rs : List Ty} {x : (Ty.prods rs).den} (hx : finish E fn rs σ = some x) :
    ∃ v, (results fn a.tmps).run P w = .ok v w ∧ ∃ F : Nat → Prop, (∀ b, F b → w0.F0 b ∨ (g.base ≤ b ∧ b < w.heap.size)) ∧ ResOk F w rs x v := by
  unfold finish at hx
  split at hx
  · rename_i pvs hp
    split at hx
    · rename_i hfit
      split at hx
      · rename_i x' hu
        cases hx
        obtain ⟨vs, h1, h2, h3⟩ := gather_rel hE h _ _ hp
        obtain ⟨us, i1, i2, i3, i4⟩ := argsFit_rel (g := g) (w := w) _ _ vs hfit h2 h3
        obtain ⟨F1, f1, hle, r1, d1, _⟩ := h.settle (pvs.map PV.cells).flatten
        have hrep : RepV F1 w (Ty.prods rs) x us.flatten := unflat_all (g := { g with Fr := F1 }) hu (d1 _ i3)
        have hvals : ValsOk F1 w rs x vs := ValsOk.prods _ _ _ us i1 (by rw [h2, i2]) hrep i4
        refine ⟨pack vs, ?_, F1, fun b hb => ?_, vs, hvals, rfl⟩
        · exact results_run h1
        · exact (r1.dfr.2 b hb).imp id fun hb' => ⟨hb', r1.lt b hb⟩
      · cases hx
    · cases hx
  · cases hx

end Go.V

/- A function's contract out of its reading. -/
namespace Go.V
open Go.RowKit

variable {P : Program} {E : Env} {R : Type}

theorem toList_getD {α : Type} (l : Array α) (t : Nat) (d : α) : l.toList.getD t d = l.getD t d := by simp [Array.getD_eq_getD_getElem?]

theorem start_rel {F : Nat → Prop} {w : World} (hF : ∀ b, F b → b < w.heap.size) : ∀ (ps : List Ty) (x : (Ty.prods ps).den) (vs : List Value) (n : Nat), ValsOk F w ps x vs → vs.length = ps.length ∧
    ∀ t, RelPV { base := w.heap.size, β := [], α := [], Fr := F } w ((pvsOf ps x ++ List.replicate n PV.junk).getD t PV.junk) ((vs ++ List.replicate n undef).getD t undef)
  | [], x, vs, n, h => by
    have : vs = [] := h
    subst this
    refine ⟨rfl, fun t => ?_⟩
    simp only [pvsOf, List.nil_append]
    have : (List.replicate n PV.junk).getD t .junk = .junk := by
      by_cases ht : t < n
      · simp [ht]
      · simp [ht]
    rw [this]
    exact .inl rfl
  | t :: ps, x, _, n, ⟨v, r, rfl, h1, h2⟩ => by
    obtain ⟨i1, i2⟩ := start_rel hF ps x.2 r n h2
    refine ⟨by simp [i1], fun k => ?_⟩
    cases k with
    | zero => exact pvOf_rel h1
    | succ k => simpa [pvsOf] using i2 k

theorem pvsOf_length : ∀ (ps : List Ty) (x : (Ty.prods ps).den), (pvsOf ps x).length = ps.length
  | [], _ => rfl
  | _ :: ps, x => by simp [pvsOf, pvsOf_length ps x.2]

theorem ValsOk.mono {F F' : Nat → Prop} {w : World} (hF : ∀ b, F b → F' b) : ∀ (ps : List Ty) (x : (Ty.prods ps).den) (vs : List Value), ValsOk F w ps x vs → ValsOk F' w ps x vs
  | [], _, _, h => h
  | t :: ps, x, _, ⟨v, r, h, h1, h2⟩ => by
    refine ⟨v, r, h, ?_, ValsOk.mono hF ps x.2 r h2⟩
    unfold ValOk at *
    split
    · rename_i ha; rw [if_pos ha] at h1; obtain ⟨cs, h3, h4⟩ := h1; exact ⟨cs, h3, RepV.mono hF (fun _ _ => rfl) t x.1 cs h4⟩
    · rename_i ha; rw [if_neg ha] at h1; exact RepV.mono hF (fun _ _ => rfl) t x.1 _ h1

theorem fn_sound (hE : EnvOk P E) (hm : P.follows .mixedOrders = true) {f : FuncId} {fn : Func} {c : Code} (hf : P.funcs[f]? = some fn) (hb : fn.body = some c) (ps rs : List Ty) (mk : List (Nat × Mark (Ty.prods rs).den)) (N : Nat)
    (ho : ∀ o ∈ obls { E, n := fn.ntmps, marks := mk, fin := finish E fn rs, N } 1 c, o.holds { E, n := fn.ntmps, marks := mk, fin := finish E fn rs, N }) :
    Sound P f { ps, rs, f := fun x => evBody E fn rs mk N (start fn ps x) } := by
  intro x r hx w F vs hF hv
  dsimp only at hx hv
  obtain ⟨hl, htm⟩ := start_rel hF ps x vs (fn.ntmps - ps.length) hv
  refine calls_of_wp hf hb ?_
  let w0 : Org := { toWorld := w, F0 := F, out := [], ref := w }
  have hrel : Rel w0 { base := w.heap.size, β := [], α := [], Fr := F } (start fn ps x) { tmps := vs.toArray ++ Array.replicate (fn.ntmps - vs.toArray.size) undef, defers := [] } w := by
    refine ⟨rfl, Below.refl _ w, hF, fun t => ?_, ?_, ⟨rfl, fun b hb => .inl hb⟩, rfl, ?_, ?_, rfl, ?_, ?_, fun _ _ hk _ => hk⟩
    · have := htm t
      have e : (vs.toArray ++ Array.replicate (fn.ntmps - vs.toArray.size) undef).getD t undef = (vs ++ List.replicate (fn.ntmps - ps.length) undef).getD t undef := by
        rw [← hl]
        simp [Array.getD_eq_getD_getElem?, List.getElem?_append, Array.getElem?_append, Array.getElem?_replicate, List.getElem?_replicate]
      have e2 : ((vs.toArray ++ Array.replicate (fn.ntmps - vs.toArray.size) undef).toList ++ w0.out).getD t undef = (vs.toArray ++ Array.replicate (fn.ntmps - vs.toArray.size) undef).getD t undef := by
        show (_ ++ []).getD t undef = _
        rw [List.append_nil]
        exact toList_getD _ _ _
      rw [e2, e]
      exact this
    · simp [start, hl]
    · intro i t cs hi; simp [start] at hi
    · intro i k b hi; simp at hi
    · intro j A hA; simp [start] at hA
    · intro j k A B v u s s' b _ hA; simp [start] at hA
  unfold evBody at hx
  rw [hb] at hx
  have fin : Then' w0 w.heap.size (finish E fn rs) r (fun a' w' => a'.defers = [] ∧ ∃ v, (results fn a'.tmps).run P w' = .ok v w' ∧ ∃ u, Ending.returned v = .returned u ∧ ResOk (fun b => F b ∨ (w.heap.size ≤ b ∧ b < w'.heap.size)) w' rs r u ∧ Below w.heap.size w w') := fun g' σ' a' w' h1 h2 h3 => by
    obtain ⟨v, r1, F', r2, us, r3, r4⟩ := finish_rel hE h1 h2
    exact ⟨h1.dfr.1, v, r1, v, rfl, ⟨us, ValsOk.mono (fun b hb' => by rw [h3] at r2; exact r2 b hb') _ _ _ r3, r4⟩, h1.below⟩
  refine evK_sound (w0 := w0) (C := { E, n := fn.ntmps, marks := mk, fin := finish E fn rs, N }) hE hm c 1 _ _ hrel hx ?_ fin ho
  intro g' e σ' a' w' h1 h2 h3
  cases e with
  | none => exact fin g' σ' a' w' h1 h2 h3
  | some i => cases h2

end Go.V

/- The tables of types, checked by a reckoning. -/
namespace Go.V
open Go.RowKit

variable {P : Program} {E : Env}

def fieldsB (P : Program) : Ty → List Field → Nat → Bool
  | .pair a b, fd :: fs, off => (fd.offset == off) && (match P.info? fd.type with | some i => i.size == a.size | none => false) && (a.size != 0) &&
      (match P.underlying fd.type with | some d => isStruct d == a.agg | none => false) && fieldsB P b fs (off + a.size)
  | .unit, [], _ => true
  | _, _, _ => false

theorem fieldsB_spec : ∀ (τ : Ty) (fs : List Field) (off : Nat), fieldsB P τ fs off = true → ∃ places, fs.mapM (fun f => (P.info? f.type).map fun i => (f.offset, i.size)) = some places ∧
    ∀ f o t', τ.fld f = some (o, t') → places[f]? = some (off + o, t'.size) ∧ ∃ fd i d', fs[f]? = some fd ∧ fd.offset = off + o ∧ P.info? fd.type = some i ∧ i.size = t'.size ∧ t'.size ≠ 0 ∧ P.underlying fd.type = some d' ∧ isStruct d' = t'.agg := by
  intro τ
  induction τ with
  | pair a b iha ihb =>
    intro fs off h
    cases fs with
    | nil => simp [fieldsB] at h
    | cons fd fs =>
      simp only [fieldsB, Bool.and_eq_true] at h
      obtain ⟨⟨⟨⟨h1, h2⟩, h3⟩, h4⟩, h5⟩ := h
      split at h2
      case h_2 => cases h2
      rename_i i hi
      split at h4
      case h_2 => cases h4
      rename_i d hd
      simp only [beq_iff_eq, bne_iff_ne, ne_eq] at h1 h2 h3 h4
      obtain ⟨places, k1, k2⟩ := ihb fs _ h5
      refine ⟨(fd.offset, i.size) :: places, by simp [List.mapM_cons, hi, k1], fun f o t' hf => ?_⟩
      cases f with
      | zero =>
        simp only [Ty.fld, Option.some.injEq, Prod.mk.injEq] at hf
        obtain ⟨rfl, rfl⟩ := hf
        exact ⟨by simp [h1, h2], fd, i, d, rfl, by simp [h1], hi, h2, h3, hd, h4⟩
      | succ f =>
        simp only [Ty.fld] at hf
        split at hf
        · rename_i o' t'' ho
          simp only [Option.some.injEq, Prod.mk.injEq] at hf
          obtain ⟨rfl, rfl⟩ := hf
          obtain ⟨m1, fd', i', d', m2, m3, m4⟩ := k2 f _ _ ho
          exact ⟨by simpa [Nat.add_assoc] using m1, fd', i', d', by simpa using m2, by rw [m3, Nat.add_assoc], m4⟩
        · cases hf
  | unit =>
    intro fs off h
    cases fs with
    | nil => exact ⟨[], rfl, fun f o t' hf => by simp [Ty.fld] at hf⟩
    | cons fd fs => simp [fieldsB] at h
  | _ => intro fs off h; simp [fieldsB] at h

def zeroB : Ty → List Value → Option (List Value)
  | .int k, .int k' n :: r => if k' = k ∧ n = 0 then some r else none
  | .bool, .bool false :: r => some r
  | .str, .string s :: r => if s.size = 0 then some r else none
  | .sl _ _, .slice none 0 0 :: r => some r
  | .ref _, .pointer none :: r => some r
  | .clo _ _, .nilFunc :: r => some r
  | .unit, r => some r
  | .pair a b, r => match zeroB a r with
    | some r => zeroB b r
    | none => none
  | _, _ => none

theorem zeroB_spec : ∀ (τ : Ty) (vs r : List Value), zeroB τ vs = some r → vs = zeroV τ ++ r := by
  intro τ
  induction τ with
  | pair a b iha ihb =>
    intro vs r h
    simp only [zeroB] at h
    split at h
    · rename_i r1 h1
      rw [iha _ _ h1, ihb _ _ h]
      simp [zeroV]
    · cases h
  | unit => intro vs r h; simp only [zeroB, Option.some.injEq] at h; subst h; rfl
  | int k =>
    intro vs r h
    unfold zeroB at h
    split at h <;> try contradiction
    rename_i k0 k' n r' hk
    split at h
    · rename_i hh
      obtain ⟨rfl, rfl⟩ := hh
      cases h; cases hk; rfl
    · cases h
  | bool =>
    intro vs r h
    unfold zeroB at h
    split at h <;> try contradiction
    cases h; rfl
  | str =>
    intro vs r h
    unfold zeroB at h
    split at h <;> try contradiction
    rename_i s r' hk
    split at h
    · rename_i hs
      cases h
      have : s = ByteArray.empty := by
        obtain ⟨⟨l⟩⟩ := s
        have : l = [] := List.eq_nil_of_length_eq_zero hs
        subst this
        rfl
      rw [this]; rfl
    · cases h
  | sl e t _ =>
    intro vs r h
    unfold zeroB at h
    split at h <;> try contradiction
    cases h; rfl
  | ref t _ =>
    intro vs r h
    unfold zeroB at h
    split at h <;> try contradiction
    cases h; rfl
  | clo f c _ =>
    intro vs r h
    unfold zeroB at h
    split at h <;> try contradiction
    cases h; rfl

def kindB (P : Program) (E : Env) : Ty → TypeDesc → Bool
  | .int k, .int k' => decide (k' = k)
  | .bool, .bool => true
  | .str, .string => true
  | .sl e t, .slice e' => decide (e' = e) && (match look E.ty e with | some t' => decide (t' = t) | none => false) && t.size != 0 && t.plain
  | .ref _, .pointer _ => true
  | .clo _ _, .func _ _ _ => true
  | .pair a b, .struct fs => fieldsB P (.pair a b) fs.toList 0
  | .unit, .struct fs => fieldsB P .unit fs.toList 0
  | _, _ => false

def tyB (P : Program) (E : Env) (t : TypeId) (τ : Ty) : Bool := match P.info? t, P.underlying t with
  | some i, some d => (i.size == τ.size) && (match i.zero with | some z => (match zeroB τ z.cells.toList with | some [] => true | _ => false) | none => false) && kindB P E τ d
  | _, _ => false

theorem tyB_agg {τ : Ty} {d : TypeDesc} {t : TypeId} (hd : P.underlying t = some d) (ha : τ.agg = true) (h : kindB P E τ d = true) : ∃ fs, d = .struct fs ∧ fieldsB P τ fs.toList 0 = true := by
  unfold kindB at h
  split at h <;> first | (cases ha; done) | exact ⟨_, rfl, h⟩ | (cases h; done)

theorem tyB_spec {t : TypeId} {τ : Ty} (h : tyB P E t τ = true) : TyOk P E t τ := by
  unfold tyB at h
  split at h
  case h_2 => cases h
  rename_i i d hi hd
  simp only [Bool.and_eq_true, beq_iff_eq] at h
  obtain ⟨⟨h1, h2⟩, h4⟩ := h
  split at h2
  case h_2 => cases h2
  rename_i z hz
  split at h2
  case h_2 => cases h2
  rename_i hzb
  have hzc : z.cells = (zeroV τ).toArray := by
    have := zeroB_spec _ _ _ hzb
    rw [List.append_nil] at this
    rw [← this]
  have hagg : isStruct d = τ.agg := by
    unfold kindB at h4
    split at h4 <;> first | rfl | cases h4
  refine ⟨⟨i, z, hi, h1, hz, hzc⟩, ⟨d, hd, hagg, ?_, ?_, ?_, ?_, ?_⟩, ?_⟩
  · intro k hk
    subst hk
    unfold kindB at h4
    split at h4 <;> first | (cases h4; done) | skip
    all_goals (rename_i k0 k1 he; first | (cases he; exact congrArg _ (of_decide_eq_true h4)) | skip)
    all_goals cases ‹Ty.int _ = _›
  · rintro rfl
    unfold kindB at h4
    split at h4 <;> first | rfl | (cases h4; done) | (cases ‹Ty.str = _›; done)
  · rintro rfl
    unfold kindB at h4
    split at h4 <;> first | rfl | (cases h4; done) | (cases ‹Ty.bool = _›; done)
  · rintro e t' rfl
    cases d <;> simp only [kindB, Bool.false_eq_true] at h4
    simp only [Bool.and_eq_true, bne_iff_ne, ne_eq] at h4
    obtain ⟨⟨⟨m1, m2⟩, m3⟩, m4⟩ := h4
    have m1 := of_decide_eq_true m1
    split at m2
    · rename_i t'' ht
      have := of_decide_eq_true m2
      subst this
      subst m1
      exact ⟨rfl, ht, m3, m4⟩
    · cases m2
  · intro ha
    obtain ⟨fs, rfl, hf⟩ := tyB_agg hd ha h4
    obtain ⟨places, k1, k2⟩ := fieldsB_spec _ _ _ hf
    refine ⟨fs, rfl, fun f off t' hfl => ?_⟩
    obtain ⟨_, fd, i, d', m1, m2⟩ := k2 f off t' hfl
    exact ⟨fd, i, d', by simpa using m1, by simpa using m2⟩
  · intro ha
    obtain ⟨fs, rfl, hf⟩ := tyB_agg hd ha h4
    obtain ⟨places, k1, k2⟩ := fieldsB_spec _ _ _ hf
    exact ⟨fs, places, hd, k1, fun f off t' hfl => by simpa using (k2 f off t' hfl).1⟩

def eqFieldsB (P : Program) : Ty → List Field → Nat → Bool
  | .pair (.int k) r, fd :: fs, off => (fd.offset == off) && (fd.name != "_") && (match P.underlying fd.type with | some (.int _) => true | _ => false) && eqFieldsB P r fs (off + 1)
  | .pair .bool r, fd :: fs, off => (fd.offset == off) && (fd.name != "_") && (match P.underlying fd.type with | some .bool => true | _ => false) && eqFieldsB P r fs (off + 1)
  | .pair .str r, fd :: fs, off => (fd.offset == off) && (fd.name != "_") && (match P.underlying fd.type with | some .string => true | _ => false) && eqFieldsB P r fs (off + 1)
  | .unit, [], _ => true
  | _, _, _ => false

theorem part_at {t : TypeId} {d : TypeDesc} {xs : Array Value} {off : Nat} {v : Value} {w : World} (hu : P.underlying t = some d) (hd : isStruct d = false) (hv : xs[off]? = some v) : (part t xs off).run P w = .ok v w := by
  have ha : (isAgg t).run P w = .ok false w := by
    rw [← hd]
    unfold isAgg
    simp only [Sem.run_bind, run_underlying hu, Result.andThen_ok]
    cases d <;> rfl
  unfold part
  simp only [Sem.run_bind, ha, Result.andThen_ok]
  simp [hv]

def eqTail (e : Bool) (cs ds : List Cl) : Option Bool := match cs, ds with
  | [], [] => some e
  | cs, ds => match eqCells cs ds with
    | some b => some (e && b)
    | none => none

theorem eqTail_int (k : IntKind) (x y : Int) (cs ds : List Cl) : eqCells (.int k x :: cs) (.int k y :: ds) = eqTail (x == y) cs ds := by
  cases cs <;> cases ds <;> simp [eqCells, eqTail] <;> rfl

theorem eqTail_bool (x y : Bool) (cs ds : List Cl) : eqCells (.bool x :: cs) (.bool y :: ds) = eqTail (x == y) cs ds := by
  cases cs <;> cases ds <;> simp [eqCells, eqTail] <;> rfl

theorem eqTail_str (x y : ByteArray) (cs ds : List Cl) : eqCells (.str x :: cs) (.str y :: ds) = eqTail (x.toList == y.toList) cs ds := by
  cases cs <;> cases ds <;> simp [eqCells, eqTail] <;> rfl

theorem eqFieldsB_spec {g : Gh} {w : World} {depth : Nat} {xs ys : Array Value} : ∀ (τ : Ty) (fs : List Field) (cs ds : List Cl) (vs us : List Value) (off : Nat) (b : Bool), eqFieldsB P τ fs off = true → fitsC τ cs = true → fitsC τ ds = true → RelCls g w cs vs → RelCls g w ds us →
    (∀ i v, vs[i]? = some v → xs[off + i]? = some v) → (∀ i v, us[i]? = some v → ys[off + i]? = some v) → eqCells cs ds = some b → (Op.eqFields (depth + 1) xs ys fs).run P w = .ok b w := by
  intro τ
  induction τ with
  | pair a r iha ihr =>
    intro fs cs ds vs us off b hf hc hd h1 h2 hx hy he
    cases fs with
    | nil => cases a <;> simp [eqFieldsB] at hf
    | cons fd fs =>
    cases cs with
    | nil => cases a <;> simp [fitsC] at hc
    | cons c cs =>
    cases ds with
    | nil => cases a <;> simp [fitsC] at hd
    | cons d ds =>
    obtain ⟨v, vs', rfl, h3, h4⟩ := h1
    obtain ⟨u, us', rfl, h5, h6⟩ := h2
    have hxv := hx 0 v rfl
    have hyu := hy 0 u rfl
    have hx' : ∀ i v, vs'[i]? = some v → xs[off + 1 + i]? = some v := fun i v h => by rw [show off + 1 + i = off + (i + 1) by omega]; exact hx (i + 1) v (by simpa using h)
    have hy' : ∀ i v, us'[i]? = some v → ys[off + 1 + i]? = some v := fun i v h => by rw [show off + 1 + i = off + (i + 1) by omega]; exact hy (i + 1) v (by simpa using h)
    rw [Nat.add_zero] at hxv hyu
    have step : ∀ (dsc : TypeDesc) (e : Bool), fd.offset = off → fd.name ≠ "_" → P.underlying fd.type = some dsc → isStruct dsc = false → (Op.equalIn (depth + 1) fd.type v u).run P w = .ok e w → eqFieldsB P r fs (off + 1) = true → fitsC r cs = true → fitsC r ds = true →
        eqTail e cs ds = some b → (Op.eqFields (depth + 1) xs ys (fd :: fs)).run P w = .ok b w := by
      intro dsc e ho hn hu hs hq hfs hcs hds hb
      simp only [Op.eqFields, if_pos hn, Sem.run_bind, ho, part_at hu hs hxv, part_at hu hs hyu, Result.andThen_ok, hq]
      have main : ∀ b', eqCells cs ds = some b' → b = (e && b') → (if (!e) = true then pure false else Op.eqFields (depth + 1) xs ys fs : Sem Bool).run P w = .ok b w := by
        intro b' hb' hbe
        cases e with
        | false => rw [hbe]; rfl
        | true => rw [hbe, if_neg (by simp)]; simpa using ihr fs cs ds vs' us' (off + 1) b' hfs hcs hds h4 h6 hx' hy' hb'
      unfold eqTail at hb
      split at hb
      · exact main true rfl (by cases hb; simp)
      · split at hb
        · rename_i b' hb'; exact main b' hb' (by cases hb; rfl)
        · cases hb
    cases a <;> simp only [eqFieldsB, Bool.and_eq_true, beq_iff_eq, bne_iff_ne, Bool.false_eq_true] at hf
    · obtain ⟨⟨⟨f1, f2⟩, f3⟩, f4⟩ := hf
      cases c <;> simp only [fitsC, Bool.false_eq_true, Bool.and_eq_true] at hc
      cases d <;> simp only [fitsC, Bool.false_eq_true, Bool.and_eq_true] at hd
      rename_i n1 _ n2
      have e1 := of_decide_eq_true hc.1
      have e2 := of_decide_eq_true hd.1
      subst e1
      subst e2
      split at f3
      · rename_i k' hu
        rw [show v = .int _ n1 from h3, show u = .int _ n2 from h5] at step
        refine step _ (n1 == n2) f1 f2 hu rfl (run_equalIn_int w depth fd.type _ _ n1 n2 hu) f4 hc.2 hd.2 ?_
        rw [← eqTail_int]; exact he
      · cases f3
    · obtain ⟨⟨⟨f1, f2⟩, f3⟩, f4⟩ := hf
      cases c <;> simp only [fitsC, Bool.false_eq_true] at hc
      cases d <;> simp only [fitsC, Bool.false_eq_true] at hd
      rename_i n1 n2
      split at f3
      · rename_i hu
        rw [show v = .bool n1 from h3, show u = .bool n2 from h5] at step
        refine step _ (n1 == n2) f1 f2 hu rfl (run_equalIn_bool' w depth fd.type n1 n2 hu) f4 hc hd ?_
        rw [← eqTail_bool]; exact he
      · cases f3
    · obtain ⟨⟨⟨f1, f2⟩, f3⟩, f4⟩ := hf
      cases c <;> simp only [fitsC, Bool.false_eq_true] at hc
      cases d <;> simp only [fitsC, Bool.false_eq_true] at hd
      rename_i n1 n2
      split at f3
      · rename_i hu
        rw [show v = .string n1 from h3, show u = .string n2 from h5] at step
        refine step _ (n1.toList == n2.toList) f1 f2 hu rfl (run_equalIn_string w depth fd.type n1 n2 hu) f4 hc hd ?_
        rw [← eqTail_str]; exact he
      · cases f3
  | unit =>
    intro fs cs ds vs us off b hf hc hd h1 h2 hx hy he
    cases fs with
    | cons fd fs => simp [eqFieldsB] at hf
    | nil =>
    cases cs with
    | cons c cs => simp [fitsC] at hc
    | nil =>
    cases ds with
    | cons c cs => simp [fitsC] at hd
    | nil => cases he; rfl
  | _ => intro fs cs ds vs us off b hf; simp [eqFieldsB] at hf

def eqB (P : Program) (E : Env) (t : TypeId) : Bool := match look E.ty t, P.underlying t with
  | some τ, some (.struct fs) => !(P.eqGuardType P.depth t) && !(P.stoodInHeld t) && eqFieldsB P τ fs.toList 0
  | _, _ => false

theorem eqB_spec {t : TypeId} (h : eqB P E t = true) {τ : Ty} (ht : look E.ty t = some τ) (g : Gh) (w : World) (cs ds : List Cl) (vs us : List Value) (b : Bool) (x y : Operand) (h1 : RelCls g w cs vs) (h2 : RelCls g w ds us) (hc : fitsC τ cs = true) (hd : fitsC τ ds = true) (he : eqCells cs ds = some b) :
    ((do eqGuard .eql t x y (.agg vs.toArray) (.agg us.toArray); binOp .eql t (.agg vs.toArray) (.agg us.toArray)) : Sem Value).run P w = .ok (.bool b) w ∧
    ((do eqGuard .neq t x y (.agg vs.toArray) (.agg us.toArray); binOp .neq t (.agg vs.toArray) (.agg us.toArray)) : Sem Value).run P w = .ok (.bool (!b)) w := by
  unfold eqB at h
  rw [ht] at h
  split at h
  case h_2 => cases h
  rename_i τ' fs e1 hu
  cases e1
  simp only [Bool.and_eq_true, Bool.not_eq_true'] at h
  obtain ⟨⟨m1, m2⟩, m3⟩ := h
  have hfo : P.fieldsOf t = fs := by simp [Program.fieldsOf, hu]
  have hq : (Op.equalIn 10000 t (.agg vs.toArray) (.agg us.toArray)).run P w = .ok b w := by
    rw [run_equalIn_agg w 9999 t _ _ (by rw [hfo]; exact hu) m2, hfo]
    exact eqFieldsB_spec (depth := 9998) τ fs.toList cs ds vs us 0 b m3 hc hd h1 h2 (fun i v hv => by simpa using hv) (fun i v hv => by simpa using hv) he
  constructor
  · simp only [Sem.run_bind, run_eqGuard_agg w _ _ _ _ _ _ m1, Result.andThen_ok, run_eql_struct, hq]
  · simp only [Sem.run_bind, run_eqGuard_agg w _ _ _ _ _ _ m1, Result.andThen_ok, run_neq_struct, hq]

def tablesB (P : Program) (ty : List (TypeId × Ty)) (bytes : List (TypeId × Nat)) (eqs : List TypeId) : Bool :=
  let E : Env := { ty, bytes, fn := [], eqs, inl := [] }
  (ty.all fun p => tyB P E p.1 p.2) && (bytes.all fun p => match P.info? p.1 with | some i => i.bytes == p.2 | none => false) && eqs.all fun t => eqB P E t

theorem look_mem {α : Type} {l : List (Nat × α)} {k : Nat} {x : α} (h : look l k = some x) : (k, x) ∈ l := by
  induction l with
  | nil => cases h
  | cons p r ih =>
    simp only [look] at h
    split at h
    · rename_i hk; cases h; subst hk; exact List.mem_cons_self
    · exact List.mem_cons_of_mem _ (ih h)

theorem env_ok {ty : List (TypeId × Ty)} {bytes : List (TypeId × Nat)} {eqs : List TypeId} {fn : List (FuncId × Known)} {inl : List (FuncId × Func)} (h : tablesB P ty bytes eqs = true)
    (hf : ∀ p ∈ fn, Sound P p.1 p.2 ∧ ∃ fn, P.funcs[p.1]? = some fn ∧ (fn.name == "runtime.NumGoroutine") = false ∧ fn.body.isNone = false)
    (hi : ∀ p ∈ inl, P.funcs[p.1]? = some p.2 ∧ (p.2.name == "runtime.NumGoroutine") = false ∧ p.2.body.isNone = false) : EnvOk P { ty, bytes, fn, eqs, inl } := by
  simp only [tablesB, Bool.and_eq_true] at h
  obtain ⟨⟨h1, h2⟩, h3⟩ := h
  have same : ∀ t τ, TyOk P { ty, bytes, fn := [], eqs, inl := [] } t τ → TyOk P { ty, bytes, fn, eqs, inl } t τ := fun t τ h => ⟨h.info, h.und, h.plc⟩
  refine ⟨fun t τ ht => same t τ (tyB_spec (List.all_eq_true.1 h1 _ (look_mem ht))), fun e b hb => ?_, fun f k hk => (hf _ (look_mem hk)).1, fun f k hk => (hf _ (look_mem hk)).2, fun f k hk => hi _ (look_mem hk), fun t ht τ hτ => ?_⟩
  · have := List.all_eq_true.1 h2 _ (look_mem hb)
    dsimp only at this
    split at this
    · rename_i i hi; exact ⟨i, hi, by simpa using this⟩
    · cases this
  · exact eqB_spec (E := { ty, bytes, fn := [], eqs, inl := [] }) (List.all_eq_true.1 h3 t (by simpa using ht)) hτ

end Go.V
