/- What the symbolic reading's values are in memory, and that this holds on while memory grows. -/
import Derived.Test.YtkifmnocomadfaaGVa
import Derived.OwnWalk
namespace Go.V

def RepV (Fr : Nat → Prop) (w : World) : (t : Ty) → t.den → List Value → Prop
  | .int k, n, cs => cs = [.int k n]
  | .bool, b, cs => cs = [.bool b]
  | .str, s, cs => cs = [.string s]
  | .sl _ t, xs, cs => ∃ A c, cs = [.slice A (List.length xs) c] ∧ List.length xs ≤ c ∧ ∀ i x, xs[i]? = some x → ∃ b off ds, A = some ⟨b, off, none⟩ ∧ Fr b ∧ RepV Fr w t x ds ∧
      ∀ m v, ds[m]? = some v → w.cell? ⟨b, off + i * t.size + m, none⟩ = some v
  | .unit, _, cs => cs = []
  | .pair a b, x, cs => ∃ c1 c2, cs = c1 ++ c2 ∧ RepV Fr w a x.1 c1 ∧ RepV Fr w b x.2 c2
  | .ref t, x, cs => ∃ b o ds, cs = [.pointer (some ⟨b, o, none⟩)] ∧ Fr b ∧ RepV Fr w t x ds ∧ ∀ m u, ds[m]? = some u → w.cell? ⟨b, o + m, none⟩ = some u
  | .clo f c, x, cs => ∃ us : List Value, cs = [.func (.func f) #[] us.toArray] ∧ RepV Fr w c x us

theorem RepV.length {Fr : Nat → Prop} {w : World} : (t : Ty) → (x : t.den) → (cs : List Value) → RepV Fr w t x cs → cs.length = t.size
  | .int _, _, _, h => by rw [h]; rfl
  | .bool, _, _, h => by rw [h]; rfl
  | .str, _, _, h => by rw [h]; rfl
  | .sl _ _, _, _, ⟨_, _, h, _⟩ => by rw [h]; rfl
  | .unit, _, _, h => by rw [h]; rfl
  | .pair a b, x, _, ⟨c1, c2, h, h1, h2⟩ => by rw [h, List.length_append, RepV.length a x.1 c1 h1, RepV.length b x.2 c2 h2]; rfl
  | .ref _, _, _, ⟨_, _, _, h, _⟩ => by rw [h]; rfl
  | .clo _ _, _, _, ⟨_, h, _⟩ => by rw [h]; rfl

theorem RepV.oneCell {Fr : Nat → Prop} {w : World} : (t : Ty) → (x : t.den) → (cs : List Value) → RepV Fr w t x cs → ∀ v ∈ cs, v.oneCell' = true
  | .int _, _, _, h => by rw [h]; simp [Value.oneCell']
  | .bool, _, _, h => by rw [h]; simp [Value.oneCell']
  | .str, _, _, h => by rw [h]; simp [Value.oneCell']
  | .sl _ _, _, _, ⟨_, _, h, _⟩ => by rw [h]; simp [Value.oneCell']
  | .unit, _, _, h => by rw [h]; simp
  | .pair a b, x, _, ⟨c1, c2, h, h1, h2⟩ => by
    rw [h]
    intro v hv
    rcases List.mem_append.1 hv with h | h
    · exact RepV.oneCell a x.1 c1 h1 v h
    · exact RepV.oneCell b x.2 c2 h2 v h
  | .ref _, _, _, ⟨_, _, _, h, _⟩ => by rw [h]; simp [Value.oneCell']
  | .clo _ _, _, _, ⟨_, h, _⟩ => by rw [h]; simp [Value.oneCell']

theorem cell_same {w w' : World} {b o : Nat} {v : Value} (h : w'.heap[b]? = w.heap[b]?) (hc : w.cell? ⟨b, o, none⟩ = some v) : w'.cell? ⟨b, o, none⟩ = some v := by
  rw [World.cell?_of_block (w := w) h]; exact hc

theorem RepV.mono {Fr Fr' : Nat → Prop} {w w' : World} (hF : ∀ b, Fr b → Fr' b) (hw : ∀ b, Fr b → w'.heap[b]? = w.heap[b]?) :
    (t : Ty) → (x : t.den) → (cs : List Value) → RepV Fr w t x cs → RepV Fr' w' t x cs
  | .int _, _, _, h => h
  | .bool, _, _, h => h
  | .str, _, _, h => h
  | .sl _ t, _, _, ⟨A, c, h, hl, hr⟩ => ⟨A, c, h, hl, fun i x hx => by
      obtain ⟨b, off, ds, h1, h2, h3, h4⟩ := hr i x hx
      exact ⟨b, off, ds, h1, hF b h2, RepV.mono hF hw t x ds h3, fun m v hv => cell_same (hw b h2) (h4 m v hv)⟩⟩
  | .unit, _, _, h => h
  | .pair a b, x, _, ⟨c1, c2, h, h1, h2⟩ => ⟨c1, c2, h, RepV.mono hF hw a x.1 c1 h1, RepV.mono hF hw b x.2 c2 h2⟩
  | .ref t, x, _, ⟨b, o, ds, h, h1, h2, h3⟩ => ⟨b, o, ds, h, hF b h1, RepV.mono hF hw t x ds h2, fun m u hu => cell_same (hw b h1) (h3 m u hu)⟩
  | .clo _ c, x, _, ⟨us, h, h1⟩ => ⟨us, h, RepV.mono hF hw c x us h1⟩

structure Gh where
  base : Nat
  β : List (Option Nat)
  α : List (Value × Nat)
  Fr : Nat → Prop

def RelPtr (g : Gh) (w : World) : Ptr → Value → Prop
  | .box i off, v => ∃ b, g.β[i]? = some (some b) ∧ v = .pointer (some ⟨b, off, none⟩)
  | .el j i off, v => ∃ b n c s, g.α[j]? = some (.slice (some ⟨b, 0, none⟩) n c, s) ∧ 0 ≤ i ∧ i < (n : Int) ∧ v = .pointer (some ⟨b, i.toNat * s + off, none⟩)
  | .ro t x off, v => ∃ b o ds, v = .pointer (some ⟨b, o + off, none⟩) ∧ g.Fr b ∧ RepV g.Fr w t x ds ∧ ∀ m u, ds[m]? = some u → w.cell? ⟨b, o + m, none⟩ = some u

def RelPtrs (g : Gh) (w : World) : List Ptr → List Value → Prop
  | [], us => us = []
  | p :: ps, us => ∃ u r, us = u :: r ∧ RelPtr g w p u ∧ RelPtrs g w ps r

def RelCl (g : Gh) (w : World) : Cl → Value → Prop
  | .int k n, v => v = .int k n
  | .bool b, v => v = .bool b
  | .str s, v => v = .string s
  | .sl e t xs full, v => RepV g.Fr w (.sl e t) xs [v] ∧ (full = true → ∃ A, v = .slice A xs.length xs.length)
  | .nil _ _, v => v = .slice none 0 0
  | .own j, v => ∃ s, g.α[j]? = some (v, s) ∧ v.oneCell' = true
  | .ptr p, v => RelPtr g w p v
  | .clo f c x, v => RepV g.Fr w (.clo f c) x [v]
  | .fn f ps, v => ∃ us : List Value, v = .func (.func f) #[] us.toArray ∧ RelPtrs g w ps us
  | .sub j lo hi, v => ∃ b n c s, g.α[j]? = some (.slice (some ⟨b, 0, none⟩) n c, s) ∧ 0 ≤ lo ∧ lo < hi ∧ hi ≤ (n : Int) ∧ n ≤ c ∧ v = .slice (some ⟨b, lo.toNat * s, none⟩) (hi.toNat - lo.toNat) (c - lo.toNat)
  | .junk, v => v.oneCell' = true

def RelCls (g : Gh) (w : World) : List Cl → List Value → Prop
  | [], vs => vs = []
  | c :: cs, vs => ∃ v r, vs = v :: r ∧ RelCl g w c v ∧ RelCls g w cs r

def RelPV (g : Gh) (w : World) : PV → Value → Prop
  | .one c, v => c = .junk ∨ RelCl g w c v
  | .agg cs, v => ∃ vs : List Value, v = .agg vs.toArray ∧ RelCls g w cs vs
  | .skip, v => v = undef
  | .tup vs, v => ∃ us : List Value, v = .tuple us.toArray ∧ us.length = vs.length ∧ ∀ (i : Nat) (a : Bool) (cs : List Cl) (u : Value), vs[i]? = some (a, cs) → us[i]? = some u → if a = true then ∃ ws : List Value, u = .agg ws.toArray ∧ RelCls g w cs ws else ∃ c, cs = [c] ∧ RelCl g w c u

theorem RelCl.oneCell {g : Gh} {w : World} {c : Cl} {v : Value} (h : RelCl g w c v) : v.oneCell' = true := by
  cases c with
  | int k n => rw [h]; rfl
  | bool b => rw [h]; rfl
  | str s => rw [h]; rfl
  | sl e t xs full => exact RepV.oneCell _ _ _ h.1 v (by simp)
  | nil e t => rw [h]; rfl
  | own j => obtain ⟨s, _, h⟩ := h; exact h
  | ptr p => cases p with
    | box i off => obtain ⟨b, _, rfl⟩ := h; rfl
    | el j i off => obtain ⟨b, n, c, s, _, _, _, rfl⟩ := h; rfl
    | ro t x off => obtain ⟨b, o, ds, rfl, _⟩ := h; rfl
  | clo f c x => exact RepV.oneCell _ _ _ h v (by simp)
  | fn f ps => obtain ⟨us, rfl, _⟩ := h; rfl
  | sub j lo hi => obtain ⟨b, n, c, s, _, _, _, _, _, rfl⟩ := h; rfl
  | junk => exact h

theorem RelCls.length {g : Gh} {w : World} : ∀ {cs : List Cl} {vs : List Value}, RelCls g w cs vs → vs.length = cs.length
  | [], _, h => by rw [h]; rfl
  | _ :: _, _, ⟨_, _, h, _, hr⟩ => by rw [h, List.length_cons, List.length_cons, RelCls.length hr]

theorem RelCls.oneCell {g : Gh} {w : World} : ∀ {cs : List Cl} {vs : List Value}, RelCls g w cs vs → ∀ v ∈ vs, v.oneCell' = true
  | [], _, h => by rw [h]; simp
  | _ :: _, _, ⟨v, r, h, hv, hr⟩ => by
    rw [h]
    intro u hu
    rcases List.mem_cons.1 hu with h | h
    · rw [h]; exact hv.oneCell
    · exact RelCls.oneCell hr u h

theorem RelCls.append {g : Gh} {w : World} : ∀ {cs : List Cl} {vs : List Value} {cs' : List Cl} {vs' : List Value}, RelCls g w cs vs → RelCls g w cs' vs' → RelCls g w (cs ++ cs') (vs ++ vs')
  | [], _, _, _, h, h' => by rw [h]; exact h'
  | _ :: _, _, _, _, ⟨v, r, h, hv, hr⟩, h' => ⟨v, r ++ _, by rw [h]; rfl, hv, RelCls.append hr h'⟩

theorem RelCls.split {g : Gh} {w : World} : ∀ {cs cs' : List Cl} {vs : List Value}, RelCls g w (cs ++ cs') vs → ∃ us us', vs = us ++ us' ∧ RelCls g w cs us ∧ RelCls g w cs' us'
  | [], _, vs, h => ⟨[], vs, rfl, rfl, h⟩
  | _ :: _, _, _, ⟨v, r, h, hv, hr⟩ => by
    obtain ⟨us, us', h1, h2, h3⟩ := RelCls.split hr
    exact ⟨v :: us, us', by rw [h, h1]; rfl, ⟨v, us, rfl, hv, h2⟩, h3⟩

theorem RelCls.get {g : Gh} {w : World} : ∀ {cs : List Cl} {vs : List Value}, RelCls g w cs vs → ∀ (i : Nat) (c : Cl), cs[i]? = some c → ∃ v, vs[i]? = some v ∧ RelCl g w c v
  | [], _, _, i, c, hc => by simp at hc
  | _ :: _, _, ⟨v, r, h, hv, hr⟩, 0, c, hc => by
    simp at hc
    subst hc
    exact ⟨v, by rw [h]; rfl, hv⟩
  | _ :: _, _, ⟨v, r, h, hv, hr⟩, i + 1, c, hc => by
    obtain ⟨u, hu, h2⟩ := RelCls.get hr i c (by simpa using hc)
    exact ⟨u, by rw [h]; simpa using hu, h2⟩

structure Gh.le (g g' : Gh) (w w' : World) : Prop where
  base : g'.base = g.base
  β : ∀ (i b : Nat), g.β[i]? = some (some b) → g'.β[i]? = some (some b)
  α : ∀ (j : Nat) x, g.α[j]? = some x → g'.α[j]? = some x
  Fr : ∀ b, g.Fr b → g'.Fr b
  same : ∀ b, g.Fr b → w'.heap[b]? = w.heap[b]?

theorem RelPtr.mono {g g' : Gh} {w w' : World} (h : g.le g' w w') {p : Ptr} {v : Value} (hc : RelPtr g w p v) : RelPtr g' w' p v := by
  cases p with
  | box i off => obtain ⟨b, h1, h2⟩ := hc; exact ⟨b, h.β _ _ h1, h2⟩
  | el j i off => obtain ⟨b, n, c, s, h1, h2⟩ := hc; exact ⟨b, n, c, s, h.α _ _ h1, h2⟩
  | ro t x off => obtain ⟨b, o, ds, h1, h2, h3, h4⟩ := hc; exact ⟨b, o, ds, h1, h.Fr _ h2, RepV.mono h.Fr h.same _ _ _ h3, fun m u hu => cell_same (h.same b h2) (h4 m u hu)⟩

theorem RelPtrs.imp {g g' : Gh} {w w' : World} : ∀ {ps : List Ptr} {us : List Value}, (∀ p ∈ ps, ∀ u, RelPtr g w p u → RelPtr g' w' p u) → RelPtrs g w ps us → RelPtrs g' w' ps us
  | [], _, _, hc => hc
  | p :: _, _, h, ⟨u, r, h1, hv, hr⟩ => ⟨u, r, h1, h p (by simp) u hv, RelPtrs.imp (fun p hp => h p (by simp [hp])) hr⟩

theorem RelPtrs.map {g g' : Gh} {w w' : World} {k : Ptr → Ptr} : ∀ {ps : List Ptr} {us : List Value}, (∀ p ∈ ps, ∀ u, RelPtr g w p u → RelPtr g' w' (k p) u) → RelPtrs g w ps us → RelPtrs g' w' (ps.map k) us
  | [], _, _, hc => hc
  | p :: _, _, h, ⟨u, r, h1, hv, hr⟩ => ⟨u, r, h1, h p (by simp) u hv, RelPtrs.map (fun p hp => h p (by simp [hp])) hr⟩

theorem RelCl.mono {g g' : Gh} {w w' : World} (h : g.le g' w w') {c : Cl} {v : Value} (hc : RelCl g w c v) : RelCl g' w' c v := by
  cases c with
  | int k n => exact hc
  | bool b => exact hc
  | str s => exact hc
  | sl e t xs full => exact ⟨RepV.mono h.Fr h.same _ _ _ hc.1, hc.2⟩
  | nil e t => exact hc
  | own j => obtain ⟨s, h1, h2⟩ := hc; exact ⟨s, h.α _ _ h1, h2⟩
  | ptr p => cases p with
    | box i off => obtain ⟨b, h1, h2⟩ := hc; exact ⟨b, h.β _ _ h1, h2⟩
    | el j i off => obtain ⟨b, n, c, s, h1, h2⟩ := hc; exact ⟨b, n, c, s, h.α _ _ h1, h2⟩
    | ro t x off => obtain ⟨b, o, ds, h1, h2, h3, h4⟩ := hc; exact ⟨b, o, ds, h1, h.Fr _ h2, RepV.mono h.Fr h.same _ _ _ h3, fun m u hu => cell_same (h.same b h2) (h4 m u hu)⟩
  | clo f c x => exact RepV.mono h.Fr h.same _ _ _ hc
  | fn f ps => obtain ⟨us, h1, h2⟩ := hc; exact ⟨us, h1, RelPtrs.imp (fun _ _ _ => RelPtr.mono h) h2⟩
  | sub j lo hi => obtain ⟨b, n, c, s, h1, h2⟩ := hc; exact ⟨b, n, c, s, h.α _ _ h1, h2⟩
  | junk => exact hc

theorem RelCls.mono {g g' : Gh} {w w' : World} (h : g.le g' w w') : ∀ {cs : List Cl} {vs : List Value}, RelCls g w cs vs → RelCls g' w' cs vs
  | [], _, hc => hc
  | _ :: _, _, ⟨v, r, h1, hv, hr⟩ => ⟨v, r, h1, hv.mono h, RelCls.mono h hr⟩

theorem RelPV.mono {g g' : Gh} {w w' : World} (h : g.le g' w w') {p : PV} {v : Value} (hp : RelPV g w p v) : RelPV g' w' p v := by
  cases p with
  | one c => exact Or.imp id (RelCl.mono h) hp
  | agg cs => obtain ⟨vs, h1, h2⟩ := hp; exact ⟨vs, h1, RelCls.mono h h2⟩
  | skip => exact hp
  | tup vs =>
    obtain ⟨us, h1, h2, h3⟩ := hp
    refine ⟨us, h1, h2, fun i a cs u hi hu => ?_⟩
    have := h3 i a cs u hi hu
    split
    · rename_i ha; rw [if_pos ha] at this; obtain ⟨ws, h4, h5⟩ := this; exact ⟨ws, h4, RelCls.mono h h5⟩
    · rename_i ha; rw [if_neg ha] at this; obtain ⟨c, h4, h5⟩ := this; exact ⟨c, h4, RelCl.mono h h5⟩

end Go.V

/- The reading's state and the machine's: what holds between them, and what keeps it. -/
namespace Go.V
open Go.RowKit

def RepRow (Fr : Nat → Prop) (w : World) (t : Ty) (xs : List t.den) (cells : List Value) : Prop :=
  ∀ (i : Nat) (x : t.den), xs[i]? = some x → ∃ ds, RepV Fr w t x ds ∧ ∀ (m : Nat) (v : Value), ds[m]? = some v → cells[i * t.size + m]? = some v

theorem RepRow.mono {Fr Fr' : Nat → Prop} {w w' : World} (hF : ∀ b, Fr b → Fr' b) (hw : ∀ b, Fr b → w'.heap[b]? = w.heap[b]?) {t : Ty} {xs : List t.den} {cells : List Value} (h : RepRow Fr w t xs cells) : RepRow Fr' w' t xs cells :=
  fun i x hx => let ⟨ds, h1, h2⟩ := h i x hx; ⟨ds, RepV.mono hF hw t x ds h1, h2⟩

structure Arr.Ok (g : Gh) (w : World) (A : Arr) (v : Value) : Prop where
  one : v.oneCell' = true
  head : (v = .slice none 0 0 ∧ A.xs = []) ∨ ∃ b c, v = .slice (some ⟨b, 0, none⟩) A.xs.length c
  own : A.live = true → ∃ cells, w.ownsRow g.base A.e A.t.size v A.xs.length cells ∧ RepRow g.Fr w A.t A.xs cells ∧ ∀ b, v.ownBlock = some b → ¬ g.Fr b ∧ some b ∉ g.β
  set : A.live = false → RepV g.Fr w (.sl A.e A.t) A.xs [v]

structure Org extends World where
  F0 : Nat → Prop
  out : List Value
  ref : World

instance : Coe Org World := ⟨Org.toWorld⟩

structure Rel (w0 : Org) (g : Gh) (σ : St) (a : Act) (w : World) : Prop where
  base : g.base = w0.heap.size
  below : Below w0.heap.size w0 w
  lt : ∀ b, g.Fr b → b < w.heap.size
  tm : ∀ t, RelPV g w (σ.raw t) ((a.tmps.toList ++ w0.out).getD t undef)
  tmn : σ.n = a.tmps.size
  dfr : a.defers = [] ∧ ∀ b, g.Fr b → w0.F0 b ∨ g.base ≤ b
  bxn : σ.bx.length = g.β.length
  bx : ∀ (i : Nat) (t : TypeId) (cs : List Cl), σ.bx[i]? = some (t, cs) → g.β[i]? ≠ some none → ∃ b vs, g.β[i]? = some (some b) ∧ w.heap[b]? = some (.cells vs t (0, 0)) ∧ RelCls g w cs vs.toList ∧ g.base ≤ b ∧ ¬ g.Fr b
  nodup : ∀ i k b : Nat, g.β[i]? = some (some b) → g.β[k]? = some (some b) → i = k
  arn : σ.ar.length = g.α.length
  ar : ∀ (j : Nat) (A : Arr), σ.ar[j]? = some A → ∃ v, g.α[j]? = some (v, A.t.size) ∧ A.Ok g w v
  apart : ∀ (j k : Nat) (A B : Arr) (v u : Value) (s s' b : Nat), j ≠ k → σ.ar[j]? = some A → σ.ar[k]? = some B → A.live = true → B.live = true → g.α[j]? = some (v, s) → g.α[k]? = some (u, s') → v.ownBlock = some b → u.ownBlock ≠ some b
  oth : ∀ (k : Nat) (o : Obj), w0.ref.heap[k]? = some o → o.isCells = false → w.heap[k]? = some o

theorem own_head {w : World} {base : Nat} {e : TypeId} {s : Nat} {v : Value} {α : Type} {l : List α} {xs : List Value} (h : w.ownsRow base e s v l.length xs) : (v = .slice none 0 0 ∧ l = []) ∨ ∃ b c, v = .slice (some ⟨b, 0, none⟩) l.length c := by
  rcases h.2 with ⟨h1, h2⟩ | ⟨b, c, cur, h1, _⟩
  · exact .inl ⟨h1, List.eq_nil_of_length_eq_zero h2⟩
  · exact .inr ⟨b, c, h1⟩

theorem heap_lt {w : World} {b : Nat} {o : Obj} (h : w.heap[b]? = some o) : b < w.heap.size := (Array.getElem?_eq_some_iff.1 h).1

section
variable {w0 : Org} {g : Gh} {σ : St} {a : Act} {w : World}

theorem Rel.boxLt (h : Rel w0 g σ a w) {b : Nat} (hb : some b ∈ g.β) : b < w.heap.size := by
  obtain ⟨i, hi, he⟩ := List.getElem_of_mem hb
  have hi' : i < σ.bx.length := by rw [h.bxn]; exact hi
  have hg : g.β[i]? = some (some b) := by rw [List.getElem?_eq_getElem hi, he]
  obtain ⟨b', vs, h1, h2, _⟩ := h.bx i (σ.bx[i].1) (σ.bx[i].2) (by simp [hi']) (by rw [hg]; simp)
  rw [hg] at h1
  cases h1
  exact heap_lt h2

theorem Rel.grow (h : Rel w0 g σ a w) {w' : World} (hw : Below w.heap.size w w') (Fr' : Nat → Prop) (hF : ∀ b, g.Fr b → Fr' b) (hF' : ∀ b, Fr' b → g.Fr b ∨ w.heap.size ≤ b) (hl : ∀ b, Fr' b → b < w'.heap.size) :
    Rel w0 { g with Fr := Fr' } σ a w' ∧ g.le { g with Fr := Fr' } w w' := by
  have hle : g.le { g with Fr := Fr' } w w' := ⟨rfl, fun _ _ h => h, fun _ _ h => h, hF, fun b hb => hw.block b (h.lt b hb)⟩
  refine ⟨⟨h.base, h.below.trans (hw.mono h.below.size), hl, fun t => (h.tm t).mono hle, h.tmn, ⟨h.dfr.1, fun b hb => (hF' b hb).elim (h.dfr.2 b) fun x => .inr (Nat.le_trans (by rw [h.base]; exact h.below.size) x)⟩, h.bxn, ?_, h.nodup, h.arn, ?_, h.apart, fun k o hk ho => (hw.block k (heap_lt (h.oth k o hk ho))).trans (h.oth k o hk ho)⟩, hle⟩
  · intro i t cs hi hh
    obtain ⟨b, vs, h1, h2, h3, h4, h5⟩ := h.bx i t cs hi hh
    refine ⟨b, vs, h1, (hw.block b (heap_lt h2)).trans h2, h3.mono hle, h4, fun hf => ?_⟩
    rcases hF' b hf with hf | hf
    · exact h5 hf
    · exact absurd (heap_lt h2) (by omega)
  · intro j A hA
    obtain ⟨v, h1, h2⟩ := h.ar j A hA
    refine ⟨v, h1, h2.one, h2.head, fun hl => ?_, fun hd => RepV.mono hF hle.same _ _ _ (h2.set hd)⟩
    obtain ⟨cells, h3, h4, h5⟩ := h2.own hl
    have hg : w.grownBy w' none := ⟨hw.os, hw.tape, hw.output, hw.size, fun k hk _ => hw.block k hk⟩
    refine ⟨cells, h3.kept hg (by cases hv : v.ownBlock <;> simp), h4.mono hF hle.same, fun b hb => ⟨fun hf => ?_, (h5 b hb).2⟩⟩
    rcases hF' b hf with hf | hf
    · exact (h5 b hb).1 hf
    · exact absurd (h3.lt b hb).2 (by omega)

theorem put_raw (σ : St) (d : Option Tmp) (p : PV) (t : Nat) : (σ.put d p).raw t = if d = some t ∧ t < σ.n ∧ t < σ.tm.length then p else σ.raw t := by
  cases d with
  | none => simp [St.put]
  | some d =>
    by_cases h : d = t
    · subst h
      by_cases hn : d < σ.n
      · have hb : Nat.blt d σ.n = true := by rw [Nat.blt_eq]; exact hn
        by_cases hl : d < σ.tm.length
        · simp [St.put, St.raw, hb, hl, hn]
        · simp [St.put, St.raw, hb, hl, hn]
      · have hb : Nat.blt d σ.n = false := by rw [Bool.eq_false_iff]; intro e; rw [Nat.blt_eq] at e; exact hn e
        simp [St.put, St.raw, hb, hn]
    · cases hb : Nat.blt d σ.n <;> simp [St.put, St.raw, h, hb, List.getElem?_set_ne h]

theorem put_n (σ : St) (d : Option Tmp) (p : PV) : (σ.put d p).n = σ.n := by cases d <;> rfl
theorem put_bx (σ : St) (d : Option Tmp) (p : PV) : (σ.put d p).bx = σ.bx := by cases d <;> rfl
theorem put_ar (σ : St) (d : Option Tmp) (p : PV) : (σ.put d p).ar = σ.ar := by cases d <;> rfl

theorem get_raw (σ : St) (t : Nat) : σ.get t = if t < σ.n then σ.raw t else .junk := by
  unfold St.get St.raw
  by_cases h : t < σ.n
  · have hb : Nat.blt t σ.n = true := by rw [Nat.blt_eq]; exact h
    rw [hb, if_pos h]; rfl
  · have hb : Nat.blt t σ.n = false := by rw [Bool.eq_false_iff]; intro e; rw [Nat.blt_eq] at e; exact h e
    rw [hb, if_neg h]; rfl

theorem put_get (σ : St) (d : Option Tmp) (p : PV) (t : Nat) : (σ.put d p).get t = if d = some t ∧ t < σ.n ∧ t < σ.tm.length then p else σ.get t := by
  rw [get_raw, get_raw, put_n, put_raw]
  split
  · split
    · rfl
    · rfl
  · rename_i h
    rw [if_neg (fun e => h e.2.1)]

theorem act_put_get (a : Act) (out : List Value) (d : Option Tmp) (v : Value) (t : Nat) : ((a.put d v).tmps.toList ++ out).getD t undef = if d = some t ∧ t < a.tmps.size then v else (a.tmps.toList ++ out).getD t undef := by
  cases d with
  | none => simp [Act.put]
  | some d =>
    by_cases h : d = t
    · subst h
      by_cases hl : d < a.tmps.size
      · simp [Act.put, hl, List.getElem?_append]
      · simp [Act.put, hl, List.getElem?_append]
    · simp [Act.put, h, List.getElem?_append, List.getElem?_set_ne h]

theorem Rel.get (h : Rel w0 g σ a w) (t : Nat) : RelPV g w (σ.get t) (a.tmps.getD t undef) := by
  rw [get_raw]
  split
  · rename_i ht
    have h1 := h.tm t
    rw [h.tmn] at ht
    have : (a.tmps.toList ++ w0.out).getD t undef = a.tmps.getD t undef := by simp [List.getElem?_append, ht]
    rw [this] at h1
    exact h1
  · exact .inl rfl

theorem Rel.put (h : Rel w0 g σ a w) (d : Option Tmp) {p : PV} {v : Value} (hp : RelPV g w p v) : Rel w0 g (σ.put d p) (a.put d v) w := by
  refine ⟨h.base, h.below, h.lt, fun t => ?_, ?_, ?_, ?_, ?_, h.nodup, ?_, ?_, ?_, h.oth⟩
  · rw [put_raw, act_put_get]
    by_cases h1 : d = some t ∧ t < σ.n ∧ t < σ.tm.length
    · rw [if_pos h1, if_pos ⟨h1.1, by rw [← h.tmn]; exact h1.2.1⟩]; exact hp
    · rw [if_neg h1]
      by_cases h2 : d = some t ∧ t < a.tmps.size
      · rw [if_pos h2]
        have hn : σ.raw t = .junk := by
          have : ¬ t < σ.tm.length := fun hl => h1 ⟨h2.1, by rw [h.tmn]; exact h2.2, hl⟩
          simp [St.raw, List.getElem?_eq_none (Nat.le_of_not_lt this)]
        rw [hn]
        exact .inl rfl
      · rw [if_neg h2]; exact h.tm t
  · rw [put_n]
    cases d with
    | none => exact h.tmn
    | some d => simp [Act.put]; exact h.tmn
  · cases d <;> exact h.dfr
  · cases d <;> exact h.bxn
  · cases d <;> exact h.bx
  · cases d <;> exact h.arn
  · cases d <;> exact h.ar
  · cases d <;> exact h.apart

end
end Go.V

/- Variables, rows, reading and writing: the reading's own steps, and the machine's. -/
namespace Go.V
open Go.RowKit

theorem RepV.flat {g : Gh} {w : World} : (t : Ty) → (x : t.den) → (cs : List Value) → RepV g.Fr w t x cs → RelCls g w (flat t x) cs
  | .int _, _, _, h => by rw [h]; exact ⟨_, _, rfl, rfl, rfl⟩
  | .bool, _, _, h => by rw [h]; exact ⟨_, _, rfl, rfl, rfl⟩
  | .str, _, _, h => by rw [h]; exact ⟨_, _, rfl, rfl, rfl⟩
  | .sl e t, xs, cs, h => by
    obtain ⟨A, c, h1, h2⟩ := h
    exact ⟨.slice A (List.length xs) c, [], h1, ⟨⟨A, c, rfl, h2⟩, fun h => by cases h⟩, rfl⟩
  | .unit, _, _, h => h
  | .pair a b, x, _, ⟨c1, c2, h, h1, h2⟩ => by rw [h]; exact RelCls.append (RepV.flat a x.1 c1 h1) (RepV.flat b x.2 c2 h2)
  | .ref _, _, _, ⟨b, o, ds, h, h1, h2, h3⟩ => by rw [h]; exact ⟨_, _, rfl, ⟨b, o, ds, rfl, h1, h2, h3⟩, rfl⟩
  | .clo _ _, _, _, ⟨us, h, h1⟩ => by rw [h]; exact ⟨_, _, rfl, ⟨us, rfl, h1⟩, rfl⟩

theorem flat_length : (t : Ty) → (x : t.den) → (flat t x).length = t.size
  | .int _, _ => rfl
  | .bool, _ => rfl
  | .str, _ => rfl
  | .sl _ _, _ => rfl
  | .unit, _ => rfl
  | .ref _, _ => rfl
  | .clo _ _, _ => rfl
  | .pair a b, x => by show (flat a x.1 ++ flat b x.2).length = _; rw [List.length_append, flat_length a, flat_length b]; rfl

theorem RelCls.cut {g : Gh} {w : World} {cs : List Cl} {vs : List Value} (h : RelCls g w cs vs) (o n : Nat) : RelCls g w ((cs.drop o).take n) ((vs.drop o).take n) := by
  have hl := h.length
  rw [← List.take_append_drop o cs] at h
  obtain ⟨u1, u2, e1, h1, h2⟩ := RelCls.split h
  have l1 := h1.length
  have hd : vs.drop o = u2 := by
    rw [e1]
    by_cases ho : o ≤ cs.length
    · have : u1.length = o := by rw [l1, List.length_take]; omega
      rw [← this]; exact List.drop_left
    · have l2 := h2.length
      have : u2 = [] := List.eq_nil_of_length_eq_zero (by rw [l2, List.length_drop]; omega)
      rw [this, List.append_nil]
      exact List.drop_eq_nil_of_le (by rw [l1, List.length_take]; omega)
  rw [hd]
  rw [← List.take_append_drop n (cs.drop o)] at h2
  obtain ⟨v1, v2, e2, h3, h4⟩ := RelCls.split h2
  have l3 := h3.length
  have : u2.take n = v1 := by
    rw [e2]
    by_cases hn : n ≤ (cs.drop o).length
    · have : v1.length = n := by rw [l3, List.length_take]; omega
      rw [← this]; exact List.take_left
    · have l4 := h4.length
      have : v2 = [] := List.eq_nil_of_length_eq_zero (by rw [l4, List.length_drop]; omega)
      rw [this, List.append_nil]
      exact List.take_of_length_le (by rw [l3, List.length_take]; omega)
  rw [this]
  exact h3

section
variable {w0 : Org} {g : Gh} {σ : St} {a : Act} {w : World}

theorem Arr.Ok.cells {A : Arr} {v : Value} (h : A.Ok g w v) {b n c : Nat} (hv : v = .slice (some ⟨b, 0, none⟩) n c) :
    n = A.xs.length ∧ ∀ (i : Nat) (x : A.t.den), A.xs[i]? = some x → ∃ ds, RepV g.Fr w A.t x ds ∧ ∀ (m : Nat) (u : Value), ds[m]? = some u → w.cell? ⟨b, i * A.t.size + m, none⟩ = some u := by
  cases hl : A.live with
  | true =>
    obtain ⟨cells, h1, h2, h3⟩ := h.own hl
    have hb : v.ownBlock = some b := by rw [hv]; rfl
    refine ⟨?_, fun i x hx => ?_⟩
    · rcases h1.2 with ⟨h4, _⟩ | ⟨g', cap, cur, h4, _⟩
      · rw [hv] at h4; cases h4
      · rw [hv] at h4; cases h4; rfl
    · obtain ⟨ds, h4, h5⟩ := h2 i x hx
      refine ⟨ds, h4, fun m u hu => ?_⟩
      have := h1.cells hb _ u (h5 m u hu)
      have ha : (⟨b, 0, none⟩ : Addr).add (i * A.t.size + m) = ⟨b, i * A.t.size + m, none⟩ := by unfold Addr.add; split <;> simp_all
      rwa [ha] at this
  | false =>
    obtain ⟨A', c', h1, _, h3⟩ := h.set hl
    rw [hv] at h1
    simp only [List.cons.injEq, Value.slice.injEq, and_true] at h1
    obtain ⟨e1, e2, _⟩ := h1
    refine ⟨e2, fun i x hx => ?_⟩
    obtain ⟨b', off, ds, h4, h5, h6, h7⟩ := h3 i x hx
    rw [← e1] at h4
    cases h4
    exact ⟨ds, h6, fun m u hu => by have := h7 m u hu; rwa [Nat.zero_add] at this⟩

theorem rdAt_get {t : Ty} {xs : List t.den} {i : Int} (h0 : 0 ≤ i) (h1 : i < (xs.length : Int)) : xs[i.toNat]? = some (rdAt xs i) := by
  have : i.toNat < xs.length := by omega
  simp [rdAt, this]

theorem Rel.read (h : Rel w0 g σ a w) {p : Ptr} {n : Nat} {cs : List Cl} {v : Value} (hr : readAt σ p n = some cs) (hp : RelPtr g w p v) :
    ∃ b o vs, v = .pointer (some ⟨b, o, none⟩) ∧ RelCls g w cs vs ∧ vs.length = n ∧ ∀ (m : Nat) (u : Value), vs[m]? = some u → w.cell? ⟨b, o + m, none⟩ = some u := by
  cases p with
  | box i off =>
    obtain ⟨b, hb, rfl⟩ := hp
    simp only [readAt] at hr
    split at hr
    · rename_i t cs' hi
      split at hr
      · rename_i hlen
        cases hr
        obtain ⟨b', vs, h1, h2, h3, _⟩ := h.bx i t cs' hi (by rw [hb]; simp)
        rw [hb] at h1
        cases h1
        have hl := h3.length
        refine ⟨b, off, (vs.toList.drop off).take n, rfl, h3.cut off n, by rw [List.length_take, List.length_drop]; omega, fun m u hu => ?_⟩
        rw [cell_of_row w b (off + m) vs t (0, 0) h2]
        rw [List.getElem?_take] at hu
        split at hu
        · simpa using hu
        · cases hu
      · cases hr
    · cases hr
  | el j i off =>
    obtain ⟨b, n', c, s, hj, h0, h1, rfl⟩ := hp
    simp only [readAt] at hr
    split at hr
    · rename_i A hA
      split at hr
      · rename_i hlen
        cases hr
        obtain ⟨v', h2, h3⟩ := h.ar j A hA
        rw [hj] at h2
        cases h2
        obtain ⟨hn, hc⟩ := h3.cells rfl
        obtain ⟨ds, h4, h5⟩ := hc i.toNat (rdAt A.xs i) (rdAt_get h0 (by omega))
        have hl := RepV.length _ _ _ h4
        refine ⟨b, i.toNat * A.t.size + off, (ds.drop off).take n, rfl, (RepV.flat _ _ _ h4).cut off n, by rw [List.length_take, List.length_drop]; omega, fun m u hu => ?_⟩
        rw [List.getElem?_take] at hu
        split at hu
        · rw [List.getElem?_drop] at hu
          rw [Nat.add_assoc]
          exact h5 _ u hu
        · cases hu
      · cases hr
    · cases hr
  | ro t x off =>
    obtain ⟨b, o, ds, rfl, hF, h4, h5⟩ := hp
    simp only [readAt] at hr
    split at hr
    · rename_i hlen
      cases hr
      have hl := RepV.length _ _ _ h4
      refine ⟨b, o + off, (ds.drop off).take n, rfl, (RepV.flat _ _ _ h4).cut off n, by rw [List.length_take, List.length_drop]; omega, fun m u hu => ?_⟩
      rw [List.getElem?_take] at hu
      split at hu
      · rw [List.getElem?_drop] at hu
        rw [Nat.add_assoc]
        exact h5 _ u hu
      · cases hu
    · cases hr

theorem Rel.newBox (h : Rel w0 g σ a w) {cs : List Cl} {vs : List Value} (e : TypeId) (hv : RelCls g w cs vs) :
    Rel w0 { g with β := g.β ++ [some w.heap.size] } { σ with bx := σ.bx ++ [(e, cs)] } a (w.alloc (.cells vs.toArray e)) ∧
      RelPtr { g with β := g.β ++ [some w.heap.size] } (w.alloc (.cells vs.toArray e)) (.box σ.bx.length 0) (.pointer (some ⟨w.heap.size, 0, none⟩)) := by
  have hb : Below w.heap.size w (w.alloc (.cells vs.toArray e)) := (Below.refl _ w).alloc (Nat.le_refl _) _
  obtain ⟨h1, hle⟩ := h.grow hb g.Fr (fun _ h => h) (fun _ h => .inl h) (fun b hb' => Nat.lt_of_lt_of_le (h.lt b hb') hb.size)
  have hle2 : g.le { g with β := g.β ++ [some w.heap.size] } w (w.alloc (.cells vs.toArray e)) :=
    ⟨rfl, fun i b hi => by rw [List.getElem?_append_left (List.getElem?_eq_some_iff.1 hi).1]; exact hi, fun _ _ h => h, fun _ h => h, hle.same⟩
  have hle3 : ({ g with Fr := g.Fr } : Gh).le { g with β := g.β ++ [some w.heap.size] } (w.alloc (.cells vs.toArray e)) (w.alloc (.cells vs.toArray e)) :=
    ⟨rfl, hle2.β, fun _ _ h => h, fun _ h => h, fun _ _ => rfl⟩
  refine ⟨⟨h.base, h1.below, h1.lt, fun t => (h1.tm t).mono hle3, h.tmn, h.dfr, ?_, ?_, ?_, h.arn, ?_, h.apart, h1.oth⟩, w.heap.size, ?_, rfl⟩
  · simp [h.bxn]
  · intro i t cs' hi hh
    rw [List.getElem?_append] at hi
    split at hi
    · rename_i hlt
      obtain ⟨b, us, h3, h4, h5, h6, h7⟩ := h1.bx i t cs' hi (fun e => hh (by rw [List.getElem?_append_left (by rw [← h.bxn]; exact hlt)]; exact e))
      exact ⟨b, us, hle2.β i b h3, h4, h5.mono hle3, h6, h7⟩
    · rename_i hge
      have hi0 : i - σ.bx.length = 0 := by
        rcases Nat.eq_zero_or_pos (i - σ.bx.length) with h' | h'
        · exact h'
        · rw [List.getElem?_eq_none (by simp; omega)] at hi; cases hi
      rw [hi0] at hi
      cases hi
      refine ⟨w.heap.size, vs.toArray, ?_, heap_alloc_new w _, ?_, ?_, ?_⟩
      · have : i = g.β.length := by rw [← h.bxn]; omega
        rw [this]; simp
      · simpa using hv.mono hle2
      · show g.base ≤ w.heap.size
        rw [h.base]; exact h.below.size
      · exact fun hf => absurd (h.lt _ hf) (Nat.lt_irrefl _)
  · have key : ∀ i b : Nat, (g.β ++ [some w.heap.size])[i]? = some (some b) → (g.β[i]? = some (some b) ∧ b < w.heap.size) ∨ (i = g.β.length ∧ b = w.heap.size) := fun i b hi => by
      rw [List.getElem?_append] at hi
      split at hi
      · exact .inl ⟨hi, h.boxLt (List.mem_of_getElem? hi)⟩
      · rename_i hge
        rcases Nat.eq_zero_or_pos (i - g.β.length) with h' | h'
        · rw [h'] at hi
          simp at hi
          exact .inr ⟨by omega, hi.symm⟩
        · rw [List.getElem?_eq_none (by simp; omega)] at hi; cases hi
    intro i k b hi hk
    rcases key i b hi with ⟨h2, h3⟩ | ⟨h2, h3⟩ <;> rcases key k b hk with ⟨h4, h5⟩ | ⟨h4, h5⟩
    · exact h.nodup i k b h2 h4
    · omega
    · omega
    · omega
  · intro j A hA
    obtain ⟨v, h3, h4⟩ := h1.ar j A hA
    refine ⟨v, h3, h4.one, h4.head, fun hl => ?_, h4.set⟩
    obtain ⟨cells, h5, h6, h7⟩ := h4.own hl
    obtain ⟨v', h8, h9⟩ := h.ar j A hA
    rw [h8] at h3
    cases h3
    obtain ⟨_, h10, _, _⟩ := h9.own hl
    refine ⟨cells, h5, h6, fun b hb => ⟨(h7 b hb).1, fun hm => ?_⟩⟩
    simp only [List.mem_append, List.mem_singleton, Option.some.injEq] at hm
    rcases hm with hm | hm
    · exact (h7 b hb).2 hm
    · exact absurd (h10.lt b hb).2 (by omega)
  · rw [h.bxn]; simp

theorem Rel.asSet (h : Rel w0 g σ a w) {j : Nat} {A : Arr} {v : Value} {s : Nat} (hA : σ.ar[j]? = some A) (hv : g.α[j]? = some (v, s)) (Fr' : Nat → Prop) (hF : ∀ b, g.Fr b → Fr' b) (hb : ∀ b, v.ownBlock = some b → Fr' b) :
    RepV Fr' w (.sl A.e A.t) A.xs [v] := by
  obtain ⟨v', h1, h2⟩ := h.ar j A hA
  rw [hv] at h1
  cases h1
  cases hl : A.live with
  | false => exact RepV.mono hF (fun _ _ => rfl) _ _ _ (h2.set hl)
  | true =>
    obtain ⟨cells, h3, h4, h5⟩ := h2.own hl
    rcases h3.2 with ⟨rfl, hn⟩ | ⟨b, cap, cur, rfl, _, hg, hle, _, _⟩
    · have : A.xs = [] := List.eq_nil_of_length_eq_zero hn
      refine ⟨none, 0, by rw [this]; rfl, by rw [this]; exact Nat.le_refl _, fun i x hx => by rw [this] at hx; simp at hx⟩
    · refine ⟨some ⟨b, 0, none⟩, cap, rfl, hle, fun i x hx => ?_⟩
      obtain ⟨_, hc⟩ := h2.cells rfl
      obtain ⟨ds, h6, h7⟩ := hc i x hx
      exact ⟨b, 0, ds, rfl, hb b rfl, RepV.mono hF (fun _ _ => rfl) _ _ _ h6, fun m u hu => by rw [Nat.zero_add]; exact h7 m u hu⟩

theorem Rel.freeze0 (h : Rel w0 g σ a w) (c : Cl) (hc : ∀ j lo hi, c ≠ .sub j lo hi) : ∃ Fr' : Nat → Prop, (∀ b, g.Fr b → Fr' b) ∧ g.le { g with Fr := Fr' } w w ∧ Rel w0 { g with Fr := Fr' } (freezeJ σ c) a w ∧
    (∀ v, RelCl g w c v → RelCl { g with Fr := Fr' } w (asRow σ c) v) ∧ ∀ b, Fr' b → g.Fr b ∨ g.base ≤ b := by
  have triv : g.le { g with Fr := g.Fr } w w := ⟨rfl, fun _ _ h => h, fun _ _ h => h, fun _ h => h, fun _ _ => rfl⟩
  cases c with
  | own j =>
    cases hA : σ.ar[j]? with
    | none =>
      refine ⟨g.Fr, fun _ h => h, triv, by simp only [freezeJ, hA]; exact h, fun v ⟨s, h1, _⟩ => ?_, fun _ h => .inl h⟩
      have := (List.getElem?_eq_some_iff.1 h1).1
      rw [← h.arn] at this
      simp [this] at hA
    | some A =>
      obtain ⟨v, h1, h2⟩ := h.ar j A hA
      let Fr' : Nat → Prop := fun b => g.Fr b ∨ (A.live = true ∧ v.ownBlock = some b)
      have hle : g.le { g with Fr := Fr' } w w := ⟨rfl, fun _ _ h => h, fun _ _ h => h, fun _ h => .inl h, fun _ _ => rfl⟩
      have hj : j < σ.ar.length := (List.getElem?_eq_some_iff.1 hA).1
      have hset : A.live = true → RepV Fr' w (.sl A.e A.t) A.xs [v] := fun hl => h.asSet hA h1 Fr' (fun _ h => .inl h) (fun b hb => .inr ⟨hl, hb⟩)
      have hset' : RepV Fr' w (.sl A.e A.t) A.xs [v] := by
        cases hl : A.live with
        | true => exact hset hl
        | false => exact RepV.mono hle.Fr hle.same _ _ _ (h2.set hl)
      have hbl : ∀ b, A.live = true → v.ownBlock = some b → g.base ≤ b ∧ b < w.heap.size ∧ some b ∉ g.β := fun b hl hb => by
        obtain ⟨cells, h3, _, h5⟩ := h2.own hl
        exact ⟨(h3.lt b hb).1, (h3.lt b hb).2, (h5 b hb).2⟩
      refine ⟨Fr', fun _ h => .inl h, hle, ?_, fun u ⟨s, h3, _⟩ => ?_, fun b hb => hb.elim .inl fun ⟨hl, hb⟩ => .inr (hbl b hl hb).1⟩
      · simp only [freezeJ, hA]
        refine ⟨h.base, h.below, fun b hb => hb.elim (h.lt b) fun ⟨hl, hb⟩ => (hbl b hl hb).2.1, fun t => (h.tm t).mono hle, h.tmn, ⟨h.dfr.1, fun b hb => hb.elim (h.dfr.2 b) fun ⟨hl, hb⟩ => .inr (hbl b hl hb).1⟩, h.bxn, ?_, h.nodup, by simp [h.arn], ?_, ?_, h.oth⟩
        · intro i t cs hi hh
          obtain ⟨b, vs, h3, h4, h5, h6, h7⟩ := h.bx i t cs hi hh
          exact ⟨b, vs, h3, h4, h5.mono hle, h6, fun hf => hf.elim h7 fun ⟨hl, hb⟩ => (hbl b hl hb).2.2 (List.mem_of_getElem? h3)⟩
        · intro k B hB
          by_cases hjk : j = k
          · subst hjk
            rw [List.getElem?_set_self hj] at hB
            cases hB
            exact ⟨v, h1, h2.one, h2.head, fun hl => (by cases hl), fun _ => hset'⟩
          · rw [List.getElem?_set_ne hjk] at hB
            obtain ⟨u, h3, h4⟩ := h.ar k B hB
            refine ⟨u, h3, h4.one, h4.head, fun hl => ?_, fun hd => RepV.mono hle.Fr hle.same _ _ _ (h4.set hd)⟩
            obtain ⟨cells, h5, h6, h7⟩ := h4.own hl
            exact ⟨cells, h5, h6.mono hle.Fr hle.same, fun b hb => ⟨fun hf => hf.elim (h7 b hb).1 fun ⟨hl', hb'⟩ => h.apart j k A B v u _ _ b hjk hA hB hl' hl h1 h3 hb' hb, (h7 b hb).2⟩⟩
        · intro k l B D u u' s s' b hkl hB hD hBl hDl hu hu'
          have get : ∀ (k : Nat) (B : Arr), (σ.ar.set j { A with live := false })[k]? = some B → B.live = true → σ.ar[k]? = some B := fun k B hB hl => by
            by_cases hjk : j = k
            · subst hjk
              rw [List.getElem?_set_self hj] at hB
              cases hB; cases hl
            · rwa [List.getElem?_set_ne hjk] at hB
          exact h.apart k l B D u u' s s' b hkl (get k B hB hBl) (get l D hD hDl) hBl hDl hu hu'
      · rw [h1] at h3
        cases h3
        simp only [asRow, hA]
        exact ⟨hset', fun h => by cases h⟩
  | int k n => exact ⟨g.Fr, fun _ h => h, triv, h, fun _ h => h, fun _ h => .inl h⟩
  | bool b => exact ⟨g.Fr, fun _ h => h, triv, h, fun _ h => h, fun _ h => .inl h⟩
  | clo f c x => exact ⟨g.Fr, fun _ h => h, triv, h, fun _ h => h, fun _ h => .inl h⟩
  | str s => exact ⟨g.Fr, fun _ h => h, triv, h, fun _ h => h, fun _ h => .inl h⟩
  | sl e t xs f => exact ⟨g.Fr, fun _ h => h, triv, h, fun _ h => h, fun _ h => .inl h⟩
  | nil e t => exact ⟨g.Fr, fun _ h => h, triv, h, fun v h => by rw [show v = .slice none 0 0 from h]; exact ⟨⟨none, 0, rfl, Nat.le_refl _, fun i x h => by simp at h⟩, fun _ => ⟨none, rfl⟩⟩, fun _ h => .inl h⟩
  | ptr p => exact ⟨g.Fr, fun _ h => h, triv, h, fun _ h => h, fun _ h => .inl h⟩
  | fn f ps => exact ⟨g.Fr, fun _ h => h, triv, h, fun _ h => h, fun _ h => .inl h⟩
  | sub j lo hi => exact absurd rfl (hc j lo hi)
  | junk => exact ⟨g.Fr, fun _ h => h, triv, h, fun _ h => h, fun _ h => .inl h⟩

theorem RepV.part {F : Nat → Prop} {w : World} {e : TypeId} {t : Ty} {xs : List t.den} {b n c lo hi : Nat} (h : RepV F w (.sl e t) xs [.slice (some ⟨b, 0, none⟩) n c]) (h1 : lo ≤ hi) (h2 : hi ≤ n) :
    RepV F w (.sl e t) ((xs.take hi).drop lo) [.slice (some ⟨b, lo * t.size, none⟩) (hi - lo) (c - lo)] := by
  obtain ⟨A, c', e1, hl, hr⟩ := h
  simp only [List.cons.injEq, Value.slice.injEq, and_true] at e1
  obtain ⟨rfl, rfl, rfl⟩ := e1
  have hlen : ((xs.take hi).drop lo).length = hi - lo := by simp; omega
  refine ⟨some ⟨b, lo * t.size, none⟩, c - lo, by rw [hlen], by rw [hlen]; omega, fun i x hx => ?_⟩
  have hx' : xs[lo + i]? = some x := by
    rw [List.getElem?_drop, List.getElem?_take] at hx
    split at hx
    · exact hx
    · cases hx
  obtain ⟨b', off, ds, k1, k2, k3, k4⟩ := hr (lo + i) x hx'
  cases k1
  refine ⟨b, lo * t.size, ds, rfl, k2, k3, fun m v hv => ?_⟩
  have := k4 m v hv
  have e2 : lo * t.size + i * t.size + m = 0 + (lo + i) * t.size + m := by rw [Nat.add_mul]; omega
  rw [e2]
  exact this

theorem Rel.freeze (h : Rel w0 g σ a w) (c : Cl) : ∃ Fr' : Nat → Prop, (∀ b, g.Fr b → Fr' b) ∧ g.le { g with Fr := Fr' } w w ∧ Rel w0 { g with Fr := Fr' } (freezeJ σ c) a w ∧
    (∀ v, RelCl g w c v → RelCl { g with Fr := Fr' } w (asRow σ c) v) ∧ ∀ b, Fr' b → g.Fr b ∨ g.base ≤ b := by
  by_cases hc : ∃ j lo hi, c = .sub j lo hi
  · obtain ⟨j, lo, hi, rfl⟩ := hc
    obtain ⟨F, a1, a2, a3, a4, a5⟩ := h.freeze0 (.own j) (fun _ _ _ e => by cases e)
    refine ⟨F, a1, a2, a3, fun v hv => ?_, a5⟩
    obtain ⟨b, n, c, s, h1, h2, h3, h4, h5, rfl⟩ := hv
    have k1 := a4 (.slice (some ⟨b, 0, none⟩) n c) ⟨s, h1, rfl⟩
    have hj : j < σ.ar.length := by rw [h.arn]; exact (List.getElem?_eq_some_iff.1 h1).1
    have hA : σ.ar[j]? = some σ.ar[j] := List.getElem?_eq_getElem hj
    obtain ⟨v', k2, k3⟩ := h.ar j _ hA
    rw [h1] at k2
    cases k2
    simp only [asRow, hA] at k1 ⊢
    have hn : (hi.toNat : Int) = hi := Int.toNat_of_nonneg (by omega)
    have hm : (lo.toNat : Int) = lo := Int.toNat_of_nonneg h2
    refine ⟨?_, fun h => by cases h⟩
    exact k1.1.part (by omega) (by omega)
  · exact h.freeze0 c fun j lo hi e => hc ⟨j, lo, hi, e⟩

theorem freeze_ar (σ : St) (c : Cl) (k : Nat) : (∃ A : Arr, σ.ar[k]? = some A ∧ ∃ b, (freezeJ σ c).ar[k]? = some { A with live := b }) ∨ (σ.ar[k]? = none ∧ (freezeJ σ c).ar[k]? = none) := by
  have same : (∃ A : Arr, σ.ar[k]? = some A ∧ ∃ b, σ.ar[k]? = some { A with live := b }) ∨ (σ.ar[k]? = none ∧ σ.ar[k]? = none) := by
    cases h : σ.ar[k]? with
    | none => exact .inr ⟨rfl, rfl⟩
    | some A => exact .inl ⟨A, rfl, A.live, rfl⟩
  have key : ∀ (j : Nat) (A : Arr), σ.ar[j]? = some A → (∃ B : Arr, σ.ar[k]? = some B ∧ ∃ b, (σ.ar.set j { A with live := false })[k]? = some { B with live := b }) ∨ (σ.ar[k]? = none ∧ (σ.ar.set j { A with live := false })[k]? = none) := fun j A hA => by
    by_cases hjk : j = k
    · subst hjk
      exact .inl ⟨A, hA, false, by rw [List.getElem?_set_self (List.getElem?_eq_some_iff.1 hA).1]⟩
    · rw [List.getElem?_set_ne hjk]; exact same
  cases c with
  | own j =>
    simp only [freezeJ]
    cases hA : σ.ar[j]? with
    | none => exact same
    | some A => exact key j A hA
  | sub j lo hi =>
    simp only [freezeJ]
    cases hA : σ.ar[j]? with
    | none => exact same
    | some A => exact key j A hA
  | _ => exact same

theorem asRow_freeze (σ : St) (c d : Cl) : asRow (freezeJ σ c) d = asRow σ d := by
  cases d with
  | own k =>
    rcases freeze_ar σ c k with ⟨A, h1, b, h2⟩ | ⟨h1, h2⟩
    · simp only [asRow, h1, h2]
    · simp only [asRow, h1, h2]
  | sub k lo hi =>
    rcases freeze_ar σ c k with ⟨A, h1, b, h2⟩ | ⟨h1, h2⟩
    · simp only [asRow, h1, h2]
    · simp only [asRow, h1, h2]
  | _ => rfl

theorem Rel.settle : ∀ (cs : List Cl) {g : Gh} {σ : St}, Rel w0 g σ a w → ∃ Fr' : Nat → Prop, (∀ b, g.Fr b → Fr' b) ∧ g.le { g with Fr := Fr' } w w ∧ Rel w0 { g with Fr := Fr' } (cs.foldl freezeJ σ) a w ∧
    (∀ vs, RelCls g w cs vs → RelCls { g with Fr := Fr' } w (cs.map (asRow σ)) vs) ∧ ∀ b, Fr' b → g.Fr b ∨ g.base ≤ b
  | [], g, _, h => ⟨g.Fr, fun _ h => h, ⟨rfl, fun _ _ h => h, fun _ _ h => h, fun _ h => h, fun _ _ => rfl⟩, h, fun _ h => h, fun _ h => .inl h⟩
  | c :: cs, g, σ, h => by
    obtain ⟨F1, a1, b1, c1, d1, e1⟩ := h.freeze c
    obtain ⟨F2, a2, b2, c2, d2, e2⟩ := Rel.settle cs c1
    have hle : g.le { g with Fr := F2 } w w := ⟨rfl, fun _ _ h => h, fun _ _ h => h, fun b hb => a2 b (a1 b hb), fun _ _ => rfl⟩
    refine ⟨F2, hle.Fr, hle, c2, fun vs ⟨v, r, h1, h2, h3⟩ => ⟨v, r, h1, (d1 v h2).mono b2, ?_⟩, fun b hb => (e2 b hb).elim (e1 b) .inr⟩
    have := d2 r (h3.mono b1)
    have he : cs.map (asRow (freezeJ σ c)) = cs.map (asRow σ) := List.map_congr_left fun d _ => asRow_freeze σ c d
    rwa [he] at this

end
end Go.V

/- Writing, rows made and rows grown. -/
namespace Go.V
open Go.RowKit

theorem unflat_rel {g : Gh} {w : World} (t : Ty) : ∀ (cs : List Cl) (x : t.den) (r : List Cl) (vs : List Value), unflat t cs = some (x, r) → RelCls g w cs vs →
    ∃ us vs', vs = us ++ vs' ∧ RepV g.Fr w t x us ∧ RelCls g w r vs' := by
  induction t with
  | int k =>
    intro cs x r vs h hr
    cases cs with
    | nil => simp [unflat] at h
    | cons c cs =>
      cases c <;> simp only [unflat, reduceCtorEq] at h
      rename_i k' n
      split at h
      · rename_i hk
        subst hk
        simp only [Option.some.injEq, Prod.mk.injEq] at h
        obtain ⟨rfl, rfl⟩ := h
        obtain ⟨v, r, rfl, h1, h2⟩ := hr
        exact ⟨[v], r, rfl, by rw [h1]; rfl, h2⟩
      · cases h
  | bool =>
    intro cs x r vs h hr
    cases cs with
    | nil => simp [unflat] at h
    | cons c cs =>
      cases c <;> simp only [unflat, reduceCtorEq] at h
      simp only [Option.some.injEq, Prod.mk.injEq] at h
      obtain ⟨rfl, rfl⟩ := h
      obtain ⟨v, r, rfl, h1, h2⟩ := hr
      exact ⟨[v], r, rfl, by rw [h1]; rfl, h2⟩
  | str =>
    intro cs x r vs h hr
    cases cs with
    | nil => simp [unflat] at h
    | cons c cs =>
      cases c <;> simp only [unflat, reduceCtorEq] at h
      simp only [Option.some.injEq, Prod.mk.injEq] at h
      obtain ⟨rfl, rfl⟩ := h
      obtain ⟨v, r, rfl, h1, h2⟩ := hr
      exact ⟨[v], r, rfl, by rw [h1]; rfl, h2⟩
  | sl e t ih =>
    intro cs x r vs h hr
    cases cs with
    | nil => simp [unflat] at h
    | cons c cs =>
      cases c <;> simp only [unflat, reduceCtorEq] at h
      rename_i e' t' xs f
      split at h
      · rename_i he
        obtain ⟨rfl, rfl⟩ := he
        simp only [Option.some.injEq, Prod.mk.injEq] at h
        obtain ⟨rfl, rfl⟩ := h
        obtain ⟨v, r, rfl, h1, h2⟩ := hr
        exact ⟨[v], r, rfl, h1.1, h2⟩
      · cases h
  | ref t ih =>
    intro cs x r vs h hr
    cases cs with
    | nil => simp [unflat] at h
    | cons c cs =>
      cases c with
      | ptr p => cases p with
        | box i o => simp [unflat] at h
        | el i j o => simp [unflat] at h
        | ro t' y off => cases off with
          | succ n => simp [unflat] at h
          | zero =>
            simp only [unflat] at h
            split at h
            · rename_i he
              subst he
              simp only [Option.some.injEq, Prod.mk.injEq] at h
              obtain ⟨rfl, rfl⟩ := h
              obtain ⟨v, r, rfl, ⟨b, o, ds, rfl, h1, h2, h3⟩, h4⟩ := hr
              exact ⟨[_], r, rfl, ⟨b, o, ds, rfl, h1, h2, h3⟩, h4⟩
            · cases h
      | _ => simp [unflat] at h
  | clo f c ih =>
    intro cs x r vs h hr
    cases cs with
    | nil => simp [unflat] at h
    | cons c cs =>
      cases c <;> simp only [unflat, reduceCtorEq] at h
      rename_i f' c' y
      split at h
      · rename_i he
        obtain ⟨rfl, rfl⟩ := he
        simp only [Option.some.injEq, Prod.mk.injEq] at h
        obtain ⟨rfl, rfl⟩ := h
        obtain ⟨v, r, rfl, h1, h2⟩ := hr
        exact ⟨[v], r, rfl, h1, h2⟩
      · cases h
  | unit =>
    intro cs x r vs h hr
    simp only [unflat, Option.some.injEq, Prod.mk.injEq, true_and] at h
    subst h
    exact ⟨[], vs, rfl, rfl, hr⟩
  | pair a b iha ihb =>
    intro cs x r vs h hr
    simp only [unflat] at h
    split at h
    · rename_i x1 r1 h1
      split at h
      · rename_i y r2 h2
        simp only [Option.some.injEq, Prod.mk.injEq] at h
        obtain ⟨rfl, rfl⟩ := h
        obtain ⟨u1, v1, e1, g1, g2⟩ := iha _ _ _ _ h1 hr
        obtain ⟨u2, v2, e2, g3, g4⟩ := ihb _ _ _ _ h2 g2
        exact ⟨u1 ++ u2, v2, by rw [e1, e2, List.append_assoc], ⟨u1, u2, rfl, g1, g3⟩, g4⟩
      · cases h
    · cases h

theorem unflat_all {g : Gh} {w : World} {t : Ty} {cs : List Cl} {x : t.den} {vs : List Value} (h : unflat t cs = some (x, [])) (hr : RelCls g w cs vs) : RepV g.Fr w t x vs := by
  obtain ⟨us, vs', e, h1, h2⟩ := unflat_rel t cs x [] vs h hr
  rw [e, show vs' = [] from h2, List.append_nil]
  exact h1

theorem setRange_length {cs v : List Cl} {o : Nat} (h : o + v.length ≤ cs.length) : (setRange cs o v).length = cs.length := by
  simp [setRange]
  omega

theorem RelCls.setRange {g : Gh} {w : World} {cs v : List Cl} {vs us : List Value} {o : Nat} (h : RelCls g w cs vs) (hv : RelCls g w v us) :
    RelCls g w (setRange cs o v) (vs.take o ++ us ++ vs.drop (o + us.length)) := by
  unfold V.setRange
  have h1 := h.cut 0 o
  simp only [List.drop_zero] at h1
  have h2 := h.cut (o + v.length) (cs.length)
  rw [List.take_of_length_le (by rw [List.length_drop]; omega), List.take_of_length_le (by rw [List.length_drop, h.length]; omega)] at h2
  rw [hv.length]
  exact (h1.append hv).append h2

section
variable {w0 : Org} {g : Gh} {σ : St} {a : Act} {w : World}

theorem setRowLe {b : Nat} (cells : Array Value) (hF : ¬ g.Fr b) : g.le g w (w.setRow b cells) :=
  ⟨rfl, fun _ _ h => h, fun _ _ h => h, fun _ h => h, fun k hk => setRow_other w b k cells (fun e => hF (e ▸ hk))⟩

theorem setRow_oth {w : World} {b : Nat} {old : Array Value} {t : TypeId} {q : Nat × Nat} {cells : Array Value} (hb : w.heap[b]? = some (.cells old t q)) {k : Nat} {o : Obj} (hk : w.heap[k]? = some o) (ho : o.isCells = false) : (w.setRow b cells).heap[k]? = some o := by
  by_cases e : k = b
  · subst e
    rw [hb] at hk
    cases hk
    cases ho
  · exact (setRow_other w b k _ e).trans hk

theorem own_oth {w : World} {base : Nat} {e : TypeId} {size : Nat} {v : Value} {n : Nat} {xs : List Value} (h : w.ownsRow base e size v n xs) {k : Nat} {o : Obj} (hk : w.heap[k]? = some o) (ho : o.isCells = false) : v.ownBlock ≠ some k := fun hv => by
  rcases h.2 with ⟨rfl, _⟩ | ⟨g, cap, cur, rfl, _, hgb, _⟩
  · simp [Value.ownBlock] at hv
  · have : g = k := by simpa [Value.ownBlock] using hv
    subst this
    rw [hgb] at hk
    cases hk
    cases ho

theorem Rel.writeBox (h : Rel w0 g σ a w) {i : Nat} {off : Nat} {t : TypeId} {cs v : List Cl} {us : List Value} {b : Nat} (hi : σ.bx[i]? = some (t, cs)) (hb : g.β[i]? = some (some b)) (hv : RelCls g w v us) (hl : off + v.length ≤ cs.length) :
    ∃ old, w.heap[b]? = some (.cells old t (0, 0)) ∧ off + us.length ≤ old.size ∧
      Rel w0 g { tm := σ.tm, bx := σ.bx.set i (t, setRange cs off v), ar := σ.ar, n := σ.n } a (w.setRow b (old.toList.take off ++ us ++ old.toList.drop (off + us.length)).toArray) := by
  obtain ⟨b', old, h1, h2, h3, h4, h5⟩ := h.bx i t cs hi (by rw [hb]; simp)
  rw [hb] at h1
  cases h1
  have hlen := h3.length
  have hvl := hv.length
  refine ⟨old, h2, by rw [hvl]; simp at hlen; omega, ?_⟩
  have hle := setRowLe (w := w) (old.toList.take off ++ us ++ old.toList.drop (off + us.length)).toArray h5
  have hi' : i < σ.bx.length := (List.getElem?_eq_some_iff.1 hi).1
  refine ⟨h.base, ?_, fun k hk => by rw [setRow_size]; exact h.lt k hk, fun t => (h.tm t).mono hle, h.tmn, h.dfr, by simp [h.bxn], ?_, h.nodup, h.arn, ?_, h.apart, fun k o hk ho => setRow_oth h2 (h.oth k o hk ho) ho⟩
  · have hb0 : w0.heap.size ≤ b := h.base ▸ h4
    exact ⟨h.below.os, h.below.tape, h.below.output, by rw [setRow_size]; exact h.below.size, fun k hk => (setRow_other w b k _ (by omega)).trans (h.below.block k hk)⟩
  · intro k t' cs' hk hh
    by_cases hik : i = k
    · subst hik
      rw [List.getElem?_set_self hi'] at hk
      cases hk
      refine ⟨b, _, hb, setRow_heap w b old _ t (0, 0) h2, ?_, h4, h5⟩
      have := (RelCls.setRange (o := off) h3 hv).mono hle
      simpa using this
    · rw [List.getElem?_set_ne hik] at hk
      obtain ⟨b', vs, h6, h7, h8, h9, h10⟩ := h.bx k t' cs' hk hh
      have hne : b' ≠ b := fun e => by
        subst e
        exact hik (h.nodup i k b' hb h6)
      exact ⟨b', vs, h6, (setRow_other w b b' _ hne).trans h7, h8.mono hle, h9, h10⟩
  · intro j A hA
    obtain ⟨u, h6, h7⟩ := h.ar j A hA
    refine ⟨u, h6, h7.one, h7.head, fun hl => ?_, fun hd => RepV.mono hle.Fr hle.same _ _ _ (h7.set hd)⟩
    obtain ⟨cells, h8, h9, h10⟩ := h7.own hl
    have hg : w.grownBy (w.setRow b (old.toList.take off ++ us ++ old.toList.drop (off + us.length)).toArray) (some b) := ⟨rfl, rfl, rfl, by rw [setRow_size]; exact Nat.le_refl _, fun k _ hk => setRow_other w b k _ (fun e => hk (by rw [e]))⟩
    exact ⟨cells, h8.kept hg (by
      cases hu : u.ownBlock with
      | none => exact .inl rfl
      | some k => exact .inr fun e => (h10 k hu).2 (by cases e; exact List.mem_of_getElem? hb)), h9.mono hle.Fr hle.same, h10⟩

theorem Rel.newArr (h : Rel w0 g σ a w) {v : Value} {A : Arr} {cells : List Value} (h1 : v.oneCell' = true) (hl : A.live = true) (ho : w.ownsRow g.base A.e A.t.size v A.xs.length cells) (hr : RepRow g.Fr w A.t A.xs cells)
    (hf : ∀ b, v.ownBlock = some b → ¬ g.Fr b ∧ some b ∉ g.β ∧ ∀ (j : Nat) (B : Arr) (u : Value) (s : Nat), σ.ar[j]? = some B → B.live = true → g.α[j]? = some (u, s) → u.ownBlock ≠ some b) :
    Rel w0 { g with α := g.α ++ [(v, A.t.size)] } { tm := σ.tm, bx := σ.bx, ar := σ.ar ++ [A], n := σ.n } a w ∧ RelCl { g with α := g.α ++ [(v, A.t.size)] } w (.own σ.ar.length) v := by
  have hle : g.le { g with α := g.α ++ [(v, A.t.size)] } w w :=
    ⟨rfl, fun _ _ h => h, fun i b hi => by rw [List.getElem?_append_left (List.getElem?_eq_some_iff.1 hi).1]; exact hi, fun _ h => h, fun _ _ => rfl⟩
  have keyA : ∀ (i : Nat) (B : Arr), (σ.ar ++ [A])[i]? = some B → (σ.ar[i]? = some B ∧ i < σ.ar.length) ∨ (i = σ.ar.length ∧ B = A) := fun i B hi => by
    rw [List.getElem?_append] at hi
    split at hi
    · rename_i hlt; exact .inl ⟨hi, hlt⟩
    · rcases Nat.eq_zero_or_pos (i - σ.ar.length) with h' | h'
      · rw [h'] at hi
        simp at hi
        exact .inr ⟨by omega, hi.symm⟩
      · rw [List.getElem?_eq_none (by simp; omega)] at hi; cases hi
  have lastA : (g.α ++ [(v, A.t.size)])[σ.ar.length]? = some (v, A.t.size) := by rw [h.arn]; simp
  have oldA : ∀ (i : Nat) (x : Value × Nat), i < σ.ar.length → (g.α ++ [(v, A.t.size)])[i]? = some x → g.α[i]? = some x := fun i x hi hx => by
    rwa [List.getElem?_append_left (by rw [← h.arn]; exact hi)] at hx
  refine ⟨⟨h.base, h.below, h.lt, fun t => (h.tm t).mono hle, h.tmn, h.dfr, h.bxn, ?_, h.nodup, by simp [h.arn], ?_, ?_, h.oth⟩, A.t.size, lastA, h1⟩
  · intro i t cs hi hh
    obtain ⟨b, vs, h3, h4, h5, h6⟩ := h.bx i t cs hi hh
    exact ⟨b, vs, h3, h4, h5.mono hle, h6⟩
  · intro j B hB
    rcases keyA j B hB with ⟨h2, _⟩ | ⟨rfl, rfl⟩
    · obtain ⟨u, h3, h4⟩ := h.ar j B h2
      exact ⟨u, hle.α _ _ h3, h4.one, h4.head, h4.own, h4.set⟩
    · exact ⟨v, lastA, h1, own_head ho, fun _ => ⟨cells, ho, hr, fun b hb => ⟨(hf b hb).1, (hf b hb).2.1⟩⟩, fun hd => by rw [hl] at hd; cases hd⟩
  · intro j k B D u u' s s' b hjk hB hD hBl hDl hu hu' hb hb'
    rcases keyA j B hB with ⟨h2, l2⟩ | ⟨rfl, rfl⟩ <;> rcases keyA k D hD with ⟨h4, l4⟩ | ⟨rfl, rfl⟩
    · exact h.apart j k B D u u' s s' b hjk h2 h4 hBl hDl (oldA _ _ l2 hu) (oldA _ _ l4 hu') hb hb'
    · rw [lastA] at hu'
      cases hu'
      exact (hf b hb').2.2 j B u s h2 hBl (oldA _ _ l2 hu) hb
    · rw [lastA] at hu
      cases hu
      exact (hf b hb).2.2 k D u' s' h4 hDl (oldA _ _ l4 hu') hb'
    · exact hjk rfl

theorem dropC_rel {g g' : Gh} {w w' : World} {j : Nat} (hβ : g'.β = g.β) (hα : ∀ (k : Nat), k ≠ j → g'.α[k]? = g.α[k]?) (hF : g'.Fr = g.Fr) (hs : ∀ b, g.Fr b → w'.heap[b]? = w.heap[b]?) {c : Cl} {v : Value} (h : RelCl g w c v) : RelCl g' w' (dropC j c) v := by
  have hFr : ∀ b, g.Fr b → g'.Fr b := fun b hb => by rw [hF]; exact hb
  cases c with
  | int k n => exact h
  | bool b => exact h
  | str s => exact h
  | sl e t xs full => exact ⟨RepV.mono hFr hs _ _ _ h.1, h.2⟩
  | nil e t => exact h
  | own k =>
    simp only [dropC]
    split
    · exact h.oneCell
    · rename_i hk
      obtain ⟨s, h1, h2⟩ := h
      exact ⟨s, by rw [hα k hk]; exact h1, h2⟩
  | ptr p => cases p with
    | box i off => obtain ⟨b, h1, h2⟩ := h; exact ⟨b, by rw [hβ]; exact h1, h2⟩
    | el k i off =>
      simp only [dropC]
      split
      · exact RelCl.oneCell h
      · rename_i hk
        obtain ⟨b, n, c, s, h1, h2⟩ := h
        exact ⟨b, n, c, s, by rw [hα k hk]; exact h1, h2⟩
    | ro t x off => obtain ⟨b, o, ds, h1, h2, h3, h4⟩ := h; exact ⟨b, o, ds, h1, hFr b h2, RepV.mono hFr hs _ _ _ h3, fun m u hu => cell_same (hs b h2) (h4 m u hu)⟩
  | clo f c x => exact RepV.mono hFr hs _ _ _ h
  | fn f ps =>
    simp only [dropC]
    split
    · exact RelCl.oneCell (c := .fn f ps) h
    · rename_i hk
      obtain ⟨us, h1, h2⟩ := h
      refine ⟨us, h1, RelPtrs.imp (fun p hp u hu => ?_) h2⟩
      cases p with
      | box i off => obtain ⟨b, h1, h2⟩ := hu; exact ⟨b, by rw [hβ]; exact h1, h2⟩
      | el k i off =>
        have hkj : k ≠ j := fun e => hk (List.any_eq_true.2 ⟨_, hp, by simpa using e⟩)
        obtain ⟨b, n, c, s, h1, h2⟩ := hu
        exact ⟨b, n, c, s, by rw [hα k hkj]; exact h1, h2⟩
      | ro t x off => obtain ⟨b, o, ds, h1, h2, h3, h4⟩ := hu; exact ⟨b, o, ds, h1, hFr b h2, RepV.mono hFr hs _ _ _ h3, fun m u hu => cell_same (hs b h2) (h4 m u hu)⟩
  | sub k lo hi =>
    simp only [dropC]
    split
    · exact RelCl.oneCell (c := .sub k lo hi) h
    · rename_i hk
      obtain ⟨b, n, c, s, h1, h2⟩ := h
      exact ⟨b, n, c, s, by rw [hα k hk]; exact h1, h2⟩
  | junk => exact h

theorem dropCs_rel {g g' : Gh} {w w' : World} {j : Nat} (hβ : g'.β = g.β) (hα : ∀ (k : Nat), k ≠ j → g'.α[k]? = g.α[k]?) (hF : g'.Fr = g.Fr) (hs : ∀ b, g.Fr b → w'.heap[b]? = w.heap[b]?) : ∀ {cs : List Cl} {vs : List Value}, RelCls g w cs vs → RelCls g' w' (cs.map (dropC j)) vs
  | [], _, h => h
  | _ :: _, _, ⟨v, r, h, h1, h2⟩ => ⟨v, r, h, dropC_rel hβ hα hF hs h1, dropCs_rel hβ hα hF hs h2⟩

theorem dropV_rel {g g' : Gh} {w w' : World} {j : Nat} (hβ : g'.β = g.β) (hα : ∀ (k : Nat), k ≠ j → g'.α[k]? = g.α[k]?) (hF : g'.Fr = g.Fr) (hs : ∀ b, g.Fr b → w'.heap[b]? = w.heap[b]?) {p : PV} {v : Value} (h : RelPV g w p v) : RelPV g' w' (dropV j p) v := by
  cases p with
  | one c => exact h.elim (fun e => .inl (by subst e; rfl)) fun h => .inr (dropC_rel hβ hα hF hs h)
  | agg cs => obtain ⟨vs, h1, h2⟩ := h; exact ⟨vs, h1, dropCs_rel hβ hα hF hs h2⟩
  | skip => exact h
  | tup vs =>
    obtain ⟨us, h1, h2, h3⟩ := h
    refine ⟨us, h1, by simpa using h2, fun i b cs u hi hu => ?_⟩
    rw [List.getElem?_map] at hi
    cases hv : vs[i]? with
    | none => rw [hv] at hi; cases hi
    | some x =>
      rw [hv] at hi
      cases hi
      have := h3 i x.1 x.2 u hv hu
      split
      · rename_i hb; rw [if_pos hb] at this; obtain ⟨ws, h4, h5⟩ := this; exact ⟨ws, h4, dropCs_rel hβ hα hF hs h5⟩
      · rename_i hb; rw [if_neg hb] at this; obtain ⟨c, h4, h5⟩ := this; exact ⟨dropC j c, by rw [h4]; rfl, dropC_rel hβ hα hF hs h5⟩

theorem Rel.swap (h : Rel w0 g σ a w) {j : Nat} {A A' : Arr} {v v' : Value} {s : Nat} {w' : World} {cells : List Value} (hA : σ.ar[j]? = some A) (hl : A.live = true) (hv : g.α[j]? = some (v, s))
    (hg : w.grownBy w' v.ownBlock) (h1 : v'.oneCell' = true) (hl' : A'.live = true) (ho : w'.ownsRow g.base A'.e A'.t.size v' A'.xs.length cells) (hr : RepRow g.Fr w' A'.t A'.xs cells)
    (hb' : ∀ b, v'.ownBlock = some b → v.ownBlock = some b ∨ w.heap.size ≤ b) :
    Rel w0 { g with α := g.α.set j (v', A'.t.size) } { tm := σ.tm.map (dropV j), bx := σ.bx.map fun b => (b.1, b.2.map (dropC j)), ar := σ.ar.set j A', n := σ.n } a w' ∧
      RelCl { g with α := g.α.set j (v', A'.t.size) } w' (.own j) v' := by
  obtain ⟨v1, e1, okA⟩ := h.ar j A hA
  rw [hv] at e1
  cases e1
  obtain ⟨cells0, o0, _, d0⟩ := okA.own hl
  have hj : j < σ.ar.length := (List.getElem?_eq_some_iff.1 hA).1
  have hj' : j < g.α.length := by rw [← h.arn]; exact hj
  have hα : ∀ k : Nat, k ≠ j → (g.α.set j (v', A'.t.size))[k]? = g.α[k]? := fun k hk => List.getElem?_set_ne (Ne.symm hk)
  have hs : ∀ b, g.Fr b → w'.heap[b]? = w.heap[b]? := fun b hb => hg.block b (h.lt b hb) fun e => (d0 b e.symm).1 hb
  have newA : (g.α.set j (v', A'.t.size))[j]? = some (v', A'.t.size) := List.getElem?_set_self hj'
  refine ⟨⟨h.base, ?_, fun b hb => Nat.lt_of_lt_of_le (h.lt b hb) hg.size, ?_, by simpa using h.tmn, h.dfr, by simpa using h.bxn, ?_, h.nodup, by simp [h.arn], ?_, ?_, fun k o hk ho => (hg.block k (heap_lt (h.oth k o hk ho)) fun e => own_oth o0 (h.oth k o hk ho) ho e.symm).trans (h.oth k o hk ho)⟩, A'.t.size, newA, h1⟩
  · exact h.below.grown hg h.below.size fun k hk => h.base ▸ (o0.lt k hk).1
  · intro t
    have := dropV_rel (g := g) (g' := { g with α := g.α.set j (v', A'.t.size) }) (w' := w') (j := j) rfl hα rfl hs (h.tm t)
    have he : St.raw { tm := σ.tm.map (dropV j), bx := σ.bx.map fun b => (b.1, b.2.map (dropC j)), ar := σ.ar.set j A', n := σ.n } t = dropV j (σ.raw t) := by
      simp only [St.raw, List.getD_eq_getElem?_getD, List.getElem?_map]
      cases σ.tm[t]? <;> rfl
    rw [he]
    exact this
  · intro i t cs hi hh
    rw [List.getElem?_map] at hi
    cases hb : σ.bx[i]? with
    | none => rw [hb] at hi; cases hi
    | some x =>
      rw [hb] at hi
      cases hi
      obtain ⟨b, vs, h3, h4, h5, h6, h7⟩ := h.bx i x.1 x.2 hb hh
      exact ⟨b, vs, h3, (hg.block b (heap_lt h4) fun e => (d0 b e.symm).2 (List.mem_of_getElem? h3)).trans h4, dropCs_rel (g := g) (g' := { g with α := g.α.set j (v', A'.t.size) }) (j := j) rfl hα rfl hs h5, h6, h7⟩
  · intro k B hB
    by_cases hjk : j = k
    · subst hjk
      rw [List.getElem?_set_self hj] at hB
      cases hB
      refine ⟨v', newA, h1, own_head ho, fun _ => ⟨cells, ho, hr, fun b hb => ?_⟩, fun hd => by rw [hl'] at hd; cases hd⟩
      rcases hb' b hb with hb | hb
      · exact d0 b hb
      · exact ⟨fun hf => absurd (h.lt b hf) (by omega), fun hm => absurd (h.boxLt hm) (by omega)⟩
    · rw [List.getElem?_set_ne hjk] at hB
      obtain ⟨u, h3, h4⟩ := h.ar k B hB
      refine ⟨u, by rw [← h3]; exact hα k (Ne.symm hjk), h4.one, h4.head, fun hBl => ?_, fun hd => RepV.mono (fun _ h => h) hs _ _ _ (h4.set hd)⟩
      obtain ⟨cells2, h5, h6, h7⟩ := h4.own hBl
      exact ⟨cells2, h5.kept hg (by
        cases hu : u.ownBlock with
        | none => exact .inl rfl
        | some b => exact .inr fun e => h.apart j k A B v u _ _ b hjk hA hB hl hBl hv h3 e.symm hu), h6.mono (fun _ h => h) hs, h7⟩
  · have get : ∀ (k : Nat) (B : Arr) (u : Value) (s : Nat), (σ.ar.set j A')[k]? = some B → (g.α.set j (v', A'.t.size))[k]? = some (u, s) → (k = j ∧ u = v') ∨ (k ≠ j ∧ σ.ar[k]? = some B ∧ g.α[k]? = some (u, s)) := fun k B u s hB hu => by
      by_cases hjk : j = k
      · subst hjk
        rw [newA] at hu
        cases hu
        exact .inl ⟨rfl, rfl⟩
      · rw [List.getElem?_set_ne hjk] at hB hu
        exact .inr ⟨Ne.symm hjk, hB, hu⟩
    have far : ∀ (k : Nat) (B : Arr) (u : Value) (s b : Nat), k ≠ j → σ.ar[k]? = some B → B.live = true → g.α[k]? = some (u, s) → u.ownBlock = some b → v'.ownBlock ≠ some b := fun k B u s b hk hB hBl hu hub e => by
      rcases hb' b e with e | e
      · exact h.apart j k A B v u _ _ b (Ne.symm hk) hA hB hl hBl hv hu e hub
      · obtain ⟨u', h3, h4⟩ := h.ar k B hB
        rw [hu] at h3
        cases h3
        obtain ⟨_, h5, _⟩ := h4.own hBl
        exact absurd (h5.lt b hub).2 (by omega)
    intro k l B D u u' s s' b hkl hB hD hBl hDl hu hu' hub hub'
    rcases get k B u s hB hu with ⟨rfl, rfl⟩ | ⟨n1, b1, u1⟩ <;> rcases get l D u' s' hD hu' with ⟨rfl, rfl⟩ | ⟨n2, b2, u2⟩
    · exact hkl rfl
    · exact far l D u' s' b n2 b2 hDl u2 hub' hub
    · exact far k B u s b n1 b1 hBl u1 hub hub'
    · exact h.apart k l B D u u' s s' b hkl b1 b2 hBl hDl u1 u2 hub hub'

theorem mul_apart {i k s m : Nat} (hm : m < s) (hik : i ≠ k) : k * s + m < i * s ∨ i * s + s ≤ k * s + m := by
  rcases Nat.lt_or_gt_of_ne hik with h | h
  · have := Nat.mul_le_mul_right s (show i + 1 ≤ k from h)
    rw [Nat.add_mul] at this
    omega
  · have := Nat.mul_le_mul_right s (show k + 1 ≤ i from h)
    rw [Nat.add_mul] at this
    omega

theorem spliced_get {l us : List Value} {o j : Nat} (h : o + us.length ≤ l.length) : (l.take o ++ us ++ l.drop (o + us.length))[j]? = if j < o then l[j]? else if j < o + us.length then us[j - o]? else l[j]? := by
  rw [List.append_assoc, List.getElem?_append, List.getElem?_append, List.length_take, Nat.min_eq_left (by omega)]
  by_cases h1 : j < o
  · rw [if_pos h1, if_pos h1, List.getElem?_take, if_pos h1]
  · rw [if_neg h1, if_neg h1]
    by_cases h2 : j < o + us.length
    · rw [if_pos h2, if_pos (by omega)]
    · rw [if_neg h2, if_neg (by omega), List.getElem?_drop]; congr 1; omega

theorem Rel.writeEl (h : Rel w0 g σ a w) {j : Nat} {i : Int} {off : Nat} {A : Arr} {v : List Cl} {us : List Value} {b n c s : Nat} {x : A.t.den} (hA : σ.ar[j]? = some A) (hl : A.live = true) (hj : g.α[j]? = some (.slice (some ⟨b, 0, none⟩) n c, s))
    (h0 : 0 ≤ i) (h1 : i < (n : Int)) (hv : RelCls g w v us) (hlen : off + v.length ≤ A.t.size) (hx : unflat A.t (setRange (flat A.t (rdAt A.xs i)) off v) = some (x, [])) :
    ∃ old, w.heap[b]? = some (.cells old A.e (0, 0)) ∧ i.toNat * A.t.size + off + us.length ≤ old.size ∧
      Rel w0 g { tm := σ.tm, bx := σ.bx, ar := σ.ar.set j { e := A.e, t := A.t, xs := A.xs.set i.toNat x, live := A.live }, n := σ.n } a (w.setRow b (old.toList.take (i.toNat * A.t.size + off) ++ us ++ old.toList.drop (i.toNat * A.t.size + off + us.length)).toArray) := by
  obtain ⟨v', e1, okA⟩ := h.ar j A hA
  rw [hj] at e1
  cases e1
  obtain ⟨cells0, o0, r0, d0⟩ := okA.own hl
  have hblk : Value.ownBlock (.slice (some ⟨b, 0, none⟩) n c) = some b := rfl
  obtain ⟨hF, hβ⟩ := d0 b hblk
  have hjl : j < σ.ar.length := (List.getElem?_eq_some_iff.1 hA).1
  rcases o0.2 with ⟨e2, _⟩ | ⟨b', cap, cur, e2, hbase, hg, hncap, hcapm, hcs, htake⟩
  · cases e2
  cases e2
  have hvl := hv.length
  have hil : i.toNat < A.xs.length := by omega
  have hfit : i.toNat * A.t.size + off + us.length ≤ A.xs.length * A.t.size := by
    have := Nat.mul_le_mul_right A.t.size (show i.toNat + 1 ≤ A.xs.length from hil)
    rw [Nat.add_mul] at this
    omega
  have hcapS : A.xs.length * A.t.size ≤ c * A.t.size := Nat.mul_le_mul_right _ hncap
  have hfit2 : i.toNat * A.t.size + off + us.length ≤ cur.toList.length := by rw [Array.length_toList (xs := cur), hcs]; omega
  refine ⟨cur, hg, by rw [hcs]; omega, ?_⟩
  have hle := setRowLe (w := w) (cur.toList.take (i.toNat * A.t.size + off) ++ us ++ cur.toList.drop (i.toNat * A.t.size + off + us.length)).toArray hF
  obtain ⟨ds, hds, hdc⟩ := r0 i.toNat (rdAt A.xs i) (rdAt_get h0 (by omega))
  have hdl := RepV.length _ _ _ hds
  have hnew : RepV g.Fr w A.t x (ds.take off ++ us ++ ds.drop (off + us.length)) := unflat_all hx (RelCls.setRange (RepV.flat _ _ _ hds) hv)
  refine ⟨h.base, ?_, fun k hk => by rw [setRow_size]; exact h.lt k hk, fun t => (h.tm t).mono hle, h.tmn, h.dfr, h.bxn, ?_, h.nodup, by simp [h.arn], ?_, ?_, fun k o hk ho => setRow_oth hg (h.oth k o hk ho) ho⟩
  · exact ⟨h.below.os, h.below.tape, h.below.output, by rw [setRow_size]; exact h.below.size, fun k hk => (setRow_other w b k _ (by have := h.base; omega)).trans (h.below.block k hk)⟩
  · intro k t cs hk hh
    obtain ⟨b', vs, h3, h4, h5, h6, h7⟩ := h.bx k t cs hk hh
    exact ⟨b', vs, h3, (setRow_other w b b' _ fun e => hβ (e ▸ List.mem_of_getElem? h3)).trans h4, h5.mono hle, h6, h7⟩
  · intro k B hB
    by_cases hjk : j = k
    · subst hjk
      rw [List.getElem?_set_self hjl] at hB
      cases hB
      refine ⟨_, hj, okA.one, .inr ⟨b, c, by simp⟩, fun _ => ⟨(cur.toList.take (i.toNat * A.t.size + off) ++ us ++ cur.toList.drop (i.toNat * A.t.size + off + us.length)).take (A.xs.length * A.t.size), ?_, ?_, fun b' hb' => d0 b' hb'⟩, fun hd => absurd (hl.symm.trans hd) (by decide)⟩
      · refine ⟨?_, .inr ⟨b, c, _, by simp, hbase, setRow_heap w b cur _ A.e (0, 0) hg, by simpa using hncap, hcapm, ?_, ?_⟩⟩
        · simp only [List.length_take, List.length_append, List.length_drop, List.length_set]
          simp only [Array.length_toList] at hfit2 ⊢
          omega
        · simp only [List.size_toArray, List.length_append, List.length_take, List.length_drop]
          simp only [Array.length_toList] at hfit2 ⊢
          omega
        · simp
      · change RepRow g.Fr _ A.t (A.xs.set i.toNat x) _
        intro k y hy
        have key : ∀ m u, (cur.toList.take (A.xs.length * A.t.size))[k * A.t.size + m]? = some u → k * A.t.size + m < A.xs.length * A.t.size ∧ cur.toList[k * A.t.size + m]? = some u := fun m u hu => by
          rw [List.getElem?_take] at hu
          split at hu
          · rename_i hh; exact ⟨hh, hu⟩
          · cases hu
        simp only [List.getElem?_set] at hy
        by_cases hik : i.toNat = k
        · subst hik
          simp only [hil, if_true] at hy
          cases hy
          refine ⟨_, RepV.mono hle.Fr hle.same _ _ _ hnew, fun m u hu => ?_⟩
          rw [spliced_get (by omega)] at hu
          rw [List.getElem?_take]
          have hm : m < A.t.size := by
            have : m < (ds.take off ++ us ++ ds.drop (off + us.length)).length := by
              rw [← spliced_get (by omega)] at hu
              exact (List.getElem?_eq_some_iff.1 hu).1
            simp at this
            omega
          have hmx := Nat.mul_le_mul_right A.t.size (show i.toNat + 1 ≤ A.xs.length from hil)
          rw [Nat.add_mul] at hmx
          rw [if_pos (by omega), spliced_get hfit2]
          by_cases c1 : m < off
          · rw [if_pos c1] at hu
            rw [if_pos (by omega)]
            rw [← htake] at hdc
            exact (key m u (hdc m u hu)).2
          · rw [if_neg c1] at hu
            rw [if_neg (by omega)]
            by_cases c2 : m < off + us.length
            · rw [if_pos c2] at hu
              rw [if_pos (by omega), ← hu]
              congr 1
              omega
            · rw [if_neg c2] at hu
              rw [if_neg (by omega)]
              rw [← htake] at hdc
              exact (key m u (hdc m u hu)).2
        · simp only [hik, if_false] at hy
          obtain ⟨es, h8, h9⟩ := r0 k y hy
          refine ⟨es, RepV.mono hle.Fr hle.same _ _ _ h8, fun m u hu => ?_⟩
          have hm : m < A.t.size := by rw [← RepV.length _ _ _ h8]; exact (List.getElem?_eq_some_iff.1 hu).1
          have h10 := h9 m u hu
          rw [← htake] at h10
          obtain ⟨h11, h12⟩ := key m u h10
          rw [List.getElem?_take, if_pos h11, spliced_get hfit2]
          rcases mul_apart hm hik with hd | hd
          · rw [if_pos (by omega)]; exact h12
          · rw [if_neg (by omega), if_neg (by omega)]; exact h12
    · rw [List.getElem?_set_ne hjk] at hB
      obtain ⟨u, h3, h4⟩ := h.ar k B hB
      refine ⟨u, h3, h4.one, h4.head, fun hBl => ?_, fun hd => RepV.mono hle.Fr hle.same _ _ _ (h4.set hd)⟩
      obtain ⟨cells2, h5, h6, h7⟩ := h4.own hBl
      have hgr : w.grownBy (w.setRow b (cur.toList.take (i.toNat * A.t.size + off) ++ us ++ cur.toList.drop (i.toNat * A.t.size + off + us.length)).toArray) (some b) := ⟨rfl, rfl, rfl, by rw [setRow_size]; exact Nat.le_refl _, fun k _ hk => setRow_other w b k _ (fun e => hk (by rw [e]))⟩
      exact ⟨cells2, h5.kept hgr (by
        cases hu : u.ownBlock with
        | none => exact .inl rfl
        | some b' => exact .inr fun e => h.apart j k A B _ u _ _ b hjk hA hB hl hBl hj h3 rfl (by rw [hu, e])), h6.mono hle.Fr hle.same, h7⟩
  · have get : ∀ (k : Nat) (B : Arr), (σ.ar.set j { e := A.e, t := A.t, xs := A.xs.set i.toNat x, live := A.live })[k]? = some B → B.live = true → ∃ B', σ.ar[k]? = some B' ∧ B'.live = true := fun k B hB hBl => by
      by_cases hjk : j = k
      · subst hjk; exact ⟨A, hA, hl⟩
      · rw [List.getElem?_set_ne hjk] at hB; exact ⟨B, hB, hBl⟩
    intro k l B D u u' s s' b hkl hB hD hBl hDl hu hu' hb hb'
    obtain ⟨B', b1, b2⟩ := get k B hB hBl
    obtain ⟨D', d1, d2⟩ := get l D hD hDl
    exact h.apart k l B' D' u u' s s' b hkl b1 d1 b2 d2 hu hu' hb hb'

end
end Go.V

/- The operations, one by one. -/
namespace Go.V
open Go.RowKit

def zeroV : Ty → List Value
  | .int k => [.int k 0]
  | .bool => [.bool false]
  | .str => [.string ByteArray.empty]
  | .sl _ _ => [.slice none 0 0]
  | .unit => []
  | .pair a b => zeroV a ++ zeroV b
  | .ref _ => [.pointer none]
  | .clo _ _ => [.nilFunc]

def isStruct : TypeDesc → Bool
  | .struct _ | .array _ _ => true
  | _ => false

def Ty.plain : Ty → Bool
  | .ref _ => false
  | .clo _ _ => false
  | .pair a b => a.plain && b.plain
  | _ => true

structure TyOk (P : Program) (E : Env) (t : TypeId) (τ : Ty) : Prop where
  info : ∃ i z, P.info? t = some i ∧ i.size = τ.size ∧ i.zero = some z ∧ z.cells = (zeroV τ).toArray
  und : ∃ d, P.underlying t = some d ∧ isStruct d = τ.agg ∧ (∀ k, τ = .int k → d = .int k) ∧ (τ = .str → d = .string) ∧ (τ = .bool → d = .bool) ∧ (∀ e t', τ = .sl e t' → d = .slice e ∧ look E.ty e = some t' ∧ t'.size ≠ 0 ∧ t'.plain = true) ∧
    (τ.agg = true → ∃ fs, d = .struct fs ∧ ∀ f off t', τ.fld f = some (off, t') → ∃ fd i d', fs[f]? = some fd ∧ fd.offset = off ∧ P.info? fd.type = some i ∧ i.size = t'.size ∧ t'.size ≠ 0 ∧ P.underlying fd.type = some d' ∧ isStruct d' = t'.agg)
  plc : τ.agg = true → ∃ fs places, P.underlying t = some (.struct fs) ∧ fs.toList.mapM (fun f => (P.info? f.type).map fun i => (f.offset, i.size)) = some places ∧ ∀ f off t', τ.fld f = some (off, t') → places[f]? = some (off, t'.size)

def ValOk (F : Nat → Prop) (w : World) (t : Ty) (x : t.den) (v : Value) : Prop :=
  if t.agg = true then ∃ cs : List Value, v = .agg cs.toArray ∧ RepV F w t x cs else RepV F w t x [v]

def ValsOk (F : Nat → Prop) (w : World) : (ps : List Ty) → (Ty.prods ps).den → List Value → Prop
  | [], _, vs => vs = []
  | t :: ps, x, vs => ∃ v r, vs = v :: r ∧ ValOk F w t x.1 v ∧ ValsOk F w ps x.2 r

def ResOk (F : Nat → Prop) (w : World) (rs : List Ty) (x : (Ty.prods rs).den) (v : Value) : Prop := ∃ vs : List Value, ValsOk F w rs x vs ∧ v = (match vs with | [u] => u | vs => .tuple vs.toArray)

def Sound (P : Program) (f : FuncId) (k : Known) : Prop := ∀ x r, k.f x = some r → ∀ (w : World) (F : Nat → Prop) (vs : List Value), (∀ b, F b → b < w.heap.size) → ValsOk F w k.ps x vs →
  Calls P f vs.toArray w fun e w' => ∃ v, e = .returned v ∧ ResOk (fun b => F b ∨ (w.heap.size ≤ b ∧ b < w'.heap.size)) w' k.rs r v ∧ Below w.heap.size w w'

structure EnvOk (P : Program) (E : Env) : Prop where
  ty : ∀ t τ, look E.ty t = some τ → TyOk P E t τ
  bytes : ∀ e b, look E.bytes e = some b → ∃ i, P.info? e = some i ∧ i.bytes = b
  fn : ∀ f k, look E.fn f = some k → Sound P f k
  ent : ∀ f k, look E.fn f = some k → ∃ fn, P.funcs[f]? = some fn ∧ (fn.name == "runtime.NumGoroutine") = false ∧ fn.body.isNone = false
  inl : ∀ f fn, look E.inl f = some fn → P.funcs[f]? = some fn ∧ (fn.name == "runtime.NumGoroutine") = false ∧ fn.body.isNone = false
  eqs : ∀ t, E.eqs.contains t = true → ∀ τ, look E.ty t = some τ → ∀ (g : Gh) (w : World) (cs ds : List Cl) (vs us : List Value) (b : Bool) (x y : Operand), RelCls g w cs vs → RelCls g w ds us → fitsC τ cs = true → fitsC τ ds = true → eqCells cs ds = some b →
    ((do eqGuard .eql t x y (.agg vs.toArray) (.agg us.toArray); binOp .eql t (.agg vs.toArray) (.agg us.toArray)) : Sem Value).run P w = .ok (.bool b) w ∧
    ((do eqGuard .neq t x y (.agg vs.toArray) (.agg us.toArray); binOp .neq t (.agg vs.toArray) (.agg us.toArray)) : Sem Value).run P w = .ok (.bool (!b)) w

theorem zeros_rel (g : Gh) (w : World) : (t : Ty) → RelCls g w (zeros t) (zeroV t)
  | .int _ => ⟨_, _, rfl, rfl, rfl⟩
  | .bool => ⟨_, _, rfl, rfl, rfl⟩
  | .str => ⟨_, _, rfl, rfl, rfl⟩
  | .sl _ _ => ⟨.slice none 0 0, [], rfl, rfl, rfl⟩
  | .unit => rfl
  | .pair a b => RelCls.append (zeros_rel g w a) (zeros_rel g w b)
  | .ref _ => ⟨_, _, rfl, rfl, rfl⟩
  | .clo _ _ => ⟨_, _, rfl, rfl, rfl⟩

theorem constCells_rel (g : Gh) (w : World) (t : Ty) : ∀ (vs : List Value) (cs : List Cl) (r : List Value), constCells t vs = some (cs, r) → ∃ us, vs = us ++ r ∧ RelCls g w cs us := by
  induction t with
  | int k =>
    intro vs cs r h
    cases vs with
    | nil => simp [constCells] at h
    | cons v vs =>
      cases v <;> simp only [constCells, reduceCtorEq] at h
      split at h
      · rename_i hk
        subst hk
        simp only [Option.some.injEq, Prod.mk.injEq] at h
        obtain ⟨rfl, rfl⟩ := h
        exact ⟨[_], rfl, _, _, rfl, rfl, rfl⟩
      · cases h
  | bool =>
    intro vs cs r h
    cases vs with
    | nil => simp [constCells] at h
    | cons v vs =>
      cases v <;> simp only [constCells, reduceCtorEq] at h
      simp only [Option.some.injEq, Prod.mk.injEq] at h
      obtain ⟨rfl, rfl⟩ := h
      exact ⟨[_], rfl, _, _, rfl, rfl, rfl⟩
  | str =>
    intro vs cs r h
    cases vs with
    | nil => simp [constCells] at h
    | cons v vs =>
      cases v <;> simp only [constCells, reduceCtorEq] at h
      simp only [Option.some.injEq, Prod.mk.injEq] at h
      obtain ⟨rfl, rfl⟩ := h
      exact ⟨[_], rfl, _, _, rfl, rfl, rfl⟩
  | sl e t ih =>
    intro vs cs r h
    cases vs with
    | nil => simp [constCells] at h
    | cons v vs =>
      cases v with
      | slice A n c =>
        cases A with
        | some A => simp [constCells] at h
        | none => cases n with
          | succ n => simp [constCells] at h
          | zero => cases c with
            | succ c => simp [constCells] at h
            | zero =>
              simp only [constCells, Option.some.injEq, Prod.mk.injEq] at h
              obtain ⟨rfl, rfl⟩ := h
              exact ⟨[_], rfl, .slice none 0 0, _, rfl, rfl, rfl⟩
      | _ => simp [constCells] at h
  | ref t ih => intro vs cs r h; simp [constCells] at h
  | clo f c ih => intro vs cs r h; simp [constCells] at h
  | unit =>
    intro vs cs r h
    simp only [constCells, Option.some.injEq, Prod.mk.injEq] at h
    obtain ⟨rfl, rfl⟩ := h
    exact ⟨[], rfl, rfl⟩
  | pair a b iha ihb =>
    intro vs cs r h
    simp only [constCells] at h
    split at h
    · rename_i x r1 h1
      split at h
      · rename_i y r2 h2
        simp only [Option.some.injEq, Prod.mk.injEq] at h
        obtain ⟨rfl, rfl⟩ := h
        obtain ⟨u1, e1, g1⟩ := iha _ _ _ h1
        obtain ⟨u2, e2, g2⟩ := ihb _ _ _ h2
        exact ⟨u1 ++ u2, by rw [e1, e2, List.append_assoc], g1.append g2⟩
      · cases h
    · cases h

theorem constPV_rel (E : Env) (g : Gh) (w : World) (t : TypeId) (v : Value) : RelPV g w (constPV E t v) v := by
  have gen : ∀ (z : PV), (match look E.ty t with
    | some t => match constCells t [v] with
      | some (c, []) => PV.one (c.headD .junk)
      | _ => .junk
    | none => .junk) = z → RelPV g w z v := by
    intro z hz
    split at hz
    · split at hz
      · rename_i c hc
        subst hz
        obtain ⟨us, e1, h1⟩ := constCells_rel g w _ _ _ _ hc
        simp only [List.append_nil] at e1
        subst e1
        cases c with
        | nil => exact .inl rfl
        | cons c cs =>
          obtain ⟨v', r, e2, h2, _⟩ := h1
          cases e2
          exact .inr h2
      · subst hz; exact .inl rfl
    · subst hz; exact .inl rfl
  cases v with
  | int k n => exact .inr rfl
  | bool b => exact .inr rfl
  | string s => exact .inr rfl
  | agg cs =>
    simp only [constPV]
    split
    · split
      · rename_i c hc
        obtain ⟨us, e1, h1⟩ := constCells_rel g w _ _ _ _ hc
        simp only [List.append_nil] at e1
        exact ⟨us, by rw [← e1], h1⟩
      · exact .inl rfl
    · exact .inl rfl
  | _ => exact gen _ rfl

variable {P : Program} {E : Env} {w0 : Org} {g : Gh} {σ : St} {a : Act} {w : World} {o : Oper} {R : Type} {K : St → Option R} {r : R} {next : Act → World → Prop} {Q : Exit → Act → World → Prop}

theorem opv_rel (h : Rel w0 g σ a w) (E : Env) (t : TypeId) (x : Operand) : RelPV g w (opv E σ t x) (a.eval x) := by
  cases x with
  | tmp i => exact h.get i
  | const v => exact constPV_rel E g w t v
  | global _ => exact .inl rfl
  | func f => exact .inr ⟨[], rfl, rfl⟩

theorem wp_val {v : Value} {w' : World} (h : (execOp a.eval o).run P w = .ok (.value v) w') (hn : next (a.put o.dst v) w') : o.wp P a w next Q := by
  unfold Oper.wp
  rw [h]
  exact hn

theorem RelPV.cl {c : Cl} {v : Value} (h : RelCl g w c v) : RelPV g w (.one c) v := .inr h

theorem RelPV.ofPtr {p : Ptr} {v : Value} (h : RelPtr g w p v) : RelPV g w (.one (.ptr p)) v := .inr h

theorem RelPV.cells {p : PV} {v : Value} (h : RelPV g w p v) (hp : p.ok = true) : RelCls g w p.cells v.cells.toList := by
  cases p with
  | one c =>
    have hc : RelCl g w c v := h.elim (fun e => by subst e; cases hp) id
    have : v.cells = #[v] := by
      have := hc.oneCell
      cases v <;> first | rfl | cases this
    rw [this]
    exact ⟨v, [], rfl, hc, rfl⟩
  | agg cs => obtain ⟨vs, rfl, h1⟩ := h; simpa [Value.cells, PV.cells] using h1
  | tup vs => cases hp
  | skip => cases hp

theorem wp_skip' {w' : World} (h : (execOp a.eval o).run P w = .ok .skip w') (hn : next (a.put o.dst undef) w') : o.wp P a w next Q := by
  unfold Oper.wp
  rw [h]
  exact hn

theorem RelPV.ofJunk {v : Value} : RelPV g w .junk v := .inl rfl

def Gh.aft (g g' : Gh) : Prop := g'.base = g.base ∧ ∀ i : Nat, g.β[i]? = some none → g'.β[i]? = some none

theorem Gh.aft.trans {g g' g'' : Gh} (h : g.aft g') (h' : g'.aft g'') : g.aft g'' := ⟨h'.1.trans h.1, fun i hi => h'.2 i (h.2 i hi)⟩

def Then (w0 : Org) (g : Gh) (K : St → Option R) (r : R) (next : Act → World → Prop) : Prop := ∀ g' σ' a' w', Rel w0 g' σ' a' w' → K σ' = some r → g.aft g' → next a' w'

theorem sound_put {p : PV} {v : Value} (h : Rel w0 g σ a w) (hk : K (σ.put o.dst p) = some r) (hn : Then w0 g K r next) (hr : (execOp a.eval o).run P w = .ok (.value v) w) (hp : RelPV g w p v) : o.wp P a w next Q :=
  wp_val hr (hn g _ _ _ (h.put _ hp) hk ⟨rfl, fun _ h => h⟩)

theorem ev_move {x : Operand} (ho : o.op = .move x) (h : Rel w0 g σ a w) (hk : evOp E o σ K = some r) (hn : Then w0 g K r next) : o.wp P a w next Q := by
  simp only [evOp, ho] at hk
  exact sound_put h hk hn (by simp [execOp, ho]) (opv_rel h E _ x)

theorem ev_assign {x : Operand} (ho : o.op = .assign x) (h : Rel w0 g σ a w) (hk : evOp E o σ K = some r) (hn : Then w0 g K r next) : o.wp P a w next Q := by
  simp only [evOp, ho] at hk
  exact sound_put h hk hn (by simp [execOp, ho]) (opv_rel h E _ x)

theorem mergeCl_rel (c : Bool) {x y : Cl} {v u : Value} (hx : x = .junk ∨ RelCl g w x v) (hy : y = .junk ∨ RelCl g w y u) : mergeCl c x y = .junk ∨ RelCl g w (mergeCl c x y) (if c = true then v else u) := by
  have base : cond c x y = .junk ∨ RelCl g w (cond c x y) (if c = true then v else u) := by cases c <;> simpa
  unfold mergeCl
  split
  · rename_i k x k' y
    split
    · rename_i hk
      subst hk
      rcases hx with hx | hx
      · cases hx
      rcases hy with hy | hy
      · cases hy
      right
      cases c
      · exact hy
      · exact hx
    · exact base
  · rcases hx with hx | hx
    · cases hx
    rcases hy with hy | hy
    · cases hy
    right
    cases c
    · exact hy
    · exact hx
  · rcases hx with hx | hx
    · cases hx
    rcases hy with hy | hy
    · cases hy
    right
    cases c
    · exact hy
    · exact hx
  · exact base

theorem merge_rel (c : Bool) {x y : PV} {v u : Value} (hx : RelPV g w x v) (hy : RelPV g w y u) : RelPV g w (merge c x y) (if c = true then v else u) := by
  unfold merge
  split
  · exact mergeCl_rel c hx hy
  · cases c <;> assumption

theorem ev_pick {c x y : Operand} (ho : o.op = .pick c x y) (h : Rel w0 g σ a w) (hk : evOp E o σ K = some r) (hn : Then w0 g K r next) : o.wp P a w next Q := by
  simp only [evOp, ho] at hk
  split at hk
  · rename_i b hb
    have hc := opv_rel h E o.type c
    rw [hb] at hc
    have hc : a.eval c = .bool b := hc.elim (fun e => by cases e) id
    refine sound_put h hk hn (v := if b = true then a.eval x else a.eval y) (by simp [execOp, ho, hc, asBool]) (merge_rel b (opv_rel h E _ x) (opv_rel h E _ y))
  · cases hk

theorem ev_alloc {e : TypeId} (hE : EnvOk P E) (ho : o.op = .alloc e) (h : Rel w0 g σ a w) (hk : evOp E o σ K = some r) (hn : Then w0 g K r next) : o.wp P a w next Q := by
  simp only [evOp, ho] at hk
  split at hk
  · rename_i t ht
    obtain ⟨i, z, h1, h2, h3, h4⟩ := (hE.ty e t ht).info
    obtain ⟨h5, h6⟩ := h.newBox e (zeros_rel g w t)
    refine wp_val (v := .pointer (some ⟨w.heap.size, 0, none⟩)) (w' := w.alloc (.cells (zeroV t).toArray e)) ?_ (hn _ _ _ _ (h5.put _ (RelPV.ofPtr h6)) hk ⟨rfl, fun i hi => by rw [List.getElem?_append_left (List.getElem?_eq_some_iff.1 hi).1]; exact hi⟩)
    simp [execOp, ho, Instr.alloc, zeroValue, typeInfo, h1, h3, newVar, newRow, h4]
  · cases hk

theorem ev_box {e : TypeId} {x : Operand} (ho : o.op = .box e x) (h : Rel w0 g σ a w) (hk : evOp E o σ K = some r) (hn : Then w0 g K r next) : o.wp P a w next Q := by
  simp only [evOp, ho] at hk
  split at hk
  · rename_i t ht
    split at hk
    · rename_i hc
      have hx := (opv_rel h E e x).cells hc.1
      obtain ⟨h5, h6⟩ := h.newBox e hx
      refine wp_val (v := .pointer (some ⟨w.heap.size, 0, none⟩)) (w' := w.alloc (.cells (a.eval x).cells.toList.toArray e)) ?_ (hn _ _ _ _ (h5.put _ (RelPV.ofPtr h6)) hk ⟨rfl, fun i hi => by rw [List.getElem?_append_left (List.getElem?_eq_some_iff.1 hi).1]; exact hi⟩)
      simp [execOp, ho, Instr.box, newVar, newRow]
    · cases hk
  · cases hk

theorem addr_add (b o n : Nat) : (⟨b, o, none⟩ : Addr).add n = ⟨b, o + n, none⟩ := by unfold Addr.add; split <;> simp_all

theorem ptrAdd_rel {p : Ptr} {v : Value} (h : RelPtr g w p v) (n : Nat) : ∃ b o, v = .pointer (some ⟨b, o, none⟩) ∧ RelPtr g w (ptrAdd p n) (.pointer (some ⟨b, o + n, none⟩)) := by
  cases p with
  | box i off => obtain ⟨b, h1, rfl⟩ := h; exact ⟨b, off, rfl, b, h1, rfl⟩
  | el j i off => obtain ⟨b, n', c, s, h1, h2, h3, rfl⟩ := h; exact ⟨b, _, rfl, b, n', c, s, h1, h2, h3, by rw [Nat.add_assoc]⟩
  | ro t x off => obtain ⟨b, o, ds, rfl, h2⟩ := h; exact ⟨b, _, rfl, b, o, ds, by rw [Nat.add_assoc], h2⟩

theorem RelPV.ptr {p : Ptr} {v : Value} (h : RelPV g w (.one (.ptr p)) v) : RelPtr g w p v := h.elim (fun e => by cases e) id
theorem RelPV.int {k : IntKind} {n : Int} {v : Value} (h : RelPV g w (.one (.int k n)) v) : v = .int k n := h.elim (fun e => by cases e) id
theorem RelPV.bool {b : Bool} {v : Value} (h : RelPV g w (.one (.bool b)) v) : v = .bool b := h.elim (fun e => by cases e) id
theorem RelPV.str {s : ByteArray} {v : Value} (h : RelPV g w (.one (.str s)) v) : v = .string s := h.elim (fun e => by cases e) id

theorem ev_fieldAddr {s : TypeId} {x : Operand} {f : Nat} (hE : EnvOk P E) (ho : o.op = .fieldAddr s x f) (h : Rel w0 g σ a w) (hk : evOp E o σ K = some r) (hn : Then w0 g K r next) : o.wp P a w next Q := by
  simp only [evOp, ho] at hk
  split at hk
  · rename_i p t hp ht
    split at hk
    · rename_i off t' hf
      have hx := opv_rel h E o.type x
      rw [hp] at hx
      obtain ⟨b, of, he, h2⟩ := ptrAdd_rel hx.ptr off
      obtain ⟨d, h3, h4, _, _, _, _, h5⟩ := (hE.ty s t ht).und
      have hag : t.agg = true := by cases t <;> first | rfl | simp [Ty.fld] at hf
      obtain ⟨fs, rfl, h6⟩ := h5 hag
      obtain ⟨fd, i, d', h7, h8, h9, h10, h11, _⟩ := h6 f off t' hf
      refine sound_put h hk hn (v := .pointer (some ⟨b, of + off, none⟩)) ?_ (RelPV.ofPtr h2)
      simp [execOp, ho, Instr.fieldAt, run_underlying h3, h7, he, Instr.sureAddr, fieldPlace, sizeOf, typeInfo, h9, h10, h11, addr_add, h8]
    · cases hk
  · cases hk

theorem isAgg_run {t : TypeId} {τ : Ty} (hE : EnvOk P E) (ht : look E.ty t = some τ) (w : World) : (isAgg t).run P w = .ok τ.agg w := by
  obtain ⟨d, h3, h4, _⟩ := (hE.ty t τ ht).und
  rw [← h4]
  unfold isAgg
  simp only [Sem.run_bind, run_underlying h3, Result.andThen_ok]
  cases d <;> rfl

theorem sizeOf_run {t : TypeId} {τ : Ty} (hE : EnvOk P E) (ht : look E.ty t = some τ) (w : World) : (sizeOf t).run P w = .ok τ.size w := by
  obtain ⟨i, z, h1, h2, _⟩ := (hE.ty t τ ht).info
  simp [sizeOf, typeInfo, h1, h2]

theorem size_one {t : Ty} (h : t.agg = false) : t.size = 1 := by cases t <;> first | rfl | cases h

theorem loadVar_run {t : TypeId} {τ : Ty} (hE : EnvOk P E) (ht : look E.ty t = some τ) {b of : Nat} {vs : List Value} (hl : vs.length = τ.size) (hc : ∀ (m : Nat) (u : Value), vs[m]? = some u → w.cell? ⟨b, of + m, none⟩ = some u) :
    (loadVar t ⟨b, of, none⟩).run P w = .ok (if τ.agg = true then .agg vs.toArray else vs.headD undef) w := by
  unfold loadVar
  simp only [Sem.run_bind, isAgg_run hE ht, Result.andThen_ok]
  cases hag : τ.agg with
  | true =>
    have := run_loadCells_list (P := P) w ⟨b, of, none⟩ vs (fun j v hj => by rw [addr_add]; exact hc j v hj)
    rw [hl] at this
    simp [sizeOf_run hE ht, this]
  | false =>
    rw [size_one hag] at hl
    match vs, hl with
    | [v], _ =>
      have := hc 0 v rfl
      simp only [Nat.add_zero] at this
      simp [this]

theorem ofCells_rel {t : Ty} {cs : List Cl} {vs : List Value} (h : RelCls g w cs vs) (hl : cs.length = t.size) : RelPV g w (ofCells t cs) (if t.agg = true then .agg vs.toArray else vs.headD undef) := by
  unfold ofCells
  cases hag : t.agg with
  | true => exact ⟨vs, rfl, h⟩
  | false =>
    rw [size_one hag] at hl
    match cs, hl with
    | [c], _ =>
      obtain ⟨v, r, rfl, h1, h2⟩ := h
      exact .inr h1

theorem ev_load {t : TypeId} {x : Operand} (hE : EnvOk P E) (ho : o.op = .load t x) (h : Rel w0 g σ a w) (hk : evOp E o σ K = some r) (hn : Then w0 g K r next) : o.wp P a w next Q := by
  simp only [evOp, ho] at hk
  split at hk
  · rename_i p τ hp ht
    split at hk
    · rename_i cs hr
      have hx := opv_rel h E o.type x
      rw [hp] at hx
      obtain ⟨b, of, vs, he, h1, h2, h3⟩ := h.read hr hx.ptr
      refine sound_put h hk hn (v := if τ.agg = true then .agg vs.toArray else vs.headD undef) ?_ (ofCells_rel h1 (by rw [← h1.length, h2]))
      simp [execOp, ho, Instr.loadAt, he, Instr.sureAddr, loadVar_run hE ht h2 h3]
    · cases hk
  · cases hk

theorem storeVar_run {t : TypeId} {τ : Ty} (hE : EnvOk P E) (ht : look E.ty t = some τ) {b of : Nat} {old : Array Value} {e : TypeId} {v : Value} (hg : w.heap[b]? = some (.cells old e (0, 0))) (hl : v.cells.toList.length = τ.size)
    (hf : of + v.cells.toList.length ≤ old.size) (h1 : ∀ u ∈ v.cells.toList, u.oneCell' = true) :
    (storeVar t ⟨b, of, none⟩ v).run P w = .ok () (w.setRow b (old.toList.take of ++ v.cells.toList ++ old.toList.drop (of + v.cells.toList.length)).toArray) := by
  have := run_storeCells_at (P := P) b of e v.cells.toList 0 old w hg (by simpa using hf) h1
  simp only [Nat.add_zero] at this
  rw [Array.length_toList] at hl
  simp [storeVar, sizeOf_run hE ht, hl, this]

theorem ev_store {t : TypeId} {p x : Operand} (hE : EnvOk P E) (ho : o.op = .store t p x) (h : Rel w0 g σ a w) (hk : evOp E o σ K = some r) (hn : Then w0 g K r next) : o.wp P a w next Q := by
  simp only [evOp, ho] at hk
  split at hk
  · rename_i p' τ hp ht
    have hpp := opv_rel h E o.type p
    rw [hp] at hpp
    have hpp := hpp.ptr
    split at hk
    · rename_i hc
      have hx := (opv_rel h E t x).cells hc.1
      have hxl := hx.length
      cases p' with
      | box i off =>
        obtain ⟨b, hb, he⟩ := hpp
        split at hk
        · rename_i σ' hw
          simp only [storeV, writeAt] at hw
          split at hw
          · rename_i t' cs hi
            split at hw
            · rename_i hl
              cases hw
              obtain ⟨old, h1, h2, h3⟩ := h.writeBox hi hb hx hl
              refine wp_skip' (w' := w.setRow b (old.toList.take off ++ (a.eval x).cells.toList ++ old.toList.drop (off + (a.eval x).cells.toList.length)).toArray) ?_ (hn _ _ _ _ (h3.put _ RelPV.ofJunk) hk ⟨rfl, fun _ h => h⟩)
              simp only [execOp, ho, Instr.storeAt, he, Instr.sureAddr, Sem.run_bind, Sem.run_pure, Result.andThen_ok, storeVar_run hE ht h1 (by rw [hxl, hc.2]) h2 (hx.oneCell)]
            · cases hw
          · cases hw
        · cases hk
      | ro t' x' off =>
        simp only [storeV] at hk
        cases hk
      | el j i off =>
        obtain ⟨F1, f1, hle, h1, d1, _⟩ := h.settle (opv E σ t x).cells
        have hx1 := d1 _ hx
        split at hk
        · rename_i σ' hw
          unfold storeV at hw
          dsimp only at hw
          unfold writeAt at hw
          dsimp only at hw
          split at hw
          · rename_i A hA
            by_cases hl : A.live = true ∧ off + ((opv E σ t x).cells.map (asRow σ)).length ≤ A.t.size
            · rw [if_pos hl] at hw
              generalize hx' : unflat A.t (setRange (flat A.t (rdAt A.xs i)) off ((opv E σ t x).cells.map (asRow σ))) = z at hw
              rcases z with _ | ⟨x', _ | ⟨_, _⟩⟩
              · cases hw
              · cases hw
                obtain ⟨b, n, c, s, hj, h0, hi, he⟩ := hpp
                obtain ⟨old, h2, h3, h4⟩ := h1.writeEl hA hl.1 hj h0 hi hx1 hl.2 hx'
                obtain ⟨v', e1, okA⟩ := h1.ar j A hA
                have e2 : (Value.slice (some ⟨b, 0, none⟩) n c, s) = (v', A.t.size) := Option.some.inj (hj.symm.trans e1)
                cases e2
                refine wp_skip' (w' := w.setRow b (old.toList.take (i.toNat * A.t.size + off) ++ (a.eval x).cells.toList ++ old.toList.drop (i.toNat * A.t.size + off + (a.eval x).cells.toList.length)).toArray) ?_ (hn _ _ _ _ (h4.put _ RelPV.ofJunk) hk ⟨rfl, fun _ h => h⟩)
                simp only [execOp, ho, Instr.storeAt, he, Instr.sureAddr, Sem.run_bind, Sem.run_pure, Result.andThen_ok, storeVar_run hE ht h2 (by rw [hxl, hc.2]) h3 (hx.oneCell)]
              · cases hw
            · rw [if_neg hl] at hw
              cases hw
          · cases hw
        · cases hk
    · cases hk
  · cases hk

end Go.V
