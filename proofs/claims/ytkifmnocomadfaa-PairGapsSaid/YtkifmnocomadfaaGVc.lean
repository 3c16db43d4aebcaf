/- The operations, the second part. -/
import Derived.Test.YtkifmnocomadfaaGVb
import Derived.Laws.OwnMore
import Derived.Maps.AppendAt
namespace Go.V
open Go.RowKit

variable {P : Program} {E : Env} {w0 : Org} {g : Gh} {σ : St} {a : Act} {w : World} {o : Oper} {R : Type} {K : St → Option R} {r : R} {next : Act → World → Prop} {Q : Exit → Act → World → Prop}

theorem indexAt_run {t e : TypeId} {s : Nat} (ht : P.underlying t = some (.slice e)) (hs : (sizeOf e).run P w = .ok s w) {b of n c : Nat} {k : IntKind} {i : Int} (h0 : 0 ≤ i) (h1 : i < (n : Int)) :
    (Instr.indexAt t (.slice (some ⟨b, of, none⟩) n c) (.int k i)).run P w = .ok (.pointer (some ⟨b, of + i.toNat * s, none⟩)) w := by
  simp [Instr.indexAt, asIntOf, run_underlying ht, h0, h1, hs, addr_add]

theorem RelPV.own {j : Nat} {v : Value} (h : RelPV g w (.one (.own j)) v) : RelCl g w (.own j) v := h.elim (fun e => by cases e) id
theorem RelPV.sl {e : TypeId} {t : Ty} {xs : List t.den} {f : Bool} {v : Value} (h : RelPV g w (.one (.sl e t xs f)) v) : RelCl g w (.sl e t xs f) v := h.elim (fun e => by cases e) id

theorem slice_und {t e : TypeId} {τ : Ty} (hE : EnvOk P E) (ht : look E.ty t = some (.sl e τ)) : P.underlying t = some (.slice e) ∧ look E.ty e = some τ ∧ τ.size ≠ 0 := by
  obtain ⟨d, h3, _, _, _, _, h4, _⟩ := (hE.ty t _ ht).und
  obtain ⟨rfl, h5, h6, _⟩ := h4 e τ rfl
  exact ⟨h3, h5, h6⟩

theorem slice_plain {t e : TypeId} {τ : Ty} (hE : EnvOk P E) (ht : look E.ty t = some (.sl e τ)) : τ.plain = true := by
  obtain ⟨d, h3, _, _, _, _, h4, _⟩ := (hE.ty t _ ht).und
  exact (h4 e τ rfl).2.2.2

theorem ev_indexAddr {t : TypeId} {x ix : Operand} (hE : EnvOk P E) (ho : o.op = .indexAddr t x ix) (h : Rel w0 g σ a w) (hk : evOp E o σ K = some r) (hn : Then w0 g K r next) : o.wp P a w next Q := by
  simp only [evOp, ho] at hk
  split at hk
  · rename_i e τ ht
    obtain ⟨hu, hte, _⟩ := slice_und hE ht
    have hxr := opv_rel h E o.type x
    have hir := opv_rel h E o.type ix
    split at hk
    · rename_i e' t' xs f k i hx hi
      rw [hx] at hxr
      rw [hi] at hir
      split at hk
      · rename_i he
        obtain ⟨rfl, rfl⟩ := he
        split at hk
        · rename_i h0
          split at hk
          · rename_i h1
            obtain ⟨⟨A, c, h2, h3, h4⟩, _⟩ := hxr.sl
            obtain ⟨b, off, ds, rfl, h6, h7, h8⟩ := h4 i.toNat _ (rdAt_get h0 h1)
            simp only [List.cons.injEq, and_true] at h2
            refine sound_put h hk hn (v := .pointer (some ⟨b, off + i.toNat * t'.size, none⟩)) ?_ (RelPV.ofPtr ⟨b, off + i.toNat * t'.size, ds, by rw [Nat.add_zero], h6, h7, h8⟩)
            simp only [execOp, ho, hir.int, h2, indexAt_run hu (sizeOf_run hE hte w) h0 h1, Sem.run_bind, Result.andThen_ok, Sem.run_pure]
          · cases hk
        · cases hk
      · cases hk
    · rename_i j k i hx hi
      rw [hx] at hxr
      rw [hi] at hir
      split at hk
      · rename_i A hA
        split at hk
        · rename_i he
          split at hk
          · rename_i h0
            split at hk
            · rename_i h1
              obtain ⟨s, h2, h3⟩ := hxr.own
              obtain ⟨v', e1, okA⟩ := h.ar j A hA
              rw [h2] at e1
              cases e1
              rcases okA.head with ⟨_, h4⟩ | ⟨b, c, h4⟩
              · rw [h4] at h1; simp at h1; omega
              rw [h4] at h2
              refine sound_put h hk hn (v := .pointer (some ⟨b, 0 + i.toNat * τ.size, none⟩)) ?_ (RelPV.ofPtr ⟨b, _, c, _, h2, h0, h1, by rw [he.2]; simp⟩)
              simp only [execOp, ho, hir.int, h4, indexAt_run hu (sizeOf_run hE hte w) h0 h1, Sem.run_bind, Result.andThen_ok, Sem.run_pure]
            · cases hk
          · cases hk
        · cases hk
      · cases hk
    · rename_i j lo hi k i hx hi'
      rw [hx] at hxr
      rw [hi'] at hir
      split at hk
      · rename_i A hA
        split at hk
        · rename_i he
          split at hk
          · rename_i h0
            split at hk
            · rename_i h1
              have hsub : RelCl g w (.sub j lo hi) (a.eval x) := hxr.elim (fun e => by cases e) id
              obtain ⟨b, n, c, s, h2, h3, h4, h5, h6, h7⟩ := hsub
              obtain ⟨v', e1, okA⟩ := h.ar j A hA
              rw [h2] at e1
              cases e1
              have e2 : lo.toNat * A.t.size + i.toNat * τ.size = (lo + i).toNat * A.t.size + 0 := by
                rw [he.2, ← Nat.add_mul, Nat.add_zero]
                congr 1
                omega
              refine sound_put h hk hn (v := .pointer (some ⟨b, lo.toNat * A.t.size + i.toNat * τ.size, none⟩)) ?_ (RelPV.ofPtr ⟨b, n, c, _, h2, by omega, by omega, by rw [e2]⟩)
              have h1' : i < ((hi.toNat - lo.toNat : Nat) : Int) := by omega
              simp only [execOp, ho, hir.int, h7, indexAt_run hu (sizeOf_run hE hte w) h0 h1', Sem.run_bind, Result.andThen_ok, Sem.run_pure]
            · cases hk
          · cases hk
        · cases hk
      · cases hk
    · cases hk
  · cases hk

theorem ev_index {t : TypeId} {x ix : Operand} (hE : EnvOk P E) (ho : o.op = .index t x ix) (h : Rel w0 g σ a w) (hk : evOp E o σ K = some r) (hn : Then w0 g K r next) : o.wp P a w next Q := by
  simp only [evOp, ho] at hk
  have hxr := opv_rel h E o.type x
  have hir := opv_rel h E o.type ix
  split at hk
  · rename_i s k i ht hx hi
    obtain ⟨d, hS, _, _, hd, _⟩ := (hE.ty t _ ht).und
    obtain rfl := hd rfl
    rw [hx] at hxr
    rw [hi] at hir
    split at hk
    · rename_i h0
      split at hk
      · rename_i h1
        have hlt : i.toNat < s.size := by omega
        refine sound_put h hk hn (v := .int .u8 (bt s i)) ?_ (.inr rfl)
        simp [execOp, ho, hir.int, hxr.str, Instr.index, asIntOf, run_underlying hS, h0, hlt, bt]
      · cases hk
    · cases hk
  · cases hk

theorem intOp_run {op : BinOp} {k k' : IntKind} {x y : Int} {t : TypeId} {KK : Cl → Option R} (hkk : (op = .shl ∨ op = .shr) ∨ k = k') (hk : intOp op k x y KK = some r) :
    ∃ c v, KK c = some r ∧ (binOp op t (.int k x) (.int k' y)).run P w = .ok v w ∧ RelCl g w c v := by
  have same : (¬ (op = .shl ∨ op = .shr)) → k = k' := fun h => hkk.resolve_left h
  cases op <;> simp only [intOp, reduceCtorEq] at hk
  case shl =>
    split at hk
    · cases hk
    · rename_i hy; exact ⟨_, _, hk, by simp [binOp, Op.shift, hy], rfl⟩
  case shr =>
    split at hk
    · cases hk
    · rename_i hy; exact ⟨_, _, hk, by simp [binOp, Op.shift, hy], rfl⟩
  case quo =>
    obtain rfl := same (by simp)
    split at hk
    · cases hk
    · rename_i hy; exact ⟨_, _, hk, by simp [binOp, Op.intDiv, hy], rfl⟩
  case rem =>
    obtain rfl := same (by simp)
    split at hk
    · cases hk
    · rename_i hy; exact ⟨_, _, hk, by simp [binOp, Op.intDiv, hy], rfl⟩
  all_goals
    obtain rfl := same (by simp)
    exact ⟨_, _, hk, by simp [binOp, Op.intArith, Op.intCmp, Op.intBits], rfl⟩

theorem eqGuard_int (op : BinOp) (t : TypeId) (x y : Operand) (k : IntKind) (n : Int) (v : Value) : (eqGuard op t x y (.int k n) v) = pure () := by cases op <;> rfl
theorem eqGuard_bool (op : BinOp) (t : TypeId) (x y : Operand) (b : Bool) (v : Value) : (eqGuard op t x y (.bool b) v) = pure () := by cases op <;> rfl
theorem eqGuard_str (op : BinOp) (t : TypeId) (x y : Operand) (s : ByteArray) (v : Value) : (eqGuard op t x y (.string s) v) = pure () := by cases op <;> rfl

theorem binOp_str (op : BinOp) (t : TypeId) (s s' : ByteArray) : binOp op t (.string s) (.string s') = Op.stringOp op s s' := by cases op <;> rfl

theorem equal_bool {t : TypeId} (hu : P.underlying t = some .bool) (b b' : Bool) : (Op.equal t (.bool b) (.bool b')).run P w = .ok (b == b') w := by
  unfold Op.equal Op.maxDepth
  generalize hn : 9999 = n
  rw [show 10000 = n + 1 by omega]
  simp [Op.equalIn, run_underlying hu]

theorem ev_binOp {op : BinOp} {t ty : TypeId} {x y : Operand} (hE : EnvOk P E) (ho : o.op = .binOp op t x y ty) (h : Rel w0 g σ a w) (hk : evOp E o σ K = some r) (hn : Then w0 g K r next) : o.wp P a w next Q := by
  simp only [evOp, ho] at hk
  have hxr := opv_rel h E t x
  have hyr := opv_rel h E t y
  generalize hpx : opv E σ t x = px at hk hxr
  generalize hpy : opv E σ t y = py at hk hyr
  unfold binOpV at hk
  split at hk
  · rename_i k n k' m
    have key : ∃ c v, K (σ.put o.dst (.one c)) = some r ∧ (binOp op t (.int k n) (.int k' m)).run P w = .ok v w ∧ RelCl g w c v := by
      split at hk
      · exact intOp_run (KK := fun c => K (σ.put o.dst (.one c))) (.inl (.inl rfl)) hk
      · exact intOp_run (KK := fun c => K (σ.put o.dst (.one c))) (.inl (.inr rfl)) hk
      · split at hk
        · rename_i hkk; exact intOp_run (KK := fun c => K (σ.put o.dst (.one c))) (.inr hkk) hk
        · cases hk
    obtain ⟨c, v, h1, h2, h3⟩ := key
    exact sound_put h h1 hn (by simp [execOp, ho, hxr.int, hyr.int, eqGuard_int, h2]) (.inr h3)
  · rename_i b b'
    split at hk
    · rename_i ht
      obtain ⟨d, hu, _, _, _, hd, _⟩ := (hE.ty t _ ht).und
      obtain rfl := hd rfl
      exact sound_put h hk hn (v := .bool (b == b')) (by simp [execOp, ho, hxr.bool, hyr.bool, eqGuard_bool, binOp, equal_bool hu]) (.inr rfl)
    · rename_i ht
      obtain ⟨d, hu, _, _, _, hd, _⟩ := (hE.ty t _ ht).und
      obtain rfl := hd rfl
      exact sound_put h hk hn (v := .bool (!(b == b'))) (by simp [execOp, ho, hxr.bool, hyr.bool, eqGuard_bool, binOp, equal_bool hu]) (.inr rfl)
    · cases hk
  · rename_i s s'
    have run : ∀ v, (Op.stringOp op s s').run P w = .ok v w → (execOp a.eval o).run P w = .ok (.value v) w := fun v hv => by
      simp [execOp, ho, hxr.str, hyr.str, eqGuard_str, binOp_str, hv]
    split at hk
    · exact sound_put h hk hn (run _ (by simp [Op.stringOp])) (.inr rfl)
    · exact sound_put h hk hn (run _ (by simp [Op.stringOp])) (.inr rfl)
    · exact sound_put h hk hn (run _ (by simp [Op.stringOp])) (.inr rfl)
    · exact sound_put h hk hn (run _ (by simp [Op.stringOp])) (.inr rfl)
    · exact sound_put h hk hn (run _ (by simp [Op.stringOp])) (.inr rfl)
    · exact sound_put h hk hn (run _ (by simp [Op.stringOp])) (.inr rfl)
    · split at hk
      · cases hk
      · rename_i hl
        exact sound_put h hk hn (run _ (by simp only [Op.stringOp]; rw [if_neg hl]; rfl)) (.inr rfl)
    · cases hk
  · split at hk
    · rename_i cs ds heq
      simp only [Bool.and_eq_true] at heq
      obtain ⟨hq1, hq2⟩ := heq
      unfold fitsB at hq2
      split at hq2
      case h_2 => cases hq2
      rename_i τ hτ
      simp only [Bool.and_eq_true] at hq2
      obtain ⟨vs, hv, h1⟩ := hxr
      obtain ⟨us, hu, h2⟩ := hyr
      split at hk
      · split at hk
        · rename_i b hb
          exact sound_put h hk hn (v := .bool b) (by
            have := (hE.eqs t hq1 τ hτ g w cs ds vs us b x y h1 h2 hq2.1 hq2.2 hb).1
            simp only [Sem.run_bind] at this
            simp only [execOp, ho, hv, hu, Sem.run_bind, this, Result.andThen_ok, Sem.run_pure]) (.inr rfl)
        · cases hk
      · split at hk
        · rename_i b hb
          exact sound_put h hk hn (v := .bool (!b)) (by
            have := (hE.eqs t hq1 τ hτ g w cs ds vs us b x y h1 h2 hq2.1 hq2.2 hb).2
            simp only [Sem.run_bind] at this
            simp only [execOp, ho, hv, hu, Sem.run_bind, this, Result.andThen_ok, Sem.run_pure]) (.inr rfl)
        · cases hk
      · cases hk
    · cases hk
  · cases hk

end Go.V

/- The operations, the third part. -/
namespace Go.V
open Go.RowKit

variable {P : Program} {E : Env} {w0 : Org} {g : Gh} {σ : St} {a : Act} {w : World} {o : Oper} {R : Type} {K : St → Option R} {r : R} {next : Act → World → Prop} {Q : Exit → Act → World → Prop}

theorem ev_unOp {op : UnOp} {t : TypeId} {x : Operand} (ho : o.op = .unOp op t x) (h : Rel w0 g σ a w) (hk : evOp E o σ K = some r) (hn : Then w0 g K r next) : o.wp P a w next Q := by
  simp only [evOp, ho] at hk
  have hx := opv_rel h E o.type x
  split at hk
  · rename_i b hb
    rw [hb] at hx
    exact sound_put h hk hn (v := .bool (!b)) (by simp [execOp, ho, hx.bool, Op.unary]) (.inr rfl)
  · rename_i k n hb
    rw [hb] at hx
    exact sound_put h hk hn (v := .int k (k.wrap (0 - n))) (by simp [execOp, ho, hx.int, Op.unary, Op.intArith]) (.inr rfl)
  · cases hk

theorem ev_convert {s d : TypeId} {x : Operand} (hE : EnvOk P E) (ho : o.op = .convert s d x) (h : Rel w0 g σ a w) (hk : evOp E o σ K = some r) (hn : Then w0 g K r next) : o.wp P a w next Q := by
  simp only [evOp, ho] at hk
  have hx := opv_rel h E o.type x
  split at hk
  · rename_i ks k k' n hs hd hv
    rw [hv] at hx
    obtain ⟨ds, us, _, hs', _⟩ := (hE.ty s _ hs).und
    obtain rfl := hs' _ rfl
    obtain ⟨dd, ud, _, hd', _⟩ := (hE.ty d _ hd).und
    obtain rfl := hd' _ rfl
    exact sound_put h hk hn (v := .int k (k.wrap n)) (by simp [execOp, ho, hx.int, convert, run_underlying us, run_underlying ud, Conv.intToInt]) (.inr rfl)
  · rename_i z hs hd hv
    rw [hv] at hx
    obtain ⟨ds, us, _, _, hs', _⟩ := (hE.ty s _ hs).und
    obtain rfl := hs' rfl
    obtain ⟨dd, ud, _, _, hd', _⟩ := (hE.ty d _ hd).und
    obtain rfl := hd' rfl
    exact sound_put h hk hn (v := .string z) (by simp [execOp, ho, hx.str, convert, run_underlying us, run_underlying ud]) (.inr rfl)
  · cases hk

theorem ev_extract {x : Operand} {i : Nat} (ho : o.op = .extract x i) (h : Rel w0 g σ a w) (hk : evOp E o σ K = some r) (hn : Then w0 g K r next) : o.wp P a w next Q := by
  simp only [evOp, ho] at hk
  have hx := opv_rel h E o.type x
  split at hk
  · rename_i vs hv
    rw [hv] at hx
    obtain ⟨us, h1, h2, h3⟩ := hx
    split at hk
    · rename_i b cs hi
      have hlt : i < us.length := by rw [h2]; exact (List.getElem?_eq_some_iff.1 hi).1
      have hu : us[i]? = some us[i] := by simp [hlt]
      have h4 := h3 i b cs us[i] hi hu
      refine sound_put h hk hn (v := us[i]) (by simp [execOp, ho, h1, Instr.extract, hlt]) ?_
      split
      · rename_i hb; rw [if_pos hb] at h4; exact h4
      · rename_i hb; rw [if_neg hb] at h4; obtain ⟨c, rfl, h5⟩ := h4; exact .inr h5
    · cases hk
  · cases hk

theorem ev_nilCheck {x : Operand} (ho : o.op = .nilCheck x) (h : Rel w0 g σ a w) (hk : evOp E o σ K = some r) (hn : Then w0 g K r next) : o.wp P a w next Q := by
  simp only [evOp, ho] at hk
  have hx := opv_rel h E o.type x
  split at hk
  · rename_i p hp
    rw [hp] at hx
    obtain ⟨b, of, he, h2⟩ := ptrAdd_rel hx.ptr 0
    exact sound_put h hk hn (v := a.eval x) (by simp [execOp, ho, he]) hx
  · cases hk

theorem part_run {t : TypeId} {τ : Ty} {d : TypeDesc} {i : TypeInfo} (hu : P.underlying t = some d) (hd : isStruct d = τ.agg) (hi : P.info? t = some i) (hs : i.size = τ.size) {vs : List Value} {off : Nat} (hl : off + τ.size ≤ vs.length) :
    (part t vs.toArray off).run P w = .ok (if τ.agg = true then .agg ((vs.drop off).take τ.size).toArray else ((vs.drop off).take τ.size).headD undef) w := by
  have ha : (isAgg t).run P w = .ok τ.agg w := by
    rw [← hd]
    unfold isAgg
    simp only [Sem.run_bind, run_underlying hu, Result.andThen_ok]
    cases d <;> rfl
  unfold part
  simp only [Sem.run_bind, ha, Result.andThen_ok]
  cases hag : τ.agg with
  | true =>
    simp [sizeOf, typeInfo, hi, hs]
  | false =>
    rw [size_one hag] at hl ⊢
    have hlt : off < vs.length := by omega
    have h1 : (vs.drop off).take 1 = [vs[off]] := by rw [List.drop_eq_getElem_cons hlt]; rfl
    rw [h1]
    simp [hlt]

theorem ev_field {t : TypeId} {x : Operand} {f : Nat} (hE : EnvOk P E) (ho : o.op = .field t x f) (h : Rel w0 g σ a w) (hk : evOp E o σ K = some r) (hn : Then w0 g K r next) : o.wp P a w next Q := by
  simp only [evOp, ho] at hk
  have hx := opv_rel h E o.type x
  split at hk
  · rename_i cs τ hp ht
    rw [hp] at hx
    split at hk
    · rename_i off t' hf
      split at hk
      · rename_i hlen
        obtain ⟨vs, he, h1⟩ := hx
        have hvl := h1.length
        obtain ⟨d, h3, h4, _, _, _, _, h5⟩ := (hE.ty t τ ht).und
        have hag : τ.agg = true := by cases τ <;> first | rfl | simp [Ty.fld] at hf
        obtain ⟨fs, rfl, h6⟩ := h5 hag
        obtain ⟨fd, i, d', h7, h8, h9, h10, h11, h12, h13⟩ := h6 f off t' hf
        refine sound_put h hk hn ?_ (ofCells_rel (h1.cut off t'.size) (by rw [List.length_take, List.length_drop]; omega))
        simp only [execOp, ho, he, Instr.field, asAgg, Sem.run_bind, run_underlying h3, Result.andThen_ok, h7, Sem.run_pure, h8, part_run (w := w) h12 h13 h9 h10 (show off + t'.size ≤ vs.length by omega)]
      · cases hk
    · cases hk
  · cases hk

theorem asRow_sl {c : Cl} {e : TypeId} {t : Ty} {xs : List t.den} (h : rowIn σ c = some (e, ⟨t, xs⟩)) : ∃ f, asRow σ c = .sl e t xs f := by
  unfold rowIn at h
  split at h
  · cases h
  · split at h
    · rename_i e' t' xs' f hc
      simp only [Option.some.injEq, Prod.mk.injEq, Sigma.mk.injEq] at h
      obtain ⟨rfl, rfl, h⟩ := h
      obtain rfl := eq_of_heq h
      exact ⟨f, hc⟩
    · cases h

theorem Rel.rowVal (h : Rel w0 g σ a w) {c : Cl} {e : TypeId} {t : Ty} {xs : List t.den} {v : Value} (hr : rowIn σ c = some (e, ⟨t, xs⟩)) (hc : RelCl g w c v) : ∃ A n, v = .slice A xs.length n ∧ xs.length ≤ n := by
  obtain ⟨f, hs⟩ := asRow_sl hr
  obtain ⟨F, _, _, _, h1, _⟩ := h.freeze c
  have h2 := h1 v hc
  rw [hs] at h2
  obtain ⟨⟨A, n, h3, h4, _⟩, _⟩ := h2
  simp only [List.cons.injEq, and_true] at h3
  exact ⟨A, n, h3, h4⟩

theorem invoke_builtin (b : Builtin) (ts : Array TypeId) (ty : TypeId) (cs : Array Bool) (args : Array Value) : invoke (.builtin b ts ty cs) args = builtin b ts ty cs args := rfl

theorem ev_len {c : Call} (hE : EnvOk P E) (hc : c.callee = .builtin .len) (ho : o.op = .call c) (h : Rel w0 g σ a w) (hk : evOp E o σ K = some r) (hn : Then w0 g K r next) : o.wp P a w next Q := by
  simp only [evOp, ho, hc] at hk
  split at hk
  · rename_i x t hargs htys
    have hx := opv_rel h E o.type x
    have h1 : c.args = #[x] := by apply Array.ext'; simpa using hargs
    have h2 : c.argTypes = #[t] := by apply Array.ext'; simpa using htys
    split at hk
    · rename_i s ht hv
      rw [hv] at hx
      obtain ⟨d, hu, _, _, hd, _⟩ := (hE.ty t _ ht).und
      obtain rfl := hd rfl
      exact sound_put h hk hn (v := .int .i64 (s.size : Int)) (by simp [execOp, ho, resolve, hc, h1, h2, invoke_builtin, builtin, Builtin.len_, hx.str, run_underlying hu, goInt]) (.inr rfl)
    · rename_i e τ cl ht hv
      rw [hv] at hx
      obtain ⟨hu, _⟩ := slice_und hE ht
      split at hk
      · rename_i e' xs hr
        have hcl : RelCl g w cl (a.eval x) := hx.elim (fun e => by subst e; simp [rowIn, asRow] at hr) id
        obtain ⟨A, n, he, _⟩ := h.rowVal hr hcl
        exact sound_put h hk hn (v := .int .i64 (xs.2.length : Int)) (by simp [execOp, ho, resolve, hc, h1, h2, invoke_builtin, builtin, Builtin.len_, he, run_underlying hu, goInt]) (.inr rfl)
      · cases hk
    · cases hk
  · cases hk

theorem ev_min {c : Call} (hc : c.callee = .builtin .min) (ho : o.op = .call c) (h : Rel w0 g σ a w) (hk : evOp E o σ K = some r) (hn : Then w0 g K r next) : o.wp P a w next Q := by
  simp only [evOp, ho, hc] at hk
  split at hk
  · rename_i x y hargs
    have hx := opv_rel h E o.type x
    have hy := opv_rel h E o.type y
    have h1 : c.args = #[x, y] := by apply Array.ext'; simpa using hargs
    split at hk
    · rename_i k n k' m h2 h3
      rw [h2] at hx
      rw [h3] at hy
      exact sound_put h hk hn (v := .int k (if m < n then m else n)) (by simp [execOp, ho, resolve, hc, h1, invoke_builtin, builtin, Builtin.min_, hx.int, hy.int, Builtin.min2]) (.inr rfl)
    · cases hk
  · cases hk

theorem ev_max {c : Call} (hc : c.callee = .builtin .max) (ho : o.op = .call c) (h : Rel w0 g σ a w) (hk : evOp E o σ K = some r) (hn : Then w0 g K r next) : o.wp P a w next Q := by
  simp only [evOp, ho, hc] at hk
  split at hk
  · rename_i x y hargs
    have hx := opv_rel h E o.type x
    have hy := opv_rel h E o.type y
    have h1 : c.args = #[x, y] := by apply Array.ext'; simpa using hargs
    split at hk
    · rename_i k n k' m h2 h3
      rw [h2] at hx
      rw [h3] at hy
      exact sound_put h hk hn (v := .int k (if m > n then m else n)) (by simp [execOp, ho, resolve, hc, h1, invoke_builtin, builtin, Builtin.max_, hx.int, hy.int, Builtin.max2]) (.inr rfl)
    · cases hk
  · cases hk

def rowCells (t : Ty) (xs : List t.den) (Fr : Nat → Prop) (w : World) (cells : List Value) : Prop := cells.length = xs.length * t.size ∧ RepRow Fr w t xs cells ∧ ∀ v ∈ cells, v.oneCell' = true

theorem RepV.rowAt {Fr : Nat → Prop} {w : World} {e : TypeId} {t : Ty} {xs : List t.den} {v : Value} (h : RepV Fr w (.sl e t) xs [v]) : ∃ A n cells, v = .slice A xs.length n ∧ rowCells t xs Fr w cells ∧
    (xs ≠ [] → ∃ b o, A = some ⟨b, o, none⟩ ∧ ∀ (j : Nat) (u : Value), cells[j]? = some u → w.cell? ((⟨b, o, none⟩ : Addr).add j) = some u) := by
  obtain ⟨A, n, h1, _, h2⟩ := h
  simp only [List.cons.injEq, and_true] at h1
  have key : ∀ k, k ≤ xs.length → ∃ cells : List Value, cells.length = k * t.size ∧ RepRow Fr w t (xs.take k) cells ∧ (∀ v ∈ cells, v.oneCell' = true) ∧
      ∀ b o, A = some ⟨b, o, none⟩ → ∀ (j : Nat) (u : Value), cells[j]? = some u → w.cell? ⟨b, o + j, none⟩ = some u := by
    intro k
    induction k with
    | zero => exact fun _ => ⟨[], by simp, fun i x hx => by simp at hx, by simp, fun _ _ _ j u hu => by simp at hu⟩
    | succ k ih =>
      intro hk
      obtain ⟨cells, c1, c2, c3, c4⟩ := ih (by omega)
      have hx : xs[k]? = some xs[k] := by simp [show k < xs.length by omega]
      obtain ⟨b, o, ds, hA, hF, h3, h4⟩ := h2 k xs[k] hx
      have hd := RepV.length _ _ _ h3
      refine ⟨cells ++ ds, by rw [List.length_append, c1, hd, Nat.add_mul]; omega, ?_, ?_, ?_⟩
      · intro i x hi
        rw [List.getElem?_take] at hi
        split at hi
        · rename_i hik
          by_cases hlt : i < k
          · obtain ⟨es, h5, h6⟩ := c2 i x (by rw [List.getElem?_take, if_pos hlt]; exact hi)
            exact ⟨es, h5, fun m v hm => by
              have := h6 m v hm
              rw [List.getElem?_append_left (List.getElem?_eq_some_iff.1 this).1]
              exact this⟩
          · obtain rfl : i = k := by omega
            rw [hx] at hi
            cases hi
            exact ⟨ds, h3, fun m v hm => by rw [List.getElem?_append_right (by omega), c1, Nat.add_sub_cancel_left]; exact hm⟩
        · cases hi
      · intro v hv
        rcases List.mem_append.1 hv with hv | hv
        · exact c3 v hv
        · exact RepV.oneCell _ _ _ h3 v hv
      · intro b' o' hA' j u hu
        rw [hA] at hA'
        cases hA'
        rw [List.getElem?_append] at hu
        split at hu
        · exact c4 b o hA j u hu
        · rename_i hj
          have := h4 (j - cells.length) u hu
          rw [c1] at this hj
          rwa [show o + k * t.size + (j - k * t.size) = o + j by omega] at this
  obtain ⟨cells, c1, c2, c3, c4⟩ := key xs.length (Nat.le_refl _)
  rw [List.take_length] at c2
  refine ⟨A, n, cells, h1, ⟨c1, c2, c3⟩, fun hne => ?_⟩
  have hx : xs[0]? = some (xs[0]'(List.length_pos_iff.2 hne)) := by simp [List.length_pos_iff.2 hne]
  obtain ⟨b, o, _, hA, _⟩ := h2 0 _ hx
  exact ⟨b, o, hA, fun j u hu => by rw [addr_add]; exact c4 b o hA j u hu⟩

end Go.V

/- Rows that grow; rows and records made. -/
namespace Go.V
open Go.RowKit

variable {P : Program} {E : Env} {w0 : Org} {g : Gh} {σ : St} {a : Act} {w : World} {o : Oper} {R : Type} {K : St → Option R} {r : R} {next : Act → World → Prop} {Q : Exit → Act → World → Prop}

theorem ownsRow_one {base : Nat} {e : TypeId} {s n : Nat} {v : Value} {xs : List Value} (h : w.ownsRow base e s v n xs) : v.oneCell' = true := by
  rcases h.2 with ⟨rfl, _⟩ | ⟨_, _, _, rfl, _⟩ <;> rfl

theorem RepRow.one {Fr : Nat → Prop} {t : Ty} {xs : List t.den} {cells : List Value} (h : RepRow Fr w t xs cells) (hl : cells.length = xs.length * t.size) : ∀ v ∈ cells, v.oneCell' = true := by
  intro v hv
  obtain ⟨j, hj, rfl⟩ := List.getElem_of_mem hv
  have hs : 0 < t.size := by
    rcases Nat.eq_zero_or_pos t.size with h' | h'
    · rw [h'] at hl; omega
    · exact h'
  have hi : j / t.size < xs.length := by rw [Nat.div_lt_iff_lt_mul hs]; omega
  obtain ⟨ds, h1, h2⟩ := h (j / t.size) xs[j / t.size] (by simp [hi])
  have hd := RepV.length _ _ _ h1
  have hm : j % t.size < ds.length := by rw [hd]; exact Nat.mod_lt _ hs
  have h3 := h2 (j % t.size) ds[j % t.size] (by simp [hm])
  rw [Nat.mul_comm, Nat.div_add_mod] at h3
  have : cells[j] = ds[j % t.size] := by simpa [hj] using h3
  rw [this]
  exact RepV.oneCell _ _ _ h1 _ (List.getElem_mem hm)

theorem Rel.rowCells (h : Rel w0 g σ a w) {c : Cl} {e : TypeId} {t : Ty} {xs : List t.den} {v : Value} (hr : rowIn σ c = some (e, ⟨t, xs⟩)) (hc : RelCl g w c v) :
    ∃ A n cells, v = .slice A xs.length n ∧ xs.length ≤ n ∧ V.rowCells t xs g.Fr w cells ∧ (xs ≠ [] → ∃ b o, A = some ⟨b, o, none⟩ ∧ ∀ (j : Nat) (u : Value), cells[j]? = some u → w.cell? ((⟨b, o, none⟩ : Addr).add j) = some u) := by
  obtain ⟨A, n, hv, hn⟩ := h.rowVal hr hc
  have fromRep : RepV g.Fr w (.sl e t) xs [v] → ∃ A n cells, v = .slice A xs.length n ∧ xs.length ≤ n ∧ V.rowCells t xs g.Fr w cells ∧ (xs ≠ [] → ∃ b o, A = some ⟨b, o, none⟩ ∧ ∀ (j : Nat) (u : Value), cells[j]? = some u → w.cell? ((⟨b, o, none⟩ : Addr).add j) = some u) := fun hrep => by
    obtain ⟨A', n', cells, h1, h2, h3⟩ := hrep.rowAt
    rw [hv] at h1
    cases h1
    exact ⟨A, n, cells, hv, hn, h2, h3⟩
  cases c with
  | own j =>
    cases hA : σ.ar[j]? with
    | none => simp [rowIn, asRow, hA] at hr
    | some B =>
      obtain ⟨s, h1, h2⟩ := hc
      simp only [rowIn, asRow, hA, Option.some.injEq, Prod.mk.injEq, Sigma.mk.injEq] at hr
      obtain ⟨e1, e2, e3⟩ := hr
      subst e2
      obtain rfl := eq_of_heq e3
      subst e1
      obtain ⟨v', h3, h4⟩ := h.ar j B hA
      rw [h1] at h3
      cases h3
      cases hl : B.live with
      | false => exact fromRep (h4.set hl)
      | true =>
        obtain ⟨cells, h5, h6, _⟩ := h4.own hl
        refine ⟨A, n, cells, hv, hn, ⟨h5.1, h6, h6.one h5.1⟩, fun hne => ?_⟩
        rcases h4.head with ⟨_, h7⟩ | ⟨b, c, h7⟩
        · exact absurd h7 hne
        · rw [hv] at h7
          cases h7
          exact ⟨b, 0, rfl, fun j u hu => h5.cells (by rw [hv]; rfl) j u hu⟩
  | sl e' t' xs' f =>
    simp only [rowIn, asRow, Option.some.injEq, Prod.mk.injEq, Sigma.mk.injEq] at hr
    obtain ⟨e1, e2, e3⟩ := hr
    subst e2
    obtain rfl := eq_of_heq e3
    subst e1
    exact fromRep hc.1
  | nil e' t' =>
    simp only [rowIn, asRow, Option.some.injEq, Prod.mk.injEq, Sigma.mk.injEq] at hr
    obtain ⟨e1, e2, e3⟩ := hr
    subst e2
    obtain rfl := eq_of_heq e3
    subst e1
    exact fromRep (by rw [show v = .slice none 0 0 from hc]; exact ⟨none, 0, rfl, Nat.le_refl _, fun i x h => by simp at h⟩)
  | _ => simp [rowIn, asRow] at hr

theorem asTy_some {σ : St} {c : Cl} {t : Ty} {e : TypeId} {xs : List t.den} (h : asTy t (rowIn σ c) e = some xs) : rowIn σ c = some (e, ⟨t, xs⟩) := by
  unfold asTy at h
  split at h
  · rename_i e' t' xs' hr
    split at h
    · rename_i he
      obtain ⟨rfl, rfl⟩ := he
      simp only [Option.some.injEq] at h
      rw [hr, h]
    · cases h
  · cases h

theorem RepRow.append {Fr : Nat → Prop} {t : Ty} {xs ys : List t.den} {c1 c2 : List Value} (h1 : RepRow Fr w t xs c1) (l1 : c1.length = xs.length * t.size) (h2 : RepRow Fr w t ys c2) : RepRow Fr w t (xs ++ ys) (c1 ++ c2) := by
  intro i x hi
  rw [List.getElem?_append] at hi
  split at hi
  · obtain ⟨ds, h3, h4⟩ := h1 i x hi
    exact ⟨ds, h3, fun m v hm => by
      have := h4 m v hm
      rw [List.getElem?_append_left (List.getElem?_eq_some_iff.1 this).1]
      exact this⟩
  · rename_i hlt
    obtain ⟨ds, h3, h4⟩ := h2 _ x hi
    refine ⟨ds, h3, fun m v hm => ?_⟩
    have hge : xs.length * t.size ≤ i * t.size := Nat.mul_le_mul_right _ (by omega)
    rw [List.getElem?_append_right (by omega), l1]
    have := h4 m v hm
    rw [Nat.sub_mul] at this
    rwa [show i * t.size + m - xs.length * t.size = i * t.size - xs.length * t.size + m by omega]

theorem lim_bytes (hE : EnvOk P E) {e : TypeId} {n : Nat} (h : n ≤ lim E e) {i : TypeInfo} (hi : P.info? e = some i) : n * i.bytes ≤ 140737488355328 ∧ n ≤ maxLen := by
  unfold lim at h
  split at h
  · rename_i b hb
    obtain ⟨j, h1, h2⟩ := hE.bytes e b hb
    rw [hi] at h1
    cases h1
    split at h
    · have : n = 0 := by omega
      subst this
      simp [maxLen]
    · rename_i hb0
      rw [h2]
      have h3 : n * b ≤ 140737488355328 := by
        have := Nat.mul_le_mul_right b h
        exact Nat.le_trans this (Nat.div_mul_le_self _ _)
      refine ⟨h3, ?_⟩
      have : n ≤ n * b := Nat.le_mul_of_pos_right n (by omega)
      simp only [maxLen]
      omega
  · have : n = 0 := by omega
    subst this
    simp [maxLen]

theorem zeroV_length : (t : Ty) → (zeroV t).length = t.size
  | .int _ => rfl
  | .bool => rfl
  | .str => rfl
  | .sl _ _ => rfl
  | .unit => rfl
  | .ref _ => rfl
  | .clo _ _ => rfl
  | .pair a b => by simp [zeroV, Ty.size, zeroV_length a, zeroV_length b]

theorem newRow_owns {base : Nat} {e : TypeId} {s n cap : Nat} {z : Value} {cs : List Value} (hl : cs.length = n * s) (hz : z.cells.size = s) (hn : n ≤ cap) (hc : cap ≤ maxLen) (hb : base ≤ w.heap.size) :
    (w.drew.alloc (.cells (cs.toArray ++ Builtin.zeroCells z.cells (cap - n)) e)).ownsRow base e s (.slice (some ⟨w.heap.size, 0, none⟩) n cap) n cs := by
  refine ⟨hl, .inr ⟨w.heap.size, cap, _, rfl, hb, heap_alloc_new w.drew _, hn, hc, ?_, ?_⟩⟩
  · simp only [Array.size_append, List.size_toArray, size_zeroCells, hz, hl, ← Nat.add_mul]
    congr 1
    omega
  · simp only [Array.toList_append, ← hl]
    exact List.take_left

theorem append_full_run {t ty e : TypeId} {i : TypeInfo} {z : Value} (hu : P.underlying t = some (.slice e)) (hi : P.info? e = some i) (hz : i.zero = some z) {A : Option Addr} {n m n2 : Nat} {c1 c2 : List Value}
    (l1 : c1.length = n * i.size) (l2 : c2.length = m * i.size) (hm : 0 < m) (hA : n ≠ 0 → ∃ b o, A = some ⟨b, o, none⟩ ∧ ∀ (j : Nat) (u : Value), c1[j]? = some u → w.cell? ((⟨b, o, none⟩ : Addr).add j) = some u) {b2 : Addr}
    (h2 : ∀ (j : Nat) (u : Value), c2[j]? = some u → w.cell? (b2.add j) = some u) (hlim : n + m ≤ maxLen) (hby : (n + m) * i.bytes ≤ 140737488355328) :
    (Builtin.append_ #[t, t] ty #[.slice A n n, .slice (some b2) m n2]).run P w =
      .ok (.slice (some ⟨w.heap.size, 0, none⟩) (n + m) (grownCap w (n + m) n e)) (w.drew.alloc (.cells ((c1 ++ c2).toArray ++ Builtin.zeroCells z.cells (grownCap w (n + m) n e - (n + m))) e)) := by
  have h63 : ((n + m : Nat) : Int) ≤ 9223372036854775807 := by simp only [maxLen] at hlim; omega
  have happ : (c1 ++ c2).toArray = c1.toArray ++ c2.toArray := by simp
  rw [happ]
  by_cases hn : n = 0
  · subst hn
    have hc1 : c1 = [] := List.eq_nil_of_length_eq_zero (by simpa using l1)
    subst hc1
    cases A with
    | none =>
      have := run_append_nil (P := P) w t ty e i z hu hi hz b2 m n2 c2 l2 h2 hm (by simpa using h63) (by simp only [Nat.zero_add] at hby; omega)
      simpa using this
    | some b =>
      have := run_append_grow (P := P) w t ty e i z hu hi hz b 0 0 [] (by simp) (by simp) b2 m n2 c2 l2 h2 (by omega) h63 (growslice_fits (by omega) hby)
      exact this
  · obtain ⟨b, o, rfl, h1⟩ := hA hn
    exact run_append_grow (P := P) w t ty e i z hu hi hz _ n n c1 l1 h1 b2 m n2 c2 l2 h2 (by omega) h63 (growslice_fits (by omega) hby)

theorem append_none_run {base : Nat} {t ty e : TypeId} {i : TypeInfo} {s : Nat} (ht : P.underlying t = some (.slice e)) (hi : P.info? e = some i) {v : Value} {n c : Nat} {xs : List Value} (hown : w.ownsRow base e s v n xs) :
    (Builtin.append_ #[t, t] ty #[v, .slice none 0 c]).run P w = .ok v w := by
  rcases hown.2 with ⟨rfl, rfl⟩ | ⟨g, cap, cur, rfl, _, _, hnc, _⟩
  · simp [Builtin.append_, run_underlying ht, sizeOf, typeInfo, hi, Builtin.lenOf, Builtin.firstCells]
  · simp [Builtin.append_, run_underlying ht, sizeOf, typeInfo, hi, Builtin.lenOf, Builtin.firstCells, hnc, storeCells]

theorem append_own_run {base : Nat} {t ty e : TypeId} {i : TypeInfo} {z : Value} (ht : P.underlying t = some (.slice e)) (hi : P.info? e = some i) (hz : i.zero = some z) (hzs : z.cells.size = i.size) (hsz : i.size ≠ 0)
    {v : Value} {n m n2 : Nat} {c1 c2 : List Value} (hown : w.ownsRow base e i.size v n c1) {A : Option Addr} (l2 : c2.length = m * i.size) (o2 : ∀ u ∈ c2, u.oneCell' = true)
    (h2 : m ≠ 0 → ∃ b o, A = some ⟨b, o, none⟩ ∧ ∀ (j : Nat) (u : Value), c2[j]? = some u → w.cell? ((⟨b, o, none⟩ : Addr).add j) = some u) (hlim : n + m ≤ maxLen) (hby : (n + m) * i.bytes ≤ 140737488355328) (hb : base ≤ w.heap.size) :
    ∃ v' w', (Builtin.append_ #[t, t] ty #[v, .slice A m n2]).run P w = .ok v' w' ∧ w'.ownsRow base e i.size v' (n + m) (c1 ++ c2) ∧ w.grownBy w' v.ownBlock ∧ (∀ b, v'.ownBlock = some b → v.ownBlock = some b ∨ w.heap.size ≤ b) := by
  cases A with
  | none =>
    have hm : m = 0 := by
      rcases Nat.eq_zero_or_pos m with h | h
      · exact h
      · obtain ⟨b, o, h3, _⟩ := h2 (by omega); cases h3
    subst hm
    have : c2 = [] := List.eq_nil_of_length_eq_zero (by simpa using l2)
    subst this
    exact ⟨v, w, append_none_run ht hi hown, by simpa using hown, ⟨rfl, rfl, rfl, Nat.le_refl _, fun _ _ _ => rfl⟩, fun b hb => .inl hb⟩
  | some ad =>
    have h3 : ∀ (j : Nat) (u : Value), c2[j]? = some u → w.cell? (ad.add j) = some u := by
      rcases Nat.eq_zero_or_pos m with h | h
      · subst h
        have : c2 = [] := List.eq_nil_of_length_eq_zero (by simpa using l2)
        subst this
        intro j u hu
        simp at hu
      · obtain ⟨b, o, h4, h5⟩ := h2 (by omega)
        cases h4
        exact h5
    obtain ⟨v', w', h4, h5, h6, _, h7⟩ := run_append_own_at (P := P) w base t ty e i z i.size i.bytes ht hi hz rfl rfl hzs (Nat.pos_of_ne_zero hsz) v n c1 hown ad m n2 c2 l2 h3 o2 hlim hby hb
    refine ⟨v', w', h4, h5, h6, fun b hb' => ?_⟩
    rcases h7 with h7 | h7
    · exact .inl (h7 ▸ hb')
    · rw [h7] at hb'
      cases hb'
      exact .inr (Nat.le_refl _)

theorem unnil_rel {s : Cl} {v : Value} (h : RelPV g w (.one s) v) : RelPV g w (.one (unnil s)) v := by
  cases s with
  | nil e t =>
    have : v = .slice none 0 0 := h.elim (fun e => by cases e) id
    subst this
    exact .inr ⟨⟨none, 0, rfl, Nat.le_refl _, fun i x h => by simp at h⟩, fun _ => ⟨none, rfl⟩⟩
  | _ => exact h

theorem ev_append {c : Call} (hE : EnvOk P E) (hc : c.callee = .builtin .append) (ho : o.op = .call c) (h : Rel w0 g σ a w) (hk : evOp E o σ K = some r) (hn : Then w0 g K r next) : o.wp P a w next Q := by
  simp only [evOp, ho, hc] at hk
  split at hk
  · rename_i s x t0 t hargs htys
    split at hk
    · rename_i htt
      subst htt
      split at hk
      · rename_i e ty ht
        have hs := opv_rel h E t s
        have hx := opv_rel h E t x
        have h1 : c.args = #[s, x] := by apply Array.ext'; simpa using hargs
        have h2 : c.argTypes = #[t, t] := by apply Array.ext'; simpa using htys
        obtain ⟨hu, hte, hsz⟩ := slice_und hE ht
        obtain ⟨i, z, hi, hisz, hz, hzc⟩ := (hE.ty e ty hte).info
        have hzs : z.cells.size = ty.size := by
          rw [hzc]; simp [zeroV_length]
        have run : ∀ v w', (Builtin.append_ #[t, t] o.type #[a.eval s, a.eval x]).run P w = .ok v w' → (execOp a.eval o).run P w = .ok (.value v) w' := fun v w' hv => by
          simp [execOp, ho, resolve, hc, h1, h2, invoke_builtin, builtin, hv]
        unfold appendV at hk
        split at hk
        · rename_i s' x' hs' hx'
          rw [hs'] at hs
          rw [hx'] at hx
          split at hk
          · rename_i ys hys
            have hry := asTy_some hys
            have hxc : RelCl g w x' (a.eval x) := hx.elim (fun e => by subst e; simp [rowIn, asRow] at hry) id
            obtain ⟨A2, n2, c2, hv2, hn2, ⟨l2, r2, o2⟩, ad2⟩ := h.rowCells hry hxc
            replace hs := unnil_rel hs
            generalize unnil s' = s'' at *
            unfold appendC at hk
            split at hk
            · -- a row whose room is full
              rename_i es ts xss
              split at hk
              · rename_i xs hxs
                have hrx := asTy_some hxs
                have hsc : RelCl g w (.sl es ts xss true) (a.eval s) := hs.sl
                obtain ⟨A1, n1, c1, hv1, hn1, ⟨l1, r1, o1⟩, ad1⟩ := h.rowCells hrx hsc
                split at hk
                · -- nothing to append
                  rename_i hy0
                  have hy : ys = [] := List.eq_nil_of_length_eq_zero hy0
                  refine sound_put h hk hn (v := a.eval s) (run _ _ ?_) hs
                  rw [hv1, hv2, hy]
                  have e0 : Builtin.firstCells i.size 0 (.slice A2 0 n2) = (match A2 with | some a => loadCells a (0 * i.size) | none => pure #[]) := by cases A2 <;> rfl
                  cases A1 <;> cases A2 <;> simp [Builtin.append_, run_underlying hu, sizeOf, typeInfo, hi, Builtin.lenOf, Builtin.firstCells, hn1, loadCells, loadCellsFrom, storeCells]
                · rename_i hy0
                  split at hk
                  · rename_i hlim
                    obtain ⟨hb, hm⟩ := lim_bytes hE hlim hi
                    obtain ⟨A1', hfull⟩ := hsc.2 rfl
                    have hrow : rowIn σ (.sl es ts xss true) = some (es, ⟨ts, xss⟩) := rfl
                    rw [hrow] at hrx
                    simp only [Option.some.injEq, Prod.mk.injEq, Sigma.mk.injEq] at hrx
                    obtain ⟨rfl, rfl, hxx⟩ := hrx
                    obtain rfl := eq_of_heq hxx
                    rw [hv1] at hfull
                    simp only [Value.slice.injEq, true_and] at hfull
                    obtain ⟨_, rfl⟩ := hfull
                    obtain ⟨b2, o2', hA2, had2⟩ := ad2 (fun e => hy0 (by rw [e]; rfl))
                    subst hA2
                    have hrun := append_full_run (P := P) (w := w) (ty := o.type) hu hi hz (A := A1) (n := xss.length) (m := ys.length) (n2 := n2) (c1 := c1) (c2 := c2) (by rw [hisz]; exact l1) (by rw [hisz]; exact l2) (Nat.pos_of_ne_zero hy0)
                      (fun hne => ad1 (fun e => hne (by rw [e]; rfl))) had2 hm (by exact hb)
                    have hcap := grownCap_le_maxLen w (xss.length + ys.length) xss.length es hm
                    have hge := grownCap_ge w (xss.length + ys.length) xss.length es
                    have hbel : Below w.heap.size w (w.drew.alloc (.cells ((c1 ++ c2).toArray ++ Builtin.zeroCells z.cells (grownCap w (xss.length + ys.length) xss.length es - (xss.length + ys.length))) es)) := ((Below.refl _ w).drew).alloc (Nat.le_refl _) _
                    obtain ⟨h4, hle⟩ := h.grow hbel g.Fr (fun _ h => h) (fun _ h => .inl h) (fun b hb' => Nat.lt_of_lt_of_le (h.lt b hb') hbel.size)
                    have hlen : (c1 ++ c2).length = (xss.length + ys.length) * ts.size := by rw [List.length_append, l1, l2, Nat.add_mul]
                    have hown := newRow_owns (base := g.base) (e := es) (w := w) hlen hzs hge hcap (by rw [h.base]; exact h.below.size)
                    obtain ⟨h5, h6⟩ := h4.newArr (A := { e := es, t := ts, xs := xss ++ ys, live := true }) (v := .slice (some ⟨w.heap.size, 0, none⟩) (xss.length + ys.length) (grownCap w (xss.length + ys.length) xss.length es)) (cells := c1 ++ c2) rfl rfl
                      (by simpa using hown) ((r1.append l1 r2).mono (fun _ h => h) hle.same) (fun b hb' => by
                        have : w.heap.size = b := by simpa [Value.ownBlock] using hb'
                        subst this
                        refine ⟨fun hf => absurd (h.lt _ hf) (Nat.lt_irrefl _), fun hm => absurd (h.boxLt hm) (Nat.lt_irrefl _), fun j B u s hB hBl hu' hub => ?_⟩
                        obtain ⟨u', e1, okB⟩ := h.ar j B hB
                        rw [show g.α[j]? = some (u, s) from hu'] at e1
                        cases e1
                        obtain ⟨_, ow, _⟩ := okB.own hBl
                        exact absurd (ow.lt _ hub).2 (Nat.lt_irrefl _))
                    exact wp_val (run _ _ (by rw [hv1, hv2]; exact hrun)) (hn _ _ _ _ (h5.put _ (RelPV.cl h6)) hk ⟨rfl, fun _ h => h⟩)
                  · cases hk
              · cases hk
            · -- an own row
              rename_i j
              split at hk
              · rename_i B hB
                split at hk
                · rename_i hl
                  split at hk
                  · rename_i xs hxs
                    have hrx := asTy_some hxs
                    split at hk
                    · rename_i hlim
                      obtain ⟨hb, hm⟩ := lim_bytes hE hlim hi
                      simp only [rowIn, asRow, hB, Option.some.injEq, Prod.mk.injEq, Sigma.mk.injEq] at hrx
                      obtain ⟨e1, e2, e3⟩ := hrx
                      cases B with
                      | mk Be Bt Bxs Bl =>
                        simp only at e1 e2 e3 hl
                        subst e1 e2 hl
                        obtain rfl := eq_of_heq e3
                        obtain ⟨s0, hα, _⟩ := hs.own
                        obtain ⟨v', e4, okB⟩ := h.ar j _ hB
                        rw [hα] at e4
                        cases e4
                        obtain ⟨c1, ow, r1, d1⟩ := okB.own rfl
                        obtain ⟨v', w', hrun, how', hgr, hblk⟩ := append_own_run (P := P) (w := w) (base := g.base) (ty := o.type) hu hi hz (by rw [hisz]; exact hzs) (by rw [hisz]; exact hsz) (n2 := n2) (A := A2) (m := ys.length) (by rw [hisz]; exact ow) (by rw [hisz]; exact l2) o2
                          (fun hne => ad2 (fun e => hne (by rw [e]; rfl))) hm hb (by rw [h.base]; exact h.below.size)
                        rw [hisz] at how'
                        have hs' : ∀ b, g.Fr b → w'.heap[b]? = w.heap[b]? := fun b hb => hgr.block b (h.lt b hb) fun e => (d1 b e.symm).1 hb
                        obtain ⟨h5, h6⟩ := h.swap (A' := { e := Be, t := Bt, xs := Bxs ++ ys, live := true }) (v' := v') (w' := w') (cells := c1 ++ c2) hB rfl hα hgr (ownsRow_one how') rfl (by simpa using how') ((r1.append ow.1 r2).mono (fun _ h => h) hs') hblk
                        exact wp_val (run _ _ (by rw [hv2]; exact hrun)) (hn _ _ _ _ (h5.put _ (RelPV.cl h6)) hk ⟨rfl, fun _ h => h⟩)
                    · cases hk
                  · cases hk
                · cases hk
              · cases hk
            · cases hk
          · cases hk
        · cases hk
      · cases hk
    · cases hk
  · cases hk

end Go.V

/- Records and rows made; rows cut; calls. -/
namespace Go.V
open Go.RowKit

variable {P : Program} {E : Env} {w0 : Org} {g : Gh} {σ : St} {a : Act} {w : World} {o : Oper} {R : Type} {K : St → Option R} {r : R} {next : Act → World → Prop} {Q : Exit → Act → World → Prop}

theorem fold_set : ∀ (us : List Value) (k off : Nat) (l : List Value), off + k + us.length ≤ l.length →
    (us.zipIdx k).foldl (fun (cs : Array Value) (x : Value × Nat) => cs.setIfInBounds (off + x.2) x.1) l.toArray = (l.take (off + k) ++ us ++ l.drop (off + k + us.length)).toArray
  | [], k, off, l, _ => by simp
  | u :: us, k, off, l, h => by
    simp only [List.zipIdx_cons, List.foldl_cons, List.setIfInBounds_toArray]
    rw [fold_set us (k + 1) off _ (by simp at h ⊢; omega)]
    congr 1
    apply List.ext_getElem?
    intro j
    simp only [List.length_cons] at h
    rw [spliced_get (by simp; omega), spliced_get (by simp; omega)]
    by_cases h1 : j < off + k
    · rw [if_pos (by omega), if_pos h1, List.getElem?_set_ne (by omega)]
    · rw [if_neg h1]
      by_cases h2 : j = off + k
      · subst h2
        rw [if_pos (by omega), List.getElem?_set_self (by omega), if_pos (by simp)]
        simp
      · rw [if_neg (by omega)]
        by_cases h3 : j < off + k + (u :: us).length
        · rw [if_pos (by simp at h3; omega), if_pos h3, show j - (off + k) = (j - (off + (k + 1))) + 1 by omega, List.getElem?_cons_succ]
        · rw [if_neg (by simp at h3; omega), if_neg h3, List.getElem?_set_ne (by omega)]

theorem fill_one {v : Value} {cells : List Value} {off : Nat} (h : off + v.cells.size ≤ cells.length) :
    v.cells.zipIdx.foldl (fun cs x => cs.setIfInBounds (off + x.2) x.1) cells.toArray = (cells.take off ++ v.cells.toList ++ cells.drop (off + v.cells.toList.length)).toArray := by
  have := fold_set v.cells.toList 0 off cells (by simpa using h)
  simp only [Nat.add_zero] at this
  rw [← this]
  rw [← Array.foldl_toList, Array.toList_zipIdx]

theorem fill_rel {places : Nat → Option (Nat × Ty)} {cplaces : Nat → Option (Nat × Nat)} (hp : ∀ i o t, places i = some (o, t) → cplaces i = some (o, t.size) ) (lim : Nat) (hl : ∀ i o t, places i = some (o, t) → o + t.size ≤ lim) :
    ∀ (parts : List (Nat × PV)) (vals : List (Nat × Value)) (cs cs' : List Cl) (vs : List Value), cs.length = lim → overlay places cs parts = some cs' → RelCls g w cs vs → vals.length = parts.length →
      (∀ (k : Nat) i p j v, parts[k]? = some (i, p) → vals[k]? = some (j, v) → i = j ∧ RelPV g w p v) → ∃ vs', Instr.fill cplaces vs.toArray vals = some vs'.toArray ∧ RelCls g w cs' vs' ∧ cs'.length = lim
  | [], vals, cs, cs', vs, hn, h, hr, hlen, _ => by
    have : vals = [] := List.eq_nil_of_length_eq_zero (by simpa using hlen)
    subst this
    simp only [overlay, Option.some.injEq] at h
    subst h
    exact ⟨vs, rfl, hr, hn⟩
  | (i, p) :: parts, vals, cs, cs', vs, hn, h, hr, hlen, hrel => by
    cases vals with
    | nil => simp at hlen
    | cons jv vals =>
      obtain ⟨j, v⟩ := jv
      obtain ⟨rfl, hpv⟩ := hrel 0 i p j v rfl rfl
      simp only [overlay] at h
      split at h
      · rename_i o t hpl
        split at h
        · rename_i hok
          have hc := hpv.cells hok.1
          have hcl := hc.length
          have hsz : v.cells.size = t.size := by rw [← hok.2, ← hcl]; simp
          have hrl := hr.length
          have hot := hl i o t hpl
          have hnew := RelCls.setRange (o := o) hr hc
          obtain ⟨vs', h1, h2, h3⟩ := fill_rel hp lim hl parts vals _ cs' _ (by rw [setRange_length (by omega)]; exact hn) h hnew (by simpa using hlen) (fun k i' p' j' v' h1 h2 => hrel (k + 1) i' p' j' v' (by simpa using h1) (by simpa using h2))
          refine ⟨vs', ?_, h2, h3⟩
          unfold Instr.fill
          rw [hp i o t hpl]
          simp only []
          rw [if_neg (by simp [hsz]; omega)]
          rw [fill_one (by omega)]
          exact h1
        · cases h
      · cases h

theorem fld_le : (t : Ty) → (f o : Nat) → (t' : Ty) → t.fld f = some (o, t') → o + t'.size ≤ t.size
  | .pair a b, 0, o, t', h => by
    simp only [Ty.fld, Option.some.injEq, Prod.mk.injEq] at h
    obtain ⟨rfl, rfl⟩ := h
    simp only [Ty.size]
    omega
  | .pair a b, f + 1, o, t', h => by
    simp only [Ty.fld] at h
    split at h
    · rename_i o' t2 h2
      simp only [Option.some.injEq, Prod.mk.injEq] at h
      obtain ⟨rfl, rfl⟩ := h
      have := fld_le b f o' t2 h2
      simp only [Ty.size]
      omega
    · cases h
  | .int _, _, _, _, h => by simp [Ty.fld] at h
  | .bool, _, _, _, h => by simp [Ty.fld] at h
  | .str, _, _, _, h => by simp [Ty.fld] at h
  | .sl _ _, _, _, _, h => by simp [Ty.fld] at h
  | .unit, _, _, _, h => by simp [Ty.fld] at h

theorem parts_rel (h : Rel w0 g σ a w) (E : Env) (t : TypeId) (l : List (Nat × Operand)) : ∀ (k : Nat) i p j v, (l.map fun (i, x) => (i, opv E σ t x))[k]? = some (i, p) → (l.map fun (i, x) => (i, a.eval x))[k]? = some (j, v) → i = j ∧ RelPV g w p v := by
  intro k i p j v h1 h2
  rw [List.getElem?_map] at h1 h2
  cases hx : l[k]? with
  | none => rw [hx] at h1; cases h1
  | some x =>
    rw [hx] at h1 h2
    simp only [Option.map_some, Option.some.injEq, Prod.mk.injEq] at h1 h2
    obtain ⟨rfl, rfl⟩ := h1
    obtain ⟨rfl, rfl⟩ := h2
    exact ⟨rfl, opv_rel h E t x.2⟩

theorem ev_build {t : TypeId} {parts : Array (Nat × Operand)} (hE : EnvOk P E) (ho : o.op = .build t parts) (h : Rel w0 g σ a w) (hk : evOp E o σ K = some r) (hn : Then w0 g K r next) : o.wp P a w next Q := by
  simp only [evOp, ho] at hk
  split at hk
  · rename_i ty ht
    split at hk
    · rename_i hag
      split at hk
      · rename_i cs hov
        obtain ⟨i, z, hi, hisz, hz, hzc⟩ := (hE.ty t ty ht).info
        obtain ⟨fs, places, hu, hpl, hpf⟩ := (hE.ty t ty ht).plc hag
        have hzl : (zeros ty).length = ty.size := by rw [← (zeros_rel g w ty).length, zeroV_length]
        obtain ⟨vs', h1, h2, _⟩ := fill_rel (g := g) (w := w) (places := ty.fld) (cplaces := fun i => places.toArray[i]?) (fun i o t' hf => by simpa using hpf i o t' hf) ty.size (fun i o t' hf => fld_le ty i o t' hf)
          (parts.toList.map fun (i, x) => (i, opv E σ o.type x)) (parts.toList.map fun (i, x) => (i, a.eval x)) (zeros ty) cs (zeroV ty) hzl hov (zeros_rel g w ty) (by simp) (parts_rel h E o.type parts.toList)
        have hb : P.built t (parts.map fun (i, x) => (i, a.eval x)).toList = some vs'.toArray := by
          unfold Program.built
          simp only [hi, hu, hz, hpl, hzc]
          rw [Array.toList_map]
          exact h1
        exact sound_put h hk hn (v := .agg vs'.toArray) (by simp only [execOp, ho, Sem.run_bind, run_build w t _ _ hb, Result.andThen_ok, Sem.run_pure]) ⟨vs', rfl, h2⟩
      · cases hk
    · cases hk
  · cases hk

theorem bnd_rel (h : Rel w0 g σ a w) {ty : TypeId} {d n : Int} {y : Option Operand} (hb : bnd E σ ty d y = some n) : (y = none ∧ n = d) ∨ ∃ y' k, y = some y' ∧ a.eval y' = .int k n := by
  cases y with
  | none => simp only [bnd, Option.some.injEq] at hb; exact .inl ⟨rfl, hb.symm⟩
  | some y =>
    simp only [bnd] at hb
    have hy := opv_rel h E ty y
    split at hb
    · rename_i k m hm
      rw [hm] at hy
      cases hb
      exact .inr ⟨y, k, rfl, hy.int⟩
    · cases hb

theorem sliceBound_run {k : IntKind} {i : Int} {y : Nat} {code : BoundsCode} (h0 : 0 ≤ i) (h1 : i ≤ (y : Int)) : (Instr.sliceBound (.int k i) y code).run P w = .ok i.toNat w := by
  simp [Instr.sliceBound, asIntOf, h0, h1]

theorem sliceBounds_run {b : Bool} {n c : Nat} {lo hi : Option Value} {l h : Int} (hlo : (lo = none ∧ l = 0) ∨ ∃ k, lo = some (.int k l)) (hhi : (hi = none ∧ h = (n : Int)) ∨ ∃ k, hi = some (.int k h)) (h0 : 0 ≤ l) (h1 : l ≤ h) (h2 : h ≤ (n : Int)) (hc : n ≤ c) :
    (Instr.sliceBounds b n c lo hi none).run P w = .ok (l.toNat, h.toNat, c) w := by
  unfold Instr.sliceBounds
  rcases hhi with ⟨rfl, rfl⟩ | ⟨k, rfl⟩
  · rcases hlo with ⟨rfl, rfl⟩ | ⟨k, rfl⟩
    · simp
    · simp [sliceBound_run (P := P) (w := w) (k := k) (code := .sliceB) h0 (show l ≤ (n : Int) by omega)]
  · have hh := fun code => sliceBound_run (P := P) (w := w) (k := k) (code := code) (y := c) (show 0 ≤ h by omega) (show h ≤ (c : Int) by omega)
    rcases hlo with ⟨rfl, rfl⟩ | ⟨k', rfl⟩
    · cases b <;> simp [hh]
    · have hl := fun code => sliceBound_run (P := P) (w := w) (k := k') (code := code) (y := h.toNat) h0 (show l ≤ ((h.toNat : Nat) : Int) by omega)
      cases b <;> simp [hh, hl]

theorem sliceBounds_run3 {n c : Nat} {lo : Option Value} {l h : Int} {k1 k2 : IntKind} (hlo : (lo = none ∧ l = 0) ∨ ∃ k, lo = some (.int k l)) (h0 : 0 ≤ l) (h1 : l ≤ h) (h2 : h ≤ (n : Int)) (hc : n ≤ c) :
    (Instr.sliceBounds true n c lo (some (.int k1 h)) (some (.int k2 h))).run P w = .ok (l.toNat, h.toNat, h.toNat) w := by
  unfold Instr.sliceBounds
  have hm := fun code => sliceBound_run (P := P) (w := w) (k := k2) (code := code) (y := c) (show 0 ≤ h by omega) (show h ≤ (c : Int) by omega)
  have hh := fun code => sliceBound_run (P := P) (w := w) (k := k1) (code := code) (y := h.toNat) (show 0 ≤ h by omega) (show h ≤ ((h.toNat : Nat) : Int) by omega)
  rcases hlo with ⟨rfl, rfl⟩ | ⟨k', rfl⟩
  · simp [hm, hh]
  · have hl := fun code => sliceBound_run (P := P) (w := w) (k := k') (code := code) (y := h.toNat) h0 (show l ≤ ((h.toNat : Nat) : Int) by omega)
    simp [hm, hh, hl]

theorem RepV.cut {Fr : Nat → Prop} {e : TypeId} {t : Ty} {xs : List t.den} {A : Option Addr} {n c l h m : Nat} (hr : RepV Fr w (.sl e t) xs [.slice A n c]) (hlh : l ≤ h) (hh : h ≤ xs.length) (hm : h ≤ m) :
    RepV Fr w (.sl e t) ((xs.take h).drop l) [.slice (if m = l then A else A.map (·.add (l * t.size))) (h - l) (m - l)] := by
  obtain ⟨A', c', h1, h2, h3⟩ := hr
  simp only [List.cons.injEq, Value.slice.injEq, and_true] at h1
  obtain ⟨rfl, rfl, rfl⟩ := h1
  have hlen : ((xs.take h).drop l).length = h - l := by simp [List.length_drop, List.length_take]; omega
  refine ⟨_, _, by rw [hlen], by rw [hlen]; omega, fun i x hi => ?_⟩
  rw [List.getElem?_drop, List.getElem?_take] at hi
  split at hi
  · rename_i hlt
    obtain ⟨b, off, ds, rfl, h5, h6, h7⟩ := h3 (l + i) x hi
    refine ⟨b, off + l * t.size, ds, ?_, h5, h6, fun k u hu => ?_⟩
    · rw [if_neg (by omega)]
      simp [addr_add]
    · have := h7 k u hu
      rw [Nat.add_mul] at this
      rwa [show off + l * t.size + i * t.size + k = off + (l * t.size + i * t.size) + k by omega]
  · cases hi

theorem ev_slice {t : TypeId} {x : Operand} {lo hi mx : Option Operand} (hE : EnvOk P E) (ho : o.op = .slice t x lo hi mx) (h : Rel w0 g σ a w) (hk : evOp E o σ K = some r) (hn : Then w0 g K r next) : o.wp P a w next Q := by
  simp only [evOp, ho] at hk
  have hx := opv_rel h E o.type x
  split at hk
  · rename_i s ht hv
    rw [hv] at hx
    obtain ⟨d, hu, _, _, hd, _⟩ := (hE.ty t _ ht).und
    obtain rfl := hd rfl
    split at hk
    · rename_i l hh hl hhh
      split at hk
      · rename_i h0
        split at hk
        · rename_i h1
          split at hk
          · rename_i h2
            have b1 : (lo.map a.eval = none ∧ l = 0) ∨ ∃ k, lo.map a.eval = some (.int k l) := by
              rcases bnd_rel h hl with ⟨rfl, e⟩ | ⟨y, k, rfl, e⟩
              · exact .inl ⟨rfl, e⟩
              · exact .inr ⟨k, by simp [e]⟩
            have b2 : (hi.map a.eval = none ∧ hh = (s.size : Int)) ∨ ∃ k, hi.map a.eval = some (.int k hh) := by
              rcases bnd_rel h hhh with ⟨rfl, e⟩ | ⟨y, k, rfl, e⟩
              · exact .inl ⟨rfl, e⟩
              · exact .inr ⟨k, by simp [e]⟩
            have hb := sliceBounds_run (P := P) (w := w) (b := false) b1 b2 h0 h1 h2 (Nat.le_refl _)
            refine sound_put h hk hn (v := .string (s.extract l.toNat hh.toNat)) ?_ (.inr rfl)
            simp [execOp, ho, hx.str, Instr.sliceAt, run_underlying hu, Instr.slice, hb]
          · cases hk
        · cases hk
      · cases hk
    · cases hk
  · rename_i e ty c ht hv
    rw [hv] at hx
    obtain ⟨hu, hte, hsz⟩ := slice_und hE ht
    split at hk
    · rename_i xs hxs
      have hrx := asTy_some hxs
      have hcl : RelCl g w c (a.eval x) := hx.elim (fun e => by subst e; simp [rowIn, asRow] at hrx) id
      obtain ⟨A, n, hval, hcap⟩ := h.rowVal hrx hcl
      obtain ⟨F1, f1, hle, h1, d1, _⟩ := h.freeze c
      obtain ⟨ff, hrow⟩ := asRow_sl hrx
      have hrep := d1 _ hcl
      rw [hrow, hval] at hrep
      obtain ⟨hrep, _⟩ := hrep
      split at hk
      · rename_i l hh hl hhh
        split at hk
        · rename_i h0
          split at hk
          · rename_i h1'
            split at hk
            · rename_i h2
              have b1 : (lo.map a.eval = none ∧ l = 0) ∨ ∃ k, lo.map a.eval = some (.int k l) := by
                rcases bnd_rel h hl with ⟨rfl, e⟩ | ⟨y, k, rfl, e⟩
                · exact .inl ⟨rfl, e⟩
                · exact .inr ⟨k, by simp [e]⟩
              have b2 : (hi.map a.eval = none ∧ hh = (xs.length : Int)) ∨ ∃ k, hi.map a.eval = some (.int k hh) := by
                rcases bnd_rel h hhh with ⟨rfl, e⟩ | ⟨y, k, rfl, e⟩
                · exact .inl ⟨rfl, e⟩
                · exact .inr ⟨k, by simp [e]⟩
              split at hk
              · have hb := sliceBounds_run (P := P) (w := w) (b := true) b1 b2 h0 h1' h2 hcap
                have hcut := hrep.cut (l := l.toNat) (h := hh.toNat) (m := n) (by omega) (by omega) (by omega)
                refine wp_val ?_ (hn _ _ _ _ (h1.put _ (RelPV.cl (c := .sl e ty ((xs.take hh.toNat).drop l.toNat) false) ⟨hcut, fun h => by cases h⟩)) hk ⟨rfl, fun _ h => h⟩)
                simp [execOp, ho, hval, Instr.sliceAt, run_underlying hu, Instr.slice, hb, sizeOf_run hE hte]
              · rename_i m
                split at hk
                · rename_i hi' m' hmm
                  split at hk
                  · rename_i hmh
                    subst hmh
                    obtain ⟨k2, hm2⟩ : ∃ k, a.eval m = .int k m' := by
                      rcases bnd_rel h hmm with ⟨hno, _⟩ | ⟨y, k, e1, e⟩
                      · cases hno
                      · cases e1; exact ⟨k, e⟩
                    obtain ⟨k1, hk1⟩ : ∃ k, a.eval hi' = .int k m' := by
                      rcases b2 with ⟨hno, _⟩ | ⟨k, e⟩
                      · simp at hno
                      · exact ⟨k, by simpa using e⟩
                    have hb := sliceBounds_run3 (P := P) (w := w) (k1 := k1) (k2 := k2) b1 h0 h1' h2 hcap
                    have hcut := hrep.cut (l := l.toNat) (h := m'.toNat) (m := m'.toNat) (by omega) (by omega) (by omega)
                    refine wp_val ?_ (hn _ _ _ _ (h1.put _ (RelPV.cl (c := .sl e ty ((xs.take m'.toNat).drop l.toNat) true) ⟨hcut, fun _ => ?_⟩)) hk ⟨rfl, fun _ h => h⟩)
                    · simp [execOp, ho, hval, Instr.sliceAt, run_underlying hu, Instr.slice, hm2, hk1, hb, sizeOf_run hE hte]
                    · have hlen : ((xs.take m'.toNat).drop l.toNat).length = m'.toNat - l.toNat := by simp [List.length_drop, List.length_take]; omega
                      exact ⟨_, by rw [hlen]⟩
                  · cases hk
                · cases hk
            · cases hk
          · cases hk
        · cases hk
      · cases hk
    · cases hk
  · cases hk

end Go.V

/- Rows made; calls. -/
namespace Go.V
open Go.RowKit

variable {P : Program} {E : Env} {w0 : Org} {g : Gh} {σ : St} {a : Act} {w : World} {o : Oper} {R : Type} {K : St → Option R} {r : R} {next : Act → World → Prop} {Q : Exit → Act → World → Prop}

theorem zero_rep (Fr : Nat → Prop) (w : World) : (t : Ty) → t.plain = true → RepV Fr w t t.zero (zeroV t)
  | .int _, _ => rfl
  | .bool, _ => rfl
  | .str, _ => rfl
  | .sl _ t, _ => ⟨none, 0, rfl, Nat.le_refl _, fun i x h => by simp [Ty.zero] at h⟩
  | .unit, _ => rfl
  | .ref _, h => by cases h
  | .clo _ _, h => by cases h
  | .pair a b, h => by
    simp only [Ty.plain, Bool.and_eq_true] at h
    exact ⟨zeroV a, zeroV b, rfl, zero_rep Fr w a h.1, zero_rep Fr w b h.2⟩

theorem made_rep {Fr : Nat → Prop} {t : Ty} {z : Value} (hp : t.plain = true) (hz : z.cells = (zeroV t).toArray) (n : Nat) : RepRow Fr w t (List.replicate n t.zero) (madeCells z.cells (n * t.size)).toList := by
  intro i x hi
  rw [List.getElem?_replicate] at hi
  split at hi
  · rename_i hin
    cases hi
    refine ⟨zeroV t, zero_rep Fr w t hp, fun m v hm => ?_⟩
    have hlt : m < (zeroV t).length := (List.getElem?_eq_some_iff.1 hm).1
    have hlt' : m < t.size := by rwa [zeroV_length] at hlt
    have hb : i * t.size + m < n * t.size := by
      have := Nat.mul_le_mul_right t.size (show i + 1 ≤ n from hin)
      rw [Nat.add_mul] at this
      omega
    have hmod : (i * t.size + m) % t.size = m := by rw [Nat.mul_comm, Nat.mul_add_mod, Nat.mod_eq_of_lt hlt']
    have hzs : z.cells.size = t.size := by rw [hz]; simp [zeroV_length]
    simp only [madeCells, Array.toList_map, Array.toList_range, List.getElem?_map, List.getElem?_range hb, Option.map_some, hzs, hmod]
    rw [hz]
    simp [hlt] at hm ⊢
    exact hm
  · cases hi

theorem ev_makeSlice {t : TypeId} {l c : Operand} (hE : EnvOk P E) (ho : o.op = .makeSlice t l c) (h : Rel w0 g σ a w) (hk : evOp E o σ K = some r) (hn : Then w0 g K r next) : o.wp P a w next Q := by
  simp only [evOp, ho] at hk
  have hl := opv_rel h E o.type l
  have hc := opv_rel h E o.type c
  split at hk
  · rename_i e ty k1 n k2 m ht hvl hvc
    rw [hvl] at hl
    rw [hvc] at hc
    obtain ⟨hu, hte, hsz⟩ := slice_und hE ht
    obtain ⟨i, z, hi, hisz, hz, hzc⟩ := (hE.ty e ty hte).info
    split at hk
    · rename_i hnm
      subst hnm
      split at hk
      · rename_i h0
        split at hk
        · rename_i hlim
          obtain ⟨hb, hm⟩ := lim_bytes hE hlim hi
          obtain ⟨w', hrun, hown, hgr⟩ := run_make_full (P := P) w g.base t e i z ty.size hu hi hz hisz k1 k2 n.toNat (by rw [Nat.mul_comm]; omega) hm (by rw [h.base]; exact h.below.size)
          rw [show ((n.toNat : Nat) : Int) = n by omega] at hrun
          have hbel : Below w.heap.size w w' := ⟨hgr.os, hgr.tape, hgr.output, hgr.size, fun k hk => hgr.block k hk (by simp)⟩
          obtain ⟨h4, hle⟩ := h.grow hbel g.Fr (fun _ h => h) (fun _ h => .inl h) (fun b hb' => Nat.lt_of_lt_of_le (h.lt b hb') hbel.size)
          obtain ⟨h5, h6⟩ := h4.newArr (A := { e, t := ty, xs := List.replicate n.toNat ty.zero, live := true }) (v := .slice (some ⟨w.heap.size, 0, none⟩) n.toNat n.toNat) (cells := (madeCells z.cells (n.toNat * ty.size)).toList) rfl rfl
            (by simpa using hown) (made_rep (slice_plain hE ht) hzc _) (fun b hb' => by
              have : w.heap.size = b := by simpa [Value.ownBlock] using hb'
              subst this
              refine ⟨fun hf => absurd (h.lt _ hf) (Nat.lt_irrefl _), fun hm => absurd (h.boxLt hm) (Nat.lt_irrefl _), fun j B u s hB hBl hu' hub => ?_⟩
              obtain ⟨u', e1, okB⟩ := h.ar j B hB
              rw [show g.α[j]? = some (u, s) from hu'] at e1
              cases e1
              obtain ⟨_, ow, _⟩ := okB.own hBl
              exact absurd (ow.lt _ hub).2 (Nat.lt_irrefl _))
          exact wp_val (by simp only [execOp, ho, hl.int, hc.int, Sem.run_bind, hrun, Result.andThen_ok, Sem.run_pure]) (hn _ _ _ _ (h5.put _ (RelPV.cl h6)) hk ⟨rfl, fun _ h => h⟩)
        · cases hk
      · cases hk
    · cases hk
  · cases hk

theorem fill_seq {s : Nat} : ∀ (vals : List Value) (k : Nat) (done rest : List Value), done.length = k * s → rest.length = vals.length * s → (∀ v ∈ vals, v.cells.size = s) →
    Instr.fill (fun i => some (i * s, s)) (done ++ rest).toArray ((List.range' k vals.length).zip vals) = some (done ++ (vals.map (·.cells.toList)).flatten).toArray
  | [], k, done, rest, _, hr, _ => by
    have : rest = [] := List.eq_nil_of_length_eq_zero (by simpa using hr)
    subst this
    simp [Instr.fill]
  | v :: vals, k, done, rest, hd, hr, hv => by
    have hvs : v.cells.size = s := hv v (by simp)
    have hvl : v.cells.toList.length = s := by simpa using hvs
    simp only [List.length_cons, List.range'_succ, List.zip_cons_cons, Instr.fill]
    have hrl : s ≤ rest.length := by rw [hr, List.length_cons, Nat.add_mul]; omega
    rw [if_neg (by simp [hvs, hd]; omega), fill_one (by simp [hvs, hd]; omega)]
    have h1 : (done ++ rest).take (k * s) = done := by rw [← hd]; exact List.take_left
    have h2 : (done ++ rest).drop (k * s + v.cells.toList.length) = rest.drop s := by rw [← hd, hvl, List.drop_append]; simp
    rw [h1, h2]
    have := fill_seq vals (k + 1) (done ++ v.cells.toList) (rest.drop s) (by rw [List.length_append, hd, hvl, Nat.add_mul]; omega) (by rw [List.length_drop, hr, List.length_cons, Nat.add_mul]; omega) (fun u hu => hv u (by simp [hu]))
    rw [this]
    simp

theorem unflats_rep {ty : Ty} : ∀ (css : List (List Cl)) (vss : List (List Value)) (xs : List ty.den), unflats ty css = some xs → RelCls g w css.flatten vss.flatten → css.map List.length = vss.map List.length →
    RepRow g.Fr w ty xs vss.flatten ∧ xs.length = css.length ∧ ∀ c ∈ css, c.length = ty.size
  | [], vss, xs, h, _, hl => by
    simp only [unflats, Option.some.injEq] at h
    subst h
    exact ⟨fun i x hi => by simp at hi, rfl, by simp⟩
  | c :: css, [], xs, h, _, hl => by simp at hl
  | c :: css, vs :: vss, xs, h, hr, hl => by
    simp only [unflats] at h
    generalize hu : unflat ty c = z at h
    rcases z with _ | ⟨x, _ | ⟨_, _⟩⟩
    · cases h
    · simp only [] at h
      split at h
      · rename_i ys hys
        cases h
        simp only [List.flatten_cons] at hr
        obtain ⟨us, us', e1, r1, r2⟩ := RelCls.split hr
        simp only [List.map_cons, List.cons.injEq] at hl
        have l1 := r1.length
        obtain ⟨rfl, rfl⟩ := List.append_inj e1 (by omega)
        obtain ⟨i1, i2, i3⟩ := unflats_rep css vss ys hys r2 hl.2
        have hrep := unflat_all hu r1
        have hlen := RepV.length _ _ _ hrep
        refine ⟨?_, by simp [i2], fun c' hc' => ?_⟩
        · simp only [List.flatten_cons]
          have hone : RepRow g.Fr w ty [x] vs := fun i y hi => by
            cases i with
            | zero => simp at hi; subst hi; exact ⟨vs, hrep, fun m v hm => by simpa using hm⟩
            | succ i => simp at hi
          exact hone.append (by simpa using hlen) i1
        · rcases List.mem_cons.1 hc' with h' | h'
          · rw [h']; omega
          · exact i3 c' h'
      · cases h
    · cases h

theorem cells_map (h : Rel w0 g σ a w) (E : Env) (e : TypeId) : ∀ (l : List (Nat × Operand)), (l.all fun x => (opv E σ e x.2).ok) = true →
    RelCls g w (l.map fun x => (opv E σ e x.2).cells).flatten (l.map fun x => (a.eval x.2).cells.toList).flatten ∧ (l.map fun x => (opv E σ e x.2).cells).map List.length = (l.map fun x => (a.eval x.2).cells.toList).map List.length
  | [], _ => ⟨rfl, rfl⟩
  | x :: l, hall => by
    simp only [List.all_cons, Bool.and_eq_true] at hall
    obtain ⟨i1, i2⟩ := cells_map h E e l hall.2
    have hx := (opv_rel h E e x.2).cells hall.1
    simp only [List.map_cons, List.flatten_cons]
    exact ⟨hx.append i1, by rw [i2, hx.length]⟩

theorem ev_buildSlice {t : TypeId} {n : Nat} {parts : Array (Nat × Operand)} (hE : EnvOk P E) (ho : o.op = .buildSlice t n parts) (h : Rel w0 g σ a w) (hk : evOp E o σ K = some r) (hn : Then w0 g K r next) : o.wp P a w next Q := by
  simp only [evOp, ho] at hk
  split at hk
  · rename_i e ty ht
    obtain ⟨hu, hte, hsz⟩ := slice_und hE ht
    obtain ⟨i, z, hi, hisz, hz, hzc⟩ := (hE.ty e ty hte).info
    split at hk
    · rename_i hcond
      obtain ⟨hidx, hsmall, hall⟩ := hcond
      split at hk
      · rename_i xs hxs
        obtain ⟨r1, l1⟩ := cells_map h E e parts.toList hall
        obtain ⟨F1, f1, hle, h1, d1, _⟩ := h.settle (parts.toList.map fun x => (opv E σ e x.2).cells).flatten
        have r2 := d1 _ r1
        have hmf : ((parts.toList.map fun x => (opv E σ e x.2).cells).flatten).map (asRow σ) = (parts.toList.map fun x => (opv E σ e x.2).cells.map (asRow σ)).flatten := by
          rw [List.map_flatten, List.map_map]; rfl
        rw [hmf] at r2
        obtain ⟨rr, rl, rc⟩ := unflats_rep (g := { g with Fr := F1 }) (w := w) _ (parts.toList.map fun x => (a.eval x.2).cells.toList) xs hxs r2 (by rw [← l1]; simp [Function.comp_def])
        have hn' : parts.toList.length = n := by have := congrArg List.length hidx; simpa using this
        have hxl : xs.length = n := by rw [rl]; simpa using hn'
        have hvals : ∀ v ∈ parts.toList.map (fun x => a.eval x.2), v.cells.size = ty.size := by
          intro v hv
          obtain ⟨x, hx, rfl⟩ := List.mem_map.1 hv
          have hok := List.all_eq_true.1 hall x hx
          have hx' := ((opv_rel h E e x.2).cells hok).length
          have := rc _ (List.mem_map.2 ⟨x, hx, rfl⟩)
          simp only [List.length_map] at this
          rw [← this, ← hx']
          simp
        have hzip : (parts.map fun (i, x) => (i, a.eval x)).toList = (List.range' 0 (parts.toList.map fun x => a.eval x.2).length).zip (parts.toList.map fun x => a.eval x.2) := by
          rw [Array.toList_map, List.length_map, hn', ← List.range_eq_range', ← hidx]
          rw [List.zip_map', ]
        let cells := ((parts.toList.map fun x => a.eval x.2).map (·.cells.toList)).flatten
        have hcells : cells = (parts.toList.map fun x => (a.eval x.2).cells.toList).flatten := by simp [cells, List.map_map, Function.comp_def]
        have hrun : (Instr.buildSlice t n (parts.map fun (i, x) => (i, a.eval x))).run P w = .ok (.slice (some ⟨w.heap.size, 0, none⟩) n n) (w.alloc (.cells cells.toArray e)) := by
          have key : ∀ zero : Array Value, Instr.fill (fun i => some (i * ty.size, ty.size)) ((Array.range (n * ty.size)).map (zero[· % zero.size]!)) (parts.map fun (i, x) => (i, a.eval x)).toList = some cells.toArray := by
            intro zero
            have := fill_seq (s := ty.size) (parts.toList.map fun x => a.eval x.2) 0 [] ((Array.range (n * ty.size)).map (zero[· % zero.size]!)).toList (by simp) (by rw [List.length_map, hn']; simp) hvals
            rw [← hzip, List.nil_append, Array.toArray_toList, List.nil_append] at this
            exact this
          unfold Instr.buildSlice
          simp only [Sem.run_bind, run_underlying hu, Result.andThen_ok, sizeOf_run hE hte]
          rw [if_neg (by omega)]
          by_cases h0 : n * ty.size = 0
          · simp only [h0, if_true, Sem.run_bind, Sem.run_pure, Result.andThen_ok]
            have := key #[]
            rw [h0] at this
            rw [this]
            simp [newRow]
          · simp only [h0, if_false, Sem.run_bind, zeroValue, typeInfo, run_program, hi, hz, Sem.run_pure, Result.andThen_ok]
            rw [key z.cells]
            simp [newRow]
        have hbel : Below w.heap.size w (w.alloc (.cells cells.toArray e)) := (Below.refl _ w).alloc (Nat.le_refl _) _
        obtain ⟨h4, hle4⟩ := h1.grow hbel (fun b => F1 b ∨ b = w.heap.size) (fun _ h => .inl h) (fun b hb => hb.elim .inl fun e => .inr (by omega)) (fun b hb => hb.elim (fun hf => Nat.lt_of_lt_of_le (h1.lt b hf) hbel.size) fun e => by simp [e])
        refine wp_val (v := .slice (some ⟨w.heap.size, 0, none⟩) n n) (by simp only [execOp, ho, Sem.run_bind, hrun, Result.andThen_ok, Sem.run_pure]) (hn _ _ _ _ (h4.put _ (RelPV.cl (c := .sl e ty xs true) ⟨⟨some ⟨w.heap.size, 0, none⟩, n, by rw [hxl], by rw [hxl]; exact Nat.le_refl _, fun k x hx => ?_⟩, fun _ => ⟨_, by rw [hxl]⟩⟩)) hk ⟨rfl, fun _ h => h⟩)
        obtain ⟨ds, q1, q2⟩ := rr k x hx
        refine ⟨w.heap.size, 0, ds, rfl, .inr rfl, RepV.mono hle4.Fr hle4.same _ _ _ q1, fun m u hu => ?_⟩
        rw [cell_of_row _ _ _ _ _ _ (heap_alloc_new w _)]
        have := q2 m u hu
        rw [← hcells] at this
        simpa using this
      · cases hk
    · cases hk
  · cases hk

end Go.V

/- Calls of functions that are known; one operation, whichever it is. -/
namespace Go.V
open Go.RowKit

variable {P : Program} {E : Env} {w0 : Org} {g : Gh} {σ : St} {a : Act} {w : World} {o : Oper} {R : Type} {K : St → Option R} {r : R} {next : Act → World → Prop} {Q : Exit → Act → World → Prop}

theorem RepV.scalar {F F' : Nat → Prop} {w w' : World} : (t : Ty) → hasRow t = false → (x : t.den) → (cs : List Value) → RepV F w t x cs → RepV F' w' t x cs
  | .int _, _, _, _, h => h
  | .bool, _, _, _, h => h
  | .str, _, _, _, h => h
  | .sl _ _, hr, _, _, _ => by simp [hasRow] at hr
  | .unit, _, _, _, h => h
  | .ref _, hr, _, _, _ => by simp [hasRow] at hr
  | .clo _ _, hr, _, _, _ => by simp [hasRow] at hr
  | .pair a b, hr, x, _, ⟨c1, c2, h, h1, h2⟩ => by
    simp only [hasRow, Bool.or_eq_false_iff] at hr
    exact ⟨c1, c2, h, RepV.scalar a hr.1 x.1 c1 h1, RepV.scalar b hr.2 x.2 c2 h2⟩

theorem pvOf_rel {t : Ty} {x : t.den} {v : Value} (h : ValOk g.Fr w t x v) : RelPV g w (pvOf t x) v := by
  unfold ValOk at h
  unfold pvOf
  split at h
  · rename_i ht
    obtain ⟨cs, rfl, h1⟩ := h
    rw [if_pos ht]
    exact ⟨cs, rfl, h1.flat⟩
  · rename_i ht
    rw [if_neg ht]
    have h1 := h.flat
    have hl := flat_length t x
    have : t.agg = false := by simpa using ht
    rw [size_one this] at hl
    match hf : flat t x, hl with
    | [c], _ =>
      rw [hf] at h1
      obtain ⟨v', r, e, h2, _⟩ := h1
      cases e
      exact .inr h2

theorem ValOk.scalar {F F' : Nat → Prop} {w w' : World} {t : Ty} {x : t.den} {v : Value} (ht : hasRow t = false) (h : ValOk F w t x v) : ValOk F' w' t x v := by
  unfold ValOk at *
  split
  · rename_i ha; rw [if_pos ha] at h; obtain ⟨cs, h1, h2⟩ := h; exact ⟨cs, h1, h2.scalar t ht x cs⟩
  · rename_i ha; rw [if_neg ha] at h; exact h.scalar t ht x _

theorem ValsOk.scalar {F F' : Nat → Prop} {w w' : World} : ∀ (ps : List Ty) (x : (Ty.prods ps).den) (vs : List Value), ps.any hasRow = false → ValsOk F w ps x vs → ValsOk F' w' ps x vs
  | [], _, _, _, h => h
  | t :: ps, x, _, hr, ⟨v, r, h, h1, h2⟩ => by
    simp only [List.any_cons, Bool.or_eq_false_iff] at hr
    exact ⟨v, r, h, h1.scalar hr.1, ValsOk.scalar ps x.2 r hr.2 h2⟩

theorem go_rel : ∀ (rs : List Ty) (x : (Ty.prods rs).den) (vs : List Value), ValsOk g.Fr w rs x vs → vs.length = (encRes.go rs x).length ∧ ∀ (i : Nat) (b : Bool) (cs : List Cl) (u : Value), (encRes.go rs x)[i]? = some (b, cs) → vs[i]? = some u → if b = true then ∃ ws : List Value, u = .agg ws.toArray ∧ RelCls g w cs ws else ∃ c, cs = [c] ∧ RelCl g w c u
  | [], _, vs, h => by
    have : vs = [] := h
    subst this
    exact ⟨rfl, fun i b cs u h1 => by simp [encRes.go] at h1⟩
  | t :: rs, x, _, ⟨v, r, rfl, h1, h2⟩ => by
    obtain ⟨i1, i2⟩ := go_rel rs x.2 r h2
    refine ⟨by simp [encRes.go, i1], fun i b cs u hi hu => ?_⟩
    cases i with
    | zero =>
      simp only [encRes.go, List.getElem?_cons_zero, Option.some.injEq, Prod.mk.injEq] at hi hu
      obtain ⟨rfl, rfl⟩ := hi
      subst hu
      unfold ValOk at h1
      split
      · rename_i ha; rw [if_pos ha] at h1; obtain ⟨ws, h3, h4⟩ := h1; exact ⟨ws, h3, h4.flat⟩
      · rename_i ha
        rw [if_neg ha] at h1
        have h3 := h1.flat
        have hl := flat_length t x.1
        have : t.agg = false := by simpa using ha
        rw [size_one this] at hl
        match hf : flat t x.1, hl with
        | [c], _ =>
          rw [hf] at h3
          obtain ⟨v', r', e, h4, _⟩ := h3
          cases e
          exact ⟨c, rfl, h4⟩
    | succ i => exact i2 i b cs u (by simpa [encRes.go] using hi) (by simpa using hu)

theorem encRes_rel {rs : List Ty} {x : (Ty.prods rs).den} {v : Value} (h : ResOk g.Fr w rs x v) : RelPV g w (encRes rs x) v := by
  obtain ⟨vs, h1, rfl⟩ := h
  match rs, x, h1 with
  | [t], x, h1 =>
    obtain ⟨v, r, rfl, h2, h3⟩ := h1
    have : r = [] := h3
    subst this
    exact pvOf_rel h2
  | [], x, h1 =>
    have : vs = [] := h1
    subst this
    exact ⟨[], rfl, rfl, fun i b cs u hi => by simp [encRes.go] at hi⟩
  | t :: t' :: rs, x, h1 =>
    obtain ⟨i1, i2⟩ := go_rel _ _ _ h1
    obtain ⟨v, r, rfl, h2, v', r', rfl, h3⟩ := h1
    exact ⟨_, rfl, i1, i2⟩

theorem ValsOk.prods {F : Nat → Prop} {w : World} : ∀ (ps : List Ty) (x : (Ty.prods ps).den) (vs : List Value) (us : List (List Value)), us.length = ps.length → vs.length = ps.length → RepV F w (Ty.prods ps) x us.flatten →
    (∀ (i : Nat) (t : Ty) (v : Value) (u : List Value), ps[i]? = some t → vs[i]? = some v → us[i]? = some u → u.length = t.size ∧ v = if t.agg = true then .agg u.toArray else u.headD undef) → ValsOk F w ps x vs
  | [], _, vs, us, h1, h2, _, _ => List.eq_nil_of_length_eq_zero h2
  | t :: ps, x, [], us, h1, h2, _, _ => by simp at h2
  | t :: ps, x, v :: vs, [], h1, h2, _, _ => by simp at h1
  | t :: ps, x, v :: vs, u :: us, h1, h2, ⟨c1, c2, he, h3, h4⟩, h5 => by
    obtain ⟨h6, h7⟩ := h5 0 t v u rfl rfl rfl
    have hl := RepV.length _ _ _ h3
    rw [List.flatten_cons] at he
    obtain ⟨e1, e2⟩ := List.append_inj he (by rw [h6, hl])
    subst e1
    subst e2
    refine ⟨v, vs, rfl, ?_, ValsOk.prods ps x.2 vs us (by simpa using h1) (by simpa using h2) h4 fun i t v u a b c => h5 (i + 1) t v u (by simpa using a) (by simpa using b) (by simpa using c)⟩
    unfold ValOk
    split
    · rename_i ha
      rw [if_pos ha] at h7
      exact ⟨u, h7, h3⟩
    · rename_i ha
      rw [if_neg ha] at h7
      have : t.agg = false := by simpa using ha
      rw [size_one this] at h6
      match u, h6 with
      | [y], _ =>
        rw [h7]
        exact h3

theorem argsFit_rel : ∀ (args : List PV) (ps : List Ty) (vs : List Value), argsFit args ps = true → vs.length = args.length →
    (∀ (i : Nat) p v, args[i]? = some p → vs[i]? = some v → RelPV g w p v) → ∃ us : List (List Value), us.length = ps.length ∧ args.length = ps.length ∧ RelCls g w (args.map PV.cells).flatten us.flatten ∧
      ∀ (i : Nat) (t : Ty) (v : Value) (u : List Value), ps[i]? = some t → vs[i]? = some v → us[i]? = some u → u.length = t.size ∧ v = if t.agg = true then .agg u.toArray else u.headD undef
  | [], [], vs, _, hl, _ => ⟨[], rfl, rfl, rfl, fun i t v u h => by simp at h⟩
  | [], _ :: _, _, h, _, _ => by simp [argsFit] at h
  | _ :: _, [], _, h, _, _ => by simp [argsFit] at h
  | p :: args, t :: ps, [], h, hl, _ => by simp at hl
  | p :: args, t :: ps, v :: vs, h, hl, hr => by
    simp only [argsFit, Bool.and_eq_true, beq_iff_eq] at h
    obtain ⟨⟨⟨h1, h2⟩, h3⟩, h4⟩ := h
    obtain ⟨us, i1, i2, i3, i4⟩ := argsFit_rel args ps vs h4 (by simpa using hl) fun i p v a b => hr (i + 1) p v (by simpa using a) (by simpa using b)
    have hp := hr 0 p v rfl rfl
    have hc := hp.cells h1
    refine ⟨v.cells.toList :: us, by simp [i1], by simp [i2], by simpa using hc.append i3, fun i t' v' u a b c => ?_⟩
    cases i with
    | succ i => exact i4 i t' v' u (by simpa using a) (by simpa using b) (by simpa using c)
    | zero =>
      simp only [List.getElem?_cons_zero, Option.some.injEq] at a b c
      subst a; subst b; subst c
      refine ⟨by rw [hc.length, h3], ?_⟩
      rw [← h2]
      cases p with
      | one d =>
        have hd : RelCl g w d v := hp.elim (fun e => by subst e; cases h1) id
        have := hd.oneCell
        cases v <;> first | rfl | cases this
      | agg cs => obtain ⟨ws, rfl, h5⟩ := hp; simp [PV.isAgg, Value.cells]
      | tup vs => cases h1
      | skip => cases h1

theorem flat_one (t : Ty) (x : t.den) : ((flat t x).map PV.one).map PV.cells = (flat t x).map fun c => [c] := by simp [PV.cells]

theorem RelCls.eachOne {cs : List Cl} {vs : List Value} (h : RelCls g w cs vs) (i : Nat) {p : PV} {v : Value} (hp : (cs.map PV.one)[i]? = some p) (hv : vs[i]? = some v) : RelPV g w p v := by
  simp only [List.getElem?_map, Option.map_eq_some_iff] at hp
  obtain ⟨c, hc, rfl⟩ := hp
  obtain ⟨u, hu, h1⟩ := h.get i c hc
  rw [hv] at hu
  cases hu
  exact .inr h1

theorem ev_call {c : Call} {gx : Operand} (hE : EnvOk P E) (hc : c.callee = .value gx) (ho : o.op = .call c) (h : Rel w0 g σ a w) (hk : evOp E o σ K = some r) (hn : Then w0 g K r next) : o.wp P a w next Q := by
  simp only [evOp, ho, hc] at hk
  split at hk
  case h_2 => cases hk
  rename_i f ct cy hgx
  have hcl : RelCl g w (.clo f ct cy) (a.eval gx) := by
    have := opv_rel h E o.type gx
    rw [hgx] at this
    exact this.elim (fun e => by cases e) id
  obtain ⟨caps, hcap, hcr⟩ := hcl
  have hcap : a.eval gx = .func (.func f) #[] caps.toArray := by simpa using hcap
  have hcls := hcr.flat
  split at hk
  case isFalse => cases hk
  rename_i har
  unfold callFn at hk
  split at hk
  · cases hk
  · rename_i k hkn
    split at hk
    · rename_i hfit
      split at hk
      · rename_i x hx
        split at hk
        · rename_i y hy
          have hcln : caps.length = (flat ct cy).length := hcls.length
          have hzl : (List.map (fun x => opv E σ x.2 x.1) (c.args.toList.zip c.argTypes.toList)).length = (c.args.toList.map a.eval).length := by simp [har]
          obtain ⟨us, i1, i2, i3, i4⟩ := argsFit_rel (g := g) (w := w) _ _ (c.args.toList.map a.eval ++ caps) hfit (by simp [har, hcln]) (fun i p v hi hv => by
            rw [List.getElem?_append] at hi hv
            rw [hzl] at hi
            split at hi
            · rename_i hlt
              rw [if_pos hlt] at hv
              simp only [List.getElem?_map, Option.map_eq_some_iff] at hi hv
              obtain ⟨⟨z, t⟩, hz, rfl⟩ := hi
              obtain ⟨z', hz', rfl⟩ := hv
              have := (List.getElem?_zip_eq_some.1 hz).1
              rw [this] at hz'
              cases hz'
              exact opv_rel h E t z
            · rename_i hlt
              rw [if_neg hlt] at hv
              exact hcls.eachOne _ hi hv)
          have hl : (c.args.toList.map a.eval ++ caps).length = k.ps.length := by rw [← i2]; simp [har, hcln]
          generalize (List.map (fun x => opv E σ x.2 x.1) (c.args.toList.zip c.argTypes.toList) ++ (flat ct cy).map PV.one) = args at *
          obtain ⟨F1, f1, hle, h1, d1, _⟩ := h.settle (args.map PV.cells).flatten
          have hrep : RepV F1 w (Ty.prods k.ps) x us.flatten := unflat_all (g := { g with Fr := F1 }) hx (d1 _ i3)
          have hvals : ValsOk F1 w k.ps x (c.args.toList.map a.eval ++ caps) := ValsOk.prods _ _ _ us i1 (by simpa using hl) hrep i4
          obtain ⟨fn, e1, e2, e3⟩ := hE.ent f k hkn
          have hcall := hE.fn f k hkn x y hy w F1 _ h1.lt hvals
          have e4 : fn.name ≠ "runtime.NumGoroutine" := by simpa using e2
          have e5 : fn.body ≠ none := fun e => by rw [e] at e3; cases e3
          have hrun : (execOp a.eval o).run P w = .ok (.enter f (c.args.map a.eval ++ caps.toArray)) w := by
            simp [execOp, ho, resolve, hc, hcap, Deferred.ofValue, invoke, callFunc, e1, e4, e5]
          unfold Oper.wp
          rw [hrun, Oper.upon_enter]
          have hlist : (c.args.toList.map a.eval ++ caps).toArray = c.args.map a.eval ++ caps.toArray := by apply Array.ext'; simp
          rw [hlist] at hcall
          refine hcall.mono ?_
          rintro e w' ⟨v, rfl, hres, hb⟩
          by_cases hrow : k.rs.any hasRow = true
          · rw [if_pos hrow] at hk
            have hF : ∀ b, F1 b → (F1 b ∨ (w.heap.size ≤ b ∧ b < w'.heap.size)) := fun b hb => .inl hb
            obtain ⟨h2, _⟩ := h1.grow hb (fun b => F1 b ∨ (w.heap.size ≤ b ∧ b < w'.heap.size)) hF (fun b hb => hb.elim .inl fun x => .inr x.1) (fun b hb' => hb'.elim (fun z => Nat.lt_of_lt_of_le (h1.lt b z) hb.size) fun z => z.2)
            exact hn _ _ _ _ (h2.put _ (encRes_rel hres)) hk ⟨rfl, fun _ h => h⟩
          · rw [if_neg hrow] at hk
            obtain ⟨h2, _⟩ := h.grow hb g.Fr (fun _ h => h) (fun _ h => .inl h) (fun b hb' => Nat.lt_of_lt_of_le (h.lt b hb') hb.size)
            obtain ⟨vs, h3, h4⟩ := hres
            have hres' : ResOk g.Fr w' k.rs y v := ⟨vs, ValsOk.scalar _ _ _ (by simpa using hrow) h3, h4⟩
            exact hn _ _ _ _ (h2.put _ (encRes_rel hres')) hk ⟨rfl, fun _ h => h⟩
        · cases hk
      · cases hk
    · cases hk

end Go.V

/- One operation, whichever it is; a list of operations. -/
namespace Go.V
open Go.RowKit

variable {P : Program} {E : Env} {w0 : Org} {g : Gh} {σ : St} {a : Act} {w : World} {o : Oper} {R : Type} {K : St → Option R} {r : R} {next : Act → World → Prop} {Q : Exit → Act → World → Prop}

theorem ev_anyCall {c : Call} (hE : EnvOk P E) (ho : o.op = .call c) (h : Rel w0 g σ a w) (hk : evOp E o σ K = some r) (hn : Then w0 g K r next) : o.wp P a w next Q := by
  have hk' := hk
  simp only [evOp, ho] at hk
  split at hk
  · rename_i hc; exact ev_len hE hc ho h hk' hn
  · rename_i hc; exact ev_append hE hc ho h hk' hn
  · rename_i hc; exact ev_min hc ho h hk' hn
  · rename_i hc; exact ev_max hc ho h hk' hn
  · rename_i gx hc; exact ev_call hE hc ho h hk' hn
  · cases hk

theorem ptrsOf_rel : ∀ {pvs : List PV} {ps : List Ptr} {vs : List Value}, ptrsOf pvs = some ps → vs.length = pvs.length → (∀ (i : Nat) p v, pvs[i]? = some p → vs[i]? = some v → RelPV g w p v) → RelPtrs g w ps vs
  | [], ps, vs, h, hl, _ => by
    simp only [ptrsOf, Option.some.injEq] at h
    subst h
    exact List.eq_nil_of_length_eq_zero hl
  | p :: pvs, ps, [], h, hl, _ => by simp at hl
  | p :: pvs, ps, v :: vs, h, hl, hr => by
    unfold ptrsOf at h
    split at h
    · rename_i e; cases e
    · rename_i q r e
      cases e
      split at h
      · rename_i ps' hp
        cases h
        have := hr 0 _ v rfl rfl
        exact ⟨v, vs, rfl, this.elim (fun e => by cases e) id, ptrsOf_rel hp (by simpa using hl) fun i p v hp hv => hr (i + 1) p v (by simpa using hp) (by simpa using hv)⟩
      · cases h
    · cases h

theorem ev_makeFunc {fn : Fn} {bd fr : Array Operand} (ho : o.op = .makeFunc fn bd fr) (h : Rel w0 g σ a w) (hk : evOp E o σ K = some r) (hn : Then w0 g K r next) : o.wp P a w next Q := by
  simp only [evOp, ho] at hk
  split at hk
  · rename_i f hbd
    split at hk
    · split at hk
      · rename_i ps hp
        have hb : bd = #[] := by
          apply Array.ext'
          simpa using hbd
        have hrel := ptrsOf_rel (g := g) (w := w) (vs := fr.toList.map a.eval) hp (by simp) fun i p v hp hv => by
          simp only [List.getElem?_map, Option.map_eq_some_iff] at hp hv
          obtain ⟨z, hz, rfl⟩ := hp
          obtain ⟨z', hz', rfl⟩ := hv
          rw [hz] at hz'
          cases hz'
          exact opv_rel h E o.type z
        have hl : (fr.toList.map a.eval).toArray = fr.map a.eval := by apply Array.ext'; simp
        refine sound_put h hk hn (v := .func (.func f) #[] (fr.map a.eval)) ?_ (.inr ⟨_, by rw [← hl], hrel⟩)
        simp [execOp, ho, hb, Instr.makeFunc]
      · cases hk
    · cases hk
  · cases hk

theorem evOp_sound (hE : EnvOk P E) (h : Rel w0 g σ a w) (hk : evOp E o σ K = some r) (hn : Then w0 g K r next) : o.wp P a w next Q := by
  cases ho : o.op with
  | call c => exact ev_anyCall hE ho h hk hn
  | move x => exact ev_move ho h hk hn
  | assign x => exact ev_assign ho h hk hn
  | pick c x y => exact ev_pick ho h hk hn
  | alloc e => exact ev_alloc hE ho h hk hn
  | box e x => exact ev_box ho h hk hn
  | fieldAddr s x f => exact ev_fieldAddr hE ho h hk hn
  | load t x => exact ev_load hE ho h hk hn
  | store t p x => exact ev_store hE ho h hk hn
  | indexAddr t x ix => exact ev_indexAddr hE ho h hk hn
  | index t x ix => exact ev_index hE ho h hk hn
  | binOp op t x y ty => exact ev_binOp hE ho h hk hn
  | unOp op t x => exact ev_unOp ho h hk hn
  | convert s d x => exact ev_convert hE ho h hk hn
  | extract x i => exact ev_extract ho h hk hn
  | nilCheck x => exact ev_nilCheck ho h hk hn
  | field t x f => exact ev_field hE ho h hk hn
  | build t parts => exact ev_build hE ho h hk hn
  | buildSlice t n parts => exact ev_buildSlice hE ho h hk hn
  | makeSlice t l c => exact ev_makeSlice hE ho h hk hn
  | slice t x lo hi mx => exact ev_slice hE ho h hk hn
  | makeFunc fn bd fr => exact ev_makeFunc ho h hk hn
  | _ => simp [evOp, ho] at hk

end Go.V

/- A list of operations in the order of the text. -/
namespace Go.V
open Go.RowKit

variable {P : Program} {E : Env} {w0 : Org} {g : Gh} {σ : St} {a : Act} {w : World} {o : Oper} {R : Type} {K : St → Option R} {r : R} {next : Act → World → Prop} {Q : Exit → Act → World → Prop}

theorem Gh.aft.refl (g : Gh) : g.aft g := ⟨rfl, fun _ h => h⟩

theorem Then.weaken {g' : Gh} (h : g.aft g') (hn : Then w0 g K r next) : Then w0 g' K r next := fun _ _ _ _ h1 h2 h3 => hn _ _ _ _ h1 h2 (h.trans h3)

theorem get_lt {t : Nat} {b : Bool} (h : σ.get t = .one (.bool b)) : t < σ.tm.length ∧ t < σ.n := by
  rw [get_raw] at h
  split at h
  · rename_i hn
    rcases Nat.lt_or_ge t σ.tm.length with h' | h'
    · exact ⟨h', hn⟩
    · simp [St.raw, List.getElem?_eq_none h', PV.junk] at h
  · cases h

theorem setLit_same {t : Nat} {b : Bool} (h : σ.get t = .one (.bool b)) : setLit σ t b = σ := by
  obtain ⟨hl, hn⟩ := get_lt h
  rw [get_raw, if_pos hn] at h
  have : σ.tm[t]'hl = .one (.bool b) := by simpa [St.raw, hl] using h
  unfold setLit
  rw [← this]
  simp

theorem Rel.bool {t : Nat} {b : Bool} (h : Rel w0 g σ a w) (ht : σ.get t = .one (.bool b)) : a.tmps[t]? = some (.bool b) := by
  have h1 := h.get t
  rw [ht] at h1
  have h2 := h1.bool
  have h5 : t < a.tmps.size := by rw [← h.tmn]; exact (get_lt ht).2
  simp [h5] at h2
  simp [h5, h2]

theorem yielded_of (h : Rel w0 g σ a w) {ops : Array Oper} {j t : Nat} {b : Bool} (hj : (ops[j]?).bind (·.dst) = some t) (ht : σ.get t = .one (.bool b)) : yielded ops a.tmps j = some b := by
  simp [yielded, hj, h.bool ht]

theorem yielded_skip (h : Rel w0 g σ a w) {ops : Array Oper} {j t : Nat} (hj : (ops[j]?).bind (·.dst) = some t) (ht : σ.get t = .skip) : yielded ops a.tmps j = none := by
  have h1 := h.get t
  rw [ht] at h1
  have h1 : a.tmps.getD t undef = undef := h1
  unfold yielded
  rw [hj]
  simp only [Option.bind_some]
  rcases Nat.lt_or_ge t a.tmps.size with h2 | h2
  · simp [h2] at h1 ⊢
    rw [h1]
    rfl
  · simp [Array.getElem?_eq_none h2]

theorem evOps_sound (hE : EnvOk P E) {ops : Array Oper} : ∀ (rest : List Oper) (idxs : List Nat) {g : Gh} {σ : St} {a : Act} {w : World}, idxs.map (fun i => ops[i]?) = rest.map some → Rel w0 g σ a w → evOps E ops rest σ K = some r → Then w0 g K r (Q .normal) → wpOps P ops Q idxs a w
  | [], idxs, g, σ, a, w, hl, h, hk, hn => by
    have : idxs = [] := by simpa using hl
    subst this
    exact hn _ _ _ _ h hk (.refl g)
  | o :: rest, [], g, σ, a, w, hl, h, hk, hn => by simp at hl
  | o :: rest, i :: idxs, g, σ, a, w, hl, h, hk, hn => by
    simp only [List.map_cons, List.cons.injEq] at hl
    obtain ⟨hi, hl⟩ := hl
    have goOn : evOp E o σ (fun σ' => evOps E ops rest σ' K) = some r → o.wp P a w (wpOps P ops Q idxs) Q := fun hk' =>
      evOp_sound hE h hk' fun g' σ' a' w' h1 h2 h3 => evOps_sound hE rest idxs hl h1 h2 (hn.weaken h3)
    have skip : evOps E ops rest (σ.put o.dst .skip) K = some r → wpOps P ops Q idxs (a.put o.dst undef) w := fun hk' =>
      evOps_sound hE rest idxs hl (h.put _ (p := .skip) rfl) hk' hn
    simp only [wpOps, hi]
    simp only [evOps] at hk
    split at hk
    · rename_i hg
      rw [if_pos (by simp [Region.wanted, hg])]
      exact .inl (goOn hk)
    · rename_i j want hg
      split at hk
      · cases hk
      · rename_i t ht
        split at hk
        · rename_i b hb
          have hy := yielded_of h ht hb
          cases want <;> cases b <;> simp only [cond_true, cond_false] at hk <;> rw [setLit_same hb] at hk
          · rw [if_pos (by simp [Region.wanted, hg, hy])]; exact .inl (goOn hk)
          · rw [if_neg (by simp [Region.wanted, hg, hy])]; exact skip hk
          · rw [if_neg (by simp [Region.wanted, hg, hy])]; exact skip hk
          · rw [if_pos (by simp [Region.wanted, hg, hy])]; exact .inl (goOn hk)
        · rename_i hb
          have hy := yielded_skip h ht hb
          rw [if_neg (by simp [Region.wanted, hg, hy])]
          exact skip hk
        · cases hk

theorem range_ops (ops : Array Oper) : (List.range ops.size).map (fun i => ops[i]?) = ops.toList.map some := by
  apply List.ext_getElem?
  intro i
  simp only [List.getElem?_map, Array.getElem?_toList]
  by_cases h : i < ops.size
  · simp [h]
  · simp [h]

theorem region_sound (hE : EnvOk P E) {ops : Array Oper} {id : Nat} (h : Rel w0 g σ a w) (hk : evOps E ops ops.toList σ K = some r) (hn : Then w0 g K r (Q .normal)) : (Code.region id ops false).wp P Q a w :=
  wp_region (evOps_sound hE _ _ (range_ops ops) h hk hn)

end Go.V
