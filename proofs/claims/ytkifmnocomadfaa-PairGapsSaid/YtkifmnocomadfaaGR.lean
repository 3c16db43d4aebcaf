/- The function that slices.Values makes, called with a yield: the runs come, each once, in order. -/
import Derived.RangeFuncBox
import Derived.RangeFuncLeaves
import Derived.Shelf.Abstract
import Derived.OwnWalkIn
import Derived.TacticsInMore
import Derived.LoopNIn
import Derived.LoopIn
import Derived.Test.YtkifmnocomadfaaGTy
import Derived.Maps.AppendAt
import Derived.Maps.RangeWalk
import Derived.Test.YtkifmnocomadfaaGVe
namespace Go.Proofs.Ytkifmnocomadfaa
open Go.V Go.RowKit Go.Shelf

theorem ntm87 : Try.f87.ntmps = 16 := by kernel_rfl

def encRun (x : D87) : Value := .agg #[.int .i64 x.1, .int .i64 x.2.1, .int .i64 x.2.2.1]

set_option maxRecDepth 100000 in
set_option maxHeartbeats 4000000 in
theorem values_in (l b1 o1 b off cap : Nat) (xs : List D87) (J : Nat → World → Prop) (w W : World)
    (hJ : ∀ i A B, J i A → Below A.heap.size A B → J i B)
    (hK : ∀ i A, J i A → Below w.heap.size w A)
    (hY : ∀ i x A, xs[i]? = some x → J i A → YieldAt Fence.wide 0 Try.prog l #[encRun x] A fun e A' => e = .returned (.bool true) ∧ J (i + 1) A')
    (hb : b < w.heap.size) (hcp : W.cell? ⟨b1, o1, none⟩ = some (.slice (some ⟨b, off, none⟩) xs.length cap))
    (hlen : xs.length < 2 ^ 40)
    (hc0 : ∀ i x, xs[i]? = some x → w.cell? ⟨b, off + i * 3, none⟩ = some (.int .i64 x.1))
    (hc1 : ∀ i x, xs[i]? = some x → w.cell? ⟨b, off + i * 3 + 1, none⟩ = some (.int .i64 x.2.1))
    (hc2 : ∀ i x, xs[i]? = some x → w.cell? ⟨b, off + i * 3 + 2, none⟩ = some (.int .i64 x.2.2.1))
    (h0 : J 0 W) : CallsIn Fence.wide 0 Try.prog 87 #[.func (.yield l) #[] #[], .pointer (some ⟨b1, o1, none⟩)] W fun e A => (∃ v, e = .returned v) ∧ J xs.length A := by
  refine callsIn_of_wp Try.func87 rfl trivial ?_ rfl
  simp only [ntm87, List.size_toArray, List.length_cons, List.length_nil, Nat.reduceAdd, Nat.reduceSub, Array.replicate_succ, Array.replicate_zero, List.push_toArray, List.append_toArray, List.nil_append, List.cons_append]
  gi_wp2
  gi_loopw [7] (fun i wr => ∃ k : Nat, k ≤ xs.length ∧ i = .int .i64 k ∧ J k wr)
    (fun i _ => xs.length - (intOf i).toNat)
  case atStart => exact ⟨0, Nat.zero_le _, rfl, h0⟩
  case round =>
    obtain ⟨k, hk, rfl, hJs⟩ := hrel
    by_cases hlt : k < xs.length
    · have hx : xs[k]? = some xs[k] := by simp [hlt]
      have hbl := hK _ _ hJs
      have c0 := (hbl.cell (p := ⟨b, off + k * 3, none⟩) hb).trans (hc0 k _ hx)
      have c1 := (hbl.cell (p := ⟨b, off + k * 3 + 1, none⟩) hb).trans (hc1 k _ hx)
      have c2 := (hbl.cell (p := ⟨b, off + k * 3 + 2, none⟩) hb).trans (hc2 k _ hx)
      have hJ2 := hJ _ _ _ hJs ((Below.refl wr.heap.size wr).alloc (Nat.le_refl _) (.cells #[Value.int .i64 xs[k].1, .int .i64 xs[k].2.1, .int .i64 xs[k].2.2.1] 88))
      obtain ⟨fn, tmps, assign, body, hy, hR⟩ := hY k xs[k] _ hx hJ2
      simp only [encRun] at hy
      gi_wp2
      refine ⟨rfl, hR.mono ?_⟩
      rintro e W3 ⟨rfl, hJ3⟩
      gi_wp2
      go_roundw
      case rel => exact ⟨k + 1, by omega, by simp, hJ3⟩
      case measure => simp [intOf]; omega
    · obtain rfl : k = xs.length := by omega
      gi_wp2
      go_end0
      exact ⟨⟨_, rfl⟩, hJs⟩

set_option maxRecDepth 100000 in
set_option maxHeartbeats 4000000 in
theorem values_nil (l b1 o1 cap : Nat) (A : Option Addr) (J : Nat → World → Prop) (W : World) (hcp : W.cell? ⟨b1, o1, none⟩ = some (.slice A 0 cap))
    (h0 : J 0 W) : CallsIn Fence.wide 0 Try.prog 87 #[.func (.yield l) #[] #[], .pointer (some ⟨b1, o1, none⟩)] W fun e A => (∃ v, e = .returned v) ∧ J 0 A := by
  refine callsIn_of_wp Try.func87 rfl trivial ?_ rfl
  simp only [ntm87, List.size_toArray, List.length_cons, List.length_nil, Nat.reduceAdd, Nat.reduceSub, Array.replicate_succ, Array.replicate_zero, List.push_toArray, List.append_toArray, List.nil_append, List.cons_append]
  gi_wp2
  gi_loopw [7] (fun i wr => i = .int .i64 0 ∧ wr = W)
    (fun _ _ => 0)
  case atStart => exact ⟨rfl, rfl⟩
  case round =>
    obtain ⟨rfl, rfl⟩ := hrel
    gi_wp2
    go_end0
    exact ⟨⟨_, rfl⟩, h0⟩

end Go.Proofs.Ytkifmnocomadfaa

/- One round of slices.AppendSeq: the run that came is appended to the row in the box. -/
namespace Go.Proofs.Ytkifmnocomadfaa
open Go.V Go.RowKit Go.Shelf

theorem und47 : Try.prog.underlying 47 = some (.slice 88) := by kernel_rfl
theorem inf88 : (Try.prog.info? 88).map (fun i => (i.zero, i.size, i.bytes)) = some (some (.agg #[.int .i64 0, .int .i64 0, .int .i64 0]), 3, 24) := by kernel_rfl

noncomputable def asgOf : Code → Code
  | .rangeFunc _ _ a _ => a
  | _ => .skip
noncomputable def bodOf : Code → Code
  | .rangeFunc _ _ _ b => b
  | _ => .skip
noncomputable def apAssign : Code := asgOf (subc [true, false, true, false] ((Try.f64.body).getD .skip))
noncomputable def apBody : Code := bodOf (subc [true, false, true, false] ((Try.f64.body).getD .skip))

noncomputable def apRec (fn : FuncId) (sv : Value) (Bs D : Nat) (st : LoopState) (pend : Option Code) : Loop :=
  { state := st, pending := pend, fn, tmps := #[.slice none 0 0, sv, .pointer (some ⟨Bs, 0, none⟩), undef, .slice none 0 0, undef, sv, undef, undef, undef, undef, undef, undef], params := #[7], assign := apAssign, body := apBody, defers := D }

def cellsR (x : D87) : List Value := [.int .i64 x.1, .int .i64 x.2.1, .int .i64 x.2.2.1]

structure ApAt (w0 : World) (fn : FuncId) (sv : Value) (Bs l D : Nat) (xs : List D87) (i : Nat) (W : World) : Prop where
  box : ∃ v, Boxed W Bs 47 v ∧ W.ownsRow w0.heap.size 88 3 v i ((xs.take i).flatMap cellsR)
  L : W.heap[l]? = some (.loop (apRec fn sv Bs D .ready none))
  K : W.heap[D]? = some (.deferred (some []))
  below : Below w0.heap.size w0 W

theorem ApAt.later {w0 : World} {fn : FuncId} {sv : Value} {Bs l D : Nat} {xs : List D87} {i : Nat} {A B : World} (h : ApAt w0 fn sv Bs l D xs i A) (hb : Below A.heap.size A B) : ApAt w0 fn sv Bs l D xs i B := by
  have hg : A.grownBy B none := ⟨hb.os, hb.tape, hb.output, hb.size, fun k hk _ => hb.block k hk⟩
  obtain ⟨v, hv, hr⟩ := h.box
  exact ⟨⟨v, hv.kept hg (by simp), hr.kept hg (by cases hu : v.ownBlock <;> simp)⟩, (hb.block _ (Array.getElem?_eq_some_iff.1 h.L).1).trans h.L, (hb.block _ (Array.getElem?_eq_some_iff.1 h.K).1).trans h.K, h.below.trans (hb.mono h.below.size)⟩

theorem cells_three_new (w : World) (x : D87) (t : TypeId) : ∀ j u, (cellsR x)[j]? = some u → (w.alloc (.cells #[.int .i64 x.1, .int .i64 x.2.1, .int .i64 x.2.2.1] t)).cell? ((⟨w.heap.size, 0, none⟩ : Addr).add j) = some u := by
  intro j u hj
  match j, hj with
  | 0, hj => simp [cellsR] at hj; subst hj; simp [Addr.add]
  | 1, hj => simp [cellsR] at hj; subst hj; simp [Addr.add]
  | 2, hj => simp [cellsR] at hj; subst hj; simp [Addr.add]

set_option maxRecDepth 100000 in
set_option maxHeartbeats 4000000 in
theorem apYield (w0 : World) (fn : FuncId) (sv : Value) (Bs l D : Nat) (hBl : Bs ≠ l) (hDl : D ≠ l) (hDB : D ≠ Bs) (h0B : w0.heap.size ≤ Bs) (h0l : w0.heap.size ≤ l)
    (xs : List D87) (hN : xs.length ≤ 5864062014805) (i : Nat) (x : D87) (hx : xs[i]? = some x) (W : World) (h : ApAt w0 fn sv Bs l D xs i W) :
    YieldAt Fence.wide 0 Try.prog l #[encRun x] W fun e W' => e = .returned (.bool true) ∧ ApAt w0 fn sv Bs l D xs (i + 1) W' := by
  obtain ⟨i0, hi, hz0, hz1, hz2⟩ := info_parts inf88
  obtain ⟨v, hv, hrow⟩ := h.box
  have hilt : i < xs.length := (List.getElem?_eq_some_iff.1 hx).1
  refine ⟨fn, #[.slice none 0 0, sv, .pointer (some ⟨Bs, 0, none⟩), undef, .slice none 0 0, undef, sv, encRun x, undef, undef, undef, undef, undef], apAssign, apBody, by simpa [apRec] using run_yield (P := Try.prog) (args := #[encRun x]) h.L rfl, roundIn_of_wpIn trivial ?_⟩
  have hl : l < W.heap.size := (Array.getElem?_eq_some_iff.1 h.L).1
  obtain ⟨W1, hW1⟩ : ∃ W1, W.alloc (.cells #[.int .i64 x.1, .int .i64 x.2.1, .int .i64 x.2.2.1] 88) = W1 := ⟨_, rfl⟩
  have hA1 : ApAt w0 fn sv Bs l D xs i W1 := by rw [← hW1]; exact h.later ((Below.refl _ W).alloc (Nat.le_refl _) _)
  have hbr := run_beginRound (P := Try.prog) hA1.L rfl
  have hl1 : l < W1.heap.size := (Array.getElem?_eq_some_iff.1 hA1.L).1
  obtain ⟨W2, hW2⟩ : ∃ W2, W1.putObj l (.loop { apRec fn sv Bs D .ready none with state := .busy }) = W2 := ⟨_, rfl⟩
  rw [hW2] at hbr
  obtain ⟨v, hv, hrow⟩ := hA1.box
  have hg2 : W1.grownBy W2 (some l) := by rw [← hW2]; exact grownBy_putObj' _ _ _
  have hv2 : Boxed W2 Bs 47 v := hv.kept hg2 (by simpa using hBl)
  have hK2 : W2.heap[D]? = some (.deferred (some [])) := by rw [← hW2]; exact (World.putObj_heap_other hDl).trans hA1.K
  have hL2 : W2.heap[l]? = some (.loop { apRec fn sv Bs D .ready none with state := .busy }) := by rw [← hW2]; exact World.putObj_heap_same hl1
  have hrow2 : W2.ownsRow w0.heap.size 88 3 v i ((xs.take i).flatMap cellsR) := by rw [← hW2]; exact ownsRow_putObj hrow _ hA1.L rfl
  have hb2 : Below w0.heap.size w0 W2 := hA1.below.grown hg2 hA1.below.size (fun k e => by cases e; exact h0l)
  have hs0 : W.heap.size < W1.heap.size := by rw [← hW1]; simp
  have hvar : ∀ j u, (cellsR x)[j]? = some u → W2.cell? ⟨W.heap.size, 0 + j, none⟩ = some u := fun j u hj => by
    have h1 : W1.heap[W.heap.size]? = some (.cells #[.int .i64 x.1, .int .i64 x.2.1, .int .i64 x.2.2.1] 88 (0, 0)) := by rw [← hW1]; exact World.alloc_heap_new W _
    have h2 : W2.heap[W.heap.size]? = W1.heap[W.heap.size]? := hg2.block _ hs0 (by simp; omega)
    have := cells_three_new W x 88 j u hj
    rw [hW1, addr_add] at this
    exact cell_same h2 this
  have v0 := hvar 0 _ rfl
  have v1 := hvar 1 _ rfl
  have v2 := hvar 2 _ rfl
  simp only [Nat.zero_add] at v0 v1 v2
  have hc2 := hv2.cell
  have hf2 := hv2.frozen
  clear hW2
  unfold apAssign
  simp only [asgOf, subc, Try.f64, Option.getD_some, cond_true, cond_false, encRun]
  gi_wp2_with (rw [Oper.semAt_eq _ _ _ (fun c h => by cases h)]; go_simp; try go_bits)
  have hl2 : l < W2.heap.size := (Array.getElem?_eq_some_iff.1 hL2).1
  unfold apBody
  simp only [bodOf, subc, Try.f64, Option.getD_some, cond_true, cond_false]
  gi_wp2_with (first
    | (gi_at_builtin; refine wpListIn_append_own _ rfl _ _ 47 rfl w0.heap.size 88 i0 (.agg #[.int .i64 0, .int .i64 0, .int .i64 0]) 3 24 und47 hi hz0 hz1 hz2 rfl (by decide) _ _ _ rfl (hrow2.alloc _) ⟨W2.heap.size, 0, none⟩ 1 1 (cellsR x) rfl rfl (cells_three_new W2 x 88) (by simp [Value.oneCell', cellsR]) (by simp [maxLen]; omega) (by omega) (by have := hb2.size; simp; omega) ?_; intro v' w3 hown' hg3 hnil3
       obtain ⟨b1, b2, b3, b4, b5⟩ := Boxed.appended (n₀ := w0.heap.size) hv2 (by decide) hrow2 hb2.size h0B hown' hg3
       have hc3 := b1.cell
       have hf3 := b1.frozen
       obtain ⟨g', cap', rfl⟩ := ownsRow_succ hown'
       go_frame)
    | (rw [Oper.semAt_eq _ _ _ (fun c h => by cases h)]; go_simp; try go_bits))
  have hL4 := b4.same _ _ hL2 rfl
  have hl4 := (Array.getElem?_eq_some_iff.1 hL4).1
  refine ⟨_, _, run_endRound none hL4, rfl, ⟨⟨_, (World.putObj_heap_other hBl).trans b2, ?_⟩, World.putObj_heap_same hl4, (World.putObj_heap_other hDl).trans (b4.same _ _ hK2 rfl), ?_⟩⟩
  · have e : (xs.take (i + 1)).flatMap cellsR = (xs.take i).flatMap cellsR ++ cellsR x := by
      rw [List.take_add_one, hx]
      simp
    rw [e]
    exact ownsRow_putObj b3 _ hL4 rfl
  · exact (hb2.trans b5).grown (grownBy_putObj' _ _ _) (hb2.trans b5).size (fun k e => by cases e; exact h0l)

theorem ntm64 : Try.f64.ntmps = 13 := by kernel_rfl

set_option maxRecDepth 100000 in
set_option maxHeartbeats 4000000 in
theorem appendSeq_in (w : World) (b1 o1 : Nat) (xs : List D87) (hN : xs.length ≤ 5864062014805)
    (hseq : ∀ (l : Nat) (J : Nat → World → Prop) (W : World), Below w.heap.size w W → (∀ i A B, J i A → Below A.heap.size A B → J i B) → (∀ i A, J i A → Below w.heap.size w A) →
      (∀ i x A, xs[i]? = some x → J i A → YieldAt Fence.wide 0 Try.prog l #[encRun x] A fun e A' => e = .returned (.bool true) ∧ J (i + 1) A') → J 0 W →
      CallsIn Fence.wide 0 Try.prog 87 #[.func (.yield l) #[] #[], .pointer (some ⟨b1, o1, none⟩)] W fun e A => (∃ v, e = .returned v) ∧ J xs.length A) :
    CallsIn Fence.wide 0 Try.prog 64 #[.slice none 0 0, .func (.func 87) #[] #[.pointer (some ⟨b1, o1, none⟩)]] w fun e w' => ∃ v : Value, e = .returned v ∧ w'.ownsRow w.heap.size 88 3 v xs.length (xs.flatMap cellsR) ∧ Below w.heap.size w w' := by
  refine callsIn_of_wp_marks Try.func64 rfl trivial ?_
  simp only [ntm64, List.size_toArray, List.length_cons, List.length_nil, Nat.reduceAdd, Nat.reduceSub, Array.replicate_succ, Array.replicate_zero, List.push_toArray, List.append_toArray, List.nil_append, List.cons_append]
  gi_wp2
  refine wpIn_rangeFunc ?_
  intro fn hfn
  obtain ⟨W0, hW0⟩ : ∃ W0, w.alloc (.cells #[.slice none 0 0] 47) = W0 := ⟨_, rfl⟩
  have hs0 : W0.heap.size = w.heap.size + 1 := by rw [← hW0]; simp
  have hv0 : Boxed W0 w.heap.size 47 (.slice none 0 0) := by rw [← hW0]; exact Boxed.new w 47 _
  have hb0 : Below w.heap.size w W0 := by rw [← hW0]; exact (Below.refl _ w).alloc (Nat.le_refl _) _
  rw [hW0]
  obtain ⟨W1, hW1⟩ : ∃ W1, (W0.alloc (.deferred (some []))).alloc (.loop (apRec fn (.func (.func 87) #[] #[.pointer (some ⟨b1, o1, none⟩)]) w.heap.size W0.heap.size .ready none)) = W1 := ⟨_, rfl⟩
  have hold : ∀ k, k < W0.heap.size → W1.heap[k]? = W0.heap[k]? := fun k hk => by
    rw [← hW1]; exact (Below.heap_alloc _ _ k (by simp; omega)).trans (Below.heap_alloc _ _ k hk)
  have hb1 : Below w.heap.size w W1 := by rw [← hW1]; exact (hb0.alloc hb0.size _).alloc (by have := hb0.size; simp; omega) _
  have hs1 : W1.heap.size = W0.heap.size + 2 := by rw [← hW1]; simp
  have hM : ApAt w fn (.func (.func 87) #[] #[.pointer (some ⟨b1, o1, none⟩)]) w.heap.size (W0.heap.size + 1) W0.heap.size xs 0 W1 :=
    ⟨⟨_, (hold w.heap.size (by omega)).trans hv0, ⟨rfl, .inl ⟨rfl, rfl⟩⟩⟩,
     by rw [← hW1]; have := World.alloc_heap_new (W0.alloc (.deferred (some []))) (.loop (apRec fn (.func (.func 87) #[] #[.pointer (some ⟨b1, o1, none⟩)]) w.heap.size W0.heap.size .ready none)); rwa [World.size_alloc] at this,
     by rw [← hW1]; exact (Below.heap_alloc _ _ _ (by simp)).trans (World.alloc_heap_new W0 _), hb1⟩
  refine ⟨W0.heap.size + 1, [{ target := .collected W0.heap.size, args := #[] }], W1, { target := .fn (.func 87) #[.pointer (some ⟨b1, o1, none⟩)], args := #[.func (.yield (W0.heap.size + 1)) #[] #[]] }, W1, 87,
    #[.func (.yield (W0.heap.size + 1)) #[] #[], .pointer (some ⟨b1, o1, none⟩)], W1, ?_, ?_, ?_, ?_, fun h => (by cases h), ?_⟩
  · rw [← hW1]; exact run_enterLoop_outer _ _ _ _ _
  · simp [resolve, go_sem]
  · exact fun _ _ => trivial
  · simp [invoke, go_sem]
  · refine (hseq (W0.heap.size + 1) (fun i W => ApAt w fn (.func (.func 87) #[] #[.pointer (some ⟨b1, o1, none⟩)]) w.heap.size (W0.heap.size + 1) W0.heap.size xs i W) W1 hb1 (fun i A B h hb => h.later hb) (fun i A h => h.below)
      (fun i x A hx h => apYield w fn _ w.heap.size (W0.heap.size + 1) W0.heap.size (by omega) (by omega) (by omega) (Nat.le_refl _) (by omega) xs hN i x hx A h) hM).mono ?_
    rintro e W2 ⟨⟨v0, rfl⟩, h2⟩
    obtain ⟨v, hv, hrow⟩ := h2.box
    rw [List.take_length] at hrow
    have hend := run_endLoop (P := Try.prog) h2.L (by simp [apRec])
    obtain ⟨W3, hW3⟩ : ∃ W3, W2.putObj (W0.heap.size + 1) (.loop { apRec fn (.func (.func 87) #[] #[.pointer (some ⟨b1, o1, none⟩)]) w.heap.size W0.heap.size .ready none with state := .exhausted }) = W3 := ⟨_, rfl⟩
    rw [hW3] at hend
    have hg3 : W2.grownBy W3 (some (W0.heap.size + 1)) := by rw [← hW3]; exact grownBy_putObj' _ _ _
    have hv3 : Boxed W3 w.heap.size 47 v := hv.kept hg3 (by simp; omega)
    have hK3 : W3.heap[W0.heap.size]? = some (.deferred (some [])) := by rw [← hW3]; exact (World.putObj_heap_other (by omega)).trans h2.K
    have hrow3 : W3.ownsRow w.heap.size 88 3 v xs.length (xs.flatMap cellsR) := by rw [← hW3]; exact ownsRow_putObj hrow _ h2.L rfl
    have hb3 : Below w.heap.size w W3 := h2.below.grown hg3 h2.below.size (fun k e => by cases e; omega)
    have hc3 := hv3.cell
    have hf3 := hv3.frozen
    clear hW3
    refine ⟨none, W3, hend, ?_⟩
    gi_wp2
    rw [← hs0]
    refine ⟨by simp, .inl ⟨_, _, rfl, run_takeDeferred hK3, ?_⟩⟩
    exact ⟨_, results_tmp rfl _ _ _, v, rfl, ownsRow_putObj hrow3 _ hK3 rfl, hb3.grown (grownBy_putObj' _ _ _) hb3.size (fun k e => by cases e; omega)⟩

end Go.Proofs.Ytkifmnocomadfaa

/- slices.Collect of what slices.Values made: the contract, in the reading's form. -/
namespace Go.Proofs.Ytkifmnocomadfaa
open Go.V Go.RowKit Go.Shelf

theorem ntm41 : Try.f41.ntmps = 5 := by kernel_rfl

set_option maxRecDepth 100000 in
set_option maxHeartbeats 4000000 in
theorem collect_in (w : World) (b1 o1 : Nat) (xs : List D87) (hN : xs.length ≤ 5864062014805)
    (hseq : ∀ (l : Nat) (J : Nat → World → Prop) (W : World), Below w.heap.size w W → (∀ i A B, J i A → Below A.heap.size A B → J i B) → (∀ i A, J i A → Below w.heap.size w A) →
      (∀ i x A, xs[i]? = some x → J i A → YieldAt Fence.wide 0 Try.prog l #[encRun x] A fun e A' => e = .returned (.bool true) ∧ J (i + 1) A') → J 0 W →
      CallsIn Fence.wide 0 Try.prog 87 #[.func (.yield l) #[] #[], .pointer (some ⟨b1, o1, none⟩)] W fun e A => (∃ v, e = .returned v) ∧ J xs.length A) :
    CallsIn Fence.wide 0 Try.prog 41 #[.func (.func 87) #[] #[.pointer (some ⟨b1, o1, none⟩)]] w fun e w' => ∃ v : Value, e = .returned v ∧ w'.ownsRow w.heap.size 88 3 v xs.length (xs.flatMap cellsR) ∧ Below w.heap.size w w' := by
  refine callsIn_of_wp Try.func41 rfl trivial ?_ rfl
  simp only [ntm41, List.size_toArray, List.length_cons, List.length_nil, Nat.reduceAdd, Nat.reduceSub, Array.replicate_succ, Array.replicate_zero, List.push_toArray, List.append_toArray, List.nil_append, List.cons_append]
  gi_wp2
  refine ⟨trivial, rfl, (appendSeq_in w b1 o1 xs hN hseq).mono ?_⟩
  rintro e w' ⟨v, rfl, h1, h2⟩
  gi_wp2
  exact bodyPost_ret (results_tmp rfl _ _ _) rfl ⟨v, rfl, h1, h2⟩

theorem cells_at : ∀ (xs : List D87) (i m : Nat) (x : D87), xs[i]? = some x → m < 3 → (xs.flatMap cellsR)[i * 3 + m]? = (cellsR x)[m]?
  | [], i, m, x, h, _ => by simp at h
  | y :: xs, 0, m, x, h, hm => by
    simp only [List.getElem?_cons_zero, Option.some.injEq] at h
    subst h
    rw [List.flatMap_cons, List.getElem?_append_left (by simp [cellsR]; omega)]
    simp
  | y :: xs, i + 1, m, x, h, hm => by
    rw [List.flatMap_cons, List.getElem?_append_right (by simp [cellsR]; omega)]
    have e : (i + 1) * 3 + m - (cellsR y).length = i * 3 + m := by simp [cellsR]; omega
    rw [e]
    exact cells_at xs i m x (by simpa using h) hm

theorem repRun (F : Nat → Prop) (w : World) (x : D87) : RepV F w t87 x (cellsR x) :=
  ⟨[.int .i64 x.1], [.int .i64 x.2.1, .int .i64 x.2.2.1], rfl, rfl, [.int .i64 x.2.1], [.int .i64 x.2.2.1], rfl, rfl, [.int .i64 x.2.2.1], [], rfl, rfl, rfl⟩

theorem repRun_inv {F : Nat → Prop} {w : World} {x : D87} {cs : List Value} (h : RepV F w t87 x cs) : cs = cellsR x := by
  obtain ⟨c1, r1, rfl, h1, c2, r2, rfl, h2, c3, r3, rfl, h3, h4⟩ := h
  have h1 : c1 = [_] := h1
  have h2 : c2 = [_] := h2
  have h3 : c3 = [_] := h3
  have h4 : r3 = [] := h4
  rw [h1, h2, h3, h4]
  rfl

noncomputable def ps41 : List Ty := [.clo 87 (.pair (.ref (.sl 88 t87)) .unit)]
noncomputable def rs41 : List Ty := [.sl 88 t87]
def sp41 (N : Nat) : (((List D87) × Unit) × Unit) → Option ((List D87) × Unit) := fun x => if x.1.1.length ≤ 100000000 then some (x.1.1, ()) else none

set_option maxHeartbeats 4000000 in
theorem ss41 (N : Nat) : Sound Try.prog 41 { ps := ps41, rs := rs41, f := sp41 N } := by
  intro x r hx w F vs hF hv
  dsimp only at hx hv
  unfold sp41 at hx
  split at hx
  case isFalse => cases hx
  rename_i hlen
  cases hx
  obtain ⟨v0, rest, rfl, h1, h2⟩ := hv
  have h2 : rest = [] := h2
  subst h2
  have h1 : RepV F w (.clo 87 (.pair (.ref (.sl 88 t87)) .unit)) x.1 [v0] := h1
  obtain ⟨us, h3, c1, c2, rfl, h4, h5⟩ := h1
  have h5 : c2 = [] := h5
  subst h5
  obtain ⟨b1, o1, ds, rfl, hb1, h6, h7⟩ := h4
  simp only [List.append_nil, List.cons.injEq, and_true] at h3
  subst h3
  obtain ⟨A, c, rfl, h8, h9⟩ := h6
  have hcp := h7 0 _ rfl
  simp only [Nat.add_zero] at hcp
  have hb1' := hF _ hb1
  have key := collect_in w b1 o1 x.1.1 (by omega) (fun l J W hW hJ hK hY h0 => by
    have hcpW := (hW.cell (p := ⟨b1, o1, none⟩) hb1').trans hcp
    by_cases hnil : x.1.1 = []
    · rw [hnil] at hcpW ⊢
      exact values_nil l b1 o1 c A J W hcpW h0
    · obtain ⟨y, hy⟩ : ∃ y, x.1.1[0]? = some y := ⟨x.1.1[0]'(List.length_pos_iff.2 hnil), by simp⟩
      obtain ⟨b, off, ds, rfl, hb, _⟩ := h9 0 y hy
      have hbl := hF b hb
      have cel : ∀ i z m u, x.1.1[i]? = some z → (cellsR z)[m]? = some u → w.cell? ⟨b, off + i * 3 + m, none⟩ = some u := fun i z m u hz hu => by
        obtain ⟨b', off', ds', e, _, hr, hc⟩ := h9 i z hz
        cases e
        have := repRun_inv hr
        subst this
        exact hc m u hu
      exact values_in l b1 o1 b off c x.1.1 J w W hJ hK hY hbl hcpW (by omega)
        (fun i z hz => cel i z 0 _ hz rfl) (fun i z hz => cel i z 1 _ hz rfl) (fun i z hz => cel i z 2 _ hz rfl) h0)
  refine (callsIn_wide.1 key).mono ?_
  rintro e w' ⟨v, rfl, hrow, hbel⟩
  refine ⟨v, rfl, ⟨[v], ⟨v, [], rfl, ?_, rfl⟩, rfl⟩, hbel⟩
  show RepV _ w' (.sl 88 t87) x.1.1 [v]
  rcases hrow.2 with ⟨rfl, h0⟩ | ⟨g, cap, cur, rfl, hb, hg, hc1, hc2, hc3, hc4⟩
  · have : x.1.1 = [] := List.eq_nil_of_length_eq_zero h0
    refine ⟨none, 0, by rw [this]; rfl, by omega, fun i z hz => by rw [this] at hz; simp at hz⟩
  · refine ⟨some ⟨g, 0, none⟩, cap, rfl, hc1, fun i z hz => ?_⟩
    have hglt : g < w'.heap.size := (Array.getElem?_eq_some_iff.1 hg).1
    refine ⟨g, 0, cellsR z, rfl, .inr ⟨hb, hglt⟩, repRun _ _ z, fun m u hu => ?_⟩
    have hm : m < 3 := by
      have := (List.getElem?_eq_some_iff.1 hu).1
      simpa [cellsR] using this
    have hi : i < x.1.1.length := (List.getElem?_eq_some_iff.1 hz).1
    have h10 := cells_at x.1.1 i m z hz hm
    rw [hu, ← hc4, List.getElem?_take_of_lt (by omega)] at h10
    have h11 : cur[i * 3 + m]? = some u := by simpa using h10
    have e : t87.size = 3 := rfl
    rw [e]
    simp [World.cell?, hg, h11]

end Go.Proofs.Ytkifmnocomadfaa
