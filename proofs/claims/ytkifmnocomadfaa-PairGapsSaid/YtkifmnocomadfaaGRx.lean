/- slices.Grow of no row: the library's contract, laid at this program. -/
import Derived.Test.YtkifmnocomadfaaGVg
import Derived.Test.YtkifmnocomadfaaProg
import Derived.Shelf.Spec.SlicesGrow
section
set_option maxRecDepth 100000
namespace Go.Proofs.Ytkifmnocomadfaa
open Go.Shelf Go.RowKit Go.Lib Go.V

def ren88 : Ren := { f := fun n => if n = 4 then 88 else n, t := fun n => if n = 25 then 68 else n, g := fun n => n }

theorem grow_lays : Lays8.n4 Try.prog ren88 where
  mixed := by kernel_rfl
  f4 := ⟨_, by decide, Try.func88⟩
  t0 := by kernel_rfl
  a0 := fun w => by kernel_rfl
  z0 := fun w => by kernel_rfl
  v0 := fun w => by kernel_rfl
  t3 := by kernel_rfl
  a3 := fun w => by kernel_rfl
  z3 := fun w => by kernel_rfl
  v3 := fun w => by kernel_rfl
  t4 := by kernel_rfl
  a4 := fun w => by kernel_rfl
  z4 := fun w => by kernel_rfl
  v4 := fun w => by kernel_rfl
  t9 := by kernel_rfl
  a9 := fun w => by kernel_rfl
  z9 := fun w => by kernel_rfl
  v9 := fun w => by kernel_rfl
  t20 := by kernel_rfl
  a20 := fun w => by kernel_rfl
  z20 := fun w => by kernel_rfl
  v20 := fun w => by kernel_rfl
  t22 := by kernel_rfl
  a22 := fun w => by kernel_rfl
  z22 := fun w => by kernel_rfl
  v22 := fun w => by kernel_rfl

theorem zeroCells_size (z : Array Value) (n : Nat) : (Builtin.zeroCells z n).size = n * z.size := by simp [Builtin.zeroCells]

theorem grow_ok88 {E : Go.V.Env} (hE : EnvOk Try.prog E) : GrowOk Try.prog E 88 22 := by
  refine ⟨⟨Try.f88, Try.func88, by kernel_rfl, by kernel_rfl⟩, fun e ty ht w n h0 hlim => ?_⟩
  obtain ⟨hu, hte, hsz⟩ := slice_und hE ht
  have h22 : Try.prog.underlying 22 = some (.slice 68) := by kernel_rfl
  rw [h22] at hu
  cases hu
  obtain ⟨i, z, hi, hisz, hz, hzc⟩ := (hE.ty 68 ty hte).info
  obtain ⟨hb, hm⟩ := lim_bytes hE hlim hi
  by_cases hn : n = 0
  · subst hn
    have h := Any8.slices_Grow_room grow_lays none 0 0 0 w (Nat.le_refl _) (by omega) (by omega) (Nat.le_refl _)
    refine Calls.mono h ?_
    rintro r w' ⟨rfl, rfl⟩
    exact ⟨_, rfl, Below.refl _ _, ⟨by simp, .inl ⟨rfl, rfl⟩⟩, fun _ => rfl⟩
  · have hby : 0 < i.bytes := by
      have : (Try.prog.info? 68).map (fun i => Nat.blt 0 i.bytes) = some true := by kernel_rfl
      rw [hi] at this
      simpa using this
    have hnn : ((n.toNat : Nat) : Int) = n := Int.toNat_of_nonneg h0
    have h := Any8.slices_Grow_grow grow_lays i z hi hz (by rw [hisz]; omega) none 0 0 n.toNat [] w (Nat.le_refl _) (by omega) (by simpa using hb) (by have hn1 := Nat.le_mul_of_pos_right n.toNat hby; omega) (by simp) (fun _ => rfl) (fun a h => by cases h)
    rw [hnn] at h
    refine Calls.mono h ?_
    rintro r w' ⟨rfl, rfl⟩
    refine ⟨_, rfl, ⟨rfl, rfl, rfl, by simp, fun k hk => heap_alloc_old w.drew _ hk⟩, ⟨by simp, .inr ⟨w.heap.size, _, _, rfl, Nat.le_refl _, heap_alloc_new w.drew _, Nat.zero_le _, ?_, ?_, by simp⟩⟩, fun e => absurd e hn⟩
    · exact grownCap_le_maxLen w _ _ _ (by simpa using hm)
    · have hge := grownCap_ge w (0 + n.toNat) 0 (ren88.t 25)
      have hzs : z.cells.size = ty.size := by rw [hzc]; simp [zeroV_length]
      simp only [Array.size_append, zeroCells_size, hzs, List.size_toArray, List.length_nil, Nat.zero_add, ← Nat.add_mul]
      congr 1
      simp only [Nat.zero_add] at hge
      omega

end Go.Proofs.Ytkifmnocomadfaa
end
