/- CurveBack returns true for every list of numbers, and its argument reads behind the call as before. No conditions. -/
import Derived.Test.YtkifmnocomadfaaRows
import Derived.Test.YtkifmnocomadfaaWC
namespace Go.Proofs.Ytkifmnocomadfaa
open Go.ChangeShapes Go.WideShapes Go.ChangeAt Go.RowKit

theorem Try.own : ownKnob Try.prog.godebug = none := by kernel_rfl
theorem Try.laidOut : laidOutB Try.prog = true := by kernel_rfl

set_option maxRecDepth 100000 in
theorem curve_lifted (os : Os) (started : os.Started) (H : Type) (enc : TypeId × Value → H) :
    ReturnsInHanded {} Try.checked os 4 .any (Rows.curveBackSpec.pre6 enc Try.prog Try.f4 Rows.curveBackRow.domain false) (Rows.curveBackSpec.post enc Try.prog Try.f4 false true false false) := by
  refine returnsInHanded_of_change (C := Try.checked) Try.own started (by kernel_rfl) Try.func4
    (ChangeSpec.witness6 (enc := enc) (C := Try.checked) false ⟨#[], #[.slice none 0 0], []⟩ 8 (by kernel_rfl) (by kernel_rfl) (by kernel_rfl) (by kernel_rfl)) ?_
  intro W base args ds gs before hval hW hcnd _
  exact Go.V.law_contract (P := Try.prog) (ps := ps4) (tb := 4) (n := 8) Try.laidOut rfl Try.underlying4 (by kernel_rfl) (by kernel_rfl) rfl
    (fun ds h => by
      have h : ds.length = 1 := h
      match ds, h with
      | [a], _ => exact ⟨rfl, rfl, rfl⟩)
    (ss4 5000) (fun x _ => curveBack_true x.1) W base args ds gs before hval hW

theorem CurveBack_holds : Rows.CurveBackSaid :=
  OpenClaim.holds_of_wide 4 Try.f4 rfl rfl rfl rfl rfl rfl rfl ⟨rfl, rfl, rfl, rfl, rfl⟩ rfl rfl rfl rfl rfl (by kernel_rfl) Try.func4 (by kernel_rfl)
    (of_decide_eq_true (by kernel_rfl)) (by unfold Func.isWrapper; first | (rw [if_pos (by decide +kernel)]; kernel_rfl) | (rw [if_neg (by decide +kernel)]; exact ⟨rfl, rfl⟩))
    (fun os started H enc _ => curve_lifted os started H enc)

#print axioms CurveBack_holds

end Go.Proofs.Ytkifmnocomadfaa
