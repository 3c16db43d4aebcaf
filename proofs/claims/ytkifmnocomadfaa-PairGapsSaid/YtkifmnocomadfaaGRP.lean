/- PairGaps returns true for every two cores, day and basket, and its arguments read behind the call as before. No conditions. -/
import Derived.Test.YtkifmnocomadfaaRows
import Derived.Test.YtkifmnocomadfaaGPc
namespace Go.Proofs.Ytkifmnocomadfaa
open Go.ChangeShapes Go.WideShapes Go.ChangeAt Go.RowKit

theorem Try.own : ownKnob Try.prog.godebug = none := by kernel_rfl
theorem Try.laidOut : laidOutB Try.prog = true := by kernel_rfl

set_option maxRecDepth 100000 in
theorem pair_lifted (os : Os) (started : os.Started) (H : Type) (enc : TypeId × Value → H) :
    ReturnsInHanded {} Try.checked os 5 .any (Rows.pairGapsSpec.pre6 enc Try.prog Try.f5 Rows.pairGapsRow.domain false) (Rows.pairGapsSpec.post enc Try.prog Try.f5 false true false false) := by
  refine returnsInHanded_of_change (C := Try.checked) Try.own started (by kernel_rfl) Try.func5
    (ChangeSpec.witness6 (enc := enc) (C := Try.checked) false ⟨#[], #[.agg #[.string ByteArray.empty, .int .i64 0, .int .i64 0, .slice none 0 0, .slice none 0 0, .slice none 0 0], .agg #[.string ByteArray.empty, .int .i64 0, .int .i64 0, .slice none 0 0, .slice none 0 0, .slice none 0 0], .int .i64 0, .slice none 0 0], []⟩ 8 (by kernel_rfl) (by kernel_rfl) (by kernel_rfl) (by kernel_rfl)) ?_
  intro W base args ds gs before hval hW hcnd _
  exact Go.V.law_contract (P := Try.prog) (ps := ps5) (tb := 4) (n := 8) Try.laidOut rfl Try.underlying4 (by kernel_rfl) (by kernel_rfl) rfl
    (fun ds h => by
      have h : ds.length = 4 := h
      match ds, h with
      | [a, b, c, d], _ => exact ⟨rfl, rfl, rfl⟩)
    (ss5 5000) (fun x hx => pairGaps_true x.1 x.2.1 x.2.2.1 x.2.2.2.1 hx) W base args ds gs before hval hW

theorem PairGaps_holds : Rows.PairGapsSaid :=
  OpenClaim.holds_of_wide 5 Try.f5 rfl rfl rfl rfl rfl rfl rfl ⟨rfl, rfl, rfl, rfl, rfl⟩ rfl rfl rfl rfl rfl (by kernel_rfl) Try.func5 (by kernel_rfl)
    (of_decide_eq_true (by kernel_rfl)) (by unfold Func.isWrapper; first | (rw [if_pos (by decide +kernel)]; kernel_rfl) | (rw [if_neg (by decide +kernel)]; exact ⟨rfl, rfl⟩))
    (fun os started H enc _ => pair_lifted os started H enc)

#print axioms PairGaps_holds

end Go.Proofs.Ytkifmnocomadfaa
