/-
  No cell of these rows narrows 'for every input' (looked for: loops, veiled, ifaces, maps, wideKeys, modest, calm, conditions, laid).
  DERIVED. THE GIVEN ROWS OF THIS SEAT. 3 by the template 'for every input the law returns true; each argument reads behind the call as it read before'; 0 by the template 'total and deterministic' (their statements: YtkifmnocomadfaaTotals.lean).
  GIVEN WITH THE SEED: the statements are not yours to turn. If you find one false, say at which input.
  Laid BY PROGRAM, IN A SANDBOX (cutbox-rows.mjs): the forced cells as the released guide's own fill.sh prints them over the translation cb8739dc0f148b0a… (all of the seat's roots in one cut). By AI agents, Wed Nov 11 2026. No macro, syntax, notation, axiom, sorry.
-/
import Derived.Test.YtkifmnocomadfaaChecked
import GoSem.Claim
import GoSem.ClaimJoined
import GoSem.ClaimMapViews
import Derived.JoinedTies
import Derived.KernelRfl
namespace Go.Proofs.Ytkifmnocomadfaa
/- THE CELL 'sum', in the pinned program and in every row, IS THE sha256 OF THE DUMP (.gsa) THAT YtkifmnocomadfaaProg.lean LOADS. Nothing in Lean hashes anything: it is a label: what it is worth is what the hold of that sum in a sandbox is worth. -/
noncomputable def Try.pinned : Pinned := { name := "ytkifmnocomadfaa", sum := "cb8739dc0f148b0a89f25917a7fa37f9a6e09b357f0d1d8b4f6bc8f83279dc1b", checked := Try.checked }
namespace Rows
def none {H : Type} : Left H := { results := [], args := [] }

/-- 'poundagelaw19.LookupIs': WHATEVER THE INPUT: true; the input reads as it did. -/
def lookupIsSpec : ChangeSpec := { name := "lookupIs", fn := fun _ => fun
  | [d1, d2, d3] => { results := [.lit (.bool true)], args := [d1, d2, d3] }
  | _ => none }
def lookupIsRow : OpenClaim := { program := "ytkifmnocomadfaa", sum := "cb8739dc0f148b0a89f25917a7fa37f9a6e09b357f0d1d8b4f6bc8f83279dc1b", func := "poundage/poundagelaw19.LookupIs", spec := "lookupIs", unfollowed := true, recurses := true, apart := false }
def LookupIsSaid : Prop := lookupIsRow.holds Try.pinned (OpenSpec.ofChange lookupIsSpec)

/-- ITS FALSE NEIGHBOUR: 'it returns false'. Refute it at one input. -/
def lookupIsWrong : ChangeSpec := { name := "lookupIs", fn := fun _ => fun
  | [d1, d2, d3] => { results := [.lit (.bool false)], args := [d1, d2, d3] }
  | _ => none }
def LookupIsWrongFalsely : Prop := lookupIsRow.holds Try.pinned (OpenSpec.ofChange lookupIsWrong)

/-- 'poundagelaw15.CurveBack': WHATEVER THE INPUT: true; the input reads as it did. -/
def curveBackSpec : ChangeSpec := { name := "curveBack", fn := fun _ => fun
  | [d] => { results := [.lit (.bool true)], args := [d] }
  | _ => none }
def curveBackRow : OpenClaim := { program := "ytkifmnocomadfaa", sum := "cb8739dc0f148b0a89f25917a7fa37f9a6e09b357f0d1d8b4f6bc8f83279dc1b", func := "poundage/poundagelaw15.CurveBack", spec := "curveBack", unfollowed := true, recurses := true, apart := false }
def CurveBackSaid : Prop := curveBackRow.holds Try.pinned (OpenSpec.ofChange curveBackSpec)

/-- ITS FALSE NEIGHBOUR: 'it returns false'. Refute it at one input. -/
def curveBackWrong : ChangeSpec := { name := "curveBack", fn := fun _ => fun
  | [d] => { results := [.lit (.bool false)], args := [d] }
  | _ => none }
def CurveBackWrongFalsely : Prop := curveBackRow.holds Try.pinned (OpenSpec.ofChange curveBackWrong)

/-- 'poundagelaw22.PairGaps': WHATEVER THE INPUT: true; the input reads as it did. -/
def pairGapsSpec : ChangeSpec := { name := "pairGaps", fn := fun _ => fun
  | [d1, d2, d3, d4] => { results := [.lit (.bool true)], args := [d1, d2, d3, d4] }
  | _ => none }
def pairGapsRow : OpenClaim := { program := "ytkifmnocomadfaa", sum := "cb8739dc0f148b0a89f25917a7fa37f9a6e09b357f0d1d8b4f6bc8f83279dc1b", func := "poundage/poundagelaw22.PairGaps", spec := "pairGaps", unfollowed := true, recurses := true, apart := false }
def PairGapsSaid : Prop := pairGapsRow.holds Try.pinned (OpenSpec.ofChange pairGapsSpec)

/-- ITS FALSE NEIGHBOUR: 'it returns false'. Refute it at one input. -/
def pairGapsWrong : ChangeSpec := { name := "pairGaps", fn := fun _ => fun
  | [d1, d2, d3, d4] => { results := [.lit (.bool false)], args := [d1, d2, d3, d4] }
  | _ => none }
def PairGapsWrongFalsely : Prop := pairGapsRow.holds Try.pinned (OpenSpec.ofChange pairGapsWrong)

/- THE SECOND FORM. 'bulk': how many values and letters a reading holds, each counted each time it is reached (what is shared counts as often as it is met; a slice's spare places count too). A statement '..UptoSaid' is the law's where the arguments, and the package variables that the reading takes, are together of bulk at most 1048576: NARROWER than '..Said'. Prove '..Said' where nothing that the law and all that it calls make is longer than what came in: it says more and counts as full. Else prove '..UptoSaid'. A law counts once. -/
mutual
def uptoBulk {H : Type} : DataW H → Nat
  | .lit (.string bytes) => bytes.length + 1
  | .lit _ => 1
  | .nil => 1
  | .ptr d => uptoBulk d + 1
  | .slice elems spare => uptoBulkAll elems + uptoBulkAll spare + 1
  | .agg parts => uptoBulkAll parts + 1
  | .iface _ d => uptoBulk d + 1
  | .map entries => uptoBulkEntries entries + 1
  | .held _ => 1
def uptoBulkAll {H : Type} : List (DataW H) → Nat
  | [] => 0
  | d :: r => uptoBulk d + uptoBulkAll r
def uptoBulkEntries {H : Type} : List (Lit × DataW H) → Nat
  | [] => 0
  | x :: r => uptoBulkEntry x + uptoBulkEntries r
def uptoBulkEntry {H : Type} : Lit × DataW H → Nat
  | (.string bytes, d) => bytes.length + uptoBulk d + 1
  | (_, d) => uptoBulk d + 1
 end
def uptoSmall : (H : Type) → List (DataW H) → Bool := fun _ ds => decide (uptoBulkAll ds ≤ 1048576)
def OpenSpec.upto (s : _root_.Go.ChangeSpec) : _root_.Go.OpenSpec := { _root_.Go.OpenSpec.ofChange s with cond := some uptoSmall }

/-- 'poundagelaw19.LookupIs', WHERE WHAT IT READS IS OF BULK AT MOST 1048576: true; the input reads as it did. -/
def lookupIsUptoRow : OpenClaim := { program := "ytkifmnocomadfaa", sum := "cb8739dc0f148b0a89f25917a7fa37f9a6e09b357f0d1d8b4f6bc8f83279dc1b", func := "poundage/poundagelaw19.LookupIs", spec := "lookupIs", unfollowed := true, recurses := true, apart := false, narrowed := true }
def LookupIsUptoSaid : Prop := lookupIsUptoRow.holds Try.pinned (OpenSpec.upto lookupIsSpec)

/-- 'poundagelaw15.CurveBack', WHERE WHAT IT READS IS OF BULK AT MOST 1048576: true; the input reads as it did. -/
def curveBackUptoRow : OpenClaim := { program := "ytkifmnocomadfaa", sum := "cb8739dc0f148b0a89f25917a7fa37f9a6e09b357f0d1d8b4f6bc8f83279dc1b", func := "poundage/poundagelaw15.CurveBack", spec := "curveBack", unfollowed := true, recurses := true, apart := false, narrowed := true }
def CurveBackUptoSaid : Prop := curveBackUptoRow.holds Try.pinned (OpenSpec.upto curveBackSpec)

/-- 'poundagelaw22.PairGaps', WHERE WHAT IT READS IS OF BULK AT MOST 1048576: true; the input reads as it did. -/
def pairGapsUptoRow : OpenClaim := { program := "ytkifmnocomadfaa", sum := "cb8739dc0f148b0a89f25917a7fa37f9a6e09b357f0d1d8b4f6bc8f83279dc1b", func := "poundage/poundagelaw22.PairGaps", spec := "pairGaps", unfollowed := true, recurses := true, apart := false, narrowed := true }
def PairGapsUptoSaid : Prop := pairGapsUptoRow.holds Try.pinned (OpenSpec.upto pairGapsSpec)

end Rows
end Go.Proofs.Ytkifmnocomadfaa
