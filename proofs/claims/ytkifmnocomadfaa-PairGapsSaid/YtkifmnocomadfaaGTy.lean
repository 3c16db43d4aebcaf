/- The types that the program's values have. -/
import Derived.Test.YtkifmnocomadfaaGVe
import Derived.Test.YtkifmnocomadfaaProg
namespace Go.Proofs.Ytkifmnocomadfaa
open Go.V
abbrev t146 : Ty := (.pair (.int .i64) (.pair (.int .i64) .unit))
abbrev D146 : Type := (Int × (Int × Unit))
abbrev t87 : Ty := (.pair (.int .i64) t146)
abbrev D87 : Type := (Int × D146)
abbrev t67 : Ty := (.pair .str (.pair .str t87))
abbrev D67 : Type := (ByteArray × (ByteArray × D87))
abbrev t113 : Ty := (.pair (.int .i64) (.pair (.int .i64) (.pair (.int .i64) (.pair (.int .i64) (.pair (.int .i64) (.pair (.int .i64) (.pair (.sl 147 t146) (.pair (.int .i64) (.pair (.sl 149 t87) .unit)))))))))
abbrev D113 : Type := (Int × (Int × (Int × (Int × (Int × (Int × ((List D146) × (Int × ((List D87) × Unit)))))))))
abbrev t25 : Ty := (.pair .str (.pair (.int .i64) (.pair (.int .i64) (.pair (.sl 68 t67) (.pair (.sl 110 t87) (.pair (.sl 114 t113) .unit))))))
abbrev D25 : Type := (ByteArray × (Int × (Int × ((List D67) × ((List D87) × ((List D113) × Unit))))))
abbrev t77 : Ty := (.pair (.int .i64) (.pair (.int .i64) t87))
abbrev D77 : Type := (Int × (Int × D87))
abbrev t52 : Ty := (.pair (.int .i64) (.pair (.sl 78 t77) .unit))
abbrev D52 : Type := (Int × ((List D77) × Unit))
abbrev t40 : Ty := (.pair (.int .i64) (.pair (.int .i64) (.pair (.int .i64) (.pair (.sl 53 t52) .unit))))
abbrev D40 : Type := (Int × (Int × (Int × ((List D52) × Unit))))
abbrev t69 : Ty := (.pair (.int .i64) (.pair (.int .i64) (.pair t40 (.pair t40 .unit))))
abbrev D69 : Type := (Int × (Int × (D40 × (D40 × Unit))))
abbrev t159 : Ty := (.pair .bool .unit)
abbrev D159 : Type := (Bool × Unit)
abbrev t31 : Ty := (.pair .str (.pair (.int .i64) (.pair (.int .i64) (.pair (.sl 68 t67) (.pair (.sl 41 t40) .unit)))))
abbrev D31 : Type := (ByteArray × (Int × (Int × ((List D67) × ((List D40) × Unit)))))
abbrev t142 : Ty := (.pair .bool (.pair (.int .u64) (.pair (.int .u64) .unit)))
abbrev D142 : Type := (Bool × (Int × (Int × Unit)))
abbrev t48 : Ty := (.pair (.sl 88 t87) .unit)
abbrev D48 : Type := ((List D87) × Unit)
abbrev t7 : Ty := (.pair (.int .i64) (.pair (.int .i64) (.pair .bool (.pair (.int .u8) .unit))))
abbrev D7 : Type := (Int × (Int × (Bool × (Int × Unit))))
abbrev t13 : Ty := (.pair .str (.pair (.int .u64) .unit))
abbrev D13 : Type := (ByteArray × (Int × Unit))

def subc : List Bool → Code → Code
  | [], c => c
  | b :: r, .seq x y => subc r (cond b y x)
  | b :: r, .cond _ x y => subc r (cond b y x)
  | _ :: r, .block _ x => subc r x
  | _ :: r, .loop x => subc r x
  | _, c => c
end Go.Proofs.Ytkifmnocomadfaa
