/- The types that the program's values have. -/
import Derived.Test.YtkifmnocomadfaaGVh
import Derived.Test.YtkifmnocomadfaaGVe
import Derived.Test.YtkifmnocomadfaaGTy
namespace Go.Proofs.Ytkifmnocomadfaa
open Go.V
end Go.Proofs.Ytkifmnocomadfaa
