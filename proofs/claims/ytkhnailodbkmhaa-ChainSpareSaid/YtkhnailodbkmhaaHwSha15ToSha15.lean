/- What the functions of the program compute. No condition. -/
import Derived.Test.YtkhnailodbkmhaaHwSha14ToSha14
set_option linter.unusedSimpArgs false
set_option linter.unusedVariables false
namespace Go.Proofs.Ytkhnailodbkmhaa
open Go Go.Sx
def up (l : List UInt32) : List UInt64 := l.map UInt32.toUInt64
end Go.Proofs.Ytkhnailodbkmhaa
