/- What the functions of the program compute. No condition. -/
import Derived.Test.YtkhnailodbkmhaaHwSha1ToSha1
set_option linter.unusedSimpArgs false
set_option linter.unusedVariables false
namespace Go.Proofs.Ytkhnailodbkmhaa
open Go Go.Sx
def rr32 (x : UInt32) (n : Nat) : UInt32 := shl32 x (32 - n) ||| shr32 x n
end Go.Proofs.Ytkhnailodbkmhaa
