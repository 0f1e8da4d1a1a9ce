/- What the functions of the program compute. No condition. -/
import Derived.Test.YtkhnailodbkmhaaHwCh9ToCh9
set_option linter.unusedSimpArgs false
set_option linter.unusedVariables false
namespace Go.Proofs.Ytkhnailodbkmhaa
open Go Go.Sx
def hx2 (lab : UInt8) (p q : List UInt8) : List UInt8 := hmac [lab] (jnB [p, q])
attribute [irreducible] hx2
end Go.Proofs.Ytkhnailodbkmhaa
