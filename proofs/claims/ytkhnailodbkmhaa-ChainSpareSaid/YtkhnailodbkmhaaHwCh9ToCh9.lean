/- What the functions of the program compute. No condition. -/
import Derived.Test.YtkhnailodbkmhaaHwCh8ToCh8
set_option linter.unusedSimpArgs false
set_option linter.unusedVariables false
namespace Go.Proofs.Ytkhnailodbkmhaa
open Go Go.Sx
def hx1 (lab : UInt8) (p : List UInt8) : List UInt8 := hmac [lab] (jnB [p])
theorem hx1_eq (lab : UInt8) (p : List UInt8) : hx1 lab p = hmac [lab] (jnB [p]) := rfl
attribute [irreducible] hx1
theorem hx1_len (lab : UInt8) (p : List UInt8) : (hx1 lab p).length = 32 := by rw [hx1_eq]; exact hmac_length _ _
end Go.Proofs.Ytkhnailodbkmhaa
