/- What the functions of the program compute. No condition. -/
import Derived.Test.YtkhnailodbkmhaaHwSha9ToSha9
set_option linter.unusedSimpArgs false
set_option linter.unusedVariables false
namespace Go.Proofs.Ytkhnailodbkmhaa
open Go Go.Sx
structure Cf where
  sz : UInt64
  mask : UInt64
  s : List UInt64
  k : List UInt64
  n : Nat
  wd : Nat
def hR (c : Cf) (h v : List UInt64) : Nat → List UInt64
  | 0 => h
  | i + 1 => (hR c h v i).set i (((hR c h v i).getD i 0 + v.getD i 0) &&& c.mask)
end Go.Proofs.Ytkhnailodbkmhaa
