/- What the functions of the program compute. No condition. -/
import Derived.Test.YtkhnailodbkmhaaHwSha4ToSha4
set_option linter.unusedSimpArgs false
set_option linter.unusedVariables false
namespace Go.Proofs.Ytkhnailodbkmhaa
open Go Go.Sx
@[irreducible] def H32 : List UInt32 := [UInt32.ofNat 1779033703, UInt32.ofNat 3144134277, UInt32.ofNat 1013904242, UInt32.ofNat 2773480762, UInt32.ofNat 1359893119, UInt32.ofNat 2600822924, UInt32.ofNat 528734635, UInt32.ofNat 1541459225]
def blks32 (h : List UInt32) (b : List UInt8) : Nat → List UInt32
  | 0 => h
  | q + 1 => blk32 (blks32 h b q) ((b.drop (64 * q)).take 64)
end Go.Proofs.Ytkhnailodbkmhaa
