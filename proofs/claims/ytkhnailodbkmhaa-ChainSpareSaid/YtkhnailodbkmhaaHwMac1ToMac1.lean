/- What the functions of the program compute. No condition. -/
import Derived.Test.YtkhnailodbkmhaaHwSha15ToSha15
set_option linter.unusedSimpArgs false
set_option linter.unusedVariables false
namespace Go.Proofs.Ytkhnailodbkmhaa
open Go Go.Sx
@[irreducible] def hw (A : List UInt8) : List UInt32 := blks32 H32 A (A.length / 64)
structure HashOK (A : List UInt8) (N i c sp : Nat) (L : List UInt8) : Prop where
  len : A.length = N
  ll : L.length = i + N % 64
  drop : L.drop i = A.drop (64 * (N / 64))
  cap : c = N % 64 + sp
end Go.Proofs.Ytkhnailodbkmhaa
