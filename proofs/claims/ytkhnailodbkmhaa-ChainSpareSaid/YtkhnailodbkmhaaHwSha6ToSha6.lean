/- What the functions of the program compute. No condition. -/
import Derived.Test.YtkhnailodbkmhaaHwSha5ToSha5
set_option linter.unusedSimpArgs false
set_option linter.unusedVariables false
namespace Go.Proofs.Ytkhnailodbkmhaa
open Go Go.Sx
def zeroN (r : Nat) : Nat := (119 - r) % 64
def padT (R : List UInt8) (j : Nat) : List UInt8 := R ++ [128] ++ List.replicate j 0
def lenT (t : List UInt8) (n : UInt64) : Nat → List UInt8
  | 0 => t
  | k + 1 => lenT t n k ++ [(shr64 (shl64 n 3) (8 * (7 - k))).toUInt8]
def outW (w : List UInt32) : Nat → List UInt8
  | 0 => List.replicate 32 0
  | i + 1 => (outW w i).set i (shr32 (w.getD (i / 4) 0) (24 - i % 4 * 8)).toUInt8
def tail32 (R : List UInt8) (n : UInt64) : List UInt8 := lenT (padT R (zeroN R.length)) n 8
def sum32 (h : List UInt32) (R : List UInt8) (n : UInt64) : List UInt8 := outW (blks32 h (tail32 R n) ((tail32 R n).length / 64)) 32
theorem outW_length (w : List UInt32) : ∀ i, (outW w i).length = 32
  | 0 => List.length_replicate
  | i + 1 => by simp only [outW, List.length_set, outW_length w i]
theorem sum32_length (h : List UInt32) (R : List UInt8) (n : UInt64) : (sum32 h R n).length = 32 := outW_length _ _
end Go.Proofs.Ytkhnailodbkmhaa
