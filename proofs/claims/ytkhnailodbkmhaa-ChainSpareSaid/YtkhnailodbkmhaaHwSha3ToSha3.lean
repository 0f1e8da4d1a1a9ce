/- What the functions of the program compute. No condition. -/
import Derived.Test.YtkhnailodbkmhaaHwSha2ToSha2
set_option linter.unusedSimpArgs false
set_option linter.unusedVariables false
namespace Go.Proofs.Ytkhnailodbkmhaa
open Go Go.Sx
def wS32 (b : List UInt8) : Nat → List UInt32
  | 0 => List.replicate 64 0
  | i + 1 => (wS32 b i).set i (shl32 (b.getD (4 * i) 0).toUInt32 24 ||| shl32 (b.getD (4 * i + 1) 0).toUInt32 16 ||| shl32 (b.getD (4 * i + 2) 0).toUInt32 8 ||| (b.getD (4 * i + 3) 0).toUInt32)
def wN32 (w : List UInt32) (i : Nat) : UInt32 :=
  w.getD (i - 16) 0 + w.getD (i - 7) 0 + (rr32 (w.getD (i - 15) 0) 7 ^^^ rr32 (w.getD (i - 15) 0) 18 ^^^ shr32 (w.getD (i - 15) 0) 3) + (rr32 (w.getD (i - 2) 0) 17 ^^^ rr32 (w.getD (i - 2) 0) 19 ^^^ shr32 (w.getD (i - 2) 0) 10)
def wE32 (w : List UInt32) : Nat → List UInt32
  | 0 => w
  | k + 1 => (wE32 w k).set (16 + k) (wN32 (wE32 w k) (16 + k))
def one32 (v : List UInt32) (k w : UInt32) : UInt32 :=
  v.getD 7 0 + (rr32 (v.getD 4 0) 6 ^^^ rr32 (v.getD 4 0) 11 ^^^ rr32 (v.getD 4 0) 25) + (v.getD 4 0 &&& v.getD 5 0 ^^^ ~~~(v.getD 4 0) &&& v.getD 6 0) + k + w
def two32 (v : List UInt32) : UInt32 :=
  (rr32 (v.getD 0 0) 2 ^^^ rr32 (v.getD 0 0) 13 ^^^ rr32 (v.getD 0 0) 22) + (v.getD 0 0 &&& v.getD 1 0 ^^^ v.getD 0 0 &&& v.getD 2 0 ^^^ v.getD 1 0 &&& v.getD 2 0)
def rd32 (v : List UInt32) (k w : UInt32) : List UInt32 :=
  [one32 v k w + two32 v, v.getD 0 0, v.getD 1 0, v.getD 2 0, v.getD 3 0 + one32 v k w, v.getD 4 0, v.getD 5 0, v.getD 6 0]
def rds32 (w v : List UInt32) : Nat → List UInt32
  | 0 => v
  | i + 1 => rd32 (rds32 w v i) (K32.getD i 0) (w.getD i 0)
def hA32 (h v : List UInt32) : Nat → List UInt32
  | 0 => h
  | i + 1 => (hA32 h v i).set i ((hA32 h v i).getD i 0 + v.getD i 0)
def wAll32 (b : List UInt8) : List UInt32 := wE32 (wS32 b 16) 48
def blk32 (h : List UInt32) (b : List UInt8) : List UInt32 := hA32 h (rds32 (wAll32 b) h 64) 8
end Go.Proofs.Ytkhnailodbkmhaa
