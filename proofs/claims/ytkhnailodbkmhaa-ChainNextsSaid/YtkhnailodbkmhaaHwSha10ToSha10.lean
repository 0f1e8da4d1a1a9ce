/- What the functions of the program compute. No condition. -/
import Derived.Test.YtkhnailodbkmhaaHwSha9ToSha9
set_option linter.unusedSimpArgs false
set_option linter.unusedVariables false
namespace Go.Proofs.Ytkhnailodbkmhaa
open Go Go.Sx
structure Cf where
  sz : UInt64
  mask : UInt64
  s : List UInt64
  k : List UInt64
  n : Nat
  wd : Nat
def wR (c : Cf) (all : List UInt8) (at_ : Nat) (w : List UInt64) (i : Nat) : Nat → List UInt64
  | 0 => w
  | j + 1 => (wR c all at_ w i j).set i ((wR c all at_ w i j).getD i 0 * 256 + (all.getD (at_ + c.wd * i + j) 0).toUInt64)
def wN (c : Cf) (w : List UInt64) (i : Nat) : UInt64 :=
  (w.getD (i - 16) 0 + thS (w.getD (i - 15) 0) (c.s.getD 6 0) (c.s.getD 7 0) (c.s.getD 8 0) c.sz + w.getD (i - 7) 0 + thS (w.getD (i - 2) 0) (c.s.getD 9 0) (c.s.getD 10 0) (c.s.getD 11 0) c.sz) &&& c.mask
def wRs (c : Cf) (all : List UInt8) (at_ : Nat) : Nat → List UInt64
  | 0 => List.replicate c.n 0
  | i + 1 => if 16 ≤ i then (wRs c all at_ i).set i (wN c (wRs c all at_ i) i) else wR c all at_ (wRs c all at_ i) i c.wd
def oneR (c : Cf) (v : List UInt64) (k w : UInt64) : UInt64 :=
  v.getD 7 0 + thT (v.getD 4 0) (c.s.getD 3 0) (c.s.getD 4 0) (c.s.getD 5 0) c.sz + (v.getD 4 0 &&& v.getD 5 0 ^^^ (c.mask ^^^ v.getD 4 0) &&& v.getD 6 0) + k + w
def twoR (c : Cf) (v : List UInt64) : UInt64 :=
  thT (v.getD 0 0) (c.s.getD 0 0) (c.s.getD 1 0) (c.s.getD 2 0) c.sz + (v.getD 0 0 &&& v.getD 1 0 ^^^ v.getD 0 0 &&& v.getD 2 0 ^^^ v.getD 1 0 &&& v.getD 2 0)
def rdR (c : Cf) (v : List UInt64) (k w : UInt64) : List UInt64 :=
  [(oneR c v k w + twoR c v) &&& c.mask, v.getD 0 0, v.getD 1 0, v.getD 2 0, (v.getD 3 0 + oneR c v k w) &&& c.mask, v.getD 4 0, v.getD 5 0, v.getD 6 0]
def rdsR (c : Cf) (w v : List UInt64) : Nat → List UInt64
  | 0 => v
  | i + 1 => rdR c (rdsR c w v i) (c.k.getD i 0) (w.getD i 0)
def hR (c : Cf) (h v : List UInt64) : Nat → List UInt64
  | 0 => h
  | i + 1 => (hR c h v i).set i (((hR c h v i).getD i 0 + v.getD i 0) &&& c.mask)
def blkR (c : Cf) (h : List UInt64) (all : List UInt8) (at_ : Nat) : List UInt64 := hR c h (rdsR c (wRs c all at_ c.n) h c.n) 8
def blksR (c : Cf) (h : List UInt64) (all : List UInt8) : Nat → List UInt64
  | 0 => h
  | q + 1 => blkR c (blksR c h all q) all (16 * c.wd * q)
def lenR (wd2 : Nat) (t : List UInt8) (n : UInt64) : Nat → List UInt8
  | 0 => t
  | k + 1 => lenR wd2 t n k ++ [if wd2 - 1 - k < 8 then (shr64 (shl64 n 3) (8 * (wd2 - 1 - k))).toUInt8 else 0]
def oR (wd : Nat) (x : UInt64) (out : List UInt8) : Nat → List UInt8
  | 0 => out
  | j + 1 => oR wd x out j ++ [(shr64 x (8 * (wd - 1 - j))).toUInt8]
def outR (wd : Nat) (h : List UInt64) : Nat → List UInt8
  | 0 => []
  | i + 1 => oR wd (h.getD i 0) (outR wd h i) wd
def allR (wd : Nat) (b : List UInt8) (z : Nat) : List UInt8 := lenR (2 * wd) (padT b z) (UInt64.ofInt (b.length : Int)) (2 * wd)
def hashR (c : Cf) (h : List UInt64) (b : List UInt8) (z : Nat) : List UInt8 := outR c.wd (blksR c h (allR c.wd b z) ((allR c.wd b z).length / (16 * c.wd))) 8
theorem wR_length (c : Cf) (all : List UInt8) (a : Nat) (w : List UInt64) (i : Nat) : ∀ j, (wR c all a w i j).length = w.length
  | 0 => rfl
  | j + 1 => by simp only [wR, List.length_set, wR_length c all a w i j]
theorem wRs_length (c : Cf) (all : List UInt8) (a : Nat) : ∀ i, (wRs c all a i).length = c.n
  | 0 => List.length_replicate
  | i + 1 => by
    simp only [wRs]
    split
    · rw [List.length_set, wRs_length c all a i]
    · rw [wR_length, wRs_length c all a i]
theorem rdsR_length (c : Cf) (w : List UInt64) {v : List UInt64} (h : v.length = 8) : ∀ i, (rdsR c w v i).length = 8
  | 0 => h
  | i + 1 => rfl
theorem hR_length (c : Cf) {h : List UInt64} (v : List UInt64) (hh : h.length = 8) : ∀ i, (hR c h v i).length = 8
  | 0 => hh
  | i + 1 => by simp only [hR, List.length_set, hR_length c v hh i]
theorem blksR_length (c : Cf) {h : List UInt64} (all : List UInt8) (hh : h.length = 8) : ∀ q, (blksR c h all q).length = 8
  | 0 => hh
  | q + 1 => hR_length c _ (blksR_length c all hh q) 8
theorem lenR_length (wd2 : Nat) (t : List UInt8) (n : UInt64) : ∀ k, (lenR wd2 t n k).length = t.length + k
  | 0 => rfl
  | k + 1 => by simp only [lenR, List.length_append, lenR_length wd2 t n k, List.length_cons, List.length_nil]; omega
theorem oR_length (wd : Nat) (x : UInt64) (out : List UInt8) : ∀ j, (oR wd x out j).length = out.length + j
  | 0 => rfl
  | j + 1 => by simp only [oR, List.length_append, oR_length wd x out j, List.length_cons, List.length_nil]; omega
theorem outR_length (wd : Nat) (h : List UInt64) : ∀ i, (outR wd h i).length = wd * i
  | 0 => rfl
  | i + 1 => by simp only [outR, oR_length, outR_length wd h i, Nat.mul_succ]
theorem u64_small (i : Nat) (h : i < 100000) : (UInt64.ofInt (i : Int)).toNat = i := by
  simp [UInt64.ofInt]
  omega
@[irreducible] def C32 : Cf := ⟨32, UInt64.ofNat 4294967295, S32, R32, 64, 4⟩
theorem C32_eq : C32 = ⟨32, UInt64.ofNat 4294967295, S32, R32, 64, 4⟩ := by unfold C32; rfl
end Go.Proofs.Ytkhnailodbkmhaa
