/- What the functions of the program compute. No condition. -/
import Derived.Test.YtkhnailodbkmhaaHwSha1ToSha1
set_option linter.unusedSimpArgs false
set_option linter.unusedVariables false
namespace Go.Proofs.Ytkhnailodbkmhaa
open Go Go.Sx
def rr32 (x : UInt32) (n : Nat) : UInt32 := shl32 x (32 - n) ||| shr32 x n
theorem cnt32 : ∀ n : Nat, n < 32 → 0 < n → (UInt64.ofInt (-(n : Int)) &&& 31).toNat = 32 - n ∧ ((32 : UInt64) - (UInt64.ofInt (-(n : Int)) &&& 31)).toNat = n := by decide
set_option maxRecDepth 100000 in
theorem fn54 (x : UInt32) (n : Nat) (h : n < 32) (h0 : 0 < n) : Sx.Fn Γ.P 54 [.u32 x, .i .i64 (-(n : Int))] [] (fun v _ => v = .u32 (rr32 x n)) := by
  refine fn_of (Γ := Γ) (fn := Try.f54) rfl rfl rfl rfl ?_
  refine Ret.intro (.u32 (rr32 x n)) [] [] rfl trivial rfl rfl ?_ rfl trivial rfl
  obtain ⟨e1, e2⟩ := cnt32 n h h0
  show rr32 x n = shl32 x (UInt64.ofInt (-(n : Int)) &&& 31).toNat ||| shr32 x ((32 : UInt64) - (UInt64.ofInt (-(n : Int)) &&& 31)).toNat
  rw [e1, e2]; rfl
end Go.Proofs.Ytkhnailodbkmhaa
