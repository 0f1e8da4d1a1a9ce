/- What the functions of the program compute. No condition. -/
import Derived.Test.YtkhnailodbkmhaaHwSha13ToSha13
set_option linter.unusedSimpArgs false
set_option linter.unusedVariables false
namespace Go.Proofs.Ytkhnailodbkmhaa
open Go Go.Sx
theorem lenR_app (w : Nat) (n : UInt64) (t : List UInt8) : ∀ k, lenR w t n k = t ++ lenR w [] n k
  | 0 => by simp [lenR]
  | k + 1 => by simp only [lenR]; rw [lenR_app w n t k, List.append_assoc]
theorem lenT_app (n : UInt64) (t : List UInt8) : ∀ k, lenT t n k = t ++ lenT [] n k
  | 0 => by simp [lenT]
  | k + 1 => by simp only [lenT]; rw [lenT_app n t k, List.append_assoc]
theorem lenR8 (n : UInt64) : lenR 8 [] n 8 = lenT [] n 8 := by kernel_rfl
theorem take_get {b : List UInt8} {a n j : Nat} (h : j < n) : ((b.drop a).take n).getD j 0 = b.getD (a + j) 0 := by
  rw [List.getD_eq_getElem?_getD, List.getElem?_take, if_pos h, List.getElem?_drop, List.getD_eq_getElem?_getD]
theorem len8 {α : Type} {l : List α} (h : l.length = 8) : ∃ a0 a1 a2 a3 a4 a5 a6 a7, l = [a0, a1, a2, a3, a4, a5, a6, a7] := by
  match l, h with
  | [a0, a1, a2, a3, a4, a5, a6, a7], _ => exact ⟨a0, a1, a2, a3, a4, a5, a6, a7, rfl⟩
end Go.Proofs.Ytkhnailodbkmhaa
