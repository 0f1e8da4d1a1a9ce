/- What the functions of the program compute. No condition. -/
import Derived.Test.YtkhnailodbkmhaaHwCh5ToCh5
set_option linter.unusedSimpArgs false
set_option linter.unusedVariables false
namespace Go.Proofs.Ytkhnailodbkmhaa
open Go Go.Sx
theorem kpF_lt {l : List Kp} {x : Kp} {q : Nat} (h : q < l.length) : kpF (l ++ [x]) q = kpF l q := by
  unfold kpF; rw [getD_app_lt kp0 h]
theorem kpF_at (l : List Kp) (x : Kp) : kpF (l ++ [x]) l.length = rowK x := by
  unfold kpF; rw [getD_app_at]; rfl
theorem kpF_take (l : List Kp) {n q : Nat} (h : q < n) : kpF (l.take n) q = kpF l q := by
  unfold kpF; rw [getD_take_lt kp0 h]
theorem appF_kp {A : List Kp} {x : Kp} {k : Nat} {G : Nat → List (Nat × SV)} (hk : A.length = k) (hG : G 0 = rowK x) : ∀ q, q < k + 1 → kpF (A ++ [x]) q = appF k (kpF A) G q := by
  subst hk
  intro q hq
  rcases Nat.lt_or_ge q A.length with h | h
  · rw [appF_lt h, kpF_lt h]
  · obtain rfl : q = A.length := by omega
    rw [appF_ge h, kpF_at, Nat.sub_self, hG]
end Go.Proofs.Ytkhnailodbkmhaa
