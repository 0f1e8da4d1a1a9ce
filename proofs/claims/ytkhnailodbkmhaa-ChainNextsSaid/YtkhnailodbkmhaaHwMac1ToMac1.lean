/- What the functions of the program compute. No condition. -/
import Derived.Test.YtkhnailodbkmhaaHwSha15ToSha15
set_option linter.unusedSimpArgs false
set_option linter.unusedVariables false
namespace Go.Proofs.Ytkhnailodbkmhaa
open Go Go.Sx
@[irreducible] def hw (A : List UInt8) : List UInt32 := blks32 H32 A (A.length / 64)
theorem hw_eq (A : List UInt8) : hw A = blks32 H32 A (A.length / 64) := by unfold hw; rfl
theorem hw_length (A : List UInt8) : (hw A).length = 8 := by rw [hw_eq]; exact blks32_length H32_length _ _
theorem ofInt_nat_add (a b : Nat) : UInt64.ofInt (a : Int) + UInt64.ofInt (b : Int) = UInt64.ofInt ((a + b : Nat) : Int) := by
  rw [Int.natCast_add, UInt64.ofInt_add]
theorem hw_app {A b : List UInt8} {N m : Nat} (hA : A.length = N) (hb : b.length = m) : blks32 (hw A) (A.drop (64 * (N / 64)) ++ b) ((N % 64 + m) / 64) = hw (A ++ b) := by
  rw [hw_eq, hw_eq, List.length_append, hA, hb]
  have h1 : (A.take (64 * (N / 64))).length = 64 * (N / 64) := by rw [List.length_take]; omega
  have h2 := blks32_app (h := H32) (A := A.take (64 * (N / 64))) (T := A.drop (64 * (N / 64)) ++ b) h1 ((N % 64 + m) / 64)
  rw [← List.append_assoc, List.take_append_drop, blks32_take (by omega)] at h2
  rw [← h2]
  congr 1
  omega
structure HashOK (A : List UInt8) (N i c sp : Nat) (L : List UInt8) : Prop where
  len : A.length = N
  ll : L.length = i + N % 64
  drop : L.drop i = A.drop (64 * (N / 64))
  cap : c = N % 64 + sp
theorem fnPutN (b : List UInt8) (m : Nat) (hb : b.length = m) (hmax : m ≤ 100000000) :
    Sx.Fn Γ.P 40 [.ptr 1000 0 none, .slx 1002 0 0 m] [(1000, hashE H32 .nsl 0), (1002, .mem false 0 [(m, .a8 b)])]
      (fun v M => ∃ i c sp L, HashOK b m i c sp L ∧ v = .tup [] ∧ M = [(1000, hashE (hw b) (.sl 1005 0 i (m % 64) c) (UInt64.ofInt (m : Int))), (1002, .mem false 0 [(m, .a8 b)]), (1005, .mem true sp [(i + m % 64, .a8 L)])]) := by
  refine Fn.mono (fnPut0 H32 b 0 m H32_length hb hmax) ?_
  rintro v M ⟨c, hc, hv, hM⟩
  refine ⟨64 * (m / 64), c - 64 * (m / 64), c - m, b, ⟨hb, by omega, rfl, by omega⟩, hv, ?_⟩
  rw [hM, hw_eq, hb, show m - 64 * (m / 64) = m % 64 by omega, show 64 * (m / 64) + m % 64 = m by omega]
  rw [UInt64.zero_add]
theorem fnPutC (A b : List UInt8) (N m i c sp : Nat) (L : List UInt8) (h : HashOK A N i c sp L) (hb : b.length = m) (hmax : m ≤ 99999900) :
    Sx.Fn Γ.P 40 [.ptr 1000 0 none, .slx 1002 0 0 m] [(1000, hashE (hw A) (.sl 1001 0 i (N % 64) c) (UInt64.ofInt (N : Int))), (1001, .mem true sp [(i + N % 64, .a8 L)]), (1002, .mem false 0 [(m, .a8 b)])]
      (fun v M => ∃ i' c' sp' L', HashOK (A ++ b) (N + m) i' c' sp' L' ∧ v = .tup [] ∧
        M = [(1000, hashE (hw (A ++ b)) (.sl 1005 0 i' ((N + m) % 64) c') (UInt64.ofInt ((N + m : Nat) : Int))), (1001, .dead), (1002, .mem false 0 [(m, .a8 b)]), (1005, .mem true sp' [(i' + (N + m) % 64, .a8 L')])]) := by
  obtain ⟨h1, h2, h3, h4⟩ := h
  refine Fn.mono (fnPutB (hw A) L b (L.drop i) (UInt64.ofInt (N : Int)) i (N % 64) c sp m (hw_length A) h2 rfl h4 hb (by omega)) ?_
  rintro v M ⟨c', hc, hv, hM⟩
  have hl : (L.drop i).length = N % 64 := by rw [List.length_drop]; omega
  rw [hl] at hM hc
  rw [h3] at hM
  refine ⟨64 * ((N % 64 + m) / 64), c' - 64 * ((N % 64 + m) / 64), c' - (N % 64 + m), A.drop (64 * (N / 64)) ++ b, ⟨by rw [List.length_append, h1, hb], ?_, ?_, by omega⟩, hv, ?_⟩
  · rw [List.length_append, List.length_drop, h1, hb]; omega
  · rw [List.drop_append, List.drop_append, List.drop_drop, List.length_drop, h1]
    rw [show 64 * (N / 64) + 64 * ((N % 64 + m) / 64) = 64 * ((N + m) / 64) by omega, show 64 * ((N % 64 + m) / 64) - (N - 64 * (N / 64)) = 64 * ((N + m) / 64) - N by omega]
  · rw [hM, hw_app h1 hb, ofInt_nat_add, show N % 64 + m - 64 * ((N % 64 + m) / 64) = (N + m) % 64 by omega, show 64 * ((N % 64 + m) / 64) + (N + m) % 64 = N % 64 + m by omega]
    rfl
theorem fnSumC (A : List UInt8) (N i c sp : Nat) (L : List UInt8) (h : HashOK A N i c sp L) :
    Sx.Fn Γ.P 41 [.ptr 1000 0 none] [(1000, .mem false 0 [(8, .a32 (hw A)), (1, .slx 1001 0 i (N % 64)), (1, .u64 (UInt64.ofInt (N : Int)))]), (1001, .mem false 0 [(i + N % 64, .a8 L)])]
      (fun v M => v = .a8 (sha256 A) ∧ M = [(1000, .mem false 0 [(8, .a32 (hw A)), (1, .slx 1001 0 i (N % 64)), (1, .u64 (UInt64.ofInt (N : Int)))]), (1001, .mem false 0 [(i + N % 64, .a8 L)])]) := by
  obtain ⟨h1, h2, h3, h4⟩ := h
  have e : (L.drop i).take (N % 64) = A.drop (64 * (N / 64)) := by
    rw [h3, List.take_of_length_le]
    rw [List.length_drop, h1]; omega
  refine Fn.mono (fn41 (hw A) L (A.drop (64 * (N / 64))) (UInt64.ofInt (N : Int)) (i + N % 64) i (N % 64) (hw_length A) h2 (Nat.le_refl _) e (by omega)) ?_
  rintro v M ⟨hv, hM⟩
  refine ⟨?_, hM⟩
  rw [hv, sha256_eq, h1, ← h1, ← hw_eq, h1, UInt64.zero_add]
end Go.Proofs.Ytkhnailodbkmhaa
