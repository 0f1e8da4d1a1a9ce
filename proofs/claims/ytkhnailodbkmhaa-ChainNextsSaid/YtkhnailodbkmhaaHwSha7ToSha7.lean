/- What the functions of the program compute. No condition. -/
import Derived.Test.YtkhnailodbkmhaaHwSha6ToSha6
set_option linter.unusedSimpArgs false
set_option linter.unusedVariables false
namespace Go.Proofs.Ytkhnailodbkmhaa
open Go Go.Sx
@[irreducible] def sha256 (b : List UInt8) : List UInt8 := sum32 (blks32 H32 b (b.length / 64)) (b.drop (64 * (b.length / 64))) (0 + UInt64.ofInt (b.length : Int))
theorem sha256_eq (b : List UInt8) : sha256 b = sum32 (blks32 H32 b (b.length / 64)) (b.drop (64 * (b.length / 64))) (0 + UInt64.ofInt (b.length : Int)) := by unfold sha256; rfl
theorem sha256_length (b : List UInt8) : (sha256 b).length = 32 := by rw [sha256_eq]; exact sum32_length _ _ _
theorem fnPut0 (h : List UInt32) (b : List UInt8) (n : UInt64) (m : Nat) (hh : h.length = 8) (hb : b.length = m) (hmax : m ≤ 100000000) :
    Sx.Fn Γ.P 40 [.ptr 1000 0 none, .slx 1002 0 0 m] [(1000, hashE h .nsl n), (1002, .mem false 0 [(m, .a8 b)])]
      (fun v M => ∃ c, m ≤ c ∧ v = .tup [] ∧ M = [(1000, hashE (blks32 h b (m / 64)) (.sl 1005 0 (64 * (m / 64)) (m - 64 * (m / 64)) (c - 64 * (m / 64))) (n + UInt64.ofInt (m : Int))),
        (1002, .mem false 0 [(m, .a8 b)]), (1005, .mem true (c - m) [(m, .a8 b)])]) := by
  refine Fn.mono (fnPutA h b n m hh hb hmax) ?_
  rintro v M ⟨c, hc, hv, hM⟩
  have hz : ([] : List UInt8).length + m = m := Nat.zero_add m
  rw [hz, List.nil_append] at hM
  rw [hz] at hc
  exact ⟨c, hc, hv, hM⟩
set_option maxRecDepth 100000 in
set_option maxHeartbeats 400000 in
theorem fn38 (b : List UInt8) (m : Nat) (hb : b.length = m) (hmax : m ≤ 100000000) : Sx.Fn Γ.P 38 [.slx 1002 0 0 m] [(1002, .mem false 0 [(m, .a8 b)])]
    (fun v M => v = .a8 (sha256 b) ∧ M = [(1002, .mem false 0 [(m, .a8 b)])]) := by
  refine fn_of (Γ := Γ) (fn := Try.f38) rfl rfl rfl rfl ?_
  have hP := fnPut0 H32 b 0 m H32_length hb hmax
  have hS := fn41 (blks32 H32 b (m / 64)) b (b.drop (64 * (m / 64))) (0 + UInt64.ofInt (m : Int)) m (64 * (m / 64)) (m - 64 * (m / 64)) (blks32_length H32_length _ _) hb (by omega) (by rw [List.take_of_length_le (by rw [List.length_drop]; omega)]) (by omega)
  repeat (refine sd ?_)
  refine Call.intro fn39 [(1001, (1001, 0, none))] rfl trivial rfl trivial rfl ?_
  rintro v M' ⟨rfl, rfl⟩
  repeat (refine sd ?_)
  refine Call.intro hP [(1000, (1001, 0, none)), (1002, (1002, 0, none)), (1005, (1005, 0, none))] rfl fc rfl fc rfl ?_
  rintro v M' ⟨c, hc, rfl, rfl⟩
  repeat (refine sd ?_)
  have hsl := sum32_length (blks32 H32 b (m / 64)) (b.drop (64 * (m / 64))) (0 + UInt64.ofInt (m : Int))
  refine Call.intro hS [(1000, (1001, 0, none)), (1001, (1005, 0, none))] rfl ?_ rfl ?_ rfl ?_
  · exact fc
  · exact fc
  rintro v M' ⟨rfl, rfl⟩
  repeat (refine sd ?_)
  refine Ret.intro (.a8 (sha256 b)) [(1002, .mem false 0 [(m, .a8 b)])] [] rfl ?_ ⟨rfl, rfl⟩ rfl ?_ rfl ?_ rfl
  · exact fc
  · have hs : sha256 b = sum32 (blks32 H32 b (m / 64)) (b.drop (64 * (m / 64))) (0 + UInt64.ofInt (m : Int)) := by rw [sha256_eq, hb]
    exact fc
  · exact fc
end Go.Proofs.Ytkhnailodbkmhaa
