/- What the functions of the program compute. No condition. -/
import Derived.Test.YtkhnailodbkmhaaHwSha11ToSha11
set_option linter.unusedSimpArgs false
set_option linter.unusedVariables false
namespace Go.Proofs.Ytkhnailodbkmhaa
open Go Go.Sx
@[irreducible] def rShort (b : List UInt8) : List UInt8 := hashR C32 F32 b (zeroN (b.length % 64))
theorem rShort_eq (b : List UInt8) : rShort b = hashR C32 F32 b (zeroN (b.length % 64)) := by unfold rShort; rfl
theorem rShort_length (b : List UInt8) : (rShort b).length = 32 := by
  rw [rShort_eq]; unfold hashR; rw [outR_length, C32_eq]; rfl
theorem copy_all {n : Nat} {x old : List UInt8} (hx : x.length = n) (ho : old.length = n) :
    x = List.take ((none : Option Nat).getD 0) old ++ List.take (min (List.take n (List.drop (addI none 0) x)).length n) (List.take n (List.drop (addI none 0) x)) ++
      List.drop ((none : Option Nat).getD 0 + min (List.take n (List.drop (addI none 0) x)).length n) old := by
  have e : List.take n (List.drop (addI none 0) x) = x := by
    rw [addI_eq, Option.getD_none, Nat.zero_add, List.drop_zero, List.take_of_length_le (by omega)]
  rw [e, hx, Nat.min_self, Option.getD_none, List.take_zero, List.nil_append, List.take_of_length_le (by omega), List.drop_of_length_le (by omega), List.append_nil]
set_option maxRecDepth 100000 in
set_option maxHeartbeats 400000 in
theorem fn45 (b : List UInt8) (m : Nat) (hb : b.length = m) (hmax : m ≤ 100000000) : Sx.Fn Γ.P 45 [.slx 1000 0 0 m] [(1000, .mem false 0 [(m, .a8 b)])]
    (fun v M => v = .a8 (rShort b) ∧ M = [(1000, .mem false 0 [(m, .a8 b)])]) := by
  have hH := fnHash32 b m hb hmax
  have hl := rShort_length b
  rw [show hashR C32 F32 b (zeroN (m % 64)) = rShort b by rw [rShort_eq, hb]] at hH
  refine fn_of (Γ := Γ) (fn := Try.f45) rfl rfl rfl rfl ?_
  repeat (refine sd ?_)
  refine Draw.intro [[], [], [1], [0, 1, 2]] [0, 1, 2, 3] (by kernel_rfl) ?_
  repeat (refine sd ?_)
  refine Call.intro hH [(1000, (1000, 0, none)), (1001, (1001, 0, none))] rfl fc rfl fc rfl ?_
  rintro v M' ⟨c, hc, rfl, rfl⟩
  refine Grow.intro [(1001, .mem true (c - 32) [(32, .a8 (rShort b))])] rfl rfl ?_
  repeat (refine sd ?_)
  refine Ret.intro (.a8 (rShort b)) [(1000, .mem false 0 [(m, .a8 b)])] [] rfl ?_ ⟨rfl, rfl⟩ rfl ?_ rfl ?_ rfl
  · exact fc
  · repeat' (first | (show AllP _; first | exact trivial | refine AllP.app ?_ ?_ | refine AllP.appd ?_ ?_ | refine AllP.cons ?_ ?_) | with_reducible rfl | with_reducible assumption | omega | (simp only [rng, Ix.val, addQ_eq, addI, sz5, by5, sz22, by22, sz69, by69, sz95, by95] <;> omega) | (simp only [rng, Ix.val, Int.toNat_natCast, mulE_eq, addQ_eq, addI, Option.getD_none, Option.getD_some, List.length_take, List.length_drop, List.length_append, List.length_set, List.length_replicate, sz5, by5, sz22, by22, sz69, by69, sz95, by95, *] <;> omega) | (simp only [Ix.val]; with_reducible assumption) | exact UInt8.toNat_lt _ | (apply Eq.trans; (with_reducible assumption); exact rfl) | exact rfl | exact fun _ _ => rfl)
    exact copy_all hl List.length_replicate
  · exact fc
end Go.Proofs.Ytkhnailodbkmhaa
