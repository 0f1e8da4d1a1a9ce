/- What the functions of the program compute. No condition. -/
import Derived.Test.YtniijmdkccbnlaaHwSha11ToSha11
import Derived.Test.YtniijmdkccbnlaaHwSha12ToSha12
set_option linter.unusedSimpArgs false
set_option linter.unusedVariables false
namespace Go.Proofs.Ytniijmdkccbnlaa
open Go Go.Sx

/-! Short and Long of the reference. -/

@[irreducible] def rShort (b : List UInt8) : List UInt8 := hashR C32 F32 b (zeroN (b.length % 64))
@[irreducible] def rLong (b : List UInt8) : List UInt8 := hashR C64 F64 b (zeroN64 (b.length % 128))
theorem rShort_eq (b : List UInt8) : rShort b = hashR C32 F32 b (zeroN (b.length % 64)) := by unfold rShort; rfl
theorem rLong_eq (b : List UInt8) : rLong b = hashR C64 F64 b (zeroN64 (b.length % 128)) := by unfold rLong; rfl
theorem rShort_length (b : List UInt8) : (rShort b).length = 32 := by
  rw [rShort_eq]; unfold hashR; rw [outR_length, C32_eq]; rfl
theorem rLong_length (b : List UInt8) : (rLong b).length = 64 := by
  rw [rLong_eq]; unfold hashR; rw [outR_length, C64_eq]; rfl

theorem copy_all {n : Nat} {x old : List UInt8} (hx : x.length = n) (ho : old.length = n) :
    x = List.take ((none : Option Nat).getD 0) old ++ List.take (min (List.take n (List.drop (addI none 0) x)).length n) (List.take n (List.drop (addI none 0) x)) ++
      List.drop ((none : Option Nat).getD 0 + min (List.take n (List.drop (addI none 0) x)).length n) old := by
  have e : List.take n (List.drop (addI none 0) x) = x := by
    rw [addI_eq, Option.getD_none, Nat.zero_add, List.drop_zero, List.take_of_length_le (by omega)]
  rw [e, hx, Nat.min_self, Option.getD_none, List.take_zero, List.nil_append, List.take_of_length_le (by omega), List.drop_of_length_le (by omega), List.append_nil]

set_option maxRecDepth 100000 in
set_option maxHeartbeats 400000 in
theorem fn20 (b : List UInt8) (m : Nat) (hb : b.length = m) (hmax : m ≤ 100000000) : Sx.Fn Γ.P 20 [.slx 1000 0 0 m] [(1000, .mem false 0 [(m, .a8 b)])]
    (fun v M => v = .a8 (rShort b) ∧ M = [(1000, .mem false 0 [(m, .a8 b)])]) := by
  have hH := fnHash32 b m hb hmax
  have hl := rShort_length b
  rw [show hashR C32 F32 b (zeroN (m % 64)) = rShort b by rw [rShort_eq, hb]] at hH
  refine fn_of (Γ := Γ) (fn := Try.f20) rfl rfl rfl rfl ?_
  repeat (refine Side.intro (by repeat' (first | (show AllP _; first | exact trivial | refine AllP.app ?_ ?_ | refine AllP.appd ?_ ?_ | refine AllP.cons ?_ ?_) | with_reducible rfl | with_reducible assumption | omega | (simp only [rng, Ix.val, addQ_eq, addI, sz5, sz22, sz24, sz33, sz43] <;> omega) | (simp only [rng, Ix.val, Int.toNat_natCast, mulE_eq, addQ_eq, addI, Option.getD_none, Option.getD_some, List.length_take, List.length_drop, List.length_append, List.length_set, List.length_replicate, sz5, sz22, sz24, sz33, sz43, *] <;> omega) | (simp only [Ix.val]; with_reducible assumption) | exact UInt8.toNat_lt _ | (apply Eq.trans; (with_reducible assumption); exact rfl) | exact rfl | exact fun _ _ => rfl)) ?_)
  refine Draw.intro [[], [], [1], [0, 1, 2]] [0, 1, 2, 3] (by kernel_rfl) ?_
  repeat (refine Side.intro (by repeat' (first | (show AllP _; first | exact trivial | refine AllP.app ?_ ?_ | refine AllP.appd ?_ ?_ | refine AllP.cons ?_ ?_) | with_reducible rfl | with_reducible assumption | omega | (simp only [rng, Ix.val, addQ_eq, addI, sz5, sz22, sz24, sz33, sz43] <;> omega) | (simp only [rng, Ix.val, Int.toNat_natCast, mulE_eq, addQ_eq, addI, Option.getD_none, Option.getD_some, List.length_take, List.length_drop, List.length_append, List.length_set, List.length_replicate, sz5, sz22, sz24, sz33, sz43, *] <;> omega) | (simp only [Ix.val]; with_reducible assumption) | exact UInt8.toNat_lt _ | (apply Eq.trans; (with_reducible assumption); exact rfl) | exact rfl | exact fun _ _ => rfl)) ?_)
  refine Call.intro hH [(1000, (1000, 0, none)), (1001, (1001, 0, none))] rfl (by repeat' (first | (show AllP _; first | exact trivial | refine AllP.app ?_ ?_ | refine AllP.appd ?_ ?_ | refine AllP.cons ?_ ?_) | with_reducible rfl | with_reducible assumption | omega | (simp only [rng, Ix.val, addQ_eq, addI, sz5, sz22, sz24, sz33, sz43] <;> omega) | (simp only [rng, Ix.val, Int.toNat_natCast, mulE_eq, addQ_eq, addI, Option.getD_none, Option.getD_some, List.length_take, List.length_drop, List.length_append, List.length_set, List.length_replicate, sz5, sz22, sz24, sz33, sz43, *] <;> omega) | (simp only [Ix.val]; with_reducible assumption) | exact UInt8.toNat_lt _ | (apply Eq.trans; (with_reducible assumption); exact rfl) | exact rfl | exact fun _ _ => rfl)) rfl (by repeat' (first | (show AllP _; first | exact trivial | refine AllP.app ?_ ?_ | refine AllP.appd ?_ ?_ | refine AllP.cons ?_ ?_) | with_reducible rfl | with_reducible assumption | omega | (simp only [rng, Ix.val, addQ_eq, addI, sz5, sz22, sz24, sz33, sz43] <;> omega) | (simp only [rng, Ix.val, Int.toNat_natCast, mulE_eq, addQ_eq, addI, Option.getD_none, Option.getD_some, List.length_take, List.length_drop, List.length_append, List.length_set, List.length_replicate, sz5, sz22, sz24, sz33, sz43, *] <;> omega) | (simp only [Ix.val]; with_reducible assumption) | exact UInt8.toNat_lt _ | (apply Eq.trans; (with_reducible assumption); exact rfl) | exact rfl | exact fun _ _ => rfl)) rfl ?_
  rintro v M' ⟨c, hc, rfl, rfl⟩
  refine Grow.intro [(1001, .mem true (c - 32) [(32, .a8 (rShort b))])] rfl rfl ?_
  repeat (refine Side.intro (by repeat' (first | (show AllP _; first | exact trivial | refine AllP.app ?_ ?_ | refine AllP.appd ?_ ?_ | refine AllP.cons ?_ ?_) | with_reducible rfl | with_reducible assumption | omega | (simp only [rng, Ix.val, addQ_eq, addI, sz5, sz22, sz24, sz33, sz43] <;> omega) | (simp only [rng, Ix.val, Int.toNat_natCast, mulE_eq, addQ_eq, addI, Option.getD_none, Option.getD_some, List.length_take, List.length_drop, List.length_append, List.length_set, List.length_replicate, sz5, sz22, sz24, sz33, sz43, *] <;> omega) | (simp only [Ix.val]; with_reducible assumption) | exact UInt8.toNat_lt _ | (apply Eq.trans; (with_reducible assumption); exact rfl) | exact rfl | exact fun _ _ => rfl)) ?_)
  refine Ret.intro (.a8 (rShort b)) [(1000, .mem false 0 [(m, .a8 b)])] [] rfl ?_ ⟨rfl, rfl⟩ rfl ?_ rfl ?_ rfl
  · repeat' (first | (show AllP _; first | exact trivial | refine AllP.app ?_ ?_ | refine AllP.appd ?_ ?_ | refine AllP.cons ?_ ?_) | with_reducible rfl | with_reducible assumption | omega | (simp only [rng, Ix.val, addQ_eq, addI, sz5, sz22, sz24, sz33, sz43] <;> omega) | (simp only [rng, Ix.val, Int.toNat_natCast, mulE_eq, addQ_eq, addI, Option.getD_none, Option.getD_some, List.length_take, List.length_drop, List.length_append, List.length_set, List.length_replicate, sz5, sz22, sz24, sz33, sz43, *] <;> omega) | (simp only [Ix.val]; with_reducible assumption) | exact UInt8.toNat_lt _ | (apply Eq.trans; (with_reducible assumption); exact rfl) | exact rfl | exact fun _ _ => rfl)
  · repeat' (first | (show AllP _; first | exact trivial | refine AllP.app ?_ ?_ | refine AllP.appd ?_ ?_ | refine AllP.cons ?_ ?_) | with_reducible rfl | with_reducible assumption | omega | (simp only [rng, Ix.val, addQ_eq, addI, sz5, sz22, sz24, sz33, sz43] <;> omega) | (simp only [rng, Ix.val, Int.toNat_natCast, mulE_eq, addQ_eq, addI, Option.getD_none, Option.getD_some, List.length_take, List.length_drop, List.length_append, List.length_set, List.length_replicate, sz5, sz22, sz24, sz33, sz43, *] <;> omega) | (simp only [Ix.val]; with_reducible assumption) | exact UInt8.toNat_lt _ | (apply Eq.trans; (with_reducible assumption); exact rfl) | exact rfl | exact fun _ _ => rfl)
    exact copy_all hl List.length_replicate
  · repeat' (first | (show AllP _; first | exact trivial | refine AllP.app ?_ ?_ | refine AllP.appd ?_ ?_ | refine AllP.cons ?_ ?_) | with_reducible rfl | with_reducible assumption | omega | (simp only [rng, Ix.val, addQ_eq, addI, sz5, sz22, sz24, sz33, sz43] <;> omega) | (simp only [rng, Ix.val, Int.toNat_natCast, mulE_eq, addQ_eq, addI, Option.getD_none, Option.getD_some, List.length_take, List.length_drop, List.length_append, List.length_set, List.length_replicate, sz5, sz22, sz24, sz33, sz43, *] <;> omega) | (simp only [Ix.val]; with_reducible assumption) | exact UInt8.toNat_lt _ | (apply Eq.trans; (with_reducible assumption); exact rfl) | exact rfl | exact fun _ _ => rfl)

set_option maxRecDepth 100000 in
set_option maxHeartbeats 400000 in
theorem fn22 (b : List UInt8) (m : Nat) (hb : b.length = m) (hmax : m ≤ 100000000) : Sx.Fn Γ.P 22 [.slx 1000 0 0 m] [(1000, .mem false 0 [(m, .a8 b)])]
    (fun v M => v = .a8 (rLong b) ∧ M = [(1000, .mem false 0 [(m, .a8 b)])]) := by
  have hH := fnHash64 b m hb hmax
  have hl := rLong_length b
  rw [show hashR C64 F64 b (zeroN64 (m % 128)) = rLong b by rw [rLong_eq, hb]] at hH
  refine fn_of (Γ := Γ) (fn := Try.f22) rfl rfl rfl rfl ?_
  repeat (refine Side.intro (by repeat' (first | (show AllP _; first | exact trivial | refine AllP.app ?_ ?_ | refine AllP.appd ?_ ?_ | refine AllP.cons ?_ ?_) | with_reducible rfl | with_reducible assumption | omega | (simp only [rng, Ix.val, addQ_eq, addI, sz5, sz22, sz24, sz33, sz43] <;> omega) | (simp only [rng, Ix.val, Int.toNat_natCast, mulE_eq, addQ_eq, addI, Option.getD_none, Option.getD_some, List.length_take, List.length_drop, List.length_append, List.length_set, List.length_replicate, sz5, sz22, sz24, sz33, sz43, *] <;> omega) | (simp only [Ix.val]; with_reducible assumption) | exact UInt8.toNat_lt _ | (apply Eq.trans; (with_reducible assumption); exact rfl) | exact rfl | exact fun _ _ => rfl)) ?_)
  refine Draw.intro [[], [], [1], [0, 1, 2]] [0, 1, 2, 3] (by kernel_rfl) ?_
  repeat (refine Side.intro (by repeat' (first | (show AllP _; first | exact trivial | refine AllP.app ?_ ?_ | refine AllP.appd ?_ ?_ | refine AllP.cons ?_ ?_) | with_reducible rfl | with_reducible assumption | omega | (simp only [rng, Ix.val, addQ_eq, addI, sz5, sz22, sz24, sz33, sz43] <;> omega) | (simp only [rng, Ix.val, Int.toNat_natCast, mulE_eq, addQ_eq, addI, Option.getD_none, Option.getD_some, List.length_take, List.length_drop, List.length_append, List.length_set, List.length_replicate, sz5, sz22, sz24, sz33, sz43, *] <;> omega) | (simp only [Ix.val]; with_reducible assumption) | exact UInt8.toNat_lt _ | (apply Eq.trans; (with_reducible assumption); exact rfl) | exact rfl | exact fun _ _ => rfl)) ?_)
  refine Call.intro hH [(1000, (1000, 0, none)), (1001, (1001, 0, none))] rfl (by repeat' (first | (show AllP _; first | exact trivial | refine AllP.app ?_ ?_ | refine AllP.appd ?_ ?_ | refine AllP.cons ?_ ?_) | with_reducible rfl | with_reducible assumption | omega | (simp only [rng, Ix.val, addQ_eq, addI, sz5, sz22, sz24, sz33, sz43] <;> omega) | (simp only [rng, Ix.val, Int.toNat_natCast, mulE_eq, addQ_eq, addI, Option.getD_none, Option.getD_some, List.length_take, List.length_drop, List.length_append, List.length_set, List.length_replicate, sz5, sz22, sz24, sz33, sz43, *] <;> omega) | (simp only [Ix.val]; with_reducible assumption) | exact UInt8.toNat_lt _ | (apply Eq.trans; (with_reducible assumption); exact rfl) | exact rfl | exact fun _ _ => rfl)) rfl (by repeat' (first | (show AllP _; first | exact trivial | refine AllP.app ?_ ?_ | refine AllP.appd ?_ ?_ | refine AllP.cons ?_ ?_) | with_reducible rfl | with_reducible assumption | omega | (simp only [rng, Ix.val, addQ_eq, addI, sz5, sz22, sz24, sz33, sz43] <;> omega) | (simp only [rng, Ix.val, Int.toNat_natCast, mulE_eq, addQ_eq, addI, Option.getD_none, Option.getD_some, List.length_take, List.length_drop, List.length_append, List.length_set, List.length_replicate, sz5, sz22, sz24, sz33, sz43, *] <;> omega) | (simp only [Ix.val]; with_reducible assumption) | exact UInt8.toNat_lt _ | (apply Eq.trans; (with_reducible assumption); exact rfl) | exact rfl | exact fun _ _ => rfl)) rfl ?_
  rintro v M' ⟨c, hc, rfl, rfl⟩
  refine Grow.intro [(1001, .mem true (c - 64) [(64, .a8 (rLong b))])] rfl rfl ?_
  repeat (refine Side.intro (by repeat' (first | (show AllP _; first | exact trivial | refine AllP.app ?_ ?_ | refine AllP.appd ?_ ?_ | refine AllP.cons ?_ ?_) | with_reducible rfl | with_reducible assumption | omega | (simp only [rng, Ix.val, addQ_eq, addI, sz5, sz22, sz24, sz33, sz43] <;> omega) | (simp only [rng, Ix.val, Int.toNat_natCast, mulE_eq, addQ_eq, addI, Option.getD_none, Option.getD_some, List.length_take, List.length_drop, List.length_append, List.length_set, List.length_replicate, sz5, sz22, sz24, sz33, sz43, *] <;> omega) | (simp only [Ix.val]; with_reducible assumption) | exact UInt8.toNat_lt _ | (apply Eq.trans; (with_reducible assumption); exact rfl) | exact rfl | exact fun _ _ => rfl)) ?_)
  refine Ret.intro (.a8 (rLong b)) [(1000, .mem false 0 [(m, .a8 b)])] [] rfl ?_ ⟨rfl, rfl⟩ rfl ?_ rfl ?_ rfl
  · repeat' (first | (show AllP _; first | exact trivial | refine AllP.app ?_ ?_ | refine AllP.appd ?_ ?_ | refine AllP.cons ?_ ?_) | with_reducible rfl | with_reducible assumption | omega | (simp only [rng, Ix.val, addQ_eq, addI, sz5, sz22, sz24, sz33, sz43] <;> omega) | (simp only [rng, Ix.val, Int.toNat_natCast, mulE_eq, addQ_eq, addI, Option.getD_none, Option.getD_some, List.length_take, List.length_drop, List.length_append, List.length_set, List.length_replicate, sz5, sz22, sz24, sz33, sz43, *] <;> omega) | (simp only [Ix.val]; with_reducible assumption) | exact UInt8.toNat_lt _ | (apply Eq.trans; (with_reducible assumption); exact rfl) | exact rfl | exact fun _ _ => rfl)
  · repeat' (first | (show AllP _; first | exact trivial | refine AllP.app ?_ ?_ | refine AllP.appd ?_ ?_ | refine AllP.cons ?_ ?_) | with_reducible rfl | with_reducible assumption | omega | (simp only [rng, Ix.val, addQ_eq, addI, sz5, sz22, sz24, sz33, sz43] <;> omega) | (simp only [rng, Ix.val, Int.toNat_natCast, mulE_eq, addQ_eq, addI, Option.getD_none, Option.getD_some, List.length_take, List.length_drop, List.length_append, List.length_set, List.length_replicate, sz5, sz22, sz24, sz33, sz43, *] <;> omega) | (simp only [Ix.val]; with_reducible assumption) | exact UInt8.toNat_lt _ | (apply Eq.trans; (with_reducible assumption); exact rfl) | exact rfl | exact fun _ _ => rfl)
    exact copy_all hl List.length_replicate
  · repeat' (first | (show AllP _; first | exact trivial | refine AllP.app ?_ ?_ | refine AllP.appd ?_ ?_ | refine AllP.cons ?_ ?_) | with_reducible rfl | with_reducible assumption | omega | (simp only [rng, Ix.val, addQ_eq, addI, sz5, sz22, sz24, sz33, sz43] <;> omega) | (simp only [rng, Ix.val, Int.toNat_natCast, mulE_eq, addQ_eq, addI, Option.getD_none, Option.getD_some, List.length_take, List.length_drop, List.length_append, List.length_set, List.length_replicate, sz5, sz22, sz24, sz33, sz43, *] <;> omega) | (simp only [Ix.val]; with_reducible assumption) | exact UInt8.toNat_lt _ | (apply Eq.trans; (with_reducible assumption); exact rfl) | exact rfl | exact fun _ _ => rfl)

end Go.Proofs.Ytniijmdkccbnlaa

namespace Go.Proofs.Ytniijmdkccbnlaa
open Go Go.Sx

/-! Long is Sum512: plain. -/

theorem lenR_app (w : Nat) (n : UInt64) (t : List UInt8) : ∀ k, lenR w t n k = t ++ lenR w [] n k
  | 0 => by simp [lenR]
  | k + 1 => by simp only [lenR]; rw [lenR_app w n t k, List.append_assoc]
theorem lenT_app (n : UInt64) (t : List UInt8) : ∀ k, lenT t n k = t ++ lenT [] n k
  | 0 => by simp [lenT]
  | k + 1 => by simp only [lenT]; rw [lenT_app n t k, List.append_assoc]
theorem lenR16 (n : UInt64) : lenR 16 [] n 16 = List.replicate 8 0 ++ lenT [] n 8 := by kernel_rfl
theorem lenR8 (n : UInt64) : lenR 8 [] n 8 = lenT [] n 8 := by kernel_rfl

theorem F64_H64 : F64 = H64 := by rw [F64_eq, H64_eq]
theorem R64_K64 : R64 = K64 := by rw [R64_eq, K64_eq]

theorem mask64 (x : UInt64) : x &&& UInt64.ofNat 18446744073709551615 = x := by
  apply UInt64.toNat_inj.1
  rw [UInt64.toNat_and, UInt64.toNat_ofNat']
  exact Nat.and_two_pow_sub_one_of_lt_two_pow x.toNat_lt
theorem xor_mask64 (x : UInt64) : UInt64.ofNat 18446744073709551615 ^^^ x = ~~~x := by
  rw [show UInt64.ofNat 18446744073709551615 = (-1 : UInt64) by decide]
  exact UInt64.neg_one_xor

theorem tn64 (x n : UInt64) (h : (64 - n).toNat = 64 - n.toNat) : tn x n 64 = rr64 x n.toNat := by
  unfold tn rr64
  rw [if_neg (by decide), h, UInt64.or_comm]

theorem s64 : S64.getD 0 0 = 28 ∧ S64.getD 1 0 = 34 ∧ S64.getD 2 0 = 39 ∧ S64.getD 3 0 = 14 ∧ S64.getD 4 0 = 18 ∧ S64.getD 5 0 = 41 ∧ S64.getD 6 0 = 1 ∧ S64.getD 7 0 = 8 ∧ S64.getD 8 0 = 7 ∧ S64.getD 9 0 = 19 ∧ S64.getD 10 0 = 61 ∧ S64.getD 11 0 = 6 := by
  rw [S64_eq]; decide

theorem wN64_eq (w : List UInt64) (i : Nat) : wN C64 w i = wN64 w i := by
  obtain ⟨_, _, _, _, _, _, h6, h7, h8, h9, h10, h11⟩ := s64
  unfold wN wN64 thS
  rw [C64_eq]
  simp only [h6, h7, h8, h9, h10, h11, mask64]
  rw [tn64 _ 1 (by decide), tn64 _ 8 (by decide), tn64 _ 19 (by decide), tn64 _ 61 (by decide)]
  show w.getD (i - 16) 0 + (rr64 (w.getD (i - 15) 0) 1 ^^^ rr64 (w.getD (i - 15) 0) 8 ^^^ shr64 (w.getD (i - 15) 0) 7) + w.getD (i - 7) 0 + (rr64 (w.getD (i - 2) 0) 19 ^^^ rr64 (w.getD (i - 2) 0) 61 ^^^ shr64 (w.getD (i - 2) 0) 6) = _
  congr 1
  rw [UInt64.add_assoc, UInt64.add_comm (rr64 _ _ ^^^ _ ^^^ _), ← UInt64.add_assoc]

theorem rd64_eq (v : List UInt64) (k w : UInt64) : rdR C64 v k w = rd64 v k w := by
  obtain ⟨h0, h1, h2, h3, h4, h5, _⟩ := s64
  unfold rdR rd64 oneR twoR one64 two64 thT
  rw [C64_eq]
  simp only [h0, h1, h2, h3, h4, h5, mask64, xor_mask64]
  rw [tn64 _ 28 (by decide), tn64 _ 34 (by decide), tn64 _ 39 (by decide), tn64 _ 14 (by decide), tn64 _ 18 (by decide), tn64 _ 41 (by decide)]
  rfl

theorem rds64_eq (w v : List UInt64) : ∀ i, rdsR C64 w v i = rds64 w v i
  | 0 => rfl
  | i + 1 => by
    simp only [rdsR, rds64]
    rw [rds64_eq w v i, rd64_eq, ← R64_K64, C64_eq]
theorem hA64_eq (h v : List UInt64) : ∀ i, hR C64 h v i = hA64 h v i
  | 0 => rfl
  | i + 1 => by
    simp only [hR, hA64]
    rw [hA64_eq h v i]
    rw [show C64.mask = UInt64.ofNat 18446744073709551615 by rw [C64_eq], mask64]

/-- A byte behind a word. -/
theorem byte64 (x : UInt64) (c : UInt8) : x * 256 + c.toUInt64 = shl64 x 8 ||| c.toUInt64 := by
  have hc := c.toNat_lt
  apply UInt64.toNat_inj.1
  unfold shl64
  rw [UInt64.toNat_or, UInt64.toNat_add, UInt64.toNat_mul, UInt64.toNat_ofNat', UInt8.toNat_toUInt64]
  have e1 : x.toNat * (256 : UInt64).toNat % 2 ^ 64 = (x.toNat % 2 ^ 56) <<< 8 := by
    rw [show (256 : UInt64).toNat = 2 ^ 8 from rfl, Nat.shiftLeft_eq, show (2 : Nat) ^ 64 = 2 ^ 56 * 2 ^ 8 by decide, Nat.mul_mod_mul_right]
  have e2 : x.toNat <<< 8 % 2 ^ 64 = (x.toNat % 2 ^ 56) <<< 8 := by
    rw [Nat.shiftLeft_eq, Nat.shiftLeft_eq, show (2 : Nat) ^ 64 = 2 ^ 56 * 2 ^ 8 by decide, Nat.mul_mod_mul_right]
  rw [e1, e2, ← Nat.shiftLeft_add_eq_or_of_lt hc]
  apply Nat.mod_eq_of_lt
  have h3 : x.toNat % 2 ^ 56 < 2 ^ 56 := Nat.mod_lt _ (by decide)
  rw [Nat.shiftLeft_eq]
  omega

theorem take_get {b : List UInt8} {a n j : Nat} (h : j < n) : ((b.drop a).take n).getD j 0 = b.getD (a + j) 0 := by
  rw [List.getD_eq_getElem?_getD, List.getElem?_take, if_pos h, List.getElem?_drop, List.getD_eq_getElem?_getD]

theorem wS64_eq (all : List UInt8) (a : Nat) : ∀ i, i ≤ 16 → ∀ j, j ≤ 8 → 8 * i + j ≤ 128 → wR C64 all a (wRs C64 all a i) i j = wS64 ((all.drop a).take 128) (8 * i + j) := by
  have hwd : C64.wd = 8 := by rw [C64_eq]
  have hn : C64.n = 80 := by rw [C64_eq]
  have step : ∀ i, i < 16 → wRs C64 all a i = wS64 ((all.drop a).take 128) (8 * i) → ∀ j, j ≤ 8 → wR C64 all a (wRs C64 all a i) i j = wS64 ((all.drop a).take 128) (8 * i + j) := by
    intro i hi h0 j
    induction j with
    | zero => intro _; exact h0
    | succ j ih =>
      intro hj
      have ih := ih (by omega)
      show (wR C64 all a (wRs C64 all a i) i j).set i ((wR C64 all a (wRs C64 all a i) i j).getD i 0 * 256 + (all.getD (a + C64.wd * i + j) 0).toUInt64) =
        (wS64 ((all.drop a).take 128) (8 * i + j)).set ((8 * i + j) / 8) (shl64 ((wS64 ((all.drop a).take 128) (8 * i + j)).getD ((8 * i + j) / 8) 0) 8 ||| (((all.drop a).take 128).getD (8 * i + j) 0).toUInt64)
      rw [ih, byte64, take_get (by omega), show (8 * i + j) / 8 = i by omega, hwd, Nat.add_assoc]
  have all0 : ∀ i, i ≤ 16 → wRs C64 all a i = wS64 ((all.drop a).take 128) (8 * i) := by
    intro i
    induction i with
    | zero => intro _; show List.replicate C64.n 0 = _; rw [hn]; rfl
    | succ i ih =>
      intro hi
      have h0 := ih (by omega)
      simp only [wRs]
      rw [if_neg (by omega), hwd, step i (by omega) h0 8 (Nat.le_refl _)]
      rfl
  intro i hi j hj h
  rcases Nat.lt_or_ge i 16 with hlt | hge
  · exact step i hlt (all0 i hi) j hj
  · have e1 : i = 16 := by omega
    have e2 : j = 0 := by omega
    subst e1; subst e2
    exact all0 16 hi

theorem wE64_eq (all : List UInt8) (a : Nat) : ∀ k, k ≤ 64 → wRs C64 all a (16 + k) = wE64 (wS64 ((all.drop a).take 128) 128) k
  | 0, _ => wS64_eq all a 16 (Nat.le_refl _) 0 (Nat.zero_le _) (Nat.le_refl _)
  | k + 1, h => by
    have ih := wE64_eq all a k (by omega)
    show (if 16 ≤ 16 + k then (wRs C64 all a (16 + k)).set (16 + k) (wN C64 (wRs C64 all a (16 + k)) (16 + k)) else _) = (wE64 _ k).set (16 + k) (wN64 (wE64 _ k) (16 + k))
    rw [if_pos (by omega), ih, wN64_eq]

theorem blk64_eq (h : List UInt64) (all : List UInt8) (a : Nat) : blkR C64 h all a = blk64 h ((all.drop a).take 128) := by
  unfold blkR blk64 wAll64
  rw [hA64_eq, rds64_eq, show C64.n = 16 + 64 by rw [C64_eq], wE64_eq all a 64 (Nat.le_refl _)]

theorem blks64_eq (h : List UInt64) (all : List UInt8) : ∀ q, blksR C64 h all q = blks64 h all q
  | 0 => rfl
  | q + 1 => by
    simp only [blksR, blks64]
    rw [blks64_eq h all q, blk64_eq, show 16 * C64.wd * q = 128 * q by rw [show C64.wd = 8 by rw [C64_eq]]]

theorem blks64_app {h : List UInt64} {A T : List UInt8} {p : Nat} (hA : A.length = 128 * p) : ∀ q, blks64 h (A ++ T) (p + q) = blks64 (blks64 h A p) T q
  | 0 => by
    have : ∀ k, k ≤ p → blks64 h (A ++ T) k = blks64 h A k := by
      intro k
      induction k with
      | zero => intro _; rfl
      | succ k ih =>
        intro hk
        simp only [blks64]
        rw [ih (by omega), List.drop_append_of_le_length (by omega), List.take_append_of_le_length (by rw [List.length_drop]; omega)]
    exact this p (Nat.le_refl _)
  | q + 1 => by
    show blk64 (blks64 h (A ++ T) (p + q)) (((A ++ T).drop (128 * (p + q))).take 128) = blk64 (blks64 (blks64 h A p) T q) ((T.drop (128 * q)).take 128)
    rw [blks64_app hA q, List.drop_append, List.drop_of_length_le (by omega), List.nil_append, hA, show 128 * (p + q) - 128 * p = 128 * q by omega]

theorem blks64_take {h : List UInt64} {b : List UInt8} {p : Nat} (hp : 128 * p ≤ b.length) : blks64 h (b.take (128 * p)) p = blks64 h b p := by
  have := blks64_app (h := h) (A := b.take (128 * p)) (T := b.drop (128 * p)) (p := p) (by rw [List.length_take]; omega) 0
  rw [List.take_append_drop] at this
  exact this.symm

theorem out64_list (a0 a1 a2 a3 a4 a5 a6 a7 : UInt64) : outR 8 [a0, a1, a2, a3, a4, a5, a6, a7] 8 = outW64 [a0, a1, a2, a3, a4, a5, a6, a7] 64 := by kernel_rfl
theorem len8 {α : Type} {l : List α} (h : l.length = 8) : ∃ a0 a1 a2 a3 a4 a5 a6 a7, l = [a0, a1, a2, a3, a4, a5, a6, a7] := by
  match l, h with
  | [a0, a1, a2, a3, a4, a5, a6, a7], _ => exact ⟨a0, a1, a2, a3, a4, a5, a6, a7, rfl⟩

theorem all64 (b : List UInt8) : allR 8 b (zeroN64 (b.length % 128)) = b.take (128 * (b.length / 128)) ++ tail64 (b.drop (128 * (b.length / 128))) (UInt64.ofInt (b.length : Int)) := by
  unfold allR tail64 padT
  rw [lenR_app, lenT_app, lenR16, show (b.drop (128 * (b.length / 128))).length = b.length % 128 by rw [List.length_drop]; omega]
  conv => lhs; rw [← List.take_append_drop (128 * (b.length / 128)) b]
  simp only [List.append_assoc, List.length_append, List.length_take, List.length_drop]
  rw [show min (128 * (b.length / 128)) b.length + (b.length - 128 * (b.length / 128)) = b.length by omega]

theorem long_eq (b : List UInt8) : rLong b = sha512 b := by
  rw [rLong_eq, sha512_eq]
  unfold hashR
  have hwd : C64.wd = 8 := by rw [C64_eq]
  rw [hwd, F64_H64, blks64_eq, all64]
  have hp : 128 * (b.length / 128) ≤ b.length := by omega
  have hA : (b.take (128 * (b.length / 128))).length = 128 * (b.length / 128) := by rw [List.length_take]; omega
  have hT := tail64_length (b.drop (128 * (b.length / 128))) (UInt64.ofInt (b.length : Int))
  generalize tail64 (b.drop (128 * (b.length / 128))) (UInt64.ofInt (b.length : Int)) = T at hT ⊢
  rw [List.length_append, hA, show (128 * (b.length / 128) + T.length) / (16 * 8) = b.length / 128 + T.length / 128 by omega, blks64_app hA, blks64_take hp]
  have hl := blks64_length (blks64_length H64_length b (b.length / 128)) T (T.length / 128)
  obtain ⟨a0, a1, a2, a3, a4, a5, a6, a7, he⟩ := len8 hl
  rw [he]
  exact out64_list _ _ _ _ _ _ _ _

end Go.Proofs.Ytniijmdkccbnlaa

namespace Go.Proofs.Ytniijmdkccbnlaa
open Go Go.Sx

/-! Short is Sum256: plain. -/

def up (l : List UInt32) : List UInt64 := l.map UInt32.toUInt64
theorem up_getD (l : List UInt32) (i : Nat) : (up l).getD i 0 = (l.getD i 0).toUInt64 := by
  unfold up
  simp only [List.getD_eq_getElem?_getD, List.getElem?_map]
  cases l[i]? <;> rfl
theorem up_set (l : List UInt32) (i : Nat) (x : UInt32) : (up l).set i x.toUInt64 = up (l.set i x) := by
  unfold up; rw [List.map_set]

set_option maxRecDepth 100000 in
theorem F32_up : F32 = up H32 := by rw [F32_eq, H32_eq]; kernel_rfl
set_option maxRecDepth 100000 in
theorem R32_up : R32 = up K32 := by rw [R32_eq, K32_eq]; kernel_rfl

theorem low (x : UInt64) : x &&& UInt64.ofNat 4294967295 = x.toUInt32.toUInt64 := by
  apply UInt64.toNat_inj.1
  rw [UInt64.toNat_and, UInt64.toNat_ofNat', UInt32.toNat_toUInt64, UInt64.toNat_toUInt32]
  exact Nat.and_two_pow_sub_one_eq_mod _ 32
theorem low_not (x : UInt32) : (UInt64.ofNat 4294967295 ^^^ x.toUInt64).toUInt32 = ~~~x := by
  rw [UInt64.toUInt32_xor, UInt32.toUInt32_toUInt64]
  rw [show (UInt64.ofNat 4294967295).toUInt32 = (-1 : UInt32) by decide]
  exact UInt32.neg_one_xor

theorem shr_up (x : UInt32) (n : Nat) : shr64 x.toUInt64 n = (shr32 x n).toUInt64 := by
  apply UInt64.toNat_inj.1
  unfold shr64 shr32
  rw [UInt64.toNat_ofNat', UInt32.toNat_toUInt64, UInt32.toNat_toUInt64, UInt32.toNat_ofNat', Nat.shiftRight_eq_div_pow]
  have h1 : x.toNat / 2 ^ n ≤ x.toNat := Nat.div_le_self _ _
  have h2 := x.toNat_lt
  rw [Nat.mod_eq_of_lt (by omega), Nat.mod_eq_of_lt (by omega)]
theorem shl_up (x : UInt32) (n : Nat) : (shl64 x.toUInt64 n).toUInt32 = shl32 x n := by
  apply UInt32.toNat_inj.1
  unfold shl64 shl32
  rw [UInt64.toNat_toUInt32, UInt64.toNat_ofNat', UInt32.toNat_toUInt64, UInt32.toNat_ofNat']
  exact Nat.mod_mod_of_dvd _ (by decide)

theorem tn_up (x : UInt32) (n : UInt64) (h : (32 - n).toNat = 32 - n.toNat) : tn x.toUInt64 n 32 = (rr32 x n.toNat).toUInt64 := by
  unfold tn rr32
  rw [if_pos rfl, low, UInt64.toUInt32_or, shr_up, UInt32.toUInt32_toUInt64, shl_up, h, UInt32.or_comm]

theorem s32 : S32.getD 0 0 = 2 ∧ S32.getD 1 0 = 13 ∧ S32.getD 2 0 = 22 ∧ S32.getD 3 0 = 6 ∧ S32.getD 4 0 = 11 ∧ S32.getD 5 0 = 25 ∧ S32.getD 6 0 = 7 ∧ S32.getD 7 0 = 18 ∧ S32.getD 8 0 = 3 ∧ S32.getD 9 0 = 17 ∧ S32.getD 10 0 = 19 ∧ S32.getD 11 0 = 10 := by
  rw [S32_eq]; decide

theorem wN32_eq (w : List UInt32) (i : Nat) : wN C32 (up w) i = (wN32 w i).toUInt64 := by
  obtain ⟨_, _, _, _, _, _, h6, h7, h8, h9, h10, h11⟩ := s32
  unfold wN wN32 thS
  rw [C32_eq]
  simp only [h6, h7, h8, h9, h10, h11, low, up_getD]
  rw [tn_up _ 7 (by decide), tn_up _ 18 (by decide), tn_up _ 17 (by decide), tn_up _ 19 (by decide), shr_up, shr_up]
  simp only [UInt64.toUInt32_add, UInt64.toUInt32_xor, UInt32.toUInt32_toUInt64]
  show (w.getD (i - 16) 0 + (rr32 (w.getD (i - 15) 0) 7 ^^^ rr32 (w.getD (i - 15) 0) 18 ^^^ shr32 (w.getD (i - 15) 0) 3) + w.getD (i - 7) 0 + (rr32 (w.getD (i - 2) 0) 17 ^^^ rr32 (w.getD (i - 2) 0) 19 ^^^ shr32 (w.getD (i - 2) 0) 10)).toUInt64 = _
  congr 2
  rw [UInt32.add_assoc, UInt32.add_comm (rr32 _ _ ^^^ _ ^^^ _), ← UInt32.add_assoc]

theorem one32_eq (v : List UInt32) (k w : UInt32) : (oneR C32 (up v) k.toUInt64 w.toUInt64).toUInt32 = one32 v k w := by
  obtain ⟨_, _, _, h3, h4, h5, _⟩ := s32
  unfold oneR one32 thT
  rw [C32_eq]
  simp only [h3, h4, h5, up_getD]
  rw [tn_up _ 6 (by decide), tn_up _ 11 (by decide), tn_up _ 25 (by decide)]
  simp only [UInt64.toUInt32_add, UInt64.toUInt32_xor, UInt64.toUInt32_and, UInt32.toUInt32_toUInt64]
  have := low_not (v.getD 4 0)
  rw [UInt64.toUInt32_xor, UInt32.toUInt32_toUInt64] at this
  rw [this]
  rfl
theorem two32_eq (v : List UInt32) : (twoR C32 (up v)).toUInt32 = two32 v := by
  obtain ⟨h0, h1, h2, _⟩ := s32
  unfold twoR two32 thT
  rw [C32_eq]
  simp only [h0, h1, h2, up_getD]
  rw [tn_up _ 2 (by decide), tn_up _ 13 (by decide), tn_up _ 22 (by decide)]
  simp only [UInt64.toUInt32_add, UInt64.toUInt32_xor, UInt64.toUInt32_and, UInt32.toUInt32_toUInt64]
  rfl

theorem rd32_eq (v : List UInt32) (k w : UInt32) : rdR C32 (up v) k.toUInt64 w.toUInt64 = up (rd32 v k w) := by
  unfold rdR rd32
  rw [show C32.mask = UInt64.ofNat 4294967295 by rw [C32_eq], low, low, UInt64.toUInt32_add, UInt64.toUInt32_add, one32_eq, two32_eq]
  simp only [up_getD, UInt32.toUInt32_toUInt64]
  rfl

theorem rds32_eq (w v : List UInt32) : ∀ i, rdsR C32 (up w) (up v) i = up (rds32 w v i)
  | 0 => rfl
  | i + 1 => by
    simp only [rdsR, rds32]
    rw [rds32_eq w v i, show C32.k = R32 by rw [C32_eq], R32_up, up_getD, up_getD, rd32_eq]
theorem hA32_eq (h v : List UInt32) : ∀ i, hR C32 (up h) (up v) i = up (hA32 h v i)
  | 0 => rfl
  | i + 1 => by
    simp only [hR, hA32]
    rw [hA32_eq h v i, show C32.mask = UInt64.ofNat 4294967295 by rw [C32_eq], low, up_getD, up_getD, UInt64.toUInt32_add, UInt32.toUInt32_toUInt64, UInt32.toUInt32_toUInt64, up_set]

/-- Four bytes, a word. -/
theorem bytes32 (a b c d : UInt8) : ((((0 : UInt64) * 256 + a.toUInt64) * 256 + b.toUInt64) * 256 + c.toUInt64) * 256 + d.toUInt64 =
    (shl32 a.toUInt32 24 ||| shl32 b.toUInt32 16 ||| shl32 c.toUInt32 8 ||| d.toUInt32).toUInt64 := by
  have ha := a.toNat_lt
  have hb := b.toNat_lt
  have hc := c.toNat_lt
  have hd := d.toNat_lt
  apply UInt64.toNat_inj.1
  unfold shl32
  simp only [UInt32.toNat_toUInt64, UInt32.toNat_or, UInt32.toNat_ofNat', UInt8.toNat_toUInt32, UInt64.toNat_add, UInt64.toNat_mul, UInt8.toNat_toUInt64]
  have k : (256 : UInt64).toNat = 256 := rfl
  have z : (0 : UInt64).toNat = 0 := rfl
  rw [k, z]
  have f1 : a.toNat <<< 24 % 2 ^ 32 = a.toNat <<< 24 := Nat.mod_eq_of_lt (by rw [Nat.shiftLeft_eq]; omega)
  have f2 : b.toNat <<< 16 % 2 ^ 32 = b.toNat <<< 16 := Nat.mod_eq_of_lt (by rw [Nat.shiftLeft_eq]; omega)
  have f3 : c.toNat <<< 8 % 2 ^ 32 = c.toNat <<< 8 := Nat.mod_eq_of_lt (by rw [Nat.shiftLeft_eq]; omega)
  rw [f1, f2, f3]
  have g1 : a.toNat <<< 24 ||| b.toNat <<< 16 = (a.toNat <<< 8 ||| b.toNat) <<< 16 := by
    rw [Nat.shiftLeft_or_distrib, ← Nat.shiftLeft_add]
  have g2 : (a.toNat <<< 8 ||| b.toNat) <<< 16 ||| c.toNat <<< 8 = ((a.toNat <<< 8 ||| b.toNat) <<< 8 ||| c.toNat) <<< 8 := by
    generalize a.toNat <<< 8 ||| b.toNat = A
    rw [Nat.shiftLeft_or_distrib, ← Nat.shiftLeft_add]
  rw [g1, g2, ← Nat.shiftLeft_add_eq_or_of_lt hd, ← Nat.shiftLeft_add_eq_or_of_lt hc, ← Nat.shiftLeft_add_eq_or_of_lt hb]
  simp only [Nat.shiftLeft_eq]
  omega

theorem set_getD32 (l : List UInt64) (i : Nat) (x : UInt64) (h : i < l.length) : (l.set i x).getD i 0 = x := by
  rw [List.getD_eq_getElem?_getD, List.getElem?_set_self h]; rfl

theorem wRs_zero (all : List UInt8) (a : Nat) : ∀ i, i ≤ 16 → ∀ k, i ≤ k → (wRs C32 all a i).getD k 0 = 0 := by
  have hwd : C32.wd = 4 := by rw [C32_eq]
  intro i
  induction i with
  | zero =>
    intro _ k _
    show (List.replicate C32.n (0 : UInt64)).getD k 0 = 0
    rw [List.getD_eq_getElem?_getD, List.getElem?_replicate]; split <;> rfl
  | succ i ih =>
    intro hi k hk
    simp only [wRs]
    rw [if_neg (by omega), hwd]
    have ne : ∀ (l : List UInt64) (x : UInt64), (l.set i x).getD k 0 = l.getD k 0 := by
      intro l x
      rw [List.getD_eq_getElem?_getD, List.getElem?_set_ne (by omega), ← List.getD_eq_getElem?_getD]
    simp only [wR, ne]
    exact ih (by omega) k (by omega)

theorem wS32_eq (all : List UInt8) (a : Nat) : ∀ i, i ≤ 16 → wRs C32 all a i = up (wS32 ((all.drop a).take 64) i) := by
  have hwd : C32.wd = 4 := by rw [C32_eq]
  have hn : C32.n = 64 := by rw [C32_eq]
  intro i
  induction i with
  | zero => intro _; show List.replicate C32.n 0 = _; rw [hn]; rfl
  | succ i ih =>
    intro hi
    have h0 := ih (by omega)
    have hz := wRs_zero all a i (by omega) i (Nat.le_refl _)
    have hl := wRs_length C32 all a i
    rw [hn] at hl
    simp only [wRs]
    rw [if_neg (by omega), hwd]
    simp only [wR, wS32]
    rw [List.set_set, List.set_set, List.set_set, hz]
    rw [set_getD32 _ _ _ (by simp only [List.length_set]; omega), set_getD32 _ _ _ (by simp only [List.length_set]; omega), set_getD32 _ _ _ (by omega), hwd, bytes32, h0, up_set]
    rw [take_get (by omega), take_get (by omega), take_get (by omega), take_get (by omega)]
    simp only [Nat.add_zero, Nat.add_assoc]

theorem wE32_eq (all : List UInt8) (a : Nat) : ∀ k, k ≤ 48 → wRs C32 all a (16 + k) = up (wE32 (wS32 ((all.drop a).take 64) 16) k)
  | 0, _ => wS32_eq all a 16 (Nat.le_refl _)
  | k + 1, h => by
    have ih := wE32_eq all a k (by omega)
    show (if 16 ≤ 16 + k then (wRs C32 all a (16 + k)).set (16 + k) (wN C32 (wRs C32 all a (16 + k)) (16 + k)) else _) = up ((wE32 _ k).set (16 + k) (wN32 (wE32 _ k) (16 + k)))
    rw [if_pos (by omega), ih, wN32_eq, up_set]

theorem blk32_eq (h : List UInt32) (all : List UInt8) (a : Nat) : blkR C32 (up h) all a = up (blk32 h ((all.drop a).take 64)) := by
  unfold blkR blk32 wAll32
  rw [show C32.n = 16 + 48 by rw [C32_eq], wE32_eq all a 48 (Nat.le_refl _), rds32_eq, hA32_eq]

theorem blks32_eq (h : List UInt32) (all : List UInt8) : ∀ q, blksR C32 (up h) all q = up (blks32 h all q)
  | 0 => rfl
  | q + 1 => by
    simp only [blksR, blks32]
    rw [blks32_eq h all q, blk32_eq, show 16 * C32.wd * q = 64 * q by rw [show C32.wd = 4 by rw [C32_eq]]]

theorem blks32_app {h : List UInt32} {A T : List UInt8} {p : Nat} (hA : A.length = 64 * p) : ∀ q, blks32 h (A ++ T) (p + q) = blks32 (blks32 h A p) T q
  | 0 => by
    have : ∀ k, k ≤ p → blks32 h (A ++ T) k = blks32 h A k := by
      intro k
      induction k with
      | zero => intro _; rfl
      | succ k ih =>
        intro hk
        simp only [blks32]
        rw [ih (by omega), List.drop_append_of_le_length (by omega), List.take_append_of_le_length (by rw [List.length_drop]; omega)]
    exact this p (Nat.le_refl _)
  | q + 1 => by
    show blk32 (blks32 h (A ++ T) (p + q)) (((A ++ T).drop (64 * (p + q))).take 64) = blk32 (blks32 (blks32 h A p) T q) ((T.drop (64 * q)).take 64)
    rw [blks32_app hA q, List.drop_append, List.drop_of_length_le (by omega), List.nil_append, hA, show 64 * (p + q) - 64 * p = 64 * q by omega]

theorem blks32_take {h : List UInt32} {b : List UInt8} {p : Nat} (hp : 64 * p ≤ b.length) : blks32 h (b.take (64 * p)) p = blks32 h b p := by
  have := blks32_app (h := h) (A := b.take (64 * p)) (T := b.drop (64 * p)) (p := p) (by rw [List.length_take]; omega) 0
  rw [List.take_append_drop] at this
  exact this.symm

theorem out32_list (a0 a1 a2 a3 a4 a5 a6 a7 : UInt64) : outR 4 [a0, a1, a2, a3, a4, a5, a6, a7] 8 =
    (List.range 32).map (fun i => (shr64 ([a0, a1, a2, a3, a4, a5, a6, a7].getD (i / 4) 0) (24 - i % 4 * 8)).toUInt8) := by kernel_rfl
theorem out32_list2 (a0 a1 a2 a3 a4 a5 a6 a7 : UInt32) : outW [a0, a1, a2, a3, a4, a5, a6, a7] 32 =
    (List.range 32).map (fun i => (shr32 ([a0, a1, a2, a3, a4, a5, a6, a7].getD (i / 4) 0) (24 - i % 4 * 8)).toUInt8) := by kernel_rfl

theorem out32 {h : List UInt32} (hh : h.length = 8) : outR 4 (up h) 8 = outW h 32 := by
  obtain ⟨a0, a1, a2, a3, a4, a5, a6, a7, rfl⟩ := len8 hh
  rw [show up [a0, a1, a2, a3, a4, a5, a6, a7] = [a0.toUInt64, a1.toUInt64, a2.toUInt64, a3.toUInt64, a4.toUInt64, a5.toUInt64, a6.toUInt64, a7.toUInt64] from rfl, out32_list, out32_list2]
  rw [show [a0.toUInt64, a1.toUInt64, a2.toUInt64, a3.toUInt64, a4.toUInt64, a5.toUInt64, a6.toUInt64, a7.toUInt64] = up [a0, a1, a2, a3, a4, a5, a6, a7] from rfl]
  refine List.map_congr_left fun i _ => ?_
  rw [up_getD, shr_up]
  apply UInt8.toNat_inj.1
  rw [UInt64.toNat_toUInt8, UInt32.toNat_toUInt64, UInt32.toNat_toUInt8]

theorem all32 (b : List UInt8) : allR 4 b (zeroN (b.length % 64)) = b.take (64 * (b.length / 64)) ++ tail32 (b.drop (64 * (b.length / 64))) (UInt64.ofInt (b.length : Int)) := by
  unfold allR tail32 padT
  rw [lenR_app, lenT_app, lenR8, show (b.drop (64 * (b.length / 64))).length = b.length % 64 by rw [List.length_drop]; omega]
  conv => lhs; rw [← List.take_append_drop (64 * (b.length / 64)) b]
  simp only [List.append_assoc, List.length_append, List.length_take, List.length_drop]
  rw [show min (64 * (b.length / 64)) b.length + (b.length - 64 * (b.length / 64)) = b.length by omega]

theorem short_eq (b : List UInt8) : rShort b = sha256 b := by
  rw [rShort_eq, sha256_eq]
  unfold hashR sum32
  have hwd : C32.wd = 4 := by rw [C32_eq]
  rw [hwd, F32_up, blks32_eq, all32, UInt64.zero_add]
  have hp : 64 * (b.length / 64) ≤ b.length := by omega
  have hA : (b.take (64 * (b.length / 64))).length = 64 * (b.length / 64) := by rw [List.length_take]; omega
  have hT := tail32_length (b.drop (64 * (b.length / 64))) (UInt64.ofInt (b.length : Int))
  generalize tail32 (b.drop (64 * (b.length / 64))) (UInt64.ofInt (b.length : Int)) = T at hT ⊢
  rw [List.length_append, hA, show (64 * (b.length / 64) + T.length) / (16 * 4) = b.length / 64 + T.length / 64 by omega, blks32_app hA, blks32_take hp]
  exact out32 (blks32_length (blks32_length H32_length b (b.length / 64)) T (T.length / 64))

end Go.Proofs.Ytniijmdkccbnlaa
