/- What the functions of the program compute. No condition. -/
import Derived.Test.YtniijmdkccbnlaaHwMac3ToMac3
set_option linter.unusedSimpArgs false
set_option linter.unusedVariables false
namespace Go.Proofs.Ytniijmdkccbnlaa
open Go Go.Sx

/-! HKDF, of both. -/

def hkT (p info : List UInt8) : Nat → List UInt8
  | 0 => []
  | k + 1 => hmac p (hkT p info k ++ info ++ [UInt8.ofNat (k + 1)])
def hkO (p info : List UInt8) : Nat → List UInt8
  | 0 => []
  | k + 1 => hkO p info k ++ hkT p info (k + 1)
theorem hkT_length (p info : List UInt8) : ∀ k, (hkT p info (k + 1)).length = 32 := fun k => hmac_length _ _
theorem hkT_le (p info : List UInt8) : ∀ k, (hkT p info k).length ≤ 32
  | 0 => by simp [hkT]
  | k + 1 => by rw [hkT_length]; omega
theorem hkO_length (p info : List UInt8) : ∀ k, (hkO p info k).length = 32 * k
  | 0 => rfl
  | k + 1 => by simp only [hkO, List.length_append, hkO_length p info k, hkT_length]; omega
theorem ofNat_succ8 (k : Nat) : UInt8.ofNat (k + 1) + UInt8.ofNat 1 = UInt8.ofNat (k + 1 + 1) := (UInt8.ofNat_add _ _).symm
theorem ofInt_succ8 (k : Nat) : UInt8.ofInt ((k : Int) + 1) = UInt8.ofNat (k + 1) := by
  rw [show (k : Int) + 1 = ((k + 1 : Nat) : Int) by omega]
  apply UInt8.toNat_inj.1
  unfold UInt8.ofInt
  rw [UInt8.toNat_ofNat', UInt8.toNat_ofNat']
  omega

set_option maxRecDepth 100000 in
set_option maxHeartbeats 1000000 in
theorem fn14 (salt from_ info : List UInt8) (a b c n : Nat) (ha : salt.length = a) (hb : from_.length = b) (hc : info.length = c) (la : a ≤ 1000000) (lb : b ≤ 1000000) (lc : c ≤ 1000000) (hn : n ≤ 8160) :
    Sx.Fn Γ.P 14 [.slx 1000 0 0 a, .slx 1001 0 0 b, .slx 1002 0 0 c, .i .i64 n] [(1000, .mem false 0 [(a, .a8 salt)]), (1001, .mem false 0 [(b, .a8 from_)]), (1002, .mem false 0 [(c, .a8 info)])]
      (fun v M => ∃ sp, v = .tup [.sl 1004 0 0 n n, .tt] ∧ M = [(1000, .mem false 0 [(a, .a8 salt)]), (1001, .mem false 0 [(b, .a8 from_)]), (1002, .mem false 0 [(c, .a8 info)]),
        (1004, .mem true sp [(32 * ((n + 31) / 32), .a8 (hkO (hmac salt from_) info ((n + 31) / 32)))])]) := by
  have hby : (Γ.ty 5).bytes = 1 := rfl
  have hP := fn12 salt from_ a b ha hb (by omega) (by omega)
  have hpl := hmac_length salt from_
  generalize hmac salt from_ = p at hP hpl
  refine fn_of (Γ := Γ) (fn := Try.f14) rfl rfl rfl rfl ?_
  refine Branch.intro (fun h => absurd h (by omega)) (fun _ => ?_)
  refine Branch.intro (fun h => absurd h (by omega)) (fun _ => ?_)
  refine Call.intro hP [(1000, (1000, 0, none)), (1001, (1001, 0, none))] rfl (by repeat' (first | (show AllP _; first | exact trivial | refine AllP.app ?_ ?_ | refine AllP.appd ?_ ?_ | refine AllP.cons ?_ ?_) | with_reducible rfl | with_reducible assumption | omega | (simp only [rng, Ix.val, addQ_eq, addI, sz5, sz22, sz24, sz33, sz36, sz51] <;> omega) | (simp only [rng, Ix.val, Int.toNat_natCast, mulE_eq, addQ_eq, addI, Option.getD_none, Option.getD_some, List.length_take, List.length_drop, List.length_append, List.length_set, List.length_replicate, sz5, sz22, sz24, sz33, sz36, sz51, *] <;> omega) | (simp only [Ix.val]; with_reducible assumption) | exact UInt8.toNat_lt _ | (apply Eq.trans; (with_reducible assumption); exact rfl) | exact rfl | exact fun _ _ => rfl)) rfl (by repeat' (first | (show AllP _; first | exact trivial | refine AllP.app ?_ ?_ | refine AllP.appd ?_ ?_ | refine AllP.cons ?_ ?_) | with_reducible rfl | with_reducible assumption | omega | (simp only [rng, Ix.val, addQ_eq, addI, sz5, sz22, sz24, sz33, sz36, sz51] <;> omega) | (simp only [rng, Ix.val, Int.toNat_natCast, mulE_eq, addQ_eq, addI, Option.getD_none, Option.getD_some, List.length_take, List.length_drop, List.length_append, List.length_set, List.length_replicate, sz5, sz22, sz24, sz33, sz36, sz51, *] <;> omega) | (simp only [Ix.val]; with_reducible assumption) | exact UInt8.toNat_lt _ | (apply Eq.trans; (with_reducible assumption); exact rfl) | exact rfl | exact fun _ _ => rfl)) rfl ?_
  rintro v M' ⟨rfl, rfl⟩
  repeat (refine Side.intro (by repeat' (first | (show AllP _; first | exact trivial | refine AllP.app ?_ ?_ | refine AllP.appd ?_ ?_ | refine AllP.cons ?_ ?_) | with_reducible rfl | with_reducible assumption | omega | (simp only [rng, Ix.val, addQ_eq, addI, sz5, sz22, sz24, sz33, sz36, sz51] <;> omega) | (simp only [rng, Ix.val, Int.toNat_natCast, mulE_eq, addQ_eq, addI, Option.getD_none, Option.getD_some, List.length_take, List.length_drop, List.length_append, List.length_set, List.length_replicate, sz5, sz22, sz24, sz33, sz36, sz51, *] <;> omega) | (simp only [Ix.val]; with_reducible assumption) | exact UInt8.toNat_lt _ | (apply Eq.trans; (with_reducible assumption); exact rfl) | exact rfl | exact fun _ _ => rfl)) ?_)
  refine Loop.intro (σ := Nat × Nat) (fun s => s.1 ≤ (n + 31) / 32 ∧ 32 * s.1 ≤ s.2)
    (fun s => ([(2, .slx 1002 0 0 c), (3, .i .i64 n), (10, .ptr 10 0 none), (11, .sl 204 0 0 (32 * s.1) s.2), (12, .sl 203 0 0 (hkT p info s.1).length (hkT p info s.1).length), (13, .u8 (UInt8.ofNat (s.1 + 1)))],
      [(1000, .mem false 0 [(a, .a8 salt)]), (1001, .mem false 0 [(b, .a8 from_)]), (1002, .mem false 0 [(c, .a8 info)]), (10, .mem true 0 [(32, .a8 p)]),
        (203, .mem true 0 [((hkT p info s.1).length, .a8 (hkT p info s.1))]), (204, .mem true (s.2 - 32 * s.1) [(32 * s.1, .a8 (hkO p info s.1))])])) (fun s => (n + 31) / 32 - s.1) (0, n + 32) ⟨Nat.zero_le _, Nat.zero_le _⟩ ?_ ?_
  · refine Le.ghost [.own 203 [(0, .a8 [])]] [(12, 203)] [(204, (27, 0, none))] rfl ⟨rfl, rfl, trivial⟩ rfl rfl ?_ rfl ?_ rfl
    · repeat' (first | (show AllP _; first | exact trivial | refine AllP.app ?_ ?_ | refine AllP.appd ?_ ?_ | refine AllP.cons ?_ ?_) | with_reducible rfl | with_reducible assumption | omega | (simp only [rng, Ix.val, addQ_eq, addI, sz5, sz22, sz24, sz33, sz36, sz51] <;> omega) | (simp only [rng, Ix.val, Int.toNat_natCast, mulE_eq, addQ_eq, addI, Option.getD_none, Option.getD_some, List.length_take, List.length_drop, List.length_append, List.length_set, List.length_replicate, sz5, sz22, sz24, sz33, sz36, sz51, *] <;> omega) | (simp only [Ix.val]; with_reducible assumption) | exact UInt8.toNat_lt _ | (apply Eq.trans; (with_reducible assumption); exact rfl) | exact rfl | exact fun _ _ => rfl)
    · repeat' (first | (show AllP _; first | exact trivial | refine AllP.app ?_ ?_ | refine AllP.appd ?_ ?_ | refine AllP.cons ?_ ?_) | with_reducible rfl | with_reducible assumption | omega | (simp only [rng, Ix.val, addQ_eq, addI, sz5, sz22, sz24, sz33, sz36, sz51] <;> omega) | (simp only [rng, Ix.val, Int.toNat_natCast, mulE_eq, addQ_eq, addI, Option.getD_none, Option.getD_some, List.length_take, List.length_drop, List.length_append, List.length_set, List.length_replicate, sz5, sz22, sz24, sz33, sz36, sz51, *] <;> omega) | (simp only [Ix.val]; with_reducible assumption) | exact UInt8.toNat_lt _ | (apply Eq.trans; (with_reducible assumption); exact rfl) | exact rfl | exact fun _ _ => rfl)
  rintro ⟨k, cc⟩ ⟨hk, hcc⟩
  have hk : k ≤ (n + 31) / 32 := hk
  have hcc : 32 * k ≤ cc := hcc
  have htl := hkT_le p info k
  have hol := hkO_length p info k
  refine Branch.intro (fun hq => ?_) (fun hq => ?_)
  · have hq : ((32 * k : Nat) : Int) < n := hq
    have hs1 : hkT p info (k + 1) = hmac p (hkT p info k ++ info ++ [UInt8.ofNat (k + 1)]) := rfl
    have hs2 : hkO p info (k + 1) = hkO p info k ++ hkT p info (k + 1) := rfl
    have htl1 := hkT_length p info k
    have hi8 := ofNat_succ8 k
    have hHt := fn12 p (hkT p info k ++ info ++ [UInt8.ofNat (k + 1)]) 32 ((hkT p info k).length + c + 1) hpl (by rw [List.length_append, List.length_append, hc]; rfl) (by omega) (by omega)
    rw [← hs1] at hHt
    generalize hT1 : hkT p info (k + 1) = T1 at *
    generalize hTl : (hkT p info k).length = tl at *
    generalize hkT p info k = T0 at *
    generalize hX : T0 ++ info ++ [UInt8.ofNat (k + 1)] = X at hHt
    have hX2 : X = [] ++ List.take tl (List.drop 0 T0) ++ List.take c (List.drop 0 info) ++ List.take 1 (List.drop 0 [UInt8.ofNat (k + 1)]) := by
      rw [List.drop_zero, List.drop_zero, List.drop_zero, List.take_of_length_le (by omega), List.take_of_length_le (by omega), List.nil_append, ← hX]; rfl
    clear hs1 hX
    repeat (refine Side.intro (by repeat' (first | (show AllP _; first | exact trivial | refine AllP.app ?_ ?_ | refine AllP.appd ?_ ?_ | refine AllP.cons ?_ ?_) | with_reducible rfl | with_reducible assumption | omega | (simp only [rng, Ix.val, addQ_eq, addI, sz5, sz22, sz24, sz33, sz36, sz51] <;> omega) | (simp only [rng, Ix.val, Int.toNat_natCast, mulE_eq, addQ_eq, addI, Option.getD_none, Option.getD_some, List.length_take, List.length_drop, List.length_append, List.length_set, List.length_replicate, sz5, sz22, sz24, sz33, sz36, sz51, *] <;> omega) | (simp only [Ix.val]; with_reducible assumption) | exact UInt8.toNat_lt _ | (apply Eq.trans; (with_reducible assumption); exact rfl) | exact rfl | exact fun _ _ => rfl)) ?_)
    refine fun c1 hc1 => ?_
    refine fun c2 hc2 => ?_
    refine fun c3 hc3 => ?_
    have hc3 : tl + c + 1 ≤ c3 := by have : 0 + tl + c + 1 ≤ c3 := hc3; omega
    repeat (refine Side.intro (by repeat' (first | (show AllP _; first | exact trivial | refine AllP.app ?_ ?_ | refine AllP.appd ?_ ?_ | refine AllP.cons ?_ ?_) | with_reducible rfl | with_reducible assumption | omega | (simp only [rng, Ix.val, addQ_eq, addI, sz5, sz22, sz24, sz33, sz36, sz51] <;> omega) | (simp only [rng, Ix.val, Int.toNat_natCast, mulE_eq, addQ_eq, addI, Option.getD_none, Option.getD_some, List.length_take, List.length_drop, List.length_append, List.length_set, List.length_replicate, sz5, sz22, sz24, sz33, sz36, sz51, *] <;> omega) | (simp only [Ix.val]; with_reducible assumption) | exact UInt8.toNat_lt _ | (apply Eq.trans; (with_reducible assumption); exact rfl) | exact rfl | exact fun _ _ => rfl)) ?_)
    refine Call.intro hHt [(1000, (10, 0, none)), (1001, (41, 0, none))] rfl ?_ rfl ?_ rfl ?_
    · repeat' (first | (show AllP _; first | exact trivial | refine AllP.app ?_ ?_ | refine AllP.appd ?_ ?_ | refine AllP.cons ?_ ?_) | with_reducible rfl | with_reducible assumption | omega | (simp only [rng, Ix.val, addQ_eq, addI, sz5, sz22, sz24, sz33, sz36, sz51] <;> omega) | (simp only [rng, Ix.val, Int.toNat_natCast, mulE_eq, addQ_eq, addI, Option.getD_none, Option.getD_some, List.length_take, List.length_drop, List.length_append, List.length_set, List.length_replicate, sz5, sz22, sz24, sz33, sz36, sz51, *] <;> omega) | (simp only [Ix.val]; with_reducible assumption) | exact UInt8.toNat_lt _ | (apply Eq.trans; (with_reducible assumption); exact rfl) | exact rfl | exact fun _ _ => rfl)
    · repeat' (first | (show AllP _; first | exact trivial | refine AllP.app ?_ ?_ | refine AllP.appd ?_ ?_ | refine AllP.cons ?_ ?_) | with_reducible rfl | with_reducible assumption | omega | (simp only [rng, Ix.val, addQ_eq, addI, sz5, sz22, sz24, sz33, sz36, sz51] <;> omega) | (simp only [rng, Ix.val, Int.toNat_natCast, mulE_eq, addQ_eq, addI, Option.getD_none, Option.getD_some, List.length_take, List.length_drop, List.length_append, List.length_set, List.length_replicate, sz5, sz22, sz24, sz33, sz36, sz51, *] <;> omega) | (simp only [Ix.val]; with_reducible assumption) | exact UInt8.toNat_lt _ | (apply Eq.trans; (with_reducible assumption); exact rfl) | exact rfl | exact fun _ _ => rfl)
      all_goals exact hX2
    rintro v M' ⟨rfl, rfl⟩
    repeat (refine Side.intro (by repeat' (first | (show AllP _; first | exact trivial | refine AllP.app ?_ ?_ | refine AllP.appd ?_ ?_ | refine AllP.cons ?_ ?_) | with_reducible rfl | with_reducible assumption | omega | (simp only [rng, Ix.val, addQ_eq, addI, sz5, sz22, sz24, sz33, sz36, sz51] <;> omega) | (simp only [rng, Ix.val, Int.toNat_natCast, mulE_eq, addQ_eq, addI, Option.getD_none, Option.getD_some, List.length_take, List.length_drop, List.length_append, List.length_set, List.length_replicate, sz5, sz22, sz24, sz33, sz36, sz51, *] <;> omega) | (simp only [Ix.val]; with_reducible assumption) | exact UInt8.toNat_lt _ | (apply Eq.trans; (with_reducible assumption); exact rfl) | exact rfl | exact fun _ _ => rfl)) ?_)
    refine fun c4 hc4 => ?_
    have hc4 : 32 * k + 32 ≤ c4 := hc4
    repeat (refine Side.intro (by repeat' (first | (show AllP _; first | exact trivial | refine AllP.app ?_ ?_ | refine AllP.appd ?_ ?_ | refine AllP.cons ?_ ?_) | with_reducible rfl | with_reducible assumption | omega | (simp only [rng, Ix.val, addQ_eq, addI, sz5, sz22, sz24, sz33, sz36, sz51] <;> omega) | (simp only [rng, Ix.val, Int.toNat_natCast, mulE_eq, addQ_eq, addI, Option.getD_none, Option.getD_some, List.length_take, List.length_drop, List.length_append, List.length_set, List.length_replicate, sz5, sz22, sz24, sz33, sz36, sz51, *] <;> omega) | (simp only [Ix.val]; with_reducible assumption) | exact UInt8.toNat_lt _ | (apply Eq.trans; (with_reducible assumption); exact rfl) | exact rfl | exact fun _ _ => rfl)) ?_)
    have hT2 : List.take 32 T1 = T1 := List.take_of_length_le (by omega)
    refine ⟨(k + 1, c4), ⟨by omega, by show 32 * (k + 1) ≤ c4; omega⟩, by show (n + 31) / 32 - (k + 1) < (n + 31) / 32 - k; omega, Le.intro [(203, (15, 0, none)), (204, (48, 0, none))] rfl ?_ rfl ?_ rfl⟩
    · repeat' (first | (show AllP _; first | exact trivial | refine AllP.app ?_ ?_ | refine AllP.appd ?_ ?_ | refine AllP.cons ?_ ?_) | with_reducible rfl | with_reducible assumption | omega | (simp only [rng, Ix.val, addQ_eq, addI, sz5, sz22, sz24, sz33, sz36, sz51] <;> omega) | (simp only [rng, Ix.val, Int.toNat_natCast, mulE_eq, addQ_eq, addI, Option.getD_none, Option.getD_some, List.length_take, List.length_drop, List.length_append, List.length_set, List.length_replicate, sz5, sz22, sz24, sz33, sz36, sz51, *] <;> omega) | (simp only [Ix.val]; with_reducible assumption) | exact UInt8.toNat_lt _ | (apply Eq.trans; (with_reducible assumption); exact rfl) | exact rfl | exact fun _ _ => rfl)
    · repeat' (first | (show AllP _; first | exact trivial | refine AllP.app ?_ ?_ | refine AllP.appd ?_ ?_ | refine AllP.cons ?_ ?_) | with_reducible rfl | with_reducible assumption | omega | (simp only [dropQ_eq, List.drop_zero, rng, Ix.val, addQ_eq, addI, sz5, sz22, sz24, sz33, sz36, sz51] <;> omega) | (simp only [dropQ_eq, List.drop_zero, rng, Ix.val, Int.toNat_natCast, mulE_eq, addQ_eq, addI, Option.getD_none, Option.getD_some, List.length_take, List.length_drop, List.length_append, List.length_set, List.length_replicate, sz5, sz22, sz24, sz33, sz36, sz51, *] <;> omega) | (simp only [Ix.val]; with_reducible assumption) | exact UInt8.toNat_lt _ | (apply Eq.trans; (with_reducible assumption); exact rfl) | exact rfl | exact fun _ _ => rfl)
  · have hq : ¬ ((32 * k : Nat) : Int) < n := hq
    have hkk : k = (n + 31) / 32 := by omega
    subst hkk
    repeat (refine Side.intro (by repeat' (first | (show AllP _; first | exact trivial | refine AllP.app ?_ ?_ | refine AllP.appd ?_ ?_ | refine AllP.cons ?_ ?_) | with_reducible rfl | with_reducible assumption | omega | (simp only [rng, Ix.val, addQ_eq, addI, sz5, sz22, sz24, sz33, sz36, sz51] <;> omega) | (simp only [rng, Ix.val, Int.toNat_natCast, mulE_eq, addQ_eq, addI, Option.getD_none, Option.getD_some, List.length_take, List.length_drop, List.length_append, List.length_set, List.length_replicate, sz5, sz22, sz24, sz33, sz36, sz51, *] <;> omega) | (simp only [Ix.val]; with_reducible assumption) | exact UInt8.toNat_lt _ | (apply Eq.trans; (with_reducible assumption); exact rfl) | exact rfl | exact fun _ _ => rfl)) ?_)
    refine Ret.intro (.tup [.sl 1004 0 0 n n, .tt]) [(1000, .mem false 0 [(a, .a8 salt)]), (1001, .mem false 0 [(b, .a8 from_)]), (1002, .mem false 0 [(c, .a8 info)]),
        (1004, .mem true (cc - 32 * ((n + 31) / 32)) [(32 * ((n + 31) / 32), .a8 (hkO p info ((n + 31) / 32)))])] [(1004, (204, 0, none))] rfl ?_ ⟨_, rfl, rfl⟩ rfl ?_ rfl ?_ rfl
    · repeat' (first | (show AllP _; first | exact trivial | refine AllP.app ?_ ?_ | refine AllP.appd ?_ ?_ | refine AllP.cons ?_ ?_) | with_reducible rfl | with_reducible assumption | omega | (simp only [rng, Ix.val, addQ_eq, addI, sz5, sz22, sz24, sz33, sz36, sz51] <;> omega) | (simp only [rng, Ix.val, Int.toNat_natCast, mulE_eq, addQ_eq, addI, Option.getD_none, Option.getD_some, List.length_take, List.length_drop, List.length_append, List.length_set, List.length_replicate, sz5, sz22, sz24, sz33, sz36, sz51, *] <;> omega) | (simp only [Ix.val]; with_reducible assumption) | exact UInt8.toNat_lt _ | (apply Eq.trans; (with_reducible assumption); exact rfl) | exact rfl | exact fun _ _ => rfl)
    · repeat' (first | (show AllP _; first | exact trivial | refine AllP.app ?_ ?_ | refine AllP.appd ?_ ?_ | refine AllP.cons ?_ ?_) | with_reducible rfl | with_reducible assumption | omega | (simp only [rng, Ix.val, addQ_eq, addI, sz5, sz22, sz24, sz33, sz36, sz51] <;> omega) | (simp only [rng, Ix.val, Int.toNat_natCast, mulE_eq, addQ_eq, addI, Option.getD_none, Option.getD_some, List.length_take, List.length_drop, List.length_append, List.length_set, List.length_replicate, sz5, sz22, sz24, sz33, sz36, sz51, *] <;> omega) | (simp only [Ix.val]; with_reducible assumption) | exact UInt8.toNat_lt _ | (apply Eq.trans; (with_reducible assumption); exact rfl) | exact rfl | exact fun _ _ => rfl)
    · repeat' (first | (show AllP _; first | exact trivial | refine AllP.app ?_ ?_ | refine AllP.appd ?_ ?_ | refine AllP.cons ?_ ?_) | with_reducible rfl | with_reducible assumption | omega | (simp only [rng, Ix.val, addQ_eq, addI, sz5, sz22, sz24, sz33, sz36, sz51] <;> omega) | (simp only [rng, Ix.val, Int.toNat_natCast, mulE_eq, addQ_eq, addI, Option.getD_none, Option.getD_some, List.length_take, List.length_drop, List.length_append, List.length_set, List.length_replicate, sz5, sz22, sz24, sz33, sz36, sz51, *] <;> omega) | (simp only [Ix.val]; with_reducible assumption) | exact UInt8.toNat_lt _ | (apply Eq.trans; (with_reducible assumption); exact rfl) | exact rfl | exact fun _ _ => rfl)

end Go.Proofs.Ytniijmdkccbnlaa
