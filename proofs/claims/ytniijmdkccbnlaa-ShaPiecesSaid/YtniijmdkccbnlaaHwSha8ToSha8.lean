/- What the functions of the program compute. No condition. -/
import Derived.Test.YtniijmdkccbnlaaHwSha7ToSha7
set_option linter.unusedSimpArgs false
set_option linter.unusedVariables false
namespace Go.Proofs.Ytniijmdkccbnlaa
open Go Go.Sx

/-! SHA-512. -/

@[irreducible] def H64 : List UInt64 := [UInt64.ofNat 7640891576956012808, UInt64.ofNat 13503953896175478587, UInt64.ofNat 4354685564936845355, UInt64.ofNat 11912009170470909681, UInt64.ofNat 5840696475078001361, UInt64.ofNat 11170449401992604703, UInt64.ofNat 2270897969802886507, UInt64.ofNat 6620516959819538809]
theorem H64_eq : H64 = [UInt64.ofNat 7640891576956012808, UInt64.ofNat 13503953896175478587, UInt64.ofNat 4354685564936845355, UInt64.ofNat 11912009170470909681, UInt64.ofNat 5840696475078001361, UInt64.ofNat 11170449401992604703, UInt64.ofNat 2270897969802886507, UInt64.ofNat 6620516959819538809] := by unfold H64; rfl
theorem H64_length : H64.length = 8 := by rw [H64_eq]; rfl

def blks64 (h : List UInt64) (b : List UInt8) : Nat → List UInt64
  | 0 => h
  | q + 1 => blk64 (blks64 h b q) ((b.drop (128 * q)).take 128)
theorem blks64_length {h : List UInt64} (hh : h.length = 8) (b : List UInt8) : ∀ q, (blks64 h b q).length = 8
  | 0 => hh
  | q + 1 => blk64_length (blks64_length hh b q) _

def zeroN64 (r : Nat) : Nat := (239 - r) % 128
def outW64 (w : List UInt64) : Nat → List UInt8
  | 0 => List.replicate 64 0
  | i + 1 => (outW64 w i).set i (shr64 (w.getD (i / 8) 0) (56 - i % 8 * 8)).toUInt8
def tail64 (R : List UInt8) (n : UInt64) : List UInt8 := lenT (padT R (zeroN64 R.length) ++ List.replicate 8 0) n 8
theorem tail64_length (R : List UInt8) (n : UInt64) : (tail64 R n).length = R.length + 1 + zeroN64 R.length + 16 := by
  unfold tail64; rw [lenT_length, List.length_append, padT_length, List.length_replicate]
theorem outW64_length (w : List UInt64) : ∀ i, (outW64 w i).length = 64
  | 0 => List.length_replicate
  | i + 1 => by simp only [outW64, List.length_set, outW64_length w i]

/-- What Sum512 gives; hidden from the unfolder. -/
@[irreducible] def sha512 (b : List UInt8) : List UInt8 :=
  outW64 (blks64 (blks64 H64 b (b.length / 128)) (tail64 (b.drop (128 * (b.length / 128))) (UInt64.ofInt (b.length : Int))) ((tail64 (b.drop (128 * (b.length / 128))) (UInt64.ofInt (b.length : Int))).length / 128)) 64
theorem sha512_eq (b : List UInt8) : sha512 b =
  outW64 (blks64 (blks64 H64 b (b.length / 128)) (tail64 (b.drop (128 * (b.length / 128))) (UInt64.ofInt (b.length : Int))) ((tail64 (b.drop (128 * (b.length / 128))) (UInt64.ofInt (b.length : Int))).length / 128)) 64 := by unfold sha512; rfl
theorem sha512_length (b : List UInt8) : (sha512 b).length = 64 := by rw [sha512_eq]; exact outW64_length _ _

set_option maxRecDepth 100000 in
set_option maxHeartbeats 1000000 in
theorem fn21 (b : List UInt8) (m : Nat) (hb : b.length = m) (hmax : m ≤ 100000000) : Sx.Fn Γ.P 21 [.slx 1002 0 0 m] [(1002, .mem false 0 [(m, .a8 b)])]
    (fun v M => v = .a8 (sha512 b) ∧ M = [(1002, .mem false 0 [(m, .a8 b)])]) := by
  have hby : (Γ.ty 5).bytes = 1 := rfl
  have hH := H64_eq
  refine fn_of (Γ := Γ) (fn := Try.f21) rfl rfl rfl rfl ?_
  obtain ⟨n, hn⟩ : ∃ x, UInt64.ofInt (m : Int) = x := ⟨_, rfl⟩
  repeat (refine Side.intro (by repeat' (first | (show AllP _; first | exact trivial | refine AllP.app ?_ ?_ | refine AllP.appd ?_ ?_ | refine AllP.cons ?_ ?_) | with_reducible rfl | with_reducible assumption | omega | (simp only [rng, Ix.val, addQ_eq, addI, sz3, sz5, sz22, sz33, sz44, sz45, sz47, sz58] <;> omega) | (simp only [rng, Ix.val, Int.toNat_natCast, mulE_eq, addQ_eq, addI, Option.getD_none, Option.getD_some, List.length_take, List.length_drop, List.length_append, List.length_set, List.length_replicate, sz3, sz5, sz22, sz33, sz44, sz45, sz47, sz58, *] <;> omega) | (simp only [Ix.val]; with_reducible assumption) | exact UInt8.toNat_lt _ | (apply Eq.trans; (with_reducible assumption); exact rfl) | exact rfl | exact fun _ _ => rfl)) ?_)
  refine Loop.intro (σ := Nat) (fun q => q ≤ m / 128)
    (fun q => ([(0, .slx 1002 0 (128 * q) (m - 128 * q)), (2, .ptr 2 0 none), (3, .ptr 3 0 none), (4, .u64 n)],
      [(1002, .mem false 0 [(m, .a8 b)]), (2, .mem true 0 [(64, .a8 (List.replicate 64 0))]), (3, .mem true 0 [(8, .a64 (blks64 H64 b q))])])) (fun q => m / 128 - q) 0 (Nat.zero_le _) ?_ ?_
  · have hn' := hn.symm
    clear hn
    refine Le.intro [] rfl ?_ rfl ?_ rfl
    · repeat' (first | (show AllP _; first | exact trivial | refine AllP.app ?_ ?_ | refine AllP.appd ?_ ?_ | refine AllP.cons ?_ ?_) | with_reducible rfl | with_reducible assumption | omega | (simp only [rng, Ix.val, addQ_eq, addI, sz3, sz5, sz22, sz33, sz44, sz45, sz47, sz58] <;> omega) | (simp only [rng, Ix.val, Int.toNat_natCast, mulE_eq, addQ_eq, addI, Option.getD_none, Option.getD_some, List.length_take, List.length_drop, List.length_append, List.length_set, List.length_replicate, sz3, sz5, sz22, sz33, sz44, sz45, sz47, sz58, *] <;> omega) | (simp only [Ix.val]; with_reducible assumption) | exact UInt8.toNat_lt _ | (apply Eq.trans; (with_reducible assumption); exact rfl) | exact rfl | exact fun _ _ => rfl)
    · have e0 : blks64 H64 b 0 = H64 := rfl
      repeat' (first | (show AllP _; first | exact trivial | refine AllP.app ?_ ?_ | refine AllP.appd ?_ ?_ | refine AllP.cons ?_ ?_) | with_reducible rfl | with_reducible assumption | omega | (simp only [rng, Ix.val, addQ_eq, addI, sz3, sz5, sz22, sz33, sz44, sz45, sz47, sz58] <;> omega) | (simp only [rng, Ix.val, Int.toNat_natCast, mulE_eq, addQ_eq, addI, Option.getD_none, Option.getD_some, List.length_take, List.length_drop, List.length_append, List.length_set, List.length_replicate, sz3, sz5, sz22, sz33, sz44, sz45, sz47, sz58, *] <;> omega) | (simp only [Ix.val]; with_reducible assumption) | exact UInt8.toNat_lt _ | (apply Eq.trans; (with_reducible assumption); exact rfl) | exact rfl | exact fun _ _ => rfl)
      all_goals exact hH
  rintro q hq
  have hbl := blks64_length H64_length b q
  refine Branch.intro (fun hb1 => ?_) (fun hb1 => ?_)
  · have hb1 : ((m - 128 * q : Nat) : Int) ≥ 128 := hb1
    repeat (refine Side.intro (by repeat' (first | (show AllP _; first | exact trivial | refine AllP.app ?_ ?_ | refine AllP.appd ?_ ?_ | refine AllP.cons ?_ ?_) | with_reducible rfl | with_reducible assumption | omega | (simp only [rng, Ix.val, addQ_eq, addI, sz3, sz5, sz22, sz33, sz44, sz45, sz47, sz58] <;> omega) | (simp only [rng, Ix.val, Int.toNat_natCast, mulE_eq, addQ_eq, addI, Option.getD_none, Option.getD_some, List.length_take, List.length_drop, List.length_append, List.length_set, List.length_replicate, sz3, sz5, sz22, sz33, sz44, sz45, sz47, sz58, *] <;> omega) | (simp only [Ix.val]; with_reducible assumption) | exact UInt8.toNat_lt _ | (apply Eq.trans; (with_reducible assumption); exact rfl) | exact rfl | exact fun _ _ => rfl)) ?_)
    have hB := fn28 (blks64 H64 b q) ((b.drop (128 * q)).take 128) hbl (by simp only [List.length_take, List.length_drop]; omega)
    refine Call.intro hB [(1000, (3, 0, none)), (1001, (1002, 0, some (128 * q)))] rfl ?_ rfl ?_ rfl ?_
    · repeat' (first | (show AllP _; first | exact trivial | refine AllP.app ?_ ?_ | refine AllP.appd ?_ ?_ | refine AllP.cons ?_ ?_) | with_reducible rfl | with_reducible assumption | omega | (simp only [rng, Ix.val, addQ_eq, addI, sz3, sz5, sz22, sz33, sz44, sz45, sz47, sz58] <;> omega) | (simp only [rng, Ix.val, Int.toNat_natCast, mulE_eq, addQ_eq, addI, Option.getD_none, Option.getD_some, List.length_take, List.length_drop, List.length_append, List.length_set, List.length_replicate, sz3, sz5, sz22, sz33, sz44, sz45, sz47, sz58, *] <;> omega) | (simp only [Ix.val]; with_reducible assumption) | exact UInt8.toNat_lt _ | (apply Eq.trans; (with_reducible assumption); exact rfl) | exact rfl | exact fun _ _ => rfl)
    · repeat' (first | (show AllP _; first | exact trivial | refine AllP.app ?_ ?_ | refine AllP.appd ?_ ?_ | refine AllP.cons ?_ ?_) | with_reducible rfl | with_reducible assumption | omega | (simp only [rng, Ix.val, addQ_eq, addI, sz3, sz5, sz22, sz33, sz44, sz45, sz47, sz58] <;> omega) | (simp only [rng, Ix.val, Int.toNat_natCast, mulE_eq, addQ_eq, addI, Option.getD_none, Option.getD_some, List.length_take, List.length_drop, List.length_append, List.length_set, List.length_replicate, sz3, sz5, sz22, sz33, sz44, sz45, sz47, sz58, *] <;> omega) | (simp only [Ix.val]; with_reducible assumption) | exact UInt8.toNat_lt _ | (apply Eq.trans; (with_reducible assumption); exact rfl) | exact rfl | exact fun _ _ => rfl)
    rintro v M' ⟨rfl, rfl⟩
    repeat (refine Side.intro (by repeat' (first | (show AllP _; first | exact trivial | refine AllP.app ?_ ?_ | refine AllP.appd ?_ ?_ | refine AllP.cons ?_ ?_) | with_reducible rfl | with_reducible assumption | omega | (simp only [rng, Ix.val, addQ_eq, addI, sz3, sz5, sz22, sz33, sz44, sz45, sz47, sz58] <;> omega) | (simp only [rng, Ix.val, Int.toNat_natCast, mulE_eq, addQ_eq, addI, Option.getD_none, Option.getD_some, List.length_take, List.length_drop, List.length_append, List.length_set, List.length_replicate, sz3, sz5, sz22, sz33, sz44, sz45, sz47, sz58, *] <;> omega) | (simp only [Ix.val]; with_reducible assumption) | exact UInt8.toNat_lt _ | (apply Eq.trans; (with_reducible assumption); exact rfl) | exact rfl | exact fun _ _ => rfl)) ?_)
    have e1 : 128 * q + 128 = 128 * (q + 1) := by omega
    have e2 : m - 128 * q - 128 = m - 128 * (q + 1) := by omega
    refine ⟨q + 1, by omega, by omega, Le.intro [] rfl ?_ rfl ?_ rfl⟩
    · repeat' (first | (show AllP _; first | exact trivial | refine AllP.app ?_ ?_ | refine AllP.appd ?_ ?_ | refine AllP.cons ?_ ?_) | with_reducible rfl | with_reducible assumption | omega | (simp only [rng, Ix.val, addQ_eq, addI, sz3, sz5, sz22, sz33, sz44, sz45, sz47, sz58] <;> omega) | (simp only [rng, Ix.val, Int.toNat_natCast, mulE_eq, addQ_eq, addI, Option.getD_none, Option.getD_some, List.length_take, List.length_drop, List.length_append, List.length_set, List.length_replicate, sz3, sz5, sz22, sz33, sz44, sz45, sz47, sz58, *] <;> omega) | (simp only [Ix.val]; with_reducible assumption) | exact UInt8.toNat_lt _ | (apply Eq.trans; (with_reducible assumption); exact rfl) | exact rfl | exact fun _ _ => rfl)
    · repeat' (first | (show AllP _; first | exact trivial | refine AllP.app ?_ ?_ | refine AllP.appd ?_ ?_ | refine AllP.cons ?_ ?_) | with_reducible rfl | with_reducible assumption | omega | (simp only [rng, Ix.val, addQ_eq, addI, sz3, sz5, sz22, sz33, sz44, sz45, sz47, sz58] <;> omega) | (simp only [rng, Ix.val, Int.toNat_natCast, mulE_eq, addQ_eq, addI, Option.getD_none, Option.getD_some, List.length_take, List.length_drop, List.length_append, List.length_set, List.length_replicate, sz3, sz5, sz22, sz33, sz44, sz45, sz47, sz58, *] <;> omega) | (simp only [Ix.val]; with_reducible assumption) | exact UInt8.toNat_lt _ | (apply Eq.trans; (with_reducible assumption); exact rfl) | exact rfl | exact fun _ _ => rfl)
  obtain rfl : q = m / 128 := by have hb1 : ¬ ((m - 128 * q : Nat) : Int) ≥ 128 := hb1; omega
  obtain ⟨h, hh⟩ : ∃ x, blks64 H64 b (m / 128) = x := ⟨_, rfl⟩
  rw [hh] at hbl
  obtain ⟨i, hi⟩ : ∃ x, 128 * (m / 128) = x := ⟨_, rfl⟩
  obtain ⟨r, hr⟩ : ∃ x, m - i = x := ⟨_, rfl⟩
  obtain ⟨R, hR⟩ : ∃ x, b.drop i = x := ⟨_, rfl⟩
  have hRl : R.length = r := by rw [← hR, List.length_drop]; omega
  have hr128 : r < 128 := by omega
  have htk : List.take r (List.drop i b) = R := by rw [hR, List.take_of_length_le (by omega)]
  have hsum0 : sha512 b = outW64 (blks64 h (tail64 R n) ((tail64 R n).length / 128)) 64 := by
    rw [sha512_eq, hb, hi, hR, hn, hh]
  repeat (refine Side.intro (by repeat' (first | (show AllP _; first | exact trivial | refine AllP.app ?_ ?_ | refine AllP.appd ?_ ?_ | refine AllP.cons ?_ ?_) | with_reducible rfl | with_reducible assumption | omega | (simp only [rng, Ix.val, addQ_eq, addI, sz3, sz5, sz22, sz33, sz44, sz45, sz47, sz58] <;> omega) | (simp only [rng, Ix.val, Int.toNat_natCast, mulE_eq, addQ_eq, addI, Option.getD_none, Option.getD_some, List.length_take, List.length_drop, List.length_append, List.length_set, List.length_replicate, sz3, sz5, sz22, sz33, sz44, sz45, sz47, sz58, *] <;> omega) | (simp only [Ix.val]; with_reducible assumption) | exact UInt8.toNat_lt _ | (apply Eq.trans; (with_reducible assumption); exact rfl) | exact rfl | exact fun _ _ => rfl)) ?_)
  intro c1 hc1
  repeat (refine Side.intro (by repeat' (first | (show AllP _; first | exact trivial | refine AllP.app ?_ ?_ | refine AllP.appd ?_ ?_ | refine AllP.cons ?_ ?_) | with_reducible rfl | with_reducible assumption | omega | (simp only [rng, Ix.val, addQ_eq, addI, sz3, sz5, sz22, sz33, sz44, sz45, sz47, sz58] <;> omega) | (simp only [rng, Ix.val, Int.toNat_natCast, mulE_eq, addQ_eq, addI, Option.getD_none, Option.getD_some, List.length_take, List.length_drop, List.length_append, List.length_set, List.length_replicate, sz3, sz5, sz22, sz33, sz44, sz45, sz47, sz58, *] <;> omega) | (simp only [Ix.val]; with_reducible assumption) | exact UInt8.toNat_lt _ | (apply Eq.trans; (with_reducible assumption); exact rfl) | exact rfl | exact fun _ _ => rfl)) ?_)
  intro c2 hc2
  repeat (refine Side.intro (by repeat' (first | (show AllP _; first | exact trivial | refine AllP.app ?_ ?_ | refine AllP.appd ?_ ?_ | refine AllP.cons ?_ ?_) | with_reducible rfl | with_reducible assumption | omega | (simp only [rng, Ix.val, addQ_eq, addI, sz3, sz5, sz22, sz33, sz44, sz45, sz47, sz58] <;> omega) | (simp only [rng, Ix.val, Int.toNat_natCast, mulE_eq, addQ_eq, addI, Option.getD_none, Option.getD_some, List.length_take, List.length_drop, List.length_append, List.length_set, List.length_replicate, sz3, sz5, sz22, sz33, sz44, sz45, sz47, sz58, *] <;> omega) | (simp only [Ix.val]; with_reducible assumption) | exact UInt8.toNat_lt _ | (apply Eq.trans; (with_reducible assumption); exact rfl) | exact rfl | exact fun _ _ => rfl)) ?_)
  refine Loop.intro (σ := Nat × Nat) (fun s => s.1 ≤ zeroN64 r ∧ r + 1 + s.1 ≤ s.2)
    (fun s => ([(2, .ptr 2 0 none), (3, .ptr 3 0 none), (4, .u64 n), (5, .sl 200 0 0 (r + 1 + s.1) s.2)],
      [(1002, .mem false 0 [(m, .a8 b)]), (2, .mem true 0 [(64, .a8 (List.replicate 64 0))]), (3, .mem true 0 [(8, .a64 h)]), (200, .mem true (s.2 - (r + 1 + s.1)) [(r + 1 + s.1, .a8 (padT R s.1))])])) (fun s => zeroN64 r - s.1) (0, c2) ⟨Nat.zero_le _, by have : (Ix.lit 0).val + (m - 128 * (m / 128)) + 1 ≤ c2 := hc2; show r + 1 + 0 ≤ c2; have e : (Ix.lit 0).val = 0 := rfl; omega⟩ ?_ ?_
  · refine Le.intro [(200, (25, 0, none))] rfl ?_ rfl ?_ rfl
    · repeat' (first | (show AllP _; first | exact trivial | refine AllP.app ?_ ?_ | refine AllP.appd ?_ ?_ | refine AllP.cons ?_ ?_) | with_reducible rfl | with_reducible assumption | omega | (simp only [rng, Ix.val, addQ_eq, addI, sz3, sz5, sz22, sz33, sz44, sz45, sz47, sz58] <;> omega) | (simp only [rng, Ix.val, Int.toNat_natCast, mulE_eq, addQ_eq, addI, Option.getD_none, Option.getD_some, List.length_take, List.length_drop, List.length_append, List.length_set, List.length_replicate, sz3, sz5, sz22, sz33, sz44, sz45, sz47, sz58, *] <;> omega) | (simp only [Ix.val]; with_reducible assumption) | exact UInt8.toNat_lt _ | (apply Eq.trans; (with_reducible assumption); exact rfl) | exact rfl | exact fun _ _ => rfl)
    · have hh' := hh.symm
      clear hh hR
      repeat' (first | (show AllP _; first | exact trivial | refine AllP.app ?_ ?_ | refine AllP.appd ?_ ?_ | refine AllP.cons ?_ ?_) | with_reducible rfl | with_reducible assumption | omega | (simp only [rng, Ix.val, addQ_eq, addI, sz3, sz5, sz22, sz33, sz44, sz45, sz47, sz58] <;> omega) | (simp only [rng, Ix.val, Int.toNat_natCast, mulE_eq, addQ_eq, addI, Option.getD_none, Option.getD_some, List.length_take, List.length_drop, List.length_append, List.length_set, List.length_replicate, sz3, sz5, sz22, sz33, sz44, sz45, sz47, sz58, *] <;> omega) | (simp only [Ix.val]; with_reducible assumption) | exact UInt8.toNat_lt _ | (apply Eq.trans; (with_reducible assumption); exact rfl) | exact rfl | exact fun _ _ => rfl)
      all_goals (show padT R 0 = [] ++ List.take (m - 128 * (m / 128)) (List.drop (128 * (m / 128)) b) ++ [128]; rw [hi, hr, htk]; simp [padT])
  rintro ⟨j, c⟩ ⟨hj, hc⟩
  have hj : j ≤ zeroN64 r := hj
  have hc : r + 1 + j ≤ c := hc
  have hpl := padT_length R j
  rw [hRl] at hpl
  have hz : zeroN64 r = (239 - r) % 128 := rfl
  repeat (refine Side.intro (by repeat' (first | (show AllP _; first | exact trivial | refine AllP.app ?_ ?_ | refine AllP.appd ?_ ?_ | refine AllP.cons ?_ ?_) | with_reducible rfl | with_reducible assumption | omega | (simp only [rng, Ix.val, addQ_eq, addI, sz3, sz5, sz22, sz33, sz44, sz45, sz47, sz58] <;> omega) | (simp only [rng, Ix.val, Int.toNat_natCast, mulE_eq, addQ_eq, addI, Option.getD_none, Option.getD_some, List.length_take, List.length_drop, List.length_append, List.length_set, List.length_replicate, sz3, sz5, sz22, sz33, sz44, sz45, sz47, sz58, *] <;> omega) | (simp only [Ix.val]; with_reducible assumption) | exact UInt8.toNat_lt _ | (apply Eq.trans; (with_reducible assumption); exact rfl) | exact rfl | exact fun _ _ => rfl)) ?_)
  refine Branch.intro (fun hb1 => ?_) (fun hb1 => ?_)
  · have hb1 : ¬ ((r + 1 + j : Nat) : Int) % 128 = 112 := hb1
    have hlt : j < zeroN64 r := by omega
    repeat (refine Side.intro (by repeat' (first | (show AllP _; first | exact trivial | refine AllP.app ?_ ?_ | refine AllP.appd ?_ ?_ | refine AllP.cons ?_ ?_) | with_reducible rfl | with_reducible assumption | omega | (simp only [rng, Ix.val, addQ_eq, addI, sz3, sz5, sz22, sz33, sz44, sz45, sz47, sz58] <;> omega) | (simp only [rng, Ix.val, Int.toNat_natCast, mulE_eq, addQ_eq, addI, Option.getD_none, Option.getD_some, List.length_take, List.length_drop, List.length_append, List.length_set, List.length_replicate, sz3, sz5, sz22, sz33, sz44, sz45, sz47, sz58, *] <;> omega) | (simp only [Ix.val]; with_reducible assumption) | exact UInt8.toNat_lt _ | (apply Eq.trans; (with_reducible assumption); exact rfl) | exact rfl | exact fun _ _ => rfl)) ?_)
    intro c' hc'
    repeat (refine Side.intro (by repeat' (first | (show AllP _; first | exact trivial | refine AllP.app ?_ ?_ | refine AllP.appd ?_ ?_ | refine AllP.cons ?_ ?_) | with_reducible rfl | with_reducible assumption | omega | (simp only [rng, Ix.val, addQ_eq, addI, sz3, sz5, sz22, sz33, sz44, sz45, sz47, sz58] <;> omega) | (simp only [rng, Ix.val, Int.toNat_natCast, mulE_eq, addQ_eq, addI, Option.getD_none, Option.getD_some, List.length_take, List.length_drop, List.length_append, List.length_set, List.length_replicate, sz3, sz5, sz22, sz33, sz44, sz45, sz47, sz58, *] <;> omega) | (simp only [Ix.val]; with_reducible assumption) | exact UInt8.toNat_lt _ | (apply Eq.trans; (with_reducible assumption); exact rfl) | exact rfl | exact fun _ _ => rfl)) ?_)
    have hp1 := padT_succ R j
    refine ⟨(j + 1, c'), ⟨hlt, by show r + 1 + (j + 1) ≤ c'; have : r + 1 + j + 1 ≤ c' := hc'; omega⟩, by show zeroN64 r - (j + 1) < zeroN64 r - j; omega, Le.intro [(200, (32, 0, none))] rfl ?_ rfl ?_ rfl⟩
    · repeat' (first | (show AllP _; first | exact trivial | refine AllP.app ?_ ?_ | refine AllP.appd ?_ ?_ | refine AllP.cons ?_ ?_) | with_reducible rfl | with_reducible assumption | omega | (simp only [rng, Ix.val, addQ_eq, addI, sz3, sz5, sz22, sz33, sz44, sz45, sz47, sz58] <;> omega) | (simp only [rng, Ix.val, Int.toNat_natCast, mulE_eq, addQ_eq, addI, Option.getD_none, Option.getD_some, List.length_take, List.length_drop, List.length_append, List.length_set, List.length_replicate, sz3, sz5, sz22, sz33, sz44, sz45, sz47, sz58, *] <;> omega) | (simp only [Ix.val]; with_reducible assumption) | exact UInt8.toNat_lt _ | (apply Eq.trans; (with_reducible assumption); exact rfl) | exact rfl | exact fun _ _ => rfl)
    · repeat' (first | (show AllP _; first | exact trivial | refine AllP.app ?_ ?_ | refine AllP.appd ?_ ?_ | refine AllP.cons ?_ ?_) | with_reducible rfl | with_reducible assumption | omega | (simp only [rng, Ix.val, addQ_eq, addI, sz3, sz5, sz22, sz33, sz44, sz45, sz47, sz58] <;> omega) | (simp only [rng, Ix.val, Int.toNat_natCast, mulE_eq, addQ_eq, addI, Option.getD_none, Option.getD_some, List.length_take, List.length_drop, List.length_append, List.length_set, List.length_replicate, sz3, sz5, sz22, sz33, sz44, sz45, sz47, sz58, *] <;> omega) | (simp only [Ix.val]; with_reducible assumption) | exact UInt8.toNat_lt _ | (apply Eq.trans; (with_reducible assumption); exact rfl) | exact rfl | exact fun _ _ => rfl)
  · have hb1 : ¬ ¬ ((r + 1 + j : Nat) : Int) % 128 = 112 := hb1
    obtain rfl : j = zeroN64 r := by omega
    obtain ⟨T0, hT0⟩ : ∃ x, padT R (zeroN64 r) = x := ⟨_, rfl⟩
    rw [hT0] at hpl
    obtain ⟨L0, hL0⟩ : ∃ x, r + 1 + zeroN64 r = x := ⟨_, rfl⟩
    rw [hL0] at hpl hc
    have hL1 : L0 = 112 ∨ L0 = 240 := by omega
    have hT0' : T0 ++ List.replicate 8 0 = padT R (zeroN64 r) ++ List.replicate 8 0 := by rw [hT0]
    have htail : tail64 R n = lenT (T0 ++ List.replicate 8 0) n 8 := by unfold tail64; rw [hRl, hT0]
    obtain ⟨T1, hT1⟩ : ∃ x, T0 ++ List.replicate 8 0 = x := ⟨_, rfl⟩
    rw [hT1] at htail hT0'
    have hT1l : T1.length = L0 + 8 := by rw [← hT1, List.length_append, hpl, List.length_replicate]
    clear hT0 hT1
    repeat (refine Side.intro (by repeat' (first | (show AllP _; first | exact trivial | refine AllP.app ?_ ?_ | refine AllP.appd ?_ ?_ | refine AllP.cons ?_ ?_) | with_reducible rfl | with_reducible assumption | omega | (simp only [rng, Ix.val, addQ_eq, addI, sz3, sz5, sz22, sz33, sz44, sz45, sz47, sz58] <;> omega) | (simp only [rng, Ix.val, Int.toNat_natCast, mulE_eq, addQ_eq, addI, Option.getD_none, Option.getD_some, List.length_take, List.length_drop, List.length_append, List.length_set, List.length_replicate, sz3, sz5, sz22, sz33, sz44, sz45, sz47, sz58, *] <;> omega) | (simp only [Ix.val]; with_reducible assumption) | exact UInt8.toNat_lt _ | (apply Eq.trans; (with_reducible assumption); exact rfl) | exact rfl | exact fun _ _ => rfl)) ?_)
    intro c3 hc3
    repeat (refine Side.intro (by repeat' (first | (show AllP _; first | exact trivial | refine AllP.app ?_ ?_ | refine AllP.appd ?_ ?_ | refine AllP.cons ?_ ?_) | with_reducible rfl | with_reducible assumption | omega | (simp only [rng, Ix.val, addQ_eq, addI, sz3, sz5, sz22, sz33, sz44, sz45, sz47, sz58] <;> omega) | (simp only [rng, Ix.val, Int.toNat_natCast, mulE_eq, addQ_eq, addI, Option.getD_none, Option.getD_some, List.length_take, List.length_drop, List.length_append, List.length_set, List.length_replicate, sz3, sz5, sz22, sz33, sz44, sz45, sz47, sz58, *] <;> omega) | (simp only [Ix.val]; with_reducible assumption) | exact UInt8.toNat_lt _ | (apply Eq.trans; (with_reducible assumption); exact rfl) | exact rfl | exact fun _ _ => rfl)) ?_)
    refine Loop.intro (σ := Nat × Nat) (fun s => s.1 ≤ 8 ∧ L0 + 8 + s.1 ≤ s.2)
      (fun s => ([(2, .ptr 2 0 none), (3, .ptr 3 0 none), (4, .u64 n), (5, .sl 200 0 0 (L0 + 8 + s.1) s.2), (6, .i .i64 (7 - (s.1 : Int)))],
        [(1002, .mem false 0 [(m, .a8 b)]), (2, .mem true 0 [(64, .a8 (List.replicate 64 0))]), (3, .mem true 0 [(8, .a64 h)]), (200, .mem true (s.2 - (L0 + 8 + s.1)) [(L0 + 8 + s.1, .a8 (lenT T1 n s.1))])])) (fun s => 8 - s.1) (0, c3) ⟨Nat.zero_le _, by have : r + 1 + zeroN64 r + Int.toNat 8 ≤ c3 := hc3; show L0 + 8 + 0 ≤ c3; have e : Int.toNat 8 = 8 := rfl; omega⟩ ?_ ?_
    · have hL0' := hL0.symm
      clear hL0
      refine Le.intro [(200, (34, 0, none))] rfl ?_ rfl ?_ rfl
      · repeat' (first | (show AllP _; first | exact trivial | refine AllP.app ?_ ?_ | refine AllP.appd ?_ ?_ | refine AllP.cons ?_ ?_) | with_reducible rfl | with_reducible assumption | omega | (simp only [rng, Ix.val, addQ_eq, addI, sz3, sz5, sz22, sz33, sz44, sz45, sz47, sz58] <;> omega) | (simp only [rng, Ix.val, Int.toNat_natCast, mulE_eq, addQ_eq, addI, Option.getD_none, Option.getD_some, List.length_take, List.length_drop, List.length_append, List.length_set, List.length_replicate, sz3, sz5, sz22, sz33, sz44, sz45, sz47, sz58, *] <;> omega) | (simp only [Ix.val]; with_reducible assumption) | exact UInt8.toNat_lt _ | (apply Eq.trans; (with_reducible assumption); exact rfl) | exact rfl | exact fun _ _ => rfl)
      · have e0 : lenT T1 n 0 = T1 := rfl
        repeat' (first | (show AllP _; first | exact trivial | refine AllP.app ?_ ?_ | refine AllP.appd ?_ ?_ | refine AllP.cons ?_ ?_) | with_reducible rfl | with_reducible assumption | omega | (simp only [rng, Ix.val, addQ_eq, addI, sz3, sz5, sz22, sz33, sz44, sz45, sz47, sz58] <;> omega) | (simp only [rng, Ix.val, Int.toNat_natCast, mulE_eq, addQ_eq, addI, Option.getD_none, Option.getD_some, List.length_take, List.length_drop, List.length_append, List.length_set, List.length_replicate, sz3, sz5, sz22, sz33, sz44, sz45, sz47, sz58, *] <;> omega) | (simp only [Ix.val]; with_reducible assumption) | exact UInt8.toNat_lt _ | (apply Eq.trans; (with_reducible assumption); exact rfl) | exact rfl | exact fun _ _ => rfl)
        all_goals exact hT0'
    rintro ⟨k, c⟩ ⟨hk, hc⟩
    have hk : k ≤ 8 := hk
    have hc : L0 + 8 + k ≤ c := hc
    have hll := lenT_length T1 n k
    rw [hT1l] at hll
    refine Branch.intro (fun hb2 => ?_) (fun hb2 => ?_)
    · have hb2 : (7 - (k : Int)) ≥ 0 := hb2
      repeat (refine Side.intro (by repeat' (first | (show AllP _; first | exact trivial | refine AllP.app ?_ ?_ | refine AllP.appd ?_ ?_ | refine AllP.cons ?_ ?_) | with_reducible rfl | with_reducible assumption | omega | (simp only [rng, Ix.val, addQ_eq, addI, sz3, sz5, sz22, sz33, sz44, sz45, sz47, sz58] <;> omega) | (simp only [rng, Ix.val, Int.toNat_natCast, mulE_eq, addQ_eq, addI, Option.getD_none, Option.getD_some, List.length_take, List.length_drop, List.length_append, List.length_set, List.length_replicate, sz3, sz5, sz22, sz33, sz44, sz45, sz47, sz58, *] <;> omega) | (simp only [Ix.val]; with_reducible assumption) | exact UInt8.toNat_lt _ | (apply Eq.trans; (with_reducible assumption); exact rfl) | exact rfl | exact fun _ _ => rfl)) ?_)
      intro c' hc'
      repeat (refine Side.intro (by repeat' (first | (show AllP _; first | exact trivial | refine AllP.app ?_ ?_ | refine AllP.appd ?_ ?_ | refine AllP.cons ?_ ?_) | with_reducible rfl | with_reducible assumption | omega | (simp only [rng, Ix.val, addQ_eq, addI, sz3, sz5, sz22, sz33, sz44, sz45, sz47, sz58] <;> omega) | (simp only [rng, Ix.val, Int.toNat_natCast, mulE_eq, addQ_eq, addI, Option.getD_none, Option.getD_some, List.length_take, List.length_drop, List.length_append, List.length_set, List.length_replicate, sz3, sz5, sz22, sz33, sz44, sz45, sz47, sz58, *] <;> omega) | (simp only [Ix.val]; with_reducible assumption) | exact UInt8.toNat_lt _ | (apply Eq.trans; (with_reducible assumption); exact rfl) | exact rfl | exact fun _ _ => rfl)) ?_)
      have e7 : (8 * (7 - (k : Int))).toNat = 8 * (7 - k) := by omega
      refine ⟨(k + 1, c'), ⟨by show k + 1 ≤ 8; omega, by show L0 + 8 + (k + 1) ≤ c'; have : L0 + 8 + k + 1 ≤ c' := hc'; omega⟩, by show 8 - (k + 1) < 8 - k; omega, Le.intro [(200, (47, 0, none))] rfl ?_ rfl ?_ rfl⟩
      · repeat' (first | (show AllP _; first | exact trivial | refine AllP.app ?_ ?_ | refine AllP.appd ?_ ?_ | refine AllP.cons ?_ ?_) | with_reducible rfl | with_reducible assumption | omega | (simp only [rng, Ix.val, addQ_eq, addI, sz3, sz5, sz22, sz33, sz44, sz45, sz47, sz58] <;> omega) | (simp only [rng, Ix.val, Int.toNat_natCast, mulE_eq, addQ_eq, addI, Option.getD_none, Option.getD_some, List.length_take, List.length_drop, List.length_append, List.length_set, List.length_replicate, sz3, sz5, sz22, sz33, sz44, sz45, sz47, sz58, *] <;> omega) | (simp only [Ix.val]; with_reducible assumption) | exact UInt8.toNat_lt _ | (apply Eq.trans; (with_reducible assumption); exact rfl) | exact rfl | exact fun _ _ => rfl)
      · repeat' (first | (show AllP _; first | exact trivial | refine AllP.app ?_ ?_ | refine AllP.appd ?_ ?_ | refine AllP.cons ?_ ?_) | with_reducible rfl | with_reducible assumption | omega | (simp only [rng, Ix.val, addQ_eq, addI, sz3, sz5, sz22, sz33, sz44, sz45, sz47, sz58] <;> omega) | (simp only [rng, Ix.val, Int.toNat_natCast, mulE_eq, addQ_eq, addI, Option.getD_none, Option.getD_some, List.length_take, List.length_drop, List.length_append, List.length_set, List.length_replicate, sz3, sz5, sz22, sz33, sz44, sz45, sz47, sz58, *] <;> omega) | (simp only [Ix.val]; with_reducible assumption) | exact UInt8.toNat_lt _ | (apply Eq.trans; (with_reducible assumption); exact rfl) | exact rfl | exact fun _ _ => rfl)
        show lenT T1 n (k + 1) = lenT T1 n k ++ [(shr64 (shl64 n 3) (8 * (7 - (k : Int))).toNat).toUInt8]
        rw [e7]
        rfl
    · obtain rfl : k = 8 := by have hb2 : ¬ (7 - (k : Int)) ≥ 0 := hb2; omega
      obtain ⟨T, hT⟩ : ∃ x, lenT T1 n 8 = x := ⟨_, rfl⟩
      obtain ⟨L, hL⟩ : ∃ x, L0 + 8 + 8 = x := ⟨_, rfl⟩
      rw [hT, hL] at hll
      rw [hL] at hc
      rw [hT] at htail
      have hT' := hT.symm
      have hsum : sha512 b = outW64 (blks64 h T (L / 128)) 64 := by rw [hsum0, htail, hll]
      clear hsum0
      refine Loop.intro (σ := Nat) (fun q => q ≤ L / 128)
        (fun q => ([(2, .ptr 2 0 none), (3, .ptr 3 0 none), (5, .sl 200 0 (128 * q) (L - 128 * q) (c - 128 * q))],
          [(1002, .mem false 0 [(m, .a8 b)]), (2, .mem true 0 [(64, .a8 (List.replicate 64 0))]), (3, .mem true 0 [(8, .a64 (blks64 h T q))]), (200, .mem true (c - L) [(L, .a8 T)])])) (fun q => L / 128 - q) 0 (Nat.zero_le _) ?_ ?_
      · clear hT
        refine Le.intro [] rfl ?_ rfl ?_ rfl
        · repeat' (first | (show AllP _; first | exact trivial | refine AllP.app ?_ ?_ | refine AllP.appd ?_ ?_ | refine AllP.cons ?_ ?_) | with_reducible rfl | with_reducible assumption | omega | (simp only [rng, Ix.val, addQ_eq, addI, sz3, sz5, sz22, sz33, sz44, sz45, sz47, sz58] <;> omega) | (simp only [rng, Ix.val, Int.toNat_natCast, mulE_eq, addQ_eq, addI, Option.getD_none, Option.getD_some, List.length_take, List.length_drop, List.length_append, List.length_set, List.length_replicate, sz3, sz5, sz22, sz33, sz44, sz45, sz47, sz58, *] <;> omega) | (simp only [Ix.val]; with_reducible assumption) | exact UInt8.toNat_lt _ | (apply Eq.trans; (with_reducible assumption); exact rfl) | exact rfl | exact fun _ _ => rfl)
        · have e0 : blks64 h T 0 = h := rfl
          repeat' (first | (show AllP _; first | exact trivial | refine AllP.app ?_ ?_ | refine AllP.appd ?_ ?_ | refine AllP.cons ?_ ?_) | with_reducible rfl | with_reducible assumption | omega | (simp only [rng, Ix.val, addQ_eq, addI, sz3, sz5, sz22, sz33, sz44, sz45, sz47, sz58] <;> omega) | (simp only [rng, Ix.val, Int.toNat_natCast, mulE_eq, addQ_eq, addI, Option.getD_none, Option.getD_some, List.length_take, List.length_drop, List.length_append, List.length_set, List.length_replicate, sz3, sz5, sz22, sz33, sz44, sz45, sz47, sz58, *] <;> omega) | (simp only [Ix.val]; with_reducible assumption) | exact UInt8.toNat_lt _ | (apply Eq.trans; (with_reducible assumption); exact rfl) | exact rfl | exact fun _ _ => rfl)
          all_goals exact hT'
      clear hT'
      rintro q hq
      have hbl2 := blks64_length hbl T q
      refine Branch.intro (fun hb3 => ?_) (fun hb3 => ?_)
      · have hb3 : ((L - 128 * q : Nat) : Int) > 0 := hb3
        have hq64 : 128 * q + 128 ≤ L := by omega
        repeat (refine Side.intro (by repeat' (first | (show AllP _; first | exact trivial | refine AllP.app ?_ ?_ | refine AllP.appd ?_ ?_ | refine AllP.cons ?_ ?_) | with_reducible rfl | with_reducible assumption | omega | (simp only [rng, Ix.val, addQ_eq, addI, sz3, sz5, sz22, sz33, sz44, sz45, sz47, sz58] <;> omega) | (simp only [rng, Ix.val, Int.toNat_natCast, mulE_eq, addQ_eq, addI, Option.getD_none, Option.getD_some, List.length_take, List.length_drop, List.length_append, List.length_set, List.length_replicate, sz3, sz5, sz22, sz33, sz44, sz45, sz47, sz58, *] <;> omega) | (simp only [Ix.val]; with_reducible assumption) | exact UInt8.toNat_lt _ | (apply Eq.trans; (with_reducible assumption); exact rfl) | exact rfl | exact fun _ _ => rfl)) ?_)
        have hB := fn28 (blks64 h T q) ((T.drop (128 * q)).take 128) hbl2 (by simp only [List.length_take, List.length_drop]; omega)
        refine Call.intro hB [(1000, (3, 0, none)), (1001, (200, 0, some (128 * q)))] rfl ?_ rfl ?_ rfl ?_
        · repeat' (first | (show AllP _; first | exact trivial | refine AllP.app ?_ ?_ | refine AllP.appd ?_ ?_ | refine AllP.cons ?_ ?_) | with_reducible rfl | with_reducible assumption | omega | (simp only [rng, Ix.val, addQ_eq, addI, sz3, sz5, sz22, sz33, sz44, sz45, sz47, sz58] <;> omega) | (simp only [rng, Ix.val, Int.toNat_natCast, mulE_eq, addQ_eq, addI, Option.getD_none, Option.getD_some, List.length_take, List.length_drop, List.length_append, List.length_set, List.length_replicate, sz3, sz5, sz22, sz33, sz44, sz45, sz47, sz58, *] <;> omega) | (simp only [Ix.val]; with_reducible assumption) | exact UInt8.toNat_lt _ | (apply Eq.trans; (with_reducible assumption); exact rfl) | exact rfl | exact fun _ _ => rfl)
        · repeat' (first | (show AllP _; first | exact trivial | refine AllP.app ?_ ?_ | refine AllP.appd ?_ ?_ | refine AllP.cons ?_ ?_) | with_reducible rfl | with_reducible assumption | omega | (simp only [rng, Ix.val, addQ_eq, addI, sz3, sz5, sz22, sz33, sz44, sz45, sz47, sz58] <;> omega) | (simp only [rng, Ix.val, Int.toNat_natCast, mulE_eq, addQ_eq, addI, Option.getD_none, Option.getD_some, List.length_take, List.length_drop, List.length_append, List.length_set, List.length_replicate, sz3, sz5, sz22, sz33, sz44, sz45, sz47, sz58, *] <;> omega) | (simp only [Ix.val]; with_reducible assumption) | exact UInt8.toNat_lt _ | (apply Eq.trans; (with_reducible assumption); exact rfl) | exact rfl | exact fun _ _ => rfl)
        rintro v M' ⟨rfl, rfl⟩
        repeat (refine Side.intro (by repeat' (first | (show AllP _; first | exact trivial | refine AllP.app ?_ ?_ | refine AllP.appd ?_ ?_ | refine AllP.cons ?_ ?_) | with_reducible rfl | with_reducible assumption | omega | (simp only [rng, Ix.val, addQ_eq, addI, sz3, sz5, sz22, sz33, sz44, sz45, sz47, sz58] <;> omega) | (simp only [rng, Ix.val, Int.toNat_natCast, mulE_eq, addQ_eq, addI, Option.getD_none, Option.getD_some, List.length_take, List.length_drop, List.length_append, List.length_set, List.length_replicate, sz3, sz5, sz22, sz33, sz44, sz45, sz47, sz58, *] <;> omega) | (simp only [Ix.val]; with_reducible assumption) | exact UInt8.toNat_lt _ | (apply Eq.trans; (with_reducible assumption); exact rfl) | exact rfl | exact fun _ _ => rfl)) ?_)
        have e1 : 128 * q + 128 = 128 * (q + 1) := by omega
        have e2 : L - 128 * q - 128 = L - 128 * (q + 1) := by omega
        have e3 : c - 128 * q - 128 = c - 128 * (q + 1) := by omega
        refine ⟨q + 1, by omega, by omega, Le.intro [] rfl ?_ rfl ?_ rfl⟩
        · repeat' (first | (show AllP _; first | exact trivial | refine AllP.app ?_ ?_ | refine AllP.appd ?_ ?_ | refine AllP.cons ?_ ?_) | with_reducible rfl | with_reducible assumption | omega | (simp only [rng, Ix.val, addQ_eq, addI, sz3, sz5, sz22, sz33, sz44, sz45, sz47, sz58] <;> omega) | (simp only [rng, Ix.val, Int.toNat_natCast, mulE_eq, addQ_eq, addI, Option.getD_none, Option.getD_some, List.length_take, List.length_drop, List.length_append, List.length_set, List.length_replicate, sz3, sz5, sz22, sz33, sz44, sz45, sz47, sz58, *] <;> omega) | (simp only [Ix.val]; with_reducible assumption) | exact UInt8.toNat_lt _ | (apply Eq.trans; (with_reducible assumption); exact rfl) | exact rfl | exact fun _ _ => rfl)
        · repeat' (first | (show AllP _; first | exact trivial | refine AllP.app ?_ ?_ | refine AllP.appd ?_ ?_ | refine AllP.cons ?_ ?_) | with_reducible rfl | with_reducible assumption | omega | (simp only [rng, Ix.val, addQ_eq, addI, sz3, sz5, sz22, sz33, sz44, sz45, sz47, sz58] <;> omega) | (simp only [rng, Ix.val, Int.toNat_natCast, mulE_eq, addQ_eq, addI, Option.getD_none, Option.getD_some, List.length_take, List.length_drop, List.length_append, List.length_set, List.length_replicate, sz3, sz5, sz22, sz33, sz44, sz45, sz47, sz58, *] <;> omega) | (simp only [Ix.val]; with_reducible assumption) | exact UInt8.toNat_lt _ | (apply Eq.trans; (with_reducible assumption); exact rfl) | exact rfl | exact fun _ _ => rfl)
      · obtain rfl : q = L / 128 := by have hb3 : ¬ ((L - 128 * q : Nat) : Int) > 0 := hb3; omega
        obtain ⟨W, hW⟩ : ∃ x, blks64 h T (L / 128) = x := ⟨_, rfl⟩
        rw [hW] at hbl2 hsum
        have hW' := hW.symm
        repeat (refine Side.intro (by repeat' (first | (show AllP _; first | exact trivial | refine AllP.app ?_ ?_ | refine AllP.appd ?_ ?_ | refine AllP.cons ?_ ?_) | with_reducible rfl | with_reducible assumption | omega | (simp only [rng, Ix.val, addQ_eq, addI, sz3, sz5, sz22, sz33, sz44, sz45, sz47, sz58] <;> omega) | (simp only [rng, Ix.val, Int.toNat_natCast, mulE_eq, addQ_eq, addI, Option.getD_none, Option.getD_some, List.length_take, List.length_drop, List.length_append, List.length_set, List.length_replicate, sz3, sz5, sz22, sz33, sz44, sz45, sz47, sz58, *] <;> omega) | (simp only [Ix.val]; with_reducible assumption) | exact UInt8.toNat_lt _ | (apply Eq.trans; (with_reducible assumption); exact rfl) | exact rfl | exact fun _ _ => rfl)) ?_)
        refine Loop.intro (σ := Nat) (fun j => j ≤ 64)
          (fun j => ([(2, .ptr 2 0 none), (3, .ptr 3 0 none), (7, .ptr 7 0 none), (56, .i .i64 j)],
            [(1002, .mem false 0 [(m, .a8 b)]), (2, .mem true 0 [(64, .a8 (List.replicate 64 0))]), (3, .mem true 0 [(8, .a64 W)]), (7, .mem true 0 [(64, .a8 (outW64 W j))])])) (fun j => 64 - j) 0 (Nat.zero_le _) ?_ ?_
        · clear hW
          refine Le.intro [] rfl ?_ rfl ?_ rfl
          · repeat' (first | (show AllP _; first | exact trivial | refine AllP.app ?_ ?_ | refine AllP.appd ?_ ?_ | refine AllP.cons ?_ ?_) | with_reducible rfl | with_reducible assumption | omega | (simp only [rng, Ix.val, addQ_eq, addI, sz3, sz5, sz22, sz33, sz44, sz45, sz47, sz58] <;> omega) | (simp only [rng, Ix.val, Int.toNat_natCast, mulE_eq, addQ_eq, addI, Option.getD_none, Option.getD_some, List.length_take, List.length_drop, List.length_append, List.length_set, List.length_replicate, sz3, sz5, sz22, sz33, sz44, sz45, sz47, sz58, *] <;> omega) | (simp only [Ix.val]; with_reducible assumption) | exact UInt8.toNat_lt _ | (apply Eq.trans; (with_reducible assumption); exact rfl) | exact rfl | exact fun _ _ => rfl)
          · repeat' (first | (show AllP _; first | exact trivial | refine AllP.app ?_ ?_ | refine AllP.appd ?_ ?_ | refine AllP.cons ?_ ?_) | with_reducible rfl | with_reducible assumption | omega | (simp only [rng, Ix.val, addQ_eq, addI, sz3, sz5, sz22, sz33, sz44, sz45, sz47, sz58] <;> omega) | (simp only [rng, Ix.val, Int.toNat_natCast, mulE_eq, addQ_eq, addI, Option.getD_none, Option.getD_some, List.length_take, List.length_drop, List.length_append, List.length_set, List.length_replicate, sz3, sz5, sz22, sz33, sz44, sz45, sz47, sz58, *] <;> omega) | (simp only [Ix.val]; with_reducible assumption) | exact UInt8.toNat_lt _ | (apply Eq.trans; (with_reducible assumption); exact rfl) | exact rfl | exact fun _ _ => rfl)
        clear hW'
        rintro j hj
        have hol := outW64_length W j
        refine Branch.intro (fun hb4 => ?_) (fun hb4 => ?_)
        · have hb4 : (j : Int) < 64 := hb4
          have ed : ((j : Int) / 8).toNat = j / 8 := by omega
          have es : (56 - (j : Int) % 8 * 8).toNat = 56 - j % 8 * 8 := by omega
          repeat (refine Side.intro (by repeat' (first | (show AllP _; first | exact trivial | refine AllP.app ?_ ?_ | refine AllP.appd ?_ ?_ | refine AllP.cons ?_ ?_) | with_reducible rfl | with_reducible assumption | omega | (simp only [rng, Ix.val, addQ_eq, addI, sz3, sz5, sz22, sz33, sz44, sz45, sz47, sz58] <;> omega) | (simp only [rng, Ix.val, Int.toNat_natCast, mulE_eq, addQ_eq, addI, Option.getD_none, Option.getD_some, List.length_take, List.length_drop, List.length_append, List.length_set, List.length_replicate, sz3, sz5, sz22, sz33, sz44, sz45, sz47, sz58, *] <;> omega) | (simp only [Ix.val]; with_reducible assumption) | exact UInt8.toNat_lt _ | (apply Eq.trans; (with_reducible assumption); exact rfl) | exact rfl | exact fun _ _ => rfl)) ?_)
          refine ⟨j + 1, by omega, by omega, Le.intro [] rfl (by repeat' (first | (show AllP _; first | exact trivial | refine AllP.app ?_ ?_ | refine AllP.appd ?_ ?_ | refine AllP.cons ?_ ?_) | with_reducible rfl | with_reducible assumption | omega | (simp only [rng, Ix.val, addQ_eq, addI, sz3, sz5, sz22, sz33, sz44, sz45, sz47, sz58] <;> omega) | (simp only [rng, Ix.val, Int.toNat_natCast, mulE_eq, addQ_eq, addI, Option.getD_none, Option.getD_some, List.length_take, List.length_drop, List.length_append, List.length_set, List.length_replicate, sz3, sz5, sz22, sz33, sz44, sz45, sz47, sz58, *] <;> omega) | (simp only [Ix.val]; with_reducible assumption) | exact UInt8.toNat_lt _ | (apply Eq.trans; (with_reducible assumption); exact rfl) | exact rfl | exact fun _ _ => rfl)) rfl ?_ rfl⟩
          repeat' (first | (show AllP _; first | exact trivial | refine AllP.app ?_ ?_ | refine AllP.appd ?_ ?_ | refine AllP.cons ?_ ?_) | with_reducible rfl | with_reducible assumption | omega | (simp only [rng, Ix.val, addQ_eq, addI, sz3, sz5, sz22, sz33, sz44, sz45, sz47, sz58] <;> omega) | (simp only [rng, Ix.val, Int.toNat_natCast, mulE_eq, addQ_eq, addI, Option.getD_none, Option.getD_some, List.length_take, List.length_drop, List.length_append, List.length_set, List.length_replicate, sz3, sz5, sz22, sz33, sz44, sz45, sz47, sz58, *] <;> omega) | (simp only [Ix.val]; with_reducible assumption) | exact UInt8.toNat_lt _ | (apply Eq.trans; (with_reducible assumption); exact rfl) | exact rfl | exact fun _ _ => rfl)
          all_goals simp only [ed, es, Nat.zero_add, addQ_eq, Ix.val, Int.toNat_natCast, outW64]
        · obtain rfl : j = 64 := by have hb4 : ¬ (j : Int) < 64 := hb4; omega
          repeat (refine Side.intro (by repeat' (first | (show AllP _; first | exact trivial | refine AllP.app ?_ ?_ | refine AllP.appd ?_ ?_ | refine AllP.cons ?_ ?_) | with_reducible rfl | with_reducible assumption | omega | (simp only [rng, Ix.val, addQ_eq, addI, sz3, sz5, sz22, sz33, sz44, sz45, sz47, sz58] <;> omega) | (simp only [rng, Ix.val, Int.toNat_natCast, mulE_eq, addQ_eq, addI, Option.getD_none, Option.getD_some, List.length_take, List.length_drop, List.length_append, List.length_set, List.length_replicate, sz3, sz5, sz22, sz33, sz44, sz45, sz47, sz58, *] <;> omega) | (simp only [Ix.val]; with_reducible assumption) | exact UInt8.toNat_lt _ | (apply Eq.trans; (with_reducible assumption); exact rfl) | exact rfl | exact fun _ _ => rfl)) ?_)
          rw [hsum]
          refine Ret.intro (.a8 (outW64 W 64)) [(1002, .mem false 0 [(m, .a8 b)])] [] rfl ?_ ⟨rfl, rfl⟩ rfl ?_ rfl ?_ rfl
          · repeat' (first | (show AllP _; first | exact trivial | refine AllP.app ?_ ?_ | refine AllP.appd ?_ ?_ | refine AllP.cons ?_ ?_) | with_reducible rfl | with_reducible assumption | omega | (simp only [rng, Ix.val, addQ_eq, addI, sz3, sz5, sz22, sz33, sz44, sz45, sz47, sz58] <;> omega) | (simp only [rng, Ix.val, Int.toNat_natCast, mulE_eq, addQ_eq, addI, Option.getD_none, Option.getD_some, List.length_take, List.length_drop, List.length_append, List.length_set, List.length_replicate, sz3, sz5, sz22, sz33, sz44, sz45, sz47, sz58, *] <;> omega) | (simp only [Ix.val]; with_reducible assumption) | exact UInt8.toNat_lt _ | (apply Eq.trans; (with_reducible assumption); exact rfl) | exact rfl | exact fun _ _ => rfl)
          · repeat' (first | (show AllP _; first | exact trivial | refine AllP.app ?_ ?_ | refine AllP.appd ?_ ?_ | refine AllP.cons ?_ ?_) | with_reducible rfl | with_reducible assumption | omega | (simp only [rng, Ix.val, addQ_eq, addI, sz3, sz5, sz22, sz33, sz44, sz45, sz47, sz58] <;> omega) | (simp only [rng, Ix.val, Int.toNat_natCast, mulE_eq, addQ_eq, addI, Option.getD_none, Option.getD_some, List.length_take, List.length_drop, List.length_append, List.length_set, List.length_replicate, sz3, sz5, sz22, sz33, sz44, sz45, sz47, sz58, *] <;> omega) | (simp only [Ix.val]; with_reducible assumption) | exact UInt8.toNat_lt _ | (apply Eq.trans; (with_reducible assumption); exact rfl) | exact rfl | exact fun _ _ => rfl)
          · repeat' (first | (show AllP _; first | exact trivial | refine AllP.app ?_ ?_ | refine AllP.appd ?_ ?_ | refine AllP.cons ?_ ?_) | with_reducible rfl | with_reducible assumption | omega | (simp only [rng, Ix.val, addQ_eq, addI, sz3, sz5, sz22, sz33, sz44, sz45, sz47, sz58] <;> omega) | (simp only [rng, Ix.val, Int.toNat_natCast, mulE_eq, addQ_eq, addI, Option.getD_none, Option.getD_some, List.length_take, List.length_drop, List.length_append, List.length_set, List.length_replicate, sz3, sz5, sz22, sz33, sz44, sz45, sz47, sz58, *] <;> omega) | (simp only [Ix.val]; with_reducible assumption) | exact UInt8.toNat_lt _ | (apply Eq.trans; (with_reducible assumption); exact rfl) | exact rfl | exact fun _ _ => rfl)

end Go.Proofs.Ytniijmdkccbnlaa
