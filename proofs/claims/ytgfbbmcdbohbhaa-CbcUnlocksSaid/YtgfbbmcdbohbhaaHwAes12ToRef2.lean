/- What the functions of the program compute. No condition. -/
import Derived.Test.YtgfbbmcdbohbhaaHwAes8ToAes11
import Derived.Test.YtgfbbmcdbohbhaaHx6
set_option linter.unusedSimpArgs false
set_option linter.unusedVariables false
namespace Go.Proofs.Ytgfbbmcdbohbhaa
open Go Go.Sx

theorem un_round {ks b : List UInt8} (hk : ks.length = 240) (hb : b.length = 16) {r : Nat} (hr : r ≤ 14) : unsub tabB (unmix ks r (roundF tabS ks r b)) 16 = b := by
  have hs := subT_length tabS b 16
  have hkr := keyAt_length hk hr
  unfold unmix roundF
  split
  · rw [add_add hkr (mixI_length _ _ _), mix_ab hs, unsub_sub hb]
  · rw [add_add hkr hs, unsub_sub hb]

theorem round_un {ks b : List UInt8} (hk : ks.length = 240) (hb : b.length = 16) {r : Nat} (hr : r ≤ 14) : roundF tabS ks r (unsub tabB (unmix ks r b) 16) = b := by
  have hkr := keyAt_length hk hr
  have ha : (addTo (keyAt ks r) 16 b).length = 16 := by rw [addTo_length, hb]
  unfold unmix roundF
  split
  · rw [sub_unsub (mixI_length _ _ _), mix_ba ha, add_add hkr hb]
  · rw [sub_unsub ha, add_add hkr hb]

theorem unGo_lock {ks b : List UInt8} (hk : ks.length = 240) (hb : b.length = 16) : ∀ n, n ≤ 14 → unGo tabB ks (lockGo tabS ks b 14) n = lockGo tabS ks b (14 - n)
  | 0, _ => rfl
  | n + 1, h => by
    have ih := unGo_lock hk hb n (by omega)
    simp only [unGo]
    rw [ih, show 14 - n = (14 - (n + 1)) + 1 by omega]
    exact un_round hk (lockGo_length _ _ hb _) (by omega)

theorem unlock_lock {ks b : List UInt8} (hk : ks.length = 240) (hb : b.length = 16) : unlockF tabB ks (lockGo tabS ks b 14) = b := by
  unfold unlockF
  rw [unGo_lock hk hb 14 (Nat.le_refl _)]
  exact add_add (keyAt_length hk (Nat.zero_le _)) hb

theorem lockGo_un {ks b : List UInt8} (hk : ks.length = 240) (hb : b.length = 16) : ∀ n, n ≤ 14 → lockGo tabS ks (unlockF tabB ks b) n = unGo tabB ks b (14 - n)
  | 0, _ => by
    unfold unlockF lockGo
    exact add_add (keyAt_length hk (Nat.zero_le _)) (unGo_length _ _ hb _)
  | n + 1, h => by
    have ih := lockGo_un hk hb n (by omega)
    simp only [lockGo]
    rw [ih, show 14 - n = (13 - n) + 1 by omega, show 14 - (n + 1) = 13 - n by omega]
    simp only [unGo]
    rw [show 14 - (13 - n) = n + 1 by omega]
    exact round_un hk (unGo_length _ _ hb _) (by omega)

theorem lock_unlock {ks b : List UInt8} (hk : ks.length = 240) (hb : b.length = 16) : lockGo tabS ks (unlockF tabB ks b) 14 = b := lockGo_un hk hb 14 (Nat.le_refl _)

theorem unlockF_length {ks b : List UInt8} (hb : b.length = 16) : (unlockF tabB ks b).length = 16 := by
  unfold unlockF; rw [addTo_length, unGo_length _ _ hb]

set_option maxRecDepth 100000 in
theorem fn4 (key bl : List UInt8) (hk : key.length = 32) (hb : bl.length = 16) :
    Sx.Fn Γ.P 4 [.a8 key, .a8 bl] [] (fun v _ => v = .tt) := by
  have hkl := keysOf_length hk
  have hll := lockGo_length tabS (keysOf key) hb 14
  have hul : (unlockF tabB (keysOf key) bl).length = 16 := unlockF_length hb
  refine fn_of (Γ := Γ) (fn := Try.f4) rfl rfl rfl rfl ?_
  repeat (refine Side.intro (by repeat' (first | (show AllP _; first | exact trivial | refine AllP.app ?_ ?_ | refine AllP.appd ?_ ?_ | refine AllP.cons ?_ ?_) | with_reducible rfl | omega | with_reducible assumption | (simp only [rng, Ix.val, addQ_eq, addI, sz5, sz22, sz23, sz25, sz36, sz46, sz47, sz48, sz49, sz50, sz51] <;> omega) | (simp only [rng, Ix.val, Int.toNat_natCast, mulE_eq, addQ_eq, addI, Option.getD_none, Option.getD_some, List.length_take, List.length_drop, List.length_append, List.length_set, List.length_replicate, sz5, sz22, sz23, sz25, sz36, sz46, sz47, sz48, sz49, sz50, sz51, *] <;> omega) | (simp only [Ix.val]; with_reducible assumption) | exact UInt8.toNat_lt _ | (apply Eq.trans; (with_reducible assumption); exact rfl) | exact rfl | exact fun _ _ => rfl)) ?_)
  refine Call.pure fn13 rfl trivial ?_
  intro v hv
  subst hv
  repeat (refine Side.intro (by repeat' (first | (show AllP _; first | exact trivial | refine AllP.app ?_ ?_ | refine AllP.appd ?_ ?_ | refine AllP.cons ?_ ?_) | with_reducible rfl | omega | with_reducible assumption | (simp only [rng, Ix.val, addQ_eq, addI, sz5, sz22, sz23, sz25, sz36, sz46, sz47, sz48, sz49, sz50, sz51] <;> omega) | (simp only [rng, Ix.val, Int.toNat_natCast, mulE_eq, addQ_eq, addI, Option.getD_none, Option.getD_some, List.length_take, List.length_drop, List.length_append, List.length_set, List.length_replicate, sz5, sz22, sz23, sz25, sz36, sz46, sz47, sz48, sz49, sz50, sz51, *] <;> omega) | (simp only [Ix.val]; with_reducible assumption) | exact UInt8.toNat_lt _ | (apply Eq.trans; (with_reducible assumption); exact rfl) | exact rfl | exact fun _ _ => rfl)) ?_)
  refine Call.intro (fn14 key hk) [(1001, (1001, 0, none))] rfl (by repeat' (first | (show AllP _; first | exact trivial | refine AllP.app ?_ ?_ | refine AllP.appd ?_ ?_ | refine AllP.cons ?_ ?_) | with_reducible rfl | omega | with_reducible assumption | (simp only [rng, Ix.val, addQ_eq, addI, sz5, sz22, sz23, sz25, sz36, sz46, sz47, sz48, sz49, sz50, sz51] <;> omega) | (simp only [rng, Ix.val, Int.toNat_natCast, mulE_eq, addQ_eq, addI, Option.getD_none, Option.getD_some, List.length_take, List.length_drop, List.length_append, List.length_set, List.length_replicate, sz5, sz22, sz23, sz25, sz36, sz46, sz47, sz48, sz49, sz50, sz51, *] <;> omega) | (simp only [Ix.val]; with_reducible assumption) | exact UInt8.toNat_lt _ | (apply Eq.trans; (with_reducible assumption); exact rfl) | exact rfl | exact fun _ _ => rfl)) rfl trivial rfl ?_
  rintro v M' ⟨rfl, rfl⟩
  refine Draw.intro [[], [], [], [1, 2], [0, 1, 2, 3], [], [0, 1, 2, 3, 4, 5], [0, 1, 2, 3, 4, 5, 6], [0, 1, 2, 3, 4, 5, 6, 7], [0, 1, 2, 3, 4, 5, 6, 7], [0, 1, 2, 3, 4, 5, 6, 7], [0, 1, 2, 3, 4, 5, 6, 7, 9, 10], [0, 1, 2, 3, 4, 5, 6, 7, 8, 9, 10, 11], [0, 1, 2, 3, 4, 5, 6, 7], [0, 1, 2, 3, 4, 5, 6, 7, 8, 9, 10, 11, 12, 13], [0, 1, 2, 3, 4, 5, 6, 7, 8, 9, 10, 11, 12, 13, 14], [0, 1, 2, 3, 4, 5, 6, 7, 8, 9, 10, 11, 12, 13, 14, 15]] [0, 1, 2, 5, 3, 4, 6, 7, 8, 9, 10, 13, 11, 12, 14, 15, 16] (by kernel_rfl) ?_
  repeat (refine Side.intro (by repeat' (first | (show AllP _; first | exact trivial | refine AllP.app ?_ ?_ | refine AllP.appd ?_ ?_ | refine AllP.cons ?_ ?_) | with_reducible rfl | omega | with_reducible assumption | (simp only [rng, Ix.val, addQ_eq, addI, sz5, sz22, sz23, sz25, sz36, sz46, sz47, sz48, sz49, sz50, sz51] <;> omega) | (simp only [rng, Ix.val, Int.toNat_natCast, mulE_eq, addQ_eq, addI, Option.getD_none, Option.getD_some, List.length_take, List.length_drop, List.length_append, List.length_set, List.length_replicate, sz5, sz22, sz23, sz25, sz36, sz46, sz47, sz48, sz49, sz50, sz51, *] <;> omega) | (simp only [Ix.val]; with_reducible assumption) | exact UInt8.toNat_lt _ | (apply Eq.trans; (with_reducible assumption); exact rfl) | exact rfl | exact fun _ _ => rfl)) ?_)
  have hL := fn15 tabS tabB (keysOf key) bl tabS_length (backGo_length 256) hkl hb
  have hU := fn18 tabS tabB (keysOf key) (lockGo tabS (keysOf key) bl 14) hkl hll
  have hU2 := fn18 tabS tabB (keysOf key) bl hkl hb
  have hL2 := fn15 tabS tabB (keysOf key) (unlockF tabB (keysOf key) bl) tabS_length (backGo_length 256) hkl hul
  rw [unlock_lock hkl hb] at hU
  rw [lock_unlock hkl hb] at hL2
  refine Call.intro hL [(1000, (1001, 0, none))] rfl (by repeat' (first | (show AllP _; first | exact trivial | refine AllP.app ?_ ?_ | refine AllP.appd ?_ ?_ | refine AllP.cons ?_ ?_) | with_reducible rfl | omega | with_reducible assumption | (simp only [rng, Ix.val, addQ_eq, addI, sz5, sz22, sz23, sz25, sz36, sz46, sz47, sz48, sz49, sz50, sz51] <;> omega) | (simp only [rng, Ix.val, Int.toNat_natCast, mulE_eq, addQ_eq, addI, Option.getD_none, Option.getD_some, List.length_take, List.length_drop, List.length_append, List.length_set, List.length_replicate, sz5, sz22, sz23, sz25, sz36, sz46, sz47, sz48, sz49, sz50, sz51, *] <;> omega) | (simp only [Ix.val]; with_reducible assumption) | exact UInt8.toNat_lt _ | (apply Eq.trans; (with_reducible assumption); exact rfl) | exact rfl | exact fun _ _ => rfl)) rfl (by repeat' (first | (show AllP _; first | exact trivial | refine AllP.app ?_ ?_ | refine AllP.appd ?_ ?_ | refine AllP.cons ?_ ?_) | with_reducible rfl | omega | with_reducible assumption | (simp only [rng, Ix.val, addQ_eq, addI, sz5, sz22, sz23, sz25, sz36, sz46, sz47, sz48, sz49, sz50, sz51] <;> omega) | (simp only [rng, Ix.val, Int.toNat_natCast, mulE_eq, addQ_eq, addI, Option.getD_none, Option.getD_some, List.length_take, List.length_drop, List.length_append, List.length_set, List.length_replicate, sz5, sz22, sz23, sz25, sz36, sz46, sz47, sz48, sz49, sz50, sz51, *] <;> omega) | (simp only [Ix.val]; with_reducible assumption) | exact UInt8.toNat_lt _ | (apply Eq.trans; (with_reducible assumption); exact rfl) | exact rfl | exact fun _ _ => rfl)) rfl ?_
  rintro v M' ⟨rfl, rfl⟩
  refine Grow.intro [] rfl rfl ?_
  refine Call.intro hU [(1000, (1001, 0, none))] rfl (by repeat' (first | (show AllP _; first | exact trivial | refine AllP.app ?_ ?_ | refine AllP.appd ?_ ?_ | refine AllP.cons ?_ ?_) | with_reducible rfl | omega | with_reducible assumption | (simp only [rng, Ix.val, addQ_eq, addI, sz5, sz22, sz23, sz25, sz36, sz46, sz47, sz48, sz49, sz50, sz51] <;> omega) | (simp only [rng, Ix.val, Int.toNat_natCast, mulE_eq, addQ_eq, addI, Option.getD_none, Option.getD_some, List.length_take, List.length_drop, List.length_append, List.length_set, List.length_replicate, sz5, sz22, sz23, sz25, sz36, sz46, sz47, sz48, sz49, sz50, sz51, *] <;> omega) | (simp only [Ix.val]; with_reducible assumption) | exact UInt8.toNat_lt _ | (apply Eq.trans; (with_reducible assumption); exact rfl) | exact rfl | exact fun _ _ => rfl)) rfl (by repeat' (first | (show AllP _; first | exact trivial | refine AllP.app ?_ ?_ | refine AllP.appd ?_ ?_ | refine AllP.cons ?_ ?_) | with_reducible rfl | omega | with_reducible assumption | (simp only [rng, Ix.val, addQ_eq, addI, sz5, sz22, sz23, sz25, sz36, sz46, sz47, sz48, sz49, sz50, sz51] <;> omega) | (simp only [rng, Ix.val, Int.toNat_natCast, mulE_eq, addQ_eq, addI, Option.getD_none, Option.getD_some, List.length_take, List.length_drop, List.length_append, List.length_set, List.length_replicate, sz5, sz22, sz23, sz25, sz36, sz46, sz47, sz48, sz49, sz50, sz51, *] <;> omega) | (simp only [Ix.val]; with_reducible assumption) | exact UInt8.toNat_lt _ | (apply Eq.trans; (with_reducible assumption); exact rfl) | exact rfl | exact fun _ _ => rfl)) rfl ?_
  rintro v M' ⟨rfl, rfl⟩
  refine Grow.intro [] rfl rfl ?_
  repeat (first | (refine Branch.intro (fun _ => ?_) (fun hn => absurd rfl hn)) | (refine Side.intro (by repeat' (first | (show AllP _; first | exact trivial | refine AllP.app ?_ ?_ | refine AllP.appd ?_ ?_ | refine AllP.cons ?_ ?_) | with_reducible rfl | omega | with_reducible assumption | (simp only [rng, Ix.val, addQ_eq, addI, sz5, sz22, sz23, sz25, sz36, sz46, sz47, sz48, sz49, sz50, sz51] <;> omega) | (simp only [rng, Ix.val, Int.toNat_natCast, mulE_eq, addQ_eq, addI, Option.getD_none, Option.getD_some, List.length_take, List.length_drop, List.length_append, List.length_set, List.length_replicate, sz5, sz22, sz23, sz25, sz36, sz46, sz47, sz48, sz49, sz50, sz51, *] <;> omega) | (simp only [Ix.val]; with_reducible assumption) | exact UInt8.toNat_lt _ | (apply Eq.trans; (with_reducible assumption); exact rfl) | exact rfl | exact fun _ _ => rfl)) ?_))
  refine Call.intro hU2 [(1000, (1001, 0, none))] rfl (by repeat' (first | (show AllP _; first | exact trivial | refine AllP.app ?_ ?_ | refine AllP.appd ?_ ?_ | refine AllP.cons ?_ ?_) | with_reducible rfl | omega | with_reducible assumption | (simp only [rng, Ix.val, addQ_eq, addI, sz5, sz22, sz23, sz25, sz36, sz46, sz47, sz48, sz49, sz50, sz51] <;> omega) | (simp only [rng, Ix.val, Int.toNat_natCast, mulE_eq, addQ_eq, addI, Option.getD_none, Option.getD_some, List.length_take, List.length_drop, List.length_append, List.length_set, List.length_replicate, sz5, sz22, sz23, sz25, sz36, sz46, sz47, sz48, sz49, sz50, sz51, *] <;> omega) | (simp only [Ix.val]; with_reducible assumption) | exact UInt8.toNat_lt _ | (apply Eq.trans; (with_reducible assumption); exact rfl) | exact rfl | exact fun _ _ => rfl)) rfl (by repeat' (first | (show AllP _; first | exact trivial | refine AllP.app ?_ ?_ | refine AllP.appd ?_ ?_ | refine AllP.cons ?_ ?_) | with_reducible rfl | omega | with_reducible assumption | (simp only [rng, Ix.val, addQ_eq, addI, sz5, sz22, sz23, sz25, sz36, sz46, sz47, sz48, sz49, sz50, sz51] <;> omega) | (simp only [rng, Ix.val, Int.toNat_natCast, mulE_eq, addQ_eq, addI, Option.getD_none, Option.getD_some, List.length_take, List.length_drop, List.length_append, List.length_set, List.length_replicate, sz5, sz22, sz23, sz25, sz36, sz46, sz47, sz48, sz49, sz50, sz51, *] <;> omega) | (simp only [Ix.val]; with_reducible assumption) | exact UInt8.toNat_lt _ | (apply Eq.trans; (with_reducible assumption); exact rfl) | exact rfl | exact fun _ _ => rfl)) rfl ?_
  rintro v M' ⟨rfl, rfl⟩
  refine Grow.intro [] rfl rfl ?_
  repeat (first | (refine Branch.intro (fun _ => ?_) (fun hn => absurd rfl hn)) | (refine Side.intro (by repeat' (first | (show AllP _; first | exact trivial | refine AllP.app ?_ ?_ | refine AllP.appd ?_ ?_ | refine AllP.cons ?_ ?_) | with_reducible rfl | omega | with_reducible assumption | (simp only [rng, Ix.val, addQ_eq, addI, sz5, sz22, sz23, sz25, sz36, sz46, sz47, sz48, sz49, sz50, sz51] <;> omega) | (simp only [rng, Ix.val, Int.toNat_natCast, mulE_eq, addQ_eq, addI, Option.getD_none, Option.getD_some, List.length_take, List.length_drop, List.length_append, List.length_set, List.length_replicate, sz5, sz22, sz23, sz25, sz36, sz46, sz47, sz48, sz49, sz50, sz51, *] <;> omega) | (simp only [Ix.val]; with_reducible assumption) | exact UInt8.toNat_lt _ | (apply Eq.trans; (with_reducible assumption); exact rfl) | exact rfl | exact fun _ _ => rfl)) ?_))
  refine Call.intro hL2 [(1000, (1001, 0, none))] rfl (by repeat' (first | (show AllP _; first | exact trivial | refine AllP.app ?_ ?_ | refine AllP.appd ?_ ?_ | refine AllP.cons ?_ ?_) | with_reducible rfl | omega | with_reducible assumption | (simp only [rng, Ix.val, addQ_eq, addI, sz5, sz22, sz23, sz25, sz36, sz46, sz47, sz48, sz49, sz50, sz51] <;> omega) | (simp only [rng, Ix.val, Int.toNat_natCast, mulE_eq, addQ_eq, addI, Option.getD_none, Option.getD_some, List.length_take, List.length_drop, List.length_append, List.length_set, List.length_replicate, sz5, sz22, sz23, sz25, sz36, sz46, sz47, sz48, sz49, sz50, sz51, *] <;> omega) | (simp only [Ix.val]; with_reducible assumption) | exact UInt8.toNat_lt _ | (apply Eq.trans; (with_reducible assumption); exact rfl) | exact rfl | exact fun _ _ => rfl)) rfl (by repeat' (first | (show AllP _; first | exact trivial | refine AllP.app ?_ ?_ | refine AllP.appd ?_ ?_ | refine AllP.cons ?_ ?_) | with_reducible rfl | omega | with_reducible assumption | (simp only [rng, Ix.val, addQ_eq, addI, sz5, sz22, sz23, sz25, sz36, sz46, sz47, sz48, sz49, sz50, sz51] <;> omega) | (simp only [rng, Ix.val, Int.toNat_natCast, mulE_eq, addQ_eq, addI, Option.getD_none, Option.getD_some, List.length_take, List.length_drop, List.length_append, List.length_set, List.length_replicate, sz5, sz22, sz23, sz25, sz36, sz46, sz47, sz48, sz49, sz50, sz51, *] <;> omega) | (simp only [Ix.val]; with_reducible assumption) | exact UInt8.toNat_lt _ | (apply Eq.trans; (with_reducible assumption); exact rfl) | exact rfl | exact fun _ _ => rfl)) rfl ?_
  rintro v M' ⟨rfl, rfl⟩
  refine Grow.intro [] rfl rfl ?_
  repeat (first | (refine Branch.intro (fun _ => ?_) (fun hn => absurd rfl hn)) | (refine Side.intro (by repeat' (first | (show AllP _; first | exact trivial | refine AllP.app ?_ ?_ | refine AllP.appd ?_ ?_ | refine AllP.cons ?_ ?_) | with_reducible rfl | omega | with_reducible assumption | (simp only [rng, Ix.val, addQ_eq, addI, sz5, sz22, sz23, sz25, sz36, sz46, sz47, sz48, sz49, sz50, sz51] <;> omega) | (simp only [rng, Ix.val, Int.toNat_natCast, mulE_eq, addQ_eq, addI, Option.getD_none, Option.getD_some, List.length_take, List.length_drop, List.length_append, List.length_set, List.length_replicate, sz5, sz22, sz23, sz25, sz36, sz46, sz47, sz48, sz49, sz50, sz51, *] <;> omega) | (simp only [Ix.val]; with_reducible assumption) | exact UInt8.toNat_lt _ | (apply Eq.trans; (with_reducible assumption); exact rfl) | exact rfl | exact fun _ _ => rfl)) ?_))
  refine Ret.intro .tt [] [] rfl trivial rfl rfl (Or.inl ⟨rfl, rfl⟩) rfl trivial rfl

theorem aesBack_runs (svs : List SV) (h : AllF [isArr8 32, isArr8 16] svs) : Sx.Fn Γ.P 4 svs [] (fun v _ => v = .tt) := by
  match svs, h with
  | [_, _], ⟨⟨key, hk, rfl⟩, ⟨bl, hb, rfl⟩, _⟩ => exact fn4 key bl hk hb

end Go.Proofs.Ytgfbbmcdbohbhaa

namespace Go.Proofs.Ytgfbbmcdbohbhaa
open Go Go.Sx

/-! The reference's product in the field. -/

def r1 (a b : Nat) : Nat → Nat
  | 0 => 0
  | i + 1 => if b / 2 ^ i &&& 1 = 1 then r1 a b i ^^^ a * 2 ^ i else r1 a b i
def r2 (p : Nat) : Nat → Nat
  | 0 => p
  | k + 1 => if r2 p k / 2 ^ (14 - k) &&& 1 = 1 then r2 p k ^^^ 283 * 2 ^ (6 - k) else r2 p k
def rTimes (a b : Nat) : Nat := r2 (r1 a b 8) 7

theorem r1_lt {a : Nat} (ha : a < 256) (b : Nat) : ∀ i, i ≤ 8 → r1 a b i < 2 ^ 16
  | 0, _ => Nat.two_pow_pos 16
  | i + 1, h => by
    have ih := r1_lt ha b i (by omega)
    simp only [r1]
    split
    · refine Nat.xor_lt_two_pow ih ?_
      have : 2 ^ i ≤ 2 ^ 8 := Nat.pow_le_pow_right (by decide) (by omega)
      calc a * 2 ^ i ≤ 255 * 2 ^ 8 := Nat.mul_le_mul (by omega) this
        _ < 2 ^ 16 := by decide
    · exact ih
theorem r2_lt {p : Nat} (hp : p < 2 ^ 16) : ∀ k, r2 p k < 2 ^ 16
  | 0 => hp
  | k + 1 => by
    have ih := r2_lt hp k
    simp only [r2]
    split
    · refine Nat.xor_lt_two_pow ih ?_
      have : 2 ^ (6 - k) ≤ 2 ^ 6 := Nat.pow_le_pow_right (by decide) (by omega)
      calc 283 * 2 ^ (6 - k) ≤ 283 * 2 ^ 6 := Nat.mul_le_mul_left _ this
        _ < 2 ^ 16 := by decide
    · exact ih

theorem u64_small (i : Nat) (h : i < 100000) : (UInt64.ofInt (i : Int)).toNat = i := by
  simp [UInt64.ofInt]
  omega
theorem div_cast (b i : Nat) : (b : Int) / 2 ^ i = ((b / 2 ^ i : Nat) : Int) := by simp
theorem mul_cast (a i : Nat) : (a : Int) * 2 ^ i = ((a * 2 ^ i : Nat) : Int) := by simp
theorem bit_cast {b i k d : Nat} (hu : k = i) (eD : (b : Int) / 2 ^ i = (d : Int)) (h : ((((b : Int) / 2 ^ k).toNat &&& Int.toNat 1 : Nat) : Int) = 1) : d &&& 1 = 1 := by
  rw [hu, eD, Int.toNat_natCast] at h
  exact Int.ofNat.inj h
theorem bit_cast' {b i k d : Nat} (hu : k = i) (eD : (b : Int) / 2 ^ i = (d : Int)) (h : d &&& 1 = 1) : ((((b : Int) / 2 ^ k).toNat &&& Int.toNat 1 : Nat) : Int) = 1 := by
  rw [hu, eD, Int.toNat_natCast]
  exact congrArg Int.ofNat h

set_option maxRecDepth 100000 in
theorem fn31 (a b : Nat) (ha : a < 256) (hb : b < 256) : Sx.Fn Γ.P 31 [.i .i64 a, .i .i64 b] [] (fun v _ => v = .i .i64 (rTimes a b : Nat)) := by
  refine fn_of (Γ := Γ) (fn := Try.f31) rfl rfl rfl rfl ?_
  refine Loop.intro (σ := Nat) (fun i => i ≤ 8)
    (fun i => ([(0, .i .i64 a), (1, .i .i64 b), (5, .i .i64 (r1 a b i : Nat)), (6, .i .i64 i)], [])) (fun i => 8 - i) 0 (Nat.zero_le _) ?_ ?_
  · exact Le.intro [] rfl (by repeat' (first | (show AllP _; first | exact trivial | refine AllP.app ?_ ?_ | refine AllP.appd ?_ ?_ | refine AllP.cons ?_ ?_) | with_reducible rfl | omega | with_reducible assumption | (simp only [rng, Ix.val, addQ_eq, addI, sz2] <;> omega) | (simp only [rng, Ix.val, Int.toNat_natCast, mulE_eq, addQ_eq, addI, Option.getD_none, Option.getD_some, List.length_take, List.length_drop, List.length_append, List.length_set, List.length_replicate, sz2, *] <;> omega) | (simp only [Ix.val]; with_reducible assumption) | exact UInt8.toNat_lt _ | (apply Eq.trans; (with_reducible assumption); exact rfl) | exact rfl | exact fun _ _ => rfl)) rfl trivial rfl
  · rintro i hi
    have hr := r1_lt ha b i hi
    have hu := u64_small i (by omega)
    obtain ⟨d, hd⟩ : ∃ d, b / 2 ^ i = d := ⟨_, rfl⟩
    obtain ⟨m, hm⟩ : ∃ m, a * 2 ^ i = m := ⟨_, rfl⟩
    have eD : (b : Int) / 2 ^ i = (d : Int) := by rw [← hd]; exact div_cast b i
    have eM : (a : Int) * 2 ^ i = (m : Int) := by rw [← hm]; exact mul_cast a i
    have hq : d < 256 := by rw [← hd]; exact Nat.lt_of_le_of_lt (Nat.div_le_self _ _) hb
    refine Branch.intro (fun h => ?_) (fun h => ?_)
    · have hml : m < 65536 := by
        have : 2 ^ i ≤ 2 ^ 8 := Nat.pow_le_pow_right (by decide) (by omega)
        rw [← hm]
        calc a * 2 ^ i ≤ 255 * 2 ^ 8 := Nat.mul_le_mul (by omega) this
          _ < 65536 := by decide
      have hr' : r1 a b i < 65536 := hr
      clear hr
      refine Side.intro (by repeat' (first | (show AllP _; first | exact trivial | refine AllP.app ?_ ?_ | refine AllP.appd ?_ ?_ | refine AllP.cons ?_ ?_) | with_reducible rfl | omega | with_reducible assumption | (simp only [rng, Ix.val, addQ_eq, addI, sz2] <;> omega) | (simp only [rng, Ix.val, Int.toNat_natCast, mulE_eq, addQ_eq, addI, Option.getD_none, Option.getD_some, List.length_take, List.length_drop, List.length_append, List.length_set, List.length_replicate, sz2, *] <;> omega) | (simp only [Ix.val]; with_reducible assumption) | exact UInt8.toNat_lt _ | (apply Eq.trans; (with_reducible assumption); exact rfl) | exact rfl | exact fun _ _ => rfl)) ?_
      refine Branch.intro (fun h2 => ?_) (fun h2 => ?_)
      · have h3 := bit_cast hu eD h2
        repeat (refine Side.intro (by repeat' (first | (show AllP _; first | exact trivial | refine AllP.app ?_ ?_ | refine AllP.appd ?_ ?_ | refine AllP.cons ?_ ?_) | with_reducible rfl | omega | with_reducible assumption | (simp only [rng, Ix.val, addQ_eq, addI, sz2] <;> omega) | (simp only [rng, Ix.val, Int.toNat_natCast, mulE_eq, addQ_eq, addI, Option.getD_none, Option.getD_some, List.length_take, List.length_drop, List.length_append, List.length_set, List.length_replicate, sz2, *] <;> omega) | (simp only [Ix.val]; with_reducible assumption) | exact UInt8.toNat_lt _ | (apply Eq.trans; (with_reducible assumption); exact rfl) | exact rfl | exact fun _ _ => rfl)) ?_)
        have e : r1 a b (i + 1) = r1 a b i ^^^ m := by simp only [r1]; rw [hd, hm, if_pos h3]
        have e2 : ((r1 a b (i + 1) : Nat) : Int) = (((r1 a b i : Nat) : Int).toNat ^^^ ((a : Int) * 2 ^ (UInt64.ofInt (i : Int)).toNat).toNat : Nat) := by
          rw [hu, eM, Int.toNat_natCast, Int.toNat_natCast, e]
        exact ⟨i + 1, by omega, by omega, Le.intro [] rfl (by repeat' (first | (show AllP _; first | exact trivial | refine AllP.app ?_ ?_ | refine AllP.appd ?_ ?_ | refine AllP.cons ?_ ?_) | with_reducible rfl | omega | with_reducible assumption | (simp only [rng, Ix.val, addQ_eq, addI, sz2] <;> omega) | (simp only [rng, Ix.val, Int.toNat_natCast, mulE_eq, addQ_eq, addI, Option.getD_none, Option.getD_some, List.length_take, List.length_drop, List.length_append, List.length_set, List.length_replicate, sz2, *] <;> omega) | (simp only [Ix.val]; with_reducible assumption) | exact UInt8.toNat_lt _ | (apply Eq.trans; (with_reducible assumption); exact rfl) | exact rfl | exact fun _ _ => rfl)) rfl trivial rfl⟩
      · have h3 : ¬ (d &&& 1 = 1) := fun h => h2 (bit_cast' hu eD h)
        repeat (refine Side.intro (by repeat' (first | (show AllP _; first | exact trivial | refine AllP.app ?_ ?_ | refine AllP.appd ?_ ?_ | refine AllP.cons ?_ ?_) | with_reducible rfl | omega | with_reducible assumption | (simp only [rng, Ix.val, addQ_eq, addI, sz2] <;> omega) | (simp only [rng, Ix.val, Int.toNat_natCast, mulE_eq, addQ_eq, addI, Option.getD_none, Option.getD_some, List.length_take, List.length_drop, List.length_append, List.length_set, List.length_replicate, sz2, *] <;> omega) | (simp only [Ix.val]; with_reducible assumption) | exact UInt8.toNat_lt _ | (apply Eq.trans; (with_reducible assumption); exact rfl) | exact rfl | exact fun _ _ => rfl)) ?_)
        have e : r1 a b (i + 1) = r1 a b i := by simp only [r1]; rw [hd, if_neg h3]
        exact ⟨i + 1, by omega, by omega, Le.intro [] rfl (by repeat' (first | (show AllP _; first | exact trivial | refine AllP.app ?_ ?_ | refine AllP.appd ?_ ?_ | refine AllP.cons ?_ ?_) | with_reducible rfl | omega | with_reducible assumption | (simp only [rng, Ix.val, addQ_eq, addI, sz2] <;> omega) | (simp only [rng, Ix.val, Int.toNat_natCast, mulE_eq, addQ_eq, addI, Option.getD_none, Option.getD_some, List.length_take, List.length_drop, List.length_append, List.length_set, List.length_replicate, sz2, *] <;> omega) | (simp only [Ix.val]; with_reducible assumption) | exact UInt8.toNat_lt _ | (apply Eq.trans; (with_reducible assumption); exact rfl) | exact rfl | exact fun _ _ => rfl)) rfl trivial rfl⟩
    · obtain rfl : i = 8 := by omega
      clear hm hd eD eM hq hu
      generalize hp : r1 a b 8 = p at hr
      refine Loop.intro (σ := Nat) (fun k => k ≤ 7)
        (fun k => ([(5, .i .i64 (r2 p k : Nat)), (7, .i .i64 (14 - (k : Int)))], [])) (fun k => 7 - k) 0 (Nat.zero_le _) ?_ ?_
      · have e : r2 p 0 = r1 a b 8 := hp.symm
        exact Le.intro [] rfl (by repeat' (first | (show AllP _; first | exact trivial | refine AllP.app ?_ ?_ | refine AllP.appd ?_ ?_ | refine AllP.cons ?_ ?_) | with_reducible rfl | omega | with_reducible assumption | (simp only [rng, Ix.val, addQ_eq, addI, sz2] <;> omega) | (simp only [rng, Ix.val, Int.toNat_natCast, mulE_eq, addQ_eq, addI, Option.getD_none, Option.getD_some, List.length_take, List.length_drop, List.length_append, List.length_set, List.length_replicate, sz2, *] <;> omega) | (simp only [Ix.val]; with_reducible assumption) | exact UInt8.toNat_lt _ | (apply Eq.trans; (with_reducible assumption); exact rfl) | exact rfl | exact fun _ _ => rfl)) rfl trivial rfl
      · rintro k hk
        have hr := r2_lt hr k
        have hu : (UInt64.ofInt (14 - (k : Int))).toNat = 14 - k := by
          rw [show (14 - (k : Int)) = ((14 - k : Nat) : Int) by omega]; exact u64_small _ (by omega)
        obtain ⟨d, hd⟩ : ∃ d, r2 p k / 2 ^ (14 - k) = d := ⟨_, rfl⟩
        have eD : ((r2 p k : Nat) : Int) / 2 ^ (14 - k) = (d : Int) := by rw [← hd]; exact div_cast _ _
        have hr' : r2 p k < 65536 := hr
        clear hr
        have hq : d < 65536 := by rw [← hd]; exact Nat.lt_of_le_of_lt (Nat.div_le_self _ _) hr'
        refine Branch.intro (fun h => ?_) (fun h => ?_)
        · have hu2 : (UInt64.ofInt (14 - (k : Int) - 8)).toNat = 6 - k := by
            rw [show (14 - (k : Int) - 8) = ((6 - k : Nat) : Int) by omega]; exact u64_small _ (by omega)
          obtain ⟨m, hm⟩ : ∃ m, 283 * 2 ^ (6 - k) = m := ⟨_, rfl⟩
          have eM : (283 : Int) * 2 ^ (6 - k) = (m : Int) := by rw [← hm]; exact mul_cast 283 _
          have hml : m < 65536 := by
            have : 2 ^ (6 - k) ≤ 2 ^ 6 := Nat.pow_le_pow_right (by decide) (by omega)
            rw [← hm]
            calc 283 * 2 ^ (6 - k) ≤ 283 * 2 ^ 6 := Nat.mul_le_mul_left _ this
              _ < 65536 := by decide
          refine Side.intro (by repeat' (first | (show AllP _; first | exact trivial | refine AllP.app ?_ ?_ | refine AllP.appd ?_ ?_ | refine AllP.cons ?_ ?_) | with_reducible rfl | omega | with_reducible assumption | (simp only [rng, Ix.val, addQ_eq, addI, sz2] <;> omega) | (simp only [rng, Ix.val, Int.toNat_natCast, mulE_eq, addQ_eq, addI, Option.getD_none, Option.getD_some, List.length_take, List.length_drop, List.length_append, List.length_set, List.length_replicate, sz2, *] <;> omega) | (simp only [Ix.val]; with_reducible assumption) | exact UInt8.toNat_lt _ | (apply Eq.trans; (with_reducible assumption); exact rfl) | exact rfl | exact fun _ _ => rfl)) ?_
          refine Branch.intro (fun h2 => ?_) (fun h2 => ?_)
          · have h3 := bit_cast hu eD h2
            repeat (refine Side.intro (by repeat' (first | (show AllP _; first | exact trivial | refine AllP.app ?_ ?_ | refine AllP.appd ?_ ?_ | refine AllP.cons ?_ ?_) | with_reducible rfl | omega | with_reducible assumption | (simp only [rng, Ix.val, addQ_eq, addI, sz2] <;> omega) | (simp only [rng, Ix.val, Int.toNat_natCast, mulE_eq, addQ_eq, addI, Option.getD_none, Option.getD_some, List.length_take, List.length_drop, List.length_append, List.length_set, List.length_replicate, sz2, *] <;> omega) | (simp only [Ix.val]; with_reducible assumption) | exact UInt8.toNat_lt _ | (apply Eq.trans; (with_reducible assumption); exact rfl) | exact rfl | exact fun _ _ => rfl)) ?_)
            have e : r2 p (k + 1) = r2 p k ^^^ m := by simp only [r2]; rw [hd, hm, if_pos h3]
            have e2 : ((r2 p (k + 1) : Nat) : Int) = (((r2 p k : Nat) : Int).toNat ^^^ ((283 : Int) * 2 ^ (UInt64.ofInt (14 - (k : Int) - 8)).toNat).toNat : Nat) := by
              rw [hu2, eM, Int.toNat_natCast, Int.toNat_natCast, e]
            exact ⟨k + 1, by omega, by omega, Le.intro [] rfl (by repeat' (first | (show AllP _; first | exact trivial | refine AllP.app ?_ ?_ | refine AllP.appd ?_ ?_ | refine AllP.cons ?_ ?_) | with_reducible rfl | omega | with_reducible assumption | (simp only [rng, Ix.val, addQ_eq, addI, sz2] <;> omega) | (simp only [rng, Ix.val, Int.toNat_natCast, mulE_eq, addQ_eq, addI, Option.getD_none, Option.getD_some, List.length_take, List.length_drop, List.length_append, List.length_set, List.length_replicate, sz2, *] <;> omega) | (simp only [Ix.val]; with_reducible assumption) | exact UInt8.toNat_lt _ | (apply Eq.trans; (with_reducible assumption); exact rfl) | exact rfl | exact fun _ _ => rfl)) rfl trivial rfl⟩
          · have h3 : ¬ (d &&& 1 = 1) := fun h => h2 (bit_cast' hu eD h)
            repeat (refine Side.intro (by repeat' (first | (show AllP _; first | exact trivial | refine AllP.app ?_ ?_ | refine AllP.appd ?_ ?_ | refine AllP.cons ?_ ?_) | with_reducible rfl | omega | with_reducible assumption | (simp only [rng, Ix.val, addQ_eq, addI, sz2] <;> omega) | (simp only [rng, Ix.val, Int.toNat_natCast, mulE_eq, addQ_eq, addI, Option.getD_none, Option.getD_some, List.length_take, List.length_drop, List.length_append, List.length_set, List.length_replicate, sz2, *] <;> omega) | (simp only [Ix.val]; with_reducible assumption) | exact UInt8.toNat_lt _ | (apply Eq.trans; (with_reducible assumption); exact rfl) | exact rfl | exact fun _ _ => rfl)) ?_)
            have e : r2 p (k + 1) = r2 p k := by simp only [r2]; rw [hd, if_neg h3]
            exact ⟨k + 1, by omega, by omega, Le.intro [] rfl (by repeat' (first | (show AllP _; first | exact trivial | refine AllP.app ?_ ?_ | refine AllP.appd ?_ ?_ | refine AllP.cons ?_ ?_) | with_reducible rfl | omega | with_reducible assumption | (simp only [rng, Ix.val, addQ_eq, addI, sz2] <;> omega) | (simp only [rng, Ix.val, Int.toNat_natCast, mulE_eq, addQ_eq, addI, Option.getD_none, Option.getD_some, List.length_take, List.length_drop, List.length_append, List.length_set, List.length_replicate, sz2, *] <;> omega) | (simp only [Ix.val]; with_reducible assumption) | exact UInt8.toNat_lt _ | (apply Eq.trans; (with_reducible assumption); exact rfl) | exact rfl | exact fun _ _ => rfl)) rfl trivial rfl⟩
        · obtain rfl : k = 7 := by omega
          refine Ret.intro (.i .i64 (rTimes a b : Nat)) [] [] rfl trivial rfl rfl ?_ rfl trivial rfl
          show ((rTimes a b : Nat) : Int) = (r2 p 7 : Nat)
          unfold rTimes; rw [hp]

end Go.Proofs.Ytgfbbmcdbohbhaa

namespace Go.Proofs.Ytgfbbmcdbohbhaa
open Go Go.Sx

theorem top_div {x n : Nat} (h1 : 2 ^ n ≤ x) (h2 : x < 2 ^ (n + 1)) : x / 2 ^ n = 1 := by
  have hp := Nat.two_pow_pos n
  rw [Nat.pow_succ] at h2
  exact Nat.div_eq_of_lt_le (by omega) (by omega)

theorem xor_top {x y n : Nat} (hx : 2 ^ n ≤ x) (hx2 : x < 2 ^ (n + 1)) (hy : 2 ^ n ≤ y) (hy2 : y < 2 ^ (n + 1)) : x ^^^ y < 2 ^ n := by
  apply Nat.lt_pow_two_of_testBit
  intro i hi
  rw [Nat.testBit_xor]
  by_cases h : i = n
  · subst h
    rw [Nat.testBit_eq_decide_div_mod_eq, Nat.testBit_eq_decide_div_mod_eq, top_div hx hx2, top_div hy hy2]
    rfl
  · have hle : 2 ^ (n + 1) ≤ 2 ^ i := Nat.pow_le_pow_right (by decide) (by omega)
    rw [Nat.testBit_lt_two_pow (Nat.lt_of_lt_of_le hx2 hle), Nat.testBit_lt_two_pow (Nat.lt_of_lt_of_le hy2 hle)]
    rfl

theorem r1_lt2 {a : Nat} (ha : a < 256) (b : Nat) : ∀ i, 1 ≤ i → r1 a b i < 2 ^ (7 + i)
  | 0, h => absurd h (by omega)
  | 1, _ => by
    simp only [r1]
    have : (0 : Nat) ^^^ a * 2 ^ 0 < 2 ^ (7 + 1) := by simp; omega
    split
    · exact this
    · exact Nat.two_pow_pos _
  | i + 2, _ => by
    have ih := r1_lt2 ha b (i + 1) (by omega)
    have hle : 2 ^ (7 + (i + 1)) ≤ 2 ^ (7 + (i + 2)) := Nat.pow_le_pow_right (by decide) (by omega)
    have e : r1 a b (i + 2) = if b / 2 ^ (i + 1) &&& 1 = 1 then r1 a b (i + 1) ^^^ a * 2 ^ (i + 1) else r1 a b (i + 1) := rfl
    rw [e]
    split
    · refine Nat.xor_lt_two_pow (Nat.lt_of_lt_of_le ih hle) ?_
      have h2 : 2 ^ (7 + (i + 2)) = 256 * 2 ^ (i + 1) := by rw [show 7 + (i + 2) = 8 + (i + 1) by omega, Nat.pow_add]
      rw [h2]
      exact Nat.mul_lt_mul_of_pos_right ha (Nat.two_pow_pos _)
    · exact Nat.lt_of_lt_of_le ih hle

theorem r2_lt2 {p : Nat} (hp : p < 2 ^ 15) : ∀ k, k ≤ 7 → r2 p k < 2 ^ (15 - k)
  | 0, _ => hp
  | k + 1, h => by
    have ih := r2_lt2 hp k (by omega)
    rw [show 15 - k = 14 - k + 1 by omega] at ih
    have e : r2 p (k + 1) = if r2 p k / 2 ^ (14 - k) &&& 1 = 1 then r2 p k ^^^ 283 * 2 ^ (6 - k) else r2 p k := rfl
    rw [e, show 15 - (k + 1) = 14 - k by omega]
    have h283 : 283 * 2 ^ (6 - k) = 256 * 2 ^ (6 - k) + 27 * 2 ^ (6 - k) := by omega
    have hpow : 2 ^ (14 - k) = 256 * 2 ^ (6 - k) := by rw [show 14 - k = 8 + (6 - k) by omega, Nat.pow_add]
    have hpow2 : 2 ^ (14 - k + 1) = 2 * 2 ^ (14 - k) := by rw [Nat.pow_succ, Nat.mul_comm]
    have hpos := Nat.two_pow_pos (6 - k)
    by_cases ht : 2 ^ (14 - k) ≤ r2 p k
    · rw [top_div ht ih, if_pos (by decide)]
      exact xor_top ht ih (by omega) (by omega)
    · rw [Nat.div_eq_of_lt (by omega), if_neg (by decide)]
      omega

theorem rTimes_lt {a : Nat} (ha : a < 256) (b : Nat) : rTimes a b < 256 := r2_lt2 (r1_lt2 ha b 8 (by omega)) 7 (Nat.le_refl _)

end Go.Proofs.Ytgfbbmcdbohbhaa
