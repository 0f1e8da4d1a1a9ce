/- What the functions of the program compute. No condition. -/
import Derived.Test.YtgfbbmcdbohbhaaHwCbc9ToCbc9
set_option linter.unusedSimpArgs false
set_option linter.unusedVariables false
namespace Go.Proofs.Ytgfbbmcdbohbhaa
open Go Go.Sx

/-! What is unlocked is just the text whose Lock it is: plain. -/

theorem outJ_ap2 (out x bg : List UInt8) : ∀ j, ∃ r, outJ out x bg j = out ++ r ∧ r.length = j ∧ ∀ k, k < j → r.getD k 0 = x.getD k 0 ^^^ bg.getD k 0
  | 0 => ⟨[], by simp [outJ], rfl, fun k h => absurd h (Nat.not_lt_zero k)⟩
  | j + 1 => by
    obtain ⟨r, h1, h2, h3⟩ := outJ_ap2 out x bg j
    refine ⟨r ++ [x.getD j 0 ^^^ bg.getD j 0], by simp only [outJ, h1, List.append_assoc], by simp [h2], fun k hk => ?_⟩
    rw [List.getD_eq_getElem?_getD]
    by_cases h : k < j
    · rw [List.getElem?_append_left (by omega), ← List.getD_eq_getElem?_getD]; exact h3 k h
    · have : k = j := by omega
      subst this
      rw [List.getElem?_append_right (by omega), h2, Nat.sub_self]; rfl

theorem unC_keep (key bg b : List UInt8) (hb : bg.length = 16) (i : Nat) : ∀ d k, k < 16 * i → (unC key bg b (i + d)).2.getD k 0 = (unC key bg b i).2.getD k 0
  | 0, _, _ => rfl
  | d + 1, k, h => by
    have ih := unC_keep key bg b hb i d k h
    have hl := unC_length2 key hb b (i + d)
    obtain ⟨r, h1, _, _⟩ := outJ_ap2 (unC key bg b (i + d)).2 (decK key (blkOf b (i + d))) (unC key bg b (i + d)).1 16
    have e : (unC key bg b (i + (d + 1))).2 = outJ (unC key bg b (i + d)).2 (decK key (blkOf b (i + d))) (unC key bg b (i + d)).1 16 := rfl
    rw [e, h1, List.getD_eq_getElem?_getD, List.getElem?_append_left (by omega), ← List.getD_eq_getElem?_getD, ih]

theorem unC_at {key bg b : List UInt8} (hb : bg.length = 16) {i L j : Nat} (h : i < L) (hj : j < 16) : (unC key bg b L).2.getD (16 * i + j) 0 = (decK key (blkOf b i)).getD j 0 ^^^ (unC key bg b i).1.getD j 0 := by
  have hl := unC_length2 key hb b i
  rw [show L = (i + 1) + (L - (i + 1)) by omega, unC_keep key bg b hb (i + 1) _ _ (by omega)]
  obtain ⟨r, h1, _, h3⟩ := outJ_ap2 (unC key bg b i).2 (decK key (blkOf b i)) (unC key bg b i).1 16
  have e : (unC key bg b (i + 1)).2 = outJ (unC key bg b i).2 (decK key (blkOf b i)) (unC key bg b i).1 16 := rfl
  rw [e, h1, List.getD_eq_getElem?_getD, List.getElem?_append_right (by omega), hl, show 16 * i + j - 16 * i = j by omega, ← List.getD_eq_getElem?_getD]
  exact h3 j hj

theorem cbc_un {key bg b s : List UInt8} (hk : key.length = 32) (hb : bg.length = 16) (h : cbcUnlock key bg b = some s) : cbcLock key bg s = b := by
  unfold cbcUnlock at h
  split at h
  · cases h
  rename_i h0
  split at h
  · cases h
  rename_i h1
  split at h
  rotate_left
  · cases h
  rename_i h2
  simp only [Option.some.injEq] at h
  generalize hf : unFill key bg b = f at h h1 h2
  obtain ⟨L, hL⟩ : ∃ L, b.length = 16 * L := ⟨b.length / 16, by omega⟩
  have hout : unOut key bg b = (unC key bg b L).2 := by unfold unOut; rw [hL, show 16 * L / 16 = L by omega]
  have hol : (unOut key bg b).length = 16 * L := by rw [hout]; exact unC_length2 key hb b L
  generalize hO : unOut key bg b = O at h h2 hol
  have hsl : s.length = 16 * L - f := by rw [← h, List.length_take]; omega
  have hfill : (fillOf s).toNat = f := by
    unfold fillOf
    rw [UInt8.toNat_ofNat', hsl]
    omega
  have hpad : ∀ k, k < 16 * L → padAt s k = O.getD k 0 := by
    intro k hk
    unfold padAt
    split
    · rw [← h, List.getD_eq_getElem?_getD, List.getElem?_take, if_pos (by omega), List.getD_eq_getElem?_getD]
    · have := h2 (k - (16 * L - f)) (by omega)
      rw [hL, show 16 * L - f + (k - (16 * L - f)) = k by omega] at this
      apply UInt8.toNat_inj.1
      rw [this, hfill]
  have key1 : ∀ i, i ≤ L → cbcGo key bg s i = ((unC key bg b i).1, b.take (16 * i)) := by
    intro i
    induction i with
    | zero => intro _; simp [cbcGo, unC]
    | succ i ih =>
      intro hi
      have ih := ih (by omega)
      have hl := unC_length1 key hb b i (by omega)
      have hbl : (blkOf b i).length = 16 := blkOf_length (by omega)
      have hx : xK (unC key bg b i).1 s i 16 = decK key (blkOf b i) := by
        refine ext16 (by rw [xK_length, hl]) (decK_length key hbl) fun j hj => ?_
        rw [xK_get hl s i 16 j hj (Nat.le_refl _), if_pos hj, hpad _ (by omega), ← hO, hout, unC_at hb (by omega) hj]
        rw [show ∀ x y : UInt8, x ^^^ (y ^^^ x) = y from fun x y => by rw [← UInt8.xor_assoc, xor_back]]
      simp only [cbcGo, unC, ih, hx, encK_decK hk hbl]
      rw [show 16 * (i + 1) = 16 * i + 16 by omega, List.take_add]
      rfl
  unfold cbcLock
  rw [show s.length / 16 + 1 = L by omega, key1 L (Nat.le_refl _), ← hL, List.take_length]

set_option maxRecDepth 100000 in
theorem fn7 (key bg text : List UInt8) (n : Nat) (hk : key.length = 32) (hb : bg.length = 16) (hn : text.length = n) :
    Sx.Fn Γ.P 7 [.a8 key, .a8 bg, .isl 0 n 1 [(n * 1, .a8 text)]] [] (fun v _ => v = .tt) := by
  refine fn_of (Γ := Γ) (fn := Try.f7) rfl rfl rfl rfl ?_
  repeat (refine Side.intro (by repeat' (first | (show AllP _; first | exact trivial | refine AllP.app ?_ ?_ | refine AllP.appd ?_ ?_ | refine AllP.cons ?_ ?_) | with_reducible rfl | omega | with_reducible assumption | (simp only [rng, Ix.val, addQ_eq, addI, sz3, sz5, sz22, sz23, sz25, sz30, sz31, sz36, sz49] <;> omega) | (simp only [rng, Ix.val, Int.toNat_natCast, mulE_eq, addQ_eq, addI, Option.getD_none, Option.getD_some, List.length_take, List.length_drop, List.length_append, List.length_set, List.length_replicate, sz3, sz5, sz22, sz23, sz25, sz30, sz31, sz36, sz49, *] <;> omega) | (simp only [Ix.val]; with_reducible assumption) | exact UInt8.toNat_lt _ | (apply Eq.trans; (with_reducible assumption); exact rfl) | exact rfl | exact fun _ _ => rfl)) ?_)
  refine Call.pure fn19 rfl trivial ?_
  intro v hv
  subst hv
  repeat (refine Side.intro (by repeat' (first | (show AllP _; first | exact trivial | refine AllP.app ?_ ?_ | refine AllP.appd ?_ ?_ | refine AllP.cons ?_ ?_) | with_reducible rfl | omega | with_reducible assumption | (simp only [rng, Ix.val, addQ_eq, addI, sz3, sz5, sz22, sz23, sz25, sz30, sz31, sz36, sz49] <;> omega) | (simp only [rng, Ix.val, Int.toNat_natCast, mulE_eq, addQ_eq, addI, Option.getD_none, Option.getD_some, List.length_take, List.length_drop, List.length_append, List.length_set, List.length_replicate, sz3, sz5, sz22, sz23, sz25, sz30, sz31, sz36, sz49, *] <;> omega) | (simp only [Ix.val]; with_reducible assumption) | exact UInt8.toNat_lt _ | (apply Eq.trans; (with_reducible assumption); exact rfl) | exact rfl | exact fun _ _ => rfl)) ?_)
  refine Branch.intro (fun h => ?_) (fun h => ?_)
  · exact Ret.intro .tt [] [] rfl trivial rfl rfl trivial rfl trivial rfl
  refine Draw.intro [[], [], [], [0, 1, 2], [], [], [], [0, 1, 2, 3, 4, 5, 6], [0, 1, 2, 3, 4, 5, 6, 7], [0, 1, 2, 3, 4, 5, 6, 7, 8]] [0, 1, 2, 4, 5, 6, 3, 7, 8, 9] (by kernel_rfl) ?_
  repeat (refine Side.intro (by repeat' (first | (show AllP _; first | exact trivial | refine AllP.app ?_ ?_ | refine AllP.appd ?_ ?_ | refine AllP.cons ?_ ?_) | with_reducible rfl | omega | with_reducible assumption | (simp only [rng, Ix.val, addQ_eq, addI, sz3, sz5, sz22, sz23, sz25, sz30, sz31, sz36, sz49] <;> omega) | (simp only [rng, Ix.val, Int.toNat_natCast, mulE_eq, addQ_eq, addI, Option.getD_none, Option.getD_some, List.length_take, List.length_drop, List.length_append, List.length_set, List.length_replicate, sz3, sz5, sz22, sz23, sz25, sz30, sz31, sz36, sz49, *] <;> omega) | (simp only [Ix.val]; with_reducible assumption) | exact UInt8.toNat_lt _ | (apply Eq.trans; (with_reducible assumption); exact rfl) | exact rfl | exact fun _ _ => rfl)) ?_)
  have hL := fn21 key bg text n hk hb hn (by omega)
  have hR := fn22 key bg text n hk hb hn (by omega)
  refine Call.name [(0, []), (0, []), (2000, [])] rfl trivial (CallP.intro hL [(1000, (2000, 0, none)), (1001, (1001, 0, none))] rfl (by repeat' (first | (show AllP _; first | exact trivial | refine AllP.app ?_ ?_ | refine AllP.appd ?_ ?_ | refine AllP.cons ?_ ?_) | with_reducible rfl | omega | with_reducible assumption | (simp only [rng, Ix.val, addQ_eq, addI, sz3, sz5, sz22, sz23, sz25, sz30, sz31, sz36, sz49] <;> omega) | (simp only [rng, Ix.val, Int.toNat_natCast, mulE_eq, addQ_eq, addI, Option.getD_none, Option.getD_some, List.length_take, List.length_drop, List.length_append, List.length_set, List.length_replicate, sz3, sz5, sz22, sz23, sz25, sz30, sz31, sz36, sz49, *] <;> omega) | (simp only [Ix.val]; with_reducible assumption) | exact UInt8.toNat_lt _ | (apply Eq.trans; (with_reducible assumption); exact rfl) | exact rfl | exact fun _ _ => rfl)) rfl (by repeat' (first | (show AllP _; first | exact trivial | refine AllP.app ?_ ?_ | refine AllP.appd ?_ ?_ | refine AllP.cons ?_ ?_) | with_reducible rfl | omega | with_reducible assumption | (simp only [rng, Ix.val, addQ_eq, addI, sz3, sz5, sz22, sz23, sz25, sz30, sz31, sz36, sz49] <;> omega) | (simp only [rng, Ix.val, Int.toNat_natCast, mulE_eq, addQ_eq, addI, Option.getD_none, Option.getD_some, List.length_take, List.length_drop, List.length_append, List.length_set, List.length_replicate, sz3, sz5, sz22, sz23, sz25, sz30, sz31, sz36, sz49, *] <;> omega) | (simp only [Ix.val]; with_reducible assumption) | exact UInt8.toNat_lt _ | (apply Eq.trans; (with_reducible assumption); exact rfl) | exact rfl | exact fun _ _ => rfl)) rfl ?_)
  rintro v M' ⟨c, hc, rfl, rfl⟩
  have hlen := cbcLock_length key hb text
  refine Grow.intro [(1001, .mem true (c - (n / 16 * 16 + 16)) [(n / 16 * 16 + 16, .a8 (cbcLock key bg text))]), (2000, .mem false 1 [(n * 1, .a8 text)])] rfl rfl ?_
  refine Call.name [(0, []), (0, []), (2001, [])] rfl trivial (CallP.intro hR [(1000, (2001, 0, none)), (1001, (1002, 0, none))] rfl (by repeat' (first | (show AllP _; first | exact trivial | refine AllP.app ?_ ?_ | refine AllP.appd ?_ ?_ | refine AllP.cons ?_ ?_) | with_reducible rfl | omega | with_reducible assumption | (simp only [rng, Ix.val, addQ_eq, addI, sz3, sz5, sz22, sz23, sz25, sz30, sz31, sz36, sz49] <;> omega) | (simp only [rng, Ix.val, Int.toNat_natCast, mulE_eq, addQ_eq, addI, Option.getD_none, Option.getD_some, List.length_take, List.length_drop, List.length_append, List.length_set, List.length_replicate, sz3, sz5, sz22, sz23, sz25, sz30, sz31, sz36, sz49, *] <;> omega) | (simp only [Ix.val]; with_reducible assumption) | exact UInt8.toNat_lt _ | (apply Eq.trans; (with_reducible assumption); exact rfl) | exact rfl | exact fun _ _ => rfl)) rfl (by repeat' (first | (show AllP _; first | exact trivial | refine AllP.app ?_ ?_ | refine AllP.appd ?_ ?_ | refine AllP.cons ?_ ?_) | with_reducible rfl | omega | with_reducible assumption | (simp only [rng, Ix.val, addQ_eq, addI, sz3, sz5, sz22, sz23, sz25, sz30, sz31, sz36, sz49] <;> omega) | (simp only [rng, Ix.val, Int.toNat_natCast, mulE_eq, addQ_eq, addI, Option.getD_none, Option.getD_some, List.length_take, List.length_drop, List.length_append, List.length_set, List.length_replicate, sz3, sz5, sz22, sz23, sz25, sz30, sz31, sz36, sz49, *] <;> omega) | (simp only [Ix.val]; with_reducible assumption) | exact UInt8.toNat_lt _ | (apply Eq.trans; (with_reducible assumption); exact rfl) | exact rfl | exact fun _ _ => rfl)) rfl ?_)
  rintro v M' ⟨c2, hc2, rfl, rfl⟩
  have hB := fn20 (cbcLock key bg text) (cbcLock key bg text) (n / 16 * 16 + 16) (n / 16 * 16 + 16) 0 0 (n / 16 * 16 + 16) (n / 16 * 16 + 16) (by omega) (by omega) (by omega) (by omega)
  refine Call.intro hB [(1000, (1001, 0, none)), (1001, (1002, 0, none))] rfl (by repeat' (first | (show AllP _; first | exact trivial | refine AllP.app ?_ ?_ | refine AllP.appd ?_ ?_ | refine AllP.cons ?_ ?_) | with_reducible rfl | omega | with_reducible assumption | (simp only [rng, Ix.val, addQ_eq, addI, sz3, sz5, sz22, sz23, sz25, sz30, sz31, sz36, sz49] <;> omega) | (simp only [rng, Ix.val, Int.toNat_natCast, mulE_eq, addQ_eq, addI, Option.getD_none, Option.getD_some, List.length_take, List.length_drop, List.length_append, List.length_set, List.length_replicate, sz3, sz5, sz22, sz23, sz25, sz30, sz31, sz36, sz49, *] <;> omega) | (simp only [Ix.val]; with_reducible assumption) | exact UInt8.toNat_lt _ | (apply Eq.trans; (with_reducible assumption); exact rfl) | exact rfl | exact fun _ _ => rfl)) rfl (by repeat' (first | (show AllP _; first | exact trivial | refine AllP.app ?_ ?_ | refine AllP.appd ?_ ?_ | refine AllP.cons ?_ ?_) | with_reducible rfl | omega | with_reducible assumption | (simp only [rng, Ix.val, addQ_eq, addI, sz3, sz5, sz22, sz23, sz25, sz30, sz31, sz36, sz49] <;> omega) | (simp only [rng, Ix.val, Int.toNat_natCast, mulE_eq, addQ_eq, addI, Option.getD_none, Option.getD_some, List.length_take, List.length_drop, List.length_append, List.length_set, List.length_replicate, sz3, sz5, sz22, sz23, sz25, sz30, sz31, sz36, sz49, *] <;> omega) | (simp only [Ix.val]; with_reducible assumption) | exact UInt8.toNat_lt _ | (apply Eq.trans; (with_reducible assumption); exact rfl) | exact rfl | exact fun _ _ => rfl)) rfl ?_
  rintro v M' ⟨rfl, rfl⟩
  repeat (refine Side.intro (by repeat' (first | (show AllP _; first | exact trivial | refine AllP.app ?_ ?_ | refine AllP.appd ?_ ?_ | refine AllP.cons ?_ ?_) | with_reducible rfl | omega | with_reducible assumption | (simp only [rng, Ix.val, addQ_eq, addI, sz3, sz5, sz22, sz23, sz25, sz30, sz31, sz36, sz49] <;> omega) | (simp only [rng, Ix.val, Int.toNat_natCast, mulE_eq, addQ_eq, addI, Option.getD_none, Option.getD_some, List.length_take, List.length_drop, List.length_append, List.length_set, List.length_replicate, sz3, sz5, sz22, sz23, sz25, sz30, sz31, sz36, sz49, *] <;> omega) | (simp only [Ix.val]; with_reducible assumption) | exact UInt8.toNat_lt _ | (apply Eq.trans; (with_reducible assumption); exact rfl) | exact rfl | exact fun _ _ => rfl)) ?_)
  exact Ret.intro .tt [] [] rfl trivial rfl rfl rfl rfl trivial rfl

theorem cbcLocks_runs (svs : List SV) (h : AllF [isArr8 32, isArr8 16, isSl8 1] svs) : Sx.Fn Γ.P 7 svs [] (fun v _ => v = .tt) := by
  match svs, h with
  | [_, _, _], ⟨⟨key, hk, rfl⟩, ⟨bg, hb, rfl⟩, ⟨n, text, hn, _, rfl⟩, _⟩ => exact fn7 key bg text n hk hb (by omega)

set_option maxRecDepth 100000 in
theorem fn9 (key bg b : List UInt8) (n : Nat) (hk : key.length = 32) (hb : bg.length = 16) (hn : b.length = n) :
    Sx.Fn Γ.P 9 [.a8 key, .a8 bg, .isl 0 n 1 [(n * 1, .a8 b)]] [] (fun v _ => v = .tt) := by
  refine fn_of (Γ := Γ) (fn := Try.f9) rfl rfl rfl rfl ?_
  repeat (refine Side.intro (by repeat' (first | (show AllP _; first | exact trivial | refine AllP.app ?_ ?_ | refine AllP.appd ?_ ?_ | refine AllP.cons ?_ ?_) | with_reducible rfl | omega | with_reducible assumption | (simp only [rng, Ix.val, addQ_eq, addI, sz3, sz5, sz22, sz23, sz25, sz30, sz31, sz36, sz49] <;> omega) | (simp only [rng, Ix.val, Int.toNat_natCast, mulE_eq, addQ_eq, addI, Option.getD_none, Option.getD_some, List.length_take, List.length_drop, List.length_append, List.length_set, List.length_replicate, sz3, sz5, sz22, sz23, sz25, sz30, sz31, sz36, sz49, *] <;> omega) | (simp only [Ix.val]; with_reducible assumption) | exact UInt8.toNat_lt _ | (apply Eq.trans; (with_reducible assumption); exact rfl) | exact rfl | exact fun _ _ => rfl)) ?_)
  refine Call.pure fn19 rfl trivial ?_
  intro v hv
  subst hv
  repeat (refine Side.intro (by repeat' (first | (show AllP _; first | exact trivial | refine AllP.app ?_ ?_ | refine AllP.appd ?_ ?_ | refine AllP.cons ?_ ?_) | with_reducible rfl | omega | with_reducible assumption | (simp only [rng, Ix.val, addQ_eq, addI, sz3, sz5, sz22, sz23, sz25, sz30, sz31, sz36, sz49] <;> omega) | (simp only [rng, Ix.val, Int.toNat_natCast, mulE_eq, addQ_eq, addI, Option.getD_none, Option.getD_some, List.length_take, List.length_drop, List.length_append, List.length_set, List.length_replicate, sz3, sz5, sz22, sz23, sz25, sz30, sz31, sz36, sz49, *] <;> omega) | (simp only [Ix.val]; with_reducible assumption) | exact UInt8.toNat_lt _ | (apply Eq.trans; (with_reducible assumption); exact rfl) | exact rfl | exact fun _ _ => rfl)) ?_)
  refine Branch.intro (fun h => ?_) (fun h => ?_)
  · exact Ret.intro .tt [] [] rfl trivial rfl rfl trivial rfl trivial rfl
  repeat (refine Side.intro (by repeat' (first | (show AllP _; first | exact trivial | refine AllP.app ?_ ?_ | refine AllP.appd ?_ ?_ | refine AllP.cons ?_ ?_) | with_reducible rfl | omega | with_reducible assumption | (simp only [rng, Ix.val, addQ_eq, addI, sz3, sz5, sz22, sz23, sz25, sz30, sz31, sz36, sz49] <;> omega) | (simp only [rng, Ix.val, Int.toNat_natCast, mulE_eq, addQ_eq, addI, Option.getD_none, Option.getD_some, List.length_take, List.length_drop, List.length_append, List.length_set, List.length_replicate, sz3, sz5, sz22, sz23, sz25, sz30, sz31, sz36, sz49, *] <;> omega) | (simp only [Ix.val]; with_reducible assumption) | exact UInt8.toNat_lt _ | (apply Eq.trans; (with_reducible assumption); exact rfl) | exact rfl | exact fun _ _ => rfl)) ?_)
  have hU := fn23 key bg b n hk hb hn (by omega)
  refine Call.name [(0, []), (0, []), (2000, [])] rfl trivial (CallP.intro hU [(1000, (2000, 0, none)), (1001, (1002, 0, none))] rfl (by repeat' (first | (show AllP _; first | exact trivial | refine AllP.app ?_ ?_ | refine AllP.appd ?_ ?_ | refine AllP.cons ?_ ?_) | with_reducible rfl | omega | with_reducible assumption | (simp only [rng, Ix.val, addQ_eq, addI, sz3, sz5, sz22, sz23, sz25, sz30, sz31, sz36, sz49] <;> omega) | (simp only [rng, Ix.val, Int.toNat_natCast, mulE_eq, addQ_eq, addI, Option.getD_none, Option.getD_some, List.length_take, List.length_drop, List.length_append, List.length_set, List.length_replicate, sz3, sz5, sz22, sz23, sz25, sz30, sz31, sz36, sz49, *] <;> omega) | (simp only [Ix.val]; with_reducible assumption) | exact UInt8.toNat_lt _ | (apply Eq.trans; (with_reducible assumption); exact rfl) | exact rfl | exact fun _ _ => rfl)) rfl (by repeat' (first | (show AllP _; first | exact trivial | refine AllP.app ?_ ?_ | refine AllP.appd ?_ ?_ | refine AllP.cons ?_ ?_) | with_reducible rfl | omega | with_reducible assumption | (simp only [rng, Ix.val, addQ_eq, addI, sz3, sz5, sz22, sz23, sz25, sz30, sz31, sz36, sz49] <;> omega) | (simp only [rng, Ix.val, Int.toNat_natCast, mulE_eq, addQ_eq, addI, Option.getD_none, Option.getD_some, List.length_take, List.length_drop, List.length_append, List.length_set, List.length_replicate, sz3, sz5, sz22, sz23, sz25, sz30, sz31, sz36, sz49, *] <;> omega) | (simp only [Ix.val]; with_reducible assumption) | exact UInt8.toNat_lt _ | (apply Eq.trans; (with_reducible assumption); exact rfl) | exact rfl | exact fun _ _ => rfl)) rfl ?_)
  rintro v M' (⟨hnone, rfl, rfl⟩ | ⟨m, s, sp, hs, hm, ht, hmn, hol, rfl, rfl⟩)
  · repeat (refine Side.intro (by repeat' (first | (show AllP _; first | exact trivial | refine AllP.app ?_ ?_ | refine AllP.appd ?_ ?_ | refine AllP.cons ?_ ?_) | with_reducible rfl | omega | with_reducible assumption | (simp only [rng, Ix.val, addQ_eq, addI, sz3, sz5, sz22, sz23, sz25, sz30, sz31, sz36, sz49] <;> omega) | (simp only [rng, Ix.val, Int.toNat_natCast, mulE_eq, addQ_eq, addI, Option.getD_none, Option.getD_some, List.length_take, List.length_drop, List.length_append, List.length_set, List.length_replicate, sz3, sz5, sz22, sz23, sz25, sz30, sz31, sz36, sz49, *] <;> omega) | (simp only [Ix.val]; with_reducible assumption) | exact UInt8.toNat_lt _ | (apply Eq.trans; (with_reducible assumption); exact rfl) | exact rfl | exact fun _ _ => rfl)) ?_)
    exact Ret.intro .tt [] [] rfl trivial rfl rfl rfl rfl trivial rfl
  · have hlock := cbc_un hk hb hs
    have hlen := cbcLock_length key hb s
    rw [hlock, hm] at hlen
    have hR := fn22 key bg s m hk hb hm (by omega)
    rw [hlock] at hR
    repeat (first | (refine Branch.intro (fun _ => ?_) (fun hn => absurd rfl hn)) | (refine Side.intro (by repeat' (first | (show AllP _; first | exact trivial | refine AllP.app ?_ ?_ | refine AllP.appd ?_ ?_ | refine AllP.cons ?_ ?_) | with_reducible rfl | omega | with_reducible assumption | (simp only [rng, Ix.val, addQ_eq, addI, sz3, sz5, sz22, sz23, sz25, sz30, sz31, sz36, sz49] <;> omega) | (simp only [rng, Ix.val, Int.toNat_natCast, mulE_eq, addQ_eq, addI, Option.getD_none, Option.getD_some, List.length_take, List.length_drop, List.length_append, List.length_set, List.length_replicate, sz3, sz5, sz22, sz23, sz25, sz30, sz31, sz36, sz49, *] <;> omega) | (simp only [Ix.val]; with_reducible assumption) | exact UInt8.toNat_lt _ | (apply Eq.trans; (with_reducible assumption); exact rfl) | exact rfl | exact fun _ _ => rfl)) ?_))
    refine Call.intro hR [(1000, (1002, 0, some 0)), (1001, (1003, 0, none))] rfl ?_ rfl ?_ rfl ?_
    · repeat' (first | (show AllP _; first | exact trivial | refine AllP.app ?_ ?_ | refine AllP.appd ?_ ?_ | refine AllP.cons ?_ ?_) | with_reducible rfl | omega | with_reducible assumption | (simp only [rng, Ix.val, addQ_eq, addI, sz3, sz5, sz22, sz23, sz25, sz30, sz31, sz36, sz49] <;> omega) | (simp only [rng, Ix.val, Int.toNat_natCast, mulE_eq, addQ_eq, addI, Option.getD_none, Option.getD_some, List.length_take, List.length_drop, List.length_append, List.length_set, List.length_replicate, sz3, sz5, sz22, sz23, sz25, sz30, sz31, sz36, sz49, *] <;> omega) | (simp only [Ix.val]; with_reducible assumption) | exact UInt8.toNat_lt _ | (apply Eq.trans; (with_reducible assumption); exact rfl) | exact rfl | exact fun _ _ => rfl)
    · repeat' (first | (show AllP _; first | exact trivial | refine AllP.app ?_ ?_ | refine AllP.appd ?_ ?_ | refine AllP.cons ?_ ?_) | with_reducible rfl | omega | with_reducible assumption | (simp only [rng, Ix.val, addQ_eq, addI, sz3, sz5, sz22, sz23, sz25, sz30, sz31, sz36, sz49] <;> omega) | (simp only [rng, Ix.val, Int.toNat_natCast, mulE_eq, addQ_eq, addI, Option.getD_none, Option.getD_some, List.length_take, List.length_drop, List.length_append, List.length_set, List.length_replicate, sz3, sz5, sz22, sz23, sz25, sz30, sz31, sz36, sz49, *] <;> omega) | (simp only [Ix.val]; with_reducible assumption) | exact UInt8.toNat_lt _ | (apply Eq.trans; (with_reducible assumption); exact rfl) | exact rfl | exact fun _ _ => rfl)
      exact ht.symm
    rintro v M' ⟨c2, hc2, rfl, rfl⟩
    have hB := fn20 b b (m / 16 * 16 + 16) n 0 0 (m / 16 * 16 + 16) n (by omega) (by omega) (by omega) (by omega)
    repeat (refine Side.intro (by repeat' (first | (show AllP _; first | exact trivial | refine AllP.app ?_ ?_ | refine AllP.appd ?_ ?_ | refine AllP.cons ?_ ?_) | with_reducible rfl | omega | with_reducible assumption | (simp only [rng, Ix.val, addQ_eq, addI, sz3, sz5, sz22, sz23, sz25, sz30, sz31, sz36, sz49] <;> omega) | (simp only [rng, Ix.val, Int.toNat_natCast, mulE_eq, addQ_eq, addI, Option.getD_none, Option.getD_some, List.length_take, List.length_drop, List.length_append, List.length_set, List.length_replicate, sz3, sz5, sz22, sz23, sz25, sz30, sz31, sz36, sz49, *] <;> omega) | (simp only [Ix.val]; with_reducible assumption) | exact UInt8.toNat_lt _ | (apply Eq.trans; (with_reducible assumption); exact rfl) | exact rfl | exact fun _ _ => rfl)) ?_)
    refine Call.name [(0, []), (2001, [])] rfl trivial (CallP.intro hB [(1000, (1003, 0, none)), (1001, (2001, 0, none))] rfl (by repeat' (first | (show AllP _; first | exact trivial | refine AllP.app ?_ ?_ | refine AllP.appd ?_ ?_ | refine AllP.cons ?_ ?_) | with_reducible rfl | omega | with_reducible assumption | (simp only [rng, Ix.val, addQ_eq, addI, sz3, sz5, sz22, sz23, sz25, sz30, sz31, sz36, sz49] <;> omega) | (simp only [rng, Ix.val, Int.toNat_natCast, mulE_eq, addQ_eq, addI, Option.getD_none, Option.getD_some, List.length_take, List.length_drop, List.length_append, List.length_set, List.length_replicate, sz3, sz5, sz22, sz23, sz25, sz30, sz31, sz36, sz49, *] <;> omega) | (simp only [Ix.val]; with_reducible assumption) | exact UInt8.toNat_lt _ | (apply Eq.trans; (with_reducible assumption); exact rfl) | exact rfl | exact fun _ _ => rfl)) rfl (by repeat' (first | (show AllP _; first | exact trivial | refine AllP.app ?_ ?_ | refine AllP.appd ?_ ?_ | refine AllP.cons ?_ ?_) | with_reducible rfl | omega | with_reducible assumption | (simp only [rng, Ix.val, addQ_eq, addI, sz3, sz5, sz22, sz23, sz25, sz30, sz31, sz36, sz49] <;> omega) | (simp only [rng, Ix.val, Int.toNat_natCast, mulE_eq, addQ_eq, addI, Option.getD_none, Option.getD_some, List.length_take, List.length_drop, List.length_append, List.length_set, List.length_replicate, sz3, sz5, sz22, sz23, sz25, sz30, sz31, sz36, sz49, *] <;> omega) | (simp only [Ix.val]; with_reducible assumption) | exact UInt8.toNat_lt _ | (apply Eq.trans; (with_reducible assumption); exact rfl) | exact rfl | exact fun _ _ => rfl)) rfl ?_)
    rintro v M' ⟨rfl, rfl⟩
    repeat (first | (refine Branch.intro (fun _ => ?_) (fun hn => absurd rfl hn)) | (refine Side.intro (by repeat' (first | (show AllP _; first | exact trivial | refine AllP.app ?_ ?_ | refine AllP.appd ?_ ?_ | refine AllP.cons ?_ ?_) | with_reducible rfl | omega | with_reducible assumption | (simp only [rng, Ix.val, addQ_eq, addI, sz3, sz5, sz22, sz23, sz25, sz30, sz31, sz36, sz49] <;> omega) | (simp only [rng, Ix.val, Int.toNat_natCast, mulE_eq, addQ_eq, addI, Option.getD_none, Option.getD_some, List.length_take, List.length_drop, List.length_append, List.length_set, List.length_replicate, sz3, sz5, sz22, sz23, sz25, sz30, sz31, sz36, sz49, *] <;> omega) | (simp only [Ix.val]; with_reducible assumption) | exact UInt8.toNat_lt _ | (apply Eq.trans; (with_reducible assumption); exact rfl) | exact rfl | exact fun _ _ => rfl)) ?_))
    refine Ret.intro .tt [] [] rfl trivial rfl rfl ?_ rfl trivial rfl
    show List.take (m / 16 * 16 + 16) (List.drop 0 b) = List.take n (List.drop 0 b)
    rw [show m / 16 * 16 + 16 = n by omega]

theorem cbcUnlocks_runs (svs : List SV) (h : AllF [isArr8 32, isArr8 16, isSl8 1] svs) : Sx.Fn Γ.P 9 svs [] (fun v _ => v = .tt) := by
  match svs, h with
  | [_, _, _], ⟨⟨key, hk, rfl⟩, ⟨bg, hb, rfl⟩, ⟨n, text, hn, _, rfl⟩, _⟩ => exact fn9 key bg text n hk hb (by omega)

end Go.Proofs.Ytgfbbmcdbohbhaa
