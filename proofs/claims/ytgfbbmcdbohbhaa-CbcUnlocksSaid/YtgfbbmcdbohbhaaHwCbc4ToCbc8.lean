/- What the functions of the program compute. No condition. -/
import Derived.Test.YtgfbbmcdbohbhaaHwCbc2ToCbc2
import Derived.Test.YtgfbbmcdbohbhaaHx6
set_option linter.unusedSimpArgs false
set_option linter.unusedVariables false
namespace Go.Proofs.Ytgfbbmcdbohbhaa
open Go Go.Sx

/-! What was locked is unlocked as it was: plain. -/

theorem decK_encK {key b : List UInt8} (hk : key.length = 32) (hb : b.length = 16) : decK key (encK key b) = b := by
  unfold decK encK; exact unlock_lock (keysOf_length hk) hb
theorem encK_decK {key b : List UInt8} (hk : key.length = 32) (hb : b.length = 16) : encK key (decK key b) = b := by
  unfold decK encK; exact lock_unlock (keysOf_length hk) hb

def padList (text : List UInt8) (m : Nat) : List UInt8 := (List.range m).map (padAt text)
theorem padList_length (text : List UInt8) (m : Nat) : (padList text m).length = m := by simp [padList]
theorem padList_succ (text : List UInt8) (m : Nat) : padList text (m + 1) = padList text m ++ [padAt text m] := by simp [padList, List.range_succ]
theorem padList_get (text : List UInt8) {m k : Nat} (h : k < m) : (padList text m).getD k 0 = padAt text k := by
  simp [padList, List.getD_eq_getElem?_getD, List.getElem?_range h]

theorem xK_get {last : List UInt8} (hl : last.length = 16) (text : List UInt8) (i : Nat) : ∀ (m j : Nat), j < 16 → m ≤ 16 →
    (xK last text i m).getD j 0 = if j < m then last.getD j 0 ^^^ padAt text (16 * i + j) else last.getD j 0
  | 0, j, _, _ => by rw [if_neg (by omega)]; rfl
  | m + 1, j, hj, hm => by
    have ih := xK_get hl text i m
    have hlen : (xK last text i m).length = 16 := by rw [xK_length, hl]
    simp only [xK]
    rw [List.getD_eq_getElem?_getD, List.getElem?_set]
    by_cases h : m = j
    · subst h
      rw [if_pos rfl, if_pos (by omega), if_pos (by omega), Option.getD_some, ih m hj (by omega), if_neg (by omega)]
    · rw [if_neg h, ← List.getD_eq_getElem?_getD, ih j hj (by omega)]
      by_cases h2 : j < m
      · rw [if_pos h2, if_pos (by omega)]
      · rw [if_neg h2, if_neg (by omega)]

theorem xor_back (a b : UInt8) : a ^^^ b ^^^ a = b := by
  rw [show a ^^^ b ^^^ a = b ^^^ (a ^^^ a) by ac_rfl, UInt8.xor_self, UInt8.xor_zero]

theorem outJ_pad {last : List UInt8} (hl : last.length = 16) (text : List UInt8) (i : Nat) : ∀ j, j ≤ 16 → outJ (padList text (16 * i)) (xK last text i 16) last j = padList text (16 * i + j)
  | 0, _ => rfl
  | j + 1, h => by
    simp only [outJ]
    rw [outJ_pad hl text i j (by omega), xK_get hl text i 16 j (by omega) (Nat.le_refl _), if_pos (by omega), xor_back, ← padList_succ]
    rfl

theorem cbcGo_grow (key bg text : List UInt8) : ∀ (d k : Nat), ∃ r, (cbcGo key bg text (k + d)).2 = (cbcGo key bg text k).2 ++ r
  | 0, k => ⟨[], by simp⟩
  | d + 1, k => by
    obtain ⟨r, hr⟩ := cbcGo_grow key bg text d k
    refine ⟨r ++ (cbcGo key bg text (k + d + 1)).1, ?_⟩
    have e : (cbcGo key bg text (k + (d + 1))).2 = (cbcGo key bg text (k + d)).2 ++ (cbcGo key bg text (k + d + 1)).1 := rfl
    rw [e, hr, List.append_assoc]

theorem blkOf_lock {key bg : List UInt8} (hb : bg.length = 16) (text : List UInt8) {i L : Nat} (h : i < L) : blkOf (cbcGo key bg text L).2 i = (cbcGo key bg text (i + 1)).1 := by
  obtain ⟨r, hr⟩ := cbcGo_grow key bg text (L - (i + 1)) (i + 1)
  rw [show i + 1 + (L - (i + 1)) = L by omega] at hr
  have e : (cbcGo key bg text (i + 1)).2 = (cbcGo key bg text i).2 ++ (cbcGo key bg text (i + 1)).1 := rfl
  have h1 := cbcGo_length1 key hb text (i + 1)
  have h2 := cbcGo_length2 key hb text i
  unfold blkOf
  rw [hr, e, List.append_assoc, ← h2, List.drop_left, ← h1, List.take_left]

theorem unC_lock {key bg : List UInt8} (hk : key.length = 32) (hb : bg.length = 16) (text : List UInt8) {L : Nat} : ∀ i, i ≤ L →
    unC key bg (cbcGo key bg text L).2 i = ((cbcGo key bg text i).1, padList text (16 * i))
  | 0, _ => rfl
  | i + 1, h => by
    have ih := unC_lock hk hb text (L := L) i (by omega)
    have hl := cbcGo_length1 key hb text i
    simp only [unC, ih]
    rw [blkOf_lock hb text (by omega)]
    have e : (cbcGo key bg text (i + 1)).1 = encK key (xK (cbcGo key bg text i).1 text i 16) := rfl
    rw [e, decK_encK hk (by rw [xK_length, hl]), outJ_pad hl text i 16 (Nat.le_refl _)]
    rfl

theorem cbcLock_length (key : List UInt8) {bg : List UInt8} (hb : bg.length = 16) (text : List UInt8) : (cbcLock key bg text).length = 16 * (text.length / 16 + 1) := cbcGo_length2 key hb text _

theorem pad_take (text : List UInt8) {m : Nat} (h : text.length ≤ m) : (padList text m).take text.length = text := by
  apply List.ext_getElem?
  intro k
  rw [List.getElem?_take]
  by_cases hk : k < text.length
  · rw [if_pos hk]
    simp only [padList, List.getElem?_map, List.getElem?_range (show k < m by omega), Option.map_some, padAt, if_pos hk, List.getElem?_eq_getElem hk, List.getD_eq_getElem?_getD, Option.getD_some]
  · rw [if_neg hk, List.getElem?_eq_none (by omega)]

theorem cbc_back {key bg : List UInt8} (hk : key.length = 32) (hb : bg.length = 16) (text : List UInt8) : cbcUnlock key bg (cbcLock key bg text) = some text := by
  have hlen := cbcLock_length key hb text
  have hout : unOut key bg (cbcLock key bg text) = padList text (16 * (text.length / 16 + 1)) := by
    unfold unOut
    rw [hlen, show 16 * (text.length / 16 + 1) / 16 = text.length / 16 + 1 by omega]
    unfold cbcLock
    rw [unC_lock hk hb text _ (Nat.le_refl _)]
  have hpad : ∀ k, text.length ≤ k → (padAt text k).toNat = 16 - text.length % 16 := fun k h => by
    unfold padAt fillOf
    rw [if_neg (by omega), UInt8.toNat_ofNat']
    omega
  have hfill : unFill key bg (cbcLock key bg text) = 16 - text.length % 16 := by
    unfold unFill
    rw [hout, hlen, padList_get _ (by omega), hpad _ (by omega)]
  unfold cbcUnlock
  rw [if_neg (by omega), if_neg (by omega), if_pos, hout, hlen, hfill, show 16 * (text.length / 16 + 1) - (16 - text.length % 16) = text.length by omega, pad_take _ (by omega)]
  intro k hk'
  rw [hfill] at hk' ⊢
  rw [hout, hlen, padList_get _ (by omega), hpad _ (by omega)]

end Go.Proofs.Ytgfbbmcdbohbhaa

namespace Go.Proofs.Ytgfbbmcdbohbhaa
open Go Go.Sx

/-! Another beginning: all but the first 16 bytes come out alike. Plain. -/

theorem outJ_app (p q x last : List UInt8) : ∀ j, outJ (p ++ q) x last j = p ++ outJ q x last j
  | 0 => rfl
  | j + 1 => by simp only [outJ]; rw [outJ_app p q x last j, List.append_assoc]

theorem outJ_drop {l : List UInt8} (h : 16 ≤ l.length) (x last : List UInt8) (j : Nat) : outJ (l.drop 16) x last j = (outJ l x last j).drop 16 := by
  have := outJ_app (l.take 16) (l.drop 16) x last j
  rw [List.take_append_drop] at this
  have e : List.drop 16 (List.take 16 l) = [] := List.drop_of_length_le (by rw [List.length_take]; omega)
  rw [this, List.drop_append_of_le_length (by rw [List.length_take]; omega), e, List.nil_append]

theorem unC_other {key bg other : List UInt8} (hk : key.length = 32) (hb : bg.length = 16) (text : List UInt8) {L : Nat} : ∀ i, i + 1 ≤ L →
    unC key other (cbcGo key bg text L).2 (i + 1) = ((cbcGo key bg text (i + 1)).1, outJ [] (decK key (blkOf (cbcGo key bg text L).2 0)) other 16 ++ (padList text (16 * (i + 1))).drop 16)
  | 0, h => by
    have e : unC key other (cbcGo key bg text L).2 (0 + 1) = (blkOf (cbcGo key bg text L).2 0, outJ [] (decK key (blkOf (cbcGo key bg text L).2 0)) other 16) := rfl
    rw [e, blkOf_lock hb text (by omega), List.drop_of_length_le (by rw [padList_length]; omega), List.append_nil]
  | i + 1, h => by
    have ih := unC_other (other := other) hk hb text (L := L) i (by omega)
    have hl := cbcGo_length1 key hb text (i + 1)
    have e : unC key other (cbcGo key bg text L).2 (i + 1 + 1) = (blkOf (cbcGo key bg text L).2 (i + 1), outJ (unC key other (cbcGo key bg text L).2 (i + 1)).2 (decK key (blkOf (cbcGo key bg text L).2 (i + 1))) (unC key other (cbcGo key bg text L).2 (i + 1)).1 16) := rfl
    rw [e, ih, blkOf_lock hb text (i := i + 1) (by omega)]
    have e1 : (cbcGo key bg text (i + 1 + 1)).1 = encK key (xK (cbcGo key bg text (i + 1)).1 text (i + 1) 16) := rfl
    have e2 : decK key (cbcGo key bg text (i + 1 + 1)).1 = xK (cbcGo key bg text (i + 1)).1 text (i + 1) 16 := by rw [e1, decK_encK hk (by rw [xK_length, hl])]
    simp only [e2]
    rw [outJ_app, outJ_drop (by rw [padList_length]; omega), outJ_pad hl text (i + 1) 16 (Nat.le_refl _)]
    rfl

theorem head_get {h l : List UInt8} (hh : h.length = 16) {k : Nat} (hk : 16 ≤ k) : (h ++ l.drop 16).getD k 0 = l.getD k 0 := by
  simp only [List.getD_eq_getElem?_getD]
  rw [List.getElem?_append_right (by omega), List.getElem?_drop, show 16 + (k - h.length) = k by omega]

theorem cbc_begins {key bg other : List UInt8} (hk : key.length = 32) (hb : bg.length = 16) {text : List UInt8} (ht : 16 ≤ text.length) :
    ∃ h, h.length = 16 ∧ cbcUnlock key other (cbcLock key bg text) = some (h ++ text.drop 16) := by
  have hlen := cbcLock_length key hb text
  refine ⟨outJ [] (decK key (blkOf (cbcLock key bg text) 0)) other 16, by rw [outJ_length]; rfl, ?_⟩
  generalize hh : outJ [] (decK key (blkOf (cbcLock key bg text) 0)) other 16 = h
  have hh16 : h.length = 16 := by rw [← hh, outJ_length]; rfl
  have hout : unOut key other (cbcLock key bg text) = h ++ (padList text (16 * (text.length / 16 + 1))).drop 16 := by
    unfold unOut
    rw [hlen, show 16 * (text.length / 16 + 1) / 16 = text.length / 16 + 1 by omega, ← hh]
    unfold cbcLock
    rw [unC_other hk hb text (L := text.length / 16 + 1) (text.length / 16) (Nat.le_refl _)]
  have hpad : ∀ k, text.length ≤ k → (padAt text k).toNat = 16 - text.length % 16 := fun k h => by
    unfold padAt fillOf
    rw [if_neg (by omega), UInt8.toNat_ofNat']
    omega
  have hfill : unFill key other (cbcLock key bg text) = 16 - text.length % 16 := by
    unfold unFill
    rw [hout, hlen, head_get hh16 (by omega), padList_get _ (by omega), hpad _ (by omega)]
  unfold cbcUnlock
  rw [if_neg (by omega), if_neg (by omega), if_pos, hout, hlen, hfill, show 16 * (text.length / 16 + 1) - (16 - text.length % 16) = text.length by omega]
  · congr 1
    rw [List.take_append, List.take_of_length_le (by omega), hh16]
    congr 1
    have := pad_take text (m := 16 * (text.length / 16 + 1)) (by omega)
    have h2 : (padList text (16 * (text.length / 16 + 1))).take text.length = text := this
    have h3 : List.drop 16 ((padList text (16 * (text.length / 16 + 1))).take text.length) = List.drop 16 text := by rw [h2]
    rw [List.drop_take] at h3
    exact h3
  · intro k hk'
    rw [hfill] at hk' ⊢
    rw [hout, hlen, head_get hh16 (by omega), padList_get _ (by omega), hpad _ (by omega)]

end Go.Proofs.Ytgfbbmcdbohbhaa

namespace Go.Proofs.Ytgfbbmcdbohbhaa
open Go Go.Sx

theorem fn20 (x y : List UInt8) (K L i j n m : Nat) (hx : x.length = K) (hy : y.length = L) (hi : i + n ≤ K) (hj : j + m ≤ L) :
    Sx.Fn Γ.P 20 [.slx 1000 0 i n, .slx 1001 0 j m] [(1000, .mem false 0 [(K, .a8 x)]), (1001, .mem false 0 [(L, .a8 y)])]
      (fun v M => v = .bool ((x.drop i).take n = (y.drop j).take m) ∧ M = [(1000, .mem false 0 [(K, .a8 x)]), (1001, .mem false 0 [(L, .a8 y)])]) := by
  refine fn_of (Γ := Γ) (fn := Try.f20) rfl rfl rfl rfl ?_
  repeat (refine Side.intro (by repeat' (first | (show AllP _; first | exact trivial | refine AllP.app ?_ ?_ | refine AllP.appd ?_ ?_ | refine AllP.cons ?_ ?_) | with_reducible rfl | omega | with_reducible assumption | (simp only [rng, Ix.val, addQ_eq, addI, sz3, sz5, sz22, sz23, sz25, sz36, sz49] <;> omega) | (simp only [rng, Ix.val, Int.toNat_natCast, mulE_eq, addQ_eq, addI, Option.getD_none, Option.getD_some, List.length_take, List.length_drop, List.length_append, List.length_set, List.length_replicate, sz3, sz5, sz22, sz23, sz25, sz36, sz49, *] <;> omega) | (simp only [Ix.val]; with_reducible assumption) | exact UInt8.toNat_lt _ | (apply Eq.trans; (with_reducible assumption); exact rfl) | exact rfl | exact fun _ _ => rfl)) ?_)
  refine Ret.intro (.bool ((x.drop i).take n = (y.drop j).take m)) [(1000, .mem false 0 [(K, .a8 x)]), (1001, .mem false 0 [(L, .a8 y)])] [] rfl (by repeat' (first | (show AllP _; first | exact trivial | refine AllP.app ?_ ?_ | refine AllP.appd ?_ ?_ | refine AllP.cons ?_ ?_) | with_reducible rfl | omega | with_reducible assumption | (simp only [rng, Ix.val, addQ_eq, addI, sz3, sz5, sz22, sz23, sz25, sz36, sz49] <;> omega) | (simp only [rng, Ix.val, Int.toNat_natCast, mulE_eq, addQ_eq, addI, Option.getD_none, Option.getD_some, List.length_take, List.length_drop, List.length_append, List.length_set, List.length_replicate, sz3, sz5, sz22, sz23, sz25, sz36, sz49, *] <;> omega) | (simp only [Ix.val]; with_reducible assumption) | exact UInt8.toNat_lt _ | (apply Eq.trans; (with_reducible assumption); exact rfl) | exact rfl | exact fun _ _ => rfl)) ⟨rfl, rfl⟩ rfl ?_ rfl (by repeat' (first | (show AllP _; first | exact trivial | refine AllP.app ?_ ?_ | refine AllP.appd ?_ ?_ | refine AllP.cons ?_ ?_) | with_reducible rfl | omega | with_reducible assumption | (simp only [rng, Ix.val, addQ_eq, addI, sz3, sz5, sz22, sz23, sz25, sz36, sz49] <;> omega) | (simp only [rng, Ix.val, Int.toNat_natCast, mulE_eq, addQ_eq, addI, Option.getD_none, Option.getD_some, List.length_take, List.length_drop, List.length_append, List.length_set, List.length_replicate, sz3, sz5, sz22, sz23, sz25, sz36, sz49, *] <;> omega) | (simp only [Ix.val]; with_reducible assumption) | exact UInt8.toNat_lt _ | (apply Eq.trans; (with_reducible assumption); exact rfl) | exact rfl | exact fun _ _ => rfl)) rfl
  exact Iff.rfl

/-- The text that alive locks. -/
def aText : List UInt8 := [116, 101, 120, 116]
def aKey : List UInt8 := 1 :: List.replicate 31 0
def aBeg : List UInt8 := 2 :: List.replicate 15 0

set_option maxRecDepth 100000 in
theorem fn19 : Sx.Fn Γ.P 19 [] [] (fun v _ => v = .tt) := by
  refine fn_of (Γ := Γ) (fn := Try.f19) rfl rfl rfl rfl ?_
  repeat (refine Side.intro (by repeat' (first | (show AllP _; first | exact trivial | refine AllP.app ?_ ?_ | refine AllP.appd ?_ ?_ | refine AllP.cons ?_ ?_) | with_reducible rfl | omega | with_reducible assumption | (simp only [rng, Ix.val, addQ_eq, addI, sz3, sz5, sz22, sz23, sz25, sz36, sz49] <;> omega) | (simp only [rng, Ix.val, Int.toNat_natCast, mulE_eq, addQ_eq, addI, Option.getD_none, Option.getD_some, List.length_take, List.length_drop, List.length_append, List.length_set, List.length_replicate, sz3, sz5, sz22, sz23, sz25, sz36, sz49, *] <;> omega) | (simp only [Ix.val]; with_reducible assumption) | exact UInt8.toNat_lt _ | (apply Eq.trans; (with_reducible assumption); exact rfl) | exact rfl | exact fun _ _ => rfl)) ?_)
  have hk : aKey.length = 32 := rfl
  have hb : aBeg.length = 16 := rfl
  have hL := fn21 aKey aBeg aText 4 hk hb rfl (by omega)
  refine Call.intro hL [(1000, (6, 0, none)), (1001, (1001, 0, none))] rfl ⟨rfl, rfl, rfl, rfl⟩ rfl ⟨rfl, rfl⟩ rfl ?_
  rintro v M' ⟨c, hc, rfl, rfl⟩
  have hlen : (cbcLock aKey aBeg aText).length = 16 := cbcLock_length aKey hb aText
  have hU := fn23 aKey aBeg (cbcLock aKey aBeg aText) 16 hk hb hlen (by omega)
  repeat (refine Side.intro (by repeat' (first | (show AllP _; first | exact trivial | refine AllP.app ?_ ?_ | refine AllP.appd ?_ ?_ | refine AllP.cons ?_ ?_) | with_reducible rfl | omega | with_reducible assumption | (simp only [rng, Ix.val, addQ_eq, addI, sz3, sz5, sz22, sz23, sz25, sz36, sz49] <;> omega) | (simp only [rng, Ix.val, Int.toNat_natCast, mulE_eq, addQ_eq, addI, Option.getD_none, Option.getD_some, List.length_take, List.length_drop, List.length_append, List.length_set, List.length_replicate, sz3, sz5, sz22, sz23, sz25, sz36, sz49, *] <;> omega) | (simp only [Ix.val]; with_reducible assumption) | exact UInt8.toNat_lt _ | (apply Eq.trans; (with_reducible assumption); exact rfl) | exact rfl | exact fun _ _ => rfl)) ?_)
  refine Call.intro hU [(1000, (1001, 0, none)), (1001, (1002, 0, none))] rfl ⟨rfl, rfl, rfl, rfl⟩ rfl ⟨rfl, rfl⟩ rfl ?_
  rintro v M' (⟨hn, _⟩ | ⟨m, s, sp, hs, hm, ht, hmn, hol, rfl, rfl⟩)
  · rw [cbc_back hk hb] at hn; cases hn
  rw [cbc_back hk hb] at hs
  obtain rfl : aText = s := by simpa using hs
  obtain rfl : 4 = m := hm
  repeat (first | (refine Branch.intro (fun _ => ?_) (fun hn => absurd rfl hn)) | (refine Side.intro (by repeat' (first | (show AllP _; first | exact trivial | refine AllP.app ?_ ?_ | refine AllP.appd ?_ ?_ | refine AllP.cons ?_ ?_) | with_reducible rfl | omega | with_reducible assumption | (simp only [rng, Ix.val, addQ_eq, addI, sz3, sz5, sz22, sz23, sz25, sz36, sz49] <;> omega) | (simp only [rng, Ix.val, Int.toNat_natCast, mulE_eq, addQ_eq, addI, Option.getD_none, Option.getD_some, List.length_take, List.length_drop, List.length_append, List.length_set, List.length_replicate, sz3, sz5, sz22, sz23, sz25, sz36, sz49, *] <;> omega) | (simp only [Ix.val]; with_reducible assumption) | exact UInt8.toNat_lt _ | (apply Eq.trans; (with_reducible assumption); exact rfl) | exact rfl | exact fun _ _ => rfl)) ?_))
  refine Branch.intro (fun _ => ?_) (fun hn => absurd ht hn)
  repeat (first | (refine Branch.intro (fun _ => ?_) (fun hn => absurd rfl hn)) | (refine Side.intro (by repeat' (first | (show AllP _; first | exact trivial | refine AllP.app ?_ ?_ | refine AllP.appd ?_ ?_ | refine AllP.cons ?_ ?_) | with_reducible rfl | omega | with_reducible assumption | (simp only [rng, Ix.val, addQ_eq, addI, sz3, sz5, sz22, sz23, sz25, sz36, sz49] <;> omega) | (simp only [rng, Ix.val, Int.toNat_natCast, mulE_eq, addQ_eq, addI, Option.getD_none, Option.getD_some, List.length_take, List.length_drop, List.length_append, List.length_set, List.length_replicate, sz3, sz5, sz22, sz23, sz25, sz36, sz49, *] <;> omega) | (simp only [Ix.val]; with_reducible assumption) | exact UInt8.toNat_lt _ | (apply Eq.trans; (with_reducible assumption); exact rfl) | exact rfl | exact fun _ _ => rfl)) ?_))
  have h15 := fn24 15
  have h16 := fn24 16
  rw [show sizeF 15 = 16 from rfl] at h15
  rw [show sizeF 16 = 32 from rfl] at h16
  refine Call.pure h15 rfl (by repeat' (first | (show AllP _; first | exact trivial | refine AllP.app ?_ ?_ | refine AllP.appd ?_ ?_ | refine AllP.cons ?_ ?_) | with_reducible rfl | omega | with_reducible assumption | (simp only [rng, Ix.val, addQ_eq, addI, sz3, sz5, sz22, sz23, sz25, sz36, sz49] <;> omega) | (simp only [rng, Ix.val, Int.toNat_natCast, mulE_eq, addQ_eq, addI, Option.getD_none, Option.getD_some, List.length_take, List.length_drop, List.length_append, List.length_set, List.length_replicate, sz3, sz5, sz22, sz23, sz25, sz36, sz49, *] <;> omega) | (simp only [Ix.val]; with_reducible assumption) | exact UInt8.toNat_lt _ | (apply Eq.trans; (with_reducible assumption); exact rfl) | exact rfl | exact fun _ _ => rfl)) ?_
  intro v hv
  subst hv
  repeat (first | (refine Branch.intro (fun _ => ?_) (fun hn => absurd rfl hn)) | (refine Side.intro (by repeat' (first | (show AllP _; first | exact trivial | refine AllP.app ?_ ?_ | refine AllP.appd ?_ ?_ | refine AllP.cons ?_ ?_) | with_reducible rfl | omega | with_reducible assumption | (simp only [rng, Ix.val, addQ_eq, addI, sz3, sz5, sz22, sz23, sz25, sz36, sz49] <;> omega) | (simp only [rng, Ix.val, Int.toNat_natCast, mulE_eq, addQ_eq, addI, Option.getD_none, Option.getD_some, List.length_take, List.length_drop, List.length_append, List.length_set, List.length_replicate, sz3, sz5, sz22, sz23, sz25, sz36, sz49, *] <;> omega) | (simp only [Ix.val]; with_reducible assumption) | exact UInt8.toNat_lt _ | (apply Eq.trans; (with_reducible assumption); exact rfl) | exact rfl | exact fun _ _ => rfl)) ?_))
  refine Call.pure h16 rfl (by repeat' (first | (show AllP _; first | exact trivial | refine AllP.app ?_ ?_ | refine AllP.appd ?_ ?_ | refine AllP.cons ?_ ?_) | with_reducible rfl | omega | with_reducible assumption | (simp only [rng, Ix.val, addQ_eq, addI, sz3, sz5, sz22, sz23, sz25, sz36, sz49] <;> omega) | (simp only [rng, Ix.val, Int.toNat_natCast, mulE_eq, addQ_eq, addI, Option.getD_none, Option.getD_some, List.length_take, List.length_drop, List.length_append, List.length_set, List.length_replicate, sz3, sz5, sz22, sz23, sz25, sz36, sz49, *] <;> omega) | (simp only [Ix.val]; with_reducible assumption) | exact UInt8.toNat_lt _ | (apply Eq.trans; (with_reducible assumption); exact rfl) | exact rfl | exact fun _ _ => rfl)) ?_
  intro v hv
  subst hv
  repeat (first | (refine Branch.intro (fun _ => ?_) (fun hn => absurd rfl hn)) | (refine Side.intro (by repeat' (first | (show AllP _; first | exact trivial | refine AllP.app ?_ ?_ | refine AllP.appd ?_ ?_ | refine AllP.cons ?_ ?_) | with_reducible rfl | omega | with_reducible assumption | (simp only [rng, Ix.val, addQ_eq, addI, sz3, sz5, sz22, sz23, sz25, sz36, sz49] <;> omega) | (simp only [rng, Ix.val, Int.toNat_natCast, mulE_eq, addQ_eq, addI, Option.getD_none, Option.getD_some, List.length_take, List.length_drop, List.length_append, List.length_set, List.length_replicate, sz3, sz5, sz22, sz23, sz25, sz36, sz49, *] <;> omega) | (simp only [Ix.val]; with_reducible assumption) | exact UInt8.toNat_lt _ | (apply Eq.trans; (with_reducible assumption); exact rfl) | exact rfl | exact fun _ _ => rfl)) ?_))
  exact Ret.intro .tt [] [] rfl trivial rfl rfl rfl rfl trivial rfl

set_option maxRecDepth 100000 in
theorem fn11 (n : Int) : Sx.Fn Γ.P 11 [.i .i64 n] [] (fun v _ => v = .tt) := by
  refine fn_of (Γ := Γ) (fn := Try.f11) rfl rfl rfl rfl ?_
  refine Call.pure fn19 rfl trivial ?_
  intro v hv
  subst hv
  have hS := fn24 n
  refine Call.pure hS rfl (by repeat' (first | (show AllP _; first | exact trivial | refine AllP.app ?_ ?_ | refine AllP.appd ?_ ?_ | refine AllP.cons ?_ ?_) | with_reducible rfl | omega | with_reducible assumption | (simp only [rng, Ix.val, addQ_eq, addI, sz3, sz5, sz22, sz23, sz25, sz36, sz49] <;> omega) | (simp only [rng, Ix.val, Int.toNat_natCast, mulE_eq, addQ_eq, addI, Option.getD_none, Option.getD_some, List.length_take, List.length_drop, List.length_append, List.length_set, List.length_replicate, sz3, sz5, sz22, sz23, sz25, sz36, sz49, *] <;> omega) | (simp only [Ix.val]; with_reducible assumption) | exact UInt8.toNat_lt _ | (apply Eq.trans; (with_reducible assumption); exact rfl) | exact rfl | exact fun _ _ => rfl)) ?_
  intro v hv
  subst hv
  refine Branch.intro (fun h => ?_) (fun h => ?_)
  · exact Ret.intro .tt [] [] rfl trivial rfl rfl (sizeF_bad (Or.inl h)) rfl trivial rfl
  refine Branch.intro (fun h' => ?_) (fun h' => ?_)
  · exact Ret.intro .tt [] [] rfl trivial rfl rfl (sizeF_bad (Or.inr h')) rfl trivial rfl
  have hF := sizeF_ok h h'
  refine Branch.intro (fun h3 => ?_) (fun h3 => absurd (by rw [hF]; omega) h3)
  repeat (refine Side.intro (by repeat' (first | (show AllP _; first | exact trivial | refine AllP.app ?_ ?_ | refine AllP.appd ?_ ?_ | refine AllP.cons ?_ ?_) | with_reducible rfl | omega | with_reducible assumption | (simp only [rng, Ix.val, addQ_eq, addI, sz3, sz5, sz22, sz23, sz25, sz36, sz49] <;> omega) | (simp only [rng, Ix.val, Int.toNat_natCast, mulE_eq, addQ_eq, addI, Option.getD_none, Option.getD_some, List.length_take, List.length_drop, List.length_append, List.length_set, List.length_replicate, sz3, sz5, sz22, sz23, sz25, sz36, sz49, *] <;> omega) | (simp only [Ix.val]; with_reducible assumption) | exact UInt8.toNat_lt _ | (apply Eq.trans; (with_reducible assumption); exact rfl) | exact rfl | exact fun _ _ => rfl)) ?_)
  refine Branch.intro (fun h4 => ?_) (fun h4 => ?_)
  · repeat (refine Side.intro (by repeat' (first | (show AllP _; first | exact trivial | refine AllP.app ?_ ?_ | refine AllP.appd ?_ ?_ | refine AllP.cons ?_ ?_) | with_reducible rfl | omega | with_reducible assumption | (simp only [rng, Ix.val, addQ_eq, addI, sz3, sz5, sz22, sz23, sz25, sz36, sz49] <;> omega) | (simp only [rng, Ix.val, Int.toNat_natCast, mulE_eq, addQ_eq, addI, Option.getD_none, Option.getD_some, List.length_take, List.length_drop, List.length_append, List.length_set, List.length_replicate, sz3, sz5, sz22, sz23, sz25, sz36, sz49, *] <;> omega) | (simp only [Ix.val]; with_reducible assumption) | exact UInt8.toNat_lt _ | (apply Eq.trans; (with_reducible assumption); exact rfl) | exact rfl | exact fun _ _ => rfl)) ?_)
    exact Ret.intro .tt [] [] rfl trivial rfl rfl (show sizeF n - 16 ≤ n by rw [hF]; omega) rfl trivial rfl
  · exact absurd (show sizeF n % 16 = 0 by rw [hF]; omega) h4

set_option maxRecDepth 100000 in
theorem cbcSizes_runs (svs : List SV) (h : AllF [isInt .i64] svs) : Sx.Fn Γ.P 11 svs [] (fun v _ => v = .tt) := by
  cases svs with
  | nil => exact False.elim h
  | cons x r =>
    cases r with
    | cons y r => exact False.elim h.2
    | nil =>
      have h1 : isInt .i64 x := h.1
      have h2 : ∃ n : Int, x = .i .i64 n := Exists.elim h1 fun n hn => Exists.intro n hn.2
      cases h2 with
      | intro n e =>
        rw [e]
        exact fn11 n

end Go.Proofs.Ytgfbbmcdbohbhaa

namespace Go.Proofs.Ytgfbbmcdbohbhaa
open Go Go.Sx

set_option maxRecDepth 100000 in
theorem fn12 (key bg other text : List UInt8) (n : Nat) (hk : key.length = 32) (hb : bg.length = 16) (ho : other.length = 16) (hn : text.length = n) :
    Sx.Fn Γ.P 12 [.a8 key, .a8 bg, .a8 other, .isl 0 n 1 [(n * 1, .a8 text)]] [] (fun v _ => v = .tt) := by
  refine fn_of (Γ := Γ) (fn := Try.f12) rfl rfl rfl rfl ?_
  repeat (refine Side.intro (by repeat' (first | (show AllP _; first | exact trivial | refine AllP.app ?_ ?_ | refine AllP.appd ?_ ?_ | refine AllP.cons ?_ ?_) | with_reducible rfl | omega | with_reducible assumption | (simp only [rng, Ix.val, addQ_eq, addI, sz3, sz5, sz22, sz23, sz25, sz36, sz49] <;> omega) | (simp only [rng, Ix.val, Int.toNat_natCast, mulE_eq, addQ_eq, addI, Option.getD_none, Option.getD_some, List.length_take, List.length_drop, List.length_append, List.length_set, List.length_replicate, sz3, sz5, sz22, sz23, sz25, sz36, sz49, *] <;> omega) | (simp only [Ix.val]; with_reducible assumption) | exact UInt8.toNat_lt _ | (apply Eq.trans; (with_reducible assumption); exact rfl) | exact rfl | exact fun _ _ => rfl)) ?_)
  refine Call.pure fn19 rfl trivial ?_
  intro v hv
  subst hv
  repeat (refine Side.intro (by repeat' (first | (show AllP _; first | exact trivial | refine AllP.app ?_ ?_ | refine AllP.appd ?_ ?_ | refine AllP.cons ?_ ?_) | with_reducible rfl | omega | with_reducible assumption | (simp only [rng, Ix.val, addQ_eq, addI, sz3, sz5, sz22, sz23, sz25, sz36, sz49] <;> omega) | (simp only [rng, Ix.val, Int.toNat_natCast, mulE_eq, addQ_eq, addI, Option.getD_none, Option.getD_some, List.length_take, List.length_drop, List.length_append, List.length_set, List.length_replicate, sz3, sz5, sz22, sz23, sz25, sz36, sz49, *] <;> omega) | (simp only [Ix.val]; with_reducible assumption) | exact UInt8.toNat_lt _ | (apply Eq.trans; (with_reducible assumption); exact rfl) | exact rfl | exact fun _ _ => rfl)) ?_)
  refine Branch.intro (fun h => ?_) (fun h => ?_)
  · exact Ret.intro .tt [] [] rfl trivial rfl rfl trivial rfl trivial rfl
  repeat (refine Side.intro (by repeat' (first | (show AllP _; first | exact trivial | refine AllP.app ?_ ?_ | refine AllP.appd ?_ ?_ | refine AllP.cons ?_ ?_) | with_reducible rfl | omega | with_reducible assumption | (simp only [rng, Ix.val, addQ_eq, addI, sz3, sz5, sz22, sz23, sz25, sz36, sz49] <;> omega) | (simp only [rng, Ix.val, Int.toNat_natCast, mulE_eq, addQ_eq, addI, Option.getD_none, Option.getD_some, List.length_take, List.length_drop, List.length_append, List.length_set, List.length_replicate, sz3, sz5, sz22, sz23, sz25, sz36, sz49, *] <;> omega) | (simp only [Ix.val]; with_reducible assumption) | exact UInt8.toNat_lt _ | (apply Eq.trans; (with_reducible assumption); exact rfl) | exact rfl | exact fun _ _ => rfl)) ?_)
  refine Branch.intro (fun h' => ?_) (fun h' => ?_)
  · exact Ret.intro .tt [] [] rfl trivial rfl rfl trivial rfl trivial rfl
  refine Draw.intro [[], [], [], [], [], [2, 3, 4], [0, 1, 2, 3, 4, 5], [0, 1, 2, 3, 4, 5, 6], [0, 1, 2, 3, 4, 5, 6, 7], [0, 1, 2, 3, 4, 5, 6, 7], [0, 1, 2, 3, 4, 5, 6, 7, 8], [0, 1, 2, 3, 4, 5, 6, 7, 8, 9, 10]] [0, 1, 2, 3, 4, 5, 6, 7, 8, 9, 10, 11] (by kernel_rfl) ?_
  repeat (refine Side.intro (by repeat' (first | (show AllP _; first | exact trivial | refine AllP.app ?_ ?_ | refine AllP.appd ?_ ?_ | refine AllP.cons ?_ ?_) | with_reducible rfl | omega | with_reducible assumption | (simp only [rng, Ix.val, addQ_eq, addI, sz3, sz5, sz22, sz23, sz25, sz36, sz49] <;> omega) | (simp only [rng, Ix.val, Int.toNat_natCast, mulE_eq, addQ_eq, addI, Option.getD_none, Option.getD_some, List.length_take, List.length_drop, List.length_append, List.length_set, List.length_replicate, sz3, sz5, sz22, sz23, sz25, sz36, sz49, *] <;> omega) | (simp only [Ix.val]; with_reducible assumption) | exact UInt8.toNat_lt _ | (apply Eq.trans; (with_reducible assumption); exact rfl) | exact rfl | exact fun _ _ => rfl)) ?_)
  have hL := fn21 key bg text n hk hb hn (by omega)
  refine Call.name [(0, []), (0, []), (2000, [])] rfl trivial (CallP.intro hL [(1000, (2000, 0, none)), (1001, (1001, 0, none))] rfl (by repeat' (first | (show AllP _; first | exact trivial | refine AllP.app ?_ ?_ | refine AllP.appd ?_ ?_ | refine AllP.cons ?_ ?_) | with_reducible rfl | omega | with_reducible assumption | (simp only [rng, Ix.val, addQ_eq, addI, sz3, sz5, sz22, sz23, sz25, sz36, sz49] <;> omega) | (simp only [rng, Ix.val, Int.toNat_natCast, mulE_eq, addQ_eq, addI, Option.getD_none, Option.getD_some, List.length_take, List.length_drop, List.length_append, List.length_set, List.length_replicate, sz3, sz5, sz22, sz23, sz25, sz36, sz49, *] <;> omega) | (simp only [Ix.val]; with_reducible assumption) | exact UInt8.toNat_lt _ | (apply Eq.trans; (with_reducible assumption); exact rfl) | exact rfl | exact fun _ _ => rfl)) rfl (by repeat' (first | (show AllP _; first | exact trivial | refine AllP.app ?_ ?_ | refine AllP.appd ?_ ?_ | refine AllP.cons ?_ ?_) | with_reducible rfl | omega | with_reducible assumption | (simp only [rng, Ix.val, addQ_eq, addI, sz3, sz5, sz22, sz23, sz25, sz36, sz49] <;> omega) | (simp only [rng, Ix.val, Int.toNat_natCast, mulE_eq, addQ_eq, addI, Option.getD_none, Option.getD_some, List.length_take, List.length_drop, List.length_append, List.length_set, List.length_replicate, sz3, sz5, sz22, sz23, sz25, sz36, sz49, *] <;> omega) | (simp only [Ix.val]; with_reducible assumption) | exact UInt8.toNat_lt _ | (apply Eq.trans; (with_reducible assumption); exact rfl) | exact rfl | exact fun _ _ => rfl)) rfl ?_)
  rintro v M' ⟨c, hc, rfl, rfl⟩
  have hlen := cbcLock_length key hb text
  have hU := fn23 key other (cbcLock key bg text) (n / 16 * 16 + 16) hk ho (by omega) (by omega)
  refine Grow.intro [(1001, .mem true (c - (n / 16 * 16 + 16)) [(n / 16 * 16 + 16, .a8 (cbcLock key bg text))]), (2000, .mem false 1 [(n * 1, .a8 text)])] rfl rfl ?_
  refine Call.intro hU [(1000, (1001, 0, none)), (1001, (1002, 0, none))] rfl (by repeat' (first | (show AllP _; first | exact trivial | refine AllP.app ?_ ?_ | refine AllP.appd ?_ ?_ | refine AllP.cons ?_ ?_) | with_reducible rfl | omega | with_reducible assumption | (simp only [rng, Ix.val, addQ_eq, addI, sz3, sz5, sz22, sz23, sz25, sz36, sz49] <;> omega) | (simp only [rng, Ix.val, Int.toNat_natCast, mulE_eq, addQ_eq, addI, Option.getD_none, Option.getD_some, List.length_take, List.length_drop, List.length_append, List.length_set, List.length_replicate, sz3, sz5, sz22, sz23, sz25, sz36, sz49, *] <;> omega) | (simp only [Ix.val]; with_reducible assumption) | exact UInt8.toNat_lt _ | (apply Eq.trans; (with_reducible assumption); exact rfl) | exact rfl | exact fun _ _ => rfl)) rfl (by repeat' (first | (show AllP _; first | exact trivial | refine AllP.app ?_ ?_ | refine AllP.appd ?_ ?_ | refine AllP.cons ?_ ?_) | with_reducible rfl | omega | with_reducible assumption | (simp only [rng, Ix.val, addQ_eq, addI, sz3, sz5, sz22, sz23, sz25, sz36, sz49] <;> omega) | (simp only [rng, Ix.val, Int.toNat_natCast, mulE_eq, addQ_eq, addI, Option.getD_none, Option.getD_some, List.length_take, List.length_drop, List.length_append, List.length_set, List.length_replicate, sz3, sz5, sz22, sz23, sz25, sz36, sz49, *] <;> omega) | (simp only [Ix.val]; with_reducible assumption) | exact UInt8.toNat_lt _ | (apply Eq.trans; (with_reducible assumption); exact rfl) | exact rfl | exact fun _ _ => rfl)) rfl ?_
  obtain ⟨hd, hd16, hbeg⟩ := cbc_begins (other := other) hk hb (text := text) (by omega)
  rintro v M' (⟨hnone, _⟩ | ⟨m, s, sp, hs, hm, ht, hmn, hol, rfl, rfl⟩)
  · rw [hbeg] at hnone; cases hnone
  rw [hbeg] at hs
  have hs' : hd ++ text.drop 16 = s := by simpa using hs
  subst hs'
  have hmn' : n = m := by rw [← hm, List.length_append, List.length_drop]; omega
  subst hmn'
  have hB := fn20 (unOut key other (cbcLock key bg text)) text (n / 16 * 16 + 16) n 16 16 (n - 16) (n - 16) hol hn (by omega) (by omega)
  have hsame : List.take (n - 16) (List.drop 16 (unOut key other (cbcLock key bg text))) = List.take (n - 16) (List.drop 16 text) := by
    have h3 : List.drop 16 (List.take n (unOut key other (cbcLock key bg text))) = List.drop 16 (hd ++ text.drop 16) := by rw [ht]
    have e : List.drop 16 hd = [] := List.drop_of_length_le (by omega)
    rw [List.drop_take, List.drop_append_of_le_length (by omega), e, List.nil_append] at h3
    rw [h3, List.take_of_length_le (by rw [List.length_drop]; omega)]
  rw [hsame] at hB
  repeat (refine Side.intro (by repeat' (first | (show AllP _; first | exact trivial | refine AllP.app ?_ ?_ | refine AllP.appd ?_ ?_ | refine AllP.cons ?_ ?_) | with_reducible rfl | omega | with_reducible assumption | (simp only [rng, Ix.val, addQ_eq, addI, sz3, sz5, sz22, sz23, sz25, sz36, sz49] <;> omega) | (simp only [rng, Ix.val, Int.toNat_natCast, mulE_eq, addQ_eq, addI, Option.getD_none, Option.getD_some, List.length_take, List.length_drop, List.length_append, List.length_set, List.length_replicate, sz3, sz5, sz22, sz23, sz25, sz36, sz49, *] <;> omega) | (simp only [Ix.val]; with_reducible assumption) | exact UInt8.toNat_lt _ | (apply Eq.trans; (with_reducible assumption); exact rfl) | exact rfl | exact fun _ _ => rfl)) ?_)
  refine Draw.intro [[], [0], [0, 1], [0, 1, 2], [0, 1], [0, 1, 4], [0, 1, 2, 3, 4, 5], [0, 1, 2, 3, 4, 5, 6], [0, 1, 2, 3, 4, 5, 6, 7], [0, 1, 2, 3, 4, 5, 6, 7, 8], [0, 1, 2, 3, 4, 5, 6, 7, 8, 9], [0, 1, 2, 3, 4, 5, 6, 7, 8], [0, 1, 2, 3, 4, 5, 6, 7, 8, 11], [0, 1, 2, 3, 4, 5, 6, 7, 8, 9, 10, 11, 12], [0, 1, 2, 3, 4, 5, 6, 7, 8, 9, 10, 11, 12, 13], [0, 1, 2, 3, 4, 5, 6, 7, 8, 9, 10, 11, 12, 13, 14]] [0, 1, 2, 3, 4, 5, 6, 7, 8, 9, 10, 11, 12, 13, 14, 15] (by kernel_rfl) ?_
  repeat (first | (refine Branch.intro (fun _ => ?_) (fun hn => absurd rfl hn)) | (refine Side.intro (by repeat' (first | (show AllP _; first | exact trivial | refine AllP.app ?_ ?_ | refine AllP.appd ?_ ?_ | refine AllP.cons ?_ ?_) | with_reducible rfl | omega | with_reducible assumption | (simp only [rng, Ix.val, addQ_eq, addI, sz3, sz5, sz22, sz23, sz25, sz36, sz49] <;> omega) | (simp only [rng, Ix.val, Int.toNat_natCast, mulE_eq, addQ_eq, addI, Option.getD_none, Option.getD_some, List.length_take, List.length_drop, List.length_append, List.length_set, List.length_replicate, sz3, sz5, sz22, sz23, sz25, sz36, sz49, *] <;> omega) | (simp only [Ix.val]; with_reducible assumption) | exact UInt8.toNat_lt _ | (apply Eq.trans; (with_reducible assumption); exact rfl) | exact rfl | exact fun _ _ => rfl)) ?_))
  refine Call.name [(0, []), (2001, [])] rfl trivial (CallP.intro hB [(1000, (1002, 0, none)), (1001, (2001, 0, none))] rfl ⟨rfl, rfl, rfl, rfl⟩ rfl (by repeat' (first | (show AllP _; first | exact trivial | refine AllP.app ?_ ?_ | refine AllP.appd ?_ ?_ | refine AllP.cons ?_ ?_) | with_reducible rfl | omega | with_reducible assumption | (simp only [rng, Ix.val, addQ_eq, addI, sz3, sz5, sz22, sz23, sz25, sz36, sz49] <;> omega) | (simp only [rng, Ix.val, Int.toNat_natCast, mulE_eq, addQ_eq, addI, Option.getD_none, Option.getD_some, List.length_take, List.length_drop, List.length_append, List.length_set, List.length_replicate, sz3, sz5, sz22, sz23, sz25, sz36, sz49, *] <;> omega) | (simp only [Ix.val]; with_reducible assumption) | exact UInt8.toNat_lt _ | (apply Eq.trans; (with_reducible assumption); exact rfl) | exact rfl | exact fun _ _ => rfl)) rfl ?_)
  rintro v M' ⟨rfl, rfl⟩
  repeat (first | (refine Branch.intro (fun _ => ?_) (fun hn => absurd rfl hn)) | (refine Side.intro (by repeat' (first | (show AllP _; first | exact trivial | refine AllP.app ?_ ?_ | refine AllP.appd ?_ ?_ | refine AllP.cons ?_ ?_) | with_reducible rfl | omega | with_reducible assumption | (simp only [rng, Ix.val, addQ_eq, addI, sz3, sz5, sz22, sz23, sz25, sz36, sz49] <;> omega) | (simp only [rng, Ix.val, Int.toNat_natCast, mulE_eq, addQ_eq, addI, Option.getD_none, Option.getD_some, List.length_take, List.length_drop, List.length_append, List.length_set, List.length_replicate, sz3, sz5, sz22, sz23, sz25, sz36, sz49, *] <;> omega) | (simp only [Ix.val]; with_reducible assumption) | exact UInt8.toNat_lt _ | (apply Eq.trans; (with_reducible assumption); exact rfl) | exact rfl | exact fun _ _ => rfl)) ?_))
  exact Ret.intro .tt [] [] rfl trivial rfl rfl (Or.inl ⟨rfl, rfl⟩) rfl trivial rfl

theorem cbcBegins_runs (svs : List SV) (h : AllF [isArr8 32, isArr8 16, isArr8 16, isSl8 1] svs) : Sx.Fn Γ.P 12 svs [] (fun v _ => v = .tt) := by
  match svs, h with
  | [_, _, _, _], ⟨⟨key, hk, rfl⟩, ⟨bg, hb, rfl⟩, ⟨other, ho, rfl⟩, ⟨n, text, hn, _, rfl⟩, _⟩ => exact fn12 key bg other text n hk hb ho (by omega)

end Go.Proofs.Ytgfbbmcdbohbhaa
