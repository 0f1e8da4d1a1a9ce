/- What the functions of the program compute. No condition. -/
import Derived.Test.YtoaaplgjacjlpaaHwTm15ToTm15
set_option linter.unusedSimpArgs false
set_option linter.unusedVariables false
namespace Go.Proofs.Ytoaaplgjacjlpaa
open Go Go.Sx

/-! The document's rounds, plainly. -/

structure RfI (T : List Te) (S : List (List UInt8)) (n m : Nat) (K D : Nat → Prop) : Prop where
  ks : ∀ z, K z → KnP T S z
  ds : ∀ z, D z → TdP T S z
  sn : ∀ z, tdF S n m z → D z
/-- The rule of a term holds. -/
structure Rule (T : List Te) (K D : Nat → Prop) (q : Nat) : Prop where
  told : D (q + 1) → K (q + 1)
  made : mdP K q (T.getD q te0).1 (T.getD q te0).2 → K (q + 1)
  opens : (T.getD q te0).1 = 8 → D (q + 1) → 1 < (T.getD q te0).2.length → AllK K (nmJ q (T.getD q te0).2 0) → AllK D (nmJ q (T.getD q te0).2 1)
structure RoI (T : List Te) (S : List (List UInt8)) (n m q0 : Nat) (K D K' D' : Nat → Prop) (ag : Prop) : Prop where
  rf : RfI T S n m K' D'
  kk : ∀ z, K z → K' z
  dd : ∀ z, D z → D' z
  same : ¬ ag → (∀ z, K' z → K z) ∧ (∀ z, D' z → D z) ∧ ∀ q, q < q0 → Rule T K D q
  less : ag → cntN K' n + cntN D' n < cntN K n + cntN D n

theorem RoI.begin {T : List Te} {S : List (List UInt8)} {n m : Nat} {K D : Nat → Prop} (h : RfI T S n m K D) : RoI T S n m 0 K D K D False :=
  ⟨h, fun _ h => h, fun _ h => h, fun _ => ⟨fun _ h => h, fun _ h => h, fun q hq => absurd hq (Nat.not_lt_zero _)⟩, False.elim⟩
/-- A term is known now. -/
theorem RoI.know {T : List Te} {S : List (List UInt8)} {n m q : Nat} {K D K' D' : Nat → Prop} {ag : Prop} (h : RoI T S n m q K D K' D' ag) (hT : T.length = n) (hq : q < n)
    (hp : D' (q + 1) ∨ mdP K' q (T.getD q te0).1 (T.getD q te0).2) (hk : ¬ K' (q + 1)) : RoI T S n m q K D (fun z => z = q + 1 ∨ K' z) D' True where
  rf := ⟨fun z hz => by
      rcases hz with rfl | hz
      · rcases hp with hp | hp
        · exact (KnP_closed T S).told q (by omega) (h.rf.ds _ hp)
        · exact (KnP_closed T S).made q (by omega) (mdP_mono (fun z _ hz => h.rf.ks z hz) hp)
      · exact h.rf.ks z hz, h.rf.ds, h.rf.sn⟩
  kk := fun z hz => Or.inr (h.kk z hz)
  dd := h.dd
  same := fun ha => absurd trivial ha
  less := fun _ => by
    have h1 := cntN_lt (O := K') (O' := fun z => z = q + 1 ∨ K' z) (fun z hz => Or.inr hz) hk (Or.inl rfl) n hq
    have h2 := cntN_le h.kk n
    have h3 := cntN_le h.dd n
    omega
/-- Nothing is opened. -/
theorem RoI.pass {T : List Te} {S : List (List UInt8)} {n m q : Nat} {K D K1 K' D' : Nat → Prop} {ag : Prop} (h : RoI T S n m q K D K' D' ag) (h1 : ∀ z, K z → K1 z)
    (hp : (D' (q + 1) ∨ mdP K1 q (T.getD q te0).1 (T.getD q te0).2) → K' (q + 1))
    (hn : ¬ ((T.getD q te0).1 = 8 ∧ D' (q + 1) ∧ 1 < (T.getD q te0).2.length ∧ AllK K' (nmJ q (T.getD q te0).2 0))) : RoI T S n m (q + 1) K D K' D' ag where
  rf := h.rf
  kk := h.kk
  dd := h.dd
  less := h.less
  same := fun ha => ⟨(h.same ha).1, (h.same ha).2.1, fun j hj => by
    rcases Nat.lt_or_ge j q with hjq | hjq
    · exact (h.same ha).2.2 j hjq
    · obtain rfl : j = q := by omega
      exact ⟨fun hd => (h.same ha).1 _ (hp (Or.inl (h.dd _ hd))), fun hm => (h.same ha).1 _ (hp (Or.inr (mdP_mono (fun z _ hz => h1 z hz) hm))),
        fun h8 hd hl hk => absurd ⟨h8, h.dd _ hd, hl, hk.mono fun z _ hz => h.kk z hz⟩ hn⟩⟩
/-- A sealed term is opened. -/
theorem RoI.opens {T : List Te} {S : List (List UInt8)} {n m q : Nat} {K D K1 K' D' D2 : Nat → Prop} {ag ag2 : Prop} (h : RoI T S n m q K D K' D' ag) (hT : T.length = n) (hq : q < n) (h1 : ∀ z, K z → K1 z)
    (hp : (D' (q + 1) ∨ mdP K1 q (T.getD q te0).1 (T.getD q te0).2) → K' (q + 1))
    (h8 : (T.getD q te0).1 = 8) (hd : D' (q + 1)) (hl : 1 < (T.getD q te0).2.length) (hk : AllK K' (nmJ q (T.getD q te0).2 0))
    (hD2 : ∀ z, D2 z ↔ (D' z ∨ z ∈ nmJ q (T.getD q te0).2 1)) (ha : ¬ ag2 → ¬ ag ∧ ∀ z, D2 z → D' z) (hb : ag2 → ag ∨ cntN D2 n < cntN D' n) : RoI T S n m (q + 1) K D K' D2 ag2 where
  rf := ⟨h.rf.ks, fun z hz => by
      rcases (hD2 z).1 hz with h1 | h2
      · exact h.rf.ds z h1
      · exact (KnP_closed T S).opens q (by omega) h8 (h.rf.ds _ hd) hl (hk.mono fun z _ hz => h.rf.ks z hz) z h2,
    fun z hz => (hD2 z).2 (Or.inl (h.rf.sn z hz))⟩
  kk := h.kk
  dd := fun z hz => (hD2 z).2 (Or.inl (h.dd z hz))
  less := fun h2 => by
    have hle := cntN_le (O := D') (O' := D2) (fun z hz => (hD2 z).2 (Or.inl hz)) n
    have h3 := cntN_le h.kk n
    have h4 := cntN_le h.dd n
    rcases hb h2 with h5 | h5
    · have := h.less h5; omega
    · omega
  same := fun h2 => by
    obtain ⟨h3, h4⟩ := ha h2
    obtain ⟨s1, s2, s3⟩ := h.same h3
    refine ⟨s1, fun z hz => s2 z (h4 z hz), fun j hj => ?_⟩
    rcases Nat.lt_or_ge j q with hjq | hjq
    · exact s3 j hjq
    · obtain rfl : j = q := by omega
      exact ⟨fun hd => s1 _ (hp (Or.inl (h.dd _ hd))), fun hm => s1 _ (hp (Or.inr (mdP_mono (fun z _ hz => h1 z hz) hm))),
        fun _ _ _ _ z hz => s2 z (h4 z ((hD2 z).2 (Or.inr hz)))⟩
theorem RoI.closed {T : List Te} {S : List (List UInt8)} {n m : Nat} {K D K' D' : Nat → Prop} {ag : Prop} (hT : T.length = n) (hS : S.length = m) (h : RoI T S n m n K D K' D' ag) (ha : ¬ ag) : Closed T S K' D' := by
  obtain ⟨s1, s2, s3⟩ := h.same ha
  have e1 : ∀ z, K' z ↔ K z := fun z => ⟨s1 z, h.kk z⟩
  have e2 : ∀ z, D' z ↔ D z := fun z => ⟨s2 z, h.dd z⟩
  obtain rfl : K' = K := funext fun z => propext (e1 z)
  obtain rfl : D' = D := funext fun z => propext (e2 z)
  exact ⟨fun j hj z hz => h.rf.sn z ⟨j, by omega, by rw [← hT]; exact hz⟩, fun q hq => (s3 q (by omega)).told, fun q hq => (s3 q (by omega)).made, fun q hq => (s3 q (by omega)).opens⟩

end Go.Proofs.Ytoaaplgjacjlpaa
