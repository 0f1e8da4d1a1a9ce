/- What the functions of the program compute. No condition. -/
import Derived.Test.YtoaaplgjacjlpaaHwTm13ToTm13
set_option linter.unusedSimpArgs false
set_option linter.unusedVariables false
namespace Go.Proofs.Ytoaaplgjacjlpaa
open Go Go.Sx

/-! What is known, plainly: the least closed pair of knowledge and told names. -/

/-- K is known, D is told: nothing more is to be had. -/
structure Closed (T : List Te) (S : List (List UInt8)) (K D : Nat → Prop) : Prop where
  seen : ∀ j, j < S.length → AllK D (inL (S.getD j []) T.length 0)
  told : ∀ q, q < T.length → D (q + 1) → K (q + 1)
  made : ∀ q, q < T.length → mdP K q (T.getD q te0).1 (T.getD q te0).2 → K (q + 1)
  opens : ∀ q, q < T.length → (T.getD q te0).1 = 8 → D (q + 1) → 1 < (T.getD q te0).2.length → AllK K (nmJ q (T.getD q te0).2 0) → AllK D (nmJ q (T.getD q te0).2 1)
/-- What is known. -/
def KnP (T : List Te) (S : List (List UInt8)) (z : Nat) : Prop := ∀ K D, Closed T S K D → K z
/-- What is told. -/
def TdP (T : List Te) (S : List (List UInt8)) (z : Nat) : Prop := ∀ K D, Closed T S K D → D z

theorem AllK.mono {K K' : Nat → Prop} {l : List Nat} (h : ∀ z ∈ l, K z → K' z) (k : AllK K l) : AllK K' l := fun z hz => h z hz (k z hz)
theorem mdP_mono {K K' : Nat → Prop} {q : Nat} {kd : Int} {L : List (List UInt8)} (h : ∀ z, z ≤ q → K z → K' z) (k : mdP K q kd L) : mdP K' q kd L := by
  obtain ⟨k1, k2⟩ := k
  have hz : ∀ j, ∀ z ∈ nmJ q L j, K z → K' z := fun j z hz => h z (by rw [nmJ_eq] at hz; exact (inL_le hz).2)
  refine ⟨k1, ?_⟩
  rcases k2 with ⟨h3, j, hj, k3⟩ | k3
  · exact Or.inl ⟨h3, j, hj, k3.mono (hz j)⟩
  · exact Or.inr fun j hj => (k3 j hj).mono (hz j)
theorem KnP_closed (T : List Te) (S : List (List UInt8)) : Closed T S (KnP T S) (TdP T S) where
  seen := fun j hj z hz K D hC => hC.seen j hj z hz
  told := fun q hq h K D hC => hC.told q hq (h K D hC)
  made := fun q hq h K D hC => hC.made q hq (mdP_mono (fun z _ hz => hz K D hC) h)
  opens := fun q hq h8 h1 hl h2 z hz K D hC => hC.opens q hq h8 (h1 K D hC) hl (h2.mono fun z _ hz => hz K D hC) z hz
theorem KnP_pos {T : List Te} {S : List (List UInt8)} : ¬ KnP T S 0 := by
  intro h
  have hC : Closed T S (fun z => 1 ≤ z) (fun z => 1 ≤ z) := ⟨fun j _ z hz => (inL_le hz).1, fun q _ _ => Nat.le_add_left 1 q, fun q _ _ => Nat.le_add_left 1 q, fun q _ _ _ _ _ z hz => by rw [nmJ_eq] at hz; exact (inL_le hz).1⟩
  have := h _ _ hC
  omega

/-- How many are not open. -/
noncomputable def cntN (O : Nat → Prop) : Nat → Nat
  | 0 => 0
  | n + 1 => cntN O n + (open Classical in if O (n + 1) then 0 else 1)
theorem cntN_le {O O' : Nat → Prop} (h : ∀ z, O z → O' z) : ∀ n, cntN O' n ≤ cntN O n
  | 0 => Nat.le_refl _
  | n + 1 => by
    have := cntN_le h n
    unfold cntN
    by_cases h1 : O (n + 1)
    · rw [if_pos h1, if_pos (h _ h1)]; omega
    · rw [if_neg h1]; split <;> omega
theorem cntN_lt {O O' : Nat → Prop} (h : ∀ z, O z → O' z) {q : Nat} (h1 : ¬ O (q + 1)) (h2 : O' (q + 1)) : ∀ n, q < n → cntN O' n < cntN O n
  | 0, hn => absurd hn (Nat.not_lt_zero _)
  | n + 1, hn => by
    unfold cntN
    by_cases hqn : q = n
    · subst hqn
      have := cntN_le h q
      rw [if_neg h1, if_pos h2]; omega
    · have := cntN_lt h h1 h2 n (by omega)
      by_cases h3 : O (n + 1)
      · rw [if_pos h3, if_pos (h _ h3)]; omega
      · rw [if_neg h3]; split <;> omega

/-- Told by what was seen. -/
def tdF (S : List (List UInt8)) (N i z : Nat) : Prop := ∃ j, j < i ∧ z ∈ inL (S.getD j []) N 0

theorem bF_put {D D' : Nat → Prop} {z : Nat} (h : ∀ q, D' q ↔ (q = z ∨ D q)) (q : Nat) : bF D' q = if q = z then [(1, .bool True)] else bF D q := by
  unfold bF
  by_cases hq : q = z
  · rw [if_pos hq]
    have : D' q = True := propext ⟨fun _ => trivial, fun _ => (h q).2 (Or.inl hq)⟩
    rw [this]
  · rw [if_neg hq]
    have : D' q = D q := propext ⟨fun k => ((h q).1 k).resolve_left hq, fun k => (h q).2 (Or.inr k)⟩
    rw [this]
theorem bF_set {D D' : Nat → Prop} {z : Nat} {p : Prop} (h : D' z ↔ p) (h2 : ∀ q, q ≠ z → (D' q ↔ D q)) (q : Nat) : bF D' q = if q = z then [(1, .bool p)] else bF D q := by
  unfold bF
  by_cases hq : q = z
  · subst hq
    rw [if_pos rfl]
    have : D' q = p := propext h
    rw [this]
  · rw [if_neg hq]
    have : D' q = D q := propext (h2 q hq)
    rw [this]
theorem bF_congr {D D' : Nat → Prop} {q : Nat} (h : D' q ↔ D q) : bF D' q = bF D q := by
  unfold bF; rw [propext h]

/-- What holds between the rounds. -/
structure RdI (T : List Te) (S : List (List UInt8)) (n m : Nat) (K O D : Nat → Prop) : Prop where
  ks : ∀ z, K z → KnP T S z
  ds : ∀ z, D z → TdP T S z
  sn : ∀ z, tdF S n m z → D z
  k0 : ¬ K 0
  op : ∀ q, q < n → O (q + 1) → 1 < (T.getD q te0).2.length → AllK D (nmJ q (T.getD q te0).2 1)
/-- Which terms are known in this round, so far. -/
structure HvI (T : List Te) (S : List (List UInt8)) (i : Nat) (K D : Nat → Prop) : Prop where
  ks : ∀ z, K z → KnP T S z
  k0 : ¬ K 0
  hv : ∀ q, q + 1 < i → (K (q + 1) ↔ (D (q + 1) ∨ mdP K q (T.getD q te0).1 (T.getD q te0).2))
/-- What is opened in this round, so far. -/
structure OpI (T : List Te) (S : List (List UInt8)) (n m q0 : Nat) (K O D O' D' : Nat → Prop) (ag : Prop) : Prop where
  rd : RdI T S n m K O' D'
  oo : ∀ z, O z → O' z
  same : ¬ ag → (∀ z, D' z ↔ D z) ∧ ∀ q, q < q0 → (T.getD q te0).1 = 8 → D (q + 1) → 1 < (T.getD q te0).2.length → AllK K (nmJ q (T.getD q te0).2 0) → AllK D (nmJ q (T.getD q te0).2 1)
  less : ag → cntN O' n < cntN O n

theorem HvI.next {T : List Te} {S : List (List UInt8)} {i : Nat} {K D : Nat → Prop} (h : HvI T S (i + 1) K D) (hi : i < T.length) (hD : ∀ z, D z → TdP T S z) {p : Prop} (hp : p ↔ (D (i + 1) ∨ mdP K i (T.getD i te0).1 (T.getD i te0).2)) :
    HvI T S (i + 2) (fun z => if z = i + 1 then p else K z) D where
  ks := fun z hz => by
    by_cases hzi : z = i + 1
    · rw [if_pos hzi] at hz
      rw [hzi]
      rcases hp.1 hz with h1 | h1
      · exact (KnP_closed T S).told i hi (hD _ h1)
      · exact (KnP_closed T S).made i hi (mdP_mono (fun z _ hz => h.ks z hz) h1)
    · rw [if_neg hzi] at hz
      exact h.ks z hz
  k0 := by rw [if_neg (by omega)]; exact h.k0
  hv := fun q hq => by
    have hm : mdP (fun z => if z = i + 1 then p else K z) q (T.getD q te0).1 (T.getD q te0).2 ↔ mdP K q (T.getD q te0).1 (T.getD q te0).2 :=
      ⟨mdP_mono fun z hz h2 => by rwa [if_neg (by omega)] at h2, mdP_mono fun z hz h2 => by rwa [if_neg (by omega)]⟩
    rw [hm]
    by_cases hqi : q + 1 = i + 1
    · obtain rfl : q = i := by omega
      rw [if_pos rfl]; exact hp
    · rw [if_neg hqi]; exact h.hv q (by omega)
theorem OpI.pass {T : List Te} {S : List (List UInt8)} {n m q : Nat} {K O D O' D' : Nat → Prop} {ag : Prop} (h : OpI T S n m q K O D O' D' ag) (hq : q < n)
    (hn : ¬ ((T.getD q te0).1 = 8 ∧ D' (q + 1) ∧ ¬ O' (q + 1) ∧ ((T.getD q te0).2.length = 0 ∨ AllK K (nmJ q (T.getD q te0).2 0)))) : OpI T S n m (q + 1) K O D O' D' ag where
  rd := h.rd
  oo := h.oo
  less := h.less
  same := fun ha => ⟨(h.same ha).1, fun j hj h8 hd hl hk => by
    rcases Nat.lt_or_ge j q with hjq | hjq
    · exact (h.same ha).2 j hjq h8 hd hl hk
    · obtain rfl : j = q := by omega
      by_cases ho : O' (j + 1)
      · exact (h.rd.op j hq ho hl).mono fun z _ hz => ((h.same ha).1 z).1 hz
      · exact absurd ⟨h8, ((h.same ha).1 _).2 hd, ho, Or.inr hk⟩ hn⟩
theorem OpI.opens {T : List Te} {S : List (List UInt8)} {n m q : Nat} {K O D O' D' D2 : Nat → Prop} {ag : Prop} (h : OpI T S n m q K O D O' D' ag) (hq : q < n) (hT : T.length = n)
    (h8 : (T.getD q te0).1 = 8) (hd : D' (q + 1)) (ho : ¬ O' (q + 1)) (hk : (T.getD q te0).2.length = 0 ∨ AllK K (nmJ q (T.getD q te0).2 0))
    (hD2 : ∀ z, D2 z ↔ (D' z ∨ (1 < (T.getD q te0).2.length ∧ z ∈ nmJ q (T.getD q te0).2 1))) : OpI T S n m (q + 1) K O D (fun z => z = q + 1 ∨ O' z) D2 True where
  rd := ⟨h.rd.ks, fun z hz => by
      rcases (hD2 z).1 hz with h1 | ⟨h1, h2⟩
      · exact h.rd.ds z h1
      · exact (KnP_closed T S).opens q (by omega) h8 (h.rd.ds _ hd) h1 ((hk.resolve_left (by omega)).mono fun z _ hz => h.rd.ks z hz) z h2,
    fun z hz => (hD2 z).2 (Or.inl (h.rd.sn z hz)), h.rd.k0, fun j hj hoj hl => by
      rcases hoj with hoj | hoj
      · obtain rfl : j = q := by omega
        exact fun z hz => (hD2 z).2 (Or.inr ⟨hl, hz⟩)
      · exact (h.rd.op j hj hoj hl).mono fun z _ hz => (hD2 z).2 (Or.inl hz)⟩
  oo := fun z hz => Or.inr (h.oo z hz)
  same := fun ha => absurd trivial ha
  less := fun _ => by
    have h1 := cntN_lt (O := O') (O' := fun z => z = q + 1 ∨ O' z) (fun z hz => Or.inr hz) ho (Or.inl rfl) n hq
    have h2 := cntN_le h.oo n
    omega
theorem RdI.closed {T : List Te} {S : List (List UInt8)} {n m : Nat} {K O D O' D' : Nat → Prop} {ag : Prop} (hT : T.length = n) (hS : S.length = m) (hh : HvI T S (n + 1) K D) (h : OpI T S n m n K O D O' D' ag) (ha : ¬ ag) : Closed T S K D' where
  seen := fun j hj z hz => h.rd.sn z ⟨j, by omega, by rw [← hT]; exact hz⟩
  told := fun q hq hd => (hh.hv q (by omega)).2 (Or.inl (((h.same ha).1 _).1 hd))
  made := fun q hq hd => (hh.hv q (by omega)).2 (Or.inr hd)
  opens := fun q hq h8 hd hl hk => ((h.same ha).2 q (by omega) h8 (((h.same ha).1 _).1 hd) hl hk).mono fun z _ hz => ((h.same ha).1 z).2 hz

end Go.Proofs.Ytoaaplgjacjlpaa
