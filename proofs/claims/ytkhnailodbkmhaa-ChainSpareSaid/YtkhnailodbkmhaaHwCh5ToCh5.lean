/- What the functions of the program compute. No condition. -/
import Derived.Test.YtkhnailodbkmhaaHwCh4ToCh4
set_option linter.unusedSimpArgs false
set_option linter.unusedVariables false
namespace Go.Proofs.Ytkhnailodbkmhaa
open Go Go.Sx
abbrev Kp := List UInt8 × UInt16 × List UInt8
def kp0 : Kp := (List.replicate 32 0, 0, List.replicate 32 0)
def KpOK (x : Kp) : Prop := x.1.length = 32 ∧ x.2.2.length = 32
def rowK (x : Kp) : List (Nat × SV) := [(32, .a8 x.1), (1, .u16 x.2.1), (32, .a8 x.2.2)]
def kpF (l : List Kp) (q : Nat) : List (Nat × SV) := [(32, .a8 (l.getD q kp0).1), (1, .u16 (l.getD q kp0).2.1), (32, .a8 (l.getD q kp0).2.2)]
def isK (r : List UInt8) (n : UInt16) (x : Kp) : Prop := x.1 = r ∧ x.2.1 = n
instance (r : List UInt8) (n : UInt16) (x : Kp) : Decidable (isK r n x) := inferInstanceAs (Decidable (_ ∧ _))
def fiN (r : List UInt8) (n : UInt16) : List Kp → Nat
  | [] => 0
  | x :: t => if isK r n x then 0 else fiN r n t + 1
def fiI (r : List UInt8) (n : UInt16) (l : List Kp) : Int := if fiN r n l < l.length then (fiN r n l : Int) else -1
theorem fiN_le (r : List UInt8) (n : UInt16) : ∀ l, fiN r n l ≤ l.length
  | [] => Nat.le_refl _
  | x :: t => by
    simp only [fiN, List.length_cons]
    have := fiN_le r n t
    split <;> omega
theorem fiN_at {r : List UInt8} {n : UInt16} : ∀ {l : List Kp} {i : Nat}, i < l.length → isK r n (l.getD i kp0) → (∀ j, j < i → ¬ isK r n (l.getD j kp0)) → fiN r n l = i
  | [], _, h, _, _ => by simp at h
  | x :: t, 0, _, h, _ => by
    have h : isK r n x := h
    simp only [fiN]; rw [if_pos h]
  | x :: t, i + 1, hl, h, k => by
    have hx : ¬ isK r n x := k 0 (by omega)
    simp only [fiN]; rw [if_neg hx]
    rw [fiN_at (l := t) (i := i) (by simpa using hl) h fun j hj => k (j + 1) (by omega)]
theorem fiN_none {r : List UInt8} {n : UInt16} : ∀ {l : List Kp}, (∀ j, j < l.length → ¬ isK r n (l.getD j kp0)) → fiN r n l = l.length
  | [], _ => rfl
  | x :: t, k => by
    have hx : ¬ isK r n x := k 0 (by simp)
    simp only [fiN]; rw [if_neg hx, fiN_none (l := t) fun j hj => k (j + 1) (by simpa using hj)]
    rfl
theorem getD_take_lt {α : Type} (d : α) {l : List α} {n j : Nat} (h : j < n) : (l.take n).getD j d = l.getD j d := by
  simp [List.getD_eq_getElem?_getD, List.getElem?_take, h]
theorem fiI_at {r : List UInt8} {n : UInt16} {l : List Kp} {m i : Nat} (hm : m ≤ l.length) (hi : i < m) (h : isK r n (l.getD i kp0)) (k : ∀ j, j < i → ¬ isK r n (l.getD j kp0)) : fiI r n (l.take m) = (i : Int) := by
  have hl : (l.take m).length = m := by rw [List.length_take]; omega
  have e : fiN r n (l.take m) = i := fiN_at (by omega) (by rw [getD_take_lt _ hi]; exact h) fun j hj => by rw [getD_take_lt _ (by omega)]; exact k j hj
  unfold fiI; rw [e, hl, if_pos hi]
theorem fiI_none {r : List UInt8} {n : UInt16} {l : List Kp} {m : Nat} (hm : m ≤ l.length) (k : ∀ j, j < m → ¬ isK r n (l.getD j kp0)) : fiI r n (l.take m) = -1 := by
  have hl : (l.take m).length = m := by rw [List.length_take]; omega
  have e : fiN r n (l.take m) = m := by
    rw [fiN_none, hl]
    intro j hj
    rw [hl] at hj
    rw [getD_take_lt _ hj]; exact k j hj
  unfold fiI; rw [e, hl, if_neg (by omega)]
set_option maxRecDepth 100000 in
set_option maxHeartbeats 1000000 in
theorem fn28 (l : List Kp) (N n : Nat) (hN : l.length = N) (hn : n ≤ N) (hN1 : N ≤ 1000000) (hOK : ∀ x ∈ l, KpOK x) (r : List UInt8) (k : UInt16) (hr : r.length = 32) : Sx.Fn Γ.P 28 [.slx 1003 0 0 n, .a8 r, .u16 k] [(1003, .mem false 0 [(N * 65, .arr N 65 (kpF l))])]
    (fun v M => v = .i .i64 (fiI r k (l.take n)) ∧ M = [(1003, .mem false 0 [(N * 65, .arr N 65 (kpF l))])]) := by
  unfold kpF
  refine fn_of (Γ := Γ) (fn := Try.f28) rfl rfl rfl rfl ?_
  repeat (refine sd ?_)
  refine Loop.intro (σ := Nat) (fun i => i ≤ n ∧ ∀ j, j < i → ¬ isK r k (l.getD j kp0))
    (fun i => ([(2, .u16 k), (4, .ptr 204 0 none), (9, .slx 1003 0 0 n), (10, .i .i64 (n : Int)), (11, .i .i64 (i : Int))], [(1003, .mem false 0 [(N * 65, .arr N 65 (kpF l))]), (204, .mem true 0 [(32, .a8 r)])]))
    (fun i => n - i) 0 ⟨Nat.zero_le _, fun j hj => absurd hj (Nat.not_lt_zero _)⟩ ?_ ?_
  · refine Le.intro [(204, (4, 0, none))] rfl ?_ rfl ?_ rfl
    · exact fc
    · repeat' (first | (show AllP _; first | exact trivial | refine AllP.app ?_ ?_ | refine AllP.appd ?_ ?_ | refine AllP.cons ?_ ?_) | with_reducible rfl | with_reducible assumption | omega | (simp only [rng, Ix.val, addQ_eq, addI, sz5, by5, sz22, by22, sz23, by23, sz24, by24, sz42, by42, sz50, by50, sz51, by51] <;> omega) | (simp only [rng, Ix.val, Int.toNat_natCast, mulE_eq, addQ_eq, addI, Option.getD_none, Option.getD_some, List.length_take, List.length_drop, List.length_append, List.length_set, List.length_replicate, sz5, by5, sz22, by22, sz23, by23, sz24, by24, sz42, by42, sz50, by50, sz51, by51, *] <;> omega) | (simp only [Ix.val]; with_reducible assumption) | exact UInt8.toNat_lt _ | (apply Eq.trans; (with_reducible assumption); exact rfl) | exact rfl | exact fun _ _ => rfl)
      all_goals exact fun _ _ => rfl
  rintro i ⟨hi, hno⟩
  have hi : i ≤ n := hi
  refine Branch.intro (fun hc => ?_) (fun hc => ?_)
  · have hc : (i : Int) < n := hc
    obtain ⟨hx1, hx2⟩ := hOK _ (getD_mem kp0 (L := l) (i := i) (by omega))
    unfold kpF
    skip
    repeat (refine sdn ?_)
    refine Branch.intro (fun h1 => ?_) (fun h1 => ?_)
    · have h1r := h1
      have h1 : (l.getD (Int.toNat (i : Int)) kp0).1 = r := h1
      rw [Int.toNat_natCast] at h1
      repeat (first | (refine Branch.intro (fun _ => ?_) (fun hn => absurd rfl hn)) | (refine Branch.intro (fun hn => (by with_reducible exact False.elim hn)) (fun _ => ?_)) | (refine Branch.intro (fun _ => ?_) (fun hn => (by with_reducible exact absurd h1r hn))) | (refine Branch.intro (fun hn => (by with_reducible exact absurd hn h1r)) (fun _ => ?_)) | (refine sdn ?_))
      refine Branch.intro (fun h2 => ?_) (fun h2 => ?_)
      · have h2 : (l.getD (Int.toNat (i : Int)) kp0).2.1 = k := by first | exact h2 | exact h2.elim (fun h => h.2) (fun h => absurd h1r h.1)
        rw [Int.toNat_natCast] at h2
        have hv := fiI_at (m := n) (by omega) (by omega) (show isK r k (l.getD i kp0) from ⟨h1, h2⟩) hno
        repeat (refine sd ?_)
        refine Ret.intro (.i .i64 (fiI r k (l.take n))) [(1003, .mem false 0 [(N * 65, .arr N 65 (kpF l))])] [] rfl trivial ⟨rfl, rfl⟩ rfl ?_ rfl ?_ rfl
        · exact fc
        · exact fc
      · have h2 : ¬ (l.getD (Int.toNat (i : Int)) kp0).2.1 = k := by first | exact h2 | exact fun h => h2 (Or.inl ⟨h1r, h⟩)
        rw [Int.toNat_natCast] at h2
        repeat (refine sd ?_)
        refine ⟨i + 1, ⟨by omega, fun j hj => ?_⟩, by omega, Le.intro [(204, (204, 0, none))] rfl ?_ rfl ?_ rfl⟩
        · by_cases hji : j = i
          · subst hji; exact fun h => h2 h.2
          · exact hno j (by omega)
        · exact fc
        · exact fc
    · have h1r := h1
      have h1 : ¬ (l.getD (Int.toNat (i : Int)) kp0).1 = r := h1
      rw [Int.toNat_natCast] at h1
      repeat (first | (refine Branch.intro (fun _ => ?_) (fun hn => absurd rfl hn)) | (refine Branch.intro (fun hn => (by with_reducible exact False.elim hn)) (fun _ => ?_)) | (refine Branch.intro (fun _ => ?_) (fun hn => (by with_reducible exact absurd h1r hn))) | (refine Branch.intro (fun hn => (by with_reducible exact absurd hn h1r)) (fun _ => ?_)) | (refine sdn ?_))
      refine ⟨i + 1, ⟨by omega, fun j hj => ?_⟩, by omega, Le.intro [(204, (204, 0, none))] rfl ?_ rfl ?_ rfl⟩
      · by_cases hji : j = i
        · subst hji; exact fun h => h1 h.1
        · exact hno j (by omega)
      · exact fc
      · exact fc
  · have hc : ¬ (i : Int) < n := hc
    obtain rfl : i = n := by omega
    have hv := fiI_none (m := i) (by omega) hno
    repeat (refine sd ?_)
    refine Ret.intro (.i .i64 (fiI r k (l.take i))) [(1003, .mem false 0 [(N * 65, .arr N 65 (kpF l))])] [] rfl trivial ⟨rfl, rfl⟩ rfl ?_ rfl ?_ rfl
    · exact fc
    · exact fc
set_option maxRecDepth 100000 in
set_option maxHeartbeats 1000000 in
theorem fn18 (l : List Kp) (N n : Nat) (hN : l.length = N) (hn : n ≤ N) (hN1 : N ≤ 1000000) (hOK : ∀ x ∈ l, KpOK x) (r : List UInt8) (k : UInt16) (hr : r.length = 32) : Sx.Fn Γ.P 18 [.slx 1003 0 0 n, .a8 r, .u16 k] [(1003, .mem false 0 [(N * 65, .arr N 65 (kpF l))])]
    (fun v M => v = .i .i64 (fiI r k (l.take n)) ∧ M = [(1003, .mem false 0 [(N * 65, .arr N 65 (kpF l))])]) := by
  unfold kpF
  refine fn_of (Γ := Γ) (fn := Try.f18) rfl rfl rfl rfl ?_
  repeat (refine sd ?_)
  refine Loop.intro (σ := Nat) (fun i => i ≤ n ∧ ∀ j, j < i → ¬ isK r k (l.getD j kp0))
    (fun i => ([(0, .slx 1003 0 0 n), (2, .u16 k), (4, .ptr 204 0 none), (7, .i .i64 (i : Int))], [(1003, .mem false 0 [(N * 65, .arr N 65 (kpF l))]), (204, .mem true 0 [(32, .a8 r)])]))
    (fun i => n - i) 0 ⟨Nat.zero_le _, fun j hj => absurd hj (Nat.not_lt_zero _)⟩ ?_ ?_
  · refine Le.intro [(204, (4, 0, none))] rfl ?_ rfl ?_ rfl
    · exact fc
    · repeat' (first | (show AllP _; first | exact trivial | refine AllP.app ?_ ?_ | refine AllP.appd ?_ ?_ | refine AllP.cons ?_ ?_) | with_reducible rfl | with_reducible assumption | omega | (simp only [rng, Ix.val, addQ_eq, addI, sz5, by5, sz22, by22, sz23, by23, sz24, by24, sz42, by42, sz50, by50, sz51, by51] <;> omega) | (simp only [rng, Ix.val, Int.toNat_natCast, mulE_eq, addQ_eq, addI, Option.getD_none, Option.getD_some, List.length_take, List.length_drop, List.length_append, List.length_set, List.length_replicate, sz5, by5, sz22, by22, sz23, by23, sz24, by24, sz42, by42, sz50, by50, sz51, by51, *] <;> omega) | (simp only [Ix.val]; with_reducible assumption) | exact UInt8.toNat_lt _ | (apply Eq.trans; (with_reducible assumption); exact rfl) | exact rfl | exact fun _ _ => rfl)
      all_goals exact fun _ _ => rfl
  rintro i ⟨hi, hno⟩
  have hi : i ≤ n := hi
  refine Branch.intro (fun hc => ?_) (fun hc => ?_)
  · have hc : (i : Int) < n := hc
    obtain ⟨hx1, hx2⟩ := hOK _ (getD_mem kp0 (L := l) (i := i) (by omega))
    unfold kpF
    refine Draw.intro [[], [], [0, 1], [0, 1, 2], [0, 1, 2, 3], [], [0, 1, 2, 3, 4, 5], [0, 1, 2, 3, 4, 5, 6], [0, 1, 2, 3, 4, 5, 6, 7], [0, 1, 2, 3, 4, 5, 6, 7], [0, 1, 2, 3, 4, 5, 6, 7, 8, 9], [0, 1, 2, 3, 4, 5, 6, 7, 8, 9, 10], [0, 1, 2, 3, 4, 5, 6, 7, 8, 9, 10, 11], [0, 1, 2, 3, 4, 5, 6, 7], [0, 1, 2, 3, 4, 5, 6, 7, 8, 9, 10, 11, 12, 13], [0, 1, 2, 3, 4, 5, 6, 7, 8, 9, 10, 11, 12, 13, 14]] [0, 1, 2, 3, 4, 5, 6, 7, 8, 9, 10, 11, 12, 13, 14, 15] (by kernel_rfl) ?_
    repeat (refine sdn ?_)
    refine Branch.intro (fun h1 => ?_) (fun h1 => ?_)
    · have h1r := h1
      have h1 : (l.getD (Int.toNat (i : Int)) kp0).1 = r := h1
      rw [Int.toNat_natCast] at h1
      repeat (first | (refine Branch.intro (fun _ => ?_) (fun hn => absurd rfl hn)) | (refine Branch.intro (fun hn => (by with_reducible exact False.elim hn)) (fun _ => ?_)) | (refine Branch.intro (fun _ => ?_) (fun hn => (by with_reducible exact absurd h1r hn))) | (refine Branch.intro (fun hn => (by with_reducible exact absurd hn h1r)) (fun _ => ?_)) | (refine sdn ?_))
      refine Branch.intro (fun h2 => ?_) (fun h2 => ?_)
      · have h2 : (l.getD (Int.toNat (i : Int)) kp0).2.1 = k := by first | exact h2 | exact h2.elim (fun h => h.2) (fun h => absurd h1r h.1)
        rw [Int.toNat_natCast] at h2
        have hv := fiI_at (m := n) (by omega) (by omega) (show isK r k (l.getD i kp0) from ⟨h1, h2⟩) hno
        repeat (refine sd ?_)
        refine Ret.intro (.i .i64 (fiI r k (l.take n))) [(1003, .mem false 0 [(N * 65, .arr N 65 (kpF l))])] [] rfl trivial ⟨rfl, rfl⟩ rfl ?_ rfl ?_ rfl
        · exact fc
        · exact fc
      · have h2 : ¬ (l.getD (Int.toNat (i : Int)) kp0).2.1 = k := by first | exact h2 | exact fun h => h2 (Or.inl ⟨h1r, h⟩)
        rw [Int.toNat_natCast] at h2
        repeat (refine sd ?_)
        refine ⟨i + 1, ⟨by omega, fun j hj => ?_⟩, by omega, Le.intro [(204, (204, 0, none))] rfl ?_ rfl ?_ rfl⟩
        · by_cases hji : j = i
          · subst hji; exact fun h => h2 h.2
          · exact hno j (by omega)
        · exact fc
        · exact fc
    · have h1r := h1
      have h1 : ¬ (l.getD (Int.toNat (i : Int)) kp0).1 = r := h1
      rw [Int.toNat_natCast] at h1
      repeat (first | (refine Branch.intro (fun _ => ?_) (fun hn => absurd rfl hn)) | (refine Branch.intro (fun hn => (by with_reducible exact False.elim hn)) (fun _ => ?_)) | (refine Branch.intro (fun _ => ?_) (fun hn => (by with_reducible exact absurd h1r hn))) | (refine Branch.intro (fun hn => (by with_reducible exact absurd hn h1r)) (fun _ => ?_)) | (refine sdn ?_))
      refine ⟨i + 1, ⟨by omega, fun j hj => ?_⟩, by omega, Le.intro [(204, (204, 0, none))] rfl ?_ rfl ?_ rfl⟩
      · by_cases hji : j = i
        · subst hji; exact fun h => h1 h.1
        · exact hno j (by omega)
      · exact fc
      · exact fc
  · have hc : ¬ (i : Int) < n := hc
    obtain rfl : i = n := by omega
    have hv := fiI_none (m := i) (by omega) hno
    repeat (refine sd ?_)
    refine Ret.intro (.i .i64 (fiI r k (l.take i))) [(1003, .mem false 0 [(N * 65, .arr N 65 (kpF l))])] [] rfl trivial ⟨rfl, rfl⟩ rfl ?_ rfl ?_ rfl
    · exact fc
    · exact fc
end Go.Proofs.Ytkhnailodbkmhaa
