/- What the functions of the program compute. No condition. -/
import Derived.Test.YtkhnailodbkmhaaHwCh5ToCh5
set_option linter.unusedSimpArgs false
set_option linter.unusedVariables false
namespace Go.Proofs.Ytkhnailodbkmhaa
open Go Go.Sx
theorem kpF_lt {l : List Kp} {x : Kp} {q : Nat} (h : q < l.length) : kpF (l ++ [x]) q = kpF l q := by
  unfold kpF; rw [getD_app_lt kp0 h]
theorem kpF_at (l : List Kp) (x : Kp) : kpF (l ++ [x]) l.length = rowK x := by
  unfold kpF; rw [getD_app_at]; rfl
theorem kpF_take (l : List Kp) {n q : Nat} (h : q < n) : kpF (l.take n) q = kpF l q := by
  unfold kpF; rw [getD_take_lt kp0 h]
set_option maxRecDepth 100000 in
set_option maxHeartbeats 1000000 in
theorem fn16 (l k : List Kp) (N n K m : Nat) (hN : l.length = N) (hn : n ≤ N) (hN1 : N ≤ 1000000) (hK : k.length = K) (hm : m ≤ K) (hK1 : K ≤ 1000000) (hOK : ∀ x ∈ l, KpOK x) (hOK2 : ∀ x ∈ k, KpOK x) : Sx.Fn Γ.P 16 [.slx 1003 0 0 n, .slx 1004 0 0 m] [(1003, .mem false 0 [(N * 65, .arr N 65 (kpF l))]), (1004, .mem false 0 [(K * 65, .arr K 65 (kpF k))])]
    (fun v M => v = .bool (l.take n = k.take m) ∧ M = [(1003, .mem false 0 [(N * 65, .arr N 65 (kpF l))]), (1004, .mem false 0 [(K * 65, .arr K 65 (kpF k))])]) := by
  unfold kpF
  refine fn_of (Γ := Γ) (fn := Try.f16) rfl rfl rfl rfl ?_
  repeat (refine sd ?_)
  refine Branch.intro (fun hc => ?_) (fun hc => ?_)
  · have hc : (n : Int) ≠ m := hc
    repeat (refine sd ?_)
    have hne : ¬ l.take n = k.take m := fun h => hc (by have := congrArg List.length h; rw [List.length_take, List.length_take] at this; omega)
    refine Ret.intro (.bool (l.take n = k.take m)) [(1003, .mem false 0 [(N * 65, .arr N 65 (kpF l))]), (1004, .mem false 0 [(K * 65, .arr K 65 (kpF k))])] [] rfl trivial ⟨rfl, rfl⟩ rfl ?_ rfl ?_ rfl
    · exact hne
    · exact fc
  have hc : ¬ (n : Int) ≠ m := hc
  obtain rfl : n = m := by omega
  repeat (refine sd ?_)
  refine Loop.intro (σ := Nat) (fun i => i ≤ n ∧ l.take i = k.take i)
    (fun i => ([(0, .slx 1003 0 0 n), (1, .slx 1004 0 0 n), (5, .i .i64 (i : Int))], [(1003, .mem false 0 [(N * 65, .arr N 65 (kpF l))]), (1004, .mem false 0 [(K * 65, .arr K 65 (kpF k))])]))
    (fun i => n - i) 0 ⟨Nat.zero_le _, rfl⟩ ?_ ?_
  · refine Le.intro [] rfl ?_ rfl ?_ rfl
    · exact fc
    · repeat' (first | (show AllP _; first | exact trivial | refine AllP.app ?_ ?_ | refine AllP.appd ?_ ?_ | refine AllP.cons ?_ ?_) | with_reducible rfl | with_reducible assumption | omega | (simp only [rng, Ix.val, addQ_eq, addI, sz42, by42, sz50, by50, sz51, by51] <;> omega) | (simp only [rng, Ix.val, Int.toNat_natCast, mulE_eq, addQ_eq, addI, Option.getD_none, Option.getD_some, List.length_take, List.length_drop, List.length_append, List.length_set, List.length_replicate, sz42, by42, sz50, by50, sz51, by51, *] <;> omega) | (simp only [Ix.val]; with_reducible assumption) | exact UInt8.toNat_lt _ | (apply Eq.trans; (with_reducible assumption); exact rfl) | exact rfl | exact fun _ _ => rfl)
      all_goals exact fun _ _ => rfl
  rintro i ⟨hi, hT⟩
  have hi : i ≤ n := hi
  refine Branch.intro (fun hc => ?_) (fun hc => ?_)
  · have hc : (i : Int) < n := hc
    obtain ⟨hx1, hx2⟩ := hOK _ (getD_mem kp0 (L := l) (i := i) (by omega))
    obtain ⟨hy1, hy2⟩ := hOK2 _ (getD_mem kp0 (L := k) (i := i) (by omega))
    unfold kpF
    refine Draw.intro [[], [], [0, 1], [0, 1, 2], [], [], [4, 5], [4, 5, 6], [0, 1, 2, 3, 4, 5, 6, 7]] [0, 1, 2, 3, 4, 5, 6, 7, 8] (by kernel_rfl) ?_
    repeat (refine sdn ?_)
    refine Branch.intro (fun h => ?_) (fun h => ?_)
    · have hne : ¬ l.getD i kp0 = k.getD i kp0 := by
        intro e
        apply h
        show (l.getD (Int.toNat (i : Int)) kp0).1 = (k.getD (Int.toNat (i : Int)) kp0).1 ∧ (l.getD (Int.toNat (i : Int)) kp0).2.1 = (k.getD (Int.toNat (i : Int)) kp0).2.1 ∧ (l.getD (Int.toNat (i : Int)) kp0).2.2 = (k.getD (Int.toNat (i : Int)) kp0).2.2
        rw [Int.toNat_natCast, e]; exact ⟨rfl, rfl, rfl⟩
      have hne2 : ¬ l.take n = k.take n := by
        intro e
        apply hne
        rw [← getD_take_lt kp0 (show i < n by omega), e, getD_take_lt kp0 (by omega)]
      repeat (refine sd ?_)
      refine Ret.intro (.bool (l.take n = k.take n)) [(1003, .mem false 0 [(N * 65, .arr N 65 (kpF l))]), (1004, .mem false 0 [(K * 65, .arr K 65 (kpF k))])] [] rfl trivial ⟨rfl, rfl⟩ rfl ?_ rfl ?_ rfl
      · exact hne2
      · exact fc
    · have heq : l.getD i kp0 = k.getD i kp0 := by
        have h : (l.getD (Int.toNat (i : Int)) kp0).1 = (k.getD (Int.toNat (i : Int)) kp0).1 ∧ (l.getD (Int.toNat (i : Int)) kp0).2.1 = (k.getD (Int.toNat (i : Int)) kp0).2.1 ∧ (l.getD (Int.toNat (i : Int)) kp0).2.2 = (k.getD (Int.toNat (i : Int)) kp0).2.2 := Classical.byContradiction h
        rw [Int.toNat_natCast] at h
        exact Prod.ext h.1 (Prod.ext h.2.1 h.2.2)
      repeat (refine sd ?_)
      refine ⟨i + 1, ⟨by omega, by rw [take_succ_getD kp0 l i (by omega), take_succ_getD kp0 k i (by omega), hT, heq]⟩, by omega, Le.intro [] rfl ?_ rfl ?_ rfl⟩
      · exact fc
      · exact fc
  · have hc : ¬ (i : Int) < n := hc
    obtain rfl : i = n := by omega
    repeat (refine sd ?_)
    refine Ret.intro (.bool (l.take i = k.take i)) [(1003, .mem false 0 [(N * 65, .arr N 65 (kpF l))]), (1004, .mem false 0 [(K * 65, .arr K 65 (kpF k))])] [] rfl trivial ⟨rfl, rfl⟩ rfl ?_ rfl ?_ rfl
    · exact hT
    · exact fc
theorem getD_take_succ_erase {l : List Kp} {i k : Nat} (hi : i < l.length) : (l.take (i + 1)).eraseIdx k = if i = k then (l.take i).eraseIdx k else (l.take i).eraseIdx k ++ [l.getD i kp0] := by
  have hl : (l.take i).length = i := by rw [List.length_take]; omega
  rw [take_succ_getD kp0 l i hi]
  by_cases h : i = k
  · subst h
    rw [if_pos rfl, List.eraseIdx_append_of_length_le (by omega), hl, Nat.sub_self, List.eraseIdx_of_length_le (l := l.take i) (by omega)]
    simp
  · rw [if_neg h]
    rcases Nat.lt_or_ge k i with hk | hk
    · rw [List.eraseIdx_append_of_lt_length (by omega)]
    · rw [List.eraseIdx_append_of_length_le (by omega), hl, List.eraseIdx_of_length_le (l := l.take i) (by omega), List.eraseIdx_of_length_le (by simp; omega)]
theorem appF_kp {A : List Kp} {x : Kp} {k : Nat} {G : Nat → List (Nat × SV)} (hk : A.length = k) (hG : G 0 = rowK x) : ∀ q, q < k + 1 → kpF (A ++ [x]) q = appF k (kpF A) G q := by
  subst hk
  intro q hq
  rcases Nat.lt_or_ge q A.length with h | h
  · rw [appF_lt h, kpF_lt h]
  · obtain rfl : q = A.length := by omega
    rw [appF_ge h, kpF_at, Nat.sub_self, hG]
set_option maxRecDepth 100000 in
set_option maxHeartbeats 1000000 in
theorem fn20 (l : List Kp) (N n : Nat) (hN : l.length = N) (hn : n ≤ N) (hN1 : N ≤ 1000000) (hOK : ∀ x ∈ l, KpOK x) (k : Nat) (hk : k < n) : Sx.Fn Γ.P 20 [.slx 1003 0 0 n, .i .i64 (k : Int)] [(1003, .mem false 0 [(N * 65, .arr N 65 (kpF l))])]
    (fun v M => ∃ c, n - 1 ≤ c ∧ ((l.take n).eraseIdx k).length = n - 1 ∧ v = .sl 1005 0 0 (n - 1) c ∧ M = [(1003, .mem false 0 [(N * 65, .arr N 65 (kpF l))]), (1005, .mem true (mulE (c - (n - 1)) 65) [((n - 1) * 65, .arr (n - 1) 65 (kpF ((l.take n).eraseIdx k)))])]) := by
  unfold kpF
  refine fn_of (Γ := Γ) (fn := Try.f20) rfl rfl rfl rfl ?_
  repeat (refine sd ?_)
  refine Loop.intro (σ := Nat × Nat × Nat) (fun s => s.1 ≤ n ∧ ((l.take s.1).eraseIdx k).length = s.2.1 ∧ s.2.1 ≤ s.2.2)
    (fun s => ([(0, .slx 1003 0 0 n), (1, .i .i64 (k : Int)), (5, .sl 205 0 0 s.2.1 s.2.2), (6, .i .i64 (s.1 : Int))], [(1003, .mem false 0 [(N * 65, .arr N 65 (kpF l))]), (205, .mem true (mulE (s.2.2 - s.2.1) 65) [(s.2.1 * 65, .arr s.2.1 65 (kpF ((l.take s.1).eraseIdx k)))])]))
    (fun s => n - s.1) (0, 0, 0) ⟨Nat.zero_le _, rfl, Nat.le_refl _⟩ ?_ ?_
  · refine Le.ghost [.own 205 [(0, .arr 0 65 (kpF []))]] [(5, 205)] [] rfl ⟨rfl, rfl, trivial⟩ rfl rfl ?_ rfl ?_ rfl
    · exact fc
    · repeat' (first | (show AllP _; first | exact trivial | refine AllP.app ?_ ?_ | refine AllP.appd ?_ ?_ | refine AllP.cons ?_ ?_) | with_reducible rfl | with_reducible assumption | omega | (simp only [rng, Ix.val, addQ_eq, addI, sz42, by42, sz50, by50, sz51, by51] <;> omega) | (simp only [rng, Ix.val, Int.toNat_natCast, mulE_eq, addQ_eq, addI, Option.getD_none, Option.getD_some, List.length_take, List.length_drop, List.length_append, List.length_set, List.length_replicate, sz42, by42, sz50, by50, sz51, by51, *] <;> omega) | (simp only [Ix.val]; with_reducible assumption) | exact UInt8.toNat_lt _ | (apply Eq.trans; (with_reducible assumption); exact rfl) | exact rfl | exact fun _ _ => rfl)
      all_goals exact fun _ _ => rfl
  rintro ⟨i, m, c⟩ ⟨hi, hm, hmc⟩
  have hi : i ≤ n := hi
  have hm : ((l.take i).eraseIdx k).length = m := hm
  have hmc : m ≤ c := hmc
  refine Branch.intro (fun hc => ?_) (fun hc => ?_)
  · have hc : (i : Int) < n := hc
    obtain ⟨hx1, hx2⟩ := hOK _ (getD_mem kp0 (L := l) (i := i) (by omega))
    have hmi : m ≤ i := by
      have := List.length_eraseIdx_le (l.take i) k
      rw [hm, List.length_take] at this; omega
    have hsu := getD_take_succ_erase (l := l) (i := i) (k := k) (by omega)
    refine Branch.intro (fun h => ?_) (fun h => ?_)
    · have h : (i : Int) ≠ k := h
      rw [if_neg (by omega)] at hsu
      have hm2 : ((l.take (i + 1)).eraseIdx k).length = m + 1 := by rw [hsu, List.length_append, hm]; rfl
      repeat (refine sd ?_)
      refine fun c2 hc2 => ?_
      have hc2 : m + 1 ≤ c2 := hc2
      repeat (refine sd ?_)
      refine ⟨(i + 1, m + 1, c2), ⟨by show i + 1 ≤ n; omega, hm2, hc2⟩, by show n - (i + 1) < n - i; omega, Le.intro [(205, (22, 0, none))] rfl ?_ rfl ?_ rfl⟩
      · exact fc
      · repeat' (first | (show AllP _; first | exact trivial | refine AllP.app ?_ ?_ | refine AllP.appd ?_ ?_ | refine AllP.cons ?_ ?_) | with_reducible rfl | with_reducible assumption | omega | (simp only [rng, Ix.val, addQ_eq, addI, sz42, by42, sz50, by50, sz51, by51] <;> omega) | (simp only [rng, Ix.val, Int.toNat_natCast, mulE_eq, addQ_eq, addI, Option.getD_none, Option.getD_some, List.length_take, List.length_drop, List.length_append, List.length_set, List.length_replicate, sz42, by42, sz50, by50, sz51, by51, *] <;> omega) | (simp only [Ix.val]; with_reducible assumption) | exact UInt8.toNat_lt _ | (apply Eq.trans; (with_reducible assumption); exact rfl) | exact rfl | exact fun _ _ => rfl)
        show ∀ q, q < m + 1 → kpF ((l.take (i + 1)).eraseIdx k) q = _
        rw [hsu]
        refine appF_kp hm ?_
        show rowK (l.getD (Int.toNat (i : Int)) kp0) = _
        rw [Int.toNat_natCast]
    · have h : ¬ (i : Int) ≠ k := h
      rw [if_pos (by omega)] at hsu
      repeat (refine sd ?_)
      refine ⟨(i + 1, m, c), ⟨by show i + 1 ≤ n; omega, by show ((l.take (i + 1)).eraseIdx k).length = m; rw [hsu]; exact hm, hmc⟩, by show n - (i + 1) < n - i; omega, Le.intro [(205, (205, 0, none))] rfl ?_ rfl ?_ rfl⟩
      · exact fc
      · repeat' (first | (show AllP _; first | exact trivial | refine AllP.app ?_ ?_ | refine AllP.appd ?_ ?_ | refine AllP.cons ?_ ?_) | with_reducible rfl | with_reducible assumption | omega | (simp only [rng, Ix.val, addQ_eq, addI, sz42, by42, sz50, by50, sz51, by51] <;> omega) | (simp only [rng, Ix.val, Int.toNat_natCast, mulE_eq, addQ_eq, addI, Option.getD_none, Option.getD_some, List.length_take, List.length_drop, List.length_append, List.length_set, List.length_replicate, sz42, by42, sz50, by50, sz51, by51, *] <;> omega) | (simp only [Ix.val]; with_reducible assumption) | exact UInt8.toNat_lt _ | (apply Eq.trans; (with_reducible assumption); exact rfl) | exact rfl | exact fun _ _ => rfl)
        all_goals (rw [hsu]; exact fun _ _ => rfl)
  · have hc : ¬ (i : Int) < n := hc
    obtain rfl : i = n := by omega
    have hm1 : m = i - 1 := by
      rw [← hm, List.length_eraseIdx, if_pos (by rw [List.length_take]; omega), List.length_take]; omega
    subst hm1
    repeat (refine sd ?_)
    refine Ret.intro (.sl 1005 0 0 (i - 1) c) [(1003, .mem false 0 [(N * 65, .arr N 65 (kpF l))]), (1005, .mem true (mulE (c - (i - 1)) 65) [((i - 1) * 65, .arr (i - 1) 65 (kpF ((l.take i).eraseIdx k)))])] [(1005, (205, 0, none))] rfl ?_ ⟨c, hmc, hm, rfl, rfl⟩ rfl ?_ rfl ?_ rfl
    · exact fc
    · exact fc
    · exact fc
end Go.Proofs.Ytkhnailodbkmhaa
