/- What the functions of the program compute. No condition. -/
import Derived.Test.YtkhnailodbkmhaaHwCh6ToCh6
set_option linter.unusedSimpArgs false
set_option linter.unusedVariables false
namespace Go.Proofs.Ytkhnailodbkmhaa
open Go Go.Sx
theorem fiI_cases (r : List UInt8) (k : UInt16) (L : List Kp) : (fiI r k L = -1 ∧ fiN r k L = L.length) ∨ (∃ i, i < L.length ∧ fiI r k L = (i : Int) ∧ fiN r k L = i) := by
  unfold fiI
  by_cases h : fiN r k L < L.length
  · rw [if_pos h]; exact Or.inr ⟨_, h, rfl, rfl⟩
  · rw [if_neg h]; have := fiN_le r k L; exact Or.inl ⟨rfl, by omega⟩
set_option maxRecDepth 100000 in
set_option maxHeartbeats 1000000 in
theorem fn17 (l : List Kp) (N n : Nat) (hN : l.length = N) (hn : n ≤ N) (hN1 : N ≤ 1000000) (hOK : ∀ x ∈ l, KpOK x) (x : Kp) (hx : KpOK x) : Sx.Fn Γ.P 17 [.slx 1003 0 0 n, .agg (rowK x)] [(1003, .mem false 0 [(N * 65, .arr N 65 (kpF l))])]
    (fun v M => (0 ≤ fiI x.1 x.2.1 (l.take n) ∧ v = .tup [.nsl, .i .i64 3] ∧ M = [(1003, .mem false 0 [(N * 65, .arr N 65 (kpF l))])]) ∨
      (fiI x.1 x.2.1 (l.take n) = -1 ∧ 16 ≤ n ∧ v = .tup [.nsl, .i .i64 4] ∧ M = [(1003, .mem false 0 [(N * 65, .arr N 65 (kpF l))])]) ∨
      (fiI x.1 x.2.1 (l.take n) = -1 ∧ n < 16 ∧ ∃ c, n + 1 ≤ c ∧ v = .tup [.sl 1005 0 0 (n + 1) c, .i .i64 0] ∧ M = [(1003, .mem false 0 [(N * 65, .arr N 65 (kpF l))]), (1005, .mem true (mulE (c - (n + 1)) 65) [((n + 1) * 65, .arr (n + 1) 65 (kpF (l.take n ++ [x])))])])) := by
  have hF := fn28 l N n hN hn hN1 hOK x.1 x.2.1 hx.1
  obtain ⟨hx1, hx2⟩ := hx
  unfold kpF at hF
  unfold kpF rowK
  refine fn_of (Γ := Γ) (fn := Try.f17) rfl rfl rfl rfl ?_
  repeat (refine sd ?_)
  refine Call.intro hF [(1003, (1003, 0, none))] rfl fc rfl fc rfl ?_
  rintro v M' ⟨rfl, rfl⟩
  dsimp only [putT, afterM, newEnt, ren, renA, renS, renL, look, getM, getT, ev, evL, ofVal, cond_true, cond_false, Nat.beq_eq, act, isPar, ownPar, Ent.isOwn]
  repeat (refine sd ?_)
  refine Branch.intro (fun hc => ?_) (fun hc => ?_)
  · have hc : (fiI x.1 x.2.1 (l.take n)) ≥ 0 := hc
    repeat (refine sd ?_)
    refine Ret.intro (.tup [.nsl, .i .i64 3]) [(1003, .mem false 0 [(N * 65, .arr N 65 (kpF l))])] [] rfl trivial (Or.inl ⟨hc, rfl, rfl⟩) rfl ?_ rfl ?_ rfl
    · exact fc
    · exact fc
  have hc : ¬ (fiI x.1 x.2.1 (l.take n)) ≥ 0 := hc
  have hc2 : fiI x.1 x.2.1 (l.take n) = -1 := by
    rcases fiI_cases x.1 x.2.1 (l.take n) with h | ⟨i, _, h, _⟩
    · exact h.1
    · omega
  repeat (refine sd ?_)
  refine Branch.intro (fun hc3 => ?_) (fun hc3 => ?_)
  · have hc3 : (n : Int) ≥ 16 := hc3
    repeat (refine sd ?_)
    refine Ret.intro (.tup [.nsl, .i .i64 4]) [(1003, .mem false 0 [(N * 65, .arr N 65 (kpF l))])] [] rfl trivial (Or.inr (Or.inl ⟨hc2, by omega, rfl, rfl⟩)) rfl ?_ rfl ?_ rfl
    · exact fc
    · exact fc
  have hc3 : ¬ (n : Int) ≥ 16 := hc3
  refine Draw.intro [[], [], [1], [], [3], [0, 1, 2, 3, 4], [], [6], [0, 1, 2, 3, 4, 5, 6, 7], [0, 1, 2, 3, 4, 5, 6, 7, 8], [0, 1, 2, 3, 4, 5, 6, 7, 8, 9]] [0, 1, 2, 3, 4, 5, 6, 7, 8, 9, 10] (by kernel_rfl) ?_
  repeat (refine sd ?_)
  refine Branch.intro (fun _ => ?_) (fun h => absurd (show 0 < 1 by omega) h)
  refine fun c hc => ?_
  have hc : n + 1 ≤ c := hc
  repeat (refine sd ?_)
  refine Ret.intro (.tup [.sl 1005 0 0 (n + 1) c, .i .i64 0]) [(1003, .mem false 0 [(N * 65, .arr N 65 (kpF l))]), (1005, .mem true (mulE (c - (n + 1)) 65) [((n + 1) * 65, .arr (n + 1) 65 (kpF (l.take n ++ [x])))])] [(1005, (24, 0, none))] rfl ?_ (Or.inr (Or.inr ⟨hc2, by omega, c, hc, rfl, rfl⟩)) rfl ?_ rfl ?_ rfl
  · exact fc
  · exact fc
  · repeat' (first | (show AllP _; first | exact trivial | refine AllP.app ?_ ?_ | refine AllP.appd ?_ ?_ | refine AllP.cons ?_ ?_) | with_reducible rfl | with_reducible assumption | omega | (simp only [rng, Ix.val, addQ_eq, addI, sz5, by5, sz22, by22, sz23, by23, sz24, by24, sz42, by42, sz50, by50, sz51, by51] <;> omega) | (simp only [rng, Ix.val, Int.toNat_natCast, mulE_eq, addQ_eq, addI, Option.getD_none, Option.getD_some, List.length_take, List.length_drop, List.length_append, List.length_set, List.length_replicate, sz5, by5, sz22, by22, sz23, by23, sz24, by24, sz42, by42, sz50, by50, sz51, by51, *] <;> omega) | (simp only [Ix.val]; with_reducible assumption) | exact UInt8.toNat_lt _ | (apply Eq.trans; (with_reducible assumption); exact rfl) | exact rfl | exact fun _ _ => rfl)
    intro q hq
    have hq : q < n + 1 := hq
    rw [appF_kp (G := rowF [rowK x]) (k := n) (by rw [List.length_take]; omega) rfl q hq]
    rcases Nat.lt_or_ge q n with h | h
    · rw [appF_lt h, kpF_take l h]; exact (appF_lt h).symm
    · rw [appF_ge h]; exact (appF_ge h).symm
end Go.Proofs.Ytkhnailodbkmhaa
