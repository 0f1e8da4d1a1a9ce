/- What the functions of the program compute. No condition. -/
import Derived.Test.YtoaaplgjacjlpaaHwTm14ToTm14
set_option linter.unusedSimpArgs false
set_option linter.unusedVariables false
namespace Go.Proofs.Ytoaaplgjacjlpaa
open Go Go.Sx

/-! term.Table.Known. -/

set_option maxRecDepth 100000 in
set_option maxHeartbeats 4000000 in
theorem fn12 (T : List Te) (n : Nat) (hT : T.length = n) (hn : n ≤ 60000) (hTv : ∀ x ∈ T, Valid x.1 x.2) (S : List (List UInt8)) (m : Nat) (hS : S.length = m) (hm : m ≤ 1000000) (hSs : ∀ x ∈ S, x.length ≤ 1000000) :
    Sx.Fn Γ.P 12 [.ptr 1000 0 none, .slx 1003 0 0 m] [(1000, .mem false 0 [(1, .slx 1001 0 0 n), (1, .mp 1002)]), (1001, .mem false 0 [(n * 3, .arr n 3 (ttF T))]), (1002, .dead), (1003, .mem false 0 [(m * 1, .arr m 1 (rwF S))])]
    (fun v M => v = .ptr 1005 0 none ∧ M = [(1000, .mem false 0 [(1, .slx 1001 0 0 n), (1, .mp 1002)]), (1001, .mem false 0 [(n * 3, .arr n 3 (ttF T))]), (1002, .dead), (1003, .mem false 0 [(m * 1, .arr m 1 (rwF S))]), (1005, .mem true 0 [(1, .ptr 1000 0 none), (1, .i .i64 (n : Int)), (1, .sl 1006 0 0 (n + 1) (n + 1))]), (1006, .mem true 0 [(n + 1, .arr (n + 1) 1 (bF (KnP T S)))])]) := by
  have hby3 : (Γ.ty 3).bytes = 8 := rfl
  have hby4 : (Γ.ty 4).bytes = 1 := rfl
  have en : ((n : Int) + 1).toNat = n + 1 := by omega
  have hty : ∀ q, ttF T q = [(1, .i .i64 (T.getD q te0).1), (1, prS (T.getD q te0).2), (1, nmS q (T.getD q te0).2)] := fun _ => rfl
  unfold rwS at *
  refine fn_of (Γ := Γ) (fn := Try.f12) rfl rfl rfl rfl ?_
  repeat (refine sd ?_)
  refine Draw.intro [[], [], [1], [1, 2], [1, 2, 3], [1, 2, 3, 4], [], [6], [6, 7], [6, 7, 8], [6, 7, 8, 9], [6, 7, 8, 9, 10], [6, 7, 8, 9, 10, 11], [0, 1, 2, 3, 4, 5, 6, 7, 8, 9, 10, 11, 12], [0, 1, 2, 3, 4, 5, 6, 7, 8, 9, 10, 11, 12, 13], [0, 1, 2, 3, 4, 5, 6, 7, 8, 9, 10, 11, 12, 13, 14]] [0, 1, 2, 3, 4, 5, 6, 7, 8, 9, 10, 11, 12, 13, 14, 15] (by kernel_rfl) ?_
  repeat (refine sd ?_)
  refine Loop.intro (σ := Nat) (fun i => i ≤ m)
    (fun i => ([(0, .ptr 1000 0 none), (5, .ptr 32 0 none), (6, .sl 39 0 0 (n + 1) (n + 1)), (7, .sl 46 0 0 (n + 1) (n + 1)), (47, .slx 1003 0 0 m), (48, .i .i64 (m : Int)), (49, .i .i64 (i : Int))], [(1000, .mem false 0 [(1, .slx 1001 0 0 n), (1, .mp 1002)]), (1001, .mem false 0 [(n * 3, .arr n 3 (ttF T))]), (1002, .dead), (1003, .mem false 0 [(m * 1, .arr m 1 (rwF S))]), (32, .mem true 0 [(1, .ptr 1000 0 none), (1, .i .i64 (n : Int)), (1, .sl 30 0 0 (n + 1) (n + 1))]), (30, .mem true 0 [(n + 1, .arr (n + 1) 1 (bF (fun _ => False)))]), (39, .mem true 0 [(n + 1, .arr (n + 1) 1 (bF (fun _ => False)))]), (46, .mem true 0 [(n + 1, .arr (n + 1) 1 (bF (tdF S n i)))])]))
    (fun i => m - i) 0 (Nat.zero_le _) ?_ ?_
  · have h0 : ∀ q, bF (tdF S n 0) q = [(1, .bool False)] := fun q => by
      unfold bF
      rw [show tdF S n 0 q = False from propext ⟨fun ⟨j, hj, _⟩ => absurd hj (Nat.not_lt_zero _), False.elim⟩]
    have h1 : ∀ q, bF (fun _ => False) q = [(1, .bool False)] := fun q => rfl
    refine Le.intro [] rfl ?_ rfl ?_ rfl
    · exact fc
    · repeat' (first | (show AllP _; first | exact trivial | refine AllP.app ?_ ?_ | refine AllP.appd ?_ ?_ | refine AllP.cons ?_ ?_) | with_reducible rfl | with_reducible assumption | omega | (simp only [rng, Ix.val, addQ_eq, addI, sz3, sz4, sz5, sz32, sz33, sz34, sz38, sz40, sz67, sz68, sz69, sz73, sz74, sz76, sz77, sz78] <;> omega) | (simp only [rng, Ix.val, Int.toNat_natCast, mulE_eq, addQ_eq, addI, Option.getD_none, Option.getD_some, List.length_take, List.length_drop, List.length_append, List.length_set, List.length_replicate, sz3, sz4, sz5, sz32, sz33, sz34, sz38, sz40, sz67, sz68, sz69, sz73, sz74, sz76, sz77, sz78, *] <;> omega) | (simp only [Ix.val]; with_reducible assumption) | exact UInt8.toNat_lt _ | (apply Eq.trans; (with_reducible assumption); exact rfl) | exact rfl | exact fun _ _ => rfl)
      all_goals (intro q hq; first | rw [h0]; exact rfl | exact rfl)
  · rintro i hi
    have hi : i ≤ m := hi
    refine Branch.intro (fun hc => ?_) (fun hc => ?_)
    · have hc : (i : Int) < m := hc
      have hbl := hSs _ (getD_mem [] (L := S) (i := i) (by omega))
      obtain ⟨b, hb⟩ : ∃ b, S.getD i [] = b := ⟨_, rfl⟩
      rw [hb] at hbl
      have hI := fn25 b b.length rfl n (by omega) hbl
      obtain ⟨l, hl⟩ : ∃ l, inL b n 0 = l := ⟨_, rfl⟩
      have hle : ∀ z ∈ l, 1 ≤ z ∧ z ≤ n := fun z hz => by rw [← hl] at hz; exact inL_le hz
      have hl6 := inL_len b n 0
      rw [hl] at hI hl6
      unfold rwF
      repeat (refine Side.intro (by repeat' (first | (show AllP _; first | exact trivial | refine AllP.app ?_ ?_ | refine AllP.appd ?_ ?_ | refine AllP.cons ?_ ?_) | with_reducible rfl | with_reducible assumption | omega | (simp only [Nat.zero_add, Int.toNat_natCast, hb, rng, Ix.val, addQ_eq, addI, sz3, sz4, sz5, sz32, sz33, sz34, sz38, sz40, sz67, sz68, sz69, sz73, sz74, sz76, sz77, sz78] <;> omega) | (simp only [Nat.zero_add, Int.toNat_natCast, hb, rng, Ix.val, Int.toNat_natCast, mulE_eq, addQ_eq, addI, Option.getD_none, Option.getD_some, List.length_take, List.length_drop, List.length_append, List.length_set, List.length_replicate, sz3, sz4, sz5, sz32, sz33, sz34, sz38, sz40, sz67, sz68, sz69, sz73, sz74, sz76, sz77, sz78, *] <;> omega) | (simp only [Ix.val]; with_reducible assumption) | exact UInt8.toNat_lt _ | (apply Eq.trans; (with_reducible assumption); exact rfl) | exact rfl | exact fun _ _ => rfl)) ?_)
      refine Call.name [(2001, []), (0, [])] rfl trivial (CallP.intro hI [(1003, (2001, 0, none)), (1001, (301, 0, none))] rfl (by repeat' (first | (show AllP _; first | exact trivial | refine AllP.app ?_ ?_ | refine AllP.appd ?_ ?_ | refine AllP.cons ?_ ?_) | with_reducible rfl | with_reducible assumption | omega | (simp only [Nat.zero_add, Int.toNat_natCast, hb, rng, Ix.val, addQ_eq, addI, sz3, sz4, sz5, sz32, sz33, sz34, sz38, sz40, sz67, sz68, sz69, sz73, sz74, sz76, sz77, sz78] <;> omega) | (simp only [Nat.zero_add, Int.toNat_natCast, hb, rng, Ix.val, Int.toNat_natCast, mulE_eq, addQ_eq, addI, Option.getD_none, Option.getD_some, List.length_take, List.length_drop, List.length_append, List.length_set, List.length_replicate, sz3, sz4, sz5, sz32, sz33, sz34, sz38, sz40, sz67, sz68, sz69, sz73, sz74, sz76, sz77, sz78, *] <;> omega) | (simp only [Ix.val]; with_reducible assumption) | exact UInt8.toNat_lt _ | (apply Eq.trans; (with_reducible assumption); exact rfl) | exact rfl | exact fun _ _ => rfl)) rfl (by repeat' (first | (show AllP _; first | exact trivial | refine AllP.app ?_ ?_ | refine AllP.appd ?_ ?_ | refine AllP.cons ?_ ?_) | with_reducible rfl | with_reducible assumption | omega | (simp only [Nat.zero_add, Int.toNat_natCast, hb, rng, Ix.val, addQ_eq, addI, sz3, sz4, sz5, sz32, sz33, sz34, sz38, sz40, sz67, sz68, sz69, sz73, sz74, sz76, sz77, sz78] <;> omega) | (simp only [Nat.zero_add, Int.toNat_natCast, hb, rng, Ix.val, Int.toNat_natCast, mulE_eq, addQ_eq, addI, Option.getD_none, Option.getD_some, List.length_take, List.length_drop, List.length_append, List.length_set, List.length_replicate, sz3, sz4, sz5, sz32, sz33, sz34, sz38, sz40, sz67, sz68, sz69, sz73, sz74, sz76, sz77, sz78, *] <;> omega) | (simp only [Ix.val]; with_reducible assumption) | exact UInt8.toNat_lt _ | (apply Eq.trans; (with_reducible assumption); exact rfl) | exact rfl | exact fun _ _ => rfl)) rfl ?_)
      rintro v M' ⟨l2, cl, rfl, hlc, rfl, rfl⟩
      dsimp only [putT, afterM, newEnt, ren, renA, renS, renL, look, getM, getT, ev, evL, ofVal, cond_true, cond_false, Nat.beq_eq, act, isPar, ownPar, Ent.isOwn]
      have htl := toI_len l
      repeat (refine sd ?_)
      refine Loop.intro (σ := Nat × (Nat → Prop)) (fun s => s.1 ≤ l.length ∧ ∀ z, s.2 z ↔ (tdF S n i z ∨ ∃ j, j < s.1 ∧ l.getD j 0 = z))
        (fun s => ([(0, .ptr 1000 0 none), (5, .ptr 32 0 none), (6, .sl 39 0 0 (n + 1) (n + 1)), (7, .sl 46 0 0 (n + 1) (n + 1)), (47, .slx 1003 0 0 m), (48, .i .i64 (m : Int)), (49, .i .i64 (i : Int)), (58, .sl 301 0 0 l.length cl), (59, .i .i64 (l.length : Int)), (60, .i .i64 (s.1 : Int))],
          [(1000, .mem false 0 [(1, .slx 1001 0 0 n), (1, .mp 1002)]), (1001, .mem false 0 [(n * 3, .arr n 3 (ttF T))]), (1002, .dead), (1003, .mem false 0 [(m * 1, .arr m 1 (rwF S))]), (32, .mem true 0 [(1, .ptr 1000 0 none), (1, .i .i64 (n : Int)), (1, .sl 30 0 0 (n + 1) (n + 1))]), (30, .mem true 0 [(n + 1, .arr (n + 1) 1 (bF (fun _ => False)))]), (39, .mem true 0 [(n + 1, .arr (n + 1) 1 (bF (fun _ => False)))]), (46, .mem true 0 [(n + 1, .arr (n + 1) 1 (bF s.2))])] ++ [(301, .mem true (cl - l.length) [(l.length, .ai (toI l))])]))
        (fun s => l.length - s.1) (0, tdF S n i) ⟨Nat.zero_le _, fun z => ⟨Or.inl, fun h => h.resolve_right fun ⟨j, hj, _⟩ => absurd hj (Nat.not_lt_zero _)⟩⟩ ?_ ?_
      · refine Le.intro [] rfl ?_ rfl ?_ rfl
        · exact fc
        · exact fc
      · rintro ⟨k, D⟩ ⟨hk, hD⟩
        have hk : k ≤ l.length := hk
        have hD : ∀ z, D z ↔ (tdF S n i z ∨ ∃ j, j < k ∧ l.getD j 0 = z) := hD
        refine Branch.intro (fun hd => ?_) (fun hd => ?_)
        · have hd : (k : Int) < l.length := hd
          have hg := toI_getD l (i := k) (by omega)
          have hz1 := hle _ (getD_mem 0 (L := l) (i := k) (by omega))
          obtain ⟨z, hz⟩ : ∃ z, l.getD k 0 = z := ⟨_, rfl⟩
          rw [hz] at hg hz1
          repeat (refine Side.intro (by repeat' (first | (show AllP _; first | exact trivial | refine AllP.app ?_ ?_ | refine AllP.appd ?_ ?_ | refine AllP.cons ?_ ?_) | with_reducible rfl | with_reducible assumption | omega | (simp only [Nat.zero_add, Int.toNat_natCast, hg, rng, Ix.val, addQ_eq, addI, sz3, sz4, sz5, sz32, sz33, sz34, sz38, sz40, sz67, sz68, sz69, sz73, sz74, sz76, sz77, sz78] <;> omega) | (simp only [Nat.zero_add, Int.toNat_natCast, hg, rng, Ix.val, Int.toNat_natCast, mulE_eq, addQ_eq, addI, Option.getD_none, Option.getD_some, List.length_take, List.length_drop, List.length_append, List.length_set, List.length_replicate, sz3, sz4, sz5, sz32, sz33, sz34, sz38, sz40, sz67, sz68, sz69, sz73, sz74, sz76, sz77, sz78, *] <;> omega) | (simp only [Ix.val]; with_reducible assumption) | exact UInt8.toNat_lt _ | (apply Eq.trans; (with_reducible assumption); exact rfl) | exact rfl | exact fun _ _ => rfl)) ?_)
          refine ⟨(k + 1, fun x => x = z ∨ D x), ⟨by show k + 1 ≤ l.length; omega, fun x => ?_⟩, by show l.length - (k + 1) < l.length - k; omega, Le.intro [] rfl ?_ rfl ?_ rfl⟩
          · show (x = z ∨ D x) ↔ _
            rw [hD]
            constructor
            · rintro (h | h | ⟨j, hj, h⟩)
              · exact Or.inr ⟨k, Nat.lt_succ_self k, by rw [hz, h]⟩
              · exact Or.inl h
              · exact Or.inr ⟨j, Nat.lt_succ_of_lt hj, h⟩
            · rintro (h | ⟨j, hj, h⟩)
              · exact Or.inr (Or.inl h)
              · rcases Nat.lt_or_ge j k with hjk | hjk
                · exact Or.inr (Or.inr ⟨j, hjk, h⟩)
                · obtain rfl : j = k := by have : j < k + 1 := hj; omega
                  exact Or.inl (by rw [← h, hz])
          · exact fc
          · repeat' (first | (show AllP _; first | exact trivial | refine AllP.app ?_ ?_ | refine AllP.appd ?_ ?_ | refine AllP.cons ?_ ?_) | with_reducible rfl | with_reducible assumption | omega | (simp only [rng, Ix.val, addQ_eq, addI, sz3, sz4, sz5, sz32, sz33, sz34, sz38, sz40, sz67, sz68, sz69, sz73, sz74, sz76, sz77, sz78] <;> omega) | (simp only [rng, Ix.val, Int.toNat_natCast, mulE_eq, addQ_eq, addI, Option.getD_none, Option.getD_some, List.length_take, List.length_drop, List.length_append, List.length_set, List.length_replicate, sz3, sz4, sz5, sz32, sz33, sz34, sz38, sz40, sz67, sz68, sz69, sz73, sz74, sz76, sz77, sz78, *] <;> omega) | (simp only [Ix.val]; with_reducible assumption) | exact UInt8.toNat_lt _ | (apply Eq.trans; (with_reducible assumption); exact rfl) | exact rfl | exact fun _ _ => rfl)
            all_goals (intro q hq; simp only [Ix.val, addQ_eq, Nat.zero_add, Int.toNat_natCast, hg]; exact bF_put (fun _ => Iff.rfl) q)
        · have hd : ¬ (k : Int) < l.length := hd
          have hD2 : ∀ z, tdF S n (i + 1) z ↔ D z := by
            intro z
            rw [hD]
            constructor
            · rintro ⟨j, hj, h⟩
              rcases Nat.lt_or_ge j i with hji | hji
              · exact Or.inl ⟨j, hji, h⟩
              · obtain rfl : j = i := by omega
                rw [hb, hl] at h
                obtain ⟨x, hx, rfl⟩ := List.getElem_of_mem h
                exact Or.inr ⟨x, by omega, by rw [List.getD_eq_getElem?_getD, List.getElem?_eq_getElem hx]; rfl⟩
            · rintro (⟨j, hj, h⟩ | ⟨j, hj, h⟩)
              · exact ⟨j, by omega, h⟩
              · exact ⟨i, by omega, by rw [hb, hl, ← h]; exact getD_mem 0 (by omega)⟩
          repeat (refine sd ?_)
          refine ⟨i + 1, by omega, by omega, Le.intro [] rfl ?_ rfl ?_ rfl⟩
          · exact fc
          · repeat' (first | (show AllP _; first | exact trivial | refine AllP.app ?_ ?_ | refine AllP.appd ?_ ?_ | refine AllP.cons ?_ ?_) | with_reducible rfl | with_reducible assumption | omega | (simp only [rng, Ix.val, addQ_eq, addI, sz3, sz4, sz5, sz32, sz33, sz34, sz38, sz40, sz67, sz68, sz69, sz73, sz74, sz76, sz77, sz78] <;> omega) | (simp only [rng, Ix.val, Int.toNat_natCast, mulE_eq, addQ_eq, addI, Option.getD_none, Option.getD_some, List.length_take, List.length_drop, List.length_append, List.length_set, List.length_replicate, sz3, sz4, sz5, sz32, sz33, sz34, sz38, sz40, sz67, sz68, sz69, sz73, sz74, sz76, sz77, sz78, *] <;> omega) | (simp only [Ix.val]; with_reducible assumption) | exact UInt8.toNat_lt _ | (apply Eq.trans; (with_reducible assumption); exact rfl) | exact rfl | exact fun _ _ => rfl)
            all_goals exact fun q _ => bF_congr (hD2 q)
    · obtain rfl : m = i := by omega
      refine Loop.intro (σ := (Nat → Prop) × (Nat → Prop) × (Nat → Prop) × Prop) (fun s => RdI T S n m s.1 s.2.1 s.2.2.1 ∧ (¬ s.2.2.2 → Closed T S s.1 s.2.2.1))
        (fun s => ([(0, .ptr 1000 0 none), (5, .ptr 32 0 none), (6, .sl 39 0 0 (n + 1) (n + 1)), (7, .sl 46 0 0 (n + 1) (n + 1)), (12, .bool s.2.2.2)], [(1000, .mem false 0 [(1, .slx 1001 0 0 n), (1, .mp 1002)]), (1001, .mem false 0 [(n * 3, .arr n 3 (ttF T))]), (1002, .dead), (1003, .mem false 0 [(m * 1, .arr m 1 (rwF S))]), (32, .mem true 0 [(1, .ptr 1000 0 none), (1, .i .i64 (n : Int)), (1, .sl 30 0 0 (n + 1) (n + 1))]), (30, .mem true 0 [(n + 1, .arr (n + 1) 1 (bF s.1))]), (39, .mem true 0 [(n + 1, .arr (n + 1) 1 (bF s.2.1))]), (46, .mem true 0 [(n + 1, .arr (n + 1) 1 (bF s.2.2.1))])]))
        (fun s => 2 * cntN s.2.1 n + (open Classical in if s.2.2.2 then 1 else 0)) ((fun _ => False), (fun _ => False), tdF S n m, True) ⟨⟨fun _ h => h.elim, fun z h => ?_, fun _ h => h, fun h => h, fun _ _ h => h.elim⟩, fun h => absurd trivial h⟩ ?_ ?_
      · obtain ⟨j, hj, h⟩ := h
        exact (KnP_closed T S).seen j (by omega) z (by rw [hT]; exact h)
      · refine Le.intro [] rfl ?_ rfl ?_ rfl
        · exact fc
        · exact fc
      rintro ⟨K, O, D, ag⟩ ⟨hR, hCl⟩
      have hR : RdI T S n m K O D := hR
      have hCl : ¬ ag → Closed T S K D := hCl
      refine Branch.intro (fun hag => ?_) (fun hag => ?_)
      · have hag : ag := hag
        repeat (refine sd ?_)
        refine Loop.intro (σ := Nat × (Nat → Prop)) (fun s => s.1 ≤ n ∧ HvI T S (s.1 + 1) s.2 D)
          (fun s => ([(0, .ptr 1000 0 none), (5, .ptr 32 0 none), (6, .sl 39 0 0 (n + 1) (n + 1)), (7, .sl 46 0 0 (n + 1) (n + 1)), (12, .ff), (13, .i .i64 ((s.1 : Int) + 1))], [(1000, .mem false 0 [(1, .slx 1001 0 0 n), (1, .mp 1002)]), (1001, .mem false 0 [(n * 3, .arr n 3 (ttF T))]), (1002, .dead), (1003, .mem false 0 [(m * 1, .arr m 1 (rwF S))]), (32, .mem true 0 [(1, .ptr 1000 0 none), (1, .i .i64 (n : Int)), (1, .sl 30 0 0 (n + 1) (n + 1))]), (30, .mem true 0 [(n + 1, .arr (n + 1) 1 (bF s.2))]), (39, .mem true 0 [(n + 1, .arr (n + 1) 1 (bF O))]), (46, .mem true 0 [(n + 1, .arr (n + 1) 1 (bF D))])]))
          (fun s => n - s.1) (0, K) ⟨Nat.zero_le _, ⟨hR.ks, hR.k0, fun q hq => absurd hq (by omega)⟩⟩ ?_ ?_
        · refine Le.intro [] rfl ?_ rfl ?_ rfl
          · exact fc
          · exact fc
        rintro ⟨j, K⟩ ⟨hj, hH⟩
        have hj : j ≤ n := hj
        have hH : HvI T S (j + 1) K D := hH
        repeat (refine sd ?_)
        refine Branch.intro (fun hd => ?_) (fun hd => ?_)
        · have hd : (j : Int) + 1 ≤ n := hd
          have ej : ((j : Int) + 1).toNat = j + 1 := by omega
          have ej2 : ((j : Int) + 1 - 1).toNat = j := by omega
          have hV := hTv _ (getD_mem te0 (L := T) (i := j) (by omega))
          obtain ⟨x, hx⟩ : ∃ x, T.getD j te0 = x := ⟨_, rfl⟩
          have hM := fn26 x.1 j x.2 (by rw [← hx]; exact hV.1.1) (fun y hy => by rw [← hx] at hy; have := hV.1.2 y hy; omega) n (by omega) (by omega) K
          have eadd : addQ 0 (Ix.dyn ((j : Int) + 1).toNat).val = j + 1 := by rw [addQ_eq, Nat.zero_add]; exact ej
          have hDe : D (addQ 0 (Ix.dyn ((j : Int) + 1).toNat).val) ↔ D (j + 1) := by rw [addQ_eq, Nat.zero_add]; show D ((j : Int) + 1).toNat ↔ _; rw [ej]
          by_cases hDj : D (addQ 0 (Ix.dyn ((j : Int) + 1).toNat).val)
          · refine Draw.intro [[], [0], [0, 1], [0, 1, 2], [], [], [], [5, 6], [5, 6, 7], [5, 6, 7, 8], [5, 6, 7, 8, 9], [5, 6, 7, 8, 9], [5, 6, 7, 8, 9, 11], [5, 6, 7, 8, 9, 11, 12], [5, 6, 7, 8, 9, 11, 12, 13], [5, 6, 7, 8, 9], [5, 6, 7, 8, 9, 15], [5, 6, 7, 8, 9, 11, 12, 13, 14, 15, 16], [5, 6, 7, 8, 9, 11, 12, 13, 14, 15, 16, 17], [5, 6, 7, 8, 9, 10, 11, 12, 13, 14, 15, 16, 17, 18], [5, 6, 7, 8, 9, 10, 11, 12, 13, 14, 15, 16, 17, 18, 19], [0, 1, 2, 3, 4, 5, 6, 7, 8, 9, 10, 11, 12, 13, 14, 15, 16, 17, 18, 19, 20], [0, 1, 2, 3, 4, 5, 6, 7, 8, 9, 10, 11, 12, 13, 14, 15, 16, 17, 18, 19, 20, 21]] [0, 1, 2, 3, 4, 5, 6, 7, 8, 9, 10, 11, 12, 13, 14, 15, 16, 17, 18, 19, 20, 21, 22] (by kernel_rfl) ?_
            repeat (first | (refine Branch.intro (fun _ => ?_) (fun hn => absurd rfl hn)) | (refine Branch.intro (fun hn => (by with_reducible exact False.elim hn)) (fun _ => ?_)) | (refine Branch.intro (fun _ => ?_) (fun hn => (by with_reducible exact absurd hDj hn))) | (refine Branch.intro (fun hn => (by with_reducible exact absurd hn hDj)) (fun _ => ?_)) | (refine Side.intro (by repeat' (first | (show AllP _; first | exact trivial | refine AllP.app ?_ ?_ | refine AllP.appd ?_ ?_ | refine AllP.cons ?_ ?_) | with_reducible rfl | with_reducible assumption | omega | (simp only [Nat.zero_add, Int.toNat_natCast, ej, ej2, rng, Ix.val, addQ_eq, addI, sz3, sz4, sz5, sz32, sz33, sz34, sz38, sz40, sz67, sz68, sz69, sz73, sz74, sz76, sz77, sz78] <;> omega) | (simp only [Nat.zero_add, Int.toNat_natCast, ej, ej2, rng, Ix.val, Int.toNat_natCast, mulE_eq, addQ_eq, addI, Option.getD_none, Option.getD_some, List.length_take, List.length_drop, List.length_append, List.length_set, List.length_replicate, sz3, sz4, sz5, sz32, sz33, sz34, sz38, sz40, sz67, sz68, sz69, sz73, sz74, sz76, sz77, sz78, *] <;> omega) | (simp only [Ix.val]; with_reducible assumption) | exact UInt8.toNat_lt _ | (apply Eq.trans; (with_reducible assumption); exact rfl) | exact rfl | exact fun _ _ => rfl)) ?_))
            have hp : (D (j + 1) ∨ mdP K j (T.getD j te0).1 (T.getD j te0).2) ↔ (D (j + 1) ∨ mdP K j (T.getD j te0).1 (T.getD j te0).2) := Iff.rfl
            refine ⟨(j + 1, fun z => if z = j + 1 then (D (j + 1) ∨ mdP K j (T.getD j te0).1 (T.getD j te0).2) else K z), ⟨by show j + 1 ≤ n; omega, hH.next (by omega) hR.ds hp⟩, by show n - (j + 1) < n - j; omega, Le.intro [] rfl ?_ rfl ?_ rfl⟩
            · exact fc
            · repeat' (first | (show AllP _; first | exact trivial | refine AllP.app ?_ ?_ | refine AllP.appd ?_ ?_ | refine AllP.cons ?_ ?_) | with_reducible rfl | with_reducible assumption | omega | (simp only [rng, Ix.val, addQ_eq, addI, sz3, sz4, sz5, sz32, sz33, sz34, sz38, sz40, sz67, sz68, sz69, sz73, sz74, sz76, sz77, sz78] <;> omega) | (simp only [rng, Ix.val, Int.toNat_natCast, mulE_eq, addQ_eq, addI, Option.getD_none, Option.getD_some, List.length_take, List.length_drop, List.length_append, List.length_set, List.length_replicate, sz3, sz4, sz5, sz32, sz33, sz34, sz38, sz40, sz67, sz68, sz69, sz73, sz74, sz76, sz77, sz78, *] <;> omega) | (simp only [Ix.val]; with_reducible assumption) | exact UInt8.toNat_lt _ | (apply Eq.trans; (with_reducible assumption); exact rfl) | exact rfl | exact fun _ _ => rfl)
              intro q hq
              refine Eq.trans (bF_set (D := K) (z := addQ 0 (Ix.dyn ((j : Int) + 1).toNat).val) (p := ?pA) ?h1 (fun z hz => ?h3) q) ?h2
              case h2 => exact rfl
              case h3 => (rw [eadd] at hz; show (if z = j + 1 then _ else _) ↔ _; rw [if_neg hz])
              case h1 =>
                rw [eadd]; show (if j + 1 = j + 1 then _ else _) ↔ _; rw [if_pos rfl]
                exact ⟨fun _ => trivial, fun _ => Or.inl (hDe.1 hDj)⟩
          · refine Draw.intro [[], [0], [0, 1], [0, 1, 2], [], [], [], [5, 6], [5, 6, 7], [5, 6, 7, 8], [5, 6, 7, 8, 9], [5, 6, 7, 8, 9], [5, 6, 7, 8, 9, 11], [5, 6, 7, 8, 9, 11, 12], [5, 6, 7, 8, 9, 11, 12, 13], [5, 6, 7, 8, 9], [5, 6, 7, 8, 9, 15], [5, 6, 7, 8, 9, 11, 12, 13, 14, 15, 16], [5, 6, 7, 8, 9, 11, 12, 13, 14, 15, 16, 17], [5, 6, 7, 8, 9, 10, 11, 12, 13, 14, 15, 16, 17, 18], [5, 6, 7, 8, 9, 10, 11, 12, 13, 14, 15, 16, 17, 18, 19], [0, 1, 2, 3, 4, 5, 6, 7, 8, 9, 10, 11, 12, 13, 14, 15, 16, 17, 18, 19, 20], [0, 1, 2, 3, 4, 5, 6, 7, 8, 9, 10, 11, 12, 13, 14, 15, 16, 17, 18, 19, 20, 21]] [0, 1, 2, 3, 4, 5, 6, 7, 8, 9, 10, 11, 12, 13, 14, 15, 16, 17, 18, 19, 20, 21, 22] (by kernel_rfl) ?_
            repeat (first | (refine Branch.intro (fun _ => ?_) (fun hn => absurd rfl hn)) | (refine Branch.intro (fun hn => (by with_reducible exact False.elim hn)) (fun _ => ?_)) | (refine Branch.intro (fun _ => ?_) (fun hn => (by with_reducible exact absurd hDj hn))) | (refine Branch.intro (fun hn => (by with_reducible exact absurd hn hDj)) (fun _ => ?_)) | (refine Side.intro (by repeat' (first | (show AllP _; first | exact trivial | refine AllP.app ?_ ?_ | refine AllP.appd ?_ ?_ | refine AllP.cons ?_ ?_) | with_reducible rfl | with_reducible assumption | omega | (simp only [Nat.zero_add, Int.toNat_natCast, ej, ej2, rng, Ix.val, addQ_eq, addI, sz3, sz4, sz5, sz32, sz33, sz34, sz38, sz40, sz67, sz68, sz69, sz73, sz74, sz76, sz77, sz78] <;> omega) | (simp only [Nat.zero_add, Int.toNat_natCast, ej, ej2, rng, Ix.val, Int.toNat_natCast, mulE_eq, addQ_eq, addI, Option.getD_none, Option.getD_some, List.length_take, List.length_drop, List.length_append, List.length_set, List.length_replicate, sz3, sz4, sz5, sz32, sz33, sz34, sz38, sz40, sz67, sz68, sz69, sz73, sz74, sz76, sz77, sz78, *] <;> omega) | (simp only [Ix.val]; with_reducible assumption) | exact UInt8.toNat_lt _ | (apply Eq.trans; (with_reducible assumption); exact rfl) | exact rfl | exact fun _ _ => rfl)) ?_))
            refine Call.intro hM [(1000, (32, 0, none)), (1001, (30, 0, none)), (1002, (1000, 0, none))] rfl ?_ rfl ?_ rfl ?_
            · repeat' (first | (show AllP _; first | exact trivial | refine AllP.app ?_ ?_ | refine AllP.appd ?_ ?_ | refine AllP.cons ?_ ?_) | with_reducible rfl | with_reducible assumption | omega | (simp only [Nat.zero_add, Int.toNat_natCast, ej2, hx, rng, Ix.val, addQ_eq, addI, sz3, sz4, sz5, sz32, sz33, sz34, sz38, sz40, sz67, sz68, sz69, sz73, sz74, sz76, sz77, sz78] <;> omega) | (simp only [Nat.zero_add, Int.toNat_natCast, ej2, hx, rng, Ix.val, Int.toNat_natCast, mulE_eq, addQ_eq, addI, Option.getD_none, Option.getD_some, List.length_take, List.length_drop, List.length_append, List.length_set, List.length_replicate, sz3, sz4, sz5, sz32, sz33, sz34, sz38, sz40, sz67, sz68, sz69, sz73, sz74, sz76, sz77, sz78, *] <;> omega) | (simp only [Ix.val]; with_reducible assumption) | exact UInt8.toNat_lt _ | (apply Eq.trans; (with_reducible assumption); exact rfl) | exact rfl | exact fun _ _ => rfl)
            · repeat' (first | (show AllP _; first | exact trivial | refine AllP.app ?_ ?_ | refine AllP.appd ?_ ?_ | refine AllP.cons ?_ ?_) | with_reducible rfl | with_reducible assumption | omega | (simp only [Nat.zero_add, Int.toNat_natCast, ej2, hx, rng, Ix.val, addQ_eq, addI, sz3, sz4, sz5, sz32, sz33, sz34, sz38, sz40, sz67, sz68, sz69, sz73, sz74, sz76, sz77, sz78] <;> omega) | (simp only [Nat.zero_add, Int.toNat_natCast, ej2, hx, rng, Ix.val, Int.toNat_natCast, mulE_eq, addQ_eq, addI, Option.getD_none, Option.getD_some, List.length_take, List.length_drop, List.length_append, List.length_set, List.length_replicate, sz3, sz4, sz5, sz32, sz33, sz34, sz38, sz40, sz67, sz68, sz69, sz73, sz74, sz76, sz77, sz78, *] <;> omega) | (simp only [Ix.val]; with_reducible assumption) | exact UInt8.toNat_lt _ | (apply Eq.trans; (with_reducible assumption); exact rfl) | exact rfl | exact fun _ _ => rfl)
            rintro v M' ⟨rfl, rfl⟩
            dsimp only [putT, afterM, newEnt, ren, renA, renS, renL, look, getM, getT, ev, evL, ofVal, cond_true, cond_false, Nat.beq_eq, act, isPar, ownPar, Ent.isOwn]
            refine Grow.intro [] rfl rfl ?_
            repeat (first | (refine Branch.intro (fun _ => ?_) (fun hn => absurd rfl hn)) | (refine Branch.intro (fun hn => (by with_reducible exact False.elim hn)) (fun _ => ?_)) | (refine Branch.intro (fun _ => ?_) (fun hn => (by with_reducible exact absurd hDj hn))) | (refine Branch.intro (fun hn => (by with_reducible exact absurd hn hDj)) (fun _ => ?_)) | (refine Side.intro (by repeat' (first | (show AllP _; first | exact trivial | refine AllP.app ?_ ?_ | refine AllP.appd ?_ ?_ | refine AllP.cons ?_ ?_) | with_reducible rfl | with_reducible assumption | omega | (simp only [Nat.zero_add, Int.toNat_natCast, ej, ej2, rng, Ix.val, addQ_eq, addI, sz3, sz4, sz5, sz32, sz33, sz34, sz38, sz40, sz67, sz68, sz69, sz73, sz74, sz76, sz77, sz78] <;> omega) | (simp only [Nat.zero_add, Int.toNat_natCast, ej, ej2, rng, Ix.val, Int.toNat_natCast, mulE_eq, addQ_eq, addI, Option.getD_none, Option.getD_some, List.length_take, List.length_drop, List.length_append, List.length_set, List.length_replicate, sz3, sz4, sz5, sz32, sz33, sz34, sz38, sz40, sz67, sz68, sz69, sz73, sz74, sz76, sz77, sz78, *] <;> omega) | (simp only [Ix.val]; with_reducible assumption) | exact UInt8.toNat_lt _ | (apply Eq.trans; (with_reducible assumption); exact rfl) | exact rfl | exact fun _ _ => rfl)) ?_))
            have hp : (D (j + 1) ∨ mdP K j (T.getD j te0).1 (T.getD j te0).2) ↔ (D (j + 1) ∨ mdP K j (T.getD j te0).1 (T.getD j te0).2) := Iff.rfl
            refine ⟨(j + 1, fun z => if z = j + 1 then (D (j + 1) ∨ mdP K j (T.getD j te0).1 (T.getD j te0).2) else K z), ⟨by show j + 1 ≤ n; omega, hH.next (by omega) hR.ds hp⟩, by show n - (j + 1) < n - j; omega, Le.intro [] rfl ?_ rfl ?_ rfl⟩
            · exact fc
            · repeat' (first | (show AllP _; first | exact trivial | refine AllP.app ?_ ?_ | refine AllP.appd ?_ ?_ | refine AllP.cons ?_ ?_) | with_reducible rfl | with_reducible assumption | omega | (simp only [rng, Ix.val, addQ_eq, addI, sz3, sz4, sz5, sz32, sz33, sz34, sz38, sz40, sz67, sz68, sz69, sz73, sz74, sz76, sz77, sz78] <;> omega) | (simp only [rng, Ix.val, Int.toNat_natCast, mulE_eq, addQ_eq, addI, Option.getD_none, Option.getD_some, List.length_take, List.length_drop, List.length_append, List.length_set, List.length_replicate, sz3, sz4, sz5, sz32, sz33, sz34, sz38, sz40, sz67, sz68, sz69, sz73, sz74, sz76, sz77, sz78, *] <;> omega) | (simp only [Ix.val]; with_reducible assumption) | exact UInt8.toNat_lt _ | (apply Eq.trans; (with_reducible assumption); exact rfl) | exact rfl | exact fun _ _ => rfl)
              intro q hq
              refine Eq.trans (bF_set (D := K) (z := addQ 0 (Ix.dyn ((j : Int) + 1).toNat).val) (p := ?pB) ?h1 (fun z hz => ?h3) q) ?h2
              case h2 => exact rfl
              case h3 => (rw [eadd] at hz; show (if z = j + 1 then _ else _) ↔ _; rw [if_neg hz])
              case h1 =>
                rw [eadd]; show (if j + 1 = j + 1 then _ else _) ↔ _; rw [if_pos rfl]
                rw [hx]
                constructor
                · rintro (h | h)
                  · exact absurd (hDe.2 h) hDj
                  · exact Or.inr ⟨fun hh => hDj (hDe.2 hh), h⟩
                · rintro (h | h)
                  · exact Or.inl h.1
                  · exact Or.inr h.2
        · have hd : ¬ (j : Int) + 1 ≤ n := hd
          obtain rfl : n = j := by omega
          repeat (refine sd ?_)
          refine Loop.intro (σ := Nat × (Nat → Prop) × (Nat → Prop) × Prop) (fun s => s.1 ≤ n ∧ OpI T S n m s.1 K O D s.2.1 s.2.2.1 s.2.2.2)
            (fun s => ([(0, .ptr 1000 0 none), (5, .ptr 32 0 none), (6, .sl 39 0 0 (n + 1) (n + 1)), (7, .sl 46 0 0 (n + 1) (n + 1)), (12, .bool s.2.2.2), (103, .slx 1001 0 0 n), (104, .i .i64 (n : Int)), (105, .i .i64 (s.1 : Int))], [(1000, .mem false 0 [(1, .slx 1001 0 0 n), (1, .mp 1002)]), (1001, .mem false 0 [(n * 3, .arr n 3 (ttF T))]), (1002, .dead), (1003, .mem false 0 [(m * 1, .arr m 1 (rwF S))]), (32, .mem true 0 [(1, .ptr 1000 0 none), (1, .i .i64 (n : Int)), (1, .sl 30 0 0 (n + 1) (n + 1))]), (30, .mem true 0 [(n + 1, .arr (n + 1) 1 (bF K))]), (39, .mem true 0 [(n + 1, .arr (n + 1) 1 (bF s.2.1))]), (46, .mem true 0 [(n + 1, .arr (n + 1) 1 (bF s.2.2.1))])]))
            (fun s => n - s.1) (0, O, D, False) ⟨Nat.zero_le _, ⟨⟨hH.ks, hR.ds, hR.sn, hH.k0, hR.op⟩, fun _ h => h, fun _ => ⟨fun _ => Iff.rfl, fun q hq => absurd hq (Nat.not_lt_zero _)⟩, False.elim⟩⟩ ?_ ?_
          · have hnf : ¬ False := id
            refine Le.intro [] rfl ?_ rfl ?_ rfl
            · exact fc
            · exact fc
          rintro ⟨q, O', D', ag'⟩ ⟨hq, hO⟩
          have hq : q ≤ n := hq
          have hO : OpI T S n m q K O D O' D' ag' := hO
          refine Branch.intro (fun hd => ?_) (fun hd => ?_)
          · have hd : (q : Int) < n := hd
            have hV := hTv _ (getD_mem te0 (L := T) (i := q) (by omega))
            obtain ⟨x, hx⟩ : ∃ x, T.getD q te0 = x := ⟨_, rfl⟩
            have hxl : x.2.length ≤ 64 := by rw [← hx]; exact hV.1.1
            repeat (refine Side.intro (by repeat' (first | (show AllP _; first | exact trivial | refine AllP.app ?_ ?_ | refine AllP.appd ?_ ?_ | refine AllP.cons ?_ ?_) | with_reducible rfl | with_reducible assumption | omega | (simp only [Nat.zero_add, Int.toNat_natCast, hx, rng, Ix.val, addQ_eq, addI, sz3, sz4, sz5, sz32, sz33, sz34, sz38, sz40, sz67, sz68, sz69, sz73, sz74, sz76, sz77, sz78] <;> omega) | (simp only [Nat.zero_add, Int.toNat_natCast, hx, rng, Ix.val, Int.toNat_natCast, mulE_eq, addQ_eq, addI, Option.getD_none, Option.getD_some, List.length_take, List.length_drop, List.length_append, List.length_set, List.length_replicate, sz3, sz4, sz5, sz32, sz33, sz34, sz38, sz40, sz67, sz68, sz69, sz73, sz74, sz76, sz77, sz78, *] <;> omega) | (simp only [Ix.val]; with_reducible assumption) | exact UInt8.toNat_lt _ | (apply Eq.trans; (with_reducible assumption); exact rfl) | exact rfl | exact fun _ _ => rfl)) ?_)
            have eq1 : ((q : Int) + 1).toNat = q + 1 := by omega
            have eP : ∀ P : Nat → Prop, P (addQ 0 (Ix.dyn ((q : Int) + 1).toNat).val) ↔ P (q + 1) := fun P => by rw [addQ_eq, Nat.zero_add]; show P ((q : Int) + 1).toNat ↔ _; rw [eq1]
            refine Branch.intro (fun h8 => ?_) (fun h8 => ?_)
            · have h8 : x.1 = 8 := by rw [← hx]; exact h8
              repeat (refine Side.intro (by repeat' (first | (show AllP _; first | exact trivial | refine AllP.app ?_ ?_ | refine AllP.appd ?_ ?_ | refine AllP.cons ?_ ?_) | with_reducible rfl | with_reducible assumption | omega | (simp only [Nat.zero_add, Int.toNat_natCast, hx, eq1, rng, Ix.val, addQ_eq, addI, sz3, sz4, sz5, sz32, sz33, sz34, sz38, sz40, sz67, sz68, sz69, sz73, sz74, sz76, sz77, sz78] <;> omega) | (simp only [Nat.zero_add, Int.toNat_natCast, hx, eq1, rng, Ix.val, Int.toNat_natCast, mulE_eq, addQ_eq, addI, Option.getD_none, Option.getD_some, List.length_take, List.length_drop, List.length_append, List.length_set, List.length_replicate, sz3, sz4, sz5, sz32, sz33, sz34, sz38, sz40, sz67, sz68, sz69, sz73, sz74, sz76, sz77, sz78, *] <;> omega) | (simp only [Ix.val]; with_reducible assumption) | exact UInt8.toNat_lt _ | (apply Eq.trans; (with_reducible assumption); exact rfl) | exact rfl | exact fun _ _ => rfl)) ?_)
              refine Branch.intro (fun ht => ?_) (fun ht => ?_)
              · have ht : D' (q + 1) := (eP D').1 ht
                repeat (refine Side.intro (by repeat' (first | (show AllP _; first | exact trivial | refine AllP.app ?_ ?_ | refine AllP.appd ?_ ?_ | refine AllP.cons ?_ ?_) | with_reducible rfl | with_reducible assumption | omega | (simp only [Nat.zero_add, Int.toNat_natCast, hx, eq1, rng, Ix.val, addQ_eq, addI, sz3, sz4, sz5, sz32, sz33, sz34, sz38, sz40, sz67, sz68, sz69, sz73, sz74, sz76, sz77, sz78] <;> omega) | (simp only [Nat.zero_add, Int.toNat_natCast, hx, eq1, rng, Ix.val, Int.toNat_natCast, mulE_eq, addQ_eq, addI, Option.getD_none, Option.getD_some, List.length_take, List.length_drop, List.length_append, List.length_set, List.length_replicate, sz3, sz4, sz5, sz32, sz33, sz34, sz38, sz40, sz67, sz68, sz69, sz73, sz74, sz76, sz77, sz78, *] <;> omega) | (simp only [Ix.val]; with_reducible assumption) | exact UInt8.toNat_lt _ | (apply Eq.trans; (with_reducible assumption); exact rfl) | exact rfl | exact fun _ _ => rfl)) ?_)
                refine Branch.intro (fun ho => ?_) (fun ho => ?_)
                · have ho : ¬ O' (q + 1) := fun h => ho ((eP O').2 h)
                  repeat (refine Side.intro (by repeat' (first | (show AllP _; first | exact trivial | refine AllP.app ?_ ?_ | refine AllP.appd ?_ ?_ | refine AllP.cons ?_ ?_) | with_reducible rfl | with_reducible assumption | omega | (simp only [Nat.zero_add, Int.toNat_natCast, hx, eq1, rng, Ix.val, addQ_eq, addI, sz3, sz4, sz5, sz32, sz33, sz34, sz38, sz40, sz67, sz68, sz69, sz73, sz74, sz76, sz77, sz78] <;> omega) | (simp only [Nat.zero_add, Int.toNat_natCast, hx, eq1, rng, Ix.val, Int.toNat_natCast, mulE_eq, addQ_eq, addI, Option.getD_none, Option.getD_some, List.length_take, List.length_drop, List.length_append, List.length_set, List.length_replicate, sz3, sz4, sz5, sz32, sz33, sz34, sz38, sz40, sz67, sz68, sz69, sz73, sz74, sz76, sz77, sz78, *] <;> omega) | (simp only [Ix.val]; with_reducible assumption) | exact UInt8.toNat_lt _ | (apply Eq.trans; (with_reducible assumption); exact rfl) | exact rfl | exact fun _ _ => rfl)) ?_)
                  refine Branch.intro (fun hz => ?_) (fun hz => ?_)
                  · have hz : x.2.length = 0 := by have h : ((T.getD q te0).2.length : Int) = 0 := hz; rw [hx] at h; omega
                    have hk : x.2.length = 0 ∨ AllK K (nmJ q x.2 0) := Or.inl hz
                    repeat (refine Side.intro (by repeat' (first | (show AllP _; first | exact trivial | refine AllP.app ?_ ?_ | refine AllP.appd ?_ ?_ | refine AllP.cons ?_ ?_) | with_reducible rfl | with_reducible assumption | omega | (simp only [Nat.zero_add, Int.toNat_natCast, hx, eq1, rng, Ix.val, addQ_eq, addI, sz3, sz4, sz5, sz32, sz33, sz34, sz38, sz40, sz67, sz68, sz69, sz73, sz74, sz76, sz77, sz78] <;> omega) | (simp only [Nat.zero_add, Int.toNat_natCast, hx, eq1, rng, Ix.val, Int.toNat_natCast, mulE_eq, addQ_eq, addI, Option.getD_none, Option.getD_some, List.length_take, List.length_drop, List.length_append, List.length_set, List.length_replicate, sz3, sz4, sz5, sz32, sz33, sz34, sz38, sz40, sz67, sz68, sz69, sz73, sz74, sz76, sz77, sz78, *] <;> omega) | (simp only [Ix.val]; with_reducible assumption) | exact UInt8.toNat_lt _ | (apply Eq.trans; (with_reducible assumption); exact rfl) | exact rfl | exact fun _ _ => rfl)) ?_)
                    refine Branch.intro (fun hl => ?_) (fun hl => ?_)
                    · have hl : 1 < x.2.length := by have h : (1 : Int) < ((T.getD q te0).2.length : Int) := hl; rw [hx] at h; omega
                      have hnj1 := nmJ_eq q x.2 1
                      obtain ⟨r, hr⟩ : ∃ r, nmJ q x.2 1 = r := ⟨_, rfl⟩
                      rw [hr] at hnj1
                      have hxy1 := hV.1.2 _ (by rw [hx]; exact getD_mem [] (L := x.2) (i := 1) hl)
                      have hr6 : r.length ≤ 1000001 := by rw [hnj1]; have := inL_len (x.2.getD 1 []) q 0; omega
                      have hrle : ∀ z ∈ r, 1 ≤ z ∧ z ≤ n := fun z hz => by rw [hnj1] at hz; have := inL_le hz; omega
                      have htr := toI_len r
                      repeat (refine Side.intro (by repeat' (first | (show AllP _; first | exact trivial | refine AllP.app ?_ ?_ | refine AllP.appd ?_ ?_ | refine AllP.cons ?_ ?_) | with_reducible rfl | with_reducible assumption | omega | (simp only [Nat.zero_add, Int.toNat_natCast, hx, eq1, rng, Ix.val, addQ_eq, addI, sz3, sz4, sz5, sz32, sz33, sz34, sz38, sz40, sz67, sz68, sz69, sz73, sz74, sz76, sz77, sz78] <;> omega) | (simp only [Nat.zero_add, Int.toNat_natCast, hx, eq1, rng, Ix.val, Int.toNat_natCast, mulE_eq, addQ_eq, addI, Option.getD_none, Option.getD_some, List.length_take, List.length_drop, List.length_append, List.length_set, List.length_replicate, sz3, sz4, sz5, sz32, sz33, sz34, sz38, sz40, sz67, sz68, sz69, sz73, sz74, sz76, sz77, sz78, *] <;> omega) | (simp only [Ix.val]; with_reducible assumption) | exact UInt8.toNat_lt _ | (apply Eq.trans; (with_reducible assumption); exact rfl) | exact rfl | exact fun _ _ => rfl)) ?_)
                      refine Loop.intro (σ := Nat × (Nat → Prop)) (fun s => s.1 ≤ r.length ∧ ∀ z, s.2 z ↔ (D' z ∨ ∃ j, j < s.1 ∧ r.getD j 0 = z))
                        (fun s => ([(0, .ptr 1000 0 none), (5, .ptr 32 0 none), (6, .sl 39 0 0 (n + 1) (n + 1)), (7, .sl 46 0 0 (n + 1) (n + 1)), (12, .tt), (103, .slx 1001 0 0 n), (104, .i .i64 (n : Int)), (105, .i .i64 (q : Int)), (153, .isl 0 r.length 1 [(r.length * 1, .ai (toI r))]), (154, .i .i64 (r.length : Int)), (155, .i .i64 (s.1 : Int))], [(1000, .mem false 0 [(1, .slx 1001 0 0 n), (1, .mp 1002)]), (1001, .mem false 0 [(n * 3, .arr n 3 (ttF T))]), (1002, .dead), (1003, .mem false 0 [(m * 1, .arr m 1 (rwF S))]), (32, .mem true 0 [(1, .ptr 1000 0 none), (1, .i .i64 (n : Int)), (1, .sl 30 0 0 (n + 1) (n + 1))]), (30, .mem true 0 [(n + 1, .arr (n + 1) 1 (bF K))]), (39, .mem true 0 [(n + 1, .arr (n + 1) 1 (bF (fun z => z = q + 1 ∨ O' z)))]), (46, .mem true 0 [(n + 1, .arr (n + 1) 1 (bF s.2))])]))
                        (fun s => r.length - s.1) (0, D') ⟨Nat.zero_le _, fun z => ⟨Or.inl, fun h => h.resolve_right fun ⟨j, hj, _⟩ => absurd hj (Nat.not_lt_zero _)⟩⟩ ?_ ?_
                      · refine Le.intro [] rfl ?_ rfl ?_ rfl
                        · repeat' (first | (show AllP _; first | exact trivial | refine AllP.app ?_ ?_ | refine AllP.appd ?_ ?_ | refine AllP.cons ?_ ?_) | with_reducible rfl | with_reducible assumption | omega | (simp only [Nat.zero_add, Int.toNat_natCast, hx, ← hnj1, rng, Ix.val, addQ_eq, addI, sz3, sz4, sz5, sz32, sz33, sz34, sz38, sz40, sz67, sz68, sz69, sz73, sz74, sz76, sz77, sz78] <;> omega) | (simp only [Nat.zero_add, Int.toNat_natCast, hx, ← hnj1, rng, Ix.val, Int.toNat_natCast, mulE_eq, addQ_eq, addI, Option.getD_none, Option.getD_some, List.length_take, List.length_drop, List.length_append, List.length_set, List.length_replicate, sz3, sz4, sz5, sz32, sz33, sz34, sz38, sz40, sz67, sz68, sz69, sz73, sz74, sz76, sz77, sz78, *] <;> omega) | (simp only [Ix.val]; with_reducible assumption) | exact UInt8.toNat_lt _ | (apply Eq.trans; (with_reducible assumption); exact rfl) | exact rfl | exact fun _ _ => rfl)
                        · repeat' (first | (show AllP _; first | exact trivial | refine AllP.app ?_ ?_ | refine AllP.appd ?_ ?_ | refine AllP.cons ?_ ?_) | with_reducible rfl | with_reducible assumption | omega | (simp only [Nat.zero_add, Int.toNat_natCast, hx, ← hnj1, rng, Ix.val, addQ_eq, addI, sz3, sz4, sz5, sz32, sz33, sz34, sz38, sz40, sz67, sz68, sz69, sz73, sz74, sz76, sz77, sz78] <;> omega) | (simp only [Nat.zero_add, Int.toNat_natCast, hx, ← hnj1, rng, Ix.val, Int.toNat_natCast, mulE_eq, addQ_eq, addI, Option.getD_none, Option.getD_some, List.length_take, List.length_drop, List.length_append, List.length_set, List.length_replicate, sz3, sz4, sz5, sz32, sz33, sz34, sz38, sz40, sz67, sz68, sz69, sz73, sz74, sz76, sz77, sz78, *] <;> omega) | (simp only [Ix.val]; with_reducible assumption) | exact UInt8.toNat_lt _ | (apply Eq.trans; (with_reducible assumption); exact rfl) | exact rfl | exact fun _ _ => rfl)
                          all_goals (intro q2 hq2; simp only [Ix.val, addQ_eq, Nat.zero_add, eq1]; exact bF_put (fun _ => Iff.rfl) q2)
                      rintro ⟨k, D2⟩ ⟨hk2, hD2⟩
                      have hk2 : k ≤ r.length := hk2
                      have hD2 : ∀ z, D2 z ↔ (D' z ∨ ∃ j, j < k ∧ r.getD j 0 = z) := hD2
                      refine Branch.intro (fun hd2 => ?_) (fun hd2 => ?_)
                      · have hd2 : (k : Int) < r.length := hd2
                        have hg := toI_getD r (i := k) (by omega)
                        have hz1 := hrle _ (getD_mem 0 (L := r) (i := k) (by omega))
                        obtain ⟨z, hz2⟩ : ∃ z, r.getD k 0 = z := ⟨_, rfl⟩
                        rw [hz2] at hg hz1
                        repeat (refine Side.intro (by repeat' (first | (show AllP _; first | exact trivial | refine AllP.app ?_ ?_ | refine AllP.appd ?_ ?_ | refine AllP.cons ?_ ?_) | with_reducible rfl | with_reducible assumption | omega | (simp only [Nat.zero_add, Int.toNat_natCast, hg, rng, Ix.val, addQ_eq, addI, sz3, sz4, sz5, sz32, sz33, sz34, sz38, sz40, sz67, sz68, sz69, sz73, sz74, sz76, sz77, sz78] <;> omega) | (simp only [Nat.zero_add, Int.toNat_natCast, hg, rng, Ix.val, Int.toNat_natCast, mulE_eq, addQ_eq, addI, Option.getD_none, Option.getD_some, List.length_take, List.length_drop, List.length_append, List.length_set, List.length_replicate, sz3, sz4, sz5, sz32, sz33, sz34, sz38, sz40, sz67, sz68, sz69, sz73, sz74, sz76, sz77, sz78, *] <;> omega) | (simp only [Ix.val]; with_reducible assumption) | exact UInt8.toNat_lt _ | (apply Eq.trans; (with_reducible assumption); exact rfl) | exact rfl | exact fun _ _ => rfl)) ?_)
                        refine ⟨(k + 1, fun x => x = z ∨ D2 x), ⟨by show k + 1 ≤ r.length; omega, fun x => ?_⟩, by show r.length - (k + 1) < r.length - k; omega, Le.intro [] rfl ?_ rfl ?_ rfl⟩
                        · show (x = z ∨ D2 x) ↔ _
                          rw [hD2]
                          constructor
                          · rintro (h | h | ⟨j, hj, h⟩)
                            · exact Or.inr ⟨k, Nat.lt_succ_self k, by rw [hz2, h]⟩
                            · exact Or.inl h
                            · exact Or.inr ⟨j, Nat.lt_succ_of_lt hj, h⟩
                          · rintro (h | ⟨j, hj, h⟩)
                            · exact Or.inr (Or.inl h)
                            · rcases Nat.lt_or_ge j k with hjk | hjk
                              · exact Or.inr (Or.inr ⟨j, hjk, h⟩)
                              · obtain rfl : j = k := by have : j < k + 1 := hj; omega
                                exact Or.inl (by rw [← h, hz2])
                        · exact fc
                        · repeat' (first | (show AllP _; first | exact trivial | refine AllP.app ?_ ?_ | refine AllP.appd ?_ ?_ | refine AllP.cons ?_ ?_) | with_reducible rfl | with_reducible assumption | omega | (simp only [rng, Ix.val, addQ_eq, addI, sz3, sz4, sz5, sz32, sz33, sz34, sz38, sz40, sz67, sz68, sz69, sz73, sz74, sz76, sz77, sz78] <;> omega) | (simp only [rng, Ix.val, Int.toNat_natCast, mulE_eq, addQ_eq, addI, Option.getD_none, Option.getD_some, List.length_take, List.length_drop, List.length_append, List.length_set, List.length_replicate, sz3, sz4, sz5, sz32, sz33, sz34, sz38, sz40, sz67, sz68, sz69, sz73, sz74, sz76, sz77, sz78, *] <;> omega) | (simp only [Ix.val]; with_reducible assumption) | exact UInt8.toNat_lt _ | (apply Eq.trans; (with_reducible assumption); exact rfl) | exact rfl | exact fun _ _ => rfl)
                          all_goals (intro q2 hq2; simp only [Ix.val, addQ_eq, Nat.zero_add, Int.toNat_natCast, hg]; exact bF_put (fun _ => Iff.rfl) q2)
                      · have hd2 : ¬ (k : Int) < r.length := hd2
                        have hD3 : ∀ z, D2 z ↔ (D' z ∨ (1 < x.2.length ∧ z ∈ nmJ q x.2 1)) := by
                          intro z
                          rw [hD2, hr]
                          constructor
                          · rintro (h | ⟨j, hj, h⟩)
                            · exact Or.inl h
                            · exact Or.inr ⟨hl, by rw [← h]; exact getD_mem 0 (by omega)⟩
                          · rintro (h | ⟨_, h⟩)
                            · exact Or.inl h
                            · obtain ⟨y, hy, rfl⟩ := List.getElem_of_mem h
                              exact Or.inr ⟨y, by omega, by rw [List.getD_eq_getElem?_getD, List.getElem?_eq_getElem hy]; rfl⟩
                        repeat (refine sd ?_)
                        refine ⟨(q + 1, (fun z => z = q + 1 ∨ O' z), D2, True), ⟨by show q + 1 ≤ n; omega, hO.opens (by omega) hT (by rw [hx]; exact h8) ht ho (by rw [hx]; exact hk) (by rw [hx]; exact hD3)⟩, by show n - (q + 1) < n - q; omega, Le.intro [] rfl ?_ rfl ?_ rfl⟩
                        · exact fc
                        · exact fc
                    · have hl : ¬ 1 < x.2.length := fun h => hl (by show (1 : Int) < ((T.getD q te0).2.length : Int); rw [hx]; omega)
                      repeat (refine sd ?_)
                      refine ⟨(q + 1, (fun z => z = q + 1 ∨ O' z), D', True), ⟨by show q + 1 ≤ n; omega, hO.opens (by omega) hT (by rw [hx]; exact h8) ht ho (by rw [hx]; exact hk) (by rw [hx]; exact fun z => ⟨Or.inl, fun h => h.resolve_right fun h => hl h.1⟩)⟩, by show n - (q + 1) < n - q; omega, Le.intro [] rfl ?_ rfl ?_ rfl⟩
                      · exact fc
                      · repeat' (first | (show AllP _; first | exact trivial | refine AllP.app ?_ ?_ | refine AllP.appd ?_ ?_ | refine AllP.cons ?_ ?_) | with_reducible rfl | with_reducible assumption | omega | (simp only [rng, Ix.val, addQ_eq, addI, sz3, sz4, sz5, sz32, sz33, sz34, sz38, sz40, sz67, sz68, sz69, sz73, sz74, sz76, sz77, sz78] <;> omega) | (simp only [rng, Ix.val, Int.toNat_natCast, mulE_eq, addQ_eq, addI, Option.getD_none, Option.getD_some, List.length_take, List.length_drop, List.length_append, List.length_set, List.length_replicate, sz3, sz4, sz5, sz32, sz33, sz34, sz38, sz40, sz67, sz68, sz69, sz73, sz74, sz76, sz77, sz78, *] <;> omega) | (simp only [Ix.val]; with_reducible assumption) | exact UInt8.toNat_lt _ | (apply Eq.trans; (with_reducible assumption); exact rfl) | exact rfl | exact fun _ _ => rfl)
                        all_goals (intro q2 hq2; simp only [Ix.val, addQ_eq, Nat.zero_add, eq1]; exact bF_put (fun _ => Iff.rfl) q2)
                  · have hz : x.2.length ≠ 0 := by have h : ¬ ((T.getD q te0).2.length : Int) = 0 := hz; rw [hx] at h; omega
                    have hnj := nmJ_eq q x.2 0
                    obtain ⟨l, hl⟩ : ∃ l, nmJ q x.2 0 = l := ⟨_, rfl⟩
                    rw [hl] at hnj
                    have hxy := hV.1.2 _ (by rw [hx]; exact getD_mem [] (L := x.2) (i := 0) (by omega))
                    have hl6 : l.length ≤ 1000001 := by rw [hnj]; have := inL_len (x.2.getD 0 []) q 0; omega
                    have hle : ∀ z ∈ l, z ≤ n := fun z hz => by rw [hnj] at hz; have := (inL_le hz).2; omega
                    have hA := fn27 l l.length rfl hl6 n hle (by omega) K
                    have htl := toI_len l
                    have hgx : T.getD (Ix.dyn ((q : Int)).toNat).val te0 = x := hx
                    repeat (refine Side.intro (by repeat' (first | (show AllP _; first | exact trivial | refine AllP.app ?_ ?_ | refine AllP.appd ?_ ?_ | refine AllP.cons ?_ ?_) | with_reducible rfl | with_reducible assumption | omega | (simp only [Nat.zero_add, Int.toNat_natCast, hx, rng, Ix.val, addQ_eq, addI, sz3, sz4, sz5, sz32, sz33, sz34, sz38, sz40, sz67, sz68, sz69, sz73, sz74, sz76, sz77, sz78] <;> omega) | (simp only [Nat.zero_add, Int.toNat_natCast, hx, rng, Ix.val, Int.toNat_natCast, mulE_eq, addQ_eq, addI, Option.getD_none, Option.getD_some, List.length_take, List.length_drop, List.length_append, List.length_set, List.length_replicate, sz3, sz4, sz5, sz32, sz33, sz34, sz38, sz40, sz67, sz68, sz69, sz73, sz74, sz76, sz77, sz78, *] <;> omega) | (simp only [Ix.val]; with_reducible assumption) | exact UInt8.toNat_lt _ | (apply Eq.trans; (with_reducible assumption); exact rfl) | exact rfl | exact fun _ _ => rfl)) ?_)
                    refine Call.name [(0, []), (2001, [])] rfl trivial (CallP.intro hA [(1000, (32, 0, none)), (1001, (30, 0, none)), (1002, (1000, 0, none)), (1003, (2001, 0, none))] rfl ?_ rfl ?_ rfl ?_)
                    · repeat' (first | (show AllP _; first | exact trivial | refine AllP.app ?_ ?_ | refine AllP.appd ?_ ?_ | refine AllP.cons ?_ ?_) | with_reducible rfl | with_reducible assumption | omega | (simp only [Nat.zero_add, Int.toNat_natCast, hx, ← hnj, rng, Ix.val, addQ_eq, addI, sz3, sz4, sz5, sz32, sz33, sz34, sz38, sz40, sz67, sz68, sz69, sz73, sz74, sz76, sz77, sz78] <;> omega) | (simp only [Nat.zero_add, Int.toNat_natCast, hx, ← hnj, rng, Ix.val, Int.toNat_natCast, mulE_eq, addQ_eq, addI, Option.getD_none, Option.getD_some, List.length_take, List.length_drop, List.length_append, List.length_set, List.length_replicate, sz3, sz4, sz5, sz32, sz33, sz34, sz38, sz40, sz67, sz68, sz69, sz73, sz74, sz76, sz77, sz78, *] <;> omega) | (simp only [Ix.val]; with_reducible assumption) | exact UInt8.toNat_lt _ | (apply Eq.trans; (with_reducible assumption); exact rfl) | exact rfl | exact fun _ _ => rfl)
                    · repeat' (first | (show AllP _; first | exact trivial | refine AllP.app ?_ ?_ | refine AllP.appd ?_ ?_ | refine AllP.cons ?_ ?_) | with_reducible rfl | with_reducible assumption | omega | (simp only [Nat.zero_add, Int.toNat_natCast, hx, ← hnj, rng, Ix.val, addQ_eq, addI, sz3, sz4, sz5, sz32, sz33, sz34, sz38, sz40, sz67, sz68, sz69, sz73, sz74, sz76, sz77, sz78] <;> omega) | (simp only [Nat.zero_add, Int.toNat_natCast, hx, ← hnj, rng, Ix.val, Int.toNat_natCast, mulE_eq, addQ_eq, addI, Option.getD_none, Option.getD_some, List.length_take, List.length_drop, List.length_append, List.length_set, List.length_replicate, sz3, sz4, sz5, sz32, sz33, sz34, sz38, sz40, sz67, sz68, sz69, sz73, sz74, sz76, sz77, sz78, *] <;> omega) | (simp only [Ix.val]; with_reducible assumption) | exact UInt8.toNat_lt _ | (apply Eq.trans; (with_reducible assumption); exact rfl) | exact rfl | exact fun _ _ => rfl)
                    rintro v M' ⟨rfl, rfl⟩
                    dsimp only [putT, afterM, newEnt, ren, renA, renS, renL, look, getM, getT, ev, evL, ofVal, cond_true, cond_false, Nat.beq_eq, act, isPar, ownPar, Ent.isOwn]
                    repeat (refine sd ?_)
                    refine Branch.intro (fun hal => ?_) (fun hal => ?_)
                    · have hal : AllK K l := hal
                      have hk : x.2.length = 0 ∨ AllK K (nmJ q x.2 0) := Or.inr (by rw [hl]; exact hal)
                      repeat (refine Side.intro (by repeat' (first | (show AllP _; first | exact trivial | refine AllP.app ?_ ?_ | refine AllP.appd ?_ ?_ | refine AllP.cons ?_ ?_) | with_reducible rfl | with_reducible assumption | omega | (simp only [Nat.zero_add, Int.toNat_natCast, hx, eq1, rng, Ix.val, addQ_eq, addI, sz3, sz4, sz5, sz32, sz33, sz34, sz38, sz40, sz67, sz68, sz69, sz73, sz74, sz76, sz77, sz78] <;> omega) | (simp only [Nat.zero_add, Int.toNat_natCast, hx, eq1, rng, Ix.val, Int.toNat_natCast, mulE_eq, addQ_eq, addI, Option.getD_none, Option.getD_some, List.length_take, List.length_drop, List.length_append, List.length_set, List.length_replicate, sz3, sz4, sz5, sz32, sz33, sz34, sz38, sz40, sz67, sz68, sz69, sz73, sz74, sz76, sz77, sz78, *] <;> omega) | (simp only [Ix.val]; with_reducible assumption) | exact UInt8.toNat_lt _ | (apply Eq.trans; (with_reducible assumption); exact rfl) | exact rfl | exact fun _ _ => rfl)) ?_)
                      refine Branch.intro (fun hl => ?_) (fun hl => ?_)
                      · have hl : 1 < x.2.length := by have h : (1 : Int) < ((T.getD q te0).2.length : Int) := hl; rw [hx] at h; omega
                        have hnj1 := nmJ_eq q x.2 1
                        obtain ⟨r, hr⟩ : ∃ r, nmJ q x.2 1 = r := ⟨_, rfl⟩
                        rw [hr] at hnj1
                        have hxy1 := hV.1.2 _ (by rw [hx]; exact getD_mem [] (L := x.2) (i := 1) hl)
                        have hr6 : r.length ≤ 1000001 := by rw [hnj1]; have := inL_len (x.2.getD 1 []) q 0; omega
                        have hrle : ∀ z ∈ r, 1 ≤ z ∧ z ≤ n := fun z hz => by rw [hnj1] at hz; have := inL_le hz; omega
                        have htr := toI_len r
                        repeat (refine Side.intro (by repeat' (first | (show AllP _; first | exact trivial | refine AllP.app ?_ ?_ | refine AllP.appd ?_ ?_ | refine AllP.cons ?_ ?_) | with_reducible rfl | with_reducible assumption | omega | (simp only [Nat.zero_add, Int.toNat_natCast, hx, eq1, rng, Ix.val, addQ_eq, addI, sz3, sz4, sz5, sz32, sz33, sz34, sz38, sz40, sz67, sz68, sz69, sz73, sz74, sz76, sz77, sz78] <;> omega) | (simp only [Nat.zero_add, Int.toNat_natCast, hx, eq1, rng, Ix.val, Int.toNat_natCast, mulE_eq, addQ_eq, addI, Option.getD_none, Option.getD_some, List.length_take, List.length_drop, List.length_append, List.length_set, List.length_replicate, sz3, sz4, sz5, sz32, sz33, sz34, sz38, sz40, sz67, sz68, sz69, sz73, sz74, sz76, sz77, sz78, *] <;> omega) | (simp only [Ix.val]; with_reducible assumption) | exact UInt8.toNat_lt _ | (apply Eq.trans; (with_reducible assumption); exact rfl) | exact rfl | exact fun _ _ => rfl)) ?_)
                        refine Loop.intro (σ := Nat × (Nat → Prop)) (fun s => s.1 ≤ r.length ∧ ∀ z, s.2 z ↔ (D' z ∨ ∃ j, j < s.1 ∧ r.getD j 0 = z))
                          (fun s => ([(0, .ptr 1000 0 none), (5, .ptr 32 0 none), (6, .sl 39 0 0 (n + 1) (n + 1)), (7, .sl 46 0 0 (n + 1) (n + 1)), (12, .tt), (103, .slx 1001 0 0 n), (104, .i .i64 (n : Int)), (105, .i .i64 (q : Int)), (153, .isl 0 r.length 1 [(r.length * 1, .ai (toI r))]), (154, .i .i64 (r.length : Int)), (155, .i .i64 (s.1 : Int))], [(1000, .mem false 0 [(1, .slx 1001 0 0 n), (1, .mp 1002)]), (1001, .mem false 0 [(n * 3, .arr n 3 (ttF T))]), (1002, .dead), (1003, .mem false 0 [(m * 1, .arr m 1 (rwF S))]), (32, .mem true 0 [(1, .ptr 1000 0 none), (1, .i .i64 (n : Int)), (1, .sl 30 0 0 (n + 1) (n + 1))]), (30, .mem true 0 [(n + 1, .arr (n + 1) 1 (bF K))]), (39, .mem true 0 [(n + 1, .arr (n + 1) 1 (bF (fun z => z = q + 1 ∨ O' z)))]), (46, .mem true 0 [(n + 1, .arr (n + 1) 1 (bF s.2))])]))
                          (fun s => r.length - s.1) (0, D') ⟨Nat.zero_le _, fun z => ⟨Or.inl, fun h => h.resolve_right fun ⟨j, hj, _⟩ => absurd hj (Nat.not_lt_zero _)⟩⟩ ?_ ?_
                        · refine Le.intro [] rfl ?_ rfl ?_ rfl
                          · repeat' (first | (show AllP _; first | exact trivial | refine AllP.app ?_ ?_ | refine AllP.appd ?_ ?_ | refine AllP.cons ?_ ?_) | with_reducible rfl | with_reducible assumption | omega | (simp only [Nat.zero_add, Int.toNat_natCast, hx, ← hnj1, rng, Ix.val, addQ_eq, addI, sz3, sz4, sz5, sz32, sz33, sz34, sz38, sz40, sz67, sz68, sz69, sz73, sz74, sz76, sz77, sz78] <;> omega) | (simp only [Nat.zero_add, Int.toNat_natCast, hx, ← hnj1, rng, Ix.val, Int.toNat_natCast, mulE_eq, addQ_eq, addI, Option.getD_none, Option.getD_some, List.length_take, List.length_drop, List.length_append, List.length_set, List.length_replicate, sz3, sz4, sz5, sz32, sz33, sz34, sz38, sz40, sz67, sz68, sz69, sz73, sz74, sz76, sz77, sz78, *] <;> omega) | (simp only [Ix.val]; with_reducible assumption) | exact UInt8.toNat_lt _ | (apply Eq.trans; (with_reducible assumption); exact rfl) | exact rfl | exact fun _ _ => rfl)
                          · repeat' (first | (show AllP _; first | exact trivial | refine AllP.app ?_ ?_ | refine AllP.appd ?_ ?_ | refine AllP.cons ?_ ?_) | with_reducible rfl | with_reducible assumption | omega | (simp only [Nat.zero_add, Int.toNat_natCast, hx, ← hnj1, rng, Ix.val, addQ_eq, addI, sz3, sz4, sz5, sz32, sz33, sz34, sz38, sz40, sz67, sz68, sz69, sz73, sz74, sz76, sz77, sz78] <;> omega) | (simp only [Nat.zero_add, Int.toNat_natCast, hx, ← hnj1, rng, Ix.val, Int.toNat_natCast, mulE_eq, addQ_eq, addI, Option.getD_none, Option.getD_some, List.length_take, List.length_drop, List.length_append, List.length_set, List.length_replicate, sz3, sz4, sz5, sz32, sz33, sz34, sz38, sz40, sz67, sz68, sz69, sz73, sz74, sz76, sz77, sz78, *] <;> omega) | (simp only [Ix.val]; with_reducible assumption) | exact UInt8.toNat_lt _ | (apply Eq.trans; (with_reducible assumption); exact rfl) | exact rfl | exact fun _ _ => rfl)
                            all_goals (intro q2 hq2; simp only [Ix.val, addQ_eq, Nat.zero_add, eq1]; exact bF_put (fun _ => Iff.rfl) q2)
                        rintro ⟨k, D2⟩ ⟨hk2, hD2⟩
                        have hk2 : k ≤ r.length := hk2
                        have hD2 : ∀ z, D2 z ↔ (D' z ∨ ∃ j, j < k ∧ r.getD j 0 = z) := hD2
                        refine Branch.intro (fun hd2 => ?_) (fun hd2 => ?_)
                        · have hd2 : (k : Int) < r.length := hd2
                          have hg := toI_getD r (i := k) (by omega)
                          have hz1 := hrle _ (getD_mem 0 (L := r) (i := k) (by omega))
                          obtain ⟨z, hz2⟩ : ∃ z, r.getD k 0 = z := ⟨_, rfl⟩
                          rw [hz2] at hg hz1
                          repeat (refine Side.intro (by repeat' (first | (show AllP _; first | exact trivial | refine AllP.app ?_ ?_ | refine AllP.appd ?_ ?_ | refine AllP.cons ?_ ?_) | with_reducible rfl | with_reducible assumption | omega | (simp only [Nat.zero_add, Int.toNat_natCast, hg, rng, Ix.val, addQ_eq, addI, sz3, sz4, sz5, sz32, sz33, sz34, sz38, sz40, sz67, sz68, sz69, sz73, sz74, sz76, sz77, sz78] <;> omega) | (simp only [Nat.zero_add, Int.toNat_natCast, hg, rng, Ix.val, Int.toNat_natCast, mulE_eq, addQ_eq, addI, Option.getD_none, Option.getD_some, List.length_take, List.length_drop, List.length_append, List.length_set, List.length_replicate, sz3, sz4, sz5, sz32, sz33, sz34, sz38, sz40, sz67, sz68, sz69, sz73, sz74, sz76, sz77, sz78, *] <;> omega) | (simp only [Ix.val]; with_reducible assumption) | exact UInt8.toNat_lt _ | (apply Eq.trans; (with_reducible assumption); exact rfl) | exact rfl | exact fun _ _ => rfl)) ?_)
                          refine ⟨(k + 1, fun x => x = z ∨ D2 x), ⟨by show k + 1 ≤ r.length; omega, fun x => ?_⟩, by show r.length - (k + 1) < r.length - k; omega, Le.intro [] rfl ?_ rfl ?_ rfl⟩
                          · show (x = z ∨ D2 x) ↔ _
                            rw [hD2]
                            constructor
                            · rintro (h | h | ⟨j, hj, h⟩)
                              · exact Or.inr ⟨k, Nat.lt_succ_self k, by rw [hz2, h]⟩
                              · exact Or.inl h
                              · exact Or.inr ⟨j, Nat.lt_succ_of_lt hj, h⟩
                            · rintro (h | ⟨j, hj, h⟩)
                              · exact Or.inr (Or.inl h)
                              · rcases Nat.lt_or_ge j k with hjk | hjk
                                · exact Or.inr (Or.inr ⟨j, hjk, h⟩)
                                · obtain rfl : j = k := by have : j < k + 1 := hj; omega
                                  exact Or.inl (by rw [← h, hz2])
                          · exact fc
                          · repeat' (first | (show AllP _; first | exact trivial | refine AllP.app ?_ ?_ | refine AllP.appd ?_ ?_ | refine AllP.cons ?_ ?_) | with_reducible rfl | with_reducible assumption | omega | (simp only [rng, Ix.val, addQ_eq, addI, sz3, sz4, sz5, sz32, sz33, sz34, sz38, sz40, sz67, sz68, sz69, sz73, sz74, sz76, sz77, sz78] <;> omega) | (simp only [rng, Ix.val, Int.toNat_natCast, mulE_eq, addQ_eq, addI, Option.getD_none, Option.getD_some, List.length_take, List.length_drop, List.length_append, List.length_set, List.length_replicate, sz3, sz4, sz5, sz32, sz33, sz34, sz38, sz40, sz67, sz68, sz69, sz73, sz74, sz76, sz77, sz78, *] <;> omega) | (simp only [Ix.val]; with_reducible assumption) | exact UInt8.toNat_lt _ | (apply Eq.trans; (with_reducible assumption); exact rfl) | exact rfl | exact fun _ _ => rfl)
                            all_goals (intro q2 hq2; simp only [Ix.val, addQ_eq, Nat.zero_add, Int.toNat_natCast, hg]; exact bF_put (fun _ => Iff.rfl) q2)
                        · have hd2 : ¬ (k : Int) < r.length := hd2
                          have hD3 : ∀ z, D2 z ↔ (D' z ∨ (1 < x.2.length ∧ z ∈ nmJ q x.2 1)) := by
                            intro z
                            rw [hD2, hr]
                            constructor
                            · rintro (h | ⟨j, hj, h⟩)
                              · exact Or.inl h
                              · exact Or.inr ⟨hl, by rw [← h]; exact getD_mem 0 (by omega)⟩
                            · rintro (h | ⟨_, h⟩)
                              · exact Or.inl h
                              · obtain ⟨y, hy, rfl⟩ := List.getElem_of_mem h
                                exact Or.inr ⟨y, by omega, by rw [List.getD_eq_getElem?_getD, List.getElem?_eq_getElem hy]; rfl⟩
                          repeat (refine sd ?_)
                          refine ⟨(q + 1, (fun z => z = q + 1 ∨ O' z), D2, True), ⟨by show q + 1 ≤ n; omega, hO.opens (by omega) hT (by rw [hx]; exact h8) ht ho (by rw [hx]; exact hk) (by rw [hx]; exact hD3)⟩, by show n - (q + 1) < n - q; omega, Le.intro [] rfl ?_ rfl ?_ rfl⟩
                          · exact fc
                          · exact fc
                      · have hl : ¬ 1 < x.2.length := fun h => hl (by show (1 : Int) < ((T.getD q te0).2.length : Int); rw [hx]; omega)
                        repeat (refine sd ?_)
                        refine ⟨(q + 1, (fun z => z = q + 1 ∨ O' z), D', True), ⟨by show q + 1 ≤ n; omega, hO.opens (by omega) hT (by rw [hx]; exact h8) ht ho (by rw [hx]; exact hk) (by rw [hx]; exact fun z => ⟨Or.inl, fun h => h.resolve_right fun h => hl h.1⟩)⟩, by show n - (q + 1) < n - q; omega, Le.intro [] rfl ?_ rfl ?_ rfl⟩
                        · exact fc
                        · repeat' (first | (show AllP _; first | exact trivial | refine AllP.app ?_ ?_ | refine AllP.appd ?_ ?_ | refine AllP.cons ?_ ?_) | with_reducible rfl | with_reducible assumption | omega | (simp only [rng, Ix.val, addQ_eq, addI, sz3, sz4, sz5, sz32, sz33, sz34, sz38, sz40, sz67, sz68, sz69, sz73, sz74, sz76, sz77, sz78] <;> omega) | (simp only [rng, Ix.val, Int.toNat_natCast, mulE_eq, addQ_eq, addI, Option.getD_none, Option.getD_some, List.length_take, List.length_drop, List.length_append, List.length_set, List.length_replicate, sz3, sz4, sz5, sz32, sz33, sz34, sz38, sz40, sz67, sz68, sz69, sz73, sz74, sz76, sz77, sz78, *] <;> omega) | (simp only [Ix.val]; with_reducible assumption) | exact UInt8.toNat_lt _ | (apply Eq.trans; (with_reducible assumption); exact rfl) | exact rfl | exact fun _ _ => rfl)
                          all_goals (intro q2 hq2; simp only [Ix.val, addQ_eq, Nat.zero_add, eq1]; exact bF_put (fun _ => Iff.rfl) q2)
                    · have hal : ¬ AllK K l := hal
                      repeat (refine Side.intro (by repeat' (first | (show AllP _; first | exact trivial | refine AllP.app ?_ ?_ | refine AllP.appd ?_ ?_ | refine AllP.cons ?_ ?_) | with_reducible rfl | with_reducible assumption | omega | (simp only [Nat.zero_add, Int.toNat_natCast, hx, eq1, rng, Ix.val, addQ_eq, addI, sz3, sz4, sz5, sz32, sz33, sz34, sz38, sz40, sz67, sz68, sz69, sz73, sz74, sz76, sz77, sz78] <;> omega) | (simp only [Nat.zero_add, Int.toNat_natCast, hx, eq1, rng, Ix.val, Int.toNat_natCast, mulE_eq, addQ_eq, addI, Option.getD_none, Option.getD_some, List.length_take, List.length_drop, List.length_append, List.length_set, List.length_replicate, sz3, sz4, sz5, sz32, sz33, sz34, sz38, sz40, sz67, sz68, sz69, sz73, sz74, sz76, sz77, sz78, *] <;> omega) | (simp only [Ix.val]; with_reducible assumption) | exact UInt8.toNat_lt _ | (apply Eq.trans; (with_reducible assumption); exact rfl) | exact rfl | exact fun _ _ => rfl)) ?_)
                      refine ⟨(q + 1, O', D', ag'), ⟨by show q + 1 ≤ n; omega, hO.pass (by omega) (by rw [hx]; exact (fun h => h.2.2.2.elim hz (fun h => hal (by rw [← hl]; exact h))))⟩, by show n - (q + 1) < n - q; omega, Le.intro [] rfl ?_ rfl ?_ rfl⟩
                      · exact fc
                      · exact fc
                · have ho : O' (q + 1) := (eP O').1 (Classical.byContradiction ho)
                  repeat (refine Side.intro (by repeat' (first | (show AllP _; first | exact trivial | refine AllP.app ?_ ?_ | refine AllP.appd ?_ ?_ | refine AllP.cons ?_ ?_) | with_reducible rfl | with_reducible assumption | omega | (simp only [Nat.zero_add, Int.toNat_natCast, hx, eq1, rng, Ix.val, addQ_eq, addI, sz3, sz4, sz5, sz32, sz33, sz34, sz38, sz40, sz67, sz68, sz69, sz73, sz74, sz76, sz77, sz78] <;> omega) | (simp only [Nat.zero_add, Int.toNat_natCast, hx, eq1, rng, Ix.val, Int.toNat_natCast, mulE_eq, addQ_eq, addI, Option.getD_none, Option.getD_some, List.length_take, List.length_drop, List.length_append, List.length_set, List.length_replicate, sz3, sz4, sz5, sz32, sz33, sz34, sz38, sz40, sz67, sz68, sz69, sz73, sz74, sz76, sz77, sz78, *] <;> omega) | (simp only [Ix.val]; with_reducible assumption) | exact UInt8.toNat_lt _ | (apply Eq.trans; (with_reducible assumption); exact rfl) | exact rfl | exact fun _ _ => rfl)) ?_)
                  refine ⟨(q + 1, O', D', ag'), ⟨by show q + 1 ≤ n; omega, hO.pass (by omega) (by rw [hx]; exact (fun h => h.2.2.1 ho))⟩, by show n - (q + 1) < n - q; omega, Le.intro [] rfl ?_ rfl ?_ rfl⟩
                  · exact fc
                  · exact fc
              · have ht : ¬ D' (q + 1) := fun h => ht ((eP D').2 h)
                repeat (refine Side.intro (by repeat' (first | (show AllP _; first | exact trivial | refine AllP.app ?_ ?_ | refine AllP.appd ?_ ?_ | refine AllP.cons ?_ ?_) | with_reducible rfl | with_reducible assumption | omega | (simp only [Nat.zero_add, Int.toNat_natCast, hx, eq1, rng, Ix.val, addQ_eq, addI, sz3, sz4, sz5, sz32, sz33, sz34, sz38, sz40, sz67, sz68, sz69, sz73, sz74, sz76, sz77, sz78] <;> omega) | (simp only [Nat.zero_add, Int.toNat_natCast, hx, eq1, rng, Ix.val, Int.toNat_natCast, mulE_eq, addQ_eq, addI, Option.getD_none, Option.getD_some, List.length_take, List.length_drop, List.length_append, List.length_set, List.length_replicate, sz3, sz4, sz5, sz32, sz33, sz34, sz38, sz40, sz67, sz68, sz69, sz73, sz74, sz76, sz77, sz78, *] <;> omega) | (simp only [Ix.val]; with_reducible assumption) | exact UInt8.toNat_lt _ | (apply Eq.trans; (with_reducible assumption); exact rfl) | exact rfl | exact fun _ _ => rfl)) ?_)
                refine ⟨(q + 1, O', D', ag'), ⟨by show q + 1 ≤ n; omega, hO.pass (by omega) (by rw [hx]; exact (fun h => ht h.2.1))⟩, by show n - (q + 1) < n - q; omega, Le.intro [] rfl ?_ rfl ?_ rfl⟩
                · exact fc
                · exact fc
            · have h8 : ¬ x.1 = 8 := by rw [← hx]; exact h8
              repeat (refine Side.intro (by repeat' (first | (show AllP _; first | exact trivial | refine AllP.app ?_ ?_ | refine AllP.appd ?_ ?_ | refine AllP.cons ?_ ?_) | with_reducible rfl | with_reducible assumption | omega | (simp only [Nat.zero_add, Int.toNat_natCast, hx, eq1, rng, Ix.val, addQ_eq, addI, sz3, sz4, sz5, sz32, sz33, sz34, sz38, sz40, sz67, sz68, sz69, sz73, sz74, sz76, sz77, sz78] <;> omega) | (simp only [Nat.zero_add, Int.toNat_natCast, hx, eq1, rng, Ix.val, Int.toNat_natCast, mulE_eq, addQ_eq, addI, Option.getD_none, Option.getD_some, List.length_take, List.length_drop, List.length_append, List.length_set, List.length_replicate, sz3, sz4, sz5, sz32, sz33, sz34, sz38, sz40, sz67, sz68, sz69, sz73, sz74, sz76, sz77, sz78, *] <;> omega) | (simp only [Ix.val]; with_reducible assumption) | exact UInt8.toNat_lt _ | (apply Eq.trans; (with_reducible assumption); exact rfl) | exact rfl | exact fun _ _ => rfl)) ?_)
              refine ⟨(q + 1, O', D', ag'), ⟨by show q + 1 ≤ n; omega, hO.pass (by omega) (by rw [hx]; exact (fun h => h8 h.1))⟩, by show n - (q + 1) < n - q; omega, Le.intro [] rfl ?_ rfl ?_ rfl⟩
              · exact fc
              · exact fc
          · have hd : ¬ (q : Int) < n := hd
            obtain rfl : n = q := by omega
            refine ⟨(K, O', D', ag'), ⟨hO.rd, fun ha => RdI.closed hT hS hH hO ha⟩, ?_, Le.intro [] rfl ?_ rfl ?_ rfl⟩
            · show 2 * cntN O' n + (open Classical in if ag' then 1 else 0) < 2 * cntN O n + (open Classical in if ag then 1 else 0)
              rw [if_pos hag]
              by_cases ha : ag'
              · rw [if_pos ha]; have := hO.less ha; omega
              · rw [if_neg ha]; have := cntN_le hO.oo n; omega
            · exact fc
            · exact fc
      · have hag : ¬ ag := hag
        have hC := hCl hag
        have hKe : ∀ q, K q ↔ KnP T S q := fun q => ⟨hR.ks q, fun h => h K D hC⟩
        repeat (refine sd ?_)
        refine Ret.intro (.ptr 1005 0 none) [(1000, .mem false 0 [(1, .slx 1001 0 0 n), (1, .mp 1002)]), (1001, .mem false 0 [(n * 3, .arr n 3 (ttF T))]), (1002, .dead), (1003, .mem false 0 [(m * 1, .arr m 1 (rwF S))]), (1005, .mem true 0 [(1, .ptr 1000 0 none), (1, .i .i64 (n : Int)), (1, .sl 1006 0 0 (n + 1) (n + 1))]), (1006, .mem true 0 [(n + 1, .arr (n + 1) 1 (bF (KnP T S)))])] [(1005, (32, 0, none)), (1006, (30, 0, none))] rfl ?_ ⟨rfl, rfl⟩ rfl ?_ rfl ?_ rfl
        · exact fc
        · exact fc
        · repeat' (first | (show AllP _; first | exact trivial | refine AllP.app ?_ ?_ | refine AllP.appd ?_ ?_ | refine AllP.cons ?_ ?_) | with_reducible rfl | with_reducible assumption | omega | (simp only [rng, Ix.val, addQ_eq, addI, sz3, sz4, sz5, sz32, sz33, sz34, sz38, sz40, sz67, sz68, sz69, sz73, sz74, sz76, sz77, sz78] <;> omega) | (simp only [rng, Ix.val, Int.toNat_natCast, mulE_eq, addQ_eq, addI, Option.getD_none, Option.getD_some, List.length_take, List.length_drop, List.length_append, List.length_set, List.length_replicate, sz3, sz4, sz5, sz32, sz33, sz34, sz38, sz40, sz67, sz68, sz69, sz73, sz74, sz76, sz77, sz78, *] <;> omega) | (simp only [Ix.val]; with_reducible assumption) | exact UInt8.toNat_lt _ | (apply Eq.trans; (with_reducible assumption); exact rfl) | exact rfl | exact fun _ _ => rfl)
          all_goals exact fun q _ => bF_congr (hKe q).symm

end Go.Proofs.Ytoaaplgjacjlpaa
