/- What the functions of the program compute. No condition. -/
import Derived.Test.YtoaaplgjacjlpaaHwTm16ToTm16
set_option linter.unusedSimpArgs false
set_option linter.unusedVariables false
namespace Go.Proofs.Ytoaaplgjacjlpaa
open Go Go.Sx

/-! ref12.Table.Known. -/

set_option maxRecDepth 100000 in
set_option maxHeartbeats 4000000 in
theorem fn13 (T : List Te) (n : Nat) (hT : T.length = n) (hn : n ≤ 60000) (hTv : ∀ x ∈ T, Valid x.1 x.2) (S : List (List UInt8)) (m : Nat) (hS : S.length = m) (hm : m ≤ 1000000) (hSs : ∀ x ∈ S, x.length ≤ 1000000) :
    Sx.Fn Γ.P 13 [.ptr 1000 0 none, .slx 1003 0 0 m] [(1000, .mem false 0 [(1, .slx 1001 0 0 n)]), (1001, .mem false 0 [(n * 2, .arr n 2 (rtF T))]), (1003, .mem false 0 [(m * 1, .arr m 1 (rwF S))])]
    (fun v M => v = .sl 1006 0 0 (n + 1) (n + 1) ∧ M = [(1000, .mem false 0 [(1, .slx 1001 0 0 n)]), (1001, .mem false 0 [(n * 2, .arr n 2 (rtF T))]), (1003, .mem false 0 [(m * 1, .arr m 1 (rwF S))]), (1006, .mem true 0 [(n + 1, .arr (n + 1) 1 (bF (KnP T S)))])]) := by
  have hby3 : (Γ.ty 3).bytes = 8 := rfl
  have hby4 : (Γ.ty 4).bytes = 1 := rfl
  have en : ((n : Int) + 1).toNat = n + 1 := by omega
  unfold rwS at *
  refine fn_cut [1000029, 1000032, 1000017, 1000027, 1000024] (Γ := Γ) (fn := Try.f13) rfl rfl rfl rfl ?_
  repeat (refine sd ?_)
  refine Loop.intro (σ := Nat) (fun i => i ≤ m)
    (fun i => ([(0, .ptr 1000 0 none), (5, .i .i64 (n : Int)), (6, .sl 28 0 0 (n + 1) (n + 1)), (7, .sl 31 0 0 (n + 1) (n + 1)), (1, .slx 1003 0 0 m), (8, .i .i64 (i : Int))], [(1000, .mem false 0 [(1, .slx 1001 0 0 n)]), (1001, .mem false 0 [(n * 2, .arr n 2 (rtF T))]), (1003, .mem false 0 [(m * 1, .arr m 1 (rwF S))]), (28, .mem true 0 [(n + 1, .arr (n + 1) 1 (bF (tdF S n i)))]), (31, .mem true 0 [(n + 1, .arr (n + 1) 1 (bF (fun _ => False)))])]))
    (fun i => m - i) 0 (Nat.zero_le _) ?_ ?_
  · have h0 : ∀ q, bF (tdF S n 0) q = [(1, .bool False)] := fun q => by
      unfold bF
      rw [show tdF S n 0 q = False from propext ⟨fun ⟨j, hj, _⟩ => absurd hj (Nat.not_lt_zero _), False.elim⟩]
    have h1 : ∀ q, bF (fun _ => False) q = [(1, .bool False)] := fun q => rfl
    refine Le.intro [] rfl ?_ rfl ?_ rfl
    · exact fc
    · repeat' (first | (show AllP _; first | exact trivial | refine AllP.app ?_ ?_ | refine AllP.appd ?_ ?_ | refine AllP.cons ?_ ?_) | with_reducible rfl | with_reducible assumption | omega | (simp only [rng, Ix.val, addQ_eq, addI, sz3, sz4, sz5, sz28, sz29, sz30, sz32, sz33, sz34, sz40, sz42, sz56, sz57] <;> omega) | (simp only [rng, Ix.val, Int.toNat_natCast, mulE_eq, addQ_eq, addI, Option.getD_none, Option.getD_some, List.length_take, List.length_drop, List.length_append, List.length_set, List.length_replicate, sz3, sz4, sz5, sz28, sz29, sz30, sz32, sz33, sz34, sz40, sz42, sz56, sz57, *] <;> omega) | (simp only [Ix.val]; with_reducible assumption) | exact UInt8.toNat_lt _ | (apply Eq.trans; (with_reducible assumption); exact rfl) | exact rfl | exact fun _ _ => rfl)
      all_goals (intro q hq; first | rw [h0]; exact rfl | exact rfl)
  · rintro i hi
    have hi : i ≤ m := hi
    refine Branch.intro (fun hc => ?_) (fun hc => ?_)
    · have hc : (i : Int) < m := hc
      have hbl := hSs _ (getD_mem [] (L := S) (i := i) (by omega))
      obtain ⟨b, hb⟩ : ∃ b, S.getD i [] = b := ⟨_, rfl⟩
      rw [hb] at hbl
      have hI := fn20 b b.length rfl n (by omega) hbl
      obtain ⟨l, hl⟩ : ∃ l, inL b n 0 = l := ⟨_, rfl⟩
      have hle : ∀ z ∈ l, 1 ≤ z ∧ z ≤ n := fun z hz => by rw [← hl] at hz; exact inL_le hz
      have hl6 := inL_len b n 0
      rw [hl] at hI hl6
      unfold rwF
      repeat (refine Side.intro (by repeat' (first | (show AllP _; first | exact trivial | refine AllP.app ?_ ?_ | refine AllP.appd ?_ ?_ | refine AllP.cons ?_ ?_) | with_reducible rfl | with_reducible assumption | omega | (simp only [Nat.zero_add, Int.toNat_natCast, hb, rng, Ix.val, addQ_eq, addI, sz3, sz4, sz5, sz28, sz29, sz30, sz32, sz33, sz34, sz40, sz42, sz56, sz57] <;> omega) | (simp only [Nat.zero_add, Int.toNat_natCast, hb, rng, Ix.val, Int.toNat_natCast, mulE_eq, addQ_eq, addI, Option.getD_none, Option.getD_some, List.length_take, List.length_drop, List.length_append, List.length_set, List.length_replicate, sz3, sz4, sz5, sz28, sz29, sz30, sz32, sz33, sz34, sz40, sz42, sz56, sz57, *] <;> omega) | (simp only [Ix.val]; with_reducible assumption) | exact UInt8.toNat_lt _ | (apply Eq.trans; (with_reducible assumption); exact rfl) | exact rfl | exact fun _ _ => rfl)) ?_)
      refine Call.name [(2001, []), (0, [])] rfl trivial (CallP.intro hI [(1003, (2001, 0, none)), (1001, (301, 0, none))] rfl (by repeat' (first | (show AllP _; first | exact trivial | refine AllP.app ?_ ?_ | refine AllP.appd ?_ ?_ | refine AllP.cons ?_ ?_) | with_reducible rfl | with_reducible assumption | omega | (simp only [Nat.zero_add, Int.toNat_natCast, hb, rng, Ix.val, addQ_eq, addI, sz3, sz4, sz5, sz28, sz29, sz30, sz32, sz33, sz34, sz40, sz42, sz56, sz57] <;> omega) | (simp only [Nat.zero_add, Int.toNat_natCast, hb, rng, Ix.val, Int.toNat_natCast, mulE_eq, addQ_eq, addI, Option.getD_none, Option.getD_some, List.length_take, List.length_drop, List.length_append, List.length_set, List.length_replicate, sz3, sz4, sz5, sz28, sz29, sz30, sz32, sz33, sz34, sz40, sz42, sz56, sz57, *] <;> omega) | (simp only [Ix.val]; with_reducible assumption) | exact UInt8.toNat_lt _ | (apply Eq.trans; (with_reducible assumption); exact rfl) | exact rfl | exact fun _ _ => rfl)) rfl (by repeat' (first | (show AllP _; first | exact trivial | refine AllP.app ?_ ?_ | refine AllP.appd ?_ ?_ | refine AllP.cons ?_ ?_) | with_reducible rfl | with_reducible assumption | omega | (simp only [Nat.zero_add, Int.toNat_natCast, hb, rng, Ix.val, addQ_eq, addI, sz3, sz4, sz5, sz28, sz29, sz30, sz32, sz33, sz34, sz40, sz42, sz56, sz57] <;> omega) | (simp only [Nat.zero_add, Int.toNat_natCast, hb, rng, Ix.val, Int.toNat_natCast, mulE_eq, addQ_eq, addI, Option.getD_none, Option.getD_some, List.length_take, List.length_drop, List.length_append, List.length_set, List.length_replicate, sz3, sz4, sz5, sz28, sz29, sz30, sz32, sz33, sz34, sz40, sz42, sz56, sz57, *] <;> omega) | (simp only [Ix.val]; with_reducible assumption) | exact UInt8.toNat_lt _ | (apply Eq.trans; (with_reducible assumption); exact rfl) | exact rfl | exact fun _ _ => rfl)) rfl ?_)
      rintro v M' ⟨l2, cl, rfl, hlc, rfl, rfl⟩
      dsimp only [putT, afterM, newEnt, ren, renA, renS, renL, look, getM, getT, ev, evL, ofVal, cond_true, cond_false, Nat.beq_eq, act, isPar, ownPar, Ent.isOwn]
      have htl := toI_len l
      repeat (refine sd ?_)
      refine Loop.intro (σ := Nat × (Nat → Prop)) (fun s => s.1 ≤ l.length ∧ ∀ z, s.2 z ↔ (tdF S n i z ∨ ∃ j, j < s.1 ∧ l.getD j 0 = z))
        (fun s => ([(0, .ptr 1000 0 none), (5, .i .i64 (n : Int)), (6, .sl 28 0 0 (n + 1) (n + 1)), (7, .sl 31 0 0 (n + 1) (n + 1)), (1, .slx 1003 0 0 m), (8, .i .i64 (i : Int)), (9, .sl 301 0 0 l.length cl), (10, .i .i64 (s.1 : Int))],
          [(1000, .mem false 0 [(1, .slx 1001 0 0 n)]), (1001, .mem false 0 [(n * 2, .arr n 2 (rtF T))]), (1003, .mem false 0 [(m * 1, .arr m 1 (rwF S))]), (28, .mem true 0 [(n + 1, .arr (n + 1) 1 (bF s.2))]), (31, .mem true 0 [(n + 1, .arr (n + 1) 1 (bF (fun _ => False)))])] ++ [(301, .mem true (cl - l.length) [(l.length, .ai (toI l))])]))
        (fun s => l.length - s.1) (0, tdF S n i) ⟨Nat.zero_le _, fun z => ⟨Or.inl, fun h => h.resolve_right fun ⟨j, hj, _⟩ => absurd hj (Nat.not_lt_zero _)⟩⟩ ?_ ?_
      · refine Le.intro [] rfl ?_ rfl ?_ rfl
        · exact fc
        · exact fc
      · rintro ⟨k, D⟩ ⟨hk, hD⟩
        have hk : k ≤ l.length := hk
        have hD : ∀ z, D z ↔ (tdF S n i z ∨ ∃ j, j < k ∧ l.getD j 0 = z) := hD
        refine Branch.intro (fun hd => ?_) (fun hd => ?_)
        · have hd : (k : Int) < l.length := hd
          have hg := toI_getD l (i := k) (by omega)
          have hz1 := hle _ (getD_mem 0 (L := l) (i := k) (by omega))
          obtain ⟨z, hz⟩ : ∃ z, l.getD k 0 = z := ⟨_, rfl⟩
          rw [hz] at hg hz1
          repeat (refine Side.intro (by repeat' (first | (show AllP _; first | exact trivial | refine AllP.app ?_ ?_ | refine AllP.appd ?_ ?_ | refine AllP.cons ?_ ?_) | with_reducible rfl | with_reducible assumption | omega | (simp only [Nat.zero_add, Int.toNat_natCast, hg, rng, Ix.val, addQ_eq, addI, sz3, sz4, sz5, sz28, sz29, sz30, sz32, sz33, sz34, sz40, sz42, sz56, sz57] <;> omega) | (simp only [Nat.zero_add, Int.toNat_natCast, hg, rng, Ix.val, Int.toNat_natCast, mulE_eq, addQ_eq, addI, Option.getD_none, Option.getD_some, List.length_take, List.length_drop, List.length_append, List.length_set, List.length_replicate, sz3, sz4, sz5, sz28, sz29, sz30, sz32, sz33, sz34, sz40, sz42, sz56, sz57, *] <;> omega) | (simp only [Ix.val]; with_reducible assumption) | exact UInt8.toNat_lt _ | (apply Eq.trans; (with_reducible assumption); exact rfl) | exact rfl | exact fun _ _ => rfl)) ?_)
          refine ⟨(k + 1, fun x => x = z ∨ D x), ⟨by show k + 1 ≤ l.length; omega, fun x => ?_⟩, by show l.length - (k + 1) < l.length - k; omega, Le.intro [] rfl ?_ rfl ?_ rfl⟩
          · show (x = z ∨ D x) ↔ _
            rw [hD]
            constructor
            · rintro (h | h | ⟨j, hj, h⟩)
              · exact Or.inr ⟨k, Nat.lt_succ_self k, by rw [hz, h]⟩
              · exact Or.inl h
              · exact Or.inr ⟨j, Nat.lt_succ_of_lt hj, h⟩
            · rintro (h | ⟨j, hj, h⟩)
              · exact Or.inr (Or.inl h)
              · rcases Nat.lt_or_ge j k with hjk | hjk
                · exact Or.inr (Or.inr ⟨j, hjk, h⟩)
                · obtain rfl : j = k := by have : j < k + 1 := hj; omega
                  exact Or.inl (by rw [← h, hz])
          · exact fc
          · repeat' (first | (show AllP _; first | exact trivial | refine AllP.app ?_ ?_ | refine AllP.appd ?_ ?_ | refine AllP.cons ?_ ?_) | with_reducible rfl | with_reducible assumption | omega | (simp only [rng, Ix.val, addQ_eq, addI, sz3, sz4, sz5, sz28, sz29, sz30, sz32, sz33, sz34, sz40, sz42, sz56, sz57] <;> omega) | (simp only [rng, Ix.val, Int.toNat_natCast, mulE_eq, addQ_eq, addI, Option.getD_none, Option.getD_some, List.length_take, List.length_drop, List.length_append, List.length_set, List.length_replicate, sz3, sz4, sz5, sz28, sz29, sz30, sz32, sz33, sz34, sz40, sz42, sz56, sz57, *] <;> omega) | (simp only [Ix.val]; with_reducible assumption) | exact UInt8.toNat_lt _ | (apply Eq.trans; (with_reducible assumption); exact rfl) | exact rfl | exact fun _ _ => rfl)
            all_goals (intro q hq; simp only [Ix.val, addQ_eq, Nat.zero_add, Int.toNat_natCast, hg]; exact bF_put (fun _ => Iff.rfl) q)
        · have hd : ¬ (k : Int) < l.length := hd
          have hD2 : ∀ z, tdF S n (i + 1) z ↔ D z := by
            intro z
            rw [hD]
            constructor
            · rintro ⟨j, hj, h⟩
              rcases Nat.lt_or_ge j i with hji | hji
              · exact Or.inl ⟨j, hji, h⟩
              · obtain rfl : j = i := by omega
                rw [hb, hl] at h
                obtain ⟨x, hx, rfl⟩ := List.getElem_of_mem h
                exact Or.inr ⟨x, by omega, by rw [List.getD_eq_getElem?_getD, List.getElem?_eq_getElem hx]; rfl⟩
            · rintro (⟨j, hj, h⟩ | ⟨j, hj, h⟩)
              · exact ⟨j, by omega, h⟩
              · exact ⟨i, by omega, by rw [hb, hl, ← h]; exact getD_mem 0 (by omega)⟩
          repeat (refine sd ?_)
          refine ⟨i + 1, by omega, by omega, Le.intro [] rfl ?_ rfl ?_ rfl⟩
          · exact fc
          · repeat' (first | (show AllP _; first | exact trivial | refine AllP.app ?_ ?_ | refine AllP.appd ?_ ?_ | refine AllP.cons ?_ ?_) | with_reducible rfl | with_reducible assumption | omega | (simp only [rng, Ix.val, addQ_eq, addI, sz3, sz4, sz5, sz28, sz29, sz30, sz32, sz33, sz34, sz40, sz42, sz56, sz57] <;> omega) | (simp only [rng, Ix.val, Int.toNat_natCast, mulE_eq, addQ_eq, addI, Option.getD_none, Option.getD_some, List.length_take, List.length_drop, List.length_append, List.length_set, List.length_replicate, sz3, sz4, sz5, sz28, sz29, sz30, sz32, sz33, sz34, sz40, sz42, sz56, sz57, *] <;> omega) | (simp only [Ix.val]; with_reducible assumption) | exact UInt8.toNat_lt _ | (apply Eq.trans; (with_reducible assumption); exact rfl) | exact rfl | exact fun _ _ => rfl)
            all_goals exact fun q _ => bF_congr (hD2 q)
    · obtain rfl : m = i := by omega
      repeat (refine sd ?_)
      refine Loop.intro (σ := (Nat → Prop) × (Nat → Prop) × Prop) (fun s => RfI T S n m s.1 s.2.1 ∧ (¬ s.2.2 → Closed T S s.1 s.2.1))
        (fun s => ([(0, .ptr 1000 0 none), (5, .i .i64 (n : Int)), (6, .sl 28 0 0 (n + 1) (n + 1)), (7, .sl 31 0 0 (n + 1) (n + 1)), (11, .bool s.2.2)], [(1000, .mem false 0 [(1, .slx 1001 0 0 n)]), (1001, .mem false 0 [(n * 2, .arr n 2 (rtF T))]), (1003, .mem false 0 [(m * 1, .arr m 1 (rwF S))]), (28, .mem true 0 [(n + 1, .arr (n + 1) 1 (bF s.2.1))]), (31, .mem true 0 [(n + 1, .arr (n + 1) 1 (bF s.1))])]))
        (fun s => 2 * (cntN s.1 n + cntN s.2.1 n) + (open Classical in if s.2.2 then 1 else 0)) ((fun _ => False), tdF S n m, True) ⟨⟨fun _ h => h.elim, fun z h => ?_, fun _ h => h⟩, fun h => absurd trivial h⟩ ?_ ?_
      · obtain ⟨j, hj, h⟩ := h
        exact (KnP_closed T S).seen j (by omega) z (by rw [hT]; exact h)
      · refine Le.intro [] rfl ?_ rfl ?_ rfl
        · exact fc
        · exact fc
      rintro ⟨K, D, ag⟩ ⟨hR, hCl⟩
      have hR : RfI T S n m K D := hR
      have hCl : ¬ ag → Closed T S K D := hCl
      refine Branch.intro (fun hag => ?_) (fun hag => ?_)
      · have hag : ag := hag
        repeat (refine sd ?_)
        refine Loop.intro (σ := Nat × (Nat → Prop) × (Nat → Prop) × Prop) (fun s => s.1 ≤ n ∧ RoI T S n m s.1 K D s.2.1 s.2.2.1 s.2.2.2)
          (fun s => ([(0, .ptr 1000 0 none), (5, .i .i64 (n : Int)), (6, .sl 28 0 0 (n + 1) (n + 1)), (7, .sl 31 0 0 (n + 1) (n + 1)), (11, .bool s.2.2.2), (12, .i .i64 ((s.1 : Int) + 1))], [(1000, .mem false 0 [(1, .slx 1001 0 0 n)]), (1001, .mem false 0 [(n * 2, .arr n 2 (rtF T))]), (1003, .mem false 0 [(m * 1, .arr m 1 (rwF S))]), (28, .mem true 0 [(n + 1, .arr (n + 1) 1 (bF s.2.2.1))]), (31, .mem true 0 [(n + 1, .arr (n + 1) 1 (bF s.2.1))])]))
          (fun s => n - s.1) (0, K, D, False) ⟨Nat.zero_le _, RoI.begin hR⟩ ?_ ?_
        · have hnf : ¬ False := id
          refine Le.intro [] rfl ?_ rfl ?_ rfl
          · exact fc
          · exact fc
        rintro ⟨q, K', D', ag'⟩ ⟨hq, hO⟩
        have hq : q ≤ n := hq
        have hO : RoI T S n m q K D K' D' ag' := hO
        repeat (refine sd ?_)
        refine Branch.intro (fun hd => ?_) (fun hd => ?_)
        · have hd : (q : Int) + 1 ≤ n := hd
          have eq1 : ((q : Int) + 1).toNat = q + 1 := by omega
          have eq0 : ((q : Int) + 1 - 1).toNat = q := by omega
          have eP : ∀ P : Nat → Prop, P (addQ 0 (Ix.dyn ((q : Int) + 1).toNat).val) ↔ P (q + 1) := fun P => by rw [addQ_eq, Nat.zero_add]; show P ((q : Int) + 1).toNat ↔ _; rw [eq1]
          have hV := hTv _ (getD_mem te0 (L := T) (i := q) (by omega))
          obtain ⟨x, hx⟩ : ∃ x, T.getD q te0 = x := ⟨_, rfl⟩
          have hgx : T.getD (Ix.dyn ((q : Int) + 1 - 1).toNat).val te0 = x := by show T.getD ((q : Int) + 1 - 1).toNat te0 = x; rw [eq0]; exact hx
          have hxl : x.2.length ≤ 64 := by rw [← hx]; exact hV.1.1
          have hxk : 1 ≤ x.1 := by rw [← hx]; exact hV.2.1
          have hxs : ∀ y ∈ x.2, y.length ≤ 4096 := by rw [← hx]; exact hV.1.2
          refine Join.intro (σ := (Nat → Prop) × (Nat → Prop) × Prop) (fun s => RoI T S n m (q + 1) K D s.1 s.2.1 s.2.2)
            (fun s => ([(0, .ptr 1000 0 none), (5, .i .i64 (n : Int)), (6, .sl 28 0 0 (n + 1) (n + 1)), (7, .sl 31 0 0 (n + 1) (n + 1)), (11, .bool s.2.2), (12, .i .i64 ((q : Int) + 1))], [(1000, .mem false 0 [(1, .slx 1001 0 0 n)]), (1001, .mem false 0 [(n * 2, .arr n 2 (rtF T))]), (1003, .mem false 0 [(m * 1, .arr m 1 (rwF S))]), (28, .mem true 0 [(n + 1, .arr (n + 1) 1 (bF s.2.1))]), (31, .mem true 0 [(n + 1, .arr (n + 1) 1 (bF s.1))])])) ?_ ?_
          · repeat (refine Side.intro (by repeat' (first | (show AllP _; first | exact trivial | refine AllP.app ?_ ?_ | refine AllP.appd ?_ ?_ | refine AllP.cons ?_ ?_) | with_reducible rfl | with_reducible assumption | omega | (simp only [Nat.zero_add, Int.toNat_natCast, hx, eq1, eq0, rng, Ix.val, addQ_eq, addI, sz3, sz4, sz5, sz28, sz29, sz30, sz32, sz33, sz34, sz40, sz42, sz56, sz57] <;> omega) | (simp only [Nat.zero_add, Int.toNat_natCast, hx, eq1, eq0, rng, Ix.val, Int.toNat_natCast, mulE_eq, addQ_eq, addI, Option.getD_none, Option.getD_some, List.length_take, List.length_drop, List.length_append, List.length_set, List.length_replicate, sz3, sz4, sz5, sz28, sz29, sz30, sz32, sz33, sz34, sz40, sz42, sz56, sz57, *] <;> omega) | (simp only [Ix.val]; with_reducible assumption) | exact UInt8.toNat_lt _ | (apply Eq.trans; (with_reducible assumption); exact rfl) | exact rfl | exact fun _ _ => rfl)) ?_)
            refine Join.intro (σ := Prop) (fun P => P ↔ (D' (q + 1) ∨ mdP K' q x.1 x.2))
              (fun P => ([(0, .ptr 1000 0 none), (5, .i .i64 (n : Int)), (6, .sl 28 0 0 (n + 1) (n + 1)), (7, .sl 31 0 0 (n + 1) (n + 1)), (11, .bool ag'), (12, .i .i64 ((q : Int) + 1)), (13, .ptr 13 0 none), (14, .bool P)], [(1000, .mem false 0 [(1, .slx 1001 0 0 n)]), (1001, .mem false 0 [(n * 2, .arr n 2 (rtF T))]), (1003, .mem false 0 [(m * 1, .arr m 1 (rwF S))]), (28, .mem true 0 [(n + 1, .arr (n + 1) 1 (bF D'))]), (31, .mem true 0 [(n + 1, .arr (n + 1) 1 (bF K'))]), (13, .mem true 0 [(1, .i .i64 x.1), (1, .isl 0 x.2.length 1 [(x.2.length * 1, .arr x.2.length 1 (rwF x.2))])])])) ?_ ?_
            · repeat (refine Side.intro (by repeat' (first | (show AllP _; first | exact trivial | refine AllP.app ?_ ?_ | refine AllP.appd ?_ ?_ | refine AllP.cons ?_ ?_) | with_reducible rfl | with_reducible assumption | omega | (simp only [Nat.zero_add, Int.toNat_natCast, hx, eq1, eq0, rng, Ix.val, addQ_eq, addI, sz3, sz4, sz5, sz28, sz29, sz30, sz32, sz33, sz34, sz40, sz42, sz56, sz57] <;> omega) | (simp only [Nat.zero_add, Int.toNat_natCast, hx, eq1, eq0, rng, Ix.val, Int.toNat_natCast, mulE_eq, addQ_eq, addI, Option.getD_none, Option.getD_some, List.length_take, List.length_drop, List.length_append, List.length_set, List.length_replicate, sz3, sz4, sz5, sz28, sz29, sz30, sz32, sz33, sz34, sz40, sz42, sz56, sz57, *] <;> omega) | (simp only [Ix.val]; with_reducible assumption) | exact UInt8.toNat_lt _ | (apply Eq.trans; (with_reducible assumption); exact rfl) | exact rfl | exact fun _ _ => rfl)) ?_)
              refine Branch.intro (fun hk1 => ?_) (fun hk1 => ?_)
              · have hk1 : x.1 ≠ 1 := by have h : (T.getD (Ix.dyn ((q : Int) + 1 - 1).toNat).val te0).1 > 1 := hk1; rw [hgx] at h; omega
                have hmd : mdP K' q x.1 x.2 ↔ ((x.1 = 3 ∧ ∃ j, j < x.2.length ∧ AllK K' (nmJ q x.2 j)) ∨ ∀ j, j < x.2.length → AllK K' (nmJ q x.2 j)) := ⟨fun h => h.2, fun h => ⟨hk1, h⟩⟩
                repeat (refine sd ?_)
                refine Loop.intro (σ := Nat) (fun k => k ≤ x.2.length)
                  (fun k => ([(0, .ptr 1000 0 none), (5, .i .i64 (n : Int)), (6, .sl 28 0 0 (n + 1) (n + 1)), (7, .sl 31 0 0 (n + 1) (n + 1)), (11, .bool ag'), (12, .i .i64 ((q : Int) + 1)), (13, .ptr 13 0 none), (14, .bool (D' (q + 1))), (15, .bool (∀ j, j < k → AllK K' (nmJ q x.2 j))), (16, .bool (∃ j, j < k ∧ AllK K' (nmJ q x.2 j))), (17, .i .i64 (k : Int))], [(1000, .mem false 0 [(1, .slx 1001 0 0 n)]), (1001, .mem false 0 [(n * 2, .arr n 2 (rtF T))]), (1003, .mem false 0 [(m * 1, .arr m 1 (rwF S))]), (28, .mem true 0 [(n + 1, .arr (n + 1) 1 (bF D'))]), (31, .mem true 0 [(n + 1, .arr (n + 1) 1 (bF K'))]), (13, .mem true 0 [(1, .i .i64 x.1), (1, .isl 0 x.2.length 1 [(x.2.length * 1, .arr x.2.length 1 (rwF x.2))])])]))
                  (fun k => x.2.length - k) 0 (Nat.zero_le _) ?_ ?_
                · have h0 : ∀ j, j < 0 → AllK K' (nmJ q x.2 j) := fun j hj => absurd hj (Nat.not_lt_zero _)
                  have h00 : ¬ ∃ j, j < 0 ∧ AllK K' (nmJ q x.2 j) := fun ⟨j, hj, _⟩ => absurd hj (Nat.not_lt_zero _)
                  have heD := (eP D').symm
                  refine Le.intro [] rfl ?_ rfl ?_ rfl
                  · repeat' (first | (show AllP _; first | exact trivial | refine AllP.app ?_ ?_ | refine AllP.appd ?_ ?_ | refine AllP.cons ?_ ?_) | with_reducible rfl | with_reducible assumption | omega | (simp only [hx, rng, Ix.val, addQ_eq, addI, sz3, sz4, sz5, sz28, sz29, sz30, sz32, sz33, sz34, sz40, sz42, sz56, sz57] <;> omega) | (simp only [hx, rng, Ix.val, Int.toNat_natCast, mulE_eq, addQ_eq, addI, Option.getD_none, Option.getD_some, List.length_take, List.length_drop, List.length_append, List.length_set, List.length_replicate, sz3, sz4, sz5, sz28, sz29, sz30, sz32, sz33, sz34, sz40, sz42, sz56, sz57, *] <;> omega) | (simp only [Ix.val]; with_reducible assumption) | exact UInt8.toNat_lt _ | (apply Eq.trans; (with_reducible assumption); exact rfl) | exact rfl | exact fun _ _ => rfl)
                  · repeat' (first | (show AllP _; first | exact trivial | refine AllP.app ?_ ?_ | refine AllP.appd ?_ ?_ | refine AllP.cons ?_ ?_) | with_reducible rfl | with_reducible assumption | omega | (simp only [hx, rng, Ix.val, addQ_eq, addI, sz3, sz4, sz5, sz28, sz29, sz30, sz32, sz33, sz34, sz40, sz42, sz56, sz57] <;> omega) | (simp only [hx, rng, Ix.val, Int.toNat_natCast, mulE_eq, addQ_eq, addI, Option.getD_none, Option.getD_some, List.length_take, List.length_drop, List.length_append, List.length_set, List.length_replicate, sz3, sz4, sz5, sz28, sz29, sz30, sz32, sz33, sz34, sz40, sz42, sz56, sz57, *] <;> omega) | (simp only [Ix.val]; with_reducible assumption) | exact UInt8.toNat_lt _ | (apply Eq.trans; (with_reducible assumption); exact rfl) | exact rfl | exact fun _ _ => rfl)
                    all_goals (rw [hx]; exact fun _ _ => rfl)
                rintro k hk
                have hk : k ≤ x.2.length := hk
                repeat (refine sd ?_)
                refine Branch.intro (fun hd2 => ?_) (fun hd2 => ?_)
                · have hd2 : (k : Int) < x.2.length := hd2
                  have hys := hxs _ (getD_mem [] (L := x.2) (i := k) (by omega))
                  have hnj := nmJ_eq q x.2 k
                  obtain ⟨y, hy⟩ : ∃ y, x.2.getD k [] = y := ⟨_, rfl⟩
                  rw [hy] at hys hnj
                  have hA := fn28 y y.length rfl (by omega) q n hq (by omega) K'
                  rw [← hnj] at hA
                  refine Join.intro (σ := Unit) (fun _ => True)
                    (fun _ => ([(0, .ptr 1000 0 none), (5, .i .i64 (n : Int)), (6, .sl 28 0 0 (n + 1) (n + 1)), (7, .sl 31 0 0 (n + 1) (n + 1)), (11, .bool ag'), (12, .i .i64 ((q : Int) + 1)), (13, .ptr 13 0 none), (14, .bool (D' (q + 1))), (15, .bool (∀ j, j < k + 1 → AllK K' (nmJ q x.2 j))), (16, .bool (∃ j, j < k + 1 ∧ AllK K' (nmJ q x.2 j))), (17, .i .i64 (k : Int))], [(1000, .mem false 0 [(1, .slx 1001 0 0 n)]), (1001, .mem false 0 [(n * 2, .arr n 2 (rtF T))]), (1003, .mem false 0 [(m * 1, .arr m 1 (rwF S))]), (28, .mem true 0 [(n + 1, .arr (n + 1) 1 (bF D'))]), (31, .mem true 0 [(n + 1, .arr (n + 1) 1 (bF K'))]), (13, .mem true 0 [(1, .i .i64 x.1), (1, .isl 0 x.2.length 1 [(x.2.length * 1, .arr x.2.length 1 (rwF x.2))])])])) ?_ ?_
                  · unfold rwF
                    repeat (refine Side.intro (by repeat' (first | (show AllP _; first | exact trivial | refine AllP.app ?_ ?_ | refine AllP.appd ?_ ?_ | refine AllP.cons ?_ ?_) | with_reducible rfl | with_reducible assumption | omega | (simp only [Nat.zero_add, Int.toNat_natCast, hy, eq0, rng, Ix.val, addQ_eq, addI, sz3, sz4, sz5, sz28, sz29, sz30, sz32, sz33, sz34, sz40, sz42, sz56, sz57] <;> omega) | (simp only [Nat.zero_add, Int.toNat_natCast, hy, eq0, rng, Ix.val, Int.toNat_natCast, mulE_eq, addQ_eq, addI, Option.getD_none, Option.getD_some, List.length_take, List.length_drop, List.length_append, List.length_set, List.length_replicate, sz3, sz4, sz5, sz28, sz29, sz30, sz32, sz33, sz34, sz40, sz42, sz56, sz57, *] <;> omega) | (simp only [Ix.val]; with_reducible assumption) | exact UInt8.toNat_lt _ | (apply Eq.trans; (with_reducible assumption); exact rfl) | exact rfl | exact fun _ _ => rfl)) ?_)
                    refine Call.name [(0, []), (2001, []), (0, [])] rfl trivial (CallP.intro hA [(1001, (31, 0, none)), (1003, (2001, 0, none))] rfl (by repeat' (first | (show AllP _; first | exact trivial | refine AllP.app ?_ ?_ | refine AllP.appd ?_ ?_ | refine AllP.cons ?_ ?_) | with_reducible rfl | with_reducible assumption | omega | (simp only [Nat.zero_add, Int.toNat_natCast, hy, eq0, rng, Ix.val, addQ_eq, addI, sz3, sz4, sz5, sz28, sz29, sz30, sz32, sz33, sz34, sz40, sz42, sz56, sz57] <;> omega) | (simp only [Nat.zero_add, Int.toNat_natCast, hy, eq0, rng, Ix.val, Int.toNat_natCast, mulE_eq, addQ_eq, addI, Option.getD_none, Option.getD_some, List.length_take, List.length_drop, List.length_append, List.length_set, List.length_replicate, sz3, sz4, sz5, sz28, sz29, sz30, sz32, sz33, sz34, sz40, sz42, sz56, sz57, *] <;> omega) | (simp only [Ix.val]; with_reducible assumption) | exact UInt8.toNat_lt _ | (apply Eq.trans; (with_reducible assumption); exact rfl) | exact rfl | exact fun _ _ => rfl)) rfl (by repeat' (first | (show AllP _; first | exact trivial | refine AllP.app ?_ ?_ | refine AllP.appd ?_ ?_ | refine AllP.cons ?_ ?_) | with_reducible rfl | with_reducible assumption | omega | (simp only [Nat.zero_add, Int.toNat_natCast, hy, rng, Ix.val, addQ_eq, addI, sz3, sz4, sz5, sz28, sz29, sz30, sz32, sz33, sz34, sz40, sz42, sz56, sz57] <;> omega) | (simp only [Nat.zero_add, Int.toNat_natCast, hy, rng, Ix.val, Int.toNat_natCast, mulE_eq, addQ_eq, addI, Option.getD_none, Option.getD_some, List.length_take, List.length_drop, List.length_append, List.length_set, List.length_replicate, sz3, sz4, sz5, sz28, sz29, sz30, sz32, sz33, sz34, sz40, sz42, sz56, sz57, *] <;> omega) | (simp only [Ix.val]; with_reducible assumption) | exact UInt8.toNat_lt _ | (apply Eq.trans; (with_reducible assumption); exact rfl) | exact rfl | exact fun _ _ => rfl)) rfl ?_)
                    rintro v M' ⟨rfl, rfl⟩
                    dsimp only [putT, afterM, newEnt, ren, renA, renS, renL, look, getM, getT, ev, evL, ofVal, cond_true, cond_false, Nat.beq_eq, act, isPar, ownPar, Ent.isOwn]
                    repeat (refine sd ?_)
                    obtain ⟨A, hA2⟩ : ∃ A, AllK K' (nmJ q x.2 k) = A := ⟨_, rfl⟩
                    have hs1 : (∀ j, j < k → AllK K' (nmJ q x.2 j)) → ((∀ j, j < k + 1 → AllK K' (nmJ q x.2 j)) ↔ A) := fun h1 => by
                      rw [← hA2]
                      constructor
                      · exact fun h => h k (by omega)
                      · intro h2 j hj
                        rcases Nat.lt_or_ge j k with h | h
                        · exact h1 j h
                        · obtain rfl : j = k := by omega
                          exact h2
                    have hs2 : ¬ (∀ j, j < k → AllK K' (nmJ q x.2 j)) → ¬ (∀ j, j < k + 1 → AllK K' (nmJ q x.2 j)) := fun h1 h => h1 fun j hj => h j (by omega)
                    have hs3 : (∃ j, j < k ∧ AllK K' (nmJ q x.2 j)) → (∃ j, j < k + 1 ∧ AllK K' (nmJ q x.2 j)) := fun ⟨j, hj, h⟩ => ⟨j, by omega, h⟩
                    have hs4 : ¬ (∃ j, j < k ∧ AllK K' (nmJ q x.2 j)) → ((∃ j, j < k + 1 ∧ AllK K' (nmJ q x.2 j)) ↔ A) := fun h1 => by
                      rw [← hA2]
                      constructor
                      · rintro ⟨j, hj, h⟩
                        rcases Nat.lt_or_ge j k with h2 | h2
                        · exact absurd ⟨j, h2, h⟩ h1
                        · obtain rfl : j = k := by omega
                          exact h
                      · exact fun h => ⟨k, by omega, h⟩
                    rw [hA2]
                    refine Join.intro (σ := Unit) (fun _ => True)
                      (fun _ => ([(0, .ptr 1000 0 none), (5, .i .i64 (n : Int)), (6, .sl 28 0 0 (n + 1) (n + 1)), (7, .sl 31 0 0 (n + 1) (n + 1)), (11, .bool ag'), (12, .i .i64 ((q : Int) + 1)), (13, .ptr 13 0 none), (14, .bool (D' (q + 1))), (15, .bool (∀ j, j < k + 1 → AllK K' (nmJ q x.2 j))), (16, .bool (∃ j, j < k ∧ AllK K' (nmJ q x.2 j))), (17, .i .i64 (k : Int)), (18, .bool A)], [(1000, .mem false 0 [(1, .slx 1001 0 0 n)]), (1001, .mem false 0 [(n * 2, .arr n 2 (rtF T))]), (1003, .mem false 0 [(m * 1, .arr m 1 (rwF S))]), (28, .mem true 0 [(n + 1, .arr (n + 1) 1 (bF D'))]), (31, .mem true 0 [(n + 1, .arr (n + 1) 1 (bF K'))]), (13, .mem true 0 [(1, .i .i64 x.1), (1, .isl 0 x.2.length 1 [(x.2.length * 1, .arr x.2.length 1 (rwF x.2))])])])) ?_ ?_
                    · repeat (refine sd ?_)
                      refine Branch.intro (fun hE => ?_) (fun hE => ?_)
                      · have hE2 := hs1 hE
                        clear hs1 hs2 hs3 hs4
                        repeat (refine sd ?_)
                        refine ⟨(), trivial, Le.intro [] rfl ?_ rfl ?_ rfl⟩
                        · exact fc
                        · exact fc
                      · have hE2 := hs2 hE
                        clear hs1 hs2 hs3 hs4
                        repeat (refine sd ?_)
                        refine ⟨(), trivial, Le.intro [] rfl ?_ rfl ?_ rfl⟩
                        · exact fc
                        · exact fc
                    · rintro _ _
                      repeat (refine sd ?_)
                      refine Branch.intro (fun hE => ?_) (fun hE => ?_)
                      · have hE2 := hs3 hE
                        clear hs1 hs2 hs3 hs4
                        repeat (refine sd ?_)
                        refine ⟨(), trivial, Le.intro [] rfl ?_ rfl ?_ rfl⟩
                        · exact fc
                        · exact fc
                      · have hE2 := hs4 hE
                        clear hs1 hs2 hs3 hs4
                        repeat (refine sd ?_)
                        refine ⟨(), trivial, Le.intro [] rfl ?_ rfl ?_ rfl⟩
                        · exact fc
                        · exact fc
                  · rintro _ _
                    repeat (refine sd ?_)
                    refine ⟨k + 1, by show k + 1 ≤ x.2.length; omega, by show x.2.length - (k + 1) < x.2.length - k; omega, Le.intro [] rfl ?_ rfl ?_ rfl⟩
                    · exact fc
                    · exact fc
                · have hd2 : ¬ (k : Int) < x.2.length := hd2
                  obtain ⟨E, hE⟩ : ∃ E, (∀ j, j < k → AllK K' (nmJ q x.2 j)) = E := ⟨_, rfl⟩
                  obtain ⟨Sm, hSm⟩ : ∃ Sm, (∃ j, j < k ∧ AllK K' (nmJ q x.2 j)) = Sm := ⟨_, rfl⟩
                  rw [show x.2.length = k by omega, hE, hSm] at hmd
                  rw [hE, hSm]
                  obtain ⟨Dq, hDq⟩ : ∃ Dq, D' (q + 1) = Dq := ⟨_, rfl⟩
                  rw [hDq, hmd]
                  clear hmd
                  by_cases h1 : Dq
                  · have hP : (Dq ∨ (x.1 = 3 ∧ Sm) ∨ E) := Or.inl h1
                    repeat (first | (refine Branch.intro (fun _ => ?_) (fun hn => absurd rfl hn)) | (refine Branch.intro (fun hn => (by with_reducible exact False.elim hn)) (fun _ => ?_)) | (refine Branch.intro (fun _ => ?_) (fun hn => (by with_reducible exact absurd h1 hn))) | (refine Branch.intro (fun hn => (by with_reducible exact absurd hn h1)) (fun _ => ?_)) | (refine sd ?_))
                    refine ⟨_, Iff.rfl, Le.intro [] rfl ?_ rfl ?_ rfl⟩
                    · exact fc
                    · exact fc
                  by_cases h2 : E
                  · have hP : (Dq ∨ (x.1 = 3 ∧ Sm) ∨ E) := Or.inr (Or.inr h2)
                    repeat (first | (refine Branch.intro (fun _ => ?_) (fun hn => absurd rfl hn)) | (refine Branch.intro (fun hn => (by with_reducible exact False.elim hn)) (fun _ => ?_)) | (refine Branch.intro (fun _ => ?_) (fun hn => (by with_reducible exact absurd h1 hn))) | (refine Branch.intro (fun hn => (by with_reducible exact absurd hn h1)) (fun _ => ?_)) | (refine Branch.intro (fun _ => ?_) (fun hn => (by with_reducible exact absurd h2 hn))) | (refine Branch.intro (fun hn => (by with_reducible exact absurd hn h2)) (fun _ => ?_)) | (refine sd ?_))
                    refine ⟨_, Iff.rfl, Le.intro [] rfl ?_ rfl ?_ rfl⟩
                    · exact fc
                    · exact fc
                  by_cases h3 : x.1 = 3
                  · have hP : (Dq ∨ (x.1 = 3 ∧ Sm) ∨ E) ↔ Sm := ⟨fun h => h.elim (fun h => absurd h h1) (fun h => h.elim (fun h => h.2) (fun h => absurd h h2)), fun h => Or.inr (Or.inl ⟨h3, h⟩)⟩
                    repeat (first | (refine Branch.intro (fun _ => ?_) (fun hn => absurd rfl hn)) | (refine Branch.intro (fun hn => (by with_reducible exact False.elim hn)) (fun _ => ?_)) | (refine Branch.intro (fun _ => ?_) (fun hn => (by with_reducible exact absurd h1 hn))) | (refine Branch.intro (fun hn => (by with_reducible exact absurd hn h1)) (fun _ => ?_)) | (refine Branch.intro (fun _ => ?_) (fun hn => (by with_reducible exact absurd h2 hn))) | (refine Branch.intro (fun hn => (by with_reducible exact absurd hn h2)) (fun _ => ?_)) | (refine Branch.intro (fun _ => ?_) (fun hn => (by with_reducible exact absurd h3 hn))) | (refine Branch.intro (fun hn => (by with_reducible exact absurd hn h3)) (fun _ => ?_)) | (refine sd ?_))
                    refine ⟨_, Iff.rfl, Le.intro [] rfl ?_ rfl ?_ rfl⟩
                    · exact fc
                    · exact fc
                  · have hP : ¬ (Dq ∨ (x.1 = 3 ∧ Sm) ∨ E) := fun h => h.elim h1 (fun h => h.elim (fun h => h3 h.1) h2)
                    repeat (first | (refine Branch.intro (fun _ => ?_) (fun hn => absurd rfl hn)) | (refine Branch.intro (fun hn => (by with_reducible exact False.elim hn)) (fun _ => ?_)) | (refine Branch.intro (fun _ => ?_) (fun hn => (by with_reducible exact absurd h1 hn))) | (refine Branch.intro (fun hn => (by with_reducible exact absurd hn h1)) (fun _ => ?_)) | (refine Branch.intro (fun _ => ?_) (fun hn => (by with_reducible exact absurd h2 hn))) | (refine Branch.intro (fun hn => (by with_reducible exact absurd hn h2)) (fun _ => ?_)) | (refine Branch.intro (fun _ => ?_) (fun hn => (by with_reducible exact absurd h3 hn))) | (refine Branch.intro (fun hn => (by with_reducible exact absurd hn h3)) (fun _ => ?_)) | (refine sd ?_))
                    refine ⟨_, Iff.rfl, Le.intro [] rfl ?_ rfl ?_ rfl⟩
                    · exact fc
                    · exact fc
              · have hk1 : x.1 = 1 := by have h : ¬ (T.getD (Ix.dyn ((q : Int) + 1 - 1).toNat).val te0).1 > 1 := hk1; rw [hgx] at h; omega
                have hP : (D' (q + 1) ∨ mdP K' q x.1 x.2) ↔ D' (addQ 0 (Ix.dyn ((q : Int) + 1).toNat).val) := by
                  rw [eP D']
                  exact ⟨fun h => h.resolve_right fun h => h.1 hk1, Or.inl⟩
                repeat (refine sd ?_)
                refine ⟨_, Iff.rfl, Le.intro [] rfl ?_ rfl ?_ rfl⟩
                · repeat' (first | (show AllP _; first | exact trivial | refine AllP.app ?_ ?_ | refine AllP.appd ?_ ?_ | refine AllP.cons ?_ ?_) | with_reducible rfl | with_reducible assumption | omega | (simp only [hx, rng, Ix.val, addQ_eq, addI, sz3, sz4, sz5, sz28, sz29, sz30, sz32, sz33, sz34, sz40, sz42, sz56, sz57] <;> omega) | (simp only [hx, rng, Ix.val, Int.toNat_natCast, mulE_eq, addQ_eq, addI, Option.getD_none, Option.getD_some, List.length_take, List.length_drop, List.length_append, List.length_set, List.length_replicate, sz3, sz4, sz5, sz28, sz29, sz30, sz32, sz33, sz34, sz40, sz42, sz56, sz57, *] <;> omega) | (simp only [Ix.val]; with_reducible assumption) | exact UInt8.toNat_lt _ | (apply Eq.trans; (with_reducible assumption); exact rfl) | exact rfl | exact fun _ _ => rfl)
                · repeat' (first | (show AllP _; first | exact trivial | refine AllP.app ?_ ?_ | refine AllP.appd ?_ ?_ | refine AllP.cons ?_ ?_) | with_reducible rfl | with_reducible assumption | omega | (simp only [hx, rng, Ix.val, addQ_eq, addI, sz3, sz4, sz5, sz28, sz29, sz30, sz32, sz33, sz34, sz40, sz42, sz56, sz57] <;> omega) | (simp only [hx, rng, Ix.val, Int.toNat_natCast, mulE_eq, addQ_eq, addI, Option.getD_none, Option.getD_some, List.length_take, List.length_drop, List.length_append, List.length_set, List.length_replicate, sz3, sz4, sz5, sz28, sz29, sz30, sz32, sz33, sz34, sz40, sz42, sz56, sz57, *] <;> omega) | (simp only [Ix.val]; with_reducible assumption) | exact UInt8.toNat_lt _ | (apply Eq.trans; (with_reducible assumption); exact rfl) | exact rfl | exact fun _ _ => rfl)
                  all_goals (rw [hx]; exact fun _ _ => rfl)
            · rintro P hP
              have hP : P ↔ (D' (q + 1) ∨ mdP K' q x.1 x.2) := hP
              refine Join.intro (σ := (Nat → Prop) × Prop) (fun s => RoI T S n m q K D s.1 D' s.2 ∧ ((D' (q + 1) ∨ mdP K' q (T.getD q te0).1 (T.getD q te0).2) → s.1 (q + 1)))
                (fun s => ([(0, .ptr 1000 0 none), (5, .i .i64 (n : Int)), (6, .sl 28 0 0 (n + 1) (n + 1)), (7, .sl 31 0 0 (n + 1) (n + 1)), (11, .bool s.2), (12, .i .i64 ((q : Int) + 1)), (13, .ptr 13 0 none)], [(1000, .mem false 0 [(1, .slx 1001 0 0 n)]), (1001, .mem false 0 [(n * 2, .arr n 2 (rtF T))]), (1003, .mem false 0 [(m * 1, .arr m 1 (rwF S))]), (28, .mem true 0 [(n + 1, .arr (n + 1) 1 (bF D'))]), (31, .mem true 0 [(n + 1, .arr (n + 1) 1 (bF s.1))]), (13, .mem true 0 [(1, .i .i64 x.1), (1, .isl 0 x.2.length 1 [(x.2.length * 1, .arr x.2.length 1 (rwF x.2))])])])) ?_ ?_
              · repeat (refine sd ?_)
                refine Branch.intro (fun h1 => ?_) (fun h1 => ?_)
                · have h1 : P := h1
                  repeat (refine Side.intro (by repeat' (first | (show AllP _; first | exact trivial | refine AllP.app ?_ ?_ | refine AllP.appd ?_ ?_ | refine AllP.cons ?_ ?_) | with_reducible rfl | with_reducible assumption | omega | (simp only [Nat.zero_add, Int.toNat_natCast, eq1, rng, Ix.val, addQ_eq, addI, sz3, sz4, sz5, sz28, sz29, sz30, sz32, sz33, sz34, sz40, sz42, sz56, sz57] <;> omega) | (simp only [Nat.zero_add, Int.toNat_natCast, eq1, rng, Ix.val, Int.toNat_natCast, mulE_eq, addQ_eq, addI, Option.getD_none, Option.getD_some, List.length_take, List.length_drop, List.length_append, List.length_set, List.length_replicate, sz3, sz4, sz5, sz28, sz29, sz30, sz32, sz33, sz34, sz40, sz42, sz56, sz57, *] <;> omega) | (simp only [Ix.val]; with_reducible assumption) | exact UInt8.toNat_lt _ | (apply Eq.trans; (with_reducible assumption); exact rfl) | exact rfl | exact fun _ _ => rfl)) ?_)
                  refine Branch.intro (fun h2 => ?_) (fun h2 => ?_)
                  · have h2 : ¬ K' (q + 1) := fun h => h2 ((eP K').2 h)
                    repeat (refine Side.intro (by repeat' (first | (show AllP _; first | exact trivial | refine AllP.app ?_ ?_ | refine AllP.appd ?_ ?_ | refine AllP.cons ?_ ?_) | with_reducible rfl | with_reducible assumption | omega | (simp only [Nat.zero_add, Int.toNat_natCast, eq1, rng, Ix.val, addQ_eq, addI, sz3, sz4, sz5, sz28, sz29, sz30, sz32, sz33, sz34, sz40, sz42, sz56, sz57] <;> omega) | (simp only [Nat.zero_add, Int.toNat_natCast, eq1, rng, Ix.val, Int.toNat_natCast, mulE_eq, addQ_eq, addI, Option.getD_none, Option.getD_some, List.length_take, List.length_drop, List.length_append, List.length_set, List.length_replicate, sz3, sz4, sz5, sz28, sz29, sz30, sz32, sz33, sz34, sz40, sz42, sz56, sz57, *] <;> omega) | (simp only [Ix.val]; with_reducible assumption) | exact UInt8.toNat_lt _ | (apply Eq.trans; (with_reducible assumption); exact rfl) | exact rfl | exact fun _ _ => rfl)) ?_)
                    refine ⟨((fun z => z = q + 1 ∨ K' z), True), ⟨hO.know hT (by omega) (by rw [hx]; exact hP.1 h1) h2, fun _ => Or.inl rfl⟩, Le.intro [] rfl ?_ rfl ?_ rfl⟩
                    · exact fc
                    · repeat' (first | (show AllP _; first | exact trivial | refine AllP.app ?_ ?_ | refine AllP.appd ?_ ?_ | refine AllP.cons ?_ ?_) | with_reducible rfl | with_reducible assumption | omega | (simp only [rng, Ix.val, addQ_eq, addI, sz3, sz4, sz5, sz28, sz29, sz30, sz32, sz33, sz34, sz40, sz42, sz56, sz57] <;> omega) | (simp only [rng, Ix.val, Int.toNat_natCast, mulE_eq, addQ_eq, addI, Option.getD_none, Option.getD_some, List.length_take, List.length_drop, List.length_append, List.length_set, List.length_replicate, sz3, sz4, sz5, sz28, sz29, sz30, sz32, sz33, sz34, sz40, sz42, sz56, sz57, *] <;> omega) | (simp only [Ix.val]; with_reducible assumption) | exact UInt8.toNat_lt _ | (apply Eq.trans; (with_reducible assumption); exact rfl) | exact rfl | exact fun _ _ => rfl)
                      all_goals (intro q2 hq2; simp only [Ix.val, addQ_eq, Nat.zero_add, eq1]; exact bF_put (fun _ => Iff.rfl) q2)
                  · have h2 : K' (q + 1) := (eP K').1 (Classical.byContradiction fun h => h2 h)
                    repeat (refine sd ?_)
                    refine ⟨(K', ag'), ⟨hO, fun _ => h2⟩, Le.intro [] rfl ?_ rfl ?_ rfl⟩
                    · exact fc
                    · exact fc
                · have h1 : ¬ P := h1
                  repeat (refine sd ?_)
                  refine ⟨(K', ag'), ⟨hO, fun h => absurd (hP.2 (by rw [← hx]; exact h)) h1⟩, Le.intro [] rfl ?_ rfl ?_ rfl⟩
                  · exact fc
                  · exact fc
              · rintro ⟨K1, a1⟩ ⟨hO1, hP1⟩
                have hO1 : RoI T S n m q K D K1 D' a1 := hO1
                have hP1 : (D' (q + 1) ∨ mdP K' q (T.getD q te0).1 (T.getD q te0).2) → K1 (q + 1) := hP1
                have hkk := hO.kk
                repeat (refine Side.intro (by repeat' (first | (show AllP _; first | exact trivial | refine AllP.app ?_ ?_ | refine AllP.appd ?_ ?_ | refine AllP.cons ?_ ?_) | with_reducible rfl | with_reducible assumption | omega | (simp only [Nat.zero_add, Int.toNat_natCast, hx, eq1, eq0, rng, Ix.val, addQ_eq, addI, sz3, sz4, sz5, sz28, sz29, sz30, sz32, sz33, sz34, sz40, sz42, sz56, sz57] <;> omega) | (simp only [Nat.zero_add, Int.toNat_natCast, hx, eq1, eq0, rng, Ix.val, Int.toNat_natCast, mulE_eq, addQ_eq, addI, Option.getD_none, Option.getD_some, List.length_take, List.length_drop, List.length_append, List.length_set, List.length_replicate, sz3, sz4, sz5, sz28, sz29, sz30, sz32, sz33, sz34, sz40, sz42, sz56, sz57, *] <;> omega) | (simp only [Ix.val]; with_reducible assumption) | exact UInt8.toNat_lt _ | (apply Eq.trans; (with_reducible assumption); exact rfl) | exact rfl | exact fun _ _ => rfl)) ?_)
                refine Branch.intro (fun h8 => ?_) (fun h8 => ?_)
                · have h8 : x.1 = 8 := h8
                  repeat (refine Side.intro (by repeat' (first | (show AllP _; first | exact trivial | refine AllP.app ?_ ?_ | refine AllP.appd ?_ ?_ | refine AllP.cons ?_ ?_) | with_reducible rfl | with_reducible assumption | omega | (simp only [Nat.zero_add, Int.toNat_natCast, hx, eq1, eq0, rng, Ix.val, addQ_eq, addI, sz3, sz4, sz5, sz28, sz29, sz30, sz32, sz33, sz34, sz40, sz42, sz56, sz57] <;> omega) | (simp only [Nat.zero_add, Int.toNat_natCast, hx, eq1, eq0, rng, Ix.val, Int.toNat_natCast, mulE_eq, addQ_eq, addI, Option.getD_none, Option.getD_some, List.length_take, List.length_drop, List.length_append, List.length_set, List.length_replicate, sz3, sz4, sz5, sz28, sz29, sz30, sz32, sz33, sz34, sz40, sz42, sz56, sz57, *] <;> omega) | (simp only [Ix.val]; with_reducible assumption) | exact UInt8.toNat_lt _ | (apply Eq.trans; (with_reducible assumption); exact rfl) | exact rfl | exact fun _ _ => rfl)) ?_)
                  refine Branch.intro (fun ht => ?_) (fun ht => ?_)
                  · have ht : D' (q + 1) := (eP D').1 ht
                    repeat (refine Side.intro (by repeat' (first | (show AllP _; first | exact trivial | refine AllP.app ?_ ?_ | refine AllP.appd ?_ ?_ | refine AllP.cons ?_ ?_) | with_reducible rfl | with_reducible assumption | omega | (simp only [Nat.zero_add, Int.toNat_natCast, hx, eq1, eq0, rng, Ix.val, addQ_eq, addI, sz3, sz4, sz5, sz28, sz29, sz30, sz32, sz33, sz34, sz40, sz42, sz56, sz57] <;> omega) | (simp only [Nat.zero_add, Int.toNat_natCast, hx, eq1, eq0, rng, Ix.val, Int.toNat_natCast, mulE_eq, addQ_eq, addI, Option.getD_none, Option.getD_some, List.length_take, List.length_drop, List.length_append, List.length_set, List.length_replicate, sz3, sz4, sz5, sz28, sz29, sz30, sz32, sz33, sz34, sz40, sz42, sz56, sz57, *] <;> omega) | (simp only [Ix.val]; with_reducible assumption) | exact UInt8.toNat_lt _ | (apply Eq.trans; (with_reducible assumption); exact rfl) | exact rfl | exact fun _ _ => rfl)) ?_)
                    refine Branch.intro (fun hz => ?_) (fun hz => ?_)
                    · have hz : (x.2.length : Int) = 0 := hz
                      repeat (refine Side.intro (by repeat' (first | (show AllP _; first | exact trivial | refine AllP.app ?_ ?_ | refine AllP.appd ?_ ?_ | refine AllP.cons ?_ ?_) | with_reducible rfl | with_reducible assumption | omega | (simp only [Nat.zero_add, Int.toNat_natCast, hx, eq1, eq0, rng, Ix.val, addQ_eq, addI, sz3, sz4, sz5, sz28, sz29, sz30, sz32, sz33, sz34, sz40, sz42, sz56, sz57] <;> omega) | (simp only [Nat.zero_add, Int.toNat_natCast, hx, eq1, eq0, rng, Ix.val, Int.toNat_natCast, mulE_eq, addQ_eq, addI, Option.getD_none, Option.getD_some, List.length_take, List.length_drop, List.length_append, List.length_set, List.length_replicate, sz3, sz4, sz5, sz28, sz29, sz30, sz32, sz33, sz34, sz40, sz42, sz56, sz57, *] <;> omega) | (simp only [Ix.val]; with_reducible assumption) | exact UInt8.toNat_lt _ | (apply Eq.trans; (with_reducible assumption); exact rfl) | exact rfl | exact fun _ _ => rfl)) ?_)
                      refine Branch.intro (fun hl => ?_) (fun hl => ?_)
                      · have hl : (x.2.length : Int) > 1 := hl
                        omega
                      · repeat (refine sd ?_)
                        refine ⟨(K1, D', a1), hO1.pass hkk hP1 (by rw [hx]; exact (fun h => by omega)), Le.intro [] rfl ?_ rfl ?_ rfl⟩
                        · exact fc
                        · exact fc
                    · have hz : ¬ (x.2.length : Int) = 0 := hz
                      have hys := hxs _ (getD_mem [] (L := x.2) (i := 0) (by omega))
                      have hnj := nmJ_eq q x.2 0
                      obtain ⟨y, hy⟩ : ∃ y, x.2.getD 0 [] = y := ⟨_, rfl⟩
                      rw [hy] at hys hnj
                      have hA := fn28 y y.length rfl (by omega) q n hq (by omega) K1
                      rw [← hnj] at hA
                      unfold rwF
                      repeat (refine Side.intro (by repeat' (first | (show AllP _; first | exact trivial | refine AllP.app ?_ ?_ | refine AllP.appd ?_ ?_ | refine AllP.cons ?_ ?_) | with_reducible rfl | with_reducible assumption | omega | (simp only [Nat.zero_add, Int.toNat_natCast, hy, eq0, rng, Ix.val, addQ_eq, addI, sz3, sz4, sz5, sz28, sz29, sz30, sz32, sz33, sz34, sz40, sz42, sz56, sz57] <;> omega) | (simp only [Nat.zero_add, Int.toNat_natCast, hy, eq0, rng, Ix.val, Int.toNat_natCast, mulE_eq, addQ_eq, addI, Option.getD_none, Option.getD_some, List.length_take, List.length_drop, List.length_append, List.length_set, List.length_replicate, sz3, sz4, sz5, sz28, sz29, sz30, sz32, sz33, sz34, sz40, sz42, sz56, sz57, *] <;> omega) | (simp only [Ix.val]; with_reducible assumption) | exact UInt8.toNat_lt _ | (apply Eq.trans; (with_reducible assumption); exact rfl) | exact rfl | exact fun _ _ => rfl)) ?_)
                      refine Call.name [(0, []), (2001, []), (0, [])] rfl trivial (CallP.intro hA [(1001, (31, 0, none)), (1003, (2001, 0, none))] rfl (by repeat' (first | (show AllP _; first | exact trivial | refine AllP.app ?_ ?_ | refine AllP.appd ?_ ?_ | refine AllP.cons ?_ ?_) | with_reducible rfl | with_reducible assumption | omega | (simp only [Nat.zero_add, Int.toNat_natCast, hy, eq0, rng, Ix.val, addQ_eq, addI, sz3, sz4, sz5, sz28, sz29, sz30, sz32, sz33, sz34, sz40, sz42, sz56, sz57] <;> omega) | (simp only [Nat.zero_add, Int.toNat_natCast, hy, eq0, rng, Ix.val, Int.toNat_natCast, mulE_eq, addQ_eq, addI, Option.getD_none, Option.getD_some, List.length_take, List.length_drop, List.length_append, List.length_set, List.length_replicate, sz3, sz4, sz5, sz28, sz29, sz30, sz32, sz33, sz34, sz40, sz42, sz56, sz57, *] <;> omega) | (simp only [Ix.val]; with_reducible assumption) | exact UInt8.toNat_lt _ | (apply Eq.trans; (with_reducible assumption); exact rfl) | exact rfl | exact fun _ _ => rfl)) rfl (by repeat' (first | (show AllP _; first | exact trivial | refine AllP.app ?_ ?_ | refine AllP.appd ?_ ?_ | refine AllP.cons ?_ ?_) | with_reducible rfl | with_reducible assumption | omega | (simp only [Nat.zero_add, Int.toNat_natCast, hy, rng, Ix.val, addQ_eq, addI, sz3, sz4, sz5, sz28, sz29, sz30, sz32, sz33, sz34, sz40, sz42, sz56, sz57] <;> omega) | (simp only [Nat.zero_add, Int.toNat_natCast, hy, rng, Ix.val, Int.toNat_natCast, mulE_eq, addQ_eq, addI, Option.getD_none, Option.getD_some, List.length_take, List.length_drop, List.length_append, List.length_set, List.length_replicate, sz3, sz4, sz5, sz28, sz29, sz30, sz32, sz33, sz34, sz40, sz42, sz56, sz57, *] <;> omega) | (simp only [Ix.val]; with_reducible assumption) | exact UInt8.toNat_lt _ | (apply Eq.trans; (with_reducible assumption); exact rfl) | exact rfl | exact fun _ _ => rfl)) rfl ?_)
                      rintro v M' ⟨rfl, rfl⟩
                      dsimp only [putT, afterM, newEnt, ren, renA, renS, renL, look, getM, getT, ev, evL, ofVal, cond_true, cond_false, Nat.beq_eq, act, isPar, ownPar, Ent.isOwn]
                      repeat (refine sd ?_)
                      refine Branch.intro (fun hal => ?_) (fun hal => ?_)
                      · have hal : AllK K1 (nmJ q x.2 0) := hal
                        repeat (refine sd ?_)
                        refine Branch.intro (fun hl => ?_) (fun hl => ?_)
                        · have hl : (x.2.length : Int) > 1 := hl
                          have hys1 := hxs _ (getD_mem [] (L := x.2) (i := 1) (by omega))
                          have hnj1 := nmJ_eq q x.2 1
                          obtain ⟨y1, hy1⟩ : ∃ y1, x.2.getD 1 [] = y1 := ⟨_, rfl⟩
                          rw [hy1] at hys1 hnj1
                          have hI := fn20 y1 y1.length rfl q (by omega) (by omega)
                          rw [← hnj1] at hI
                          obtain ⟨r, hr⟩ : ∃ r, nmJ q x.2 1 = r := ⟨_, rfl⟩
                          rw [hr] at hI
                          have hr6 : r.length ≤ 1000001 := by rw [← hr, hnj1]; have := inL_len y1 q 0; omega
                          have hrle : ∀ z ∈ r, 1 ≤ z ∧ z ≤ n := fun z hz => by rw [← hr, hnj1] at hz; have := inL_le hz; omega
                          clear hnj1
                          repeat (refine Side.intro (by repeat' (first | (show AllP _; first | exact trivial | refine AllP.app ?_ ?_ | refine AllP.appd ?_ ?_ | refine AllP.cons ?_ ?_) | with_reducible rfl | with_reducible assumption | omega | (simp only [Nat.zero_add, Int.toNat_natCast, hy1, eq0, rng, Ix.val, addQ_eq, addI, sz3, sz4, sz5, sz28, sz29, sz30, sz32, sz33, sz34, sz40, sz42, sz56, sz57] <;> omega) | (simp only [Nat.zero_add, Int.toNat_natCast, hy1, eq0, rng, Ix.val, Int.toNat_natCast, mulE_eq, addQ_eq, addI, Option.getD_none, Option.getD_some, List.length_take, List.length_drop, List.length_append, List.length_set, List.length_replicate, sz3, sz4, sz5, sz28, sz29, sz30, sz32, sz33, sz34, sz40, sz42, sz56, sz57, *] <;> omega) | (simp only [Ix.val]; with_reducible assumption) | exact UInt8.toNat_lt _ | (apply Eq.trans; (with_reducible assumption); exact rfl) | exact rfl | exact fun _ _ => rfl)) ?_)
                          refine Call.name [(2002, []), (0, [])] rfl trivial (CallP.intro hI [(1003, (2002, 0, none)), (1001, (302, 0, none))] rfl (by repeat' (first | (show AllP _; first | exact trivial | refine AllP.app ?_ ?_ | refine AllP.appd ?_ ?_ | refine AllP.cons ?_ ?_) | with_reducible rfl | with_reducible assumption | omega | (simp only [Nat.zero_add, Int.toNat_natCast, hy1, eq0, rng, Ix.val, addQ_eq, addI, sz3, sz4, sz5, sz28, sz29, sz30, sz32, sz33, sz34, sz40, sz42, sz56, sz57] <;> omega) | (simp only [Nat.zero_add, Int.toNat_natCast, hy1, eq0, rng, Ix.val, Int.toNat_natCast, mulE_eq, addQ_eq, addI, Option.getD_none, Option.getD_some, List.length_take, List.length_drop, List.length_append, List.length_set, List.length_replicate, sz3, sz4, sz5, sz28, sz29, sz30, sz32, sz33, sz34, sz40, sz42, sz56, sz57, *] <;> omega) | (simp only [Ix.val]; with_reducible assumption) | exact UInt8.toNat_lt _ | (apply Eq.trans; (with_reducible assumption); exact rfl) | exact rfl | exact fun _ _ => rfl)) rfl (by repeat' (first | (show AllP _; first | exact trivial | refine AllP.app ?_ ?_ | refine AllP.appd ?_ ?_ | refine AllP.cons ?_ ?_) | with_reducible rfl | with_reducible assumption | omega | (simp only [Nat.zero_add, Int.toNat_natCast, hy1, rng, Ix.val, addQ_eq, addI, sz3, sz4, sz5, sz28, sz29, sz30, sz32, sz33, sz34, sz40, sz42, sz56, sz57] <;> omega) | (simp only [Nat.zero_add, Int.toNat_natCast, hy1, rng, Ix.val, Int.toNat_natCast, mulE_eq, addQ_eq, addI, Option.getD_none, Option.getD_some, List.length_take, List.length_drop, List.length_append, List.length_set, List.length_replicate, sz3, sz4, sz5, sz28, sz29, sz30, sz32, sz33, sz34, sz40, sz42, sz56, sz57, *] <;> omega) | (simp only [Ix.val]; with_reducible assumption) | exact UInt8.toNat_lt _ | (apply Eq.trans; (with_reducible assumption); exact rfl) | exact rfl | exact fun _ _ => rfl)) rfl ?_)
                          rintro v M' ⟨l2, cl, rfl, hlc, rfl, rfl⟩
                          dsimp only [putT, afterM, newEnt, ren, renA, renS, renL, look, getM, getT, ev, evL, ofVal, cond_true, cond_false, Nat.beq_eq, act, isPar, ownPar, Ent.isOwn]
                          have htr := toI_len r
                          repeat (refine sd ?_)
                          refine Loop.intro (σ := Nat × (Nat → Prop) × Prop) (fun s => s.1 ≤ r.length ∧ (∀ z, s.2.1 z ↔ (D' z ∨ ∃ j, j < s.1 ∧ r.getD j 0 = z)) ∧ (¬ s.2.2 → ¬ a1 ∧ ∀ z, s.2.1 z → D' z) ∧ (s.2.2 → a1 ∨ cntN s.2.1 n < cntN D' n))
                            (fun s => ([(0, .ptr 1000 0 none), (5, .i .i64 (n : Int)), (6, .sl 28 0 0 (n + 1) (n + 1)), (7, .sl 31 0 0 (n + 1) (n + 1)), (11, .bool s.2.2), (12, .i .i64 ((q : Int) + 1)), (19, .sl 302 0 0 r.length cl), (20, .i .i64 (s.1 : Int))],
                              [(1000, .mem false 0 [(1, .slx 1001 0 0 n)]), (1001, .mem false 0 [(n * 2, .arr n 2 (rtF T))]), (1003, .mem false 0 [(m * 1, .arr m 1 (rwF S))]), (28, .mem true 0 [(n + 1, .arr (n + 1) 1 (bF s.2.1))]), (31, .mem true 0 [(n + 1, .arr (n + 1) 1 (bF K1))])] ++ [(302, .mem true (cl - r.length) [(r.length, .ai (toI r))])]))
                            (fun s => r.length - s.1) (0, D', a1) ⟨Nat.zero_le _, fun z => ⟨Or.inl, fun h => h.resolve_right fun ⟨j, hj, _⟩ => absurd hj (Nat.not_lt_zero _)⟩, fun h => ⟨h, fun _ h => h⟩, Or.inl⟩ ?_ ?_
                          · refine Le.intro [] rfl ?_ rfl ?_ rfl
                            · exact fc
                            · exact fc
                          rintro ⟨k, D2, a2⟩ ⟨hk, hD2, ha2, hb2⟩
                          have hk : k ≤ r.length := hk
                          have hD2 : ∀ z, D2 z ↔ (D' z ∨ ∃ j, j < k ∧ r.getD j 0 = z) := hD2
                          have ha2 : ¬ a2 → ¬ a1 ∧ ∀ z, D2 z → D' z := ha2
                          have hb2 : a2 → a1 ∨ cntN D2 n < cntN D' n := hb2
                          refine Branch.intro (fun hd2 => ?_) (fun hd2 => ?_)
                          · have hd2 : (k : Int) < r.length := hd2
                            have hg := toI_getD r (i := k) (by omega)
                            have hz1 := hrle _ (getD_mem 0 (L := r) (i := k) (by omega))
                            obtain ⟨z, hz2⟩ : ∃ z, r.getD k 0 = z := ⟨_, rfl⟩
                            rw [hz2] at hg hz1
                            have eZ : ∀ P : Nat → Prop, P (addQ 0 (Ix.dyn ((toI r).getD (addQ 0 (Ix.dyn ((k : Int)).toNat).val) 0).toNat).val) ↔ P z := fun P => by
                              rw [addQ_eq, addQ_eq, Nat.zero_add, Nat.zero_add]
                              show P ((toI r).getD k 0).toNat ↔ _
                              rw [hg, Int.toNat_natCast]
                            have hset : ∀ w, (w = z ∨ D2 w) ↔ (D' w ∨ ∃ j, j < k + 1 ∧ r.getD j 0 = w) := fun w => by
                              rw [hD2]
                              constructor
                              · rintro (h | h | ⟨j, hj, h⟩)
                                · exact Or.inr ⟨k, Nat.lt_succ_self k, by rw [hz2, h]⟩
                                · exact Or.inl h
                                · exact Or.inr ⟨j, Nat.lt_succ_of_lt hj, h⟩
                              · rintro (h | ⟨j, hj, h⟩)
                                · exact Or.inr (Or.inl h)
                                · rcases Nat.lt_or_ge j k with hjk | hjk
                                  · exact Or.inr (Or.inr ⟨j, hjk, h⟩)
                                  · obtain rfl : j = k := by have : j < k + 1 := hj; omega
                                    exact Or.inl (by rw [← h, hz2])
                            repeat (refine Side.intro (by repeat' (first | (show AllP _; first | exact trivial | refine AllP.app ?_ ?_ | refine AllP.appd ?_ ?_ | refine AllP.cons ?_ ?_) | with_reducible rfl | with_reducible assumption | omega | (simp only [Nat.zero_add, Int.toNat_natCast, hg, rng, Ix.val, addQ_eq, addI, sz3, sz4, sz5, sz28, sz29, sz30, sz32, sz33, sz34, sz40, sz42, sz56, sz57] <;> omega) | (simp only [Nat.zero_add, Int.toNat_natCast, hg, rng, Ix.val, Int.toNat_natCast, mulE_eq, addQ_eq, addI, Option.getD_none, Option.getD_some, List.length_take, List.length_drop, List.length_append, List.length_set, List.length_replicate, sz3, sz4, sz5, sz28, sz29, sz30, sz32, sz33, sz34, sz40, sz42, sz56, sz57, *] <;> omega) | (simp only [Ix.val]; with_reducible assumption) | exact UInt8.toNat_lt _ | (apply Eq.trans; (with_reducible assumption); exact rfl) | exact rfl | exact fun _ _ => rfl)) ?_)
                            refine Branch.intro (fun hn2 => ?_) (fun hn2 => ?_)
                            · have hn2 : ¬ D2 z := fun h => hn2 ((eZ D2).2 h)
                              have hlt : cntN (fun w => w = z ∨ D2 w) n < cntN D' n := by
                                have h1 := cntN_lt (O := D2) (O' := fun w => w = z ∨ D2 w) (q := z - 1) (fun w hw => Or.inr hw) (by rw [show z - 1 + 1 = z by omega]; exact hn2) (Or.inl (by omega)) n (by omega)
                                have h2 := cntN_le (O := D') (O' := D2) (fun w hw => (hD2 w).2 (Or.inl hw)) n
                                omega
                              clear hD2 eZ
                              repeat (refine Side.intro (by repeat' (first | (show AllP _; first | exact trivial | refine AllP.app ?_ ?_ | refine AllP.appd ?_ ?_ | refine AllP.cons ?_ ?_) | with_reducible rfl | with_reducible assumption | omega | (simp only [Nat.zero_add, Int.toNat_natCast, hg, rng, Ix.val, addQ_eq, addI, sz3, sz4, sz5, sz28, sz29, sz30, sz32, sz33, sz34, sz40, sz42, sz56, sz57] <;> omega) | (simp only [Nat.zero_add, Int.toNat_natCast, hg, rng, Ix.val, Int.toNat_natCast, mulE_eq, addQ_eq, addI, Option.getD_none, Option.getD_some, List.length_take, List.length_drop, List.length_append, List.length_set, List.length_replicate, sz3, sz4, sz5, sz28, sz29, sz30, sz32, sz33, sz34, sz40, sz42, sz56, sz57, *] <;> omega) | (simp only [Ix.val]; with_reducible assumption) | exact UInt8.toNat_lt _ | (apply Eq.trans; (with_reducible assumption); exact rfl) | exact rfl | exact fun _ _ => rfl)) ?_)
                              refine ⟨(k + 1, fun w => w = z ∨ D2 w, True), ⟨by show k + 1 ≤ r.length; omega, hset, fun h => absurd trivial h, fun _ => Or.inr hlt⟩, by show r.length - (k + 1) < r.length - k; omega, Le.intro [] rfl ?_ rfl ?_ rfl⟩
                              · exact fc
                              · repeat' (first | (show AllP _; first | exact trivial | refine AllP.app ?_ ?_ | refine AllP.appd ?_ ?_ | refine AllP.cons ?_ ?_) | with_reducible rfl | with_reducible assumption | omega | (simp only [rng, Ix.val, addQ_eq, addI, sz3, sz4, sz5, sz28, sz29, sz30, sz32, sz33, sz34, sz40, sz42, sz56, sz57] <;> omega) | (simp only [rng, Ix.val, Int.toNat_natCast, mulE_eq, addQ_eq, addI, Option.getD_none, Option.getD_some, List.length_take, List.length_drop, List.length_append, List.length_set, List.length_replicate, sz3, sz4, sz5, sz28, sz29, sz30, sz32, sz33, sz34, sz40, sz42, sz56, sz57, *] <;> omega) | (simp only [Ix.val]; with_reducible assumption) | exact UInt8.toNat_lt _ | (apply Eq.trans; (with_reducible assumption); exact rfl) | exact rfl | exact fun _ _ => rfl)
                                all_goals (intro q2 hq2; simp only [Ix.val, addQ_eq, Nat.zero_add, Int.toNat_natCast, hg]; exact bF_put (fun _ => Iff.rfl) q2)
                            · have hn2 : D2 z := (eZ D2).1 (Classical.byContradiction fun h => hn2 h)
                              clear hD2 eZ
                              repeat (refine sd ?_)
                              refine ⟨(k + 1, D2, a2), ⟨by show k + 1 ≤ r.length; omega, fun w => ⟨fun h => (hset w).1 (Or.inr h), fun h => ((hset w).2 h).elim (fun e => by rw [e]; exact hn2) id⟩, ha2, hb2⟩, by show r.length - (k + 1) < r.length - k; omega, Le.intro [] rfl ?_ rfl ?_ rfl⟩
                              · exact fc
                              · exact fc
                          · have hd2 : ¬ (k : Int) < r.length := hd2
                            have hO3 := hO1.opens (D2 := D2) (ag2 := a2) hT (by omega) hkk hP1 (by rw [hx]; exact h8) ht (by rw [hx]; omega) (by rw [hx]; exact hal) (fun z => by
                              rw [hD2, hx, hr]
                              constructor
                              · rintro (h | ⟨j, hj, h⟩)
                                · exact Or.inl h
                                · exact Or.inr (by rw [← h]; exact getD_mem 0 (by omega))
                              · rintro (h | h)
                                · exact Or.inl h
                                · obtain ⟨y, hy, rfl⟩ := List.getElem_of_mem h
                                  exact Or.inr ⟨y, by omega, by rw [List.getD_eq_getElem?_getD, List.getElem?_eq_getElem hy]; rfl⟩) ha2 hb2
                            clear hD2
                            repeat (refine sd ?_)
                            refine ⟨(K1, D2, a2), hO3, Le.intro [] rfl ?_ rfl ?_ rfl⟩
                            · exact fc
                            · exact fc
                        · have hl : ¬ (x.2.length : Int) > 1 := hl
                          repeat (refine sd ?_)
                          refine ⟨(K1, D', a1), hO1.pass hkk hP1 (by rw [hx]; exact (fun h => by omega)), Le.intro [] rfl ?_ rfl ?_ rfl⟩
                          · exact fc
                          · exact fc
                      · have hal : ¬ AllK K1 (nmJ q x.2 0) := hal
                        repeat (refine sd ?_)
                        refine ⟨(K1, D', a1), hO1.pass hkk hP1 (by rw [hx]; exact (fun h => hal h.2.2.2)), Le.intro [] rfl ?_ rfl ?_ rfl⟩
                        · exact fc
                        · exact fc
                  · have ht : ¬ D' (q + 1) := fun h => ht ((eP D').2 h)
                    repeat (refine sd ?_)
                    refine ⟨(K1, D', a1), hO1.pass hkk hP1 (by rw [hx]; exact (fun h => ht h.2.1)), Le.intro [] rfl ?_ rfl ?_ rfl⟩
                    · exact fc
                    · exact fc
                · have h8 : ¬ x.1 = 8 := h8
                  repeat (refine sd ?_)
                  refine ⟨(K1, D', a1), hO1.pass hkk hP1 (by rw [hx]; exact (fun h => h8 h.1)), Le.intro [] rfl ?_ rfl ?_ rfl⟩
                  · exact fc
                  · exact fc
          · rintro ⟨K2, D2, a2⟩ hO2
            have hO2 : RoI T S n m (q + 1) K D K2 D2 a2 := hO2
            repeat (refine sd ?_)
            refine ⟨(q + 1, K2, D2, a2), ⟨by show q + 1 ≤ n; omega, hO2⟩, by show n - (q + 1) < n - q; omega, Le.intro [] rfl ?_ rfl ?_ rfl⟩
            · exact fc
            · exact fc
        · have hd : ¬ (q : Int) + 1 ≤ n := hd
          obtain rfl : n = q := by omega
          repeat (refine sd ?_)
          refine ⟨(K', D', ag'), ⟨hO.rf, fun ha => RoI.closed hT hS hO ha⟩, ?_, Le.intro [] rfl ?_ rfl ?_ rfl⟩
          · show 2 * (cntN K' n + cntN D' n) + (open Classical in if ag' then 1 else 0) < 2 * (cntN K n + cntN D n) + (open Classical in if ag then 1 else 0)
            rw [if_pos hag]
            by_cases ha : ag'
            · rw [if_pos ha]; have := hO.less ha; omega
            · rw [if_neg ha]; have := cntN_le hO.kk n; have := cntN_le hO.dd n; omega
          · exact fc
          · exact fc
      · have hag : ¬ ag := hag
        have hC := hCl hag
        have hKe : ∀ q, K q ↔ KnP T S q := fun q => ⟨hR.ks q, fun h => h K D hC⟩
        repeat (refine sd ?_)
        refine Ret.intro (.sl 1006 0 0 (n + 1) (n + 1)) [(1000, .mem false 0 [(1, .slx 1001 0 0 n)]), (1001, .mem false 0 [(n * 2, .arr n 2 (rtF T))]), (1003, .mem false 0 [(m * 1, .arr m 1 (rwF S))]), (1006, .mem true 0 [(n + 1, .arr (n + 1) 1 (bF (KnP T S)))])] [(1006, (31, 0, none))] rfl ?_ ⟨rfl, rfl⟩ rfl ?_ rfl ?_ rfl
        · exact fc
        · exact fc
        · repeat' (first | (show AllP _; first | exact trivial | refine AllP.app ?_ ?_ | refine AllP.appd ?_ ?_ | refine AllP.cons ?_ ?_) | with_reducible rfl | with_reducible assumption | omega | (simp only [rng, Ix.val, addQ_eq, addI, sz3, sz4, sz5, sz28, sz29, sz30, sz32, sz33, sz34, sz40, sz42, sz56, sz57] <;> omega) | (simp only [rng, Ix.val, Int.toNat_natCast, mulE_eq, addQ_eq, addI, Option.getD_none, Option.getD_some, List.length_take, List.length_drop, List.length_append, List.length_set, List.length_replicate, sz3, sz4, sz5, sz28, sz29, sz30, sz32, sz33, sz34, sz40, sz42, sz56, sz57, *] <;> omega) | (simp only [Ix.val]; with_reducible assumption) | exact UInt8.toNat_lt _ | (apply Eq.trans; (with_reducible assumption); exact rfl) | exact rfl | exact fun _ _ => rfl)
          all_goals exact fun q _ => bF_congr (hKe q).symm

end Go.Proofs.Ytoaaplgjacjlpaa
