/- What the functions of the program compute. No condition. -/
import Derived.Test.YtoaaplgjacjlpaaHwTm18ToTm18
import Derived.Test.YtoaaplgjacjlpaaHwTm19ToTm19
set_option linter.unusedSimpArgs false
set_option linter.unusedVariables false
namespace Go.Proofs.Ytoaaplgjacjlpaa
open Go Go.Sx

/-! law12.TermUnlike. -/

theorem plA_valid (l : List Opr) : ∀ x ∈ plA l, Valid x.1 x.2 := by unfold plA; exact plT_valid l _

set_option maxRecDepth 100000 in
set_option maxHeartbeats 4000000 in
theorem fn5 (l : List Opr) (hl : l.length ≤ maxLen) (hO : ∀ o ∈ l, OpOK o) (a b : Opr) (ha : OpOK a) (hb : OpOK b) : Sx.Fn Γ.P 5 [opsS l, .agg (rowO a), .agg (rowO b)] [] (fun v _ => v = .tt) := by
  have hA := fn8
  have hNew := fn9
  have hP := fn10 l hl hO
  have hby33 : (Γ.ty 33).bytes = 24 := rfl
  have hmx : maxLen = 9223372036854775807 := by decide
  unfold opsS rowO ptsS at *
  refine fn_cut [1000013, 1000017] (Γ := Γ) (fn := Try.f5) rfl rfl rfl rfl ?_
  repeat (refine sd ?_)
  refine Call.intro hA [] rfl trivial rfl trivial rfl ?_
  rintro v M' rfl
  dsimp only [putT, afterM, newEnt, ren, renA, renS, renL, look, getM, getT, ev, evL, ofVal, cond_true, cond_false, Nat.beq_eq, act, isPar, ownPar, Ent.isOwn]
  clear hA
  repeat (refine sd ?_)
  refine Call.intro hNew [(1000, (1000, 0, none)), (1002, (1002, 0, none))] rfl fc rfl trivial rfl ?_
  rintro v M' ⟨rfl, rfl⟩
  dsimp only [putT, afterM, newEnt, ren, renA, renS, renL, look, getM, getT, ev, evL, ofVal, cond_true, cond_false, Nat.beq_eq, act, isPar, ownPar, Ent.isOwn]
  clear hNew
  repeat (refine sd ?_)
  refine Call.intro hP [(1000, (1000, 0, none)), (1002, (1002, 0, none)), (1010, (24, 0, none)), (1005, (305, 0, none)), (1015, (315, 0, none))] rfl ?_ rfl ?_ rfl ?_
  · exact fc
  · exact fc
  rintro v M' ⟨n, c, d, hn, hnc, hnd, hn80, rfl, rfl⟩
  dsimp only [putT, afterM, newEnt, ren, renA, renS, renL, look, getM, getT, ev, evL, ofVal, cond_true, cond_false, Nat.beq_eq, act, isPar, ownPar, Ent.isOwn]
  clear hP
  have hAv := plA_valid l
  repeat (refine sd ?_)
  obtain ⟨m1, hm1⟩ : ∃ m, a.2.length = m := ⟨_, rfl⟩
  obtain ⟨m2, hm2⟩ : ∃ m, b.2.length = m := ⟨_, rfl⟩
  refine Join.intro (σ := Nat × Nat) (fun s => s.1 = min m1 6 ∧ s.1 ≤ s.2) (fun s => ([(4, .ptr 4 0 none), (5, .ptr 5 0 none), (7, .ptr 1000 0 none), (8, .ptr 24 0 none), (9, .i .i64 (n : Int)), (11, .nsl), (10, .sl 210 0 0 s.1 s.2)], [(1000, .mem true 0 [(1, .sl 305 0 0 n c), (1, .mp 1002)]), (1002, .map (.si (mpL (plA l)))), (305, .mem true (mulE (c - n) 3) [(n * 3, .arr n 3 (ttF (plA l)))]), (24, .mem true 0 [(1, .sl 315 0 0 n d)]), (315, .mem true (mulE (d - n) 2) [(n * 2, .arr n 2 (rtF (plA l)))]), (4, .mem true 0 [(1, .i .i64 a.1), (1, .isl 0 a.2.length 2 [(a.2.length * 2, .arr a.2.length 2 (ptF a.2))])]), (5, .mem true 0 [(1, .i .i64 b.1), (1, .isl 0 b.2.length 2 [(b.2.length * 2, .arr b.2.length 2 (ptF b.2))])]), (210, .mem true (s.2 - s.1) [(s.1 * 1, .arr s.1 1 (rwF (cuK a.2 n s.1)))])])) ?_ ?_
  · repeat (refine sd ?_)
    refine Loop.intro (σ := Nat × Nat) (fun s => s.1 ≤ m1 ∧ s.1 ≤ 6 ∧ s.1 ≤ s.2)
      (fun s => ([(4, .ptr 4 0 none), (5, .ptr 5 0 none), (7, .ptr 1000 0 none), (8, .ptr 24 0 none), (9, .i .i64 (n : Int)), (11, .nsl), (10, .sl 210 0 0 s.1 s.2), (12, .i .i64 (s.1 : Int))], [(1000, .mem true 0 [(1, .sl 305 0 0 n c), (1, .mp 1002)]), (1002, .map (.si (mpL (plA l)))), (305, .mem true (mulE (c - n) 3) [(n * 3, .arr n 3 (ttF (plA l)))]), (24, .mem true 0 [(1, .sl 315 0 0 n d)]), (315, .mem true (mulE (d - n) 2) [(n * 2, .arr n 2 (rtF (plA l)))]), (4, .mem true 0 [(1, .i .i64 a.1), (1, .isl 0 a.2.length 2 [(a.2.length * 2, .arr a.2.length 2 (ptF a.2))])]), (5, .mem true 0 [(1, .i .i64 b.1), (1, .isl 0 b.2.length 2 [(b.2.length * 2, .arr b.2.length 2 (ptF b.2))])]), (210, .mem true (s.2 - s.1) [(s.1 * 1, .arr s.1 1 (rwF (cuK a.2 n s.1)))])]))
      (fun s => m1 - s.1) (0, 0) ⟨Nat.zero_le _, Nat.zero_le _, Nat.le_refl _⟩ ?_ ?_
    · refine Le.ghost [.own 210 [(0, .arr 0 1 (rwF (cuK a.2 n 0)))]] [(10, 210)] [] rfl ⟨rfl, rfl, trivial⟩ rfl rfl ?_ rfl ?_ rfl
      · exact fc
      · exact fc
    rintro ⟨i, ci⟩ ⟨hi, hi6, hic⟩
    have hi : i ≤ m1 := hi
    have hi6 : i ≤ 6 := hi6
    have hic : i ≤ ci := hic
    repeat (refine Side.intro (by repeat' (first | (show AllP _; first | exact trivial | refine AllP.app ?_ ?_ | refine AllP.appd ?_ ?_ | refine AllP.cons ?_ ?_) | with_reducible rfl | with_reducible assumption | omega | (simp only [hm1, rng, Ix.val, addQ_eq, addI, sz3, sz5, sz22, sz23, sz25, sz27, sz28, sz29, sz30, sz32, sz33, sz34, sz35, sz36, sz38, sz42, sz47, sz48, sz49, sz57, sz66, sz67, sz68, sz69, sz74, sz76, sz77, sz78] <;> omega) | (simp only [hm1, rng, Ix.val, Int.toNat_natCast, mulE_eq, addQ_eq, addI, Option.getD_none, Option.getD_some, List.length_take, List.length_drop, List.length_append, List.length_set, List.length_replicate, sz3, sz5, sz22, sz23, sz25, sz27, sz28, sz29, sz30, sz32, sz33, sz34, sz35, sz36, sz38, sz42, sz47, sz48, sz49, sz57, sz66, sz67, sz68, sz69, sz74, sz76, sz77, sz78, *] <;> omega) | (simp only [Ix.val]; with_reducible assumption) | exact UInt8.toNat_lt _ | (apply Eq.trans; (with_reducible assumption); exact rfl) | exact rfl | exact fun _ _ => rfl)) ?_)
    refine Branch.intro (fun hd1 => ?_) (fun hd1 => ?_)
    · have hd1 : (i : Int) < a.2.length := hd1
      rw [hm1] at hd1
      repeat (refine sd ?_)
      refine Branch.intro (fun hd2 => ?_) (fun hd2 => ?_)
      · have hd2 : (i : Int) < 6 := hd2
        obtain ⟨p, hp⟩ : ∃ p, a.2.getD i pt0 = p := ⟨_, rfl⟩
        have hPo : PtOK p := by rw [← hp]; exact ha.2 _ (getD_mem pt0 (by omega))
        have hC := fn11 p hPo.1 hPo.2 n (by omega)
        have hCl := ctB_le p n 5000
        unfold ptS at hC
        unfold ptF
        repeat (refine Side.intro (by repeat' (first | (show AllP _; first | exact trivial | refine AllP.app ?_ ?_ | refine AllP.appd ?_ ?_ | refine AllP.cons ?_ ?_) | with_reducible rfl | with_reducible assumption | omega | (simp only [Nat.zero_add, Int.toNat_natCast, hm1, hp, rng, Ix.val, addQ_eq, addI, sz3, sz5, sz22, sz23, sz25, sz27, sz28, sz29, sz30, sz32, sz33, sz34, sz35, sz36, sz38, sz42, sz47, sz48, sz49, sz57, sz66, sz67, sz68, sz69, sz74, sz76, sz77, sz78] <;> omega) | (simp only [Nat.zero_add, Int.toNat_natCast, hm1, hp, rng, Ix.val, Int.toNat_natCast, mulE_eq, addQ_eq, addI, Option.getD_none, Option.getD_some, List.length_take, List.length_drop, List.length_append, List.length_set, List.length_replicate, sz3, sz5, sz22, sz23, sz25, sz27, sz28, sz29, sz30, sz32, sz33, sz34, sz35, sz36, sz38, sz42, sz47, sz48, sz49, sz57, sz66, sz67, sz68, sz69, sz74, sz76, sz77, sz78, *] <;> omega) | (simp only [Ix.val]; with_reducible assumption) | exact UInt8.toNat_lt _ | (apply Eq.trans; (with_reducible assumption); exact rfl) | exact rfl | exact fun _ _ => rfl)) ?_)
        refine Call.intro hC [(1001, (302, 0, none))] rfl (by repeat' (first | (show AllP _; first | exact trivial | refine AllP.app ?_ ?_ | refine AllP.appd ?_ ?_ | refine AllP.cons ?_ ?_) | with_reducible rfl | with_reducible assumption | omega | (simp only [Nat.zero_add, Int.toNat_natCast, hm1, hp, rng, Ix.val, addQ_eq, addI, sz3, sz5, sz22, sz23, sz25, sz27, sz28, sz29, sz30, sz32, sz33, sz34, sz35, sz36, sz38, sz42, sz47, sz48, sz49, sz57, sz66, sz67, sz68, sz69, sz74, sz76, sz77, sz78] <;> omega) | (simp only [Nat.zero_add, Int.toNat_natCast, hm1, hp, rng, Ix.val, Int.toNat_natCast, mulE_eq, addQ_eq, addI, Option.getD_none, Option.getD_some, List.length_take, List.length_drop, List.length_append, List.length_set, List.length_replicate, sz3, sz5, sz22, sz23, sz25, sz27, sz28, sz29, sz30, sz32, sz33, sz34, sz35, sz36, sz38, sz42, sz47, sz48, sz49, sz57, sz66, sz67, sz68, sz69, sz74, sz76, sz77, sz78, *] <;> omega) | (simp only [Ix.val]; with_reducible assumption) | exact UInt8.toNat_lt _ | (apply Eq.trans; (with_reducible assumption); exact rfl) | exact rfl | exact fun _ _ => rfl)) rfl trivial rfl ?_
        rintro v M' ⟨N, cN, hN, hNc, rfl, rfl⟩
        dsimp only [putT, afterM, newEnt, ren, renA, renS, renL, look, getM, getT, ev, evL, ofVal, cond_true, cond_false, Nat.beq_eq, act, isPar, ownPar, Ent.isOwn]
        refine fun c2 hc5 => ?_
        have hc5 : i + 1 ≤ c2 := hc5
        repeat (refine Side.intro (by repeat' (first | (show AllP _; first | exact trivial | refine AllP.app ?_ ?_ | refine AllP.appd ?_ ?_ | refine AllP.cons ?_ ?_) | with_reducible rfl | with_reducible assumption | omega | (simp only [Nat.zero_add, Int.toNat_natCast, hm1, rng, Ix.val, addQ_eq, addI, sz3, sz5, sz22, sz23, sz25, sz27, sz28, sz29, sz30, sz32, sz33, sz34, sz35, sz36, sz38, sz42, sz47, sz48, sz49, sz57, sz66, sz67, sz68, sz69, sz74, sz76, sz77, sz78] <;> omega) | (simp only [Nat.zero_add, Int.toNat_natCast, hm1, rng, Ix.val, Int.toNat_natCast, mulE_eq, addQ_eq, addI, Option.getD_none, Option.getD_some, List.length_take, List.length_drop, List.length_append, List.length_set, List.length_replicate, sz3, sz5, sz22, sz23, sz25, sz27, sz28, sz29, sz30, sz32, sz33, sz34, sz35, sz36, sz38, sz42, sz47, sz48, sz49, sz57, sz66, sz67, sz68, sz69, sz74, sz76, sz77, sz78, *] <;> omega) | (simp only [Ix.val]; with_reducible assumption) | exact UInt8.toNat_lt _ | (apply Eq.trans; (with_reducible assumption); exact rfl) | exact rfl | exact fun _ _ => rfl)) ?_)
        refine ⟨(i + 1, c2), ⟨by show i + 1 ≤ m1; omega, by show i + 1 ≤ 6; omega, hc5⟩, by show m1 - (i + 1) < m1 - i; omega, Le.intro [(210, (55, 0, none))] rfl ?_ rfl ?_ rfl⟩
        · exact fcn
        · repeat' (first | (show AllP _; first | exact trivial | refine AllP.app ?_ ?_ | refine AllP.appd ?_ ?_ | refine AllP.cons ?_ ?_) | with_reducible rfl | with_reducible assumption | omega | (simp only [Nat.zero_add, Int.toNat_natCast, rng, Ix.val, addQ_eq, addI, sz3, sz5, sz22, sz23, sz25, sz27, sz28, sz29, sz30, sz32, sz33, sz34, sz35, sz36, sz38, sz42, sz47, sz48, sz49, sz57, sz66, sz67, sz68, sz69, sz74, sz76, sz77, sz78] <;> omega) | (simp only [Nat.zero_add, Int.toNat_natCast, rng, Ix.val, Int.toNat_natCast, mulE_eq, addQ_eq, addI, Option.getD_none, Option.getD_some, List.length_take, List.length_drop, List.length_append, List.length_set, List.length_replicate, sz3, sz5, sz22, sz23, sz25, sz27, sz28, sz29, sz30, sz32, sz33, sz34, sz35, sz36, sz38, sz42, sz47, sz48, sz49, sz57, sz66, sz67, sz68, sz69, sz74, sz76, sz77, sz78, *] <;> omega) | (simp only [Ix.val]; with_reducible assumption) | exact UInt8.toNat_lt _ | (apply Eq.trans; (with_reducible assumption); exact rfl) | exact rfl | exact fun _ _ => rfl)
          subst hp
          show ∀ q, q < i + 1 → rwF (cuK a.2 n (i + 1)) q = _
          rw [cuK_succ]
          refine appF_row (fun q hq => by rw [shiftF_eq, Nat.zero_add]; exact rwF_lt (by rw [cuK_length]; exact hq)) ?_
          have := rwF_at (cuK a.2 n i) (ctB (a.2.getD i pt0) n 5000)
          rw [cuK_length, hN, Nat.mul_one] at this
          exact this
      · have hd2 : ¬ (i : Int) < 6 := hd2
        repeat (refine sd ?_)
        refine ⟨(i, ci), ⟨by show i = min m1 6; omega, hic⟩, Le.intro [] rfl ?_ rfl ?_ rfl⟩
        · exact fc
        · exact fc
    · have hd1 : ¬ (i : Int) < a.2.length := hd1
      rw [hm1] at hd1
      repeat (refine sd ?_)
      refine ⟨(i, ci), ⟨by show i = min m1 6; omega, hic⟩, Le.intro [] rfl ?_ rfl ?_ rfl⟩
      · exact fc
      · exact fc
  rintro ⟨i, ci⟩ ⟨hii, hci⟩
  have hii : i = min m1 6 := hii
  have hci : i ≤ ci := hci
  refine Join.intro (σ := Nat × Nat) (fun s => s.1 = min m2 6 ∧ s.1 ≤ s.2) (fun s => ([(4, .ptr 4 0 none), (5, .ptr 5 0 none), (7, .ptr 1000 0 none), (8, .ptr 24 0 none), (9, .i .i64 (n : Int)), (10, .sl 210 0 0 i ci), (11, .sl 211 0 0 s.1 s.2)], [(1000, .mem true 0 [(1, .sl 305 0 0 n c), (1, .mp 1002)]), (1002, .map (.si (mpL (plA l)))), (305, .mem true (mulE (c - n) 3) [(n * 3, .arr n 3 (ttF (plA l)))]), (24, .mem true 0 [(1, .sl 315 0 0 n d)]), (315, .mem true (mulE (d - n) 2) [(n * 2, .arr n 2 (rtF (plA l)))]), (4, .mem true 0 [(1, .i .i64 a.1), (1, .isl 0 a.2.length 2 [(a.2.length * 2, .arr a.2.length 2 (ptF a.2))])]), (5, .mem true 0 [(1, .i .i64 b.1), (1, .isl 0 b.2.length 2 [(b.2.length * 2, .arr b.2.length 2 (ptF b.2))])]), (210, .mem true (ci - i) [(i * 1, .arr i 1 (rwF (cuK a.2 n i)))]), (211, .mem true (s.2 - s.1) [(s.1 * 1, .arr s.1 1 (rwF (cuK b.2 n s.1)))])])) ?_ ?_
  · repeat (refine sd ?_)
    refine Loop.intro (σ := Nat × Nat) (fun s => s.1 ≤ m2 ∧ s.1 ≤ 6 ∧ s.1 ≤ s.2)
      (fun s => ([(4, .ptr 4 0 none), (5, .ptr 5 0 none), (7, .ptr 1000 0 none), (8, .ptr 24 0 none), (9, .i .i64 (n : Int)), (10, .sl 210 0 0 i ci), (11, .sl 211 0 0 s.1 s.2), (13, .i .i64 (s.1 : Int))], [(1000, .mem true 0 [(1, .sl 305 0 0 n c), (1, .mp 1002)]), (1002, .map (.si (mpL (plA l)))), (305, .mem true (mulE (c - n) 3) [(n * 3, .arr n 3 (ttF (plA l)))]), (24, .mem true 0 [(1, .sl 315 0 0 n d)]), (315, .mem true (mulE (d - n) 2) [(n * 2, .arr n 2 (rtF (plA l)))]), (4, .mem true 0 [(1, .i .i64 a.1), (1, .isl 0 a.2.length 2 [(a.2.length * 2, .arr a.2.length 2 (ptF a.2))])]), (5, .mem true 0 [(1, .i .i64 b.1), (1, .isl 0 b.2.length 2 [(b.2.length * 2, .arr b.2.length 2 (ptF b.2))])]), (210, .mem true (ci - i) [(i * 1, .arr i 1 (rwF (cuK a.2 n i)))]), (211, .mem true (s.2 - s.1) [(s.1 * 1, .arr s.1 1 (rwF (cuK b.2 n s.1)))])]))
      (fun s => m2 - s.1) (0, 0) ⟨Nat.zero_le _, Nat.zero_le _, Nat.le_refl _⟩ ?_ ?_
    · refine Le.ghost [.own 211 [(0, .arr 0 1 (rwF (cuK b.2 n 0)))]] [(11, 211)] [] rfl ⟨rfl, rfl, trivial⟩ rfl rfl ?_ rfl ?_ rfl
      · exact fc
      · exact fc
    rintro ⟨j, cj⟩ ⟨hi, hi6, hic⟩
    have hi : j ≤ m2 := hi
    have hi6 : j ≤ 6 := hi6
    have hic : j ≤ cj := hic
    repeat (refine Side.intro (by repeat' (first | (show AllP _; first | exact trivial | refine AllP.app ?_ ?_ | refine AllP.appd ?_ ?_ | refine AllP.cons ?_ ?_) | with_reducible rfl | with_reducible assumption | omega | (simp only [hm2, rng, Ix.val, addQ_eq, addI, sz3, sz5, sz22, sz23, sz25, sz27, sz28, sz29, sz30, sz32, sz33, sz34, sz35, sz36, sz38, sz42, sz47, sz48, sz49, sz57, sz66, sz67, sz68, sz69, sz74, sz76, sz77, sz78] <;> omega) | (simp only [hm2, rng, Ix.val, Int.toNat_natCast, mulE_eq, addQ_eq, addI, Option.getD_none, Option.getD_some, List.length_take, List.length_drop, List.length_append, List.length_set, List.length_replicate, sz3, sz5, sz22, sz23, sz25, sz27, sz28, sz29, sz30, sz32, sz33, sz34, sz35, sz36, sz38, sz42, sz47, sz48, sz49, sz57, sz66, sz67, sz68, sz69, sz74, sz76, sz77, sz78, *] <;> omega) | (simp only [Ix.val]; with_reducible assumption) | exact UInt8.toNat_lt _ | (apply Eq.trans; (with_reducible assumption); exact rfl) | exact rfl | exact fun _ _ => rfl)) ?_)
    refine Branch.intro (fun hd1 => ?_) (fun hd1 => ?_)
    · have hd1 : (j : Int) < b.2.length := hd1
      rw [hm2] at hd1
      repeat (refine sd ?_)
      refine Branch.intro (fun hd2 => ?_) (fun hd2 => ?_)
      · have hd2 : (j : Int) < 6 := hd2
        obtain ⟨p, hp⟩ : ∃ p, b.2.getD j pt0 = p := ⟨_, rfl⟩
        have hPo : PtOK p := by rw [← hp]; exact hb.2 _ (getD_mem pt0 (by omega))
        have hC := fn11 p hPo.1 hPo.2 n (by omega)
        have hCl := ctB_le p n 5000
        unfold ptS at hC
        unfold ptF
        repeat (refine Side.intro (by repeat' (first | (show AllP _; first | exact trivial | refine AllP.app ?_ ?_ | refine AllP.appd ?_ ?_ | refine AllP.cons ?_ ?_) | with_reducible rfl | with_reducible assumption | omega | (simp only [Nat.zero_add, Int.toNat_natCast, hm2, hp, rng, Ix.val, addQ_eq, addI, sz3, sz5, sz22, sz23, sz25, sz27, sz28, sz29, sz30, sz32, sz33, sz34, sz35, sz36, sz38, sz42, sz47, sz48, sz49, sz57, sz66, sz67, sz68, sz69, sz74, sz76, sz77, sz78] <;> omega) | (simp only [Nat.zero_add, Int.toNat_natCast, hm2, hp, rng, Ix.val, Int.toNat_natCast, mulE_eq, addQ_eq, addI, Option.getD_none, Option.getD_some, List.length_take, List.length_drop, List.length_append, List.length_set, List.length_replicate, sz3, sz5, sz22, sz23, sz25, sz27, sz28, sz29, sz30, sz32, sz33, sz34, sz35, sz36, sz38, sz42, sz47, sz48, sz49, sz57, sz66, sz67, sz68, sz69, sz74, sz76, sz77, sz78, *] <;> omega) | (simp only [Ix.val]; with_reducible assumption) | exact UInt8.toNat_lt _ | (apply Eq.trans; (with_reducible assumption); exact rfl) | exact rfl | exact fun _ _ => rfl)) ?_)
        refine Call.intro hC [(1001, (302, 0, none))] rfl (by repeat' (first | (show AllP _; first | exact trivial | refine AllP.app ?_ ?_ | refine AllP.appd ?_ ?_ | refine AllP.cons ?_ ?_) | with_reducible rfl | with_reducible assumption | omega | (simp only [Nat.zero_add, Int.toNat_natCast, hm2, hp, rng, Ix.val, addQ_eq, addI, sz3, sz5, sz22, sz23, sz25, sz27, sz28, sz29, sz30, sz32, sz33, sz34, sz35, sz36, sz38, sz42, sz47, sz48, sz49, sz57, sz66, sz67, sz68, sz69, sz74, sz76, sz77, sz78] <;> omega) | (simp only [Nat.zero_add, Int.toNat_natCast, hm2, hp, rng, Ix.val, Int.toNat_natCast, mulE_eq, addQ_eq, addI, Option.getD_none, Option.getD_some, List.length_take, List.length_drop, List.length_append, List.length_set, List.length_replicate, sz3, sz5, sz22, sz23, sz25, sz27, sz28, sz29, sz30, sz32, sz33, sz34, sz35, sz36, sz38, sz42, sz47, sz48, sz49, sz57, sz66, sz67, sz68, sz69, sz74, sz76, sz77, sz78, *] <;> omega) | (simp only [Ix.val]; with_reducible assumption) | exact UInt8.toNat_lt _ | (apply Eq.trans; (with_reducible assumption); exact rfl) | exact rfl | exact fun _ _ => rfl)) rfl trivial rfl ?_
        rintro v M' ⟨N, cN, hN, hNc, rfl, rfl⟩
        dsimp only [putT, afterM, newEnt, ren, renA, renS, renL, look, getM, getT, ev, evL, ofVal, cond_true, cond_false, Nat.beq_eq, act, isPar, ownPar, Ent.isOwn]
        refine fun c2 hc5 => ?_
        have hc5 : j + 1 ≤ c2 := hc5
        repeat (refine Side.intro (by repeat' (first | (show AllP _; first | exact trivial | refine AllP.app ?_ ?_ | refine AllP.appd ?_ ?_ | refine AllP.cons ?_ ?_) | with_reducible rfl | with_reducible assumption | omega | (simp only [Nat.zero_add, Int.toNat_natCast, hm2, rng, Ix.val, addQ_eq, addI, sz3, sz5, sz22, sz23, sz25, sz27, sz28, sz29, sz30, sz32, sz33, sz34, sz35, sz36, sz38, sz42, sz47, sz48, sz49, sz57, sz66, sz67, sz68, sz69, sz74, sz76, sz77, sz78] <;> omega) | (simp only [Nat.zero_add, Int.toNat_natCast, hm2, rng, Ix.val, Int.toNat_natCast, mulE_eq, addQ_eq, addI, Option.getD_none, Option.getD_some, List.length_take, List.length_drop, List.length_append, List.length_set, List.length_replicate, sz3, sz5, sz22, sz23, sz25, sz27, sz28, sz29, sz30, sz32, sz33, sz34, sz35, sz36, sz38, sz42, sz47, sz48, sz49, sz57, sz66, sz67, sz68, sz69, sz74, sz76, sz77, sz78, *] <;> omega) | (simp only [Ix.val]; with_reducible assumption) | exact UInt8.toNat_lt _ | (apply Eq.trans; (with_reducible assumption); exact rfl) | exact rfl | exact fun _ _ => rfl)) ?_)
        refine ⟨(j + 1, c2), ⟨by show j + 1 ≤ m2; omega, by show j + 1 ≤ 6; omega, hc5⟩, by show m2 - (j + 1) < m2 - j; omega, Le.intro [(211, (76, 0, none))] rfl ?_ rfl ?_ rfl⟩
        · exact fcn
        · repeat' (first | (show AllP _; first | exact trivial | refine AllP.app ?_ ?_ | refine AllP.appd ?_ ?_ | refine AllP.cons ?_ ?_) | with_reducible rfl | with_reducible assumption | omega | (simp only [Nat.zero_add, Int.toNat_natCast, rng, Ix.val, addQ_eq, addI, sz3, sz5, sz22, sz23, sz25, sz27, sz28, sz29, sz30, sz32, sz33, sz34, sz35, sz36, sz38, sz42, sz47, sz48, sz49, sz57, sz66, sz67, sz68, sz69, sz74, sz76, sz77, sz78] <;> omega) | (simp only [Nat.zero_add, Int.toNat_natCast, rng, Ix.val, Int.toNat_natCast, mulE_eq, addQ_eq, addI, Option.getD_none, Option.getD_some, List.length_take, List.length_drop, List.length_append, List.length_set, List.length_replicate, sz3, sz5, sz22, sz23, sz25, sz27, sz28, sz29, sz30, sz32, sz33, sz34, sz35, sz36, sz38, sz42, sz47, sz48, sz49, sz57, sz66, sz67, sz68, sz69, sz74, sz76, sz77, sz78, *] <;> omega) | (simp only [Ix.val]; with_reducible assumption) | exact UInt8.toNat_lt _ | (apply Eq.trans; (with_reducible assumption); exact rfl) | exact rfl | exact fun _ _ => rfl)
          subst hp
          show ∀ q, q < j + 1 → rwF (cuK b.2 n (j + 1)) q = _
          rw [cuK_succ]
          refine appF_row (fun q hq => by rw [shiftF_eq, Nat.zero_add]; exact rwF_lt (by rw [cuK_length]; exact hq)) ?_
          have := rwF_at (cuK b.2 n j) (ctB (b.2.getD j pt0) n 5000)
          rw [cuK_length, hN, Nat.mul_one] at this
          exact this
      · have hd2 : ¬ (j : Int) < 6 := hd2
        repeat (refine sd ?_)
        refine ⟨(j, cj), ⟨by show j = min m2 6; omega, hic⟩, Le.intro [] rfl ?_ rfl ?_ rfl⟩
        · exact fc
        · exact fc
    · have hd1 : ¬ (j : Int) < b.2.length := hd1
      rw [hm2] at hd1
      repeat (refine sd ?_)
      refine ⟨(j, cj), ⟨by show j = min m2 6; omega, hic⟩, Le.intro [] rfl ?_ rfl ?_ rfl⟩
      · exact fc
      · exact fc
  rintro ⟨j, cj⟩ ⟨hij, hcj⟩
  have hij : j = min m2 6 := hij
  have hcj : j ≤ cj := hcj
  have hX := cuK_le a.2 n i
  have hY := cuK_le b.2 n j
  have hM1 := fn16 (plA l) n c hn (by omega) hnc hAv a.1 (cuK a.2 n i) i (cuK_length _ _ _) (by omega) (fun x h => by have := cuK_le _ _ _ x h; omega)
  have hml1 := (mkT_len (plA l) (a.1, (cuK a.2 n i))).2
  have hmv1 := mkT_valid (x := (a.1, (cuK a.2 n i))) hAv
  obtain ⟨T1, hT1⟩ : ∃ T9, (mkT (plA l) (a.1, (cuK a.2 n i))).1 = T9 := ⟨_, rfl⟩
  obtain ⟨o1, ho1⟩ : ∃ o9, (mkT (plA l) (a.1, (cuK a.2 n i))).2 = o9 := ⟨_, rfl⟩
  rw [hT1, ho1] at hM1
  rw [hT1] at hml1 hmv1
  have hky1 := kyB_length o1
  unfold MT rwS at hM1
  repeat (refine sd ?_)
  refine Call.intro hM1 [(1000, (1000, 0, none)), (1001, (305, 0, none)), (1002, (1002, 0, none)), (1003, (210, 0, none)), (1005, (325, 0, none))] rfl ?_ rfl ?_ rfl ?_
  · exact fc
  · exact fc
  rintro v M' ⟨n1, c1, hn1, hnc1, rfl, rfl⟩
  dsimp only [putT, afterM, newEnt, ren, renA, renS, renL, look, getM, getT, ev, evL, ofVal, cond_true, cond_false, Nat.beq_eq, act, isPar, ownPar, Ent.isOwn]
  clear hM1
  have hM2 := fn16 T1 n1 c1 hn1 (by omega) hnc1 hmv1 b.1 (cuK b.2 n j) j (cuK_length _ _ _) (by omega) (fun x h => by have := cuK_le _ _ _ x h; omega)
  have hml2 := (mkT_len T1 (b.1, (cuK b.2 n j))).2
  have hmv2 := mkT_valid (x := (b.1, (cuK b.2 n j))) hmv1
  obtain ⟨T2, hT2⟩ : ∃ T9, (mkT T1 (b.1, (cuK b.2 n j))).1 = T9 := ⟨_, rfl⟩
  obtain ⟨o2, ho2⟩ : ∃ o9, (mkT T1 (b.1, (cuK b.2 n j))).2 = o9 := ⟨_, rfl⟩
  rw [hT2, ho2] at hM2
  rw [hT2] at hml2 hmv2
  have hky2 := kyB_length o2
  unfold MT rwS at hM2
  repeat (refine sd ?_)
  refine Call.intro hM2 [(1000, (1000, 0, none)), (1001, (325, 0, none)), (1002, (1002, 0, none)), (1003, (211, 0, none)), (1005, (335, 0, none))] rfl ?_ rfl ?_ rfl ?_
  · exact fc
  · exact fc
  rintro v M' ⟨n2, c2, hn2, hnc2, rfl, rfl⟩
  dsimp only [putT, afterM, newEnt, ren, renA, renS, renL, look, getM, getT, ev, evL, ofVal, cond_true, cond_false, Nat.beq_eq, act, isPar, ownPar, Ent.isOwn]
  clear hM2
  have hM3 := fn16 T2 n2 c2 hn2 (by omega) hnc2 hmv2 a.1 (cuK a.2 n i) i (cuK_length _ _ _) (by omega) (fun x h => by have := cuK_le _ _ _ x h; omega)
  have hml3 := (mkT_len T2 (a.1, (cuK a.2 n i))).2
  have hmv3 := mkT_valid (x := (a.1, (cuK a.2 n i))) hmv2
  obtain ⟨T3, hT3⟩ : ∃ T9, (mkT T2 (a.1, (cuK a.2 n i))).1 = T9 := ⟨_, rfl⟩
  obtain ⟨o3, ho3⟩ : ∃ o9, (mkT T2 (a.1, (cuK a.2 n i))).2 = o9 := ⟨_, rfl⟩
  rw [hT3, ho3] at hM3
  rw [hT3] at hml3 hmv3
  have hky3 := kyB_length o3
  unfold MT rwS at hM3
  repeat (refine sd ?_)
  refine Call.intro hM3 [(1000, (1000, 0, none)), (1001, (335, 0, none)), (1002, (1002, 0, none)), (1003, (210, 0, none)), (1005, (345, 0, none))] rfl ?_ rfl ?_ rfl ?_
  · exact fc
  · exact fc
  rintro v M' ⟨n3, c3, hn3, hnc3, rfl, rfl⟩
  dsimp only [putT, afterM, newEnt, ren, renA, renS, renL, look, getM, getT, ev, evL, ofVal, cond_true, cond_false, Nat.beq_eq, act, isPar, ownPar, Ent.isOwn]
  clear hM3
  have hk0 : kyB 0 = List.replicate 32 0 := rfl
  clear hm1 hm2
  by_cases z1 : o1 ≠ 0
  · by_cases z2 : o2 ≠ 0
    · have hun := unlike (T := plA l) (x := (a.1, cuK a.2 n i)) (y := (b.1, cuK b.2 n j)) (by omega) (by rw [ho1]; exact z1) (by rw [hT1, ho2]; exact z2)
      rw [hT1, hT2, ho1, ho2, ho3] at hun
      obtain ⟨e31, hxy⟩ := hun
      have nz1 : ¬ ¬ o1 ≠ 0 := fun h => h z1
      have nz2 : ¬ ¬ o2 ≠ 0 := fun h => h z2
      have g1 : o3 ≠ 0 := by rw [e31]; exact z1
      have g2 : (o3 ≠ 0 ∧ kyB o3 = kyB o1 ∨ ¬ o3 ≠ 0 ∧ False) := Or.inl ⟨g1, by rw [e31]⟩
      repeat (first | (refine Branch.intro (fun _ => ?_) (fun hn => absurd rfl hn)) | (refine Branch.intro (fun hn => (by with_reducible exact False.elim hn)) (fun _ => ?_)) | (refine Branch.intro (fun _ => ?_) (fun hn => (by with_reducible exact absurd nz1 hn))) | (refine Branch.intro (fun hn => (by with_reducible exact absurd hn nz1)) (fun _ => ?_)) | (refine Branch.intro (fun _ => ?_) (fun hn => (by with_reducible exact absurd nz2 hn))) | (refine Branch.intro (fun hn => (by with_reducible exact absurd hn nz2)) (fun _ => ?_)) | (refine sd ?_))
      have hL := fn17 (cuK a.2 n i) (cuK b.2 n j) i j (cuK_length _ _ _) (cuK_length _ _ _) (by omega) (by omega)
      unfold rwS at hL
      by_cases hk : a.1 = b.1
      · refine Draw.intro [[], [0], [0, 1], [0, 1], [0, 1, 2, 3], [0, 1, 2, 3, 4], [0, 1, 2, 3, 4, 5], [0, 1, 2, 3, 4, 5, 6], [0, 1, 2, 3, 4, 5, 6], [0, 1, 2, 3, 4, 5, 6, 7, 8], [0, 1, 2, 3, 4, 5, 6], [0, 1, 2, 3, 4, 5, 6, 10], [0, 1, 2, 3, 4, 5, 6], [0, 1, 2, 3, 4, 5, 6, 12], [0, 1, 2, 3, 4, 5, 6, 10, 11, 12, 13], [0, 1, 2, 3, 4, 5, 6, 10, 11, 12, 13, 14], [0, 1, 2, 3, 4, 5, 6, 10, 11, 12, 13, 14, 15], [0, 1, 2, 3, 4, 5, 6, 10, 11, 12, 13, 14, 15], [0, 1, 2, 3, 4, 5, 6, 10, 11, 12, 13, 14, 15, 16, 17], [0, 1, 2, 3, 4, 5, 6, 10, 11, 12, 13, 14, 15, 16, 17, 18], [0, 1, 2, 3, 4, 5, 6, 7, 8, 9, 10, 11, 12, 13, 14, 15, 16, 17, 18, 19], [0, 1, 2, 3, 4, 5, 6, 7, 8, 9, 10, 11, 12, 13, 14, 15, 16, 17, 18, 19, 20], [0, 1, 2, 3, 4, 5, 6, 7, 8, 9, 10, 11, 12, 13, 14, 15, 16, 17, 18, 19, 20, 21]] [0, 1, 2, 3, 4, 5, 6, 7, 8, 9, 10, 11, 12, 13, 14, 15, 16, 17, 18, 19, 20, 21, 22] (by kernel_rfl) ?_
        repeat (first | (refine Branch.intro (fun _ => ?_) (fun hn => absurd rfl hn)) | (refine Branch.intro (fun hn => (by with_reducible exact False.elim hn)) (fun _ => ?_)) | (refine Branch.intro (fun _ => ?_) (fun hn => (by with_reducible exact absurd g1 hn))) | (refine Branch.intro (fun hn => (by with_reducible exact absurd hn g1)) (fun _ => ?_)) | (refine Branch.intro (fun _ => ?_) (fun hn => (by with_reducible exact absurd g2 hn))) | (refine Branch.intro (fun hn => (by with_reducible exact absurd hn g2)) (fun _ => ?_)) | (refine Branch.intro (fun _ => ?_) (fun hn => (by with_reducible exact absurd hk hn))) | (refine Branch.intro (fun hn => (by with_reducible exact absurd hn hk)) (fun _ => ?_)) | (refine sd ?_))
        refine Call.intro hL [(1003, (210, 0, none)), (1004, (211, 0, none))] rfl fc rfl fc rfl ?_
        rintro v M' ⟨⟨heq, rfl⟩ | ⟨hne, rfl⟩, rfl⟩
        · dsimp only [putT, afterM, newEnt, ren, renA, renS, renL, look, getM, getT, ev, evL, ofVal, cond_true, cond_false, Nat.beq_eq, act, isPar, ownPar, Ent.isOwn]
          refine Grow.intro [] rfl rfl ?_
          repeat (first | (refine Branch.intro (fun _ => ?_) (fun hn => absurd rfl hn)) | (refine Branch.intro (fun hn => (by with_reducible exact False.elim hn)) (fun _ => ?_)) | (refine Branch.intro (fun _ => ?_) (fun hn => (by with_reducible exact absurd g1 hn))) | (refine Branch.intro (fun hn => (by with_reducible exact absurd hn g1)) (fun _ => ?_)) | (refine Branch.intro (fun _ => ?_) (fun hn => (by with_reducible exact absurd g2 hn))) | (refine Branch.intro (fun hn => (by with_reducible exact absurd hn g2)) (fun _ => ?_)) | (refine Branch.intro (fun _ => ?_) (fun hn => (by with_reducible exact absurd hk hn))) | (refine Branch.intro (fun hn => (by with_reducible exact absurd hn hk)) (fun _ => ?_)) | (refine sd ?_))
          refine Ret.intro .tt [] [] rfl ?_ rfl rfl ?_ rfl trivial rfl
          · exact fc
          · repeat' (first | (show AllP _; first | exact trivial | refine AllP.app ?_ ?_ | refine AllP.appd ?_ ?_ | refine AllP.cons ?_ ?_) | with_reducible rfl | with_reducible assumption | omega | (simp only [rng, Ix.val, addQ_eq, addI, sz3, sz5, sz22, sz23, sz25, sz27, sz28, sz29, sz30, sz32, sz33, sz34, sz35, sz36, sz38, sz42, sz47, sz48, sz49, sz57, sz66, sz67, sz68, sz69, sz74, sz76, sz77, sz78] <;> omega) | (simp only [rng, Ix.val, Int.toNat_natCast, mulE_eq, addQ_eq, addI, Option.getD_none, Option.getD_some, List.length_take, List.length_drop, List.length_append, List.length_set, List.length_replicate, sz3, sz5, sz22, sz23, sz25, sz27, sz28, sz29, sz30, sz32, sz33, sz34, sz35, sz36, sz38, sz42, sz47, sz48, sz49, sz57, sz66, sz67, sz68, sz69, sz74, sz76, sz77, sz78, *] <;> omega) | (simp only [Ix.val]; with_reducible assumption) | exact UInt8.toNat_lt _ | (apply Eq.trans; (with_reducible assumption); exact rfl) | exact rfl | exact fun _ _ => rfl)
            exact Or.inl ⟨g2, ⟨fun h => Or.inl ⟨hk, trivial⟩, fun _ => hxy.2 (Prod.ext hk heq)⟩⟩
        · dsimp only [putT, afterM, newEnt, ren, renA, renS, renL, look, getM, getT, ev, evL, ofVal, cond_true, cond_false, Nat.beq_eq, act, isPar, ownPar, Ent.isOwn]
          refine Grow.intro [] rfl rfl ?_
          repeat (first | (refine Branch.intro (fun _ => ?_) (fun hn => absurd rfl hn)) | (refine Branch.intro (fun hn => (by with_reducible exact False.elim hn)) (fun _ => ?_)) | (refine Branch.intro (fun _ => ?_) (fun hn => (by with_reducible exact absurd g1 hn))) | (refine Branch.intro (fun hn => (by with_reducible exact absurd hn g1)) (fun _ => ?_)) | (refine Branch.intro (fun _ => ?_) (fun hn => (by with_reducible exact absurd g2 hn))) | (refine Branch.intro (fun hn => (by with_reducible exact absurd hn g2)) (fun _ => ?_)) | (refine Branch.intro (fun _ => ?_) (fun hn => (by with_reducible exact absurd hk hn))) | (refine Branch.intro (fun hn => (by with_reducible exact absurd hn hk)) (fun _ => ?_)) | (refine sd ?_))
          refine Ret.intro .tt [] [] rfl ?_ rfl rfl ?_ rfl trivial rfl
          · exact fc
          · repeat' (first | (show AllP _; first | exact trivial | refine AllP.app ?_ ?_ | refine AllP.appd ?_ ?_ | refine AllP.cons ?_ ?_) | with_reducible rfl | with_reducible assumption | omega | (simp only [rng, Ix.val, addQ_eq, addI, sz3, sz5, sz22, sz23, sz25, sz27, sz28, sz29, sz30, sz32, sz33, sz34, sz35, sz36, sz38, sz42, sz47, sz48, sz49, sz57, sz66, sz67, sz68, sz69, sz74, sz76, sz77, sz78] <;> omega) | (simp only [rng, Ix.val, Int.toNat_natCast, mulE_eq, addQ_eq, addI, Option.getD_none, Option.getD_some, List.length_take, List.length_drop, List.length_append, List.length_set, List.length_replicate, sz3, sz5, sz22, sz23, sz25, sz27, sz28, sz29, sz30, sz32, sz33, sz34, sz35, sz36, sz38, sz42, sz47, sz48, sz49, sz57, sz66, sz67, sz68, sz69, sz74, sz76, sz77, sz78, *] <;> omega) | (simp only [Ix.val]; with_reducible assumption) | exact UInt8.toNat_lt _ | (apply Eq.trans; (with_reducible assumption); exact rfl) | exact rfl | exact fun _ _ => rfl)
            exact Or.inl ⟨g2, ⟨fun h => absurd (Prod.mk.inj (hxy.1 h)).2 hne, fun h => h.elim (fun h => h.2.elim) (fun h => h.2.elim)⟩⟩
      · refine Draw.intro [[], [0], [0, 1], [0, 1], [0, 1, 2, 3], [0, 1, 2, 3, 4], [0, 1, 2, 3, 4, 5], [0, 1, 2, 3, 4, 5, 6], [0, 1, 2, 3, 4, 5, 6], [0, 1, 2, 3, 4, 5, 6, 7, 8], [0, 1, 2, 3, 4, 5, 6], [0, 1, 2, 3, 4, 5, 6, 10], [0, 1, 2, 3, 4, 5, 6], [0, 1, 2, 3, 4, 5, 6, 12], [0, 1, 2, 3, 4, 5, 6, 10, 11, 12, 13], [0, 1, 2, 3, 4, 5, 6, 10, 11, 12, 13, 14], [0, 1, 2, 3, 4, 5, 6, 10, 11, 12, 13, 14, 15], [0, 1, 2, 3, 4, 5, 6, 10, 11, 12, 13, 14, 15], [0, 1, 2, 3, 4, 5, 6, 10, 11, 12, 13, 14, 15, 16, 17], [0, 1, 2, 3, 4, 5, 6, 10, 11, 12, 13, 14, 15, 16, 17, 18], [0, 1, 2, 3, 4, 5, 6, 7, 8, 9, 10, 11, 12, 13, 14, 15, 16, 17, 18, 19], [0, 1, 2, 3, 4, 5, 6, 7, 8, 9, 10, 11, 12, 13, 14, 15, 16, 17, 18, 19, 20], [0, 1, 2, 3, 4, 5, 6, 7, 8, 9, 10, 11, 12, 13, 14, 15, 16, 17, 18, 19, 20, 21]] [0, 1, 2, 3, 4, 5, 6, 7, 8, 9, 10, 11, 12, 13, 14, 15, 16, 17, 18, 19, 20, 21, 22] (by kernel_rfl) ?_
        repeat (first | (refine Branch.intro (fun _ => ?_) (fun hn => absurd rfl hn)) | (refine Branch.intro (fun hn => (by with_reducible exact False.elim hn)) (fun _ => ?_)) | (refine Branch.intro (fun _ => ?_) (fun hn => (by with_reducible exact absurd g1 hn))) | (refine Branch.intro (fun hn => (by with_reducible exact absurd hn g1)) (fun _ => ?_)) | (refine Branch.intro (fun _ => ?_) (fun hn => (by with_reducible exact absurd g2 hn))) | (refine Branch.intro (fun hn => (by with_reducible exact absurd hn g2)) (fun _ => ?_)) | (refine Branch.intro (fun _ => ?_) (fun hn => (by with_reducible exact absurd hk hn))) | (refine Branch.intro (fun hn => (by with_reducible exact absurd hn hk)) (fun _ => ?_)) | (refine sd ?_))
        refine Ret.intro .tt [] [] rfl ?_ rfl rfl ?_ rfl trivial rfl
        · exact fc
        · repeat' (first | (show AllP _; first | exact trivial | refine AllP.app ?_ ?_ | refine AllP.appd ?_ ?_ | refine AllP.cons ?_ ?_) | with_reducible rfl | with_reducible assumption | omega | (simp only [rng, Ix.val, addQ_eq, addI, sz3, sz5, sz22, sz23, sz25, sz27, sz28, sz29, sz30, sz32, sz33, sz34, sz35, sz36, sz38, sz42, sz47, sz48, sz49, sz57, sz66, sz67, sz68, sz69, sz74, sz76, sz77, sz78] <;> omega) | (simp only [rng, Ix.val, Int.toNat_natCast, mulE_eq, addQ_eq, addI, Option.getD_none, Option.getD_some, List.length_take, List.length_drop, List.length_append, List.length_set, List.length_replicate, sz3, sz5, sz22, sz23, sz25, sz27, sz28, sz29, sz30, sz32, sz33, sz34, sz35, sz36, sz38, sz42, sz47, sz48, sz49, sz57, sz66, sz67, sz68, sz69, sz74, sz76, sz77, sz78, *] <;> omega) | (simp only [Ix.val]; with_reducible assumption) | exact UInt8.toNat_lt _ | (apply Eq.trans; (with_reducible assumption); exact rfl) | exact rfl | exact fun _ _ => rfl)
          exact Or.inl ⟨g2, fun h => hk (Prod.mk.inj (hxy.1 h)).1⟩
    · have z2 : o2 = 0 := Classical.byContradiction z2
      have nz1 : ¬ ¬ o1 ≠ 0 := fun h => h z1
      have nz2 : ¬ o2 ≠ 0 := fun h => h z2
      have g2 : kyB o2 = List.replicate 32 0 := by rw [z2]; rfl
      by_cases g1 : kyB o1 = List.replicate 32 0
      · repeat (first | (refine Branch.intro (fun _ => ?_) (fun hn => absurd rfl hn)) | (refine Branch.intro (fun hn => (by with_reducible exact False.elim hn)) (fun _ => ?_)) | (refine Branch.intro (fun _ => ?_) (fun hn => (by with_reducible exact absurd nz1 hn))) | (refine Branch.intro (fun hn => (by with_reducible exact absurd hn nz1)) (fun _ => ?_)) | (refine Branch.intro (fun _ => ?_) (fun hn => (by with_reducible exact absurd nz2 hn))) | (refine Branch.intro (fun hn => (by with_reducible exact absurd hn nz2)) (fun _ => ?_)) | (refine Branch.intro (fun _ => ?_) (fun hn => (by with_reducible exact absurd g1 hn))) | (refine Branch.intro (fun hn => (by with_reducible exact absurd hn g1)) (fun _ => ?_)) | (refine Branch.intro (fun _ => ?_) (fun hn => (by with_reducible exact absurd g2 hn))) | (refine Branch.intro (fun hn => (by with_reducible exact absurd hn g2)) (fun _ => ?_)) | (refine sd ?_))
        refine Ret.intro .tt [] [] rfl ?_ rfl rfl ?_ rfl trivial rfl
        · exact fc
        · exact fc
      · repeat (first | (refine Branch.intro (fun _ => ?_) (fun hn => absurd rfl hn)) | (refine Branch.intro (fun hn => (by with_reducible exact False.elim hn)) (fun _ => ?_)) | (refine Branch.intro (fun _ => ?_) (fun hn => (by with_reducible exact absurd nz1 hn))) | (refine Branch.intro (fun hn => (by with_reducible exact absurd hn nz1)) (fun _ => ?_)) | (refine Branch.intro (fun _ => ?_) (fun hn => (by with_reducible exact absurd nz2 hn))) | (refine Branch.intro (fun hn => (by with_reducible exact absurd hn nz2)) (fun _ => ?_)) | (refine Branch.intro (fun _ => ?_) (fun hn => (by with_reducible exact absurd g1 hn))) | (refine Branch.intro (fun hn => (by with_reducible exact absurd hn g1)) (fun _ => ?_)) | (refine Branch.intro (fun _ => ?_) (fun hn => (by with_reducible exact absurd g2 hn))) | (refine Branch.intro (fun hn => (by with_reducible exact absurd hn g2)) (fun _ => ?_)) | (refine sd ?_))
        refine Ret.intro .tt [] [] rfl ?_ rfl rfl ?_ rfl trivial rfl
        · exact fc
        · exact fc
  · have z1 : o1 = 0 := Classical.byContradiction z1
    have nz1 : ¬ o1 ≠ 0 := fun h => h z1
    have g1 : kyB o1 = List.replicate 32 0 := by rw [z1]; rfl
    repeat (first | (refine Branch.intro (fun _ => ?_) (fun hn => absurd rfl hn)) | (refine Branch.intro (fun hn => (by with_reducible exact False.elim hn)) (fun _ => ?_)) | (refine Branch.intro (fun _ => ?_) (fun hn => (by with_reducible exact absurd nz1 hn))) | (refine Branch.intro (fun hn => (by with_reducible exact absurd hn nz1)) (fun _ => ?_)) | (refine Branch.intro (fun _ => ?_) (fun hn => (by with_reducible exact absurd g1 hn))) | (refine Branch.intro (fun hn => (by with_reducible exact absurd hn g1)) (fun _ => ?_)) | (refine sd ?_))
    refine Ret.intro .tt [] [] rfl ?_ rfl rfl ?_ rfl trivial rfl
    · exact fc
    · exact fc

set_option maxRecDepth 100000 in
theorem termUnlike_runs (svs : List SV) (h : AllF [isOfSl 2 [(1, .i .i64 0), (1, .isl 0 0 2 [(0 * 2, .arr 0 2 fun _ => [(1, .isl 0 0 1 [(0 * 1, .ai [])]), (1, .isl 0 0 1 [(0 * 1, .a8 [])])])])] (catF [cInt .i64, cSl 2 [(1, .isl 0 0 1 [(0 * 1, .ai [])]), (1, .isl 0 0 1 [(0 * 1, .a8 [])])] (catF [cSlI, cSl8 1])]), isOfStruct (catF [cInt .i64, cSl 2 [(1, .isl 0 0 1 [(0 * 1, .ai [])]), (1, .isl 0 0 1 [(0 * 1, .a8 [])])] (catF [cSlI, cSl8 1])]), isOfStruct (catF [cInt .i64, cSl 2 [(1, .isl 0 0 1 [(0 * 1, .ai [])]), (1, .isl 0 0 1 [(0 * 1, .a8 [])])] (catF [cSlI, cSl8 1])])] svs) : Sx.Fn Γ.P 5 svs [] (fun v _ => v = .tt) := by
  obtain ⟨s1, r1, rfl, h1, h⟩ := AllF_cons h
  obtain ⟨s2, r2, rfl, h2, h⟩ := AllF_cons h
  obtain ⟨s3, r3, rfl, h3, h⟩ := AllF_cons h
  obtain rfl := AllF_nil h
  obtain ⟨l, a1, a2, rfl⟩ := opsArg h1
  obtain ⟨a, b1, rfl⟩ := opArg h2
  obtain ⟨b, c1, rfl⟩ := opArg h3
  exact fn5 l a1 a2 a b b1 c1

end Go.Proofs.Ytoaaplgjacjlpaa
