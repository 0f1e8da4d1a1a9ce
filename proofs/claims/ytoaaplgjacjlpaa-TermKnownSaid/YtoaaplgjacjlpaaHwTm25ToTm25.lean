/- What the functions of the program compute. No condition. -/
import Derived.Test.YtoaaplgjacjlpaaHwTm17ToTm17
import Derived.Test.YtoaaplgjacjlpaaHwTm18ToTm18
import Derived.Test.YtoaaplgjacjlpaaHwTm21ToTm21
set_option linter.unusedSimpArgs false
set_option linter.unusedVariables false
namespace Go.Proofs.Ytoaaplgjacjlpaa
open Go Go.Sx

/-! law12.TermKnown. -/

theorem plA_valid (l : List Opr) : ∀ x ∈ plA l, Valid x.1 x.2 := by unfold plA; exact plT_valid l _
theorem inL_name {z most : Nat} (h1 : 1 ≤ z) (h2 : z ≤ most) (h3 : most < 4294967296) : inL (nameB z) most 0 = [z] := by
  rw [inL_key (nameB_length z), numP_name h1 h2 h3, if_neg (by omega)]
theorem allName {K : Nat → Prop} {z most : Nat} (h1 : 1 ≤ z) (h2 : z ≤ most) (h3 : most < 4294967296) : AllK K (inL (nameB z) most 0) ↔ K z := by
  rw [inL_name h1 h2 h3]
  exact ⟨fun h => h z (by simp), fun h y hy => by obtain rfl : y = z := (by simpa using hy); exact h⟩
theorem allNone {K : Nat → Prop} {b : List UInt8} {most : Nat} (h : b.length < 32) : AllK K (inL b most 0) := by
  rw [inL_end (by omega)]
  intro z hz
  cases hz

set_option maxRecDepth 100000 in
set_option maxHeartbeats 4000000 in
theorem fn3 (l : List Opr) (hl : l.length ≤ maxLen) (hO : ∀ o ∈ l, OpOK o) (ps : List Pt) (hps : ps.length ≤ maxLen) (hpo : ∀ p ∈ ps, PtOK p) : Sx.Fn Γ.P 3 [opsS l, ptsS ps] [] (fun v _ => v = .tt) := by
  have hA := fn8
  have hNew := fn9
  have hP := fn10 l hl hO
  have hby33 : (Γ.ty 33).bytes = 24 := rfl
  have hby5 : (Γ.ty 5).bytes = 1 := rfl
  have hmx : maxLen = 9223372036854775807 := by decide
  unfold opsS ptsS at *
  refine fn_cut [1000012] (Γ := Γ) (fn := Try.f3) rfl rfl rfl rfl ?_
  repeat (refine sd ?_)
  refine Call.intro hA [] rfl trivial rfl trivial rfl ?_
  rintro v M' rfl
  dsimp only [putT, afterM, newEnt, ren, renA, renS, renL, look, getM, getT, ev, evL, ofVal, cond_true, cond_false, Nat.beq_eq, act, isPar, ownPar, Ent.isOwn]
  clear hA
  repeat (refine sd ?_)
  refine Call.intro hNew [(1000, (1000, 0, none)), (1002, (1002, 0, none))] rfl fc rfl trivial rfl ?_
  rintro v M' ⟨rfl, rfl⟩
  dsimp only [putT, afterM, newEnt, ren, renA, renS, renL, look, getM, getT, ev, evL, ofVal, cond_true, cond_false, Nat.beq_eq, act, isPar, ownPar, Ent.isOwn]
  clear hNew
  repeat (refine sd ?_)
  refine Call.intro hP [(1000, (1000, 0, none)), (1002, (1002, 0, none)), (1010, (17, 0, none)), (1005, (305, 0, none)), (1015, (315, 0, none))] rfl ?_ rfl ?_ rfl ?_
  · exact fc
  · exact fc
  rintro v M' ⟨n, c, d, hn, hnc, hnd, hn80, rfl, rfl⟩
  dsimp only [putT, afterM, newEnt, ren, renA, renS, renL, look, getM, getT, ev, evL, ofVal, cond_true, cond_false, Nat.beq_eq, act, isPar, ownPar, Ent.isOwn]
  clear hP
  have hAv := plA_valid l
  repeat (refine sd ?_)
  obtain ⟨m, hm⟩ : ∃ m, ps.length = m := ⟨_, rfl⟩
  refine Join.intro (σ := Nat × Nat) (fun s => s.1 = min m 10 ∧ s.1 ≤ s.2)
    (fun s => ([(5, .ptr 1000 0 none), (6, .ptr 17 0 none), (7, .sl 210 0 0 s.1 s.2)], [(1000, .mem true 0 [(1, .sl 305 0 0 n c), (1, .mp 1002)]), (1002, .map (.si (mpL (plA l)))), (305, .mem true (mulE (c - n) 3) [(n * 3, .arr n 3 (ttF (plA l)))]), (17, .mem true 0 [(1, .sl 315 0 0 n d)]), (315, .mem true (mulE (d - n) 2) [(n * 2, .arr n 2 (rtF (plA l)))]), (210, .mem true (s.2 - s.1) [(s.1 * 1, .arr s.1 1 (rwF (cuK ps n s.1)))])])) ?_ ?_
  · repeat (refine sd ?_)
    refine Loop.intro (σ := Nat × Nat) (fun s => s.1 ≤ m ∧ s.1 ≤ 10 ∧ s.1 ≤ s.2)
      (fun s => ([(1, .isl 0 ps.length 2 [(ps.length * 2, .arr ps.length 2 (ptF ps))]), (5, .ptr 1000 0 none), (6, .ptr 17 0 none), (7, .sl 210 0 0 s.1 s.2), (8, .i .i64 (s.1 : Int))], [(1000, .mem true 0 [(1, .sl 305 0 0 n c), (1, .mp 1002)]), (1002, .map (.si (mpL (plA l)))), (305, .mem true (mulE (c - n) 3) [(n * 3, .arr n 3 (ttF (plA l)))]), (17, .mem true 0 [(1, .sl 315 0 0 n d)]), (315, .mem true (mulE (d - n) 2) [(n * 2, .arr n 2 (rtF (plA l)))]), (210, .mem true (s.2 - s.1) [(s.1 * 1, .arr s.1 1 (rwF (cuK ps n s.1)))])]))
      (fun s => m - s.1) (0, 0) ⟨Nat.zero_le _, Nat.zero_le _, Nat.le_refl _⟩ ?_ ?_
    · refine Le.ghost [.own 210 [(0, .arr 0 1 (rwF (cuK ps n 0)))]] [(7, 210)] [] rfl ⟨rfl, rfl, trivial⟩ rfl rfl ?_ rfl ?_ rfl
      · exact fc
      · exact fc
    rintro ⟨i, c9⟩ ⟨hi, hi6, hic⟩
    have hi : i ≤ m := hi
    have hi6 : i ≤ 10 := hi6
    have hic : i ≤ c9 := hic
    repeat (refine Side.intro (by repeat' (first | (show AllP _; first | exact trivial | refine AllP.app ?_ ?_ | refine AllP.appd ?_ ?_ | refine AllP.cons ?_ ?_) | with_reducible rfl | with_reducible assumption | omega | (simp only [hm, rng, Ix.val, addQ_eq, addI, sz3, sz4, sz5, sz9, sz22, sz23, sz25, sz27, sz28, sz29, sz30, sz32, sz33, sz34, sz35, sz36, sz38, sz40, sz42, sz47, sz48, sz49, sz56, sz57, sz67, sz68, sz69, sz73, sz74, sz76, sz77, sz78] <;> omega) | (simp only [hm, rng, Ix.val, Int.toNat_natCast, mulE_eq, addQ_eq, addI, Option.getD_none, Option.getD_some, List.length_take, List.length_drop, List.length_append, List.length_set, List.length_replicate, sz3, sz4, sz5, sz9, sz22, sz23, sz25, sz27, sz28, sz29, sz30, sz32, sz33, sz34, sz35, sz36, sz38, sz40, sz42, sz47, sz48, sz49, sz56, sz57, sz67, sz68, sz69, sz73, sz74, sz76, sz77, sz78, *] <;> omega) | (simp only [Ix.val]; with_reducible assumption) | exact UInt8.toNat_lt _ | (apply Eq.trans; (with_reducible assumption); exact rfl) | exact rfl | exact fun _ _ => rfl)) ?_)
    refine Branch.intro (fun hd1 => ?_) (fun hd1 => ?_)
    · have hd1 : (i : Int) < ps.length := hd1
      rw [hm] at hd1
      repeat (refine sd ?_)
      refine Branch.intro (fun hd2 => ?_) (fun hd2 => ?_)
      · have hd2 : (i : Int) < 10 := hd2
        obtain ⟨p, hp⟩ : ∃ p, ps.getD i pt0 = p := ⟨_, rfl⟩
        have hPo : PtOK p := by rw [← hp]; exact hpo _ (getD_mem pt0 (by omega))
        have hC := fn11 p hPo.1 hPo.2 n (by omega)
        have hCl := ctB_le p n 5000
        unfold ptS at hC
        refine Draw.intro [[], [], [], [1, 2], [1, 2, 3], [], [5], [5, 6], [5, 6, 7], [5, 6, 7, 8], [1, 2, 3, 4, 5, 6, 7, 8, 9], [1, 2, 3, 4, 5, 6, 7, 8, 9, 10], [0, 1, 2, 3, 4, 5, 6, 7, 8, 9, 10, 11], [0, 1, 2, 3, 4, 5, 6, 7, 8, 9, 10, 11, 12]] [0, 1, 2, 3, 4, 5, 6, 7, 8, 9, 10, 11, 12, 13] (by kernel_rfl) ?_
        unfold ptF
        repeat (refine Side.intro (by repeat' (first | (show AllP _; first | exact trivial | refine AllP.app ?_ ?_ | refine AllP.appd ?_ ?_ | refine AllP.cons ?_ ?_) | with_reducible rfl | with_reducible assumption | omega | (simp only [Nat.zero_add, Int.toNat_natCast, hm, hp, rng, Ix.val, addQ_eq, addI, sz3, sz4, sz5, sz9, sz22, sz23, sz25, sz27, sz28, sz29, sz30, sz32, sz33, sz34, sz35, sz36, sz38, sz40, sz42, sz47, sz48, sz49, sz56, sz57, sz67, sz68, sz69, sz73, sz74, sz76, sz77, sz78] <;> omega) | (simp only [Nat.zero_add, Int.toNat_natCast, hm, hp, rng, Ix.val, Int.toNat_natCast, mulE_eq, addQ_eq, addI, Option.getD_none, Option.getD_some, List.length_take, List.length_drop, List.length_append, List.length_set, List.length_replicate, sz3, sz4, sz5, sz9, sz22, sz23, sz25, sz27, sz28, sz29, sz30, sz32, sz33, sz34, sz35, sz36, sz38, sz40, sz42, sz47, sz48, sz49, sz56, sz57, sz67, sz68, sz69, sz73, sz74, sz76, sz77, sz78, *] <;> omega) | (simp only [Ix.val]; with_reducible assumption) | exact UInt8.toNat_lt _ | (apply Eq.trans; (with_reducible assumption); exact rfl) | exact rfl | exact fun _ _ => rfl)) ?_)
        refine Call.intro hC [(1001, (302, 0, none))] rfl (by repeat' (first | (show AllP _; first | exact trivial | refine AllP.app ?_ ?_ | refine AllP.appd ?_ ?_ | refine AllP.cons ?_ ?_) | with_reducible rfl | with_reducible assumption | omega | (simp only [Nat.zero_add, Int.toNat_natCast, hm, hp, rng, Ix.val, addQ_eq, addI, sz3, sz4, sz5, sz9, sz22, sz23, sz25, sz27, sz28, sz29, sz30, sz32, sz33, sz34, sz35, sz36, sz38, sz40, sz42, sz47, sz48, sz49, sz56, sz57, sz67, sz68, sz69, sz73, sz74, sz76, sz77, sz78] <;> omega) | (simp only [Nat.zero_add, Int.toNat_natCast, hm, hp, rng, Ix.val, Int.toNat_natCast, mulE_eq, addQ_eq, addI, Option.getD_none, Option.getD_some, List.length_take, List.length_drop, List.length_append, List.length_set, List.length_replicate, sz3, sz4, sz5, sz9, sz22, sz23, sz25, sz27, sz28, sz29, sz30, sz32, sz33, sz34, sz35, sz36, sz38, sz40, sz42, sz47, sz48, sz49, sz56, sz57, sz67, sz68, sz69, sz73, sz74, sz76, sz77, sz78, *] <;> omega) | (simp only [Ix.val]; with_reducible assumption) | exact UInt8.toNat_lt _ | (apply Eq.trans; (with_reducible assumption); exact rfl) | exact rfl | exact fun _ _ => rfl)) rfl trivial rfl ?_
        rintro v M' ⟨N, cN, hN, hNc, rfl, rfl⟩
        dsimp only [putT, afterM, newEnt, ren, renA, renS, renL, look, getM, getT, ev, evL, ofVal, cond_true, cond_false, Nat.beq_eq, act, isPar, ownPar, Ent.isOwn]
        refine fun c2 hc5 => ?_
        have hc5 : i + 1 ≤ c2 := hc5
        repeat (refine Side.intro (by repeat' (first | (show AllP _; first | exact trivial | refine AllP.app ?_ ?_ | refine AllP.appd ?_ ?_ | refine AllP.cons ?_ ?_) | with_reducible rfl | with_reducible assumption | omega | (simp only [Nat.zero_add, Int.toNat_natCast, hm, rng, Ix.val, addQ_eq, addI, sz3, sz4, sz5, sz9, sz22, sz23, sz25, sz27, sz28, sz29, sz30, sz32, sz33, sz34, sz35, sz36, sz38, sz40, sz42, sz47, sz48, sz49, sz56, sz57, sz67, sz68, sz69, sz73, sz74, sz76, sz77, sz78] <;> omega) | (simp only [Nat.zero_add, Int.toNat_natCast, hm, rng, Ix.val, Int.toNat_natCast, mulE_eq, addQ_eq, addI, Option.getD_none, Option.getD_some, List.length_take, List.length_drop, List.length_append, List.length_set, List.length_replicate, sz3, sz4, sz5, sz9, sz22, sz23, sz25, sz27, sz28, sz29, sz30, sz32, sz33, sz34, sz35, sz36, sz38, sz40, sz42, sz47, sz48, sz49, sz56, sz57, sz67, sz68, sz69, sz73, sz74, sz76, sz77, sz78, *] <;> omega) | (simp only [Ix.val]; with_reducible assumption) | exact UInt8.toNat_lt _ | (apply Eq.trans; (with_reducible assumption); exact rfl) | exact rfl | exact fun _ _ => rfl)) ?_)
        refine ⟨(i + 1, c2), ⟨by show i + 1 ≤ m; omega, by show i + 1 ≤ 10; omega, hc5⟩, by show m - (i + 1) < m - i; omega, Le.intro [(210, (45, 0, none))] rfl ?_ rfl ?_ rfl⟩
        · exact fcn
        · repeat' (first | (show AllP _; first | exact trivial | refine AllP.app ?_ ?_ | refine AllP.appd ?_ ?_ | refine AllP.cons ?_ ?_) | with_reducible rfl | with_reducible assumption | omega | (simp only [Nat.zero_add, Int.toNat_natCast, rng, Ix.val, addQ_eq, addI, sz3, sz4, sz5, sz9, sz22, sz23, sz25, sz27, sz28, sz29, sz30, sz32, sz33, sz34, sz35, sz36, sz38, sz40, sz42, sz47, sz48, sz49, sz56, sz57, sz67, sz68, sz69, sz73, sz74, sz76, sz77, sz78] <;> omega) | (simp only [Nat.zero_add, Int.toNat_natCast, rng, Ix.val, Int.toNat_natCast, mulE_eq, addQ_eq, addI, Option.getD_none, Option.getD_some, List.length_take, List.length_drop, List.length_append, List.length_set, List.length_replicate, sz3, sz4, sz5, sz9, sz22, sz23, sz25, sz27, sz28, sz29, sz30, sz32, sz33, sz34, sz35, sz36, sz38, sz40, sz42, sz47, sz48, sz49, sz56, sz57, sz67, sz68, sz69, sz73, sz74, sz76, sz77, sz78, *] <;> omega) | (simp only [Ix.val]; with_reducible assumption) | exact UInt8.toNat_lt _ | (apply Eq.trans; (with_reducible assumption); exact rfl) | exact rfl | exact fun _ _ => rfl)
          subst hp
          show ∀ q, q < i + 1 → rwF (cuK ps n (i + 1)) q = _
          rw [cuK_succ]
          refine appF_row (fun q hq => (rwF_lt (by rw [cuK_length]; exact hq))) ?_
          have := rwF_at (cuK ps n i) (ctB (ps.getD i pt0) n 5000)
          rw [cuK_length, hN, Nat.mul_one] at this
          exact this
      · have hd2 : ¬ (i : Int) < 10 := hd2
        repeat (refine sd ?_)
        refine ⟨(i, c9), ⟨by show i = min m 10; omega, hic⟩, Le.intro [] rfl ?_ rfl ?_ rfl⟩
        · exact fc
        · exact fc
    · have hd1 : ¬ (i : Int) < ps.length := hd1
      rw [hm] at hd1
      repeat (refine sd ?_)
      refine ⟨(i, c9), ⟨by show i = min m 10; omega, hic⟩, Le.intro [] rfl ?_ rfl ?_ rfl⟩
      · exact fc
      · exact fc
  rintro ⟨i, c9⟩ ⟨hi, hic⟩
  have hi : i = min m 10 := hi
  have hic : i ≤ c9 := hic
  have hSl := cuK_length ps n i
  have hSe := cuK_le ps n i
  obtain ⟨S, hS⟩ : ∃ S, cuK ps n i = S := ⟨_, rfl⟩
  rw [hS] at hSl hSe ⊢
  have hK := fn12 (plA l) n hn (by omega) hAv S i hSl (by omega) (fun x h => by have := hSe x h; omega)
  have hKw := fn13 (plA l) n hn (by omega) hAv S i hSl (by omega) (fun x h => by have := hSe x h; omega)
  repeat (refine sd ?_)
  refine Call.intro hK [(1000, (1000, 0, none)), (1001, (305, 0, none)), (1002, (1002, 0, none)), (1003, (210, 0, none)), (1005, (405, 0, none)), (1006, (406, 0, none))] rfl fc rfl fc rfl ?_
  rintro v M' ⟨rfl, rfl⟩
  dsimp only [putT, afterM, newEnt, ren, renA, renS, renL, look, getM, getT, ev, evL, ofVal, cond_true, cond_false, Nat.beq_eq, act, isPar, ownPar, Ent.isOwn]
  repeat (refine sd ?_)
  refine Call.intro hKw [(1000, (17, 0, none)), (1001, (315, 0, none)), (1003, (210, 0, none)), (1006, (416, 0, none))] rfl fc rfl fc rfl ?_
  rintro v M' ⟨rfl, rfl⟩
  dsimp only [putT, afterM, newEnt, ren, renA, renS, renL, look, getM, getT, ev, evL, ofVal, cond_true, cond_false, Nat.beq_eq, act, isPar, ownPar, Ent.isOwn]
  clear hK hKw
  repeat (refine sd ?_)
  refine Loop.intro (σ := Nat) (fun j => j ≤ n)
    (fun j => ([(5, .ptr 1000 0 none), (6, .ptr 17 0 none), (9, .ptr 405 0 none), (10, .sl 416 0 0 (n + 1) (n + 1)), (11, .i .i64 ((j : Int) + 1))], [(1000, .mem true 0 [(1, .sl 305 0 0 n c), (1, .mp 1002)]), (1002, .map (.si (mpL (plA l)))), (305, .mem true (mulE (c - n) 3) [(n * 3, .arr n 3 (ttF (plA l)))]), (17, .mem true 0 [(1, .sl 315 0 0 n d)]), (315, .mem true (mulE (d - n) 2) [(n * 2, .arr n 2 (rtF (plA l)))]), (405, .mem true 0 [(1, .ptr 1000 0 none), (1, .i .i64 (n : Int)), (1, .sl 406 0 0 (n + 1) (n + 1))]), (406, .mem true 0 [(n + 1, .arr (n + 1) 1 (bF (KnP (plA l) S)))]), (416, .mem true 0 [(n + 1, .arr (n + 1) 1 (bF (KnP (plA l) S)))])]))
    (fun j => n - j) 0 (Nat.zero_le _) ?_ ?_
  · refine Le.intro [] rfl ?_ rfl ?_ rfl
    · exact fc
    · exact fc
  rintro j hj
  have hj : j ≤ n := hj
  repeat (refine sd ?_)
  refine Branch.intro (fun hc => ?_) (fun hc => ?_)
  · have hc : (j : Int) + 1 ≤ n := hc
    have ej : ((j : Int) + 1).toNat = j + 1 := by omega
    have hN2 := fn14 (j + 1) (by omega)
    have hnl := nameB_length (j + 1)
    have hH := fn15 (nameB (j + 1)) 32 hnl (by decide) n (by omega) (KnP (plA l) S)
    repeat (refine sd ?_)
    refine Call.intro hN2 [] rfl fc rfl trivial rfl ?_
    rintro v M' ⟨rfl, rfl⟩
    dsimp only [putT, afterM, newEnt, ren, renA, renS, renL, look, getM, getT, ev, evL, ofVal, cond_true, cond_false, Nat.beq_eq, act, isPar, ownPar, Ent.isOwn]
    repeat (refine sd ?_)
    refine Draw.intro [[], [], [0, 1], [], [], [3, 4], [3, 4, 5], [0, 1, 2, 3, 4, 5, 6]] [0, 1, 3, 4, 5, 6, 2, 7] (by kernel_rfl) ?_
    repeat (refine Side.intro (by repeat' (first | (show AllP _; first | exact trivial | refine AllP.app ?_ ?_ | refine AllP.appd ?_ ?_ | refine AllP.cons ?_ ?_) | with_reducible rfl | with_reducible assumption | omega | (simp only [Nat.zero_add, Int.toNat_natCast, ej, rng, Ix.val, addQ_eq, addI, sz3, sz4, sz5, sz9, sz22, sz23, sz25, sz27, sz28, sz29, sz30, sz32, sz33, sz34, sz35, sz36, sz38, sz40, sz42, sz47, sz48, sz49, sz56, sz57, sz67, sz68, sz69, sz73, sz74, sz76, sz77, sz78] <;> omega) | (simp only [Nat.zero_add, Int.toNat_natCast, ej, rng, Ix.val, Int.toNat_natCast, mulE_eq, addQ_eq, addI, Option.getD_none, Option.getD_some, List.length_take, List.length_drop, List.length_append, List.length_set, List.length_replicate, sz3, sz4, sz5, sz9, sz22, sz23, sz25, sz27, sz28, sz29, sz30, sz32, sz33, sz34, sz35, sz36, sz38, sz40, sz42, sz47, sz48, sz49, sz56, sz57, sz67, sz68, sz69, sz73, sz74, sz76, sz77, sz78, *] <;> omega) | (simp only [Ix.val]; with_reducible assumption) | exact UInt8.toNat_lt _ | (apply Eq.trans; (with_reducible assumption); exact rfl) | exact rfl | exact fun _ _ => rfl)) ?_)
    refine Call.intro hH [(1000, (405, 0, none)), (1001, (406, 0, none)), (1002, (1000, 0, none)), (1003, (12, 0, none))] rfl fc rfl fc rfl ?_
    rintro v M' ⟨rfl, rfl⟩
    dsimp only [putT, afterM, newEnt, ren, renA, renS, renL, look, getM, getT, ev, evL, ofVal, cond_true, cond_false, Nat.beq_eq, act, isPar, ownPar, Ent.isOwn]
    clear hN2 hH
    refine Grow.intro [] rfl rfl ?_
    repeat (refine Side.intro (by repeat' (first | (show AllP _; first | exact trivial | refine AllP.app ?_ ?_ | refine AllP.appd ?_ ?_ | refine AllP.cons ?_ ?_) | with_reducible rfl | with_reducible assumption | omega | (simp only [Nat.zero_add, Int.toNat_natCast, ej, rng, Ix.val, addQ_eq, addI, sz3, sz4, sz5, sz9, sz22, sz23, sz25, sz27, sz28, sz29, sz30, sz32, sz33, sz34, sz35, sz36, sz38, sz40, sz42, sz47, sz48, sz49, sz56, sz57, sz67, sz68, sz69, sz73, sz74, sz76, sz77, sz78] <;> omega) | (simp only [Nat.zero_add, Int.toNat_natCast, ej, rng, Ix.val, Int.toNat_natCast, mulE_eq, addQ_eq, addI, Option.getD_none, Option.getD_some, List.length_take, List.length_drop, List.length_append, List.length_set, List.length_replicate, sz3, sz4, sz5, sz9, sz22, sz23, sz25, sz27, sz28, sz29, sz30, sz32, sz33, sz34, sz35, sz36, sz38, sz40, sz42, sz47, sz48, sz49, sz56, sz57, sz67, sz68, sz69, sz73, sz74, sz76, sz77, sz78, *] <;> omega) | (simp only [Ix.val]; with_reducible assumption) | exact UInt8.toNat_lt _ | (apply Eq.trans; (with_reducible assumption); exact rfl) | exact rfl | exact fun _ _ => rfl)) ?_)
    refine Branch.intro (fun h => absurd h ?_) (fun _ => ?_)
    · intro h
      refine h ?_
      rw [allName (by omega) (by omega) (by omega)]
      show KnP (plA l) S (j + 1) ↔ KnP (plA l) S (addQ 0 ((j : Int) + 1).toNat)
      rw [addQ_eq, Nat.zero_add, ej]
    repeat (refine sd ?_)
    refine ⟨j + 1, by omega, by omega, Le.intro [] rfl ?_ rfl ?_ rfl⟩
    · exact fc
    · exact fc
  · clear hc
    have hH0 := fn15 [] 0 rfl (by decide) n (by omega) (KnP (plA l) S)
    have h0 : AllK (KnP (plA l) S) (inL [] n 0) := allNone (by decide)
    have h5 : ∀ b : List UInt8, b.length = 5 → AllK (KnP (plA l) S) (inL b n 0) := fun b hb => allNone (by omega)
    repeat (refine sd ?_)
    refine Call.name [(0, []), (2001, [(0, .a8 [])])] rfl ⟨rfl, rfl, trivial⟩ (CallP.intro hH0 [(1000, (405, 0, none)), (1001, (406, 0, none)), (1002, (1000, 0, none)), (1003, (2001, 0, none))] rfl ?_ rfl ?_ rfl ?_)
    · exact fc
    · exact fc
    rintro v M' ⟨rfl, rfl⟩
    dsimp only [putT, afterM, newEnt, ren, renA, renS, renL, look, getM, getT, ev, evL, ofVal, cond_true, cond_false, Nat.beq_eq, act, isPar, ownPar, Ent.isOwn]
    repeat (refine sd ?_)
    refine Branch.intro (fun _ => ?_) (fun h => absurd h0 h)
    repeat (refine sd ?_)
    refine Call.intro (fn15 [112, 108, 97, 105, 110] 5 rfl (by decide) n (by omega) (KnP (plA l) S)) [(1000, (405, 0, none)), (1001, (406, 0, none)), (1002, (1000, 0, none)), (1003, (75, 0, none))] rfl ?_ rfl ?_ rfl ?_
    · exact fc
    · exact fc
    rintro v M' ⟨rfl, rfl⟩
    dsimp only [putT, afterM, newEnt, ren, renA, renS, renL, look, getM, getT, ev, evL, ofVal, cond_true, cond_false, Nat.beq_eq, act, isPar, ownPar, Ent.isOwn]
    repeat (refine sd ?_)
    have h5' := h5 [112, 108, 97, 105, 110] rfl
    refine Ret.intro .tt [] [] rfl ?_ rfl rfl ?_ rfl trivial rfl
    · exact fc
    · exact fc

set_option maxRecDepth 100000 in
theorem termKnown_runs (svs : List SV) (h : AllF [isOfSl 2 [(1, .i .i64 0), (1, .isl 0 0 2 [(0 * 2, .arr 0 2 fun _ => [(1, .isl 0 0 1 [(0 * 1, .ai [])]), (1, .isl 0 0 1 [(0 * 1, .a8 [])])])])] (catF [cInt .i64, cSl 2 [(1, .isl 0 0 1 [(0 * 1, .ai [])]), (1, .isl 0 0 1 [(0 * 1, .a8 [])])] (catF [cSlI, cSl8 1])]), isOfSl 2 [(1, .isl 0 0 1 [(0 * 1, .ai [])]), (1, .isl 0 0 1 [(0 * 1, .a8 [])])] (catF [cSlI, cSl8 1])] svs) : Sx.Fn Γ.P 3 svs [] (fun v _ => v = .tt) := by
  obtain ⟨s1, r1, rfl, h1, h⟩ := AllF_cons h
  obtain ⟨s2, r2, rfl, h2, h⟩ := AllF_cons h
  obtain rfl := AllF_nil h
  obtain ⟨l, a1, a2, rfl⟩ := opsArg h1
  obtain ⟨ps, b1, b2, rfl⟩ := ptsArg h2
  exact fn3 l a1 a2 ps b1 b2

end Go.Proofs.Ytoaaplgjacjlpaa
