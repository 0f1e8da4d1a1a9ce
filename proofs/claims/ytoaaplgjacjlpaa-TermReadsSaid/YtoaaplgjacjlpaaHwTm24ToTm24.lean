/- What the functions of the program compute. No condition. -/
import Derived.Test.YtoaaplgjacjlpaaHwTm18ToTm18
import Derived.Test.YtoaaplgjacjlpaaHwTm21ToTm21
import Derived.Test.YtoaaplgjacjlpaaHwTm23ToTm23
set_option linter.unusedSimpArgs false
set_option linter.unusedVariables false
namespace Go.Proofs.Ytoaaplgjacjlpaa
open Go Go.Sx

/-! law12.TermReads. -/

theorem plA_valid (l : List Opr) : ∀ x ∈ plA l, Valid x.1 x.2 := by unfold plA; exact plT_valid l _
def cbB (ps : List Pt) (made : Nat) : Nat → List UInt8
  | 0 => []
  | k + 1 => cbB ps made k ++ ctB (ps.getD k pt0) made 5000
theorem cbB_zero (ps : List Pt) (made : Nat) : cbB ps made 0 = [] := rfl
theorem cbB_succ (ps : List Pt) (made k : Nat) : cbB ps made (k + 1) = cbB ps made k ++ ctB (ps.getD k pt0) made 5000 := rfl
attribute [irreducible] cbB
theorem cbB_le (ps : List Pt) (made : Nat) : ∀ k, (cbB ps made k).length ≤ 5128 * k
  | 0 => by rw [cbB_zero]; exact Nat.le_refl _
  | k + 1 => by
    rw [cbB_succ, List.length_append]
    have := cbB_le ps made k
    have := ctB_le (ps.getD k pt0) made 5000
    omega

set_option maxRecDepth 100000 in
set_option maxHeartbeats 4000000 in
theorem fn7 (l : List Opr) (hl : l.length ≤ maxLen) (hO : ∀ o ∈ l, OpOK o) (ps : List Pt) (hps : ps.length ≤ maxLen) (hpo : ∀ p ∈ ps, PtOK p) (k : List UInt8) (hk : k.length = 32) : Sx.Fn Γ.P 7 [opsS l, ptsS ps, .a8 k] [] (fun v _ => v = .tt) := by
  have hA := fn8
  have hNew := fn9
  have hP := fn10 l hl hO
  have hby33 : (Γ.ty 33).bytes = 24 := rfl
  have hby5 : (Γ.ty 5).bytes = 1 := rfl
  have hmx : maxLen = 9223372036854775807 := by decide
  unfold opsS ptsS at *
  refine fn_cut [1000012] (Γ := Γ) (fn := Try.f7) rfl rfl rfl rfl ?_
  repeat (refine sd ?_)
  refine Call.intro hA [] rfl trivial rfl trivial rfl ?_
  rintro v M' rfl
  dsimp only [putT, afterM, newEnt, ren, renA, renS, renL, look, getM, getT, ev, evL, ofVal, cond_true, cond_false, Nat.beq_eq, act, isPar, ownPar, Ent.isOwn]
  clear hA
  repeat (refine sd ?_)
  refine Call.intro hNew [(1000, (1000, 0, none)), (1002, (1002, 0, none))] rfl fc rfl trivial rfl ?_
  rintro v M' ⟨rfl, rfl⟩
  dsimp only [putT, afterM, newEnt, ren, renA, renS, renL, look, getM, getT, ev, evL, ofVal, cond_true, cond_false, Nat.beq_eq, act, isPar, ownPar, Ent.isOwn]
  clear hNew
  repeat (refine sd ?_)
  refine Call.intro hP [(1000, (1000, 0, none)), (1002, (1002, 0, none)), (1010, (23, 0, none)), (1005, (305, 0, none)), (1015, (315, 0, none))] rfl ?_ rfl ?_ rfl ?_
  · exact fc
  · exact fc
  rintro v M' ⟨n, c, d, hn, hnc, hnd, hn80, rfl, rfl⟩
  dsimp only [putT, afterM, newEnt, ren, renA, renS, renL, look, getM, getT, ev, evL, ofVal, cond_true, cond_false, Nat.beq_eq, act, isPar, ownPar, Ent.isOwn]
  clear hP
  have hAv := plA_valid l
  repeat (refine sd ?_)
  obtain ⟨m, hm⟩ : ∃ m, ps.length = m := ⟨_, rfl⟩
  refine Join.intro (σ := Nat × Nat × Nat) (fun s => s.1 = min m 6 ∧ (cbB ps (n + 1) s.1).length = s.2.1 ∧ s.2.1 ≤ s.2.2)
    (fun s => ([(5, .ptr 5 0 none), (7, .ptr 1000 0 none), (8, .ptr 23 0 none), (9, .sl 209 0 0 s.2.1 s.2.2)], [(1000, .mem true 0 [(1, .sl 305 0 0 n c), (1, .mp 1002)]), (1002, .map (.si (mpL (plA l)))), (305, .mem true (mulE (c - n) 3) [(n * 3, .arr n 3 (ttF (plA l)))]), (23, .mem true 0 [(1, .sl 315 0 0 n d)]), (315, .mem true (mulE (d - n) 2) [(n * 2, .arr n 2 (rtF (plA l)))]), (5, .mem true 0 [(32, .a8 k)]), (209, .mem true (s.2.2 - s.2.1) [(s.2.1, .a8 (cbB ps (n + 1) s.1))])])) ?_ ?_
  · repeat (refine sd ?_)
    refine Loop.intro (σ := Nat × Nat × Nat) (fun s => s.1 ≤ m ∧ s.1 ≤ 6 ∧ (cbB ps (n + 1) s.1).length = s.2.1 ∧ s.2.1 ≤ s.2.2)
      (fun s => ([(1, .isl 0 ps.length 2 [(ps.length * 2, .arr ps.length 2 (ptF ps))]), (5, .ptr 5 0 none), (7, .ptr 1000 0 none), (8, .ptr 23 0 none), (9, .sl 209 0 0 s.2.1 s.2.2), (10, .i .i64 (s.1 : Int))], [(1000, .mem true 0 [(1, .sl 305 0 0 n c), (1, .mp 1002)]), (1002, .map (.si (mpL (plA l)))), (305, .mem true (mulE (c - n) 3) [(n * 3, .arr n 3 (ttF (plA l)))]), (23, .mem true 0 [(1, .sl 315 0 0 n d)]), (315, .mem true (mulE (d - n) 2) [(n * 2, .arr n 2 (rtF (plA l)))]), (5, .mem true 0 [(32, .a8 k)]), (209, .mem true (s.2.2 - s.2.1) [(s.2.1, .a8 (cbB ps (n + 1) s.1))])]))
      (fun s => m - s.1) (0, 0, 0) ⟨Nat.zero_le _, Nat.zero_le _, by show (cbB ps (n + 1) 0).length = 0; rw [cbB_zero]; rfl, Nat.le_refl _⟩ ?_ ?_
    · have hz0 := cbB_zero ps (n + 1)
      refine Le.ghost [.own 209 [(0, .a8 [])]] [(9, 209)] [] rfl ⟨rfl, rfl, trivial⟩ rfl rfl ?_ rfl ?_ rfl
      · exact fc
      · exact fc
    rintro ⟨i, N, c9⟩ ⟨hi, hi6, hN, hNc⟩
    have hi : i ≤ m := hi
    have hi6 : i ≤ 6 := hi6
    have hN : (cbB ps (n + 1) i).length = N := hN
    have hNc : N ≤ c9 := hNc
    have hNl := cbB_le ps (n + 1) i
    repeat (refine Side.intro (by repeat' (first | (show AllP _; first | exact trivial | refine AllP.app ?_ ?_ | refine AllP.appd ?_ ?_ | refine AllP.cons ?_ ?_) | with_reducible rfl | with_reducible assumption | omega | (simp only [hm, rng, Ix.val, addQ_eq, addI, sz3, sz5, sz9, sz22, sz23, sz25, sz27, sz28, sz29, sz30, sz32, sz33, sz34, sz35, sz36, sz38, sz42, sz47, sz48, sz49, sz56, sz57, sz59, sz67, sz68, sz69, sz74, sz77, sz78] <;> omega) | (simp only [hm, rng, Ix.val, Int.toNat_natCast, mulE_eq, addQ_eq, addI, Option.getD_none, Option.getD_some, List.length_take, List.length_drop, List.length_append, List.length_set, List.length_replicate, sz3, sz5, sz9, sz22, sz23, sz25, sz27, sz28, sz29, sz30, sz32, sz33, sz34, sz35, sz36, sz38, sz42, sz47, sz48, sz49, sz56, sz57, sz59, sz67, sz68, sz69, sz74, sz77, sz78, *] <;> omega) | (simp only [Ix.val]; with_reducible assumption) | exact UInt8.toNat_lt _ | (apply Eq.trans; (with_reducible assumption); exact rfl) | exact rfl | exact fun _ _ => rfl)) ?_)
    refine Branch.intro (fun hd1 => ?_) (fun hd1 => ?_)
    · have hd1 : (i : Int) < ps.length := hd1
      rw [hm] at hd1
      repeat (refine sd ?_)
      refine Branch.intro (fun hd2 => ?_) (fun hd2 => ?_)
      · have hd2 : (i : Int) < 6 := hd2
        obtain ⟨p, hp⟩ : ∃ p, ps.getD i pt0 = p := ⟨_, rfl⟩
        have hPo : PtOK p := by rw [← hp]; exact hpo _ (getD_mem pt0 (by omega))
        have hC := fn11 p hPo.1 hPo.2 (n + 1) (by omega)
        have hCl := ctB_le p (n + 1) 5000
        have hsu := cbB_succ ps (n + 1) i
        rw [hp] at hsu
        unfold ptS at hC
        refine Draw.intro [[], [], [], [1, 2], [1, 2, 3], [], [5], [5, 6], [5, 6, 7], [5, 6, 7, 8], [5, 6, 7, 8, 9], [1, 2, 3, 4, 5, 6, 7, 8, 9, 10], [0, 1, 2, 3, 4, 5, 6, 7, 8, 9, 10, 11], [0, 1, 2, 3, 4, 5, 6, 7, 8, 9, 10, 11, 12]] [0, 1, 2, 3, 4, 5, 6, 7, 8, 9, 10, 11, 12, 13] (by kernel_rfl) ?_
        unfold ptF
        repeat (refine Side.intro (by repeat' (first | (show AllP _; first | exact trivial | refine AllP.app ?_ ?_ | refine AllP.appd ?_ ?_ | refine AllP.cons ?_ ?_) | with_reducible rfl | with_reducible assumption | omega | (simp only [Nat.zero_add, Int.toNat_natCast, hm, hp, rng, Ix.val, addQ_eq, addI, sz3, sz5, sz9, sz22, sz23, sz25, sz27, sz28, sz29, sz30, sz32, sz33, sz34, sz35, sz36, sz38, sz42, sz47, sz48, sz49, sz56, sz57, sz59, sz67, sz68, sz69, sz74, sz77, sz78] <;> omega) | (simp only [Nat.zero_add, Int.toNat_natCast, hm, hp, rng, Ix.val, Int.toNat_natCast, mulE_eq, addQ_eq, addI, Option.getD_none, Option.getD_some, List.length_take, List.length_drop, List.length_append, List.length_set, List.length_replicate, sz3, sz5, sz9, sz22, sz23, sz25, sz27, sz28, sz29, sz30, sz32, sz33, sz34, sz35, sz36, sz38, sz42, sz47, sz48, sz49, sz56, sz57, sz59, sz67, sz68, sz69, sz74, sz77, sz78, *] <;> omega) | (simp only [Ix.val]; with_reducible assumption) | exact UInt8.toNat_lt _ | (apply Eq.trans; (with_reducible assumption); exact rfl) | exact rfl | exact fun _ _ => rfl)) ?_)
        refine Call.intro hC [(1001, (302, 0, none))] rfl (by repeat' (first | (show AllP _; first | exact trivial | refine AllP.app ?_ ?_ | refine AllP.appd ?_ ?_ | refine AllP.cons ?_ ?_) | with_reducible rfl | with_reducible assumption | omega | (simp only [Nat.zero_add, Int.toNat_natCast, hm, hp, rng, Ix.val, addQ_eq, addI, sz3, sz5, sz9, sz22, sz23, sz25, sz27, sz28, sz29, sz30, sz32, sz33, sz34, sz35, sz36, sz38, sz42, sz47, sz48, sz49, sz56, sz57, sz59, sz67, sz68, sz69, sz74, sz77, sz78] <;> omega) | (simp only [Nat.zero_add, Int.toNat_natCast, hm, hp, rng, Ix.val, Int.toNat_natCast, mulE_eq, addQ_eq, addI, Option.getD_none, Option.getD_some, List.length_take, List.length_drop, List.length_append, List.length_set, List.length_replicate, sz3, sz5, sz9, sz22, sz23, sz25, sz27, sz28, sz29, sz30, sz32, sz33, sz34, sz35, sz36, sz38, sz42, sz47, sz48, sz49, sz56, sz57, sz59, sz67, sz68, sz69, sz74, sz77, sz78, *] <;> omega) | (simp only [Ix.val]; with_reducible assumption) | exact UInt8.toNat_lt _ | (apply Eq.trans; (with_reducible assumption); exact rfl) | exact rfl | exact fun _ _ => rfl)) rfl trivial rfl ?_
        rintro v M' ⟨N2, cN, hN2, hNc2, rfl, rfl⟩
        dsimp only [putT, afterM, newEnt, ren, renA, renS, renL, look, getM, getT, ev, evL, ofVal, cond_true, cond_false, Nat.beq_eq, act, isPar, ownPar, Ent.isOwn]
        refine fun c2 hc5 => ?_
        have hc5 : N + N2 ≤ c2 := hc5
        repeat (refine Side.intro (by repeat' (first | (show AllP _; first | exact trivial | refine AllP.app ?_ ?_ | refine AllP.appd ?_ ?_ | refine AllP.cons ?_ ?_) | with_reducible rfl | with_reducible assumption | omega | (simp only [Nat.zero_add, Int.toNat_natCast, hm, rng, Ix.val, addQ_eq, addI, sz3, sz5, sz9, sz22, sz23, sz25, sz27, sz28, sz29, sz30, sz32, sz33, sz34, sz35, sz36, sz38, sz42, sz47, sz48, sz49, sz56, sz57, sz59, sz67, sz68, sz69, sz74, sz77, sz78] <;> omega) | (simp only [Nat.zero_add, Int.toNat_natCast, hm, rng, Ix.val, Int.toNat_natCast, mulE_eq, addQ_eq, addI, Option.getD_none, Option.getD_some, List.length_take, List.length_drop, List.length_append, List.length_set, List.length_replicate, sz3, sz5, sz9, sz22, sz23, sz25, sz27, sz28, sz29, sz30, sz32, sz33, sz34, sz35, sz36, sz38, sz42, sz47, sz48, sz49, sz56, sz57, sz59, sz67, sz68, sz69, sz74, sz77, sz78, *] <;> omega) | (simp only [Ix.val]; with_reducible assumption) | exact UInt8.toNat_lt _ | (apply Eq.trans; (with_reducible assumption); exact rfl) | exact rfl | exact fun _ _ => rfl)) ?_)
        refine ⟨(i + 1, N + N2, c2), ⟨by show i + 1 ≤ m; omega, by show i + 1 ≤ 6; omega, by show (cbB ps (n + 1) (i + 1)).length = N + N2; rw [hsu, List.length_append, hN, hN2], hc5⟩, by show m - (i + 1) < m - i; omega, Le.intro [(209, (51, 0, none))] rfl ?_ rfl ?_ rfl⟩
        · exact fcn
        · repeat' (first | (show AllP _; first | exact trivial | refine AllP.app ?_ ?_ | refine AllP.appd ?_ ?_ | refine AllP.cons ?_ ?_) | with_reducible rfl | with_reducible assumption | omega | (simp only [Nat.zero_add, Int.toNat_natCast, rng, Ix.val, addQ_eq, addI, sz3, sz5, sz9, sz22, sz23, sz25, sz27, sz28, sz29, sz30, sz32, sz33, sz34, sz35, sz36, sz38, sz42, sz47, sz48, sz49, sz56, sz57, sz59, sz67, sz68, sz69, sz74, sz77, sz78] <;> omega) | (simp only [Nat.zero_add, Int.toNat_natCast, rng, Ix.val, Int.toNat_natCast, mulE_eq, addQ_eq, addI, Option.getD_none, Option.getD_some, List.length_take, List.length_drop, List.length_append, List.length_set, List.length_replicate, sz3, sz5, sz9, sz22, sz23, sz25, sz27, sz28, sz29, sz30, sz32, sz33, sz34, sz35, sz36, sz38, sz42, sz47, sz48, sz49, sz56, sz57, sz59, sz67, sz68, sz69, sz74, sz77, sz78, *] <;> omega) | (simp only [Ix.val]; with_reducible assumption) | exact UInt8.toNat_lt _ | (apply Eq.trans; (with_reducible assumption); exact rfl) | exact rfl | exact fun _ _ => rfl)
          all_goals (show cbB ps (n + 1) (i + 1) = _; rw [hsu]; exact (congrArg (cbB ps (n + 1) i ++ ·) (List.take_of_length_le (Nat.le_of_eq hN2))).symm)
      · have hd2 : ¬ (i : Int) < 6 := hd2
        repeat (refine sd ?_)
        refine ⟨(i, N, c9), ⟨by show i = min m 6; omega, hN, hNc⟩, Le.intro [] rfl ?_ rfl ?_ rfl⟩
        · exact fc
        · exact fc
    · have hd1 : ¬ (i : Int) < ps.length := hd1
      rw [hm] at hd1
      repeat (refine sd ?_)
      refine ⟨(i, N, c9), ⟨by show i = min m 6; omega, hN, hNc⟩, Le.intro [] rfl ?_ rfl ?_ rfl⟩
      · exact fc
      · exact fc
  rintro ⟨i, N, c9⟩ ⟨hi, hN, hNc⟩
  have hi : i = min m 6 := hi
  have hN : (cbB ps (n + 1) i).length = N := hN
  have hNc : N ≤ c9 := hNc
  have hNl := cbB_le ps (n + 1) i
  obtain ⟨b, hb⟩ : ∃ b, cbB ps (n + 1) i = b := ⟨_, rfl⟩
  rw [hb] at hN hNl ⊢
  have hIn := fn19 n (by omega) b N hN (by omega)
  have hIr := fn20 b N hN n (by omega) (by omega)
  obtain ⟨ls, hls⟩ : ∃ ls, inL b n 0 = ls := ⟨_, rfl⟩
  have hle : ∀ z ∈ ls, 1 ≤ z ∧ z ≤ n := fun z hz => by rw [← hls] at hz; exact inL_le hz
  have hl6 : ls.length ≤ 100000 := by rw [← hls]; have := inL_len b n 0; omega
  rw [hls] at hIn hIr
  have htl := toI_len ls
  repeat (refine sd ?_)
  refine Call.intro hIn [(1000, (1000, 0, none)), (1001, (305, 0, none)), (1002, (1002, 0, none)), (1003, (209, 0, none)), (1005, (405, 0, none))] rfl fc rfl fc rfl ?_
  rintro v M' ⟨kk, ck, hkk, hkc, rfl, rfl⟩
  dsimp only [putT, afterM, newEnt, ren, renA, renS, renL, look, getM, getT, ev, evL, ofVal, cond_true, cond_false, Nat.beq_eq, act, isPar, ownPar, Ent.isOwn]
  repeat (refine sd ?_)
  refine Call.intro hIr [(1003, (209, 0, none)), (1001, (406, 0, none))] rfl fc rfl fc rfl ?_
  rintro v M' ⟨l2, cl, rfl, hlc, rfl, rfl⟩
  dsimp only [putT, afterM, newEnt, ren, renA, renS, renL, look, getM, getT, ev, evL, ofVal, cond_true, cond_false, Nat.beq_eq, act, isPar, ownPar, Ent.isOwn]
  clear hIn hIr
  subst hkk
  repeat (refine sd ?_)
  refine Branch.intro (fun h => absurd h ?_) (fun _ => ?_)
  · intro h
    exact h (by rw [htl])
  repeat (refine sd ?_)
  refine Loop.intro (σ := Nat) (fun i => i ≤ ls.length)
    (fun i => ([(5, .ptr 5 0 none), (7, .ptr 1000 0 none), (8, .ptr 23 0 none), (11, .sl 405 0 0 ls.length ck), (12, .sl 406 0 0 ls.length cl), (13, .i .i64 (i : Int))], [(1000, .mem true 0 [(1, .sl 305 0 0 n c), (1, .mp 1002)]), (1002, .map (.si (mpL (plA l)))), (305, .mem true (mulE (c - n) 3) [(n * 3, .arr n 3 (ttF (plA l)))]), (23, .mem true 0 [(1, .sl 315 0 0 n d)]), (315, .mem true (mulE (d - n) 2) [(n * 2, .arr n 2 (rtF (plA l)))]), (5, .mem true 0 [(32, .a8 k)]), (405, .mem true (mulE (ck - ls.length) 32) [(ls.length * 32, .arr ls.length 32 (kyF ls))]), (406, .mem true (cl - ls.length) [(ls.length, .ai (toI ls))])]))
    (fun i => ls.length - i) 0 (Nat.zero_le _) ?_ ?_
  · refine Le.intro [] rfl ?_ rfl ?_ rfl
    · exact fc
    · exact fc
  rintro j hj
  have hj : j ≤ ls.length := hj
  repeat (refine sd ?_)
  refine Branch.intro (fun hc => ?_) (fun hc => ?_)
  · have hc : (j : Int) < ls.length := hc
    have hg := toI_getD ls (i := j) (by omega)
    have hz1 := hle _ (getD_mem 0 (L := ls) (i := j) (by omega))
    obtain ⟨z, hz⟩ : ∃ z, ls.getD j 0 = z := ⟨_, rfl⟩
    rw [hz] at hg hz1
    have hN2 := fn14 z (by omega)
    have hnl := nameB_length z
    refine Draw.intro [[], [], [0, 1], [0, 1, 2], [], [], [4, 5], [4, 5, 6], [4, 5, 6, 7], [0, 1, 2, 3, 4, 5, 6, 7, 8]] [0, 1, 2, 3, 4, 5, 6, 7, 8, 9] (by kernel_rfl) ?_
    unfold kyF
    repeat (refine Side.intro (by repeat' (first | (show AllP _; first | exact trivial | refine AllP.app ?_ ?_ | refine AllP.appd ?_ ?_ | refine AllP.cons ?_ ?_) | with_reducible rfl | with_reducible assumption | omega | (simp only [Nat.zero_add, Int.toNat_natCast, hg, hz, rng, Ix.val, addQ_eq, addI, sz3, sz5, sz9, sz22, sz23, sz25, sz27, sz28, sz29, sz30, sz32, sz33, sz34, sz35, sz36, sz38, sz42, sz47, sz48, sz49, sz56, sz57, sz59, sz67, sz68, sz69, sz74, sz77, sz78] <;> omega) | (simp only [Nat.zero_add, Int.toNat_natCast, hg, hz, rng, Ix.val, Int.toNat_natCast, mulE_eq, addQ_eq, addI, Option.getD_none, Option.getD_some, List.length_take, List.length_drop, List.length_append, List.length_set, List.length_replicate, sz3, sz5, sz9, sz22, sz23, sz25, sz27, sz28, sz29, sz30, sz32, sz33, sz34, sz35, sz36, sz38, sz42, sz47, sz48, sz49, sz56, sz57, sz59, sz67, sz68, sz69, sz74, sz77, sz78, *] <;> omega) | (simp only [Ix.val]; with_reducible assumption) | exact UInt8.toNat_lt _ | (apply Eq.trans; (with_reducible assumption); exact rfl) | exact rfl | exact fun _ _ => rfl)) ?_)
    refine Call.intro hN2 [] rfl ?_ rfl trivial rfl ?_
    · repeat' (first | (show AllP _; first | exact trivial | refine AllP.app ?_ ?_ | refine AllP.appd ?_ ?_ | refine AllP.cons ?_ ?_) | with_reducible rfl | with_reducible assumption | omega | (simp only [Nat.zero_add, Int.toNat_natCast, hg, rng, Ix.val, addQ_eq, addI, sz3, sz5, sz9, sz22, sz23, sz25, sz27, sz28, sz29, sz30, sz32, sz33, sz34, sz35, sz36, sz38, sz42, sz47, sz48, sz49, sz56, sz57, sz59, sz67, sz68, sz69, sz74, sz77, sz78] <;> omega) | (simp only [Nat.zero_add, Int.toNat_natCast, hg, rng, Ix.val, Int.toNat_natCast, mulE_eq, addQ_eq, addI, Option.getD_none, Option.getD_some, List.length_take, List.length_drop, List.length_append, List.length_set, List.length_replicate, sz3, sz5, sz9, sz22, sz23, sz25, sz27, sz28, sz29, sz30, sz32, sz33, sz34, sz35, sz36, sz38, sz42, sz47, sz48, sz49, sz56, sz57, sz59, sz67, sz68, sz69, sz74, sz77, sz78, *] <;> omega) | (simp only [Ix.val]; with_reducible assumption) | exact UInt8.toNat_lt _ | (apply Eq.trans; (with_reducible assumption); exact rfl) | exact rfl | exact fun _ _ => rfl)
    rintro v M' ⟨rfl, rfl⟩
    dsimp only [putT, afterM, newEnt, ren, renA, renS, renL, look, getM, getT, ev, evL, ofVal, cond_true, cond_false, Nat.beq_eq, act, isPar, ownPar, Ent.isOwn]
    refine Grow.intro [] rfl rfl ?_
    repeat (refine Side.intro (by repeat' (first | (show AllP _; first | exact trivial | refine AllP.app ?_ ?_ | refine AllP.appd ?_ ?_ | refine AllP.cons ?_ ?_) | with_reducible rfl | with_reducible assumption | omega | (simp only [Nat.zero_add, Int.toNat_natCast, hg, hz, rng, Ix.val, addQ_eq, addI, sz3, sz5, sz9, sz22, sz23, sz25, sz27, sz28, sz29, sz30, sz32, sz33, sz34, sz35, sz36, sz38, sz42, sz47, sz48, sz49, sz56, sz57, sz59, sz67, sz68, sz69, sz74, sz77, sz78] <;> omega) | (simp only [Nat.zero_add, Int.toNat_natCast, hg, hz, rng, Ix.val, Int.toNat_natCast, mulE_eq, addQ_eq, addI, Option.getD_none, Option.getD_some, List.length_take, List.length_drop, List.length_append, List.length_set, List.length_replicate, sz3, sz5, sz9, sz22, sz23, sz25, sz27, sz28, sz29, sz30, sz32, sz33, sz34, sz35, sz36, sz38, sz42, sz47, sz48, sz49, sz56, sz57, sz59, sz67, sz68, sz69, sz74, sz77, sz78, *] <;> omega) | (simp only [Ix.val]; with_reducible assumption) | exact UInt8.toNat_lt _ | (apply Eq.trans; (with_reducible assumption); exact rfl) | exact rfl | exact fun _ _ => rfl)) ?_)
    refine Branch.intro (fun h => absurd h ?_) (fun _ => ?_)
    · intro h
      refine h ?_
      show nameB (ls.getD j 0) = nameB z
      rw [hz]
    repeat (refine sd ?_)
    refine ⟨j + 1, by omega, by omega, Le.intro [] rfl ?_ rfl ?_ rfl⟩
    · exact fc
    · exact fc
  · clear hc
    have hOf := fn18 (plA l) n hn (by omega) hAv k hk
    have hOw := fn21 (plA l) n hn (by omega) k hk
    repeat (refine sd ?_)
    refine Call.intro hOf [(1000, (1000, 0, none)), (1001, (305, 0, none)), (1002, (1002, 0, none)), (1005, (415, 0, none))] rfl fc rfl fc rfl ?_
    rintro v M' (⟨hz, rfl, rfl⟩ | ⟨q, L, m5, cL, hq, hqn, hL, hm5, hmc, rfl, rfl⟩)
    · dsimp only [putT, afterM, newEnt, ren, renA, renS, renL, look, getM, getT, ev, evL, ofVal, cond_true, cond_false, Nat.beq_eq, act, isPar, ownPar, Ent.isOwn]
      repeat (refine sd ?_)
      refine Call.intro hOw [(1000, (23, 0, none)), (1001, (315, 0, none))] rfl fc rfl fc rfl ?_
      rintro v M' (⟨_, rfl, rfl⟩ | ⟨q, hq, _, _, _⟩)
      · dsimp only [putT, afterM, newEnt, ren, renA, renS, renL, look, getM, getT, ev, evL, ofVal, cond_true, cond_false, Nat.beq_eq, act, isPar, ownPar, Ent.isOwn]
        clear hOf hOw
        repeat (refine sd ?_)
        refine Branch.intro (fun _ => ?_) (fun h => absurd trivial h)
        repeat (refine sd ?_)
        refine Branch.intro (fun _ => ?_) (fun h => absurd rfl h)
        repeat (refine sd ?_)
        have hLi := fn17 [] [] 0 0 rfl rfl (by decide) (by decide)
        unfold rwS at hLi
        refine Call.name [(2001, [(0, .arr 0 1 (rwF []))]), (2002, [(0, .arr 0 1 (rwF []))])] rfl ⟨⟨rfl, rfl, trivial⟩, ⟨rfl, rfl, trivial⟩⟩ (CallP.intro hLi [(1003, (2001, 0, none)), (1004, (2002, 0, none))] rfl ?_ rfl ?_ rfl ?_)
        · exact fc
        · exact fc
        rintro v M' ⟨⟨_, rfl⟩ | ⟨hne, _⟩, rfl⟩
        · dsimp only [putT, afterM, newEnt, ren, renA, renS, renL, look, getM, getT, ev, evL, ofVal, cond_true, cond_false, Nat.beq_eq, act, isPar, ownPar, Ent.isOwn]
          repeat (refine sd ?_)
          refine Ret.intro .tt [] [] rfl ?_ rfl rfl ?_ rfl trivial rfl
          · exact fc
          · exact fc
        · exact absurd rfl hne
      · rw [hz] at hq; cases hq
    · obtain ⟨x, hx⟩ : ∃ x, (plA l).getD q te0 = x := ⟨_, rfl⟩
      have hxv := hAv _ (getD_mem te0 (L := plA l) (i := q) (by omega))
      have hLl : L.length ≤ 64 := by rw [← hL]; exact hxv.1.1
      dsimp only [putT, afterM, newEnt, ren, renA, renS, renL, look, getM, getT, ev, evL, ofVal, cond_true, cond_false, Nat.beq_eq, act, isPar, ownPar, Ent.isOwn]
      repeat (refine sd ?_)
      refine Call.intro hOw [(1000, (23, 0, none)), (1001, (315, 0, none))] rfl fc rfl fc rfl ?_
      rintro v M' (⟨hz, _, _⟩ | ⟨q2, hq2, _, rfl, rfl⟩)
      · rw [hz] at hq; cases hq
      · obtain rfl : q2 = q := by rw [hq2] at hq; omega
        dsimp only [putT, afterM, newEnt, ren, renA, renS, renL, look, getM, getT, ev, evL, ofVal, cond_true, cond_false, Nat.beq_eq, act, isPar, ownPar, Ent.isOwn]
        clear hOf hOw
        repeat (refine sd ?_)
        refine Branch.intro (fun _ => ?_) (fun h => absurd trivial h)
        repeat (refine sd ?_)
        refine Branch.intro (fun _ => ?_) (fun h => absurd rfl h)
        repeat (refine sd ?_)
        have hLi := fn17 L L m5 m5 hm5 hm5 (by omega) (by omega)
        unfold rwS at hLi
        unfold prS
        rw [hL]
        refine Call.name [(0, []), (2001, [])] rfl trivial (CallP.intro hLi [(1003, (415, 0, none)), (1004, (2001, 0, none))] rfl ?_ rfl ?_ rfl ?_)
        · repeat' (first | (show AllP _; first | exact trivial | refine AllP.app ?_ ?_ | refine AllP.appd ?_ ?_ | refine AllP.cons ?_ ?_) | with_reducible rfl | with_reducible assumption | omega | (simp only [hm5, rng, Ix.val, addQ_eq, addI, sz3, sz5, sz9, sz22, sz23, sz25, sz27, sz28, sz29, sz30, sz32, sz33, sz34, sz35, sz36, sz38, sz42, sz47, sz48, sz49, sz56, sz57, sz59, sz67, sz68, sz69, sz74, sz77, sz78] <;> omega) | (simp only [hm5, rng, Ix.val, Int.toNat_natCast, mulE_eq, addQ_eq, addI, Option.getD_none, Option.getD_some, List.length_take, List.length_drop, List.length_append, List.length_set, List.length_replicate, sz3, sz5, sz9, sz22, sz23, sz25, sz27, sz28, sz29, sz30, sz32, sz33, sz34, sz35, sz36, sz38, sz42, sz47, sz48, sz49, sz56, sz57, sz59, sz67, sz68, sz69, sz74, sz77, sz78, *] <;> omega) | (simp only [Ix.val]; with_reducible assumption) | exact UInt8.toNat_lt _ | (apply Eq.trans; (with_reducible assumption); exact rfl) | exact rfl | exact fun _ _ => rfl)
        · repeat' (first | (show AllP _; first | exact trivial | refine AllP.app ?_ ?_ | refine AllP.appd ?_ ?_ | refine AllP.cons ?_ ?_) | with_reducible rfl | with_reducible assumption | omega | (simp only [hm5, rng, Ix.val, addQ_eq, addI, sz3, sz5, sz9, sz22, sz23, sz25, sz27, sz28, sz29, sz30, sz32, sz33, sz34, sz35, sz36, sz38, sz42, sz47, sz48, sz49, sz56, sz57, sz59, sz67, sz68, sz69, sz74, sz77, sz78] <;> omega) | (simp only [hm5, rng, Ix.val, Int.toNat_natCast, mulE_eq, addQ_eq, addI, Option.getD_none, Option.getD_some, List.length_take, List.length_drop, List.length_append, List.length_set, List.length_replicate, sz3, sz5, sz9, sz22, sz23, sz25, sz27, sz28, sz29, sz30, sz32, sz33, sz34, sz35, sz36, sz38, sz42, sz47, sz48, sz49, sz56, sz57, sz59, sz67, sz68, sz69, sz74, sz77, sz78, *] <;> omega) | (simp only [Ix.val]; with_reducible assumption) | exact UInt8.toNat_lt _ | (apply Eq.trans; (with_reducible assumption); exact rfl) | exact rfl | exact fun _ _ => rfl)
        rintro v M' ⟨⟨_, rfl⟩ | ⟨hne, _⟩, rfl⟩
        · dsimp only [putT, afterM, newEnt, ren, renA, renS, renL, look, getM, getT, ev, evL, ofVal, cond_true, cond_false, Nat.beq_eq, act, isPar, ownPar, Ent.isOwn]
          repeat (refine sd ?_)
          refine Ret.intro .tt [] [] rfl ?_ rfl rfl ?_ rfl trivial rfl
          · exact fc
          · exact fc
        · exact absurd rfl hne

set_option maxRecDepth 100000 in
theorem termReads_runs (svs : List SV) (h : AllF [isOfSl 2 [(1, .i .i64 0), (1, .isl 0 0 2 [(0 * 2, .arr 0 2 fun _ => [(1, .isl 0 0 1 [(0 * 1, .ai [])]), (1, .isl 0 0 1 [(0 * 1, .a8 [])])])])] (catF [cInt .i64, cSl 2 [(1, .isl 0 0 1 [(0 * 1, .ai [])]), (1, .isl 0 0 1 [(0 * 1, .a8 [])])] (catF [cSlI, cSl8 1])]), isOfSl 2 [(1, .isl 0 0 1 [(0 * 1, .ai [])]), (1, .isl 0 0 1 [(0 * 1, .a8 [])])] (catF [cSlI, cSl8 1]), isArr8 32] svs) : Sx.Fn Γ.P 7 svs [] (fun v _ => v = .tt) := by
  obtain ⟨s1, r1, rfl, h1, h⟩ := AllF_cons h
  obtain ⟨s2, r2, rfl, h2, h⟩ := AllF_cons h
  obtain ⟨s3, r3, rfl, h3, h⟩ := AllF_cons h
  obtain rfl := AllF_nil h
  obtain ⟨l, a1, a2, rfl⟩ := opsArg h1
  obtain ⟨ps, b1, b2, rfl⟩ := ptsArg h2
  obtain ⟨k, hk, rfl⟩ := h3
  exact fn7 l a1 a2 ps b1 b2 k hk

end Go.Proofs.Ytoaaplgjacjlpaa
