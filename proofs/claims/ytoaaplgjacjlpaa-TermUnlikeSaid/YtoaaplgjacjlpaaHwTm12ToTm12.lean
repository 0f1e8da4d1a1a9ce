/- What the functions of the program compute. No condition. -/
import Derived.Test.YtoaaplgjacjlpaaHwTm11ToTm11
set_option linter.unusedSimpArgs false
set_option linter.unusedVariables false
namespace Go.Proofs.Ytoaaplgjacjlpaa
open Go Go.Sx

/-! law12.Play: terms are made on both. -/

theorem rwF_lt {L : List (List UInt8)} {x : List UInt8} {q : Nat} (h : q < L.length) : rwF (L ++ [x]) q = rwF L q := by
  unfold rwF; rw [getD_app_lt [] h]
theorem rwF_at (L : List (List UInt8)) (x : List UInt8) : rwF (L ++ [x]) L.length = [(1, .isl 0 x.length 1 [(x.length * 1, .a8 x)])] := by
  unfold rwF; rw [getD_app_at]

/-- A term that is made: its kind, its parts. -/
abbrev Opr := Int × List Pt
def pt0 : Pt := ([], [])
def op0 : Opr := (0, [])
def ptF (ps : List Pt) (j : Nat) : List (Nat × SV) := [(1, .isl 0 (ps.getD j pt0).1.length 1 [((ps.getD j pt0).1.length * 1, .ai (ps.getD j pt0).1)]), (1, .isl 0 (ps.getD j pt0).2.length 1 [((ps.getD j pt0).2.length * 1, .a8 (ps.getD j pt0).2)])]
def ptsS (ps : List Pt) : SV := .isl 0 ps.length 2 [(ps.length * 2, .arr ps.length 2 (ptF ps))]
def opF (l : List Opr) (q : Nat) : List (Nat × SV) := [(1, .i .i64 (l.getD q op0).1), (1, ptsS (l.getD q op0).2)]
def opsS (l : List Opr) : SV := .isl 0 l.length 2 [(l.length * 2, .arr l.length 2 (opF l))]
def PtOK (p : Pt) : Prop := p.1.length ≤ maxLen ∧ p.2.length ≤ maxLen
def OpOK (o : Opr) : Prop := o.2.length ≤ maxLen ∧ ∀ p ∈ o.2, PtOK p
/-- How many bytes a part may have. -/
def moK (i k : Nat) : Nat := if k ≤ 2 ∧ i ≤ 20 then 5000 else 20
def plK (ps : List Pt) (made i : Nat) : Nat → List (List UInt8)
  | 0 => []
  | k + 1 => plK ps made i k ++ [ctB (ps.getD k pt0) made (moK i k)]
theorem plK_zero (ps : List Pt) (made i : Nat) : plK ps made i 0 = [] := rfl
theorem plK_succ (ps : List Pt) (made i k : Nat) : plK ps made i (k + 1) = plK ps made i k ++ [ctB (ps.getD k pt0) made (moK i k)] := rfl
attribute [irreducible] plK
theorem plK_length (ps : List Pt) (made i : Nat) : ∀ k, (plK ps made i k).length = k
  | 0 => by rw [plK_zero]; rfl
  | k + 1 => by rw [plK_succ, List.length_append, plK_length ps made i k]; rfl
theorem plK_le (ps : List Pt) (made i : Nat) : ∀ k, ∀ x ∈ plK ps made i k, x.length ≤ 5128
  | 0, x, h => by rw [plK_zero] at h; cases h
  | k + 1, x, h => by
    rw [plK_succ] at h
    rcases List.mem_append.1 h with h | h
    · exact plK_le ps made i k x h
    · have h : x = ctB (ps.getD k pt0) made (moK i k) := by simpa using h
      rw [h]
      have := ctB_le (ps.getD k pt0) made (moK i k)
      have : moK i k ≤ 5000 := by unfold moK; split <;> omega
      omega
/-- The term that is made. -/
def opT (o : Opr) (made i : Nat) : Te := (o.1, plK o.2 made i (min o.2.length 66))
/-- The table after so many terms. -/
def plT (l : List Opr) : Nat → List Te
  | 0 => []
  | i + 1 => (mkT (plT l i) (opT (l.getD i op0) (plT l i).length i)).1
theorem plT_zero (l : List Opr) : plT l 0 = [] := rfl
theorem plT_succ (l : List Opr) (i : Nat) : plT l (i + 1) = (mkT (plT l i) (opT (l.getD i op0) (plT l i).length i)).1 := rfl
attribute [irreducible] plT
theorem plT_le (l : List Opr) : ∀ i, (plT l i).length ≤ i
  | 0 => by rw [plT_zero]; exact Nat.le_refl _
  | i + 1 => by
    rw [plT_succ]
    have := (mkT_len (plT l i) (opT (l.getD i op0) (plT l i).length i)).2
    have := plT_le l i
    omega
theorem plT_valid (l : List Opr) : ∀ i, ∀ x ∈ plT l i, Valid x.1 x.2
  | 0, x, h => by rw [plT_zero] at h; cases h
  | i + 1, x, h => by rw [plT_succ] at h; exact mkT_valid (plT_valid l i) x h
/-- The table that is played. -/
@[irreducible] def plA (l : List Opr) : List Te := plT l (min l.length 80)


set_option maxRecDepth 100000 in
set_option maxHeartbeats 2000000 in
theorem fn10 (l : List Opr) (hl : l.length ≤ maxLen) (hO : ∀ o ∈ l, OpOK o) : Sx.Fn Γ.P 10 [.ptr 1000 0 none, .ptr 1010 0 none, opsS l]
      [(1000, .mem true 0 [(1, .nsl), (1, .mp 1002)]), (1002, .map (.si [])), (1010, .mem true 0 [(1, .nsl)])]
    (fun v M => ∃ n c d, (plA l).length = n ∧ n ≤ c ∧ n ≤ d ∧ n ≤ 80 ∧ v = .tt ∧ M = [(1000, .mem true 0 [(1, .sl 1005 0 0 n c), (1, .mp 1002)]), (1002, .map (.si (mpL (plA l)))), (1005, .mem true (mulE (c - n) 3) [(n * 3, .arr n 3 (ttF (plA l)))]),
        (1010, .mem true 0 [(1, .sl 1015 0 0 n d)]), (1015, .mem true (mulE (d - n) 2) [(n * 2, .arr n 2 (rtF (plA l)))])]) := by
  have hmx : maxLen = 9223372036854775807 := by decide
  have hby : (Γ.ty 5).bytes = 1 := rfl
  have hby33 : (Γ.ty 33).bytes = 24 := rfl
  have hm0 : mpL (plT l 0) = [] := by rw [plT_zero, mpL_nil]
  obtain ⟨nl, hnl⟩ : ∃ nl, l.length = nl := ⟨_, rfl⟩
  unfold opsS
  rw [hnl]
  refine fn_of (Γ := Γ) (fn := Try.f10) rfl rfl rfl rfl ?_
  repeat (refine sd ?_)
  refine Loop.intro (σ := Nat × Nat × Nat × Nat) (fun s => s.1 ≤ nl ∧ s.1 ≤ 80 ∧ (plT l s.1).length = s.2.1 ∧ s.2.1 ≤ s.2.2.1 ∧ s.2.1 ≤ s.2.2.2)
    (fun s => ([(0, .ptr 1000 0 none), (1, .ptr 1010 0 none), (2, .isl 0 nl 2 [(nl * 2, .arr nl 2 (opF l))]), (7, .i .i64 (s.1 : Int))],
      [(1000, .mem true 0 [(1, .sl 205 0 0 s.2.1 s.2.2.1), (1, .mp 1002)]), (1002, .map (.si (mpL (plT l s.1)))), (1010, .mem true 0 [(1, .sl 215 0 0 s.2.1 s.2.2.2)]),
        (205, .mem true (mulE (s.2.2.1 - s.2.1) 3) [(s.2.1 * 3, .arr s.2.1 3 (ttF (plT l s.1)))]), (215, .mem true (mulE (s.2.2.2 - s.2.1) 2) [(s.2.1 * 2, .arr s.2.1 2 (rtF (plT l s.1)))])]))
    (fun s => nl - s.1) (0, 0, 0, 0) ⟨Nat.zero_le _, Nat.zero_le _, by show (plT l 0).length = 0; rw [plT_zero]; rfl, Nat.le_refl _, Nat.le_refl _⟩ ?_ ?_
  · refine Le.ghost [.own 205 [(0, .arr 0 3 (ttF (plT l 0)))], .own 215 [(0, .arr 0 2 (rtF (plT l 0)))], .leaf 1000 0 205, .leaf 1010 0 215] [] [] rfl ⟨⟨rfl, rfl, trivial⟩, ⟨rfl, rfl, trivial⟩⟩ rfl rfl ?_ rfl ?_ rfl
    · exact fc
    · exact fc
  rintro ⟨i, n, c, d⟩ ⟨hi, hi80, hn, hnc, hnd⟩
  have hi : i ≤ nl := hi
  have hi80 : i ≤ 80 := hi80
  have hn : (plT l i).length = n := hn
  have hnc : n ≤ c := hnc
  have hnd : n ≤ d := hnd
  have hni := plT_le l i
  repeat (refine sd ?_)
  refine Branch.intro (fun hc1 => ?_) (fun hc1 => ?_)
  · have hc1 : (i : Int) < nl := hc1
    refine Branch.intro (fun hc2 => ?_) (fun hc2 => ?_)
    · have hc2 : (i : Int) < 80 := hc2
      obtain ⟨o, ho⟩ : ∃ o, l.getD i op0 = o := ⟨_, rfl⟩
      have hoO : OpOK o := by rw [← ho]; exact hO _ (getD_mem op0 (by omega))
      obtain ⟨hm1, hpO⟩ := hoO
      obtain ⟨m, hm⟩ : ∃ m, o.2.length = m := ⟨_, rfl⟩
      have hop : ∀ q, q = i → opF l q = [(1, .i .i64 o.1), (1, .isl 0 m 2 [(m * 2, .arr m 2 (ptF o.2))])] := by
        intro q hq; subst hq; unfold opF ptsS; rw [ho, hm]
      repeat (refine sd ?_)
      refine Loop.intro (σ := Nat × Nat) (fun s => s.1 ≤ m ∧ s.1 ≤ 66 ∧ s.1 ≤ s.2)
        (fun s => ([(0, .ptr 1000 0 none), (1, .ptr 1010 0 none), (2, .isl 0 nl 2 [(nl * 2, .arr nl 2 (opF l))]), (7, .i .i64 (i : Int)), (8, .sl 208 0 0 s.1 s.2), (9, .i .i64 (s.1 : Int))],
          [(1000, .mem true 0 [(1, .sl 205 0 0 n c), (1, .mp 1002)]), (1002, .map (.si (mpL (plT l i)))), (1010, .mem true 0 [(1, .sl 215 0 0 n d)]),
            (205, .mem true (mulE (c - n) 3) [(n * 3, .arr n 3 (ttF (plT l i)))]), (215, .mem true (mulE (d - n) 2) [(n * 2, .arr n 2 (rtF (plT l i)))]),
            (208, .mem true (s.2 - s.1) [(s.1 * 1, .arr s.1 1 (rwF (plK o.2 n i s.1)))])]))
        (fun s => m - s.1) (0, 0) ⟨Nat.zero_le _, Nat.zero_le _, Nat.le_refl _⟩ ?_ ?_
      · refine Le.ghost [.own 208 [(0, .arr 0 1 (rwF (plK o.2 n i 0)))]] [(8, 208)] [] rfl ⟨rfl, rfl, trivial⟩ rfl rfl ?_ rfl ?_ rfl
        · exact fc
        · exact fc
      rintro ⟨k, cp⟩ ⟨hk, hk66, hkc⟩
      have hk : k ≤ m := hk
      have hk66 : k ≤ 66 := hk66
      have hkc : k ≤ cp := hkc
      unfold opF ptsS
      repeat (refine Side.intro (by repeat' (first | (show AllP _; first | exact trivial | refine AllP.app ?_ ?_ | refine AllP.appd ?_ ?_ | refine AllP.cons ?_ ?_) | with_reducible rfl | with_reducible assumption | omega | (simp only [Nat.zero_add, Int.toNat_natCast, ho, rng, Ix.val, addQ_eq, addI, sz3, sz5, sz22, sz23, sz25, sz27, sz28, sz29, sz30, sz32, sz33, sz34, sz35, sz36, sz42, sz47, sz48, sz49, sz56, sz57, sz66, sz67, sz68, sz69, sz76, sz77, sz78] <;> omega) | (simp only [Nat.zero_add, Int.toNat_natCast, ho, rng, Ix.val, Int.toNat_natCast, mulE_eq, addQ_eq, addI, Option.getD_none, Option.getD_some, List.length_take, List.length_drop, List.length_append, List.length_set, List.length_replicate, sz3, sz5, sz22, sz23, sz25, sz27, sz28, sz29, sz30, sz32, sz33, sz34, sz35, sz36, sz42, sz47, sz48, sz49, sz56, sz57, sz66, sz67, sz68, sz69, sz76, sz77, sz78, *] <;> omega) | (simp only [Ix.val]; with_reducible assumption) | exact UInt8.toNat_lt _ | (apply Eq.trans; (with_reducible assumption); exact rfl) | exact rfl | exact fun _ _ => rfl)) ?_)
      refine Branch.intro (fun hd1 => ?_) (fun hd1 => ?_)
      · have hd1 : (k : Int) < (l.getD (addQ 0 (Int.toNat (i : Int))) op0).2.length := hd1
        rw [addQ_eq, Nat.zero_add, Int.toNat_natCast, ho, hm] at hd1
        refine Branch.intro (fun hd2 => ?_) (fun hd2 => ?_)
        · have hd2 : (k : Int) < 66 := hd2
          have hP := hpO _ (getD_mem pt0 (L := o.2) (i := k) (by omega))
          repeat (refine sd ?_)
          refine Branch.intro (fun hd3 => ?_) (fun hd3 => ?_)
          · have hmo : moK i k = 20 := by unfold moK; rw [if_neg]; have hd3 : (k : Int) > 2 := hd3; omega
            repeat (refine sd ?_)
            have hsu := plK_succ o.2 n i k
            rw [hmo] at hsu
            have hC := fn23 (o.2.getD k pt0) hP.1 hP.2 n (by omega) 20 (by decide)
            have hCl := ctB_le (o.2.getD k pt0) n 20
            unfold ptS at hC
            refine Draw.intro [[], [], [], [1, 2], [1, 2, 3], [1, 2, 3, 4], [], [1, 2, 3, 4, 5, 6], [1, 2, 3, 4, 5, 6, 7], [], [9], [9, 10], [9, 10, 11], [9, 10, 11, 12], [], [1, 2, 3, 4, 5, 6, 7, 8, 9, 10, 11, 12, 13, 14], [1, 2, 3, 4, 5, 6, 7, 8, 9, 10, 11, 12, 13, 14, 15], [0, 1, 2, 3, 4, 5, 6, 7, 8, 9, 10, 11, 12, 13, 14, 15, 16], [0, 1, 2, 3, 4, 5, 6, 7, 8, 9, 10, 11, 12, 13, 14, 15, 16, 17]] [0, 1, 2, 3, 4, 5, 6, 7, 8, 9, 10, 11, 12, 13, 14, 15, 16, 17, 18] (by kernel_rfl) ?_
            unfold ptF
            repeat (refine Side.intro (by repeat' (first | (show AllP _; first | exact trivial | refine AllP.app ?_ ?_ | refine AllP.appd ?_ ?_ | refine AllP.cons ?_ ?_) | with_reducible rfl | with_reducible assumption | omega | (simp only [Nat.zero_add, Int.toNat_natCast, ho, hm, rng, Ix.val, addQ_eq, addI, sz3, sz5, sz22, sz23, sz25, sz27, sz28, sz29, sz30, sz32, sz33, sz34, sz35, sz36, sz42, sz47, sz48, sz49, sz56, sz57, sz66, sz67, sz68, sz69, sz76, sz77, sz78] <;> omega) | (simp only [Nat.zero_add, Int.toNat_natCast, ho, hm, rng, Ix.val, Int.toNat_natCast, mulE_eq, addQ_eq, addI, Option.getD_none, Option.getD_some, List.length_take, List.length_drop, List.length_append, List.length_set, List.length_replicate, sz3, sz5, sz22, sz23, sz25, sz27, sz28, sz29, sz30, sz32, sz33, sz34, sz35, sz36, sz42, sz47, sz48, sz49, sz56, sz57, sz66, sz67, sz68, sz69, sz76, sz77, sz78, *] <;> omega) | (simp only [Ix.val]; with_reducible assumption) | exact UInt8.toNat_lt _ | (apply Eq.trans; (with_reducible assumption); exact rfl) | exact rfl | exact fun _ _ => rfl)) ?_)
            refine Call.intro hC [(1001, (302, 0, none))] rfl (by repeat' (first | (show AllP _; first | exact trivial | refine AllP.app ?_ ?_ | refine AllP.appd ?_ ?_ | refine AllP.cons ?_ ?_) | with_reducible rfl | with_reducible assumption | omega | (simp only [Nat.zero_add, Int.toNat_natCast, ho, hm, rng, Ix.val, addQ_eq, addI, sz3, sz5, sz22, sz23, sz25, sz27, sz28, sz29, sz30, sz32, sz33, sz34, sz35, sz36, sz42, sz47, sz48, sz49, sz56, sz57, sz66, sz67, sz68, sz69, sz76, sz77, sz78] <;> omega) | (simp only [Nat.zero_add, Int.toNat_natCast, ho, hm, rng, Ix.val, Int.toNat_natCast, mulE_eq, addQ_eq, addI, Option.getD_none, Option.getD_some, List.length_take, List.length_drop, List.length_append, List.length_set, List.length_replicate, sz3, sz5, sz22, sz23, sz25, sz27, sz28, sz29, sz30, sz32, sz33, sz34, sz35, sz36, sz42, sz47, sz48, sz49, sz56, sz57, sz66, sz67, sz68, sz69, sz76, sz77, sz78, *] <;> omega) | (simp only [Ix.val]; with_reducible assumption) | exact UInt8.toNat_lt _ | (apply Eq.trans; (with_reducible assumption); exact rfl) | exact rfl | exact fun _ _ => rfl)) rfl trivial rfl ?_
            rintro v M' ⟨N, cN, hN, hNc, rfl, rfl⟩
            dsimp only [putT, afterM, newEnt, ren, renA, renS, renL, look, getM, getT, ev, evL, ofVal, cond_true, cond_false, Nat.beq_eq, act, isPar, ownPar, Ent.isOwn]
            have hCN : N ≤ 5128 := by omega
            refine fun c2 hc5 => ?_
            have hc5 : k + 1 ≤ c2 := hc5
            repeat (refine Side.intro (by repeat' (first | (show AllP _; first | exact trivial | refine AllP.app ?_ ?_ | refine AllP.appd ?_ ?_ | refine AllP.cons ?_ ?_) | with_reducible rfl | with_reducible assumption | omega | (simp only [Nat.zero_add, Int.toNat_natCast, ho, hm, rng, Ix.val, addQ_eq, addI, sz3, sz5, sz22, sz23, sz25, sz27, sz28, sz29, sz30, sz32, sz33, sz34, sz35, sz36, sz42, sz47, sz48, sz49, sz56, sz57, sz66, sz67, sz68, sz69, sz76, sz77, sz78] <;> omega) | (simp only [Nat.zero_add, Int.toNat_natCast, ho, hm, rng, Ix.val, Int.toNat_natCast, mulE_eq, addQ_eq, addI, Option.getD_none, Option.getD_some, List.length_take, List.length_drop, List.length_append, List.length_set, List.length_replicate, sz3, sz5, sz22, sz23, sz25, sz27, sz28, sz29, sz30, sz32, sz33, sz34, sz35, sz36, sz42, sz47, sz48, sz49, sz56, sz57, sz66, sz67, sz68, sz69, sz76, sz77, sz78, *] <;> omega) | (simp only [Ix.val]; with_reducible assumption) | exact UInt8.toNat_lt _ | (apply Eq.trans; (with_reducible assumption); exact rfl) | exact rfl | exact fun _ _ => rfl)) ?_)
            refine ⟨(k + 1, c2), ⟨by show k + 1 ≤ m; omega, by show k + 1 ≤ 66; omega, hc5⟩, by show m - (k + 1) < m - k; omega, Le.intro [(208, (62, 0, none))] rfl ?_ rfl ?_ rfl⟩
            · exact fcn
            · repeat' (first | (show AllP _; first | exact trivial | refine AllP.app ?_ ?_ | refine AllP.appd ?_ ?_ | refine AllP.cons ?_ ?_) | with_reducible rfl | with_reducible assumption | omega | (simp only [Nat.zero_add, Int.toNat_natCast, rng, Ix.val, addQ_eq, addI, sz3, sz5, sz22, sz23, sz25, sz27, sz28, sz29, sz30, sz32, sz33, sz34, sz35, sz36, sz42, sz47, sz48, sz49, sz56, sz57, sz66, sz67, sz68, sz69, sz76, sz77, sz78] <;> omega) | (simp only [Nat.zero_add, Int.toNat_natCast, rng, Ix.val, Int.toNat_natCast, mulE_eq, addQ_eq, addI, Option.getD_none, Option.getD_some, List.length_take, List.length_drop, List.length_append, List.length_set, List.length_replicate, sz3, sz5, sz22, sz23, sz25, sz27, sz28, sz29, sz30, sz32, sz33, sz34, sz35, sz36, sz42, sz47, sz48, sz49, sz56, sz57, sz66, sz67, sz68, sz69, sz76, sz77, sz78, *] <;> omega) | (simp only [Ix.val]; with_reducible assumption) | exact UInt8.toNat_lt _ | (apply Eq.trans; (with_reducible assumption); exact rfl) | exact rfl | exact fun _ _ => rfl)
              rw [hsu]
              refine appF_row (fun q hq => rwF_lt (by rw [plK_length]; exact hq)) ?_
              have := rwF_at (plK o.2 n i k) (ctB (o.2.getD k pt0) n 20)
              rw [plK_length, hN, Nat.mul_one] at this
              exact this
          · refine Branch.intro (fun hd4 => ?_) (fun hd4 => ?_)
            · have hmo : moK i k = 20 := by unfold moK; rw [if_neg]; have hd4 : (i : Int) > 20 := hd4; omega
              repeat (refine sd ?_)
              have hsu := plK_succ o.2 n i k
              rw [hmo] at hsu
              have hC := fn23 (o.2.getD k pt0) hP.1 hP.2 n (by omega) 20 (by decide)
              have hCl := ctB_le (o.2.getD k pt0) n 20
              unfold ptS at hC
              refine Draw.intro [[], [], [], [1, 2], [1, 2, 3], [1, 2, 3, 4], [], [1, 2, 3, 4, 5, 6], [1, 2, 3, 4, 5, 6, 7], [], [9], [9, 10], [9, 10, 11], [9, 10, 11, 12], [], [1, 2, 3, 4, 5, 6, 7, 8, 9, 10, 11, 12, 13, 14], [1, 2, 3, 4, 5, 6, 7, 8, 9, 10, 11, 12, 13, 14, 15], [0, 1, 2, 3, 4, 5, 6, 7, 8, 9, 10, 11, 12, 13, 14, 15, 16], [0, 1, 2, 3, 4, 5, 6, 7, 8, 9, 10, 11, 12, 13, 14, 15, 16, 17]] [0, 1, 2, 3, 4, 5, 6, 7, 8, 9, 10, 11, 12, 13, 14, 15, 16, 17, 18] (by kernel_rfl) ?_
              unfold ptF
              repeat (refine Side.intro (by repeat' (first | (show AllP _; first | exact trivial | refine AllP.app ?_ ?_ | refine AllP.appd ?_ ?_ | refine AllP.cons ?_ ?_) | with_reducible rfl | with_reducible assumption | omega | (simp only [Nat.zero_add, Int.toNat_natCast, ho, hm, rng, Ix.val, addQ_eq, addI, sz3, sz5, sz22, sz23, sz25, sz27, sz28, sz29, sz30, sz32, sz33, sz34, sz35, sz36, sz42, sz47, sz48, sz49, sz56, sz57, sz66, sz67, sz68, sz69, sz76, sz77, sz78] <;> omega) | (simp only [Nat.zero_add, Int.toNat_natCast, ho, hm, rng, Ix.val, Int.toNat_natCast, mulE_eq, addQ_eq, addI, Option.getD_none, Option.getD_some, List.length_take, List.length_drop, List.length_append, List.length_set, List.length_replicate, sz3, sz5, sz22, sz23, sz25, sz27, sz28, sz29, sz30, sz32, sz33, sz34, sz35, sz36, sz42, sz47, sz48, sz49, sz56, sz57, sz66, sz67, sz68, sz69, sz76, sz77, sz78, *] <;> omega) | (simp only [Ix.val]; with_reducible assumption) | exact UInt8.toNat_lt _ | (apply Eq.trans; (with_reducible assumption); exact rfl) | exact rfl | exact fun _ _ => rfl)) ?_)
              refine Call.intro hC [(1001, (302, 0, none))] rfl (by repeat' (first | (show AllP _; first | exact trivial | refine AllP.app ?_ ?_ | refine AllP.appd ?_ ?_ | refine AllP.cons ?_ ?_) | with_reducible rfl | with_reducible assumption | omega | (simp only [Nat.zero_add, Int.toNat_natCast, ho, hm, rng, Ix.val, addQ_eq, addI, sz3, sz5, sz22, sz23, sz25, sz27, sz28, sz29, sz30, sz32, sz33, sz34, sz35, sz36, sz42, sz47, sz48, sz49, sz56, sz57, sz66, sz67, sz68, sz69, sz76, sz77, sz78] <;> omega) | (simp only [Nat.zero_add, Int.toNat_natCast, ho, hm, rng, Ix.val, Int.toNat_natCast, mulE_eq, addQ_eq, addI, Option.getD_none, Option.getD_some, List.length_take, List.length_drop, List.length_append, List.length_set, List.length_replicate, sz3, sz5, sz22, sz23, sz25, sz27, sz28, sz29, sz30, sz32, sz33, sz34, sz35, sz36, sz42, sz47, sz48, sz49, sz56, sz57, sz66, sz67, sz68, sz69, sz76, sz77, sz78, *] <;> omega) | (simp only [Ix.val]; with_reducible assumption) | exact UInt8.toNat_lt _ | (apply Eq.trans; (with_reducible assumption); exact rfl) | exact rfl | exact fun _ _ => rfl)) rfl trivial rfl ?_
              rintro v M' ⟨N, cN, hN, hNc, rfl, rfl⟩
              dsimp only [putT, afterM, newEnt, ren, renA, renS, renL, look, getM, getT, ev, evL, ofVal, cond_true, cond_false, Nat.beq_eq, act, isPar, ownPar, Ent.isOwn]
              have hCN : N ≤ 5128 := by omega
              refine fun c2 hc5 => ?_
              have hc5 : k + 1 ≤ c2 := hc5
              repeat (refine Side.intro (by repeat' (first | (show AllP _; first | exact trivial | refine AllP.app ?_ ?_ | refine AllP.appd ?_ ?_ | refine AllP.cons ?_ ?_) | with_reducible rfl | with_reducible assumption | omega | (simp only [Nat.zero_add, Int.toNat_natCast, ho, hm, rng, Ix.val, addQ_eq, addI, sz3, sz5, sz22, sz23, sz25, sz27, sz28, sz29, sz30, sz32, sz33, sz34, sz35, sz36, sz42, sz47, sz48, sz49, sz56, sz57, sz66, sz67, sz68, sz69, sz76, sz77, sz78] <;> omega) | (simp only [Nat.zero_add, Int.toNat_natCast, ho, hm, rng, Ix.val, Int.toNat_natCast, mulE_eq, addQ_eq, addI, Option.getD_none, Option.getD_some, List.length_take, List.length_drop, List.length_append, List.length_set, List.length_replicate, sz3, sz5, sz22, sz23, sz25, sz27, sz28, sz29, sz30, sz32, sz33, sz34, sz35, sz36, sz42, sz47, sz48, sz49, sz56, sz57, sz66, sz67, sz68, sz69, sz76, sz77, sz78, *] <;> omega) | (simp only [Ix.val]; with_reducible assumption) | exact UInt8.toNat_lt _ | (apply Eq.trans; (with_reducible assumption); exact rfl) | exact rfl | exact fun _ _ => rfl)) ?_)
              refine ⟨(k + 1, c2), ⟨by show k + 1 ≤ m; omega, by show k + 1 ≤ 66; omega, hc5⟩, by show m - (k + 1) < m - k; omega, Le.intro [(208, (62, 0, none))] rfl ?_ rfl ?_ rfl⟩
              · exact fcn
              · repeat' (first | (show AllP _; first | exact trivial | refine AllP.app ?_ ?_ | refine AllP.appd ?_ ?_ | refine AllP.cons ?_ ?_) | with_reducible rfl | with_reducible assumption | omega | (simp only [Nat.zero_add, Int.toNat_natCast, rng, Ix.val, addQ_eq, addI, sz3, sz5, sz22, sz23, sz25, sz27, sz28, sz29, sz30, sz32, sz33, sz34, sz35, sz36, sz42, sz47, sz48, sz49, sz56, sz57, sz66, sz67, sz68, sz69, sz76, sz77, sz78] <;> omega) | (simp only [Nat.zero_add, Int.toNat_natCast, rng, Ix.val, Int.toNat_natCast, mulE_eq, addQ_eq, addI, Option.getD_none, Option.getD_some, List.length_take, List.length_drop, List.length_append, List.length_set, List.length_replicate, sz3, sz5, sz22, sz23, sz25, sz27, sz28, sz29, sz30, sz32, sz33, sz34, sz35, sz36, sz42, sz47, sz48, sz49, sz56, sz57, sz66, sz67, sz68, sz69, sz76, sz77, sz78, *] <;> omega) | (simp only [Ix.val]; with_reducible assumption) | exact UInt8.toNat_lt _ | (apply Eq.trans; (with_reducible assumption); exact rfl) | exact rfl | exact fun _ _ => rfl)
                rw [hsu]
                refine appF_row (fun q hq => rwF_lt (by rw [plK_length]; exact hq)) ?_
                have := rwF_at (plK o.2 n i k) (ctB (o.2.getD k pt0) n 20)
                rw [plK_length, hN, Nat.mul_one] at this
                exact this
            · have hmo : moK i k = 5000 := by
                unfold moK
                rw [if_pos]
                have hd3 : ¬ (k : Int) > 2 := hd3
                have hd4 : ¬ (i : Int) > 20 := hd4
                omega
              repeat (refine sd ?_)
              have hsu := plK_succ o.2 n i k
              rw [hmo] at hsu
              have hC := fn23 (o.2.getD k pt0) hP.1 hP.2 n (by omega) 5000 (by decide)
              have hCl := ctB_le (o.2.getD k pt0) n 5000
              unfold ptS at hC
              refine Draw.intro [[], [], [], [1, 2], [1, 2, 3], [1, 2, 3, 4], [], [1, 2, 3, 4, 5, 6], [1, 2, 3, 4, 5, 6, 7], [], [9], [9, 10], [9, 10, 11], [9, 10, 11, 12], [], [1, 2, 3, 4, 5, 6, 7, 8, 9, 10, 11, 12, 13, 14], [1, 2, 3, 4, 5, 6, 7, 8, 9, 10, 11, 12, 13, 14, 15], [0, 1, 2, 3, 4, 5, 6, 7, 8, 9, 10, 11, 12, 13, 14, 15, 16], [0, 1, 2, 3, 4, 5, 6, 7, 8, 9, 10, 11, 12, 13, 14, 15, 16, 17]] [0, 1, 2, 3, 4, 5, 6, 7, 8, 9, 10, 11, 12, 13, 14, 15, 16, 17, 18] (by kernel_rfl) ?_
              unfold ptF
              repeat (refine Side.intro (by repeat' (first | (show AllP _; first | exact trivial | refine AllP.app ?_ ?_ | refine AllP.appd ?_ ?_ | refine AllP.cons ?_ ?_) | with_reducible rfl | with_reducible assumption | omega | (simp only [Nat.zero_add, Int.toNat_natCast, ho, hm, rng, Ix.val, addQ_eq, addI, sz3, sz5, sz22, sz23, sz25, sz27, sz28, sz29, sz30, sz32, sz33, sz34, sz35, sz36, sz42, sz47, sz48, sz49, sz56, sz57, sz66, sz67, sz68, sz69, sz76, sz77, sz78] <;> omega) | (simp only [Nat.zero_add, Int.toNat_natCast, ho, hm, rng, Ix.val, Int.toNat_natCast, mulE_eq, addQ_eq, addI, Option.getD_none, Option.getD_some, List.length_take, List.length_drop, List.length_append, List.length_set, List.length_replicate, sz3, sz5, sz22, sz23, sz25, sz27, sz28, sz29, sz30, sz32, sz33, sz34, sz35, sz36, sz42, sz47, sz48, sz49, sz56, sz57, sz66, sz67, sz68, sz69, sz76, sz77, sz78, *] <;> omega) | (simp only [Ix.val]; with_reducible assumption) | exact UInt8.toNat_lt _ | (apply Eq.trans; (with_reducible assumption); exact rfl) | exact rfl | exact fun _ _ => rfl)) ?_)
              refine Call.intro hC [(1001, (302, 0, none))] rfl (by repeat' (first | (show AllP _; first | exact trivial | refine AllP.app ?_ ?_ | refine AllP.appd ?_ ?_ | refine AllP.cons ?_ ?_) | with_reducible rfl | with_reducible assumption | omega | (simp only [Nat.zero_add, Int.toNat_natCast, ho, hm, rng, Ix.val, addQ_eq, addI, sz3, sz5, sz22, sz23, sz25, sz27, sz28, sz29, sz30, sz32, sz33, sz34, sz35, sz36, sz42, sz47, sz48, sz49, sz56, sz57, sz66, sz67, sz68, sz69, sz76, sz77, sz78] <;> omega) | (simp only [Nat.zero_add, Int.toNat_natCast, ho, hm, rng, Ix.val, Int.toNat_natCast, mulE_eq, addQ_eq, addI, Option.getD_none, Option.getD_some, List.length_take, List.length_drop, List.length_append, List.length_set, List.length_replicate, sz3, sz5, sz22, sz23, sz25, sz27, sz28, sz29, sz30, sz32, sz33, sz34, sz35, sz36, sz42, sz47, sz48, sz49, sz56, sz57, sz66, sz67, sz68, sz69, sz76, sz77, sz78, *] <;> omega) | (simp only [Ix.val]; with_reducible assumption) | exact UInt8.toNat_lt _ | (apply Eq.trans; (with_reducible assumption); exact rfl) | exact rfl | exact fun _ _ => rfl)) rfl trivial rfl ?_
              rintro v M' ⟨N, cN, hN, hNc, rfl, rfl⟩
              dsimp only [putT, afterM, newEnt, ren, renA, renS, renL, look, getM, getT, ev, evL, ofVal, cond_true, cond_false, Nat.beq_eq, act, isPar, ownPar, Ent.isOwn]
              have hCN : N ≤ 5128 := by omega
              refine fun c2 hc5 => ?_
              have hc5 : k + 1 ≤ c2 := hc5
              repeat (refine Side.intro (by repeat' (first | (show AllP _; first | exact trivial | refine AllP.app ?_ ?_ | refine AllP.appd ?_ ?_ | refine AllP.cons ?_ ?_) | with_reducible rfl | with_reducible assumption | omega | (simp only [Nat.zero_add, Int.toNat_natCast, ho, hm, rng, Ix.val, addQ_eq, addI, sz3, sz5, sz22, sz23, sz25, sz27, sz28, sz29, sz30, sz32, sz33, sz34, sz35, sz36, sz42, sz47, sz48, sz49, sz56, sz57, sz66, sz67, sz68, sz69, sz76, sz77, sz78] <;> omega) | (simp only [Nat.zero_add, Int.toNat_natCast, ho, hm, rng, Ix.val, Int.toNat_natCast, mulE_eq, addQ_eq, addI, Option.getD_none, Option.getD_some, List.length_take, List.length_drop, List.length_append, List.length_set, List.length_replicate, sz3, sz5, sz22, sz23, sz25, sz27, sz28, sz29, sz30, sz32, sz33, sz34, sz35, sz36, sz42, sz47, sz48, sz49, sz56, sz57, sz66, sz67, sz68, sz69, sz76, sz77, sz78, *] <;> omega) | (simp only [Ix.val]; with_reducible assumption) | exact UInt8.toNat_lt _ | (apply Eq.trans; (with_reducible assumption); exact rfl) | exact rfl | exact fun _ _ => rfl)) ?_)
              refine ⟨(k + 1, c2), ⟨by show k + 1 ≤ m; omega, by show k + 1 ≤ 66; omega, hc5⟩, by show m - (k + 1) < m - k; omega, Le.intro [(208, (62, 0, none))] rfl ?_ rfl ?_ rfl⟩
              · exact fcn
              · repeat' (first | (show AllP _; first | exact trivial | refine AllP.app ?_ ?_ | refine AllP.appd ?_ ?_ | refine AllP.cons ?_ ?_) | with_reducible rfl | with_reducible assumption | omega | (simp only [Nat.zero_add, Int.toNat_natCast, rng, Ix.val, addQ_eq, addI, sz3, sz5, sz22, sz23, sz25, sz27, sz28, sz29, sz30, sz32, sz33, sz34, sz35, sz36, sz42, sz47, sz48, sz49, sz56, sz57, sz66, sz67, sz68, sz69, sz76, sz77, sz78] <;> omega) | (simp only [Nat.zero_add, Int.toNat_natCast, rng, Ix.val, Int.toNat_natCast, mulE_eq, addQ_eq, addI, Option.getD_none, Option.getD_some, List.length_take, List.length_drop, List.length_append, List.length_set, List.length_replicate, sz3, sz5, sz22, sz23, sz25, sz27, sz28, sz29, sz30, sz32, sz33, sz34, sz35, sz36, sz42, sz47, sz48, sz49, sz56, sz57, sz66, sz67, sz68, sz69, sz76, sz77, sz78, *] <;> omega) | (simp only [Ix.val]; with_reducible assumption) | exact UInt8.toNat_lt _ | (apply Eq.trans; (with_reducible assumption); exact rfl) | exact rfl | exact fun _ _ => rfl)
                rw [hsu]
                refine appF_row (fun q hq => rwF_lt (by rw [plK_length]; exact hq)) ?_
                have := rwF_at (plK o.2 n i k) (ctB (o.2.getD k pt0) n 5000)
                rw [plK_length, hN, Nat.mul_one] at this
                exact this
        · have hd2 : ¬ (k : Int) < 66 := hd2
          have hop2 : opT o n i = (o.1, plK o.2 n i k) := by unfold opT; rw [show min o.2.length 66 = k by omega]
          have hsu := plT_succ l i
          rw [ho, hn, hop2] at hsu
          have hkl := plK_length o.2 n i k
          have hkle := plK_le o.2 n i k
          have hval := plT_valid l i
          have hML := mkT_len (plT l i) (o.1, plK o.2 n i k)
          have hMt := fn16 (plT l i) n c hn (by omega) hnc hval o.1 (plK o.2 n i k) k hkl (by omega) (fun x h => by have := hkle x h; omega)
          have hMw := fn24 (plT l i) n d hn (by omega) hnd (fun x h => by have := (hval x h).1.1; omega) o.1 (plK o.2 n i k) k hkl (by omega) (fun x h => by have := hkle x h; omega)
          have hkyl := kyB_length (mkT (plT l i) (o.1, plK o.2 n i k)).2
          rw [← hsu] at hMt hMw hML
          generalize (mkT (plT l i) (o.1, plK o.2 n i k)).2 = oo at hMt hMw hkyl
          unfold MT at hMt
          unfold M12 at hMw
          repeat (refine Side.intro (by repeat' (first | (show AllP _; first | exact trivial | refine AllP.app ?_ ?_ | refine AllP.appd ?_ ?_ | refine AllP.cons ?_ ?_) | with_reducible rfl | with_reducible assumption | omega | (simp only [Nat.zero_add, Int.toNat_natCast, ho, hm, rng, Ix.val, addQ_eq, addI, sz3, sz5, sz22, sz23, sz25, sz27, sz28, sz29, sz30, sz32, sz33, sz34, sz35, sz36, sz42, sz47, sz48, sz49, sz56, sz57, sz66, sz67, sz68, sz69, sz76, sz77, sz78] <;> omega) | (simp only [Nat.zero_add, Int.toNat_natCast, ho, hm, rng, Ix.val, Int.toNat_natCast, mulE_eq, addQ_eq, addI, Option.getD_none, Option.getD_some, List.length_take, List.length_drop, List.length_append, List.length_set, List.length_replicate, sz3, sz5, sz22, sz23, sz25, sz27, sz28, sz29, sz30, sz32, sz33, sz34, sz35, sz36, sz42, sz47, sz48, sz49, sz56, sz57, sz66, sz67, sz68, sz69, sz76, sz77, sz78, *] <;> omega) | (simp only [Ix.val]; with_reducible assumption) | exact UInt8.toNat_lt _ | (apply Eq.trans; (with_reducible assumption); exact rfl) | exact rfl | exact fun _ _ => rfl)) ?_)
          refine Call.intro hMt [(1000, (1000, 0, none)), (1001, (205, 0, none)), (1002, (1002, 0, none)), (1003, (208, 0, none)), (1005, (305, 0, none))] rfl (by repeat' (first | (show AllP _; first | exact trivial | refine AllP.app ?_ ?_ | refine AllP.appd ?_ ?_ | refine AllP.cons ?_ ?_) | with_reducible rfl | with_reducible assumption | omega | (simp only [Nat.zero_add, Int.toNat_natCast, ho, hm, rng, Ix.val, addQ_eq, addI, sz3, sz5, sz22, sz23, sz25, sz27, sz28, sz29, sz30, sz32, sz33, sz34, sz35, sz36, sz42, sz47, sz48, sz49, sz56, sz57, sz66, sz67, sz68, sz69, sz76, sz77, sz78] <;> omega) | (simp only [Nat.zero_add, Int.toNat_natCast, ho, hm, rng, Ix.val, Int.toNat_natCast, mulE_eq, addQ_eq, addI, Option.getD_none, Option.getD_some, List.length_take, List.length_drop, List.length_append, List.length_set, List.length_replicate, sz3, sz5, sz22, sz23, sz25, sz27, sz28, sz29, sz30, sz32, sz33, sz34, sz35, sz36, sz42, sz47, sz48, sz49, sz56, sz57, sz66, sz67, sz68, sz69, sz76, sz77, sz78, *] <;> omega) | (simp only [Ix.val]; with_reducible assumption) | exact UInt8.toNat_lt _ | (apply Eq.trans; (with_reducible assumption); exact rfl) | exact rfl | exact fun _ _ => rfl)) rfl fc rfl ?_
          rintro v M' ⟨n', c', hn', hnc', rfl, rfl⟩
          dsimp only [putT, afterM, newEnt, ren, renA, renS, renL, look, getM, getT, ev, evL, ofVal, cond_true, cond_false, Nat.beq_eq, act, isPar, ownPar, Ent.isOwn]
          repeat (refine Side.intro (by repeat' (first | (show AllP _; first | exact trivial | refine AllP.app ?_ ?_ | refine AllP.appd ?_ ?_ | refine AllP.cons ?_ ?_) | with_reducible rfl | with_reducible assumption | omega | (simp only [Nat.zero_add, Int.toNat_natCast, ho, hm, rng, Ix.val, addQ_eq, addI, sz3, sz5, sz22, sz23, sz25, sz27, sz28, sz29, sz30, sz32, sz33, sz34, sz35, sz36, sz42, sz47, sz48, sz49, sz56, sz57, sz66, sz67, sz68, sz69, sz76, sz77, sz78] <;> omega) | (simp only [Nat.zero_add, Int.toNat_natCast, ho, hm, rng, Ix.val, Int.toNat_natCast, mulE_eq, addQ_eq, addI, Option.getD_none, Option.getD_some, List.length_take, List.length_drop, List.length_append, List.length_set, List.length_replicate, sz3, sz5, sz22, sz23, sz25, sz27, sz28, sz29, sz30, sz32, sz33, sz34, sz35, sz36, sz42, sz47, sz48, sz49, sz56, sz57, sz66, sz67, sz68, sz69, sz76, sz77, sz78, *] <;> omega) | (simp only [Ix.val]; with_reducible assumption) | exact UInt8.toNat_lt _ | (apply Eq.trans; (with_reducible assumption); exact rfl) | exact rfl | exact fun _ _ => rfl)) ?_)
          refine Call.intro hMw [(1000, (1010, 0, none)), (1001, (215, 0, none)), (1003, (208, 0, none)), (1005, (315, 0, none))] rfl (by repeat' (first | (show AllP _; first | exact trivial | refine AllP.app ?_ ?_ | refine AllP.appd ?_ ?_ | refine AllP.cons ?_ ?_) | with_reducible rfl | with_reducible assumption | omega | (simp only [Nat.zero_add, Int.toNat_natCast, ho, hm, rng, Ix.val, addQ_eq, addI, sz3, sz5, sz22, sz23, sz25, sz27, sz28, sz29, sz30, sz32, sz33, sz34, sz35, sz36, sz42, sz47, sz48, sz49, sz56, sz57, sz66, sz67, sz68, sz69, sz76, sz77, sz78] <;> omega) | (simp only [Nat.zero_add, Int.toNat_natCast, ho, hm, rng, Ix.val, Int.toNat_natCast, mulE_eq, addQ_eq, addI, Option.getD_none, Option.getD_some, List.length_take, List.length_drop, List.length_append, List.length_set, List.length_replicate, sz3, sz5, sz22, sz23, sz25, sz27, sz28, sz29, sz30, sz32, sz33, sz34, sz35, sz36, sz42, sz47, sz48, sz49, sz56, sz57, sz66, sz67, sz68, sz69, sz76, sz77, sz78, *] <;> omega) | (simp only [Ix.val]; with_reducible assumption) | exact UInt8.toNat_lt _ | (apply Eq.trans; (with_reducible assumption); exact rfl) | exact rfl | exact fun _ _ => rfl)) rfl fc rfl ?_
          rintro v M' ⟨n2, d', hn2, hnd', rfl, rfl⟩
          obtain rfl : n2 = n' := by rw [← hn2, hn']
          dsimp only [putT, afterM, newEnt, ren, renA, renS, renL, look, getM, getT, ev, evL, ofVal, cond_true, cond_false, Nat.beq_eq, act, isPar, ownPar, Ent.isOwn]
          repeat (refine Side.intro (by repeat' (first | (show AllP _; first | exact trivial | refine AllP.app ?_ ?_ | refine AllP.appd ?_ ?_ | refine AllP.cons ?_ ?_) | with_reducible rfl | with_reducible assumption | omega | (simp only [Nat.zero_add, Int.toNat_natCast, ho, hm, rng, Ix.val, addQ_eq, addI, sz3, sz5, sz22, sz23, sz25, sz27, sz28, sz29, sz30, sz32, sz33, sz34, sz35, sz36, sz42, sz47, sz48, sz49, sz56, sz57, sz66, sz67, sz68, sz69, sz76, sz77, sz78] <;> omega) | (simp only [Nat.zero_add, Int.toNat_natCast, ho, hm, rng, Ix.val, Int.toNat_natCast, mulE_eq, addQ_eq, addI, Option.getD_none, Option.getD_some, List.length_take, List.length_drop, List.length_append, List.length_set, List.length_replicate, sz3, sz5, sz22, sz23, sz25, sz27, sz28, sz29, sz30, sz32, sz33, sz34, sz35, sz36, sz42, sz47, sz48, sz49, sz56, sz57, sz66, sz67, sz68, sz69, sz76, sz77, sz78, *] <;> omega) | (simp only [Ix.val]; with_reducible assumption) | exact UInt8.toNat_lt _ | (apply Eq.trans; (with_reducible assumption); exact rfl) | exact rfl | exact fun _ _ => rfl)) ?_)
          refine Draw.intro [[], [], [0, 1], [0, 1, 2], [0, 1, 2, 3], [0, 1, 2, 3], [0, 1, 2, 3, 4, 5], [0, 1, 2, 3, 4, 5, 6], [0, 1, 2, 3, 4, 5, 6, 7], [0, 1, 2, 3, 4, 5, 6, 7, 8], [0, 1, 2, 3, 4, 5, 6, 7, 8, 9], [0, 1, 2, 3, 4, 5, 6, 7, 8], [0, 1, 2, 3, 4, 5, 6, 7, 8, 11], [0, 1, 2, 3, 4, 5, 6, 7, 8, 11, 12], [0, 1, 2, 3, 4, 5, 6, 7, 8, 11, 12, 13], [0, 1, 2, 3, 4, 5, 6, 7, 8, 11, 12, 13, 14], [0, 1, 2, 3, 4, 5, 6, 7, 8, 9, 10, 11, 12, 13, 14, 15], [0, 1, 2, 3, 4, 5, 6, 7, 8, 9, 10, 11, 12, 13, 14, 15, 16]] [0, 1, 2, 3, 4, 5, 6, 7, 8, 9, 11, 12, 13, 14, 15, 10, 16, 17] (by kernel_rfl) ?_
          have h1 : ¬ ¬ (oo ≠ 0 ↔ oo ≠ 0) := fun h => h Iff.rfl
          have h2 : ¬ (¬ (oo ≠ 0 ↔ oo ≠ 0) ∧ True ∨ ¬ ¬ (oo ≠ 0 ↔ oo ≠ 0) ∧ ¬ kyB oo = kyB oo) := fun h => h.elim (fun h => h.1 Iff.rfl) (fun h => h.2 rfl)
          have hLn := fn22 n2
          repeat (first | (refine Branch.intro (fun _ => ?_) (fun hn => absurd rfl hn)) | (refine Branch.intro (fun hn => (by with_reducible exact False.elim hn)) (fun _ => ?_)) | (refine Branch.intro (fun _ => ?_) (fun hn => (by with_reducible exact absurd h1 hn))) | (refine Branch.intro (fun hn => (by with_reducible exact absurd hn h1)) (fun _ => ?_)) | (refine Branch.intro (fun _ => ?_) (fun hn => (by with_reducible exact absurd h2 hn))) | (refine Branch.intro (fun hn => (by with_reducible exact absurd hn h2)) (fun _ => ?_)) | (refine Side.intro (by repeat' (first | (show AllP _; first | exact trivial | refine AllP.app ?_ ?_ | refine AllP.appd ?_ ?_ | refine AllP.cons ?_ ?_) | with_reducible rfl | with_reducible assumption | omega | (simp only [Nat.zero_add, Int.toNat_natCast, ho, hm, rng, Ix.val, addQ_eq, addI, sz3, sz5, sz22, sz23, sz25, sz27, sz28, sz29, sz30, sz32, sz33, sz34, sz35, sz36, sz42, sz47, sz48, sz49, sz56, sz57, sz66, sz67, sz68, sz69, sz76, sz77, sz78] <;> omega) | (simp only [Nat.zero_add, Int.toNat_natCast, ho, hm, rng, Ix.val, Int.toNat_natCast, mulE_eq, addQ_eq, addI, Option.getD_none, Option.getD_some, List.length_take, List.length_drop, List.length_append, List.length_set, List.length_replicate, sz3, sz5, sz22, sz23, sz25, sz27, sz28, sz29, sz30, sz32, sz33, sz34, sz35, sz36, sz42, sz47, sz48, sz49, sz56, sz57, sz66, sz67, sz68, sz69, sz76, sz77, sz78, *] <;> omega) | (simp only [Ix.val]; with_reducible assumption) | exact UInt8.toNat_lt _ | (apply Eq.trans; (with_reducible assumption); exact rfl) | exact rfl | exact fun _ _ => rfl)) ?_))
          refine Call.intro hLn [(1000, (1000, 0, none)), (1001, (305, 0, none)), (1002, (1002, 0, none))] rfl (by repeat' (first | (show AllP _; first | exact trivial | refine AllP.app ?_ ?_ | refine AllP.appd ?_ ?_ | refine AllP.cons ?_ ?_) | with_reducible rfl | with_reducible assumption | omega | (simp only [Nat.zero_add, Int.toNat_natCast, ho, hm, rng, Ix.val, addQ_eq, addI, sz3, sz5, sz22, sz23, sz25, sz27, sz28, sz29, sz30, sz32, sz33, sz34, sz35, sz36, sz42, sz47, sz48, sz49, sz56, sz57, sz66, sz67, sz68, sz69, sz76, sz77, sz78] <;> omega) | (simp only [Nat.zero_add, Int.toNat_natCast, ho, hm, rng, Ix.val, Int.toNat_natCast, mulE_eq, addQ_eq, addI, Option.getD_none, Option.getD_some, List.length_take, List.length_drop, List.length_append, List.length_set, List.length_replicate, sz3, sz5, sz22, sz23, sz25, sz27, sz28, sz29, sz30, sz32, sz33, sz34, sz35, sz36, sz42, sz47, sz48, sz49, sz56, sz57, sz66, sz67, sz68, sz69, sz76, sz77, sz78, *] <;> omega) | (simp only [Ix.val]; with_reducible assumption) | exact UInt8.toNat_lt _ | (apply Eq.trans; (with_reducible assumption); exact rfl) | exact rfl | exact fun _ _ => rfl)) rfl fc rfl ?_
          rintro v M' ⟨rfl, rfl⟩
          refine Grow.intro [] rfl rfl ?_
          have h3 : ¬ ((¬ (oo ≠ 0 ↔ oo ≠ 0) ∧ True ∨ ¬ ¬ (oo ≠ 0 ↔ oo ≠ 0) ∧ ¬ kyB oo = kyB oo) ∧ True ∨ ¬ (¬ (oo ≠ 0 ↔ oo ≠ 0) ∧ True ∨ ¬ ¬ (oo ≠ 0 ↔ oo ≠ 0) ∧ ¬ kyB oo = kyB oo) ∧ (n2 : Int) ≠ n2) := fun h => h.elim (fun h => h2 h.1) (fun h => h.2 rfl)
          repeat (first | (refine Branch.intro (fun _ => ?_) (fun hn => absurd rfl hn)) | (refine Branch.intro (fun hn => (by with_reducible exact False.elim hn)) (fun _ => ?_)) | (refine Branch.intro (fun _ => ?_) (fun hn => (by with_reducible exact absurd h1 hn))) | (refine Branch.intro (fun hn => (by with_reducible exact absurd hn h1)) (fun _ => ?_)) | (refine Branch.intro (fun _ => ?_) (fun hn => (by with_reducible exact absurd h2 hn))) | (refine Branch.intro (fun hn => (by with_reducible exact absurd hn h2)) (fun _ => ?_)) | (refine Branch.intro (fun _ => ?_) (fun hn => (by with_reducible exact absurd h3 hn))) | (refine Branch.intro (fun hn => (by with_reducible exact absurd hn h3)) (fun _ => ?_)) | (refine Side.intro (by repeat' (first | (show AllP _; first | exact trivial | refine AllP.app ?_ ?_ | refine AllP.appd ?_ ?_ | refine AllP.cons ?_ ?_) | with_reducible rfl | with_reducible assumption | omega | (simp only [Nat.zero_add, Int.toNat_natCast, ho, hm, rng, Ix.val, addQ_eq, addI, sz3, sz5, sz22, sz23, sz25, sz27, sz28, sz29, sz30, sz32, sz33, sz34, sz35, sz36, sz42, sz47, sz48, sz49, sz56, sz57, sz66, sz67, sz68, sz69, sz76, sz77, sz78] <;> omega) | (simp only [Nat.zero_add, Int.toNat_natCast, ho, hm, rng, Ix.val, Int.toNat_natCast, mulE_eq, addQ_eq, addI, Option.getD_none, Option.getD_some, List.length_take, List.length_drop, List.length_append, List.length_set, List.length_replicate, sz3, sz5, sz22, sz23, sz25, sz27, sz28, sz29, sz30, sz32, sz33, sz34, sz35, sz36, sz42, sz47, sz48, sz49, sz56, sz57, sz66, sz67, sz68, sz69, sz76, sz77, sz78, *] <;> omega) | (simp only [Ix.val]; with_reducible assumption) | exact UInt8.toNat_lt _ | (apply Eq.trans; (with_reducible assumption); exact rfl) | exact rfl | exact fun _ _ => rfl)) ?_))
          refine ⟨(i + 1, n2, c', d'), ⟨by show i + 1 ≤ nl; omega, by show i + 1 ≤ 80; omega, hn', hnc', hnd'⟩, by show nl - (i + 1) < nl - i; omega, Le.intro [(205, (305, 0, none)), (215, (315, 0, none))] rfl ?_ rfl ?_ rfl⟩
          · exact fcn
          · exact fcn
      · have hd1 : ¬ (k : Int) < (l.getD (addQ 0 (Int.toNat (i : Int))) op0).2.length := hd1
        rw [addQ_eq, Nat.zero_add, Int.toNat_natCast, ho, hm] at hd1
        have hop2 : opT o n i = (o.1, plK o.2 n i k) := by unfold opT; rw [show min o.2.length 66 = k by omega]
        have hsu := plT_succ l i
        rw [ho, hn, hop2] at hsu
        have hkl := plK_length o.2 n i k
        have hkle := plK_le o.2 n i k
        have hval := plT_valid l i
        have hML := mkT_len (plT l i) (o.1, plK o.2 n i k)
        have hMt := fn16 (plT l i) n c hn (by omega) hnc hval o.1 (plK o.2 n i k) k hkl (by omega) (fun x h => by have := hkle x h; omega)
        have hMw := fn24 (plT l i) n d hn (by omega) hnd (fun x h => by have := (hval x h).1.1; omega) o.1 (plK o.2 n i k) k hkl (by omega) (fun x h => by have := hkle x h; omega)
        have hkyl := kyB_length (mkT (plT l i) (o.1, plK o.2 n i k)).2
        rw [← hsu] at hMt hMw hML
        generalize (mkT (plT l i) (o.1, plK o.2 n i k)).2 = oo at hMt hMw hkyl
        unfold MT at hMt
        unfold M12 at hMw
        repeat (refine Side.intro (by repeat' (first | (show AllP _; first | exact trivial | refine AllP.app ?_ ?_ | refine AllP.appd ?_ ?_ | refine AllP.cons ?_ ?_) | with_reducible rfl | with_reducible assumption | omega | (simp only [Nat.zero_add, Int.toNat_natCast, ho, hm, rng, Ix.val, addQ_eq, addI, sz3, sz5, sz22, sz23, sz25, sz27, sz28, sz29, sz30, sz32, sz33, sz34, sz35, sz36, sz42, sz47, sz48, sz49, sz56, sz57, sz66, sz67, sz68, sz69, sz76, sz77, sz78] <;> omega) | (simp only [Nat.zero_add, Int.toNat_natCast, ho, hm, rng, Ix.val, Int.toNat_natCast, mulE_eq, addQ_eq, addI, Option.getD_none, Option.getD_some, List.length_take, List.length_drop, List.length_append, List.length_set, List.length_replicate, sz3, sz5, sz22, sz23, sz25, sz27, sz28, sz29, sz30, sz32, sz33, sz34, sz35, sz36, sz42, sz47, sz48, sz49, sz56, sz57, sz66, sz67, sz68, sz69, sz76, sz77, sz78, *] <;> omega) | (simp only [Ix.val]; with_reducible assumption) | exact UInt8.toNat_lt _ | (apply Eq.trans; (with_reducible assumption); exact rfl) | exact rfl | exact fun _ _ => rfl)) ?_)
        refine Call.intro hMt [(1000, (1000, 0, none)), (1001, (205, 0, none)), (1002, (1002, 0, none)), (1003, (208, 0, none)), (1005, (305, 0, none))] rfl (by repeat' (first | (show AllP _; first | exact trivial | refine AllP.app ?_ ?_ | refine AllP.appd ?_ ?_ | refine AllP.cons ?_ ?_) | with_reducible rfl | with_reducible assumption | omega | (simp only [Nat.zero_add, Int.toNat_natCast, ho, hm, rng, Ix.val, addQ_eq, addI, sz3, sz5, sz22, sz23, sz25, sz27, sz28, sz29, sz30, sz32, sz33, sz34, sz35, sz36, sz42, sz47, sz48, sz49, sz56, sz57, sz66, sz67, sz68, sz69, sz76, sz77, sz78] <;> omega) | (simp only [Nat.zero_add, Int.toNat_natCast, ho, hm, rng, Ix.val, Int.toNat_natCast, mulE_eq, addQ_eq, addI, Option.getD_none, Option.getD_some, List.length_take, List.length_drop, List.length_append, List.length_set, List.length_replicate, sz3, sz5, sz22, sz23, sz25, sz27, sz28, sz29, sz30, sz32, sz33, sz34, sz35, sz36, sz42, sz47, sz48, sz49, sz56, sz57, sz66, sz67, sz68, sz69, sz76, sz77, sz78, *] <;> omega) | (simp only [Ix.val]; with_reducible assumption) | exact UInt8.toNat_lt _ | (apply Eq.trans; (with_reducible assumption); exact rfl) | exact rfl | exact fun _ _ => rfl)) rfl fc rfl ?_
        rintro v M' ⟨n', c', hn', hnc', rfl, rfl⟩
        dsimp only [putT, afterM, newEnt, ren, renA, renS, renL, look, getM, getT, ev, evL, ofVal, cond_true, cond_false, Nat.beq_eq, act, isPar, ownPar, Ent.isOwn]
        repeat (refine Side.intro (by repeat' (first | (show AllP _; first | exact trivial | refine AllP.app ?_ ?_ | refine AllP.appd ?_ ?_ | refine AllP.cons ?_ ?_) | with_reducible rfl | with_reducible assumption | omega | (simp only [Nat.zero_add, Int.toNat_natCast, ho, hm, rng, Ix.val, addQ_eq, addI, sz3, sz5, sz22, sz23, sz25, sz27, sz28, sz29, sz30, sz32, sz33, sz34, sz35, sz36, sz42, sz47, sz48, sz49, sz56, sz57, sz66, sz67, sz68, sz69, sz76, sz77, sz78] <;> omega) | (simp only [Nat.zero_add, Int.toNat_natCast, ho, hm, rng, Ix.val, Int.toNat_natCast, mulE_eq, addQ_eq, addI, Option.getD_none, Option.getD_some, List.length_take, List.length_drop, List.length_append, List.length_set, List.length_replicate, sz3, sz5, sz22, sz23, sz25, sz27, sz28, sz29, sz30, sz32, sz33, sz34, sz35, sz36, sz42, sz47, sz48, sz49, sz56, sz57, sz66, sz67, sz68, sz69, sz76, sz77, sz78, *] <;> omega) | (simp only [Ix.val]; with_reducible assumption) | exact UInt8.toNat_lt _ | (apply Eq.trans; (with_reducible assumption); exact rfl) | exact rfl | exact fun _ _ => rfl)) ?_)
        refine Call.intro hMw [(1000, (1010, 0, none)), (1001, (215, 0, none)), (1003, (208, 0, none)), (1005, (315, 0, none))] rfl (by repeat' (first | (show AllP _; first | exact trivial | refine AllP.app ?_ ?_ | refine AllP.appd ?_ ?_ | refine AllP.cons ?_ ?_) | with_reducible rfl | with_reducible assumption | omega | (simp only [Nat.zero_add, Int.toNat_natCast, ho, hm, rng, Ix.val, addQ_eq, addI, sz3, sz5, sz22, sz23, sz25, sz27, sz28, sz29, sz30, sz32, sz33, sz34, sz35, sz36, sz42, sz47, sz48, sz49, sz56, sz57, sz66, sz67, sz68, sz69, sz76, sz77, sz78] <;> omega) | (simp only [Nat.zero_add, Int.toNat_natCast, ho, hm, rng, Ix.val, Int.toNat_natCast, mulE_eq, addQ_eq, addI, Option.getD_none, Option.getD_some, List.length_take, List.length_drop, List.length_append, List.length_set, List.length_replicate, sz3, sz5, sz22, sz23, sz25, sz27, sz28, sz29, sz30, sz32, sz33, sz34, sz35, sz36, sz42, sz47, sz48, sz49, sz56, sz57, sz66, sz67, sz68, sz69, sz76, sz77, sz78, *] <;> omega) | (simp only [Ix.val]; with_reducible assumption) | exact UInt8.toNat_lt _ | (apply Eq.trans; (with_reducible assumption); exact rfl) | exact rfl | exact fun _ _ => rfl)) rfl fc rfl ?_
        rintro v M' ⟨n2, d', hn2, hnd', rfl, rfl⟩
        obtain rfl : n2 = n' := by rw [← hn2, hn']
        dsimp only [putT, afterM, newEnt, ren, renA, renS, renL, look, getM, getT, ev, evL, ofVal, cond_true, cond_false, Nat.beq_eq, act, isPar, ownPar, Ent.isOwn]
        repeat (refine Side.intro (by repeat' (first | (show AllP _; first | exact trivial | refine AllP.app ?_ ?_ | refine AllP.appd ?_ ?_ | refine AllP.cons ?_ ?_) | with_reducible rfl | with_reducible assumption | omega | (simp only [Nat.zero_add, Int.toNat_natCast, ho, hm, rng, Ix.val, addQ_eq, addI, sz3, sz5, sz22, sz23, sz25, sz27, sz28, sz29, sz30, sz32, sz33, sz34, sz35, sz36, sz42, sz47, sz48, sz49, sz56, sz57, sz66, sz67, sz68, sz69, sz76, sz77, sz78] <;> omega) | (simp only [Nat.zero_add, Int.toNat_natCast, ho, hm, rng, Ix.val, Int.toNat_natCast, mulE_eq, addQ_eq, addI, Option.getD_none, Option.getD_some, List.length_take, List.length_drop, List.length_append, List.length_set, List.length_replicate, sz3, sz5, sz22, sz23, sz25, sz27, sz28, sz29, sz30, sz32, sz33, sz34, sz35, sz36, sz42, sz47, sz48, sz49, sz56, sz57, sz66, sz67, sz68, sz69, sz76, sz77, sz78, *] <;> omega) | (simp only [Ix.val]; with_reducible assumption) | exact UInt8.toNat_lt _ | (apply Eq.trans; (with_reducible assumption); exact rfl) | exact rfl | exact fun _ _ => rfl)) ?_)
        refine Draw.intro [[], [], [0, 1], [0, 1, 2], [0, 1, 2, 3], [0, 1, 2, 3], [0, 1, 2, 3, 4, 5], [0, 1, 2, 3, 4, 5, 6], [0, 1, 2, 3, 4, 5, 6, 7], [0, 1, 2, 3, 4, 5, 6, 7, 8], [0, 1, 2, 3, 4, 5, 6, 7, 8, 9], [0, 1, 2, 3, 4, 5, 6, 7, 8], [0, 1, 2, 3, 4, 5, 6, 7, 8, 11], [0, 1, 2, 3, 4, 5, 6, 7, 8, 11, 12], [0, 1, 2, 3, 4, 5, 6, 7, 8, 11, 12, 13], [0, 1, 2, 3, 4, 5, 6, 7, 8, 11, 12, 13, 14], [0, 1, 2, 3, 4, 5, 6, 7, 8, 9, 10, 11, 12, 13, 14, 15], [0, 1, 2, 3, 4, 5, 6, 7, 8, 9, 10, 11, 12, 13, 14, 15, 16]] [0, 1, 2, 3, 4, 5, 6, 7, 8, 9, 11, 12, 13, 14, 15, 10, 16, 17] (by kernel_rfl) ?_
        have h1 : ¬ ¬ (oo ≠ 0 ↔ oo ≠ 0) := fun h => h Iff.rfl
        have h2 : ¬ (¬ (oo ≠ 0 ↔ oo ≠ 0) ∧ True ∨ ¬ ¬ (oo ≠ 0 ↔ oo ≠ 0) ∧ ¬ kyB oo = kyB oo) := fun h => h.elim (fun h => h.1 Iff.rfl) (fun h => h.2 rfl)
        have hLn := fn22 n2
        repeat (first | (refine Branch.intro (fun _ => ?_) (fun hn => absurd rfl hn)) | (refine Branch.intro (fun hn => (by with_reducible exact False.elim hn)) (fun _ => ?_)) | (refine Branch.intro (fun _ => ?_) (fun hn => (by with_reducible exact absurd h1 hn))) | (refine Branch.intro (fun hn => (by with_reducible exact absurd hn h1)) (fun _ => ?_)) | (refine Branch.intro (fun _ => ?_) (fun hn => (by with_reducible exact absurd h2 hn))) | (refine Branch.intro (fun hn => (by with_reducible exact absurd hn h2)) (fun _ => ?_)) | (refine Side.intro (by repeat' (first | (show AllP _; first | exact trivial | refine AllP.app ?_ ?_ | refine AllP.appd ?_ ?_ | refine AllP.cons ?_ ?_) | with_reducible rfl | with_reducible assumption | omega | (simp only [Nat.zero_add, Int.toNat_natCast, ho, hm, rng, Ix.val, addQ_eq, addI, sz3, sz5, sz22, sz23, sz25, sz27, sz28, sz29, sz30, sz32, sz33, sz34, sz35, sz36, sz42, sz47, sz48, sz49, sz56, sz57, sz66, sz67, sz68, sz69, sz76, sz77, sz78] <;> omega) | (simp only [Nat.zero_add, Int.toNat_natCast, ho, hm, rng, Ix.val, Int.toNat_natCast, mulE_eq, addQ_eq, addI, Option.getD_none, Option.getD_some, List.length_take, List.length_drop, List.length_append, List.length_set, List.length_replicate, sz3, sz5, sz22, sz23, sz25, sz27, sz28, sz29, sz30, sz32, sz33, sz34, sz35, sz36, sz42, sz47, sz48, sz49, sz56, sz57, sz66, sz67, sz68, sz69, sz76, sz77, sz78, *] <;> omega) | (simp only [Ix.val]; with_reducible assumption) | exact UInt8.toNat_lt _ | (apply Eq.trans; (with_reducible assumption); exact rfl) | exact rfl | exact fun _ _ => rfl)) ?_))
        refine Call.intro hLn [(1000, (1000, 0, none)), (1001, (305, 0, none)), (1002, (1002, 0, none))] rfl (by repeat' (first | (show AllP _; first | exact trivial | refine AllP.app ?_ ?_ | refine AllP.appd ?_ ?_ | refine AllP.cons ?_ ?_) | with_reducible rfl | with_reducible assumption | omega | (simp only [Nat.zero_add, Int.toNat_natCast, ho, hm, rng, Ix.val, addQ_eq, addI, sz3, sz5, sz22, sz23, sz25, sz27, sz28, sz29, sz30, sz32, sz33, sz34, sz35, sz36, sz42, sz47, sz48, sz49, sz56, sz57, sz66, sz67, sz68, sz69, sz76, sz77, sz78] <;> omega) | (simp only [Nat.zero_add, Int.toNat_natCast, ho, hm, rng, Ix.val, Int.toNat_natCast, mulE_eq, addQ_eq, addI, Option.getD_none, Option.getD_some, List.length_take, List.length_drop, List.length_append, List.length_set, List.length_replicate, sz3, sz5, sz22, sz23, sz25, sz27, sz28, sz29, sz30, sz32, sz33, sz34, sz35, sz36, sz42, sz47, sz48, sz49, sz56, sz57, sz66, sz67, sz68, sz69, sz76, sz77, sz78, *] <;> omega) | (simp only [Ix.val]; with_reducible assumption) | exact UInt8.toNat_lt _ | (apply Eq.trans; (with_reducible assumption); exact rfl) | exact rfl | exact fun _ _ => rfl)) rfl fc rfl ?_
        rintro v M' ⟨rfl, rfl⟩
        refine Grow.intro [] rfl rfl ?_
        have h3 : ¬ ((¬ (oo ≠ 0 ↔ oo ≠ 0) ∧ True ∨ ¬ ¬ (oo ≠ 0 ↔ oo ≠ 0) ∧ ¬ kyB oo = kyB oo) ∧ True ∨ ¬ (¬ (oo ≠ 0 ↔ oo ≠ 0) ∧ True ∨ ¬ ¬ (oo ≠ 0 ↔ oo ≠ 0) ∧ ¬ kyB oo = kyB oo) ∧ (n2 : Int) ≠ n2) := fun h => h.elim (fun h => h2 h.1) (fun h => h.2 rfl)
        repeat (first | (refine Branch.intro (fun _ => ?_) (fun hn => absurd rfl hn)) | (refine Branch.intro (fun hn => (by with_reducible exact False.elim hn)) (fun _ => ?_)) | (refine Branch.intro (fun _ => ?_) (fun hn => (by with_reducible exact absurd h1 hn))) | (refine Branch.intro (fun hn => (by with_reducible exact absurd hn h1)) (fun _ => ?_)) | (refine Branch.intro (fun _ => ?_) (fun hn => (by with_reducible exact absurd h2 hn))) | (refine Branch.intro (fun hn => (by with_reducible exact absurd hn h2)) (fun _ => ?_)) | (refine Branch.intro (fun _ => ?_) (fun hn => (by with_reducible exact absurd h3 hn))) | (refine Branch.intro (fun hn => (by with_reducible exact absurd hn h3)) (fun _ => ?_)) | (refine Side.intro (by repeat' (first | (show AllP _; first | exact trivial | refine AllP.app ?_ ?_ | refine AllP.appd ?_ ?_ | refine AllP.cons ?_ ?_) | with_reducible rfl | with_reducible assumption | omega | (simp only [Nat.zero_add, Int.toNat_natCast, ho, hm, rng, Ix.val, addQ_eq, addI, sz3, sz5, sz22, sz23, sz25, sz27, sz28, sz29, sz30, sz32, sz33, sz34, sz35, sz36, sz42, sz47, sz48, sz49, sz56, sz57, sz66, sz67, sz68, sz69, sz76, sz77, sz78] <;> omega) | (simp only [Nat.zero_add, Int.toNat_natCast, ho, hm, rng, Ix.val, Int.toNat_natCast, mulE_eq, addQ_eq, addI, Option.getD_none, Option.getD_some, List.length_take, List.length_drop, List.length_append, List.length_set, List.length_replicate, sz3, sz5, sz22, sz23, sz25, sz27, sz28, sz29, sz30, sz32, sz33, sz34, sz35, sz36, sz42, sz47, sz48, sz49, sz56, sz57, sz66, sz67, sz68, sz69, sz76, sz77, sz78, *] <;> omega) | (simp only [Ix.val]; with_reducible assumption) | exact UInt8.toNat_lt _ | (apply Eq.trans; (with_reducible assumption); exact rfl) | exact rfl | exact fun _ _ => rfl)) ?_))
        refine ⟨(i + 1, n2, c', d'), ⟨by show i + 1 ≤ nl; omega, by show i + 1 ≤ 80; omega, hn', hnc', hnd'⟩, by show nl - (i + 1) < nl - i; omega, Le.intro [(205, (305, 0, none)), (215, (315, 0, none))] rfl ?_ rfl ?_ rfl⟩
        · exact fcn
        · exact fcn
    · have hc2 : ¬ (i : Int) < 80 := hc2
      have hA : plA l = plT l i := by unfold plA; rw [show min l.length 80 = i by omega]
      repeat (refine sd ?_)
      refine Ret.intro .tt [(1000, .mem true 0 [(1, .sl 1005 0 0 n c), (1, .mp 1002)]), (1002, .map (.si (mpL (plA l)))), (1005, .mem true (mulE (c - n) 3) [(n * 3, .arr n 3 (ttF (plA l)))]),
              (1010, .mem true 0 [(1, .sl 1015 0 0 n d)]), (1015, .mem true (mulE (d - n) 2) [(n * 2, .arr n 2 (rtF (plA l)))])] [(1005, (205, 0, none)), (1015, (215, 0, none))] rfl ?_ ⟨n, c, d, by rw [hA]; exact hn, hnc, hnd, by omega, rfl, rfl⟩ rfl ?_ rfl ?_ rfl
      · exact fc
      · exact fc
      · repeat' (first | (show AllP _; first | exact trivial | refine AllP.app ?_ ?_ | refine AllP.appd ?_ ?_ | refine AllP.cons ?_ ?_) | with_reducible rfl | with_reducible assumption | omega | (simp only [rng, Ix.val, addQ_eq, addI, sz3, sz5, sz22, sz23, sz25, sz27, sz28, sz29, sz30, sz32, sz33, sz34, sz35, sz36, sz42, sz47, sz48, sz49, sz56, sz57, sz66, sz67, sz68, sz69, sz76, sz77, sz78] <;> omega) | (simp only [rng, Ix.val, Int.toNat_natCast, mulE_eq, addQ_eq, addI, Option.getD_none, Option.getD_some, List.length_take, List.length_drop, List.length_append, List.length_set, List.length_replicate, sz3, sz5, sz22, sz23, sz25, sz27, sz28, sz29, sz30, sz32, sz33, sz34, sz35, sz36, sz42, sz47, sz48, sz49, sz56, sz57, sz66, sz67, sz68, sz69, sz76, sz77, sz78, *] <;> omega) | (simp only [Ix.val]; with_reducible assumption) | exact UInt8.toNat_lt _ | (apply Eq.trans; (with_reducible assumption); exact rfl) | exact rfl | exact fun _ _ => rfl)
        all_goals (rw [hA]; try exact fun _ _ => rfl)
  · have hc1 : ¬ (i : Int) < nl := hc1
    have hA : plA l = plT l i := by unfold plA; rw [show min l.length 80 = i by omega]
    repeat (refine sd ?_)
    refine Ret.intro .tt [(1000, .mem true 0 [(1, .sl 1005 0 0 n c), (1, .mp 1002)]), (1002, .map (.si (mpL (plA l)))), (1005, .mem true (mulE (c - n) 3) [(n * 3, .arr n 3 (ttF (plA l)))]),
            (1010, .mem true 0 [(1, .sl 1015 0 0 n d)]), (1015, .mem true (mulE (d - n) 2) [(n * 2, .arr n 2 (rtF (plA l)))])] [(1005, (205, 0, none)), (1015, (215, 0, none))] rfl ?_ ⟨n, c, d, by rw [hA]; exact hn, hnc, hnd, by omega, rfl, rfl⟩ rfl ?_ rfl ?_ rfl
    · exact fc
    · exact fc
    · repeat' (first | (show AllP _; first | exact trivial | refine AllP.app ?_ ?_ | refine AllP.appd ?_ ?_ | refine AllP.cons ?_ ?_) | with_reducible rfl | with_reducible assumption | omega | (simp only [rng, Ix.val, addQ_eq, addI, sz3, sz5, sz22, sz23, sz25, sz27, sz28, sz29, sz30, sz32, sz33, sz34, sz35, sz36, sz42, sz47, sz48, sz49, sz56, sz57, sz66, sz67, sz68, sz69, sz76, sz77, sz78] <;> omega) | (simp only [rng, Ix.val, Int.toNat_natCast, mulE_eq, addQ_eq, addI, Option.getD_none, Option.getD_some, List.length_take, List.length_drop, List.length_append, List.length_set, List.length_replicate, sz3, sz5, sz22, sz23, sz25, sz27, sz28, sz29, sz30, sz32, sz33, sz34, sz35, sz36, sz42, sz47, sz48, sz49, sz56, sz57, sz66, sz67, sz68, sz69, sz76, sz77, sz78, *] <;> omega) | (simp only [Ix.val]; with_reducible assumption) | exact UInt8.toNat_lt _ | (apply Eq.trans; (with_reducible assumption); exact rfl) | exact rfl | exact fun _ _ => rfl)
      all_goals (rw [hA]; try exact fun _ _ => rfl)

end Go.Proofs.Ytoaaplgjacjlpaa
