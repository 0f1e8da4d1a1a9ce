/- What the functions of the program compute. No condition. -/
import Derived.Test.YtoaaplgjacjlpaaHwTm18ToTm18
import Derived.Test.YtoaaplgjacjlpaaHwTm21ToTm21
set_option linter.unusedSimpArgs false
set_option linter.unusedVariables false
namespace Go.Proofs.Ytoaaplgjacjlpaa
open Go Go.Sx

/-! law12.TermMore. -/

theorem plA_valid (l : List Opr) : ∀ x ∈ plA l, Valid x.1 x.2 := by unfold plA; exact plT_valid l _
theorem inL_name {z most : Nat} (h1 : 1 ≤ z) (h2 : z ≤ most) (h3 : most < 4294967296) : inL (nameB z) most 0 = [z] := by
  rw [inL_key (nameB_length z), numP_name h1 h2 h3, if_neg (by omega)]
theorem allName {K : Nat → Prop} {z most : Nat} (h1 : 1 ≤ z) (h2 : z ≤ most) (h3 : most < 4294967296) : AllK K (inL (nameB z) most 0) ↔ K z := by
  rw [inL_name h1 h2 h3]
  exact ⟨fun h => h z (by simp), fun h y hy => by obtain rfl : y = z := (by simpa using hy); exact h⟩
theorem allNone {K : Nat → Prop} {b : List UInt8} {most : Nat} (h : b.length < 32) : AllK K (inL b most 0) := by
  rw [inL_end (by omega)]
  intro z hz
  cases hz

/-- What is known was told, or is made of what is known. -/
theorem known_inv {T : List Te} {S : List (List UInt8)} {q : Nat} (h : KnP T S (q + 1)) : TdP T S (q + 1) ∨ mdP (KnP T S) q (T.getD q te0).1 (T.getD q te0).2 := by
  have hC : Closed T S (fun z => KnP T S z ∧ ∀ q, z = q + 1 → TdP T S (q + 1) ∨ mdP (KnP T S) q (T.getD q te0).1 (T.getD q te0).2) (TdP T S) :=
    ⟨(KnP_closed T S).seen, fun p hp hd => ⟨(KnP_closed T S).told p hp hd, fun q hq => (by obtain rfl : p = q := (by omega); exact Or.inl hd)⟩,
      fun p hp hm => by
        have hm2 := mdP_mono (K' := KnP T S) (fun z _ hz => hz.1) hm
        exact ⟨(KnP_closed T S).made p hp hm2, fun q hq => (by obtain rfl : p = q := (by omega); exact Or.inr hm2)⟩,
      fun p hp h8 hd hl hk => (KnP_closed T S).opens p hp h8 hd hl (hk.mono fun z _ hz => hz.1)⟩
  exact (h _ _ hC).2 q rfl
theorem more_known {T : List Te} {S : List (List UInt8)} {x : List UInt8} {z : Nat} (h : KnP T S z) : KnP T (S ++ [x]) z := fun K D hC => h K D
  ⟨fun j hj => by have := hC.seen j (by rw [List.length_append]; omega); rwa [getD_app_lt [] hj] at this, hC.told, hC.made, hC.opens⟩
theorem same_known {T : List Te} {S : List (List UInt8)} {x : List UInt8} (hx : AllK (KnP T S) (inL x T.length 0)) {z : Nat} (h : KnP T (S ++ [x]) z) : KnP T S z := by
  have told : ∀ y, 1 ≤ y → y ≤ T.length → TdP T S y → KnP T S y := fun y h1 h2 hd => by
    obtain ⟨q, rfl⟩ : ∃ q, y = q + 1 := ⟨y - 1, by omega⟩
    exact (KnP_closed T S).told q (by omega) hd
  refine h (KnP T S) (KnP T S) ⟨fun j hj => ?_, fun _ _ h => h, (KnP_closed T S).made, fun q hq h8 hd hl hk => ?_⟩
  · rw [List.length_append] at hj
    have hj : j < S.length + 1 := hj
    rcases Nat.lt_or_ge j S.length with hj2 | hj2
    · rw [getD_app_lt [] hj2]
      exact fun y hy => told y (inL_le hy).1 (inL_le hy).2 ((KnP_closed T S).seen j hj2 y hy)
    · obtain rfl : j = S.length := by omega
      rw [getD_app_at]
      exact hx
  · rcases known_inv hd with h1 | h1
    · exact fun y hy => told y (by rw [nmJ_eq] at hy; exact (inL_le hy).1) (by rw [nmJ_eq] at hy; have := (inL_le hy).2; omega) ((KnP_closed T S).opens q hq h8 h1 hl hk y hy)
    · rcases h1.2 with ⟨h3, _⟩ | h4
      · rw [h8] at h3; exact absurd h3 (by decide)
      · exact h4 1 hl

set_option maxRecDepth 100000 in
set_option maxHeartbeats 4000000 in
theorem fn4 (l : List Opr) (hl : l.length ≤ maxLen) (hO : ∀ o ∈ l, OpOK o) (ps : List Pt) (hps : ps.length ≤ maxLen) (hpo : ∀ p ∈ ps, PtOK p) (more : Pt) (hmo : PtOK more) : Sx.Fn Γ.P 4 [opsS l, ptsS ps, .agg (rowP more)] [] (fun v _ => v = .tt) := by
  have hA := fn8
  have hNew := fn9
  have hP := fn10 l hl hO
  have hby33 : (Γ.ty 33).bytes = 24 := rfl
  have hby5 : (Γ.ty 5).bytes = 1 := rfl
  have hmx : maxLen = 9223372036854775807 := by decide
  unfold opsS ptsS rowP at *
  refine fn_cut [1000012] (Γ := Γ) (fn := Try.f4) rfl rfl rfl rfl ?_
  repeat (refine sd ?_)
  refine Call.intro hA [] rfl trivial rfl trivial rfl ?_
  rintro v M' rfl
  dsimp only [putT, afterM, newEnt, ren, renA, renS, renL, look, getM, getT, ev, evL, ofVal, cond_true, cond_false, Nat.beq_eq, act, isPar, ownPar, Ent.isOwn]
  clear hA
  repeat (refine sd ?_)
  refine Call.intro hNew [(1000, (1000, 0, none)), (1002, (1002, 0, none))] rfl fc rfl trivial rfl ?_
  rintro v M' ⟨rfl, rfl⟩
  dsimp only [putT, afterM, newEnt, ren, renA, renS, renL, look, getM, getT, ev, evL, ofVal, cond_true, cond_false, Nat.beq_eq, act, isPar, ownPar, Ent.isOwn]
  clear hNew
  repeat (refine sd ?_)
  refine Call.intro hP [(1000, (1000, 0, none)), (1002, (1002, 0, none)), (1010, (20, 0, none)), (1005, (305, 0, none)), (1015, (315, 0, none))] rfl ?_ rfl ?_ rfl ?_
  · exact fc
  · exact fc
  rintro v M' ⟨n, c, d, hn, hnc, hnd, hn80, rfl, rfl⟩
  dsimp only [putT, afterM, newEnt, ren, renA, renS, renL, look, getM, getT, ev, evL, ofVal, cond_true, cond_false, Nat.beq_eq, act, isPar, ownPar, Ent.isOwn]
  clear hP
  have hAv := plA_valid l
  repeat (refine sd ?_)
  obtain ⟨m, hm⟩ : ∃ m, ps.length = m := ⟨_, rfl⟩
  refine Join.intro (σ := Nat × Nat) (fun s => s.1 = min m 10 ∧ s.1 ≤ s.2)
    (fun s => ([(5, .ptr 5 0 none), (7, .ptr 1000 0 none), (8, .ptr 20 0 none), (9, .sl 210 0 0 s.1 s.2)], [(1000, .mem true 0 [(1, .sl 305 0 0 n c), (1, .mp 1002)]), (1002, .map (.si (mpL (plA l)))), (305, .mem true (mulE (c - n) 3) [(n * 3, .arr n 3 (ttF (plA l)))]), (20, .mem true 0 [(1, .sl 315 0 0 n d)]), (315, .mem true (mulE (d - n) 2) [(n * 2, .arr n 2 (rtF (plA l)))]), (5, .mem true 0 [(1, .isl 0 more.1.length 1 [(more.1.length * 1, .ai more.1)]), (1, .isl 0 more.2.length 1 [(more.2.length * 1, .a8 more.2)])]), (210, .mem true (s.2 - s.1) [(s.1 * 1, .arr s.1 1 (rwF (cuK ps n s.1)))])])) ?_ ?_
  · repeat (refine sd ?_)
    refine Loop.intro (σ := Nat × Nat) (fun s => s.1 ≤ m ∧ s.1 ≤ 10 ∧ s.1 ≤ s.2)
      (fun s => ([(1, .isl 0 ps.length 2 [(ps.length * 2, .arr ps.length 2 (ptF ps))]), (5, .ptr 5 0 none), (7, .ptr 1000 0 none), (8, .ptr 20 0 none), (9, .sl 210 0 0 s.1 s.2), (10, .i .i64 (s.1 : Int))], [(1000, .mem true 0 [(1, .sl 305 0 0 n c), (1, .mp 1002)]), (1002, .map (.si (mpL (plA l)))), (305, .mem true (mulE (c - n) 3) [(n * 3, .arr n 3 (ttF (plA l)))]), (20, .mem true 0 [(1, .sl 315 0 0 n d)]), (315, .mem true (mulE (d - n) 2) [(n * 2, .arr n 2 (rtF (plA l)))]), (5, .mem true 0 [(1, .isl 0 more.1.length 1 [(more.1.length * 1, .ai more.1)]), (1, .isl 0 more.2.length 1 [(more.2.length * 1, .a8 more.2)])]), (210, .mem true (s.2 - s.1) [(s.1 * 1, .arr s.1 1 (rwF (cuK ps n s.1)))])]))
      (fun s => m - s.1) (0, 0) ⟨Nat.zero_le _, Nat.zero_le _, Nat.le_refl _⟩ ?_ ?_
    · refine Le.ghost [.own 210 [(0, .arr 0 1 (rwF (cuK ps n 0)))]] [(9, 210)] [] rfl ⟨rfl, rfl, trivial⟩ rfl rfl ?_ rfl ?_ rfl
      · exact fc
      · exact fc
    rintro ⟨i, c9⟩ ⟨hi, hi6, hic⟩
    have hi : i ≤ m := hi
    have hi6 : i ≤ 10 := hi6
    have hic : i ≤ c9 := hic
    repeat (refine Side.intro (by repeat' (first | (show AllP _; first | exact trivial | refine AllP.app ?_ ?_ | refine AllP.appd ?_ ?_ | refine AllP.cons ?_ ?_) | with_reducible rfl | with_reducible assumption | omega | (simp only [hm, rng, Ix.val, addQ_eq, addI, sz3, sz4, sz5, sz9, sz22, sz23, sz25, sz27, sz28, sz29, sz30, sz32, sz33, sz34, sz35, sz36, sz38, sz40, sz42, sz47, sz48, sz49, sz57, sz67, sz68, sz69, sz73, sz74, sz76, sz77, sz78] <;> omega) | (simp only [hm, rng, Ix.val, Int.toNat_natCast, mulE_eq, addQ_eq, addI, Option.getD_none, Option.getD_some, List.length_take, List.length_drop, List.length_append, List.length_set, List.length_replicate, sz3, sz4, sz5, sz9, sz22, sz23, sz25, sz27, sz28, sz29, sz30, sz32, sz33, sz34, sz35, sz36, sz38, sz40, sz42, sz47, sz48, sz49, sz57, sz67, sz68, sz69, sz73, sz74, sz76, sz77, sz78, *] <;> omega) | (simp only [Ix.val]; with_reducible assumption) | exact UInt8.toNat_lt _ | (apply Eq.trans; (with_reducible assumption); exact rfl) | exact rfl | exact fun _ _ => rfl)) ?_)
    refine Branch.intro (fun hd1 => ?_) (fun hd1 => ?_)
    · have hd1 : (i : Int) < ps.length := hd1
      rw [hm] at hd1
      repeat (refine sd ?_)
      refine Branch.intro (fun hd2 => ?_) (fun hd2 => ?_)
      · have hd2 : (i : Int) < 10 := hd2
        obtain ⟨p, hp⟩ : ∃ p, ps.getD i pt0 = p := ⟨_, rfl⟩
        have hPo : PtOK p := by rw [← hp]; exact hpo _ (getD_mem pt0 (by omega))
        have hC := fn11 p hPo.1 hPo.2 n (by omega)
        have hCl := ctB_le p n 5000
        unfold ptS at hC
        refine Draw.intro [[], [], [], [1, 2], [1, 2, 3], [], [5], [5, 6], [5, 6, 7], [5, 6, 7, 8], [1, 2, 3, 4, 5, 6, 7, 8, 9], [1, 2, 3, 4, 5, 6, 7, 8, 9, 10], [0, 1, 2, 3, 4, 5, 6, 7, 8, 9, 10, 11], [0, 1, 2, 3, 4, 5, 6, 7, 8, 9, 10, 11, 12]] [0, 1, 2, 3, 4, 5, 6, 7, 8, 9, 10, 11, 12, 13] (by kernel_rfl) ?_
        unfold ptF
        repeat (refine Side.intro (by repeat' (first | (show AllP _; first | exact trivial | refine AllP.app ?_ ?_ | refine AllP.appd ?_ ?_ | refine AllP.cons ?_ ?_) | with_reducible rfl | with_reducible assumption | omega | (simp only [Nat.zero_add, Int.toNat_natCast, hm, hp, rng, Ix.val, addQ_eq, addI, sz3, sz4, sz5, sz9, sz22, sz23, sz25, sz27, sz28, sz29, sz30, sz32, sz33, sz34, sz35, sz36, sz38, sz40, sz42, sz47, sz48, sz49, sz57, sz67, sz68, sz69, sz73, sz74, sz76, sz77, sz78] <;> omega) | (simp only [Nat.zero_add, Int.toNat_natCast, hm, hp, rng, Ix.val, Int.toNat_natCast, mulE_eq, addQ_eq, addI, Option.getD_none, Option.getD_some, List.length_take, List.length_drop, List.length_append, List.length_set, List.length_replicate, sz3, sz4, sz5, sz9, sz22, sz23, sz25, sz27, sz28, sz29, sz30, sz32, sz33, sz34, sz35, sz36, sz38, sz40, sz42, sz47, sz48, sz49, sz57, sz67, sz68, sz69, sz73, sz74, sz76, sz77, sz78, *] <;> omega) | (simp only [Ix.val]; with_reducible assumption) | exact UInt8.toNat_lt _ | (apply Eq.trans; (with_reducible assumption); exact rfl) | exact rfl | exact fun _ _ => rfl)) ?_)
        refine Call.intro hC [(1001, (302, 0, none))] rfl (by repeat' (first | (show AllP _; first | exact trivial | refine AllP.app ?_ ?_ | refine AllP.appd ?_ ?_ | refine AllP.cons ?_ ?_) | with_reducible rfl | with_reducible assumption | omega | (simp only [Nat.zero_add, Int.toNat_natCast, hm, hp, rng, Ix.val, addQ_eq, addI, sz3, sz4, sz5, sz9, sz22, sz23, sz25, sz27, sz28, sz29, sz30, sz32, sz33, sz34, sz35, sz36, sz38, sz40, sz42, sz47, sz48, sz49, sz57, sz67, sz68, sz69, sz73, sz74, sz76, sz77, sz78] <;> omega) | (simp only [Nat.zero_add, Int.toNat_natCast, hm, hp, rng, Ix.val, Int.toNat_natCast, mulE_eq, addQ_eq, addI, Option.getD_none, Option.getD_some, List.length_take, List.length_drop, List.length_append, List.length_set, List.length_replicate, sz3, sz4, sz5, sz9, sz22, sz23, sz25, sz27, sz28, sz29, sz30, sz32, sz33, sz34, sz35, sz36, sz38, sz40, sz42, sz47, sz48, sz49, sz57, sz67, sz68, sz69, sz73, sz74, sz76, sz77, sz78, *] <;> omega) | (simp only [Ix.val]; with_reducible assumption) | exact UInt8.toNat_lt _ | (apply Eq.trans; (with_reducible assumption); exact rfl) | exact rfl | exact fun _ _ => rfl)) rfl trivial rfl ?_
        rintro v M' ⟨N, cN, hN, hNc, rfl, rfl⟩
        dsimp only [putT, afterM, newEnt, ren, renA, renS, renL, look, getM, getT, ev, evL, ofVal, cond_true, cond_false, Nat.beq_eq, act, isPar, ownPar, Ent.isOwn]
        refine fun c2 hc5 => ?_
        have hc5 : i + 1 ≤ c2 := hc5
        repeat (refine Side.intro (by repeat' (first | (show AllP _; first | exact trivial | refine AllP.app ?_ ?_ | refine AllP.appd ?_ ?_ | refine AllP.cons ?_ ?_) | with_reducible rfl | with_reducible assumption | omega | (simp only [Nat.zero_add, Int.toNat_natCast, hm, rng, Ix.val, addQ_eq, addI, sz3, sz4, sz5, sz9, sz22, sz23, sz25, sz27, sz28, sz29, sz30, sz32, sz33, sz34, sz35, sz36, sz38, sz40, sz42, sz47, sz48, sz49, sz57, sz67, sz68, sz69, sz73, sz74, sz76, sz77, sz78] <;> omega) | (simp only [Nat.zero_add, Int.toNat_natCast, hm, rng, Ix.val, Int.toNat_natCast, mulE_eq, addQ_eq, addI, Option.getD_none, Option.getD_some, List.length_take, List.length_drop, List.length_append, List.length_set, List.length_replicate, sz3, sz4, sz5, sz9, sz22, sz23, sz25, sz27, sz28, sz29, sz30, sz32, sz33, sz34, sz35, sz36, sz38, sz40, sz42, sz47, sz48, sz49, sz57, sz67, sz68, sz69, sz73, sz74, sz76, sz77, sz78, *] <;> omega) | (simp only [Ix.val]; with_reducible assumption) | exact UInt8.toNat_lt _ | (apply Eq.trans; (with_reducible assumption); exact rfl) | exact rfl | exact fun _ _ => rfl)) ?_)
        refine ⟨(i + 1, c2), ⟨by show i + 1 ≤ m; omega, by show i + 1 ≤ 10; omega, hc5⟩, by show m - (i + 1) < m - i; omega, Le.intro [(210, (48, 0, none))] rfl ?_ rfl ?_ rfl⟩
        · exact fcn
        · repeat' (first | (show AllP _; first | exact trivial | refine AllP.app ?_ ?_ | refine AllP.appd ?_ ?_ | refine AllP.cons ?_ ?_) | with_reducible rfl | with_reducible assumption | omega | (simp only [Nat.zero_add, Int.toNat_natCast, rng, Ix.val, addQ_eq, addI, sz3, sz4, sz5, sz9, sz22, sz23, sz25, sz27, sz28, sz29, sz30, sz32, sz33, sz34, sz35, sz36, sz38, sz40, sz42, sz47, sz48, sz49, sz57, sz67, sz68, sz69, sz73, sz74, sz76, sz77, sz78] <;> omega) | (simp only [Nat.zero_add, Int.toNat_natCast, rng, Ix.val, Int.toNat_natCast, mulE_eq, addQ_eq, addI, Option.getD_none, Option.getD_some, List.length_take, List.length_drop, List.length_append, List.length_set, List.length_replicate, sz3, sz4, sz5, sz9, sz22, sz23, sz25, sz27, sz28, sz29, sz30, sz32, sz33, sz34, sz35, sz36, sz38, sz40, sz42, sz47, sz48, sz49, sz57, sz67, sz68, sz69, sz73, sz74, sz76, sz77, sz78, *] <;> omega) | (simp only [Ix.val]; with_reducible assumption) | exact UInt8.toNat_lt _ | (apply Eq.trans; (with_reducible assumption); exact rfl) | exact rfl | exact fun _ _ => rfl)
          subst hp
          show ∀ q, q < i + 1 → rwF (cuK ps n (i + 1)) q = _
          rw [cuK_succ]
          refine appF_row (fun q hq => (rwF_lt (by rw [cuK_length]; exact hq))) ?_
          have := rwF_at (cuK ps n i) (ctB (ps.getD i pt0) n 5000)
          rw [cuK_length, hN, Nat.mul_one] at this
          exact this
      · have hd2 : ¬ (i : Int) < 10 := hd2
        repeat (refine sd ?_)
        refine ⟨(i, c9), ⟨by show i = min m 10; omega, hic⟩, Le.intro [] rfl ?_ rfl ?_ rfl⟩
        · exact fc
        · exact fc
    · have hd1 : ¬ (i : Int) < ps.length := hd1
      rw [hm] at hd1
      repeat (refine sd ?_)
      refine ⟨(i, c9), ⟨by show i = min m 10; omega, hic⟩, Le.intro [] rfl ?_ rfl ?_ rfl⟩
      · exact fc
      · exact fc
  rintro ⟨i, c9⟩ ⟨hi, hic⟩
  have hi : i = min m 10 := hi
  have hic : i ≤ c9 := hic
  have hSl := cuK_length ps n i
  have hSe := cuK_le ps n i
  obtain ⟨S, hS⟩ : ∃ S, cuK ps n i = S := ⟨_, rfl⟩
  rw [hS] at hSl hSe ⊢
  have hK := fn12 (plA l) n hn (by omega) hAv S i hSl (by omega) (fun x h => by have := hSe x h; omega)
  repeat (refine sd ?_)
  refine Call.intro hK [(1000, (1000, 0, none)), (1001, (305, 0, none)), (1002, (1002, 0, none)), (1003, (210, 0, none)), (1005, (405, 0, none)), (1006, (406, 0, none))] rfl fc rfl fc rfl ?_
  rintro v M' ⟨rfl, rfl⟩
  dsimp only [putT, afterM, newEnt, ren, renA, renS, renL, look, getM, getT, ev, evL, ofVal, cond_true, cond_false, Nat.beq_eq, act, isPar, ownPar, Ent.isOwn]
  clear hK
  have hC := fn11 more hmo.1 hmo.2 n (by omega)
  have hCl := ctB_le more n 5000
  obtain ⟨x, hx⟩ : ∃ x, ctB more n 5000 = x := ⟨_, rfl⟩
  rw [hx] at hC hCl
  unfold ptS at hC
  have hS2 : ∀ y ∈ S ++ [x], y.length ≤ 1000000 := fun y hy => by
    rcases List.mem_append.1 hy with hy | hy
    · have := hSe y hy; omega
    · obtain rfl : y = x := by simpa using hy
      omega
  have hK2 := fn12 (plA l) n hn (by omega) hAv (S ++ [x]) (i + 1) (by rw [List.length_append, hSl]; rfl) (by omega) hS2
  repeat (refine sd ?_)
  refine Draw.intro [[], [], [], [1, 2], [], [], [5], [5, 6], [5, 6, 7], [5, 6, 7, 8], [1, 2, 3, 4, 5, 6, 7, 8, 9], [1, 2, 3, 4, 5, 6, 7, 8, 9, 10], [1, 2, 3, 4, 5, 6, 7, 8, 9, 10, 11], [0, 1, 2, 3, 4, 5, 6, 7, 8, 9, 10, 11, 12], [0, 1, 2, 3, 4, 5, 6, 7, 8, 9, 10, 11, 12, 13]] [0, 1, 2, 4, 5, 6, 7, 8, 9, 3, 10, 11, 12, 13, 14] (by kernel_rfl) ?_
  repeat (refine sd ?_)
  refine fun c1 hc1 => ?_
  have hc1 : i ≤ c1 := by have h : 0 + i ≤ c1 := hc1; omega
  repeat (refine sd ?_)
  refine Grow.intro [(55, .mem true (c1 - (0 + i)) [(0 + i, .arr (0 + i) 1 (appF 0 (shiftF 0 fun _ => boolL [(1, .nsl)]) (shiftF 0 (rwF S))))]), (53, .dead)] rfl rfl ?_
  repeat (refine sd ?_)
  refine Call.intro hC [(1001, (302, 0, none))] rfl fc rfl trivial rfl ?_
  rintro v M' ⟨N, cN, hN, hNc, rfl, rfl⟩
  dsimp only [putT, afterM, newEnt, ren, renA, renS, renL, look, getM, getT, ev, evL, ofVal, cond_true, cond_false, Nat.beq_eq, act, isPar, ownPar, Ent.isOwn]
  clear hC
  refine fun c2 hc2 => ?_
  have hc2 : i + 1 ≤ c2 := by have h : 0 + i + 1 ≤ c2 := hc2; omega
  repeat (refine sd ?_)
  refine Call.intro hK2 [(1000, (1000, 0, none)), (1001, (305, 0, none)), (1002, (1002, 0, none)), (1003, (64, 0, none)), (1005, (425, 0, none)), (1006, (426, 0, none))] rfl ?_ rfl ?_ rfl ?_
  · exact fc
  · repeat' (first | (show AllP _; first | exact trivial | refine AllP.app ?_ ?_ | refine AllP.appd ?_ ?_ | refine AllP.cons ?_ ?_) | with_reducible rfl | with_reducible assumption | omega | (simp only [rng, Ix.val, addQ_eq, addI, sz3, sz4, sz5, sz9, sz22, sz23, sz25, sz27, sz28, sz29, sz30, sz32, sz33, sz34, sz35, sz36, sz38, sz40, sz42, sz47, sz48, sz49, sz57, sz67, sz68, sz69, sz73, sz74, sz76, sz77, sz78] <;> omega) | (simp only [rng, Ix.val, Int.toNat_natCast, mulE_eq, addQ_eq, addI, Option.getD_none, Option.getD_some, List.length_take, List.length_drop, List.length_append, List.length_set, List.length_replicate, sz3, sz4, sz5, sz9, sz22, sz23, sz25, sz27, sz28, sz29, sz30, sz32, sz33, sz34, sz35, sz36, sz38, sz40, sz42, sz47, sz48, sz49, sz57, sz67, sz68, sz69, sz73, sz74, sz76, sz77, sz78, *] <;> omega) | (simp only [Ix.val]; with_reducible assumption) | exact UInt8.toNat_lt _ | (apply Eq.trans; (with_reducible assumption); exact rfl) | exact rfl | exact fun _ _ => rfl)
    intro q0 hq0
    have hq0 : q0 < i + 1 := hq0
    refine appF_row (n := 0 + i) (fun q hq => ?_) ?_ q0 (by omega)
    · rw [rwF_lt (by omega)]
      show _ = shiftF 0 (rwF S) q
      rw [shiftF_eq, Nat.zero_add]
    · have := rwF_at S x
      rw [hSl, hN, Nat.mul_one] at this
      rw [Nat.zero_add]
      exact this
  rintro v M' ⟨rfl, rfl⟩
  dsimp only [putT, afterM, newEnt, ren, renA, renS, renL, look, getM, getT, ev, evL, ofVal, cond_true, cond_false, Nat.beq_eq, act, isPar, ownPar, Ent.isOwn]
  clear hK2
  have hC := fn11 more hmo.1 hmo.2 n (by omega)
  rw [hx] at hC
  unfold ptS at hC
  have hHx := fn15 x N hN (by omega) n (by omega) (KnP (plA l) S)
  refine Draw.intro [[], [], [], [2], [2, 3], [2, 3, 4], [2, 3, 4, 5], [1, 2, 3, 4, 5, 6], [0, 1, 2, 3, 4, 5, 6, 7], [0, 1, 2, 3, 4, 5, 6, 7, 8]] [0, 1, 2, 3, 4, 5, 6, 7, 8, 9] (by kernel_rfl) ?_
  repeat (refine sd ?_)
  refine Call.intro hC [(1001, (303, 0, none))] rfl fc rfl trivial rfl ?_
  rintro v M' ⟨N2, cN2, hN2, hNc2, rfl, rfl⟩
  dsimp only [putT, afterM, newEnt, ren, renA, renS, renL, look, getM, getT, ev, evL, ofVal, cond_true, cond_false, Nat.beq_eq, act, isPar, ownPar, Ent.isOwn]
  obtain rfl : N2 = N := by rw [← hN2, hN]
  clear hC
  refine Call.intro hHx [(1000, (405, 0, none)), (1001, (406, 0, none)), (1002, (1000, 0, none)), (1003, (303, 0, none))] rfl fc rfl fc rfl ?_
  rintro v M' ⟨rfl, rfl⟩
  dsimp only [putT, afterM, newEnt, ren, renA, renS, renL, look, getM, getT, ev, evL, ofVal, cond_true, cond_false, Nat.beq_eq, act, isPar, ownPar, Ent.isOwn]
  clear hHx
  repeat (refine sd ?_)
  have hm1 : ∀ z, KnP (plA l) S z → KnP (plA l) (S ++ [x]) z := fun z h => more_known h
  have hm2 : AllK (KnP (plA l) S) (inL x n 0) → ∀ z, KnP (plA l) (S ++ [x]) z → KnP (plA l) S z := fun h z hz => same_known (by rw [hn]; exact h) hz
  obtain ⟨Sa, hSa⟩ : ∃ Sa, AllK (KnP (plA l) S) (inL x n 0) = Sa := ⟨_, rfl⟩
  rw [hSa] at hm2 ⊢
  refine Loop.intro (σ := Nat) (fun j => j ≤ n)
    (fun j => ([(7, .ptr 1000 0 none), (8, .ptr 20 0 none), (11, .ptr 405 0 none), (12, .ptr 425 0 none), (13, .bool Sa), (14, .i .i64 ((j : Int) + 1))], [(1000, .mem true 0 [(1, .sl 305 0 0 n c), (1, .mp 1002)]), (1002, .map (.si (mpL (plA l)))), (305, .mem true (mulE (c - n) 3) [(n * 3, .arr n 3 (ttF (plA l)))]), (20, .mem true 0 [(1, .sl 315 0 0 n d)]), (315, .mem true (mulE (d - n) 2) [(n * 2, .arr n 2 (rtF (plA l)))]), (405, .mem true 0 [(1, .ptr 1000 0 none), (1, .i .i64 (n : Int)), (1, .sl 406 0 0 (n + 1) (n + 1))]), (406, .mem true 0 [(n + 1, .arr (n + 1) 1 (bF (KnP (plA l) S)))]), (425, .mem true 0 [(1, .ptr 1000 0 none), (1, .i .i64 (n : Int)), (1, .sl 426 0 0 (n + 1) (n + 1))]), (426, .mem true 0 [(n + 1, .arr (n + 1) 1 (bF (KnP (plA l) (S ++ [x]))))])]))
    (fun j => n - j) 0 (Nat.zero_le _) ?_ ?_
  · refine Le.intro [] rfl ?_ rfl ?_ rfl
    · exact fc
    · exact fc
  rintro j hj
  have hj : j ≤ n := hj
  repeat (refine sd ?_)
  refine Branch.intro (fun hc => ?_) (fun hc => ?_)
  · have hc : (j : Int) + 1 ≤ n := hc
    have hN2 := fn14 (j + 1) (by omega)
    have hnl := nameB_length (j + 1)
    have hHk := fn15 (nameB (j + 1)) 32 hnl (by decide) n (by omega) (KnP (plA l) S)
    have hHm := fn15 (nameB (j + 1)) 32 hnl (by decide) n (by omega) (KnP (plA l) (S ++ [x]))
    obtain ⟨A, hA⟩ : ∃ A, AllK (KnP (plA l) S) (inL (nameB (j + 1)) n 0) = A := ⟨_, rfl⟩
    obtain ⟨B, hB⟩ : ∃ B, AllK (KnP (plA l) (S ++ [x])) (inL (nameB (j + 1)) n 0) = B := ⟨_, rfl⟩
    have hAB : A → B := by
      rw [← hA, ← hB, allName (by omega) (by omega) (by omega), allName (by omega) (by omega) (by omega)]
      exact hm1 _
    have hBA : Sa → B → A := by
      rw [← hA, ← hB, allName (by omega) (by omega) (by omega), allName (by omega) (by omega) (by omega)]
      exact fun h => hm2 h _
    rw [hA] at hHk
    rw [hB] at hHm
    clear hm1 hm2 hA hB
    repeat (refine sd ?_)
    refine Call.intro hN2 [] rfl fc rfl trivial rfl ?_
    rintro v M' ⟨rfl, rfl⟩
    dsimp only [putT, afterM, newEnt, ren, renA, renS, renL, look, getM, getT, ev, evL, ofVal, cond_true, cond_false, Nat.beq_eq, act, isPar, ownPar, Ent.isOwn]
    repeat (refine sd ?_)
    refine Call.intro hHk [(1000, (405, 0, none)), (1001, (406, 0, none)), (1002, (1000, 0, none)), (1003, (15, 0, none))] rfl fc rfl fc rfl ?_
    rintro v M' ⟨rfl, rfl⟩
    dsimp only [putT, afterM, newEnt, ren, renA, renS, renL, look, getM, getT, ev, evL, ofVal, cond_true, cond_false, Nat.beq_eq, act, isPar, ownPar, Ent.isOwn]
    by_cases a : A
    · have b : B := hAB a
      have nb : ¬ ¬ B := fun h => h b
      have na : ¬ ¬ A := fun h => h a
      repeat (first | (refine Branch.intro (fun _ => ?_) (fun hn => absurd rfl hn)) | (refine Branch.intro (fun hn => (by with_reducible exact False.elim hn)) (fun _ => ?_)) | (refine Branch.intro (fun _ => ?_) (fun hn => (by with_reducible exact absurd a hn))) | (refine Branch.intro (fun hn => (by with_reducible exact absurd hn a)) (fun _ => ?_)) | (refine sd ?_))
      repeat (refine sd ?_)
      refine Call.intro hHm [(1000, (425, 0, none)), (1001, (426, 0, none)), (1002, (1000, 0, none)), (1003, (15, 0, none))] rfl fc rfl fc rfl ?_
      rintro v M' ⟨rfl, rfl⟩
      dsimp only [putT, afterM, newEnt, ren, renA, renS, renL, look, getM, getT, ev, evL, ofVal, cond_true, cond_false, Nat.beq_eq, act, isPar, ownPar, Ent.isOwn]
      repeat (first | (refine Branch.intro (fun _ => ?_) (fun hn => absurd rfl hn)) | (refine Branch.intro (fun hn => (by with_reducible exact False.elim hn)) (fun _ => ?_)) | (refine Branch.intro (fun _ => ?_) (fun hn => (by with_reducible exact absurd a hn))) | (refine Branch.intro (fun hn => (by with_reducible exact absurd hn a)) (fun _ => ?_)) | (refine Branch.intro (fun _ => ?_) (fun hn => (by with_reducible exact absurd nb hn))) | (refine Branch.intro (fun hn => (by with_reducible exact absurd hn nb)) (fun _ => ?_)) | (refine sd ?_))
      by_cases s : Sa
      · repeat (first | (refine Branch.intro (fun _ => ?_) (fun hn => absurd rfl hn)) | (refine Branch.intro (fun hn => (by with_reducible exact False.elim hn)) (fun _ => ?_)) | (refine Branch.intro (fun _ => ?_) (fun hn => (by with_reducible exact absurd a hn))) | (refine Branch.intro (fun hn => (by with_reducible exact absurd hn a)) (fun _ => ?_)) | (refine Branch.intro (fun _ => ?_) (fun hn => (by with_reducible exact absurd nb hn))) | (refine Branch.intro (fun hn => (by with_reducible exact absurd hn nb)) (fun _ => ?_)) | (refine Branch.intro (fun _ => ?_) (fun hn => (by with_reducible exact absurd s hn))) | (refine Branch.intro (fun hn => (by with_reducible exact absurd hn s)) (fun _ => ?_)) | (refine sd ?_))
        repeat (refine sd ?_)
        refine Call.intro hHm [(1000, (425, 0, none)), (1001, (426, 0, none)), (1002, (1000, 0, none)), (1003, (15, 0, none))] rfl fc rfl fc rfl ?_
        rintro v M' ⟨rfl, rfl⟩
        dsimp only [putT, afterM, newEnt, ren, renA, renS, renL, look, getM, getT, ev, evL, ofVal, cond_true, cond_false, Nat.beq_eq, act, isPar, ownPar, Ent.isOwn]
        repeat (first | (refine Branch.intro (fun _ => ?_) (fun hn => absurd rfl hn)) | (refine Branch.intro (fun hn => (by with_reducible exact False.elim hn)) (fun _ => ?_)) | (refine Branch.intro (fun _ => ?_) (fun hn => (by with_reducible exact absurd a hn))) | (refine Branch.intro (fun hn => (by with_reducible exact absurd hn a)) (fun _ => ?_)) | (refine Branch.intro (fun _ => ?_) (fun hn => (by with_reducible exact absurd nb hn))) | (refine Branch.intro (fun hn => (by with_reducible exact absurd hn nb)) (fun _ => ?_)) | (refine Branch.intro (fun _ => ?_) (fun hn => (by with_reducible exact absurd s hn))) | (refine Branch.intro (fun hn => (by with_reducible exact absurd hn s)) (fun _ => ?_)) | (refine Branch.intro (fun _ => ?_) (fun hn => (by with_reducible exact absurd b hn))) | (refine Branch.intro (fun hn => (by with_reducible exact absurd hn b)) (fun _ => ?_)) | (refine sd ?_))
        repeat (refine sd ?_)
        refine Call.intro hHk [(1000, (405, 0, none)), (1001, (406, 0, none)), (1002, (1000, 0, none)), (1003, (15, 0, none))] rfl fc rfl fc rfl ?_
        rintro v M' ⟨rfl, rfl⟩
        dsimp only [putT, afterM, newEnt, ren, renA, renS, renL, look, getM, getT, ev, evL, ofVal, cond_true, cond_false, Nat.beq_eq, act, isPar, ownPar, Ent.isOwn]
        repeat (first | (refine Branch.intro (fun _ => ?_) (fun hn => absurd rfl hn)) | (refine Branch.intro (fun hn => (by with_reducible exact False.elim hn)) (fun _ => ?_)) | (refine Branch.intro (fun _ => ?_) (fun hn => (by with_reducible exact absurd a hn))) | (refine Branch.intro (fun hn => (by with_reducible exact absurd hn a)) (fun _ => ?_)) | (refine Branch.intro (fun _ => ?_) (fun hn => (by with_reducible exact absurd nb hn))) | (refine Branch.intro (fun hn => (by with_reducible exact absurd hn nb)) (fun _ => ?_)) | (refine Branch.intro (fun _ => ?_) (fun hn => (by with_reducible exact absurd s hn))) | (refine Branch.intro (fun hn => (by with_reducible exact absurd hn s)) (fun _ => ?_)) | (refine Branch.intro (fun _ => ?_) (fun hn => (by with_reducible exact absurd b hn))) | (refine Branch.intro (fun hn => (by with_reducible exact absurd hn b)) (fun _ => ?_)) | (refine Branch.intro (fun _ => ?_) (fun hn => (by with_reducible exact absurd na hn))) | (refine Branch.intro (fun hn => (by with_reducible exact absurd hn na)) (fun _ => ?_)) | (refine sd ?_))
        repeat (refine sd ?_)
        refine ⟨j + 1, by omega, by omega, Le.intro [] rfl ?_ rfl ?_ rfl⟩
        · exact fc
        · exact fc
      · repeat (first | (refine Branch.intro (fun _ => ?_) (fun hn => absurd rfl hn)) | (refine Branch.intro (fun hn => (by with_reducible exact False.elim hn)) (fun _ => ?_)) | (refine Branch.intro (fun _ => ?_) (fun hn => (by with_reducible exact absurd a hn))) | (refine Branch.intro (fun hn => (by with_reducible exact absurd hn a)) (fun _ => ?_)) | (refine Branch.intro (fun _ => ?_) (fun hn => (by with_reducible exact absurd nb hn))) | (refine Branch.intro (fun hn => (by with_reducible exact absurd hn nb)) (fun _ => ?_)) | (refine Branch.intro (fun _ => ?_) (fun hn => (by with_reducible exact absurd s hn))) | (refine Branch.intro (fun hn => (by with_reducible exact absurd hn s)) (fun _ => ?_)) | (refine sd ?_))
        repeat (refine sd ?_)
        refine ⟨j + 1, by omega, by omega, Le.intro [] rfl ?_ rfl ?_ rfl⟩
        · exact fc
        · exact fc
    · repeat (first | (refine Branch.intro (fun _ => ?_) (fun hn => absurd rfl hn)) | (refine Branch.intro (fun hn => (by with_reducible exact False.elim hn)) (fun _ => ?_)) | (refine Branch.intro (fun _ => ?_) (fun hn => (by with_reducible exact absurd a hn))) | (refine Branch.intro (fun hn => (by with_reducible exact absurd hn a)) (fun _ => ?_)) | (refine sd ?_))
      by_cases s : Sa
      · repeat (first | (refine Branch.intro (fun _ => ?_) (fun hn => absurd rfl hn)) | (refine Branch.intro (fun hn => (by with_reducible exact False.elim hn)) (fun _ => ?_)) | (refine Branch.intro (fun _ => ?_) (fun hn => (by with_reducible exact absurd a hn))) | (refine Branch.intro (fun hn => (by with_reducible exact absurd hn a)) (fun _ => ?_)) | (refine Branch.intro (fun _ => ?_) (fun hn => (by with_reducible exact absurd s hn))) | (refine Branch.intro (fun hn => (by with_reducible exact absurd hn s)) (fun _ => ?_)) | (refine sd ?_))
        repeat (refine sd ?_)
        refine Call.intro hHm [(1000, (425, 0, none)), (1001, (426, 0, none)), (1002, (1000, 0, none)), (1003, (15, 0, none))] rfl fc rfl fc rfl ?_
        rintro v M' ⟨rfl, rfl⟩
        dsimp only [putT, afterM, newEnt, ren, renA, renS, renL, look, getM, getT, ev, evL, ofVal, cond_true, cond_false, Nat.beq_eq, act, isPar, ownPar, Ent.isOwn]
        have b : ¬ B := fun h => a (hBA s h)
        repeat (first | (refine Branch.intro (fun _ => ?_) (fun hn => absurd rfl hn)) | (refine Branch.intro (fun hn => (by with_reducible exact False.elim hn)) (fun _ => ?_)) | (refine Branch.intro (fun _ => ?_) (fun hn => (by with_reducible exact absurd a hn))) | (refine Branch.intro (fun hn => (by with_reducible exact absurd hn a)) (fun _ => ?_)) | (refine Branch.intro (fun _ => ?_) (fun hn => (by with_reducible exact absurd s hn))) | (refine Branch.intro (fun hn => (by with_reducible exact absurd hn s)) (fun _ => ?_)) | (refine Branch.intro (fun _ => ?_) (fun hn => (by with_reducible exact absurd b hn))) | (refine Branch.intro (fun hn => (by with_reducible exact absurd hn b)) (fun _ => ?_)) | (refine sd ?_))
        repeat (refine sd ?_)
        refine ⟨j + 1, by omega, by omega, Le.intro [] rfl ?_ rfl ?_ rfl⟩
        · exact fc
        · exact fc
      · repeat (first | (refine Branch.intro (fun _ => ?_) (fun hn => absurd rfl hn)) | (refine Branch.intro (fun hn => (by with_reducible exact False.elim hn)) (fun _ => ?_)) | (refine Branch.intro (fun _ => ?_) (fun hn => (by with_reducible exact absurd a hn))) | (refine Branch.intro (fun hn => (by with_reducible exact absurd hn a)) (fun _ => ?_)) | (refine Branch.intro (fun _ => ?_) (fun hn => (by with_reducible exact absurd s hn))) | (refine Branch.intro (fun hn => (by with_reducible exact absurd hn s)) (fun _ => ?_)) | (refine sd ?_))
        repeat (refine sd ?_)
        refine ⟨j + 1, by omega, by omega, Le.intro [] rfl ?_ rfl ?_ rfl⟩
        · exact fc
        · exact fc
  · repeat (refine sd ?_)
    refine Ret.intro .tt [] [] rfl ?_ rfl rfl ?_ rfl trivial rfl
    · exact fc
    · exact fc

set_option maxRecDepth 100000 in
theorem termMore_runs (svs : List SV) (h : AllF [isOfSl 2 [(1, .i .i64 0), (1, .isl 0 0 2 [(0 * 2, .arr 0 2 fun _ => [(1, .isl 0 0 1 [(0 * 1, .ai [])]), (1, .isl 0 0 1 [(0 * 1, .a8 [])])])])] (catF [cInt .i64, cSl 2 [(1, .isl 0 0 1 [(0 * 1, .ai [])]), (1, .isl 0 0 1 [(0 * 1, .a8 [])])] (catF [cSlI, cSl8 1])]), isOfSl 2 [(1, .isl 0 0 1 [(0 * 1, .ai [])]), (1, .isl 0 0 1 [(0 * 1, .a8 [])])] (catF [cSlI, cSl8 1]), isOfStruct (catF [cSlI, cSl8 1])] svs) : Sx.Fn Γ.P 4 svs [] (fun v _ => v = .tt) := by
  obtain ⟨s1, r1, rfl, h1, h⟩ := AllF_cons h
  obtain ⟨s2, r2, rfl, h2, h⟩ := AllF_cons h
  obtain ⟨s3, r3, rfl, h3, h⟩ := AllF_cons h
  obtain rfl := AllF_nil h
  obtain ⟨l, a1, a2, rfl⟩ := opsArg h1
  obtain ⟨ps, b1, b2, rfl⟩ := ptsArg h2
  obtain ⟨p, c1, rfl⟩ := ptArg h3
  exact fn4 l a1 a2 ps b1 b2 p c1

end Go.Proofs.Ytoaaplgjacjlpaa
