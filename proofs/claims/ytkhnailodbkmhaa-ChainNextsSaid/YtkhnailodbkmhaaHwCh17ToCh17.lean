/- What the functions of the program compute. No condition. -/
import Derived.Test.YtkhnailodbkmhaaHwCh15ToCh15
import Derived.Test.YtkhnailodbkmhaaHx7
set_option linter.unusedSimpArgs false
set_option linter.unusedVariables false
namespace Go.Proofs.Ytkhnailodbkmhaa
open Go Go.Sx
theorem skA_key_real (T : List Te) (key : List UInt8) (i : Nat) : (skA false T key (i + 1)).2 = hx1 78 (skA false T key i).2 := by rw [skA_succ]; rfl
theorem skA_key_free (T : List Te) (key : List UInt8) (i : Nat) : (skA true T key (i + 1)).2 = kyB (nxN (skA true T key i).1 (skA true T key i).2) := by rw [skA_succ]; rfl
theorem skA_tab_free (T : List Te) (key : List UInt8) (i : Nat) : (skA true T key (i + 1)).1 = nxT (skA true T key i).1 (skA true T key i).2 := by rw [skA_succ]; rfl
set_option maxRecDepth 100000 in
set_option maxHeartbeats 1000000 in
theorem chainNextsR (P : Prop) (hP : ¬ P) (key : List UInt8) (hk : key.length = 32) (n0 : UInt16) (n : UInt8) : Sx.Fn Γ.P 3 [.bool P, .agg [(32, .a8 key), (1, .u16 n0)], .u8 n] [] (fun v _ => v = .tt) := by
  refine fn_of (Γ := Γ) (fn := Try.f3) rfl rfl rfl rfl ?_
  repeat (refine sd ?_)
  refine Call.intro fn9 [] rfl trivial rfl trivial rfl ?_
  rintro v M' rfl
  dsimp only [putT, afterM, newEnt, ren, renA, renS, renL, look, getM, getT, ev, evL, ofVal, cond_true, cond_false, Nat.beq_eq, act, isPar, ownPar, Ent.isOwn]
  repeat (refine sd ?_)
  refine Call.intro fnSuiteR [] rfl fc rfl trivial rfl ?_
  rintro v M' ⟨rfl, rfl⟩
  dsimp only [putT, afterM, newEnt, ren, renA, renS, renL, look, getM, getT, ev, evL, ofVal, cond_true, cond_false, Nat.beq_eq, act, isPar, ownPar, Ent.isOwn]
  repeat (refine sd ?_)
  refine Call.intro fnRefR [] rfl fc rfl trivial rfl ?_
  rintro v M' ⟨rfl, rfl⟩
  dsimp only [putT, afterM, newEnt, ren, renA, renS, renL, look, getM, getT, ev, evL, ofVal, cond_true, cond_false, Nat.beq_eq, act, isPar, ownPar, Ent.isOwn]
  repeat (refine sd ?_)
  refine Loop.intro (σ := Nat) (fun i => i ≤ 12)
    (fun i => ([(2, .u8 n), (4, .ptr 204 0 none), (7, .ptr 207 0 none), (8, .ptr 208 0 none), (9, .ptr 209 0 none), (10, .i .i64 (i : Int))],
      [(204, .mem true 0 [(32, .a8 (skA false [] key i).2), (1, .u16 (n0 + UInt16.ofNat i))]), (207, .mem true 0 [(1, .nilp)]), (208, .mem true 0 [(1, .nilp)]), (209, .mem true 0 [(32, .a8 (skA false [] key i).2), (1, .u16 (n0 + UInt16.ofNat i))])]))
    (fun i => 12 - i) 0 (Nat.zero_le _) ?_ ?_
  · refine Le.intro [(204, (4, 0, none)), (207, (7, 0, none)), (208, (8, 0, none)), (209, (9, 0, none))] rfl ?_ rfl ?_ rfl
    · exact fc
    · repeat' (first | (show AllP _; first | exact trivial | refine AllP.app ?_ ?_ | refine AllP.appd ?_ ?_ | refine AllP.cons ?_ ?_) | with_reducible rfl | with_reducible assumption | omega | (simp only [rng, Ix.val, addQ_eq, addI, sz4, by4, sz5, by5, sz22, by22, sz23, by23, sz24, by24, sz25, by25, sz26, by26, sz29, by29, sz30, by30, sz33, by33, sz34, by34, sz42, by42, sz50, by50, sz51, by51] <;> omega) | (simp only [rng, Ix.val, Int.toNat_natCast, mulE_eq, addQ_eq, addI, Option.getD_none, Option.getD_some, List.length_take, List.length_drop, List.length_append, List.length_set, List.length_replicate, sz4, by4, sz5, by5, sz22, by22, sz23, by23, sz24, by24, sz25, by25, sz26, by26, sz29, by29, sz30, by30, sz33, by33, sz34, by34, sz42, by42, sz50, by50, sz51, by51, *] <;> omega) | (simp only [Ix.val]; with_reducible assumption) | exact UInt8.toNat_lt _ | (apply Eq.trans; (with_reducible assumption); exact rfl) | exact rfl | exact fun _ _ => rfl)
      all_goals first | (show (skA false [] key 0).2 = key; rw [skA_zero']) | exact u16_zero n0
  rintro i hi
  have hi : i ≤ 12 := hi
  have h12 : UInt8.ofNat 12 ≠ 0 := by decide
  have hm12 : (n % 12).toNat < 12 := by
    rw [UInt8.toNat_mod]; exact Nat.mod_lt _ (by decide)
  have hN := fnNextR (skA false [] key i).2 (skA_klen false [] hk i) (n0 + UInt16.ofNat i)
  have hW := fnRNextR (skA false [] key i).2 (skA_klen false [] hk i) (n0 + UInt16.ofNat i)
  have hl1 := hx1_len 77 (skA false [] key i).2
  have hl2 := hx1_len 78 (skA false [] key i).2
  repeat (refine sd ?_)
  refine Branch.intro (fun hc => ?_) (fun hc => ?_)
  · have hc : (i : Int) < ((n % 12).toNat : Int) := hc
    repeat (refine sd ?_)
    refine Call.intro hN [] rfl fc rfl trivial rfl ?_
    rintro v M' (⟨he, rfl⟩ | ⟨he, rfl⟩)
    · dsimp only [putT, afterM, newEnt, ren, renA, renS, renL, look, getM, getT, ev, evL, ofVal, cond_true, cond_false, Nat.beq_eq, act, isPar, ownPar, Ent.isOwn]
      repeat (refine sd ?_)
      refine Call.intro hW [] rfl fc rfl trivial rfl ?_
      rintro v M' (⟨_, rfl⟩ | ⟨he2, _⟩)
      · dsimp only [putT, afterM, newEnt, ren, renA, renS, renL, look, getM, getT, ev, evL, ofVal, cond_true, cond_false, Nat.beq_eq, act, isPar, ownPar, Ent.isOwn]
        repeat (refine sd ?_)
        refine Branch.intro (fun h => absurd rfl h) (fun _ => ?_)
        repeat (refine sd ?_)
        refine Branch.intro (fun h => absurd ⟨rfl, rfl⟩ h) (fun _ => ?_)
        repeat (refine sd ?_)
        refine Branch.intro (fun h => absurd rfl h) (fun _ => ?_)
        repeat (refine sd ?_)
        refine Branch.intro (fun _ => ?_) (fun h => absurd (by decide) h)
        repeat (refine sd ?_)
        refine Ret.intro .tt [] [] rfl ?_ rfl rfl ?_ rfl ?_ rfl
        · exact fc
        · exact fc
        · exact fc
      · exact absurd he he2
    · dsimp only [putT, afterM, newEnt, ren, renA, renS, renL, look, getM, getT, ev, evL, ofVal, cond_true, cond_false, Nat.beq_eq, act, isPar, ownPar, Ent.isOwn]
      repeat (refine sd ?_)
      refine Call.intro hW [] rfl fc rfl trivial rfl ?_
      rintro v M' (⟨he2, _⟩ | ⟨_, rfl⟩)
      · exact absurd he2 he
      · dsimp only [putT, afterM, newEnt, ren, renA, renS, renL, look, getM, getT, ev, evL, ofVal, cond_true, cond_false, Nat.beq_eq, act, isPar, ownPar, Ent.isOwn]
        repeat (refine sd ?_)
        refine Branch.intro (fun h => absurd rfl h) (fun _ => ?_)
        repeat (refine sd ?_)
        refine Branch.intro (fun h => absurd ⟨rfl, rfl⟩ h) (fun _ => ?_)
        repeat (refine sd ?_)
        refine Branch.intro (fun h => absurd rfl h) (fun _ => ?_)
        repeat (refine sd ?_)
        refine Branch.intro (fun h => absurd rfl h) (fun _ => ?_)
        refine Draw.intro [[], [], [0], [0, 1, 2], []] [0, 1, 2, 3] (by kernel_rfl) ?_
        repeat (refine sd ?_)
        refine ⟨?_, ?_⟩
        all_goals
          repeat (refine sd ?_)
          refine ⟨i + 1, by show i + 1 ≤ 12; omega, by show 12 - (i + 1) < 12 - i; omega, Le.intro [(204, (204, 0, none)), (207, (207, 0, none)), (208, (208, 0, none)), (209, (209, 0, none))] rfl ?_ rfl ?_ rfl⟩
          · exact fc
          · repeat' (first | (show AllP _; first | exact trivial | refine AllP.app ?_ ?_ | refine AllP.appd ?_ ?_ | refine AllP.cons ?_ ?_) | with_reducible rfl | with_reducible assumption | omega | (simp only [rng, Ix.val, addQ_eq, addI, sz4, by4, sz5, by5, sz22, by22, sz23, by23, sz24, by24, sz25, by25, sz26, by26, sz29, by29, sz30, by30, sz33, by33, sz34, by34, sz42, by42, sz50, by50, sz51, by51] <;> omega) | (simp only [rng, Ix.val, Int.toNat_natCast, mulE_eq, addQ_eq, addI, Option.getD_none, Option.getD_some, List.length_take, List.length_drop, List.length_append, List.length_set, List.length_replicate, sz4, by4, sz5, by5, sz22, by22, sz23, by23, sz24, by24, sz25, by25, sz26, by26, sz29, by29, sz30, by30, sz33, by33, sz34, by34, sz42, by42, sz50, by50, sz51, by51, *] <;> omega) | (simp only [Ix.val]; with_reducible assumption) | exact UInt8.toNat_lt _ | (apply Eq.trans; (with_reducible assumption); exact rfl) | exact rfl | exact fun _ _ => rfl)
            all_goals first | exact skA_key_real [] key i | exact (u16_succ n0 i).symm
  · repeat (refine sd ?_)
    refine Ret.intro .tt [] [] rfl ?_ rfl rfl ?_ rfl ?_ rfl
    · exact fc
    · exact fc
    · exact fc
set_option maxRecDepth 100000 in
set_option maxHeartbeats 1000000 in
theorem chainNextsF (P : Prop) (hP : P) (key : List UInt8) (hk : key.length = 32) (n0 : UInt16) (n : UInt8) : Sx.Fn Γ.P 3 [.bool P, .agg [(32, .a8 key), (1, .u16 n0)], .u8 n] [] (fun v _ => v = .tt) := by
  refine fn_of (Γ := Γ) (fn := Try.f3) rfl rfl rfl rfl ?_
  repeat (refine sd ?_)
  refine Call.intro fn9 [] rfl trivial rfl trivial rfl ?_
  rintro v M' rfl
  dsimp only [putT, afterM, newEnt, ren, renA, renS, renL, look, getM, getT, ev, evL, ofVal, cond_true, cond_false, Nat.beq_eq, act, isPar, ownPar, Ent.isOwn]
  repeat (refine sd ?_)
  refine Call.intro fnSuiteF [(1000, (401, 0, none)), (1001, (402, 0, none)), (1002, (403, 0, none))] rfl fc rfl trivial rfl ?_
  rintro v M' ⟨rfl, rfl⟩
  dsimp only [putT, afterM, newEnt, ren, renA, renS, renL, look, getM, getT, ev, evL, ofVal, cond_true, cond_false, Nat.beq_eq, act, isPar, ownPar, Ent.isOwn]
  repeat (refine sd ?_)
  refine Call.intro fnRefF [(1000, (411, 0, none)), (1001, (412, 0, none))] rfl fc rfl trivial rfl ?_
  rintro v M' ⟨rfl, rfl⟩
  dsimp only [putT, afterM, newEnt, ren, renA, renS, renL, look, getM, getT, ev, evL, ofVal, cond_true, cond_false, Nat.beq_eq, act, isPar, ownPar, Ent.isOwn]
  repeat (refine sd ?_)
  refine Loop.intro (σ := Nat × Nat × Nat × Nat) (fun s => s.1 ≤ 12 ∧ (skA true [] key s.1).1.length = s.2.1 ∧ s.2.1 ≤ s.2.2.1 ∧ s.2.1 ≤ s.2.2.2)
    (fun s => ([(2, .u8 n), (4, .ptr 204 0 none), (7, .ptr 207 0 none), (8, .ptr 208 0 none), (9, .ptr 209 0 none), (10, .i .i64 (s.1 : Int))],
      [(204, .mem true 0 [(32, .a8 (skA true [] key s.1).2), (1, .u16 (n0 + UInt16.ofNat s.1))]), (207, .mem true 0 [(1, .ptr 401 0 none)]), (208, .mem true 0 [(1, .ptr 411 0 none)]), (209, .mem true 0 [(32, .a8 (skA true [] key s.1).2), (1, .u16 (n0 + UInt16.ofNat s.1))]),
        (401, .mem true 0 [(1, .sl 402 0 0 s.2.1 s.2.2.1), (1, .mp 403)]), (402, .mem true (mulE (s.2.2.1 - s.2.1) 3) [(s.2.1 * 3, .arr s.2.1 3 (ttF (skA true [] key s.1).1))]), (403, .map (.si (mpL (skA true [] key s.1).1))),
        (411, .mem true 0 [(1, .sl 412 0 0 s.2.1 s.2.2.2)]), (412, .mem true (mulE (s.2.2.2 - s.2.1) 2) [(s.2.1 * 2, .arr s.2.1 2 (rtF (skA true [] key s.1).1))])]))
    (fun s => 12 - s.1) (0, 0, 0, 0) ⟨Nat.zero_le _, by show (skA true [] key 0).1.length = 0; rw [skA_zero']; rfl, Nat.le_refl _, Nat.le_refl _⟩ ?_ ?_
  · refine Le.intro [(204, (4, 0, none)), (207, (7, 0, none)), (208, (8, 0, none)), (209, (9, 0, none))] rfl ?_ rfl ?_ rfl
    · exact fc
    · repeat' (first | (show AllP _; first | exact trivial | refine AllP.app ?_ ?_ | refine AllP.appd ?_ ?_ | refine AllP.cons ?_ ?_) | with_reducible rfl | with_reducible assumption | omega | (simp only [rng, Ix.val, addQ_eq, addI, sz4, by4, sz5, by5, sz22, by22, sz23, by23, sz24, by24, sz25, by25, sz26, by26, sz29, by29, sz30, by30, sz33, by33, sz34, by34, sz42, by42, sz50, by50, sz51, by51] <;> omega) | (simp only [rng, Ix.val, Int.toNat_natCast, mulE_eq, addQ_eq, addI, Option.getD_none, Option.getD_some, List.length_take, List.length_drop, List.length_append, List.length_set, List.length_replicate, sz4, by4, sz5, by5, sz22, by22, sz23, by23, sz24, by24, sz25, by25, sz26, by26, sz29, by29, sz30, by30, sz33, by33, sz34, by34, sz42, by42, sz50, by50, sz51, by51, *] <;> omega) | (simp only [Ix.val]; with_reducible assumption) | exact UInt8.toNat_lt _ | (apply Eq.trans; (with_reducible assumption); exact rfl) | exact rfl | exact fun _ _ => rfl)
      all_goals first | (show (skA true [] key 0).2 = key; rw [skA_zero']) | exact u16_zero n0 | (show mpL (skA true [] key 0).1 = mpL []; rw [skA_zero']) | (intro q hq; exact absurd hq (Nat.not_lt_zero _))
  rintro ⟨i, nt, ct, cu⟩ ⟨hi, hnt, hct, hcu⟩
  have hi : i ≤ 12 := hi
  have hnt : (skA true [] key i).1.length = nt := hnt
  have hct : nt ≤ ct := hct
  have hcu : nt ≤ cu := hcu
  have htl := skA_tlen true [] key i
  have hval := skA_valid true tb0_valid key i
  have h0 : ([] : List Te).length = 0 := rfl
  have h12 : UInt8.ofNat 12 ≠ 0 := by decide
  have hm12 : (n % 12).toNat < 12 := by
    rw [UInt8.toNat_mod]; exact Nat.mod_lt _ (by decide)
  have hN := fnNextF (skA true [] key i).1 nt ct hnt (by omega) hct hval (skA true [] key i).2 (skA_klen true [] hk i) (n0 + UInt16.ofNat i)
  have hW := fnRNextF (skA true [] key i).1 nt cu hnt (by omega) hcu hval (skA true [] key i).2 (skA_klen true [] hk i) (n0 + UInt16.ofNat i)
  rw [← skA_key_free, ← skA_tab_free] at hN hW
  have hl1 := kyB_length (nxK (skA true [] key i).1 (skA true [] key i).2)
  have hl2 := skA_klen true [] hk (i + 1)
  unfold tbM at hN
  unfold rbM at hW
  repeat (refine sd ?_)
  refine Branch.intro (fun hc => ?_) (fun hc => ?_)
  · have hc : (i : Int) < ((n % 12).toNat : Int) := hc
    repeat (refine sd ?_)
    refine Call.intro hN [(1000, (401, 0, none)), (1001, (402, 0, none)), (1002, (403, 0, none)), (1005, (304, 0, none))] rfl fc rfl fc rfl ?_
    rintro v M' (⟨he, rfl, rfl⟩ | ⟨he, n2, c2, hn2, hc2, rfl, rfl⟩)
    · dsimp only [putT, afterM, newEnt, ren, renA, renS, renL, look, getM, getT, ev, evL, ofVal, cond_true, cond_false, Nat.beq_eq, act, isPar, ownPar, Ent.isOwn]
      repeat (refine sd ?_)
      refine Call.intro hW [(1000, (411, 0, none)), (1001, (412, 0, none)), (1005, (314, 0, none))] rfl fc rfl fc rfl ?_
      rintro v M' (⟨_, rfl, rfl⟩ | ⟨he2, _⟩)
      · dsimp only [putT, afterM, newEnt, ren, renA, renS, renL, look, getM, getT, ev, evL, ofVal, cond_true, cond_false, Nat.beq_eq, act, isPar, ownPar, Ent.isOwn]
        repeat (refine sd ?_)
        refine Branch.intro (fun h => absurd rfl h) (fun _ => ?_)
        repeat (refine sd ?_)
        refine Branch.intro (fun h => absurd ⟨rfl, rfl⟩ h) (fun _ => ?_)
        repeat (refine sd ?_)
        refine Branch.intro (fun h => absurd rfl h) (fun _ => ?_)
        repeat (refine sd ?_)
        refine Branch.intro (fun _ => ?_) (fun h => absurd (by decide) h)
        repeat (refine sd ?_)
        refine Ret.intro .tt [] [] rfl ?_ rfl rfl ?_ rfl ?_ rfl
        · exact fc
        · exact fc
        · exact fc
      · exact absurd he he2
    · dsimp only [putT, afterM, newEnt, ren, renA, renS, renL, look, getM, getT, ev, evL, ofVal, cond_true, cond_false, Nat.beq_eq, act, isPar, ownPar, Ent.isOwn]
      repeat (refine sd ?_)
      refine Call.intro hW [(1000, (411, 0, none)), (1001, (412, 0, none)), (1005, (314, 0, none))] rfl fc rfl fc rfl ?_
      rintro v M' (⟨he2, _⟩ | ⟨_, n3, c3, hn3, hc3, rfl, rfl⟩)
      · exact absurd he2 he
      · dsimp only [putT, afterM, newEnt, ren, renA, renS, renL, look, getM, getT, ev, evL, ofVal, cond_true, cond_false, Nat.beq_eq, act, isPar, ownPar, Ent.isOwn]
        obtain rfl : n3 = n2 := by rw [← hn3, hn2]
        repeat (refine sd ?_)
        refine Branch.intro (fun h => absurd rfl h) (fun _ => ?_)
        repeat (refine sd ?_)
        refine Branch.intro (fun h => absurd ⟨rfl, rfl⟩ h) (fun _ => ?_)
        repeat (refine sd ?_)
        refine Branch.intro (fun h => absurd rfl h) (fun _ => ?_)
        repeat (refine sd ?_)
        refine Branch.intro (fun h => absurd rfl h) (fun _ => ?_)
        refine Draw.intro [[], [], [0], [0, 1, 2], []] [0, 1, 2, 3] (by kernel_rfl) ?_
        repeat (refine sd ?_)
        refine ⟨?_, ?_⟩
        all_goals
          repeat (refine sd ?_)
          refine ⟨(i + 1, n3, c2, c3), ⟨by show i + 1 ≤ 12; omega, hn3, hc2, hc3⟩, by show 12 - (i + 1) < 12 - i; omega, Le.intro [(204, (204, 0, none)), (207, (207, 0, none)), (208, (208, 0, none)), (209, (209, 0, none)), (402, (304, 0, none)), (412, (314, 0, none))] rfl ?_ rfl ?_ rfl⟩
          · exact fc
          · repeat' (first | (show AllP _; first | exact trivial | refine AllP.app ?_ ?_ | refine AllP.appd ?_ ?_ | refine AllP.cons ?_ ?_) | with_reducible rfl | with_reducible assumption | omega | (simp only [rng, Ix.val, addQ_eq, addI, sz4, by4, sz5, by5, sz22, by22, sz23, by23, sz24, by24, sz25, by25, sz26, by26, sz29, by29, sz30, by30, sz33, by33, sz34, by34, sz42, by42, sz50, by50, sz51, by51] <;> omega) | (simp only [rng, Ix.val, Int.toNat_natCast, mulE_eq, addQ_eq, addI, Option.getD_none, Option.getD_some, List.length_take, List.length_drop, List.length_append, List.length_set, List.length_replicate, sz4, by4, sz5, by5, sz22, by22, sz23, by23, sz24, by24, sz25, by25, sz26, by26, sz29, by29, sz30, by30, sz33, by33, sz34, by34, sz42, by42, sz50, by50, sz51, by51, *] <;> omega) | (simp only [Ix.val]; with_reducible assumption) | exact UInt8.toNat_lt _ | (apply Eq.trans; (with_reducible assumption); exact rfl) | exact rfl | exact fun _ _ => rfl)
            all_goals first | exact (u16_succ n0 i).symm
  · repeat (refine sd ?_)
    refine Ret.intro .tt [] [] rfl ?_ rfl rfl ?_ rfl ?_ rfl
    · exact fc
    · exact fc
    · exact fc
theorem chainNexts_runs (svs : List SV) (h : AllF [isBool, isOfStruct (catF [cArr8 32, cU16]), isU8] svs) : Sx.Fn Γ.P 3 svs [] (fun v _ => v = .tt) := by
  match svs, h with
  | [_, _, _], ⟨⟨b, rfl⟩, ⟨_, ⟨_, _, ⟨key, hk, rfl⟩, ⟨_, _, ⟨n0, rfl⟩, rfl, rfl⟩, rfl⟩, rfl⟩, ⟨n, rfl⟩, _⟩ =>
    by_cases hb : b = true
    · exact chainNextsF _ hb key hk n0 n
    · exact chainNextsR _ hb key hk n0 n
end Go.Proofs.Ytkhnailodbkmhaa
