/- What the functions of the program compute. No condition. -/
import Derived.Test.YtkhnailodbkmhaaHwCh18ToCh18
set_option linter.unusedSimpArgs false
set_option linter.unusedVariables false
namespace Go.Proofs.Ytkhnailodbkmhaa
open Go Go.Sx
theorem pad_get (l : List Kp) (m k q : Nat) (hm : l.length = m) : kpF (l ++ List.replicate k kp0) q = if q < m then kpF l q else [(32, .a8 (List.replicate 32 0)), (1, .u16 0), (32, .a8 (List.replicate 32 0))] := by
  unfold kpF
  by_cases h : q < m
  · rw [if_pos h]
    simp [List.getD_eq_getElem?_getD, List.getElem?_append_left (show q < l.length by omega)]
  · rw [if_neg h]
    have : (l ++ List.replicate k kp0).getD q kp0 = kp0 := by
      rw [List.getD_eq_getElem?_getD, List.getElem?_append_right (by omega), List.getElem?_replicate]
      split <;> rfl
    rw [this]; rfl
set_option maxRecDepth 100000 in
set_option maxHeartbeats 2000000 in
theorem chainSpare (l : List Kp) (m : Nat) (hm : l.length = m) (hm2 : m ≤ maxLen) (hOK : ∀ x ∈ l, KpOK x) (a b : List UInt8) (ha : a.length = 32) (hb : b.length = 32) :
    Sx.Fn Γ.P 6 [.isl 0 m 65 [(m * 65, .arr m 65 (kpF l))], .a8 a, .a8 b] [] (fun v _ => v = .tt) := by
  have hmx : maxLen = 9223372036854775807 := by decide
  refine fn_cut [8, 12] (Γ := Γ) (fn := Try.f6) rfl rfl rfl rfl ?_
  repeat (refine sd ?_)
  refine Call.intro fn9 [] rfl trivial rfl trivial rfl ?_
  rintro v M' rfl
  dsimp only [putT, afterM, newEnt, ren, renA, renS, renL, look, getM, getT, ev, evL, ofVal, cond_true, cond_false, Nat.beq_eq, act, isPar, ownPar, Ent.isOwn]
  repeat (refine sd ?_)
  refine Branch.intro (fun hc => ?_) (fun hc => ?_)
  · repeat (refine sd ?_)
    refine Ret.intro .tt [] [] rfl ?_ rfl rfl ?_ rfl ?_ rfl
    · exact fc
    · exact fc
    · exact fc
  have hc : ¬ (m : Int) > 15 := hc
  repeat (refine sd ?_)
  have hpl : (l ++ List.replicate (40 - m) kp0).length = 40 := by rw [List.length_append, List.length_replicate]; omega
  have hpt : (l ++ List.replicate (40 - m) kp0).take m = l := by rw [List.take_append_of_le_length (by omega), List.take_of_length_le (by omega)]
  have hpo : ∀ x ∈ l ++ List.replicate (40 - m) kp0, KpOK x := by
    intro x hx
    rcases List.mem_append.1 hx with hx | hx
    · exact hOK x hx
    · rw [(List.mem_replicate.1 hx).2]; exact ⟨rfl, rfl⟩
  refine Cut.intro (σ := Unit) (fun _ => True) (fun _ => ([(0, .isl 0 m 65 [(m * 65, .arr m 65 (kpF l))]), (4, .ptr 204 0 none), (5, .ptr 205 0 none), (7, .sl 219 0 0 m 40), (8, .ptr 208 0 none), (9, .ptr 209 0 none)],
    [(204, .mem true 0 [(32, .a8 a)]), (205, .mem true 0 [(32, .a8 b)]), (208, .mem true 0 (rowK (a, 60000, a))), (209, .mem true 0 (rowK (b, 60001, b))), (219, .mem true 0 [(40 * 65, .arr 40 65 (kpF (l ++ List.replicate (40 - m) kp0))), (0, .a8 [])])])) () trivial
    (Le.intro [(204, (4, 0, none)), (205, (5, 0, none)), (208, (8, 0, none)), (209, (9, 0, none)), (219, (19, 0, none))] rfl ?_ rfl ?_ rfl) ?_
  · exact fc
  · repeat' (first | (show AllP _; first | exact trivial | refine AllP.app ?_ ?_ | refine AllP.appd ?_ ?_ | refine AllP.cons ?_ ?_) | with_reducible rfl | with_reducible assumption | omega | (simp only [rng, Ix.val, addQ_eq, addI, sz4, by4, sz5, by5, sz22, by22, sz23, by23, sz24, by24, sz25, by25, sz26, by26, sz29, by29, sz30, by30, sz42, by42, sz50, by50, sz51, by51] <;> omega) | (simp only [rng, Ix.val, Int.toNat_natCast, mulE_eq, addQ_eq, addI, Option.getD_none, Option.getD_some, List.length_take, List.length_drop, List.length_append, List.length_set, List.length_replicate, sz4, by4, sz5, by5, sz22, by22, sz23, by23, sz24, by24, sz25, by25, sz26, by26, sz29, by29, sz30, by30, sz42, by42, sz50, by50, sz51, by51, *] <;> omega) | (simp only [Ix.val]; with_reducible assumption) | exact UInt8.toNat_lt _ | (apply Eq.trans; (with_reducible assumption); exact rfl) | exact rfl | exact fun _ _ => rfl)
    intro q hq
    rw [pad_get l m _ q hm]
    unfold putF
    rw [if_neg (Nat.not_lt_zero q), Nat.zero_add, shiftF_eq, Nat.zero_add, Nat.sub_zero]
  rintro - -
  have hK1 := fn17 (l ++ List.replicate (40 - m) kp0) 40 m hpl (by omega) (by omega) hpo (a, 60000, a) ⟨ha, ha⟩
  have hK2 := fn17 (l ++ List.replicate (40 - m) kp0) 40 m hpl (by omega) (by omega) hpo (b, 60001, b) ⟨hb, hb⟩
  rw [hpt] at hK1 hK2
  unfold rowK at hK1 hK2
  unfold rowK
  repeat (refine sd ?_)
  refine Call.intro hK1 [(1003, (219, 0, none)), (1005, (305, 0, none))] rfl fc rfl fc rfl ?_
  have hA1 := fn18 l m m hm (Nat.le_refl _) (by omega) hOK a 60000 ha
  have hA2 := fn18 l m m hm (Nat.le_refl _) (by omega) hOK b 60001 hb
  rw [List.take_of_length_le (by omega)] at hA1 hA2
  have h3 : (3 : Int) ≠ 0 := by decide
  have hz : ¬ ((0 : Int) ≠ 0) := fun h => h rfl
  rintro v M' (⟨hf, rfl, rfl⟩ | ⟨hf, h16, _⟩ | ⟨hf, h16, c, hc1, rfl, rfl⟩)
  · dsimp only [putT, afterM, newEnt, ren, renA, renS, renL, look, getM, getT, ev, evL, ofVal, cond_true, cond_false, Nat.beq_eq, act, isPar, ownPar, Ent.isOwn]
    repeat (refine sd ?_)
    refine Call.intro hK2 [(1003, (219, 0, none)), (1005, (315, 0, none))] rfl fc rfl fc rfl ?_
    rintro v M' (⟨hg, rfl, rfl⟩ | ⟨hg, h16, _⟩ | ⟨hg, h16, c2, hc2, rfl, rfl⟩)
    · dsimp only [putT, afterM, newEnt, ren, renA, renS, renL, look, getM, getT, ev, evL, ofVal, cond_true, cond_false, Nat.beq_eq, act, isPar, ownPar, Ent.isOwn]
      repeat (first | (refine Branch.intro (fun _ => ?_) (fun hn => absurd rfl hn)) | (refine Branch.intro (fun hn => (by with_reducible exact False.elim hn)) (fun _ => ?_)) | (refine Branch.intro (fun _ => ?_) (fun hn => (by with_reducible exact absurd h3 hn))) | (refine Branch.intro (fun hn => (by with_reducible exact absurd hn h3)) (fun _ => ?_)) | (refine Branch.intro (fun _ => ?_) (fun hn => (by with_reducible exact absurd hz hn))) | (refine Branch.intro (fun hn => (by with_reducible exact absurd hn hz)) (fun _ => ?_)) | (refine sd ?_))
      refine Call.name [(2001, []), (0, []), (0, [])] rfl fc (CallP.intro hA1 [(1003, (2001, 0, none))] rfl fc rfl fc rfl ?_)
      rintro v M' ⟨rfl, rfl⟩
      dsimp only [putT, afterM, newEnt, ren, renA, renS, renL, look, getM, getT, ev, evL, ofVal, cond_true, cond_false, Nat.beq_eq, act, isPar, ownPar, Ent.isOwn]
      repeat (refine sd ?_)
      refine Branch.intro (fun _ => ?_) (fun h => absurd hf h)
      repeat (refine sd ?_)
      refine Ret.intro .tt [] [] rfl ?_ rfl rfl ?_ rfl ?_ rfl
      · exact fc
      · exact fc
      · exact fc
    · omega
    · dsimp only [putT, afterM, newEnt, ren, renA, renS, renL, look, getM, getT, ev, evL, ofVal, cond_true, cond_false, Nat.beq_eq, act, isPar, ownPar, Ent.isOwn]
      repeat (first | (refine Branch.intro (fun _ => ?_) (fun hn => absurd rfl hn)) | (refine Branch.intro (fun hn => (by with_reducible exact False.elim hn)) (fun _ => ?_)) | (refine Branch.intro (fun _ => ?_) (fun hn => (by with_reducible exact absurd h3 hn))) | (refine Branch.intro (fun hn => (by with_reducible exact absurd hn h3)) (fun _ => ?_)) | (refine Branch.intro (fun _ => ?_) (fun hn => (by with_reducible exact absurd hz hn))) | (refine Branch.intro (fun hn => (by with_reducible exact absurd hn hz)) (fun _ => ?_)) | (refine sd ?_))
      refine Call.name [(2001, []), (0, []), (0, [])] rfl fc (CallP.intro hA1 [(1003, (2001, 0, none))] rfl fc rfl fc rfl ?_)
      rintro v M' ⟨rfl, rfl⟩
      dsimp only [putT, afterM, newEnt, ren, renA, renS, renL, look, getM, getT, ev, evL, ofVal, cond_true, cond_false, Nat.beq_eq, act, isPar, ownPar, Ent.isOwn]
      repeat (refine sd ?_)
      refine Branch.intro (fun _ => ?_) (fun h => absurd hf h)
      repeat (refine sd ?_)
      refine Ret.intro .tt [] [] rfl ?_ rfl rfl ?_ rfl ?_ rfl
      · exact fc
      · exact fc
      · exact fc
  · omega
  · dsimp only [putT, afterM, newEnt, ren, renA, renS, renL, look, getM, getT, ev, evL, ofVal, cond_true, cond_false, Nat.beq_eq, act, isPar, ownPar, Ent.isOwn]
    repeat (refine sd ?_)
    refine Call.intro hK2 [(1003, (219, 0, none)), (1005, (315, 0, none))] rfl fc rfl fc rfl ?_
    rintro v M' (⟨hg, rfl, rfl⟩ | ⟨hg, h16, _⟩ | ⟨hg, h16, c2, hc2, rfl, rfl⟩)
    · dsimp only [putT, afterM, newEnt, ren, renA, renS, renL, look, getM, getT, ev, evL, ofVal, cond_true, cond_false, Nat.beq_eq, act, isPar, ownPar, Ent.isOwn]
      repeat (first | (refine Branch.intro (fun _ => ?_) (fun hn => absurd rfl hn)) | (refine Branch.intro (fun hn => (by with_reducible exact False.elim hn)) (fun _ => ?_)) | (refine Branch.intro (fun _ => ?_) (fun hn => (by with_reducible exact absurd h3 hn))) | (refine Branch.intro (fun hn => (by with_reducible exact absurd hn h3)) (fun _ => ?_)) | (refine Branch.intro (fun _ => ?_) (fun hn => (by with_reducible exact absurd hz hn))) | (refine Branch.intro (fun hn => (by with_reducible exact absurd hn hz)) (fun _ => ?_)) | (refine sd ?_))
      refine Call.name [(2001, []), (0, []), (0, [])] rfl fc (CallP.intro hA1 [(1003, (2001, 0, none))] rfl fc rfl fc rfl ?_)
      rintro v M' ⟨rfl, rfl⟩
      dsimp only [putT, afterM, newEnt, ren, renA, renS, renL, look, getM, getT, ev, evL, ofVal, cond_true, cond_false, Nat.beq_eq, act, isPar, ownPar, Ent.isOwn]
      repeat (refine sd ?_)
      refine Branch.intro (fun h => ?_) (fun _ => ?_)
      · have h : fiI a 60000 l ≥ 0 := h
        have hf : fiI a 60000 l = -1 := hf
        omega
      repeat (refine sd ?_)
      refine Call.name [(2002, []), (0, []), (0, [])] rfl fc (CallP.intro hA2 [(1003, (2002, 0, none))] rfl fc rfl fc rfl ?_)
      rintro v M' ⟨rfl, rfl⟩
      dsimp only [putT, afterM, newEnt, ren, renA, renS, renL, look, getM, getT, ev, evL, ofVal, cond_true, cond_false, Nat.beq_eq, act, isPar, ownPar, Ent.isOwn]
      repeat (refine sd ?_)
      refine Ret.intro .tt [] [] rfl ?_ rfl rfl ?_ rfl ?_ rfl
      · exact fc
      · repeat' (first | (show AllP _; first | exact trivial | refine AllP.app ?_ ?_ | refine AllP.appd ?_ ?_ | refine AllP.cons ?_ ?_) | with_reducible rfl | with_reducible assumption | omega | (simp only [rng, Ix.val, addQ_eq, addI, sz4, by4, sz5, by5, sz22, by22, sz23, by23, sz24, by24, sz25, by25, sz26, by26, sz29, by29, sz30, by30, sz42, by42, sz50, by50, sz51, by51] <;> omega) | (simp only [rng, Ix.val, Int.toNat_natCast, mulE_eq, addQ_eq, addI, Option.getD_none, Option.getD_some, List.length_take, List.length_drop, List.length_append, List.length_set, List.length_replicate, sz4, by4, sz5, by5, sz22, by22, sz23, by23, sz24, by24, sz25, by25, sz26, by26, sz29, by29, sz30, by30, sz42, by42, sz50, by50, sz51, by51, *] <;> omega) | (simp only [Ix.val]; with_reducible assumption) | exact UInt8.toNat_lt _ | (apply Eq.trans; (with_reducible assumption); exact rfl) | exact rfl | exact fun _ _ => rfl)
        all_goals exact hg
      · exact fc
    · omega
    · dsimp only [putT, afterM, newEnt, ren, renA, renS, renL, look, getM, getT, ev, evL, ofVal, cond_true, cond_false, Nat.beq_eq, act, isPar, ownPar, Ent.isOwn]
      repeat (first | (refine Branch.intro (fun _ => ?_) (fun hn => absurd rfl hn)) | (refine Branch.intro (fun hn => (by with_reducible exact False.elim hn)) (fun _ => ?_)) | (refine Branch.intro (fun _ => ?_) (fun hn => (by with_reducible exact absurd h3 hn))) | (refine Branch.intro (fun hn => (by with_reducible exact absurd hn h3)) (fun _ => ?_)) | (refine Branch.intro (fun _ => ?_) (fun hn => (by with_reducible exact absurd hz hn))) | (refine Branch.intro (fun hn => (by with_reducible exact absurd hn hz)) (fun _ => ?_)) | (refine sd ?_))
      have hg1 : (l ++ [(a, (60000 : UInt16), a)]).getD m kp0 = (a, 60000, a) := by rw [← hm]; exact getD_app_at _ _ _
      have hg2 : (l ++ [(b, (60001 : UInt16), b)]).getD m kp0 = (b, 60001, b) := by rw [← hm]; exact getD_app_at _ _ _
      have hg3 : (l ++ List.replicate (40 - m) kp0).getD m kp0 = (List.replicate 32 0, 0, List.replicate 32 0) := by
        rw [List.getD_eq_getElem?_getD, List.getElem?_append_right (by omega), List.getElem?_replicate, if_pos (by omega)]; rfl
      refine Cut.intro (σ := Unit) (fun _ => True) (fun _ => ([(0, .isl 0 m 65 [(m * 65, .arr m 65 (kpF l))]), (7, .sl 219 0 0 m 40), (8, .ptr 208 0 none), (9, .ptr 209 0 none), (10, .sl 305 0 0 (m + 1) c), (12, .sl 315 0 0 (m + 1) c2)],
        [(208, .mem true 0 [(32, .a8 a), (1, .u16 60000), (32, .a8 a)]), (209, .mem true 0 [(32, .a8 b), (1, .u16 60001), (32, .a8 b)]), (219, .mem false 0 [(40 * 65, .arr 40 65 (kpF (l ++ List.replicate (40 - m) kp0)))]),
         (305, .mem true (mulE (c - (m + 1)) 65) [((m + 1) * 65, .arr (m + 1) 65 (kpF (l ++ [(a, 60000, a)])))]), (315, .mem true (mulE (c2 - (m + 1)) 65) [((m + 1) * 65, .arr (m + 1) 65 (kpF (l ++ [(b, 60001, b)])))])])) () trivial
        (Le.intro [(208, (208, 0, none)), (209, (209, 0, none)), (219, (219, 0, none)), (305, (305, 0, none)), (315, (315, 0, none))] rfl ?_ rfl ?_ rfl) ?_
      · exact fc
      · exact fc
      rintro - -
      refine Draw.intro [[], [], [1], [0, 1, 2], [0, 1, 2, 3], [], [0, 1, 2, 3, 4, 5], [0, 1, 2, 3, 4, 5, 6], [0, 1, 2, 3, 4, 5, 6, 7], [0, 1, 2, 3, 4, 5, 6, 7], [0, 1, 2, 3, 4, 5, 6, 7, 9], [0, 1, 2, 3, 4, 5, 6, 7, 8, 9, 10], [0, 1, 2, 3, 4, 5, 6, 7, 8, 9, 10, 11], [0, 1, 2, 3, 4, 5, 6, 7], [0, 1, 2, 3, 4, 5, 6, 7, 8, 9, 10, 11, 12, 13], [0, 1, 2, 3, 4, 5, 6, 7, 8, 9, 10, 11, 12, 13, 14], [0, 1, 2, 3, 4, 5, 6, 7, 8, 9, 10, 11, 12, 13, 14, 15], [0, 1, 2, 3, 4, 5, 6, 7, 8, 9, 10, 11, 12, 13, 14, 15, 16], [0, 1, 2, 3, 4, 5, 6, 7, 8, 9, 10, 11, 12, 13, 14, 15, 16], [0, 1, 2, 3, 4, 5, 6, 7, 8, 9, 10, 11, 12, 13, 14, 15, 16, 18], [0, 1, 2, 3, 4, 5, 6, 7, 8, 9, 10, 11, 12, 13, 14, 15, 16, 18, 19], [0, 1, 2, 3, 4, 5, 6, 7, 8, 9, 10, 11, 12, 13, 14, 15, 16, 17, 18, 19, 20], [0, 1, 2, 3, 4, 5, 6, 7, 8, 9, 10, 11, 12, 13, 14, 15, 16], [0, 1, 2, 3, 4, 5, 6, 7, 8, 9, 10, 11, 12, 13, 14, 15, 16, 22], [0, 1, 2, 3, 4, 5, 6, 7, 8, 9, 10, 11, 12, 13, 14, 15, 16, 17, 18, 19, 20, 21, 22, 23], [0, 1, 2, 3, 4, 5, 6, 7, 8, 9, 10, 11, 12, 13, 14, 15, 16, 17, 18, 19, 20, 21, 22, 23, 24], [0, 1, 2, 3, 4, 5, 6, 7, 8, 9, 10, 11, 12, 13, 14, 15, 16], [0, 1, 2, 3, 4, 5, 6, 7, 8, 9, 10, 11, 12, 13, 14, 15, 16, 17, 18, 19, 20, 21, 22, 23, 24, 25, 26], [0, 1, 2, 3, 4, 5, 6, 7, 8, 9, 10, 11, 12, 13, 14, 15, 16, 17, 18, 19, 20, 21, 22, 23, 24, 25, 26, 27], [0, 1, 2, 3, 4, 5, 6, 7, 8, 9, 10, 11, 12, 13, 14, 15, 16, 17, 18, 19, 20, 21, 22, 23, 24, 25, 26, 27, 28]] [0, 1, 2, 3, 4, 5, 6, 7, 8, 9, 10, 11, 12, 13, 14, 15, 16, 17, 18, 19, 20, 21, 22, 23, 24, 25, 26, 27, 28, 29] (by kernel_rfl) ?_
      repeat (first | (refine Branch.intro (fun _ => ?_) (fun hn => absurd rfl hn)) | (refine Branch.intro (fun hn => (by with_reducible exact False.elim hn)) (fun _ => ?_)) | (refine Branch.intro (fun _ => ?_) (fun hn => (by with_reducible exact absurd h3 hn))) | (refine Branch.intro (fun hn => (by with_reducible exact absurd hn h3)) (fun _ => ?_)) | (refine sd ?_))
      refine Branch.intro (fun hq1 => ?_) (fun h => absurd (show ((l ++ [(a, (60000 : UInt16), a)]).getD m kp0).1 = a ∧ ((l ++ [(a, (60000 : UInt16), a)]).getD m kp0).2.1 = 60000 ∧ ((l ++ [(a, (60000 : UInt16), a)]).getD m kp0).2.2 = a by rw [hg1]; exact ⟨rfl, rfl, rfl⟩) h)
      repeat (first | (refine Branch.intro (fun _ => ?_) (fun hn => absurd rfl hn)) | (refine Branch.intro (fun hn => (by with_reducible exact False.elim hn)) (fun _ => ?_)) | (refine Branch.intro (fun _ => ?_) (fun hn => (by with_reducible exact absurd hq1 hn))) | (refine Branch.intro (fun hn => (by with_reducible exact absurd hn hq1)) (fun _ => ?_)) | (refine sd ?_))
      have hq2a : ((l ++ [(b, (60001 : UInt16), b)]).getD m kp0).1 = b ∧ ((l ++ [(b, (60001 : UInt16), b)]).getD m kp0).2.1 = 60001 ∧ ((l ++ [(b, (60001 : UInt16), b)]).getD m kp0).2.2 = b := by rw [hg2]; exact ⟨rfl, rfl, rfl⟩
      refine Branch.intro (fun hq2 => ?_) (fun h => absurd (Or.inl ⟨hq1, hq2a⟩) h)
      repeat (first | (refine Branch.intro (fun _ => ?_) (fun hn => absurd rfl hn)) | (refine Branch.intro (fun hn => (by with_reducible exact False.elim hn)) (fun _ => ?_)) | (refine Branch.intro (fun _ => ?_) (fun hn => (by with_reducible exact absurd hq1 hn))) | (refine Branch.intro (fun hn => (by with_reducible exact absurd hn hq1)) (fun _ => ?_)) | (refine Branch.intro (fun _ => ?_) (fun hn => (by with_reducible exact absurd hq2 hn))) | (refine Branch.intro (fun hn => (by with_reducible exact absurd hn hq2)) (fun _ => ?_)) | (refine sd ?_))
      refine Ret.intro .tt [] [] rfl ?_ rfl rfl ?_ rfl ?_ rfl
      · exact fc
      · repeat' (first | (show AllP _; first | exact trivial | refine AllP.app ?_ ?_ | refine AllP.appd ?_ ?_ | refine AllP.cons ?_ ?_) | with_reducible rfl | with_reducible assumption | omega | (simp only [rng, Ix.val, addQ_eq, addI, sz4, by4, sz5, by5, sz22, by22, sz23, by23, sz24, by24, sz25, by25, sz26, by26, sz29, by29, sz30, by30, sz42, by42, sz50, by50, sz51, by51] <;> omega) | (simp only [rng, Ix.val, Int.toNat_natCast, mulE_eq, addQ_eq, addI, Option.getD_none, Option.getD_some, List.length_take, List.length_drop, List.length_append, List.length_set, List.length_replicate, sz4, by4, sz5, by5, sz22, by22, sz23, by23, sz24, by24, sz25, by25, sz26, by26, sz29, by29, sz30, by30, sz42, by42, sz50, by50, sz51, by51, *] <;> omega) | (simp only [Ix.val]; with_reducible assumption) | exact UInt8.toNat_lt _ | (apply Eq.trans; (with_reducible assumption); exact rfl) | exact rfl | exact fun _ _ => rfl)
        all_goals exact Or.inl ⟨hq2, by show ((l ++ List.replicate (40 - m) kp0).getD m kp0).1 = List.replicate 32 0 ∧ ((l ++ List.replicate (40 - m) kp0).getD m kp0).2.1 = 0 ∧ ((l ++ List.replicate (40 - m) kp0).getD m kp0).2.2 = List.replicate 32 0; rw [hg3]; exact ⟨rfl, rfl, rfl⟩⟩
      · exact fc
theorem chainSpare_runs (svs : List SV) (h : AllF [isOfSl 65 zK (catF [cArr8 32, cU16, cArr8 32]), isArr8 32, isArr8 32] svs) : Sx.Fn Γ.P 6 svs [] (fun v _ => v = .tt) := by
  match svs, h with
  | [_, _, _], ⟨h1, ⟨a, ha, rfl⟩, ⟨b, hb, rfl⟩, _⟩ =>
    obtain ⟨l, hl, hOK, rfl⟩ := keptsArg h1
    exact chainSpare l l.length rfl hl hOK a b ha hb
end Go.Proofs.Ytkhnailodbkmhaa
