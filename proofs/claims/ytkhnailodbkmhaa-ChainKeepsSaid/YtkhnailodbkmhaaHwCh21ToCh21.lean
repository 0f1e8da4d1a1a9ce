/- What the functions of the program compute. No condition. -/
import Derived.Test.YtkhnailodbkmhaaHwCh18ToCh18
set_option linter.unusedSimpArgs false
set_option linter.unusedVariables false
namespace Go.Proofs.Ytkhnailodbkmhaa
open Go Go.Sx
set_option maxRecDepth 100000 in
set_option maxHeartbeats 2000000 in
theorem chainKeeps (l : List Kp) (m : Nat) (hm : l.length = m) (hm2 : m ≤ maxLen) (hOK : ∀ x ∈ l, KpOK x) (x : Kp) (hx : KpOK x) (r : List UInt8) (hr : r.length = 32) (n : UInt16) :
    Sx.Fn Γ.P 7 [.isl 0 m 65 [(m * 65, .arr m 65 (kpF l))], .agg (rowK x), .a8 r, .u16 n] [] (fun v _ => v = .tt) := by
  have hmx : maxLen = 9223372036854775807 := by decide
  refine fn_cut [1000014] (Γ := Γ) (fn := Try.f7) rfl rfl rfl rfl ?_
  unfold rowK
  repeat (refine sd ?_)
  refine Call.intro fn9 [] rfl trivial rfl trivial rfl ?_
  rintro v M' rfl
  dsimp only [putT, afterM, newEnt, ren, renA, renS, renL, look, getM, getT, ev, evL, ofVal, cond_true, cond_false, Nat.beq_eq, act, isPar, ownPar, Ent.isOwn]
  repeat (refine sd ?_)
  refine Branch.intro (fun hc => ?_) (fun hc => ?_)
  · repeat (refine sd ?_)
    refine Ret.intro .tt [] [] rfl ?_ rfl rfl ?_ rfl ?_ rfl
    · exact fc
    · exact fc
    · exact fc
  have hc : ¬ (m : Int) > 100 := hc
  have htk : l.take m = l := List.take_of_length_le (by omega)
  have hK := fn17 l m m hm (Nat.le_refl _) (by omega) hOK x hx
  have hA := fn18 l m m hm (Nat.le_refl _) (by omega) hOK x.1 x.2.1 hx.1
  have hT := fn19 l m m hm (Nat.le_refl _) (by omega) hOK r n hr
  have hA2 := fn18 l m m hm (Nat.le_refl _) (by omega) hOK r n hr
  rw [htk] at hK hA hT hA2
  unfold rowK at hK
  obtain ⟨hx1, hx2⟩ := hx
  refine Call.name [(2001, []), (0, [])] rfl fc (CallP.intro hK [(1003, (2001, 0, none)), (1005, (305, 0, none))] rfl fc rfl fc rfl ?_)
  rintro v M' (⟨hf, rfl, rfl⟩ | ⟨hf, h16, rfl, rfl⟩ | ⟨hf, h16, c, hc1, rfl, rfl⟩)
  all_goals
    dsimp only [putT, afterM, newEnt, ren, renA, renS, renL, look, getM, getT, ev, evL, ofVal, cond_true, cond_false, Nat.beq_eq, act, isPar, ownPar, Ent.isOwn]
    repeat (refine sd ?_)
    refine Join.intro (σ := Unit) (fun _ => True) (fun _ => ([(0, .isl 0 m 65 [(m * 65, .arr m 65 (kpF l))]), (3, .u16 n), (6, .ptr 206 0 none)], [(206, .mem true 0 [(32, .a8 r)])])) ?_ ?_
  · repeat (refine sd ?_)
    refine Call.name [(2002, []), (0, []), (0, [])] rfl fc (CallP.intro hA [(1003, (2002, 0, none))] rfl fc rfl fc rfl ?_)
    rintro v M' ⟨rfl, rfl⟩
    dsimp only [putT, afterM, newEnt, ren, renA, renS, renL, look, getM, getT, ev, evL, ofVal, cond_true, cond_false, Nat.beq_eq, act, isPar, ownPar, Ent.isOwn]
    repeat (refine sd ?_)
    refine Branch.intro (fun _ => ?_) (fun h => absurd hf h)
    repeat (refine sd ?_)
    refine Branch.intro (fun h => absurd rfl h) (fun _ => ?_)
    repeat (refine sd ?_)
    refine Branch.intro (fun h => absurd rfl h) (fun _ => ?_)
    repeat (refine sd ?_)
    refine ⟨(), trivial, Le.intro [(206, (6, 0, none))] rfl ?_ rfl ?_ rfl⟩
    · exact fc
    · exact fc
  · rintro - -
    repeat (refine sd ?_)
    refine Call.name [(2003, []), (0, []), (0, [])] rfl fc (CallP.intro hT [(1003, (2003, 0, none)), (1005, (315, 0, none))] rfl fc rfl fc rfl ?_)
    rintro v M' (⟨hg, c2, hc2, rfl, rfl⟩ | ⟨i, hi, hg, hi2, rfl, rfl⟩ | ⟨i, hi, hg, hi2, c2, hc2, rfl, rfl⟩)
    · dsimp only [putT, afterM, newEnt, ren, renA, renS, renL, look, getM, getT, ev, evL, ofVal, cond_true, cond_false, Nat.beq_eq, act, isPar, ownPar, Ent.isOwn]
      repeat (refine sd ?_)
      refine Call.name [(2004, []), (0, []), (0, [])] rfl fc (CallP.intro hA2 [(1003, (2004, 0, none))] rfl fc rfl fc rfl ?_)
      rintro v M' ⟨rfl, rfl⟩
      dsimp only [putT, afterM, newEnt, ren, renA, renS, renL, look, getM, getT, ev, evL, ofVal, cond_true, cond_false, Nat.beq_eq, act, isPar, ownPar, Ent.isOwn]
      repeat (refine sd ?_)
      refine Branch.intro (fun _ => ?_) (fun h => absurd (show fiI r n l < 0 by omega) h)
      repeat (refine sd ?_)
      refine Branch.intro (fun _ => ?_) (fun h => absurd rfl h)
      repeat (refine sd ?_)
      have hSm := fn16 l l m m m m hm (Nat.le_refl _) (by omega) hm (Nat.le_refl _) (by omega) hOK hOK
      refine Call.name [(0, []), (2005, [])] rfl fc (CallP.intro hSm [(1003, (315, 0, none)), (1004, (2005, 0, none))] rfl fc rfl fc rfl ?_)
      rintro v M' ⟨rfl, rfl⟩
      dsimp only [putT, afterM, newEnt, ren, renA, renS, renL, look, getM, getT, ev, evL, ofVal, cond_true, cond_false, Nat.beq_eq, act, isPar, ownPar, Ent.isOwn]
      repeat (refine sd ?_)
      refine Ret.intro .tt [] [] rfl ?_ rfl rfl ?_ rfl ?_ rfl
      · exact fc
      · exact fc
      · exact fc
    · have hone : l.take i = (l.eraseIdx i).take (m - 1) := by
        rw [List.eraseIdx_eq_take_drop_succ, List.drop_of_length_le (by omega), List.append_nil, List.take_take, show min (m - 1) i = i by omega]
      have hgi : ¬ fiI r n l < 0 := by omega
      obtain ⟨hy1, hy2⟩ := hOK _ (getD_mem kp0 (L := l) (i := i) (by omega))
      dsimp only [putT, afterM, newEnt, ren, renA, renS, renL, look, getM, getT, ev, evL, ofVal, cond_true, cond_false, Nat.beq_eq, act, isPar, ownPar, Ent.isOwn]
      repeat (refine sd ?_)
      refine Call.name [(2004, []), (0, []), (0, [])] rfl fc (CallP.intro hA2 [(1003, (2004, 0, none))] rfl fc rfl fc rfl ?_)
      rintro v M' ⟨rfl, rfl⟩
      dsimp only [putT, afterM, newEnt, ren, renA, renS, renL, look, getM, getT, ev, evL, ofVal, cond_true, cond_false, Nat.beq_eq, act, isPar, ownPar, Ent.isOwn]
      rw [hg]
      repeat (refine sd ?_)
      refine Branch.intro (fun h => absurd (show (i : Int) < 0 from h) (by omega)) (fun _ => ?_)
      have hWo := fn20 l m m hm (Nat.le_refl _) (by omega) hOK i hi
      refine Draw.intro [[], [0], [0, 1], [0, 1], [0, 1], [0, 1, 3, 4], [0, 1, 3, 4, 5], [0, 1, 3, 4, 5, 6], [0, 1, 2, 3, 4, 5, 6, 7], [0, 1, 2, 3, 4, 5, 6, 7, 8], [0, 1, 2, 3, 4, 5, 6, 7, 8, 9], [0, 1, 2, 3, 4, 5, 6, 7, 8, 9, 10], [0, 1, 2, 3, 4, 5, 6, 7, 8, 9, 10], [0, 1, 2, 3, 4, 5, 6, 7, 8, 9, 10], [0, 1, 2, 3, 4, 5, 6, 7, 8, 9, 10, 12, 13], [0, 1, 2, 3, 4, 5, 6, 7, 8, 9, 10, 11, 12, 13, 14], [0, 1, 2, 3, 4, 5, 6, 7, 8, 9, 10, 11, 12, 13, 14, 15], [0, 1, 2, 3, 4, 5, 6, 7, 8, 9, 10, 11, 12, 13, 14, 15, 16]] [0, 1, 2, 3, 4, 5, 6, 7, 8, 9, 10, 11, 12, 13, 14, 15, 16, 17] (by kernel_rfl) ?_
      repeat (refine sdn ?_)
      refine Branch.intro (fun hq => ?_) (fun h => absurd rfl h)
      repeat (first | (refine Branch.intro (fun _ => ?_) (fun hn => absurd rfl hn)) | (refine Branch.intro (fun hn => (by with_reducible exact False.elim hn)) (fun _ => ?_)) | (refine Branch.intro (fun _ => ?_) (fun hn => (by with_reducible exact absurd hq hn))) | (refine Branch.intro (fun hn => (by with_reducible exact absurd hn hq)) (fun _ => ?_)) | (refine sdn ?_))
      rw [htk] at hWo
      refine Call.name [(2006, []), (0, [])] rfl fc (CallP.intro hWo [(1003, (2006, 0, none)), (1005, (325, 0, none))] rfl fcn rfl fc rfl ?_)
      rintro v M' ⟨c4, hc4, hel, rfl, rfl⟩
      have hOe : ∀ y ∈ l.eraseIdx i, KpOK y := fun y hy => hOK y (List.mem_of_mem_eraseIdx hy)
      have hSm : Sx.Fn Γ.P 16 _ _ _ := fn16 l (l.eraseIdx i) (i + 1) i (m - 1) (m - 1) (by omega) (by omega) (by omega) hel (Nat.le_refl _) (by omega) hOK hOe
      dsimp only [putT, afterM, newEnt, ren, renA, renS, renL, look, getM, getT, ev, evL, ofVal, cond_true, cond_false, Nat.beq_eq, act, isPar, ownPar, Ent.isOwn]
      repeat (first | (refine Branch.intro (fun _ => ?_) (fun hn => absurd rfl hn)) | (refine Branch.intro (fun hn => (by with_reducible exact False.elim hn)) (fun _ => ?_)) | (refine Branch.intro (fun _ => ?_) (fun hn => (by with_reducible exact absurd hq hn))) | (refine Branch.intro (fun hn => (by with_reducible exact absurd hn hq)) (fun _ => ?_)) | (refine sdn ?_))
      refine Call.intro hSm [(1003, (2003, 0, none)), (1004, (325, 0, none))] rfl fcn rfl fc rfl ?_
      rintro v M' ⟨rfl, rfl⟩
      dsimp only [putT, afterM, newEnt, ren, renA, renS, renL, look, getM, getT, ev, evL, ofVal, cond_true, cond_false, Nat.beq_eq, act, isPar, ownPar, Ent.isOwn]
      repeat (first | (refine Branch.intro (fun _ => ?_) (fun hn => absurd rfl hn)) | (refine Branch.intro (fun hn => (by with_reducible exact False.elim hn)) (fun _ => ?_)) | (refine Branch.intro (fun _ => ?_) (fun hn => (by with_reducible exact absurd hq hn))) | (refine Branch.intro (fun hn => (by with_reducible exact absurd hn hq)) (fun _ => ?_)) | (refine sdn ?_))
      refine Ret.intro .tt [] [] rfl ?_ rfl rfl ?_ rfl ?_ rfl
      · exact fc
      · repeat' (first | (show AllP _; first | exact trivial | refine AllP.app ?_ ?_ | refine AllP.appd ?_ ?_ | refine AllP.cons ?_ ?_) | with_reducible rfl | with_reducible assumption | omega | (simp only [rng, Ix.val, addQ_eq, addI, sz3, by3, sz4, by4, sz5, by5, sz22, by22, sz23, by23, sz24, by24, sz25, by25, sz26, by26, sz29, by29, sz30, by30, sz42, by42, sz50, by50, sz51, by51] <;> omega) | (simp only [rng, Ix.val, Int.toNat_natCast, mulE_eq, addQ_eq, addI, Option.getD_none, Option.getD_some, List.length_take, List.length_drop, List.length_append, List.length_set, List.length_replicate, sz3, by3, sz4, by4, sz5, by5, sz22, by22, sz23, by23, sz24, by24, sz25, by25, sz26, by26, sz29, by29, sz30, by30, sz42, by42, sz50, by50, sz51, by51, *] <;> omega) | (simp only [Ix.val]; with_reducible assumption) | exact UInt8.toNat_lt _ | (apply Eq.trans; (with_reducible assumption); exact rfl) | exact rfl | exact fun _ _ => rfl)
        all_goals exact Or.inl ⟨hq, hone⟩
      · exact fc
    · have hel0 : (l.eraseIdx i).length = m - 1 := by rw [List.length_eraseIdx, if_pos (by omega), hm]
      have hgi : ¬ fiI r n l < 0 := by omega
      obtain ⟨hy1, hy2⟩ := hOK _ (getD_mem kp0 (L := l) (i := i) (by omega))
      dsimp only [putT, afterM, newEnt, ren, renA, renS, renL, look, getM, getT, ev, evL, ofVal, cond_true, cond_false, Nat.beq_eq, act, isPar, ownPar, Ent.isOwn]
      repeat (refine sd ?_)
      refine Call.name [(2004, []), (0, []), (0, [])] rfl fc (CallP.intro hA2 [(1003, (2004, 0, none))] rfl fc rfl fc rfl ?_)
      rintro v M' ⟨rfl, rfl⟩
      dsimp only [putT, afterM, newEnt, ren, renA, renS, renL, look, getM, getT, ev, evL, ofVal, cond_true, cond_false, Nat.beq_eq, act, isPar, ownPar, Ent.isOwn]
      rw [hg]
      repeat (refine sd ?_)
      refine Branch.intro (fun h => absurd (show (i : Int) < 0 from h) (by omega)) (fun _ => ?_)
      have hWo := fn20 l m m hm (Nat.le_refl _) (by omega) hOK i hi
      refine Draw.intro [[], [0], [0, 1], [0, 1], [0, 1], [0, 1, 3, 4], [0, 1, 3, 4, 5], [0, 1, 3, 4, 5, 6], [0, 1, 2, 3, 4, 5, 6, 7], [0, 1, 2, 3, 4, 5, 6, 7, 8], [0, 1, 2, 3, 4, 5, 6, 7, 8, 9], [0, 1, 2, 3, 4, 5, 6, 7, 8, 9, 10], [0, 1, 2, 3, 4, 5, 6, 7, 8, 9, 10], [0, 1, 2, 3, 4, 5, 6, 7, 8, 9, 10], [0, 1, 2, 3, 4, 5, 6, 7, 8, 9, 10, 12, 13], [0, 1, 2, 3, 4, 5, 6, 7, 8, 9, 10, 11, 12, 13, 14], [0, 1, 2, 3, 4, 5, 6, 7, 8, 9, 10, 11, 12, 13, 14, 15], [0, 1, 2, 3, 4, 5, 6, 7, 8, 9, 10, 11, 12, 13, 14, 15, 16]] [0, 1, 2, 3, 4, 5, 6, 7, 8, 9, 10, 11, 12, 13, 14, 15, 16, 17] (by kernel_rfl) ?_
      repeat (refine sdn ?_)
      refine Branch.intro (fun hq => ?_) (fun h => absurd rfl h)
      repeat (first | (refine Branch.intro (fun _ => ?_) (fun hn => absurd rfl hn)) | (refine Branch.intro (fun hn => (by with_reducible exact False.elim hn)) (fun _ => ?_)) | (refine Branch.intro (fun _ => ?_) (fun hn => (by with_reducible exact absurd hq hn))) | (refine Branch.intro (fun hn => (by with_reducible exact absurd hn hq)) (fun _ => ?_)) | (refine sdn ?_))
      rw [htk] at hWo
      refine Call.name [(2006, []), (0, [])] rfl fc (CallP.intro hWo [(1003, (2006, 0, none)), (1005, (325, 0, none))] rfl fcn rfl fc rfl ?_)
      rintro v M' ⟨c4, hc4, hel, rfl, rfl⟩
      have hOe : ∀ y ∈ l.eraseIdx i, KpOK y := fun y hy => hOK y (List.mem_of_mem_eraseIdx hy)
      have hSm : Sx.Fn Γ.P 16 _ _ _ := fn16 (l.eraseIdx i) (l.eraseIdx i) (m - 1) (m - 1) (m - 1) (m - 1) hel0 (by omega) (by omega) hel (Nat.le_refl _) (by omega) hOe hOe
      dsimp only [putT, afterM, newEnt, ren, renA, renS, renL, look, getM, getT, ev, evL, ofVal, cond_true, cond_false, Nat.beq_eq, act, isPar, ownPar, Ent.isOwn]
      repeat (first | (refine Branch.intro (fun _ => ?_) (fun hn => absurd rfl hn)) | (refine Branch.intro (fun hn => (by with_reducible exact False.elim hn)) (fun _ => ?_)) | (refine Branch.intro (fun _ => ?_) (fun hn => (by with_reducible exact absurd hq hn))) | (refine Branch.intro (fun hn => (by with_reducible exact absurd hn hq)) (fun _ => ?_)) | (refine sdn ?_))
      refine Call.intro hSm [(1003, (315, 0, none)), (1004, (325, 0, none))] rfl fcn rfl fc rfl ?_
      rintro v M' ⟨rfl, rfl⟩
      dsimp only [putT, afterM, newEnt, ren, renA, renS, renL, look, getM, getT, ev, evL, ofVal, cond_true, cond_false, Nat.beq_eq, act, isPar, ownPar, Ent.isOwn]
      repeat (first | (refine Branch.intro (fun _ => ?_) (fun hn => absurd rfl hn)) | (refine Branch.intro (fun hn => (by with_reducible exact False.elim hn)) (fun _ => ?_)) | (refine Branch.intro (fun _ => ?_) (fun hn => (by with_reducible exact absurd hq hn))) | (refine Branch.intro (fun hn => (by with_reducible exact absurd hn hq)) (fun _ => ?_)) | (refine sdn ?_))
      refine Ret.intro .tt [] [] rfl ?_ rfl rfl ?_ rfl ?_ rfl
      · exact fc
      · repeat' (first | (show AllP _; first | exact trivial | refine AllP.app ?_ ?_ | refine AllP.appd ?_ ?_ | refine AllP.cons ?_ ?_) | with_reducible rfl | with_reducible assumption | omega | (simp only [rng, Ix.val, addQ_eq, addI, sz3, by3, sz4, by4, sz5, by5, sz22, by22, sz23, by23, sz24, by24, sz25, by25, sz26, by26, sz29, by29, sz30, by30, sz42, by42, sz50, by50, sz51, by51] <;> omega) | (simp only [rng, Ix.val, Int.toNat_natCast, mulE_eq, addQ_eq, addI, Option.getD_none, Option.getD_some, List.length_take, List.length_drop, List.length_append, List.length_set, List.length_replicate, sz3, by3, sz4, by4, sz5, by5, sz22, by22, sz23, by23, sz24, by24, sz25, by25, sz26, by26, sz29, by29, sz30, by30, sz42, by42, sz50, by50, sz51, by51, *] <;> omega) | (simp only [Ix.val]; with_reducible assumption) | exact UInt8.toNat_lt _ | (apply Eq.trans; (with_reducible assumption); exact rfl) | exact rfl | exact fun _ _ => rfl)
        all_goals exact Or.inl ⟨hq, rfl⟩
      · exact fc
  · repeat (refine sd ?_)
    refine Call.name [(2002, []), (0, []), (0, [])] rfl fc (CallP.intro hA [(1003, (2002, 0, none))] rfl fc rfl fc rfl ?_)
    rintro v M' ⟨rfl, rfl⟩
    dsimp only [putT, afterM, newEnt, ren, renA, renS, renL, look, getM, getT, ev, evL, ofVal, cond_true, cond_false, Nat.beq_eq, act, isPar, ownPar, Ent.isOwn]
    repeat (refine sd ?_)
    refine Branch.intro (fun h => ?_) (fun _ => ?_)
    · have h : 0 ≤ fiI x.1 x.2.1 l := h
      omega
    repeat (refine sd ?_)
    refine Branch.intro (fun _ => ?_) (fun h => absurd (show (m : Int) ≥ 16 by omega) h)
    repeat (refine sd ?_)
    refine Branch.intro (fun h => absurd rfl h) (fun _ => ?_)
    repeat (refine sd ?_)
    refine Branch.intro (fun h => absurd rfl h) (fun _ => ?_)
    repeat (refine sd ?_)
    refine ⟨(), trivial, Le.intro [(206, (6, 0, none))] rfl ?_ rfl ?_ rfl⟩
    · exact fc
    · exact fc
  · rintro - -
    repeat (refine sd ?_)
    refine Call.name [(2003, []), (0, []), (0, [])] rfl fc (CallP.intro hT [(1003, (2003, 0, none)), (1005, (315, 0, none))] rfl fc rfl fc rfl ?_)
    rintro v M' (⟨hg, c2, hc2, rfl, rfl⟩ | ⟨i, hi, hg, hi2, rfl, rfl⟩ | ⟨i, hi, hg, hi2, c2, hc2, rfl, rfl⟩)
    · dsimp only [putT, afterM, newEnt, ren, renA, renS, renL, look, getM, getT, ev, evL, ofVal, cond_true, cond_false, Nat.beq_eq, act, isPar, ownPar, Ent.isOwn]
      repeat (refine sd ?_)
      refine Call.name [(2004, []), (0, []), (0, [])] rfl fc (CallP.intro hA2 [(1003, (2004, 0, none))] rfl fc rfl fc rfl ?_)
      rintro v M' ⟨rfl, rfl⟩
      dsimp only [putT, afterM, newEnt, ren, renA, renS, renL, look, getM, getT, ev, evL, ofVal, cond_true, cond_false, Nat.beq_eq, act, isPar, ownPar, Ent.isOwn]
      repeat (refine sd ?_)
      refine Branch.intro (fun _ => ?_) (fun h => absurd (show fiI r n l < 0 by omega) h)
      repeat (refine sd ?_)
      refine Branch.intro (fun _ => ?_) (fun h => absurd rfl h)
      repeat (refine sd ?_)
      have hSm := fn16 l l m m m m hm (Nat.le_refl _) (by omega) hm (Nat.le_refl _) (by omega) hOK hOK
      refine Call.name [(0, []), (2005, [])] rfl fc (CallP.intro hSm [(1003, (315, 0, none)), (1004, (2005, 0, none))] rfl fc rfl fc rfl ?_)
      rintro v M' ⟨rfl, rfl⟩
      dsimp only [putT, afterM, newEnt, ren, renA, renS, renL, look, getM, getT, ev, evL, ofVal, cond_true, cond_false, Nat.beq_eq, act, isPar, ownPar, Ent.isOwn]
      repeat (refine sd ?_)
      refine Ret.intro .tt [] [] rfl ?_ rfl rfl ?_ rfl ?_ rfl
      · exact fc
      · exact fc
      · exact fc
    · have hone : l.take i = (l.eraseIdx i).take (m - 1) := by
        rw [List.eraseIdx_eq_take_drop_succ, List.drop_of_length_le (by omega), List.append_nil, List.take_take, show min (m - 1) i = i by omega]
      have hgi : ¬ fiI r n l < 0 := by omega
      obtain ⟨hy1, hy2⟩ := hOK _ (getD_mem kp0 (L := l) (i := i) (by omega))
      dsimp only [putT, afterM, newEnt, ren, renA, renS, renL, look, getM, getT, ev, evL, ofVal, cond_true, cond_false, Nat.beq_eq, act, isPar, ownPar, Ent.isOwn]
      repeat (refine sd ?_)
      refine Call.name [(2004, []), (0, []), (0, [])] rfl fc (CallP.intro hA2 [(1003, (2004, 0, none))] rfl fc rfl fc rfl ?_)
      rintro v M' ⟨rfl, rfl⟩
      dsimp only [putT, afterM, newEnt, ren, renA, renS, renL, look, getM, getT, ev, evL, ofVal, cond_true, cond_false, Nat.beq_eq, act, isPar, ownPar, Ent.isOwn]
      rw [hg]
      repeat (refine sd ?_)
      refine Branch.intro (fun h => absurd (show (i : Int) < 0 from h) (by omega)) (fun _ => ?_)
      have hWo := fn20 l m m hm (Nat.le_refl _) (by omega) hOK i hi
      refine Draw.intro [[], [0], [0, 1], [0, 1], [0, 1], [0, 1, 3, 4], [0, 1, 3, 4, 5], [0, 1, 3, 4, 5, 6], [0, 1, 2, 3, 4, 5, 6, 7], [0, 1, 2, 3, 4, 5, 6, 7, 8], [0, 1, 2, 3, 4, 5, 6, 7, 8, 9], [0, 1, 2, 3, 4, 5, 6, 7, 8, 9, 10], [0, 1, 2, 3, 4, 5, 6, 7, 8, 9, 10], [0, 1, 2, 3, 4, 5, 6, 7, 8, 9, 10], [0, 1, 2, 3, 4, 5, 6, 7, 8, 9, 10, 12, 13], [0, 1, 2, 3, 4, 5, 6, 7, 8, 9, 10, 11, 12, 13, 14], [0, 1, 2, 3, 4, 5, 6, 7, 8, 9, 10, 11, 12, 13, 14, 15], [0, 1, 2, 3, 4, 5, 6, 7, 8, 9, 10, 11, 12, 13, 14, 15, 16]] [0, 1, 2, 3, 4, 5, 6, 7, 8, 9, 10, 11, 12, 13, 14, 15, 16, 17] (by kernel_rfl) ?_
      repeat (refine sdn ?_)
      refine Branch.intro (fun hq => ?_) (fun h => absurd rfl h)
      repeat (first | (refine Branch.intro (fun _ => ?_) (fun hn => absurd rfl hn)) | (refine Branch.intro (fun hn => (by with_reducible exact False.elim hn)) (fun _ => ?_)) | (refine Branch.intro (fun _ => ?_) (fun hn => (by with_reducible exact absurd hq hn))) | (refine Branch.intro (fun hn => (by with_reducible exact absurd hn hq)) (fun _ => ?_)) | (refine sdn ?_))
      rw [htk] at hWo
      refine Call.name [(2006, []), (0, [])] rfl fc (CallP.intro hWo [(1003, (2006, 0, none)), (1005, (325, 0, none))] rfl fcn rfl fc rfl ?_)
      rintro v M' ⟨c4, hc4, hel, rfl, rfl⟩
      have hOe : ∀ y ∈ l.eraseIdx i, KpOK y := fun y hy => hOK y (List.mem_of_mem_eraseIdx hy)
      have hSm : Sx.Fn Γ.P 16 _ _ _ := fn16 l (l.eraseIdx i) (i + 1) i (m - 1) (m - 1) (by omega) (by omega) (by omega) hel (Nat.le_refl _) (by omega) hOK hOe
      dsimp only [putT, afterM, newEnt, ren, renA, renS, renL, look, getM, getT, ev, evL, ofVal, cond_true, cond_false, Nat.beq_eq, act, isPar, ownPar, Ent.isOwn]
      repeat (first | (refine Branch.intro (fun _ => ?_) (fun hn => absurd rfl hn)) | (refine Branch.intro (fun hn => (by with_reducible exact False.elim hn)) (fun _ => ?_)) | (refine Branch.intro (fun _ => ?_) (fun hn => (by with_reducible exact absurd hq hn))) | (refine Branch.intro (fun hn => (by with_reducible exact absurd hn hq)) (fun _ => ?_)) | (refine sdn ?_))
      refine Call.intro hSm [(1003, (2003, 0, none)), (1004, (325, 0, none))] rfl fcn rfl fc rfl ?_
      rintro v M' ⟨rfl, rfl⟩
      dsimp only [putT, afterM, newEnt, ren, renA, renS, renL, look, getM, getT, ev, evL, ofVal, cond_true, cond_false, Nat.beq_eq, act, isPar, ownPar, Ent.isOwn]
      repeat (first | (refine Branch.intro (fun _ => ?_) (fun hn => absurd rfl hn)) | (refine Branch.intro (fun hn => (by with_reducible exact False.elim hn)) (fun _ => ?_)) | (refine Branch.intro (fun _ => ?_) (fun hn => (by with_reducible exact absurd hq hn))) | (refine Branch.intro (fun hn => (by with_reducible exact absurd hn hq)) (fun _ => ?_)) | (refine sdn ?_))
      refine Ret.intro .tt [] [] rfl ?_ rfl rfl ?_ rfl ?_ rfl
      · exact fc
      · repeat' (first | (show AllP _; first | exact trivial | refine AllP.app ?_ ?_ | refine AllP.appd ?_ ?_ | refine AllP.cons ?_ ?_) | with_reducible rfl | with_reducible assumption | omega | (simp only [rng, Ix.val, addQ_eq, addI, sz3, by3, sz4, by4, sz5, by5, sz22, by22, sz23, by23, sz24, by24, sz25, by25, sz26, by26, sz29, by29, sz30, by30, sz42, by42, sz50, by50, sz51, by51] <;> omega) | (simp only [rng, Ix.val, Int.toNat_natCast, mulE_eq, addQ_eq, addI, Option.getD_none, Option.getD_some, List.length_take, List.length_drop, List.length_append, List.length_set, List.length_replicate, sz3, by3, sz4, by4, sz5, by5, sz22, by22, sz23, by23, sz24, by24, sz25, by25, sz26, by26, sz29, by29, sz30, by30, sz42, by42, sz50, by50, sz51, by51, *] <;> omega) | (simp only [Ix.val]; with_reducible assumption) | exact UInt8.toNat_lt _ | (apply Eq.trans; (with_reducible assumption); exact rfl) | exact rfl | exact fun _ _ => rfl)
        all_goals exact Or.inl ⟨hq, hone⟩
      · exact fc
    · have hel0 : (l.eraseIdx i).length = m - 1 := by rw [List.length_eraseIdx, if_pos (by omega), hm]
      have hgi : ¬ fiI r n l < 0 := by omega
      obtain ⟨hy1, hy2⟩ := hOK _ (getD_mem kp0 (L := l) (i := i) (by omega))
      dsimp only [putT, afterM, newEnt, ren, renA, renS, renL, look, getM, getT, ev, evL, ofVal, cond_true, cond_false, Nat.beq_eq, act, isPar, ownPar, Ent.isOwn]
      repeat (refine sd ?_)
      refine Call.name [(2004, []), (0, []), (0, [])] rfl fc (CallP.intro hA2 [(1003, (2004, 0, none))] rfl fc rfl fc rfl ?_)
      rintro v M' ⟨rfl, rfl⟩
      dsimp only [putT, afterM, newEnt, ren, renA, renS, renL, look, getM, getT, ev, evL, ofVal, cond_true, cond_false, Nat.beq_eq, act, isPar, ownPar, Ent.isOwn]
      rw [hg]
      repeat (refine sd ?_)
      refine Branch.intro (fun h => absurd (show (i : Int) < 0 from h) (by omega)) (fun _ => ?_)
      have hWo := fn20 l m m hm (Nat.le_refl _) (by omega) hOK i hi
      refine Draw.intro [[], [0], [0, 1], [0, 1], [0, 1], [0, 1, 3, 4], [0, 1, 3, 4, 5], [0, 1, 3, 4, 5, 6], [0, 1, 2, 3, 4, 5, 6, 7], [0, 1, 2, 3, 4, 5, 6, 7, 8], [0, 1, 2, 3, 4, 5, 6, 7, 8, 9], [0, 1, 2, 3, 4, 5, 6, 7, 8, 9, 10], [0, 1, 2, 3, 4, 5, 6, 7, 8, 9, 10], [0, 1, 2, 3, 4, 5, 6, 7, 8, 9, 10], [0, 1, 2, 3, 4, 5, 6, 7, 8, 9, 10, 12, 13], [0, 1, 2, 3, 4, 5, 6, 7, 8, 9, 10, 11, 12, 13, 14], [0, 1, 2, 3, 4, 5, 6, 7, 8, 9, 10, 11, 12, 13, 14, 15], [0, 1, 2, 3, 4, 5, 6, 7, 8, 9, 10, 11, 12, 13, 14, 15, 16]] [0, 1, 2, 3, 4, 5, 6, 7, 8, 9, 10, 11, 12, 13, 14, 15, 16, 17] (by kernel_rfl) ?_
      repeat (refine sdn ?_)
      refine Branch.intro (fun hq => ?_) (fun h => absurd rfl h)
      repeat (first | (refine Branch.intro (fun _ => ?_) (fun hn => absurd rfl hn)) | (refine Branch.intro (fun hn => (by with_reducible exact False.elim hn)) (fun _ => ?_)) | (refine Branch.intro (fun _ => ?_) (fun hn => (by with_reducible exact absurd hq hn))) | (refine Branch.intro (fun hn => (by with_reducible exact absurd hn hq)) (fun _ => ?_)) | (refine sdn ?_))
      rw [htk] at hWo
      refine Call.name [(2006, []), (0, [])] rfl fc (CallP.intro hWo [(1003, (2006, 0, none)), (1005, (325, 0, none))] rfl fcn rfl fc rfl ?_)
      rintro v M' ⟨c4, hc4, hel, rfl, rfl⟩
      have hOe : ∀ y ∈ l.eraseIdx i, KpOK y := fun y hy => hOK y (List.mem_of_mem_eraseIdx hy)
      have hSm : Sx.Fn Γ.P 16 _ _ _ := fn16 (l.eraseIdx i) (l.eraseIdx i) (m - 1) (m - 1) (m - 1) (m - 1) hel0 (by omega) (by omega) hel (Nat.le_refl _) (by omega) hOe hOe
      dsimp only [putT, afterM, newEnt, ren, renA, renS, renL, look, getM, getT, ev, evL, ofVal, cond_true, cond_false, Nat.beq_eq, act, isPar, ownPar, Ent.isOwn]
      repeat (first | (refine Branch.intro (fun _ => ?_) (fun hn => absurd rfl hn)) | (refine Branch.intro (fun hn => (by with_reducible exact False.elim hn)) (fun _ => ?_)) | (refine Branch.intro (fun _ => ?_) (fun hn => (by with_reducible exact absurd hq hn))) | (refine Branch.intro (fun hn => (by with_reducible exact absurd hn hq)) (fun _ => ?_)) | (refine sdn ?_))
      refine Call.intro hSm [(1003, (315, 0, none)), (1004, (325, 0, none))] rfl fcn rfl fc rfl ?_
      rintro v M' ⟨rfl, rfl⟩
      dsimp only [putT, afterM, newEnt, ren, renA, renS, renL, look, getM, getT, ev, evL, ofVal, cond_true, cond_false, Nat.beq_eq, act, isPar, ownPar, Ent.isOwn]
      repeat (first | (refine Branch.intro (fun _ => ?_) (fun hn => absurd rfl hn)) | (refine Branch.intro (fun hn => (by with_reducible exact False.elim hn)) (fun _ => ?_)) | (refine Branch.intro (fun _ => ?_) (fun hn => (by with_reducible exact absurd hq hn))) | (refine Branch.intro (fun hn => (by with_reducible exact absurd hn hq)) (fun _ => ?_)) | (refine sdn ?_))
      refine Ret.intro .tt [] [] rfl ?_ rfl rfl ?_ rfl ?_ rfl
      · exact fc
      · repeat' (first | (show AllP _; first | exact trivial | refine AllP.app ?_ ?_ | refine AllP.appd ?_ ?_ | refine AllP.cons ?_ ?_) | with_reducible rfl | with_reducible assumption | omega | (simp only [rng, Ix.val, addQ_eq, addI, sz3, by3, sz4, by4, sz5, by5, sz22, by22, sz23, by23, sz24, by24, sz25, by25, sz26, by26, sz29, by29, sz30, by30, sz42, by42, sz50, by50, sz51, by51] <;> omega) | (simp only [rng, Ix.val, Int.toNat_natCast, mulE_eq, addQ_eq, addI, Option.getD_none, Option.getD_some, List.length_take, List.length_drop, List.length_append, List.length_set, List.length_replicate, sz3, by3, sz4, by4, sz5, by5, sz22, by22, sz23, by23, sz24, by24, sz25, by25, sz26, by26, sz29, by29, sz30, by30, sz42, by42, sz50, by50, sz51, by51, *] <;> omega) | (simp only [Ix.val]; with_reducible assumption) | exact UInt8.toNat_lt _ | (apply Eq.trans; (with_reducible assumption); exact rfl) | exact rfl | exact fun _ _ => rfl)
        all_goals exact Or.inl ⟨hq, rfl⟩
      · exact fc
  · repeat (refine sd ?_)
    refine Call.name [(2002, []), (0, []), (0, [])] rfl fc (CallP.intro hA [(1003, (2002, 0, none))] rfl fc rfl fc rfl ?_)
    rintro v M' ⟨rfl, rfl⟩
    dsimp only [putT, afterM, newEnt, ren, renA, renS, renL, look, getM, getT, ev, evL, ofVal, cond_true, cond_false, Nat.beq_eq, act, isPar, ownPar, Ent.isOwn]
    repeat (refine sd ?_)
    refine Branch.intro (fun h => ?_) (fun _ => ?_)
    · have h : 0 ≤ fiI x.1 x.2.1 l := h
      omega
    repeat (refine sd ?_)
    refine Branch.intro (fun h => ?_) (fun _ => ?_)
    · have h : (m : Int) ≥ 16 := h
      omega
    have hOK2 : ∀ y ∈ l ++ [x], KpOK y := by
      intro y hy
      rcases List.mem_append.1 hy with hy | hy
      · exact hOK y hy
      · rw [List.mem_singleton.1 hy]; exact ⟨hx1, hx2⟩
    have hl2 : (l ++ [x]).length = m + 1 := by rw [List.length_append, hm]; rfl
    have hSm := fn16 (l ++ [x]) (l ++ [x]) (m + 1) (m + 1) (m + 1) (m + 1) hl2 (Nat.le_refl _) (by omega) hl2 (Nat.le_refl _) (by omega) hOK2 hOK2
    have hz : ¬ ((0 : Int) ≠ 0) := fun h => h rfl
    refine Draw.intro [[], [0], [0, 1], [0, 1, 2], [0, 1, 2], [0, 1, 2], [0, 1, 2, 4, 5], [0, 1, 2], [0, 1, 2, 7], [0, 1, 2, 4, 5, 6, 7, 8], [0, 1, 2, 3, 4, 5, 6, 7, 8, 9], [0, 1, 2, 3, 4, 5, 6, 7, 8, 9, 10], [0, 1, 2, 3, 4, 5, 6, 7, 8, 9, 10, 11]] [0, 1, 2, 3, 4, 5, 7, 8, 6, 9, 10, 11, 12] (by kernel_rfl) ?_
    repeat (first | (refine Branch.intro (fun _ => ?_) (fun hn => absurd rfl hn)) | (refine Branch.intro (fun hn => (by with_reducible exact False.elim hn)) (fun _ => ?_)) | (refine Branch.intro (fun _ => ?_) (fun hn => (by with_reducible exact absurd hz hn))) | (refine Branch.intro (fun hn => (by with_reducible exact absurd hn hz)) (fun _ => ?_)) | (refine sdn ?_))
    refine fun c5 hc5 => ?_
    have hc5 : 0 + m ≤ c5 := hc5
    repeat (first | (refine Branch.intro (fun _ => ?_) (fun hn => absurd rfl hn)) | (refine Branch.intro (fun hn => (by with_reducible exact False.elim hn)) (fun _ => ?_)) | (refine Branch.intro (fun _ => ?_) (fun hn => (by with_reducible exact absurd hz hn))) | (refine Branch.intro (fun hn => (by with_reducible exact absurd hn hz)) (fun _ => ?_)) | (refine sdn ?_))
    refine Grow.auto rfl rfl ?_
    repeat (first | (refine Branch.intro (fun _ => ?_) (fun hn => absurd rfl hn)) | (refine Branch.intro (fun hn => (by with_reducible exact False.elim hn)) (fun _ => ?_)) | (refine Branch.intro (fun _ => ?_) (fun hn => (by with_reducible exact absurd hz hn))) | (refine Branch.intro (fun hn => (by with_reducible exact absurd hn hz)) (fun _ => ?_)) | (refine sdn ?_))
    refine fun c6 hc6 => ?_
    have hc6 : 0 + m + 1 ≤ c6 := hc6
    repeat (first | (refine Branch.intro (fun _ => ?_) (fun hn => absurd rfl hn)) | (refine Branch.intro (fun hn => (by with_reducible exact False.elim hn)) (fun _ => ?_)) | (refine Branch.intro (fun _ => ?_) (fun hn => (by with_reducible exact absurd hz hn))) | (refine Branch.intro (fun hn => (by with_reducible exact absurd hn hz)) (fun _ => ?_)) | (refine sdn ?_))
    repeat (first | (refine Branch.intro (fun _ => ?_) (fun hn => absurd rfl hn)) | (refine Branch.intro (fun hn => (by with_reducible exact False.elim hn)) (fun _ => ?_)) | (refine Branch.intro (fun _ => ?_) (fun hn => (by with_reducible exact absurd hz hn))) | (refine Branch.intro (fun hn => (by with_reducible exact absurd hn hz)) (fun _ => ?_)) | (refine sdn ?_))
    refine Call.intro hSm [(1003, (305, 0, none)), (1004, (35, 0, none))] rfl fcn rfl ?_ rfl ?_
    · repeat' (first | (show AllP _; first | exact trivial | refine AllP.app ?_ ?_ | refine AllP.appd ?_ ?_ | refine AllP.cons ?_ ?_) | with_reducible rfl | with_reducible assumption | omega | (simp only [Nat.zero_add, Int.toNat_natCast, rng, Ix.val, addQ_eq, addI, sz3, by3, sz4, by4, sz5, by5, sz22, by22, sz23, by23, sz24, by24, sz25, by25, sz26, by26, sz29, by29, sz30, by30, sz42, by42, sz50, by50, sz51, by51] <;> omega) | (simp only [Nat.zero_add, Int.toNat_natCast, rng, Ix.val, Int.toNat_natCast, mulE_eq, addQ_eq, addI, Option.getD_none, Option.getD_some, List.length_take, List.length_drop, List.length_append, List.length_set, List.length_replicate, sz3, by3, sz4, by4, sz5, by5, sz22, by22, sz23, by23, sz24, by24, sz25, by25, sz26, by26, sz29, by29, sz30, by30, sz42, by42, sz50, by50, sz51, by51, *] <;> omega) | (simp only [Ix.val]; with_reducible assumption) | exact UInt8.toNat_lt _ | (apply Eq.trans; (with_reducible assumption); exact rfl) | exact rfl | exact fun _ _ => rfl)
      intro q hq
      rw [Nat.zero_add]
      rcases Nat.lt_or_ge q m with h | h
      · rw [kpF_lt (by omega)]; exact (appF_lt h).symm
      · obtain rfl : q = l.length := by omega
        rw [kpF_at]; exact ((appF_ge h).trans (by rw [hm, Nat.sub_self]; rfl)).symm
    rintro v M' ⟨rfl, rfl⟩
    dsimp only [putT, afterM, newEnt, ren, renA, renS, renL, look, getM, getT, ev, evL, ofVal, cond_true, cond_false, Nat.beq_eq, act, isPar, ownPar, Ent.isOwn]
    repeat (first | (refine Branch.intro (fun _ => ?_) (fun hn => absurd rfl hn)) | (refine Branch.intro (fun hn => (by with_reducible exact False.elim hn)) (fun _ => ?_)) | (refine Branch.intro (fun _ => ?_) (fun hn => (by with_reducible exact absurd hz hn))) | (refine Branch.intro (fun hn => (by with_reducible exact absurd hn hz)) (fun _ => ?_)) | (refine sdn ?_))
    refine Branch.intro (fun h => (h.elim (fun h => hz h.1) (fun h => h.2 rfl)).elim) (fun _ => ?_)
    repeat (refine sd ?_)
    refine ⟨(), trivial, Le.intro [(206, (6, 0, none))] rfl ?_ rfl ?_ rfl⟩
    · exact fc
    · exact fc
  · rintro - -
    repeat (refine sd ?_)
    refine Call.name [(2003, []), (0, []), (0, [])] rfl fc (CallP.intro hT [(1003, (2003, 0, none)), (1005, (315, 0, none))] rfl fc rfl fc rfl ?_)
    rintro v M' (⟨hg, c2, hc2, rfl, rfl⟩ | ⟨i, hi, hg, hi2, rfl, rfl⟩ | ⟨i, hi, hg, hi2, c2, hc2, rfl, rfl⟩)
    · dsimp only [putT, afterM, newEnt, ren, renA, renS, renL, look, getM, getT, ev, evL, ofVal, cond_true, cond_false, Nat.beq_eq, act, isPar, ownPar, Ent.isOwn]
      repeat (refine sd ?_)
      refine Call.name [(2004, []), (0, []), (0, [])] rfl fc (CallP.intro hA2 [(1003, (2004, 0, none))] rfl fc rfl fc rfl ?_)
      rintro v M' ⟨rfl, rfl⟩
      dsimp only [putT, afterM, newEnt, ren, renA, renS, renL, look, getM, getT, ev, evL, ofVal, cond_true, cond_false, Nat.beq_eq, act, isPar, ownPar, Ent.isOwn]
      repeat (refine sd ?_)
      refine Branch.intro (fun _ => ?_) (fun h => absurd (show fiI r n l < 0 by omega) h)
      repeat (refine sd ?_)
      refine Branch.intro (fun _ => ?_) (fun h => absurd rfl h)
      repeat (refine sd ?_)
      have hSm := fn16 l l m m m m hm (Nat.le_refl _) (by omega) hm (Nat.le_refl _) (by omega) hOK hOK
      refine Call.name [(0, []), (2005, [])] rfl fc (CallP.intro hSm [(1003, (315, 0, none)), (1004, (2005, 0, none))] rfl fc rfl fc rfl ?_)
      rintro v M' ⟨rfl, rfl⟩
      dsimp only [putT, afterM, newEnt, ren, renA, renS, renL, look, getM, getT, ev, evL, ofVal, cond_true, cond_false, Nat.beq_eq, act, isPar, ownPar, Ent.isOwn]
      repeat (refine sd ?_)
      refine Ret.intro .tt [] [] rfl ?_ rfl rfl ?_ rfl ?_ rfl
      · exact fc
      · exact fc
      · exact fc
    · have hone : l.take i = (l.eraseIdx i).take (m - 1) := by
        rw [List.eraseIdx_eq_take_drop_succ, List.drop_of_length_le (by omega), List.append_nil, List.take_take, show min (m - 1) i = i by omega]
      have hgi : ¬ fiI r n l < 0 := by omega
      obtain ⟨hy1, hy2⟩ := hOK _ (getD_mem kp0 (L := l) (i := i) (by omega))
      dsimp only [putT, afterM, newEnt, ren, renA, renS, renL, look, getM, getT, ev, evL, ofVal, cond_true, cond_false, Nat.beq_eq, act, isPar, ownPar, Ent.isOwn]
      repeat (refine sd ?_)
      refine Call.name [(2004, []), (0, []), (0, [])] rfl fc (CallP.intro hA2 [(1003, (2004, 0, none))] rfl fc rfl fc rfl ?_)
      rintro v M' ⟨rfl, rfl⟩
      dsimp only [putT, afterM, newEnt, ren, renA, renS, renL, look, getM, getT, ev, evL, ofVal, cond_true, cond_false, Nat.beq_eq, act, isPar, ownPar, Ent.isOwn]
      rw [hg]
      repeat (refine sd ?_)
      refine Branch.intro (fun h => absurd (show (i : Int) < 0 from h) (by omega)) (fun _ => ?_)
      have hWo := fn20 l m m hm (Nat.le_refl _) (by omega) hOK i hi
      refine Draw.intro [[], [0], [0, 1], [0, 1], [0, 1], [0, 1, 3, 4], [0, 1, 3, 4, 5], [0, 1, 3, 4, 5, 6], [0, 1, 2, 3, 4, 5, 6, 7], [0, 1, 2, 3, 4, 5, 6, 7, 8], [0, 1, 2, 3, 4, 5, 6, 7, 8, 9], [0, 1, 2, 3, 4, 5, 6, 7, 8, 9, 10], [0, 1, 2, 3, 4, 5, 6, 7, 8, 9, 10], [0, 1, 2, 3, 4, 5, 6, 7, 8, 9, 10], [0, 1, 2, 3, 4, 5, 6, 7, 8, 9, 10, 12, 13], [0, 1, 2, 3, 4, 5, 6, 7, 8, 9, 10, 11, 12, 13, 14], [0, 1, 2, 3, 4, 5, 6, 7, 8, 9, 10, 11, 12, 13, 14, 15], [0, 1, 2, 3, 4, 5, 6, 7, 8, 9, 10, 11, 12, 13, 14, 15, 16]] [0, 1, 2, 3, 4, 5, 6, 7, 8, 9, 10, 11, 12, 13, 14, 15, 16, 17] (by kernel_rfl) ?_
      repeat (refine sdn ?_)
      refine Branch.intro (fun hq => ?_) (fun h => absurd rfl h)
      repeat (first | (refine Branch.intro (fun _ => ?_) (fun hn => absurd rfl hn)) | (refine Branch.intro (fun hn => (by with_reducible exact False.elim hn)) (fun _ => ?_)) | (refine Branch.intro (fun _ => ?_) (fun hn => (by with_reducible exact absurd hq hn))) | (refine Branch.intro (fun hn => (by with_reducible exact absurd hn hq)) (fun _ => ?_)) | (refine sdn ?_))
      rw [htk] at hWo
      refine Call.name [(2006, []), (0, [])] rfl fc (CallP.intro hWo [(1003, (2006, 0, none)), (1005, (325, 0, none))] rfl fcn rfl fc rfl ?_)
      rintro v M' ⟨c4, hc4, hel, rfl, rfl⟩
      have hOe : ∀ y ∈ l.eraseIdx i, KpOK y := fun y hy => hOK y (List.mem_of_mem_eraseIdx hy)
      have hSm : Sx.Fn Γ.P 16 _ _ _ := fn16 l (l.eraseIdx i) (i + 1) i (m - 1) (m - 1) (by omega) (by omega) (by omega) hel (Nat.le_refl _) (by omega) hOK hOe
      dsimp only [putT, afterM, newEnt, ren, renA, renS, renL, look, getM, getT, ev, evL, ofVal, cond_true, cond_false, Nat.beq_eq, act, isPar, ownPar, Ent.isOwn]
      repeat (first | (refine Branch.intro (fun _ => ?_) (fun hn => absurd rfl hn)) | (refine Branch.intro (fun hn => (by with_reducible exact False.elim hn)) (fun _ => ?_)) | (refine Branch.intro (fun _ => ?_) (fun hn => (by with_reducible exact absurd hq hn))) | (refine Branch.intro (fun hn => (by with_reducible exact absurd hn hq)) (fun _ => ?_)) | (refine sdn ?_))
      refine Call.intro hSm [(1003, (2003, 0, none)), (1004, (325, 0, none))] rfl fcn rfl fc rfl ?_
      rintro v M' ⟨rfl, rfl⟩
      dsimp only [putT, afterM, newEnt, ren, renA, renS, renL, look, getM, getT, ev, evL, ofVal, cond_true, cond_false, Nat.beq_eq, act, isPar, ownPar, Ent.isOwn]
      repeat (first | (refine Branch.intro (fun _ => ?_) (fun hn => absurd rfl hn)) | (refine Branch.intro (fun hn => (by with_reducible exact False.elim hn)) (fun _ => ?_)) | (refine Branch.intro (fun _ => ?_) (fun hn => (by with_reducible exact absurd hq hn))) | (refine Branch.intro (fun hn => (by with_reducible exact absurd hn hq)) (fun _ => ?_)) | (refine sdn ?_))
      refine Ret.intro .tt [] [] rfl ?_ rfl rfl ?_ rfl ?_ rfl
      · exact fc
      · repeat' (first | (show AllP _; first | exact trivial | refine AllP.app ?_ ?_ | refine AllP.appd ?_ ?_ | refine AllP.cons ?_ ?_) | with_reducible rfl | with_reducible assumption | omega | (simp only [rng, Ix.val, addQ_eq, addI, sz3, by3, sz4, by4, sz5, by5, sz22, by22, sz23, by23, sz24, by24, sz25, by25, sz26, by26, sz29, by29, sz30, by30, sz42, by42, sz50, by50, sz51, by51] <;> omega) | (simp only [rng, Ix.val, Int.toNat_natCast, mulE_eq, addQ_eq, addI, Option.getD_none, Option.getD_some, List.length_take, List.length_drop, List.length_append, List.length_set, List.length_replicate, sz3, by3, sz4, by4, sz5, by5, sz22, by22, sz23, by23, sz24, by24, sz25, by25, sz26, by26, sz29, by29, sz30, by30, sz42, by42, sz50, by50, sz51, by51, *] <;> omega) | (simp only [Ix.val]; with_reducible assumption) | exact UInt8.toNat_lt _ | (apply Eq.trans; (with_reducible assumption); exact rfl) | exact rfl | exact fun _ _ => rfl)
        all_goals exact Or.inl ⟨hq, hone⟩
      · exact fc
    · have hel0 : (l.eraseIdx i).length = m - 1 := by rw [List.length_eraseIdx, if_pos (by omega), hm]
      have hgi : ¬ fiI r n l < 0 := by omega
      obtain ⟨hy1, hy2⟩ := hOK _ (getD_mem kp0 (L := l) (i := i) (by omega))
      dsimp only [putT, afterM, newEnt, ren, renA, renS, renL, look, getM, getT, ev, evL, ofVal, cond_true, cond_false, Nat.beq_eq, act, isPar, ownPar, Ent.isOwn]
      repeat (refine sd ?_)
      refine Call.name [(2004, []), (0, []), (0, [])] rfl fc (CallP.intro hA2 [(1003, (2004, 0, none))] rfl fc rfl fc rfl ?_)
      rintro v M' ⟨rfl, rfl⟩
      dsimp only [putT, afterM, newEnt, ren, renA, renS, renL, look, getM, getT, ev, evL, ofVal, cond_true, cond_false, Nat.beq_eq, act, isPar, ownPar, Ent.isOwn]
      rw [hg]
      repeat (refine sd ?_)
      refine Branch.intro (fun h => absurd (show (i : Int) < 0 from h) (by omega)) (fun _ => ?_)
      have hWo := fn20 l m m hm (Nat.le_refl _) (by omega) hOK i hi
      refine Draw.intro [[], [0], [0, 1], [0, 1], [0, 1], [0, 1, 3, 4], [0, 1, 3, 4, 5], [0, 1, 3, 4, 5, 6], [0, 1, 2, 3, 4, 5, 6, 7], [0, 1, 2, 3, 4, 5, 6, 7, 8], [0, 1, 2, 3, 4, 5, 6, 7, 8, 9], [0, 1, 2, 3, 4, 5, 6, 7, 8, 9, 10], [0, 1, 2, 3, 4, 5, 6, 7, 8, 9, 10], [0, 1, 2, 3, 4, 5, 6, 7, 8, 9, 10], [0, 1, 2, 3, 4, 5, 6, 7, 8, 9, 10, 12, 13], [0, 1, 2, 3, 4, 5, 6, 7, 8, 9, 10, 11, 12, 13, 14], [0, 1, 2, 3, 4, 5, 6, 7, 8, 9, 10, 11, 12, 13, 14, 15], [0, 1, 2, 3, 4, 5, 6, 7, 8, 9, 10, 11, 12, 13, 14, 15, 16]] [0, 1, 2, 3, 4, 5, 6, 7, 8, 9, 10, 11, 12, 13, 14, 15, 16, 17] (by kernel_rfl) ?_
      repeat (refine sdn ?_)
      refine Branch.intro (fun hq => ?_) (fun h => absurd rfl h)
      repeat (first | (refine Branch.intro (fun _ => ?_) (fun hn => absurd rfl hn)) | (refine Branch.intro (fun hn => (by with_reducible exact False.elim hn)) (fun _ => ?_)) | (refine Branch.intro (fun _ => ?_) (fun hn => (by with_reducible exact absurd hq hn))) | (refine Branch.intro (fun hn => (by with_reducible exact absurd hn hq)) (fun _ => ?_)) | (refine sdn ?_))
      rw [htk] at hWo
      refine Call.name [(2006, []), (0, [])] rfl fc (CallP.intro hWo [(1003, (2006, 0, none)), (1005, (325, 0, none))] rfl fcn rfl fc rfl ?_)
      rintro v M' ⟨c4, hc4, hel, rfl, rfl⟩
      have hOe : ∀ y ∈ l.eraseIdx i, KpOK y := fun y hy => hOK y (List.mem_of_mem_eraseIdx hy)
      have hSm : Sx.Fn Γ.P 16 _ _ _ := fn16 (l.eraseIdx i) (l.eraseIdx i) (m - 1) (m - 1) (m - 1) (m - 1) hel0 (by omega) (by omega) hel (Nat.le_refl _) (by omega) hOe hOe
      dsimp only [putT, afterM, newEnt, ren, renA, renS, renL, look, getM, getT, ev, evL, ofVal, cond_true, cond_false, Nat.beq_eq, act, isPar, ownPar, Ent.isOwn]
      repeat (first | (refine Branch.intro (fun _ => ?_) (fun hn => absurd rfl hn)) | (refine Branch.intro (fun hn => (by with_reducible exact False.elim hn)) (fun _ => ?_)) | (refine Branch.intro (fun _ => ?_) (fun hn => (by with_reducible exact absurd hq hn))) | (refine Branch.intro (fun hn => (by with_reducible exact absurd hn hq)) (fun _ => ?_)) | (refine sdn ?_))
      refine Call.intro hSm [(1003, (315, 0, none)), (1004, (325, 0, none))] rfl fcn rfl fc rfl ?_
      rintro v M' ⟨rfl, rfl⟩
      dsimp only [putT, afterM, newEnt, ren, renA, renS, renL, look, getM, getT, ev, evL, ofVal, cond_true, cond_false, Nat.beq_eq, act, isPar, ownPar, Ent.isOwn]
      repeat (first | (refine Branch.intro (fun _ => ?_) (fun hn => absurd rfl hn)) | (refine Branch.intro (fun hn => (by with_reducible exact False.elim hn)) (fun _ => ?_)) | (refine Branch.intro (fun _ => ?_) (fun hn => (by with_reducible exact absurd hq hn))) | (refine Branch.intro (fun hn => (by with_reducible exact absurd hn hq)) (fun _ => ?_)) | (refine sdn ?_))
      refine Ret.intro .tt [] [] rfl ?_ rfl rfl ?_ rfl ?_ rfl
      · exact fc
      · repeat' (first | (show AllP _; first | exact trivial | refine AllP.app ?_ ?_ | refine AllP.appd ?_ ?_ | refine AllP.cons ?_ ?_) | with_reducible rfl | with_reducible assumption | omega | (simp only [rng, Ix.val, addQ_eq, addI, sz3, by3, sz4, by4, sz5, by5, sz22, by22, sz23, by23, sz24, by24, sz25, by25, sz26, by26, sz29, by29, sz30, by30, sz42, by42, sz50, by50, sz51, by51] <;> omega) | (simp only [rng, Ix.val, Int.toNat_natCast, mulE_eq, addQ_eq, addI, Option.getD_none, Option.getD_some, List.length_take, List.length_drop, List.length_append, List.length_set, List.length_replicate, sz3, by3, sz4, by4, sz5, by5, sz22, by22, sz23, by23, sz24, by24, sz25, by25, sz26, by26, sz29, by29, sz30, by30, sz42, by42, sz50, by50, sz51, by51, *] <;> omega) | (simp only [Ix.val]; with_reducible assumption) | exact UInt8.toNat_lt _ | (apply Eq.trans; (with_reducible assumption); exact rfl) | exact rfl | exact fun _ _ => rfl)
        all_goals exact Or.inl ⟨hq, rfl⟩
      · exact fc
theorem chainKeeps_runs (svs : List SV) (h : AllF [isOfSl 65 zK (catF [cArr8 32, cU16, cArr8 32]), isOfStruct (catF [cArr8 32, cU16, cArr8 32]), isArr8 32, isU16] svs) : Sx.Fn Γ.P 7 svs [] (fun v _ => v = .tt) := by
  match svs, h with
  | [_, _, _, _], ⟨h1, ⟨_, h2, rfl⟩, ⟨r, hr, rfl⟩, ⟨n, rfl⟩, _⟩ =>
    obtain ⟨l, hl, hOK, rfl⟩ := keptsArg h1
    obtain ⟨x, hx, rfl⟩ := kept_of h2
    exact chainKeeps l l.length rfl hl hOK x hx r hr n
end Go.Proofs.Ytkhnailodbkmhaa
