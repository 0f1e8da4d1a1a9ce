/- What the functions of the program compute. No condition. -/
import Derived.Test.YtoaaplgjacjlpaaHwTm18ToTm18
import Derived.Test.YtoaaplgjacjlpaaHwTm21ToTm21
set_option linter.unusedSimpArgs false
set_option linter.unusedVariables false
namespace Go.Proofs.Ytoaaplgjacjlpaa
open Go Go.Sx

/-! law12.TermMakes. -/

theorem plA_valid (l : List Opr) : ∀ x ∈ plA l, Valid x.1 x.2 := by unfold plA; exact plT_valid l _

set_option maxRecDepth 100000 in
set_option maxHeartbeats 4000000 in
theorem fn6 (l : List Opr) (hl : l.length ≤ maxLen) (hO : ∀ o ∈ l, OpOK o) : Sx.Fn Γ.P 6 [opsS l] [] (fun v _ => v = .tt) := by
  have hA := fn8
  have hNew := fn9
  have hP := fn10 l hl hO
  have hby33 : (Γ.ty 33).bytes = 24 := rfl
  have hmx : maxLen = 9223372036854775807 := by decide
  unfold opsS at *
  refine fn_of (Γ := Γ) (fn := Try.f6) rfl rfl rfl rfl ?_
  repeat (refine sd ?_)
  refine Call.intro hA [] rfl trivial rfl trivial rfl ?_
  rintro v M' rfl
  dsimp only [putT, afterM, newEnt, ren, renA, renS, renL, look, getM, getT, ev, evL, ofVal, cond_true, cond_false, Nat.beq_eq, act, isPar, ownPar, Ent.isOwn]
  clear hA
  repeat (refine sd ?_)
  refine Call.intro hNew [(1000, (1000, 0, none)), (1002, (1002, 0, none))] rfl fc rfl trivial rfl ?_
  rintro v M' ⟨rfl, rfl⟩
  dsimp only [putT, afterM, newEnt, ren, renA, renS, renL, look, getM, getT, ev, evL, ofVal, cond_true, cond_false, Nat.beq_eq, act, isPar, ownPar, Ent.isOwn]
  clear hNew
  repeat (refine sd ?_)
  refine Call.intro hP [(1000, (1000, 0, none)), (1002, (1002, 0, none)), (1010, (13, 0, none)), (1005, (305, 0, none)), (1015, (315, 0, none))] rfl ?_ rfl ?_ rfl ?_
  · exact fc
  · exact fc
  rintro v M' ⟨n, c, d, hn, hnc, hnd, hn80, rfl, rfl⟩
  dsimp only [putT, afterM, newEnt, ren, renA, renS, renL, look, getM, getT, ev, evL, ofVal, cond_true, cond_false, Nat.beq_eq, act, isPar, ownPar, Ent.isOwn]
  clear hP
  have hAv := plA_valid l
  repeat (refine sd ?_)
  refine Loop.intro (σ := Nat) (fun i => i ≤ n)
    (fun i => ([(3, .ptr 1000 0 none), (4, .ptr 13 0 none), (5, .i .i64 (i : Int))], [(1000, .mem true 0 [(1, .sl 305 0 0 n c), (1, .mp 1002)]), (1002, .map (.si (mpL (plA l)))), (305, .mem true (mulE (c - n) 3) [(n * 3, .arr n 3 (ttF (plA l)))]), (13, .mem true 0 [(1, .sl 315 0 0 n d)]), (315, .mem true (mulE (d - n) 2) [(n * 2, .arr n 2 (rtF (plA l)))])]))
    (fun i => n - i) 0 (Nat.zero_le _) ?_ ?_
  · refine Le.intro [] rfl ?_ rfl ?_ rfl
    · exact fc
    · exact fc
  rintro i hi
  have hi : i ≤ n := hi
  repeat (refine sd ?_)
  refine Branch.intro (fun hc => ?_) (fun hc => ?_)
  · have hc : (i : Int) < n := hc
    have hk := numP_name (z := i + 1) (most := n) (by omega) (by omega) (by omega)
    have hNm := fn14 (i + 1) (by omega)
    have hOf := fn18 (plA l) n hn (by omega) hAv (nameB (i + 1)) (nameB_length _)
    have hnl := nameB_length (i + 1)
    repeat (refine sd ?_)
    refine Call.intro hNm [] rfl fc rfl trivial rfl ?_
    rintro v M' ⟨rfl, rfl⟩
    dsimp only [putT, afterM, newEnt, ren, renA, renS, renL, look, getM, getT, ev, evL, ofVal, cond_true, cond_false, Nat.beq_eq, act, isPar, ownPar, Ent.isOwn]
    repeat (refine sd ?_)
    refine Call.intro hOf [(1000, (1000, 0, none)), (1001, (305, 0, none)), (1002, (1002, 0, none)), (1005, (405, 0, none))] rfl fc rfl fc rfl ?_
    rintro v M' (⟨hz, _, _⟩ | ⟨q, L, m, cL, hq, hqn, hL, hm, hmc, rfl, rfl⟩)
    · rw [hk] at hz; omega
    obtain rfl : q = i := by rw [hk] at hq; omega
    obtain ⟨x, hx⟩ : ∃ x, (plA l).getD q te0 = x := ⟨_, rfl⟩
    have hxv := hAv _ (getD_mem te0 (L := plA l) (i := q) (by omega))
    have hLl : L.length ≤ 64 := by rw [← hL]; exact hxv.1.1
    dsimp only [putT, afterM, newEnt, ren, renA, renS, renL, look, getM, getT, ev, evL, ofVal, cond_true, cond_false, Nat.beq_eq, act, isPar, ownPar, Ent.isOwn]
    clear hOf hNm
    repeat (refine sd ?_)
    refine Branch.intro (fun h => absurd (rfl : ((plA l).getD q te0).1 = ((plA l).getD q te0).1) h) (fun _ => ?_)
    repeat (refine Side.intro (by repeat' (first | (show AllP _; first | exact trivial | refine AllP.app ?_ ?_ | refine AllP.appd ?_ ?_ | refine AllP.cons ?_ ?_) | with_reducible rfl | with_reducible assumption | omega | (simp only [Nat.zero_add, Int.toNat_natCast, hx, rng, Ix.val, addQ_eq, addI, sz3, sz5, sz9, sz22, sz23, sz25, sz27, sz28, sz29, sz30, sz32, sz33, sz35, sz36, sz38, sz42, sz47, sz48, sz49, sz56, sz57, sz67, sz68, sz69, sz74, sz77, sz78] <;> omega) | (simp only [Nat.zero_add, Int.toNat_natCast, hx, rng, Ix.val, Int.toNat_natCast, mulE_eq, addQ_eq, addI, Option.getD_none, Option.getD_some, List.length_take, List.length_drop, List.length_append, List.length_set, List.length_replicate, sz3, sz5, sz9, sz22, sz23, sz25, sz27, sz28, sz29, sz30, sz32, sz33, sz35, sz36, sz38, sz42, sz47, sz48, sz49, sz56, sz57, sz67, sz68, sz69, sz74, sz77, sz78, *] <;> omega) | (simp only [Ix.val]; with_reducible assumption) | exact UInt8.toNat_lt _ | (apply Eq.trans; (with_reducible assumption); exact rfl) | exact rfl | exact fun _ _ => rfl)) ?_)
    have hLi := fn17 L L m m hm hm (by omega) (by omega)
    unfold rwS at hLi
    refine Call.name [(0, []), (2001, [])] rfl trivial (CallP.intro hLi [(1003, (405, 0, none)), (1004, (2001, 0, none))] rfl ?_ rfl ?_ rfl ?_)
    · repeat' (first | (show AllP _; first | exact trivial | refine AllP.app ?_ ?_ | refine AllP.appd ?_ ?_ | refine AllP.cons ?_ ?_) | with_reducible rfl | with_reducible assumption | omega | (simp only [Nat.zero_add, Int.toNat_natCast, hx, hL, hm, rng, Ix.val, addQ_eq, addI, sz3, sz5, sz9, sz22, sz23, sz25, sz27, sz28, sz29, sz30, sz32, sz33, sz35, sz36, sz38, sz42, sz47, sz48, sz49, sz56, sz57, sz67, sz68, sz69, sz74, sz77, sz78] <;> omega) | (simp only [Nat.zero_add, Int.toNat_natCast, hx, hL, hm, rng, Ix.val, Int.toNat_natCast, mulE_eq, addQ_eq, addI, Option.getD_none, Option.getD_some, List.length_take, List.length_drop, List.length_append, List.length_set, List.length_replicate, sz3, sz5, sz9, sz22, sz23, sz25, sz27, sz28, sz29, sz30, sz32, sz33, sz35, sz36, sz38, sz42, sz47, sz48, sz49, sz56, sz57, sz67, sz68, sz69, sz74, sz77, sz78, *] <;> omega) | (simp only [Ix.val]; with_reducible assumption) | exact UInt8.toNat_lt _ | (apply Eq.trans; (with_reducible assumption); exact rfl) | exact rfl | exact fun _ _ => rfl)
      all_goals (simp only [Ix.val, addQ_eq, Nat.zero_add, Int.toNat_natCast, hL, hm]; try exact fun _ _ => trivial)
    · repeat' (first | (show AllP _; first | exact trivial | refine AllP.app ?_ ?_ | refine AllP.appd ?_ ?_ | refine AllP.cons ?_ ?_) | with_reducible rfl | with_reducible assumption | omega | (simp only [Nat.zero_add, Int.toNat_natCast, hx, hL, hm, rng, Ix.val, addQ_eq, addI, sz3, sz5, sz9, sz22, sz23, sz25, sz27, sz28, sz29, sz30, sz32, sz33, sz35, sz36, sz38, sz42, sz47, sz48, sz49, sz56, sz57, sz67, sz68, sz69, sz74, sz77, sz78] <;> omega) | (simp only [Nat.zero_add, Int.toNat_natCast, hx, hL, hm, rng, Ix.val, Int.toNat_natCast, mulE_eq, addQ_eq, addI, Option.getD_none, Option.getD_some, List.length_take, List.length_drop, List.length_append, List.length_set, List.length_replicate, sz3, sz5, sz9, sz22, sz23, sz25, sz27, sz28, sz29, sz30, sz32, sz33, sz35, sz36, sz38, sz42, sz47, sz48, sz49, sz56, sz57, sz67, sz68, sz69, sz74, sz77, sz78, *] <;> omega) | (simp only [Ix.val]; with_reducible assumption) | exact UInt8.toNat_lt _ | (apply Eq.trans; (with_reducible assumption); exact rfl) | exact rfl | exact fun _ _ => rfl)
      all_goals (simp only [Ix.val, addQ_eq, Nat.zero_add, Int.toNat_natCast, hL, hm]; try exact fun _ _ => trivial)
    rintro v M' ⟨⟨_, rfl⟩ | ⟨hne, _⟩, rfl⟩
    · dsimp only [putT, afterM, newEnt, ren, renA, renS, renL, look, getM, getT, ev, evL, ofVal, cond_true, cond_false, Nat.beq_eq, act, isPar, ownPar, Ent.isOwn]
      repeat (refine sd ?_)
      refine ⟨q + 1, by omega, by omega, Le.intro [] rfl ?_ rfl ?_ rfl⟩
      · exact fc
      · exact fc
    · exact absurd rfl hne
  · repeat (refine sd ?_)
    refine Ret.intro .tt [] [] rfl ?_ rfl rfl ?_ rfl trivial rfl
    · exact fc
    · exact fc

set_option maxRecDepth 100000 in
theorem termMakes_runs (svs : List SV) (h : AllF [isOfSl 2 [(1, .i .i64 0), (1, .isl 0 0 2 [(0 * 2, .arr 0 2 fun _ => [(1, .isl 0 0 1 [(0 * 1, .ai [])]), (1, .isl 0 0 1 [(0 * 1, .a8 [])])])])] (catF [cInt .i64, cSl 2 [(1, .isl 0 0 1 [(0 * 1, .ai [])]), (1, .isl 0 0 1 [(0 * 1, .a8 [])])] (catF [cSlI, cSl8 1])])] svs) : Sx.Fn Γ.P 6 svs [] (fun v _ => v = .tt) := by
  obtain ⟨s1, r1, rfl, h1, h⟩ := AllF_cons h
  obtain rfl := AllF_nil h
  obtain ⟨l, a1, a2, rfl⟩ := opsArg h1
  exact fn6 l a1 a2

end Go.Proofs.Ytoaaplgjacjlpaa
