/- What the functions of the program compute. No condition. -/
import Derived.Test.YtkhnailodbkmhaaHwCh15ToCh15
import Derived.Test.YtkhnailodbkmhaaHx7
set_option linter.unusedSimpArgs false
set_option linter.unusedVariables false
namespace Go.Proofs.Ytkhnailodbkmhaa
open Go Go.Sx
set_option maxRecDepth 100000 in
set_option maxHeartbeats 1000000 in
theorem chainRootsR (P : Prop) (hP : ¬ P) (p q : List UInt8) (hp : p.length = 32) (hq : q.length = 32) : Sx.Fn Γ.P 8 [.bool P, .a8 p, .a8 q] [] (fun v _ => v = .tt) := by
  have hk1 := hx2_len 82 p q
  have hk2 := hx2_len 67 p q
  refine fn_of (Γ := Γ) (fn := Try.f8) rfl rfl rfl rfl ?_
  repeat (refine sd ?_)
  refine Call.intro fn9 [] rfl trivial rfl trivial rfl ?_
  rintro v M' rfl
  dsimp only [putT, afterM, newEnt, ren, renA, renS, renL, look, getM, getT, ev, evL, ofVal, cond_true, cond_false, Nat.beq_eq, act, isPar, ownPar, Ent.isOwn]
  refine Draw.intro [[], [0], [], [], [0, 1, 2, 3], [0, 1, 2, 3, 4], [0, 1, 2, 3, 4, 5], [0, 1, 2, 3, 4, 5], [0, 1, 2, 3, 4, 5], [], [], [0, 1, 2, 3, 4, 5, 6, 9, 10], [0, 1, 2, 3, 4, 5, 6, 7, 9, 10, 11], [0, 1, 2, 3, 4, 5, 6, 7, 8, 9, 10, 11, 12]] [0, 2, 3, 9, 10, 1, 4, 5, 6, 7, 8, 11, 12, 13] (by kernel_rfl) ?_
  repeat (refine sd ?_)
  refine Call.intro fnSuiteR [] rfl fc rfl trivial rfl ?_
  rintro v M' ⟨rfl, rfl⟩
  dsimp only [putT, afterM, newEnt, ren, renA, renS, renL, look, getM, getT, ev, evL, ofVal, cond_true, cond_false, Nat.beq_eq, act, isPar, ownPar, Ent.isOwn]
  refine Grow.auto rfl rfl ?_
  repeat (refine sd ?_)
  refine Call.intro (fnRootR p q hp hq) [] rfl fc rfl trivial rfl ?_
  rintro v M' rfl
  dsimp only [putT, afterM, newEnt, ren, renA, renS, renL, look, getM, getT, ev, evL, ofVal, cond_true, cond_false, Nat.beq_eq, act, isPar, ownPar, Ent.isOwn]
  refine Grow.auto rfl rfl ?_
  repeat (refine sd ?_)
  refine Draw.intro [[], [0], [], [], [0, 1, 2, 3], [0, 1, 2, 3, 4], [0, 1, 2, 3, 4, 5], [0, 1, 2, 3, 4, 5], [0, 1, 2, 3, 4, 5], [], [], [0, 1, 2, 3, 4, 5, 6, 9, 10], [0, 1, 2, 3, 4, 5, 6, 7, 9, 10, 11], [0, 1, 2, 3, 4, 5, 6, 7, 8, 9, 10, 11, 12]] [0, 2, 3, 9, 10, 1, 4, 5, 6, 7, 8, 11, 12, 13] (by kernel_rfl) ?_
  repeat (refine sd ?_)
  refine Call.intro fnRefR [] rfl fc rfl trivial rfl ?_
  rintro v M' ⟨rfl, rfl⟩
  dsimp only [putT, afterM, newEnt, ren, renA, renS, renL, look, getM, getT, ev, evL, ofVal, cond_true, cond_false, Nat.beq_eq, act, isPar, ownPar, Ent.isOwn]
  refine Grow.auto rfl rfl ?_
  repeat (refine sd ?_)
  refine Call.intro (fnRRootR p q hp hq) [] rfl fc rfl trivial rfl ?_
  rintro v M' rfl
  dsimp only [putT, afterM, newEnt, ren, renA, renS, renL, look, getM, getT, ev, evL, ofVal, cond_true, cond_false, Nat.beq_eq, act, isPar, ownPar, Ent.isOwn]
  refine Grow.auto rfl rfl ?_
  repeat (refine sd ?_)
  refine Branch.intro (fun _ => ?_) (fun h => absurd rfl h)
  repeat (refine sd ?_)
  refine Branch.intro (fun _ => ?_) (fun h => absurd rfl h)
  repeat (refine sd ?_)
  refine Ret.intro .tt [] [] rfl ?_ rfl rfl ?_ rfl ?_ rfl
  · exact fc
  · exact fc
  · exact fc
set_option maxRecDepth 100000 in
set_option maxHeartbeats 1000000 in
theorem chainRootsF (P : Prop) (hP : P) (p q : List UInt8) (hp : p.length = 32) (hq : q.length = 32) : Sx.Fn Γ.P 8 [.bool P, .a8 p, .a8 q] [] (fun v _ => v = .tt) := by
  have hR := fnRootF [] 0 0 rfl (by omega) (Nat.le_refl _) tb0_valid p q hp hq
  have hW := fnRRootF [] 0 0 rfl (by omega) (Nat.le_refl _) tb0_valid p q hp hq
  unfold tbM at hR
  unfold rbM at hW
  have hk1 := kyB_length (roR [] p q)
  have hk2 := kyB_length (roC [] p q)
  refine fn_cut [1000004, 1000005] (Γ := Γ) (fn := Try.f8) rfl rfl rfl rfl ?_
  repeat (refine sd ?_)
  refine Call.intro fn9 [] rfl trivial rfl trivial rfl ?_
  rintro v M' rfl
  dsimp only [putT, afterM, newEnt, ren, renA, renS, renL, look, getM, getT, ev, evL, ofVal, cond_true, cond_false, Nat.beq_eq, act, isPar, ownPar, Ent.isOwn]
  refine Join.intro (σ := Unit) (fun _ => True) (fun _ => ([(0, .bool P), (4, .ptr 204 0 none), (5, .ptr 205 0 none), (7, .ptr 207 0 none), (8, .ptr 208 0 none), (9, .tt)], [(204, .mem true 0 [(32, .a8 p)]), (205, .mem true 0 [(32, .a8 q)]), (207, .mem true 0 [(32, .a8 (kyB (roR [] p q)))]), (208, .mem true 0 [(32, .a8 (kyB (roC [] p q)))])])) ?_ ?_
  · refine Draw.intro [[], [0], [], [], [0, 1, 2, 3], [0, 1, 2, 3, 4], [0, 1, 2, 3, 4, 5], [0, 1, 2, 3, 4, 5], [0, 1, 2, 3, 4, 5], [], [], [0, 1, 2, 3, 4, 5, 6, 9, 10], [0, 1, 2, 3, 4, 5, 6, 7, 9, 10, 11], [0, 1, 2, 3, 4, 5, 6, 7, 8, 9, 10, 11, 12], [4]] [0, 2, 3, 9, 10, 1, 4, 5, 6, 7, 8, 11, 12, 13] (by kernel_rfl) ?_
    repeat (refine sd ?_)
    refine Call.intro fnSuiteF [(1000, (1000, 0, none)), (1001, (1001, 0, none)), (1002, (1002, 0, none))] rfl fc rfl trivial rfl ?_
    rintro v M' ⟨rfl, rfl⟩
    dsimp only [putT, afterM, newEnt, ren, renA, renS, renL, look, getM, getT, ev, evL, ofVal, cond_true, cond_false, Nat.beq_eq, act, isPar, ownPar, Ent.isOwn]
    refine Grow.auto rfl rfl ?_
    repeat (refine sd ?_)
    refine ⟨⟨?_, ?_⟩, ?_, ?_⟩
    all_goals
      repeat (refine sd ?_)
      refine Call.intro hR [(1000, (1000, 0, none)), (1001, (1001, 0, none)), (1002, (1002, 0, none)), (1005, (305, 0, none))] rfl fc rfl fc rfl ?_
      rintro v M' ⟨n', c', hn', hnc', rfl, rfl⟩
      dsimp only [putT, afterM, newEnt, ren, renA, renS, renL, look, getM, getT, ev, evL, ofVal, cond_true, cond_false, Nat.beq_eq, act, isPar, ownPar, Ent.isOwn]
      repeat (refine sd ?_)
      refine ⟨(), trivial, Le.intro [(204, (4, 0, none)), (205, (5, 0, none)), (207, (7, 0, none)), (208, (8, 0, none))] rfl ?_ rfl ?_ rfl⟩
      · exact fc
      · exact fc
  rintro - -
  refine Join.intro (σ := Unit) (fun _ => True) (fun _ => ([(7, .ptr 207 0 none), (8, .ptr 208 0 none), (9, .tt), (10, .ptr 210 0 none), (11, .ptr 211 0 none), (12, .tt)], [(207, .mem true 0 [(32, .a8 (kyB (roR [] p q)))]), (208, .mem true 0 [(32, .a8 (kyB (roC [] p q)))]), (210, .mem true 0 [(32, .a8 (kyB (roR [] p q)))]), (211, .mem true 0 [(32, .a8 (kyB (roC [] p q)))])])) ?_ ?_
  · refine Draw.intro [[], [0], [], [], [0, 1, 2, 3], [0, 1, 2, 3, 4], [0, 1, 2, 3, 4, 5], [0, 1, 2, 3, 4, 5], [0, 1, 2, 3, 4, 5], [], [], [0, 1, 2, 3, 4, 5, 6, 9, 10], [0, 1, 2, 3, 4, 5, 6, 7, 9, 10, 11], [0, 1, 2, 3, 4, 5, 6, 7, 8, 9, 10, 11, 12], [4]] [0, 2, 3, 9, 10, 1, 4, 5, 6, 7, 8, 11, 12, 13] (by kernel_rfl) ?_
    repeat (refine sd ?_)
    refine Call.intro fnRefF [(1000, (1000, 0, none)), (1001, (1001, 0, none))] rfl fc rfl trivial rfl ?_
    rintro v M' ⟨rfl, rfl⟩
    dsimp only [putT, afterM, newEnt, ren, renA, renS, renL, look, getM, getT, ev, evL, ofVal, cond_true, cond_false, Nat.beq_eq, act, isPar, ownPar, Ent.isOwn]
    refine Grow.auto rfl rfl ?_
    repeat (refine sd ?_)
    refine ⟨⟨?_, ?_⟩, ?_, ?_⟩
    all_goals
      repeat (refine sd ?_)
      refine Call.intro hW [(1000, (1000, 0, none)), (1001, (1001, 0, none)), (1005, (305, 0, none))] rfl fc rfl fc rfl ?_
      rintro v M' ⟨n', c', hn', hnc', rfl, rfl⟩
      dsimp only [putT, afterM, newEnt, ren, renA, renS, renL, look, getM, getT, ev, evL, ofVal, cond_true, cond_false, Nat.beq_eq, act, isPar, ownPar, Ent.isOwn]
      repeat (refine sd ?_)
      refine ⟨(), trivial, Le.intro [(207, (207, 0, none)), (208, (208, 0, none)), (210, (10, 0, none)), (211, (11, 0, none))] rfl ?_ rfl ?_ rfl⟩
      · exact fc
      · exact fc
  rintro - -
  repeat (refine sd ?_)
  refine Branch.intro (fun _ => ?_) (fun h => absurd rfl h)
  repeat (refine sd ?_)
  refine Branch.intro (fun _ => ?_) (fun h => absurd rfl h)
  repeat (refine sd ?_)
  refine Ret.intro .tt [] [] rfl ?_ rfl rfl ?_ rfl ?_ rfl
  · exact fc
  · exact fc
  · exact fc
theorem chainRoots_runs (svs : List SV) (h : AllF [isBool, isArr8 32, isArr8 32] svs) : Sx.Fn Γ.P 8 svs [] (fun v _ => v = .tt) := by
  match svs, h with
  | [_, _, _], ⟨⟨b, rfl⟩, ⟨p, hp, rfl⟩, ⟨q, hq, rfl⟩, _⟩ =>
    by_cases hb : b = true
    · exact chainRootsF _ hb p q hp hq
    · exact chainRootsR _ hb p q hp hq
end Go.Proofs.Ytkhnailodbkmhaa
