/- What the functions of the program compute. No condition. -/
import Derived.Test.YtkhnailodbkmhaaHwCh13ToCh13
set_option linter.unusedSimpArgs false
set_option linter.unusedVariables false
namespace Go.Proofs.Ytkhnailodbkmhaa
open Go Go.Sx
set_option maxRecDepth 100000 in
theorem fnNewT : Sx.Fn Γ.P 29 [] [] (fun v M => v = .ptr 1000 0 none ∧ M = [(1000, .mem true 0 [(1, .nsl), (1, .mp 1002)]), (1002, .map (.si []))]) := by
  refine fn_of (Γ := Γ) (fn := Try.f29) rfl rfl rfl rfl ?_
  repeat (refine sd ?_)
  refine Ret.intro (.ptr 1000 0 none) [(1000, .mem true 0 [(1, .nsl), (1, .mp 1002)]), (1002, .map (.si []))] [(1000, (3, 0, none)), (1002, (1, 0, none))] rfl ?_ ⟨rfl, rfl⟩ rfl ?_ rfl ?_ rfl
  · exact fc
  · exact fc
  · exact fc
set_option maxRecDepth 100000 in
theorem fn23 : Sx.Fn Γ.P 23 [] [] (fun v M => v = .agg [(1, .ptr 1000 0 none)] ∧ M = [(1000, .mem true 0 [(1, .nsl), (1, .mp 1002)]), (1002, .map (.si []))]) := by
  refine fn_of (Γ := Γ) (fn := Try.f23) rfl rfl rfl rfl ?_
  repeat (refine sd ?_)
  refine Call.intro fnNewT [(1000, (300, 0, none)), (1002, (302, 0, none))] rfl fc rfl trivial rfl ?_
  rintro v M' ⟨rfl, rfl⟩
  dsimp only [putT, afterM, newEnt, ren, renA, renS, renL, look, getM, getT, ev, evL, ofVal, cond_true, cond_false, Nat.beq_eq, act, isPar, ownPar, Ent.isOwn]
  repeat (refine sd ?_)
  refine Ret.intro (.agg [(1, .ptr 1000 0 none)]) [(1000, .mem true 0 [(1, .nsl), (1, .mp 1002)]), (1002, .map (.si []))] [(1000, (300, 0, none)), (1002, (302, 0, none))] rfl ?_ ⟨rfl, rfl⟩ rfl ?_ rfl ?_ rfl
  · exact fc
  · exact fc
  · exact fc
set_option maxRecDepth 100000 in
theorem fnSuiteF : Sx.Fn Γ.P 10 [.tt] [] (fun v M => v = .agg [(1, .ptr 1000 0 none)] ∧ M = tbM 0 0 [] 1001) := by
  refine fn_of (Γ := Γ) (fn := Try.f10) rfl rfl rfl rfl ?_
  repeat (refine sd ?_)
  refine Call.intro fn23 [(1000, (300, 0, none)), (1002, (302, 0, none))] rfl fc rfl trivial rfl ?_
  rintro v M' ⟨rfl, rfl⟩
  dsimp only [putT, afterM, newEnt, ren, renA, renS, renL, look, getM, getT, ev, evL, ofVal, cond_true, cond_false, Nat.beq_eq, act, isPar, ownPar, Ent.isOwn]
  repeat (refine sd ?_)
  refine Ret.ghost [.own 401 [(0, .arr 0 3 (ttF []))], .leaf 300 0 401] [] rfl ⟨rfl, rfl, trivial⟩ rfl (.agg [(1, .ptr 1000 0 none)]) (tbM 0 0 [] 1001) [(1000, (300, 0, none)), (1001, (401, 0, none)), (1002, (302, 0, none))] rfl ?_ ⟨rfl, rfl⟩ rfl ?_ rfl ?_ rfl
  · exact fc
  · exact fc
  · repeat' (first | (show AllP _; first | exact trivial | refine AllP.app ?_ ?_ | refine AllP.appd ?_ ?_ | refine AllP.cons ?_ ?_) | with_reducible rfl | with_reducible assumption | omega | (simp only [rng, Ix.val, addQ_eq, addI, sz29, by29, sz30, by30, sz33, by33, sz34, by34, sz75, by75, sz76, by76, sz86, by86, sz87, by87] <;> omega) | (simp only [rng, Ix.val, Int.toNat_natCast, mulE_eq, addQ_eq, addI, Option.getD_none, Option.getD_some, List.length_take, List.length_drop, List.length_append, List.length_set, List.length_replicate, sz29, by29, sz30, by30, sz33, by33, sz34, by34, sz75, by75, sz76, by76, sz86, by86, sz87, by87, *] <;> omega) | (simp only [Ix.val]; with_reducible assumption) | exact UInt8.toNat_lt _ | (apply Eq.trans; (with_reducible assumption); exact rfl) | exact rfl | exact fun _ _ => rfl)
    all_goals exact mpL_nil
end Go.Proofs.Ytkhnailodbkmhaa
