/- What the functions of the program compute. No condition. -/
import Derived.Test.YtlbmkjckbfeejaaHwTm10ToCh1
set_option linter.unusedSimpArgs false
set_option linter.unusedVariables false
namespace Go.Proofs.Ytlbmkjckbfeejaa
open Go Go.Sx
theorem mkT_ne {T:List Te} {x:Te} (h:Valid x.1 x.2):(mkT T x).2 ≠ 0:=by
 cases hf:fdT x T with
 | zero=>rw [mkT_new h hf];simp
 | succ i=>rw [mkT_old h hf];simp
def tbM (N c:Nat) (T:List Te) (a:Nat):Mm:=[(1000,.mem true 0 [(1,.sl a 0 0 N c),(1,.mp 1002)]),(a,.mem true (mulE (c - N) 3) [(N * 3,.arr N 3 (ttF T))]),(1002,.map (.si (mpL T)))]
def rbM (N c:Nat) (T:List Te) (a:Nat):Mm:=[(1000,.mem true 0 [(1,.sl a 0 0 N c)]),(a,.mem true (mulE (c - N) 2) [(N * 2,.arr N 2 (rtF T))])]
theorem tb0_valid:∀ x ∈ ([]:List Te),Valid x.1 x.2:=fun _ h=>by cases h
set_option maxRecDepth 100000 in
theorem fnNewT:Sx.Fn Γ.P 36 [] [] (fun v M=>v = .ptr 1000 0 none∧M = [(1000,.mem true 0 [(1,.nsl),(1,.mp 1002)]),(1002,.map (.si []))]):=by
 refine fn_of (Γ:=Γ) (fn:=Try.f36) rfl rfl rfl rfl ?_
 repeat (refine sd ?_)
 refine Ret.intro (.ptr 1000 0 none) [(1000,.mem true 0 [(1,.nsl),(1,.mp 1002)]),(1002,.map (.si []))] [(1000,(3,0,none)),(1002,(1,0,none))] rfl ?_ ⟨rfl,rfl⟩ rfl ?_ rfl ?_ rfl
 ·exact fc
 ·exact fc
 ·exact fc
set_option maxRecDepth 100000 in
theorem fn19:Sx.Fn Γ.P 19 [] [] (fun v M=>v = .agg [(1,.ptr 1000 0 none)]∧M = [(1000,.mem true 0 [(1,.nsl),(1,.mp 1002)]),(1002,.map (.si []))]):=by
 refine fn_of (Γ:=Γ) (fn:=Try.f19) rfl rfl rfl rfl ?_
 repeat (refine sd ?_)
 refine Call.intro fnNewT [(1000,(300,0,none)),(1002,(302,0,none))] rfl fc rfl trivial rfl ?_
 rintro v M' ⟨rfl,rfl⟩
 dsimp only [putT,afterM,newEnt,ren,renA,renS,renL,look,getM,getT,ev,evL,ofVal,cond_true,cond_false,Nat.beq_eq,act,isPar,ownPar,Ent.isOwn]
 repeat (refine sd ?_)
 refine Ret.intro (.agg [(1,.ptr 1000 0 none)]) [(1000,.mem true 0 [(1,.nsl),(1,.mp 1002)]),(1002,.map (.si []))] [(1000,(300,0,none)),(1002,(302,0,none))] rfl ?_ ⟨rfl,rfl⟩ rfl ?_ rfl ?_ rfl
 ·exact fc
 ·exact fc
 ·exact fc
set_option maxRecDepth 100000 in
theorem fn20:Sx.Fn Γ.P 20 [] [] (fun v M=>v = .agg [(1,.nilp)]∧M = []):=by
 refine fn_of (Γ:=Γ) (fn:=Try.f20) rfl rfl rfl rfl ?_
 repeat (refine sd ?_)
 refine Ret.intro (.agg [(1,.nilp)]) [] [] rfl ?_ ⟨rfl,rfl⟩ rfl ?_ rfl ?_ rfl
 ·exact fc
 ·exact fc
 ·exact fc
set_option maxRecDepth 100000 in
theorem fn25:Sx.Fn Γ.P 25 [] [] (fun v M=>v = .agg [(1,.ptr 1000 0 none)]∧M = [(1000,.mem true 0 [(1,.nsl)])]):=by
 refine fn_of (Γ:=Γ) (fn:=Try.f25) rfl rfl rfl rfl ?_
 repeat (refine sd ?_)
 refine Ret.intro (.agg [(1,.ptr 1000 0 none)]) [(1000,.mem true 0 [(1,.nsl)])] [(1000,(2,0,none))] rfl ?_ ⟨rfl,rfl⟩ rfl ?_ rfl ?_ rfl
 ·exact fc
 ·exact fc
 ·exact fc
set_option maxRecDepth 100000 in
theorem fnSuiteF:Sx.Fn Γ.P 7 [.tt] [] (fun v M=>v = .agg [(1,.ptr 1000 0 none)]∧M = tbM 0 0 [] 1001):=by
 refine fn_of (Γ:=Γ) (fn:=Try.f7) rfl rfl rfl rfl ?_
 repeat (refine sd ?_)
 refine Call.intro fn19 [(1000,(300,0,none)),(1002,(302,0,none))] rfl fc rfl trivial rfl ?_
 rintro v M' ⟨rfl,rfl⟩
 dsimp only [putT,afterM,newEnt,ren,renA,renS,renL,look,getM,getT,ev,evL,ofVal,cond_true,cond_false,Nat.beq_eq,act,isPar,ownPar,Ent.isOwn]
 repeat (refine sd ?_)
 refine Ret.ghost [.own 401 [(0,.arr 0 3 (ttF []))],.leaf 300 0 401] [] rfl ⟨rfl,rfl,trivial⟩ rfl (.agg [(1,.ptr 1000 0 none)]) (tbM 0 0 [] 1001) [(1000,(300,0,none)),(1001,(401,0,none)),(1002,(302,0,none))] rfl ?_ ⟨rfl,rfl⟩ rfl ?_ rfl ?_ rfl
 ·exact fc
 ·exact fc
 ·repeat' (first | (show AllP _;first | exact trivial | refine AllP.app ?_ ?_ | refine AllP.appd ?_ ?_ | refine AllP.cons ?_ ?_) | with_reducible rfl | with_reducible assumption | omega | (simp only [rng,Ix.val,addQ_eq,addI,sz26,by26,sz27,by27,sz32,by32,sz33,by33,sz67,by67,sz68,by68,sz85,by85,sz86,by86] <;> omega) | (simp only [rng,Ix.val,Int.toNat_natCast,mulE_eq,addQ_eq,addI,Option.getD_none,Option.getD_some,List.length_take,List.length_drop,List.length_append,List.length_set,List.length_replicate,sz26,by26,sz27,by27,sz32,by32,sz33,by33,sz67,by67,sz68,by68,sz85,by85,sz86,by86, *] <;> omega) | (simp only [Ix.val];with_reducible assumption) | exact UInt8.toNat_lt _ | (apply Eq.trans;(with_reducible assumption);exact rfl) | exact rfl | exact fun _ _=>rfl)
  all_goals exact mpL_nil
set_option maxRecDepth 100000 in
theorem fnSuiteR:Sx.Fn Γ.P 7 [.ff] [] (fun v M=>v = .agg [(1,.nilp)]∧M = []):=by
 refine fn_of (Γ:=Γ) (fn:=Try.f7) rfl rfl rfl rfl ?_
 repeat (refine sd ?_)
 refine Call.intro fn20 [] rfl fc rfl trivial rfl ?_
 rintro v M' ⟨rfl,rfl⟩
 dsimp only [putT,afterM,newEnt,ren,renA,renS,renL,look,getM,getT,ev,evL,ofVal,cond_true,cond_false,Nat.beq_eq,act,isPar,ownPar,Ent.isOwn]
 repeat (refine sd ?_)
 refine Ret.intro (.agg [(1,.nilp)]) [] [] rfl ?_ ⟨rfl,rfl⟩ rfl ?_ rfl ?_ rfl
 ·exact fc
 ·exact fc
 ·exact fc
set_option maxRecDepth 100000 in
theorem fnRefF:Sx.Fn Γ.P 9 [.tt] [] (fun v M=>v = .agg [(1,.ptr 1000 0 none)]∧M = rbM 0 0 [] 1001):=by
 refine fn_of (Γ:=Γ) (fn:=Try.f9) rfl rfl rfl rfl ?_
 repeat (refine sd ?_)
 refine Call.intro fn25 [(1000,(300,0,none))] rfl fc rfl trivial rfl ?_
 rintro v M' ⟨rfl,rfl⟩
 dsimp only [putT,afterM,newEnt,ren,renA,renS,renL,look,getM,getT,ev,evL,ofVal,cond_true,cond_false,Nat.beq_eq,act,isPar,ownPar,Ent.isOwn]
 repeat (refine sd ?_)
 refine Ret.ghost [.own 401 [(0,.arr 0 2 (rtF []))],.leaf 300 0 401] [] rfl ⟨rfl,rfl,trivial⟩ rfl (.agg [(1,.ptr 1000 0 none)]) (rbM 0 0 [] 1001) [(1000,(300,0,none)),(1001,(401,0,none))] rfl ?_ ⟨rfl,rfl⟩ rfl ?_ rfl ?_ rfl
 ·exact fc
 ·exact fc
 ·exact fc
set_option maxRecDepth 100000 in
theorem fnRefR:Sx.Fn Γ.P 9 [.ff] [] (fun v M=>v = .agg [(1,.nilp)]∧M = []):=by
 refine fn_of (Γ:=Γ) (fn:=Try.f9) rfl rfl rfl rfl ?_
 repeat (refine sd ?_)
 refine Ret.intro (.agg [(1,.nilp)]) [] [] rfl ?_ ⟨rfl,rfl⟩ rfl ?_ rfl ?_ rfl
 ·exact fc
 ·exact fc
 ·exact fc
end Go.Proofs.Ytlbmkjckbfeejaa
