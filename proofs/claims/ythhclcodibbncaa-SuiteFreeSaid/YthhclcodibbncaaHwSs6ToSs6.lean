/- What the functions of the program compute. No condition. -/
import Derived.Test.YthhclcodibbncaaHwSs2ToSs5
set_option linter.unusedSimpArgs false
set_option linter.unusedVariables false
set_option maxRecDepth 100000
namespace Go.Proofs.Ythhclcodibbncaa
open Go Go.Sx
theorem fnTermsF:Sx.Fn Γ.P 13 [.agg [(1,.ptr 1000 0 none)]] [(1000,.dead)] (fun v M=>v = .ptr 1000 0 none∧M = [(1000,.dead)]):=by
 refine fn_of (Γ:=Γ) (fn:=Try.f13) rfl rfl rfl rfl ?_
 repeat (refine sd ?_)
 refine Ret.intro (.ptr 1000 0 none) [(1000,.dead)] [] rfl ?_ ⟨rfl,rfl⟩ rfl ?_ rfl ?_ rfl
 ·exact fc
 ·exact fc
 ·exact fc
theorem fnTermsR:Sx.Fn Γ.P 13 [.agg [(1,.nilp)]] [] (fun v M=>v = .nilp∧M = []):=by
 refine fn_of (Γ:=Γ) (fn:=Try.f13) rfl rfl rfl rfl ?_
 repeat (refine sd ?_)
 refine Ret.intro .nilp [] [] rfl ?_ ⟨rfl,rfl⟩ rfl ?_ rfl ?_ rfl
 ·exact fc
 ·exact fc
 ·exact fc
def textB:List UInt8:=[UInt8.ofNat 116,UInt8.ofNat 101,UInt8.ofNat 120,UInt8.ofNat 116]
theorem mx8_nil {key plain:List UInt8} (hk:key.length ≤ 1024) (hp:plain.length ≤ 1024):mx8 [] key plain = ([(8,[key,plain])],1):=by
 rw [mx8_eq,mkT_new (x:=(8,_)) ⟨joinsS hk hp,by show (1:Int) ≤ 8;decide,by show (8:Int) ≤ 8;decide⟩ rfl]
 rfl
theorem t8_valid {key plain:List UInt8} (hk:key.length ≤ 1024) (hp:plain.length ≤ 1024):∀ x ∈ ([(8,[key,plain])]:List Te),Valid x.1 x.2:=by
 intro x hx
 rw [List.mem_singleton.1 hx]
 exact ⟨joinsS hk hp,by show (1:Int) ≤ 8;decide,by show (8:Int) ≤ 8;decide⟩
set_option maxHeartbeats 2000000 in
theorem fn4:Sx.Fn Γ.P 4 [] [] (fun v _=>v = .tt):=by
 obtain ⟨key,hkey⟩:∃ key:List UInt8,(UInt8.ofNat 1 :: List.replicate 31 0:List UInt8) = key:=⟨_,rfl⟩
 have hk:key.length = 32:=by rw [← hkey];rfl
 have htl:textB.length = 4:=rfl
 have hSR:=fnSealR key textB 4 hk htl
 have hOR:=fnOpenR key textB 4 32 hk htl (by omega) (by omega)
 have eR:seS key textB = seB key textB:=seS_ok (by rw [htl];omega)
 have eRl:(seB key textB).length = 32:=seB_length htl
 have hmx:=mx8_nil (key:=key) (plain:=textB) (by omega) (by rw [htl];omega)
 have hSF:=fnSealF [] 0 0 rfl (by omega) (Nat.le_refl _) tb0_valid key textB 4 32 hk htl (by omega) (by omega) [(8,[key,textB])] 1 (by rw [hmx]) (by rw [hmx])
 have hOF:=fnOpenF1 [(8,[key,textB])] 1 rfl (by omega) (t8_valid (by omega) (by rw [htl];omega)) key textB 4 32 0 hk htl (by omega) (by omega) (by omega) rfl
 have hSz:=fn14 16
 rw [sizS_ok (by omega) (by omega),show (16:Int) / 16 * 16 + 32 = 48 by rfl] at hSz
 rw [eR] at hSR
 unfold tbM at hSF
 unfold textB at hSR hOR hSF hOF
 refine fn_of (Γ:=Γ) (fn:=Try.f4) rfl rfl rfl rfl ?_
 repeat (refine sd ?_)
 refine Loop.intro (σ:=Nat) (fun i=>i ≤ 2) (fun i=>([(1,.i .i64 (i:Int))],[])) (fun i=>2 - i) 0 (Nat.zero_le _) ?_ ?_
 ·refine Le.intro [] rfl ?_ rfl ?_ rfl
  ·exact fc
  ·exact fc
 rintro i hi
 have hi:i ≤ 2:=hi
 repeat (refine sd ?_)
 refine Branch.intro (fun hc=>?_) (fun hc=>?_)
 ·have hc:(i:Int) < 2:=hc
  obtain rfl | rfl:i = 0 ∨ i = 1:=by omega
  ·repeat (refine sd ?_)
   refine Call.intro fnSuiteR [] rfl fc rfl trivial rfl ?_
   rintro v M' ⟨rfl,rfl⟩
   dsimp only [putT,afterM,newEnt,ren,renA,renS,renL,look,getM,getT,ev,evL,ofVal,cond_true,cond_false,Nat.beq_eq,act,isPar,ownPar,Ent.isOwn]
   repeat (refine sd ?_)
   refine Call.intro fnTermsR [] rfl fc rfl trivial rfl ?_
   rintro v M' ⟨rfl,rfl⟩
   dsimp only [putT,afterM,newEnt,ren,renA,renS,renL,look,getM,getT,ev,evL,ofVal,cond_true,cond_false,Nat.beq_eq,act,isPar,ownPar,Ent.isOwn]
   repeat (refine sd ?_)
   refine Branch.intro (fun h=>False.elim (by revert h;simp)) (fun _=>?_)
   repeat (refine sd ?_)
   refine Call.intro hSR [(1003,(23,0,none)),(1006,(306,0,none))] rfl ?_ rfl ?_ rfl ?_
   ·exact fc
   ·exact fc
   rintro v M' ⟨m,c,hm,hmc,rfl,rfl⟩
   have hm2:32 = m:=by rw [← hm];exact eRl.symm
   subst hm2
   dsimp only [putT,afterM,newEnt,ren,renA,renS,renL,look,getM,getT,ev,evL,ofVal,cond_true,cond_false,Nat.beq_eq,act,isPar,ownPar,Ent.isOwn]
   repeat (refine sd ?_)
   refine Call.intro hOR [(1003,(306,0,none)),(1006,(406,0,none))] rfl ?_ rfl ?_ rfl ?_
   ·exact fc
   ·exact fc
   rintro v M' ⟨n0,U,sp,hU,hn0,hUl,rfl,rfl⟩
   dsimp only [putT,afterM,newEnt,ren,renA,renS,renL,look,getM,getT,ev,evL,ofVal,cond_true,cond_false,Nat.beq_eq,act,isPar,ownPar,Ent.isOwn]
   repeat (refine sd ?_)
   repeat (first | (refine sd ?_) | (refine Branch.intro (fun h=>False.elim (by revert h;first | (simp;done) | (simp;exact hU))) (fun _=>?_)))
   refine ⟨0 + 1,by omega,by omega,Le.intro [] rfl ?_ rfl ?_ rfl⟩
   ·exact fc
   ·exact fc
  ·repeat (refine sd ?_)
   refine Call.intro fnSuiteF [(1000,(1000,0,none)),(1001,(1001,0,none)),(1002,(1002,0,none))] rfl ?_ rfl ?_ rfl ?_
   ·exact fc
   ·exact fc
   rintro v M' ⟨rfl,rfl⟩
   dsimp only [putT,afterM,newEnt,ren,renA,renS,renL,look,getM,getT,ev,evL,ofVal,cond_true,cond_false,Nat.beq_eq,act,isPar,ownPar,Ent.isOwn]
   repeat (refine sd ?_)
   refine Call.intro fnTermsF [(1000,(1000,0,none))] rfl fc rfl trivial rfl ?_
   rintro v M' ⟨rfl,rfl⟩
   dsimp only [putT,afterM,newEnt,ren,renA,renS,renL,look,getM,getT,ev,evL,ofVal,cond_true,cond_false,Nat.beq_eq,act,isPar,ownPar,Ent.isOwn]
   repeat (refine sd ?_)
   refine Branch.intro (fun h=>False.elim (by revert h;simp)) (fun _=>?_)
   repeat (refine sd ?_)
   refine Call.name [(0,[]),(0,[]),(1,[])] rfl ?_ (CallP.intro hSF [(1000,(1000,0,none)),(1001,(1001,0,none)),(1002,(1002,0,none)),(1005,(305,0,none)),(1006,(306,0,none))] rfl ?_ rfl ?_ rfl ?_)
   ·exact fc
   ·exact fc
   ·exact fc
   rintro v M' ⟨n',c',hn',hnc',rfl,rfl⟩
   obtain rfl:1 = n':=hn'
   dsimp only [putT,afterM,newEnt,ren,renA,renS,renL,look,getM,getT,ev,evL,ofVal,cond_true,cond_false,Nat.beq_eq,act,isPar,ownPar,Ent.isOwn]
   repeat (refine sd ?_)
   refine Call.intro hOF [(1003,(306,0,none)),(1000,(1000,0,none)),(1001,(305,0,none)),(1002,(1002,0,none))] rfl ?_ rfl ?_ rfl ?_
   ·exact fc
   ·exact fc
   rintro v M' ⟨rfl,rfl⟩
   dsimp only [putT,afterM,newEnt,ren,renA,renS,renL,look,getM,getT,ev,evL,ofVal,cond_true,cond_false,Nat.beq_eq,act,isPar,ownPar,Ent.isOwn]
   repeat (refine sd ?_)
   repeat (first | (refine sd ?_) | (refine Branch.intro (fun h=>False.elim (by revert h;simp)) (fun _=>?_)))
   refine ⟨1 + 1,by omega,by omega,Le.intro [] rfl ?_ rfl ?_ rfl⟩
   ·exact fc
   ·exact fc
 ·repeat (refine sd ?_)
  refine Call.pure hSz rfl fc ?_
  intro v hv
  subst hv
  repeat (refine sd ?_)
  refine Ret.intro .tt [] [] rfl ?_ rfl rfl ?_ rfl ?_ rfl
  ·exact fc
  ·exact fc
  ·exact fc
end Go.Proofs.Ythhclcodibbncaa
