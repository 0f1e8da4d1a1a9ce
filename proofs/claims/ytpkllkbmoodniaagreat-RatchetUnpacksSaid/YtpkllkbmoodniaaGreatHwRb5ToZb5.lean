/- What the functions of the program compute. No condition. -/
import Derived.Test.YtpkllkbmoodniaaGreatHwRb0ToRb0
import Derived.Test.YtpkllkbmoodniaaGreatHwZb4ToZb4
import Derived.Test.YtpkllkbmoodniaaGreatHwRc8ToRc8
import Derived.Test.YtpkllkbmoodniaaGreatHwRb8ToRb8
set_option linter.unusedSimpArgs false
set_option linter.unusedVariables false
namespace Go.Proofs.YtpkllkbmoodniaaGreat
open Go Go.Sx
def sameP (x y:Se):Prop:=x.id = y.id∧x.root = y.root∧x.mine = y.mine∧x.hs = y.hs∧x.sk = y.sk∧x.sn = y.sn∧x.pv = y.pv∧x.th = y.th∧x.hr = y.hr∧x.rk = y.rk∧x.rn = y.rn∧x.fi = y.fi∧x.ag = y.ag∧x.sg = y.sg∧x.ba = y.ba∧x.oc = y.oc
set_option maxRecDepth 100000 in
set_option maxHeartbeats 4000000 in
theorem fn19 (x y:Se) (hx:x.OK) (hy:y.OK) (l k:List Kp) (Nl ml Nk mk:Nat) (hNl:l.length = Nl) (hml:ml ≤ Nl) (hNl1:Nl ≤ 1000000) (hlO:∀ x ∈ l,KpOK x) (hNk:k.length = Nk) (hmk:mk ≤ Nk) (hNk1:Nk ≤ 1000000) (hkO:∀ x ∈ k,KpOK x) :
  Sx.Fn Γ.P 19 [.agg (seL x (.isl 0 ml 65 [(Nl * 65,.arr Nl 65 (kpF l))])),.agg (seL y (.isl 0 mk 65 [(Nk * 65,.arr Nk 65 (kpF k))]))] []
  (fun v M=>v = .bool (sameP x y∧l.take ml = k.take mk)∧M = []):=by
 have hS:=fn46 l k Nl ml Nk mk hNl hml hNl1 hNk hmk hNk1 hlO hkO
 obtain ⟨h1,h2,h3,h4,h5,h6,h7,h8,h9,_⟩:=hx
 obtain ⟨g1,g2,g3,g4,g5,g6,g7,g8,g9,_⟩:=hy
 refine fn_of (Γ:=Γ) (fn:=Tryz.f19) rfl rfl rfl rfl ?_
 repeat (refine sd ?_)
 refine Branch.intro (fun e0=>?_) (fun e0=>?_)
 rotate_left
 ·have e0:¬ x.id = y.id:=e0
  repeat (refine sd ?_)
  refine Ret.intro (.bool (sameP x y∧l.take ml = k.take mk)) [] [] rfl ?_ ⟨rfl,rfl⟩ rfl ?_ rfl ?_ rfl
  ·exact fc
  ·repeat' (first | (show AllP _;first | exact trivial | refine AllP.app ?_ ?_ | refine AllP.appd ?_ ?_ | refine AllP.cons ?_ ?_) | exact fd | fail)
   all_goals exact fun h=>e0 h.1.1
  ·exact fc
 have e0:x.id = y.id:=e0
 repeat (refine sd ?_)
 refine Branch.intro (fun e1=>?_) (fun e1=>?_)
 rotate_left
 ·have e1:¬ x.root = y.root:=e1
  repeat (refine sd ?_)
  refine Ret.intro (.bool (sameP x y∧l.take ml = k.take mk)) [] [] rfl ?_ ⟨rfl,rfl⟩ rfl ?_ rfl ?_ rfl
  ·exact fc
  ·repeat' (first | (show AllP _;first | exact trivial | refine AllP.app ?_ ?_ | refine AllP.appd ?_ ?_ | refine AllP.cons ?_ ?_) | exact fd | fail)
   all_goals exact fun h=>e1 h.1.2.1
  ·exact fc
 have e1:x.root = y.root:=e1
 repeat (refine sd ?_)
 refine Branch.intro (fun e2=>?_) (fun e2=>?_)
 rotate_left
 ·have e2:¬ x.mine = y.mine:=e2
  repeat (refine sd ?_)
  refine Ret.intro (.bool (sameP x y∧l.take ml = k.take mk)) [] [] rfl ?_ ⟨rfl,rfl⟩ rfl ?_ rfl ?_ rfl
  ·exact fc
  ·repeat' (first | (show AllP _;first | exact trivial | refine AllP.app ?_ ?_ | refine AllP.appd ?_ ?_ | refine AllP.cons ?_ ?_) | exact fd | fail)
   all_goals exact fun h=>e2 h.1.2.2.1
  ·exact fc
 have e2:x.mine = y.mine:=e2
 repeat (refine sd ?_)
 refine Branch.intro (fun e3=>?_) (fun e3=>?_)
 rotate_left
 ·have e3:¬ (x.hs = true ↔ y.hs = true):=e3
  repeat (refine sd ?_)
  refine Ret.intro (.bool (sameP x y∧l.take ml = k.take mk)) [] [] rfl ?_ ⟨rfl,rfl⟩ rfl ?_ rfl ?_ rfl
  ·exact fc
  ·repeat' (first | (show AllP _;first | exact trivial | refine AllP.app ?_ ?_ | refine AllP.appd ?_ ?_ | refine AllP.cons ?_ ?_) | exact fd | fail)
   all_goals exact fun h=>e3 (by rw [show x.hs = y.hs from h.1.2.2.2.1])
  ·exact fc
 have e3:x.hs = y.hs:=Bool.eq_iff_iff.2 e3
 repeat (refine sd ?_)
 refine Branch.intro (fun e4=>?_) (fun e4=>?_)
 rotate_left
 ·have e4:¬ (x.sk = y.sk∧x.sn = y.sn):=e4
  repeat (refine sd ?_)
  refine Ret.intro (.bool (sameP x y∧l.take ml = k.take mk)) [] [] rfl ?_ ⟨rfl,rfl⟩ rfl ?_ rfl ?_ rfl
  ·exact fc
  ·repeat' (first | (show AllP _;first | exact trivial | refine AllP.app ?_ ?_ | refine AllP.appd ?_ ?_ | refine AllP.cons ?_ ?_) | exact fd | fail)
   all_goals exact fun h=>e4 ⟨h.1.2.2.2.2.1,h.1.2.2.2.2.2.1⟩
  ·exact fc
 have e4:x.sk = y.sk∧x.sn = y.sn:=e4
 repeat (refine sd ?_)
 refine Branch.intro (fun e5=>?_) (fun e5=>?_)
 rotate_left
 ·have e5:¬ x.pv = y.pv:=e5
  repeat (refine sd ?_)
  refine Ret.intro (.bool (sameP x y∧l.take ml = k.take mk)) [] [] rfl ?_ ⟨rfl,rfl⟩ rfl ?_ rfl ?_ rfl
  ·exact fc
  ·repeat' (first | (show AllP _;first | exact trivial | refine AllP.app ?_ ?_ | refine AllP.appd ?_ ?_ | refine AllP.cons ?_ ?_) | exact fd | fail)
   all_goals exact fun h=>e5 h.1.2.2.2.2.2.2.1
  ·exact fc
 have e5:x.pv = y.pv:=e5
 repeat (refine sd ?_)
 refine Branch.intro (fun e6=>?_) (fun e6=>?_)
 rotate_left
 ·have e6:¬ x.th = y.th:=e6
  repeat (refine sd ?_)
  refine Ret.intro (.bool (sameP x y∧l.take ml = k.take mk)) [] [] rfl ?_ ⟨rfl,rfl⟩ rfl ?_ rfl ?_ rfl
  ·exact fc
  ·repeat' (first | (show AllP _;first | exact trivial | refine AllP.app ?_ ?_ | refine AllP.appd ?_ ?_ | refine AllP.cons ?_ ?_) | exact fd | fail)
   all_goals exact fun h=>e6 h.1.2.2.2.2.2.2.2.1
  ·exact fc
 have e6:x.th = y.th:=e6
 repeat (refine sd ?_)
 refine Branch.intro (fun e7=>?_) (fun e7=>?_)
 rotate_left
 ·have e7:¬ (x.hr = true ↔ y.hr = true):=e7
  repeat (refine sd ?_)
  refine Ret.intro (.bool (sameP x y∧l.take ml = k.take mk)) [] [] rfl ?_ ⟨rfl,rfl⟩ rfl ?_ rfl ?_ rfl
  ·exact fc
  ·repeat' (first | (show AllP _;first | exact trivial | refine AllP.app ?_ ?_ | refine AllP.appd ?_ ?_ | refine AllP.cons ?_ ?_) | exact fd | fail)
   all_goals exact fun h=>e7 (by rw [show x.hr = y.hr from h.1.2.2.2.2.2.2.2.2.1])
  ·exact fc
 have e7:x.hr = y.hr:=Bool.eq_iff_iff.2 e7
 repeat (refine sd ?_)
 refine Branch.intro (fun e8=>?_) (fun e8=>?_)
 rotate_left
 ·have e8:¬ (x.rk = y.rk∧x.rn = y.rn):=e8
  repeat (refine sd ?_)
  refine Ret.intro (.bool (sameP x y∧l.take ml = k.take mk)) [] [] rfl ?_ ⟨rfl,rfl⟩ rfl ?_ rfl ?_ rfl
  ·exact fc
  ·repeat' (first | (show AllP _;first | exact trivial | refine AllP.app ?_ ?_ | refine AllP.appd ?_ ?_ | refine AllP.cons ?_ ?_) | exact fd | fail)
   all_goals exact fun h=>e8 ⟨h.1.2.2.2.2.2.2.2.2.2.1,h.1.2.2.2.2.2.2.2.2.2.2.1⟩
  ·exact fc
 have e8:x.rk = y.rk∧x.rn = y.rn:=e8
 repeat (refine sd ?_)
 refine Branch.intro (fun e9=>?_) (fun e9=>?_)
 rotate_left
 ·have e9:¬ (x.fi = true ↔ y.fi = true):=e9
  repeat (refine sd ?_)
  refine Ret.intro (.bool (sameP x y∧l.take ml = k.take mk)) [] [] rfl ?_ ⟨rfl,rfl⟩ rfl ?_ rfl ?_ rfl
  ·exact fc
  ·repeat' (first | (show AllP _;first | exact trivial | refine AllP.app ?_ ?_ | refine AllP.appd ?_ ?_ | refine AllP.cons ?_ ?_) | exact fd | fail)
   all_goals exact fun h=>e9 (by rw [show x.fi = y.fi from h.1.2.2.2.2.2.2.2.2.2.2.2.1])
  ·exact fc
 have e9:x.fi = y.fi:=Bool.eq_iff_iff.2 e9
 repeat (refine sd ?_)
 refine Branch.intro (fun e10=>?_) (fun e10=>?_)
 rotate_left
 ·have e10:¬ x.ag = y.ag:=e10
  repeat (refine sd ?_)
  refine Ret.intro (.bool (sameP x y∧l.take ml = k.take mk)) [] [] rfl ?_ ⟨rfl,rfl⟩ rfl ?_ rfl ?_ rfl
  ·exact fc
  ·repeat' (first | (show AllP _;first | exact trivial | refine AllP.app ?_ ?_ | refine AllP.appd ?_ ?_ | refine AllP.cons ?_ ?_) | exact fd | fail)
   all_goals exact fun h=>e10 h.1.2.2.2.2.2.2.2.2.2.2.2.2.1
  ·exact fc
 have e10:x.ag = y.ag:=e10
 repeat (refine sd ?_)
 refine Branch.intro (fun e11=>?_) (fun e11=>?_)
 rotate_left
 ·have e11:¬ x.sg = y.sg:=e11
  repeat (refine sd ?_)
  refine Ret.intro (.bool (sameP x y∧l.take ml = k.take mk)) [] [] rfl ?_ ⟨rfl,rfl⟩ rfl ?_ rfl ?_ rfl
  ·exact fc
  ·repeat' (first | (show AllP _;first | exact trivial | refine AllP.app ?_ ?_ | refine AllP.appd ?_ ?_ | refine AllP.cons ?_ ?_) | exact fd | fail)
   all_goals exact fun h=>e11 h.1.2.2.2.2.2.2.2.2.2.2.2.2.2.1
  ·exact fc
 have e11:x.sg = y.sg:=e11
 repeat (refine sd ?_)
 refine Branch.intro (fun e12=>?_) (fun e12=>?_)
 rotate_left
 ·have e12:¬ x.ba = y.ba:=e12
  repeat (refine sd ?_)
  refine Ret.intro (.bool (sameP x y∧l.take ml = k.take mk)) [] [] rfl ?_ ⟨rfl,rfl⟩ rfl ?_ rfl ?_ rfl
  ·exact fc
  ·repeat' (first | (show AllP _;first | exact trivial | refine AllP.app ?_ ?_ | refine AllP.appd ?_ ?_ | refine AllP.cons ?_ ?_) | exact fd | fail)
   all_goals exact fun h=>e12 h.1.2.2.2.2.2.2.2.2.2.2.2.2.2.2.1
  ·exact fc
 have e12:x.ba = y.ba:=e12
 repeat (refine sd ?_)
 refine Branch.intro (fun e13=>?_) (fun e13=>?_)
 rotate_left
 ·have e13:¬ x.oc = y.oc:=e13
  repeat (refine sd ?_)
  refine Ret.intro (.bool (sameP x y∧l.take ml = k.take mk)) [] [] rfl ?_ ⟨rfl,rfl⟩ rfl ?_ rfl ?_ rfl
  ·exact fc
  ·repeat' (first | (show AllP _;first | exact trivial | refine AllP.app ?_ ?_ | refine AllP.appd ?_ ?_ | refine AllP.cons ?_ ?_) | exact fd | fail)
   all_goals exact fun h=>e13 h.1.2.2.2.2.2.2.2.2.2.2.2.2.2.2.2
  ·exact fc
 have e13:x.oc = y.oc:=e13
 repeat (refine sd ?_)
 refine Call.name [(2001,[]),(2002,[])] rfl fc (CallP.intro hS [(1003,(2001,0,none)),(1004,(2002,0,none))] rfl fc rfl ?_ rfl ?_)
 ·exact fc
 rintro v M' ⟨rfl,rfl⟩
 dsimp only [putT,afterM,newEnt,ren,renA,renS,renL,look,getM,getT,ev,evL,ofVal,cond_true,cond_false,Nat.beq_eq,act,isPar,ownPar,Ent.isOwn]
 repeat (refine sd ?_)
 refine Ret.intro (.bool (sameP x y∧l.take ml = k.take mk)) [] [] rfl ?_ ⟨rfl,rfl⟩ rfl ?_ rfl ?_ rfl
 ·exact fc
 ·repeat' (first | (show AllP _;first | exact trivial | refine AllP.app ?_ ?_ | refine AllP.appd ?_ ?_ | refine AllP.cons ?_ ?_) | exact fd | fail)
  all_goals exact ⟨fun h=>h.2,fun h=>⟨⟨e0,e1,e2,e3,e4.1,e4.2,e5,e6,e7,e8.1,e8.2,e9,e10,e11,e12,e13⟩,h⟩⟩
 ·exact fc
end Go.Proofs.YtpkllkbmoodniaaGreat
namespace Go.Proofs.YtpkllkbmoodniaaGreat
open Go Go.Sx
def zSX:Se:={ id:=z32,root:=z32,mine:=z32,hs:=false,sk:=z32,sn:=0,pv:=0,th:=z32,hr:=false,rk:=z32,rn:=0,fi:=false,ag:=z32,sg:=z32,ba:=z32,oc:=0,kp:=[] }
theorem zSX_ok:zSX.OK:=⟨z32_length,z32_length,z32_length,z32_length,z32_length,z32_length,z32_length,z32_length,z32_length,fun _ h=>by cases h⟩
theorem sameP_self (x:Se):sameP x x:=⟨rfl,rfl,rfl,rfl,rfl,rfl,rfl,rfl,rfl,rfl,rfl,rfl,rfl,rfl,rfl,rfl⟩
set_option maxRecDepth 100000 in
set_option maxHeartbeats 8000000 in
theorem ratchetUnpacks (b:List UInt8) (n:Nat) (hb:b.length = n) (hn:n ≤ maxLen):Sx.Fn Γ.P 5 [.isl 0 n 1 [(n,.a8 b)]] [] (fun v _=>v = .tt):=by
 refine fn_cut [7] (Γ:=Γ) (fn:=Tryz.f5) rfl rfl rfl rfl ?_
 repeat (refine sd ?_)
 refine Call.intro fn6 [] rfl trivial rfl trivial rfl ?_
 rintro v M' rfl
 dsimp only [putT,afterM,newEnt,ren,renA,renS,renL,look,getM,getT,ev,evL,ofVal,cond_true,cond_false,Nat.beq_eq,act,isPar,ownPar,Ent.isOwn]
 repeat (first | (refine Branch.intro (fun _=>?_) (fun hn=>absurd rfl hn)) | (refine ky0 ?_) | (refine kn0 ?_) | (refine sd ?_))
 refine Branch.intro (fun hc=>?_) (fun hc=>?_)
 ·repeat (refine sd ?_)
  refine Ret.intro .tt [] [] rfl ?_ rfl rfl ?_ rfl ?_ rfl
  ·exact fc
  ·exact fc
  ·exact fc
 have hc:¬ 20000 < (n:Int):=hc
 have hA:=fn22 b n hb hn
 have hB:=fn23 b n hb (by omega)
 repeat (refine sd ?_)
 refine Call.intro hA [] rfl ?_ rfl ?_ rfl ?_
 ·exact fc
 ·exact fc
 rintro v M' (⟨x,l,N,hu,hN,hN16,rfl,rfl⟩ | ⟨hno,rfl,rfl⟩)
 ·obtain ⟨L,hr,rfl,rfl⟩:=up_rf hu
  dsimp only [putT,afterM,newEnt,ren,renA,renS,renL,look,getM,getT,ev,evL,ofVal,cond_true,cond_false,Nat.beq_eq,act,isPar,ownPar,Ent.isOwn]
  repeat (refine sd ?_)
  refine Call.intro hB [] rfl ?_ rfl ?_ rfl ?_
  ·exact fc
  ·exact fc
  rintro v M' (⟨L',N',hr',hN',rfl,rfl⟩ | ⟨hno,_⟩)
  rotate_left
  ·exact absurd ⟨L,hr⟩ hno
  have e:L = L':=Option.some.inj (hr.1.symm.trans hr'.1)
  subst e
  obtain rfl:N = N':=hN.symm.trans hN'
  obtain ⟨X,hXe⟩:∃ X,rfX L = X:=⟨_,rfl⟩
  obtain ⟨l,hle⟩:∃ l,rfK L = l:=⟨_,rfl⟩
  have hX:X.OK:=by rw [← hXe];exact rfX_ok L
  have hl:∀ k ∈ l,KpOK k:=by rw [← hle];exact rfK_ok L
  rw [hle] at hN
  rw [hXe,hle]
  dsimp only [putT,afterM,newEnt,ren,renA,renS,renL,look,getM,getT,ev,evL,ofVal,cond_true,cond_false,Nat.beq_eq,act,isPar,ownPar,Ent.isOwn]
  repeat (refine sd ?_)
  have hSm:=fn19 X X hX hX l l N N N N hN (Nat.le_refl _) (by omega) hl hN (Nat.le_refl _) (by omega) hl
  have hsame:sameP X X∧l.take N = l.take N:=⟨sameP_self X,rfl⟩
  refine Cut.intro (σ:=Unit) (fun _=>True) (fun _=>([(3,.ptr 203 0 none),(4,.tt),(5,.ptr 205 0 none),(6,.tt)],[(203,.mem true 0 (seL X (.isl 0 N 65 [(N * 65,.arr N 65 (kpF l))]))),(205,.mem true 0 (seL X (.isl 0 N 65 [(N * 65,.arr N 65 (kpF l))])))])) () trivial (Le.ghost [] [] [(203,(3,0,none)),(205,(5,0,none))] rfl ?_ rfl rfl ?_ rfl ?_ rfl) ?_
  ·repeat' (first | (show AllP _;first | exact trivial | refine AllP.app ?_ ?_ | refine AllP.appd ?_ ?_ | refine AllP.cons ?_ ?_) | exact fd | fail)
   all_goals exact ⟨rfl,rfl,trivial⟩
  ·exact fc
  ·repeat' (first | (show AllP _;first | exact trivial | refine AllP.app ?_ ?_ | refine AllP.appd ?_ ?_ | refine AllP.cons ?_ ?_) | exact fd | fail)
   all_goals first | exact rfl | exact iff_of_false (fun h=>h) (fun h=>by cases h) | trace_state
  rintro - -
  obtain ⟨h1,h2,h3,h4,h5,h6,h7,h8,h9,_⟩:=hX
  repeat (first | (refine Branch.intro (fun _=>?_) (fun hn=>absurd rfl hn)) | (refine ky0 ?_) | (refine kn0 ?_) | (refine sd ?_))
  refine Call.intro hSm [] rfl ?_ rfl ?_ rfl ?_
  ·exact fc
  ·exact fc
  rintro v M' ⟨rfl,rfl⟩
  dsimp only [putT,afterM,newEnt,ren,renA,renS,renL,look,getM,getT,ev,evL,ofVal,cond_true,cond_false,Nat.beq_eq,act,isPar,ownPar,Ent.isOwn]
  repeat (refine sd ?_)
  refine Ret.intro .tt [] [] rfl ?_ rfl rfl ?_ rfl ?_ rfl
  ·exact fc
  ·repeat' (first | (show AllP _;first | exact trivial | refine AllP.app ?_ ?_ | refine AllP.appd ?_ ?_ | refine AllP.cons ?_ ?_) | exact fd | fail)
   all_goals first | exact hsame | trace_state
  ·exact fc
 ·dsimp only [putT,afterM,newEnt,ren,renA,renS,renL,look,getM,getT,ev,evL,ofVal,cond_true,cond_false,Nat.beq_eq,act,isPar,ownPar,Ent.isOwn]
  repeat (refine sd ?_)
  refine Call.intro hB [] rfl ?_ rfl ?_ rfl ?_
  ·exact fc
  ·exact fc
  rintro v M' (⟨L',N',hr',hN',rfl,rfl⟩ | ⟨_,rfl,rfl⟩)
  ·exact absurd ⟨_,_,rf_up hr'⟩ hno
  obtain ⟨X,hXe⟩:∃ X,X = zSX:=⟨_,rfl⟩
  have hX:X.OK:=by rw [hXe];exact zSX_ok
  obtain ⟨l,hle⟩:∃ l:List Kp,l = []:=⟨_,rfl⟩
  have hl:∀ k ∈ l,KpOK k:=by rw [hle];exact fun _ h=>by cases h
  obtain ⟨N,hNe⟩:∃ N:Nat,N = 0:=⟨_,rfl⟩
  have hN:l.length = N:=by rw [hle,hNe];rfl
  dsimp only [putT,afterM,newEnt,ren,renA,renS,renL,look,getM,getT,ev,evL,ofVal,cond_true,cond_false,Nat.beq_eq,act,isPar,ownPar,Ent.isOwn]
  repeat (refine sd ?_)
  subst hXe
  subst hle
  subst hNe
  have hSm:=fn19 zSX zSX hX hX [] [] 0 0 0 0 hN (Nat.le_refl _) (by omega) hl hN (Nat.le_refl _) (by omega) hl
  have hsame:sameP zSX zSX∧([]:List Kp).take 0 = ([]:List Kp).take 0:=⟨sameP_self _,rfl⟩
  refine Cut.intro (σ:=Unit) (fun _=>True) (fun _=>([(3,.ptr 203 0 none),(4,.ff),(5,.ptr 205 0 none),(6,.ff)],[(203,.mem true 0 (seL zSX (.isl 0 0 65 [(0 * 65,.arr 0 65 (kpF []))]))),(205,.mem true 0 (seL zSX (.isl 0 0 65 [(0 * 65,.arr 0 65 (kpF []))])))])) () trivial (Le.ghost [.own 450 [(0 * 65,.arr 0 65 (kpF []))],.leaf 3 16 450,.keep 450,.ice 3 16,.own 451 [(0 * 65,.arr 0 65 (kpF []))],.leaf 5 16 451,.keep 451,.ice 5 16] [] [(203,(3,0,none)),(205,(5,0,none))] rfl ?_ rfl rfl ?_ rfl ?_ rfl) ?_
  ·repeat' (first | (show AllP _;first | exact trivial | refine AllP.app ?_ ?_ | refine AllP.appd ?_ ?_ | refine AllP.cons ?_ ?_) | exact fd | fail)
   all_goals exact ⟨rfl,rfl,trivial⟩
  ·exact fc
  ·repeat' (first | (show AllP _;first | exact trivial | refine AllP.app ?_ ?_ | refine AllP.appd ?_ ?_ | refine AllP.cons ?_ ?_) | exact fd | fail)
   all_goals first | exact rfl | exact iff_of_false (fun h=>h) (fun h=>by cases h) | exact iff_of_false (fun h=>by cases h) (fun h=>h) | exact (fun h=>by cases h) | trace_state
  rintro - -
  obtain ⟨h1,h2,h3,h4,h5,h6,h7,h8,h9,_⟩:=hX
  repeat (first | (refine Branch.intro (fun _=>?_) (fun hn=>absurd rfl hn)) | (refine ky0 ?_) | (refine kn0 ?_) | (refine sd ?_))
  refine Call.intro hSm [] rfl ?_ rfl ?_ rfl ?_
  ·exact fc
  ·exact fc
  rintro v M' ⟨rfl,rfl⟩
  dsimp only [putT,afterM,newEnt,ren,renA,renS,renL,look,getM,getT,ev,evL,ofVal,cond_true,cond_false,Nat.beq_eq,act,isPar,ownPar,Ent.isOwn]
  repeat (refine sd ?_)
  refine Ret.intro .tt [] [] rfl ?_ rfl rfl ?_ rfl ?_ rfl
  ·exact fc
  ·repeat' (first | (show AllP _;first | exact trivial | refine AllP.app ?_ ?_ | refine AllP.appd ?_ ?_ | refine AllP.cons ?_ ?_) | exact fd | fail)
   all_goals first | exact hsame | trace_state
  ·exact fc
theorem allF1u {A:SV→Prop} {svs:List SV} (h:AllF [A] svs):∃ a,svs = [a]∧A a:=by
 match svs,h with
 | [a],⟨h1,_⟩=>exact ⟨a,rfl,h1⟩
theorem ratchetUnpacks_runs (svs:List SV) (h:AllF [isSl8 1] svs):Sx.Fn Γ.P 5 svs [] (fun v _=>v = .tt):=by
 obtain ⟨_,rfl,⟨n,b,hb,hn,rfl⟩⟩:=allF1u h
 rw [Nat.mul_one] at hb ⊢
 exact ratchetUnpacks b n hb hn
end Go.Proofs.YtpkllkbmoodniaaGreat
