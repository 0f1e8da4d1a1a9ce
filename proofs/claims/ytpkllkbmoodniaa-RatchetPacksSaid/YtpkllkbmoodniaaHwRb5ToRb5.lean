/- What the functions of the program compute. No condition. -/
import Derived.Test.YtpkllkbmoodniaaHwFdToTm2
import Derived.Test.YtpkllkbmoodniaaHwRc4ToRb0
set_option linter.unusedSimpArgs false
set_option linter.unusedVariables false
namespace Go.Proofs.Ytpkllkbmoodniaa
open Go Go.Sx
def sameP (x y:Se):Prop:=x.id = y.id∧x.root = y.root∧x.mine = y.mine∧x.hs = y.hs∧x.sk = y.sk∧x.sn = y.sn∧x.pv = y.pv∧x.th = y.th∧x.hr = y.hr∧x.rk = y.rk∧x.rn = y.rn∧x.fi = y.fi∧x.ag = y.ag∧x.sg = y.sg∧x.ba = y.ba∧x.oc = y.oc
set_option maxRecDepth 100000 in
set_option maxHeartbeats 4000000 in
theorem fn13 (x y:Se) (hx:x.OK) (hy:y.OK) (l k:List Kp) (Nl ml Nk mk:Nat) (hNl:l.length = Nl) (hml:ml ≤ Nl) (hNl1:Nl ≤ 1000000) (hlO:∀ x ∈ l,KpOK x) (hNk:k.length = Nk) (hmk:mk ≤ Nk) (hNk1:Nk ≤ 1000000) (hkO:∀ x ∈ k,KpOK x) :
  Sx.Fn Γ.P 13 [.agg (seL x (.isl 0 ml 65 [(Nl * 65,.arr Nl 65 (kpF l))])),.agg (seL y (.isl 0 mk 65 [(Nk * 65,.arr Nk 65 (kpF k))]))] []
  (fun v M=>v = .bool (sameP x y∧l.take ml = k.take mk)∧M = []):=by
 have hS:=fn35 l k Nl ml Nk mk hNl hml hNl1 hNk hmk hNk1 hlO hkO
 obtain ⟨h1,h2,h3,h4,h5,h6,h7,h8,h9,_⟩:=hx
 obtain ⟨g1,g2,g3,g4,g5,g6,g7,g8,g9,_⟩:=hy
 refine fn_of (Γ:=Γ) (fn:=Try.f13) rfl rfl rfl rfl ?_
 repeat (refine sd ?_)
 refine Branch.intro (fun e0=>?_) (fun e0=>?_)
 rotate_left
 ·have e0:¬ x.id = y.id:=e0
  repeat (refine sd ?_)
  refine Ret.intro (.bool (sameP x y∧l.take ml = k.take mk)) [] [] rfl ?_ ⟨rfl,rfl⟩ rfl ?_ rfl ?_ rfl
  ·exact fc
  ·repeat' (first | (show AllP _;first | exact trivial | refine AllP.app ?_ ?_ | refine AllP.appd ?_ ?_ | refine AllP.cons ?_ ?_) | exact fd | fail)
   all_goals exact fun h=>e0 h.1.1
  ·exact fc
 have e0:x.id = y.id:=e0
 repeat (refine sd ?_)
 refine Branch.intro (fun e1=>?_) (fun e1=>?_)
 rotate_left
 ·have e1:¬ x.root = y.root:=e1
  repeat (refine sd ?_)
  refine Ret.intro (.bool (sameP x y∧l.take ml = k.take mk)) [] [] rfl ?_ ⟨rfl,rfl⟩ rfl ?_ rfl ?_ rfl
  ·exact fc
  ·repeat' (first | (show AllP _;first | exact trivial | refine AllP.app ?_ ?_ | refine AllP.appd ?_ ?_ | refine AllP.cons ?_ ?_) | exact fd | fail)
   all_goals exact fun h=>e1 h.1.2.1
  ·exact fc
 have e1:x.root = y.root:=e1
 repeat (refine sd ?_)
 refine Branch.intro (fun e2=>?_) (fun e2=>?_)
 rotate_left
 ·have e2:¬ x.mine = y.mine:=e2
  repeat (refine sd ?_)
  refine Ret.intro (.bool (sameP x y∧l.take ml = k.take mk)) [] [] rfl ?_ ⟨rfl,rfl⟩ rfl ?_ rfl ?_ rfl
  ·exact fc
  ·repeat' (first | (show AllP _;first | exact trivial | refine AllP.app ?_ ?_ | refine AllP.appd ?_ ?_ | refine AllP.cons ?_ ?_) | exact fd | fail)
   all_goals exact fun h=>e2 h.1.2.2.1
  ·exact fc
 have e2:x.mine = y.mine:=e2
 repeat (refine sd ?_)
 refine Branch.intro (fun e3=>?_) (fun e3=>?_)
 rotate_left
 ·have e3:¬ (x.hs = true ↔ y.hs = true):=e3
  repeat (refine sd ?_)
  refine Ret.intro (.bool (sameP x y∧l.take ml = k.take mk)) [] [] rfl ?_ ⟨rfl,rfl⟩ rfl ?_ rfl ?_ rfl
  ·exact fc
  ·repeat' (first | (show AllP _;first | exact trivial | refine AllP.app ?_ ?_ | refine AllP.appd ?_ ?_ | refine AllP.cons ?_ ?_) | exact fd | fail)
   all_goals exact fun h=>e3 (by rw [show x.hs = y.hs from h.1.2.2.2.1])
  ·exact fc
 have e3:x.hs = y.hs:=Bool.eq_iff_iff.2 e3
 repeat (refine sd ?_)
 refine Branch.intro (fun e4=>?_) (fun e4=>?_)
 rotate_left
 ·have e4:¬ (x.sk = y.sk∧x.sn = y.sn):=e4
  repeat (refine sd ?_)
  refine Ret.intro (.bool (sameP x y∧l.take ml = k.take mk)) [] [] rfl ?_ ⟨rfl,rfl⟩ rfl ?_ rfl ?_ rfl
  ·exact fc
  ·repeat' (first | (show AllP _;first | exact trivial | refine AllP.app ?_ ?_ | refine AllP.appd ?_ ?_ | refine AllP.cons ?_ ?_) | exact fd | fail)
   all_goals exact fun h=>e4 ⟨h.1.2.2.2.2.1,h.1.2.2.2.2.2.1⟩
  ·exact fc
 have e4:x.sk = y.sk∧x.sn = y.sn:=e4
 repeat (refine sd ?_)
 refine Branch.intro (fun e5=>?_) (fun e5=>?_)
 rotate_left
 ·have e5:¬ x.pv = y.pv:=e5
  repeat (refine sd ?_)
  refine Ret.intro (.bool (sameP x y∧l.take ml = k.take mk)) [] [] rfl ?_ ⟨rfl,rfl⟩ rfl ?_ rfl ?_ rfl
  ·exact fc
  ·repeat' (first | (show AllP _;first | exact trivial | refine AllP.app ?_ ?_ | refine AllP.appd ?_ ?_ | refine AllP.cons ?_ ?_) | exact fd | fail)
   all_goals exact fun h=>e5 h.1.2.2.2.2.2.2.1
  ·exact fc
 have e5:x.pv = y.pv:=e5
 repeat (refine sd ?_)
 refine Branch.intro (fun e6=>?_) (fun e6=>?_)
 rotate_left
 ·have e6:¬ x.th = y.th:=e6
  repeat (refine sd ?_)
  refine Ret.intro (.bool (sameP x y∧l.take ml = k.take mk)) [] [] rfl ?_ ⟨rfl,rfl⟩ rfl ?_ rfl ?_ rfl
  ·exact fc
  ·repeat' (first | (show AllP _;first | exact trivial | refine AllP.app ?_ ?_ | refine AllP.appd ?_ ?_ | refine AllP.cons ?_ ?_) | exact fd | fail)
   all_goals exact fun h=>e6 h.1.2.2.2.2.2.2.2.1
  ·exact fc
 have e6:x.th = y.th:=e6
 repeat (refine sd ?_)
 refine Branch.intro (fun e7=>?_) (fun e7=>?_)
 rotate_left
 ·have e7:¬ (x.hr = true ↔ y.hr = true):=e7
  repeat (refine sd ?_)
  refine Ret.intro (.bool (sameP x y∧l.take ml = k.take mk)) [] [] rfl ?_ ⟨rfl,rfl⟩ rfl ?_ rfl ?_ rfl
  ·exact fc
  ·repeat' (first | (show AllP _;first | exact trivial | refine AllP.app ?_ ?_ | refine AllP.appd ?_ ?_ | refine AllP.cons ?_ ?_) | exact fd | fail)
   all_goals exact fun h=>e7 (by rw [show x.hr = y.hr from h.1.2.2.2.2.2.2.2.2.1])
  ·exact fc
 have e7:x.hr = y.hr:=Bool.eq_iff_iff.2 e7
 repeat (refine sd ?_)
 refine Branch.intro (fun e8=>?_) (fun e8=>?_)
 rotate_left
 ·have e8:¬ (x.rk = y.rk∧x.rn = y.rn):=e8
  repeat (refine sd ?_)
  refine Ret.intro (.bool (sameP x y∧l.take ml = k.take mk)) [] [] rfl ?_ ⟨rfl,rfl⟩ rfl ?_ rfl ?_ rfl
  ·exact fc
  ·repeat' (first | (show AllP _;first | exact trivial | refine AllP.app ?_ ?_ | refine AllP.appd ?_ ?_ | refine AllP.cons ?_ ?_) | exact fd | fail)
   all_goals exact fun h=>e8 ⟨h.1.2.2.2.2.2.2.2.2.2.1,h.1.2.2.2.2.2.2.2.2.2.2.1⟩
  ·exact fc
 have e8:x.rk = y.rk∧x.rn = y.rn:=e8
 repeat (refine sd ?_)
 refine Branch.intro (fun e9=>?_) (fun e9=>?_)
 rotate_left
 ·have e9:¬ (x.fi = true ↔ y.fi = true):=e9
  repeat (refine sd ?_)
  refine Ret.intro (.bool (sameP x y∧l.take ml = k.take mk)) [] [] rfl ?_ ⟨rfl,rfl⟩ rfl ?_ rfl ?_ rfl
  ·exact fc
  ·repeat' (first | (show AllP _;first | exact trivial | refine AllP.app ?_ ?_ | refine AllP.appd ?_ ?_ | refine AllP.cons ?_ ?_) | exact fd | fail)
   all_goals exact fun h=>e9 (by rw [show x.fi = y.fi from h.1.2.2.2.2.2.2.2.2.2.2.2.1])
  ·exact fc
 have e9:x.fi = y.fi:=Bool.eq_iff_iff.2 e9
 repeat (refine sd ?_)
 refine Branch.intro (fun e10=>?_) (fun e10=>?_)
 rotate_left
 ·have e10:¬ x.ag = y.ag:=e10
  repeat (refine sd ?_)
  refine Ret.intro (.bool (sameP x y∧l.take ml = k.take mk)) [] [] rfl ?_ ⟨rfl,rfl⟩ rfl ?_ rfl ?_ rfl
  ·exact fc
  ·repeat' (first | (show AllP _;first | exact trivial | refine AllP.app ?_ ?_ | refine AllP.appd ?_ ?_ | refine AllP.cons ?_ ?_) | exact fd | fail)
   all_goals exact fun h=>e10 h.1.2.2.2.2.2.2.2.2.2.2.2.2.1
  ·exact fc
 have e10:x.ag = y.ag:=e10
 repeat (refine sd ?_)
 refine Branch.intro (fun e11=>?_) (fun e11=>?_)
 rotate_left
 ·have e11:¬ x.sg = y.sg:=e11
  repeat (refine sd ?_)
  refine Ret.intro (.bool (sameP x y∧l.take ml = k.take mk)) [] [] rfl ?_ ⟨rfl,rfl⟩ rfl ?_ rfl ?_ rfl
  ·exact fc
  ·repeat' (first | (show AllP _;first | exact trivial | refine AllP.app ?_ ?_ | refine AllP.appd ?_ ?_ | refine AllP.cons ?_ ?_) | exact fd | fail)
   all_goals exact fun h=>e11 h.1.2.2.2.2.2.2.2.2.2.2.2.2.2.1
  ·exact fc
 have e11:x.sg = y.sg:=e11
 repeat (refine sd ?_)
 refine Branch.intro (fun e12=>?_) (fun e12=>?_)
 rotate_left
 ·have e12:¬ x.ba = y.ba:=e12
  repeat (refine sd ?_)
  refine Ret.intro (.bool (sameP x y∧l.take ml = k.take mk)) [] [] rfl ?_ ⟨rfl,rfl⟩ rfl ?_ rfl ?_ rfl
  ·exact fc
  ·repeat' (first | (show AllP _;first | exact trivial | refine AllP.app ?_ ?_ | refine AllP.appd ?_ ?_ | refine AllP.cons ?_ ?_) | exact fd | fail)
   all_goals exact fun h=>e12 h.1.2.2.2.2.2.2.2.2.2.2.2.2.2.2.1
  ·exact fc
 have e12:x.ba = y.ba:=e12
 repeat (refine sd ?_)
 refine Branch.intro (fun e13=>?_) (fun e13=>?_)
 rotate_left
 ·have e13:¬ x.oc = y.oc:=e13
  repeat (refine sd ?_)
  refine Ret.intro (.bool (sameP x y∧l.take ml = k.take mk)) [] [] rfl ?_ ⟨rfl,rfl⟩ rfl ?_ rfl ?_ rfl
  ·exact fc
  ·repeat' (first | (show AllP _;first | exact trivial | refine AllP.app ?_ ?_ | refine AllP.appd ?_ ?_ | refine AllP.cons ?_ ?_) | exact fd | fail)
   all_goals exact fun h=>e13 h.1.2.2.2.2.2.2.2.2.2.2.2.2.2.2.2
  ·exact fc
 have e13:x.oc = y.oc:=e13
 repeat (refine sd ?_)
 refine Call.name [(2001,[]),(2002,[])] rfl fc (CallP.intro hS [(1003,(2001,0,none)),(1004,(2002,0,none))] rfl fc rfl ?_ rfl ?_)
 ·exact fc
 rintro v M' ⟨rfl,rfl⟩
 dsimp only [putT,afterM,newEnt,ren,renA,renS,renL,look,getM,getT,ev,evL,ofVal,cond_true,cond_false,Nat.beq_eq,act,isPar,ownPar,Ent.isOwn]
 repeat (refine sd ?_)
 refine Ret.intro (.bool (sameP x y∧l.take ml = k.take mk)) [] [] rfl ?_ ⟨rfl,rfl⟩ rfl ?_ rfl ?_ rfl
 ·exact fc
 ·repeat' (first | (show AllP _;first | exact trivial | refine AllP.app ?_ ?_ | refine AllP.appd ?_ ?_ | refine AllP.cons ?_ ?_) | exact fd | fail)
  all_goals exact ⟨fun h=>h.2,fun h=>⟨⟨e0,e1,e2,e3,e4.1,e4.2,e5,e6,e7,e8.1,e8.2,e9,e10,e11,e12,e13⟩,h⟩⟩
 ·exact fc
end Go.Proofs.Ytpkllkbmoodniaa
