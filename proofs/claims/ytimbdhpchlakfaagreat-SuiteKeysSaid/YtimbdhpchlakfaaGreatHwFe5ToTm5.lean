/- Walks. -/
import Derived.Test.YtimbdhpchlakfaaGreatHwCu9ToCu13
import Derived.Test.YtimbdhpchlakfaaGreatHx7
import Derived.Test.YtimbdhpchlakfaaGreatHwTabToCu8
set_option linter.unusedSimpArgs false
set_option linter.unusedVariables false
set_option maxHeartbeats 4000000
open UInt8 (ofNat)
open List (replicate getD_eq_getElem?_getD)
open UInt64 (ofInt toNat_ofNat')
open Nat (zero_le zero_add)
set_option maxRecDepth 100000
namespace Go.Proofs.YtimbdhpchlakfaaGreat
open Go Go.Sx Go.Cu
theorem vk {x y:F} (h:leB x = leB y):x = y:=by
 have:=tJ x
 rw [h,tJ y] at this
 exact Fin.ext this.symm
theorem xB (x:F):(leB x).getD 0 0 &&& ofNat 1 = ofNat 1 ↔ x.val % 2 = 1:=by
 have h:=vc (leB x) 0
 rw [tJ,Nat.pow_zero,Nat.div_one] at h
 have e:((leB x).getD 0 0 &&& ofNat 1).toNat = x.val % 2:=by
  rw [UInt8.toNat_and,show (ofNat 1).toNat = 2 ^ 1 - 1 from rfl,Nat.and_two_pow_sub_one_eq_mod,<- h]
  omega
 constructor
 ·intro h1;rw [h1] at e;exact e.symm
 ·intro h1;exact UInt8.toNat_inj.1 (by rw [e,h1];rfl)
def uP (a:List UInt64):List UInt64:=iu (replicate 5 0) a
theorem rS (a:List UInt64):Lb (uP a):=al _ _
theorem vL {a:List UInt64} (h:Lb a):fv (uP a) = 0 - fv a:=by unfold uP;rw [dq qo h,qp]
def aIV:List UInt64:=[UInt64.ofNat 2,0,0,0,0]
theorem aBG:Lb aIV:=⟨rfl,by decide,by decide,by decide,by decide,by decide⟩
theorem aKR:fv aIV = 2:=by decide +kernel
theorem aUD:exN 252 2 252 = (aB + 3) / 8:=by decide +kernel
theorem aUE:exN 253 5 253 = (aB - 1) / 4:=by decide +kernel
theorem aON {a:List UInt64} (h:Lb a):fv (pwS a 252 2 252) = r0 (fv a):=by rw [xA h,aUD];rfl
theorem aPN:fv (pwS aIV 253 5 253) = j0:=by rw [xA aBG,aUE,aKR];rfl
theorem bl (l:List UInt64) (hl:l.length = 5):Sx.Fn Γ.P 68 [.agg [(5,.a64 l)]] [] (fun v _=>v = .a8 (leB (fv l))):=by
 have h:=aWC l hl
 rw [jh] at h
 exact h
theorem aMK (a:List UInt64) (ha:a.length = 5):Sx.Fn Γ.P 138 [.agg [(5,.a64 a)]] [] (fun v _=>v = .agg [(5,.a64 (uP a))]):=by
 have hS:=pg (replicate 5 0) a rfl ha
 have e:uP a = iu (replicate 5 0) a:=by unfold uP;rfl
 have hl:=(rS a).1
 rw [<- e] at hS
 generalize uP a = X at hS hl
 refine aF (Γ:=Γ) (fn:=Tryz.f138) rfl rfl rfl rfl ?_
 repeat refine sd ?_
 refine Call.pure hS rfl fc ?_
 rintro _ rfl
 repeat (first|refine gi ?_|refine sd ?_)
 refine Ret.intro (.agg [(5,.a64 X)]) [] [] rfl fc rfl rfl fc rfl fc rfl
def aK3 (a:List UInt64) (v:SV):Prop:=(kz (fv a)/\∃ l,Lb l/\fv l = dY (fv a)/\v = .tup [.agg [(5,.a64 l)],.tt]) \/ (¬ kz (fv a)/\v = .tup [.agg [(5,.a64 (replicate 5 0))],.ff])
theorem sU (a:List UInt64) (ha:Lb a) (R:List UInt64) (bR:Lb R) (vR:fv R = me (fv a)) (T:Tm) (M:Mm)
  (hle:Le [] [(1,.ptr 1 0 none),(2,.ptr 2 0 none),(4,.ptr 4 0 none),(5,.ptr 5 0 none)]
   [(1,.mem true 0 [(5,.a64 a)]),(2,.mem true 0 [(5,.a64 (replicate 5 0))]),(4,.mem true 0 [(5,.a64 R)]),(5,.mem true 0 [(32,.a8 (leB (fv (ah R R))))])] T M) :
  aRC Γ [6] Tryz.f137 6 [] T M (fun v _=>aK3 a v):=by
 have hla:=ha.1
 have hAB:=bl a hla
 have hbl:=aZ
 have lR:=bR.1
 have hRB:=bl R lR
 have hN:=aMK R lR
 have bN:=rS R
 have vN:=vL bR
 have lN:=bN.1
 have vRR:fv (ah R R) = me (fv a) * me (fv a):=by rw [aK bR bR,vR]
 generalize uP R = N at *
 refine Cut.intro (σ:=Unit) (fun _=>True) (fun _=>([(1,.ptr 1 0 none),(2,.ptr 2 0 none),(4,.ptr 4 0 none),(5,.ptr 5 0 none)],
   [(1,.mem true 0 [(5,.a64 a)]),(2,.mem true 0 [(5,.a64 (replicate 5 0))]),(4,.mem true 0 [(5,.a64 R)]),(5,.mem true 0 [(32,.a8 (leB (fv (ah R R))))])])) () trivial hle ?_
 rintro - -
 refine aI.intro [[],[],[1],[0,1,2]] r_4 (by kernel_rfl) ?_
 repeat (first|refine gi ?_|refine sd ?_)
 refine Call.pure hAB rfl fc ?_
 rintro _ rfl
 repeat (first|refine gi ?_|refine sd ?_)
 refine zB.intro (fun h=>?_) (fun h=>?_)
 ·have h:¬ leB (fv (ah R R)) = leB (fv a):=h
  have h1:¬ kz (fv a):=fun hs=>h (by rw [vRR,(rH _).2 hs])
  repeat refine sd ?_
  refine Ret.intro (.tup [.agg [(5,.a64 (replicate 5 0))],.ff]) [] [] rfl fc (Or.inr ⟨h1,rfl⟩) rfl fc rfl fc rfl
 ·have h:¬ ¬ leB (fv (ah R R)) = leB (fv a):=h
  have h1:kz (fv a):=(rH _).1 (by rw [<- vRR];exact vk (Classical.not_not.1 h))
  have vT:fv R = pP (fv a):=by rw [vR,wy h1]
  repeat refine sd ?_
  refine Call.pure hRB rfl fc ?_
  rintro _ rfl
  repeat (first|refine gi ?_|refine sd ?_)
  refine zB.intro (fun h2=>?_) (fun h2=>?_)
  ·have h2:(leB (fv R)).getD 0 0 &&& ofNat 1 = ofNat 1:=h2
   have h3:=(xB _).1 h2
   repeat refine sd ?_
   refine Call.pure hN rfl fc ?_
   rintro _ rfl
   repeat (first|refine gi ?_|refine sd ?_)
   refine Ret.intro (.tup [.agg [(5,.a64 N)],.tt]) [] [] rfl ?_ (Or.inl ⟨h1,N,bN,?_,rfl⟩) rfl ?_ rfl ?_ rfl
   ·exact fc
   ·rw [vN,vT];unfold dY zi;rw [<- vT,if_pos h3]
   ·exact fc
   ·exact fc
  ·have h2:¬ (leB (fv R)).getD 0 0 &&& ofNat 1 = ofNat 1:=h2
   have h3:¬ (fv R).val % 2 = 1:=fun e=>h2 ((xB _).2 e)
   repeat refine sd ?_
   refine Ret.intro (.tup [.agg [(5,.a64 R)],.tt]) [] [] rfl ?_ (Or.inl ⟨h1,R,bR,?_,rfl⟩) rfl ?_ rfl ?_ rfl
   ·exact fc
   ·unfold dY zi;rw [<- vT,if_neg h3]
   ·exact fc
   ·exact fc
theorem aT1 (a:List UInt64) (ha:Lb a):Sx.Fn Γ.P 137 [.agg [(5,.a64 a)]] []
  (fun v _=>aK3 a v):=by
 have hla:=ha.1
 have hP:=aMM a 252 2 hla (by omega) (by omega) (by omega)
 have hJ:=aMM aIV 253 5 aBG.1 (by omega) (by omega) (by omega)
 have hX:=aON ha
 have bX:=sq a 252 2 252
 have bJ:=sq aIV 253 5 253
 have vJ:=aPN
 have hN:=aMK a hla
 have bN:=rS a
 have vN:=vL ha
 have lN:=bN.1
 have hNB:=bl (uP a) lN
 rw [vN] at hNB
 have hAB:=bl a hla
 have hM:=fun (x y:List UInt64) (hx:x.length = 5) (hy:y.length = 5)=>ig x y hx hy
 have hB:=fun (x:List UInt64) (hx:x.length = 5)=>bl x hx
 have hml:=fun x y=>(aE x y).1
 have hbl:=aZ
 unfold aIV at hJ
 change Sx.Fn _ _ _ _ (fun v _=>v = .agg [(5,.a64 (pwS aIV 253 5 253))]) at hJ
 generalize pwS aIV 253 5 253 = J at hJ bJ vJ
 generalize pwS a 252 2 252 = X at hP hX bX
 generalize uP a = N at *
 have lX:=bX.1
 have lJ:=bJ.1
 refine ci [6] (Γ:=Γ) (fn:=Tryz.f137) rfl rfl rfl rfl ?_
 repeat refine sd ?_
 refine Call.pure hP rfl fc ?_
 rintro _ rfl
 repeat (first|refine gi ?_|refine sd ?_)
 refine Call.pure (hM X X lX lX) rfl fc ?_
 rintro _ rfl
 repeat (first|refine gi ?_|refine sd ?_)
 refine Call.pure (hB (ah X X) (hml X X)) rfl fc ?_
 rintro _ rfl
 repeat (first|refine gi ?_|refine sd ?_)
 refine aI.intro [[],[],[1],[1,2],r_4] r_5 (by kernel_rfl) ?_
 repeat (first|refine gi ?_|refine sd ?_)
 refine Call.pure hN rfl fc ?_
 rintro _ rfl
 repeat (first|refine gi ?_|refine sd ?_)
 refine Call.pure hNB rfl fc ?_
 rintro _ rfl
 repeat (first|refine gi ?_|refine sd ?_)
 have vXX:fv (ah X X) = r0 (fv a) * r0 (fv a):=by rw [aK bX bX,hX]
 refine zB.intro (fun h=>?_) (fun h=>?_)
 ·have h:leB (fv (ah X X)) = leB (0 - fv a):=h
  have h1:r0 (fv a) * r0 (fv a) = 0 - fv a:=by rw [<- vXX];exact vk h
  have bR:=aE X J
  have vR:fv (ah X J) = me (fv a):=by rw [aK bX bJ,hX,vJ];unfold me;rw [if_pos h1]
  refine aI.intro [[],[],[1],[1,2],r_4,r_5] r_6 (by kernel_rfl) ?_
  repeat (first|refine gi ?_|refine sd ?_)
  refine Call.pure hJ rfl fc ?_
  rintro _ rfl
  repeat (first|refine gi ?_|refine sd ?_)
  refine Call.pure (hM X J lX lJ) rfl fc ?_
  rintro _ rfl
  repeat (first|refine gi ?_|refine sd ?_)
  obtain ⟨R,hR⟩:∃ r,ah X J = r:=⟨_,rfl⟩
  rw [hR] at bR vR ⊢
  have lR:=bR.1
  refine Call.pure (hM R R lR lR) rfl fc ?_
  rintro _ rfl
  repeat (first|refine gi ?_|refine sd ?_)
  refine Call.pure (hB (ah R R) (hml R R)) rfl fc ?_
  rintro _ rfl
  repeat (first|refine gi ?_|refine sd ?_)
  refine sU a ha R bR vR _ _ (Le.intro [] rfl fc rfl fc rfl)
 ·have h:¬ leB (fv (ah X X)) = leB (0 - fv a):=h
  have h1:¬ r0 (fv a) * r0 (fv a) = 0 - fv a:=by rw [<- vXX];exact fun e=>h (by rw [e])
  have vR:fv X = me (fv a):=by rw [hX];unfold me;rw [if_neg h1]
  repeat refine sd ?_
  refine sU a ha X bX vR _ _ (Le.intro [] rfl fc rfl fc rfl)
end Go.Proofs.YtimbdhpchlakfaaGreat
namespace Go.Proofs.YtimbdhpchlakfaaGreat
open Go Go.Sx Go.Cu
theorem aKU (u:List UInt64) (s:LL):rv u s = ⟨aRH s,aRG s,ah (iz (aAS s) (aAT s)) (iz (aAS s) (aAT s)),ah u (ah (iu (aAS s) (aAT s)) (iu (aAS s) (aAT s)))⟩:=by unfold rv;rfl
theorem aVC (ax az bx bz u:List UInt64) (h1:ax.length = 5) (h2:az.length = 5) (h3:bx.length = 5) (h4:bz.length = 5) (hu:u.length = 5) :
  Sx.Fn Γ.P 67 [.agg [(5,.a64 ax),(5,.a64 az)],.agg [(5,.a64 bx),(5,.a64 bz)],.agg [(5,.a64 u)]] []
   (fun v _=>v = .tup [.agg [(5,.a64 (rv u ⟨ax,az,bx,bz⟩).ax),(5,.a64 (rv u ⟨ax,az,bx,bz⟩).az)],.agg [(5,.a64 (rv u ⟨ax,az,bx,bz⟩).bx),(5,.a64 (rv u ⟨ax,az,bx,bz⟩).bz)]]):=by
 rw [aKU]
 unfold aRG aAS aAT aNI aRH
 simp only
 have c1:=rf ax az h1 h2
 have l1:=(aq ax az).1
 generalize iz ax az = p at *
 have c2:=pg ax az h1 h2
 have l2:=(al ax az).1
 generalize iu ax az = m at *
 have c3:=ig p p l1 l1
 have l3:=(aE p p).1
 generalize ah p p = pp at *
 have c4:=ig m m l2 l2
 have l4:=(aE m m).1
 generalize ah m m = mm at *
 have c5:=pg pp mm l3 l4
 have l5:=(al pp mm).1
 generalize iu pp mm = e at *
 have c6:=pg bx bz h3 h4
 have l6:=(al bx bz).1
 generalize iu bx bz = q1 at *
 have c7:=ig q1 p l6 l1
 have l7:=(aE q1 p).1
 generalize ah q1 p = da at *
 have c8:=rf bx bz h3 h4
 have l8:=(aq bx bz).1
 generalize iz bx bz = q2 at *
 have c9:=ig q2 m l8 l2
 have l9:=(aE q2 m).1
 generalize ah q2 m = cb at *
 have d1:=rf da cb l7 l9
 have m1:=(aq da cb).1
 generalize iz da cb = s at *
 have d2:=pg da cb l7 l9
 have m2:=(al da cb).1
 generalize iu da cb = d at *
 have d3:=aMI aNA rfl
 have m3:=(dt aNA).2.1
 have z:aNA = ofNat 65 :: ofNat 219 :: ofNat 1 :: replicate 29 0:=rfl
 generalize ofL aNA = k at *
 rw [z] at d3
 clear z
 have d4:=ig pp mm l3 l4
 have m4:=(aE pp mm).1
 generalize ah pp mm = r1 at *
 have d5:=ig k e m3 l5
 have m5:=(aE k e).1
 generalize ah k e = ke at *
 have d6:=rf pp ke l3 m5
 have m6:=(aq pp ke).1
 generalize iz pp ke = w at *
 have d7:=ig e w l5 m6
 have m7:=(aE e w).1
 generalize ah e w = r2 at *
 have d8:=ig s s m1 m1
 have m8:=(aE s s).1
 generalize ah s s = r3 at *
 have d9:=ig d d m2 m2
 have m9:=(aE d d).1
 generalize ah d d = dd at *
 have g1:=ig u dd hu m9
 have n1:=(aE u dd).1
 generalize ah u dd = r4 at *
 refine aF (Γ:=Γ) (fn:=Tryz.f67) rfl rfl rfl rfl ?_
 repeat refine sd ?_
 refine aI.intro [[],[0],[],[2],r_4,[],[5],[],[7],r_9,[],[],mR,nb] [0,1,2,3,5,6,7,8,10,11,4,9,12,13] (by kernel_rfl) ?_
 repeat (first|refine gi ?_|refine gt ?_|refine ga ?_|refine sd ?_)
 refine Call.pure c1 rfl fc ?_
 rintro _ rfl
 repeat (first|refine gi ?_|refine gt ?_|refine ga ?_|refine sd ?_)
 refine Call.pure c2 rfl fc ?_
 rintro _ rfl
 repeat (first|refine gi ?_|refine gt ?_|refine ga ?_|refine sd ?_)
 refine aI.intro [[],[],[0,1],[],[],r_5,[],[],r_8,r_9] [0,1,3,4,6,7,2,5,8,9] (by kernel_rfl) ?_
 repeat (first|refine gi ?_|refine gt ?_|refine ga ?_|refine sd ?_)
 refine Call.pure c3 rfl fc ?_
 rintro _ rfl
 repeat (first|refine gi ?_|refine gt ?_|refine ga ?_|refine sd ?_)
 refine Call.pure c4 rfl fc ?_
 rintro _ rfl
 repeat (first|refine gi ?_|refine gt ?_|refine ga ?_|refine sd ?_)
 refine Call.pure c5 rfl fc ?_
 rintro _ rfl
 repeat (first|refine gi ?_|refine gt ?_|refine ga ?_|refine sd ?_)
 refine aI.intro [[],[0],[],[2],r_4,[],r_6,[],[7],[],[9],fy,[],nb,[],[],rM,uL] [0,1,2,3,5,7,8,9,10,12,14,15,4,6,11,13,16,17] (by kernel_rfl) ?_
 repeat (first|refine gi ?_|refine gt ?_|refine ga ?_|refine sd ?_)
 refine Call.pure c6 rfl fc ?_
 rintro _ rfl
 repeat (first|refine gi ?_|refine gt ?_|refine ga ?_|refine sd ?_)
 refine Call.pure c7 rfl fc ?_
 rintro _ rfl
 repeat (first|refine gi ?_|refine gt ?_|refine ga ?_|refine sd ?_)
 refine Call.pure c8 rfl fc ?_
 rintro _ rfl
 repeat (first|refine gi ?_|refine gt ?_|refine ga ?_|refine sd ?_)
 refine Call.pure c9 rfl fc ?_
 rintro _ rfl
 repeat (first|refine gi ?_|refine gt ?_|refine ga ?_|refine sd ?_)
 refine aI.intro [[],[],[0,1],[],[],r_5,[],[],r_8,r_9] [0,1,3,4,6,7,2,5,8,9] (by kernel_rfl) ?_
 repeat (first|refine gi ?_|refine gt ?_|refine ga ?_|refine sd ?_)
 refine Call.pure d1 rfl fc ?_
 rintro _ rfl
 repeat (first|refine gi ?_|refine gt ?_|refine ga ?_|refine sd ?_)
 refine Call.pure d2 rfl fc ?_
 rintro _ rfl
 repeat (first|refine gi ?_|refine gt ?_|refine ga ?_|refine sd ?_)
 refine Call.pure d3 rfl fc ?_
 rintro _ rfl
 repeat (first|refine gi ?_|refine gt ?_|refine ga ?_|refine sd ?_)
 refine aI.intro [[],[],[0,1],[],[],[],[],[0,1,2,5,6],[0,1,2,4,5,6,7],r_9,fi,[],[],[0,1,2,3,4,5,6,7,8,9,11,12],[],[],[],[0,1,2,3,4,5,6,7,8,9,11,12,13,15,16],[0,1,2,3,4,5,6,7,8,9,11,12,13,14,15,16,17],[0,1,2,3,4,5,6,7,8,9,11,12,13,14,15,16,17,18],aNM,aRL] [0,1,3,4,5,6,11,12,14,15,16,2,7,8,9,10,13,17,18,19,20,21] (by kernel_rfl) ?_
 repeat (first|refine gi ?_|refine gt ?_|refine ga ?_|refine sd ?_)
 refine Call.pure d4 rfl fc ?_
 rintro _ rfl
 repeat (first|refine gi ?_|refine gt ?_|refine ga ?_|refine sd ?_)
 refine Call.pure d5 rfl fc ?_
 rintro _ rfl
 repeat (first|refine gi ?_|refine gt ?_|refine ga ?_|refine sd ?_)
 refine Call.pure d6 rfl fc ?_
 rintro _ rfl
 repeat (first|refine gi ?_|refine gt ?_|refine ga ?_|refine sd ?_)
 refine Call.pure d7 rfl fc ?_
 rintro _ rfl
 repeat (first|refine gi ?_|refine gt ?_|refine ga ?_|refine sd ?_)
 refine Call.pure d8 rfl fc ?_
 rintro _ rfl
 repeat (first|refine gi ?_|refine gt ?_|refine ga ?_|refine sd ?_)
 refine Call.pure d9 rfl fc ?_
 rintro _ rfl
 repeat (first|refine gi ?_|refine gt ?_|refine ga ?_|refine sd ?_)
 refine Call.pure g1 rfl fc ?_
 rintro _ rfl
 repeat (first|refine gi ?_|refine gt ?_|refine ga ?_|refine sd ?_)
 refine Ret.intro (.tup [.agg [(5,.a64 r1),(5,.a64 r2)],.agg [(5,.a64 r3),(5,.a64 r4)]]) [] [] rfl fc rfl rfl fc rfl fc rfl
end Go.Proofs.YtimbdhpchlakfaaGreat
namespace Go.Proofs.YtimbdhpchlakfaaGreat
open Go Go.Sx Go.Cu
def laI (c u:List UInt8) (s:Nat × LL × UInt8):Prop:=s.1 <= 254/\uQ (ofL u) c s.1 = (s.2.1,s.2.2)
def laT (s:Nat × LL × UInt8):Tm:=[(2,.ptr 2 0 none),(4,.ptr 4 0 none),(6,.ptr 6 0 none),(7,.ptr 7 0 none),(8,.ptr 8 0 none),(9,.u8 s.2.2),(10,.i .i64 (254 - (s.1:Int)))]
def laM (c u:List UInt8) (s:Nat × LL × UInt8):Mm:=[(2,.mem true 0 [(32,.a8 c)]),(4,.mem true 0 [(32,.a8 (replicate 32 0))]),(6,.mem true 0 [(5,.a64 (ofL u))]),
 (7,.mem true 0 [(5,.a64 s.2.1.ax),(5,.a64 s.2.1.az)]),(8,.mem true 0 [(5,.a64 s.2.1.bx),(5,.a64 s.2.1.bz)])]
theorem aPF (c u:List UInt8) (s:Nat × LL × UInt8) (h:laI c u s):s.2.1.B:=by
 have hb:=aDG (dt u).2 c s.1
 rw [h.2] at hb;exact hb
theorem aVG (sec u:List UInt8) (h1:sec.length = 32) (h2:u.length = 32):Sx.Fn Γ.P 39 [.a8 sec,.a8 u] [] (fun v _=>v = .a8 (oF (clB sec) u)):=by
  have cOne:=aMI (ofNat 1 :: replicate 31 0) rfl
  have cU:=aMI u h2
  have lu:=(dt u).2.1
  have hc:clB sec = (sec.set 0 (sec.getD 0 0 &&& ofNat 248)).set 31 (((sec.set 0 (sec.getD 0 0 &&& ofNat 248)).getD 31 0 &&& ofNat 127) ||| ofNat 64):=rfl
  have lc:=lz sec
  rw [h1] at lc
  have hst:uQ (ofL u) (clB sec) 0 = (⟨ofL (ofNat 1 :: replicate 31 0),replicate 5 0,ofL u,ofL (ofNat 1 :: replicate 31 0)⟩,ofNat 0):=rfl
  generalize clB sec = c at *
  have lone:=(dt (ofNat 1 :: replicate 31 0)).2.1
  generalize ofL (ofNat 1 :: replicate 31 0) = one at *
  have hbd:(Tryz.f39).body = some (.seq _ (.scope _)):=rfl
  refine xi [8,1000011] (Γ:=Γ) (fn:=Tryz.f39) rfl hbd rfl rfl ?_
  clear hbd
  repeat refine sd ?_
  refine mZ.intro [0] (fun _ s=>laI c u s) (fun _ s=>(laT s,laM c u s)) (fun _ s=>255 - s.1) rfl ?_ ⟨?_,trivial⟩
  · repeat refine sd ?_
    refine Call.pure cOne rfl ?_ ?_
    · exact fc
    rintro _ rfl
    repeat (first|refine gi ?_|refine gt ?_|refine ga ?_|refine sd ?_)
    refine Call.pure cU rfl ?_ ?_
    · exact fc
    rintro _ rfl
    repeat (first|refine gi ?_|refine gt ?_|refine ga ?_|refine sd ?_)
    refine aI.intro [[],[],[0,1],[],[],[3,4],[],[],[0,1,2,6,7],r_9] fi (by kernel_rfl) ?_
    repeat (first|refine gi ?_|refine gt ?_|refine ga ?_|refine sd ?_)
    refine Cut.intro (σ:=Nat × LL × UInt8) (laI c u) (fun s=>(laT s,laM c u s)) (0,⟨one,replicate 5 0,ofL u,one⟩,ofNat 0) ⟨zero_le _,hst⟩ (Le.intro [] rfl ?_ rfl ?_ rfl) ?_
    · exact fc
    · exact fc
    rintro ⟨k,s,l⟩ hI
    obtain ⟨⟨b1,b2,b3,b4⟩,hk,hs⟩:=(⟨aPF c u _ hI,hI.1,hI.2⟩:LL.B _/\_/\_)
    unfold laT laM
    simp only at hk hs b1 b2 b3 b4
    have l1:=b1.1
    have l2:=b2.1
    have l3:=b3.1
    have l4:=b4.1
    have e0:((254 - (k:Int)) / 8).toNat = (254 - k) / 8:=by omega
    have e1:((254 - (k:Int)) % 8).toNat = (254 - k) % 8:=by omega
    have hn:uQ (ofL u) c (k + 1) = (rv (ofL u) (s.turn l (fq c (254 - k))),fq c (254 - k)):=by show (rv (ofL u) ((uQ (ofL u) c k).1.turn (uQ (ofL u) c k).2 (fq c (254 - k))),fq c (254 - k)) = _;rw [hs]
    have hbit:fq c (254 - k) = gg (c.getD ((254 - k) / 8) 0) ((254 - k) % 8) &&& ofNat 1:=rfl
    repeat refine sdI ?_
    refine aF2.intro (σ:=Unit) (fun _=>True) (fun _=>([(2,.ptr 2 0 none),(4,.ptr 4 0 none),(6,.ptr 6 0 none),(7,.ptr 7 0 none),(8,.ptr 8 0 none),(10,.i .i64 (254 - (k:Int))),(11,.u8 (fq c (254 - k)))],
      [(2,.mem true 0 [(32,.a8 c)]),(4,.mem true 0 [(32,.a8 (replicate 32 0))]),(6,.mem true 0 [(5,.a64 (ofL u))]),(7,.mem true 0 [(5,.a64 (s.turn l (fq c (254 - k))).ax),(5,.a64 (s.turn l (fq c (254 - k))).az)]),
       (8,.mem true 0 [(5,.a64 (s.turn l (fq c (254 - k))).bx),(5,.a64 (s.turn l (fq c (254 - k))).bz)])])) ?_ ?_
    · refine zB.intro (fun hb=>?_) (fun hb=>?_)
      · have hb:¬ gg (c.getD ((254 - (k:Int)) / 8).toNat 0) ((254 - (k:Int)) % 8).toNat &&& ofNat 1 = l:=hb
        rw [e0,e1,<- hbit] at hb
        have ht:s.turn l (fq c (254 - k)) = ⟨s.bx,s.bz,s.ax,s.az⟩:=by unfold LL.turn;rw [if_neg hb];rfl
        rw [ht]
        repeat refine sdI ?_
        refine ⟨(),trivial,Le.intro [] rfl ?_ rfl ?_ rfl⟩
        · exact fcI
        · exact fcI
      · have hb:¬ ¬ gg (c.getD ((254 - (k:Int)) / 8).toNat 0) ((254 - (k:Int)) % 8).toNat &&& ofNat 1 = l:=hb
        rw [e0,e1,<- hbit] at hb
        have ht:s.turn l (fq c (254 - k)) = s:=by unfold LL.turn;rw [if_pos (Classical.not_not.1 hb)]
        rw [ht]
        repeat refine sdI ?_
        refine ⟨(),trivial,Le.intro [] rfl ?_ rfl ?_ rfl⟩
        · exact fcI
        · exact fcI
    rintro - -
    have hB:=LL.turn_B (⟨b1,b2,b3,b4⟩:LL.B s) l (fq c (254 - k))
    have hsb:=aBP (ofL u) (s.turn l (fq c (254 - k)))
    generalize s.turn l (fq c (254 - k)) = t at *
    clear hbit e0 e1
    generalize fq c (254 - k) = w at *
    obtain ⟨t1,t2,t3,t4⟩:=hB
    have cS:=aVC t.ax t.az t.bx t.bz (ofL u) t1.1 t2.1 t3.1 t4.1 lu
    have ett:(⟨t.ax,t.az,t.bx,t.bz⟩:LL) = t:=rfl
    rw [ett] at cS
    obtain ⟨r,hr⟩:∃ r,rv (ofL u) t = r:=⟨_,rfl⟩
    rw [hr] at cS hsb hn
    obtain ⟨r1,r2,r3,r4⟩:=hsb
    have n1:=r1.1
    have n2:=r2.1
    have n3:=r3.1
    have n4:=r4.1
    have q1:=t1.1
    have q2:=t2.1
    have q3:=t3.1
    have q4:=t4.1
    repeat refine sd ?_
    refine Call.pure cS rfl ?_ ?_
    · exact fc
    rintro _ rfl
    repeat (first|refine gi ?_|refine gt ?_|refine ga ?_|refine sd ?_)
    refine zB.intro (fun hp=>?_) (fun hp=>?_)
    · have hp:0 < 254 - (k:Int):=hp
      repeat refine sd ?_
      refine ⟨rfl,(k + 1,r,w),⟨by show k + 1 <= 254;omega,hn⟩,trivial,Le.intro [] rfl ?_ rfl ?_ rfl⟩
      · exact fc
      · exact fc
    · have hp:¬ 0 < 254 - (k:Int):=hp
      obtain rfl:k = 254:=by omega
      obtain ⟨f1,f2⟩:=xQ hn
      repeat refine sd ?_
      refine zB.intro (fun hw=>?_) (fun hw=>?_)
      · have hw:w = ofNat 1:=hw
        have f:=f1 hw
        rw [jh] at f
        have cI:=aNR r.bz n4
        have lI:=(gR r.bz).1
        have cM:=ig r.bx (jl r.bz) n3 lI
        have lM:=(aE r.bx (jl r.bz)).1
        have cB:=bl (ah r.bx (jl r.bz)) lM
        have lF:=bM c u
        rw [f] at cB
        generalize oF c u = B at *
        generalize ah r.bx (jl r.bz) = Y at *
        generalize jl r.bz = Z at *
        repeat refine sd ?_
        refine aI.intro [[],[0],[],[2],[2,3],r_5,r_6,r_7] r_8 (by kernel_rfl) ?_
        repeat (first|refine gi ?_|refine gt ?_|refine ga ?_|refine sd ?_)
        refine Call.pure cI rfl ?_ ?_
        · exact fc
        rintro _ rfl
        repeat (first|refine gi ?_|refine gt ?_|refine ga ?_|refine sd ?_)
        refine Call.pure cM rfl ?_ ?_
        · exact fc
        rintro _ rfl
        repeat (first|refine gi ?_|refine gt ?_|refine ga ?_|refine sd ?_)
        refine Call.pure cB rfl ?_ ?_
        · exact fc
        rintro _ rfl
        repeat (first|refine gi ?_|refine gt ?_|refine ga ?_|refine sd ?_)
        refine Ret.intro (.a8 B) [] [] rfl ?_ rfl rfl ?_ rfl ?_ rfl
        · exact fc
        · exact fc
        · exact fc
      · have hw:¬ w = ofNat 1:=hw
        have f:=f2 hw
        rw [jh] at f
        have cI:=aNR r.az n2
        have lI:=(gR r.az).1
        have cM:=ig r.ax (jl r.az) n1 lI
        have lM:=(aE r.ax (jl r.az)).1
        have cB:=bl (ah r.ax (jl r.az)) lM
        have lF:=bM c u
        rw [f] at cB
        generalize oF c u = B at *
        generalize ah r.ax (jl r.az) = Y at *
        generalize jl r.az = Z at *
        repeat refine sd ?_
        refine aI.intro [[],[0],[],[2],[2,3],r_5,r_6,r_7] r_8 (by kernel_rfl) ?_
        repeat (first|refine gi ?_|refine gt ?_|refine ga ?_|refine sd ?_)
        refine Call.pure cI rfl ?_ ?_
        · exact fc
        rintro _ rfl
        repeat (first|refine gi ?_|refine gt ?_|refine ga ?_|refine sd ?_)
        refine Call.pure cM rfl ?_ ?_
        · exact fc
        rintro _ rfl
        repeat (first|refine gi ?_|refine gt ?_|refine ga ?_|refine sd ?_)
        refine Call.pure cB rfl ?_ ?_
        · exact fc
        rintro _ rfl
        repeat (first|refine gi ?_|refine gt ?_|refine ga ?_|refine sd ?_)
        refine Ret.intro (.a8 B) [] [] rfl ?_ rfl rfl ?_ rfl ?_ rfl
        · exact fc
        · exact fc
        · exact fc
  · rintro ⟨k,s,l⟩ hI
    refine Cut.intro (σ:=Unit) (fun _=>True) (fun _=>(laT (k,s,l),laM c u (k,s,l))) () trivial (Le.intro [] rfl ?_ rfl ?_ rfl) ?_
    · exact fc
    · exact fc
    rintro - -
    obtain ⟨⟨b1,b2,b3,b4⟩,hk,hs⟩:=(⟨aPF c u _ hI,hI.1,hI.2⟩:LL.B _/\_/\_)
    unfold laT laM
    simp only at hk hs b1 b2 b3 b4
    have l1:=b1.1
    have l2:=b2.1
    have l3:=b3.1
    have l4:=b4.1
    have e0:((254 - (k:Int)) / 8).toNat = (254 - k) / 8:=by omega
    have e1:((254 - (k:Int)) % 8).toNat = (254 - k) % 8:=by omega
    have hn:uQ (ofL u) c (k + 1) = (rv (ofL u) (s.turn l (fq c (254 - k))),fq c (254 - k)):=by show (rv (ofL u) ((uQ (ofL u) c k).1.turn (uQ (ofL u) c k).2 (fq c (254 - k))),fq c (254 - k)) = _;rw [hs]
    have hbit:fq c (254 - k) = gg (c.getD ((254 - k) / 8) 0) ((254 - k) % 8) &&& ofNat 1:=rfl
    repeat refine sdI ?_
    refine aF2.intro (σ:=Unit) (fun _=>True) (fun _=>([(2,.ptr 2 0 none),(4,.ptr 4 0 none),(6,.ptr 6 0 none),(7,.ptr 7 0 none),(8,.ptr 8 0 none),(10,.i .i64 (254 - (k:Int))),(11,.u8 (fq c (254 - k)))],
      [(2,.mem true 0 [(32,.a8 c)]),(4,.mem true 0 [(32,.a8 (replicate 32 0))]),(6,.mem true 0 [(5,.a64 (ofL u))]),(7,.mem true 0 [(5,.a64 (s.turn l (fq c (254 - k))).ax),(5,.a64 (s.turn l (fq c (254 - k))).az)]),
       (8,.mem true 0 [(5,.a64 (s.turn l (fq c (254 - k))).bx),(5,.a64 (s.turn l (fq c (254 - k))).bz)])])) ?_ ?_
    · refine zB.intro (fun hb=>?_) (fun hb=>?_)
      · have hb:¬ gg (c.getD ((254 - (k:Int)) / 8).toNat 0) ((254 - (k:Int)) % 8).toNat &&& ofNat 1 = l:=hb
        rw [e0,e1,<- hbit] at hb
        have ht:s.turn l (fq c (254 - k)) = ⟨s.bx,s.bz,s.ax,s.az⟩:=by unfold LL.turn;rw [if_neg hb];rfl
        rw [ht]
        repeat refine sdI ?_
        refine ⟨(),trivial,Le.intro [] rfl ?_ rfl ?_ rfl⟩
        · exact fcI
        · exact fcI
      · have hb:¬ ¬ gg (c.getD ((254 - (k:Int)) / 8).toNat 0) ((254 - (k:Int)) % 8).toNat &&& ofNat 1 = l:=hb
        rw [e0,e1,<- hbit] at hb
        have ht:s.turn l (fq c (254 - k)) = s:=by unfold LL.turn;rw [if_pos (Classical.not_not.1 hb)]
        rw [ht]
        repeat refine sdI ?_
        refine ⟨(),trivial,Le.intro [] rfl ?_ rfl ?_ rfl⟩
        · exact fcI
        · exact fcI
    rintro - -
    have hB:=LL.turn_B (⟨b1,b2,b3,b4⟩:LL.B s) l (fq c (254 - k))
    have hsb:=aBP (ofL u) (s.turn l (fq c (254 - k)))
    generalize s.turn l (fq c (254 - k)) = t at *
    clear hbit e0 e1
    generalize fq c (254 - k) = w at *
    obtain ⟨t1,t2,t3,t4⟩:=hB
    have cS:=aVC t.ax t.az t.bx t.bz (ofL u) t1.1 t2.1 t3.1 t4.1 lu
    have ett:(⟨t.ax,t.az,t.bx,t.bz⟩:LL) = t:=rfl
    rw [ett] at cS
    obtain ⟨r,hr⟩:∃ r,rv (ofL u) t = r:=⟨_,rfl⟩
    rw [hr] at cS hsb hn
    obtain ⟨r1,r2,r3,r4⟩:=hsb
    have n1:=r1.1
    have n2:=r2.1
    have n3:=r3.1
    have n4:=r4.1
    have q1:=t1.1
    have q2:=t2.1
    have q3:=t3.1
    have q4:=t4.1
    repeat refine sd ?_
    refine Call.pure cS rfl ?_ ?_
    · exact fc
    rintro _ rfl
    repeat (first|refine gi ?_|refine gt ?_|refine ga ?_|refine sd ?_)
    refine zB.intro (fun hp=>?_) (fun hp=>?_)
    · have hp:0 < 254 - (k:Int):=hp
      repeat refine sd ?_
      refine ⟨rfl,(k + 1,r,w),⟨by show k + 1 <= 254;omega,hn⟩,(by show 255 - (k + 1) < 255 - k;omega),Le.intro [] rfl ?_ rfl ?_ rfl⟩
      · exact fc
      · exact fc
    · have hp:¬ 0 < 254 - (k:Int):=hp
      obtain rfl:k = 254:=by omega
      obtain ⟨f1,f2⟩:=xQ hn
      repeat refine sd ?_
      refine zB.intro (fun hw=>?_) (fun hw=>?_)
      · have hw:w = ofNat 1:=hw
        have f:=f1 hw
        rw [jh] at f
        have cI:=aNR r.bz n4
        have lI:=(gR r.bz).1
        have cM:=ig r.bx (jl r.bz) n3 lI
        have lM:=(aE r.bx (jl r.bz)).1
        have cB:=bl (ah r.bx (jl r.bz)) lM
        have lF:=bM c u
        rw [f] at cB
        generalize oF c u = B at *
        generalize ah r.bx (jl r.bz) = Y at *
        generalize jl r.bz = Z at *
        repeat refine sd ?_
        refine aI.intro [[],[0],[],[2],[2,3],r_5,r_6,r_7] r_8 (by kernel_rfl) ?_
        repeat (first|refine gi ?_|refine gt ?_|refine ga ?_|refine sd ?_)
        refine Call.pure cI rfl ?_ ?_
        · exact fc
        rintro _ rfl
        repeat (first|refine gi ?_|refine gt ?_|refine ga ?_|refine sd ?_)
        refine Call.pure cM rfl ?_ ?_
        · exact fc
        rintro _ rfl
        repeat (first|refine gi ?_|refine gt ?_|refine ga ?_|refine sd ?_)
        refine Call.pure cB rfl ?_ ?_
        · exact fc
        rintro _ rfl
        repeat (first|refine gi ?_|refine gt ?_|refine ga ?_|refine sd ?_)
        refine Ret.intro (.a8 B) [] [] rfl ?_ rfl rfl ?_ rfl ?_ rfl
        · exact fc
        · exact fc
        · exact fc
      · have hw:¬ w = ofNat 1:=hw
        have f:=f2 hw
        rw [jh] at f
        have cI:=aNR r.az n2
        have lI:=(gR r.az).1
        have cM:=ig r.ax (jl r.az) n1 lI
        have lM:=(aE r.ax (jl r.az)).1
        have cB:=bl (ah r.ax (jl r.az)) lM
        have lF:=bM c u
        rw [f] at cB
        generalize oF c u = B at *
        generalize ah r.ax (jl r.az) = Y at *
        generalize jl r.az = Z at *
        repeat refine sd ?_
        refine aI.intro [[],[0],[],[2],[2,3],r_5,r_6,r_7] r_8 (by kernel_rfl) ?_
        repeat (first|refine gi ?_|refine gt ?_|refine ga ?_|refine sd ?_)
        refine Call.pure cI rfl ?_ ?_
        · exact fc
        rintro _ rfl
        repeat (first|refine gi ?_|refine gt ?_|refine ga ?_|refine sd ?_)
        refine Call.pure cM rfl ?_ ?_
        · exact fc
        rintro _ rfl
        repeat (first|refine gi ?_|refine gt ?_|refine ga ?_|refine sd ?_)
        refine Call.pure cB rfl ?_ ?_
        · exact fc
        rintro _ rfl
        repeat (first|refine gi ?_|refine gt ?_|refine ga ?_|refine sd ?_)
        refine Ret.intro (.a8 B) [] [] rfl ?_ rfl rfl ?_ rfl ?_ rfl
        · exact fc
        · exact fc
        · exact fc
theorem aWT (sec:List UInt8) (h1:sec.length = 32):Sx.Fn Γ.P 35 [.a8 sec] [] (fun v _=>v = .a8 (oF (clB sec) (ofNat 9 :: replicate 31 0))):=by
 have cM:=aVG sec (ofNat 9 :: replicate 31 0) h1 rfl
 have lF:=bM (clB sec) (ofNat 9 :: replicate 31 0)
 generalize oF (clB sec) (ofNat 9 :: replicate 31 0) = B at *
 refine aF (Γ:=Γ) (fn:=Tryz.f35) rfl rfl rfl rfl ?_
 repeat refine sd ?_
 refine Call.pure cM rfl fc ?_
 rintro _ rfl
 repeat (first|refine gi ?_|refine gt ?_|refine ga ?_|refine sd ?_)
 refine Ret.intro (.a8 B) [] [] rfl fc rfl rfl fc rfl fc rfl
end Go.Proofs.YtimbdhpchlakfaaGreat
namespace Go.Proofs.YtimbdhpchlakfaaGreat
open Go Go.Sx
def ya (n:Int):Int:=if n < 0 \/ 1099511627776 < n then 0 else n / 16 * 16 + 16
theorem sN {n:Int} (h:n < 0 \/ 1099511627776 < n):ya n = 0:=if_pos h
theorem wr {n:Int} (h1:¬ n < 0) (h2:¬ 1099511627776 < n):ya n = n / 16 * 16 + 16:=if_neg (by omega)
theorem aWL (n:Int):Sx.Fn Γ.P 55 [.i .i64 n] [] (fun v _=>v = .i .i64 (ya n)):=by
 refine aF (Γ:=Γ) (fn:=Tryz.f55) rfl rfl rfl rfl ?_
 refine zB.intro (fun h=>?_) (fun h=>?_)
 ·refine Ret.intro (.i .i64 (ya n)) [] [] rfl trivial rfl rfl ?_ rfl trivial rfl
  exact sN (Or.inl h)
 ·refine zB.intro (fun h2=>?_) (fun h2=>?_)
  ·refine Ret.intro (.i .i64 (ya n)) [] [] rfl trivial rfl rfl ?_ rfl trivial rfl
   exact sN (Or.inr h2)
  ·repeat refine sd ?_
   refine Ret.intro (.i .i64 (ya n)) [] [] rfl trivial rfl rfl ?_ rfl trivial rfl
   exact wr h h2
end Go.Proofs.YtimbdhpchlakfaaGreat
namespace Go.Proofs.YtimbdhpchlakfaaGreat
open Go Go.Sx
@[irreducible] def aIX (n:Int):Int:=if n < 0 \/ 1024 < n then 0 else n / 16 * 16 + 32
theorem wt {n:Int} (h:n < 0 \/ 1024 < n):aIX n = 0:=by unfold aIX;exact if_pos h
theorem kY {n:Int} (h1:¬ n < 0) (h2:¬ 1024 < n):aIX n = n / 16 * 16 + 32:=by unfold aIX;exact if_neg (by omega)
theorem aP9 (n:Int):Sx.Fn Γ.P 30 [.i .i64 n] [] (fun v _=>v = .i .i64 (aIX n)):=by
 refine aF (Γ:=Γ) (fn:=Tryz.f30) rfl rfl rfl rfl ?_
 repeat refine sd ?_
 refine zB.intro (fun h=>?_) (fun h=>?_)
 ·repeat refine sd ?_
  refine Ret.intro (.i .i64 (aIX n)) [] [] rfl trivial rfl rfl ?_ rfl trivial rfl
  exact wt (Or.inl h)
 have h:¬ n < 0:=h
 repeat refine sd ?_
 refine zB.intro (fun h2=>?_) (fun h2=>?_)
 ·repeat refine sd ?_
  refine Ret.intro (.i .i64 (aIX n)) [] [] rfl trivial rfl rfl ?_ rfl trivial rfl
  exact wt (Or.inr h2)
 have h2:¬ n > 1024:=h2
 have e:=kY h (by omega)
 have e1:=wr h (by omega)
 refine Call.pure (aWL n) rfl fc ?_
 rintro _ rfl
 rw [e1]
 repeat refine sd ?_
 refine Ret.intro (.i .i64 (aIX n)) [] [] rfl trivial rfl rfl ?_ rfl trivial rfl
 exact fc
end Go.Proofs.YtimbdhpchlakfaaGreat
namespace Go.Proofs.YtimbdhpchlakfaaGreat
open Go Go.Sx
def rO (n:Nat):Nat->List UInt8
 | 0=>[]
 | s + 1=>ofNat (n / 256 ^ s) :: rO n s
theorem ei (n:Nat):∀ s,(rO n s).length = s
 | 0=>rfl
 | s + 1=>by simp only [rO,List.length_cons,ei n s]
theorem sr (n:Nat):∀ {s j:Nat},j < s->(rO n s).getD j 0 = ofNat (n / 256 ^ (s - 1 - j))
 | 0,j,h=>absurd h (Nat.not_lt_zero _)
 | s + 1,0,_=>rfl
 | s + 1,j + 1,h=>by
  show (rO n s).getD j 0 = _
  rw [sr n (by omega),show s - 1 - j = s + 1 - 1 - (j + 1) by omega]
theorem mq {a b:List UInt8} {n:Nat} (ha:a.length = n) (hb:b.length = n) (h:∀ j,j < n->a.getD j 0 = b.getD j 0):a = b:=by
 apply List.ext_getElem (by omega)
 intro i h1 h2
 have:=h i (by omega)
 rwa [getD_eq_getElem?_getD,getD_eq_getElem?_getD,List.getElem?_eq_getElem h1,List.getElem?_eq_getElem h2] at this
theorem aHL {l:List UInt8} {i j:Nat} {x:UInt8} (h:i < l.length):(l.set i x).getD j 0 = if i = j then x else l.getD j 0:=by
 simp only [getD_eq_getElem?_getD,List.getElem?_set]
 split
 ·rfl
 ·rfl
def pK (x:UInt64) (s:Nat):Nat->List UInt8
 | 0=>replicate s 0
 | i + 1=>(pK x s i).set (s - 1 - i) (aG x (8 * i)).toUInt8
theorem gu (x:UInt64) (s:Nat):∀ i,(pK x s i).length = s
 | 0=>List.length_replicate
 | i + 1=>by simp only [pK,List.length_set,gu x s i]
theorem wu (x:UInt64) {i:Nat} (hi:i < 8):(aG x (8 * i)).toUInt8 = ofNat (x.toNat / 256 ^ i):=by
 apply UInt8.toNat_inj.1
 have hp:(256:Nat) ^ i = 2 ^ (8 * i):=by rw [show (256:Nat) = 2 ^ 8 from rfl,<- Nat.pow_mul]
 have hlt:x.toNat / 2 ^ (8 * i) < 2 ^ 64:=Nat.lt_of_le_of_lt (Nat.div_le_self _ _) x.toNat_lt
 rw [aG,Nat.shiftRight_eq_div_pow,hp,UInt64.toNat_toUInt8,toNat_ofNat',UInt8.toNat_ofNat',Nat.mod_eq_of_lt hlt]
theorem aCL (x:UInt64) {s:Nat} (hs:s <= 8):∀ {i:Nat},i <= s->∀ j,j < s->(pK x s i).getD j 0 = if s - i <= j then ofNat (x.toNat / 256 ^ (s - 1 - j)) else 0
 | 0,_,j,hj=>by rw [if_neg (by omega)];simp [pK,getD_eq_getElem?_getD,hj]
 | i + 1,hi,j,hj=>by
  simp only [pK]
  rw [aHL (by rw [gu];omega),aCL x hs (by omega) j hj]
  by_cases h:s - 1 - i = j
  ·rw [if_pos h,if_pos (by omega),wu x (by omega),show s - 1 - j = i by omega]
  ·rw [if_neg h]
   by_cases h2:s - i <= j
   ·rw [if_pos h2,if_pos (by omega)]
   ·rw [if_neg h2,if_neg (by omega)]
theorem aJB (x:UInt64) {s:Nat} (hs:s <= 8):pK x s s = rO x.toNat s:=by
 refine mq (gu x s s) (ei _ _) fun j hj=>?_
 rw [aCL x hs (Nat.le_refl _) j hj,if_pos (by omega),sr _ hj]
theorem aT2 (x:UInt64) (s:Nat) (h1:1 <= s) (h8:s <= 8) (hx:s < 8->aG x (8 * s) = 0):Sx.Fn Γ.P 124 [.u64 x,.i .i64 (s:Int)] []
  (fun v M=>v = .tup [.sl 1001 0 0 s s,.tt]/\M = [(1001,.mem true 0 [(s,.a8 (rO x.toNat s))])]):=by
 have hz:pK x s 0 = replicate s 0:=rfl
 have hall:=aJB x h8
 refine aF (Γ:=Γ) (fn:=Tryz.f124) rfl rfl rfl rfl ?_
 refine zB.intro (fun h=>absurd h (by omega)) (fun _=>?_)
 refine zB.intro (fun h=>absurd h (by omega)) (fun _=>?_)
 refine zB.intro (fun h=>?_) (fun h=>?_)
 ·have h:(s:Int) < 8:=h
  have e0:((8:Int) * (s:Int)).toNat = 8 * s:=by omega
  have hx:=hx (by omega)
  repeat refine sd ?_
  refine zB.intro (fun hn=>?_) (fun _=>?_)
  ·exact absurd (by rw [e0];exact hx) hn
  repeat refine sd ?_
  refine ac.intro (σ:=Nat) (fun i=>i <= s)
   (fun i=>([(0,.u64 x),(1,.i .i64 (s:Int)),(6,.sl 26 0 0 s s),(28,.i .i64 (s:Int)),(29,.i .i64 (i:Int))],[(26,.mem true 0 [(s,.a8 (pK x s i))])])) (fun i=>s - i) 0 (zero_le _) ?_ ?_
  ·refine Le.intro [] rfl fc rfl fc rfl
  rintro i hi
  have hl:=gu x s i
  refine zB.intro (fun hc=>?_) (fun hc=>?_)
  ·have hc:(i:Int) < s:=hc
   have hs:pK x s (i + 1) = (pK x s i).set (s - 1 - i) (aG x (8 * i)).toUInt8:=rfl
   have e1:((s:Int) - 1 - (i:Int)).toNat = s - 1 - i:=by omega
   have e2:((8:Int) * (i:Int)).toNat = 8 * i:=by omega
   repeat refine sdJ ?_
   refine ⟨i + 1,by omega,by omega,Le.intro [] rfl ?_ rfl ?_ rfl⟩
   ·exact fc
   ·exact fcJ
  ·obtain rfl:i = s:=by have hc:¬ (i:Int) < s:=hc;omega
   repeat refine sd ?_
   refine Ret.intro (.tup [.sl 1001 0 0 i i,.tt]) [(1001,.mem true 0 [(i,.a8 (rO x.toNat i))])] [(1001,(26,0,none))] rfl ?_ ⟨rfl,rfl⟩ rfl ?_ rfl ?_ rfl
   ·exact fc
   ·exact fc
   ·repeat' first|exact trivial|refine zA.app ?_ ?_|refine zA.zd ?_ ?_|refine zA.cons ?_ ?_|exact fc|fail
    all_goals exact hall.symm
 ·repeat refine sd ?_
  refine ac.intro (σ:=Nat) (fun i=>i <= s)
   (fun i=>([(0,.u64 x),(1,.i .i64 (s:Int)),(6,.sl 26 0 0 s s),(28,.i .i64 (s:Int)),(29,.i .i64 (i:Int))],[(26,.mem true 0 [(s,.a8 (pK x s i))])])) (fun i=>s - i) 0 (zero_le _) ?_ ?_
  ·refine Le.intro [] rfl fc rfl fc rfl
  rintro i hi
  have hl:=gu x s i
  refine zB.intro (fun hc=>?_) (fun hc=>?_)
  ·have hc:(i:Int) < s:=hc
   have hs:pK x s (i + 1) = (pK x s i).set (s - 1 - i) (aG x (8 * i)).toUInt8:=rfl
   have e1:((s:Int) - 1 - (i:Int)).toNat = s - 1 - i:=by omega
   have e2:((8:Int) * (i:Int)).toNat = 8 * i:=by omega
   repeat refine sdJ ?_
   refine ⟨i + 1,by omega,by omega,Le.intro [] rfl ?_ rfl ?_ rfl⟩
   ·exact fc
   ·exact fcJ
  ·obtain rfl:i = s:=by have hc:¬ (i:Int) < s:=hc;omega
   repeat refine sd ?_
   refine Ret.intro (.tup [.sl 1001 0 0 i i,.tt]) [(1001,.mem true 0 [(i,.a8 (rO x.toNat i))])] [(1001,(26,0,none))] rfl ?_ ⟨rfl,rfl⟩ rfl ?_ rfl ?_ rfl
   ·exact fc
   ·exact fc
   ·repeat' first|exact trivial|refine zA.app ?_ ?_|refine zA.zd ?_ ?_|refine zA.cons ?_ ?_|exact fc|fail
    all_goals exact hall.symm
end Go.Proofs.YtimbdhpchlakfaaGreat
namespace Go.Proofs.YtimbdhpchlakfaaGreat
open Go Go.Sx
def xK (x:UInt64):Nat->UInt64
 | 0=>x
 | i + 1=>xK x i / 256
theorem qv (x:UInt64):∀ i,(xK x i).toNat = x.toNat / 256 ^ i
 | 0=>by simp [xK]
 | i + 1=>by
  simp only [xK,UInt64.toNat_div]
  rw [qv x i,Nat.div_div_eq_div_mul,Nat.pow_succ]
  rfl
def qK (x:UInt64) (s:Nat):Nat->List UInt8
 | 0=>replicate s 0
 | i + 1=>(qK x s i).set (s - 1 - i) (xK x i % 256).toUInt8
theorem sn (x:UInt64) (s:Nat):∀ i,(qK x s i).length = s
 | 0=>List.length_replicate
 | i + 1=>by simp only [qK,List.length_set,sn x s i]
theorem aGS (x:UInt64) (i:Nat):(xK x i % 256).toUInt8 = ofNat (x.toNat / 256 ^ i):=by
 apply UInt8.toNat_inj.1
 rw [UInt64.toNat_toUInt8,UInt64.toNat_mod,qv,UInt8.toNat_ofNat']
 show _ % 256 % 256 = _ % 256
 rw [Nat.mod_mod]
theorem aOO (x:UInt64) {s:Nat} (hs:s <= 8):∀ i,i <= s->qK x s i = pK x s i
 | 0,_=>rfl
 | i + 1,h=>by simp only [qK,pK];rw [aOO x hs i (by omega),aGS,wu x (by omega)]
theorem aOP (x:UInt64) {s:Nat} (hs:s <= 8):qK x s s = rO x.toNat s:=by
 rw [aOO x hs s (Nat.le_refl _),aJB x hs]
theorem aTX (x:UInt64) (s:Nat) (h1:1 <= s) (h8:s <= 8) (hx:x.toNat / 256 ^ s = 0):Sx.Fn Γ.P 156 [.u64 x,.i .i64 (s:Int)] []
  (fun v M=>v = .tup [.sl 1001 0 0 s s,.tt]/\M = [(1001,.mem true 0 [(s,.a8 (rO x.toNat s))])]):=by
 have hz:qK x s 0 = replicate s 0:=rfl
 have hz2:xK x 0 = x:=rfl
 have hall:=aOP x h8
 have hx0:xK x s = 0:=by
  apply UInt64.toNat_inj.1
  rw [qv,hx];rfl
 refine aF (Γ:=Γ) (fn:=Tryz.f156) rfl rfl rfl rfl ?_
 refine zB.intro (fun h=>absurd h (by omega)) (fun _=>?_)
 refine zB.intro (fun h=>absurd h (by omega)) (fun _=>?_)
 repeat refine sd ?_
 refine ac.intro (σ:=Nat) (fun i=>i <= s)
  (fun i=>([(0,.u64 (xK x i)),(1,.i .i64 (s:Int)),(6,.sl 15 0 0 s s),(7,.i .i64 ((s:Int) - 1 - (i:Int)))],[(15,.mem true 0 [(s,.a8 (qK x s i))])])) (fun i=>s - i) 0 (zero_le _) ?_ ?_
 ·refine Le.intro [] rfl fc rfl fc rfl
 rintro i hi
 have hl:=sn x s i
 refine zB.intro (fun hc=>?_) (fun hc=>?_)
 ·have hc:(s:Int) - 1 - (i:Int) ≥ 0:=hc
  have hs:qK x s (i + 1) = (qK x s i).set (s - 1 - i) (xK x i % 256).toUInt8:=rfl
  have hs2:xK x (i + 1) = xK x i / 256:=rfl
  have e1:((s:Int) - 1 - (i:Int)).toNat = s - 1 - i:=by omega
  have n1:(256:UInt64) ≠ 0:=by decide
  repeat refine sdK ?_
  refine ⟨i + 1,by omega,by omega,Le.intro [] rfl ?_ rfl ?_ rfl⟩
  ·exact fc
  ·exact fcK
 ·obtain rfl:i = s:=by have hc:¬ (s:Int) - 1 - (i:Int) ≥ 0:=hc;omega
  repeat refine sd ?_
  refine zB.intro (fun hn=>absurd hx0 hn) (fun _=>?_)
  repeat refine sd ?_
  refine Ret.intro (.tup [.sl 1001 0 0 i i,.tt]) [(1001,.mem true 0 [(i,.a8 (rO x.toNat i))])] [(1001,(15,0,none))] rfl ?_ ⟨rfl,rfl⟩ rfl ?_ rfl ?_ rfl
  ·exact fc
  ·exact fc
  ·repeat' first|exact trivial|refine zA.app ?_ ?_|refine zA.zd ?_ ?_|refine zA.cons ?_ ?_|exact fc|fail
   all_goals exact hall.symm
theorem aBU {n s:Nat} (h:n < 256 ^ s):n / 256 ^ s = 0:=Nat.div_eq_of_lt h
theorem ek {n:Nat} (h:n < 18446744073709551616):(ofInt (n:Int)).toNat = n:=by
 have e:ofInt (n:Int) = UInt64.ofNat n:=by
  unfold ofInt
  congr 1;omega
 rw [e,toNat_ofNat',Nat.mod_eq_of_lt (by omega)]
theorem aGG {x:UInt64} {k:Nat} (h:x.toNat / 2 ^ k = 0):aG x k = 0:=by
 rw [aG,Nat.shiftRight_eq_div_pow,h];rfl
theorem aQG (n s:Nat) (h1:1 <= s) (h8:s <= 8) (hn:n < 256 ^ s) (hn64:n < 18446744073709551616):Sx.Fn Γ.P 112 [.i .i64 (n:Int),.i .i64 (s:Int)] []
  (fun v M=>v = .sl 1001 0 0 s s/\M = [(1001,.mem true 0 [(s,.a8 (rO n s))])]):=by
 have hP:=aTX (ofInt (n:Int)) s h1 h8 (by rw [ek hn64];exact aBU hn)
 rw [ek hn64] at hP
 refine aF (Γ:=Γ) (fn:=Tryz.f112) rfl rfl rfl rfl ?_
 repeat refine sd ?_
 refine Call.intro hP [(1001,(1001,0,none))] rfl fc rfl fc rfl ?_
 rintro _ _ ⟨rfl,rfl⟩
 repeat refine sd ?_
 refine Ret.intro (.sl 1001 0 0 s s) [(1001,.mem true 0 [(s,.a8 (rO n s))])] [(1001,(1001,0,none))] rfl fc ⟨rfl,rfl⟩ rfl fc rfl fc rfl
theorem aU7 {b:List UInt8} (h:b.length = 4):∃ b0 b1 b2 b3,b = [b0,b1,b2,b3]:=by
 rcases b with _ | ⟨b0,_ | ⟨b1,_ | ⟨b2,_ | ⟨b3,_ | ⟨b4,r⟩⟩⟩⟩⟩ <;> simp at h
 exact ⟨b0,b1,b2,b3,rfl⟩
@[irreducible] def eo (n:Nat):List UInt8:=[ofNat 116,ofNat 101,ofNat 114,ofNat 109] ++ (rO n 4 ++ replicate 24 0)
theorem j8 (n:Nat):eo n = [ofNat 116,ofNat 101,ofNat 114,ofNat 109] ++ (rO n 4 ++ replicate 24 0):=by unfold eo;rfl
theorem ae (n:Nat):(eo n).length = 32:=by rw [j8];simp [ei]
theorem aTQ (n:Nat) (hn:n < 4294967296):Sx.Fn Γ.P 59 [.i .i64 (n:Int)] [] (fun v M=>v = .a8 (eo n)/\M = []):=by
 have hN:=aQG n 4 (by decide) (by decide) (by omega) (by omega)
 have hl:=ei n 4
 have he:=j8 n
 generalize rO n 4 = b at hN hl he
 obtain ⟨b0,b1,b2,b3,rfl⟩:=aU7 hl
 refine aF (Γ:=Γ) (fn:=Tryz.f59) rfl rfl rfl rfl ?_
 repeat refine sd ?_
 refine aI.intro [[],[],[1],[0,1,2]] r_4 (by kernel_rfl) ?_
 repeat refine sd ?_
 refine Call.intro hN [(1001,(8,0,none))] rfl fc rfl fc rfl ?_
 rintro _ _ ⟨rfl,rfl⟩
 refine dC.intro [(8,.mem true 0 [(4,.a8 [b0,b1,b2,b3])])] rfl rfl ?_
 repeat refine sd ?_
 refine Ret.intro (.a8 (eo n)) [] [] rfl ?_ ⟨rfl,rfl⟩ rfl ?_ rfl trivial rfl
 ·exact fc
 ·repeat' first|exact trivial|refine zA.app ?_ ?_|refine zA.zd ?_ ?_|refine zA.cons ?_ ?_|exact fc|fail
  all_goals (rw [he];exact rfl)
theorem aTP (n:Nat) (hn:n < 4294967296):Sx.Fn Γ.P 73 [.i .i64 (n:Int)] [] (fun v M=>v = .a8 (eo n)/\M = []):=by
 have hN:=aT2 (ofInt (n:Int)) 4 (by decide) (by decide) (fun _=>aGG (by rw [ek (by omega)];omega))
 rw [ek (by omega)] at hN
 have hl:=ei n 4
 have he:=j8 n
 generalize rO n 4 = b at hN hl he
 obtain ⟨b0,b1,b2,b3,rfl⟩:=aU7 hl
 refine aF (Γ:=Γ) (fn:=Tryz.f73) rfl rfl rfl rfl ?_
 repeat refine sd ?_
 refine Call.intro hN [(1001,(11,0,none))] rfl fc rfl fc rfl ?_
 rintro _ _ ⟨rfl,rfl⟩
 repeat refine sd ?_
 refine Ret.intro (.a8 (eo n)) [] [] rfl ?_ ⟨rfl,rfl⟩ rfl ?_ rfl trivial rfl
 ·exact fc
 ·repeat' first|exact trivial|refine zA.app ?_ ?_|refine zA.zd ?_ ?_|refine zA.cons ?_ ?_|exact fc|fail
  all_goals (rw [he];exact rfl)
end Go.Proofs.YtimbdhpchlakfaaGreat
namespace Go.Proofs.YtimbdhpchlakfaaGreat
open Go Go.Sx
def gK (b:List UInt8) (o:Nat):Nat->UInt64
 | 0=>0
 | i + 1=>aV (gK b o i) 8 ||| (b.getD (o + i) 0).toUInt64
def nmK (b:List UInt8) (o:Nat):Nat:=(((b.getD (o + 4) 0).toNat * 256 + (b.getD (o + 5) 0).toNat) * 256 + (b.getD (o + 6) 0).toNat) * 256 + (b.getD (o + 7) 0).toNat
theorem ww (x:UInt64) (y:UInt8) (h:x.toNat < 2 ^ 56):(aV x 8 ||| y.toUInt64).toNat = x.toNat * 256 + y.toNat:=by
 have h1:(aV x 8).toNat = x.toNat * 256:=by
  rw [aV,toNat_ofNat',Nat.shiftLeft_eq,Nat.mod_eq_of_lt (by omega)]
 rw [UInt64.toNat_or,h1,UInt8.toNat_toUInt64,show x.toNat * 256 = x.toNat <<< 8 by rw [Nat.shiftLeft_eq],<- Nat.shiftLeft_add_eq_or_of_lt (by have:=y.toNat_lt;omega),Nat.shiftLeft_eq]
theorem gK4 (b:List UInt8) (o:Nat):(gK b (o + 4) 4).toNat = nmK b o:=by
 have l0:=(b.getD (o + 4) 0).toNat_lt
 have l1:=(b.getD (o + 5) 0).toNat_lt
 have l2:=(b.getD (o + 6) 0).toNat_lt
 have l3:=(b.getD (o + 7) 0).toNat_lt
 have e0:(gK b (o + 4) 1).toNat = (b.getD (o + 4) 0).toNat:=by
  show (aV 0 8 ||| (b.getD (o + 4 + 0) 0).toUInt64).toNat = _
  rw [ww _ _ (by decide)]
  show 0 * 256 + _ = _
  rw [Nat.zero_mul,zero_add,Nat.add_zero]
 have e1:(gK b (o + 4) 2).toNat = (b.getD (o + 4) 0).toNat * 256 + (b.getD (o + 5) 0).toNat:=by
  show (aV (gK b (o + 4) 1) 8 ||| (b.getD (o + 4 + 1) 0).toUInt64).toNat = _
  rw [ww _ _ (by omega),e0]
 have e2:(gK b (o + 4) 3).toNat = ((b.getD (o + 4) 0).toNat * 256 + (b.getD (o + 5) 0).toNat) * 256 + (b.getD (o + 6) 0).toNat:=by
  show (aV (gK b (o + 4) 2) 8 ||| (b.getD (o + 4 + 2) 0).toUInt64).toNat = _
  rw [ww _ _ (by omega),e1]
 show (aV (gK b (o + 4) 3) 8 ||| (b.getD (o + 4 + 3) 0).toUInt64).toNat = _
 rw [ww _ _ (by omega),e2]
 rfl
theorem aJH (b:List UInt8) (o:Nat):nmK b o < 4294967296:=by
 have l0:=(b.getD (o + 4) 0).toNat_lt
 have l1:=(b.getD (o + 5) 0).toNat_lt
 have l2:=(b.getD (o + 6) 0).toNat_lt
 have l3:=(b.getD (o + 7) 0).toNat_lt
 unfold nmK
 omega
@[irreducible] def du (b:List UInt8) (most o:Nat):Nat:=if o + 32 <= b.length/\1 <= nmK b o/\nmK b o <= most/\(b.drop o).take 32 = eo (nmK b o) then nmK b o else 0
theorem nk (b:List UInt8) (most o:Nat):du b most o = if o + 32 <= b.length/\1 <= nmK b o/\nmK b o <= most/\(b.drop o).take 32 = eo (nmK b o) then nmK b o else 0:=by unfold du;rfl
theorem vH (b:List UInt8) (most o:Nat):du b most o <= most:=by rw [nk];split <;> omega
def inF (b:List UInt8) (most:Nat):Nat->Nat->List Nat
 | 0,_=>[]
 | f + 1,o=>if b.length < o + 32 then [] else if du b most o = 0 then inF b most f (o + 1) else du b most o :: inF b most f (o + 32)
@[irreducible] def inL (b:List UInt8) (most o:Nat):List Nat:=inF b most (b.length + 1 - o) o
theorem mn (b:List UInt8) (most:Nat):∀ (f g o:Nat),b.length + 1 - o <= f->b.length + 1 - o <= g->inF b most f o = inF b most g o
 | 0,0,_,_,_=>rfl
 | 0,g + 1,o,h,_=>by simp only [inF];rw [if_pos (by omega)]
 | f + 1,0,o,_,h=>by simp only [inF];rw [if_pos (by omega)]
 | f + 1,g + 1,o,h,k=>by
  simp only [inF]
  rw [mn b most f g (o + 1) (by omega) (by omega),mn b most f g (o + 32) (by omega) (by omega)]
theorem rb {b:List UInt8} {most o:Nat} (h:b.length < o + 32):inL b most o = []:=by
 unfold inL
 cases b.length + 1 - o with
 | zero=>rfl
 | succ f=>simp only [inF];rw [if_pos h]
theorem ib {b:List UInt8} {most o:Nat} (h:o + 32 <= b.length) (hz:du b most o = 0):inL b most o = inL b most (o + 1):=by
 unfold inL
 rw [show b.length + 1 - o = (b.length - o) + 1 by omega]
 show (if b.length < o + 32 then [] else if du b most o = 0 then inF b most (b.length - o) (o + 1) else du b most o :: inF b most (b.length - o) (o + 32)) = _
 rw [if_neg (by omega),if_pos hz,mn b most _ (b.length + 1 - (o + 1)) _ (by omega) (by omega)]
theorem ra {b:List UInt8} {most o:Nat} (h:o + 32 <= b.length) (hz:du b most o ≠ 0):inL b most o = du b most o :: inL b most (o + 32):=by
 unfold inL
 rw [show b.length + 1 - o = (b.length - o) + 1 by omega]
 show (if b.length < o + 32 then [] else if du b most o = 0 then inF b most (b.length - o) (o + 1) else du b most o :: inF b most (b.length - o) (o + 32)) = _
 rw [if_neg (by omega),if_neg hz,mn b most _ (b.length + 1 - (o + 32)) _ (by omega) (by omega)]
def toI (l:List Nat):List Int:=l.map Int.ofNat
theorem aP6 (b:List UInt8) (n o:Nat) (hb:b.length = n) (h:o + 8 <= n):Sx.Fn Γ.P 122 [.slx 1003 0 (o + 4) 4] [(1003,.mem false 0 [(n,.a8 b)])]
  (fun v M=>v = .tup [.u64 (gK b (o + 4) 4),.tt]/\M = [(1003,.mem false 0 [(n,.a8 b)])]):=by
 have hz:gK b (o + 4) 0 = 0:=rfl
 refine aF (Γ:=Γ) (fn:=Tryz.f122) rfl rfl rfl rfl ?_
 refine zB.intro (fun h=>absurd h (by decide)) (fun _=>?_)
 refine zB.intro (fun h=>absurd h (by decide)) (fun _=>?_)
 repeat refine sd ?_
 refine ac.intro (σ:=Nat) (fun i=>i <= 4)
  (fun i=>([(4,.u64 (gK b (o + 4) i)),(15,.slx 1003 0 (o + 4) 4),(16,.i .i64 4),(17,.i .i64 (i:Int))],[(1003,.mem false 0 [(n,.a8 b)])])) (fun i=>4 - i) 0 (zero_le _) ?_ ?_
 ·refine Le.intro [] rfl fc rfl fc rfl
 rintro i hi
 refine zB.intro (fun hc=>?_) (fun hc=>?_)
 ·have hc:(i:Int) < 4:=hc
  have hs:gK b (o + 4) (i + 1) = aV (gK b (o + 4) i) 8 ||| (b.getD (o + 4 + i) 0).toUInt64:=rfl
  repeat refine sdn ?_
  refine ⟨i + 1,by omega,by omega,Le.intro [] rfl ?_ rfl ?_ rfl⟩
  ·exact fc
  ·exact fcn
 ·obtain rfl:i = 4:=by have hc:¬ (i:Int) < 4:=hc;omega
  repeat refine sd ?_
  refine Ret.intro (.tup [.u64 (gK b (o + 4) 4),.tt]) [(1003,.mem false 0 [(n,.a8 b)])] [] rfl fc ⟨rfl,rfl⟩ rfl fc rfl fc rfl
theorem aT3 (k:List UInt8) (hk:k.length = 32):Sx.Fn Γ.P 123 [.a8 k] [] (fun v M=>v = .str k/\M = []):=by
 refine aF (Γ:=Γ) (fn:=Tryz.f123) rfl rfl rfl rfl ?_
 repeat refine sd ?_
 refine Ret.intro (.str k) [] [] rfl ?_ ⟨rfl,rfl⟩ rfl ?_ rfl trivial rfl
 ·exact fc
 ·repeat' first|exact trivial|refine zA.app ?_ ?_|refine zA.zd ?_ ?_|refine zA.cons ?_ ?_|exact fc|fail
  all_goals exact (List.take_of_length_le (by show k.length <= 32;omega)).symm
theorem aVB (b:List UInt8) (n m o:Nat) (hb:b.length = n) (ho:o + m = n) (hm32:32 <= m) (most:Nat) (hm:most < 4294967296):Sx.Fn Γ.P 71 [.slx 1003 0 o m,.i .i64 (most:Int)] [(1003,.mem false 0 [(n,.a8 b)])]
  (fun v M=>v = .i .i64 (du b most o:Int)/\M = [(1003,.mem false 0 [(n,.a8 b)])]):=by
 have hG:=aP6 b n o hb (by omega)
 have hg:=gK4 b o
 have hlt:=aJH b o
 have hN:=aTP (nmK b o) hlt
 have hT:=aT3 (eo (nmK b o)) (ae _)
 have hnl:=ae (nmK b o)
 have hq:=nk b most o
 refine aF (Γ:=Γ) (fn:=Tryz.f71) rfl rfl rfl rfl ?_
 refine zB.intro (fun h=>absurd h (by omega)) (fun _=>?_)
 repeat refine sd ?_
 refine Call.intro hG [(1003,(1003,0,none))] rfl fc rfl fc rfl ?_
 rintro _ _ ⟨rfl,rfl⟩
 dsimp only [zt,zM,zE,ren,zz,zx,zy,aS,zG,zX,ev,evL,zV,zcT,zcF,act,zP,zO,Ent.zW]
 repeat refine sd ?_
 generalize gK b (o + 4) 4 = g at hg
 rw [<- hg] at hlt hN hT hnl hq
 clear hG
 have hm2:=ek (n:=most) (by omega)
 by_cases h1:g.toNat < (UInt64.ofNat 1).toNat
 ·have hz:du b most o = 0:=by rw [hq,if_neg (fun h=>by have h1:g.toNat < 1:=h1;omega)]
  refine aI.intro [[],[0],[0,1],[0,1,2],[0,1,2],[0,1,2,4],r_6,r_7,r_8,r_9,fi,fy,r_9,[0,1,2,3,4,5,6,7,8,12],[0,1,2,3,4,5,6,7,8,12,13],[0,1,2,3,4,5,6,7,8,12,13,14],rM,uL] rL (by kernel_rfl) ?_
  repeat (first | (refine zB.intro (fun _=>?_) (fun hn=>absurd rfl hn))|refine ky0 ?_|refine kn0 ?_|refine ky ?_|refine kn ?_|refine sd ?_)
  refine Ret.intro (.i .i64 (0:Int)) [(1003,.mem false 0 [(n,.a8 b)])] [] rfl trivial ⟨by rw [hz];rfl,rfl⟩ rfl fc rfl fc rfl
 ·by_cases h2:g.toNat > (ofInt (most:Int)).toNat
  ·have hz:du b most o = 0:=by rw [hq,if_neg (fun h=>by omega)]
   have h3:(g.toNat < (UInt64.ofNat 1).toNat/\True \/ ¬ g.toNat < (UInt64.ofNat 1).toNat/\(ofInt (most:Int)).toNat < g.toNat):=Or.inr ⟨h1,h2⟩
   refine aI.intro [[],[0],[0,1],[0,1,2],[0,1,2],[0,1,2,4],r_6,r_7,r_8,r_9,fi,fy,r_9,[0,1,2,3,4,5,6,7,8,12],[0,1,2,3,4,5,6,7,8,12,13],[0,1,2,3,4,5,6,7,8,12,13,14],rM,uL] rL (by kernel_rfl) ?_
   repeat (first | (refine zB.intro (fun _=>?_) (fun hn=>absurd rfl hn))|refine ky0 ?_|refine kn0 ?_|refine ky ?_|refine kn ?_|refine sd ?_)
   refine Ret.intro (.i .i64 (0:Int)) [(1003,.mem false 0 [(n,.a8 b)])] [] rfl trivial ⟨by rw [hz];rfl,rfl⟩ rfl fc rfl fc rfl
  have h3:¬ (g.toNat < (UInt64.ofNat 1).toNat/\True \/ ¬ g.toNat < (UInt64.ofNat 1).toNat/\(ofInt (most:Int)).toNat < g.toNat):=fun h=>h.elim (fun h=>h1 h.1) (fun h=>h2 h.2)
  refine aI.intro [[],[0],[0,1],[0,1,2],[0,1,2],[0,1,2,4],r_6,r_7,r_8,r_9,fi,fy,r_9,[0,1,2,3,4,5,6,7,8,12],[0,1,2,3,4,5,6,7,8,12,13],[0,1,2,3,4,5,6,7,8,12,13,14],rM,uL] rL (by kernel_rfl) ?_
  refine zB.intro (fun hn=>absurd hn h1) (fun _=>?_)
  refine zB.intro (fun hn=>absurd hn h1) (fun _=>?_)
  refine zB.intro (fun hn=>absurd hn h1) (fun _=>?_)
  refine zB.intro (fun hn=>absurd hn h1) (fun _=>?_)
  refine zB.intro (fun hn=>absurd hn h3) (fun _=>?_)
  refine zB.intro (fun hn=>absurd hn h3) (fun _=>?_)
  refine sd ?_
  refine zB.intro (fun hn=>absurd hn h3) (fun _=>?_)
  refine sd ?_
  refine zB.intro (fun hn=>absurd hn h3) (fun _=>?_)
  refine zB.intro (fun hn=>absurd hn h3) (fun _=>?_)
  refine sd ?_
  refine zB.intro (fun hn=>absurd hn h3) (fun _=>?_)
  refine Call.intro hN [] rfl rfl rfl trivial rfl ?_
  rintro _ _ ⟨rfl,rfl⟩
  refine dC.intro [] rfl rfl ?_
  dsimp only [zt,zM,zE,ren,zz,zx,zy,aS,zG,zX,ev,evL,zV,zcT,zcF,act,zP,zO,Ent.zW]
  refine zB.intro (fun hn=>absurd hn h3) (fun _=>?_)
  refine Call.intro hT [] rfl rfl rfl trivial rfl ?_
  rintro _ _ ⟨rfl,rfl⟩
  dsimp only [zt,zM,zE,ren,zz,zx,zy,aS,zG,zX,ev,evL,zV,zcT,zcF,act,zP,zO,Ent.zW]
  refine dC.intro [] rfl rfl ?_
  refine zB.intro (fun hn=>absurd hn h3) (fun _=>?_)
  refine zB.intro (fun h4=>?_) (fun h4=>?_)
  ·have hz:du b most o = 0:=by
    rw [hq,if_neg]
    rintro ⟨_,_,_,h5⟩
    rcases h4 with h4 | h4
    ·exact h3 h4.1
    ·exact h4.2 h5
   refine Ret.intro (.i .i64 (0:Int)) [(1003,.mem false 0 [(n,.a8 b)])] [] rfl trivial ⟨by rw [hz];rfl,rfl⟩ rfl fc rfl fc rfl
  ·have h5:(b.drop o).take 32 = eo g.toNat:=Classical.byContradiction fun h5=>h4 (Or.inr ⟨h3,h5⟩)
   have hz:du b most o = g.toNat:=by
    rw [hq,if_pos]
    refine ⟨by omega,?_,?_,h5⟩
    ·have h1:¬ g.toNat < 1:=h1
     omega
    ·rw [hm2] at h2;omega
   repeat refine sd ?_
   refine Ret.intro (.i .i64 (g.toNat:Int)) [(1003,.mem false 0 [(n,.a8 b)])] [] rfl fc ⟨by rw [hz],rfl⟩ rfl fc rfl fc rfl
end Go.Proofs.YtimbdhpchlakfaaGreat
namespace Go.Proofs.YtimbdhpchlakfaaGreat
open Go Go.Sx
theorem aO4 {b:List UInt8} {most o:Nat} (h:b.getD o 0 ≠ ofNat 116):du b most o = 0:=by
 rw [nk,if_neg]
 rintro ⟨h1,_,_,h2⟩
 rw [j8] at h2
 apply h
 have h3:((b.drop o).take 32).getD 0 0 = ofNat 116:=by rw [h2];rfl
 rw [<- h3,getD_eq_getElem?_getD,getD_eq_getElem?_getD,List.getElem?_take,if_pos (by decide),List.getElem?_drop,Nat.add_zero]
theorem aBM (l:List Nat):(toI l).length = l.length:=List.length_map _
theorem aWA (b:List UInt8) (n:Nat) (hb:b.length = n) (most:Nat) (hm:most < 4294967296) (hn:n <= 1000000):Sx.Fn Γ.P 74 [.slx 1003 0 0 n,.i .i64 (most:Int)] [(1003,.mem false 0 [(n,.a8 b)])]
  (fun v M=>∃ l c,l = toI (inL b most 0)/\l.length <= c/\v = .sl 1001 0 0 l.length c/\M = [(1003,.mem false 0 [(n,.a8 b)]),(1001,.mem true (c - l.length) [(l.length,.ai l)])]):=by
 refine aF (Γ:=Γ) (fn:=Tryz.f74) rfl rfl rfl rfl ?_
 repeat refine sd ?_
 refine ac.intro (σ:=Nat × List Int × Nat × Nat) (fun s=>s.1 <= n + 40/\s.2.1.length = s.2.2.1/\s.2.2.1 <= s.1/\s.2.2.1 <= s.2.2.2/\s.2.1 ++ toI (inL b most s.1) = toI (inL b most 0))
  (fun s=>([(0,.slx 1003 0 0 n),(1,.i .i64 (most:Int)),(5,.sl 204 0 0 s.2.2.1 s.2.2.2),(6,.i .i64 (s.1:Int))],[(1003,.mem false 0 [(n,.a8 b)]),(204,.mem true (s.2.2.2 - s.2.2.1) [(s.2.2.1,.ai s.2.1)])]))
  (fun s=>n + 40 - s.1) (0,[],0,0) ⟨zero_le _,rfl,zero_le _,zero_le _,rfl⟩ ?_ ?_
 ·refine Le.ghost [.own 204 [(0,.ai [])]] [(5,204)] [] rfl ⟨rfl,rfl,trivial⟩ rfl rfl fc rfl fc rfl
 rintro ⟨o,A,N,c⟩ ⟨ho,hA,hNo,hNc,hI⟩
 have ho:o <= n + 40:=ho
 have hA:A.length = N:=hA
 have hNc:N <= c:=hNc
 have hNo:N <= o:=hNo
 have hI:A ++ toI (inL b most o) = toI (inL b most 0):=hI
 repeat refine sd ?_
 refine zB.intro (fun hc=>?_) (fun hc=>?_)
 ·have hc:(o:Int) + 32 <= n:=hc
  repeat refine sdn ?_
  refine zB.intro (fun hc2=>?_) (fun hc2=>?_)
  ·have hz:du b most o = 0:=aO4 fun h=>hc2 h
   have hnx:=ib (by omega) hz
   repeat refine sdn ?_
   refine ⟨(o + 1,A,N,c),⟨by show o + 1 <= n + 40;omega,hA,by show N <= o + 1;omega,hNc,by show A ++ toI (inL b most (o + 1)) = _;rw [<- hnx];exact hI⟩,by show n + 40 - (o + 1) < n + 40 - o;omega,Le.intro [] rfl fc rfl fc rfl⟩
  ·repeat refine sdn ?_
   have hC:=aVB b n (n - o) o hb (by omega) (by omega) most hm
   refine Call.intro hC [(1003,(1003,0,none))] rfl fcn rfl fc rfl ?_
   rintro _ _ ⟨rfl,rfl⟩
   dsimp only [zt,zM,zE,ren,zz,zx,zy,aS,zG,zX,ev,evL,zV,zcT,zcF,act,zP,zO,Ent.zW]
   have hle:=vH b most o
   repeat refine sdn ?_
   refine zB.intro (fun hc3=>?_) (fun hc3=>?_)
   ·have hc3:(du b most o:Int) > 0:=hc3
    have hnx:=ra (b:=b) (most:=most) (o:=o) (by omega) (by omega)
    repeat refine sdn ?_
    refine fun c2 hc2'=>?_
    have hc2':N + 1 <= c2:=hc2'
    repeat refine sdn ?_
    refine ⟨(o + 32,A ++ [(du b most o:Int)],N + 1,c2),⟨by show o + 32 <= n + 40;omega,by show (A ++ [(du b most o:Int)]).length = N + 1;simp [hA],by show N + 1 <= o + 32;omega,hc2',?_⟩,by show n + 40 - (o + 32) < n + 40 - o;omega,Le.intro [(204,(30,0,none))] rfl ?_ rfl ?_ rfl⟩
    ·show (A ++ [(du b most o:Int)]) ++ toI (inL b most (o + 32)) = _
     rw [<- hI,hnx,List.append_assoc]
     rfl
    ·exact fcn
    ·exact fcn
   ·have hc3:¬ (du b most o:Int) > 0:=hc3
    have hnx:=ib (b:=b) (most:=most) (o:=o) (by omega) (by omega)
    repeat refine sdn ?_
    refine ⟨(o + 1,A,N,c),⟨by show o + 1 <= n + 40;omega,hA,by show N <= o + 1;omega,hNc,by show A ++ toI (inL b most (o + 1)) = _;rw [<- hnx];exact hI⟩,by show n + 40 - (o + 1) < n + 40 - o;omega,Le.intro [] rfl fc rfl fc rfl⟩
 ·have hc:¬ (o:Int) + 32 <= n:=hc
  have hnx:=rb (b:=b) (most:=most) (o:=o) (by omega)
  have hI2:A = toI (inL b most 0):=by rw [<- hI,hnx];exact (List.append_nil _).symm
  repeat refine sd ?_
  refine Ret.intro (.sl 1001 0 0 N c) [(1003,.mem false 0 [(n,.a8 b)]),(1001,.mem true (c - N) [(N,.ai A)])] [(1001,(204,0,none))] rfl fc ⟨A,c,hI2,by omega,by rw [hA],by rw [hA]⟩ rfl fc rfl fc rfl
end Go.Proofs.YtimbdhpchlakfaaGreat
namespace Go.Proofs.YtimbdhpchlakfaaGreat
open Go Go.Sx
theorem aV7 (b:List UInt8) (n:Nat) (hb:b.length = n) (most:Nat) (hm:most < 4294967296) (hn:n <= 1000000):Sx.Fn Γ.P 82 [.slx 1003 0 0 n,.i .i64 (most:Int)] [(1003,.mem false 0 [(n,.a8 b)])]
  (fun v M=>∃ l c,l = toI (inL b most 0)/\l.length <= c/\v = .sl 1001 0 0 l.length c/\M = [(1003,.mem false 0 [(n,.a8 b)]),(1001,.mem true (c - l.length) [(l.length,.ai l)])]):=by
 refine aF (Γ:=Γ) (fn:=Tryz.f82) rfl rfl rfl rfl ?_
 repeat refine sd ?_
 refine ac.intro (σ:=Nat × List Int × Nat × Nat) (fun s=>s.1 <= n + 40/\s.2.1.length = s.2.2.1/\s.2.2.1 <= s.1/\s.2.2.1 <= s.2.2.2/\s.2.1 ++ toI (inL b most s.1) = toI (inL b most 0))
  (fun s=>([(0,.slx 1003 0 0 n),(1,.i .i64 (most:Int)),(5,.sl 204 0 0 s.2.2.1 s.2.2.2),(6,.i .i64 (s.1:Int))],[(1003,.mem false 0 [(n,.a8 b)]),(204,.mem true (s.2.2.2 - s.2.2.1) [(s.2.2.1,.ai s.2.1)])]))
  (fun s=>n + 40 - s.1) (0,[],0,0) ⟨zero_le _,rfl,zero_le _,zero_le _,rfl⟩ ?_ ?_
 ·refine Le.ghost [.own 204 [(0,.ai [])]] [(5,204)] [] rfl ⟨rfl,rfl,trivial⟩ rfl rfl fc rfl fc rfl
 rintro ⟨o,A,N,c⟩ ⟨ho,hA,hNo,hNc,hI⟩
 have ho:o <= n + 40:=ho
 have hA:A.length = N:=hA
 have hNc:N <= c:=hNc
 have hNo:N <= o:=hNo
 have hI:A ++ toI (inL b most o) = toI (inL b most 0):=hI
 repeat refine sd ?_
 refine zB.intro (fun hc=>?_) (fun hc=>?_)
 ·have hc:(n:Int) - o ≥ 32:=hc
  have e4:((o:Int) + 4).toNat = o + 4:=by omega
  have e5:((o:Int) + 5).toNat = o + 5:=by omega
  have e6:((o:Int) + 6).toNat = o + 6:=by omega
  have e7:((o:Int) + 7).toNat = o + 7:=by omega
  have l4:=(b.getD (o + 4) 0).toNat_lt
  have l5:=(b.getD (o + 5) 0).toNat_lt
  have l6:=(b.getD (o + 6) 0).toNat_lt
  have l7:=(b.getD (o + 7) 0).toNat_lt
  have hlt:=aJH b o
  have hN:=aTQ (nmK b o) hlt
  have hnl:=ae (nmK b o)
  have hq:=nk b most o
  refine aI.intro [[],[],[1],[0,1,2],r_4,r_5,r_6,[],[],[8],[7,8,9],[7,8,9,10],[7,8,9,10,11],[7,8,9,10,11,12],sj,[],[],[16],[15,16,17],[15,16,17,18],[15,16,17,18,19],[15,16,17,18,19,20],aVT,[],[],[24],[23,24,25],[23,24,25,26],[23,24,25,26,27],aI2,aNL] aSJ (by kernel_rfl) ?_
  repeat (refine d0.intro (by repeat' (first | (show zA _;first | exact trivial|refine zA.app ?_ ?_|refine zA.zd ?_ ?_|refine zA.cons ?_ ?_) | with_reducible rfl | with_reducible assumption | omega | (simp only [zero_add,zIn,e4,e5,e6,e7,rng,Ix.val,zQ,addI,szs] <;> omega) | (simp only [zero_add,zIn,e4,e5,e6,e7,rng,Ix.val,zIn,zme,zQ,addI,Option.getD_none,Option.getD_some,zlT,zlD,zlA,List.length_set,List.length_replicate,szs, *] <;> omega) | (simp only [Ix.val];with_reducible assumption) | exact UInt8.toNat_lt _ | (apply Eq.trans;(with_reducible assumption);exact rfl) | exact rfl | exact fun _ _=>rfl)) ?_)
  have hk:((b.getD (o + 4) 0).toNat:Int) * 2 ^ 24 + ((b.getD (o + 5) 0).toNat:Int) * 2 ^ 16 + ((b.getD (o + 6) 0).toNat:Int) * 2 ^ 8 + ((b.getD (o + 7) 0).toNat:Int) = (nmK b o:Int):=by
   unfold nmK
   omega
  simp only [Ix.val,zQ,zero_add,e4,e5,e6,e7]
  rw [hk]
  refine Call.intro hN [] rfl rfl rfl trivial rfl ?_
  rintro _ _ ⟨rfl,rfl⟩
  dsimp only [zt,zM,zE,ren,zz,zx,zy,aS,zG,zX,ev,evL,zV,zcT,zcF,act,zP,zO,Ent.zW]
  repeat refine sd ?_
  by_cases h1:1 <= ((nmK b o:Nat):Int)
  ·by_cases h2:((nmK b o:Nat):Int) <= (most:Int)
   ·have h3:(1 <= ((nmK b o:Nat):Int)/\((nmK b o:Nat):Int) <= (most:Int) \/ ¬ 1 <= ((nmK b o:Nat):Int)/\False):=Or.inl ⟨h1,h2⟩
    refine aI.intro [[],[0],[0,1],[0,1,2],[0,1,2],r_5,r_6,r_7,r_8,r_8,r_8,[0,1,2,3,4,5,6,7,10],mR,nb,r_8,[0,1,2,3,4,5,6,7,14],rM,uL] rL (by kernel_rfl) ?_
    repeat (first | (refine zB.intro (fun _=>?_) (fun hn=>absurd rfl hn))|refine ky0 ?_|refine kn0 ?_|refine ky ?_|refine kn ?_|refine sdn ?_)
    have htk:((eo (nmK b o)).drop ((none:Option Nat).getD 0)).take 32 = eo (nmK b o):=List.take_of_length_le (by show (eo (nmK b o)).length <= 32;omega)
    have hdr:o * (Γ.ty 5).size + 0 = o:=Nat.mul_one o
    have e32:((o:Int) + 32).toNat - o = 32:=by omega
    refine zB.intro (fun h4=>?_) (fun h4=>?_)
    ·have h4:_/\_ = _ \/ _:=h4
     simp only [Ix.val,zQ,zero_add,zIn,e32,htk,hdr] at h4
     have h5:(b.drop o).take 32 = eo (nmK b o):=by
      rcases h4 with h4 | h4
      ·exact h4.2
      ·exact absurd h3 h4.1
     have hz:du b most o = nmK b o:=by
      rw [hq,if_pos]
      exact ⟨by omega,by omega,by omega,h5⟩
     have hnx:=ra (b:=b) (most:=most) (o:=o) (by omega) (by omega)
     rw [hz] at hnx
     repeat refine sdn ?_
     refine fun c2 hc2'=>?_
     have hc2':N + 1 <= c2:=hc2'
     repeat refine sdn ?_
     refine ⟨(o + 32,A ++ [(nmK b o:Int)],N + 1,c2),⟨by show o + 32 <= n + 40;omega,by show (A ++ [(nmK b o:Int)]).length = N + 1;simp [hA],by show N + 1 <= o + 32;omega,hc2',?_⟩,by show n + 40 - (o + 32) < n + 40 - o;omega,Le.intro [(204,(67,0,none))] rfl ?_ rfl ?_ rfl⟩
     ·show (A ++ [(nmK b o:Int)]) ++ toI (inL b most (o + 32)) = _
      rw [<- hI,hnx,List.append_assoc]
      rfl
     ·exact fcn
     ·exact fcn
    ·have h4:¬ (_/\_ = _ \/ _):=h4
     simp only [Ix.val,zQ,zero_add,zIn,e32,htk,hdr] at h4
     have hz:du b most o = 0:=by
      rw [hq,if_neg]
      rintro ⟨_,_,_,h5⟩
      exact h4 (Or.inl ⟨h3,h5⟩)
     repeat refine sdn ?_
     have hnx:=ib (b:=b) (most:=most) (o:=o) (by omega) hz
     refine ⟨(o + 1,A,N,c),⟨by show o + 1 <= n + 40;omega,hA,by show N <= o + 1;omega,hNc,by show A ++ toI (inL b most (o + 1)) = _;rw [<- hnx];exact hI⟩,by show n + 40 - (o + 1) < n + 40 - o;omega,Le.intro [] rfl fc rfl fc rfl⟩
   ·have h3:¬ (1 <= ((nmK b o:Nat):Int)/\((nmK b o:Nat):Int) <= (most:Int) \/ ¬ 1 <= ((nmK b o:Nat):Int)/\False):=fun h=>h.elim (fun h=>h2 h.2) (fun h=>h.2)
    have hz:du b most o = 0:=by rw [hq,if_neg (fun h=>by omega)]
    refine aI.intro [[],[0],[0,1],[0,1,2],[0,1,2],r_5,r_6,r_7,r_8,r_8,r_8,[0,1,2,3,4,5,6,7,10],mR,nb,r_8,[0,1,2,3,4,5,6,7,14],rM,uL] rL (by kernel_rfl) ?_
    repeat (first | (refine zB.intro (fun _=>?_) (fun hn=>absurd rfl hn))|refine ky0 ?_|refine kn0 ?_|refine ky ?_|refine kn ?_|refine sd ?_)
    repeat refine sdn ?_
    have hnx:=ib (b:=b) (most:=most) (o:=o) (by omega) hz
    refine ⟨(o + 1,A,N,c),⟨by show o + 1 <= n + 40;omega,hA,by show N <= o + 1;omega,hNc,by show A ++ toI (inL b most (o + 1)) = _;rw [<- hnx];exact hI⟩,by show n + 40 - (o + 1) < n + 40 - o;omega,Le.intro [] rfl fc rfl fc rfl⟩
  ·have h3:¬ (1 <= ((nmK b o:Nat):Int)/\((nmK b o:Nat):Int) <= (most:Int) \/ ¬ 1 <= ((nmK b o:Nat):Int)/\False):=fun h=>h.elim (fun h=>h1 h.1) (fun h=>h.2)
   have hz:du b most o = 0:=by rw [hq,if_neg (fun h=>by omega)]
   refine aI.intro [[],[0],[0,1],[0,1,2],[0,1,2],r_5,r_6,r_7,r_8,r_8,r_8,[0,1,2,3,4,5,6,7,10],mR,nb,r_8,[0,1,2,3,4,5,6,7,14],rM,uL] rL (by kernel_rfl) ?_
   repeat (first | (refine zB.intro (fun _=>?_) (fun hn=>absurd rfl hn))|refine ky0 ?_|refine kn0 ?_|refine ky ?_|refine kn ?_|refine sd ?_)
   repeat refine sdn ?_
   have hnx:=ib (b:=b) (most:=most) (o:=o) (by omega) hz
   refine ⟨(o + 1,A,N,c),⟨by show o + 1 <= n + 40;omega,hA,by show N <= o + 1;omega,hNc,by show A ++ toI (inL b most (o + 1)) = _;rw [<- hnx];exact hI⟩,by show n + 40 - (o + 1) < n + 40 - o;omega,Le.intro [] rfl fc rfl fc rfl⟩
 ·have hc:¬ (n:Int) - o ≥ 32:=hc
  have hnx:=rb (b:=b) (most:=most) (o:=o) (by omega)
  have hI2:A = toI (inL b most 0):=by rw [<- hI,hnx];exact (List.append_nil _).symm
  repeat refine sd ?_
  refine Ret.intro (.sl 1001 0 0 N c) [(1003,.mem false 0 [(n,.a8 b)]),(1001,.mem true (c - N) [(N,.ai A)])] [(1001,(204,0,none))] rfl fc ⟨A,c,hI2,by omega,by rw [hA],by rw [hA]⟩ rfl fc rfl fc rfl
end Go.Proofs.YtimbdhpchlakfaaGreat
