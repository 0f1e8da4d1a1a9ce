/- Walks. -/
import Derived.Test.YtimbdhpchlakfaaGreatHwSg2ToRf7
import Derived.Test.YtimbdhpchlakfaaGreatHx7
import Derived.Test.YtimbdhpchlakfaaGreatHwSs3ToSg1
import Derived.Test.YtimbdhpchlakfaaGreatHwSha10ToSs2
import Derived.Test.YtimbdhpchlakfaaGreatHwCu9ToCu13
import Derived.Test.YtimbdhpchlakfaaGreatHwTm6ToRa1
set_option linter.unusedSimpArgs false
set_option linter.unusedVariables false
set_option maxHeartbeats 4000000
open UInt8 (ofNat)
open List (replicate take drop)
open UInt64 (ofInt)
set_option maxRecDepth 100000
namespace Go.Proofs.YtimbdhpchlakfaaGreat
open Go Go.Sx Go.Cu
theorem aTI:(aB - 1) / 2 < 115792089237316195423570985008687907853269984665640564039457584007913129639936:=by decide
theorem aSV:(nmN (aB / 2 / 2 / 2)).set 0 ((nmN (aB / 2 / 2 / 2)).getD 0 0 + 1) = nmN ((aB + 3) / 8):=by
 rw [ns,ns];decide +kernel
theorem aSW:0 <= (nmN (aB / 2 / 2 / 2)).getD 0 0/\(nmN (aB / 2 / 2 / 2)).getD 0 0 < 65536:=jT _ 0
theorem aJG (r:F):(nmF r).getD 0 0 % 2 = 1 ↔ r.val % 2 = 1:=by
 have h:(nmF r).getD 0 0 = ((r.val / 65536 ^ 0 % 65536:Nat):Int):=nt _ (by omega)
 rw [h,Nat.pow_zero,Nat.div_one]
 omega
theorem aSM:(aB - 1) / 2 / 2 = (aB - 1) / 4:=by decide
theorem p9 (x r:F) (hs:kz x) (hr:r = pP x) (T:Tm) (M:Mm)
  (hle:Le [] [(2,.ptr 2 0 none),(6,.ptr 6 0 none)] [(2,.mem true 0 [(16,.ai (replicate 16 0))]),(6,.mem true 0 [(16,.ai (nmF r))])] T M) :
  aRC Γ [9] Tryz.f145 9 [] T M (fun v _=>(kz x/\v = .tup [.ai (nmF (dY x)),.tt]) \/ (¬ kz x/\v = .tup [.ai (replicate 16 0),.ff])):=by
 have lr:=aC r
 have hp:=aJG r
 have dr:=gJ r 0
 have hN:=aH3 r
 have ln:=aC (0 - r)
 have hE:dY x = if r.val % 2 = 1 then 0 - r else r:=by rw [hr];rfl
 generalize hN1:nmF (0 - r) = N at *
 generalize hR1:nmF r = R at *
 refine Cut.intro (σ:=Unit) (fun _=>True) (fun _=>([(2,.ptr 2 0 none),(6,.ptr 6 0 none)],[(2,.mem true 0 [(16,.ai (replicate 16 0))]),(6,.mem true 0 [(16,.ai R)])])) () trivial hle ?_
 rintro - -
 repeat refine sd ?_
 refine zB.intro (fun h=>?_) (fun h=>?_)
 ·have h:R.getD 0 0 % 2 = 1:=h
  have h2:=hp.1 h
  rw [if_pos h2] at hE
  repeat refine sd ?_
  refine Call.pure hN rfl fc ?_
  rintro _ rfl
  repeat (first|refine gi ?_|refine sd ?_)
  refine Ret.intro (.tup [.ai N,.tt]) [] [] rfl fc (Or.inl ⟨hs,by rw [hE,hN1]⟩) rfl fc rfl fc rfl
 ·have h:¬ R.getD 0 0 % 2 = 1:=h
  have h2:¬ r.val % 2 = 1:=fun e=>h (hp.2 e)
  rw [if_neg h2] at hE
  repeat refine sd ?_
  refine Ret.intro (.tup [.ai R,.tt]) [] [] rfl fc (Or.inl ⟨hs,by rw [hE,hR1]⟩) rfl fc rfl fc rfl
theorem aB8 (x:F) (hs:kz x) (T:Tm) (M:Mm)
  (hle:Le [] [(1,.ptr 1 0 none),(2,.ptr 2 0 none),(4,.ptr 4 0 none)] [(1,.mem true 0 [(16,.ai (nmF x))]),(2,.mem true 0 [(16,.ai (replicate 16 0))]),(4,.mem true 0 [(16,.ai (nmN (aB - 1)))])] T M) :
  aRC Γ [4,9] Tryz.f145 4 [] T M (fun v _=>(kz x/\v = .tup [.ai (nmF (dY x)),.tt]) \/ (¬ kz x/\v = .tup [.ai (replicate 16 0),.ff])):=by
 have hP:=aD5
 rw [aI6] at hP
 have h1:=zc aB (by decide)
 have h2:=zc (aB / 2) (by decide)
 have h3:=zc (aB / 2 / 2) (by decide)
 have hW:=aH5 x ((aB + 3) / 8) (by decide)
 have g1:=zc (aB - 1) (by decide)
 have g2:=zc ((aB - 1) / 2) (by decide)
 rw [aSM] at g2
 have hS:=vr 2 (by omega)
 rw [aV1] at hS
 have hJ:=aH5 2 ((aB - 1) / 4) (by decide)
 have e0:pw x ((aB + 3) / 8) = r0 x:=rfl
 have e1:pw 2 ((aB - 1) / 4) = j0:=rfl
 rw [e0] at hW
 rw [e1] at hJ
 have hMr:=gd (r0 x) (r0 x)
 have hMj:=gd (r0 x) j0
 have k1:=aSV
 have k0:=aSW
 have l1:=aP aB
 have l2:=aP (aB / 2)
 have l3:=aP (aB / 2 / 2)
 have l4:=aP (aB / 2 / 2 / 2)
 have l5:=aP ((aB + 3) / 8)
 have l6:=aP (aB - 1)
 have l7:=aP ((aB - 1) / 2)
 have l8:=aP ((aB - 1) / 4)
 have lx:=aC x
 have lr:=aC (r0 x)
 have lrr:=aC (r0 x * r0 x)
 have lrj:=aC (r0 x * j0)
 have lj:=aC j0
 have l22:=aC 2
 generalize nmN aB = A1 at *
 generalize nmN (aB / 2) = A2 at *
 generalize nmN (aB / 2 / 2) = A3 at *
 generalize nmN (aB / 2 / 2 / 2) = A4 at *
 generalize nmN ((aB + 3) / 8) = A5 at *
 generalize nmN (aB - 1) = B1 at *
 generalize nmN ((aB - 1) / 2) = B2 at *
 generalize nmN ((aB - 1) / 4) = B3 at *
 refine Cut.intro (σ:=Unit) (fun _=>True) (fun _=>([(1,.ptr 1 0 none),(2,.ptr 2 0 none),(4,.ptr 4 0 none)],[(1,.mem true 0 [(16,.ai (nmF x))]),(2,.mem true 0 [(16,.ai (replicate 16 0))]),(4,.mem true 0 [(16,.ai B1)])])) () trivial hle ?_
 rintro - -
 repeat refine sd ?_
 refine Call.pure hP rfl fc ?_
 rintro _ rfl
 repeat (first|refine gi ?_|refine sd ?_)
 refine Call.pure h1 rfl fc ?_
 rintro _ rfl
 repeat (first|refine gi ?_|refine sd ?_)
 refine Call.pure h2 rfl fc ?_
 rintro _ rfl
 repeat (first|refine gi ?_|refine sd ?_)
 refine Call.pure h3 rfl fc ?_
 rintro _ rfl
 repeat (first|refine gi ?_|refine sd ?_)
 refine Call.pure hW rfl ?_ ?_
 ·repeat' first|exact trivial|refine zA.app ?_ ?_|refine zA.zd ?_ ?_|refine zA.cons ?_ ?_|exact fc|fail
  all_goals (rw [<- k1];rfl)
 rintro _ rfl
 repeat (first|refine gi ?_|refine sd ?_)
 refine aI.intro [[],[],[0,1],[],r_4] [0,1,3,2,4] (by kernel_rfl) ?_
 repeat (first|refine gi ?_|refine sd ?_)
 refine Call.pure hMr rfl fc ?_
 rintro _ rfl
 repeat (first|refine gi ?_|refine sd ?_)
 refine zB.intro (fun h=>?_) (fun h=>?_)
 ·have h:¬ nmF (r0 x * r0 x) = nmF x:=h
  have h2:¬ r0 x * r0 x = x:=fun e=>h (by rw [e])
  refine aI.intro [[],[],[],[1,2],[1,2,3],[1,2,3,4],r_6,r_7] [0,2,1,3,4,5,6,7] (by kernel_rfl) ?_
  repeat (first|refine gi ?_|refine sd ?_)
  refine Call.pure hS rfl fc ?_
  rintro _ rfl
  repeat (first|refine gi ?_|refine sd ?_)
  refine Call.pure g1 rfl fc ?_
  rintro _ rfl
  repeat (first|refine gi ?_|refine sd ?_)
  refine Call.pure g2 rfl fc ?_
  rintro _ rfl
  repeat (first|refine gi ?_|refine sd ?_)
  refine Call.pure hJ rfl fc ?_
  rintro _ rfl
  repeat (first|refine gi ?_|refine sd ?_)
  refine Call.pure hMj rfl fc ?_
  rintro _ rfl
  repeat (first|refine gi ?_|refine sd ?_)
  refine p9 x (r0 x * j0) hs (by unfold pP;rw [if_neg h2]) _ _ (Le.intro [] rfl fc rfl fc rfl)
 ·have h:¬ ¬ nmF (r0 x * r0 x) = nmF x:=h
  have h2:r0 x * r0 x = x:=nu (Classical.not_not.1 h)
  repeat refine sd ?_
  refine p9 x (r0 x) hs (by unfold pP;rw [if_pos h2]) _ _ (Le.intro [] rfl fc rfl fc rfl)
theorem aT0 (x:F):Sx.Fn Γ.P 145 [.ai (nmF x)] [] (fun v _=>(kz x/\v = .tup [.ai (nmF (dY x)),.tt]) \/ (¬ kz x/\v = .tup [.ai (replicate 16 0),.ff])):=by
 have hP:=aD5
 have hM:=aHZ
 have g1:=zc (aB - 1) (by decide)
 have hW:=aH5 x ((aB - 1) / 2) aTI
 have hS:=vr 1 (by omega)
 rw [aPX] at hS
 have lp:prD.length = 16:=rfl
 have l6:=aP (aB - 1)
 have l7:=aP ((aB - 1) / 2)
 have lx:=aC x
 have lw:=aC (pw x ((aB - 1) / 2))
 have l1:=aC 1
 have mid:=aB8 x
 generalize prD = prime at *
 generalize nmN (aB - 1) = B1 at *
 generalize nmN ((aB - 1) / 2) = B2 at *
 refine ci [4,9] (Γ:=Γ) (fn:=Tryz.f145) rfl rfl rfl rfl ?_
 repeat refine sd ?_
 refine Call.pure hP rfl fc ?_
 rintro _ rfl
 repeat (first|refine gi ?_|refine sd ?_)
 refine Call.pure hM rfl fc ?_
 rintro _ rfl
 repeat (first|refine gi ?_|refine sd ?_)
 by_cases hx:nmF x = replicate 16 0
 ·have hs:kz x:=Or.inl (nu (by rw [hx,mj]))
  have hx:¬ ¬ nmF x = replicate 16 0:=fun h=>h hx
  refine aI.intro [[],[],[0,1],[0,1,2],r_4,r_4,[0,1,2,3,5],r_7,r_8,r_9,fi] fy (by kernel_rfl) ?_
  repeat (first|refine gi ?_|refine sd ?_|(refine zB.intro (fun hn=>absurd hn hx) (fun _=>?_)))
  refine mid hs _ _ (Le.intro [] rfl fc rfl fc rfl)
 ·have hx0:x ≠ 0:=fun e=>hx (by rw [e,mj])
  refine aI.intro [[],[],[0,1],[0,1,2],r_4,r_4,[0,1,2,3,5],r_7,r_8,r_9,fi] fy (by kernel_rfl) ?_
  repeat (first|refine gi ?_|refine sd ?_|(refine zB.intro (fun _=>?_) (fun hn=>absurd hx hn)))
  refine Call.pure g1 rfl fc ?_
  rintro _ rfl
  repeat (first|refine gi ?_|refine sd ?_|(refine zB.intro (fun _=>?_) (fun hn=>absurd hx hn)))
  refine Call.pure hW rfl fc ?_
  rintro _ rfl
  repeat (first|refine gi ?_|refine sd ?_|(refine zB.intro (fun _=>?_) (fun hn=>absurd hx hn)))
  refine Call.pure hS rfl fc ?_
  rintro _ rfl
  repeat (first|refine gi ?_|refine sd ?_|(refine zB.intro (fun _=>?_) (fun hn=>absurd hx hn)))
  refine zB.intro (fun h=>?_) (fun h=>?_)
  ·have h1:¬ nmF (pw x ((aB - 1) / 2)) = nmF 1:=by
    intro e
    rcases h with ⟨_,h⟩ | ⟨_,h⟩
    ·exact h e
    ·exact h
   have hs:¬ kz x:=by
    rintro (h2 | h2)
    ·exact hx0 h2
    ·exact h1 (by rw [h2])
   repeat refine sd ?_
   refine Ret.intro (.tup [.ai (replicate 16 0),.ff]) [] [] rfl fc (Or.inr ⟨hs,rfl⟩) rfl fc rfl fc rfl
  ·have h1:nmF (pw x ((aB - 1) / 2)) = nmF 1:=by
    apply Classical.byContradiction
    intro e
    exact h (by first | exact e | exact Or.inl ⟨hx,e⟩)
   refine mid (Or.inr (nu h1)) _ _ (Le.intro [] rfl fc rfl fc rfl)
end Go.Proofs.YtimbdhpchlakfaaGreat
namespace Go.Proofs.YtimbdhpchlakfaaGreat
open Go Go.Sx Go.Cu
structure RP where
 x:F
 y:F
 z:F
def RP.V (p:RP):SV:=.agg [(16,.ai (nmF p.x)),(16,.ai (nmF p.y)),(16,.ai (nmF p.z))]
def RR (p:RP) (P:Pt):Prop:=Rep p.x p.y p.z P
theorem aTN:fn 0 = 0:=by decide +kernel
theorem aOG:RR ⟨0,1,1⟩ .O:=aOH
theorem aQE:Sx.Fn Γ.P 144 [] [] (fun v _=>v = RP.V ⟨0,1,1⟩):=by
 have c0:=vr 0 (by omega)
 have c1:=vr 1 (by omega)
 rw [aTN] at c0
 rw [aPX] at c1
 have l0:=aC 0
 have l1:=aC 1
 unfold RP.V
 simp only
 generalize nmF 0 = Z at *
 generalize nmF 1 = W at *
 refine aF (Γ:=Γ) (fn:=Tryz.f144) rfl rfl rfl rfl ?_
 repeat refine sd ?_
 refine Call.pure c0 rfl fc ?_
 rintro _ rfl
 repeat (first|refine gi ?_|refine gt ?_|refine ga ?_|refine sd ?_)
 refine Call.pure c1 rfl fc ?_
 rintro _ rfl
 repeat (first|refine gi ?_|refine gt ?_|refine ga ?_|refine sd ?_)
 refine Call.pure c1 rfl fc ?_
 rintro _ rfl
 repeat (first|refine gi ?_|refine gt ?_|refine ga ?_|refine sd ?_)
 refine Ret.intro (.agg [(16,.ai Z),(16,.ai W),(16,.ai W)]) [] [] rfl fc rfl rfl fc rfl fc rfl
theorem aQL:0 - fn 121665 * inv (fn 121666) = dF:=by
 have h:=aVN
 have e1:fn 121665 = 121665:=by decide +kernel
 have e2:fn 121666 = 121666:=by decide +kernel
 have hi:=g8 aVU
 rw [e1,e2]
 grind -lia -linarith (splits:=0)
theorem aQD:Sx.Fn Γ.P 146 [] [] (fun v _=>v = .ai (nmF dF)):=by
 have c0:=vr 121665 (by omega)
 have c1:=vr 121666 (by omega)
 have hf:=aQL
 generalize fn 121665 = a at *
 generalize fn 121666 = b at *
 have c2:=aP8 b
 generalize inv b = i at *
 have c3:=gd a i
 generalize a * i = m at *
 have c4:=aH3 m
 rw [hf] at c4
 clear hf
 generalize dF = d at *
 have hl:=aC
 have la:=hl a
 have lb:=hl b
 have li:=hl i
 have lm:=hl m
 have ld:=hl d
 refine aF (Γ:=Γ) (fn:=Tryz.f146) rfl rfl rfl rfl ?_
 repeat refine sd ?_
 refine Call.pure c0 rfl fc ?_
 rintro _ rfl
 repeat (first|refine gi ?_|refine gt ?_|refine ga ?_|refine sd ?_)
 refine Call.pure c1 rfl fc ?_
 rintro _ rfl
 repeat (first|refine gi ?_|refine gt ?_|refine ga ?_|refine sd ?_)
 refine Call.pure c2 rfl fc ?_
 rintro _ rfl
 repeat (first|refine gi ?_|refine gt ?_|refine ga ?_|refine sd ?_)
 refine Call.pure c3 rfl fc ?_
 rintro _ rfl
 repeat (first|refine gi ?_|refine gt ?_|refine ga ?_|refine sd ?_)
 refine Call.pure c4 rfl fc ?_
 rintro _ rfl
 repeat (first|refine gi ?_|refine gt ?_|refine ga ?_|refine sd ?_)
 refine Ret.intro (.ai (nmF d)) [] [] rfl fc rfl rfl fc rfl fc rfl
theorem aTZ (p q:RP) (P Q:Pt) (hp:RR p P) (hq:RR q Q):Sx.Fn Γ.P 148 [p.V,q.V,.ai (nmF dF)] [] (fun v _=>∃ o:RP,RR o (P.add Q)/\v = o.V):=by
 obtain ⟨x1,y1,z1⟩:=p
 obtain ⟨x2,y2,z2⟩:=q
 have hR:=fun z zz xv yw xw e more less h1 h2 h3 h4 h5 h6 h7 h8=>@aK4 x1 y1 z1 x2 y2 z2 P Q hp hq z zz xv yw xw e more less h1 h2 h3 h4 h5 h6 h7 h8
 unfold RP.V
 simp only
 generalize dF = d at *
 have c1:=gd z1 z2
 obtain ⟨z,hz⟩:∃ u,u = z1 * z2:=⟨_,rfl⟩
 rw [<- hz] at c1
 have c2:=gd z z
 obtain ⟨zz,hzz⟩:∃ u,u = z * z:=⟨_,rfl⟩
 rw [<- hzz] at c2
 have c3:=gd x1 x2
 obtain ⟨xv,hxv⟩:∃ u,u = x1 * x2:=⟨_,rfl⟩
 rw [<- hxv] at c3
 have c4:=gd y1 y2
 obtain ⟨yw,hyw⟩:∃ u,u = y1 * y2:=⟨_,rfl⟩
 rw [<- hyw] at c4
 have c5:=gd x1 y2
 obtain ⟨t1,ht1⟩:∃ u,u = x1 * y2:=⟨_,rfl⟩
 rw [<- ht1] at c5
 have c6:=gd y1 x2
 obtain ⟨t2,ht2⟩:∃ u,u = y1 * x2:=⟨_,rfl⟩
 rw [<- ht2] at c6
 have c7:=vt t1 t2
 obtain ⟨xw,hxw⟩:∃ u,u = t1 + t2:=⟨_,rfl⟩
 rw [<- hxw] at c7
 have c8:=gd xv yw
 obtain ⟨t3,ht3⟩:∃ u,u = xv * yw:=⟨_,rfl⟩
 rw [<- ht3] at c8
 have c9:=gd d t3
 obtain ⟨e,he⟩:∃ u,u = d * t3:=⟨_,rfl⟩
 rw [<- he] at c9
 have d1:=vt zz e
 obtain ⟨more,hmore⟩:∃ u,u = zz + e:=⟨_,rfl⟩
 rw [<- hmore] at d1
 have d2:=aD6 zz e
 obtain ⟨less,hless⟩:∃ u,u = zz - e:=⟨_,rfl⟩
 rw [<- hless] at d2
 have d3:=gd z less
 obtain ⟨t4,ht4⟩:∃ u,u = z * less:=⟨_,rfl⟩
 rw [<- ht4] at d3
 have d4:=gd t4 xw
 obtain ⟨X,hX⟩:∃ u,u = t4 * xw:=⟨_,rfl⟩
 rw [<- hX] at d4
 have d5:=gd z more
 obtain ⟨t5,ht5⟩:∃ u,u = z * more:=⟨_,rfl⟩
 rw [<- ht5] at d5
 have d6:=vt yw xv
 obtain ⟨t6,ht6⟩:∃ u,u = yw + xv:=⟨_,rfl⟩
 rw [<- ht6] at d6
 have d7:=gd t5 t6
 obtain ⟨Y,hY⟩:∃ u,u = t5 * t6:=⟨_,rfl⟩
 rw [<- hY] at d7
 have d8:=gd more less
 obtain ⟨Z,hZ⟩:∃ u,u = more * less:=⟨_,rfl⟩
 rw [<- hZ] at d8
 have hR:=hR z zz xv yw xw e more less hz hzz hxv hyw (by rw [hxw,ht1,ht2]) (by rw [he,ht3]) hmore hless
 rw [<- ht4,<- hX,<- ht5,<- ht6,<- hY,<- hZ] at hR
 clear hz hzz hxv hyw ht1 ht2 hxw ht3 he hmore hless ht4 hX ht5 ht6 hY hZ hp hq
 have hl:=aC
 refine aF (Γ:=Γ) (fn:=Tryz.f148) rfl rfl rfl rfl ?_
 repeat refine sd ?_
 refine Call.pure c1 rfl fc ?_
 rintro _ rfl
 repeat (first|refine gi ?_|refine gt ?_|refine ga ?_|refine sd ?_)
 refine Call.pure c2 rfl fc ?_
 rintro _ rfl
 repeat (first|refine gi ?_|refine gt ?_|refine ga ?_|refine sd ?_)
 refine Call.pure c3 rfl fc ?_
 rintro _ rfl
 repeat (first|refine gi ?_|refine gt ?_|refine ga ?_|refine sd ?_)
 refine Call.pure c4 rfl fc ?_
 rintro _ rfl
 repeat (first|refine gi ?_|refine gt ?_|refine ga ?_|refine sd ?_)
 refine aI.intro [[],[0],[],[2],r_4,[],[5],[],[7],r_9,fi,[],mR] [0,1,2,3,5,6,7,8,11,4,9,10,12] (by kernel_rfl) ?_
 repeat (first|refine gi ?_|refine gt ?_|refine ga ?_|refine sd ?_)
 refine Call.pure c5 rfl fc ?_
 rintro _ rfl
 repeat (first|refine gi ?_|refine gt ?_|refine ga ?_|refine sd ?_)
 refine Call.pure c6 rfl fc ?_
 rintro _ rfl
 repeat (first|refine gi ?_|refine gt ?_|refine ga ?_|refine sd ?_)
 refine Call.pure c7 rfl fc ?_
 rintro _ rfl
 repeat (first|refine gi ?_|refine gt ?_|refine ga ?_|refine sd ?_)
 refine aI.intro [[],[],[],[1,2],r_4,[],r_6] [0,1,2,5,3,4,6] (by kernel_rfl) ?_
 repeat (first|refine gi ?_|refine gt ?_|refine ga ?_|refine sd ?_)
 refine Call.pure c8 rfl fc ?_
 rintro _ rfl
 repeat (first|refine gi ?_|refine gt ?_|refine ga ?_|refine sd ?_)
 refine Call.pure c9 rfl fc ?_
 rintro _ rfl
 repeat (first|refine gi ?_|refine gt ?_|refine ga ?_|refine sd ?_)
 refine aI.intro [[],[],[0,1],[],[],r_5,[],[],r_8,r_9] [0,1,3,4,6,7,2,5,8,9] (by kernel_rfl) ?_
 repeat (first|refine gi ?_|refine gt ?_|refine ga ?_|refine sd ?_)
 refine Call.pure d1 rfl fc ?_
 rintro _ rfl
 repeat (first|refine gi ?_|refine gt ?_|refine ga ?_|refine sd ?_)
 refine Call.pure d2 rfl fc ?_
 rintro _ rfl
 repeat (first|refine gi ?_|refine gt ?_|refine ga ?_|refine sd ?_)
 refine aI.intro [[],[],[0,1],[],r_4,[],[],r_7,[],[],fi,fy,[],[],sj,uM,rM] [0,1,3,5,6,8,9,12,13,2,4,7,10,11,14,15,16] (by kernel_rfl) ?_
 repeat (first|refine gi ?_|refine gt ?_|refine ga ?_|refine sd ?_)
 refine Call.pure d3 rfl fc ?_
 rintro _ rfl
 repeat (first|refine gi ?_|refine gt ?_|refine ga ?_|refine sd ?_)
 refine Call.pure d4 rfl fc ?_
 rintro _ rfl
 repeat (first|refine gi ?_|refine gt ?_|refine ga ?_|refine sd ?_)
 refine Call.pure d5 rfl fc ?_
 rintro _ rfl
 repeat (first|refine gi ?_|refine gt ?_|refine ga ?_|refine sd ?_)
 refine Call.pure d6 rfl fc ?_
 rintro _ rfl
 repeat (first|refine gi ?_|refine gt ?_|refine ga ?_|refine sd ?_)
 refine Call.pure d7 rfl fc ?_
 rintro _ rfl
 repeat (first|refine gi ?_|refine gt ?_|refine ga ?_|refine sd ?_)
 refine Call.pure d8 rfl fc ?_
 rintro _ rfl
 repeat (first|refine gi ?_|refine gt ?_|refine ga ?_|refine sd ?_)
 refine Ret.intro (.agg [(16,.ai (nmF X)),(16,.ai (nmF Y)),(16,.ai (nmF Z))]) [] [] rfl fc ⟨⟨X,Y,Z⟩,hR,rfl⟩ rfl fc rfl fc rfl
end Go.Proofs.YtimbdhpchlakfaaGreat
namespace Go.Proofs.YtimbdhpchlakfaaGreat
open Go Go.Sx Go.Cu
theorem aV2 (p:RP) (P:Pt) (hp:RR p P):Sx.Fn Γ.P 95 [p.V] [] (fun v _=>v = .a8 (rz P)):=by
 obtain ⟨x,y,z⟩:=p
 have c1:=aP8 z
 have hx:=aOF hp
 have hy:=aOE hp
 simp only at hx hy
 generalize inv z = i at *
 have c2:=gd x i
 have c3:=gd y i
 rw [hx] at c2
 rw [hy] at c3
 have c4:=aRT P.y
 have hE:rz P = if P.x.val % 2 = 1 then (leB P.y).set 31 ((leB P.y).getD 31 0 + ofNat 128) else leB P.y:=rfl
 have lE:=ol P
 have lB:=aZ P.y
 have hpar:=aJG P.x
 have dg:=gJ P.x 0
 have hl:=aC
 have lx:=hl P.x
 unfold RP.V
 simp only
 generalize nmF P.x = A at *
 generalize leB P.y = B at *
 refine aF (Γ:=Γ) (fn:=Tryz.f95) rfl rfl rfl rfl ?_
 repeat refine sd ?_
 refine Call.pure c1 rfl fc ?_
 rintro _ rfl
 repeat (first|refine gi ?_|refine gt ?_|refine ga ?_|refine sd ?_)
 refine Call.pure c2 rfl fc ?_
 rintro _ rfl
 repeat (first|refine gi ?_|refine gt ?_|refine ga ?_|refine sd ?_)
 refine Call.pure c3 rfl fc ?_
 rintro _ rfl
 repeat (first|refine gi ?_|refine gt ?_|refine ga ?_|refine sd ?_)
 refine Call.pure c4 rfl fc ?_
 rintro _ rfl
 repeat (first|refine gi ?_|refine gt ?_|refine ga ?_|refine sd ?_)
 refine zB.intro (fun h=>?_) (fun h=>?_)
 ·have h:A.getD 0 0 % 2 = 1:=h
  rw [if_pos (hpar.1 h)] at hE
  rw [hE]
  repeat refine sd ?_
  refine Ret.intro (.a8 (B.set 31 (B.getD 31 0 + ofNat 128))) [] [] rfl fc rfl rfl fc rfl fc rfl
 ·have h:¬ A.getD 0 0 % 2 = 1:=h
  rw [if_neg (fun e=>h (hpar.2 e))] at hE
  rw [hE]
  repeat refine sd ?_
  refine Ret.intro (.a8 B) [] [] rfl fc rfl rfl fc rfl fc rfl
theorem aV4 (n:List UInt8) (hn:n.length = 32) (p:RP) (P:Pt) (hp:RR p P):Sx.Fn Γ.P 93 [.a8 n,p.V] [] (fun v _=>∃ o:RP,RR o (P.mul (lv n))/\v = o.V):=by
  have cF:=aQD
  have cZ:=aQE
  have cS:=fun p q P Q hp hq=>aTZ p q P Q hp hq
  have hO:=aOG
  have hlt:=aG9 n
  rw [hn] at hlt
  have ld:=aC dF
  have hl:=aC
  have hend:lv n % 2 ^ 256 = lv n:=Nat.mod_eq_of_lt hlt
  unfold RP.V at *
  generalize nmF dF = d at *
  generalize (⟨0,1,1⟩:RP) = zo at *
  refine ci [1000008] (Γ:=Γ) (fn:=Tryz.f93) rfl rfl rfl rfl ?_
  repeat refine sd ?_
  refine Call.pure cF rfl ?_ ?_
  · exact fc
  rintro _ rfl
  repeat (first|refine gi ?_|refine gt ?_|refine ga ?_|refine sd ?_)
  refine Call.pure cZ rfl ?_ ?_
  · exact fc
  rintro _ rfl
  repeat (first|refine gi ?_|refine gt ?_|refine ga ?_|refine sd ?_)
  refine ac.intro (σ:=Nat × RP × RP) (fun s=>s.1 <= 256/\RR s.2.1 (P.mul (lv n % 2 ^ s.1))/\RR s.2.2 (P.mul (2 ^ s.1)))
    (fun s=>([(2,.ptr 2 0 none),(3,.ptr 3 0 none),(4,.ptr 4 0 none),(5,.ptr 5 0 none),(6,.ptr 6 0 none),(7,.i .i64 s.1)],
      [(2,.mem true 0 [(32,.a8 n)]),(3,.mem true 0 [(16,.ai (nmF s.2.2.x)),(16,.ai (nmF s.2.2.y)),(16,.ai (nmF s.2.2.z))]),(4,.mem true 0 [(16,.ai (replicate 16 0)),(16,.ai (replicate 16 0)),(16,.ai (replicate 16 0))]),
       (5,.mem true 0 [(16,.ai d)]),(6,.mem true 0 [(16,.ai (nmF s.2.1.x)),(16,.ai (nmF s.2.1.y)),(16,.ai (nmF s.2.1.z))])])) (fun s=>256 - s.1) (0,zo,p)
    ⟨Nat.zero_le _,by show RR zo (P.mul (lv n % 1));rw [Nat.mod_one];exact hO,by show RR p (P.mul 1);rw [Pt.mul_one];exact hp⟩ ?_ ?_
  · refine Le.intro [] rfl ?_ rfl ?_ rfl
    · exact fc
    · exact fc
  clear hp hO
  rintro ⟨i,o,p⟩ ⟨h1,h2,h3⟩
  have h1:i <= 256:=h1
  have h2:RR o (P.mul (lv n % 2 ^ i)):=h2
  have h3:RR p (P.mul (2 ^ i)):=h3
  refine zB.intro (fun hc=>?_) (fun hc=>?_)
  · have hc:(i:Int) < 256:=hc
    have e0:((i:Int) / 8).toNat = i / 8:=by omega
    have e1:(ofInt ((i:Int) % 8)).toNat = i % 8:=by
      rw [show ((i:Int) % 8) = ((i % 8:Nat):Int) by omega];exact vE _ (by omega)
    have hbit:fq n i = gg (n.getD (i / 8) 0) (i % 8) &&& ofNat 1:=rfl
    have hbv:=il n i
    have hlow:=Pt.mul_low P (lv n) i
    have cA:=cS o p _ _ h2 h3
    have cB:=cS p p _ _ h3 h3
    have hd2:(P.mul (2 ^ i)).add (P.mul (2 ^ i)) = P.mul (2 ^ (i + 1)):=by rw [Pt.mul_dbl,Nat.pow_succ']
    rw [hd2] at cB
    repeat refine sd ?_
    refine aF2.intro (σ:=RP) (fun o=>RR o (P.mul (lv n % 2 ^ (i + 1)))) (fun o=>([(2,.ptr 2 0 none),(3,.ptr 3 0 none),(4,.ptr 4 0 none),(5,.ptr 5 0 none),(6,.ptr 6 0 none),(7,.i .i64 i)],
      [(2,.mem true 0 [(32,.a8 n)]),(3,.mem true 0 [(16,.ai (nmF p.x)),(16,.ai (nmF p.y)),(16,.ai (nmF p.z))]),(4,.mem true 0 [(16,.ai (replicate 16 0)),(16,.ai (replicate 16 0)),(16,.ai (replicate 16 0))]),
       (5,.mem true 0 [(16,.ai d)]),(6,.mem true 0 [(16,.ai (nmF o.x)),(16,.ai (nmF o.y)),(16,.ai (nmF o.z))])])) ?_ ?_
    · repeat refine sdI ?_
      refine zB.intro (fun hb=>?_) (fun hb=>?_)
      · have hb:gg (n.getD ((i:Int) / 8).toNat 0) (ofInt ((i:Int) % 8)).toNat &&& ofNat 1 = ofNat 1:=hb
        rw [e0,e1,<- hbit] at hb
        rw [hb] at hbv
        have hb1:lv n / 2 ^ i % 2 = 1:=hbv.symm
        rw [if_pos hb1] at hlow
        rw [<- hlow] at cA
        repeat refine sd ?_
        refine Call.pure cA rfl ?_ ?_
        · exact fc
        rintro v ⟨w,hw,rfl⟩
        repeat refine sd ?_
        refine ⟨w,hw,Le.intro [] rfl ?_ rfl ?_ rfl⟩
        · exact fc
        · exact fc
      · have hb:¬ gg (n.getD ((i:Int) / 8).toNat 0) (ofInt ((i:Int) % 8)).toNat &&& ofNat 1 = ofNat 1:=hb
        rw [e0,e1,<- hbit] at hb
        have hb1:¬ lv n / 2 ^ i % 2 = 1:=fun e=>hb (UInt8.toNat_inj.1 (hbv.trans e))
        rw [if_neg hb1] at hlow
        rw [<- hlow] at h2
        repeat refine sd ?_
        refine ⟨o,h2,Le.intro [] rfl ?_ rfl ?_ rfl⟩
        · exact fc
        · exact fc
    clear h2 hlow cA
    rintro w hw
    repeat refine sd ?_
    refine Call.pure cB rfl ?_ ?_
    · exact fc
    rintro v ⟨u,hu,rfl⟩
    repeat refine sd ?_
    refine ⟨(i + 1,w,u),⟨by show i + 1 <= 256;omega,hw,hu⟩,by show 256 - (i + 1) < 256 - i;omega,Le.intro [] rfl ?_ rfl ?_ rfl⟩
    · exact fc
    · exact fc
  obtain rfl:i = 256:=by have hc:¬ (i:Int) < 256:=hc;omega
  have h2:RR o (P.mul (lv n)):=by rw [<- hend];exact h2
  repeat refine sd ?_
  refine Ret.intro (.agg [(16,.ai (nmF o.x)),(16,.ai (nmF o.y)),(16,.ai (nmF o.z))]) [] [] rfl ?_ ⟨o,h2,rfl⟩ rfl ?_ rfl ?_ rfl
  · exact fc
  · exact fc
  · exact fc
end Go.Proofs.YtimbdhpchlakfaaGreat
namespace Go.Proofs.YtimbdhpchlakfaaGreat
open Go Go.Sx Go.Cu
theorem aPA (x:UInt8):x % ofNat 128 = x &&& ofNat 127:=by
 have h:∀ z:Fin 256,ofNat z.val % ofNat 128 = ofNat z.val &&& ofNat 127:=by decide +kernel
 have h2:=h ⟨x.toNat,x.toNat_lt⟩
 rw [UInt8.ofNat_toNat] at h2;exact h2
def rdQ (b:List UInt8) (v:SV):Prop:=(okD b/\∃ o:RP,RR o (yB b)/\v = .tup [o.V,.tt]) \/ (¬ okD b/\v = .tup [RP.V ⟨0,1,1⟩,.ff])
theorem aKA {b:List UInt8} (h:okD b) {x y:F} (vx:x = aEW b) (vy:y = lk b):RR ⟨x,y,1⟩ (yB b):=
 ⟨xE,by show x = _ * 1;rw [vx,yA h];grind -lia -linarith (splits:=0),by show y = _ * 1;rw [vy,x9 h];grind -lia -linarith (splits:=0)⟩
theorem aCD (b:List UInt8) (y x:F) (od:Prop) (vy:y = lk b) (hr:x = dY (xxF (lk b))) (hsq:kz (xxF (lk b))) (heq:leB (ofF (jU b)) = jU b) (hu:od ↔ rx b)
  (hno:¬ (rx b/\dY (xxF (lk b)) = 0)) (T:Tm) (M:Mm)
  (hle:Le [] [(2,.ptr 2 0 none),(4,.bool od),(5,.ptr 5 0 none),(7,.ptr 7 0 none),(8,.ptr 8 0 none)]
   [(2,.mem true 0 [(16,.ai (replicate 16 0)),(16,.ai (replicate 16 0)),(16,.ai (replicate 16 0))]),(5,.mem true 0 [(16,.ai (nmF y))]),(7,.mem true 0 [(16,.ai (nmF 1))]),(8,.mem true 0 [(16,.ai (nmF x))])] T M) :
  aRC Γ [11] Tryz.f91 11 [] T M (fun v _=>rdQ b v):=by
 have ok:okD b:=⟨heq,hsq,hno⟩
 have cN:=aH3 x
 have r1:rx b->RR ⟨0 - x,y,1⟩ (yB b):=fun ho=>aKA ok (by rw [hr];unfold aEW;rw [if_pos ho];rfl) vy
 have r2:¬ rx b->RR ⟨x,y,1⟩ (yB b):=fun ho=>aKA ok (by rw [hr];unfold aEW;rw [if_neg ho];rfl) vy
 have hl:=aC
 have l1:=hl 1
 unfold rdQ RP.V
 generalize 0 - x = n at *
 generalize hone:nmF 1 = one at *
 refine Cut.intro (σ:=Unit) (fun _=>True) (fun _=>([(2,.ptr 2 0 none),(4,.bool od),(5,.ptr 5 0 none),(7,.ptr 7 0 none),(8,.ptr 8 0 none)],
   [(2,.mem true 0 [(16,.ai (replicate 16 0)),(16,.ai (replicate 16 0)),(16,.ai (replicate 16 0))]),(5,.mem true 0 [(16,.ai (nmF y))]),(7,.mem true 0 [(16,.ai one)]),(8,.mem true 0 [(16,.ai (nmF x))])])) () trivial hle ?_
 rintro - -
 repeat refine sd ?_
 refine zB.intro (fun h=>?_) (fun h=>?_)
 ·have h:od:=h
  have hR:=r1 (hu.1 h)
  repeat refine sd ?_
  refine Call.pure cN rfl fc ?_
  rintro _ rfl
  repeat (first|refine gi ?_|refine gt ?_|refine ga ?_|refine sd ?_)
  refine Ret.intro (.tup [.agg [(16,.ai (nmF n)),(16,.ai (nmF y)),(16,.ai one)],.tt]) [] [] rfl fc (Or.inl ⟨ok,⟨n,y,1⟩,hR,by simp only;rw [hone]⟩) rfl fc rfl fc rfl
 ·have h:¬ od:=h
  have hR:=r2 (fun e=>h (hu.2 e))
  repeat refine sd ?_
  refine Ret.intro (.tup [.agg [(16,.ai (nmF x)),(16,.ai (nmF y)),(16,.ai one)],.tt]) [] [] rfl fc (Or.inl ⟨ok,⟨x,y,1⟩,hR,by simp only;rw [hone]⟩) rfl fc rfl fc rfl
theorem aV5 (b:List UInt8) (hb:b.length = 32):Sx.Fn Γ.P 91 [.a8 b] [] (fun v _=>rdQ b v):=by
 have hL:jU b = b.set 31 (b.getD 31 0 % ofNat 128):=by rw [aPA];rfl
 have lL:=oA b
 rw [hb] at lL
 have hu:(ofNat 128).toNat <= (b.getD 31 0).toNat ↔ rx b:=Iff.rfl
 have hdef:okD b ↔ (leB (ofF (jU b)) = jU b/\kz (xxF (lk b))/\¬ (rx b/\dY (xxF (lk b)) = 0)):=Iff.rfl
 have tl:=aCD b
 have vY0:ofF (jU b) = lk b:=rfl
 have cOf:=aVA (jU b) lL
 rw [vY0] at hdef tl cOf
 have hxx:xxF (lk b) = (lk b * lk b - 1) * inv (dF * (lk b * lk b) + 1):=rfl
 generalize lk b = Y at *
 generalize jU b = L at *
 have cB:=aRT Y
 have lB:=aZ Y
 have c0:=vr 1 (by omega)
 rw [aPX] at c0
 have s0:=vr 0 (by omega)
 rw [aTN] at s0
 have cF:=aQD
 have cZ:=aQE
 have c1:=gd Y Y
 generalize Y * Y = yy at *
 have c2:=aD6 yy 1
 generalize yy - 1 = s at *
 have c3:=gd dF yy
 generalize dF * yy = m at *
 have c4:=vt m 1
 generalize m + 1 = q at *
 have c5:=aP8 q
 generalize inv q = i at *
 have c6:=gd s i
 rw [<- hxx] at c6
 have c7:=aT0 (xxF Y)
 clear hxx
 generalize xxF Y = X at *
 have hl:=aC
 have l1:=hl 1
 have l0:=hl 0
 have ld:=hl dF
 have hzero:∀ x:F,nmF x = nmF 0 ↔ x = 0:=fun x=>⟨nu,fun e=>by rw [e]⟩
 unfold rdQ RP.V at tl ⊢
 unfold RP.V at cZ
 generalize nmF dF = d at *
 generalize hone:nmF 1 = one at *
 generalize hz0:nmF 0 = z0 at *
 have h128:ofNat 128 ≠ 0:=by decide
 refine ci [11] (Γ:=Γ) (fn:=Tryz.f91) rfl rfl rfl rfl ?_
 repeat refine sd ?_
 refine Call.pure cOf rfl fc ?_
 rintro _ rfl
 repeat (first|refine gi ?_|refine gt ?_|refine ga ?_|refine sd ?_)
 refine aI.intro [[],[0],[],[0,1,2]] [0,2,1,3] (by kernel_rfl) ?_
 repeat (first|refine gi ?_|refine gt ?_|refine ga ?_|refine sd ?_)
 refine Call.pure cB rfl fc ?_
 rintro _ rfl
 repeat (first|refine gi ?_|refine gt ?_|refine ga ?_|refine sd ?_)
 refine zB.intro (fun h=>?_) (fun h=>?_)
 ·have h:¬ leB Y = L:=by rw [hL];exact h
  repeat refine sd ?_
  refine Call.pure cZ rfl fc ?_
  rintro _ rfl
  repeat (first|refine gi ?_|refine gt ?_|refine ga ?_|refine sd ?_)
  refine Ret.intro (.tup [.agg [(16,.ai z0),(16,.ai one),(16,.ai one)],.ff]) [] [] rfl fc (Or.inr ⟨(fun e=>h (hdef.1 e).1),rfl⟩) rfl fc rfl fc rfl
 have h:leB Y = L:=by rw [hL];exact Classical.not_not.1 h
 repeat refine sd ?_
 refine Call.pure c1 rfl fc ?_
 rintro _ rfl
 repeat (first|refine gi ?_|refine gt ?_|refine ga ?_|refine sd ?_)
 refine Call.pure c0 rfl fc ?_
 rintro _ rfl
 repeat (first|refine gi ?_|refine gt ?_|refine ga ?_|refine sd ?_)
 refine aI.intro [[],[],[0,1],[0,1,2],[],r_5,[],r_7,r_8,r_9,fi,fy,mR,mR,[],[0,1,2,3,4,5,6,7,8,9,10,11,12,14],rM] [0,1,4,6,14,2,3,5,7,8,9,10,11,12,13,15,16] (by kernel_rfl) ?_
 repeat (first|refine gi ?_|refine gt ?_|refine ga ?_|refine sd ?_)
 refine Call.pure c2 rfl fc ?_
 rintro _ rfl
 repeat (first|refine gi ?_|refine gt ?_|refine ga ?_|refine sd ?_)
 refine Call.pure cF rfl fc ?_
 rintro _ rfl
 repeat (first|refine gi ?_|refine gt ?_|refine ga ?_|refine sd ?_)
 refine Call.pure c3 rfl fc ?_
 rintro _ rfl
 repeat (first|refine gi ?_|refine gt ?_|refine ga ?_|refine sd ?_)
 refine Call.pure c4 rfl fc ?_
 rintro _ rfl
 repeat (first|refine gi ?_|refine gt ?_|refine ga ?_|refine sd ?_)
 refine Call.pure c5 rfl fc ?_
 rintro _ rfl
 repeat (first|refine gi ?_|refine gt ?_|refine ga ?_|refine sd ?_)
 refine Call.pure c6 rfl fc ?_
 rintro _ rfl
 repeat (first|refine gi ?_|refine gt ?_|refine ga ?_|refine sd ?_)
 refine Call.pure c7 rfl fc ?_
 rintro v (⟨hsq,rfl⟩ | ⟨hsq,rfl⟩)
 ·obtain ⟨R,hroot⟩:∃ R,dY X = R:=⟨_,rfl⟩
  rw [hroot]
  repeat (first|refine gi ?_|refine gt ?_|refine ga ?_|refine sd ?_)
  by_cases ho:(ofNat 128).toNat <= (b.getD 31 0).toNat
  ·refine aI.intro [[],[0],[0,1],[0,1,2],r_4,r_5,r_5,r_7,r_8,r_9] fi (by kernel_rfl) ?_
   repeat (first|refine gi ?_|refine gt ?_|refine ga ?_|refine sd ?_|(refine zB.intro (fun hn=>absurd hn ho) (fun _=>?_)) | (refine zB.intro (fun _=>?_) (fun hn=>absurd ho hn)))
   refine Call.pure s0 rfl fc ?_
   rintro _ rfl
   repeat (first|refine gi ?_|refine gt ?_|refine ga ?_|refine sd ?_|(refine zB.intro (fun hn=>absurd hn ho) (fun _=>?_)) | (refine zB.intro (fun _=>?_) (fun hn=>absurd ho hn)))
   refine zB.intro (fun hz=>?_) (fun hz=>?_)
   ·have hz0':R = 0:=by
     rcases hz with ⟨_,hz⟩ | ⟨_,hz⟩
     ·exact (hzero R).1 hz
     ·exact hz.elim
    repeat refine sd ?_
    refine Call.pure cZ rfl fc ?_
    rintro _ rfl
    repeat (first|refine gi ?_|refine gt ?_|refine ga ?_|refine sd ?_)
    refine Ret.intro (.tup [.agg [(16,.ai z0),(16,.ai one),(16,.ai one)],.ff]) [] [] rfl fc (Or.inr ⟨(fun e=>(hdef.1 e).2.2 ⟨hu.1 ho,hroot.trans hz0'⟩),rfl⟩) rfl fc rfl fc rfl
   ·have hz:¬ R = 0:=fun e=>hz (Or.inl ⟨ho,(hzero R).2 e⟩)
    refine tl Y R ((ofNat 128).toNat <= (b.getD 31 0).toNat) rfl hroot.symm hsq h hu (fun e=>hz (hroot.symm.trans e.2)) _ _ (Le.intro [] rfl fc rfl fc rfl)
  ·refine aI.intro [[],[0],[0,1],[0,1,2],r_4,r_5,r_5,r_7,r_8,r_9] fi (by kernel_rfl) ?_
   repeat (first|refine gi ?_|refine gt ?_|refine ga ?_|refine sd ?_|(refine zB.intro (fun hn=>absurd hn ho) (fun _=>?_)) | (refine zB.intro (fun _=>?_) (fun hn=>absurd ho hn)))
   refine tl Y R ((ofNat 128).toNat <= (b.getD 31 0).toNat) rfl hroot.symm hsq h hu (fun e=>ho (hu.2 e.1)) _ _ (Le.intro [] rfl fc rfl fc rfl)
 ·repeat (first|refine gi ?_|refine gt ?_|refine ga ?_|refine sd ?_)
  refine aI.intro [[],[0],[0,1],[0,1,2],r_4,r_5,r_5,r_7,r_8,r_9] fi (by kernel_rfl) ?_
  repeat (first|refine gi ?_|refine gt ?_|refine ga ?_|refine sd ?_)
  refine Call.pure cZ rfl fc ?_
  rintro _ rfl
  repeat (first|refine gi ?_|refine gt ?_|refine ga ?_|refine sd ?_)
  refine Ret.intro (.tup [.agg [(16,.ai z0),(16,.ai one),(16,.ai one)],.ff]) [] [] rfl fc (Or.inr ⟨(fun e=>hsq (hdef.1 e).2.1),rfl⟩) rfl fc rfl fc rfl
theorem aM7:leB (fn 4 * inv (fn 5)) = basB:=by
 have h5:fn 5 * inv (fn 5) = 1:=g8 (by decide +kernel)
 have hb:fn 5 * aUQ = fn 4:=by decide +kernel
 have e:fn 4 * inv (fn 5) = aUQ:=by
  rw [<- hb];grind -lia -linarith (splits:=0)
 rw [e]
 have h:=wS
 have hx:¬ basP.x.val % 2 = 1:=by decide +kernel
 unfold rz at h
 rw [if_neg hx] at h
 exact h
theorem aV3:Sx.Fn Γ.P 94 [] [] (fun v _=>∃ o:RP,RR o basP/\v = o.V):=by
 have c4:=vr 4 (by omega)
 have c5:=vr 5 (by omega)
 have hb:=aM7
 generalize fn 4 = f4 at *
 generalize fn 5 = f5 at *
 have cI:=aP8 f5
 generalize inv f5 = i at *
 have cM:=gd f4 i
 generalize f4 * i = m at *
 have cB:=aRT m
 rw [hb] at cB
 have cD:=aV5 basB rfl
 have hok:=aKG
 unfold rdQ at cD
 rw [aFE] at cD
 have hl:=aC
 have lB:basB.length = 32:=rfl
 generalize basB = B at *
 unfold RP.V at *
 refine aF (Γ:=Γ) (fn:=Tryz.f94) rfl rfl rfl rfl ?_
 repeat refine sd ?_
 refine Call.pure c4 rfl fc ?_
 rintro _ rfl
 repeat (first|refine gi ?_|refine gt ?_|refine ga ?_|refine sd ?_)
 refine Call.pure c5 rfl fc ?_
 rintro _ rfl
 repeat (first|refine gi ?_|refine gt ?_|refine ga ?_|refine sd ?_)
 refine Call.pure cI rfl fc ?_
 rintro _ rfl
 repeat (first|refine gi ?_|refine gt ?_|refine ga ?_|refine sd ?_)
 refine Call.pure cM rfl fc ?_
 rintro _ rfl
 repeat (first|refine gi ?_|refine gt ?_|refine ga ?_|refine sd ?_)
 refine Call.pure cB rfl fc ?_
 rintro _ rfl
 repeat (first|refine gi ?_|refine gt ?_|refine ga ?_|refine sd ?_)
 refine Call.pure cD rfl fc ?_
 rintro v (⟨_,o,ho,rfl⟩ | ⟨hno,rfl⟩)
 ·repeat (first|refine gi ?_|refine gt ?_|refine ga ?_|refine sd ?_)
  refine Ret.intro (.agg [(16,.ai (nmF o.x)),(16,.ai (nmF o.y)),(16,.ai (nmF o.z))]) [] [] rfl fc ⟨o,ho,rfl⟩ rfl fc rfl fc rfl
 ·exact absurd hok hno
end Go.Proofs.YtimbdhpchlakfaaGreat
namespace Go.Proofs.YtimbdhpchlakfaaGreat
open Go Go.Sx Go.Cu
theorem aWZ (x:UInt8):x / ofNat 8 * ofNat 8 = x &&& ofNat 248:=by
 have h:∀ z:Fin 256,ofNat z.val / ofNat 8 * ofNat 8 = ofNat z.val &&& ofNat 248:=by decide +kernel
 have h2:=h ⟨x.toNat,x.toNat_lt⟩
 rw [UInt8.ofNat_toNat] at h2;exact h2
theorem aS7 (x:UInt8):x % ofNat 64 + ofNat 64 = x &&& ofNat 127 ||| ofNat 64:=by
 have h:∀ z:Fin 256,ofNat z.val % ofNat 64 + ofNat 64 = ofNat z.val &&& ofNat 127 ||| ofNat 64:=by decide +kernel
 have h2:=h ⟨x.toNat,x.toNat_lt⟩
 rw [UInt8.ofNat_toNat] at h2;exact h2
theorem aE0 (b:List UInt8):clB b = (b.set 0 (b.getD 0 0 / ofNat 8 * ofNat 8)).set 31 ((b.set 0 (b.getD 0 0 / ofNat 8 * ofNat 8)).getD 31 0 % ofNat 64 + ofNat 64):=by
 rw [aWZ,aS7];rfl
theorem aWE (s:List UInt8) (hs:s.length = 32):Sx.Fn Γ.P 64 [.a8 s] []
  (fun v _=>v = .tup [.a8 (nuB s),.isl 0 32 1 [(32,.a8 (pfB s))]]):=by
 have cH:=aT5 s 32 hs (by omega)
 rw [aL1] at cH
 have lH:=gD s
 have hN:=aCU s
 rw [aE0] at hN
 have lN:=fk s
 have hP:pfB s = (cG s).drop 32:=rfl
 generalize pfB s = P at *
 generalize nuB s = N at *
 generalize cG s = H at *
 have h8:ofNat 8 ≠ 0:=by decide
 have h64:ofNat 64 ≠ 0:=by decide
 have lT:(H.take 32).length = 32:=by rw [zlT,lH];rfl
 have lP:P.length = 32:=by rw [hP,zlD,lH]
 refine ci [4,7] (Γ:=Γ) (fn:=Tryz.f64) rfl rfl rfl rfl ?_
 repeat refine sd ?_
 refine Call.intro cH [(1000,(1,0,none))] rfl fc rfl fc rfl ?_
 rintro _ _ ⟨rfl,rfl⟩
 dsimp only [zt,zM,zE,ren,zz,zx,zy,aS,zG,zX,ev,evL,zV,zcT,zcF,act,zP,zO,Ent.zW]
 repeat refine sd ?_
 refine aI.intro [[],[],[0,1]] [0,1,2] (by kernel_rfl) ?_
 repeat (first|refine gi ?_|refine gt ?_|refine ga ?_|refine sd ?_)
 refine Cut.intro (σ:=Unit) (fun _=>True) (fun _=>([(2,.ptr 2 0 none),(3,.nsl),(4,.ptr 4 0 none),(5,.ptr 5 0 none)],
  [(2,.mem true 0 [(32,.a8 (replicate 32 0))]),(4,.mem true 0 [(64,.a8 H)]),(5,.mem true 0 [(32,.a8 (H.take 32))])])) () trivial (Le.intro [] rfl ?_ rfl ?_ rfl) ?_
 ·exact fc
 ·repeat' first|exact trivial|refine zA.app ?_ ?_|refine zA.zd ?_ ?_|refine zA.cons ?_ ?_|exact fc|fail
  all_goals (first | (rw [Option.getD_none,List.drop_zero,zlT,lH];show _ = [] ++ take 32 (take 32 H) ++ drop 32 (replicate 32 0);rw [List.take_take];simp;done) | trace_state)
 rintro - -
 have eP:take 32 (drop 32 H) = P:=by rw [<- hP];exact List.take_of_length_le (by omega)
 generalize H.take 32 = N0 at *
 repeat refine sd ?_
 refine Cut.intro (σ:=Unit) (fun _=>True) (fun _=>([(2,.ptr 2 0 none),(4,.ptr 4 0 none),(5,.ptr 5 0 none),(6,.sl 450 0 0 0 0)],
  [(2,.mem true 0 [(32,.a8 (replicate 32 0))]),(4,.mem true 0 [(64,.a8 H)]),(5,.mem true 0 [(32,.a8 N)]),(450,.mem true 0 [(0,.a8 [])])])) () trivial
  (Le.ghost [.own 450 [(0,.a8 [])]] [(6,450)] [] rfl ⟨rfl,rfl,trivial⟩ rfl rfl fc rfl fc rfl) ?_
 rintro - -
 refine aI.intro [[],[],[],[1,2],r_4,r_5] r_6 (by kernel_rfl) ?_
 repeat (first|refine gi ?_|refine gt ?_|refine ga ?_|refine sd ?_)
 refine fun c hc=>?_
 have hc:32 <= c:=hc
 repeat (first|refine gi ?_|refine gt ?_|refine ga ?_|refine sd ?_)
 refine Ret.ghost [.keep 25] [(3,0)] rfl ?_ rfl (.tup [.a8 N,.isl 0 32 1 [(32,.a8 P)]]) [] [] rfl ?_ rfl rfl ?_ rfl ?_ rfl
 ·exact fc
 ·exact fc
 ·repeat' first|exact trivial|refine zA.app ?_ ?_|refine zA.zd ?_ ?_|refine zA.cons ?_ ?_|exact fc|fail
  all_goals (rw [bv];show P = take 32 (drop 32 H);exact eP.symm)
 ·exact fc
theorem aWD (n:List UInt8) (hn:n.length = 32):Sx.Fn Γ.P 65 [.a8 n] [] (fun v _=>v = .a8 (aIA n)):=by
 have cB:=aV3
 have cM:=fun o ho=>aV4 n hn o basP ho
 have cE:=fun p hp=>aV2 p (vG n) hp
 rw [<- xF] at cM
 rw [<- vw] at cE
 have lE:=om n
 generalize aIA n = E at *
 have hl:=aC
 unfold RP.V at *
 refine aF (Γ:=Γ) (fn:=Tryz.f65) rfl rfl rfl rfl ?_
 repeat refine sd ?_
 refine aI.intro [[],[],[0,1],[0,1,2],r_4] r_5 (by kernel_rfl) ?_
 repeat (first|refine gi ?_|refine gt ?_|refine ga ?_|refine sd ?_)
 refine Call.pure cB rfl fc ?_
 rintro v ⟨o,ho,rfl⟩
 have cM:=cM o ho
 repeat (first|refine gi ?_|refine gt ?_|refine ga ?_|refine sd ?_)
 refine Call.pure cM rfl fc ?_
 rintro v ⟨p,hp,rfl⟩
 have cE:=cE p hp
 repeat (first|refine gi ?_|refine gt ?_|refine ga ?_|refine sd ?_)
 refine Call.pure cE rfl fc ?_
 rintro _ rfl
 repeat (first|refine gi ?_|refine gt ?_|refine ga ?_|refine sd ?_)
 refine Ret.intro (.a8 E) [] [] rfl fc rfl rfl fc rfl fc rfl
theorem aWQ (s:List UInt8) (hs:s.length = 32):Sx.Fn Γ.P 38 [.a8 s] [] (fun v _=>v = .a8 (spB s)):=by
 have cS:=aWE s hs
 have cB:=aWD (nuB s) (fk s)
 rw [<- aBT] at cB
 have lN:=fk s
 have l:=fY s
 generalize spB s = E at *
 generalize nuB s = N at *
 generalize pfB s = P at *
 refine aF (Γ:=Γ) (fn:=Tryz.f38) rfl rfl rfl rfl ?_
 repeat refine sd ?_
 refine Call.pure cS rfl fc ?_
 rintro _ rfl
 repeat (first|refine gi ?_|refine gt ?_|refine ga ?_|refine sd ?_)
 refine Call.pure cB rfl fc ?_
 rintro _ rfl
 repeat (first|refine gi ?_|refine gt ?_|refine ga ?_|refine sd ?_)
 refine Ret.intro (.a8 E) [] [] rfl fc rfl rfl fc rfl fc rfl
end Go.Proofs.YtimbdhpchlakfaaGreat
namespace Go.Proofs.YtimbdhpchlakfaaGreat
open Go Go.Sx Go.Cu
theorem aV0:fn 4 = 4:=by decide +kernel
theorem aVZ:fn 486662 = 486662:=by decide +kernel
theorem aV8 (x z:F):Sx.Fn Γ.P 78 [.ai (nmF x),.ai (nmF z),.ai (nmF 486662)] []
  (fun v _=>v = .tup [.ai (nmF ((x * x - z * z) * (x * x - z * z))),.ai (nmF (4 * (x * z) * (x * x + z * z + 486662 * (x * z))))]):=by
 have c4:=vr 4 (by omega)
 rw [aV0] at c4
 generalize (4:F) = f4 at *
 generalize (486662:F) = K at *
 have c1:=gd x x
 have c2:=gd z z
 have c3:=gd x z
 generalize x * x = xx at *
 generalize z * z = zz at *
 generalize x * z = xz at *
 have c5:=aD6 xx zz
 generalize xx - zz = d at *
 have c6:=vt xx zz
 generalize xx + zz = e at *
 have c7:=gd K xz
 generalize K * xz = m at *
 have c8:=vt e m
 generalize e + m = s at *
 have c9:=gd d d
 generalize d * d = D at *
 have d1:=gd f4 xz
 generalize f4 * xz = q at *
 have d2:=gd q s
 generalize q * s = E at *
 have hl:=aC
 refine aF (Γ:=Γ) (fn:=Tryz.f78) rfl rfl rfl rfl ?_
 repeat refine sd ?_
 refine Call.pure c1 rfl fc ?_
 rintro _ rfl
 repeat (first|refine gi ?_|refine gt ?_|refine ga ?_|refine sd ?_)
 refine Call.pure c2 rfl fc ?_
 rintro _ rfl
 repeat (first|refine gi ?_|refine gt ?_|refine ga ?_|refine sd ?_)
 refine Call.pure c3 rfl fc ?_
 rintro _ rfl
 repeat (first|refine gi ?_|refine gt ?_|refine ga ?_|refine sd ?_)
 refine Call.pure c5 rfl fc ?_
 rintro _ rfl
 repeat (first|refine gi ?_|refine gt ?_|refine ga ?_|refine sd ?_)
 refine aI.intro [[],[],[0,1],[],[],r_5,r_6,[],r_8] [0,1,3,4,7,2,5,6,8] (by kernel_rfl) ?_
 repeat (first|refine gi ?_|refine gt ?_|refine ga ?_|refine sd ?_)
 refine Call.pure c6 rfl fc ?_
 rintro _ rfl
 repeat (first|refine gi ?_|refine gt ?_|refine ga ?_|refine sd ?_)
 refine Call.pure c7 rfl fc ?_
 rintro _ rfl
 repeat (first|refine gi ?_|refine gt ?_|refine ga ?_|refine sd ?_)
 refine Call.pure c8 rfl fc ?_
 rintro _ rfl
 repeat (first|refine gi ?_|refine gt ?_|refine ga ?_|refine sd ?_)
 refine aI.intro [[],[],[0,1],[0,1,2],[],r_5,[],r_7,r_8,r_9] [0,1,4,6,2,3,5,7,8,9] (by kernel_rfl) ?_
 repeat (first|refine gi ?_|refine gt ?_|refine ga ?_|refine sd ?_)
 refine Call.pure c9 rfl fc ?_
 rintro _ rfl
 repeat (first|refine gi ?_|refine gt ?_|refine ga ?_|refine sd ?_)
 refine Call.pure c4 rfl fc ?_
 rintro _ rfl
 repeat (first|refine gi ?_|refine gt ?_|refine ga ?_|refine sd ?_)
 refine Call.pure d1 rfl fc ?_
 rintro _ rfl
 repeat (first|refine gi ?_|refine gt ?_|refine ga ?_|refine sd ?_)
 refine Call.pure d2 rfl fc ?_
 rintro _ rfl
 repeat (first|refine gi ?_|refine gt ?_|refine ga ?_|refine sd ?_)
 refine Ret.intro (.tup [.ai (nmF D),.ai (nmF E)]) [] [] rfl fc rfl rfl fc rfl fc rfl
theorem aV9 (ax az bx bz x:F):Sx.Fn Γ.P 77 [.ai (nmF ax),.ai (nmF az),.ai (nmF bx),.ai (nmF bz),.ai (nmF x)] []
  (fun v _=>v = .tup [.ai (nmF ((ax * bx - az * bz) * (ax * bx - az * bz))),.ai (nmF (x * ((ax * bz - az * bx) * (ax * bz - az * bx))))]):=by
 have c1:=gd ax bx
 have c2:=gd az bz
 have c3:=gd ax bz
 have c4:=gd az bx
 generalize ax * bx = a1 at *
 generalize az * bz = a2 at *
 generalize ax * bz = a3 at *
 generalize az * bx = a4 at *
 have c5:=aD6 a1 a2
 have c6:=aD6 a3 a4
 generalize a1 - a2 = p at *
 generalize a3 - a4 = q at *
 have c7:=gd p p
 have c8:=gd q q
 generalize p * p = P at *
 generalize q * q = Q at *
 have c9:=gd x Q
 generalize x * Q = E at *
 have hl:=aC
 refine aF (Γ:=Γ) (fn:=Tryz.f77) rfl rfl rfl rfl ?_
 repeat refine sd ?_
 refine aI.intro [[],[],[0,1],[],[],r_5,r_6,[],r_8] [0,1,3,4,7,2,5,6,8] (by kernel_rfl) ?_
 repeat (first|refine gi ?_|refine gt ?_|refine ga ?_|refine sd ?_)
 refine Call.pure c1 rfl fc ?_
 rintro _ rfl
 repeat (first|refine gi ?_|refine gt ?_|refine ga ?_|refine sd ?_)
 refine Call.pure c2 rfl fc ?_
 rintro _ rfl
 repeat (first|refine gi ?_|refine gt ?_|refine ga ?_|refine sd ?_)
 refine Call.pure c5 rfl fc ?_
 rintro _ rfl
 repeat (first|refine gi ?_|refine gt ?_|refine ga ?_|refine sd ?_)
 refine aI.intro [[],[],[0,1],[],[],r_5,r_6,[],r_8] [0,1,3,4,7,2,5,6,8] (by kernel_rfl) ?_
 repeat (first|refine gi ?_|refine gt ?_|refine ga ?_|refine sd ?_)
 refine Call.pure c3 rfl fc ?_
 rintro _ rfl
 repeat (first|refine gi ?_|refine gt ?_|refine ga ?_|refine sd ?_)
 refine Call.pure c4 rfl fc ?_
 rintro _ rfl
 repeat (first|refine gi ?_|refine gt ?_|refine ga ?_|refine sd ?_)
 refine Call.pure c6 rfl fc ?_
 rintro _ rfl
 repeat (first|refine gi ?_|refine gt ?_|refine ga ?_|refine sd ?_)
 refine aI.intro [[],[],[0,1],[],[],[],[0,1,2,4,5],r_7,r_8,r_9] [0,1,3,4,5,2,6,7,8,9] (by kernel_rfl) ?_
 repeat (first|refine gi ?_|refine gt ?_|refine ga ?_|refine sd ?_)
 refine Call.pure c7 rfl fc ?_
 rintro _ rfl
 repeat (first|refine gi ?_|refine gt ?_|refine ga ?_|refine sd ?_)
 refine Call.pure c8 rfl fc ?_
 rintro _ rfl
 repeat (first|refine gi ?_|refine gt ?_|refine ga ?_|refine sd ?_)
 refine Call.pure c9 rfl fc ?_
 rintro _ rfl
 repeat (first|refine gi ?_|refine gt ?_|refine ga ?_|refine sd ?_)
 refine Ret.intro (.tup [.ai (nmF P),.ai (nmF E)]) [] [] rfl fc rfl rfl fc rfl fc rfl
theorem aOB (u:F) (s:LS) (b:Nat) (h:b = 0):ju u s b = ⟨(s.ax * s.ax - s.az * s.az) * (s.ax * s.ax - s.az * s.az),4 * (s.ax * s.az) * (s.ax * s.ax + s.az * s.az + 486662 * (s.ax * s.az)),(s.ax * s.bx - s.az * s.bz) * (s.ax * s.bx - s.az * s.bz),u * ((s.ax * s.bz - s.az * s.bx) * (s.ax * s.bz - s.az * s.bx))⟩:=by
 unfold ju;rw [if_pos h]
theorem aOA (u:F) (s:LS) (b:Nat) (h:¬ b = 0):ju u s b = ⟨(s.ax * s.bx - s.az * s.bz) * (s.ax * s.bx - s.az * s.bz),u * ((s.ax * s.bz - s.az * s.bx) * (s.ax * s.bz - s.az * s.bx)),(s.bx * s.bx - s.bz * s.bz) * (s.bx * s.bx - s.bz * s.bz),4 * (s.bx * s.bz) * (s.bx * s.bx + s.bz * s.bz + 486662 * (s.bx * s.bz))⟩:=by
 unfold ju;rw [if_neg h]
theorem aVE (sec u:List UInt8) (h1:sec.length = 32) (h2:u.length = 32):Sx.Fn Γ.P 42 [.a8 sec,.a8 u] [] (fun v _=>v = .a8 (oF (clB sec) u)):=by
  have hc:=aE0 sec
  have lc:=lz sec
  rw [h1] at lc
  have cU:=aVA u h2
  have cOne:=vr 1 (by omega)
  have cZero:=vr 0 (by omega)
  have cK:=vr 486662 (by omega)
  rw [aPX] at cOne
  rw [aTN] at cZero
  rw [aVZ] at cK
  have hE:oF (clB sec) u = leB ((aFZ (ofF u) (lv (clB sec)) 255).ax * inv (aFZ (ofF u) (lv (clB sec)) 255).az):=by
    show leB (aNP _ _) = _
    rw [aL7];rfl
  have lB:=bM (clB sec) u
  have hst:aFZ (ofF u) (lv (clB sec)) 0 = ⟨1,0,ofF u,1⟩:=rfl
  generalize oF (clB sec) u = B at *
  generalize clB sec = c at *
  generalize ofF u = x at *
  have cD:=fun p q=>aV8 p q
  have r0:=aOB x
  have r1:=aOA x
  have h8:ofNat 8 ≠ 0:=by decide
  have h64:ofNat 64 ≠ 0:=by decide
  have hl:=aC
  generalize (486662:F) = K at *
  generalize (4:F) = f4 at *
  generalize (1:F) = one at *
  generalize (0:F) = zero at *
  refine aF (Γ:=Γ) (fn:=Tryz.f42) rfl rfl rfl rfl ?_
  repeat refine sd ?_
  refine Call.pure cU rfl ?_ ?_
  · exact fc
  rintro _ rfl
  repeat (first|refine gi ?_|refine gt ?_|refine ga ?_|refine sd ?_)
  refine Call.pure cOne rfl ?_ ?_
  · exact fc
  rintro _ rfl
  repeat (first|refine gi ?_|refine gt ?_|refine ga ?_|refine sd ?_)
  refine Call.pure cZero rfl ?_ ?_
  · exact fc
  rintro _ rfl
  repeat (first|refine gi ?_|refine gt ?_|refine ga ?_|refine sd ?_)
  refine Call.pure cK rfl ?_ ?_
  · exact fc
  rintro _ rfl
  repeat (first|refine gi ?_|refine gt ?_|refine ga ?_|refine sd ?_)
  refine aI.intro [[],[],[],[],[],[],[],[],[0,4,5,6,7],[0,1,4,5,6,7,8],[0,1,2,4,5,6,7,8,9],fy] mR (by kernel_rfl) ?_
  repeat (first|refine gi ?_|refine gt ?_|refine ga ?_|refine sd ?_)
  refine ac.intro (σ:=Nat × LS) (fun s=>s.1 <= 255/\aFZ x (lv c) s.1 = s.2)
    (fun s=>([(2,.ptr 2 0 none),(4,.ptr 4 0 none),(5,.ptr 5 0 none),(8,.ptr 8 0 none),(9,.ptr 9 0 none),(10,.ptr 10 0 none),(11,.ptr 11 0 none),(12,.ptr 12 0 none),(13,.i .i64 (254 - (s.1:Int)))],
      [(2,.mem true 0 [(32,.a8 c)]),(4,.mem true 0 [(32,.a8 (replicate 32 0))]),(5,.mem true 0 [(16,.ai (nmF x))]),(8,.mem true 0 [(16,.ai (nmF K))]),
       (9,.mem true 0 [(16,.ai (nmF s.2.ax))]),(10,.mem true 0 [(16,.ai (nmF s.2.az))]),(11,.mem true 0 [(16,.ai (nmF s.2.bx))]),(12,.mem true 0 [(16,.ai (nmF s.2.bz))])])) (fun s=>255 - s.1) (0,⟨one,zero,x,one⟩)
    ⟨Nat.zero_le _,hst⟩ ?_ ?_
  · refine Le.intro [] rfl ?_ rfl ?_ rfl
    · exact fc
    · exact fc
  rintro ⟨k,s⟩ ⟨hk,hs⟩
  have hk:k <= 255:=hk
  have hs:aFZ x (lv c) k = s:=hs
  refine zB.intro (fun hc=>?_) (fun hc=>?_)
  · have hc:(0:Int) <= 254 - (k:Int):=hc
    have e0:((254 - (k:Int)) / 8).toNat = (254 - k) / 8:=by omega
    have e1:(ofInt ((254 - (k:Int)) % 8)).toNat = (254 - k) % 8:=by
      rw [show ((254 - (k:Int)) % 8) = (((254 - k) % 8:Nat):Int) by omega];exact vE _ (by omega)
    have hbit:fq c (254 - k) = gg (c.getD ((254 - k) / 8) 0) ((254 - k) % 8) &&& ofNat 1:=rfl
    have hbv:=il c (254 - k)
    have hn:aFZ x (lv c) (k + 1) = ju x s (lv c / 2 ^ (254 - k) % 2):=by rw [<- hs];rfl
    have hz0:((254:Int) - k) - 1 = 254 - ((k + 1:Nat):Int):=by omega
    have cS:=aV9 s.ax s.az s.bx s.bz x
    repeat refine sdI ?_
    refine zB.intro (fun hb=>?_) (fun hb=>?_)
    · have hb:gg (c.getD ((254 - (k:Int)) / 8).toNat 0) (ofInt ((254 - (k:Int)) % 8)).toNat &&& ofNat 1 = ofNat 0:=hb
      rw [e0,e1,<- hbit] at hb
      rw [hb] at hbv
      rw [r0 _ _ hbv.symm] at hn
      have cD1:=cD s.ax s.az
      generalize (s.ax * s.bx - s.az * s.bz) * (s.ax * s.bx - s.az * s.bz) = n1 at *
      generalize x * ((s.ax * s.bz - s.az * s.bx) * (s.ax * s.bz - s.az * s.bx)) = n2 at *
      generalize (s.ax * s.ax - s.az * s.az) * (s.ax * s.ax - s.az * s.az) = n3 at *
      generalize f4 * (s.ax * s.az) * (s.ax * s.ax + s.az * s.az + K * (s.ax * s.az)) = n4 at *
      repeat refine sd ?_
      refine Call.pure cS rfl ?_ ?_
      · exact fc
      rintro _ rfl
      repeat (first|refine gi ?_|refine gt ?_|refine ga ?_|refine sd ?_)
      refine Call.pure cD1 rfl ?_ ?_
      · exact fc
      rintro _ rfl
      repeat (first|refine gi ?_|refine gt ?_|refine ga ?_|refine sd ?_)
      refine aI.intro [[],[],[0],[0,1,2]] r_4 (by kernel_rfl) ?_
      repeat (first|refine gi ?_|refine gt ?_|refine ga ?_|refine sd ?_)
      refine ⟨(k + 1,⟨n3,n4,n1,n2⟩),⟨by show k + 1 <= 255;omega,hn⟩,by show 255 - (k + 1) < 255 - k;omega,Le.intro [] rfl ?_ rfl ?_ rfl⟩
      · exact fc
      · exact fc
    · have hb:¬ gg (c.getD ((254 - (k:Int)) / 8).toNat 0) (ofInt ((254 - (k:Int)) % 8)).toNat &&& ofNat 1 = ofNat 0:=hb
      rw [e0,e1,<- hbit] at hb
      rw [r1 _ _ (fun e=>hb (UInt8.toNat_inj.1 (hbv.trans e)))] at hn
      have cD1:=cD s.bx s.bz
      generalize (s.ax * s.bx - s.az * s.bz) * (s.ax * s.bx - s.az * s.bz) = n1 at *
      generalize x * ((s.ax * s.bz - s.az * s.bx) * (s.ax * s.bz - s.az * s.bx)) = n2 at *
      generalize (s.bx * s.bx - s.bz * s.bz) * (s.bx * s.bx - s.bz * s.bz) = n3 at *
      generalize f4 * (s.bx * s.bz) * (s.bx * s.bx + s.bz * s.bz + K * (s.bx * s.bz)) = n4 at *
      repeat refine sd ?_
      refine Call.pure cS rfl ?_ ?_
      · exact fc
      rintro _ rfl
      repeat (first|refine gi ?_|refine gt ?_|refine ga ?_|refine sd ?_)
      refine Call.pure cD1 rfl ?_ ?_
      · exact fc
      rintro _ rfl
      repeat (first|refine gi ?_|refine gt ?_|refine ga ?_|refine sd ?_)
      refine aI.intro [[],[],[0],[0,1,2]] r_4 (by kernel_rfl) ?_
      repeat (first|refine gi ?_|refine gt ?_|refine ga ?_|refine sd ?_)
      refine ⟨(k + 1,⟨n1,n2,n3,n4⟩),⟨by show k + 1 <= 255;omega,hn⟩,by show 255 - (k + 1) < 255 - k;omega,Le.intro [] rfl ?_ rfl ?_ rfl⟩
      · exact fc
      · exact fc
  obtain rfl:k = 255:=by have hc:¬ (0:Int) <= 254 - (k:Int):=hc;omega
  rw [hs] at hE
  have cI:=aP8 s.az
  generalize inv s.az = i at *
  have cM:=gd s.ax i
  generalize s.ax * i = m at *
  have cB:=aRT m
  rw [<- hE] at cB
  repeat refine sd ?_
  refine aI.intro [[],[],[1],[0,1,2],r_4,r_5] r_6 (by kernel_rfl) ?_
  repeat (first|refine gi ?_|refine gt ?_|refine ga ?_|refine sd ?_)
  refine Call.pure cI rfl ?_ ?_
  · exact fc
  rintro _ rfl
  repeat (first|refine gi ?_|refine gt ?_|refine ga ?_|refine sd ?_)
  refine Call.pure cM rfl ?_ ?_
  · exact fc
  rintro _ rfl
  repeat (first|refine gi ?_|refine gt ?_|refine ga ?_|refine sd ?_)
  refine Call.pure cB rfl ?_ ?_
  · exact fc
  rintro _ rfl
  repeat (first|refine gi ?_|refine gt ?_|refine ga ?_|refine sd ?_)
  refine Ret.intro (.a8 B) [] [] rfl ?_ rfl rfl ?_ rfl ?_ rfl
  · exact fc
  · exact fc
  · exact fc
theorem aWS (sec:List UInt8) (h1:sec.length = 32):Sx.Fn Γ.P 36 [.a8 sec] [] (fun v _=>v = .a8 (oF (clB sec) (ofNat 9 :: replicate 31 0))):=by
 have c:=aVE sec (ofNat 9 :: replicate 31 0) h1 rfl
 have l:=bM (clB sec) (ofNat 9 :: replicate 31 0)
 generalize oF (clB sec) (ofNat 9 :: replicate 31 0) = B at *
 refine aF (Γ:=Γ) (fn:=Tryz.f36) rfl rfl rfl rfl ?_
 repeat refine sd ?_
 refine Call.pure c rfl fc ?_
 rintro _ rfl
 repeat (first|refine gi ?_|refine gt ?_|refine ga ?_|refine sd ?_)
 refine Ret.intro (.a8 B) [] [] rfl fc rfl rfl fc rfl fc rfl
end Go.Proofs.YtimbdhpchlakfaaGreat
namespace Go.Proofs.YtimbdhpchlakfaaGreat
open Go Go.Sx Go.Cu
theorem aD1 (p:List UInt8) (hp:p.length = 32):Sx.Fn Γ.P 14 [.agg [(1,.nilp)],.a8 p] [] (fun v _=>v = .a8 (spB p)):=by
 have c:=aWR p hp
 have l:=fY p
 generalize spB p = R at *
 refine aF (Γ:=Γ) (fn:=Tryz.f14) rfl rfl rfl rfl ?_
 repeat refine sd ?_
 repeat (first | (refine zB.intro (fun _=>?_) (fun hn=>absurd rfl hn))|refine ky0 ?_|refine kn0 ?_|refine sd ?_)
 refine Call.pure c rfl fc ?_
 rintro _ rfl
 repeat (first|refine gi ?_|refine gt ?_|refine ga ?_|refine sd ?_)
 refine Ret.intro (.a8 R) [] [] rfl fc rfl rfl fc rfl fc rfl
theorem za (p:List UInt8) (hp:p.length = 32):Sx.Fn Γ.P 15 [.agg [(1,.nilp)],.a8 p] [] (fun v _=>v = .a8 (spB p)):=by
 have c:=aWQ p hp
 have l:=fY p
 generalize spB p = R at *
 refine aF (Γ:=Γ) (fn:=Tryz.f15) rfl rfl rfl rfl ?_
 repeat refine sd ?_
 repeat (first | (refine zB.intro (fun _=>?_) (fun hn=>absurd rfl hn))|refine ky0 ?_|refine kn0 ?_|refine sd ?_)
 refine Call.pure c rfl fc ?_
 rintro _ rfl
 repeat (first|refine gi ?_|refine gt ?_|refine ga ?_|refine sd ?_)
 refine Ret.intro (.a8 R) [] [] rfl fc rfl rfl fc rfl fc rfl
theorem qY (p:List UInt8) (hp:p.length = 32):Sx.Fn Γ.P 13 [.agg [(1,.nilp)],.a8 p] [] (fun v _=>v = .a8 (u4 p)):=by
 have e:oF (clB p) (ofNat 9 :: replicate 31 0) = u4 p:=(u3 p).symm
 have c:=aWS p hp
 have l:=gF p
 rw [e] at c
 generalize u4 p = R at *
 refine aF (Γ:=Γ) (fn:=Tryz.f13) rfl rfl rfl rfl ?_
 repeat refine sd ?_
 repeat (first | (refine zB.intro (fun _=>?_) (fun hn=>absurd rfl hn))|refine ky0 ?_|refine kn0 ?_|refine sd ?_)
 refine Call.pure c rfl fc ?_
 rintro _ rfl
 repeat (first|refine gi ?_|refine gt ?_|refine ga ?_|refine sd ?_)
 refine Ret.intro (.a8 R) [] [] rfl fc rfl rfl fc rfl fc rfl
theorem tY (p:List UInt8) (hp:p.length = 32):Sx.Fn Γ.P 11 [.agg [(1,.nilp)],.a8 p] [] (fun v _=>v = .a8 p):=by
 refine aF (Γ:=Γ) (fn:=Tryz.f11) rfl rfl rfl rfl ?_
 repeat refine sd ?_
 repeat (first | (refine zB.intro (fun _=>?_) (fun hn=>absurd rfl hn))|refine ky0 ?_|refine kn0 ?_|refine sd ?_)
 refine Ret.intro (.a8 p) [] [] rfl fc rfl rfl fc rfl fc rfl
theorem tc (a u:List UInt8) (ha:a.length = 32) (hu:u.length = 32):Sx.Fn Γ.P 17 [.agg [(1,.nilp)],.a8 a,.a8 u] [] (fun v _=>v = .tup [.a8 (aFO a u),.bool (¬ aFO a u = replicate 32 0)]):=by
 have c:=aVE a u ha hu
 have l:=gU a u
 rw [<- wa] at c
 generalize aFO a u = R at *
 refine aF (Γ:=Γ) (fn:=Tryz.f17) rfl rfl rfl rfl ?_
 repeat refine sd ?_
 repeat (first | (refine zB.intro (fun _=>?_) (fun hn=>absurd rfl hn))|refine ky0 ?_|refine kn0 ?_|refine sd ?_)
 refine Call.pure c rfl fc ?_
 rintro _ rfl
 repeat (first|refine gi ?_|refine gt ?_|refine ga ?_|refine sd ?_)
 refine aI.intro [[],[],[],[1,2],[0],r_5] r_6 (by kernel_rfl) ?_
 repeat (first|refine gt ?_|refine sd ?_)
 refine Ret.intro (.tup [.a8 R,.bool (¬ R = replicate 32 0)]) [] [] rfl ?_ rfl rfl ?_ rfl ?_ rfl
 ·exact fc
 ·repeat' first|exact trivial|refine zA.app ?_ ?_|refine zA.zd ?_ ?_|refine zA.cons ?_ ?_|exact fc|fail
  all_goals exact Iff.rfl
 ·exact fc
end Go.Proofs.YtimbdhpchlakfaaGreat
namespace Go.Proofs.YtimbdhpchlakfaaGreat
open Go Go.Sx Go.Cu
theorem yU (P:Prop) (hP:¬ P) (a b o:List UInt8) (ha:a.length = 32) (hb:b.length = 32) (ho:o.length = 32):Sx.Fn Γ.P 3 [.bool P,.a8 a,.a8 b,.a8 o] [] (fun v _=>v = .tt):=by
 have f1:=xo a ha
 have f2:=xo b hb
 have w1:=tY a ha
 have w2:=tY b hb
 have p1:=td a ha
 have p2:=td b hb
 have q1:=qY a ha
 have q2:=qY b hb
 have s2:=aD1 b hb
 have t2:=za b hb
 have l1:=gF a
 have l2:=gF b
 have l3:=fY b
 have g1:=xu a (u4 b) ha l2
 have g2:=tc a (u4 b) ha l2
 have g3:=xu a o ha ho
 have g4:=tc a o ha ho
 have k1:=gU a (u4 b)
 have k2:=gU a o
 generalize aFO a (u4 b) = K at *
 generalize aFO a o = K2 at *
 generalize u4 a = pa at *
 generalize u4 b = pb at *
 generalize spB b = sb at *
 refine aF (Γ:=Γ) (fn:=Tryz.f3) rfl rfl rfl rfl ?_
 repeat refine sd ?_
 refine Call.intro fn7 [] rfl trivial rfl trivial rfl ?_
 rintro v M' rfl
 dsimp only [zt,zM,zE,ren,zz,zx,zy,aS,zG,zX,ev,evL,zV,zcT,zcF,act,zP,zO,Ent.zW]
 repeat (first | (refine zB.intro (fun _=>?_) (fun hn=>absurd rfl hn))|refine ky0 ?_|refine kn0 ?_|refine sd ?_)
 refine Call.intro xk [] rfl fc rfl fc rfl ?_
 rintro _ _ ⟨rfl,rfl⟩
 dsimp only [zt,zM,zE,ren,zz,zx,zy,aS,zG,zX,ev,evL,zV,zcT,zcF,act,zP,zO,Ent.zW]
 repeat refine sd ?_
 refine Call.intro aP0 [] rfl fc rfl fc rfl ?_
 rintro _ _ ⟨rfl,rfl⟩
 dsimp only [zt,zM,zE,ren,zz,zx,zy,aS,zG,zX,ev,evL,zV,zcT,zcF,act,zP,zO,Ent.zW]
 repeat refine sd ?_
 refine aI.intro [[],[],[0,1],[],[],r_5,[],[],r_8,r_9] [0,1,3,4,6,7,2,5,8,9] (by kernel_rfl) ?_
 repeat (first | (refine zB.intro (fun h=>False.elim (by revert h;first|(simp [hP];done)|fail)) (fun _=>?_)) | (refine zB.intro (fun _=>?_) (fun h=>False.elim (by revert h;first|(simp [hP];done)|fail)))|refine gi ?_|refine gt ?_|refine sd ?_)
 refine Call.pure f1 rfl fc ?_
 rintro _ rfl
 repeat (first | (refine zB.intro (fun h=>False.elim (by revert h;first|(simp [hP];done)|fail)) (fun _=>?_)) | (refine zB.intro (fun _=>?_) (fun h=>False.elim (by revert h;first|(simp [hP];done)|fail)))|refine gi ?_|refine gt ?_|refine sd ?_)
 refine Call.pure f2 rfl fc ?_
 rintro _ rfl
 repeat (first | (refine zB.intro (fun h=>False.elim (by revert h;first|(simp [hP];done)|fail)) (fun _=>?_)) | (refine zB.intro (fun _=>?_) (fun h=>False.elim (by revert h;first|(simp [hP];done)|fail)))|refine gi ?_|refine gt ?_|refine sd ?_)
 refine aI.intro [[],[],[0,1],[],[],r_5,[],[],r_8,r_9] [0,1,3,4,6,7,2,5,8,9] (by kernel_rfl) ?_
 repeat (first | (refine zB.intro (fun h=>False.elim (by revert h;first|(simp [hP];done)|fail)) (fun _=>?_)) | (refine zB.intro (fun _=>?_) (fun h=>False.elim (by revert h;first|(simp [hP];done)|fail)))|refine gi ?_|refine gt ?_|refine sd ?_)
 refine Call.pure w1 rfl fc ?_
 rintro _ rfl
 repeat (first | (refine zB.intro (fun h=>False.elim (by revert h;first|(simp [hP];done)|fail)) (fun _=>?_)) | (refine zB.intro (fun _=>?_) (fun h=>False.elim (by revert h;first|(simp [hP];done)|fail)))|refine gi ?_|refine gt ?_|refine sd ?_)
 refine Call.pure w2 rfl fc ?_
 rintro _ rfl
 repeat (first | (refine zB.intro (fun h=>False.elim (by revert h;first|(simp [hP];done)|fail)) (fun _=>?_)) | (refine zB.intro (fun _=>?_) (fun h=>False.elim (by revert h;first|(simp [hP];done)|fail)))|refine gi ?_|refine gt ?_|refine sd ?_)
 refine aI.intro [[],[],[0,1],[0,1,2],r_4,r_4,r_6,r_7,r_8,r_9,r_9,fy,r_9,r_9,sj,uM,rM,uL,rL,rL,aOK,rL,rL,aRK,aOJ,aOI,aSL,aI3,aI3,aI2,aI3,aI3,aRJ,aU2,aSI] [0,1,2,3,4,5,6,7,8,9,10,12,13,11,14,15,16,17,18,19,21,22,20,23,24,25,26,27,28,30,31,29,32,33,34] (by kernel_rfl) ?_
 repeat (first | (refine zB.intro (fun h=>False.elim (by revert h;first|(simp [hP];done)|fail)) (fun _=>?_)) | (refine zB.intro (fun _=>?_) (fun h=>False.elim (by revert h;first|(simp [hP];done)|fail)))|refine gi ?_|refine gt ?_|refine sd ?_)
 refine Call.pure p1 rfl fc ?_
 rintro _ rfl
 repeat (first | (refine zB.intro (fun h=>False.elim (by revert h;first|(simp [hP];done)|fail)) (fun _=>?_)) | (refine zB.intro (fun _=>?_) (fun h=>False.elim (by revert h;first|(simp [hP];done)|fail)))|refine gi ?_|refine gt ?_|refine sd ?_)
 refine Call.pure q1 rfl fc ?_
 rintro _ rfl
 repeat (first | (refine zB.intro (fun h=>False.elim (by revert h;first|(simp [hP];done)|fail)) (fun _=>?_)) | (refine zB.intro (fun _=>?_) (fun h=>False.elim (by revert h;first|(simp [hP];done)|fail)))|refine gi ?_|refine gt ?_|refine sd ?_)
 refine Call.pure s2 rfl fc ?_
 rintro _ rfl
 repeat (first | (refine zB.intro (fun h=>False.elim (by revert h;first|(simp [hP];done)|fail)) (fun _=>?_)) | (refine zB.intro (fun _=>?_) (fun h=>False.elim (by revert h;first|(simp [hP];done)|fail)))|refine gi ?_|refine gt ?_|refine sd ?_)
 refine Call.pure t2 rfl fc ?_
 rintro _ rfl
 repeat (first | (refine zB.intro (fun h=>False.elim (by revert h;first|(simp [hP];done)|fail)) (fun _=>?_)) | (refine zB.intro (fun _=>?_) (fun h=>False.elim (by revert h;first|(simp [hP];done)|fail)))|refine gi ?_|refine gt ?_|refine sd ?_)
 refine Call.pure p2 rfl fc ?_
 rintro _ rfl
 repeat (first | (refine zB.intro (fun h=>False.elim (by revert h;first|(simp [hP];done)|fail)) (fun _=>?_)) | (refine zB.intro (fun _=>?_) (fun h=>False.elim (by revert h;first|(simp [hP];done)|fail)))|refine gi ?_|refine gt ?_|refine sd ?_)
 refine Call.pure q2 rfl fc ?_
 rintro _ rfl
 repeat (first | (refine zB.intro (fun h=>False.elim (by revert h;first|(simp [hP];done)|fail)) (fun _=>?_)) | (refine zB.intro (fun _=>?_) (fun h=>False.elim (by revert h;first|(simp [hP];done)|fail)))|refine gi ?_|refine gt ?_|refine sd ?_)
 refine aI.intro [[],[],[],[],[2,3],r_5,r_6,r_7,r_7,[],[0,1,2,3,4,5,6,7,9],fy] [0,1,2,3,9,4,5,6,7,8,10,11] (by kernel_rfl) ?_
 repeat (first | (refine zB.intro (fun h=>False.elim (by revert h;first|(simp [hP];done)|fail)) (fun _=>?_)) | (refine zB.intro (fun _=>?_) (fun h=>False.elim (by revert h;first|(simp [hP];done)|fail)))|refine gi ?_|refine gt ?_|refine sd ?_)
 refine Call.pure p2 rfl fc ?_
 rintro _ rfl
 repeat (first | (refine zB.intro (fun h=>False.elim (by revert h;first|(simp [hP];done)|fail)) (fun _=>?_)) | (refine zB.intro (fun _=>?_) (fun h=>False.elim (by revert h;first|(simp [hP];done)|fail)))|refine gi ?_|refine gt ?_|refine sd ?_)
 refine Call.pure g1 rfl fc ?_
 rintro _ rfl
 repeat (first | (refine zB.intro (fun h=>False.elim (by revert h;first|(simp [hP];done)|fail)) (fun _=>?_)) | (refine zB.intro (fun _=>?_) (fun h=>False.elim (by revert h;first|(simp [hP];done)|fail)))|refine gi ?_|refine gt ?_|refine sd ?_)
 refine aI.intro [[],[],[],[],[2,3],r_5,r_6,r_7,r_7,[],[0,1,2,3,4,5,6,7,9],fy] [0,1,2,3,9,4,5,6,7,8,10,11] (by kernel_rfl) ?_
 repeat (first | (refine zB.intro (fun h=>False.elim (by revert h;first|(simp [hP];done)|fail)) (fun _=>?_)) | (refine zB.intro (fun _=>?_) (fun h=>False.elim (by revert h;first|(simp [hP];done)|fail)))|refine gi ?_|refine gt ?_|refine sd ?_)
 refine Call.pure q2 rfl fc ?_
 rintro _ rfl
 repeat (first | (refine zB.intro (fun h=>False.elim (by revert h;first|(simp [hP];done)|fail)) (fun _=>?_)) | (refine zB.intro (fun _=>?_) (fun h=>False.elim (by revert h;first|(simp [hP];done)|fail)))|refine gi ?_|refine gt ?_|refine sd ?_)
 refine Call.pure g2 rfl fc ?_
 rintro _ rfl
 repeat (first | (refine zB.intro (fun h=>False.elim (by revert h;first|(simp [hP];done)|fail)) (fun _=>?_)) | (refine zB.intro (fun _=>?_) (fun h=>False.elim (by revert h;first|(simp [hP];done)|fail)))|refine gi ?_|refine gt ?_|refine sd ?_)
 refine Call.pure g3 rfl fc ?_
 rintro _ rfl
 repeat (first | (refine zB.intro (fun h=>False.elim (by revert h;first|(simp [hP];done)|fail)) (fun _=>?_)) | (refine zB.intro (fun _=>?_) (fun h=>False.elim (by revert h;first|(simp [hP];done)|fail)))|refine gi ?_|refine gt ?_|refine sd ?_)
 refine Call.pure g4 rfl fc ?_
 rintro _ rfl
 repeat (first | (refine zB.intro (fun h=>False.elim (by revert h;first|(simp [hP];done)|fail)) (fun _=>?_)) | (refine zB.intro (fun _=>?_) (fun h=>False.elim (by revert h;first|(simp [hP];done)|fail)))|refine gi ?_|refine gt ?_|refine sd ?_)
 refine Ret.intro .tt [] [] rfl ?_ rfl rfl ?_ rfl ?_ rfl
 ·exact fc
 ·repeat' first|exact trivial|refine zA.app ?_ ?_|refine zA.zd ?_ ?_|refine zA.cons ?_ ?_|exact fc|fail
  all_goals (simp [hP])
 ·exact fc
end Go.Proofs.YtimbdhpchlakfaaGreat
namespace Go.Proofs.YtimbdhpchlakfaaGreat
open Go Go.Sx
theorem re (T:List Te) (N c:Nat) (hT:T.length = N) (hN:N <= 60000) (hNc:N <= c) (hTv:∀ x ∈ T,ak x.1 x.2) (k:Int) (p:List UInt8) (hp:p.length <= 4096) (T1:List Te) (o:Nat) (e1:(mk1 T k p).1 = T1) (e2:(mk1 T k p).2 = o) :
  Sx.Fn Γ.P 34 [.ptr 1000 0 none,.i .i64 k,.slx 1003 0 0 1] (M12 N c T 1001 1 [p])
  (fun v M=>∃ n' c',T1.length = n'/\n' <= c'/\v = .tup [.a8 (kyB o),.bool (o ≠ 0)]/\M = (1001,.dead) :: M12 n' c' T1 1005 1 [p]):=by
 subst e1;subst e2
 rw [iC]
 exact aVH T N c hT hN hNc (fun x h=>by have:=(hTv x h).1.1;omega) k [p] 1 rfl (by omega) (fun x hx=>by rw [List.mem_singleton.1 hx];omega)
theorem ie (T:List Te) (N c:Nat) (hT:T.length = N) (hN:N <= 60000) (hNc:N <= c) (hTv:∀ x ∈ T,ak x.1 x.2) (k:Int) (p q:List UInt8) (hp:p.length <= 4096) (hq:q.length <= 4096) (T1:List Te) (o:Nat) (e1:(mk2 T k p q).1 = T1) (e2:(mk2 T k p q).2 = o) :
  Sx.Fn Γ.P 34 [.ptr 1000 0 none,.i .i64 k,.slx 1003 0 0 2] (M12 N c T 1001 2 [p,q])
  (fun v M=>∃ n' c',T1.length = n'/\n' <= c'/\v = .tup [.a8 (kyB o),.bool (o ≠ 0)]/\M = (1001,.dead) :: M12 n' c' T1 1005 2 [p,q]):=by
 subst e1;subst e2
 rw [tH]
 refine aVH T N c hT hN hNc (fun x h=>by have:=(hTv x h).1.1;omega) k [p,q] 2 rfl (by omega) (fun x hx=>?_)
 rcases List.mem_cons.1 hx with rfl | hx
 ·omega
 ·rw [List.mem_singleton.1 hx];omega
theorem tZ (T:List Te) (N c:Nat) (hT:T.length = N) (hN:N <= 60000) (hNc:N <= c) (hTv:∀ x ∈ T,ak x.1 x.2) (p:List UInt8) (hp:p.length = 32) (T1:List Te) (o:Nat) (e1:(mk1 T 1 p).1 = T1) (e2:(mk1 T 1 p).2 = o) :
  Sx.Fn Γ.P 11 [.agg [(1,.ptr 1000 0 none)],.a8 p] (rbM N c T 1001)
  (fun v M=>∃ n' c',T1.length = n'/\n' <= c'/\v = .a8 (kyB o)/\M = (1001,.dead) :: rbM n' c' T1 1005):=by
 have hM:=re T N c hT hN hNc hTv 1 p (by omega) T1 o e1 e2
 have hkl:=zk o
 unfold M12 rwS at hM
 unfold rbM
 refine ci [3] (Γ:=Γ) (fn:=Tryz.f11) rfl rfl rfl rfl ?_
 repeat refine sd ?_
 refine zB.intro (fun hc=>absurd hc (by simp)) (fun _=>?_)
 refine Cut.intro (σ:=Unit) (fun _=>True) (fun _=>([(2,.ptr 202 0 none),(3,.ptr 203 0 none),(4,.ptr 204 0 none)],[(202,.mem true 0 [(1,.ptr 1000 0 none)]),(203,.mem false 1 [(32,.a8 p)]),(204,.mem true 0 [(32,.a8 (replicate 32 0))]),
  (1000,.mem true 0 [(1,.sl 1001 0 0 N c)]),(1001,.mem true (zmE (c - N) 2) [(N * 2,.arr N 2 (rtF T))])])) () trivial (Le.ghost [.keep 3] [] [(202,(2,0,none)),(203,(3,0,none)),(204,(4,0,none))] rfl fc rfl rfl fc rfl fc rfl) ?_
 rintro - -
 refine aI.intro [[],[0],[],[2],r_4,r_5,r_6,r_6,[],[0,1,2,3,4,5,6,8],fi] [0,1,2,3,8,4,5,6,7,9,10] (by kernel_rfl) ?_
 repeat (first|refine gt ?_|refine sd ?_)
 refine Call.name [(0,[]),(0,[]),(2001,[])] rfl fc (cz.intro hM [(1000,(1000,0,none)),(1001,(1001,0,none)),(1003,(2001,0,none)),(1005,(305,0,none))] rfl fc rfl ?_ rfl ?_)
 ·repeat' first|exact trivial|refine zA.app ?_ ?_|refine zA.zd ?_ ?_|refine zA.cons ?_ ?_|exact fc|fail
  all_goals exact p7 hp
 rintro v M' ⟨n',c',hn',hnc',rfl,rfl⟩
 dsimp only [zt,zM,zE,ren,zz,zx,zy,aS,zG,zX,ev,evL,zV,zcT,zcF,act,zP,zO,Ent.zW]
 repeat (first|refine gt ?_|refine sd ?_)
 refine Ret.intro (.a8 (kyB o)) ((1001,.dead) :: rbM n' c' T1 1005) [(1005,(305,0,none))] rfl fc ⟨n',c',hn',hnc',rfl,rfl⟩ rfl fc rfl fc rfl
theorem lU (T:List Te) (N c:Nat) (hT:T.length = N) (hN:N <= 60000) (hNc:N <= c) (hTv:∀ x ∈ T,ak x.1 x.2) (p:List UInt8) (hp:p.length = 32) (T1:List Te) (o:Nat) (e1:(mk1 T 2 p).1 = T1) (e2:(mk1 T 2 p).2 = o) :
  Sx.Fn Γ.P 13 [.agg [(1,.ptr 1000 0 none)],.a8 p] (rbM N c T 1001)
  (fun v M=>∃ n' c',T1.length = n'/\n' <= c'/\v = .a8 (kyB o)/\M = (1001,.dead) :: rbM n' c' T1 1005):=by
 have hM:=re T N c hT hN hNc hTv 2 p (by omega) T1 o e1 e2
 have hkl:=zk o
 unfold M12 rwS at hM
 unfold rbM
 refine ci [3] (Γ:=Γ) (fn:=Tryz.f13) rfl rfl rfl rfl ?_
 repeat refine sd ?_
 refine zB.intro (fun hc=>absurd hc (by simp)) (fun _=>?_)
 refine Cut.intro (σ:=Unit) (fun _=>True) (fun _=>([(2,.ptr 202 0 none),(3,.ptr 203 0 none),(4,.ptr 204 0 none)],[(202,.mem true 0 [(1,.ptr 1000 0 none)]),(203,.mem false 1 [(32,.a8 p)]),(204,.mem true 0 [(32,.a8 (replicate 32 0))]),
  (1000,.mem true 0 [(1,.sl 1001 0 0 N c)]),(1001,.mem true (zmE (c - N) 2) [(N * 2,.arr N 2 (rtF T))])])) () trivial (Le.ghost [.keep 3] [] [(202,(2,0,none)),(203,(3,0,none)),(204,(4,0,none))] rfl fc rfl rfl fc rfl fc rfl) ?_
 rintro - -
 refine aI.intro [[],[0],[],[2],r_4,r_5,r_6,r_6,[],[0,1,2,3,4,5,6,8],fi] [0,1,2,3,8,4,5,6,7,9,10] (by kernel_rfl) ?_
 repeat (first|refine gt ?_|refine sd ?_)
 refine Call.name [(0,[]),(0,[]),(2001,[])] rfl fc (cz.intro hM [(1000,(1000,0,none)),(1001,(1001,0,none)),(1003,(2001,0,none)),(1005,(305,0,none))] rfl fc rfl ?_ rfl ?_)
 ·repeat' first|exact trivial|refine zA.app ?_ ?_|refine zA.zd ?_ ?_|refine zA.cons ?_ ?_|exact fc|fail
  all_goals exact p7 hp
 rintro v M' ⟨n',c',hn',hnc',rfl,rfl⟩
 dsimp only [zt,zM,zE,ren,zz,zx,zy,aS,zG,zX,ev,evL,zV,zcT,zcF,act,zP,zO,Ent.zW]
 repeat (first|refine gt ?_|refine sd ?_)
 refine Ret.intro (.a8 (kyB o)) ((1001,.dead) :: rbM n' c' T1 1005) [(1005,(305,0,none))] rfl fc ⟨n',c',hn',hnc',rfl,rfl⟩ rfl fc rfl fc rfl
end Go.Proofs.YtimbdhpchlakfaaGreat
