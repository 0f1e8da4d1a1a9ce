/- Walks. -/
import Derived.Test.YtllmefnbacjjcaaGreatHwRf5ToRf8
import Derived.Test.YtllmefnbacjjcaaGreatHx7
import Derived.Test.YtllmefnbacjjcaaGreatHwSs5ToCv4
import Derived.Test.YtllmefnbacjjcaaGreatHwSc8ToSg3
import Derived.Test.YtllmefnbacjjcaaGreatHwSha14ToSs3
import Derived.Test.YtllmefnbacjjcaaGreatHwScR4ToScP5
import Derived.Test.YtllmefnbacjjcaaGreatHwCu11ToFe3
set_option linter.unusedSimpArgs false
set_option linter.unusedVariables false
set_option maxHeartbeats 4000000
open UInt8 (ofNat)
open List (replicate take take_of_length_le drop_zero drop)
open UInt64 (ofInt)
set_option maxRecDepth 100000
namespace Go.Proofs.YtllmefnbacjjcaaGreat
open Go Go.Sx Go.Cu
structure RP where
 x:F
 y:F
 z:F
def RP.V (p:RP):SV:=.agg [(16,.ai (nmF p.x)),(16,.ai (nmF p.y)),(16,.ai (nmF p.z))]
def RR (p:RP) (P:Pt):Prop:=Rep p.x p.y p.z P
theorem aZ1:fn 0 = 0:=by decide +kernel
theorem aS1:RR ⟨0,1,1⟩ .O:=aPR
theorem aUY:Sx.Fn Γ.P 110 [] [] (λv _=>v=RP.V ⟨0,1,1⟩):=by
 have c0:=qJ 0 (by omega)
 have c1:=qJ 1 (by omega)
 rw[aZ1]at c0
 rw[aV9]at c1
 have l0:=aC 0
 have l1:=aC 1
 unfold RP.V
 simp only
 generalize nmF 0=Z at *
 generalize nmF 1=W at *
 refine aG (Γ:=Γ) (fn:=Tryz.f110) rfl rfl rfl rfl ?_
 refine gB ?_
 refine Call.pure c0 rfl fc ?_
 rintro _ rfl
 refine gA ?_
 refine Call.pure c1 rfl fc ?_
 rintro _ rfl
 refine gA ?_
 refine Call.pure c1 rfl fc ?_
 rintro _ rfl
 refine gA ?_
 refine Ret.i (.agg [(16,.ai Z),(16,.ai W),(16,.ai W)]) [] [] rfl fc rfl rfl fc rfl fc rfl
theorem aU2:0-fn 121665*inv (fn 121666)=dF:=by
 have h:=aaR
 have e1:fn 121665 = 121665:=by decide +kernel
 have e2:fn 121666 = 121666:=by decide +kernel
 have hi:=iv aa0
 rw[e1,e2]
 exact gr
theorem aUZ:Sx.Fn Γ.P 109 [] [] (λv _=>v= .ai (nmF dF)):=by
 have c0:=qJ 121665 (by omega)
 have c1:=qJ 121666 (by omega)
 have hf:=aU2
 generalize fn 121665=a at *
 generalize fn 121666=b at *
 have c2:=aL7 b
 generalize inv b=i at *
 have c3:=fV a i
 generalize a*i=m at *
 have c4:=aL2 m
 rw[hf]at c4
 clear hf
 generalize dF=d at *
 have hl:=aC
 have la:=hl a
 have lb:=hl b
 have li:=hl i
 have lm:=hl m
 have ld:=hl d
 refine aG (Γ:=Γ) (fn:=Tryz.f109) rfl rfl rfl rfl ?_
 refine gB ?_
 refine Call.pure c0 rfl fc ?_
 rintro _ rfl
 refine gA ?_
 refine Call.pure c1 rfl fc ?_
 rintro _ rfl
 refine gA ?_
 refine Call.pure c2 rfl fc ?_
 rintro _ rfl
 refine gA ?_
 refine Call.pure c3 rfl fc ?_
 rintro _ rfl
 refine gA ?_
 refine Call.pure c4 rfl fc ?_
 rintro _ rfl
 refine gA ?_
 refine Ret.i (.ai (nmF d)) [] [] rfl fc rfl rfl fc rfl fc rfl
theorem aYT (p q:RP) (P Q:Pt) (hp:RR p P) (hq:RR q Q):Sx.Fn Γ.P 111 [p.V,q.V,.ai (nmF dF)] [] (λv _=>∃o:RP,RR o (P.add Q)/\v=o.V):=by
 obtain⟨x1,y1,z1⟩:=p
 obtain⟨x2,y2,z2⟩:=q
 have hR:=λz zz xv yw xw e more less h1 h2 h3 h4 h5 h6 h7 h8=>@aE5 x1 y1 z1 x2 y2 z2 P Q hp hq z zz xv yw xw e more less h1 h2 h3 h4 h5 h6 h7 h8
 unfold RP.V
 simp only
 generalize dF=d at *
 have c1:=fV z1 z2
 obtain⟨z,hz⟩:∃u,u=z1*z2:=⟨_,rfl⟩
 rw[<-hz]at c1
 have c2:=fV z z
 obtain⟨zz,hzz⟩:∃u,u=z*z:=⟨_,rfl⟩
 rw[<-hzz]at c2
 have c3:=fV x1 x2
 obtain⟨xv,hxv⟩:∃u,u=x1*x2:=⟨_,rfl⟩
 rw[<-hxv]at c3
 have c4:=fV y1 y2
 obtain⟨yw,hyw⟩:∃u,u=y1*y2:=⟨_,rfl⟩
 rw[<-hyw]at c4
 have c5:=fV x1 y2
 obtain⟨t1,ht1⟩:∃u,u=x1*y2:=⟨_,rfl⟩
 rw[<-ht1]at c5
 have c6:=fV y1 x2
 obtain⟨t2,ht2⟩:∃u,u=y1*x2:=⟨_,rfl⟩
 rw[<-ht2]at c6
 have c7:=aHK t1 t2
 obtain⟨xw,hxw⟩:∃u,u=t1+t2:=⟨_,rfl⟩
 rw[<-hxw]at c7
 have c8:=fV xv yw
 obtain⟨t3,ht3⟩:∃u,u=xv*yw:=⟨_,rfl⟩
 rw[<-ht3]at c8
 have c9:=fV d t3
 obtain⟨e,he⟩:∃u,u=d*t3:=⟨_,rfl⟩
 rw[<-he]at c9
 have d1:=aHK zz e
 obtain⟨more,hmore⟩:∃u,u=zz+e:=⟨_,rfl⟩
 rw[<-hmore]at d1
 have d2:=aUW zz e
 obtain⟨less,hless⟩:∃u,u=zz-e:=⟨_,rfl⟩
 rw[<-hless]at d2
 have d3:=fV z less
 obtain⟨t4,ht4⟩:∃u,u=z*less:=⟨_,rfl⟩
 rw[<-ht4]at d3
 have d4:=fV t4 xw
 obtain⟨X,hX⟩:∃u,u=t4*xw:=⟨_,rfl⟩
 rw[<-hX]at d4
 have d5:=fV z more
 obtain⟨t5,ht5⟩:∃u,u=z*more:=⟨_,rfl⟩
 rw[<-ht5]at d5
 have d6:=aHK yw xv
 obtain⟨t6,ht6⟩:∃u,u=yw+xv:=⟨_,rfl⟩
 rw[<-ht6]at d6
 have d7:=fV t5 t6
 obtain⟨Y,hY⟩:∃u,u=t5*t6:=⟨_,rfl⟩
 rw[<-hY]at d7
 have d8:=fV more less
 obtain⟨Z,hZ⟩:∃u,u=more*less:=⟨_,rfl⟩
 rw[<-hZ]at d8
 have hR:=hR z zz xv yw xw e more less hz hzz hxv hyw (by rw[hxw,ht1,ht2]) (by rw[he,ht3]) hmore hless
 rw[<-ht4,<-hX,<-ht5,<-ht6,<-hY,<-hZ]at hR
 clear hz hzz hxv hyw ht1 ht2 hxw ht3 he hmore hless ht4 hX ht5 ht6 hY hZ hp hq
 have hl:=aC
 refine aG (Γ:=Γ) (fn:=Tryz.f111) rfl rfl rfl rfl ?_
 refine gB ?_
 refine Call.pure c1 rfl fc ?_
 rintro _ rfl
 refine gA ?_
 refine Call.pure c2 rfl fc ?_
 rintro _ rfl
 refine gA ?_
 refine Call.pure c3 rfl fc ?_
 rintro _ rfl
 refine gA ?_
 refine Call.pure c4 rfl fc ?_
 rintro _ rfl
 refine gA ?_
 refine aH.i [[],[0],[],[2],r_4,[],[5],[],[7],r_9,ek,[],kX] [0,1,2,3,5,6,7,8,11,4,9,10,12] (by kernel_rfl) ?_
 refine gA ?_
 refine Call.pure c5 rfl fc ?_
 rintro _ rfl
 refine gA ?_
 refine Call.pure c6 rfl fc ?_
 rintro _ rfl
 refine gA ?_
 refine Call.pure c7 rfl fc ?_
 rintro _ rfl
 refine gA ?_
 refine aH.i [[],[],[],[1,2],r_4,[],r_6] [0,1,2,5,3,4,6] (by kernel_rfl) ?_
 refine gA ?_
 refine Call.pure c8 rfl fc ?_
 rintro _ rfl
 refine gA ?_
 refine Call.pure c9 rfl fc ?_
 rintro _ rfl
 refine gA ?_
 refine aH.i [[],[],[0,1],[],[],r_5,[],[],r_8,r_9] [0,1,3,4,6,7,2,5,8,9] (by kernel_rfl) ?_
 refine gA ?_
 refine Call.pure d1 rfl fc ?_
 rintro _ rfl
 refine gA ?_
 refine Call.pure d2 rfl fc ?_
 rintro _ rfl
 refine gA ?_
 refine aH.i [[],[],[0,1],[],r_4,[],[],r_7,[],[],ek,fe,[],[],oB,nw,na] [0,1,3,5,6,8,9,12,13,2,4,7,10,11,14,15,16] (by kernel_rfl) ?_
 refine gA ?_
 refine Call.pure d3 rfl fc ?_
 rintro _ rfl
 refine gA ?_
 refine Call.pure d4 rfl fc ?_
 rintro _ rfl
 refine gA ?_
 refine Call.pure d5 rfl fc ?_
 rintro _ rfl
 refine gA ?_
 refine Call.pure d6 rfl fc ?_
 rintro _ rfl
 refine gA ?_
 refine Call.pure d7 rfl fc ?_
 rintro _ rfl
 refine gA ?_
 refine Call.pure d8 rfl fc ?_
 rintro _ rfl
 refine gA ?_
 refine Ret.i (.agg [(16,.ai (nmF X)),(16,.ai (nmF Y)),(16,.ai (nmF Z))]) [] [] rfl fc ⟨⟨X,Y,Z⟩,hR,rfl⟩ rfl fc rfl fc rfl
open Go Go.Sx Go.Cu
theorem abB (p:RP) (P:Pt) (hp:RR p P):Sx.Fn Γ.P 84 [p.V] [] (λv _=>v= .a8 (rD P)):=by
 obtain⟨x,y,z⟩:=p
 have c1:=aL7 z
 have hx:=aPP hp
 have hy:=aPO hp
 simp only at hx hy
 generalize inv z=i at *
 have c2:=fV x i
 have c3:=fV y i
 rw[hx]at c2
 rw[hy]at c3
 have c4:=aRD P.y
 have hE:rD P=if P.x.val%2=1 then(leB P.y).set 31 ((leB P.y).getD 31 0+ofNat 128)else leB P.y:=rfl
 have lE:=kQ P
 have lB:=aj P.y
 have hpar:=aNL P.x
 have dg:=iG P.x 0
 have hl:=aC
 have lx:=hl P.x
 unfold RP.V
 simp only
 generalize nmF P.x=A at *
 generalize leB P.y=B at *
 refine aG (Γ:=Γ) (fn:=Tryz.f84) rfl rfl rfl rfl ?_
 refine gB ?_
 refine Call.pure c1 rfl fc ?_
 rintro _ rfl
 refine gA ?_
 refine Call.pure c2 rfl fc ?_
 rintro _ rfl
 refine gA ?_
 refine Call.pure c3 rfl fc ?_
 rintro _ rfl
 refine gA ?_
 refine Call.pure c4 rfl fc ?_
 rintro _ rfl
 refine gA ?_
 refine zB.i ?_ ?_<;>intro h
 ·have h:A.getD 0 0%2=1:=h
  rw[if_pos (hpar.1 h)]at hE
  rw[hE]
  refine gB ?_
  refine Ret.i (.a8 (B.set 31 (B.getD 31 0+ofNat 128))) [] [] rfl fc rfl rfl fc rfl fc rfl
 have h:¬A.getD 0 0%2=1:=h
 rw[if_neg (λe=>h (hpar.2 e))]at hE
 rw[hE]
 refine gB ?_
 refine Ret.i (.a8 B) [] [] rfl fc rfl rfl fc rfl fc rfl
theorem abA (n:List UInt8) (hn:n.length=32) (p:RP) (P:Pt) (hp:RR p P):Sx.Fn Γ.P 85 [.a8 n,p.V] [] (λv _=>∃o:RP,RR o (P.mul (lv n))/\v=o.V):=by
  have cF:=aUZ
  have cZ:=aUY
  have cS:=λp q P Q hp hq=>aYT p q P Q hp hq
  have hO:=aS1
  have hlt:=aGL n
  rw[hn]at hlt
  have ld:=aC dF
  have hl:=aC
  have hend:lv n%2^256=lv n:=Nat.mod_eq_of_lt hlt
  unfold RP.V at *
  generalize nmF dF=d at *
  generalize (⟨0,1,1⟩:RP)=zo at *
  refine cV [1000008] (Γ:=Γ) (fn:=Tryz.f85) rfl rfl rfl rfl ?_
  refine gB ?_
  refine Call.pure cF rfl fc ?_
  rintro _ rfl
  refine gA ?_
  refine Call.pure cZ rfl fc ?_
  rintro _ rfl
  refine gA ?_
  refine aY.i (σ:=Nat×RP×RP) (λs=>s.1<=256/\RR s.2.1 (P.mul (lv n%2^s.1))/\RR s.2.2 (P.mul (2^s.1)))
    (λs=>([(2,.ptr 2 0 none),(3,.ptr 3 0 none),(4,.ptr 4 0 none),(5,.ptr 5 0 none),(6,.ptr 6 0 none),(7,.i .i64 s.1)],
      [(2,.mem true 0 [(32,.a8 n)]),(3,.mem true 0 [(16,.ai (nmF s.2.2.x)),(16,.ai (nmF s.2.2.y)),(16,.ai (nmF s.2.2.z))]),(4,.mem true 0 [(16,.ai (replicate 16 0)),(16,.ai (replicate 16 0)),(16,.ai (replicate 16 0))]),
       (5,.mem true 0 [(16,.ai d)]),(6,.mem true 0 [(16,.ai (nmF s.2.1.x)),(16,.ai (nmF s.2.1.y)),(16,.ai (nmF s.2.1.z))])])) (λs=>256-s.1) (0,zo,p)
    ⟨Nat.zero_le _,by show RR zo (P.mul (lv n%1));rw[Nat.mod_one];exact hO,by show RR p (P.mul 1);rw[Pt.mul_one];exact hp⟩ ?_ ?_
  · refine Le.i [] rfl fc rfl fc rfl
  clear hp hO
  rintro⟨i,o,p⟩ ⟨h1,h2,h3⟩
  have h1:i<=256:=h1
  have h2:RR o (P.mul (lv n%2^i)):=h2
  have h3:RR p (P.mul (2^i)):=h3
  refine zB.i ?_ ?_<;>intro hc
  · have hc:(i:Int)<256:=hc
    have e0:((i:Int)/8).toNat=i/8:=by omega
    have e1:(ofInt ((i:Int)%8)).toNat=i%8:=by
      rw[show((i:Int)%8)=((i%8:Nat):Int) by omega];exact aFT _ (by omega)
    have hbit:aVP n i=mD (n.getD (i/8) 0) (i%8)&&&ofNat 1:=rfl
    have hbv:=tf n i
    have hlow:=Pt.mul_low P (lv n) i
    have cA:=cS o p _ _ h2 h3
    have cB:=cS p p _ _ h3 h3
    have hd2:(P.mul (2^i)).add (P.mul (2^i))=P.mul (2^(i+1)):=by rw[Pt.mul_dbl,Nat.pow_succ']
    rw[hd2]at cB
    refine gB ?_
    refine aOR.i (σ:=RP) (λo=>RR o (P.mul (lv n%2^(i+1)))) (λo=>([(2,.ptr 2 0 none),(3,.ptr 3 0 none),(4,.ptr 4 0 none),(5,.ptr 5 0 none),(6,.ptr 6 0 none),(7,.i .i64 i)],
      [(2,.mem true 0 [(32,.a8 n)]),(3,.mem true 0 [(16,.ai (nmF p.x)),(16,.ai (nmF p.y)),(16,.ai (nmF p.z))]),(4,.mem true 0 [(16,.ai (replicate 16 0)),(16,.ai (replicate 16 0)),(16,.ai (replicate 16 0))]),
       (5,.mem true 0 [(16,.ai d)]),(6,.mem true 0 [(16,.ai (nmF o.x)),(16,.ai (nmF o.y)),(16,.ai (nmF o.z))])])) ?_ ?_
    · repeat refine sdI ?_
      refine zB.i ?_ ?_<;>intro hb
      · have hb:mD (n.getD ((i:Int)/8).toNat 0) (ofInt ((i:Int)%8)).toNat&&&ofNat 1=ofNat 1:=hb
        rw[e0,e1,<-hbit]at hb
        rw[hb]at hbv
        have hb1:lv n/2^i%2=1:=hbv.symm
        rw[if_pos hb1]at hlow
        rw[<-hlow]at cA
        refine gB ?_
        refine Call.pure cA rfl fc ?_
        rintro v ⟨w,hw,rfl⟩
        refine gB ?_
        refine⟨w,hw,Le.i [] rfl fc rfl fc rfl⟩
      have hb:¬mD (n.getD ((i:Int)/8).toNat 0) (ofInt ((i:Int)%8)).toNat&&&ofNat 1=ofNat 1:=hb
      rw[e0,e1,<-hbit]at hb
      have hb1:¬lv n/2^i%2=1:=λe=>hb (UInt8.toNat_inj.1 (hbv.trans e))
      rw[if_neg hb1]at hlow
      rw[<-hlow]at h2
      refine gB ?_
      refine⟨o,h2,Le.i [] rfl fc rfl fc rfl⟩
    clear h2 hlow cA
    rintro w hw
    refine gB ?_
    refine Call.pure cB rfl fc ?_
    rintro v ⟨u,hu,rfl⟩
    refine gB ?_
    refine⟨(i+1,w,u),⟨by show i+1<=256;omega,hw,hu⟩,by show 256-(i+1)<256-i;omega,Le.i [] rfl fc rfl fc rfl⟩
  obtain rfl:i=256:=by have hc:¬(i:Int)<256:=hc;omega
  have h2:RR o (P.mul (lv n)):=by rw[<-hend];exact h2
  refine gB ?_
  refine Ret.i (.agg [(16,.ai (nmF o.x)),(16,.ai (nmF o.y)),(16,.ai (nmF o.z))]) [] [] rfl fc ⟨o,h2,rfl⟩ rfl fc rfl fc rfl
open Go Go.Sx Go.Cu
theorem aTX (x:UInt8):x%ofNat 128=x&&&ofNat 127:=by
 have h:∀ z:Fin 256,ofNat z.val % ofNat 128 = ofNat z.val &&& ofNat 127:=by decide +kernel
 have h2:=h ⟨x.toNat,x.toNat_lt⟩
 rw[UInt8.ofNat_toNat]at h2;exact h2
def rdQ (b:List UInt8) (v:SV):Prop:=(okD b/\∃o:RP,RR o (vg b)/\v= .tup [o.V,.tt])\/(¬okD b/\v= .tup [RP.V ⟨0,1,1⟩,.ff])
theorem aOH {b:List UInt8} (h:okD b) {x y:F} (vx:x=aIA b) (vy:y=nF b):RR ⟨x,y,1⟩ (vg b):=
 ⟨aFP,by show x=_*1;rw[vx,aAN h];exact gr,by show y=_*1;rw[vy,aAM h];exact gr⟩
theorem aE8 (b:List UInt8) (y x:F) (od:Prop) (vy:y=nF b) (hr:x=dn (xxF (nF b))) (hsq:mv (xxF (nF b))) (heq:leB (ofF (kF b))=kF b) (hu:od↔tk b)
  (hno:¬(tk b/\dn (xxF (nF b))=0)) (T:Tm) (M:Mm)
  (hle:Le [] [(2,.ptr 2 0 none),(4,.bool od),(5,.ptr 5 0 none),(7,.ptr 7 0 none),(8,.ptr 8 0 none)]
   [(2,.mem true 0 [(16,.ai (replicate 16 0)),(16,.ai (replicate 16 0)),(16,.ai (replicate 16 0))]),(5,.mem true 0 [(16,.ai (nmF y))]),(7,.mem true 0 [(16,.ai (nmF 1))]),(8,.mem true 0 [(16,.ai (nmF x))])] T M):
  aSJ Γ [11] Tryz.f112 11 [] T M (λv _=>rdQ b v):=by
 have ok:okD b:=⟨heq,hsq,hno⟩
 have cN:=aL2 x
 have r1:tk b->RR ⟨0-x,y,1⟩ (vg b):=λho=>aOH ok (by rw[hr];unfold aIA;rw[if_pos ho];rfl) vy
 have r2:¬tk b->RR ⟨x,y,1⟩ (vg b):=λho=>aOH ok (by rw[hr];unfold aIA;rw[if_neg ho];rfl) vy
 have hl:=aC
 have l1:=hl 1
 unfold rdQ RP.V
 generalize 0-x=n at *
 generalize hone:nmF 1=one at *
 refine Cut.i (σ:=Unit) (λ_=>True) (λ_=>([(2,.ptr 2 0 none),(4,.bool od),(5,.ptr 5 0 none),(7,.ptr 7 0 none),(8,.ptr 8 0 none)],
   [(2,.mem true 0 [(16,.ai (replicate 16 0)),(16,.ai (replicate 16 0)),(16,.ai (replicate 16 0))]),(5,.mem true 0 [(16,.ai (nmF y))]),(7,.mem true 0 [(16,.ai one)]),(8,.mem true 0 [(16,.ai (nmF x))])])) () trivial hle ?_
 rintro - -
 refine gB ?_
 refine zB.i ?_ ?_<;>intro h
 ·have h:od:=h
  have hR:=r1 (hu.1 h)
  refine gB ?_
  refine Call.pure cN rfl fc ?_
  rintro _ rfl
  refine gA ?_
  refine Ret.i (.tup [.agg [(16,.ai (nmF n)),(16,.ai (nmF y)),(16,.ai one)],.tt]) [] [] rfl fc (Or.inl ⟨ok,⟨n,y,1⟩,hR,by simp only;rw[hone]⟩) rfl fc rfl fc rfl
 have h:¬od:=h
 have hR:=r2 (λe=>h (hu.2 e))
 refine gB ?_
 refine Ret.i (.tup [.agg [(16,.ai (nmF x)),(16,.ai (nmF y)),(16,.ai one)],.tt]) [] [] rfl fc (Or.inl ⟨ok,⟨x,y,1⟩,hR,by simp only;rw[hone]⟩) rfl fc rfl fc rfl
theorem aYS (b:List UInt8) (hb:b.length=32):Sx.Fn Γ.P 112 [.a8 b] [] (λv _=>rdQ b v):=by
 have hL:kF b=b.set 31 (b.getD 31 0%ofNat 128):=by rw[aTX];rfl
 have lL:=pl b
 rw[hb]at lL
 have hu:(ofNat 128).toNat<=(b.getD 31 0).toNat↔tk b:=Iff.rfl
 have hdef:okD b↔(leB (ofF (kF b))=kF b/\mv (xxF (nF b))/\¬(tk b/\dn (xxF (nF b))=0)):=Iff.rfl
 have tl:=aE8 b
 have vY0:ofF (kF b)=nF b:=rfl
 have cOf:=aYM (kF b) lL
 rw[vY0]at hdef tl cOf
 have hxx:xxF (nF b)=(nF b*nF b-1)*inv (dF*(nF b*nF b)+1):=rfl
 generalize nF b=Y at *
 generalize kF b=L at *
 have cB:=aRD Y
 have lB:=aj Y
 have c0:=qJ 1 (by omega)
 rw[aV9]at c0
 have s0:=qJ 0 (by omega)
 rw[aZ1]at s0
 have cF:=aUZ
 have cZ:=aUY
 have c1:=fV Y Y
 generalize Y*Y=yy at *
 have c2:=aUW yy 1
 generalize yy-1=s at *
 have c3:=fV dF yy
 generalize dF*yy=m at *
 have c4:=aHK m 1
 generalize m+1=q at *
 have c5:=aL7 q
 generalize inv q=i at *
 have c6:=fV s i
 rw[<-hxx]at c6
 have c7:=aYL (xxF Y)
 clear hxx
 generalize xxF Y=X at *
 have hl:=aC
 have l1:=hl 1
 have l0:=hl 0
 have ld:=hl dF
 have hzero:∀x:F,nmF x=nmF 0↔x=0:=λx=>⟨pc,λe=>by rw[e]⟩
 unfold rdQ RP.V at tl⊢
 unfold RP.V at cZ
 generalize nmF dF=d at *
 generalize hone:nmF 1=one at *
 generalize hz0:nmF 0=z0 at *
 have h128:ofNat 128≠0:=by decide
 refine cV [11] (Γ:=Γ) (fn:=Tryz.f112) rfl rfl rfl rfl ?_
 refine gB ?_
 refine Call.pure cOf rfl fc ?_
 rintro _ rfl
 refine gA ?_
 refine aH.i [[],[0],[],[0,1,2]] [0,2,1,3] (by kernel_rfl) ?_
 refine gA ?_
 refine Call.pure cB rfl fc ?_
 rintro _ rfl
 refine gA ?_
 refine zB.i ?_ ?_<;>intro h
 ·have h:¬leB Y=L:=by rw[hL];exact h
  refine gB ?_
  refine Call.pure cZ rfl fc ?_
  rintro _ rfl
  refine gA ?_
  refine Ret.i (.tup [.agg [(16,.ai z0),(16,.ai one),(16,.ai one)],.ff]) [] [] rfl fc (Or.inr ⟨(λe=>h (hdef.1 e).1),rfl⟩) rfl fc rfl fc rfl
 have h:leB Y=L:=by rw[hL];exact Classical.not_not.1 h
 refine gB ?_
 refine Call.pure c1 rfl fc ?_
 rintro _ rfl
 refine gA ?_
 refine Call.pure c0 rfl fc ?_
 rintro _ rfl
 refine gA ?_
 refine aH.i [[],[],[0,1],[0,1,2],[],r_5,[],r_7,r_8,r_9,ek,fe,kX,kX,[],[0,1,2,3,4,5,6,7,8,9,10,11,12,14],na] [0,1,4,6,14,2,3,5,7,8,9,10,11,12,13,15,16] (by kernel_rfl) ?_
 refine gA ?_
 refine Call.pure c2 rfl fc ?_
 rintro _ rfl
 refine gA ?_
 refine Call.pure cF rfl fc ?_
 rintro _ rfl
 refine gA ?_
 refine Call.pure c3 rfl fc ?_
 rintro _ rfl
 refine gA ?_
 refine Call.pure c4 rfl fc ?_
 rintro _ rfl
 refine gA ?_
 refine Call.pure c5 rfl fc ?_
 rintro _ rfl
 refine gA ?_
 refine Call.pure c6 rfl fc ?_
 rintro _ rfl
 refine gA ?_
 refine Call.pure c7 rfl fc ?_
 rintro v (⟨hsq,rfl⟩|⟨hsq,rfl⟩)
 ·obtain⟨R,hroot⟩:∃R,dn X=R:=⟨_,rfl⟩
  rw[hroot]
  refine gA ?_
  by_cases ho:(ofNat 128).toNat<=(b.getD 31 0).toNat
  ·refine aH.i [[],[0],[0,1],[0,1,2],r_4,r_5,r_5,r_7,r_8,r_9] ek (by kernel_rfl) ?_
   repeat(first|refine gi ?_|refine gt ?_|refine ga ?_|refine sd ?_|(refine zB.i (λhn=>absurd hn ho) (λ_=>?_))|(refine zB.i (λ_=>?_) (λhn=>absurd ho hn)))
   refine Call.pure s0 rfl fc ?_
   rintro _ rfl
   repeat(first|refine gi ?_|refine gt ?_|refine ga ?_|refine sd ?_|(refine zB.i (λhn=>absurd hn ho) (λ_=>?_))|(refine zB.i (λ_=>?_) (λhn=>absurd ho hn)))
   refine zB.i ?_ ?_<;>intro hz
   ·have hz0':R=0:=by
     rcases hz with⟨_,hz⟩|⟨_,hz⟩
     ·exact(hzero R).1 hz
     exact hz.elim
    refine gB ?_
    refine Call.pure cZ rfl fc ?_
    rintro _ rfl
    refine gA ?_
    refine Ret.i (.tup [.agg [(16,.ai z0),(16,.ai one),(16,.ai one)],.ff]) [] [] rfl fc (Or.inr ⟨(λe=>(hdef.1 e).2.2 ⟨hu.1 ho,hroot.trans hz0'⟩),rfl⟩) rfl fc rfl fc rfl
   have hz:¬R=0:=λe=>hz (Or.inl ⟨ho,(hzero R).2 e⟩)
   refine tl Y R ((ofNat 128).toNat<=(b.getD 31 0).toNat) rfl hroot.symm hsq h hu (λe=>hz (hroot.symm.trans e.2)) _ _ (Le.i [] rfl fc rfl fc rfl)
  refine aH.i [[],[0],[0,1],[0,1,2],r_4,r_5,r_5,r_7,r_8,r_9] ek (by kernel_rfl) ?_
  repeat(first|refine gi ?_|refine gt ?_|refine ga ?_|refine sd ?_|(refine zB.i (λhn=>absurd hn ho) (λ_=>?_))|(refine zB.i (λ_=>?_) (λhn=>absurd ho hn)))
  refine tl Y R ((ofNat 128).toNat<=(b.getD 31 0).toNat) rfl hroot.symm hsq h hu (λe=>ho (hu.2 e.1)) _ _ (Le.i [] rfl fc rfl fc rfl)
 refine gA ?_
 refine aH.i [[],[0],[0,1],[0,1,2],r_4,r_5,r_5,r_7,r_8,r_9] ek (by kernel_rfl) ?_
 refine gA ?_
 refine Call.pure cZ rfl fc ?_
 rintro _ rfl
 refine gA ?_
 refine Ret.i (.tup [.agg [(16,.ai z0),(16,.ai one),(16,.ai one)],.ff]) [] [] rfl fc (Or.inr ⟨(λe=>hsq (hdef.1 e).2.1),rfl⟩) rfl fc rfl fc rfl
theorem aRZ:leB (fn 4*inv (fn 5))=basB:=by
 have h5:fn 5 * inv (fn 5) = 1:=iv (by decide +kernel)
 have hb:fn 5 * aR0 = fn 4:=by decide +kernel
 have e:fn 4*inv (fn 5)=aR0:=by
  rw[<-hb];exact gr
 rw[e]
 have h:=yP
 have hx:¬ basP.x.val % 2 = 1:=by decide +kernel
 unfold rD at h
 rw[if_neg hx]at h
 exact h
theorem aa9:Sx.Fn Γ.P 86 [] [] (λv _=>∃o:RP,RR o basP/\v=o.V):=by
 have c4:=qJ 4 (by omega)
 have c5:=qJ 5 (by omega)
 have hb:=aRZ
 generalize fn 4=f4 at *
 generalize fn 5=f5 at *
 have cI:=aL7 f5
 generalize inv f5=i at *
 have cM:=fV f4 i
 generalize f4*i=m at *
 have cB:=aRD m
 rw[hb]at cB
 have cD:=aYS basB rfl
 have hok:=aOO
 unfold rdQ at cD
 rw[aIV]at cD
 have hl:=aC
 have lB:basB.length=32:=rfl
 generalize basB=B at *
 unfold RP.V at *
 refine aG (Γ:=Γ) (fn:=Tryz.f86) rfl rfl rfl rfl ?_
 refine gB ?_
 refine Call.pure c4 rfl fc ?_
 rintro _ rfl
 refine gA ?_
 refine Call.pure c5 rfl fc ?_
 rintro _ rfl
 refine gA ?_
 refine Call.pure cI rfl fc ?_
 rintro _ rfl
 refine gA ?_
 refine Call.pure cM rfl fc ?_
 rintro _ rfl
 refine gA ?_
 refine Call.pure cB rfl fc ?_
 rintro _ rfl
 refine gA ?_
 refine Call.pure cD rfl fc ?_
 rintro v (⟨_,o,ho,rfl⟩|⟨hno,rfl⟩)
 ·refine gA ?_
  refine Ret.i (.agg [(16,.ai (nmF o.x)),(16,.ai (nmF o.y)),(16,.ai (nmF o.z))]) [] [] rfl fc ⟨o,ho,rfl⟩ rfl fc rfl fc rfl
 exact absurd hok hno
open Go Go.Sx Go.Cu
theorem ab3 (x:UInt8):x/ofNat 8*ofNat 8=x&&&ofNat 248:=by
 have h:∀ z:Fin 256,ofNat z.val / ofNat 8 * ofNat 8 = ofNat z.val &&& ofNat 248:=by decide +kernel
 have h2:=h ⟨x.toNat,x.toNat_lt⟩
 rw[UInt8.ofNat_toNat]at h2;exact h2
theorem aXT (x:UInt8):x%ofNat 64+ofNat 64=x&&&ofNat 127|||ofNat 64:=by
 have h:∀ z:Fin 256,ofNat z.val % ofNat 64 + ofNat 64 = ofNat z.val &&& ofNat 127 ||| ofNat 64:=by decide +kernel
 have h2:=h ⟨x.toNat,x.toNat_lt⟩
 rw[UInt8.ofNat_toNat]at h2;exact h2
theorem aRQ (b:List UInt8):clB b=(b.set 0 (b.getD 0 0/ofNat 8*ofNat 8)).set 31 ((b.set 0 (b.getD 0 0/ofNat 8*ofNat 8)).getD 31 0%ofNat 64+ofNat 64):=by
 rw[ab3,aXT];rfl
theorem abP (s:List UInt8) (hs:s.length=32):Sx.Fn Γ.P 44 [.a8 s] []
  (λv _=>v= .tup [.a8 (nuB s),.isl 0 32 1 [(32,.a8 (pfB s))]]):=by
 have cH:=aYD s 32 hs (by omega)
 rw[xc]at cH
 have lH:=aW s
 have hN:=aFX s
 rw[aRQ]at hN
 have lN:=fI s
 have hP:pfB s=(ae s).drop 32:=rfl
 generalize pfB s=P at *
 generalize nuB s=N at *
 generalize ae s=H at *
 have h8:ofNat 8≠0:=by decide
 have h64:ofNat 64≠0:=by decide
 have lT:(H.take 32).length=32:=by rw[zlT,lH];rfl
 have lP:P.length=32:=by rw[hP,zlD,lH]
 refine cV [4,7] (Γ:=Γ) (fn:=Tryz.f44) rfl rfl rfl rfl ?_
 refine gB ?_
 refine Call.i cH [(1000,(1,0,none))] rfl fc rfl fc rfl ?_
 rintro _ _ ⟨rfl,rfl⟩
 refine gN ?_
 refine gB ?_
 refine aH.i [[],[],[0,1]] [0,1,2] (by kernel_rfl) ?_
 refine gA ?_
 refine Cut.i (σ:=Unit) (λ_=>True) (λ_=>([(2,.ptr 2 0 none),(3,.nsl),(4,.ptr 4 0 none),(5,.ptr 5 0 none)],
  [(2,.mem true 0 [(32,.a8 (replicate 32 0))]),(4,.mem true 0 [(64,.a8 H)]),(5,.mem true 0 [(32,.a8 (H.take 32))])])) () trivial (Le.i [] rfl ?_ rfl ?_ rfl) ?_
 ·exact fc
 ·repeat' first|exact trivial|refine zA.app ?_ ?_|refine zA.zd ?_ ?_|refine zA.cons ?_ ?_|exact fc|fail
  all_goals(first|(rw[Option.getD_none,drop_zero,zlT,lH];show _=[]++take 32 (take 32 H)++drop 32 (replicate 32 0);rw[List.take_take];simp;done)|trace_state)
 rintro - -
 have eP:take 32 (drop 32 H)=P:=by rw[<-hP];exact take_of_length_le (by omega)
 generalize H.take 32=N0 at *
 refine gB ?_
 refine Cut.i (σ:=Unit) (λ_=>True) (λ_=>([(2,.ptr 2 0 none),(4,.ptr 4 0 none),(5,.ptr 5 0 none),(6,.sl 450 0 0 0 0)],
  [(2,.mem true 0 [(32,.a8 (replicate 32 0))]),(4,.mem true 0 [(64,.a8 H)]),(5,.mem true 0 [(32,.a8 N)]),(450,.mem true 0 [(0,.a8 [])])])) () trivial
  (Le.ghost [.own 450 [(0,.a8 [])]] [(6,450)] [] rfl ⟨rfl,rfl,trivial⟩ rfl rfl fc rfl fc rfl) ?_
 rintro - -
 refine aH.i [[],[],[],[1,2],r_4,r_5] r_6 (by kernel_rfl) ?_
 refine gA ?_
 refineλc hc=>?_
 have hc:32<=c:=hc
 refine gA ?_
 refine Ret.ghost [.keep 25] [(3,0)] rfl ?_ rfl (.tup [.a8 N,.isl 0 32 1 [(32,.a8 P)]]) [] [] rfl ?_ rfl rfl ?_ rfl ?_ rfl
 ·exact fc
 ·exact fc
 ·repeat' first|exact trivial|refine zA.app ?_ ?_|refine zA.zd ?_ ?_|refine zA.cons ?_ ?_|exact fc|fail
  all_goals(rw[bq];show P=take 32 (drop 32 H);exact eP.symm)
 exact fc
theorem abO (m n q:Nat) (A B C W:List UInt8) (N:Nat) (hA:A.length=m) (hB:B.length=n) (hC:C.length=q) (hN:N=m+n+q) (hx:A++B++C=W) (hle:N<=10000):
  Sx.Fn Γ.P 45 [.slx 1000 0 0 m,.slx 1001 0 0 n,.isl 0 q 1 [(q,.a8 C)]] [(1000,.mem false 0 [(m,.a8 A)]),(1001,.mem false 0 [(n,.a8 B)])]
   (λv M=>v= .a8 (haB W)/\M=[(1000,.mem false 0 [(m,.a8 A)]),(1001,.mem false 0 [(n,.a8 B)])]):=by
 have hW:W.length=N:=by rw[<-hx,zlA,zlA];omega
 have tC:take q C=C:=take_of_length_le (by omega)
 have hx0:Unit->W=A++B++take q C:=λ_=>by rw[tC,hx]
 clear hx
 have cH:=aYD W N hW (by omega)
 rw[xc]at cH
 have cR:=aZ6 (ae W) 64 (aW _) (by omega)
 rw[<-aAC]at cR
 have lH:=aW W
 have lR:=fJ W
 generalize haB W=R at *
 generalize ae W=H at *
 refine cV [2,5] (Γ:=Γ) (fn:=Tryz.f45) rfl rfl rfl rfl ?_
 refine gB ?_
 refine Cut.i (σ:=Unit) (λ_=>True) (λ_=>([(0,.slx 1000 0 0 m),(1,.slx 1001 0 0 n),(2,.isl 0 q 1 [(q,.a8 C)]),(6,.ptr 6 0 none),(7,.sl 450 0 0 0 0)],
  [(6,.mem true 0 [(32,.a8 (replicate 32 0))]),(450,.mem true 0 [(0,.a8 [])]),(1000,.mem false 0 [(m,.a8 A)]),(1001,.mem false 0 [(n,.a8 B)])])) () trivial
  (Le.ghost [.own 450 [(0,.a8 [])]] [(7,450)] [] rfl ⟨rfl,rfl,trivial⟩ rfl rfl fc rfl fc rfl) ?_
 rintro - -
 refine gB ?_
 refineλc1 hc1=>?_
 refine gB ?_
 refineλc2 hc2=>?_
 refine gB ?_
 refineλc3 hc3=>?_
 have hc3:N<=c3:=by rw[hN];exact Nat.le_trans (by omega) hc3
 have hN0:0+m+n+q=N:=by omega
 clear hN
 have tA:take m A=A:=take_of_length_le (by omega)
 have tB:take n B=B:=take_of_length_le (by omega)
 refine gB ?_
 refine Cut.i (σ:=Unit) (λ_=>True) (λ_=>([(6,.ptr 206 0 none),(7,.sl 204 0 0 N c3)],
  [(206,.mem true 0 [(32,.a8 (replicate 32 0))]),(204,.mem true (c3-N) [(N,.a8 W)]),(1000,.mem false 0 [(m,.a8 A)]),(1001,.mem false 0 [(n,.a8 B)])])) () trivial (Le.i [(206,(6,0,none)),(204,(17,0,none))] rfl ?_ rfl ?_ rfl) ?_
 ·exact fcL
 ·repeat' (first|exact trivial|refine zA.app ?_ ?_|refine zA.zd ?_ ?_|refine zA.cons ?_ ?_|exact fcL|fail)
  all_goals(first|(simp only[bq,Ix.val,zQ,Nat.zero_add,zIn,drop_zero,List.nil_append,List.append_nil,tA,tB];exact hx0 ())|trace_state)
 rintro - -
 refine gB ?_
 refine Call.i cH [(1000,(204,0,none))] rfl fc rfl fc rfl ?_
 rintro _ _ ⟨rfl,rfl⟩
 refine gN ?_
 refine gB ?_
 refine Call.i cR [(1000,(8,0,none))] rfl fc rfl fc rfl ?_
 rintro _ _ ⟨rfl,rfl⟩
 refine gN ?_
 refine gB ?_
 refine Ret.i (.a8 R) [(1000,.mem false 0 [(m,.a8 A)]),(1001,.mem false 0 [(n,.a8 B)])] [] rfl fc ⟨rfl,rfl⟩ rfl fc rfl fc rfl
theorem aRC (m n:Nat) (A B W:List UInt8) (N:Nat) (hA:A.length=m) (hB:B.length=n) (hN:N=m+n) (hx:A++B=W) (hle:N<=10000):
  Sx.Fn Γ.P 45 [.isl 0 m 1 [(m,.a8 A)],.isl 0 n 1 [(n,.a8 B)],.nsl] [] (λv _=>v= .a8 (haB W)):=by
 have hW:W.length=N:=by rw[<-hx,zlA];omega
 have hx0:Unit->W=A++B:=λ_=>hx.symm
 clear hx
 have cH:=aYD W N hW (by omega)
 rw[xc]at cH
 have cR:=aZ6 (ae W) 64 (aW _) (by omega)
 rw[<-aAC]at cR
 have lH:=aW W
 have lR:=fJ W
 generalize haB W=R at *
 generalize ae W=H at *
 refine cV [2,5] (Γ:=Γ) (fn:=Tryz.f45) rfl rfl rfl rfl ?_
 refine gB ?_
 refine Cut.i (σ:=Unit) (λ_=>True) (λ_=>([(0,.isl 0 m 1 [(m,.a8 A)]),(1,.isl 0 n 1 [(n,.a8 B)]),(2,.nsl),(6,.ptr 6 0 none),(7,.sl 450 0 0 0 0)],
  [(6,.mem true 0 [(32,.a8 (replicate 32 0))]),(450,.mem true 0 [(0,.a8 [])])])) () trivial
  (Le.ghost [.own 450 [(0,.a8 [])]] [(7,450)] [] rfl ⟨rfl,rfl,trivial⟩ rfl rfl fc rfl fc rfl) ?_
 rintro - -
 refine gB ?_
 refineλc1 hc1=>?_
 refine gB ?_
 refineλc2 hc2=>?_
 refine gB ?_
 refineλc3 hc3=>?_
 have hc3:N<=c3:=by rw[hN];exact Nat.le_trans (by omega) hc3
 have hN0:0+m+n+0=N:=by omega
 clear hN
 have tA:take m A=A:=take_of_length_le (by omega)
 have tB:take n B=B:=take_of_length_le (by omega)
 refine gB ?_
 refine Cut.i (σ:=Unit) (λ_=>True) (λ_=>([(6,.ptr 206 0 none),(7,.sl 204 0 0 N c3)],
  [(206,.mem true 0 [(32,.a8 (replicate 32 0))]),(204,.mem true (c3-N) [(N,.a8 W)])])) () trivial (Le.i [(206,(6,0,none)),(204,(17,0,none))] rfl ?_ rfl ?_ rfl) ?_
 ·exact fcL
 ·repeat' (first|exact trivial|refine zA.app ?_ ?_|refine zA.zd ?_ ?_|refine zA.cons ?_ ?_|exact fcL|fail)
  all_goals(first|(simp only[bq,Ix.val,zQ,Nat.zero_add,zIn,drop_zero,List.nil_append,List.append_nil,tA,tB];exact hx0 ())|trace_state)
 rintro - -
 refine gB ?_
 refine Call.i cH [(1000,(204,0,none))] rfl fc rfl fc rfl ?_
 rintro _ _ ⟨rfl,rfl⟩
 refine gN ?_
 refine gB ?_
 refine Call.i cR [(1000,(8,0,none))] rfl fc rfl fc rfl ?_
 rintro _ _ ⟨rfl,rfl⟩
 refine gN ?_
 refine gB ?_
 refine Ret.i (.a8 R) [] [] rfl fc rfl rfl fc rfl fc rfl
theorem aaC (n:List UInt8) (hn:n.length=32):Sx.Fn Γ.P 46 [.a8 n] [] (λv _=>v= .a8 (qm n)):=by
 have cB:=aa9
 have cM:=λo ho=>abA n hn o basP ho
 have cE:=λp hp=>abB p (pS n) hp
 rw[<-kq]at cM
 rw[<-qM]at cE
 have lE:=dS n
 generalize qm n=E at *
 have hl:=aC
 unfold RP.V at *
 refine aG (Γ:=Γ) (fn:=Tryz.f46) rfl rfl rfl rfl ?_
 refine gB ?_
 refine aH.i [[],[],[0,1],[0,1,2],r_4] r_5 (by kernel_rfl) ?_
 refine gA ?_
 refine Call.pure cB rfl fc ?_
 rintro v ⟨o,ho,rfl⟩
 have cM:=cM o ho
 refine gA ?_
 refine Call.pure cM rfl fc ?_
 rintro v ⟨p,hp,rfl⟩
 have cE:=cE p hp
 refine gA ?_
 refine Call.pure cE rfl fc ?_
 rintro _ rfl
 refine gA ?_
 refine Ret.i (.a8 E) [] [] rfl fc rfl rfl fc rfl fc rfl
open Go Go.Sx Go.Cu
theorem abX (s q:List UInt8) (n:Nat) (hs:s.length=32) (hq:q.length=n) (hn:n<=4096):Sx.Fn Γ.P 23 [.a8 s,.isl 0 n 1 [(n,.a8 q)]] [] (λv _=>v= .a8 (sgB s q)):=by
 have cS:=abP s hs
 have lN:=fI s
 have lP:=gU s
 have lF:(pfB s).length=32:=by unfold pfB;rw[zlD,aW]
 have eR:=aE1 s q
 have lR:=mU s q
 have eK:=zw s q
 have lK:=mt s q
 have eS:=uH s q
 have lS:=mM s q
 have eG:=uN s q
 have lG:=gX s q
 have cH1:=aRC 32 n (pfB s) q (pfB s++q) (32+n) lF hq rfl rfl (by omega)
 rw[<-eR]at cH1
 have cB1:=aaC (rrB s q) lR
 have cB2:=aaC (nuB s) lN
 rw[<-ym]at cB2
 have lE:=dS (rrB s q)
 have cH2:=abO 32 32 n (qm (rrB s q)) (spB s) q (qm (rrB s q)++spB s++q) (32+32+n) lE lP hq rfl rfl (by omega)
 rw[<-eK]at cH2
 have cA:=abN (kkB s q) (nuB s) (rrB s q) lK lN lR
 rw[<-eS]at cA
 clear eR eK eS
 generalize sgB s q=G at *
 generalize ssB s q=S at *
 generalize kkB s q=K at *
 generalize qm (rrB s q)=E at *
 generalize rrB s q=R at *
 generalize spB s=A at *
 generalize nuB s=N at *
 generalize pfB s=F at *
 have eG:Unit->G=E++S:=λ_=>eG
 refine cV [5,10] (Γ:=Γ) (fn:=Tryz.f23) rfl rfl rfl rfl ?_
 refine gB ?_
 refine Call.pure cS rfl fc ?_
 rintro _ rfl
 refine gA ?_
 refine Call.pure cH1 rfl fc ?_
 rintro _ rfl
 refine gA ?_
 refine Call.pure cB1 rfl fc ?_
 rintro _ rfl
 refine gA ?_
 refine Call.pure cB2 rfl fc ?_
 rintro _ rfl
 refine gA ?_
 refine Cut.i (σ:=Unit) (λ_=>True) (λ_=>([(1,.isl 0 n 1 [(n,.a8 q)]),(4,.ptr 204 0 none),(5,.ptr 205 0 none),(7,.ptr 207 0 none),(8,.ptr 208 0 none),(9,.ptr 209 0 none)],
  [(204,.mem true 0 [(64,.a8 (replicate 64 0))]),(205,.mem true 0 [(32,.a8 N)]),(207,.mem true 0 [(32,.a8 R)]),(208,.mem true 0 [(32,.a8 E)]),(209,.mem true 0 [(32,.a8 A)])])) () trivial
  (Le.i [(204,(4,0,none)),(205,(5,0,none)),(207,(7,0,none)),(208,(8,0,none)),(209,(9,0,none))] rfl fc rfl fc rfl) ?_
 rintro - -
 refine aH.i [[],[],[],[0,1,2],[],r_5] [0,1,2,4,3,5] (by kernel_rfl) ?_
 refine gA ?_
 refine Call.i cH2 [(1000,(208,0,none)),(1001,(209,0,none))] rfl fc rfl fc rfl ?_
 rintro _ _ ⟨rfl,rfl⟩
 refine gN ?_
 refine gA ?_
 refine Call.pure cA rfl fc ?_
 rintro _ rfl
 refine gA ?_
 refine aH.i [[],[],[0,1]] [0,1,2] (by kernel_rfl) ?_
 refine gA ?_
 refine aH.i [[],[],[0,1]] [0,1,2] (by kernel_rfl) ?_
 refine gA ?_
 refine Cut.i (σ:=Unit) (λ_=>True) (λ_=>([(4,.ptr 204 0 none),(12,.ptr 212 0 none)],
  [(204,.mem true 0 [(64,.a8 (replicate 64 0))]),(212,.mem true 0 [(64,.a8 G)])])) () trivial (Le.i [(204,(204,0,none)),(212,(12,0,none))] rfl ?_ rfl ?_ rfl) ?_
 ·exact fc
 ·repeat' first|exact trivial|refine zA.app ?_ ?_|refine zA.zd ?_ ?_|refine zA.cons ?_ ?_|exact fc|fail
  all_goals(
   have t1:take 32 E=E:=take_of_length_le (by omega)
   have t2:take 32 S=S:=take_of_length_le (by omega)
   simp only[Option.getD_none,drop_zero,t1,t2,lE,lS]
   exact aM4 lE lS (eG ()))
 rintro - -
 refine gB ?_
 refine Ret.i (.a8 G) [] [] rfl fc rfl rfl fc rfl fc rfl
open Go Go.Sx Go.Cu
open Go Go.Sx Go.Cu
end Go.Proofs.YtllmefnbacjjcaaGreat
