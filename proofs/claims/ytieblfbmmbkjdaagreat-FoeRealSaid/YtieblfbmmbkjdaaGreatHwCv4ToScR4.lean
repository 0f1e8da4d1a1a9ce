/- Walks. -/
import Derived.Test.YtieblfbmmbkjdaaGreatHwSs3ToCv3
import Derived.Test.YtieblfbmmbkjdaaGreatHwTabToCu6
import Derived.Test.YtieblfbmmbkjdaaGreatHx8
import Derived.Shelf.Abstract
set_option linter.unusedSimpArgs false
set_option linter.unusedVariables false
set_option maxHeartbeats 4000000
open List (replicate getD_eq_getElem?_getD length_set length_replicate getElem?_eq_getElem)
open UInt8 (ofNat)
open Int (mul_assoc mul_comm add_mul pow_succ zero_mul sub_mul)
open Nat (le_refl zero_le)
set_option maxRecDepth 100000
namespace Go.Proofs.YtieblfbmmbkjdaaGreat
open Go Go.Sx Go.Cu
theorem aP2 (b:List UInt8):mD (b.getD 31 0) 7=ofNat 1↔tk b:=by
 have h:∀ z:Fin 256,mD (ofNat z.val) 7 = ofNat 1 ↔ 128 <= z.val:=by decide +kernel
 have h2:=h ⟨(b.getD 31 0).toNat,(b.getD 31 0).toNat_lt⟩
 rw[UInt8.ofNat_toNat]at h2;exact h2
theorem zp:leB 0 = replicate 32 0:=by decide +kernel
theorem aOI {b:List UInt8} (h:okD b) {x y:List UInt64} (bx:Lb x) (by_:Lb y) (vx:fv x=aIA b) (vy:fv y=nF b):PR ⟨x,y,wI,cd x y⟩ (vg b):=by
 refine⟨⟨bx,by_,j8,aP _ _⟩,⟨?_,?_,?_⟩,?_⟩
 ·simp only;rw[j9];exact aFP
 ·simp only;rw[j9,vx,aAN h];exact gr
 ·simp only;rw[j9,vy,aAM h];exact gr
 simp only;rw[ak bx by_,j9,vx,vy,aAN h,aAM h];exact gr
def pt0:SV:=.agg [(5,.a64 (replicate 5 0)),(5,.a64 (replicate 5 0)),(5,.a64 (replicate 5 0)),(5,.a64 (replicate 5 0)),(1,.ff)]
def aWI (b:List UInt8) (v:SV):Prop:=(okD b/\∃o:PL,PR o (vg b)/\v= .tup [ptV o True,.tt])\/(¬okD b/\v= .tup [pt0,.ff])
theorem aME (b:List UInt8) (y x:List UInt64) (u:UInt8) (hy:Lb y) (vy:fv y=nF b) (hx:Lb x) (hr:fv x=dn (xxF (nF b))) (hsq:mv (xxF (nF b))) (heq:leB (ofF (kF b))=kF b) (hu:u=ofNat 1↔tk b)
  (hno:¬(tk b/\dn (xxF (nF b))=0)) (T:Tm) (M:Mm)
  (hle:Le [] [(2,.ptr 2 0 none),(4,.u8 u),(5,.ptr 5 0 none),(8,.ptr 8 0 none)]
   [(2,.mem true 0 [(5,.a64 (replicate 5 0)),(5,.a64 (replicate 5 0)),(5,.a64 (replicate 5 0)),(5,.a64 (replicate 5 0)),(1,.ff)]),(5,.mem true 0 [(5,.a64 y)]),(8,.mem true 0 [(5,.a64 x)])] T M):
  aSJ Γ [11] Tryz.f27 11 [] T M (λv _=>aWI b v):=by
 have ok:okD b:=⟨heq,hsq,hno⟩
 have cO:=ac1
 have lO:=j8.1
 have lx:=hx.1
 have ly:=hy.1
 have cN:=aaB x lx
 have bN:=iq x
 have lN:=bN.1
 have vN:=pf hx
 have cM1:=acN (rk x) y lN ly
 have lM1:=(aP (rk x) y).1
 have cM2:=acN x y lx ly
 have lM2:=(aP x y).1
 have r1:tk b->PR ⟨rk x,y,wI,cd (rk x) y⟩ (vg b):=λho=>aOI ok bN hy (by rw[vN,hr];unfold aIA;rw[if_pos ho];rfl) vy
 have r2:¬tk b->PR ⟨x,y,wI,cd x y⟩ (vg b):=λho=>aOI ok hx hy (by rw[hr];unfold aIA;rw[if_neg ho];rfl) vy
 generalize cd (rk x) y=t1 at *
 generalize cd x y=t2 at *
 generalize rk x=n at *
 generalize wI=one at *
 refine Cut.i (σ:=Unit) (λ_=>True) (λ_=>([(2,.ptr 2 0 none),(4,.u8 u),(5,.ptr 5 0 none),(8,.ptr 8 0 none)],
   [(2,.mem true 0 [(5,.a64 (replicate 5 0)),(5,.a64 (replicate 5 0)),(5,.a64 (replicate 5 0)),(5,.a64 (replicate 5 0)),(1,.ff)]),(5,.mem true 0 [(5,.a64 y)]),(8,.mem true 0 [(5,.a64 x)])])) () trivial hle ?_
 rintro - -
 refine gB ?_
 refine zB.i ?_ ?_<;>intro h
 ·have h:u=ofNat 1:=h
  have hR:=r1 (hu.1 h)
  refine gB ?_
  refine Call.pure cN rfl fc ?_
  rintro _ rfl
  refine gA ?_
  refine aH.i [[],[],[],[],[],[2,3,4],r_6,r_7,r_8] [0,1,3,4,2,5,6,7,8] (by kernel_rfl) ?_
  refine gA ?_
  refine Call.pure cO rfl fc ?_
  rintro _ rfl
  refine gA ?_
  refine Call.pure cM1 rfl fc ?_
  rintro _ rfl
  refine gA ?_
  refine Ret.i (.tup [.agg [(5,.a64 n),(5,.a64 y),(5,.a64 one),(5,.a64 t1),(1,.bool True)],.tt]) [] [] rfl fc (Or.inl ⟨ok,_,hR,rfl⟩) rfl fc rfl fc rfl
 have h:¬u=ofNat 1:=h
 have hR:=r2 (λe=>h (hu.2 e))
 refine aH.i [[],[],[],[],[],[2,3,4],r_6,r_7,r_8] [0,1,3,4,2,5,6,7,8] (by kernel_rfl) ?_
 refine gA ?_
 refine Call.pure cO rfl fc ?_
 rintro _ rfl
 refine gA ?_
 refine Call.pure cM2 rfl fc ?_
 rintro _ rfl
 refine gA ?_
 refine Ret.i (.tup [.agg [(5,.a64 x),(5,.a64 y),(5,.a64 one),(5,.a64 t2),(1,.bool True)],.tt]) [] [] rfl fc (Or.inl ⟨ok,_,hR,rfl⟩) rfl fc rfl fc rfl
theorem abW (b:List UInt8) (hb:b.length=32):Sx.Fn Γ.P 27 [.a8 b] [] (λv _=>aWI b v):=by
 have hL:kF b=b.set 31 (b.getD 31 0&&&ofNat 127):=rfl
 have lL:=pl b
 rw[hb]at lL
 have hu:=aP2 b
 have hdef:okD b↔(leB (ofF (kF b))=kF b/\mv (xxF (nF b))/\¬(tk b/\dn (xxF (nF b))=0)):=Iff.rfl
 have tl:=aME b
 have vY0:ofF (kF b)=nF b:=rfl
 have cO:=ac1
 have cF:=abL
 have cOf:=aaC (kF b) lL
 have bY:=(pQ (kF b)).2
 have vY:=aTL (kF b)
 rw[vY0]at vY hdef tl
 generalize nF b=Y at *
 generalize kF b=L at *
 generalize ofL L=y at *
 have lY:=bY.1
 have cB:=fB y lY
 rw[vY]at cB
 have lB:=aj Y
 have c1:=acN y y lY lY
 have b1:=aP y y
 have v1:=ak bY bY
 generalize cd y y=yy at *
 have l1:=b1.1
 have bO:=j8
 have vO:=j9
 have bF:=tR
 have vF:=aHS
 generalize wI=one at *
 generalize aOA=fac at *
 have lO:=bO.1
 have lF:=bF.1
 have c2:=ac2 yy one l1 lO
 have b2:=dL yy one
 have v2:=ic b1 bO
 generalize tj yy one=s at *
 have l2:=b2.1
 have c3:=acN fac yy lF l1
 have b3:=aP fac yy
 have v3:=ak bF b1
 generalize cd fac yy=m at *
 have l3:=b3.1
 have c4:=aYG m one l3 lO
 have b4:=ei m one
 have v4:=kV b3 bO
 generalize wJ m one=d at *
 have l4:=b4.1
 have c5:=abM d l4
 have b5:=xu d
 have v5:=aG4 b4
 generalize aN2 d=i at *
 have l5:=b5.1
 have c6:=acN s i l2 l5
 have b6:=aP s i
 have v6:=ak b2 b5
 generalize cd s i=xx at *
 have l6:=b6.1
 have vX:fv xx=xxF Y:=by
  rw[v6,v2,v5,v4,v3,v1,vO,vF,vY];rfl
 have c7:=abK xx b6
 unfold aPN at c7
 rw[vX]at c7
 refine cV [11] (Γ:=Γ) (fn:=Tryz.f27) rfl rfl rfl rfl ?_
 refine gB ?_
 refine Call.pure cOf rfl fc ?_
 rintro _ rfl
 refine gA ?_
 refine aH.i [[],[0],[],[0,1,2]] [0,2,1,3] (by kernel_rfl) ?_
 refine gA ?_
 refine Call.pure cB rfl fc ?_
 rintro _ rfl
 refine gA ?_
 refine zB.i ?_ ?_<;>intro h
 ·have h:¬leB Y=L:=by rw[hL];exact h
  refine gB ?_
  refine Ret.i (.tup [pt0,.ff]) [] [] rfl fc (Or.inr ⟨(λe=>h (hdef.1 e).1),rfl⟩) rfl fc rfl fc rfl
 have h:leB Y=L:=by rw[hL];exact Classical.not_not.1 h
 refine gB ?_
 refine Call.pure c1 rfl fc ?_
 rintro _ rfl
 refine gA ?_
 refine aH.i [[],[],[0,1],[0,1,2],[],r_5,r_6,r_7,r_8,r_9,[],fe] [0,4,10,1,2,3,5,6,7,8,9,11] (by kernel_rfl) ?_
 refine gA ?_
 refine Call.pure cO rfl fc ?_
 rintro _ rfl
 refine gA ?_
 refine Call.pure c2 rfl fc ?_
 rintro _ rfl
 refine gA ?_
 refine Call.pure cF rfl fc ?_
 rintro _ rfl
 refine gA ?_
 refine Call.pure c3 rfl fc ?_
 rintro _ rfl
 refine gA ?_
 refine Call.pure cO rfl fc ?_
 rintro _ rfl
 refine gA ?_
 refine Call.pure c4 rfl fc ?_
 rintro _ rfl
 refine gA ?_
 refine Call.pure c5 rfl fc ?_
 rintro _ rfl
 refine gA ?_
 refine Call.pure c6 rfl fc ?_
 rintro _ rfl
 refine gA ?_
 refine Call.pure c7 rfl fc ?_
 rintro v (⟨hsq,x,bx,vx,rfl⟩|⟨hsq,rfl⟩)
 ·have lx:=bx.1
  have cX:=fB x lx
  rw[vx]at cX
  have lX:=aj (dn (xxF Y))
  by_cases ho:mD (b.getD 31 0) 7=ofNat 1
  ·repeat(first|refine sd ?_|(refine zB.i (λ_=>?_) (λhn=>absurd ho hn)))
   refine Call.pure cX rfl fc ?_
   rintro _ rfl
   repeat(first|refine sd ?_|(refine zB.i (λ_=>?_) (λhn=>absurd ho hn)))
   refine zB.i ?_ ?_<;>intro hz
   ·have hz:leB (dn (xxF Y))=replicate 32 0:=hz
    have hz0:dn (xxF Y)=0:=xl (by rw[hz,zp])
    refine gB ?_
    refine Ret.i (.tup [pt0,.ff]) [] [] rfl fc (Or.inr ⟨(λe=>(hdef.1 e).2.2 ⟨hu.1 ho,hz0⟩),rfl⟩) rfl fc rfl fc rfl
   have hz:¬leB (dn (xxF Y))=replicate 32 0:=hz
   refine tl y x (mD (b.getD 31 0) 7) bY vY bx vx hsq h hu (λe=>hz (by rw[e.2,zp])) _ _ (Le.i [] rfl fc rfl fc rfl)
  repeat(first|refine sd ?_|(refine zB.i (λhn=>absurd hn ho) (λ_=>?_)))
  refine tl y x (mD (b.getD 31 0) 7) bY vY bx vx hsq h hu (λe=>ho (hu.2 e.1)) _ _ (Le.i [] rfl fc rfl fc rfl)
 refine gB ?_
 refine Ret.i (.tup [pt0,.ff]) [] [] rfl fc (Or.inr ⟨(λe=>hsq (hdef.1 e).2.1),rfl⟩) rfl fc rfl fc rfl
theorem aaH:Sx.Fn Γ.P 33 [] [] (λv _=>∃o:PL,PR o basP/\v=ptV o True):=by
 have cD:=abW x9 rfl
 have hok:=aOO
 unfold aWI at cD
 rw[aIV]at cD
 have e32:(replicate 32 (ofNat 102)).set 0 (ofNat 88)=x9:=rfl
 generalize x9=B at *
 refine aG (Γ:=Γ) (fn:=Tryz.f33) rfl rfl rfl rfl ?_
 refine gB ?_
 refine aY.i (σ:=Nat) (λi=>i<=32) (λi=>([(0,.ptr 0 0 none),(1,.ptr 1 0 none),(5,.i .i64 i)],
  [(0,.mem true 0 [(5,.a64 (replicate 5 0)),(5,.a64 (replicate 5 0)),(5,.a64 (replicate 5 0)),(5,.a64 (replicate 5 0)),(1,.ff)]),(1,.mem true 0 [(32,.a8 (replicate i (ofNat 102)++replicate (32-i) 0))])])) (λi=>32-i) 0 (zero_le _) ?_ ?_
 ·refine Le.i [] rfl fc rfl fc rfl
 rintro i hi
 refine zB.i ?_ ?_<;>intro hc
 ·have hc:(i:Int)<32:=hc
  have hn:replicate (i+1) (ofNat 102)++replicate (32-(i+1)) 0=(replicate i (ofNat 102)++replicate (32-i) 0).set i (ofNat 102):=by
   have e1:replicate (i+1) (ofNat 102)=replicate i (ofNat 102)++[ofNat 102]:=List.replicate_succ'
   have e2:replicate (32-i) (0:UInt8)=0::replicate (32-(i+1)) 0:=by rw[show 32-i=32-(i+1)+1 by omega];rfl
   rw[e1,e2,List.append_assoc,List.set_append_right _ _ (by rw[length_replicate];omega),length_replicate,Nat.sub_self];rfl
  have hl:(replicate i (ofNat 102)++replicate (32-i) 0).length=32:=by rw[zlA,length_replicate,length_replicate];omega
  generalize replicate i (ofNat 102)++replicate (32-i) 0=X at *
  refine gC ?_
  refine⟨i+1,by omega,by omega,Le.i [] rfl fcn rfl fcn rfl⟩
 obtain rfl:i=32:=by have hc:¬(i:Int)<32:=hc;omega
 have hX:(replicate 32 (ofNat 102)++replicate (32-32) 0).set 0 (ofNat 88)=B:=e32
 have hl:(replicate 32 (ofNat 102)++replicate (32-32) 0).length=32:=rfl
 generalize replicate 32 (ofNat 102)++replicate (32-32) 0=X at *
 have lB:B.length=32:=by rw[<-hX,length_set];exact hl
 refine gB ?_
 refine Call.pure cD rfl ?_ ?_
 ·repeat' first|exact trivial|refine zA.app ?_ ?_|refine zA.zd ?_ ?_|refine zA.cons ?_ ?_|exact fc|fail
  all_goals exact hX.symm
 rintro v (⟨_,o,ho,rfl⟩|⟨hno,rfl⟩)
 ·obtain⟨o1,o2,o3,o4⟩:=ho.1.len
  unfold ptV
  refine gA ?_
  refine Ret.i (.agg [(5,.a64 o.x),(5,.a64 o.y),(5,.a64 o.z),(5,.a64 o.t),(1,.bool True)]) [] [] rfl fc ⟨o,ho,rfl⟩ rfl fc rfl fc rfl
 exact absurd hok hno
end Go.Proofs.YtieblfbmmbkjdaaGreat
namespace Go.Proofs.YtieblfbmmbkjdaaGreat
open Go Go.Sx Go.Cu
def cmI (n:List UInt8) (P:Pt) (s:Nat×PL×Prop):Prop:=s.1<=256/\PS s.2.1 s.2.2 (P.mul (lv n/2^(256-s.1)))
def cmT (s:Nat×PL×Prop):Tm:=[(2,.ptr 2 0 none),(3,.ptr 3 0 none),(4,.ptr 4 0 none),(5,.ptr 5 0 none),(6,.i .i64 (255-(s.1:Int)))]
def cmM (n:List UInt8) (p:PL) (r:Prop) (s:Nat×PL×Prop):Mm:=[(2,.mem true 0 [(32,.a8 n)]),(3,.mem true 0 [(5,.a64 p.x),(5,.a64 p.y),(5,.a64 p.z),(5,.a64 p.t),(1,.bool r)]),
 (4,.mem true 0 [(5,.a64 (replicate 5 0)),(5,.a64 (replicate 5 0)),(5,.a64 (replicate 5 0)),(5,.a64 (replicate 5 0)),(1,.ff)]),
 (5,.mem true 0 [(5,.a64 s.2.1.x),(5,.a64 s.2.1.y),(5,.a64 s.2.1.z),(5,.a64 s.2.1.t),(1,.bool s.2.2)])]
theorem acI (n:List UInt8) (hn:n.length=32) (p:PL) (r:Prop) (P:Pt) (hp:PS p r P):Sx.Fn Γ.P 32 [.a8 n,ptV p r] [] (λv _=>∃(o:PL) (s:Prop),PS o s (P.mul (lv n))/\v=ptV o s):=by
 obtain⟨⟨p1,p2,p3,p4⟩,_,_⟩:=id hp
 have hlt:=aGL n
 rw[hn]at hlt
 have hbd:(Tryz.f32).body=some (.seq _ (.scope _)):=rfl
 show Sx.Fn Γ.P 32 [.a8 n,.agg [(5,.a64 p.x),(5,.a64 p.y),(5,.a64 p.z),(5,.a64 p.t),(1,.bool r)]] [] _
 refine aLP [3,1000008] (Γ:=Γ) (fn:=Tryz.f32) rfl hbd rfl rfl ?_
 clear hbd
 refine gB ?_
 refine qd.i [0] (λ_ s=>cmI n P s) (λ_ s=>(cmT s,cmM n p r s)) (λ_ s=>256-s.1) rfl ?_ ⟨?_,trivial⟩
 ·refine gB ?_
  refine Cut.i (σ:=Nat×PL×Prop) (cmI n P) (λs=>(cmT s,cmM n p r s)) (0,⟨replicate 5 0,replicate 5 0,replicate 5 0,replicate 5 0⟩,False)
   ⟨zero_le _,⟨rfl,rfl,rfl,rfl⟩,False.elim,λ_=>by show P.mul (lv n/2^256)= .O;rw[Nat.div_eq_of_lt hlt];rfl⟩ (Le.i [] rfl ?_ rfl ?_ rfl) ?_
  ·exact fc
  ·repeat' first|exact trivial|refine zA.app ?_ ?_|refine zA.zd ?_ ?_|refine zA.cons ?_ ?_|exact fc|fail
   all_goals exact id
  rintro⟨k,a,q⟩ hI
  have hk:k<=256:=hI.1
  have hS:PS a q (P.mul (lv n/2^(256-k))):=hI.2
  unfold cmT cmM
  obtain⟨⟨a1,a2,a3,a4⟩,_,_⟩:=hI.2
  have hAA:=abT a a q q _ _ hS hS
  rw[Pt.mul_dbl]at hAA
  refine gB ?_
  refine zB.i ?_ ?_<;>intro hc
  ·have hc:255-(k:Int)<0:=hc
   obtain rfl:k=256:=by omega
   have e:lv n/2^(256-256)=lv n:=by rw[Nat.sub_self,Nat.pow_zero,Nat.div_one]
   rw[e]at hS
   refine gB ?_
   refine Ret.i (ptV a q) [] [] rfl fc ⟨a,q,hS,rfl⟩ rfl fc rfl fc rfl
  have hc:¬255-(k:Int)<0:=hc
  obtain⟨i,hi⟩:∃i,i=255-k:=⟨_,rfl⟩
  have g1:256-k=i+1:=by omega
  have g2:256-(k+1)=i:=by omega
  have e0:((255-(k:Int))/8).toNat=i/8:=by omega
  have e1:((255-(k:Int))%8).toNat=i%8:=by omega
  have hbit:aVP n i=mD (n.getD (i/8) 0) (i%8)&&&ofNat 1:=rfl
  have hbv:=tf n i
  have htop:=Pt.mul_top P (lv n) i
  rw[g1]at hAA
  clear hS
  unfold ptV at hAA
  refine gB ?_
  refine Call.pure hAA rfl fc ?_
  rintro v ⟨o,ho,rfl⟩
  obtain⟨o1,o2,o3,o4⟩:=ho.1.len
  refine gB ?_
  refine aOR.i (σ:=PL) (λo=>PR o (P.mul (lv n/2^i))) (λo=>([(2,.ptr 2 0 none),(3,.ptr 3 0 none),(4,.ptr 4 0 none),(5,.ptr 5 0 none),(6,.i .i64 (255-(k:Int)))],
   [(2,.mem true 0 [(32,.a8 n)]),(3,.mem true 0 [(5,.a64 p.x),(5,.a64 p.y),(5,.a64 p.z),(5,.a64 p.t),(1,.bool r)]),
   (4,.mem true 0 [(5,.a64 (replicate 5 0)),(5,.a64 (replicate 5 0)),(5,.a64 (replicate 5 0)),(5,.a64 (replicate 5 0)),(1,.ff)]),
   (5,.mem true 0 [(5,.a64 o.x),(5,.a64 o.y),(5,.a64 o.z),(5,.a64 o.t),(1,.bool True)])])) ?_ ?_
  ·repeat refine sdI ?_
   refine zB.i ?_ ?_<;>intro hb
   ·have hb:mD (n.getD ((255-(k:Int))/8).toNat 0) ((255-(k:Int))%8).toNat&&&ofNat 1=ofNat 1:=hb
    rw[e0,e1,<-hbit]at hb
    rw[hb]at hbv
    have hb1:lv n/2^i%2=1:=hbv.symm
    rw[if_pos hb1]at htop
    have hAP:=abT o p True r _ _ ho.ps hp
    rw[<-htop]at hAP
    unfold ptV at hAP
    refine gB ?_
    refine Call.pure hAP rfl fc ?_
    rintro v ⟨w,hw,rfl⟩
    obtain⟨w1,w2,w3,w4⟩:=hw.1.len
    refine gB ?_
    refine⟨w,hw,Le.i [] rfl fc rfl fc rfl⟩
   have hb:¬mD (n.getD ((255-(k:Int))/8).toNat 0) ((255-(k:Int))%8).toNat&&&ofNat 1=ofNat 1:=hb
   rw[e0,e1,<-hbit]at hb
   have hb1:¬lv n/2^i%2=1:=λe=>hb (UInt8.toNat_inj.1 (hbv.trans e))
   rw[if_neg hb1]at htop
   rw[<-htop]at ho
   refine gB ?_
   refine⟨o,ho,Le.i [] rfl fc rfl fc rfl⟩
  clear ho o1 o2 o3 o4 htop hAA
  rintro w hw
  obtain⟨w1,w2,w3,w4⟩:=hw.1.len
  refine gB ?_
  refine⟨rfl,(k+1,w,True),⟨by show k+1<=256;omega,by show PS w True (P.mul (lv n/2^(256-(k+1))));rw[g2];exact hw.ps⟩,trivial,Le.i [] rfl fc rfl fc rfl⟩
 rintro⟨k,a,q⟩ hI
 have⟨k1,k2,k3,k4⟩:=hI.2.1
 refine Cut.i (σ:=Unit) (λ_=>True) (λ_=>(cmT (k,a,q),cmM n p r (k,a,q))) () trivial (Le.i [] rfl fc rfl fc rfl) ?_
 rintro - -
 have hk:k<=256:=hI.1
 have hS:PS a q (P.mul (lv n/2^(256-k))):=hI.2
 unfold cmT cmM
 obtain⟨⟨a1,a2,a3,a4⟩,_,_⟩:=hI.2
 have hAA:=abT a a q q _ _ hS hS
 rw[Pt.mul_dbl]at hAA
 refine gB ?_
 refine zB.i ?_ ?_<;>intro hc
 ·have hc:255-(k:Int)<0:=hc
  obtain rfl:k=256:=by omega
  have e:lv n/2^(256-256)=lv n:=by rw[Nat.sub_self,Nat.pow_zero,Nat.div_one]
  rw[e]at hS
  refine gB ?_
  refine Ret.i (ptV a q) [] [] rfl fc ⟨a,q,hS,rfl⟩ rfl fc rfl fc rfl
 have hc:¬255-(k:Int)<0:=hc
 obtain⟨i,hi⟩:∃i,i=255-k:=⟨_,rfl⟩
 have g1:256-k=i+1:=by omega
 have g2:256-(k+1)=i:=by omega
 have e0:((255-(k:Int))/8).toNat=i/8:=by omega
 have e1:((255-(k:Int))%8).toNat=i%8:=by omega
 have hbit:aVP n i=mD (n.getD (i/8) 0) (i%8)&&&ofNat 1:=rfl
 have hbv:=tf n i
 have htop:=Pt.mul_top P (lv n) i
 rw[g1]at hAA
 clear hS
 unfold ptV at hAA
 refine gB ?_
 refine Call.pure hAA rfl fc ?_
 rintro v ⟨o,ho,rfl⟩
 obtain⟨o1,o2,o3,o4⟩:=ho.1.len
 refine gB ?_
 refine aOR.i (σ:=PL) (λo=>PR o (P.mul (lv n/2^i))) (λo=>([(2,.ptr 2 0 none),(3,.ptr 3 0 none),(4,.ptr 4 0 none),(5,.ptr 5 0 none),(6,.i .i64 (255-(k:Int)))],
  [(2,.mem true 0 [(32,.a8 n)]),(3,.mem true 0 [(5,.a64 p.x),(5,.a64 p.y),(5,.a64 p.z),(5,.a64 p.t),(1,.bool r)]),
  (4,.mem true 0 [(5,.a64 (replicate 5 0)),(5,.a64 (replicate 5 0)),(5,.a64 (replicate 5 0)),(5,.a64 (replicate 5 0)),(1,.ff)]),
  (5,.mem true 0 [(5,.a64 o.x),(5,.a64 o.y),(5,.a64 o.z),(5,.a64 o.t),(1,.bool True)])])) ?_ ?_
 ·repeat refine sdI ?_
  refine zB.i ?_ ?_<;>intro hb
  ·have hb:mD (n.getD ((255-(k:Int))/8).toNat 0) ((255-(k:Int))%8).toNat&&&ofNat 1=ofNat 1:=hb
   rw[e0,e1,<-hbit]at hb
   rw[hb]at hbv
   have hb1:lv n/2^i%2=1:=hbv.symm
   rw[if_pos hb1]at htop
   have hAP:=abT o p True r _ _ ho.ps hp
   rw[<-htop]at hAP
   unfold ptV at hAP
   refine gB ?_
   refine Call.pure hAP rfl fc ?_
   rintro v ⟨w,hw,rfl⟩
   obtain⟨w1,w2,w3,w4⟩:=hw.1.len
   refine gB ?_
   refine⟨w,hw,Le.i [] rfl fc rfl fc rfl⟩
  have hb:¬mD (n.getD ((255-(k:Int))/8).toNat 0) ((255-(k:Int))%8).toNat&&&ofNat 1=ofNat 1:=hb
  rw[e0,e1,<-hbit]at hb
  have hb1:¬lv n/2^i%2=1:=λe=>hb (UInt8.toNat_inj.1 (hbv.trans e))
  rw[if_neg hb1]at htop
  rw[<-htop]at ho
  refine gB ?_
  refine⟨o,ho,Le.i [] rfl fc rfl fc rfl⟩
 clear ho o1 o2 o3 o4 htop hAA
 rintro w hw
 obtain⟨w1,w2,w3,w4⟩:=hw.1.len
 refine gB ?_
 refine⟨rfl,(k+1,w,True),⟨by show k+1<=256;omega,by show PS w True (P.mul (lv n/2^(256-(k+1))));rw[g2];exact hw.ps⟩,(by show 256-(k+1)<256-k;omega),Le.i [] rfl fc rfl fc rfl⟩
end Go.Proofs.YtieblfbmmbkjdaaGreat
namespace Go.Proofs.YtieblfbmmbkjdaaGreat
open Go Go.Sx
def qj:List UInt64:=[6346243789798364141,1503914060200516822,0,1152921504606846976]
theorem aa9:Sx.Fn Γ.P 86 [] [] (λv _=>v= .a64 qj):=by
 refine aG (Γ:=Γ) (fn:=Tryz.f86) rfl rfl rfl rfl ?_
 refine gB ?_
 refine Ret.i (.a64 qj) [] [] rfl trivial rfl rfl ?_ rfl trivial rfl
 rfl
def ah (a b:List UInt64):Nat->List UInt64×UInt64
 |0=>(a,0)
 |i+1=>((ah a b i).1.set i (aJ0 ((ah a b i).1.getD i 0) (b.getD i 0) (ah a b i).2),aEF ((ah a b i).1.getD i 0) (b.getD i 0) (ah a b i).2)
theorem du {a b:List UInt64} (h:a.length=4):∀i,(ah a b i).1.length=4
 |0=>h
 |i+1=>by simp only[ah,length_set,du h i]
theorem aO8 (x y c:UInt64):(aEF x y c).toNat<=1:=by unfold aEF;split <;>decide
theorem oF (a b:List UInt64):∀i,(ah a b i).2.toNat<=1
 |0=>by show(0:UInt64).toNat<=1;decide
 |i+1=>aO8 _ _ _
theorem abA (a b:List UInt64) (ha:a.length=4) (hb:b.length=4):Sx.Fn Γ.P 85 [.a64 a,.a64 b] [] (λv _=>v= .tup [.a64 (ah a b 4).1,.bool ((ah a b 4).2=1)]):=by
 refine aG (Γ:=Γ) (fn:=Tryz.f85) rfl rfl rfl rfl ?_
 refine gB ?_
 refine aY.i (σ:=Nat) (λi=>i<=4)
  (λi=>([(2,.ptr 2 0 none),(3,.ptr 3 0 none),(4,.ptr 4 0 none),(6,.u64 (ah a b i).2),(8,.i .i64 i)],
   [(2,.mem true 0 [(4,.a64 (ah a b i).1)]),(3,.mem true 0 [(4,.a64 b)]),(4,.mem true 0 [(4,.a64 (replicate 4 0))])])) (λi=>4-i) 0 (zero_le _) ?_ ?_
 ·refine Le.i [] rfl fc rfl ?_ rfl
  exact fc
 rintro i hi
 have hl:=du (b:=b) ha i
 have hc1:=oF a b i
 obtain⟨X,hX⟩:∃x,(ah a b i).1=x:=⟨_,rfl⟩
 obtain⟨C,hC⟩:∃x,(ah a b i).2=x:=⟨_,rfl⟩
 have hn1:(ah a b (i+1)).1=X.set i (aJ0 (X.getD i 0) (b.getD i 0) C):=by rw[<-hX,<-hC];rfl
 have hn2:(ah a b (i+1)).2=aEF (X.getD i 0) (b.getD i 0) C:=by rw[<-hX,<-hC];rfl
 refine zB.i ?_ ?_<;>intro hc
 ·have hc:(i:Int)<4:=hc
  rw[hX,hC]
  rw[hX]at hl
  rw[hC]at hc1
  refine aH.i [[],[],[1],[1,2],[],[4],[4,5],[],[1,2,3,4,5,6,7],[1,2,3,4,5,6,7,8],[1,2,3,4,5,6,7,8,9],[1,2,3,4,5,6,7,8,9],fe,[0,1,2,3,4,5,6,7,8,9,10,12],oB] nw (by kernel_rfl) ?_
  refine gB ?_
  refine gB ?_
  refine⟨i+1,by omega,by omega,Le.i [] rfl fc rfl ?_ rfl⟩
  exact fc
 obtain rfl:i=4:=by have hc:¬(i:Int)<4:=hc;omega
 refine gB ?_
 refine Ret.i (.tup [.a64 (ah a b 4).1,.bool ((ah a b 4).2=1)]) [] [] rfl ?_ rfl rfl ?_ rfl trivial rfl
 ·exact fc
 repeat' first|exact trivial|refine zA.app ?_ ?_|refine zA.zd ?_ ?_|refine zA.cons ?_ ?_|exact fc|fail
 exact Iff.rfl
def xN (a:List UInt64):Nat->List UInt8
 |0=>replicate 32 0
 |i+1=>(xN a i).set i (aF (a.getD (i/8) 0) (i%8*8)).toUInt8
theorem iD (a:List UInt64):∀i,(xN a i).length=32
 |0=>length_replicate
 |i+1=>by simp only[xN,length_set,iD a i]
theorem abJ (a:List UInt64) (ha:a.length=4):Sx.Fn Γ.P 56 [.a64 a] [] (λv _=>v= .a8 (xN a 32)):=by
 refine aG (Γ:=Γ) (fn:=Tryz.f56) rfl rfl rfl rfl ?_
 refine gB ?_
 refine aY.i (σ:=Nat) (λi=>i<=32)
  (λi=>([(1,.ptr 1 0 none),(2,.ptr 2 0 none),(3,.ptr 3 0 none),(5,.i .i64 i)],
   [(1,.mem true 0 [(4,.a64 a)]),(2,.mem true 0 [(32,.a8 (replicate 32 0))]),(3,.mem true 0 [(32,.a8 (xN a i))])])) (λi=>32-i) 0 (zero_le _) ?_ ?_
 ·refine Le.i [] rfl fc rfl ?_ rfl
  exact fc
 rintro i hi
 have hl:=iD a i
 have hn:xN a (i+1)=(xN a i).set i (aF (a.getD (i/8) 0) (i%8*8)).toUInt8:=rfl
 refine zB.i ?_ ?_<;>intro hc
 ·have hc:(i:Int)<32:=hc
  have e1:((i:Int)/8).toNat=i/8:=by omega
  have e2:((i:Int)%8*8).toNat=i%8*8:=by omega
  repeat refine sdJ ?_
  refine⟨i+1,by omega,by omega,Le.i [] rfl fc rfl ?_ rfl⟩
  repeat' (first|exact trivial|refine zA.app ?_ ?_|refine zA.zd ?_ ?_|refine zA.cons ?_ ?_|exact fcJ|fail)
 obtain rfl:i=32:=by have hc:¬(i:Int)<32:=hc;omega
 refine gB ?_
 refine Ret.i (.a8 (xN a 32)) [] [] rfl fc rfl rfl fc rfl trivial rfl
def muT (x y:UInt64):UInt64:=aF x 32*(y&&&UInt64.ofNat 4294967295)+aF ((x&&&UInt64.ofNat 4294967295)*(y&&&UInt64.ofNat 4294967295)) 32
def muH (x y:UInt64):UInt64:=aF x 32*aF y 32+aF (muT x y) 32+aF ((muT x y&&&UInt64.ofNat 4294967295)+(x&&&UInt64.ofNat 4294967295)*aF y 32) 32
theorem aYX (x y:UInt64):Sx.Fn Γ.P 101 [.u64 x,.u64 y] [] (λv _=>v= .tup [.u64 (muH x y),.u64 (x*y)]):=by
 refine aG (Γ:=Γ) (fn:=Tryz.f101) rfl rfl rfl rfl ?_
 refine gB ?_
 refine Ret.i (.tup [.u64 (muH x y),.u64 (x*y)]) [] [] rfl trivial rfl rfl ?_ rfl trivial rfl
 exact fc
end Go.Proofs.YtieblfbmmbkjdaaGreat
namespace Go.Proofs.YtieblfbmmbkjdaaGreat
open Go Go.Sx
def dv (l:List Int):Nat->Int
 |0=>0
 |n+1=>dv l n+l.getD n 0*65536^n
def Dig (l:List Int):Prop:=∀i,0<=l.getD i 0/\l.getD i 0<65536
theorem aE {α:Type} {l:List α} {i:Nat} {x d:α} (h:i<l.length):(l.set i x).getD i d=x:=by
 rw[getD_eq_getElem?_getD,List.getElem?_set_self h];rfl
theorem aA {α:Type} {l:List α} {i j:Nat} {x d:α} (h:i≠j):(l.set i x).getD j d=l.getD j d:=by
 rw[getD_eq_getElem?_getD,List.getElem?_set_ne h,<-getD_eq_getElem?_getD]
theorem cG {α:Type} {l:List α} {i:Nat} {d:α} (h:l.length<=i):l.getD i d=d:=by
 rw[getD_eq_getElem?_getD,List.getElem?_eq_none h];rfl
theorem Dig.set {l:List Int} (h:Dig l) {i:Nat} {x:Int} (h0:0<=x) (h1:x<65536):Dig (l.set i x):=by
 intro j
 by_cases hj:i=j
 ·subst hj
  rcases Nat.lt_or_ge i l.length with hl|hl
  ·rw[aE hl];exact⟨h0,h1⟩
  rw[List.set_eq_of_length_le hl];exact h i
 rw[aA hj];exact h j
theorem Dig.rep (n:Nat):Dig (replicate n 0):=by
 intro j
 rw[getD_eq_getElem?_getD,List.getElem?_replicate]
 split <;>decide
theorem fr {l m:List Int}:∀{n:Nat},(∀i,i<n->l.getD i 0=m.getD i 0)->dv l n=dv m n
 |0,_=>rfl
 |n+1,h=>by simp only[dv];rw[fr λi hi=>h i (by omega),h n (by omega)]
theorem aH4 {l:List Int} {i n:Nat} {x:Int} (h:n<=i):dv (l.set i x) n=dv l n:=
 fr λj hj=>aA (by omega)
theorem ar {l:List Int} {i:Nat} {x:Int} (h:i<l.length):dv (l.set i x) (i+1)=dv l i+x*65536^i:=by
 simp only[dv];rw[aH4 (le_refl _),aE h]
theorem pI (n:Nat):(0:Int)<65536^n:=Int.pow_pos (by decide)
theorem aJ {l:List Int} (h:Dig l):∀n,0<=dv l n/\dv l n<65536^n
 |0=>⟨Int.le_refl _,by show(0:Int)<1;decide⟩
 |n+1=>by
  obtain⟨h1,h2⟩:=aJ h n
  obtain⟨h3,h4⟩:=h n
  have hp:=pI n
  have h5:0<=l.getD n 0*65536^n:=Int.mul_nonneg h3 (by omega)
  have h6:l.getD n 0*65536^n<=65535*65536^n:=Int.mul_le_mul_of_nonneg_right (by omega) (by omega)
  simp only[dv]
  rw[pow_succ]
  omega
theorem tT {l:List Int} {a:Nat}:∀{b:Nat},a<=b->(∀i,a<=i->i<b->l.getD i 0=0)->dv l b=dv l a
 |0,h,_=>by
  obtain rfl:a=0:=by omega
  rfl
 |b+1,h,hz=>by
  by_cases hab:a=b+1
  ·rw[hab]
  simp only[dv]
  rw[tT (by omega) λi h1 h2=>hz i h1 (by omega),hz b (by omega) (by omega)]
  omega
def dbS (l:List Int):Nat->List Int×Int
 |0=>(l,0)
 |i+1=>((dbS l i).1.set i (((dbS l i).2+2*(dbS l i).1.getD i 0)%65536),((dbS l i).2+2*(dbS l i).1.getD i 0)/65536)
theorem gn (l:List Int):∀i,(dbS l i).1.length=l.length
 |0=>rfl
 |i+1=>by simp only[dbS,length_set,gn l i]
theorem aID (l:List Int):∀i j,i<=j->(dbS l i).1.getD j 0=l.getD j 0
 |0,_,_=>rfl
 |i+1,j,h=>by simp only[dbS];rw[aA (by omega),aID l i j (by omega)]
theorem tV {l:List Int} (h:Dig l):∀i,Dig (dbS l i).1/\0<=(dbS l i).2/\(dbS l i).2<=1
 |0=>⟨h,Int.le_refl _,by show(0:Int)<=1;decide⟩
 |i+1=>by
  obtain⟨h1,h2,h3⟩:=tV h i
  obtain⟨h4,h5⟩:=h1 i
  refine⟨h1.set ?_ ?_,?_,?_⟩
  ·omega
  ·omega
  ·show 0<=((dbS l i).2+2*(dbS l i).1.getD i 0)/65536;omega
  show((dbS l i).2+2*(dbS l i).1.getD i 0)/65536<=1;omega
theorem aIC (l:List Int):∀i,i<=l.length->dv (dbS l i).1 i+(dbS l i).2*65536^i=2*dv l i
 |0,_=>by simp only[dbS,dv];omega
 |i+1,hi=>by
  have ih:=aIC l i (by omega)
  have hs:=aID l i i (le_refl _)
  have hl:=gn l i
  simp only[dbS]
  rw[ar (by omega)]
  simp only[dv]
  rw[hs]
  have e:((dbS l i).2+2*l.getD i 0)%65536+65536*(((dbS l i).2+2*l.getD i 0)/65536)=(dbS l i).2+2*l.getD i 0:=Int.emod_add_mul_ediv _ _
  rw[pow_succ]
  generalize ((dbS l i).2+2*l.getD i 0)%65536=m at *
  generalize ((dbS l i).2+2*l.getD i 0)/65536=q at *
  generalize (65536:Int)^i=p at *
  have e2:m*p+q*(p*65536)=((dbS l i).2+2*l.getD i 0)*p:=by rw[<-e,add_mul,mul_comm p,<-mul_assoc,mul_comm q]
  rw[add_mul,mul_assoc 2]at e2
  omega
def ordB:List Int:=[0xd3ed,0x5cf5,0x631a,0x5812,0x9cd6,0xa2f7,0xf9de,0x14de,0,0,0,0,0,0,0,0x1000,0]
def ma:Nat->List Int
 |0=>ordB
 |k+1=>(dbS (ma k) 17).1
def Lz:Int:=7237005577332262213973186563042994240857116359379907606001950938285454250989
theorem fT:∀k,(ma k).length=17
 |0=>rfl
 |k+1=>by simp only[ma,gn,fT k]
theorem aKQ:Dig ordB:=by
 intro i
 rcases Nat.lt_or_ge i 17 with h|h
 ·have:∀i,i<17->0<=ordB.getD i 0/\ordB.getD i 0<65536:=by decide
  exact this i h
 rw[cG (by exact h)];decide
theorem jP:∀k,Dig (ma k)
 |0=>aKQ
 |k+1=>(tV (jP k) 17).1
theorem zY:∀k,k<=15->dv (ma k) 17=Lz*2^k
 | 0,_=>by decide +kernel
 |k+1,h=>by
  have ih:=zY k (by omega)
  have hv:=aIC (ma k) 17 (by rw[fT];omega)
  obtain⟨hd,hc0,hc1⟩:=tV (jP k) 17
  obtain⟨hb0,hb1⟩:=aJ hd 17
  rw[ih]at hv
  have hp:(2:Int)^k<=2^14:=by
   have:(2:Nat)^k<=2^14:=Nat.pow_le_pow_right (by decide) (by omega)
   exact_mod_cast this
  have hL:Lz*2^k<=Lz*2^14:=Int.mul_le_mul_of_nonneg_left hp (by decide)
  have hbig:2 * (Lz * 2 ^ 14) < 65536 ^ 17:=by decide +kernel
  have hc:(dbS (ma k) 17).2=0:=by
   rcases Int.lt_or_le (dbS (ma k) 17).2 1 with h1|h1
   ·omega
   have:(dbS (ma k) 17).2=1:=by omega
   rw[this]at hv
   omega
  rw[hc,zero_mul,Int.add_zero]at hv
  show dv (dbS (ma k) 17).1 17=_
  rw[hv,pow_succ]
  generalize (2:Int)^k=q
  rw[mul_comm q 2,<-mul_assoc,<-mul_assoc,mul_comm 2 Lz]
end Go.Proofs.YtieblfbmmbkjdaaGreat
namespace Go.Proofs.YtieblfbmmbkjdaaGreat
open Go Go.Sx
def dgS (b:List UInt8):Nat->List Int
 |0=>[]
 |i+1=>if i%2=0 then dgS b i++[((b.getD i 0).toNat:Int)]else(dgS b i).set (i/2) ((dgS b i).getD (i/2) 0+256*((b.getD i 0).toNat:Int))
theorem bV (b:List UInt8):∀i,(dgS b i).length=(i+1)/2
 |0=>rfl
 |i+1=>by
  simp only[dgS]
  split
  ·rw[zlA,bV b i,List.length_singleton];omega
  rw[length_set,bV b i];omega
theorem dC (b:List UInt8):∀i,Dig (dgS b i)/\(i%2=1->(dgS b i).getD (i/2) 0<256)
 |0=>⟨λj=>by show 0<=([]:List Int).getD j 0/\([]:List Int).getD j 0<65536;rw[cG (by simp)];decide,λh=>by omega⟩
 |i+1=>by
  obtain⟨h1,h2⟩:=dC b i
  have hl:=bV b i
  have hb:=(b.getD i 0).toNat_lt
  simp only[dgS]
  split
  ·rename_i he
   have e:∀j,(dgS b i++[((b.getD i 0).toNat:Int)]).getD j 0=if j=i/2 then((b.getD i 0).toNat:Int)else(dgS b i).getD j 0:=by
    intro j
    rcases Nat.lt_trichotomy j (i/2)with h|h|h
    ·rw[if_neg (by omega),getD_eq_getElem?_getD,List.getElem?_append_left (by omega),<-getD_eq_getElem?_getD]
    ·rw[if_pos h,getD_eq_getElem?_getD,List.getElem?_append_right (by omega),show j-(dgS b i).length=0 by omega];rfl
    rw[if_neg (by omega),cG (by rw[zlA,List.length_singleton];omega),cG (by omega)]
   refine⟨λj=>?_,λ_=>?_⟩
   ·rw[e]
    split
    ·omega
    exact h1 j
   rw[e,if_pos (by omega)];omega
  rename_i he
  obtain⟨h3,h4⟩:=h1 (i/2)
  have h5:=h2 (by omega)
  exact⟨h1.set (by omega) (by omega),λh=>by omega⟩
def byS (d:List Int):Nat->List UInt8
 |0=>replicate 32 0
 |i+1=>((byS d i).set (2*i) (UInt8.ofInt (d.getD i 0%256))).set (2*i+1) (UInt8.ofInt (d.getD i 0/256))
theorem byS_length (d:List Int):∀i,(byS d i).length=32
 |0=>length_replicate
 |i+1=>by simp only[byS,length_set,byS_length d i]
end Go.Proofs.YtieblfbmmbkjdaaGreat
namespace Go.Proofs.YtieblfbmmbkjdaaGreat
open Go Go.Sx
def sbS (r l:List Int):Nat->List Int×Int
 |0=>(r,0)
 |i+1=>if(sbS r l i).1.getD i 0-l.getD i 0-(sbS r l i).2<0 then((sbS r l i).1.set i ((sbS r l i).1.getD i 0-l.getD i 0-(sbS r l i).2+65536),1)
  else((sbS r l i).1.set i ((sbS r l i).1.getD i 0-l.getD i 0-(sbS r l i).2),0)
theorem bT (r l:List Int):∀i,(sbS r l i).1.length=r.length
 |0=>rfl
 |i+1=>by simp only[sbS];split <;>simp only[length_set,bT r l i]
theorem aEV (r l:List Int):∀i j,i<=j->(sbS r l i).1.getD j 0=r.getD j 0
 |0,_,_=>rfl
 |i+1,j,h=>by simp only[sbS];split <;>(show(List.set _ _ _).getD j 0=_;rw[aA (by omega),aEV r l i j (by omega)])
theorem mR {r l:List Int} (hr:Dig r) (hl:Dig l):∀i,Dig (sbS r l i).1/\0<=(sbS r l i).2/\(sbS r l i).2<=1
 |0=>⟨hr,Int.le_refl _,by show(0:Int)<=1;decide⟩
 |i+1=>by
  obtain⟨h1,h2,h3⟩:=mR hr hl i
  have a:=h1 i
  have b:=hl i
  simp only[sbS]
  split
  ·exact⟨h1.set (by omega) (by omega),by show(0:Int)<=1;decide,by show(1:Int)<=1;decide⟩
  exact⟨h1.set (by omega) (by omega),by show(0:Int)<=0;decide,by show(0:Int)<=1;decide⟩
theorem wy (r l:List Int):∀i,i<=r.length->dv (sbS r l i).1 i-(sbS r l i).2*65536^i=dv r i-dv l i
 |0,_=>by simp only[sbS,dv];omega
 |i+1,hi=>by
  have ih:=wy r l i (by omega)
  have hs:=aEV r l i i (le_refl _)
  have hl:=bT r l i
  simp only[sbS]
  rw[hs]
  generalize hB:(sbS r l i).2=B at ih
  split
  ·show dv (List.set _ _ _) (i+1)-1*65536^(i+1)=_
   rw[ar (by omega)]
   simp only[dv]
   rw[pow_succ]
   generalize (65536:Int)^i=p at *
   have:(r.getD i 0-l.getD i 0-B+65536)*p=r.getD i 0*p-l.getD i 0*p-B*p+65536*p:=by rw[add_mul,sub_mul,sub_mul]
   omega
  show dv (List.set _ _ _) (i+1)-0*65536^(i+1)=_
  rw[ar (by omega)]
  simp only[dv]
  generalize (65536:Int)^i=p at *
  have:(r.getD i 0-l.getD i 0-B)*p=r.getD i 0*p-l.getD i 0*p-B*p:=by rw[sub_mul,sub_mul]
  omega
def shS (r:List Int) (x:Int):Nat->List Int
 |0=>(replicate 17 0).set 0 x
 |k+1=>(shS r x k).set (k+1) (r.getD k 0)
theorem gW (r:List Int) (x:Int):∀k,(shS r x k).length=17
 |0=>by simp[shS]
 |k+1=>by simp only[shS,length_set,gW r x k]
theorem ou {r:List Int} {x:Int} (hr:Dig r) (h0:0<=x) (h1:x<65536):∀k,Dig (shS r x k)
 |0=>(Dig.rep 17).set h0 h1
 |k+1=>(ou hr h0 h1 k).set (hr k).1 (hr k).2
theorem aEO (r:List Int) (x:Int):∀k,k<=16->dv (shS r x k) (k+1)=x+65536*dv r k
 |0,_=>by
  show dv (List.set _ _ _) 1=_
  rw[ar (by simp)]
  simp only[dv];omega
 |k+1,h=>by
  have ih:=aEO r x k (by omega)
  simp only[shS]
  rw[ar (by rw[gW];omega),ih]
  simp only[dv]
  rw[pow_succ,Int.mul_add]
  generalize (65536:Int)^k=p
  have:r.getD k 0*(p*65536)=65536*(r.getD k 0*p):=by rw[<-mul_assoc,mul_comm]
  omega
def rdS (r:List Int):Nat->List Int
 |0=>r
 |k+1=>if dv (rdS r k) 17<dv (ma (15-k)) 17 then rdS r k else(sbS (rdS r k) (ma (15-k)) 17).1
theorem jN {r:List Int} (h:r.length=17):∀k,(rdS r k).length=17
 |0=>h
 |k+1=>by simp only[rdS];split <;>simp only[bT,jN h k]
theorem mW {r:List Int} (h:Dig r):∀k,Dig (rdS r k)
 |0=>h
 |k+1=>by
  simp only[rdS];split
  ·exact mW h k
  exact(mR (mW h k) (jP _) 17).1
theorem aOP:0<Lz:=by decide
theorem aE9 {r:List Int} (hd:Dig r) (hl:r.length=17) (hb:dv r 17<Lz*2^16):∀k,k<=16->dv (rdS r k) 17<Lz*2^(16-k)/\dv (rdS r k) 17%Lz=dv r 17%Lz
 |0,_=>⟨hb,rfl⟩
 |k+1,hk=>by
  obtain⟨h1,h2⟩:=aE9 hd hl hb k (by omega)
  have ho:=zY (15-k) (by omega)
  have e:Lz*2^(16-k)=2*(Lz*2^(15-k)):=by
   rw[show 16-k=15-k+1 by omega,pow_succ]
   generalize (2:Int)^(15-k)=q
   rw[mul_comm q 2,<-mul_assoc,<-mul_assoc,mul_comm 2 Lz]
  simp only[rdS]
  rw[show 16-(k+1)=15-k by omega]
  split
  ·rename_i h
   rw[ho]at h
   exact⟨h,h2⟩
  rename_i h
  have hv:=wy (rdS r k) (ma (15-k)) 17 (by rw[jN hl];omega)
  obtain⟨s1,s2,s3⟩:=mR (mW hd k) (jP (15-k)) 17
  obtain⟨b1,b2⟩:=aJ s1 17
  rw[ho]at h hv
  have hc:(sbS (rdS r k) (ma (15-k)) 17).2=0:=by
   rcases Int.lt_or_le (sbS (rdS r k) (ma (15-k)) 17).2 1 with h3|h3
   ·omega
   have h4:(sbS (rdS r k) (ma (15-k)) 17).2=1:=by omega
   rw[h4]at hv
   omega
  rw[hc]at hv
  have hv:dv (sbS (rdS r k) (ma (15-k)) 17).1 17=dv (rdS r k) 17-Lz*2^(15-k):=by omega
  refine⟨by omega,?_⟩
  rw[hv,<-h2,Int.sub_mul_emod_self_left]
def moS (d:List Int) (n:Nat):Nat->List Int
 |0=>replicate 17 0
 |k+1=>rdS (shS (moS d n k) (d.getD (n-1-k) 0) 16) 16
def tov (d:List Int) (n:Nat):Nat->Int
 |0=>0
 |k+1=>tov d n k*65536+d.getD (n-1-k) 0
theorem iH {d:List Int} (h:Dig d) (n:Nat):∀k,Dig (moS d n k)
 |0=>Dig.rep 17
 |k+1=>mW (ou (iH h n k) (h _).1 (h _).2 16) 16
theorem vf (n:Nat):∀k,dv (replicate n 0) k=0
 |0=>rfl
 |k+1=>by
  simp only[dv]
  rw[vf n k,getD_eq_getElem?_getD,List.getElem?_replicate]
  split <;>simp
theorem aF4 {d:List Int} (h:Dig d) (n:Nat):∀k,dv (moS d n k) 17=tov d n k%Lz
 |0=>by rw[show moS d n 0=replicate 17 0 from rfl,vf];rfl
 |k+1=>by
  have ih:=aF4 h n k
  have hD:=iH h n k
  obtain⟨x0,x1⟩:=h (n-1-k)
  have hm0:=Int.emod_nonneg (tov d n k) (show Lz≠0 by decide)
  have hm1:=Int.emod_lt_of_pos (tov d n k) aOP
  have h16:(moS d n k).getD 16 0=0:=by
   obtain⟨b1,b2⟩:=aJ hD 16
   obtain⟨c1,c2⟩:=hD 16
   have:dv (moS d n k) 17=dv (moS d n k) 16+(moS d n k).getD 16 0*65536^16:=rfl
   have hL:Lz<65536^16:=by decide
   rcases Int.lt_or_le 0 ((moS d n k).getD 16 0)with h3|h3
   ·have:1*65536^16<=(moS d n k).getD 16 0*65536^16:=Int.mul_le_mul_of_nonneg_right (by omega) (by decide)
    omega
   omega
  have e17:dv (moS d n k) 16=tov d n k%Lz:=by
   rw[<-ih]
   show _=dv (moS d n k) 16+(moS d n k).getD 16 0*65536^16
   rw[h16];omega
  have hs:=aEO (moS d n k) (d.getD (n-1-k) 0) 16 (by omega)
  rw[e17]at hs
  have hs:dv (shS (moS d n k) (d.getD (n-1-k) 0) 16) 17=d.getD (n-1-k) 0+65536*(tov d n k%Lz):=hs
  have hb:dv (shS (moS d n k) (d.getD (n-1-k) 0) 16) 17<Lz*2^16:=by rw[hs];omega
  obtain⟨r1,r2⟩:=aE9 (ou hD x0 x1 16) (gW _ _ _) hb 16 (by omega)
  have r0:=(aJ (mW (ou hD x0 x1 16) 16) 17).1
  show dv (rdS (shS (moS d n k) (d.getD (n-1-k) 0) 16) 16) 17=(tov d n k*65536+d.getD (n-1-k) 0)%Lz
  rw[<-Int.emod_eq_of_lt r0 (by simpa using r1),r2,hs]
  rw[Int.add_comm (tov d n k*65536),mul_comm (tov d n k)]
  rw[Int.add_emod,Int.mul_emod,Int.emod_emod,<-Int.mul_emod,<-Int.add_emod]
end Go.Proofs.YtieblfbmmbkjdaaGreat
namespace Go.Proofs.YtieblfbmmbkjdaaGreat
open Go Go.Sx
theorem aOE {l:List Int} {i:Nat} {x:Int} (hi:i<l.length):∀{n:Nat},i<n->dv (l.set i x) n=dv l n+(x-l.getD i 0)*65536^i
 |0,h=>absurd h (Nat.not_lt_zero _)
 |n+1,h=>by
  by_cases hn:i=n
  ·subst hn
   rw[ar hi]
   simp only[dv]
   rw[sub_mul];omega
  simp only[dv]
  rw[aOE hi (n:=n) (by omega),aA hn]
  omega
def zcS (z:List Int):Nat->List Int
 |0=>replicate 33 0
 |i+1=>(zcS z i).set i (z.getD i 0)
theorem jH (z:List Int):∀i,(zcS z i).length=33
 |0=>length_replicate
 |i+1=>by simp only[zcS,length_set,jH z i]
theorem aDK {z:List Int} (h:Dig z):∀i,Dig (zcS z i)
 |0=>Dig.rep 33
 |i+1=>(aDK h i).set (h i).1 (h i).2
theorem wQ (z:List Int):∀i j,i<=33->(zcS z i).getD j 0=if j<i then z.getD j 0 else 0
 |0,j,_=>by
  rw[if_neg (by omega)]
  show(replicate 33 (0:Int)).getD j 0=0
  rw[getD_eq_getElem?_getD,List.getElem?_replicate];split <;>rfl
 |i+1,j,h=>by
  simp only[zcS]
  by_cases hj:i=j
  ·subst hj
   rw[aE (by rw[jH];omega),if_pos (by omega)]
  rw[aA hj,wQ z i j (by omega)]
  by_cases h1:j<i
  ·rw[if_pos h1,if_pos (by omega)]
  rw[if_neg h1,if_neg (by omega)]
theorem aOT {z:List Int}:dv (zcS z 16) 33=dv z 16:=by
 rw[tT (a:=16) (b:=33) (by omega) λi h1 h2=>by rw[wQ z 16 i (by omega),if_neg (by omega)]]
 exact fr λi hi=>by rw[wQ z 16 i (by omega),if_pos hi]
def mlP (x y:List Int) (i k:Nat):Int:=if k<16 then x.getD i 0*y.getD k 0 else 0
def mlS (x y d:List Int) (i:Nat):Nat->List Int×Int
 |0=>(d,0)
 |k+1=>((mlS x y d i k).1.set (i+k) (((mlS x y d i k).2+(mlS x y d i k).1.getD (i+k) 0+mlP x y i k)%65536),((mlS x y d i k).2+(mlS x y d i k).1.getD (i+k) 0+mlP x y i k)/65536)
theorem jT (x y d:List Int) (i:Nat):∀k,(mlS x y d i k).1.length=d.length
 |0=>rfl
 |k+1=>by simp only[mlS,length_set,jT x y d i k]
theorem ur {a b:Int} (a0:0<=a) (a1:a<65536) (b0:0<=b) (b1:b<65536):0<=a*b/\a*b<=4294836225:=by
 refine⟨Int.mul_nonneg a0 b0,?_⟩
 have h1:a*b<=65535*b:=Int.mul_le_mul_of_nonneg_right (by omega) b0
 omega
theorem aF8 {x y:List Int} (hx:Dig x) (hy:Dig y) (i k:Nat):0<=mlP x y i k/\mlP x y i k<=4294836225:=by
 unfold mlP
 split
 ·exact ur (hx i).1 (hx i).2 (hy k).1 (hy k).2
 decide
theorem tF {x y d:List Int} (hx:Dig x) (hy:Dig y) (hd:Dig d) (i:Nat):∀k,Dig (mlS x y d i k).1/\0<=(mlS x y d i k).2/\(mlS x y d i k).2<65536
 |0=>⟨hd,Int.le_refl _,by show(0:Int)<65536;decide⟩
 |k+1=>by
  obtain⟨h1,h2,h3⟩:=tF hx hy hd i k
  have h4:=h1 (i+k)
  have h5:=aF8 hx hy i k
  have e1:(mlS x y d i (k+1)).1=(mlS x y d i k).1.set (i+k) (((mlS x y d i k).2+(mlS x y d i k).1.getD (i+k) 0+mlP x y i k)%65536):=rfl
  have e2:(mlS x y d i (k+1)).2=((mlS x y d i k).2+(mlS x y d i k).1.getD (i+k) 0+mlP x y i k)/65536:=rfl
  rw[e1,e2]
  exact⟨h1.set (by omega) (by omega),by omega,by omega⟩
theorem xU {x y d:List Int} (hl:d.length=33) {i:Nat} (hi:i<16):∀k,k<=17->dv (mlS x y d i k).1 33+(mlS x y d i k).2*65536^(i+k)=dv d 33+x.getD i 0*dv y (min k 16)*65536^i
 |0,_=>by
  show dv d 33+0*65536^(i+0)=dv d 33+x.getD i 0*0*65536^i
  rw[Int.mul_zero,zero_mul,zero_mul]
 |k+1,hk=>by
  have ih:=xU (x:=x) (y:=y) hl hi k (by omega)
  have e1:(mlS x y d i (k+1)).1=(mlS x y d i k).1.set (i+k) (((mlS x y d i k).2+(mlS x y d i k).1.getD (i+k) 0+mlP x y i k)%65536):=rfl
  have e2:(mlS x y d i (k+1)).2=((mlS x y d i k).2+(mlS x y d i k).1.getD (i+k) 0+mlP x y i k)/65536:=rfl
  rw[e1,e2,aOE (by rw[jT];omega) (by omega)]
  have es:((mlS x y d i k).2+(mlS x y d i k).1.getD (i+k) 0+mlP x y i k)%65536+65536*(((mlS x y d i k).2+(mlS x y d i k).1.getD (i+k) 0+mlP x y i k)/65536)=(mlS x y d i k).2+(mlS x y d i k).1.getD (i+k) 0+mlP x y i k:=Int.emod_add_mul_ediv _ _
  generalize ((mlS x y d i k).2+(mlS x y d i k).1.getD (i+k) 0+mlP x y i k)%65536=m at *
  generalize ((mlS x y d i k).2+(mlS x y d i k).1.getD (i+k) 0+mlP x y i k)/65536=q at *
  have ep:mlP x y i k*65536^k+x.getD i 0*dv y (min k 16)=x.getD i 0*dv y (min (k+1) 16):=by
   unfold mlP
   split
   ·rw[show min k 16=k by omega,show min (k+1) 16=k+1 by omega]
    simp only[dv]
    rw[Int.mul_add,<-mul_assoc,Int.add_comm]
   rw[show min k 16=16 by omega,show min (k+1) 16=16 by omega,zero_mul,Int.zero_add]
  rw[<-ep,add_mul]
  rw[show i+(k+1)=i+k+1 by omega,pow_succ]
  have e3:mlP x y i k*65536^k*65536^i=mlP x y i k*65536^(i+k):=by rw[mul_assoc,<-Int.pow_add,Nat.add_comm k i]
  rw[e3]
  generalize (65536:Int)^(i+k)=p at *
  have e4:m*p+q*(p*65536)=(mlS x y d i k).2*p+(mlS x y d i k).1.getD (i+k) 0*p+mlP x y i k*p:=by
   rw[<-add_mul,<-add_mul,<-es,add_mul,mul_comm p,<-mul_assoc,mul_comm q]
  rw[sub_mul]
  omega
def mrS (x y z:List Int):Nat->List Int
 |0=>zcS z 16
 |i+1=>(mlS x y (mrS x y z i) i 17).1
theorem jS (x y z:List Int):∀i,(mrS x y z i).length=33
 |0=>jH z 16
 |i+1=>by simp only[mrS,jT,jS x y z i]
theorem kD {x y z:List Int} (hx:Dig x) (hy:Dig y) (hz:Dig z):∀i,Dig (mrS x y z i)
 |0=>aDK hz 16
 |i+1=>(tF hx hy (kD hx hy hz i) i 17).1
theorem aKY {X Y Z A:Int} (hX:X<A) (hX0:0<=X) (hY:Y<65536^16) (hY0:0<=Y) (hZ:Z<65536^16):Z+X*Y<A*65536^16:=by
 have h1:X*Y<=X*(65536^16-1):=Int.mul_le_mul_of_nonneg_left (by omega) hX0
 have h2:(X+1)*(65536^16)<=A*65536^16:=Int.mul_le_mul_of_nonneg_right (by omega) (by decide)
 rw[Int.mul_sub]at h1
 rw[add_mul]at h2
 generalize (65536:Int)^16=B at *
 omega
theorem ph {x y z:List Int} (hx:Dig x) (hy:Dig y) (hz:Dig z):∀i,i<=16->dv (mrS x y z i) 33=dv z 16+dv x i*dv y 16
 |0,_=>by
  show dv (zcS z 16) 33=dv z 16+0*dv y 16
  rw[aOT,zero_mul,Int.add_zero]
 |i+1,hi=>by
  have ih:=ph hx hy hz i (by omega)
  have hv:=xU (x:=x) (y:=y) (d:=mrS x y z i) (jS x y z i) (i:=i) (by omega) 17 (le_refl _)
  obtain⟨h1,h2,h3⟩:=tF hx hy (kD hx hy hz i) i 17
  have b:=(aJ h1 33).1
  have ex:dv x (i+1)=dv x i+x.getD i 0*65536^i:=rfl
  have bx:=aJ hx (i+1)
  have bd:=aKY bx.2 bx.1 (aJ hy 16).2 (aJ hy 16).1 (aJ hz 16).2
  rw[show min 17 16=16 from rfl,ih]at hv
  have e5:x.getD i 0*dv y 16*65536^i=x.getD i 0*65536^i*dv y 16:=by rw[mul_assoc,mul_comm (dv y 16),<-mul_assoc]
  rw[e5,Int.add_assoc,<-add_mul,<-ex]at hv
  rw[<-Int.pow_add,show i+1+16=i+17 by omega]at bd
  have hp:=pI (i+17)
  have hc:(mlS x y (mrS x y z i) i 17).2=0:=by
   rcases Int.lt_or_le 0 (mlS x y (mrS x y z i) i 17).2 with h4|h4
   ·have:1*65536^(i+17)<=(mlS x y (mrS x y z i) i 17).2*65536^(i+17):=Int.mul_le_mul_of_nonneg_right (by omega) (by omega)
    omega
   omega
  rw[hc,zero_mul,Int.add_zero]at hv
  exact hv
theorem aM1 (d:List Int) (n:Nat):∀k,k<=n->tov d n k*65536^(n-k)+dv d (n-k)=dv d n
 |0,_=>by simp only[tov,zero_mul,Int.zero_add,Nat.sub_zero]
 |k+1,h=>by
  have ih:=aM1 d n k (by omega)
  rw[show n-k=n-(k+1)+1 by omega]at ih
  rw[<-ih]
  simp only[tov,dv]
  rw[show n-1-k=n-(k+1) by omega,pow_succ]
  generalize (65536:Int)^(n-(k+1))=p
  rw[add_mul]
  have:tov d n k*65536*p=tov d n k*(p*65536):=by rw[mul_assoc,mul_comm 65536]
  omega
theorem aQJ {d:List Int} (h:Dig d) (n:Nat):dv (moS d n n) 17=dv d n%Lz:=by
 have:=aM1 d n n (le_refl _)
 rw[Nat.sub_self,Int.pow_zero,Int.mul_one]at this
 rw[aF4 h n n,<-this]
 simp only[dv,Int.add_zero]
end Go.Proofs.YtieblfbmmbkjdaaGreat
namespace Go.Proofs.YtieblfbmmbkjdaaGreat
open Go Go.Sx
def vq (b:List UInt8) (i:Nat):UInt64:=aF (b.getD (i/8) 0).toUInt64 (i%8)&&&1
def am (b:List UInt8) (n:Nat):Nat->List UInt64
 |0=>[]
 |k+1=>am b n k++[vq b (8*n-1-k)]
theorem lh (b:List UInt8) (n:Nat):∀k,(am b n k).length=k
 |0=>rfl
 |k+1=>by simp only[am,zlA,lh b n k,List.length_singleton]
structure th (g:Int) (b1 o1 b2 o2 n:Nat) (b:List UInt8) (x:Option Addr) (c:Nat) (W:World):Prop where
 cell:W.cell? ⟨b1,o1,none⟩=some (.slice x n c)
 bytes:∀j,j<n->W.cell? ⟨b2,o2+j,none⟩=some (w8 (b.getD j 0))
 glob:W.cell? ⟨0,0,none⟩=some (.int .i64 g)
def aa4 (b1 o1 b2 o2 n k o:Nat):Prop:=(k=b1/\o=o1)\/(k=b2/\o2<=o/\o<o2+n)\/(k=0/\o=0)
def Kp (b1 o1 b2 o2 n:Nat) (A B:World):Prop:=∀k o v,aa4 b1 o1 b2 o2 n k o->A.cell? ⟨k,o,none⟩=some v->B.cell? ⟨k,o,none⟩=some v
section
variable {g:Int} {b1 o1 b2 o2 n:Nat} {b:List UInt8} {x:Option Addr} {c:Nat}
theorem th.kept {A B:World} (h:th g b1 o1 b2 o2 n b x c A) (hk:Kp b1 o1 b2 o2 n A B):th g b1 o1 b2 o2 n b x c B:=
 ⟨hk _ _ _ (Or.inl ⟨rfl,rfl⟩) h.cell,λj hj=>hk _ _ _ (Or.inr (Or.inl ⟨rfl,by omega,by omega⟩)) (h.bytes j hj),hk _ _ _ (Or.inr (Or.inr ⟨rfl,rfl⟩)) h.glob⟩
def aOC (g:Int) (b1 o1 b2 o2:Nat):Env:=⟨λa=>a=1\/a=2,λa=>if a=1 then(b1,o1)else(b2,o2),λb o ls=>b=0/\o=0/\ls=[(1,.i .i64 g)]⟩
def aNP (n:Nat) (b:List UInt8):Mm:=[(1,.mem false 0 [(1,.slx 2 0 0 n)]),(2,.mem false 0 [(n,.a8 b)])]
theorem gj {W:World} {k o:Nat} {v:Value} (h:W.cell? ⟨k,o,none⟩=some v):k<W.heap.size:=by
 unfold World.cell? at h
 simp only at h
 cases hb:W.heap[k]? with
 |none=>rw[hb]at h;cases h
 |some _=>exact(Array.getElem?_eq_some_iff.1 hb).1
theorem th.conc {W:World} (h:th g b1 o1 b2 o2 n b x c W) (hb:b.length=n) (hnc:n<=c) (hx:c≠0->x=some ⟨b2,o2,none⟩):zF (aOC g b1 o1 b2 o2) (aNP n b) W:=by
 have g1:zG (aNP n b) 1=some (.mem false 0 [(1,.slx 2 0 0 n)]):=rfl
 have g2:zG (aNP n b) 2=some (.mem false 0 [(n,.a8 b)]):=rfl
 have gx:∀{a e},zG (aNP n b) a=some e->(a=1/\e= .mem false 0 [(1,.slx 2 0 0 n)])\/(a=2/\e= .mem false 0 [(n,.a8 b)]):=by
  intro a e he
  by_cases h1:a=1
  ·subst h1;rw[g1]at he;exact Or.inl ⟨rfl,(Option.some.inj he).symm⟩
  by_cases h2:a=2
  ·subst h2;rw[g2]at he;exact Or.inr ⟨rfl,(Option.some.inj he).symm⟩
  unfold aNP at he
  rw[zg h1,zg h2]at he
  simp[zG]at he
 refine⟨λa ha=>?_,λa e he=>?_,λa e he=>?_,λa a' e e' he he' hab ho=>?_,λb' o' ls' hi=>?_,λk o _ ho=>?_,g,rfl,rfl,rfl⟩
 ·rcases ha with rfl|rfl
  ·exact⟨_,g1⟩
  exact⟨_,g2⟩
 ·rcases gx he with h|h
  ·exact Or.inl h.1
  exact Or.inr h.1
 ·rcases gx he with⟨rfl,rfl⟩|⟨rfl,rfl⟩
  ·refine⟨[.slice x n c],⟨[.slice x n c],[],rfl,rfl,⟨_,⟨Or.inr rfl,c,x,hnc,rfl,λhc=>?_⟩,rfl⟩,rfl⟩,⟨λ_=>gj h.cell,λ_ h=>absurd rfl h⟩,λj v hj=>?_,λh=>by cases h⟩
   ·rw[hx hc];rfl
   cases j with
   |zero=>
    simp only[List.getElem?_cons_zero,zoI]at hj
    rw[<-hj];exact h.cell
   |succ j=>simp at hj
  refine⟨b.map w8,⟨b.map w8,[],by simp,by simp[hb],rfl,rfl⟩,⟨λhn=>?_,λ_ h=>absurd rfl h⟩,λj v hj=>?_,λh=>by cases h⟩
  ·have hn0:0<n:=by
    simp only[zL,Bool.false_eq_true,if_false,Nat.add_zero]at hn
    omega
   exact gj (h.bytes 0 hn0)
  have hj2:=(List.getElem?_eq_some_iff.1 hj).1
  rw[List.length_map,hb]at hj2
  have:=h.bytes j hj2
  rw[List.getElem?_map,getElem?_eq_getElem (by omega)]at hj
  simp only[Option.map_some,zoI]at hj
  rw[getD_eq_getElem?_getD,getElem?_eq_getElem (by omega),Option.getD_some,hj]at this
  exact this
 ·rcases gx he with⟨rfl,rfl⟩|⟨rfl,rfl⟩<;>cases ho
 ·obtain⟨rfl,rfl,rfl⟩:=hi
  refine⟨λ_=>gj h.glob,[.int .i64 g],⟨[.int .i64 g],[],rfl,rfl,⟨_,rfl,rfl⟩,rfl⟩,λj v hj=>?_⟩
  cases j with
  |zero=>cases hj;exact h.glob
  |succ j=>cases hj
 obtain⟨a,e,he,hown,_⟩:=ho
 rcases gx he with⟨rfl,rfl⟩|⟨rfl,rfl⟩<;>cases hown
end
end Go.Proofs.YtieblfbmmbkjdaaGreat
namespace Go.Proofs.YtieblfbmmbkjdaaGreat
open Go Go.Sx
theorem xC {P:Program} {a:Act} {o:Oper} {W:World} {l:Nat} {t u:Operand} {x:Value} {ats:Array TypeId} {nx:Next} (ho:o.op= .call {callee:=.value t,args:=#[u],argTypes:=ats}) (ht:a.eval t= .func (.yield l) #[] #[]) (hu:a.eval u=x)
  (hy:(Instr.yield l #[x]).run P W= .ok nx W):(execOp a.eval o).run P W= .ok nx W:=by
 have e1:(#[u]:Array Operand).map a.eval= #[x]:=by simp[hu]
 simp only[execOp,ho,resolve,ht,e1,Deferred.ofValue,Sem.run_bind,Sem.run_pure,Result.andThen_ok,invoke]
 simpa using hy
def mu3 (a:Act) (_:World):Nat:=
 match a.tmps.getD 3 undef with
 | .int _ z=>(z+1).toNat
 |_=>0
theorem aNN {N:Nat} {ρ:Env} {T:Tm} {M:Mm} {a:Act} {w:World} (hc:aZ N ρ T M a w) {z:Int} (h:zX T 3= .i .i64 z) (w':World):mu3 a w'=(z+1).toNat:=by
 have h1:=hc.tm 3
 rw[h]at h1
 have h1:a.tmps.getD 3 undef= .int .i64 z:=h1
 unfold mu3
 rw[h1]
def dT (l:Nat) (z:Int):Tm:=[(0,.raw (.func (.yield l) #[] #[])),(1,.ptr 1 0 none),(3,.i .i64 z)]
theorem aMF {l:Nat} {z:Int} {T:Tm} {N:Nat} {ρ:Env} {M:Mm} {a:Act} {w:World} (hc:aZ N ρ T M a w) (h0:zX T 0= .raw (.func (.yield l) #[] #[])) (h1:zX T 1= .ptr 1 0 none) (h3:zX T 3= .i .i64 z):aZ N ρ (dT l z) M a w:=
 hc.sub (aZP h0 h1 h3)
theorem aCM {g:Int} {m b1 o1 b2 o2 n c:Nat} {b:List UInt8} {x:Option Addr} (hb:b.length=n) (hmax:n<=1000000) (hnc:n<=c) (hx:c≠0->x=some ⟨b2,o2,none⟩) {w0:World} (h0:th g b1 o1 b2 o2 n b x c w0):
  SeqStopsK Fence.wide m Γ.P 103 #[.pointer (some ⟨b1,o1,none⟩)] (λy:UInt64=>#[w64 y]) (Kp b1 o1 b2 o2 n) (λxs=>xs=am b n (8*n)) (λ_=>True) (8*n) w0:=by
 intro l J Jx W hW hJ hJx hY hJ0
 have hWr:th g b1 o1 b2 o2 n b x c W:=by
  have hk:∀{k o v},w0.cell? ⟨k,o,none⟩=some v->W.cell? ⟨k,o,none⟩=some v:=λ{k o v} h=>by
   rw[World.cell?_of_block (hW.block k (gj h))];exact h
  exact⟨hk h0.cell,λj hj=>hk (h0.bytes j hj),hk h0.glob⟩
 rw[show(#[.func (.yield l) #[] #[]]++ #[.pointer (some ⟨b1,o1,none⟩)]:Array Value)=[.func (.yield l) #[] #[],.pointer (some ⟨b1,o1,none⟩)].toArray by simp]
 refine callsIn_of_wp (fn:=Tryz.f103) rfl rfl trivial ?_ rfl
 have hc0:=hWr.conc hb hnc hx
 have start:aZ 25 (aOC g b1 o1 b2 o2) (bG 0 [.raw (.func (.yield l) #[] #[]),.ptr 1 0 none]) (aNP n b) {tmps:=[.func (.yield l) #[] #[],.pointer (some ⟨b1,o1,none⟩)].toArray++Array.replicate (25-[Value.func (.yield l) #[] #[],.pointer (some ⟨b1,o1,none⟩)].toArray.size) undef,defers:=[]} W:=
  sA hc0 ⟨_,_,rfl,⟨rfl,trivial⟩,_,_,rfl,⟨Or.inl rfl,rfl⟩,rfl⟩ (by simp)
 refine wpIn_seq ?_
 refine wpIn_region_lit (dO (Γ:=Γ) (K:=λT=>zX T 0= .raw (.func (.yield l) #[] #[])/\zX T 1= .ptr 1 0 none/\zX T 3= .i .i64 (8*(n:Int)-1)) (λ_=>trivial) 5 rfl ?_ start ?_)
 ·refine gB ?_
  exact⟨rfl,rfl,rfl⟩
 rintro T1 a1 ⟨g0,g1,g3⟩ hc1
 show(Code.block 0 _).wpIn _ _ _ _ _ _
 refine wpIn_block ?_
 refine wpIn_loop (λa W=>∃k:Nat,k<=8*n/\aZ 25 (aOC g b1 o1 b2 o2) (dT l (8*(n:Int)-1-k)) (aNP n b) a W/\th g b1 o1 b2 o2 n b x c W/\J (am b n k) W) mu3 ?_ ?_
 ·exact⟨0,zero_le _,aMF hc1 g0 g1 (by rw[g3];congr 1;omega),hWr,hJ0⟩
 rintro a W1 ⟨k,hk,hc,hr,hj⟩
 have hmu:=aNN hc (z:=8*(n:Int)-1-k) rfl W1
 refine wpIn_seq (wpIn_seq ?_)
 refine wpIn_region_lit (dO (Γ:=Γ) (K:=λT=>zX T 0= .raw (.func (.yield l) #[] #[])/\zX T 1= .ptr 1 0 none/\zX T 3= .i .i64 (8*(n:Int)-1-k)/\zX T 9= .bool (0<=8*(n:Int)-1-k)) (λ_=>trivial) 2 rfl ?_ hc ?_)
 ·refine gB ?_
  exact⟨rfl,rfl,rfl,rfl⟩
 rintro T2 a2 ⟨g0,g1,g3,g9⟩ hc2
 show(Code.cond _ _ _).wpIn _ _ _ _ _ _
 have h9:=zev hc2 (.tmp 9)
 have h9:zRT (aOC g b1 o1 b2 o2) (zX T2 9) (a2.eval (.tmp 9)):=h9
 rw[g9]at h9
 obtain⟨bb,hbb,hbi⟩:=h9
 by_cases hlt:k<8*n
 ·have:bb=true:=hbi.2 (by omega)
  subst this
  refine wpIn_cond_true hbb (wpIn_skip ?_)
  show(Code.seq _ _).wpIn _ _ _ _ _ _
  obtain⟨fn,tmps,assign,body,hy,hR⟩:=hY (am b n k) (vq b (8*n-1-k)) W1 hj (by rw[lh];exact hlt)
  have e1:(8*(n:Int)-1-k).toNat=8*n-1-k:=by omega
  refine wpIn_seq (wpIn_block (wpIn_seq ?_))
  refine wpIn_region_lit (dO (Γ:=Γ) (K:=λT=>zX T 0= .raw (.func (.yield l) #[] #[])/\zX T 1= .ptr 1 0 none/\zX T 3= .i .i64 (8*(n:Int)-1-k)/\zX T 12= .raw (.func (.yield l) #[] #[])/\zX T 22= .u64 (vq b (8*n-1-k))) (λ_=>trivial) 11 rfl ?_ (aMF hc2 g0 g1 g3) ?_)
  ·have e2:((8*(n:Int)-1-k)/8).toNat=(8*n-1-k)/8:=by omega
   have e3:((8*(n:Int)-1-k)%8).toNat=(8*n-1-k)%8:=by omega
   repeat(refine fg.i (by repeat' (first|(show zA _;first|exact trivial|refine zA.app ?_ ?_|refine zA.zd ?_ ?_|refine zA.cons ?_ ?_)|with_reducible rfl|with_reducible assumption|omega |(simp only[Nat.zero_add,e2,e3,rng,Ix.val,zQ,addI,szs]<;>omega)|(simp only[Nat.zero_add,e2,e3,rng,Ix.val,zIn,zme,zQ,addI,Option.getD_none,Option.getD_some,zlT,zlD,zlA,length_set,length_replicate,szs, *]<;>omega)|(simp only[Ix.val];with_reducible assumption)|exact UInt8.toNat_lt _|(apply Eq.trans;(with_reducible assumption);exact rfl)|exact rfl|exactλ_ _=>rfl)) ?_)
   refine⟨rfl,rfl,rfl,rfl,?_⟩
   show SV.u64 (aF (b.getD (fL 0 ((8*(n:Int)-1-k)/8).toNat) 0).toUInt64 ((8*(n:Int)-1-k)%8).toNat&&&UInt64.ofNat 1)=SV.u64 (vq b (8*n-1-k))
   rw[zQ,Nat.zero_add,e2,e3]
   rfl
  rintro T3 a3 ⟨g0,g1,g3,g12,g22⟩ hc3
  have h12:=zev hc3 (.tmp 12)
  have h12:zRT (aOC g b1 o1 b2 o2) (zX T3 12) (a3.eval (.tmp 12)):=h12
  rw[g12]at h12
  have h22:=zev hc3 (.tmp 22)
  have h22:zRT (aOC g b1 o1 b2 o2) (zX T3 22) (a3.eval (.tmp 22)):=h22
  rw[g22]at h22
  refine wpListIn_plain rfl λK hK=>?_
  refine⟨λ_ _=>trivial,?_⟩
  rw[Oper.semAt_eq _ _ _ (by intro c h;cases h),xC (l:=l) rfl h12.1 h22 hy]
  refine⟨λh=>by simp[Fence.wide]at h,hR.mono ?_⟩
  rintro e W' (⟨rfl,hJ',hk'⟩|⟨rfl,hJx'⟩)
  ·-- the round goes on
   have hr':=hr.kept hk'
   have hc4:aZ 25 (aOC g b1 o1 b2 o2) ((23,.tt)::T3) (aNP n b) (a3.put (some 23) (.bool true)) W':=(hc3.world (hr'.conc hb hnc hx)).put (by decide) (zR rfl)
   refine hK _ _ (dO (Γ:=Γ) (K:=λT=>zX T 0= .raw (.func (.yield l) #[] #[])/\zX T 1= .ptr 1 0 none/\zX T 3= .i .i64 (8*(n:Int)-1-k)/\zX T 24= .ff) (λ_=>trivial) 1 rfl ?_ hc4 ?_)
   ·refine⟨?_,?_,?_,rfl⟩
    ·exact g0
    ·exact g1
    exact g3
   rintro T5 a5 ⟨g0,g1,g3,g24⟩ hc5
   show(Code.cond _ _ _).wpIn _ _ _ _ _ _
   have h24:=zev hc5 (.tmp 24)
   have h24:zRT (aOC g b1 o1 b2 o2) (zX T5 24) (a5.eval (.tmp 24)):=h24
   rw[g24]at h24
   refine wpIn_cond_false h24 (wpIn_skip ?_)
   show(Code.region _ _ _).wpIn _ _ _ _ _ _
   refine wpIn_region_lit (dO (Γ:=Γ) (K:=λT=>zX T 0= .raw (.func (.yield l) #[] #[])/\zX T 1= .ptr 1 0 none/\zX T 3= .i .i64 (8*(n:Int)-1-(k+1:Nat))) (λ_=>trivial) 3 rfl ?_ (aMF hc5 g0 g1 g3) ?_)
   ·refine gB ?_
    refine⟨rfl,rfl,?_⟩
    show SV.i .i64 (8*(n:Int)-1-k-1)=_
    congr 1;omega
   rintro T6 a6 ⟨g0,g1,g3⟩ hc6
   have hmu6:=aNN hc6 g3 W'
   refine⟨⟨k+1,by omega,aMF hc6 g0 g1 g3,hr',hJ'⟩,?_⟩
   rw[hmu,hmu6]
   omega
  -- it is told to stop
  have hcx:=hc3.put (d:=23) (by decide) (v:=.ff) (x:=.bool false) (zR rfl)
  have e23:(a3.put (some 23) (.bool false)).eval (.tmp 23)= .bool false:=by
   have:=hcx.tm 23
   rw[aK]at this
   exact this
  refine hK _ _ (wpListIn_plain rfl λK2 hK2=>⟨λ_ _=>trivial,?_⟩)
  rw[Oper.semAt_eq _ _ _ (by intro c h;cases h)]
  have ex:(execOp (a3.put (some 23) (.bool false)).eval {dst:=some 24,op:=Op.unOp UnOp.not 4 (Operand.tmp 23),type:=4,pos:= "scalar.go:30",after:= #[{on:=11,ground:=Ground.data}],guard:=none}).run Γ.P W'= .ok (.value (.bool true)) W':=by
   simp[execOp,e23]
   rfl
  have h24:((a3.put (some 23) (.bool false)).put (some 24) (.bool true)).eval (.tmp 24)= .bool true:=by
   have:=(hcx.put (d:=24) (by decide) (v:=.tt) (x:=.bool true) (zR rfl)).tm 24
   rw[aK]at this
   exact this
  unfold Oper.uponIn
  erw [ex]
  refine hK2 _ _ ?_
  show(Code.cond _ _ _).wpIn _ _ _ _ _ _
  refine wpIn_cond_true h24 (wpIn_ret ?_)
  exact⟨hcx.defers,_,results_none rfl _ _ _,⟨_,rfl⟩,Or.inr ⟨_,trivial,hJx'⟩⟩
 have:bb=false:=by
  cases bb with
  |false=>rfl
  |true=>have:=hbi.1 rfl;omega
 subst this
 obtain rfl:k=8*n:=by omega
 refine wpIn_cond_false hbb (wpIn_exit ?_)
 exact⟨hc2.defers,_,results_none rfl _ _ _,⟨_,rfl⟩,Or.inl ⟨_,rfl,hj⟩⟩
end Go.Proofs.YtieblfbmmbkjdaaGreat
namespace Go.Proofs.YtieblfbmmbkjdaaGreat
open Go Go.Sx
def shW (r:List UInt64) (x:UInt64):List UInt64:=
 [aQ (r.getD 0 0) 1|||x,aQ (r.getD 1 0) 1|||aF (r.getD 0 0) 63,aQ (r.getD 2 0) 1|||aF (r.getD 1 0) 63,aQ (r.getD 3 0) 1|||aF (r.getD 2 0) 63]
def stW (r:List UInt64) (x:UInt64):List UInt64:=if(ah (shW r x) qj 4).2=1 then shW r x else(ah (shW r x) qj 4).1
def mdL (l:List UInt64):List UInt64:=l.foldl stW (replicate 4 0)
theorem tG (l:List UInt64) (x:UInt64):mdL (l++[x])=stW (mdL l) x:=by unfold mdL;rw[List.foldl_append];simp only[List.foldl_cons,List.foldl_nil]
theorem aBC (r:List UInt64) (x:UInt64):(stW r x).length=4:=by
 unfold stW;split
 ·rfl
 exact du rfl 4
theorem bc (l:List UInt64):(mdL l).length=4:=by
 rcases List.eq_nil_or_concat l with rfl|⟨l',x,rfl⟩
 ·rfl
 rw[List.concat_eq_append,tG];exact aBC _ _
def mI (b:List UInt8) (n:Nat) (r:List UInt64):Mm:=[(1000,.mem false 0 [(n,.a8 b)]),(2,.mem true 0 [(4,.a64 (replicate 4 0))]),(3,.mem true 0 [(4,.a64 r)]),(1001,.mem false 0 [(1,.slx 1000 0 0 n)])]
theorem aBP (b:List UInt8) (n:Nat) (r:List UInt64) (hr:r.length=4) (x:UInt64) (K:Tm->Mm->Prop)
  (hK:∀T M,Le [1000,2,3,1001] [] (mI b n (stW r x)) T M->K T M):
  ∃c,c=(match Tryz.f57.body with
   |some (.seq _ (.seq _ (.seq (.seq _ (.block _ (.rangeFunc _ _ _ (.block _ c)))) _)))=>c
   |_=>.skip)/\mE Γ [] [1000,2,3,1001] c [(2,.ptr 2 0 none),(3,.ptr 3 0 none),(4,.u64 x)] (mI b n r) (λe T M=>e= .normal/\K T M):=by
 refine⟨_,rfl,?_⟩
 have hO:=aa9
 have hL:=abA (shW r x) qj rfl rfl
 have hll:=du (a:=shW r x) (b:=qj) rfl 4
 have hs:stW r x=if(ah (shW r x) qj 4).2=1 then shW r x else(ah (shW r x) qj 4).1:=rfl
 have hsl:(shW r x).length=4:=rfl
 have hsh:shW r x=[aQ (r.getD 0 0) 1|||x,aQ (r.getD 1 0) 1|||aF (r.getD 0 0) 63,aQ (r.getD 2 0) 1|||aF (r.getD 1 0) 63,aQ (r.getD 3 0) 1|||aF (r.getD 2 0) 63]:=rfl
 generalize ah (shW r x) qj 4=L at hL hll hs
 unfold mI at hK⊢
 refine gB ?_
 refine aH.i [[],[],[0,1],[0,1,2],r_4,r_4,[],[0,1,2,3,4,6],r_8] [0,6,1,2,3,4,5,7,8] (by kernel_rfl) ?_
 refine gB ?_
 refine Call.pure hO rfl trivial ?_
 rintro _ rfl
 refine cL.i [] rfl rfl ?_
 refine gB ?_
 refine Call.pure hL rfl fc ?_
 rintro _ rfl
 refine cL.i [] rfl rfl ?_
 refine gB ?_
 refine zB.i ?_ ?_<;>intro h
 ·have h:¬L.2=1:=h
  rw[if_neg h]at hs
  refine gB ?_
  refine⟨rfl,hK _ _ ?_⟩
  refine Le.i [] rfl fc rfl fc rfl
 have h:¬¬L.2=1:=h
 rw[if_pos (Decidable.of_not_not h)]at hs
 refine⟨rfl,hK _ _ ?_⟩
 refine Le.i [] rfl fc rfl fc rfl
end Go.Proofs.YtieblfbmmbkjdaaGreat
namespace Go.Proofs.YtieblfbmmbkjdaaGreat
open Go Go.Sx
def nv (f:Nat->Nat) (B:Nat):Nat->Nat
 |0=>0
 |n+1=>nv f B n+f n*B^n
theorem aKS {f:Nat->Nat} {B:Nat} (hB:0<B):∀{n:Nat},(∀i,i<n->f i<B)->nv f B n<B^n
 |0,_=>by simp[nv]
 |n+1,h=>by
  have ih:=aKS hB (n:=n) λi hi=>h i (by omega)
  have h1:=h n (by omega)
  have h2:f n*B^n<=(B-1)*B^n:=Nat.mul_le_mul_right _ (by omega)
  simp only[nv]
  rw[Nat.pow_succ,Nat.mul_comm (B^n) B]
  have h3:(B-1)*B^n+B^n=B*B^n:=by
   rw[show(B-1)*B^n+B^n=(B-1+1)*B^n by rw[Nat.add_mul,Nat.one_mul],show B-1+1=B by omega]
  omega
theorem za {f:Nat->Nat} {B:Nat} (hB:0<B) {q:Nat}:∀{n:Nat},(∀i,i<n->f i<B)->q<n->nv f B n/B^q%B=f q
 |0,_,h=>absurd h (Nat.not_lt_zero _)
 |n+1,h,hq=>by
  have hp:0<B^q:=Nat.pow_pos hB
  simp only[nv]
  by_cases hqn:q=n
  ·subst hqn
   rw[Nat.add_mul_div_right _ _ hp,Nat.div_eq_of_lt (aKS hB λi hi=>h i (by omega)),Nat.zero_add,Nat.mod_eq_of_lt (h q (by omega))]
  have ih:=za hB (q:=q) (n:=n) (λi hi=>h i (by omega)) (by omega)
  have e:f n*B^n=B*(f n*B^(n-q-1))*B^q:=by
   rw[show n=n-q-1+1+q by omega,Nat.pow_add,Nat.pow_succ,show n-q-1+1+q-q-1=n-q-1 by omega]
   rw[<-Nat.mul_assoc,<-Nat.mul_assoc,Nat.mul_comm (f (n-q-1+1+q)*B^(n-q-1)) B]
  rw[e,Nat.add_mul_div_right _ _ hp,Nat.add_mul_mod_self_left]
  exact ih
theorem so {f g:Nat->Nat} {B:Nat}:∀{n:Nat},(∀i,i<n->f i=g i)->nv f B n=nv g B n
 |0,_=>rfl
 |n+1,h=>by simp only[nv];rw[so λi hi=>h i (by omega),h n (by omega)]
theorem dt {f:Nat->Nat} {B W:Nat} (hB:0<B):∀{n:Nat},(∀i,i<n->f i=W/B^i%B)->nv f B n=W%B^n
 |0,_=>by simp[nv,Nat.mod_one]
 |n+1,h=>by
  simp only[nv]
  rw[dt hB λi hi=>h i (by omega),h n (by omega)]
  rw[Nat.pow_succ,Nat.mod_mul,Nat.mul_comm (W/B^n%B)]
def by_ (b:List UInt8) (i:Nat):Nat:=(b.getD i 0).toNat
def wd_ (l:List UInt64) (i:Nat):Nat:=(l.getD i 0).toNat
def bv (b:List UInt8) (n:Nat):Nat:=nv (by_ b) 256 n
def wv (l:List UInt64) (n:Nat):Nat:=nv (wd_ l) 18446744073709551616 n
theorem aVJ (b:List UInt8) (i:Nat):by_ b i<256:=UInt8.toNat_lt _
theorem aSL (l:List UInt64) (i:Nat):wd_ l i<18446744073709551616:=UInt64.toNat_lt _
theorem aZC (b:List UInt8) (n:Nat):bv b n<256^n:=aKS (by decide) λi _=>aVJ b i
theorem wS (l:List UInt64) (n:Nat):wv l n<18446744073709551616^n:=aKS (by decide) λi _=>aSL l i
theorem ta (b:List UInt8) {n q:Nat} (h:q<n):bv b n/256^q%256=by_ b q:=za (by decide) (λi _=>aVJ b i) h
theorem ya (l:List UInt64) {n q:Nat} (h:q<n):wv l n/18446744073709551616^q%18446744073709551616=wd_ l q:=za (by decide) (λi _=>aSL l i) h
theorem vi {a b:List UInt8} {n:Nat} (ha:a.length=n) (hb:b.length=n) (h:∀i,i<n->by_ a i=by_ b i):a=b:=by
 apply List.ext_getElem (by omega)
 intro i h1 h2
 have:=h i (by omega)
 unfold by_ at this
 rw[getD_eq_getElem?_getD,getD_eq_getElem?_getD,getElem?_eq_getElem h1,getElem?_eq_getElem h2]at this
 exact UInt8.toNat_inj.1 this
theorem aO7 (x y c:UInt64) (hc:c.toNat<=1):(aJ0 x y c).toNat+y.toNat+c.toNat=x.toNat+(aEF x y c).toNat*18446744073709551616:=by
 have hx:=x.toNat_lt
 have hy:=y.toNat_lt
 unfold aJ0 aEF
 rw[UInt64.toNat_ofNat']
 split
 ·show _=x.toNat+1*18446744073709551616
  rw[Nat.mod_eq_of_lt (by omega)]
  omega
 show _=x.toNat+0*18446744073709551616
 rw[show x.toNat+18446744073709551616-y.toNat-c.toNat=(x.toNat-y.toNat-c.toNat)+18446744073709551616 by omega,show(2:Nat)^64=18446744073709551616 by decide,Nat.add_mod_right,Nat.mod_eq_of_lt (by omega)]
 omega
theorem uz (a b:List UInt64):∀i j,i<=j->(ah a b i).1.getD j 0=a.getD j 0
 |0,_,_=>rfl
 |i+1,j,h=>by simp only[ah];rw[aA (by omega),uz a b i j (by omega)]
theorem tu {l:List UInt64} {i n:Nat} {x:UInt64} (h:n<=i):wv (l.set i x) n=wv l n:=
 so λj hj=>by unfold wd_;rw[aA (by omega)]
theorem pq {a b:List UInt64} (ha:a.length=4):∀i,i<=4->wv (ah a b i).1 i+wv b i=wv a i+(ah a b i).2.toNat*18446744073709551616^i
 |0,_=>by
  show 0+0=0+(0:UInt64).toNat*_
  simp
 |i+1,hi=>by
  have ih:=pq (b:=b) ha i (by omega)
  have ho:=uz a b i i (le_refl _)
  have hl:=du (b:=b) ha i
  have hs:=aO7 ((ah a b i).1.getD i 0) (b.getD i 0) (ah a b i).2 (oF a b i)
  have e1:wv (ah a b (i+1)).1 (i+1)=wv (ah a b i).1 i+(aJ0 ((ah a b i).1.getD i 0) (b.getD i 0) (ah a b i).2).toNat*18446744073709551616^i:=by
   show nv _ _ (i+1)=_
   simp only[nv]
   congr 1
   ·exact tu (le_refl _)
   congr 1
   show((ah a b i).1.set i _|>.getD i 0).toNat=_
   rw[aE (by omega)]
  have e2:(ah a b (i+1)).2=aEF ((ah a b i).1.getD i 0) (b.getD i 0) (ah a b i).2:=rfl
  rw[e1,e2]
  rw[ho]at hs⊢
  show _+nv (wd_ b) _ (i+1)=nv (wd_ a) _ (i+1)+_
  simp only[nv]
  have eb:nv (wd_ b) 18446744073709551616 i=wv b i:=rfl
  have ea:nv (wd_ a) 18446744073709551616 i=wv a i:=rfl
  have da:wd_ a i=(a.getD i 0).toNat:=rfl
  have db:wd_ b i=(b.getD i 0).toNat:=rfl
  rw[eb,ea,da,db,Nat.pow_succ]
  generalize (18446744073709551616:Nat)^i=p at *
  generalize (aJ0 (a.getD i 0) (b.getD i 0) (ah a b i).2).toNat=s at *
  generalize (aEF (a.getD i 0) (b.getD i 0) (ah a b i).2).toNat=d at *
  generalize (ah a b i).2.toNat=c at *
  generalize (a.getD i 0).toNat=x at *
  generalize (b.getD i 0).toNat=y at *
  have h5:(s+y+c)*p=(x+d*18446744073709551616)*p:=by rw[hs]
  rw[Nat.add_mul,Nat.add_mul,Nat.add_mul]at h5
  have h6:d*(p*18446744073709551616)=d*18446744073709551616*p:=by rw[Nat.mul_comm p,Nat.mul_assoc]
  omega
def Ln:Nat:=7237005577332262213973186563042994240857116359379907606001950938285454250989
theorem aFN:wv qj 4 = Ln:=by decide +kernel
theorem tI {a:List UInt64} (ha:a.length=4):(ah a qj 4).2=1↔wv a 4<Ln:=by
 have hv:=pq (b:=qj) ha 4 (le_refl _)
 have h1:=wS (ah a qj 4).1 4
 have h2:=wS a 4
 have hc:=oF a qj 4
 rw[aFN]at hv
 have hL:Ln<18446744073709551616^4:=by decide
 constructor
 ·intro h
  rw[h,show(1:UInt64).toNat=1 from rfl,Nat.one_mul]at hv
  omega
 intro h
 have:(ah a qj 4).2.toNat=1:=by
  rcases Nat.eq_zero_or_pos (ah a qj 4).2.toNat with h3|h3
  ·rw[h3,Nat.zero_mul]at hv;omega
  omega
 exact UInt64.toNat_inj.1 this
theorem aQX {a:List UInt64} (ha:a.length=4) (h:¬wv a 4<Ln):wv (ah a qj 4).1 4=wv a 4-Ln:=by
 have hv:=pq (b:=qj) ha 4 (le_refl _)
 have hn:¬(ah a qj 4).2=1:=λh1=>h ((tI ha).1 h1)
 have hc:=oF a qj 4
 have h0:(ah a qj 4).2.toNat=0:=by
  rcases Nat.eq_zero_or_pos (ah a qj 4).2.toNat with h3|h3
  ·exact h3
  exact absurd (UInt64.toNat_inj.1 (by rw[show(1:UInt64).toNat=1 from rfl];omega)) hn
 rw[h0,Nat.zero_mul,aFN]at hv
 omega
end Go.Proofs.YtieblfbmmbkjdaaGreat
namespace Go.Proofs.YtieblfbmmbkjdaaGreat
open Go Go.Sx
theorem aE8 (n:Nat) (b:List UInt8):Sx.Fn Γ.P 84 [.slx 1000 0 0 n] [(1000,.mem false 0 [(n,.a8 b)])]
  (λv M=>v= .fn 103 [(1001,0)]/\M=[(1000,.mem false 0 [(n,.a8 b)]),(1001,.mem true 0 [(1,.slx 1000 0 0 n)])]):=by
 refine aG (Γ:=Γ) (fn:=Tryz.f84) rfl rfl rfl rfl ?_
 refine gB ?_
 refine Ret.i (.fn 103 [(1001,0)]) [(1000,.mem false 0 [(n,.a8 b)]),(1001,.mem true 0 [(1,.slx 1000 0 0 n)])] [(1001,(1,0,none))] rfl trivial ⟨rfl,rfl⟩ rfl trivial rfl ?_ rfl
 exact fc
theorem nZ {ρ ρ':Env} {a f:Nat} {v:Value} (h:zRT ρ (.ptr a f none) v) (hd:ρ'.dom a) (hp:ρ'.pos a=ρ.pos a):zRT ρ' (.ptr a f none) v:=by
 obtain⟨_,h2⟩:=h
 refine⟨hd,?_⟩
 rw[h2]
 unfold Env.addr
 rw[hp]
noncomputable def aKJ:Code:=
 match Tryz.f57.body with
 |some (.seq _ (.seq _ (.seq (.seq _ (.block _ (.rangeFunc _ _ _ (.block _ c)))) _)))=>c
 |_=>.skip
theorem aKF (b:List UInt8) (n:Nat) (r:List UInt64) (hr:r.length=4) (x:UInt64):
  mE Γ [] [1000,2,3,1001] aKJ [(2,.ptr 2 0 none),(3,.ptr 3 0 none),(4,.u64 x)] (mI b n r) (λe T M=>e= .normal/\Le [1000,2,3,1001] [] (mI b n (stW r x)) T M):=by
 obtain⟨c,hc,hx⟩:=aBP b n r hr x (Le [1000,2,3,1001] [] (mI b n (stW r x))) (λ_ _ h=>h)
 have:c=aKJ:=hc
 rw[<-this]
 exact hx
theorem abI (b:List UInt8) (n:Nat) (hb:b.length=n) (hmax:n<=1000000):Sx.Fn Γ.P 57 [.slx 1000 0 0 n] [(1000,.mem false 0 [(n,.a8 b)])]
  (λv M=>v= .a64 (mdL (am b n (8*n)))/\M=[(1000,.mem false 0 [(n,.a8 b)])]):=by
 intro ρ xs w hM hargs
 have hlen:=fZ hargs
 refine(callsIn_wide (n:=5)).1 (callsIn_of_wp_marks (fn:=Tryz.f57) rfl rfl trivial ?_ rfl)
 have start:aZ 47 ρ (bG 0 [.slx 1000 0 0 n]) [(1000,.mem false 0 [(n,.a8 b)])] {tmps:=xs.toArray++Array.replicate (47-xs.toArray.size) undef,defers:=[]} w:=sA hM hargs (by rw[hlen];exact(by decide:1<=47))
 have hA:gJ [1000] ρ ρ:=⟨λk hk=>by
  obtain rfl:k=1000:=by simpa using hk
  exact⟨hM.mod 1000 _ rfl,rfl⟩,λ_ _ _ h=>h⟩
 refine wpIn_seq (pF (Kn:=[1000]) (ρA:=ρ) [(0,.slx 1000 0 0 n),(2,.ptr 2 0 none)] [(1000,.mem false 0 [(n,.a8 b)]),(2,.mem true 0 [(4,.a64 (replicate 4 0))])] rfl ?_ start hA ?_)
 ·refine gB ?_
  refine Le.i [] rfl fc rfl fc rfl
 intro ρ1 a1 w1 hc1 ha1 hs1
 show(Code.seq _ _).wpIn _ _ _ _ _ _
 refine wpIn_seq (pF (Kn:=[1000]) (ρA:=ρ) [(0,.slx 1000 0 0 n),(2,.ptr 2 0 none),(3,.ptr 3 0 none)] [(1000,.mem false 0 [(n,.a8 b)]),(2,.mem true 0 [(4,.a64 (replicate 4 0))]),(3,.mem true 0 [(4,.a64 (replicate 4 0))])] rfl ?_ hc1 ha1 ?_)
 ·refine gB ?_
  refine Le.i [] rfl fc rfl fc rfl
 intro ρ2 a2 w2 hc2 ha2 hs2
 show(Code.seq _ _).wpIn _ _ _ _ _ _
 refine wpIn_seq (wpIn_seq (pF (Kn:=[1000]) (ρA:=ρ) [(2,.ptr 2 0 none),(3,.ptr 3 0 none),(8,.fn 103 [(1001,0)])] (mI b n (mdL [])) rfl ?_ hc2 ha2 ?_))
 ·refine Call.i (aE8 n b) [(1000,(1000,0,none)),(1001,(1001,0,none))] rfl fc rfl fc rfl ?_
  rintro _ _ ⟨rfl,rfl⟩
  refine gB ?_
  have hz:mdL []=replicate 4 0:=rfl
  unfold mI
  refine Le.i [] rfl fc rfl fc rfl
 intro ρ3 a3 w3 hc3 ha3 hs3
 have hst:aV ρ [(1000,.mem false 0 [(n,.a8 b)])] ρ3 (mI b n (mdL [])) w w3:=hs1.trans (hs2.trans hs3)
 clear hs1 hs2 hs3 hc1 hc2 ha1 ha2 start
 show(Code.block 0 _).wpIn _ _ _ _ _ _
 refine wpIn_block ?_
 have hsat1:=hc3.sat 1001 (.mem false 0 [(1,.slx 1000 0 0 n)]) rfl
 obtain⟨cs1,⟨k1,k2,rfl,kl,⟨xv,⟨hd0,cc,xa,hnc,rfl,hxa⟩,rfl⟩,rfl⟩,hz1,hcell1,_⟩:=hsat1
 have hsat0:=hc3.sat 1000 (.mem false 0 [(n,.a8 b)]) rfl
 obtain⟨cs0,⟨m1,m2,rfl,ml,rfl,rfl⟩,hz0,hcell0,_⟩:=hsat0
 obtain⟨gg,hgg⟩:∃g:Int,w3.cell? ⟨0,0,none⟩=some (.int .i64 g):=by
  obtain⟨g,hg⟩:=hc3.gl
  obtain⟨_,cs,h2,h3⟩:=hc3.imm _ _ _ hg
  obtain⟨c1,c2,rfl,_,⟨x,hx,rfl⟩,rfl⟩:=h2
  have hx:x= .int .i64 g:=hx
  subst hx
  exact⟨g,h3 0 _ rfl⟩
 have hreads:th gg (ρ3.pos 1001).1 ((ρ3.pos 1001).2+(0+0)) (ρ3.pos 1000).1 ((ρ3.pos 1000).2+(0+0)) n b xa cc w3:=by
  refine⟨hcell1 0 _ rfl,λj hj=>?_,hgg⟩
  have:=hcell0 j (w8 (b.getD j 0)) (by
   rw[List.append_nil,List.getElem?_map,getElem?_eq_getElem (by omega),getD_eq_getElem?_getD,getElem?_eq_getElem (by omega)]
   rfl)
  exact this
 have hg:a3.eval (.tmp 8)= .func (.func 103) #[] #[.pointer (some ⟨(ρ3.pos 1001).1,(ρ3.pos 1001).2+(0+0),none⟩)]:=by
  have h8:zRT ρ3 (.fn 103 [(1001,0)]) (a3.eval (.tmp 8)):=zev hc3 (.tmp 8)
  exact h8.2
 have hA3:gJ [1000,2,3,1001] ρ3 ρ3:=by
  refine⟨λk hk=>⟨?_,rfl⟩,λ_ _ _ h=>h⟩
  simp only[List.mem_cons,List.not_mem_nil,or_false]at hk
  rcases hk with rfl|rfl|rfl|rfl
  ·exact hc3.mod 1000 _ rfl
  ·exact hc3.mod 2 _ rfl
  ·exact hc3.mod 3 _ rfl
  exact hc3.mod 1001 _ rfl
 have slot:∀{ρi:Env},gJ [1000,2,3,1001] ρ3 ρi->∀d,zRT ρi (zX [(2,.ptr 2 0 none),(3,.ptr 3 0 none)] d) (a3.tmps.getD d undef):=by
  intro ρi hai d
  by_cases h2:d=2
  ·subst h2
   exact nZ (hc3.tm 2) (hai.to 2 (by simp)).1 (hai.to 2 (by simp)).2
  by_cases h3:d=3
  ·subst h3
   exact nZ (hc3.tm 3) (hai.to 3 (by simp)).1 (hai.to 3 (by simp)).2
  rw[aS h2,aS h3];exact zR trivial
 refine wpIn_rangeFunc_ownF rfl (by decide) (gf:=103) hg trivial (Go.Proofs.enters_of (fn:=Tryz.f103) rfl (by kernel_rfl) rfl)
  (aCM hb hmax hnc (λh=>hxa h) hreads) (λh k p o v hp hv=>k p o v hp (h p o v hp hv))
  (λW l o o' _ hl hcn _ k q v _ hv=>?kb) (Go.RowKit.Below.refl _ _) (λ_=>rfl)
  (λpre W=>∃ρi,zF ρi (mI b n (mdL pre)) W/\gJ [1000,2,3,1001] ρ3 ρi/\aV ρ [(1000,.mem false 0 [(n,.a8 b)])] ρi (mI b n (mdL pre)) w W)
  (λ_ _ _=>False) ?own (λ_ _ _ _ _ h _ _=>h) ⟨ρ3,hc3.tozF,hA3,hst⟩
  (λy=>(({tmps:=a3.tmps,defers:=[]}:Act).put (some 9) (w64 y)).put (some 4) (w64 y)) ?assign ?body ?done ?stop
 case kb=>
  exact cell_kept hv (grownBy_putObj' W l o') (λr e=>by cases e;exact⟨o,hl,hcn⟩)
 case own=>
  rintro pre W W' row ⟨ρi,h1,h2,h3⟩ hgr hrow
  exact⟨ρi,h1.turned hgr (λr e=>(hrow r e).2),h2,h3.turned hgr (λr e=>Nat.le_trans hst.size (hrow r e).1)⟩
 case stop=>
  intro D c pre W _ _ h
  exact h.elim
 case assign=>
  intro l y W K hK
  have e0:((#[9]:Array Tmp).zip #[w64 y]).foldl (λt (p,v)=>t.setIfInBounds p v) a3.tmps=a3.tmps.setIfInBounds 9 (w64 y):=by simp
  have e9:(({tmps:=a3.tmps.setIfInBounds 9 (w64 y),defers:=[]}:Act)).eval (.tmp 9)=w64 y:=by
   have h47:(9:Nat)<a3.tmps.size:=by rw[hc3.sz];decide
   simp[Act.eval,h47]
  show(Code.region _ _ _).wpIn _ _ _ _ {tmps:=((#[9]:Array Tmp).zip #[w64 y]).foldl (λt (p,v)=>t.setIfInBounds p v) a3.tmps,defers:=[]} W
  rw[e0]
  refine wpIn_region_lit (wpListIn_plain rfl λK' hK'=>⟨λ_ _=>trivial,?_⟩)
  rw[Oper.semAt_eq _ _ _ (by intro c h;cases h)]
  refine hK' _ _ ?_
  show K _ W
  rw[e9]
  exact hK
 case body=>
  rintro l pre y W ⟨ρi,hci,hai,hsi⟩ _
  have hN:aZ 47 ρi [(2,.ptr 2 0 none),(3,.ptr 3 0 none)] (mI b n (mdL pre)) {tmps:=a3.tmps,defers:=[]} W:=⟨hci,hc3.sz,rfl,slot hai⟩
  have hN2:aZ 47 ρi [(2,.ptr 2 0 none),(3,.ptr 3 0 none),(4,.u64 y)] (mI b n (mdL pre)) ((({tmps:=a3.tmps,defers:=[]}:Act).put (some 9) (w64 y)).put (some 4) (w64 y)) W:=by
   have h1:=(hN.put (d:=9) (by decide) (v:=.u64 y) (x:=w64 y) (zR rfl)).put (d:=4) (by decide) (v:=.u64 y) (x:=w64 y) (zR rfl)
   exact h1.sub (aZP rfl rfl rfl)
  have hAi:gJ [1000,2,3,1001] ρi ρi:=⟨λk hk=>⟨(hai.to k hk).1,rfl⟩,λ_ _ _ h=>h⟩
  have hx:=aRF (l:=l) (n:=5-1-1) (N:=47) (ρA:=ρi) (c:=aKJ) rfl rfl (λe T M h=>h.1) (aKF b n (mdL pre) (bc pre) y) hN2 hAi
  show(Code.block 1 aKJ).wpIn _ _ _ _ _ _
  refine wpIn_block (wpIn_mono hx ?_)
  rintro e a' W' ⟨rfl,ρ',T',M',⟨_,hle⟩,g1,g2,g3⟩
  obtain⟨ρ'',l1,l2,l3⟩:=hle.sound g1 g2
  have hs:=g3.trans l3
  rw[<-tG]at l1 hs
  have nown:∀{k ls} (_:zG (mI b n (mdL pre)) k=some (.mem false 0 ls)) (_:k∈[1000,2,3,1001]) {p o},eJ (ρ3.pos k) (.mem false 0 ls) p o->¬eU ρi (mI b n (mdL pre)) p o:=by
   rintro k ls hk hmem p o hf ⟨a0,e0,ha0,hown,hf0⟩
   rw[<-(hai.to k hmem).2]at hf
   by_cases hak:a0=k
   ·subst hak
    rw[hk]at ha0
    cases ha0
    cases hown
   exact hci.sep a0 k e0 _ ha0 hk hak hown p o hf0 hf
  refine⟨hs.others hci,?_,ρ'',l1.tozF,hai.trans' l2,hsi.trans hs⟩
  rintro k o v (⟨rfl,rfl⟩|⟨rfl,ho1,ho2⟩|⟨rfl,rfl⟩) hv
  ·have hno:=nown (k:=1001) rfl (by simp) (p:=(ρ3.pos 1001).1) (o:=(ρ3.pos 1001).2+(0+0)) ⟨rfl,by omega,by simp only[zL,Bool.false_eq_true,if_false];omega⟩
   rw[(hs.cell _ _ (gj hv) hno).1];exact hv
  ·have hno:=nown (k:=1000) rfl (by simp) (p:=(ρ3.pos 1000).1) (o:=o) ⟨rfl,by omega,by simp only[zL,Bool.false_eq_true,if_false];omega⟩
   rw[(hs.cell _ _ (gj hv) hno).1];exact hv
  have hno:¬eU ρi (mI b n (mdL pre)) 0 0:=hci.gl.elim λg hg=>hci.isep 0 0 ⟨0,_,0,hg,Nat.zero_lt_one,rfl⟩
  rw[(hs.cell _ _ (gj hv) hno).1];exact hv
 case done=>
  rintro D ys W hD rfl ⟨ρi,hci,hai,hsi⟩ hK
  have hN:aZ 47 ρi [(2,.ptr 2 0 none),(3,.ptr 3 0 none)] (mI b n (mdL (am b n (8*n)))) {tmps:=a3.tmps,defers:=[]} W:=⟨hci,hc3.sz,rfl,slot hai⟩
  have hri:gJ [1000] ρ ρi:=⟨λk hk=>by
   obtain rfl:k=1000:=by simpa using hk
   exact⟨(hai.to 1000 (by simp)).1,(hai.to 1000 (by simp)).2.trans (ha3.to 1000 (by simp)).2⟩,λb o ls h=>hai.im _ _ _ (ha3.im _ _ _ h)⟩
  have hdef:a3.defers=[]:=hc3.defers
  show(Code.seq _ _).wpIn _ _ _ _ _ _
  refine wpIn_seq ?_
  have hml:=bc (am b n (8*n))
  generalize mdL (am b n (8*n))=R at *
  rw[hdef]
  have h8:=λ(ops:List Oper) (hall:iX 47 ops=true) (hrun:jh Γ ops ops [(2,.ptr 2 0 none),(3,.ptr 3 0 none)] (mI b n R) [] (λT M=>sw M=true/\Ret Γ [1000] [ResultVar.cell 2 110] T M (λv M=>v= .a64 R/\M=[(1000,.mem false 0 [(n,.a8 b)])])))=>
   fm (Γ:=Γ) (N:=47) (all:=ops) hall (Q:=λe a' w'=>e= .normal/\∃ρ' T' M',(sw M'=true/\Ret Γ [1000] [ResultVar.cell 2 110] T' M' (λv M=>v= .a64 R/\M=[(1000,.mem false 0 [(n,.a8 b)])]))/\aZ 47 ρ' T' M' a' w'/\ρi.le ρ'/\aV ρi (mI b n R) ρ' M' W w')
    ops (λo h=>h) hN hrun (λa' w' ⟨ρ',T',M',h1,h2,h3,h4⟩=>⟨rfl,ρ',T',M',h1,h3,h2,h4⟩)
  refine wpIn_mono (wpIn_region_lit (nQ (a:={tmps:=a3.tmps,defers:=[]}) (Q:=λe a' w'=>e= .normal/\∃ρ' T' M',(sw M'=true/\Ret Γ [1000] [ResultVar.cell 2 110] T' M' (λv M=>v= .a64 R/\M=[(1000,.mem false 0 [(n,.a8 b)])]))/\aZ 47 ρ' T' M' a' w'/\ρi.le ρ'/\aV ρi (mI b n R) ρ' M' W w') (D:=[{target:=.collected D,args:=#[]}]) (λc a w h=>by cases h.1) (λ⟨a,w,h⟩=>by cases h.1) ?_ (h8 _ rfl ?_))) ?_
  ·intro o ho
   simp only[List.mem_cons,List.not_mem_nil,or_false]at ho
   rcases ho with rfl|rfl
   ·exact aQS rfl
   exact aJ1 rfl
  ·unfold mI
   refine gB ?_
   refine⟨rfl,Ret.i (.a64 R) [(1000,.mem false 0 [(n,.a8 b)])] [] rfl fc ⟨rfl,rfl⟩ rfl fc rfl fc rfl⟩
  rintro e a' w' ⟨a0,⟨rfl,ρ',T',M',⟨hnm,hret⟩,hcc,hle,hss⟩,rfl⟩
  show(Code.ret).wpIn _ _ _ _ _ _
  refine wpIn_ret ?_
  have hK':w'.heap[D]? =some (.deferred (some [])):=(hss.others hci).same D _ hK rfl
  have hgr:w'.grownBy (w'.putObj D (.deferred none)) (some D):=grownBy_putObj' _ _ _
  have hcc':aZ 47 ρ' T' M' a0 (w'.putObj D (.deferred none)):=hcc.world (hcc.tozF.turned hgr (λr e=>by cases e;exact⟨_,hK',rfl⟩) hnm)
  have hanc:gJ [1000] ρ ρ':=hri.le hle
  obtain⟨x,v,ρ5,M5,r1,r2,r3,r4,r5,r6⟩:=pA hcc' hanc hret (fn:=Tryz.f57) rfl
  refine⟨by simp,Or.inl ⟨D,_,rfl,run_takeDeferred hK',?_⟩⟩
  refine⟨x,r1,v,x,ρ5,M5,rfl,r2,r3,⟨λk hk=>?_,r5.im⟩,r4,?_⟩
  ·obtain⟨e,he⟩:=hM.dom k hk
   exact r5 k (lQ he)
  exact((hsi.trans hss).turned hgr (λr e=>by cases e;exact Nat.le_trans hst.size hD)).trans r6
end Go.Proofs.YtieblfbmmbkjdaaGreat
