/- Walks. -/
import Derived.Test.YtllmefnbacjjcaaGreatHwScR4ToScP5
import Derived.Test.YtllmefnbacjjcaaGreatHwCv5ToSc3
import Derived.Test.YtllmefnbacjjcaaGreatHwSha4ToSha8
import Derived.Test.YtllmefnbacjjcaaGreatHwSs5ToCv4
set_option linter.unusedSimpArgs false
set_option linter.unusedVariables false
set_option maxHeartbeats 4000000
open List (replicate take take_of_length_le drop drop_zero append_nil)
open Nat (zero_mul zero_le)
open UInt8 (ofNat)
open Option (getD_none)
set_option maxRecDepth 100000
namespace Go.Proofs.YtllmefnbacjjcaaGreat
open Go Go.Sx
theorem aFV {f:Nat->Nat} {B n:Nat}:∀k,(∀i,n<=i->f i=0)->nv f B (n+k)=nv f B n
 |0,_=>rfl
 |k+1,h=>by
  have ih:=aFV (f:=f) (B:=B) (n:=n) k h
  show nv f B (n+k)+f (n+k)*B^(n+k)=_
  rw[h (n+k) (by omega),zero_mul,Nat.add_zero,ih]
theorem aJL {z:List UInt64} (hz:z.length=4):wv (z++replicate 4 0) 8=wv z 4:=by
 have h:∀i,4<=i->wd_ (z++replicate 4 0) i=0:=by
  intro i hi
  unfold wd_
  rw[List.getD_eq_getElem?_getD,List.getElem?_append_right (by omega),List.getElem?_replicate]
  split <;>rfl
 have e4:wv (z++replicate 4 0) 4=wv z 4:=so λi hi=>by
  unfold wd_
  rw[List.getD_eq_getElem?_getD,List.getElem?_append_left (by omega),<-List.getD_eq_getElem?_getD]
 exact(aFV 4 h).trans e4
theorem aE4 (x y:List UInt64) {W:Nat}:W+wv x 0*wv y 4=W:=by
 rw[show wv x 0=0 from rfl,zero_mul,Nat.add_zero]
theorem aKD (W X:Nat) (y:List UInt64) (i:Nat):W+(0:UInt64).toNat*18446744073709551616^(i+0)=W+X*wv y 0*18446744073709551616^i:=by
 rw[show wv y 0=0 from rfl,show(0:UInt64).toNat=0 from rfl,Nat.mul_zero,zero_mul,zero_mul]
theorem aPL (V X W Y B i j:Nat):V+X*W*B^i+X*Y*B^(i+j)=V+X*(W+Y*B^j)*B^i:=by
 rw[Nat.pow_add,Nat.mul_add,Nat.add_mul,Nat.add_assoc]
 congr 2
 rw[Nat.mul_comm (B^i),<-Nat.mul_assoc,<-Nat.mul_assoc]
theorem aKE {V X i j:Nat} {y:List UInt64}:V+X*wv y j*18446744073709551616^i+X*(y.getD j 0).toNat*18446744073709551616^(i+j)=V+X*wv y (j+1)*18446744073709551616^i:=aPL _ _ _ _ _ _ _
theorem aPM (Z:Nat) (x y:List UInt64) (i:Nat):Z+wv x i*wv y 4+(x.getD i 0).toNat*wv y 4*18446744073709551616^i=Z+wv x (i+1)*wv y 4:=by
 have e:wv x (i+1)=wv x i+(x.getD i 0).toNat*18446744073709551616^i:=rfl
 rw[e,Nat.add_mul,Nat.add_assoc,Nat.mul_right_comm]
theorem aI3 (x y z:List UInt64) {i:Nat} (hi:i<=4):wv z 4+wv x i*wv y 4<18446744073709551616^8:=by
 have hz:=wS z 4
 have hy:=wS y 4
 have hx:wv x i<18446744073709551616^4:=Nat.lt_of_lt_of_le (wS x i) (Nat.pow_le_pow_right (by decide) hi)
 have e:(18446744073709551616:Nat)^8=18446744073709551616^4*18446744073709551616^4:=by rw[<-Nat.pow_add]
 rw[e]
 have hp:0<(18446744073709551616:Nat)^4:=by decide
 generalize (18446744073709551616:Nat)^4=Q at *
 have h1:wv x i*wv y 4<=(Q-1)*(Q-1):=Nat.mul_le_mul (by omega) (by omega)
 have h2:Q*Q=(Q-1)*(Q-1)+(Q-1)+Q:=by
  have e:Q=Q-1+1:=by omega
  generalize Q-1=R at e⊢
  subst e
  rw[Nat.add_mul,Nat.mul_add]
  omega
 generalize (Q-1)*(Q-1)=S at *
 generalize wv x i*wv y 4=T at *
 omega
theorem aP4 {W V:Nat} {c:UInt64} (h:W+c.toNat*18446744073709551616^8=V) (hv:V<18446744073709551616^8):c.toNat=0:=by
 generalize (18446744073709551616:Nat)^8=Q at *
 rcases Nat.eq_zero_or_pos c.toNat with h1|h1
 ·exact h1
 have:1*Q<=c.toNat*Q:=Nat.mul_le_mul_right _ h1
 generalize c.toNat*Q=S at *
 omega
theorem aQI (a b c L:Nat):(c%L+a%L*(b%L))%L=(c+a*b)%L:=by
 rw[Nat.add_mod,Nat.mod_mod,<-Nat.mul_mod,<-Nat.add_mod]
theorem abS (a b c:List UInt8) (ha:a.length=32) (hb:b.length=32) (hc:c.length=32):Sx.Fn Γ.P 38 [.a8 a,.a8 b,.a8 c] [] (λv _=>v= .a8 (acG a b c)):=by
 have hRl:=dN a b c
 have hMa:=aSF a 32 ha (by omega)
 have hMb:=aSF b 32 hb (by omega)
 have hMc:=aSF c 32 hc (by omega)
 have lx:=cU (am a 32 (8*32))
 have ly:=cU (am b 32 (8*32))
 have lz:=cU (am c 32 (8*32))
 have vx:=mg a 32
 have vy:=mg b 32
 have vz:=mg c 32
 generalize mdL (am a 32 (8*32))=x at *
 generalize mdL (am b 32 (8*32))=y at *
 generalize mdL (am c 32 (8*32))=z at *
 refine aG (Γ:=Γ) (fn:=Tryz.f38) rfl rfl rfl rfl ?_
 refine gB ?_
 refine aH.i [[],[0],[],[0,1,2],[],[],r_6,r_7] [0,2,4,5,1,3,6,7] (by kernel_rfl) ?_
 refine gB ?_
 refine Call.i hMa [(1000,(3,0,none))] rfl fc rfl fc rfl ?_
 rintro _ _ ⟨rfl,rfl⟩
 refine cL.i [] rfl rfl ?_
 refine gB ?_
 refine Call.i hMb [(1000,(4,0,none))] rfl fc rfl fc rfl ?_
 rintro _ _ ⟨rfl,rfl⟩
 refine cL.i [] rfl rfl ?_
 refine gB ?_
 refine Call.i hMc [(1000,(5,0,none))] rfl fc rfl fc rfl ?_
 rintro _ _ ⟨rfl,rfl⟩
 refine gB ?_
 refine gN ?_
 refine aH.i [[],[],[0,1]] [0,1,2] (by kernel_rfl) ?_
 refine fg.i ?_ ?_
 ·exact fc
 have z0:(UInt64.ofNat 0).toNat<=1:=by decide
 have tz:∃t:List UInt64,t=z++replicate 4 0:=⟨_,rfl⟩
 obtain⟨t0,ht0⟩:=tz
 have hl0:t0.length=8:=by rw[ht0,zlA,lz,List.length_replicate]
 have hv0:wv t0 8=wv z 4:=by rw[ht0];exact aJL lz
 refine aY.i (σ:=List UInt64×Nat) (λs=>s.1.length=8/\s.2<=4/\wv s.1 8=wv z 4+wv x s.2*wv y 4)
  (λs=>([(6,.ptr 6 0 none),(7,.ptr 7 0 none),(8,.ptr 8 0 none),(9,.ptr 9 0 none),(30,.i .i64 s.2)],
   [(6,.mem true 0 [(32,.a8 (replicate 32 0))]),(7,.mem true 0 [(4,.a64 x)]),(8,.mem true 0 [(4,.a64 y)]),(9,.mem true 0 [(8,.a64 s.1)])])) (λs=>4-s.2) (t0,0) ⟨hl0,zero_le _,?_⟩ ?_ ?_
 ·rw[hv0];exact(aE4 _ _).symm
 ·refine Le.i [] rfl ?_ rfl ?_ rfl
  ·exact fc
  repeat' first|exact trivial|refine zA.app ?_ ?_|refine zA.zd ?_ ?_|refine zA.cons ?_ ?_|exact fc|fail
  show t0=_
  simp only[getD_none,drop_zero,List.take_zero,List.nil_append,Nat.zero_add]
  rw[take_of_length_le (l:=z) (i:=4) (by omega),lz,take_of_length_le (l:=z) (by omega),ht0]
  rfl
 rintro⟨t,i⟩ ⟨htl,hi,htv⟩
 have hi:i<=4:=hi
 have htl:t.length=8:=htl
 have htv:wv t 8=wv z 4+wv x i*wv y 4:=htv
 refine zB.i ?_ ?_<;>intro hc
 ·have hc:(i:Int)<4:=hc
  refine gB ?_
  refine aY.i (σ:=List UInt64×UInt64×Nat) (λs=>s.1.length=8/\s.2.2<=4/\wv s.1 8+s.2.1.toNat*18446744073709551616^(i+s.2.2)=wv t 8+(x.getD i 0).toNat*wv y s.2.2*18446744073709551616^i)
   (λs=>([(6,.ptr 6 0 none),(7,.ptr 7 0 none),(8,.ptr 8 0 none),(9,.ptr 9 0 none),(11,.i .i64 i),(12,.u64 s.2.1),(30,.i .i64 i),(33,.i .i64 s.2.2)],
    [(6,.mem true 0 [(32,.a8 (replicate 32 0))]),(7,.mem true 0 [(4,.a64 x)]),(8,.mem true 0 [(4,.a64 y)]),(9,.mem true 0 [(8,.a64 s.1)])])) (λs=>4-s.2.2) (t,0,0) ⟨htl,zero_le _,?_⟩ ?_ ?_
  ·exact aKD _ _ _ _
  ·refine Le.i [] rfl fc rfl fc rfl
  rintro⟨d,over,j⟩ ⟨hdl,hj,hdv⟩
  have hj:j<=4:=hj
  have hdl:d.length=8:=hdl
  have hdv:wv d 8+over.toNat*18446744073709551616^(i+j)=wv t 8+(x.getD i 0).toNat*wv y j*18446744073709551616^i:=hdv
  refine zB.i ?_ ?_<;>intro hc2
  ·have hc2:(j:Int)<4:=hc2
   have hU:=abE (x.getD i 0) (y.getD j 0)
   have hst:=aKW (t:=d) (x:=x.getD i 0) (y:=y.getD j 0) (over:=over) (q:=i+j) (by omega) hdl rfl rfl rfl rfl rfl hdv
   rw[aKE]at hst
   have e0:((i:Int)+j).toNat=i+j:=by omega
   refine gB ?_
   refine aH.i [[],[0],[0,1],[],[3],[3,4],r_6,r_7,r_8,r_8,r_9,fe] kX (by kernel_rfl) ?_
   repeat refine sdH ?_
   refine Call.pure hU rfl fcH ?_
   rintro _ rfl
   repeat refine sdH ?_
   refine⟨(_,_,j+1),⟨?_,by show j+1<=4;omega,hst⟩,by show 4-(j+1)<4-j;omega,Le.i [] rfl ?_ rfl ?_ rfl⟩
   ·show(d.set _ _).length=8
    rw[List.length_set];exact hdl
   ·exact fcH
   exact fcH
  have h4:j=4:=by have hc2:¬(j:Int)<4:=hc2;omega
  subst h4
  have hdv:wv d 8+over.toNat*18446744073709551616^(i+4)=wv z 4+wv x (i+1)*wv y 4:=by rw[hdv,htv];exact aPM _ _ _ _
  refine gB ?_
  refine aY.i (σ:=List UInt64×UInt64×Nat) (λs=>s.1.length=8/\s.2.2<=8/\wv s.1 8+s.2.1.toNat*18446744073709551616^s.2.2=wv z 4+wv x (i+1)*wv y 4)
   (λs=>([(6,.ptr 6 0 none),(7,.ptr 7 0 none),(8,.ptr 8 0 none),(9,.ptr 9 0 none),(12,.u64 s.2.1),(18,.i .i64 s.2.2),(30,.i .i64 i)],
    [(6,.mem true 0 [(32,.a8 (replicate 32 0))]),(7,.mem true 0 [(4,.a64 x)]),(8,.mem true 0 [(4,.a64 y)]),(9,.mem true 0 [(8,.a64 s.1)])])) (λs=>8-s.2.2) (d,over,i+4) ⟨hdl,by show i+4<=8;omega,hdv⟩ ?_ ?_
  ·refine Le.i [] rfl fc rfl fc rfl
  rintro⟨e,ov,k⟩ ⟨hel,hk,hev⟩
  have hk:k<=8:=hk
  have hel:e.length=8:=hel
  have hev:wv e 8+ov.toNat*18446744073709551616^k=wv z 4+wv x (i+1)*wv y 4:=hev
  refine zB.i ?_ ?_<;>intro hq
  ·have hq:(k:Int)<8:=hq
   refine zB.i ?_ ?_<;>intro hq2
   ·have hst:=aMK (t:=e) (over:=ov) (q:=k) (by omega) hel rfl rfl hev
    refine gB ?_
    refine⟨(_,_,k+1),⟨?_,by show k+1<=8;omega,hst⟩,by show 8-(k+1)<8-k;omega,Le.i [] rfl ?_ rfl ?_ rfl⟩
    ·show(e.set _ _).length=8
     rw[List.length_set];exact hel
    ·exact fcn
    exact fcn
   have hz2:ov.toNat=0:=by
    have hq2:¬(UInt64.ofNat 0).toNat<ov.toNat:=hq2
    have:(UInt64.ofNat 0).toNat=0:=rfl
    omega
   rw[hz2,zero_mul,Nat.add_zero]at hev
   refine gB ?_
   refine⟨(e,i+1),⟨hel,by show i+1<=4;omega,hev⟩,by show 4-(i+1)<4-i;omega,Le.i [] rfl fc rfl fc rfl⟩
  have h8:k=8:=by have hq:¬(k:Int)<8:=hq;omega
  subst h8
  have hz2:ov.toNat=0:=aP4 hev (aI3 x y z (by omega))
  rw[hz2,zero_mul,Nat.add_zero]at hev
  refine gB ?_
  refine⟨(e,i+1),⟨hel,by show i+1<=4;omega,hev⟩,by show 4-(i+1)<4-i;omega,Le.i [] rfl fc rfl fc rfl⟩
 have h4:i=4:=by have hc:¬(i:Int)<4:=hc;omega
 subst h4
 clear hc hi
 refine gB ?_
 refine aY.i (σ:=Nat) (λi=>i<=64) (λi=>([(6,.ptr 6 0 none),(9,.ptr 9 0 none),(19,.ptr 19 0 none),(94,.i .i64 i)],
  [(6,.mem true 0 [(32,.a8 (replicate 32 0))]),(9,.mem true 0 [(8,.a64 t)]),(19,.mem true 0 [(64,.a8 (wdS t i))])])) (λi=>64-i) 0 (zero_le _) ?_ ?_
 ·refine Le.i [] rfl fc rfl fc rfl
 rintro i hi
 have hwl:=mF t i
 have hn:wdS t (i+1)=(wdS t i).set i (aF (t.getD (i/8) 0) (i%8*8)).toUInt8:=rfl
 refine zB.i ?_ ?_<;>intro hc
 ·have hc:(i:Int)<64:=hc
  have e1:((i:Int)/8).toNat=i/8:=by omega
  have e2:((i:Int)%8*8).toNat=i%8*8:=by omega
  repeat refine sdJ ?_
  refine⟨i+1,by omega,by omega,Le.i [] rfl fcJ rfl fcJ rfl⟩
 have h64:i=64:=by have hc:¬(i:Int)<64:=hc;omega
 subst h64
 have hM:=aSF (wdS t 64) 64 hwl (by omega)
 have hwv:=mg (wdS t 64) 64
 have hml:=cU (am (wdS t 64) 64 (8*64))
 rw[aOV,htv,vx,vy,vz]at hwv
 have hO:=aYF (mdL (am (wdS t 64) 64 (8*64))) hml
 rw[aTV a b c (hwv.trans (aQI _ _ _ _))]at hO
 generalize mdL (am (wdS t 64) 64 (8*64))=m at *
 generalize wdS t 64=w at *
 generalize acG a b c=R at *
 refine gB ?_
 refine Call.i hM [(1000,(19,0,none))] rfl fc rfl fc rfl ?_
 rintro _ _ ⟨rfl,rfl⟩
 refine gB ?_
 refine Call.pure hO rfl fc ?_
 rintro _ rfl
 refine gB ?_
 refine Ret.i (.a8 R) [] [] rfl fc rfl rfl fc rfl fc rfl
end Go.Proofs.YtllmefnbacjjcaaGreat
namespace Go.Proofs.YtllmefnbacjjcaaGreat
open Go Go.Sx Go.Cu
@[irreducible] def nuB (s:List UInt8):List UInt8:=clB ((ae s).take 32)
theorem aFX (s:List UInt8):nuB s=clB ((ae s).take 32):=by unfold nuB;rfl
theorem fI (s:List UInt8):(nuB s).length=32:=by rw[aFX,aCN,zlT,aW];rfl
@[irreducible] def haB (b:List UInt8):List UInt8:=sf (ae b)
theorem aAC (b:List UInt8):haB b=sf (ae b):=by unfold haB;rfl
theorem fJ (b:List UInt8):(haB b).length=32:=by rw[aAC];exact fQ _
theorem aaH (s:List UInt8) (hs:s.length=32):Sx.Fn Γ.P 33 [.a8 s] [] (λv _=>v= .agg [(32,.a8 (nuB s)),(1,.isl 32 32 1 [(64,.a8 (ae s))])]):=by
 have cH:=aZ9 s 32 hs (by omega)
 have lH:=aW s
 have hN:=aFX s
 have hc:clB ((ae s).take 32)=(((ae s).take 32).set 0 (((ae s).take 32).getD 0 0&&&ofNat 248)).set 31 (((((ae s).take 32).set 0 (((ae s).take 32).getD 0 0&&&ofNat 248)).getD 31 0&&&ofNat 127)|||ofNat 64):=rfl
 rw[hc]at hN
 have lN:=fI s
 generalize nuB s=N at *
 generalize ae s=H at *
 have lT:(H.take 32).length=32:=by rw[zlT,lH];rfl
 refine cV [4] (Γ:=Γ) (fn:=Tryz.f33) rfl rfl rfl rfl ?_
 refine gB ?_
 refine Call.i cH [(1002,(1,0,none))] rfl fc rfl fc rfl ?_
 rintro _ _ ⟨rfl,rfl⟩
 refine gN ?_
 refine gB ?_
 refine aH.i [[],[0],[],[0,1,2]] r_4 (by kernel_rfl) ?_
 refine gA ?_
 refine Cut.i (σ:=Unit) (λ_=>True) (λ_=>([(2,.ptr 2 0 none),(3,.ptr 3 0 none),(4,.ptr 4 0 none)],
  [(2,.mem true 0 [(32,.a8 (replicate 32 0)),(1,.nsl)]),(3,.mem true 0 [(64,.a8 H)]),(4,.mem true 0 [(32,.a8 (H.take 32)),(1,.nsl)])])) () trivial (Le.i [] rfl ?_ rfl ?_ rfl) ?_
 ·exact fc
 ·repeat' first|exact trivial|refine zA.app ?_ ?_|refine zA.zd ?_ ?_|refine zA.cons ?_ ?_|exact fc|fail
  all_goals(first|(rw[getD_none,drop_zero,zlT,lH];show _=[]++take 32 (take 32 H)++drop 32 (replicate 32 0);rw[List.take_take];simp;done)|trace_state)
 rintro - -
 generalize H.take 32=N0 at *
 refine gB ?_
 refine Ret.ghost [.keep 3,.ice 2 1] [] rfl fc rfl (.agg [(32,.a8 N),(1,.isl 32 32 1 [(64,.a8 H)])]) [] [] rfl fc rfl rfl fc rfl fc rfl
abbrev Pa:=Nat×Nat×List UInt8
def pa0:Pa:=(0,0,[])
def paB (t:Pa):List UInt8:=(t.2.2.drop t.1).take t.2.1
def paF (L:List Pa) (q:Nat):List (Nat×SV):=[(1,.isl (L.getD q pa0).1 (L.getD q pa0).2.1 1 [((L.getD q pa0).2.2.length,.a8 (L.getD q pa0).2.2)])]
def paS (n:Nat) (L:List Pa):List (Nat×SV):=[(n*1,.arr n 1 (paF L))]
def aZU (t:Pa):Prop:=t.1+t.2.1<=t.2.2.length/\t.2.2.length<=1000000
theorem rb {t:Pa} (h:aZU t):(paB t).length=t.2.1:=by
 have:=h.1
 unfold paB
 rw[zlT,zlD];omega
def flB (L:List Pa) (i:Nat):List UInt8:=((L.take i).map paB).flatten
theorem aAJ {L:List Pa} {i:Nat} (h:i<L.length):flB L (i+1)=flB L i++paB (L.getD i pa0):=by
 unfold flB
 rw[dd pa0 L i h,List.map_append,List.flatten_append]
 simp
theorem aN8 {B:Nat} (L:List Pa) (hL:∀x∈L,(paB x).length<=B):∀i,(flB L i).length<=i*B
 |0=>zero_le _
 |i+1=>by
  have ih:=aN8 L hL i
  rw[Nat.succ_mul]
  rcases Nat.lt_or_ge i L.length with h|h
  ·have:=hL _ (fq pa0 (L:=L) (i:=i) h)
   rw[aAJ h,zlA]
   omega
  have e:flB L (i+1)=flB L i:=by unfold flB;rw[take_of_length_le h,take_of_length_le (by omega)]
  rw[e];omega
theorem aYI (L:List Pa) (n:Nat) (W:List UInt8) (hn:L.length=n) (hn1:n<=60) (hL:∀x∈L,aZU x) (hW:(L.map paB).flatten=W):Sx.Fn Γ.P 34 [.slx 1003 0 0 n] [(1003,.mem false 0 (paS n L))]
  (λv M=>v= .a8 (haB W)/\M=[(1003,.mem false 0 (paS n L))]):=by
 unfold paS paF
 refine aG (Γ:=Γ) (fn:=Tryz.f34) rfl rfl rfl rfl ?_
 refine gB ?_
 refine aY.i (σ:=Nat×Nat×Nat) (λs=>s.1<=n/\(flB L s.1).length=s.2.1/\s.2.1<=s.2.2)
  (λs=>([(2,.ptr 202 0 none),(3,.sl 204 0 0 s.2.1 s.2.2),(9,.slx 1003 0 0 n),(10,.i .i64 (n:Int)),(11,.i .i64 (s.1:Int))],[(1003,.mem false 0 [(n*1,.arr n 1 (paF L))]),(202,.mem true 0 [(32,.a8 (replicate 32 0))]),(204,.mem true (s.2.2-s.2.1) [(s.2.1,.a8 (flB L s.1))])]))
  (λs=>n-s.1) (0,0,0) ⟨zero_le _,rfl,Nat.le_refl _⟩ ?_ ?_
 ·refine Le.ghost [.own 204 [(0,.a8 [])]] [(3,204)] [(202,(2,0,none))] rfl ⟨rfl,rfl,trivial⟩ rfl rfl fc rfl fc rfl
 rintro⟨i,N,c⟩ ⟨hi,hN,hNc⟩
 have hi:i<=n:=hi
 have hN:(flB L i).length=N:=hN
 have hNc:N<=c:=hNc
 have hle:=aN8 (B:=1000000) L (λx hx=>by rw[rb (hL x hx)];have:=(hL x hx).1;have:=(hL x hx).2;omega) i
 have hle6:N<=60000000:=by rw[<-hN];exact Nat.le_trans hle (Nat.le_trans (Nat.mul_le_mul_right _ (show i<=60 by omega)) (by decide))
 refine zB.i ?_ ?_<;>intro hc
 ·have hc:(i:Int)<n:=hc
  have hok:=hL _ (fq pa0 (L:=L) (i:=i) (by omega))
  have hm:=rb hok
  have hsucc:=aAJ (L:=L) (i:=i) (by omega)
  obtain⟨k1,k2⟩:=hok
  obtain⟨t,ht⟩:∃t,L.getD i pa0=t:=⟨_,rfl⟩
  rw[ht]at hm hsucc k1 k2
  have hl2:(flB L (i+1)).length=N+t.2.1:=by rw[hsucc,zlA,hN,hm]
  refine gC ?_
  refineλc2 hc2'=>?_
  have hc2':N+t.2.1<=c2:=by rw[<-ht];exact hc2'
  refine gC ?_
  refine⟨(i+1,N+t.2.1,c2),⟨by show i+1<=n;omega,hl2,hc2'⟩,by show n-(i+1)<n-i;omega,Le.i [(202,(202,0,none)),(204,(17,0,none))] rfl ?_ rfl ?_ rfl⟩
  ·exact fcM
  repeat' (first|exact trivial|refine zA.app ?_ ?_|refine zA.zd ?_ ?_|refine zA.cons ?_ ?_|exact fcM|fail)
  all_goals(simp only[bq,drop_zero,Ix.val,zQ,Nat.zero_add,zIn,ht];exact hsucc)
 obtain rfl:i=n:=by have hc:¬(i:Int)<n:=hc;omega
 have hF:flB L i=W:=by unfold flB;rw[take_of_length_le (by omega),hW]
 rw[hF]at hN hle
 have hN:W.length=N:=hN
 have cH:=aZ9 W N hN (by omega)
 have cR:=abG (ae W) 64 (aW _)
 have eV:aW2 (ae W) 64= .tup [.a8 (haB W),.tt]:=by rw[aAC];exact if_neg (by omega)
 rw[eV]at cR
 have lH:=aW W
 have lR:=fJ W
 generalize haB W=R at *
 generalize ae W=H at *
 refine gB ?_
 refine Call.i cH [(1002,(204,0,none))] rfl fc rfl fc rfl ?_
 rintro _ _ ⟨rfl,rfl⟩
 refine gN ?_
 refine gB ?_
 refine Call.i cR [(1000,(6,0,none))] rfl fc rfl fc rfl ?_
 rintro _ _ ⟨rfl,rfl⟩
 refine gN ?_
 refine gB ?_
 refine Ret.i (.a8 R) [(1003,.mem false 0 [(i*1,.arr i 1 (paF L))])] [] rfl fc ⟨rfl,rfl⟩ rfl fc rfl fc rfl
end Go.Proofs.YtllmefnbacjjcaaGreat
namespace Go.Proofs.YtllmefnbacjjcaaGreat
open Go Go.Sx Go.Cu
@[irreducible] def pS (n:List UInt8):Pt:=basP.mul (lv n)
theorem kq (n:List UInt8):pS n=basP.mul (lv n):=by unfold pS;rfl
@[irreducible] def qm (n:List UInt8):List UInt8:=rD (pS n)
theorem qM (n:List UInt8):qm n=rD (pS n):=by unfold qm;rfl
theorem dS (n:List UInt8):(qm n).length=32:=by rw[qM];exact kQ _
@[irreducible] def spB (s:List UInt8):List UInt8:=qm (nuB s)
theorem ym (s:List UInt8):spB s=qm (nuB s):=by unfold spB;rfl
theorem gU (s:List UInt8):(spB s).length=32:=by rw[ym];exact dS _
def pfB (s:List UInt8):List UInt8:=(ae s).drop 32
@[irreducible] def rrB (s q:List UInt8):List UInt8:=haB (pfB s++q)
@[irreducible] def kkB (s q:List UInt8):List UInt8:=haB (qm (rrB s q)++spB s++q)
@[irreducible] def ssB (s q:List UInt8):List UInt8:=acG (kkB s q) (nuB s) (rrB s q)
theorem aE1 (s q:List UInt8):rrB s q=haB (pfB s++q):=by unfold rrB;rfl
theorem zw (s q:List UInt8):kkB s q=haB (qm (rrB s q)++spB s++q):=by unfold kkB;rfl
theorem uH (s q:List UInt8):ssB s q=acG (kkB s q) (nuB s) (rrB s q):=by unfold ssB;rfl
theorem mU (s q:List UInt8):(rrB s q).length=32:=by rw[aE1];exact fJ _
theorem mt (s q:List UInt8):(kkB s q).length=32:=by rw[zw];exact fJ _
theorem mM (s q:List UInt8):(ssB s q).length=32:=by rw[uH];exact dN _ _ _
@[irreducible] def sgB (s q:List UInt8):List UInt8:=qm (rrB s q)++ssB s q
theorem uN (s q:List UInt8):sgB s q=qm (rrB s q)++ssB s q:=by unfold sgB;rfl
theorem gX (s q:List UInt8):(sgB s q).length=64:=by rw[uN,zlA,dS,mM]
theorem aHI (n:List UInt8) (hn:n.length=32) (o:PL) (ho:PR o basP):Sx.Fn Γ.P 36 [.a8 n,ptV o True] [] (λv _=>∃(p:PL) (s:Prop),PS p s (pS n)/\v=ptV p s):=by
 have h:=aaF n hn o True basP ho.ps
 rw[<-kq]at h
 exact h
theorem aN7 (p:PL) (s:Prop) (n:List UInt8) (h:PS p s (pS n)):Sx.Fn Γ.P 35 [ptV p s] [] (λv _=>v= .a8 (qm n)):=by
 have h:=aaG p s _ h
 rw[<-qM]at h
 exact h
theorem aaK (s:List UInt8) (hs:s.length=32):Sx.Fn Γ.P 22 [.a8 s] [] (λv _=>v= .a8 (spB s)):=by
 have cS:=aaH s hs
 have lN:=fI s
 have cB:=aYH
 have e:=ym s
 have l:=gU s
 rw[e]at l⊢
 generalize nuB s=N at *
 have cM:=λo ho=>aHI N lN o ho
 have cE:=λp r hp=>aN7 p r N hp
 clear e
 generalize qm N=E at *
 generalize ae s=H at *
 refine aG (Γ:=Γ) (fn:=Tryz.f22) rfl rfl rfl rfl ?_
 refine gB ?_
 refine Call.pure cS rfl fc ?_
 rintro _ rfl
 refine gA ?_
 refine Call.pure cB rfl fc ?_
 rintro v ⟨o,ho,rfl⟩
 obtain⟨o1,o2,o3,o4⟩:=ho.1.len
 have cM:=cM o ho
 unfold ptV at cM
 unfold ptV
 refine gA ?_
 refine Call.pure cM rfl fc ?_
 rintro v ⟨p,r,hp,rfl⟩
 obtain⟨p1,p2,p3,p4⟩:=hp.1
 have cE:=cE p r hp
 unfold ptV at cE
 refine gA ?_
 refine Call.pure cE rfl fc ?_
 rintro _ rfl
 refine gA ?_
 refine Ret.i (.a8 E) [] [] rfl fc rfl rfl fc rfl fc rfl
theorem ul {L:List Pa} {j i m k:Nat} {B:List UInt8} (h:L.getD j pa0=(i,m,B)) (hB:B.length=k):paF L j=[(1,.isl i m 1 [(k,.a8 B)])]:=by unfold paF;rw[h,<-hB]
theorem aM4 {E S G:List UInt8} (hE:E.length=32) (hS:S.length=32) (hG:G=E++S):
  G=take 32 (take 0 (replicate 64 (0:UInt8))++take 32 E++drop 32 (replicate 64 0))++take 32 S++drop 64 (take 0 (replicate 64 (0:UInt8))++take 32 E++drop 32 (replicate 64 0)):=by
 have t1:take 32 E=E:=take_of_length_le (by omega)
 have t2:take 32 S=S:=take_of_length_le (by omega)
 have e:take 0 (replicate 64 (0:UInt8))++E++drop 32 (replicate 64 0)=E++replicate 32 0:=rfl
 rw[t1,t2,e,List.take_left' hE,List.drop_of_length_le (by rw[zlA,hE,List.length_replicate];decide),append_nil,hG]
theorem abZ (s q:List UInt8) (n:Nat) (hs:s.length=32) (hq:q.length=n) (hn:n<=4096):Sx.Fn Γ.P 18 [.a8 s,.isl 0 n 1 [(n,.a8 q)]] [] (λv _=>v= .a8 (sgB s q)):=by
 have cS:=aaH s hs
 have cP:=aaK s hs
 have lH:=aW s
 have lN:=fI s
 have lP:=gU s
 have eR:=aE1 s q
 have lR:=mU s q
 have eK:=zw s q
 have lK:=mt s q
 have eS:=uH s q
 have lS:=mM s q
 have eG:=uN s q
 have lG:=gX s q
 have hpf:paB (32,32,ae s)=pfB s:=by unfold paB pfB;exact take_of_length_le (by rw[zlD,lH];exact Nat.le_refl _)
 have hq0:paB (0,n,q)=q:=by unfold paB;rw[drop_zero];exact take_of_length_le (by show q.length<=n;omega)
 have cH1:=aYI [(32,32,ae s),(0,n,q)] 2 (pfB s++q) rfl (by omega) (λx hx=>by
  rcases List.mem_cons.1 hx with rfl|hx
  ·exact⟨by show 32+32<=(ae s).length;omega,by show(ae s).length<=_;omega⟩
  rw[List.mem_singleton.1 hx];exact⟨by show 0+n<=q.length;omega,by show q.length<=_;omega⟩) (by show paB _++(paB _++[])=_;rw[hpf,hq0,append_nil])
 rw[<-eR]at cH1
 have cB:=aYH
 have cM:=λo ho=>aHI (rrB s q) lR o ho
 have cE:=λp r hp=>aN7 p r (rrB s q) hp
 have lE:=dS (rrB s q)
 have hp0:∀X:List UInt8,X.length=32->paB (0,32,X)=X:=λX hX=>by unfold paB;rw[drop_zero];exact take_of_length_le (by show X.length<=32;omega)
 have cH2:=aYI [(0,32,qm (rrB s q)),(0,32,spB s),(0,n,q)] 3 (qm (rrB s q)++spB s++q) rfl (by omega) (λx hx=>by
  rcases List.mem_cons.1 hx with rfl|hx
  ·exact⟨by show 0+32<=(qm (rrB s q)).length;omega,by show(qm (rrB s q)).length<=_;omega⟩
  rcases List.mem_cons.1 hx with rfl|hx
  ·exact⟨by show 0+32<=(spB s).length;omega,by show(spB s).length<=_;omega⟩
  rw[List.mem_singleton.1 hx];exact⟨by show 0+n<=q.length;omega,by show q.length<=_;omega⟩) (by show paB _++(paB _++(paB _++[]))=_;rw[hp0 _ lE,hp0 _ lP,hq0,append_nil,List.append_assoc])
 rw[<-eK]at cH2
 have cA:=abS (kkB s q) (nuB s) (rrB s q) lK lN lR
 rw[<-eS]at cA
 unfold paS at cH1 cH2
 clear eR eK eS
 generalize sgB s q=G at *
 generalize ssB s q=S at *
 generalize kkB s q=K at *
 generalize qm (rrB s q)=E at *
 generalize spB s=A at *
 generalize nuB s=N at *
 generalize ae s=H at *
 refine cV [4,8] (Γ:=Γ) (fn:=Tryz.f18) rfl rfl rfl rfl ?_
 refine gB ?_
 refine aH.i [[],[0],[],[0,1,2],[],[],r_6,r_7] [0,2,4,5,1,3,6,7] (by kernel_rfl) ?_
 refine gA ?_
 refine Call.pure cS rfl fc ?_
 rintro _ rfl
 refine gA ?_
 refine Call.pure cP rfl fc ?_
 rintro _ rfl
 refine gA ?_
 refine Call.name [(2001,[])] rfl ?_ (kW.i cH1 [(1003,(2001,0,none))] rfl ?_ rfl ?_ rfl ?_)
 ·exact fc
 ·exact fc
 ·repeat' first|exact trivial|refine zA.app ?_ ?_|refine zA.zd ?_ ?_|refine zA.cons ?_ ?_|exact fc|fail
  ·exact ul rfl lH
  exact ul rfl hq
 rintro _ _ ⟨rfl,rfl⟩
 refine gN ?_
 refine gB ?_
 refine aH.i [[],[],[0,1],[0,1,2],[],r_5] [0,4,1,2,3,5] (by kernel_rfl) ?_
 refine gA ?_
 refine Call.pure cB rfl fc ?_
 rintro v ⟨o,ho,rfl⟩
 obtain⟨o1,o2,o3,o4⟩:=ho.1.len
 have cM:=cM o ho
 unfold ptV at cM
 unfold ptV
 refine gA ?_
 refine Call.pure cM rfl fc ?_
 rintro v ⟨p,r,hp,rfl⟩
 obtain⟨p1,p2,p3,p4⟩:=hp.1
 have cE:=cE p r hp
 unfold ptV at cE
 refine gA ?_
 refine Call.pure cE rfl fc ?_
 rintro _ rfl
 refine gA ?_
 generalize rrB s q=R at *
 refine Cut.i (σ:=Unit) (λ_=>True) (λ_=>([(1,.isl 0 n 1 [(n,.a8 q)]),(4,.ptr 204 0 none),(5,.ptr 205 0 none),(6,.ptr 206 0 none),(7,.ptr 207 0 none),(8,.ptr 208 0 none)],
  [(204,.mem true 0 [(64,.a8 (replicate 64 0))]),(205,.mem true 0 [(32,.a8 N),(1,.isl 32 32 1 [(64,.a8 H)])]),(206,.mem false 1 [(32,.a8 A)]),(207,.mem true 0 [(32,.a8 R)]),(208,.mem false 1 [(32,.a8 E)])])) () trivial
  (Le.ghost [.keep 6,.keep 8] [] [(204,(4,0,none)),(205,(5,0,none)),(206,(6,0,none)),(207,(7,0,none)),(208,(8,0,none))] rfl fc rfl rfl fc rfl fc rfl) ?_
 rintro - -
 refine aH.i [[],[],[],[0,1,2],r_4,[],[5],[],r_8,[],ek] [0,1,2,3,5,6,7,9,4,8,10] (by kernel_rfl) ?_
 refine gA ?_
 refine Call.name [(2001,[])] rfl ?_ (kW.i cH2 [(1003,(2001,0,none))] rfl ?_ rfl ?_ rfl ?_)
 ·exact fc
 ·exact fc
 ·repeat' first|exact trivial|refine zA.app ?_ ?_|refine zA.zd ?_ ?_|refine zA.cons ?_ ?_|exact fc|fail
  ·exact ul rfl lE
  ·exact ul rfl lP
  exact ul rfl hq
 rintro _ _ ⟨rfl,rfl⟩
 refine gN ?_
 refine gA ?_
 refine Call.pure cA rfl fc ?_
 rintro _ rfl
 refine gA ?_
 refine aH.i [[],[],[0,1]] [0,1,2] (by kernel_rfl) ?_
 refine gA ?_
 refine aH.i [[],[],[0,1]] [0,1,2] (by kernel_rfl) ?_
 refine gA ?_
 refine Cut.i (σ:=Unit) (λ_=>True) (λ_=>([(4,.ptr 204 0 none),(10,.ptr 210 0 none)],
  [(204,.mem true 0 [(64,.a8 (replicate 64 0))]),(210,.mem true 0 [(64,.a8 G)])])) () trivial (Le.i [(204,(204,0,none)),(210,(10,0,none))] rfl ?_ rfl ?_ rfl) ?_
 ·exact fc
 ·repeat' first|exact trivial|refine zA.app ?_ ?_|refine zA.zd ?_ ?_|refine zA.cons ?_ ?_|exact fc|fail
  all_goals(
   have t1:take 32 E=E:=take_of_length_le (by omega)
   have t2:take 32 S=S:=take_of_length_le (by omega)
   simp only[getD_none,drop_zero,t1,t2,lE,lS]
   exact aM4 lE lS eG)
 rintro - -
 refine gB ?_
 refine Ret.i (.a8 G) [] [] rfl fc rfl rfl fc rfl fc rfl
end Go.Proofs.YtllmefnbacjjcaaGreat
namespace Go.Proofs.YtllmefnbacjjcaaGreat
open Go Go.Sx Go.Cu
@[irreducible] def vkB (pub q sg:List UInt8):List UInt8:=haB (sg.take 32++pub++q)
theorem aDX (pub q sg:List UInt8):vkB pub q sg=haB (sg.take 32++pub++q):=by unfold vkB;rfl
theorem aA5 (pub q sg:List UInt8):(vkB pub q sg).length=32:=by rw[aDX];exact fJ _
@[irreducible] def vrP (pub k s:List UInt8):Pt:=(pS s).add ((vg pub).mul (lv k)).ng
theorem aMZ (pub k s:List UInt8):vrP pub k s=(pS s).add ((vg pub).mul (lv k)).ng:=by unfold vrP;rfl
@[irreducible] def vrE (pub k s:List UInt8):List UInt8:=rD (vrP pub k s)
theorem aDW (pub k s:List UInt8):vrE pub k s=rD (vrP pub k s):=by unfold vrE;rfl
theorem aA4 (pub k s:List UInt8):(vrE pub k s).length=32:=by rw[aDW];exact kQ _
def vrf (pub q sg:List UInt8):Prop:=okD pub/\sf (sg.drop 32)=sg.drop 32/\vrE pub (vkB pub q sg) (sg.drop 32)=sg.take 32
theorem aaS {X:List UInt8} (h:X.length=32):take 0 (replicate 32 (0:UInt8))++take 32 X++drop 32 (replicate 32 0)=X:=by
 rw[take_of_length_le (l:=X) (by omega)];show[]++X++[]=X;rw[List.nil_append,append_nil]
theorem aJO (pub q sg:List UInt8) (n:Nat) (hp:pub.length=32) (hq:q.length=n) (hn:n<=4097) (hs:sg.length=64) (hok:okD pub) (hr:sf (sg.drop 32)=sg.drop 32) (o:PL) (ho:PR o (vg pub)) (T:Tm) (M:Mm)
  (hle:Le [] [(1,.isl 0 n 1 [(n,.a8 q)]),(3,.ptr 203 0 none),(7,.ptr 207 0 none),(9,.ptr 209 0 none),(10,.ptr 210 0 none)]
   [(203,.mem false 1 [(32,.a8 pub)]),(207,.mem true 0 [(5,.a64 o.x),(5,.a64 o.y),(5,.a64 o.z),(5,.a64 o.t),(1,.bool True)]),(209,.mem true 0 [(32,.a8 (sg.drop 32))]),(210,.mem false 1 [(32,.a8 (sg.take 32))])] T M):
  aSJ Γ [7] Tryz.f20 7 [] T M (λv _=>v= .bool (vrf pub q sg)):=by
 obtain⟨o1,o2,o3,o4⟩:=ho.1.len
 have lr:(sg.take 32).length=32:=by rw[zlT,hs];rfl
 have ls:(sg.drop 32).length=32:=by rw[zlD,hs]
 have hv:vrf pub q sg↔vrE pub (vkB pub q sg) (sg.drop 32)=sg.take 32:=⟨λh=>h.2.2,λh=>⟨hok,hr,h⟩⟩
 have eK:=aDX pub q sg
 have lK:=aA5 pub q sg
 have lE:=aA4 pub (vkB pub q sg) (sg.drop 32)
 have eE:=aDW pub (vkB pub q sg) (sg.drop 32)
 have eP:=aMZ pub (vkB pub q sg) (sg.drop 32)
 generalize vrf pub q sg=V at *
 generalize sg.take 32=r at *
 generalize sg.drop 32=z at *
 have hq0:paB (0,n,q)=q:=by unfold paB;rw[drop_zero];exact take_of_length_le (by show q.length<=n;omega)
 have hp0:∀X:List UInt8,X.length=32->paB (0,32,X)=X:=λX hX=>by unfold paB;rw[drop_zero];exact take_of_length_le (by show X.length<=32;omega)
 have cH:=aYI [(0,32,r),(0,32,pub),(0,n,q)] 3 (r++pub++q) rfl (by omega) (λx hx=>by
  rcases List.mem_cons.1 hx with rfl|hx
  ·exact⟨by show 0+32<=r.length;omega,by show r.length<=_;omega⟩
  rcases List.mem_cons.1 hx with rfl|hx
  ·exact⟨by show 0+32<=pub.length;omega,by show pub.length<=_;omega⟩
  rw[List.mem_singleton.1 hx];exact⟨by show 0+n<=q.length;omega,by show q.length<=_;omega⟩) (by show paB _++(paB _++(paB _++[]))=_;rw[hp0 _ lr,hp0 _ hp,hq0,append_nil,List.append_assoc])
 rw[<-eK]at cH
 clear eK
 generalize vkB pub q sg=K at *
 unfold paS at cH
 have cB:=aYH
 have cM1:=λb hb=>aHI z ls b hb
 have cM2:=aaF K lK o True _ ho.ps
 refine Cut.i (σ:=Unit) (λ_=>True) (λ_=>([(1,.isl 0 n 1 [(n,.a8 q)]),(3,.ptr 203 0 none),(7,.ptr 207 0 none),(9,.ptr 209 0 none),(10,.ptr 210 0 none)],
   [(203,.mem false 1 [(32,.a8 pub)]),(207,.mem true 0 [(5,.a64 o.x),(5,.a64 o.y),(5,.a64 o.z),(5,.a64 o.t),(1,.bool True)]),(209,.mem true 0 [(32,.a8 z)]),(210,.mem false 1 [(32,.a8 r)])])) () trivial hle ?_
 rintro - -
 refine aH.i [[],[],[],[0,1,2],r_4,[],r_6] [0,1,2,3,5,4,6] (by kernel_rfl) ?_
 refine gA ?_
 refine Call.name [(2001,[])] rfl ?_ (kW.i cH [(1003,(2001,0,none))] rfl ?_ rfl ?_ rfl ?_)
 ·exact fc
 ·exact fc
 ·repeat' first|exact trivial|refine zA.app ?_ ?_|refine zA.zd ?_ ?_|refine zA.cons ?_ ?_|exact fc|fail
  ·exact ul rfl lr
  ·exact ul rfl hp
  exact ul rfl hq
 rintro _ _ ⟨rfl,rfl⟩
 refine gN ?_
 refine gA ?_
 refine aH.i [[],[],[0,1],[],[],r_5,r_6,r_7,r_8,[],ek,fe] [0,3,4,9,1,2,5,6,7,8,10,11] (by kernel_rfl) ?_
 refine gA ?_
 refine Call.pure cB rfl fc ?_
 rintro v ⟨b,hb,rfl⟩
 obtain⟨b1,b2,b3,b4⟩:=hb.1.len
 have cM1:=cM1 b hb
 unfold ptV at cM1
 unfold ptV
 refine gA ?_
 refine Call.pure cM1 rfl fc ?_
 rintro v ⟨p,s1,hp1,rfl⟩
 obtain⟨p1,p2,p3,p4⟩:=hp1.1
 unfold ptV at cM2
 refine gA ?_
 refine Call.pure cM2 rfl fc ?_
 rintro v ⟨a,s2,ha,rfl⟩
 obtain⟨a1,a2,a3,a4⟩:=ha.1
 have cN:=abQ a s2 _ ha
 unfold ptV at cN
 refine gA ?_
 refine Call.pure cN rfl fc ?_
 rintro v ⟨c,hc,rfl⟩
 obtain⟨c1,c2,c3,c4⟩:=hc.1.len
 have cA:=aUU p c s1 True _ _ hp1 hc.ps
 rw[<-eP]at cA
 unfold ptV at cA
 refine gA ?_
 refine Call.pure cA rfl fc ?_
 rintro v ⟨d,hd,rfl⟩
 obtain⟨d1,d2,d3,d4⟩:=hd.1.len
 have cE:=aaG d True _ hd.ps
 rw[<-eE]at cE
 unfold ptV at cE
 generalize vrE pub K z=E at *
 refine gA ?_
 refine Call.pure cE rfl fc ?_
 intro v hv1
 subst hv1
 refine gA ?_
 refine Ret.i (.bool V) [] [] rfl ?_ rfl rfl ?_ rfl ?_ rfl
 ·exact fc
 ·repeat' first|exact trivial|refine zA.app ?_ ?_|refine zA.zd ?_ ?_|refine zA.cons ?_ ?_|exact fc|fail
  all_goals exact hv
 exact fc
theorem abY (pub q sg:List UInt8) (n:Nat) (hp:pub.length=32) (hq:q.length=n) (hn:n<=4097) (hs:sg.length=64):Sx.Fn Γ.P 20 [.a8 pub,.isl 0 n 1 [(n,.a8 q)],.a8 sg] [] (λv _=>v= .bool (vrf pub q sg)):=by
 have cD:=aaE pub hp
 have lr:(sg.take 32).length=32:=by rw[zlT,hs];rfl
 have ls:(sg.drop 32).length=32:=by rw[zlD,hs]
 have cR:=abR (sg.drop 32) ls
 unfold aWI pt0 ptV at cD
 refine cV [5,7] (Γ:=Γ) (fn:=Tryz.f20) rfl rfl rfl rfl ?_
 refine gB ?_
 refine Call.pure cD rfl fc ?_
 rintro v (⟨hok,o,ho,rfl⟩|⟨hok,rfl⟩)
 ·obtain⟨o1,o2,o3,o4⟩:=ho.1.len
  refine gB ?_
  refine aH.i [[],[],[0,1]] [0,1,2] (by kernel_rfl) ?_
  refine gA ?_
  refine aH.i [[],[],[0,1]] [0,1,2] (by kernel_rfl) ?_
  refine gA ?_
  refine Cut.i (σ:=Unit) (λ_=>True) (λ_=>([(1,.isl 0 n 1 [(n,.a8 q)]),(3,.ptr 203 0 none),(7,.ptr 207 0 none),(8,.tt),(9,.ptr 209 0 none),(10,.ptr 210 0 none)],
   [(203,.mem true 0 [(32,.a8 pub)]),(207,.mem true 0 [(5,.a64 o.x),(5,.a64 o.y),(5,.a64 o.z),(5,.a64 o.t),(1,.bool True)]),(209,.mem true 0 [(32,.a8 (sg.drop 32))]),(210,.mem true 0 [(32,.a8 (sg.take 32))])])) () trivial
   (Le.i [(203,(3,0,none)),(207,(7,0,none)),(209,(9,0,none)),(210,(10,0,none))] rfl ?_ rfl ?_ rfl) ?_
  ·exact fc
  ·repeat' first|exact trivial|refine zA.app ?_ ?_|refine zA.zd ?_ ?_|refine zA.cons ?_ ?_|exact fc|fail
   ·have e:take 32 (drop 32 sg)=drop 32 sg:=take_of_length_le (by omega)
    show sg.drop 32=take 0 (replicate 32 (0:UInt8))++take (min (take 32 (drop 32 sg)).length 32) (take 32 (drop 32 sg))++drop (0+min (take 32 (drop 32 sg)).length 32) (replicate 32 0)
    rw[e,ls];exact(aaS ls).symm
   show sg.take 32=take 0 (replicate 32 (0:UInt8))++take (min (take 32 (drop 0 sg)).length 32) (take 32 (drop 0 sg))++drop (0+min (take 32 (drop 0 sg)).length 32) (replicate 32 0)
   rw[drop_zero,lr];exact(aaS lr).symm
  rintro - -
  refine gB ?_
  refine Call.pure cR rfl fc ?_
  rintro _ rfl
  refine gB ?_
  refine zB.i ?_ ?_<;>intro h
  ·have h:¬sf (sg.drop 32)=sg.drop 32:=h
   refine gB ?_
   refine Ret.i (.bool (vrf pub q sg)) [] [] rfl ?_ rfl rfl ?_ rfl ?_ rfl
   ·exact fc
   ·repeat' first|exact trivial|refine zA.app ?_ ?_|refine zA.zd ?_ ?_|refine zA.cons ?_ ?_|exact fc|fail
    all_goals exact(λe=>h e.2.1)
   exact fc
  have h:sf (sg.drop 32)=sg.drop 32:=Classical.not_not.1 h
  refine aJO pub q sg n hp hq hn hs hok h o ho _ _ (Le.ghost [.keep 203,.keep 210] [] [] rfl fc rfl rfl fc rfl fc rfl)
 refine gB ?_
 refine aH.i [[],[],[0,1]] [0,1,2] (by kernel_rfl) ?_
 refine gA ?_
 refine aH.i [[],[],[0,1]] [0,1,2] (by kernel_rfl) ?_
 refine gA ?_
 refine Cut.i (σ:=Unit) (λ_=>True) (λ_=>([(8,.ff)],[])) () trivial (Le.i [] rfl fc rfl fc rfl) ?_
 rintro - -
 refine gB ?_
 refine Ret.i (.bool (vrf pub q sg)) [] [] rfl ?_ rfl rfl ?_ rfl ?_ rfl
 ·exact fc
 ·repeat' first|exact trivial|refine zA.app ?_ ?_|refine zA.zd ?_ ?_|refine zA.cons ?_ ?_|exact fc|fail
  all_goals exact(λh=>hok h.1)
 exact fc
end Go.Proofs.YtllmefnbacjjcaaGreat
