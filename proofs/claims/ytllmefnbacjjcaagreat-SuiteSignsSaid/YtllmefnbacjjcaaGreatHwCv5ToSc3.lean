/- Walks. -/
import Derived.Test.YtllmefnbacjjcaaGreatHwSs5ToCv4
import Derived.Test.YtllmefnbacjjcaaGreatHwTabToCu5
set_option linter.unusedSimpArgs false
set_option linter.unusedVariables false
set_option maxHeartbeats 4000000
open List (replicate getD_eq_getElem?_getD length_set)
open UInt8 (ofNat ofInt)
open Nat (zero_le)
set_option maxRecDepth 100000
namespace Go.Proofs.YtllmefnbacjjcaaGreat
open Go Go.Sx Go.Cu
def cmI (n:List UInt8) (P:Pt) (s:Nat×PL×Prop):Prop:=s.1<=256/\PS s.2.1 s.2.2 (P.mul (lv n/2^(256-s.1)))
def cmT (s:Nat×PL×Prop):Tm:=[(2,.ptr 2 0 none),(3,.ptr 3 0 none),(4,.ptr 4 0 none),(5,.ptr 5 0 none),(6,.i .i64 (255-(s.1:Int)))]
def cmM (n:List UInt8) (p:PL) (r:Prop) (s:Nat×PL×Prop):Mm:=[(2,.mem true 0 [(32,.a8 n)]),(3,.mem true 0 [(5,.a64 p.x),(5,.a64 p.y),(5,.a64 p.z),(5,.a64 p.t),(1,.bool r)]),
 (4,.mem true 0 [(5,.a64 (replicate 5 0)),(5,.a64 (replicate 5 0)),(5,.a64 (replicate 5 0)),(5,.a64 (replicate 5 0)),(1,.ff)]),
 (5,.mem true 0 [(5,.a64 s.2.1.x),(5,.a64 s.2.1.y),(5,.a64 s.2.1.z),(5,.a64 s.2.1.t),(1,.bool s.2.2)])]
theorem aaF (n:List UInt8) (hn:n.length=32) (p:PL) (r:Prop) (P:Pt) (hp:PS p r P):Sx.Fn Γ.P 36 [.a8 n,ptV p r] [] (λv _=>∃(o:PL) (s:Prop),PS o s (P.mul (lv n))/\v=ptV o s):=by
 obtain⟨⟨p1,p2,p3,p4⟩,_,_⟩:=id hp
 have hlt:=aGL n
 rw[hn]at hlt
 have hbd:(Tryz.f36).body=some (.seq _ (.scope _)):=rfl
 show Sx.Fn Γ.P 36 [.a8 n,.agg [(5,.a64 p.x),(5,.a64 p.y),(5,.a64 p.z),(5,.a64 p.t),(1,.bool r)]] [] _
 refine aLP [3,1000008] (Γ:=Γ) (fn:=Tryz.f36) rfl hbd rfl rfl ?_
 clear hbd
 refine gB ?_
 refine qd.i [0] (λ_ s=>cmI n P s) (λ_ s=>(cmT s,cmM n p r s)) (λ_ s=>256-s.1) rfl ?_ ⟨?_,trivial⟩
 ·refine gB ?_
  refine Cut.i (σ:=Nat×PL×Prop) (cmI n P) (λs=>(cmT s,cmM n p r s)) (0,⟨replicate 5 0,replicate 5 0,replicate 5 0,replicate 5 0⟩,False)
   ⟨zero_le _,⟨rfl,rfl,rfl,rfl⟩,False.elim,λ_=>by show P.mul (lv n/2^256)= .O;rw[Nat.div_eq_of_lt hlt];rfl⟩ (Le.i [] rfl ?_ rfl ?_ rfl) ?_
  ·exact fc
  ·repeat' first|exact trivial|refine zA.app ?_ ?_|refine zA.zd ?_ ?_|refine zA.cons ?_ ?_|exact fc|fail
   all_goals exact id
  rintro⟨k,a,q⟩ hI
  have hk:k<=256:=hI.1
  have hS:PS a q (P.mul (lv n/2^(256-k))):=hI.2
  unfold cmT cmM
  obtain⟨⟨a1,a2,a3,a4⟩,_,_⟩:=hI.2
  have hAA:=aUU a a q q _ _ hS hS
  rw[Pt.mul_dbl]at hAA
  refine gB ?_
  refine zB.i ?_ ?_<;>intro hc
  ·have hc:255-(k:Int)<0:=hc
   obtain rfl:k=256:=by omega
   have e:lv n/2^(256-256)=lv n:=by rw[Nat.sub_self,Nat.pow_zero,Nat.div_one]
   rw[e]at hS
   refine gB ?_
   refine Ret.i (ptV a q) [] [] rfl fc ⟨a,q,hS,rfl⟩ rfl fc rfl fc rfl
  have hc:¬255-(k:Int)<0:=hc
  obtain⟨i,hi⟩:∃i,i=255-k:=⟨_,rfl⟩
  have g1:256-k=i+1:=by omega
  have g2:256-(k+1)=i:=by omega
  have e0:((255-(k:Int))/8).toNat=i/8:=by omega
  have e1:((255-(k:Int))%8).toNat=i%8:=by omega
  have hbit:aVP n i=mD (n.getD (i/8) 0) (i%8)&&&ofNat 1:=rfl
  have hbv:=tf n i
  have htop:=Pt.mul_top P (lv n) i
  rw[g1]at hAA
  clear hS
  unfold ptV at hAA
  refine gB ?_
  refine Call.pure hAA rfl fc ?_
  rintro v ⟨o,ho,rfl⟩
  obtain⟨o1,o2,o3,o4⟩:=ho.1.len
  refine gB ?_
  refine aOR.i (σ:=PL) (λo=>PR o (P.mul (lv n/2^i))) (λo=>([(2,.ptr 2 0 none),(3,.ptr 3 0 none),(4,.ptr 4 0 none),(5,.ptr 5 0 none),(6,.i .i64 (255-(k:Int)))],
   [(2,.mem true 0 [(32,.a8 n)]),(3,.mem true 0 [(5,.a64 p.x),(5,.a64 p.y),(5,.a64 p.z),(5,.a64 p.t),(1,.bool r)]),
   (4,.mem true 0 [(5,.a64 (replicate 5 0)),(5,.a64 (replicate 5 0)),(5,.a64 (replicate 5 0)),(5,.a64 (replicate 5 0)),(1,.ff)]),
   (5,.mem true 0 [(5,.a64 o.x),(5,.a64 o.y),(5,.a64 o.z),(5,.a64 o.t),(1,.bool True)])])) ?_ ?_
  ·repeat refine sdI ?_
   refine zB.i ?_ ?_<;>intro hb
   ·have hb:mD (n.getD ((255-(k:Int))/8).toNat 0) ((255-(k:Int))%8).toNat&&&ofNat 1=ofNat 1:=hb
    rw[e0,e1,<-hbit]at hb
    rw[hb]at hbv
    have hb1:lv n/2^i%2=1:=hbv.symm
    rw[if_pos hb1]at htop
    have hAP:=aUU o p True r _ _ ho.ps hp
    rw[<-htop]at hAP
    unfold ptV at hAP
    refine gB ?_
    refine Call.pure hAP rfl fc ?_
    rintro v ⟨w,hw,rfl⟩
    obtain⟨w1,w2,w3,w4⟩:=hw.1.len
    refine gB ?_
    refine⟨w,hw,Le.i [] rfl fc rfl fc rfl⟩
   have hb:¬mD (n.getD ((255-(k:Int))/8).toNat 0) ((255-(k:Int))%8).toNat&&&ofNat 1=ofNat 1:=hb
   rw[e0,e1,<-hbit]at hb
   have hb1:¬lv n/2^i%2=1:=λe=>hb (UInt8.toNat_inj.1 (hbv.trans e))
   rw[if_neg hb1]at htop
   rw[<-htop]at ho
   refine gB ?_
   refine⟨o,ho,Le.i [] rfl fc rfl fc rfl⟩
  clear ho o1 o2 o3 o4 htop hAA
  rintro w hw
  obtain⟨w1,w2,w3,w4⟩:=hw.1.len
  refine gB ?_
  refine⟨rfl,(k+1,w,True),⟨by show k+1<=256;omega,by show PS w True (P.mul (lv n/2^(256-(k+1))));rw[g2];exact hw.ps⟩,trivial,Le.i [] rfl fc rfl fc rfl⟩
 rintro⟨k,a,q⟩ hI
 have⟨k1,k2,k3,k4⟩:=hI.2.1
 refine Cut.i (σ:=Unit) (λ_=>True) (λ_=>(cmT (k,a,q),cmM n p r (k,a,q))) () trivial (Le.i [] rfl fc rfl fc rfl) ?_
 rintro - -
 have hk:k<=256:=hI.1
 have hS:PS a q (P.mul (lv n/2^(256-k))):=hI.2
 unfold cmT cmM
 obtain⟨⟨a1,a2,a3,a4⟩,_,_⟩:=hI.2
 have hAA:=aUU a a q q _ _ hS hS
 rw[Pt.mul_dbl]at hAA
 refine gB ?_
 refine zB.i ?_ ?_<;>intro hc
 ·have hc:255-(k:Int)<0:=hc
  obtain rfl:k=256:=by omega
  have e:lv n/2^(256-256)=lv n:=by rw[Nat.sub_self,Nat.pow_zero,Nat.div_one]
  rw[e]at hS
  refine gB ?_
  refine Ret.i (ptV a q) [] [] rfl fc ⟨a,q,hS,rfl⟩ rfl fc rfl fc rfl
 have hc:¬255-(k:Int)<0:=hc
 obtain⟨i,hi⟩:∃i,i=255-k:=⟨_,rfl⟩
 have g1:256-k=i+1:=by omega
 have g2:256-(k+1)=i:=by omega
 have e0:((255-(k:Int))/8).toNat=i/8:=by omega
 have e1:((255-(k:Int))%8).toNat=i%8:=by omega
 have hbit:aVP n i=mD (n.getD (i/8) 0) (i%8)&&&ofNat 1:=rfl
 have hbv:=tf n i
 have htop:=Pt.mul_top P (lv n) i
 rw[g1]at hAA
 clear hS
 unfold ptV at hAA
 refine gB ?_
 refine Call.pure hAA rfl fc ?_
 rintro v ⟨o,ho,rfl⟩
 obtain⟨o1,o2,o3,o4⟩:=ho.1.len
 refine gB ?_
 refine aOR.i (σ:=PL) (λo=>PR o (P.mul (lv n/2^i))) (λo=>([(2,.ptr 2 0 none),(3,.ptr 3 0 none),(4,.ptr 4 0 none),(5,.ptr 5 0 none),(6,.i .i64 (255-(k:Int)))],
  [(2,.mem true 0 [(32,.a8 n)]),(3,.mem true 0 [(5,.a64 p.x),(5,.a64 p.y),(5,.a64 p.z),(5,.a64 p.t),(1,.bool r)]),
  (4,.mem true 0 [(5,.a64 (replicate 5 0)),(5,.a64 (replicate 5 0)),(5,.a64 (replicate 5 0)),(5,.a64 (replicate 5 0)),(1,.ff)]),
  (5,.mem true 0 [(5,.a64 o.x),(5,.a64 o.y),(5,.a64 o.z),(5,.a64 o.t),(1,.bool True)])])) ?_ ?_
 ·repeat refine sdI ?_
  refine zB.i ?_ ?_<;>intro hb
  ·have hb:mD (n.getD ((255-(k:Int))/8).toNat 0) ((255-(k:Int))%8).toNat&&&ofNat 1=ofNat 1:=hb
   rw[e0,e1,<-hbit]at hb
   rw[hb]at hbv
   have hb1:lv n/2^i%2=1:=hbv.symm
   rw[if_pos hb1]at htop
   have hAP:=aUU o p True r _ _ ho.ps hp
   rw[<-htop]at hAP
   unfold ptV at hAP
   refine gB ?_
   refine Call.pure hAP rfl fc ?_
   rintro v ⟨w,hw,rfl⟩
   obtain⟨w1,w2,w3,w4⟩:=hw.1.len
   refine gB ?_
   refine⟨w,hw,Le.i [] rfl fc rfl fc rfl⟩
  have hb:¬mD (n.getD ((255-(k:Int))/8).toNat 0) ((255-(k:Int))%8).toNat&&&ofNat 1=ofNat 1:=hb
  rw[e0,e1,<-hbit]at hb
  have hb1:¬lv n/2^i%2=1:=λe=>hb (UInt8.toNat_inj.1 (hbv.trans e))
  rw[if_neg hb1]at htop
  rw[<-htop]at ho
  refine gB ?_
  refine⟨o,ho,Le.i [] rfl fc rfl fc rfl⟩
 clear ho o1 o2 o3 o4 htop hAA
 rintro w hw
 obtain⟨w1,w2,w3,w4⟩:=hw.1.len
 refine gB ?_
 refine⟨rfl,(k+1,w,True),⟨by show k+1<=256;omega,by show PS w True (P.mul (lv n/2^(256-(k+1))));rw[g2];exact hw.ps⟩,(by show 256-(k+1)<256-k;omega),Le.i [] rfl fc rfl fc rfl⟩
end Go.Proofs.YtllmefnbacjjcaaGreat
namespace Go.Proofs.YtllmefnbacjjcaaGreat
open Go Go.Sx
def qj:List UInt64:=[6346243789798364141,1503914060200516822,0,1152921504606846976]
theorem aYU:Sx.Fn Γ.P 104 [] [] (λv _=>v= .a64 qj):=by
 refine aG (Γ:=Γ) (fn:=Tryz.f104) rfl rfl rfl rfl ?_
 refine gB ?_
 refine Ret.i (.a64 qj) [] [] rfl trivial rfl rfl ?_ rfl trivial rfl
 rfl
def ah (a b:List UInt64):Nat->List UInt64×UInt64
 |0=>(a,0)
 |i+1=>((ah a b i).1.set i (aJ0 ((ah a b i).1.getD i 0) (b.getD i 0) (ah a b i).2),aEF ((ah a b i).1.getD i 0) (b.getD i 0) (ah a b i).2)
theorem du {a b:List UInt64} (h:a.length=4):∀i,(ah a b i).1.length=4
 |0=>h
 |i+1=>by simp only[ah,length_set,du h i]
theorem aO8 (x y c:UInt64):(aEF x y c).toNat<=1:=by unfold aEF;split <;>decide
theorem oF (a b:List UInt64):∀i,(ah a b i).2.toNat<=1
 |0=>by show(0:UInt64).toNat<=1;decide
 |i+1=>aO8 _ _ _
theorem aYV (a b:List UInt64) (ha:a.length=4) (hb:b.length=4):Sx.Fn Γ.P 103 [.a64 a,.a64 b] [] (λv _=>v= .tup [.a64 (ah a b 4).1,.bool ((ah a b 4).2=1)]):=by
 refine aG (Γ:=Γ) (fn:=Tryz.f103) rfl rfl rfl rfl ?_
 refine gB ?_
 refine aY.i (σ:=Nat) (λi=>i<=4)
  (λi=>([(2,.ptr 2 0 none),(3,.ptr 3 0 none),(4,.ptr 4 0 none),(6,.u64 (ah a b i).2),(8,.i .i64 i)],
   [(2,.mem true 0 [(4,.a64 (ah a b i).1)]),(3,.mem true 0 [(4,.a64 b)]),(4,.mem true 0 [(4,.a64 (replicate 4 0))])])) (λi=>4-i) 0 (zero_le _) ?_ ?_
 ·refine Le.i [] rfl fc rfl ?_ rfl
  exact fc
 rintro i hi
 have hl:=du (b:=b) ha i
 have hc1:=oF a b i
 obtain⟨X,hX⟩:∃x,(ah a b i).1=x:=⟨_,rfl⟩
 obtain⟨C,hC⟩:∃x,(ah a b i).2=x:=⟨_,rfl⟩
 have hn1:(ah a b (i+1)).1=X.set i (aJ0 (X.getD i 0) (b.getD i 0) C):=by rw[<-hX,<-hC];rfl
 have hn2:(ah a b (i+1)).2=aEF (X.getD i 0) (b.getD i 0) C:=by rw[<-hX,<-hC];rfl
 refine zB.i ?_ ?_<;>intro hc
 ·have hc:(i:Int)<4:=hc
  rw[hX,hC]
  rw[hX]at hl
  rw[hC]at hc1
  refine aH.i [[],[],[1],[1,2],[],[4],[4,5],[],[1,2,3,4,5,6,7],[1,2,3,4,5,6,7,8],[1,2,3,4,5,6,7,8,9],[1,2,3,4,5,6,7,8,9],fe,[0,1,2,3,4,5,6,7,8,9,10,12],oB] nw (by kernel_rfl) ?_
  refine gB ?_
  refine gB ?_
  refine⟨i+1,by omega,by omega,Le.i [] rfl fc rfl ?_ rfl⟩
  exact fc
 obtain rfl:i=4:=by have hc:¬(i:Int)<4:=hc;omega
 refine gB ?_
 refine Ret.i (.tup [.a64 (ah a b 4).1,.bool ((ah a b 4).2=1)]) [] [] rfl ?_ rfl rfl ?_ rfl trivial rfl
 ·exact fc
 repeat' first|exact trivial|refine zA.app ?_ ?_|refine zA.zd ?_ ?_|refine zA.cons ?_ ?_|exact fc|fail
 exact Iff.rfl
def xN (a:List UInt64):Nat->List UInt8
 |0=>replicate 32 0
 |i+1=>(xN a i).set i (aF (a.getD (i/8) 0) (i%8*8)).toUInt8
theorem iD (a:List UInt64):∀i,(xN a i).length=32
 |0=>List.length_replicate
 |i+1=>by simp only[xN,length_set,iD a i]
theorem aYF (a:List UInt64) (ha:a.length=4):Sx.Fn Γ.P 71 [.a64 a] [] (λv _=>v= .a8 (xN a 32)):=by
 refine aG (Γ:=Γ) (fn:=Tryz.f71) rfl rfl rfl rfl ?_
 refine gB ?_
 refine aY.i (σ:=Nat) (λi=>i<=32)
  (λi=>([(1,.ptr 1 0 none),(2,.ptr 2 0 none),(3,.ptr 3 0 none),(5,.i .i64 i)],
   [(1,.mem true 0 [(4,.a64 a)]),(2,.mem true 0 [(32,.a8 (replicate 32 0))]),(3,.mem true 0 [(32,.a8 (xN a i))])])) (λi=>32-i) 0 (zero_le _) ?_ ?_
 ·refine Le.i [] rfl fc rfl ?_ rfl
  exact fc
 rintro i hi
 have hl:=iD a i
 have hn:xN a (i+1)=(xN a i).set i (aF (a.getD (i/8) 0) (i%8*8)).toUInt8:=rfl
 refine zB.i ?_ ?_<;>intro hc
 ·have hc:(i:Int)<32:=hc
  have e1:((i:Int)/8).toNat=i/8:=by omega
  have e2:((i:Int)%8*8).toNat=i%8*8:=by omega
  repeat refine sdJ ?_
  refine⟨i+1,by omega,by omega,Le.i [] rfl fc rfl ?_ rfl⟩
  repeat' (first|exact trivial|refine zA.app ?_ ?_|refine zA.zd ?_ ?_|refine zA.cons ?_ ?_|exact fcJ|fail)
 obtain rfl:i=32:=by have hc:¬(i:Int)<32:=hc;omega
 refine gB ?_
 refine Ret.i (.a8 (xN a 32)) [] [] rfl fc rfl rfl fc rfl trivial rfl
def muT (x y:UInt64):UInt64:=aF x 32*(y&&&UInt64.ofNat 4294967295)+aF ((x&&&UInt64.ofNat 4294967295)*(y&&&UInt64.ofNat 4294967295)) 32
def muH (x y:UInt64):UInt64:=aF x 32*aF y 32+aF (muT x y) 32+aF ((muT x y&&&UInt64.ofNat 4294967295)+(x&&&UInt64.ofNat 4294967295)*aF y 32) 32
theorem abE (x y:UInt64):Sx.Fn Γ.P 69 [.u64 x,.u64 y] [] (λv _=>v= .tup [.u64 (muH x y),.u64 (x*y)]):=by
 refine aG (Γ:=Γ) (fn:=Tryz.f69) rfl rfl rfl rfl ?_
 refine gB ?_
 refine Ret.i (.tup [.u64 (muH x y),.u64 (x*y)]) [] [] rfl trivial rfl rfl ?_ rfl trivial rfl
 exact fc
end Go.Proofs.YtllmefnbacjjcaaGreat
namespace Go.Proofs.YtllmefnbacjjcaaGreat
open Go Go.Sx
def dv (l:List Int):Nat->Int
 |0=>0
 |n+1=>dv l n+l.getD n 0*65536^n
def Dig (l:List Int):Prop:=∀i,0<=l.getD i 0/\l.getD i 0<65536
theorem aE {α:Type} {l:List α} {i:Nat} {x d:α} (h:i<l.length):(l.set i x).getD i d=x:=by
 rw[getD_eq_getElem?_getD,List.getElem?_set_self h];rfl
theorem aA {α:Type} {l:List α} {i j:Nat} {x d:α} (h:i≠j):(l.set i x).getD j d=l.getD j d:=by
 rw[getD_eq_getElem?_getD,List.getElem?_set_ne h,<-getD_eq_getElem?_getD]
theorem cG {α:Type} {l:List α} {i:Nat} {d:α} (h:l.length<=i):l.getD i d=d:=by
 rw[getD_eq_getElem?_getD,List.getElem?_eq_none h];rfl
theorem Dig.set {l:List Int} (h:Dig l) {i:Nat} {x:Int} (h0:0<=x) (h1:x<65536):Dig (l.set i x):=by
 intro j
 by_cases hj:i=j
 ·subst hj
  rcases Nat.lt_or_ge i l.length with hl|hl
  ·rw[aE hl];exact⟨h0,h1⟩
  rw[List.set_eq_of_length_le hl];exact h i
 rw[aA hj];exact h j
theorem Dig.rep (n:Nat):Dig (replicate n 0):=by
 intro j
 rw[getD_eq_getElem?_getD,List.getElem?_replicate]
 split <;>decide
theorem fr {l m:List Int}:∀{n:Nat},(∀i,i<n->l.getD i 0=m.getD i 0)->dv l n=dv m n
 |0,_=>rfl
 |n+1,h=>by simp only[dv];rw[fr λi hi=>h i (by omega),h n (by omega)]
theorem aH4 {l:List Int} {i n:Nat} {x:Int} (h:n<=i):dv (l.set i x) n=dv l n:=
 fr λj hj=>aA (by omega)
theorem ar {l:List Int} {i:Nat} {x:Int} (h:i<l.length):dv (l.set i x) (i+1)=dv l i+x*65536^i:=by
 simp only[dv];rw[aH4 (Nat.le_refl _),aE h]
theorem pI (n:Nat):(0:Int)<65536^n:=Int.pow_pos (by decide)
theorem aJ {l:List Int} (h:Dig l):∀n,0<=dv l n/\dv l n<65536^n
 |0=>⟨Int.le_refl _,by show(0:Int)<1;decide⟩
 |n+1=>by
  obtain⟨h1,h2⟩:=aJ h n
  obtain⟨h3,h4⟩:=h n
  have hp:=pI n
  have h5:0<=l.getD n 0*65536^n:=Int.mul_nonneg h3 (by omega)
  have h6:l.getD n 0*65536^n<=65535*65536^n:=Int.mul_le_mul_of_nonneg_right (by omega) (by omega)
  simp only[dv]
  rw[Int.pow_succ]
  omega
theorem tT {l:List Int} {a:Nat}:∀{b:Nat},a<=b->(∀i,a<=i->i<b->l.getD i 0=0)->dv l b=dv l a
 |0,h,_=>by
  obtain rfl:a=0:=by omega
  rfl
 |b+1,h,hz=>by
  by_cases hab:a=b+1
  ·rw[hab]
  simp only[dv]
  rw[tT (by omega) λi h1 h2=>hz i h1 (by omega),hz b (by omega) (by omega)]
  omega
theorem aOF {l m:List Int} (hl:Dig l) (hm:Dig m):∀{n:Nat},dv l n=dv m n->∀i,i<n->l.getD i 0=m.getD i 0
 |0,_,_,h=>absurd h (Nat.not_lt_zero _)
 |n+1,h,i,hi=>by
  have hp:=pI n
  obtain⟨a1,a2⟩:=aJ hl n
  obtain⟨b1,b2⟩:=aJ hm n
  simp only[dv]at h
  have e:l.getD n 0=m.getD n 0:=by
   have h1:(dv l n+l.getD n 0*65536^n)/65536^n=l.getD n 0:=by
    rw[Int.add_mul_ediv_right _ _ (by omega),Int.ediv_eq_zero_of_lt a1 a2,Int.zero_add]
   have h2:(dv m n+m.getD n 0*65536^n)/65536^n=m.getD n 0:=by
    rw[Int.add_mul_ediv_right _ _ (by omega),Int.ediv_eq_zero_of_lt b1 b2,Int.zero_add]
   rw[<-h1,<-h2,h]
  rw[e]at h
  have h':dv l n=dv m n:=by omega
  rcases Nat.lt_or_ge i n with h1|h1
  ·exact aOF hl hm h' i h1
  obtain rfl:i=n:=by omega
  exact e
theorem aMB {a b:List Int} (ha:Dig a) (hb:Dig b) {n i:Nat} (hi:i<n) (hd:a.getD i 0<b.getD i 0) (hs:∀j,i<j->j<n->a.getD j 0=b.getD j 0):dv a n<dv b n:=by
 induction n with
 |zero=>omega
 |succ n ih=>
  simp only[dv]
  by_cases h:i=n
  ·subst h
   obtain⟨a1,a2⟩:=aJ ha i
   obtain⟨b1,b2⟩:=aJ hb i
   have hp:=pI i
   have:(a.getD i 0+1)*65536^i<=b.getD i 0*65536^i:=Int.mul_le_mul_of_nonneg_right (by omega) (by omega)
   rw[Int.add_mul]at this
   omega
  have h1:=ih (by omega) λj h2 h3=>hs j h2 (by omega)
  rw[hs n (by omega) (by omega)]
  omega
def dbS (l:List Int):Nat->List Int×Int
 |0=>(l,0)
 |i+1=>((dbS l i).1.set i (((dbS l i).2+2*(dbS l i).1.getD i 0)%65536),((dbS l i).2+2*(dbS l i).1.getD i 0)/65536)
theorem gn (l:List Int):∀i,(dbS l i).1.length=l.length
 |0=>rfl
 |i+1=>by simp only[dbS,length_set,gn l i]
theorem aID (l:List Int):∀i j,i<=j->(dbS l i).1.getD j 0=l.getD j 0
 |0,_,_=>rfl
 |i+1,j,h=>by simp only[dbS];rw[aA (by omega),aID l i j (by omega)]
theorem tV {l:List Int} (h:Dig l):∀i,Dig (dbS l i).1/\0<=(dbS l i).2/\(dbS l i).2<=1
 |0=>⟨h,Int.le_refl _,by show(0:Int)<=1;decide⟩
 |i+1=>by
  obtain⟨h1,h2,h3⟩:=tV h i
  obtain⟨h4,h5⟩:=h1 i
  refine⟨h1.set ?_ ?_,?_,?_⟩
  ·omega
  ·omega
  ·show 0<=((dbS l i).2+2*(dbS l i).1.getD i 0)/65536;omega
  show((dbS l i).2+2*(dbS l i).1.getD i 0)/65536<=1;omega
theorem aIC (l:List Int):∀i,i<=l.length->dv (dbS l i).1 i+(dbS l i).2*65536^i=2*dv l i
 |0,_=>by simp only[dbS,dv];omega
 |i+1,hi=>by
  have ih:=aIC l i (by omega)
  have hs:=aID l i i (Nat.le_refl _)
  have hl:=gn l i
  simp only[dbS]
  rw[ar (by omega)]
  simp only[dv]
  rw[hs]
  have e:((dbS l i).2+2*l.getD i 0)%65536+65536*(((dbS l i).2+2*l.getD i 0)/65536)=(dbS l i).2+2*l.getD i 0:=Int.emod_add_mul_ediv _ _
  rw[Int.pow_succ]
  generalize ((dbS l i).2+2*l.getD i 0)%65536=m at *
  generalize ((dbS l i).2+2*l.getD i 0)/65536=q at *
  generalize (65536:Int)^i=p at *
  have e2:m*p+q*(p*65536)=((dbS l i).2+2*l.getD i 0)*p:=by rw[<-e,Int.add_mul,Int.mul_comm p,<-Int.mul_assoc,Int.mul_comm q]
  rw[Int.add_mul,Int.mul_assoc 2]at e2
  omega
def ordB:List Int:=[0xd3ed,0x5cf5,0x631a,0x5812,0x9cd6,0xa2f7,0xf9de,0x14de,0,0,0,0,0,0,0,0x1000,0]
def ma:Nat->List Int
 |0=>ordB
 |k+1=>(dbS (ma k) 17).1
def Lz:Int:=7237005577332262213973186563042994240857116359379907606001950938285454250989
theorem fT:∀k,(ma k).length=17
 |0=>rfl
 |k+1=>by simp only[ma,gn,fT k]
theorem aKQ:Dig ordB:=by
 intro i
 rcases Nat.lt_or_ge i 17 with h|h
 ·have:∀i,i<17->0<=ordB.getD i 0/\ordB.getD i 0<65536:=by decide
  exact this i h
 rw[cG (by exact h)];decide
theorem jP:∀k,Dig (ma k)
 |0=>aKQ
 |k+1=>(tV (jP k) 17).1
theorem zY:∀k,k<=15->dv (ma k) 17=Lz*2^k
 | 0,_=>by decide +kernel
 |k+1,h=>by
  have ih:=zY k (by omega)
  have hv:=aIC (ma k) 17 (by rw[fT];omega)
  obtain⟨hd,hc0,hc1⟩:=tV (jP k) 17
  obtain⟨hb0,hb1⟩:=aJ hd 17
  rw[ih]at hv
  have hp:(2:Int)^k<=2^14:=by
   have:(2:Nat)^k<=2^14:=Nat.pow_le_pow_right (by decide) (by omega)
   exact_mod_cast this
  have hL:Lz*2^k<=Lz*2^14:=Int.mul_le_mul_of_nonneg_left hp (by decide)
  have hbig:2 * (Lz * 2 ^ 14) < 65536 ^ 17:=by decide +kernel
  have hc:(dbS (ma k) 17).2=0:=by
   rcases Int.lt_or_le (dbS (ma k) 17).2 1 with h1|h1
   ·omega
   have:(dbS (ma k) 17).2=1:=by omega
   rw[this]at hv
   omega
  rw[hc,Int.zero_mul,Int.add_zero]at hv
  show dv (dbS (ma k) 17).1 17=_
  rw[hv,Int.pow_succ]
  generalize (2:Int)^k=q
  rw[Int.mul_comm q 2,<-Int.mul_assoc,<-Int.mul_assoc,Int.mul_comm 2 Lz]
end Go.Proofs.YtllmefnbacjjcaaGreat
namespace Go.Proofs.YtllmefnbacjjcaaGreat
open Go Go.Sx
theorem aYR (n:Nat) (hn:n<=15):Sx.Fn Γ.P 114 [.i .i64 n] [] (λv M=>v= .sl 1001 0 0 17 17/\M=[(1001,.mem true 0 [(17,.ai (ma n))])]):=by
 refine aG (Γ:=Γ) (fn:=Tryz.f114) rfl rfl rfl rfl ?_
 refine gB ?_
 refine aY.i (σ:=Nat) (λj=>j<=n)
  (λj=>([(0,.i .i64 ((n:Int)-j)),(3,.sl 6 0 0 17 17)],[(6,.mem true 0 [(17,.ai (ma j))])])) (λj=>n-j) 0 (zero_le _) ?_ ?_
 ·refine Le.i [] rfl fc rfl ?_ rfl
  exact fc
 rintro j hj
 refine zB.i ?_ ?_<;>intro hc
 ·have hc:(n:Int)-j>0:=hc
  have hD:=jP j
  have hlD:=fT j
  have hn1:ma (j+1)=(dbS (ma j) 17).1:=rfl
  generalize ma j=l at hD hlD hn1
  refine gB ?_
  refine aY.i (σ:=Nat) (λi=>i<=17)
   (λi=>([(0,.i .i64 ((n:Int)-j)),(3,.sl 6 0 0 17 17),(4,.i .i64 (dbS l i).2),(5,.i .i64 i)],[(6,.mem true 0 [(17,.ai (dbS l i).1)])])) (λi=>17-i) 0 (zero_le _) ?_ ?_
  ·refine Le.i [] rfl fc rfl ?_ rfl
   exact fc
  rintro i hi
  refine zB.i ?_ ?_<;>intro hc
  ·have hc:(i:Int)<17:=hc
   obtain⟨hd,hc0,hc1⟩:=tV hD i
   have hdi:=hd i
   have hdl:=gn l i
   have hx1:(dbS l (i+1)).1=(dbS l i).1.set i (((dbS l i).2+2*(dbS l i).1.getD i 0)%65536):=rfl
   have hx2:(dbS l (i+1)).2=((dbS l i).2+2*(dbS l i).1.getD i 0)/65536:=rfl
   generalize (dbS l i).1=X at hd hdi hdl hx1 hx2
   generalize (dbS l i).2=C at hc0 hc1 hx1 hx2
   refine gC ?_
   refine⟨i+1,by omega,by omega,Le.i [] rfl fcn rfl fcn rfl⟩
  obtain rfl:i=17:=by have hc:¬(i:Int)<17:=hc;omega
  have hlD2:=gn l 17
  have hn2:=hn1.symm
  refine gB ?_
  refine⟨j+1,by omega,by omega,Le.i [] rfl fc rfl ?_ rfl⟩
  exact fc
 obtain rfl:j=n:=by have hc:¬(n:Int)-j>0:=hc;omega
 have hlD:=fT j
 refine gB ?_
 refine Ret.i (.sl 1001 0 0 17 17) [(1001,.mem true 0 [(17,.ai (ma j))])] [(1001,(6,0,none))] rfl fc ⟨rfl,rfl⟩ rfl fc rfl fc rfl
theorem aYQ (a b:List Int) (ha:Dig a) (hb:Dig b) (hla:a.length=17) (hlb:b.length=17):
  Sx.Fn Γ.P 115 [.slx 1000 0 0 17,.slx 1001 0 0 17] [(1000,.mem false 0 [(17,.ai a)]),(1001,.mem false 0 [(17,.ai b)])]
   (λv M=>v= .bool (dv a 17<dv b 17)/\M=[(1000,.mem false 0 [(17,.ai a)]),(1001,.mem false 0 [(17,.ai b)])]):=by
 refine aG (Γ:=Γ) (fn:=Tryz.f115) rfl rfl rfl rfl ?_
 refine gB ?_
 refine aY.i (σ:=Nat) (λk=>k<=17/\∀j,17-k<=j->j<17->a.getD j 0=b.getD j 0)
  (λk=>([(0,.slx 1000 0 0 17),(1,.slx 1001 0 0 17),(5,.i .i64 (16-(k:Int)))],[(1000,.mem false 0 [(17,.ai a)]),(1001,.mem false 0 [(17,.ai b)])])) (λk=>17-k) 0 ⟨zero_le _,λj h1 h2=>by omega⟩ ?_ ?_
 ·refine Le.i [] rfl fc rfl ?_ rfl
  exact fc
 rintro k ⟨hk,hs⟩
 refine zB.i ?_ ?_<;>intro hc
 ·have hc:(16-(k:Int))≥0:=hc
  have e0:(16-(k:Int)).toNat=16-k:=by omega
  refine aH.i [[],[],[0,1],[0,1,2],[],[],[4,5],[4,5,6],r_8] r_9 (by kernel_rfl) ?_
  repeat refine sdH ?_
  refine zB.i ?_ ?_<;>intro hd
  ·have hd:¬a.getD (fL 0 (16-(k:Int)).toNat) 0=b.getD (fL 0 (16-(k:Int)).toNat) 0:=hd
   rw[zQ,Nat.zero_add,e0]at hd
   refine aH.i [[],[],[0,1],[0,1,2],[],[],[4,5],[4,5,6],r_8,r_9] ek (by kernel_rfl) ?_
   repeat refine sdH ?_
   refine Ret.i (.bool (dv a 17<dv b 17)) [(1000,.mem false 0 [(17,.ai a)]),(1001,.mem false 0 [(17,.ai b)])] [] rfl trivial ⟨rfl,rfl⟩ rfl ?_ rfl ?_ rfl
   ·show dv a 17<dv b 17↔a.getD (fL 0 (16-(k:Int)).toNat) 0<b.getD (fL 0 (16-(k:Int)).toNat) 0
    rw[zQ,Nat.zero_add,e0]
    have h1:∀j,16-k<j->j<17->a.getD j 0=b.getD j 0:=λj h1 h2=>hs j (by omega) h2
    constructor
    ·intro h
     rcases Int.lt_or_le (a.getD (16-k) 0) (b.getD (16-k) 0)with h2|h2
     ·exact h2
     have:=aMB hb ha (n:=17) (i:=16-k) (by omega) (by omega) λj h3 h4=>(h1 j h3 h4).symm
     omega
    intro h
    exact aMB ha hb (by omega) h h1
   exact fc
  have hd:¬¬a.getD (fL 0 (16-(k:Int)).toNat) 0=b.getD (fL 0 (16-(k:Int)).toNat) 0:=hd
  rw[zQ,Nat.zero_add,e0]at hd
  refine gB ?_
  refine⟨k+1,⟨by omega,λj h1 h2=>?_⟩,by omega,Le.i [] rfl fc rfl ?_ rfl⟩
  ·by_cases hj:j=16-k
   ·subst hj;omega
   exact hs j (by omega) h2
  exact fc
 have hc:¬(16-(k:Int))≥0:=hc
 have e:dv a 17=dv b 17:=fr λi hi=>hs i (by omega) hi
 refine gB ?_
 refine Ret.i (.bool (dv a 17<dv b 17)) [(1000,.mem false 0 [(17,.ai a)]),(1001,.mem false 0 [(17,.ai b)])] [] rfl trivial ⟨rfl,rfl⟩ rfl ?_ rfl ?_ rfl
 ·show¬dv a 17<dv b 17
  omega
 exact fc
end Go.Proofs.YtllmefnbacjjcaaGreat
namespace Go.Proofs.YtllmefnbacjjcaaGreat
open Go Go.Sx
def dgS (b:List UInt8):Nat->List Int
 |0=>[]
 |i+1=>if i%2=0 then dgS b i++[((b.getD i 0).toNat:Int)]else(dgS b i).set (i/2) ((dgS b i).getD (i/2) 0+256*((b.getD i 0).toNat:Int))
theorem bV (b:List UInt8):∀i,(dgS b i).length=(i+1)/2
 |0=>rfl
 |i+1=>by
  simp only[dgS]
  split
  ·rw[zlA,bV b i,List.length_singleton];omega
  rw[length_set,bV b i];omega
theorem dC (b:List UInt8):∀i,Dig (dgS b i)/\(i%2=1->(dgS b i).getD (i/2) 0<256)
 |0=>⟨λj=>by show 0<=([]:List Int).getD j 0/\([]:List Int).getD j 0<65536;rw[cG (by simp)];decide,λh=>by omega⟩
 |i+1=>by
  obtain⟨h1,h2⟩:=dC b i
  have hl:=bV b i
  have hb:=(b.getD i 0).toNat_lt
  simp only[dgS]
  split
  ·rename_i he
   have e:∀j,(dgS b i++[((b.getD i 0).toNat:Int)]).getD j 0=if j=i/2 then((b.getD i 0).toNat:Int)else(dgS b i).getD j 0:=by
    intro j
    rcases Nat.lt_trichotomy j (i/2)with h|h|h
    ·rw[if_neg (by omega),getD_eq_getElem?_getD,List.getElem?_append_left (by omega),<-getD_eq_getElem?_getD]
    ·rw[if_pos h,getD_eq_getElem?_getD,List.getElem?_append_right (by omega),show j-(dgS b i).length=0 by omega];rfl
    rw[if_neg (by omega),cG (by rw[zlA,List.length_singleton];omega),cG (by omega)]
   refine⟨λj=>?_,λ_=>?_⟩
   ·rw[e]
    split
    ·omega
    exact h1 j
   rw[e,if_pos (by omega)];omega
  rename_i he
  obtain⟨h3,h4⟩:=h1 (i/2)
  have h5:=h2 (by omega)
  exact⟨h1.set (by omega) (by omega),λh=>by omega⟩
theorem aWB (b:List UInt8) (n:Nat) (hb:b.length=n) (hmax:n<=100000):Sx.Fn Γ.P 87 [.slx 1000 0 0 n] [(1000,.mem false 0 [(n,.a8 b)])]
  (λv M=>∃c,(n+1)/2<=c/\v= .sl 1001 0 0 ((n+1)/2) c/\M=[(1000,.mem false 0 [(n,.a8 b)]),(1001,.mem true (c-(n+1)/2) [((n+1)/2,.ai (dgS b n))])]):=by
 refine aG (Γ:=Γ) (fn:=Tryz.f87) rfl rfl rfl rfl ?_
 refine gB ?_
 refine aY.i (σ:=Nat×Nat) (λs=>s.1<=n/\(s.1+1)/2<=s.2)
  (λs=>([(0,.slx 1000 0 0 n),(3,.sl 203 0 0 ((s.1+1)/2) s.2),(4,.i .i64 s.1)],[(1000,.mem false 0 [(n,.a8 b)]),(203,.mem true (s.2-(s.1+1)/2) [((s.1+1)/2,.ai (dgS b s.1))])])) (λs=>n-s.1) (0,0) ⟨zero_le _,Nat.le_refl _⟩ ?_ ?_
 ·refine Le.ghost [.own 203 [(0,.ai [])]] [(3,203)] [] rfl ⟨rfl,rfl,trivial⟩ rfl rfl fc rfl fc rfl
 rintro⟨i,c⟩ ⟨hi,hc0⟩
 have hi:i<=n:=hi
 have hc0:(i+1)/2<=c:=hc0
 refine zB.i ?_ ?_<;>intro hc
 ·have hc:(i:Int)<n:=hc
  have hl:=bV b i
  have hbi:=(b.getD i 0).toNat_lt
  refine gB ?_
  refine zB.i ?_ ?_<;>intro he
  ·have he:(i:Int)%2=0:=he
   have hx:dgS b (i+1)=dgS b i++[((b.getD i 0).toNat:Int)]:=if_pos (by omega)
   refine gC ?_
   refineλc' hc'=>?_
   have hc':(i+1)/2+1<=c':=hc'
   refine gB ?_
   refine⟨(i+1,c'),⟨by omega,by show(i+1+1)/2<=c';omega⟩,by show n-(i+1)<n-i;omega,Le.i [(203,(21,0,none))] rfl fc rfl fcn rfl⟩
  have he:¬(i:Int)%2=0:=he
  obtain⟨hD,hlt⟩:=dC b i
  have hDi:=hD (i/2)
  have hlt:=hlt (by omega)
  have e0:((i:Int)/2).toNat=i/2:=by omega
  have hx:dgS b (i+1)=(dgS b i).set (i/2) ((dgS b i).getD (i/2) 0+256*((b.getD i 0).toNat:Int)):=if_neg (by omega)
  refine aH.i [[],[],[1],[],[],[4],[3,4,5],[3,4,5,6],[],[],[8,9],[8,9,10],[8,9,10,11],[8,9,10,11,12],[3,4,5,6,7,8,9,10,11,12,13],nw,na] wG (by kernel_rfl) ?_
  repeat refine sdH ?_
  refine⟨(i+1,c),⟨by omega,by show(i+1+1)/2<=c;omega⟩,by show n-(i+1)<n-i;omega,Le.i [] rfl fc rfl fcH rfl⟩
 obtain rfl:i=n:=by have hc:¬(i:Int)<n:=hc;omega
 have hl:=bV b i
 refine gB ?_
 refine Ret.i (.sl 1001 0 0 ((i+1)/2) c) [(1000,.mem false 0 [(i,.a8 b)]),(1001,.mem true (c-(i+1)/2) [((i+1)/2,.ai (dgS b i))])] [(1001,(203,0,none))] rfl fc ⟨c,hc0,rfl,rfl⟩ rfl fc rfl fc rfl
def byS (d:List Int):Nat->List UInt8
 |0=>replicate 32 0
 |i+1=>((byS d i).set (2*i) (ofInt (d.getD i 0%256))).set (2*i+1) (ofInt (d.getD i 0/256))
theorem byS_length (d:List Int):∀i,(byS d i).length=32
 |0=>List.length_replicate
 |i+1=>by simp only[byS,length_set,byS_length d i]
theorem aZ5 (d:List Int) (hd:Dig d) (hl:d.length=17):Sx.Fn Γ.P 88 [.slx 1000 0 0 16] [(1000,.mem false 0 [(17,.ai d)])]
  (λv M=>v= .a8 (byS d 16)/\M=[(1000,.mem false 0 [(17,.ai d)])]):=by
 refine aG (Γ:=Γ) (fn:=Tryz.f88) rfl rfl rfl rfl ?_
 refine gB ?_
 refine aY.i (σ:=Nat) (λi=>i<=16)
  (λi=>([(0,.slx 1000 0 0 16),(2,.ptr 2 0 none),(3,.ptr 3 0 none),(4,.i .i64 i)],[(1000,.mem false 0 [(17,.ai d)]),(2,.mem true 0 [(32,.a8 (replicate 32 0))]),(3,.mem true 0 [(32,.a8 (byS d i))])])) (λi=>16-i) 0 (zero_le _) ?_ ?_
 ·refine Le.i [] rfl fc rfl ?_ rfl
  exact fc
 rintro i hi
 have hll:=byS_length d i
 refine zB.i ?_ ?_<;>intro hc
 ·have hc:(i:Int)<16:=hc
  have hdi:=hd i
  have hx:byS d (i+1)=((byS d i).set (2*i) (ofInt (d.getD i 0%256))).set (2*i+1) (ofInt (d.getD i 0/256)):=rfl
  have e0:(2*(i:Int)).toNat=2*i:=by omega
  have e1:(2*(i:Int)+1).toNat=2*i+1:=by omega
  repeat refine sdI ?_
  refine⟨i+1,by omega,by omega,Le.i [] rfl fcI rfl fcI rfl⟩
 have h16:i=16:=by have hc:¬(i:Int)<16:=hc;omega
 obtain⟨R,hR⟩:∃x,byS d i=x:=⟨_,rfl⟩
 have hR16:byS d 16=R:=by rw[<-hR,h16]
 rw[hR,hR16]
 rw[hR]at hll
 clear hR hR16
 refine gB ?_
 refine Ret.i (.a8 R) [(1000,.mem false 0 [(17,.ai d)])] [] rfl fc ⟨rfl,rfl⟩ rfl fc rfl fc rfl
end Go.Proofs.YtllmefnbacjjcaaGreat
