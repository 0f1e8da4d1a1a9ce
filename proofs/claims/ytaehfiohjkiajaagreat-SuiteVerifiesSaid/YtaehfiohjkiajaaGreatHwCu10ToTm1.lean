/- Walks. -/
import Derived.Test.YtaehfiohjkiajaaGreatHwTabToCu9
import Derived.Test.YtaehfiohjkiajaaGreatHx7
set_option linter.unusedSimpArgs false
set_option linter.unusedVariables false
set_option maxHeartbeats 4000000
open UInt64 (ofNat toNat_add)
open List (replicate getD_eq_getElem?_getD length_set)
open Nat (mod_lt zero_le lt_trans pow_mul mod_eq_of_lt div_one pow_add)
open UInt8 (toNat_ofNat')
set_option maxRecDepth 100000
namespace Go.Cu
open Go Go.Sx
def aXC:List UInt64:=[ofNat 1,0,0,0,0]
theorem aPX:Lb aXC:=⟨rfl,by decide,by decide,by decide,by decide,by decide⟩
theorem aPY:fv aXC = 1:=by decide +kernel
def aDG (k i:Nat):Prop:=(k-1)/2^i%2=0\/10<i
instance (k i:Nat):Decidable (aDG k i):=by unfold aDG;exact inferInstance
def pwS (a:List UInt64) (n k:Nat):Nat->List UInt64
 |0=>aXC
 |j+1=>if aDG k (n-1-j)then cd (cd (pwS a n k j) (pwS a n k j)) a else cd (pwS a n k j) (pwS a n k j)
def exN (n k:Nat):Nat->Nat
 |0=>0
 |j+1=>if aDG k (n-1-j)then 2*exN n k j+1 else 2*exN n k j
theorem ui (a:List UInt64) (n k:Nat):∀j,Lb (pwS a n k j)
 |0=>aPX
 |j+1=>by unfold pwS;split <;>exact aP _ _
theorem zJ {a:List UInt64} (ha:Lb a) (n k:Nat):∀j,fv (pwS a n k j)=pw (fv a) (exN n k j)
 |0=>aPY
 |j+1=>by
  have ih:=zJ ha n k j;have hb:=ui a n k j;have h2:fv (cd (pwS a n k j) (pwS a n k j))=pw (fv a) (2*exN n k j):=by
   rw[ak hb hb,ih,<-rZ];congr 1;omega
  unfold pwS exN;split
  .rw[ak (aP _ _) ha,h2];rfl
  exact h2
def aN2 (a:List UInt64):List UInt64:=pwS a 255 21 255
theorem xu (a:List UInt64):Lb (aN2 a):=ui _ _ _ _
theorem aU4:exN 255 21 255 = aB - 2:=by decide +kernel
theorem aG4 {a:List UInt64} (ha:Lb a):fv (aN2 a)=inv (fv a):=by
 unfold aN2;rw[zJ ha,aU4,aG3]
def lv:List UInt8->Nat
 |[]=>0
 |b::r=>b.toNat+256*lv r
def leN (v:Nat):Nat->List UInt8
 |0=>[]
 |n+1=>UInt8.ofNat v::leN (v/256) n
theorem mo:∀n v,(leN v n).length=n
 |0,_=>rfl
 |n+1,v=>by show(leN (v/256) n).length+1=n+1;rw[mo n]
theorem aNS:∀n v,lv (leN v n)=v%256^n
 |0,v=>by show 0=v%1;rw[Nat.mod_one]
 |n+1,v=>by
  show(UInt8.ofNat v).toNat+256*lv (leN (v/256) n)=v%256^(n+1);have h:(UInt8.ofNat v).toNat=v%256:=toNat_ofNat';rw[aNS n,h,Nat.pow_succ',Nat.mod_mul]
theorem tK:∀n v i,i<n->(leN v n).getD i 0=UInt8.ofNat (v/256^i)
 |n+1,v,0,_=>by show UInt8.ofNat v=UInt8.ofNat (v/1);rw[div_one]
 |n+1,v,i+1,h=>by
  show(leN (v/256) n).getD i 0=_;rw[tK n (v/256) i (by omega),Nat.div_div_eq_div_mul,Nat.pow_succ']
def leB (x:F):List UInt8:=leN x.val 32
theorem aj (x:F):(leB x).length=32:=mo _ _
theorem ux (x:F):lv (leB x)=x.val:=by
 have h:=x.isLt;unfold leB;rw[aNS];exact mod_eq_of_lt (lt_trans h (by decide))
def qS (l:List UInt64):Nat->UInt64
 |0=>ofNat 19
 |i+1=>aF (l.getD i 0+qS l i) 51
def nmS (l:List UInt64):Nat->List UInt64
 |0=>l
 |i+1=>((nmS l i).set (i+1) ((nmS l i).getD (i+1) 0+aF ((nmS l i).getD i 0) 51)).set i (((nmS l i).set (i+1) ((nmS l i).getD (i+1) 0+aF ((nmS l i).getD i 0) 51)).getD i 0&&&ofNat 2251799813685247)
theorem rh (l:List UInt64) (h:l.length=5):∀i,(nmS l i).length=5
 |0=>h
 |i+1=>by show(List.set (List.set _ _ _) _ _).length=5;rw[length_set,length_set];exact rh l h i
def wdL (l:List UInt64):List UInt64:=
 [l.getD 0 0|||aQ (l.getD 1 0) 51,aF (l.getD 1 0) 13|||aQ (l.getD 2 0) 38,aF (l.getD 2 0) 26|||aQ (l.getD 3 0) 25,aF (l.getD 3 0) 39|||aQ (l.getD 4 0) 12]
def byS (t:List UInt64):Nat->List UInt8
 |0=>replicate 32 0
 |i+1=>(byS t i).set i (aF (t.getD (i/8) 0) (i%8*8)).toUInt8
theorem byS_length (t:List UInt64):∀i,(byS t i).length=32
 |0=>rfl
 |i+1=>by show((byS t i).set i _).length=32;rw[length_set];exact byS_length t i
def frL (l:List UInt64):List UInt64:=l.set 0 (l.getD 0 0+ofNat 19*qS l 5)
def nmL (l:List UInt64):List UInt64:=(nmS (frL l) 4).set 4 ((nmS (frL l) 4).getD 4 0&&&ofNat 2251799813685247)
def aWL (l:List UInt64):List UInt8:=byS (wdL (nmL (ci (ci l)))) 32
theorem aAS (t:List UInt64):∀n i,i<n->n<=32->(byS t n).getD i 0=(aF (t.getD (i/8) 0) (i%8*8)).toUInt8
 |n+1,i,h,hn=>by
  show((byS t n).set n _).getD i 0=_;by_cases hi:i=n
  .subst hi
   rw[getD_eq_getElem?_getD,List.getElem?_set_self (by rw[byS_length];omega)];rfl
  rw[getD_eq_getElem?_getD,List.getElem?_set_ne (by omega),<-getD_eq_getElem?_getD];exact aAS t n i (by omega) (by omega)
theorem oI {A B:List UInt8} {n:Nat} (ha:A.length=n) (hb:B.length=n) (h:∀i,i<n->A.getD i 0=B.getD i 0):A=B:=by
 apply List.ext_getElem (by rw[ha,hb]);intro i h1 h2;have:=h i (by omega);rw[getD_eq_getElem?_getD,getD_eq_getElem?_getD,List.getElem?_eq_getElem h1,List.getElem?_eq_getElem h2]at this;exact this
theorem aRT {t:List UInt64} {v:Nat} (h:∀j,j<4->(t.getD j 0).toNat=v/18446744073709551616^j%18446744073709551616):byS t 32=leN v 32:=by
 refine oI (n:=32) (byS_length _ _) (mo _ _) λi hi=>?_;rw[aAS t 32 i hi (Nat.le_refl _),tK 32 v i hi];apply UInt8.toNat_inj.1;rw[UInt64.toNat_toUInt8,bt,h (i/8) (by omega),toNat_ofNat'];have e256:(256:Nat)^i=18446744073709551616^(i/8)*2^(i%8*8):=by
  rw[show(256:Nat)=2^8 from rfl,show(18446744073709551616:Nat)=2^64 from rfl,<-pow_mul,<-pow_mul,<-pow_add];congr 1;omega
 rw[e256,<-Nat.div_div_eq_div_mul];generalize v/18446744073709551616^(i/8)=w;have hm:i%8<8:=mod_lt _ (by omega);generalize i%8=m at hm;have:m=0\/m=1\/m=2\/m=3\/m=4\/m=5\/m=6\/m=7:=by omega
 rcases this with rfl|rfl|rfl|rfl|rfl|rfl|rfl|rfl<;>(simp only[Nat.reduceMul,Nat.reducePow];omega)
end Go.Cu
namespace Go.Cu
open Go Go.Sx
theorem io {x y:UInt64} {k:Nat} (z:Nat) (hy:y.toNat=z*2^k) (hx:x.toNat<2^k):(x|||y).toNat=x.toNat+y.toNat:=by
 rw[UInt64.toNat_or,Nat.or_comm,hy,Nat.mul_comm,Nat.add_comm,Nat.two_pow_add_eq_or_of_lt hx]
theorem cj (x:UInt64) {k:Nat} (hk:k<=64):(aQ x k).toNat=x.toNat%2^(64-k)*2^k:=by
 rw[wq,show(18446744073709551616:Nat)=2^(64-k)*2^k by rw[<-pow_add,Nat.sub_add_cancel hk],Nat.mul_mod_mul_right]
theorem aW7 {x0 x1 x2 x3 x4 q1 q2 q3 q4 q5:Nat} (h1:q1=(x0+19)/2251799813685248) (h2:q2=(x1+q1)/2251799813685248) (h3:q3=(x2+q2)/2251799813685248) (h4:q4=(x3+q3)/2251799813685248) (h5:q5=(x4+q4)/2251799813685248):
  q5*57896044618658097711785492504343953926634992332820282019728792003956564819968<=x0+x1*2251799813685248+x2*5070602400912917605986812821504+x3*11417981541647679048466287755595961091061972992+x4*25711008708143844408671393477458601640355247900524685364822016+19
  /\x0+x1*2251799813685248+x2*5070602400912917605986812821504+x3*11417981541647679048466287755595961091061972992+x4*25711008708143844408671393477458601640355247900524685364822016+19<(q5+1)*57896044618658097711785492504343953926634992332820282019728792003956564819968:=by omega
theorem aXL {x0 x1 x2 x3 x4 y1 y2 y3 y4:Nat} (h1:y1=x1+x0/2251799813685248) (h2:y2=x2+y1/2251799813685248) (h3:y3=x3+y2/2251799813685248) (h4:y4=x4+y3/2251799813685248):
  x0%2251799813685248+y1%2251799813685248*2251799813685248+y2%2251799813685248*5070602400912917605986812821504+y3%2251799813685248*11417981541647679048466287755595961091061972992+y4%2251799813685248*25711008708143844408671393477458601640355247900524685364822016
   =(x0+x1*2251799813685248+x2*5070602400912917605986812821504+x3*11417981541647679048466287755595961091061972992+x4*25711008708143844408671393477458601640355247900524685364822016)%57896044618658097711785492504343953926634992332820282019728792003956564819968:=by omega
theorem aWN {v q:Nat} (hv:v<86844066927987146567678238756515930889952488499230423029593188005934847229952) (h1:q*57896044618658097711785492504343953926634992332820282019728792003956564819968<=v+19) (h2:v+19<(q+1)*57896044618658097711785492504343953926634992332820282019728792003956564819968):
  (v+19*q)%57896044618658097711785492504343953926634992332820282019728792003956564819968=v%57896044618658097711785492504343953926634992332820282019728792003956564819949/\q<=1:=by
 have hq:q<=1:=by omega
 refine⟨?_,hq⟩;rcases(by omega:q=0\/q=1)with rfl|rfl<;>omega
def L51 (l:List UInt64):Prop:=(l.getD 0 0).toNat<2251799813685248/\(l.getD 1 0).toNat<2251799813685248/\(l.getD 2 0).toNat<2251799813685248/\(l.getD 3 0).toNat<2251799813685248/\(l.getD 4 0).toNat<2251799813685248
theorem aUI {x0 x1 x2 x3 x4:UInt64}:frL [x0,x1,x2,x3,x4]=[x0+ofNat 19*qS [x0,x1,x2,x3,x4] 5,x1,x2,x3,x4]:=rfl
theorem aP6 {x0 x1 x2 x3 x4:UInt64} {y1 y2 y3 y4:UInt64} (h1:y1=x1+aF x0 51) (h2:y2=x2+aF y1 51) (h3:y3=x3+aF y2 51) (h4:y4=x4+aF y3 51):
  (nmS [x0,x1,x2,x3,x4] 4).set 4 ((nmS [x0,x1,x2,x3,x4] 4).getD 4 0&&&ofNat 2251799813685247)
   =[x0&&&ofNat 2251799813685247,y1&&&ofNat 2251799813685247,y2&&&ofNat 2251799813685247,y3&&&ofNat 2251799813685247,y4&&&ofNat 2251799813685247]:=by
 have s1:nmS [x0,x1,x2,x3,x4] 1=[x0&&&ofNat 2251799813685247,y1,x2,x3,x4]:=by rw[h1];rfl
 have s2:nmS [x0,x1,x2,x3,x4] 2=[x0&&&ofNat 2251799813685247,y1&&&ofNat 2251799813685247,y2,x3,x4]:=by
  rw[h2];show List.set (List.set (nmS [x0,x1,x2,x3,x4] 1) 2 _) 1 _=_;rw[s1];rfl
 have s3:nmS [x0,x1,x2,x3,x4] 3=[x0&&&ofNat 2251799813685247,y1&&&ofNat 2251799813685247,y2&&&ofNat 2251799813685247,y3,x4]:=by
  rw[h3];show List.set (List.set (nmS [x0,x1,x2,x3,x4] 2) 3 _) 2 _=_;rw[s2];rfl
 have s4:nmS [x0,x1,x2,x3,x4] 4=[x0&&&ofNat 2251799813685247,y1&&&ofNat 2251799813685247,y2&&&ofNat 2251799813685247,y3&&&ofNat 2251799813685247,y4]:=by
  rw[h4];show List.set (List.set (nmS [x0,x1,x2,x3,x4] 3) 4 _) 3 _=_;rw[s3];rfl
 rw[s4];rfl
theorem aRE {l:List UInt64} (h:l.length=5):∃x0 x1 x2 x3 x4,l=[x0,x1,x2,x3,x4]:=by
 match l,h with
 |[x0,x1,x2,x3,x4],_=>exact⟨x0,x1,x2,x3,x4,rfl⟩
theorem aML (l:List UInt64):((ci (ci l)).getD 0 0).toNat<=2251799813685266/\((ci (ci l)).getD 1 0).toNat<=2251799813685248/\((ci (ci l)).getD 2 0).toNat<=2251799813685248/\((ci (ci l)).getD 3 0).toNat<=2251799813685248/\((ci (ci l)).getD 4 0).toNat<=2251799813685248:=by
 obtain⟨e0,e1,e2,e3,e4⟩:=yF (ci l);obtain⟨_,h0,h1,h2,h3,h4⟩:=jC l;rw[e0,e1,e2,e3,e4];clear e0 e1 e2 e3 e4;refine⟨?_,?_,?_,?_,?_⟩<;>omega
theorem aP5 (l:List UInt64):nv5 (nmL (ci (ci l)))=(fv l).val/\L51 (nmL (ci (ci l))):=by
 have hb:=aML l;have hf:fv (ci (ci l))=fv l:=by rw[qT,qT]
 obtain⟨x0,x1,x2,x3,x4,hx⟩:=aRE (jC (ci l)).1;rw[hx]at hb hf⊢;obtain⟨b0,b1,b2,b3,b4⟩:=hb;have b0:x0.toNat<=2251799813685266:=b0;have b1:x1.toNat<=2251799813685248:=b1;have b2:x2.toNat<=2251799813685248:=b2;have b3:x3.toNat<=2251799813685248:=b3;have b4:x4.toNat<=2251799813685248:=b4;obtain⟨q1,hq1⟩:∃q,q=aF (x0+ofNat 19) 51:=⟨_,rfl⟩;obtain⟨q2,hq2⟩:∃q,q=aF (x1+q1) 51:=⟨_,rfl⟩;obtain⟨q3,hq3⟩:∃q,q=aF (x2+q2) 51:=⟨_,rfl⟩;obtain⟨q4,hq4⟩:∃q,q=aF (x3+q3) 51:=⟨_,rfl⟩;obtain⟨q5,hq5⟩:∃q,q=aF (x4+q4) 51:=⟨_,rfl⟩;have hq:qS [x0,x1,x2,x3,x4] 5=q5:=by rw[hq5,hq4,hq3,hq2,hq1];rfl
 have v1:q1.toNat=(x0.toNat+19)/2251799813685248:=by rw[hq1,jd,toNat_add,show(ofNat 19).toNat=19 from rfl];congr 1;omega
 have v2:q2.toNat=(x1.toNat+q1.toNat)/2251799813685248:=by rw[hq2,jd,toNat_add];congr 1;omega
 have v3:q3.toNat=(x2.toNat+q2.toNat)/2251799813685248:=by rw[hq3,jd,toNat_add];congr 1;omega
 have v4:q4.toNat=(x3.toNat+q3.toNat)/2251799813685248:=by rw[hq4,jd,toNat_add];congr 1;omega
 have v5:q5.toNat=(x4.toNat+q4.toNat)/2251799813685248:=by rw[hq5,jd,toNat_add];congr 1;omega
 obtain⟨k1,k2⟩:=aW7 v1 v2 v3 v4 v5;clear v1 v2 v3 v4 v5 hq1 hq2 hq3 hq4 hq5;have hv:nv5 [x0,x1,x2,x3,x4]=x0.toNat+x1.toNat*2251799813685248+x2.toNat*5070602400912917605986812821504+x3.toNat*11417981541647679048466287755595961091061972992+x4.toNat*25711008708143844408671393477458601640355247900524685364822016:=rfl;have hlt:nv5 [x0,x1,x2,x3,x4]<86844066927987146567678238756515930889952488499230423029593188005934847229952:=by rw[hv];omega
 obtain⟨m1,m2⟩:=aWN hlt (hv▸k1) (hv▸k2);clear k1 k2;unfold nmL;rw[aUI,hq];obtain⟨z0,hz0⟩:∃z,z=x0+ofNat 19*q5:=⟨_,rfl⟩;rw[<-hz0];have w0:z0.toNat=x0.toNat+19*q5.toNat:=by
  clear m1 hlt hv hf hx hq;rw[hz0,toNat_add,UInt64.toNat_mul,show(ofNat 19).toNat=19 from rfl];omega
 obtain⟨y1,hy1⟩:∃y,y=x1+aF z0 51:=⟨_,rfl⟩;obtain⟨y2,hy2⟩:∃y,y=x2+aF y1 51:=⟨_,rfl⟩;obtain⟨y3,hy3⟩:∃y,y=x3+aF y2 51:=⟨_,rfl⟩;obtain⟨y4,hy4⟩:∃y,y=x4+aF y3 51:=⟨_,rfl⟩;rw[aP6 hy1 hy2 hy3 hy4];have w1:y1.toNat=x1.toNat+z0.toNat/2251799813685248:=by clear m1 hlt hv hf hx hq hz0;rw[hy1,toNat_add,jd];omega
 have w2:y2.toNat=x2.toNat+y1.toNat/2251799813685248:=by clear m1 hlt hv hf hx hq hz0;rw[hy2,toNat_add,jd];omega
 have w3:y3.toNat=x3.toNat+y2.toNat/2251799813685248:=by clear m1 hlt hv hf hx hq hz0;rw[hy3,toNat_add,jd];omega
 have w4:y4.toNat=x4.toNat+y3.toNat/2251799813685248:=by clear m1 hlt hv hf hx hq hz0;rw[hy4,toNat_add,jd];omega
 have hn:=aXL w1 w2 w3 w4;rw[w0]at hn;have hs:x0.toNat+19*q5.toNat+x1.toNat*2251799813685248+x2.toNat*5070602400912917605986812821504+x3.toNat*11417981541647679048466287755595961091061972992+x4.toNat*25711008708143844408671393477458601640355247900524685364822016=nv5 [x0,x1,x2,x3,x4]+19*q5.toNat:=by rw[hv];clear m1 hlt hv hf hx hq hz0 hn w0 w1 w2 w3 w4;omega
 rw[hs,m1]at hn;refine⟨?_,?_⟩
 .show(z0&&&ofNat 2251799813685247).toNat+(y1&&&ofNat 2251799813685247).toNat*_+(y2&&&ofNat 2251799813685247).toNat*_+(y3&&&ofNat 2251799813685247).toNat*_+(y4&&&ofNat 2251799813685247).toNat*_=_
  rw[gI,gI,gI,gI,gI,w0,hn,<-hf];rfl
 refine⟨?_,?_,?_,?_,?_⟩
 .show(z0&&&ofNat 2251799813685247).toNat<_;rw[gI];exact mod_lt _ (by decide)
 .show(y1&&&ofNat 2251799813685247).toNat<_;rw[gI];exact mod_lt _ (by decide)
 .show(y2&&&ofNat 2251799813685247).toNat<_;rw[gI];exact mod_lt _ (by decide)
 .show(y3&&&ofNat 2251799813685247).toNat<_;rw[gI];exact mod_lt _ (by decide)
 show(y4&&&ofNat 2251799813685247).toNat<_;rw[gI];exact mod_lt _ (by decide)
theorem aSQ {n0 n1 n2 n3 n4:Nat} (h0:n0<2251799813685248):n0+n1%2^(64-51)*2^51=(n0+n1*2251799813685248+n2*5070602400912917605986812821504+n3*11417981541647679048466287755595961091061972992+n4*25711008708143844408671393477458601640355247900524685364822016)%18446744073709551616:=by omega
theorem aSP {n0 n1 n2 n3 n4:Nat} (h0:n0<2251799813685248) (h1:n1<2251799813685248):n1/2^13+n2%2^(64-38)*2^38=(n0+n1*2251799813685248+n2*5070602400912917605986812821504+n3*11417981541647679048466287755595961091061972992+n4*25711008708143844408671393477458601640355247900524685364822016)/18446744073709551616%18446744073709551616:=by omega
theorem aSO {n0 n1 n2 n3 n4:Nat} (h0:n0<2251799813685248) (h1:n1<2251799813685248) (h2:n2<2251799813685248):n2/2^26+n3%2^(64-25)*2^25=(n0+n1*2251799813685248+n2*5070602400912917605986812821504+n3*11417981541647679048466287755595961091061972992+n4*25711008708143844408671393477458601640355247900524685364822016)/340282366920938463463374607431768211456%18446744073709551616:=by omega
theorem aSN {n0 n1 n2 n3 n4:Nat} (h0:n0<2251799813685248) (h1:n1<2251799813685248) (h2:n2<2251799813685248) (h3:n3<2251799813685248):n3/2^39+n4%2^(64-12)*2^12=(n0+n1*2251799813685248+n2*5070602400912917605986812821504+n3*11417981541647679048466287755595961091061972992+n4*25711008708143844408671393477458601640355247900524685364822016)/6277101735386680763835789423207666416102355444464034512896%18446744073709551616:=by omega
theorem aOW {l:List UInt64} (h:L51 l):∀j,j<4->((wdL l).getD j 0).toNat=nv5 l/18446744073709551616^j%18446744073709551616:=by
 obtain⟨h0,h1,h2,h3,h4⟩:=h;intro j hj;have:j=0\/j=1\/j=2\/j=3:=by omega
 unfold nv5;rcases this with rfl|rfl|rfl|rfl
 .show(l.getD 0 0|||aQ (l.getD 1 0) 51).toNat=_/1%_
  rw[io _ (cj _ (by omega)) h0,cj _ (by omega),div_one];exact aSQ h0
 .show(aF (l.getD 1 0) 13|||aQ (l.getD 2 0) 38).toNat=_/18446744073709551616%_
  have hs:(aF (l.getD 1 0) 13).toNat<2^38:=by rw[bt];exact Nat.div_lt_of_lt_mul h1
  rw[io _ (cj _ (by omega)) hs,cj _ (by omega),bt];exact aSP h0 h1
 .show(aF (l.getD 2 0) 26|||aQ (l.getD 3 0) 25).toNat=_/340282366920938463463374607431768211456%_
  have hs:(aF (l.getD 2 0) 26).toNat<2^25:=by rw[bt];exact Nat.div_lt_of_lt_mul h2
  rw[io _ (cj _ (by omega)) hs,cj _ (by omega),bt];exact aSO h0 h1 h2
 show(aF (l.getD 3 0) 39|||aQ (l.getD 4 0) 12).toNat=_/6277101735386680763835789423207666416102355444464034512896%_;have hs:(aF (l.getD 3 0) 39).toNat<2^12:=by rw[bt];exact Nat.div_lt_of_lt_mul h3
 rw[io _ (cj _ (by omega)) hs,cj _ (by omega),bt];exact aSN h0 h1 h2 h3
theorem aRS (l:List UInt64):aWL l=leB (fv l):=by
 obtain⟨h1,h2⟩:=aP5 l;unfold aWL leB;rw[<-h1];exact aRT (aOW h2)
def owS (b:List UInt8):Nat->List UInt64
 |0=>replicate 4 0
 |i+1=>(owS b i).set (i/8) ((owS b i).getD (i/8) 0|||aQ (b.getD i 0).toUInt64 (i%8*8))
theorem owS_length (b:List UInt8):∀i,(owS b i).length=4
 |0=>rfl
 |i+1=>by show((owS b i).set _ _).length=4;rw[length_set];exact owS_length b i
def ofW (w:List UInt64):List UInt64:=
 [w.getD 0 0&&&ofNat 2251799813685247,(aF (w.getD 0 0) 51|||aQ (w.getD 1 0) 13)&&&ofNat 2251799813685247,(aF (w.getD 1 0) 38|||aQ (w.getD 2 0) 26)&&&ofNat 2251799813685247,
  (aF (w.getD 2 0) 25|||aQ (w.getD 3 0) 39)&&&ofNat 2251799813685247,aF (w.getD 3 0) 12&&&ofNat 2251799813685247]
def ofL (b:List UInt8):List UInt64:=ofW (owS b 32)
theorem uy:∀(b:List UInt8) (i:Nat),lv b/256^i%256=(b.getD i 0).toNat
 |[],i=>by show 0/_%256=0;rw[Nat.zero_div]
 |x::r,0=>by
  have:=x.toNat_lt;show(x.toNat+256*lv r)/1%256=x.toNat;omega
 |x::r,i+1=>by
  have:=x.toNat_lt;show(x.toNat+256*lv r)/256^(i+1)%256=(r.getD i 0).toNat;rw[Nat.pow_succ',<-Nat.div_div_eq_div_mul,show(x.toNat+256*lv r)/256=lv r by omega];exact uy r i
theorem aGL:∀b:List UInt8,lv b<256^b.length
 |[]=>by decide
 |x::r=>by
  have:=x.toNat_lt;have h:=aGL r;show x.toNat+256*lv r<256^(r.length+1);rw[Nat.pow_succ'];omega
theorem pP (b:List UInt8):∀i,i<=32->∀j,j<4->((owS b i).getD j 0).toNat=lv b/18446744073709551616^j%256^(min 8 (i-8*j))
 |0,_,j,hj=>by
  rw[Nat.zero_sub,Nat.min_eq_right (by omega),Nat.pow_zero,Nat.mod_one];have:j=0\/j=1\/j=2\/j=3:=by omega
  rcases this with rfl|rfl|rfl|rfl<;>rfl
 |i+1,hi,j,hj=>by
  have ih:=pP b i (by omega);show(((owS b i).set (i/8) _).getD j 0).toNat=_;by_cases h:i/8=j
  .subst h
   rw[getD_eq_getElem?_getD,List.getElem?_set_self (by rw[owS_length];omega)];show((owS b i).getD (i/8) 0|||aQ (b.getD i 0).toUInt64 (i%8*8)).toNat=_;have e:=ih (i/8) hj;have hm:i-8*(i/8)=i%8:=by omega
   rw[hm,Nat.min_eq_right (by omega)]at e;rw[show i+1-8*(i/8)=i%8+1 by omega,Nat.min_eq_right (by omega)];have hp:(256:Nat)^(i%8)=2^(i%8*8):=by rw[show(256:Nat)=2^8 from rfl,<-pow_mul,Nat.mul_comm]
   have hlt:((owS b i).getD (i/8) 0).toNat<2^(i%8*8):=by rw[e,hp];exact mod_lt _ (Nat.two_pow_pos _)
   have hb:=(b.getD i 0).toNat_lt;have hsm:(aQ (b.getD i 0).toUInt64 (i%8*8)).toNat=(b.getD i 0).toNat*2^(i%8*8):=by
    rw[wq,UInt8.toNat_toUInt64];apply mod_eq_of_lt;have h8:i%8<8:=mod_lt _ (by omega);have:(2:Nat)^(i%8*8)<=2^56:=Nat.pow_le_pow_right (by omega) (by omega);have:=Nat.mul_le_mul (show(b.getD i 0).toNat<=255 by omega) this;have:(255*2^56:Nat)<18446744073709551616:=by decide
    omega
   rw[io _ hsm hlt,hsm,e,<-uy b i,Nat.pow_succ,Nat.mod_mul];congr 1;rw[hp,Nat.mul_comm];congr 2;have e256:(256:Nat)^i=18446744073709551616^(i/8)*2^(i%8*8):=by
    rw[show(256:Nat)=2^8 from rfl,show(18446744073709551616:Nat)=2^64 from rfl,<-pow_mul,<-pow_mul,<-pow_add];congr 1;omega
   rw[e256,Nat.div_div_eq_div_mul]
  rw[getD_eq_getElem?_getD,List.getElem?_set_ne (by omega),<-getD_eq_getElem?_getD,ih j hj];congr 2;by_cases h2:i/8<j
  .rw[show i-8*j=0 by omega,show i+1-8*j=0 by omega]
  rw[Nat.min_eq_left (by omega),Nat.min_eq_left (by omega)]
theorem aTP {V:Nat}:((V%18446744073709551616)/2^51+V/18446744073709551616%18446744073709551616%2^(64-13)*2^13)%2251799813685248=V/2251799813685248%2251799813685248:=by omega
theorem aTO {V:Nat}:((V/18446744073709551616%18446744073709551616)/2^38+V/340282366920938463463374607431768211456%18446744073709551616%2^(64-26)*2^26)%2251799813685248=V/5070602400912917605986812821504%2251799813685248:=by omega
theorem aTN {V:Nat}:((V/340282366920938463463374607431768211456%18446744073709551616)/2^25+V/6277101735386680763835789423207666416102355444464034512896%18446744073709551616%2^(64-39)*2^39)%2251799813685248=V/11417981541647679048466287755595961091061972992%2251799813685248:=by omega
theorem aTM {V:Nat}:(V/6277101735386680763835789423207666416102355444464034512896%18446744073709551616)/2^12%2251799813685248=V/25711008708143844408671393477458601640355247900524685364822016%2251799813685248:=by omega
theorem aXE {V:Nat}:V%2251799813685248+V/2251799813685248%2251799813685248*2251799813685248+V/5070602400912917605986812821504%2251799813685248*5070602400912917605986812821504+V/11417981541647679048466287755595961091061972992%2251799813685248*11417981541647679048466287755595961091061972992+V/25711008708143844408671393477458601640355247900524685364822016%2251799813685248*25711008708143844408671393477458601640355247900524685364822016=V%57896044618658097711785492504343953926634992332820282019728792003956564819968:=by omega
theorem pQ (b:List UInt8):nv5 (ofL b)=lv b%57896044618658097711785492504343953926634992332820282019728792003956564819968/\Lb (ofL b):=by
 have w0:((owS b 32).getD 0 0).toNat=lv b%18446744073709551616:=by have:=pP b 32 (by omega) 0 (by omega);rw[Nat.pow_zero,div_one]at this;exact this
 have w1:((owS b 32).getD 1 0).toNat=lv b/18446744073709551616%18446744073709551616:=pP b 32 (by omega) 1 (by omega);have w2:((owS b 32).getD 2 0).toNat=lv b/340282366920938463463374607431768211456%18446744073709551616:=pP b 32 (by omega) 2 (by omega);have w3:((owS b 32).getD 3 0).toNat=lv b/6277101735386680763835789423207666416102355444464034512896%18446744073709551616:=pP b 32 (by omega) 3 (by omega);have t0:=((owS b 32).getD 0 0).toNat_lt;have t1:=((owS b 32).getD 1 0).toNat_lt;have t2:=((owS b 32).getD 2 0).toNat_lt;have t3:=((owS b 32).getD 3 0).toNat_lt;have g0:((ofL b).getD 0 0).toNat=lv b%2251799813685248:=by
  show((owS b 32).getD 0 0&&&ofNat 2251799813685247).toNat=_;rw[gI,w0];clear w1 w2 w3 t0 t1 t2 t3;omega
 have g1:((ofL b).getD 1 0).toNat=lv b/2251799813685248%2251799813685248:=by
  show((aF ((owS b 32).getD 0 0) 51|||aQ ((owS b 32).getD 1 0) 13)&&&ofNat 2251799813685247).toNat=_;have hs:(aF ((owS b 32).getD 0 0) 51).toNat<2^13:=by rw[bt];exact Nat.div_lt_of_lt_mul t0
  rw[gI,io _ (cj _ (by omega)) hs,cj _ (by omega),bt,w0,w1];exact aTP
 have g2:((ofL b).getD 2 0).toNat=lv b/5070602400912917605986812821504%2251799813685248:=by
  show((aF ((owS b 32).getD 1 0) 38|||aQ ((owS b 32).getD 2 0) 26)&&&ofNat 2251799813685247).toNat=_;have hs:(aF ((owS b 32).getD 1 0) 38).toNat<2^26:=by rw[bt];exact Nat.div_lt_of_lt_mul t1
  rw[gI,io _ (cj _ (by omega)) hs,cj _ (by omega),bt,w1,w2];exact aTO
 have g3:((ofL b).getD 3 0).toNat=lv b/11417981541647679048466287755595961091061972992%2251799813685248:=by
  show((aF ((owS b 32).getD 2 0) 25|||aQ ((owS b 32).getD 3 0) 39)&&&ofNat 2251799813685247).toNat=_;have hs:(aF ((owS b 32).getD 2 0) 25).toNat<2^39:=by rw[bt];exact Nat.div_lt_of_lt_mul t2
  rw[gI,io _ (cj _ (by omega)) hs,cj _ (by omega),bt,w2,w3];exact aTN
 have g4:((ofL b).getD 4 0).toNat=lv b/25711008708143844408671393477458601640355247900524685364822016%2251799813685248:=by
  show(aF ((owS b 32).getD 3 0) 12&&&ofNat 2251799813685247).toNat=_;rw[gI,bt,w3];exact aTM
 refine⟨?_,rfl,?_,?_,?_,?_,?_⟩
 .unfold nv5
  rw[g0,g1,g2,g3,g4];exact aXE
 .rw[g0];exact lt_trans (mod_lt _ (by decide)) (by decide)
 .rw[g1];exact lt_trans (mod_lt _ (by decide)) (by decide)
 .rw[g2];exact lt_trans (mod_lt _ (by decide)) (by decide)
 .rw[g3];exact lt_trans (mod_lt _ (by decide)) (by decide)
 rw[g4];exact lt_trans (mod_lt _ (by decide)) (by decide)
def ofF (b:List UInt8):F:=fn (lv b%57896044618658097711785492504343953926634992332820282019728792003956564819968)
theorem aTL (b:List UInt8):fv (ofL b)=ofF b:=by unfold fv ofF;rw[(pQ b).1]
theorem aP1 (x:F):ofF (leB x)=x:=by
 unfold ofF;rw[ux,mod_eq_of_lt (lt_trans x.isLt (by decide)),qI]
end Go.Cu
namespace Go.Cu
open Go Go.Sx
structure LL where
 ax:List UInt64
 az:List UInt64
 bx:List UInt64
 bz:List UInt64
def LL.B (s:LL):Prop:=Lb s.ax/\Lb s.az/\Lb s.bx/\Lb s.bz
def LL.f (s:LL):LS:=⟨fv s.ax,fv s.az,fv s.bx,fv s.bz⟩
def LL.swap (s:LL):LL:=⟨s.bx,s.bz,s.ax,s.az⟩
def aVP (c:List UInt8) (i:Nat):UInt8:=mD (c.getD (i/8) 0) (i%8)&&&UInt8.ofNat 1
theorem tf (c:List UInt8) (i:Nat):(aVP c i).toNat=lv c/2^i%2:=by
 unfold aVP mD;have h1:(UInt8.ofNat ((c.getD (i/8) 0).toNat>>>(i%8))).toNat=(c.getD (i/8) 0).toNat/2^(i%8):=by
  have:=(c.getD (i/8) 0).toNat_lt;have:=Nat.div_le_self (c.getD (i/8) 0).toNat (2^(i%8));rw[toNat_ofNat',Nat.shiftRight_eq_div_pow,mod_eq_of_lt (by omega)]
 rw[UInt8.toNat_and,h1,show(UInt8.ofNat 1).toNat=2^1-1 from rfl,Nat.and_two_pow_sub_one_eq_mod,<-uy];have e:(2:Nat)^i=256^(i/8)*2^(i%8):=by
  rw[show(256:Nat)=2^8 from rfl,<-pow_mul,<-pow_add];congr 1;omega
 rw[e,<-Nat.div_div_eq_div_mul];generalize lv c/256^(i/8)=w;have hm:i%8<8:=mod_lt _ (by omega);generalize i%8=m at hm;have:m=0\/m=1\/m=2\/m=3\/m=4\/m=5\/m=6\/m=7:=by omega
 rcases this with rfl|rfl|rfl|rfl|rfl|rfl|rfl|rfl<;>(simp only[Nat.reducePow];omega)
def LL.turn (s:LL) (l b:UInt8):LL:=if b=l then s else s.swap
theorem aTH:Lb (ofL (UInt8.ofNat 1::replicate 31 0)):=(pQ _).2
theorem aTI:fv (ofL (UInt8.ofNat 1 :: replicate 31 0)) = 1:=by decide +kernel
theorem wM:Lb (replicate 5 (0:UInt64)):=⟨rfl,by decide,by decide,by decide,by decide,by decide⟩
theorem wO:fv (replicate 5 (0:UInt64)) = 0:=by decide +kernel
def clB (b:List UInt8):List UInt8:=(b.set 0 (b.getD 0 0&&&UInt8.ofNat 248)).set 31 (((b.set 0 (b.getD 0 0&&&UInt8.ofNat 248)).getD 31 0&&&UInt8.ofNat 127)|||UInt8.ofNat 64)
theorem aCN (b:List UInt8):(clB b).length=b.length:=by unfold clB;rw[length_set,length_set]
end Go.Cu
namespace Go.Proofs.YtaehfiohjkiajaaGreat
open Go Go.Sx Go.Cu
theorem aSE (l:List UInt64) (hl:l.length=5):Sx.Fn Γ.P 122 [.agg [(5,.a64 l)]] [] (λv _=>v= .agg [(5,.a64 (ci l))]):=by
 refine aG (Γ:=Γ) (fn:=Tryz.f122) rfl rfl rfl rfl ?_;refine gB ?_;refine Ret.i (.agg [(5,.a64 (ci l))]) [] [] rfl fc rfl rfl fc rfl fc rfl
theorem aYA (x y:UInt64):Sx.Fn Γ.P 83 [.u64 x,.u64 y] [] (λv _=>v= .tup [.u64 (Cu.muH x y),.u64 (x*y)]):=by
 refine aG (Γ:=Γ) (fn:=Tryz.f83) rfl rfl rfl rfl ?_;refine gB ?_;refine Ret.i (.tup [.u64 (Cu.muH x y),.u64 (x*y)]) [] [] rfl trivial rfl rfl ?_ rfl trivial rfl;exact fc
theorem aMV (x y:UInt64):(oO x y (ofNat 0)).toNat<=1:=by
 have:=x.toNat_lt;have:=y.toNat_lt;unfold oO;rw[UInt64.toNat_ofNat',show(ofNat 0).toNat=0 from rfl];omega
theorem acE (w:W2) (x y:UInt64):Sx.Fn Γ.P 123 [.agg [(1,.u64 w.1),(1,.u64 w.2)],.u64 x,.u64 y] [] (λv _=>v= .agg [(1,.u64 (aI w x y).1),(1,.u64 (aI w x y).2)]):=by
 have hM:=aYA x y;have z0:(ofNat 0).toNat<=1:=by decide
 have z1:=aMV w.2 (x*y);refine aG (Γ:=Γ) (fn:=Tryz.f123) rfl rfl rfl rfl ?_;refine gB ?_;refine Call.pure hM rfl fc ?_;rintro _ rfl;refine gB ?_;refine Ret.i (.agg [(1,.u64 (aI w x y).1),(1,.u64 (aI w x y).2)]) [] [] rfl ?_ rfl rfl ?_ rfl ?_ rfl
 .exact fc
 .repeat' first|exact trivial|refine zA.app ?_ ?_|refine zA.zd ?_ ?_|refine zA.cons ?_ ?_|exact fc|fail
  all_goals first|exact(xT _ _ _).symm|exact(xS _ _ _).symm|exact xT _ _ _|exact xS _ _ _|trace_state
 exact fc
theorem aUQ (a b:List UInt64) (ha:a.length=5) (hb:b.length=5):Sx.Fn Γ.P 95 [.agg [(5,.a64 a)],.agg [(5,.a64 b)]] [] (λv _=>v= .agg [(5,.a64 (wJ a b))]):=by
 have hC:=aSE (adS a b 5) (nK a b 5);refine aG (Γ:=Γ) (fn:=Tryz.f95) rfl rfl rfl rfl ?_;refine gB ?_
 refine aY.i (σ:=Nat) (λi=>i<=5) (λi=>([(2,.ptr 2 0 none),(3,.ptr 3 0 none),(4,.ptr 4 0 none),(5,.ptr 5 0 none),(7,.i .i64 i)],
  [(2,.mem true 0 [(5,.a64 a)]),(3,.mem true 0 [(5,.a64 b)]),(4,.mem true 0 [(5,.a64 (replicate 5 0))]),(5,.mem true 0 [(5,.a64 (adS a b i))])])) (λi=>5-i) 0 (zero_le _) ?_ ?_
 .refine Le.i [] rfl fc rfl fc rfl
 rintro i hi;have hl:=nK a b i;have hn:adS a b (i+1)=(adS a b i).set i (a.getD i 0+b.getD i 0):=rfl;refine zB.i ?_ ?_<;>intro hc
 .have hc:(i:Int)<5:=hc
  refine gB ?_;refine aH.i [[],[],[],[1,2],[1,2,3],[],[],[5,6],[5,6,7],[1,2,3,4,5,6,7,8],[],fe,kX] jO (by kernel_rfl) ?_;refine gC ?_;refine⟨i+1,by omega,by omega,Le.i [] rfl fcn rfl fcn rfl⟩
 obtain rfl:i=5:=by have hc:¬(i:Int)<5:=hc;omega
 refine gB ?_;refine Call.pure hC rfl fc ?_;rintro _ rfl;refine gB ?_;refine Ret.i (.agg [(5,.a64 (wJ a b))]) [] [] rfl fc rfl rfl fc rfl fc rfl
theorem aa7 (a b:List UInt64) (ha:a.length=5) (hb:b.length=5):Sx.Fn Γ.P 93 [.agg [(5,.a64 a)],.agg [(5,.a64 b)]] [] (λv _=>v= .agg [(5,.a64 (tj a b))]):=by
 have hC:=aSE (sbS a b 5) (bT a b 5);refine aG (Γ:=Γ) (fn:=Tryz.f93) rfl rfl rfl rfl ?_;refine gB ?_
 refine aY.i (σ:=Nat) (λi=>i<=5) (λi=>([(2,.ptr 2 0 none),(3,.ptr 3 0 none),(4,.ptr 4 0 none),(5,.ptr 5 0 none),(9,.i .i64 i)],
  [(2,.mem true 0 [(5,.a64 a)]),(3,.mem true 0 [(5,.a64 b)]),(4,.mem true 0 [(5,.a64 (replicate 5 0))]),(5,.mem true 0 [(5,.a64 (sbS a b i))])])) (λi=>5-i) 0 (zero_le _) ?_ ?_
 .refine Le.i [] rfl fc rfl fc rfl
 rintro i hi;have hl:=bT a b i;have hn:sbS a b (i+1)=(sbS a b i).set i ((sbS a b i).getD i 0+(a.getD i 0-b.getD i 0)):=rfl;refine zB.i ?_ ?_<;>intro hc
 .have hc:(i:Int)<5:=hc
  refine gB ?_;refine aH.i [[],[],[0,1],[0,1,2],[],[],[4,5],[4,5,6],[],[],[8,9],[8,9,10],[4,5,6,7,8,9,10,11],jO,[],nw,na] wG (by kernel_rfl) ?_;refine gC ?_;refine⟨i+1,by omega,by omega,Le.i [] rfl fcn rfl fcn rfl⟩
 obtain rfl:i=5:=by have hc:¬(i:Int)<5:=hc;omega
 refine gB ?_;refine Call.pure hC rfl fc ?_;rintro _ rfl;refine gB ?_;refine Ret.i (.agg [(5,.a64 (tj a b))]) [] [] rfl fc rfl rfl fc rfl fc rfl
end Go.Proofs.YtaehfiohjkiajaaGreat
namespace Go.Proofs.YtaehfiohjkiajaaGreat
open Go Go.Sx Go.Cu
def wF (t:List W2) (q:Nat):List (Nat×SV):=[(1,.u64 (t.getD q (0,0)).1),(1,.u64 (t.getD q (0,0)).2)]
theorem aMY {U:List W2} {j:Nat} {w:W2} (hj:j<U.length) (q:Nat):wF (U.set j w) q=if q=j then[(1,.u64 w.1),(1,.u64 w.2)]else wF U q:=by
 unfold wF;split
 .rename_i h
  subst h;rw[getD_eq_getElem?_getD,List.getElem?_set_self hj];rfl
 rename_i h;rw[getD_eq_getElem?_getD,List.getElem?_set_ne (λe=>h e.symm),<-getD_eq_getElem?_getD]
theorem abC (a b:List UInt64) (ha:a.length=5) (hb:b.length=5):Sx.Fn Γ.P 81 [.agg [(5,.a64 a)],.agg [(5,.a64 b)]] [] (λv _=>v= .agg [(5,.a64 (cd a b))]):=by
 have hMore:=λw x y=>acE w x y;refine aG (Γ:=Γ) (fn:=Tryz.f81) rfl rfl rfl rfl ?_;refine gB ?_
 refine aY.i (σ:=Nat) (λi=>i<=5) (λi=>([(2,.ptr 2 0 none),(3,.ptr 3 0 none),(4,.ptr 4 0 none),(5,.ptr 5 0 none),(17,.a64 a),(18,.i .i64 i)],
  [(2,.mem true 0 [(5,.a64 a)]),(3,.mem true 0 [(5,.a64 b)]),(4,.mem true 0 [(5,.a64 (replicate 5 0))]),(5,.mem true 0 [(10,.arr 5 2 (wF (muS a b i)))])])) (λi=>5-i) 0 (zero_le _) ?_ ?_
 .refine Le.i [] rfl fc rfl fc rfl
 rintro i hi;have hl:=rl a b i;have hn:muS a b (i+1)=muR a b i (muS a b i) 5:=rfl;refine zB.i ?_ ?_<;>intro hc
 .have hc:(i:Int)<5:=hc
  obtain⟨T,hT⟩:∃t,muS a b i=t:=⟨_,rfl⟩;rw[hT]at hl hn⊢;refine gC ?_
  refine aY.i (σ:=Nat) (λk=>k<=5) (λk=>([(2,.ptr 2 0 none),(3,.ptr 3 0 none),(4,.ptr 4 0 none),(5,.ptr 5 0 none),(6,.i .i64 i),(7,.u64 (a.getD i 0)),(17,.a64 a),(18,.i .i64 i),(23,.a64 b),(24,.i .i64 k)],
   [(2,.mem true 0 [(5,.a64 a)]),(3,.mem true 0 [(5,.a64 b)]),(4,.mem true 0 [(5,.a64 (replicate 5 0))]),(5,.mem true 0 [(10,.arr 5 2 (wF (muR a b i T k)))])])) (λk=>5-k) 0 (zero_le _) ?_ ?_
  .refine Le.i [] rfl fcn rfl fcn rfl
  rintro k hk;have hlR:=mc (a:=a) (b:=b) (i:=i) (t:=T) k;have hnR:muR a b i T (k+1)=muA a b i k (muR a b i T k):=rfl;refine zB.i ?_ ?_<;>intro hc
  .have hc:(k:Int)<5:=hc
   obtain⟨U,hU⟩:∃t,muR a b i T k=t:=⟨_,rfl⟩;rw[hU]at hlR hnR⊢;refine gC ?_;refine zB.i ?_ ?_<;>intro h5
   .have h5:(i:Int)+k≥5:=h5
    have e0:((i:Int)+k-5).toNat=i+k-5:=by omega
    have hA:muA a b i k U=U.set (i+k-5) (aI (U.getD (i+k-5) (0,0)) (a.getD i 0) (ofNat 19*b.getD k 0)):=if_pos (by omega)
    repeat refine sdF ?_
    refine Call.pure (hMore (U.getD (i+k-5) (0,0)) (a.getD i 0) (ofNat 19*b.getD k 0)) rfl fcF ?_;rintro _ rfl
    repeat refine sdF ?_
    refine⟨k+1,by omega,by omega,Le.i [] rfl ?_ rfl ?_ rfl⟩
    .exact fcn
    repeat' first|exact trivial|refine zA.app ?_ ?_|refine zA.zd ?_ ?_|refine zA.cons ?_ ?_|exact fcn|fail
    all_goals(intro q hq;rw[hnR,hA,aMY (by omega),<-e0];rfl)
   have h5:¬(i:Int)+k≥5:=h5;have e0:((i:Int)+k).toNat=i+k:=by omega
   have hA:muA a b i k U=U.set (i+k) (aI (U.getD (i+k) (0,0)) (a.getD i 0) (b.getD k 0)):=if_neg (by omega)
   repeat refine sdF ?_
   refine Call.pure (hMore (U.getD (i+k) (0,0)) (a.getD i 0) (b.getD k 0)) rfl fcF ?_;rintro _ rfl
   repeat refine sdF ?_
   refine⟨k+1,by omega,by omega,Le.i [] rfl ?_ rfl ?_ rfl⟩
   .exact fcn
   repeat' first|exact trivial|refine zA.app ?_ ?_|refine zA.zd ?_ ?_|refine zA.cons ?_ ?_|exact fcn|fail
   all_goals(intro q hq;rw[hnR,hA,aMY (by omega),<-e0];rfl)
  obtain rfl:k=5:=by have hc:¬(k:Int)<5:=hc;omega
  refine gB ?_;rw[<-hn];refine⟨i+1,by omega,by omega,Le.i [] rfl fcn rfl fcn rfl⟩
 obtain rfl:i=5:=by have hc:¬(i:Int)<5:=hc;omega
 have hE:cd a b=ci ((cyS (muS a b 5) 5).1.set 0 ((cyS (muS a b 5) 5).1.getD 0 0+(cyS (muS a b 5) 5).2*ofNat 19)):=rfl;rw[hE];clear hn hE;generalize muS a b 5=T at *;have z0:(ofNat 0).toNat<=1:=by decide
 refine gB ?_
 refine aY.i (σ:=Nat) (λi=>i<=5) (λi=>([(4,.ptr 4 0 none),(5,.ptr 5 0 none),(10,.ptr 10 0 none),(11,.u64 (cyS T i).2),(61,.i .i64 i)],
  [(4,.mem true 0 [(5,.a64 (replicate 5 0))]),(5,.mem true 0 [(10,.arr 5 2 (wF T))]),(10,.mem true 0 [(5,.a64 (cyS T i).1)])])) (λi=>5-i) 0 (zero_le _) ?_ ?_
 .have z1:(cyS T 0).1=replicate 5 0:=rfl
  have z2:(cyS T 0).2=ofNat 0:=rfl;refine Le.i [] rfl fc rfl fc rfl
 rintro i hi;have hlc:=r9 T i;refine zB.i ?_ ?_<;>intro hc
 .have hc:(i:Int)<5:=hc
  have hn1:(cyS T (i+1)).1=(cyS T i).1.set i (gF (T.getD i (0,0)).2 (cyS T i).2 0&&&ofNat 2251799813685247):=rfl;have hn2:(cyS T (i+1)).2=aQ ((T.getD i (0,0)).1+oO (T.getD i (0,0)).2 (cyS T i).2 0) 13|||aF (gF (T.getD i (0,0)).2 (cyS T i).2 0) 51:=rfl
  generalize (cyS T i).1=X at *;generalize (cyS T i).2=C at *;refine gC ?_;refine⟨i+1,by omega,by omega,Le.i [] rfl ?_ rfl ?_ rfl⟩
  .repeat' first|exact trivial|refine zA.app ?_ ?_|refine zA.zd ?_ ?_|refine zA.cons ?_ ?_|exact fcn|fail
   all_goals trace_state
  repeat' first|exact trivial|refine zA.app ?_ ?_|refine zA.zd ?_ ?_|refine zA.cons ?_ ?_|exact fcn|fail
  all_goals trace_state
 obtain rfl:i=5:=by have hc:¬(i:Int)<5:=hc;omega
 generalize (cyS T 5).1=X at *;generalize (cyS T 5).2=C at *;have hC:=aSE (X.set 0 (X.getD 0 0+C*ofNat 19)) (by rw[length_set];exact hlc);have hlR:=(jC (X.set 0 (X.getD 0 0+C*ofNat 19))).1;generalize ci (X.set 0 (X.getD 0 0+C*ofNat 19))=R at *;refine gB ?_;refine Call.pure hC rfl fc ?_;rintro _ rfl;refine gB ?_;refine Ret.i (.agg [(5,.a64 R)]) [] [] rfl fc rfl rfl fc rfl fc rfl
end Go.Proofs.YtaehfiohjkiajaaGreat
namespace Go.Proofs.YtaehfiohjkiajaaGreat
open Go Go.Sx Go.Cu
theorem aKO {k i:Nat} (hk:1<=k):((((((k:Int)-1)/2^i).toNat&&&1:Nat):Int)=0\/10<(i:Int))↔aDG k i:=by
 have e:(((k:Int)-1)/2^i).toNat=(k-1)/2^i:=by
  have h1:((k:Int)-1)=((k-1:Nat):Int):=by omega
  have h2:((2:Int)^i)=((2^i:Nat):Int):=by rw[Int.natCast_pow];rfl
  rw[h1,h2,<-Int.natCast_ediv,zIn]
 rw[e,show(1:Nat)=2^1-1 from rfl,Nat.and_two_pow_sub_one_eq_mod];unfold aDG;generalize (k-1)/2^i=w;omega
theorem aCF (k i:Nat) (hk:1<=k) (hk2:k<=1000) (hi:i<=1000):Sx.Fn Γ.P 140 [.i .i64 i,.ptr 1000 0 none] [(1000,.mem true 0 [(1,.i .i64 k)])]
  (λv M=>v= .bool (aDG k i)/\M=[(1000,.mem true 0 [(1,.i .i64 k)])]):=by
 have hb:=aKO (k:=k) (i:=i) hk;have h0:0<=((k:Int)-1)/2^i:=Int.ediv_nonneg (by omega) (Int.pow_nonneg (by omega));have h1:((k:Int)-1)/2^i<=(k:Int)-1:=by
  have h2:((2:Int)^i)=((2^i:Nat):Int):=by rw[Int.natCast_pow];rfl
  have h1:((k:Int)-1)=((k-1:Nat):Int):=by omega
  have:=Nat.div_le_self (k-1) (2^i);rw[h1,h2,<-Int.natCast_ediv];omega
 refine aG (Γ:=Γ) (fn:=Tryz.f140) rfl rfl rfl rfl ?_;refine gB ?_;refine zB.i ?_ ?_<;>intro h
 .refine gB ?_
  refine Ret.i (.bool (aDG k i)) [(1000,.mem true 0 [(1,.i .i64 k)])] [] rfl ?_ ⟨rfl,rfl⟩ rfl ?_ rfl ?_ rfl
  .exact fc
  .repeat' first|exact trivial|refine zA.app ?_ ?_|refine zA.zd ?_ ?_|refine zA.cons ?_ ?_|exact fc|fail
   all_goals(rw[zIn]at h;exact hb.1 (Or.inl h))
  exact fc
 refine gB ?_;refine Ret.i (.bool (aDG k i)) [(1000,.mem true 0 [(1,.i .i64 k)])] [] rfl ?_ ⟨rfl,rfl⟩ rfl ?_ rfl ?_ rfl
 .exact fc
 .repeat' first|exact trivial|refine zA.app ?_ ?_|refine zA.zd ?_ ?_|refine zA.cons ?_ ?_|exact fc|fail
  all_goals(rw[zIn]at h;exact⟨λhp=>(hb.2 hp).resolve_left h,λh10=>hb.1 (Or.inr h10)⟩)
 exact fc
theorem aYP (a:List UInt64) (n k:Nat) (ha:a.length=5) (hn:n<=1000) (hk:1<=k) (hk2:k<=1000):Sx.Fn Γ.P 121 [.agg [(5,.a64 a)],.i .i64 n,.i .i64 k] []
  (λv _=>v= .agg [(5,.a64 (pwS a n k n))]):=by
 have hM:=λ(x y:List UInt64) (hx:x.length=5) (hy:y.length=5)=>abC x y hx hy;have hml:=λx y=>(aP x y).1;refine aG (Γ:=Γ) (fn:=Tryz.f121) rfl rfl rfl rfl ?_;refine gB ?_
 refine aY.i (σ:=Nat) (λj=>j<=n) (λj=>([(3,.ptr 3 0 none),(5,.ptr 5 0 none),(6,.ptr 6 0 none),(7,.fn 140 [(5,0)]),(8,.ptr 8 0 none),(9,.i .i64 ((n:Int)-1-j))],
  [(3,.mem true 0 [(5,.a64 a)]),(5,.mem true 0 [(1,.i .i64 k)]),(6,.mem true 0 [(5,.a64 (replicate 5 0))]),(8,.mem true 0 [(5,.a64 (pwS a n k j))])])) (λj=>n-j) 0 (zero_le _) ?_ ?_
 .refine Le.i [] rfl fc rfl fc rfl
 rintro j hj;have hl:=(ui a n k j).1;have hn1:pwS a n k (j+1)=if aDG k (n-1-j)then cd (cd (pwS a n k j) (pwS a n k j)) a else cd (pwS a n k j) (pwS a n k j):=rfl
 obtain⟨X,hX⟩:∃x,pwS a n k j=x:=⟨_,rfl⟩;refine zB.i ?_ ?_<;>intro hc
 .have hc:(n:Int)-1-j≥0:=hc
  rw[hX]at hl hn1⊢;have hll:=hml X X;refine gB ?_;refine Call.pure (hM X X hl hl) rfl fc ?_;rintro _ rfl;refine gB ?_;refine Call.i (aCF k (n-1-j) hk hk2 (by omega)) [(1000,(5,0,none))] rfl fc rfl fc rfl ?_;rintro _ _ ⟨rfl,rfl⟩;refine gB ?_;refine zB.i ?_ ?_<;>intro hp
  .have hp:aDG k (n-1-j):=hp
   rw[if_pos hp]at hn1;refine gB ?_;refine Call.pure (hM (cd X X) a hll ha) rfl fc ?_;rintro _ rfl;refine gB ?_;refine⟨j+1,by omega,by omega,Le.i [] rfl fc rfl fc rfl⟩
  have hp:¬aDG k (n-1-j):=hp;rw[if_neg hp]at hn1;refine gB ?_;refine⟨j+1,by omega,by omega,Le.i [] rfl fc rfl fc rfl⟩
 obtain rfl:j=n:=by have hc:¬(n:Int)-1-j≥0:=hc;omega
 rw[hX];rw[hX]at hl;refine gB ?_;refine Ret.i (.agg [(5,.a64 X)]) [] [] rfl fc rfl rfl fc rfl fc rfl
theorem acH (a:List UInt64) (ha:a.length=5):Sx.Fn Γ.P 79 [.agg [(5,.a64 a)]] [] (λv _=>v= .agg [(5,.a64 (aN2 a))]):=by
 have hP:=aYP a 255 21 ha (by omega) (by omega) (by omega);have hl:=(xu a).1;have e:aN2 a=pwS a 255 21 255:=rfl;rw[<-e]at hP;generalize aN2 a=X at hP hl;refine aG (Γ:=Γ) (fn:=Tryz.f79) rfl rfl rfl rfl ?_;refine gB ?_;refine Call.pure hP rfl fc ?_;rintro _ rfl;refine gB ?_;refine Ret.i (.agg [(5,.a64 X)]) [] [] rfl fc rfl rfl fc rfl fc rfl
end Go.Proofs.YtaehfiohjkiajaaGreat
namespace Go.Proofs.YtaehfiohjkiajaaGreat
open Go Go.Sx Go.Cu
theorem aa8 (b:List UInt8) (hb:b.length=32):Sx.Fn Γ.P 92 [.a8 b] [] (λv _=>v= .agg [(5,.a64 (ofL b))]):=by
 refine aG (Γ:=Γ) (fn:=Tryz.f92) rfl rfl rfl rfl ?_;refine gB ?_
 refine aY.i (σ:=Nat) (λi=>i<=32) (λi=>([(1,.ptr 1 0 none),(2,.ptr 2 0 none),(3,.ptr 3 0 none),(6,.a8 b),(7,.i .i64 i)],
  [(1,.mem true 0 [(32,.a8 b)]),(2,.mem true 0 [(5,.a64 (replicate 5 0))]),(3,.mem true 0 [(4,.a64 (Cu.owS b i))])])) (λi=>32-i) 0 (zero_le _) ?_ ?_
 .refine Le.i [] rfl fc rfl fc rfl
 rintro i hi;have hl:=Cu.owS_length b i;have hn:Cu.owS b (i+1)=(Cu.owS b i).set (i/8) ((Cu.owS b i).getD (i/8) 0|||aQ (b.getD i 0).toUInt64 (i%8*8)):=rfl;have hE:ofL b=ofW (Cu.owS b 32):=rfl;refine zB.i ?_ ?_<;>intro hc
 .have hc:(i:Int)<32:=hc
  have e0:((i:Int)/8).toNat=i/8:=by omega
  have e1:((i:Int)%8*8).toNat=i%8*8:=by omega
  obtain⟨X,hX⟩:∃x,Cu.owS b i=x:=⟨_,rfl⟩;rw[hX]at hl hn⊢;refine gB ?_;refine aH.i [[],[0],[0,1],[0,1,2],[],[4],[],[6],[6,7],[4,5,6,7,8],ek,fe,kX] jO (by kernel_rfl) ?_
  repeat refine sdI ?_
  refine⟨i+1,by omega,by omega,Le.i [] rfl fcI rfl fcI rfl⟩
 obtain rfl:i=32:=by have hc:¬(i:Int)<32:=hc;omega
 obtain⟨X,hX⟩:∃x,Cu.owS b 32=x:=⟨_,rfl⟩;rw[hX]at hl hE⊢;obtain⟨Y,hY⟩:∃y,ofW X=y:=⟨_,rfl⟩;rw[hE,hY];refine gB ?_;refine Ret.i (.agg [(5,.a64 Y)]) [] [] rfl ?_ rfl rfl ?_ rfl ?_ rfl
 .exact fc
 .repeat' first|exact trivial|refine zA.app ?_ ?_|refine zA.zd ?_ ?_|refine zA.cons ?_ ?_|exact fc|fail
  all_goals(rw[<-hY];rfl)
 exact fc
theorem acL (l:List UInt64) (hl:l.length=5):Sx.Fn Γ.P 80 [.agg [(5,.a64 l)]] [] (λv _=>v= .a8 (aWL l)):=by
 have hC1:=aSE l hl;have hl1:=(jC l).1;have hC2:=aSE (ci l) hl1;have hl2:=(jC (ci l)).1;have hE:aWL l=Cu.byS (wdL (nmL (ci (ci l)))) 32:=rfl;rw[hE];have hN:nmL (ci (ci l))=(nmS (frL (ci (ci l))) 4).set 4 ((nmS (frL (ci (ci l))) 4).getD 4 0&&&ofNat 2251799813685247):=rfl;have hF:frL (ci (ci l))=(ci (ci l)).set 0 ((ci (ci l)).getD 0 0+ofNat 19*qS (ci (ci l)) 5):=rfl;generalize nmL (ci (ci l))=W at hN⊢;generalize frL (ci (ci l))=B at hN hF;generalize ci (ci l)=A at hC2 hl2 hF;generalize ci l=A1 at hC1 hC2 hl1;refine aG (Γ:=Γ) (fn:=Tryz.f80) rfl rfl rfl rfl ?_;refine gB ?_;refine Call.pure hC1 rfl fc ?_;rintro _ rfl;refine gB ?_;refine Call.pure hC2 rfl fc ?_;rintro _ rfl;refine gB ?_
 refine aY.i (σ:=Nat) (λi=>i<=5) (λi=>([(1,.ptr 1 0 none),(2,.ptr 2 0 none),(3,.u64 (qS A i)),(15,.a64 A),(16,.i .i64 i)],
  [(1,.mem true 0 [(5,.a64 A)]),(2,.mem true 0 [(32,.a8 (replicate 32 0))])])) (λi=>5-i) 0 (zero_le _) ?_ ?_
 .refine Le.i [] rfl fc rfl fc rfl
 rintro i hi;refine zB.i ?_ ?_<;>intro hc
 .have hc:(i:Int)<5:=hc
  have hn:qS A (i+1)=aF (A.getD i 0+qS A i) 51:=rfl;refine gC ?_;refine⟨i+1,by omega,by omega,Le.i [] rfl fcn rfl fcn rfl⟩
 obtain rfl:i=5:=by have hc:¬(i:Int)<5:=hc;omega
 have hlB:B.length=5:=by rw[hF,length_set];exact hl2
 generalize qS A 5=Q at hF;refine gB ?_
 refine aY.i (σ:=Nat) (λi=>i<=4) (λi=>([(1,.ptr 1 0 none),(2,.ptr 2 0 none),(32,.i .i64 i)],
  [(1,.mem true 0 [(5,.a64 (nmS B i))]),(2,.mem true 0 [(32,.a8 (replicate 32 0))])])) (λi=>4-i) 0 (zero_le _) ?_ ?_
 .have e:nmS B 0=A.set 0 (A.getD 0 0+ofNat 19*Q):=hF
  refine Le.i [] rfl fc rfl fc rfl
 rintro i hi;have hln:=rh B hlB i;refine zB.i ?_ ?_<;>intro hc
 .have hc:(i:Int)<4:=hc
  have e0:((i:Int)+1).toNat=i+1:=by omega
  have hn:nmS B (i+1)=((nmS B i).set (i+1) ((nmS B i).getD (i+1) 0+aF ((nmS B i).getD i 0) 51)).set i (((nmS B i).set (i+1) ((nmS B i).getD (i+1) 0+aF ((nmS B i).getD i 0) 51)).getD i 0&&&ofNat 2251799813685247):=rfl;obtain⟨X,hX⟩:∃x,nmS B i=x:=⟨_,rfl⟩;rw[hX]at hln hn⊢;refine gB ?_;refine aH.i [[],[0],[],[0,1,2],r_4,[],[],[5,6],[5,6,7],[5,6,7,8],ek,[],kX,jO] oB (by kernel_rfl) ?_
  repeat refine sdF ?_
  refine⟨i+1,by omega,by omega,Le.i [] rfl fcF rfl fcF rfl⟩
 obtain rfl:i=4:=by have hc:¬(i:Int)<4:=hc;omega
 obtain⟨X,hX⟩:∃x,nmS B 4=x:=⟨_,rfl⟩;rw[hX]at hln hN⊢;have hlW:W.length=5:=by rw[hN,length_set];exact hln
 have hw:wdL W=[W.getD 0 0|||aQ (W.getD 1 0) 51,aF (W.getD 1 0) 13|||aQ (W.getD 2 0) 38,aF (W.getD 2 0) 26|||aQ (W.getD 3 0) 25,aF (W.getD 3 0) 39|||aQ (W.getD 4 0) 12]:=rfl;obtain⟨T,hT⟩:∃t,wdL W=t:=⟨_,rfl⟩;have hlT:T.length=4:=by rw[<-hT];rfl
 rw[hT]at hw⊢;refine gB ?_
 refine aY.i (σ:=Nat) (λi=>i<=32) (λi=>([(2,.ptr 2 0 none),(8,.ptr 8 0 none),(9,.ptr 9 0 none),(92,.i .i64 i)],
  [(2,.mem true 0 [(32,.a8 (replicate 32 0))]),(8,.mem true 0 [(4,.a64 T)]),(9,.mem true 0 [(32,.a8 (Cu.byS T i))])])) (λi=>32-i) 0 (zero_le _) ?_ ?_
 .have e:Cu.byS T 0=replicate 32 0:=rfl
  refine Le.i [] rfl ?_ rfl ?_ rfl
  .exact fc
  repeat' first|exact trivial|refine zA.app ?_ ?_|refine zA.zd ?_ ?_|refine zA.cons ?_ ?_|exact fc|fail
  all_goals(rw[hw,hN];rfl)
 rintro i hi;have hlb:=Cu.byS_length T i;refine zB.i ?_ ?_<;>intro hc
 .have hc:(i:Int)<32:=hc
  have e0:((i:Int)/8).toNat=i/8:=by omega
  have e1:((i:Int)%8*8).toNat=i%8*8:=by omega
  have hn:Cu.byS T (i+1)=(Cu.byS T i).set i (aF (T.getD (i/8) 0) (i%8*8)).toUInt8:=rfl;obtain⟨X,hX⟩:∃x,Cu.byS T i=x:=⟨_,rfl⟩;rw[hX]at hlb hn⊢
  repeat refine sdI ?_
  refine⟨i+1,by omega,by omega,Le.i [] rfl fcI rfl fcI rfl⟩
 obtain rfl:i=32:=by have hc:¬(i:Int)<32:=hc;omega
 obtain⟨X,hX⟩:∃x,Cu.byS T 32=x:=⟨_,rfl⟩;rw[hX]at hlb⊢;refine gB ?_;refine Ret.i (.a8 X) [] [] rfl fc rfl rfl fc rfl fc rfl
end Go.Proofs.YtaehfiohjkiajaaGreat
namespace Go.Cu
open Go Go.Sx
def r0 (a:F):F:=pw a ((aB+3)/8)
def j0:F:=pw 2 ((aB-1)/4)
theorem aX2:j0*j0=0-1:=by
 have e:j0=iF\/j0=0-iF:=by
  have h:j0.val=aKZ aB 2 256 ((aB-1)/4):=aFE 2 _ (by decide);have h2:aKZ aB 2 256 ((aB - 1) / 4) = iF.val \/ aKZ aB 2 256 ((aB - 1) / 4) = (0 - iF).val:=by decide +kernel
  rcases h2 with h2|h2
  .exact Or.inl (Fin.ext (h.trans h2))
  exact Or.inr (Fin.ext (h.trans h2))
 have hi:=aX4;rcases e with e|e<;>rw[e]
 .exact hi
 exact gr
def mv (a:F):Prop:=a=0\/pw a ((aB-1)/2)=1
instance (a:F):Decidable (mv a):=by unfold mv;exact inferInstance
def qp (a:F):F:=if r0 a*r0 a=a then r0 a else r0 a*j0
def aCI (r:F):F:=if r.val%2=1 then 0-r else r
def dn (a:F):F:=aCI (qp a)
theorem aFZ {a:F} (h:a≠0):(0-a).val=aB-a.val:=by
 have hp:0<a.val:=Nat.pos_of_ne_zero λh0=>h (Fin.ext h0);show(aB-a.val+0)%aB=_;rw[Nat.add_zero,mod_eq_of_lt (by have:=a.isLt;omega)]
theorem aFU {a:F} (h:a≠0):(0-a).val%2=1↔a.val%2=0:=by
 have h1:=aFZ h;have h2:=a.isLt;rw[h1];have:aB=57896044618658097711785492504343953926634992332820282019728792003956564819949:=rfl;omega
theorem aCH (r:F):(aCI r).val%2=0:=by
 unfold aCI;split
 .rename_i h
  have hr:r≠0:=by rintro rfl;exact absurd h (by decide)
  have:=aFU hr;omega
 omega
theorem aS4 (a:F):r0 a*r0 a=a*pw a ((aB-1)/4):=by
 unfold r0;rw[<-rZ,show(aB+3)/8+(aB+3)/8=(aB-1)/4+1 by decide,aFD];exact aOB _ _
theorem aWW {x:F} (h:x*x=1):x=1\/x=0-1:=by
 have h1:(x-1)*(x+1)=0:=gr;rcases dI h1 with h2|h2
 .exact Or.inl (gr)
 exact Or.inr (gr)
theorem aNM {a:F} (h:a≠0):a≠0-a:=by
 intro e;have h1:2*a=0:=gr;exact(dI h1).elim nR h
theorem aFB:r0 0=0:=by unfold r0;exact aPT (by decide)
theorem aS5 {a:F} (h:mv a):r0 a*r0 a=a\/r0 a*r0 a=0-a:=by
 rcases h with rfl|h
 .rw[aFB];exact Or.inl (gr)
 rw[aS4];have e:pw a ((aB-1)/4)*pw a ((aB-1)/4)=1:=by
  rw[<-rZ,show(aB-1)/4+(aB-1)/4=(aB-1)/2 by decide];exact h
 rcases aWW e with h1|h1<;>rw[h1]
 .exact Or.inl (gr)
 exact Or.inr (gr)
theorem aPB {a s:F} (h:s*s=a):mv a:=by
 by_cases hs:s=0
 .exact Or.inl (by rw[<-h,hs];exact gr)
 exact Or.inr (by rw[<-h];exact aEI hs)
def nu (a:F):F:=if r0 a*r0 a=0-a then r0 a*j0 else r0 a
theorem sa (a:F):nu a*nu a=a↔mv a:=by
 refine⟨λh=>aPB h,λh=>?_⟩;unfold nu;have hj:=aX2;split
 .exact gr
 rename_i h1;exact(aS5 h).resolve_right h1
theorem y6 {a:F} (h:mv a):nu a=qp a:=by
 unfold nu qp;by_cases ha:a=0
 .subst ha
  rw[aFB];split
  .split <;>exact gr
  split <;>exact gr
 rcases aS5 h with h1|h1
 .rw[if_neg (by rw[h1];exact aNM ha),if_pos h1]
 rw[if_pos h1,if_neg (by rw[h1];exactλe=>aNM ha e.symm)]
theorem aKG {a:F} (h:mv a):qp a*qp a=a:=by rw[<-y6 h];exact(sa a).2 h
theorem y7 {a:F} (h:mv a):dn a*dn a=a:=by
 have h1:=aKG h;unfold dn aCI;split
 .exact gr
 exact h1
theorem aD4 {x y:F} (h:x*x=y*y):x=y\/x=0-y:=by
 have h1:(x-y)*(x+y)=0:=gr;rcases dI h1 with h2|h2
 .exact Or.inl (gr)
 exact Or.inr (gr)
theorem aKH (x:F):dn (x*x)=if x.val%2=1 then 0-x else x:=by
 have h:=y7 (aPB (s:=x) rfl);have he:=aCH (qp (x*x));have he:(dn (x*x)).val%2=0:=he;rcases aD4 h with h1|h1
 .rw[h1]at he⊢
  rw[if_neg (by omega)]
 by_cases hx:x=0
 .subst hx
  rw [h1];decide +kernel
 have:=aFU hx;rw[h1]at he⊢;rw[if_pos (by omega)]
def kF (b:List UInt8):List UInt8:=b.set 31 (b.getD 31 0&&&UInt8.ofNat 127)
theorem pl (b:List UInt8):(kF b).length=b.length:=by unfold kF;rw[length_set]
def xxF (y:F):F:=(y*y-1)*inv (dF*(y*y)+1)
def tk (b:List UInt8):Prop:=128<=(b.getD 31 0).toNat
instance (b:List UInt8):Decidable (tk b):=by unfold tk;exact inferInstance
def okD (b:List UInt8):Prop:=leB (ofF (kF b))=kF b/\mv (xxF (ofF (kF b)))/\¬(tk b/\dn (xxF (ofF (kF b)))=0)
instance (b:List UInt8):Decidable (okD b):=by unfold okD;exact inferInstance
def aIA (b:List UInt8):F:=if tk b then 0-dn (xxF (ofF (kF b)))else dn (xxF (ofF (kF b)))
def nF (b:List UInt8):F:=ofF (kF b)
theorem aOG (y:F):dF*(y*y)+1≠0:=by
 intro h;have h1:iF*iF=dF*(y*y):=by have:=aX4;exact gr
 have h2:=aP3 h1;rw[h2]at h;exact absurd h (by decide +kernel)
theorem aSK {x y:F}:On x y↔x*x=xxF y:=by
 have hn:=iv (aOG y);unfold On xxF;constructor
 .intro h
  have:x*x*(dF*(y*y)+1)=y*y-1:=gr;refine x6 (aOG y) ?_;rw[this];exact gr
 intro h;have:x*x*(dF*(y*y)+1)=y*y-1:=by rw[h];exact gr
 exact gr
theorem aVD {b:List UInt8} (h:okD b):On (aIA b) (nF b):=by
 rw[aSK];have h1:=y7 h.2.1;unfold aIA nF;split
 .exact gr
 exact h1
def vg (b:List UInt8):Pt:=if h:okD b then⟨aIA b,nF b,aVD h⟩else .O
theorem aAN {b:List UInt8} (h:okD b):(vg b).x=aIA b:=by unfold vg;rw[dif_pos h]
theorem aAM {b:List UInt8} (h:okD b):(vg b).y=nF b:=by unfold vg;rw[dif_pos h]
def rD (P:Pt):List UInt8:=if P.x.val%2=1 then(leB P.y).set 31 ((leB P.y).getD 31 0+UInt8.ofNat 128)else leB P.y
theorem kQ (P:Pt):(rD P).length=32:=by
 unfold rD;split
 .rw[length_set];exact aj _
 exact aj _
theorem aNX (y:F):((leB y).getD 31 0).toNat<128:=by
 have h:=uy (leB y) 31;rw[ux]at h;have:=y.isLt;rw[<-h];have h2:aB=57896044618658097711785492504343953926634992332820282019728792003956564819949:=rfl;have h3:(256:Nat)^31=452312848583266388373324160190187140051835877600158453279131187530910662656:=by decide
 rw[h3];omega
theorem vu:∀x:UInt8,x.toNat<128->x&&&UInt8.ofNat 127=x:=by
 intro x hx;have:∀ y:Fin 256,y.val < 128->UInt8.ofNat y.val &&& UInt8.ofNat 127 = UInt8.ofNat y.val:=by decide +kernel
 have h:=this ⟨x.toNat,x.toNat_lt⟩ hx;rw[UInt8.ofNat_toNat]at h;exact h
theorem aC6:∀x:UInt8,x.toNat<128->(x+UInt8.ofNat 128)&&&UInt8.ofNat 127=x:=by
 intro x hx;have:∀ y:Fin 256,y.val < 128->(UInt8.ofNat y.val + UInt8.ofNat 128) &&& UInt8.ofNat 127 = UInt8.ofNat y.val:=by decide +kernel
 have h:=this ⟨x.toNat,x.toNat_lt⟩ hx;rw[UInt8.ofNat_toNat]at h;exact h
theorem sQ {l:List UInt8} {i:Nat} (h:i<l.length):l.set i (l.getD i 0)=l:=by
 apply List.ext_getElem (by rw[length_set]);intro j h1 h2;rw[List.getElem_set];split
 .rename_i e
  subst e;rw[getD_eq_getElem?_getD,List.getElem?_eq_getElem h];rfl
 rfl
theorem aK3 (P:Pt):kF (rD P)=leB P.y/\(tk (rD P)↔P.x.val%2=1):=by
 have hs:=aNX P.y;have hl:=aj P.y;unfold kF rD tk;split
 .rename_i h
  have g:((leB P.y).set 31 ((leB P.y).getD 31 0+UInt8.ofNat 128)).getD 31 0=(leB P.y).getD 31 0+UInt8.ofNat 128:=by
   rw[getD_eq_getElem?_getD,List.getElem?_set_self (by omega)];rfl
  rw[g,List.set_set,aC6 _ hs,sQ (by omega)];refine⟨rfl,λ_=>h,λ_=>?_⟩;rw[UInt8.toNat_add,show(UInt8.ofNat 128).toNat=128 from rfl];omega
 rename_i h;rw[vu _ hs,sQ (by omega)];refine⟨rfl,λh2=>by omega,λh2=>absurd h2 h⟩
theorem yA (P:Pt):okD (rD P)/\vg (rD P)=P:=by
 obtain⟨h1,h2⟩:=aK3 P;have hy:ofF (kF (rD P))=P.y:=by rw[h1,aP1]
 have hx:xxF (ofF (kF (rD P)))=P.x*P.x:=by rw[hy];exact(aSK.1 P.on).symm
 have hr:=aKH P.x;have ok:okD (rD P):=by
  refine⟨by rw[hy,h1],by rw[hx];exact aPB rfl,?_⟩;rw[hx,hr,h2];rintro⟨h3,h4⟩;rw[if_pos h3]at h4;have:P.x=0:=gr;rw[this]at h3;exact absurd h3 (by decide)
 refine⟨ok,Pt.ext' ?_ ?_⟩
 .rw[aAN ok]
  unfold aIA;rw[hx,hr];by_cases h3:P.x.val%2=1
  .rw[if_pos (h2.2 h3),if_pos h3];exact gr
  rw[if_neg (λh=>h3 (h2.1 h)),if_neg h3]
 rw[aAM ok];exact hy
def basB:List UInt8:=UInt8.ofNat 88::replicate 31 (UInt8.ofNat 102)
theorem yP:rD basP = basB:=by decide +kernel
theorem aOO:okD basB:=by rw[<-yP];exact(yA basP).1
theorem aIV:vg basB=basP:=by rw[<-yP];exact(yA basP).2
end Go.Cu
namespace Go.Proofs.YtaehfiohjkiajaaGreat
open Go Go.Sx Go.Cu
theorem xl {x y:F} (h:leB x=leB y):x=y:=by
 have:=ux x;rw[h,ux y]at this;exact Fin.ext this.symm
theorem zK (x:F):(leB x).getD 0 0&&&UInt8.ofNat 1=UInt8.ofNat 1↔x.val%2=1:=by
 have h:=uy (leB x) 0;rw[ux,Nat.pow_zero,div_one]at h;have e:((leB x).getD 0 0&&&UInt8.ofNat 1).toNat=x.val%2:=by
  rw[UInt8.toNat_and,show(UInt8.ofNat 1).toNat=2^1-1 from rfl,Nat.and_two_pow_sub_one_eq_mod,<-h];omega
 constructor
 .intro h1;rw[h1]at e;exact e.symm
 intro h1;exact UInt8.toNat_inj.1 (by rw[e,h1];rfl)
def rk (a:List UInt64):List UInt64:=tj (replicate 5 0) a
theorem iq (a:List UInt64):Lb (rk a):=dL _ _
theorem pf {a:List UInt64} (h:Lb a):fv (rk a)=0-fv a:=by unfold rk;rw[ic wM h,wO]
def aM0:List UInt64:=[ofNat 2,0,0,0,0]
theorem aD5:Lb aM0:=⟨rfl,by decide,by decide,by decide,by decide,by decide⟩
theorem aO4:fv aM0 = 2:=by decide +kernel
theorem aY1:exN 252 2 252 = (aB + 3) / 8:=by decide +kernel
theorem aY2:exN 253 5 253 = (aB - 1) / 4:=by decide +kernel
theorem aS6 {a:List UInt64} (h:Lb a):fv (pwS a 252 2 252)=r0 (fv a):=by rw[zJ h,aY1];rfl
theorem aUA:fv (pwS aM0 253 5 253)=j0:=by rw[zJ aD5,aY2,aO4];rfl
theorem fB (l:List UInt64) (hl:l.length=5):Sx.Fn Γ.P 80 [.agg [(5,.a64 l)]] [] (λv _=>v= .a8 (leB (fv l))):=by
 have h:=acL l hl;rw[aRS]at h;exact h
theorem aZ2 (a:List UInt64) (ha:a.length=5):Sx.Fn Γ.P 98 [.agg [(5,.a64 a)]] [] (λv _=>v= .agg [(5,.a64 (rk a))]):=by
 have hS:=aa7 (replicate 5 0) a rfl ha;have e:rk a=tj (replicate 5 0) a:=by unfold rk;rfl
 have hl:=(iq a).1;rw[<-e]at hS;generalize rk a=X at hS hl;refine aG (Γ:=Γ) (fn:=Tryz.f98) rfl rfl rfl rfl ?_;refine gB ?_;refine Call.pure hS rfl fc ?_;rintro _ rfl;refine gD ?_;refine Ret.i (.agg [(5,.a64 X)]) [] [] rfl fc rfl rfl fc rfl fc rfl
def aPN (a:List UInt64) (v:SV):Prop:=(mv (fv a)/\∃l,Lb l/\fv l=dn (fv a)/\v= .tup [.agg [(5,.a64 l)],.tt])\/(¬mv (fv a)/\v= .tup [.agg [(5,.a64 (replicate 5 0))],.ff])
theorem uT (a:List UInt64) (ha:Lb a) (R:List UInt64) (bR:Lb R) (vR:fv R=nu (fv a)) (T:Tm) (M:Mm)
  (hle:Le [] [(1,.ptr 1 0 none),(2,.ptr 2 0 none),(4,.ptr 4 0 none),(5,.ptr 5 0 none)]
   [(1,.mem true 0 [(5,.a64 a)]),(2,.mem true 0 [(5,.a64 (replicate 5 0))]),(4,.mem true 0 [(5,.a64 R)]),(5,.mem true 0 [(32,.a8 (leB (fv (cd R R))))])] T M):
  aSJ Γ [6] Tryz.f97 6 [] T M (λv _=>aPN a v):=by
 have hla:=ha.1;have hAB:=fB a hla;have hbl:=aj;have lR:=bR.1;have hRB:=fB R lR;have hN:=aZ2 R lR;have bN:=iq R;have vN:=pf bR;have lN:=bN.1;have vRR:fv (cd R R)=nu (fv a)*nu (fv a):=by rw[ak bR bR,vR]
 generalize rk R=N at *
 refine Cut.i (σ:=Unit) (λ_=>True) (λ_=>([(1,.ptr 1 0 none),(2,.ptr 2 0 none),(4,.ptr 4 0 none),(5,.ptr 5 0 none)],
   [(1,.mem true 0 [(5,.a64 a)]),(2,.mem true 0 [(5,.a64 (replicate 5 0))]),(4,.mem true 0 [(5,.a64 R)]),(5,.mem true 0 [(32,.a8 (leB (fv (cd R R))))])])) () trivial hle ?_
 rintro - -;refine aH.i [[],[],[1],[0,1,2]] r_4 (by kernel_rfl) ?_;refine gD ?_;refine Call.pure hAB rfl fc ?_;rintro _ rfl;refine gD ?_;refine zB.i ?_ ?_<;>intro h
 .have h:¬leB (fv (cd R R))=leB (fv a):=h
  have h1:¬mv (fv a):=λhs=>h (by rw[vRR,(sa _).2 hs]);refine gB ?_;refine Ret.i (.tup [.agg [(5,.a64 (replicate 5 0))],.ff]) [] [] rfl fc (Or.inr ⟨h1,rfl⟩) rfl fc rfl fc rfl
 have h:¬¬leB (fv (cd R R))=leB (fv a):=h;have h1:mv (fv a):=(sa _).1 (by rw[<-vRR];exact xl (Classical.not_not.1 h));have vT:fv R=qp (fv a):=by rw[vR,y6 h1]
 refine gB ?_;refine Call.pure hRB rfl fc ?_;rintro _ rfl;refine gD ?_;refine zB.i ?_ ?_<;>intro h2
 .have h2:(leB (fv R)).getD 0 0&&&UInt8.ofNat 1=UInt8.ofNat 1:=h2
  have h3:=(zK _).1 h2;refine gB ?_;refine Call.pure hN rfl fc ?_;rintro _ rfl;refine gD ?_;refine Ret.i (.tup [.agg [(5,.a64 N)],.tt]) [] [] rfl ?_ (Or.inl ⟨h1,N,bN,?_,rfl⟩) rfl ?_ rfl ?_ rfl
  .exact fc
  .rw[vN,vT];unfold dn aCI;rw[<-vT,if_pos h3]
  .exact fc
  exact fc
 have h2:¬(leB (fv R)).getD 0 0&&&UInt8.ofNat 1=UInt8.ofNat 1:=h2;have h3:¬(fv R).val%2=1:=λe=>h2 ((zK _).2 e);refine gB ?_;refine Ret.i (.tup [.agg [(5,.a64 R)],.tt]) [] [] rfl ?_ (Or.inl ⟨h1,R,bR,?_,rfl⟩) rfl ?_ rfl ?_ rfl
 .exact fc
 .unfold dn aCI;rw[<-vT,if_neg h3]
 .exact fc
 exact fc
theorem aYC (a:List UInt64) (ha:Lb a):Sx.Fn Γ.P 97 [.agg [(5,.a64 a)]] []
  (λv _=>aPN a v):=by
 have hla:=ha.1;have hP:=aYP a 252 2 hla (by omega) (by omega) (by omega);have hJ:=aYP aM0 253 5 aD5.1 (by omega) (by omega) (by omega);have hX:=aS6 ha;have bX:=ui a 252 2 252;have bJ:=ui aM0 253 5 253;have vJ:=aUA;have hN:=aZ2 a hla;have bN:=iq a;have vN:=pf ha;have lN:=bN.1;have hNB:=fB (rk a) lN;rw[vN]at hNB;have hAB:=fB a hla;have hM:=λ(x y:List UInt64) (hx:x.length=5) (hy:y.length=5)=>abC x y hx hy;have hB:=λ(x:List UInt64) (hx:x.length=5)=>fB x hx;have hml:=λx y=>(aP x y).1;have hbl:=aj;unfold aM0 at hJ;change Sx.Fn _ _ _ _ (λv _=>v= .agg [(5,.a64 (pwS aM0 253 5 253))])at hJ;generalize pwS aM0 253 5 253=J at hJ bJ vJ;generalize pwS a 252 2 252=X at hP hX bX;generalize rk a=N at *;have lX:=bX.1;have lJ:=bJ.1;refine cV [6] (Γ:=Γ) (fn:=Tryz.f97) rfl rfl rfl rfl ?_;refine gB ?_;refine Call.pure hP rfl fc ?_;rintro _ rfl;refine gD ?_;refine Call.pure (hM X X lX lX) rfl fc ?_;rintro _ rfl;refine gD ?_;refine Call.pure (hB (cd X X) (hml X X)) rfl fc ?_;rintro _ rfl;refine gD ?_;refine aH.i [[],[],[1],[1,2],r_4] r_5 (by kernel_rfl) ?_;refine gD ?_;refine Call.pure hN rfl fc ?_;rintro _ rfl;refine gD ?_;refine Call.pure hNB rfl fc ?_;rintro _ rfl;refine gD ?_;have vXX:fv (cd X X)=r0 (fv a)*r0 (fv a):=by rw[ak bX bX,hX]
 refine zB.i ?_ ?_<;>intro h
 .have h:leB (fv (cd X X))=leB (0-fv a):=h
  have h1:r0 (fv a)*r0 (fv a)=0-fv a:=by rw[<-vXX];exact xl h
  have bR:=aP X J;have vR:fv (cd X J)=nu (fv a):=by rw[ak bX bJ,hX,vJ];unfold nu;rw[if_pos h1]
  refine aH.i [[],[],[1],[1,2],r_4,r_5] r_6 (by kernel_rfl) ?_;refine gD ?_;refine Call.pure hJ rfl fc ?_;rintro _ rfl;refine gD ?_;refine Call.pure (hM X J lX lJ) rfl fc ?_;rintro _ rfl;refine gD ?_;obtain⟨R,hR⟩:∃r,cd X J=r:=⟨_,rfl⟩;rw[hR]at bR vR⊢;have lR:=bR.1;refine Call.pure (hM R R lR lR) rfl fc ?_;rintro _ rfl;refine gD ?_;refine Call.pure (hB (cd R R) (hml R R)) rfl fc ?_;rintro _ rfl;refine gD ?_;refine uT a ha R bR vR _ _ (Le.i [] rfl fc rfl fc rfl)
 have h:¬leB (fv (cd X X))=leB (0-fv a):=h;have h1:¬r0 (fv a)*r0 (fv a)=0-fv a:=by rw[<-vXX];exactλe=>h (by rw[e])
 have vR:fv X=nu (fv a):=by rw[hX];unfold nu;rw[if_neg h1]
 refine gB ?_;refine uT a ha X bX vR _ _ (Le.i [] rfl fc rfl fc rfl)
end Go.Proofs.YtaehfiohjkiajaaGreat
namespace Go.Proofs.YtaehfiohjkiajaaGreat
open Go Go.Sx
def aBF (n:Int):Int:=if n<0\/1099511627776<n then 0 else n/16*16+16
theorem uK {n:Int} (h:n<0\/1099511627776<n):aBF n=0:=if_pos h
theorem yn {n:Int} (h1:¬n<0) (h2:¬1099511627776<n):aBF n=n/16*16+16:=if_neg (by omega)
theorem aYH (n:Int):Sx.Fn Γ.P 37 [.i .i64 n] [] (λv _=>v= .i .i64 (aBF n)):=by
 refine aG (Γ:=Γ) (fn:=Tryz.f37) rfl rfl rfl rfl ?_;refine zB.i ?_ ?_<;>intro h
 .refine Ret.i (.i .i64 (aBF n)) [] [] rfl trivial rfl rfl ?_ rfl trivial rfl
  exact uK (Or.inl h)
 refine zB.i ?_ ?_<;>intro h2
 .refine Ret.i (.i .i64 (aBF n)) [] [] rfl trivial rfl rfl ?_ rfl trivial rfl
  exact uK (Or.inr h2)
 refine gB ?_;refine Ret.i (.i .i64 (aBF n)) [] [] rfl trivial rfl rfl ?_ rfl trivial rfl;exact yn h h2
end Go.Proofs.YtaehfiohjkiajaaGreat
namespace Go.Proofs.YtaehfiohjkiajaaGreat
open Go Go.Sx
@[irreducible] def aM3 (n:Int):Int:=if n<0\/1024<n then 0 else n/16*16+32
theorem yo {n:Int} (h:n<0\/1024<n):aM3 n=0:=by unfold aM3;exact if_pos h
theorem mO {n:Int} (h1:¬n<0) (h2:¬1024<n):aM3 n=n/16*16+32:=by unfold aM3;exact if_neg (by omega)
theorem ab1 (n:Int):Sx.Fn Γ.P 16 [.i .i64 n] [] (λv _=>v= .i .i64 (aM3 n)):=by
 refine aG (Γ:=Γ) (fn:=Tryz.f16) rfl rfl rfl rfl ?_;refine gB ?_;refine zB.i ?_ ?_<;>intro h
 .refine gB ?_
  refine Ret.i (.i .i64 (aM3 n)) [] [] rfl trivial rfl rfl ?_ rfl trivial rfl;exact yo (Or.inl h)
 have h:¬n<0:=h;refine gB ?_;refine zB.i ?_ ?_<;>intro h2
 .refine gB ?_
  refine Ret.i (.i .i64 (aM3 n)) [] [] rfl trivial rfl rfl ?_ rfl trivial rfl;exact yo (Or.inr h2)
 have h2:¬n>1024:=h2;have e:=mO h (by omega);have e1:=yn h (by omega);refine Call.pure (aYH n) rfl fc ?_;rintro _ rfl;rw[e1];refine gB ?_;refine Ret.i (.i .i64 (aM3 n)) [] [] rfl trivial rfl rfl ?_ rfl trivial rfl;exact fc
end Go.Proofs.YtaehfiohjkiajaaGreat
namespace Go.Proofs.YtaehfiohjkiajaaGreat
open Go Go.Sx
def aDF (n:Nat):Nat->List UInt8
 |0=>[]
 |s+1=>UInt8.ofNat (n/256^s)::aDF n s
theorem iA (n:Nat):∀s,(aDF n s).length=s
 |0=>rfl
 |s+1=>by simp only[aDF,List.length_cons,iA n s]
theorem uj (n:Nat):∀{s j:Nat},j<s->(aDF n s).getD j 0=UInt8.ofNat (n/256^(s-1-j))
 |0,j,h=>absurd h (Nat.not_lt_zero _)
 |s+1,0,_=>rfl
 |s+1,j+1,h=>by
  show(aDF n s).getD j 0=_;rw[uj n (by omega),show s-1-j=s+1-1-(j+1) by omega]
theorem oI {a b:List UInt8} {n:Nat} (ha:a.length=n) (hb:b.length=n) (h:∀j,j<n->a.getD j 0=b.getD j 0):a=b:=by
 apply List.ext_getElem (by omega);intro i h1 h2;have:=h i (by omega)
 rwa [getD_eq_getElem?_getD,getD_eq_getElem?_getD,List.getElem?_eq_getElem h1,List.getElem?_eq_getElem h2]at this
theorem aLH {l:List UInt8} {i j:Nat} {x:UInt8} (h:i<l.length):(l.set i x).getD j 0=if i=j then x else l.getD j 0:=by
 simp only[getD_eq_getElem?_getD,List.getElem?_set];split
 .rfl
 rfl
def pK (x:UInt64) (s:Nat):Nat->List UInt8
 |0=>replicate s 0
 |i+1=>(pK x s i).set (s-1-i) (aF x (8*i)).toUInt8
theorem ik (x:UInt64) (s:Nat):∀i,(pK x s i).length=s
 |0=>List.length_replicate
 |i+1=>by simp only[pK,length_set,ik x s i]
theorem aJ3 (x:UInt64) {i:Nat} (hi:i<8):(aF x (8*i)).toUInt8=UInt8.ofNat (x.toNat/256^i):=by
 apply UInt8.toNat_inj.1;have hp:(256:Nat)^i=2^(8*i):=by rw[show(256:Nat)=2^8 from rfl,<-pow_mul]
 have hlt:x.toNat/2^(8*i)<2^64:=Nat.lt_of_le_of_lt (Nat.div_le_self _ _) x.toNat_lt;rw[aF,Nat.shiftRight_eq_div_pow,hp,UInt64.toNat_toUInt8,UInt64.toNat_ofNat',toNat_ofNat',mod_eq_of_lt hlt]
theorem aFI (x:UInt64) {s:Nat} (hs:s<=8):∀{i:Nat},i<=s->∀j,j<s->(pK x s i).getD j 0=if s-i<=j then UInt8.ofNat (x.toNat/256^(s-1-j))else 0
 |0,_,j,hj=>by rw[if_neg (by omega)];simp[pK,getD_eq_getElem?_getD,hj]
 |i+1,hi,j,hj=>by
  simp only[pK];rw[aLH (by rw[ik];omega),aFI x hs (by omega) j hj];by_cases h:s-1-i=j
  .rw[if_pos h,if_pos (by omega),aJ3 x (by omega),show s-1-j=i by omega]
  rw[if_neg h];by_cases h2:s-i<=j
  .rw[if_pos h2,if_pos (by omega)]
  rw[if_neg h2,if_neg (by omega)]
theorem aTB (x:UInt64) {s:Nat} (hs:s<=8):pK x s s=aDF x.toNat s:=by
 refine oI (ik x s s) (iA _ _) λj hj=>?_;rw[aFI x hs (Nat.le_refl _) j hj,if_pos (by omega),uj _ hj]
theorem aYR (x:UInt64) (s:Nat) (h1:1<=s) (h8:s<=8) (hx:s<8->aF x (8*s)=0):Sx.Fn Γ.P 114 [.u64 x,.i .i64 (s:Int)] []
  (λv M=>v= .tup [.sl 1001 0 0 s s,.tt]/\M=[(1001,.mem true 0 [(s,.a8 (aDF x.toNat s))])]):=by
 have hz:pK x s 0=replicate s 0:=rfl;have hall:=aTB x h8;refine aG (Γ:=Γ) (fn:=Tryz.f114) rfl rfl rfl rfl ?_;refine zB.i (λh=>absurd h (by omega)) (λ_=>?_);refine zB.i (λh=>absurd h (by omega)) (λ_=>?_);refine zB.i ?_ ?_<;>intro h
 .have h:(s:Int)<8:=h
  have e0:((8:Int)*(s:Int)).toNat=8*s:=by omega
  have hx:=hx (by omega);refine gB ?_;refine zB.i (λhn=>?_) (λ_=>?_)
  .exact absurd (by rw[e0];exact hx) hn
  refine gB ?_
  refine aY.i (σ:=Nat) (λi=>i<=s)
   (λi=>([(0,.u64 x),(1,.i .i64 (s:Int)),(6,.sl 26 0 0 s s),(28,.i .i64 (s:Int)),(29,.i .i64 (i:Int))],[(26,.mem true 0 [(s,.a8 (pK x s i))])])) (λi=>s-i) 0 (zero_le _) ?_ ?_
  .refine Le.i [] rfl fc rfl fc rfl
  rintro i hi;have hl:=ik x s i;refine zB.i ?_ ?_<;>intro hc
  .have hc:(i:Int)<s:=hc
   have hs:pK x s (i+1)=(pK x s i).set (s-1-i) (aF x (8*i)).toUInt8:=rfl;have e1:((s:Int)-1-(i:Int)).toNat=s-1-i:=by omega
   have e2:((8:Int)*(i:Int)).toNat=8*i:=by omega
   repeat refine sdJ ?_
   refine⟨i+1,by omega,by omega,Le.i [] rfl fc rfl fcJ rfl⟩
  obtain rfl:i=s:=by have hc:¬(i:Int)<s:=hc;omega
  refine gB ?_;refine Ret.i (.tup [.sl 1001 0 0 i i,.tt]) [(1001,.mem true 0 [(i,.a8 (aDF x.toNat i))])] [(1001,(26,0,none))] rfl ?_ ⟨rfl,rfl⟩ rfl ?_ rfl ?_ rfl
  .exact fc
  .exact fc
  repeat' first|exact trivial|refine zA.app ?_ ?_|refine zA.zd ?_ ?_|refine zA.cons ?_ ?_|exact fc|fail
  all_goals exact hall.symm
 refine gB ?_
 refine aY.i (σ:=Nat) (λi=>i<=s)
  (λi=>([(0,.u64 x),(1,.i .i64 (s:Int)),(6,.sl 26 0 0 s s),(28,.i .i64 (s:Int)),(29,.i .i64 (i:Int))],[(26,.mem true 0 [(s,.a8 (pK x s i))])])) (λi=>s-i) 0 (zero_le _) ?_ ?_
 .refine Le.i [] rfl fc rfl fc rfl
 rintro i hi;have hl:=ik x s i;refine zB.i ?_ ?_<;>intro hc
 .have hc:(i:Int)<s:=hc
  have hs:pK x s (i+1)=(pK x s i).set (s-1-i) (aF x (8*i)).toUInt8:=rfl;have e1:((s:Int)-1-(i:Int)).toNat=s-1-i:=by omega
  have e2:((8:Int)*(i:Int)).toNat=8*i:=by omega
  repeat refine sdJ ?_
  refine⟨i+1,by omega,by omega,Le.i [] rfl fc rfl fcJ rfl⟩
 obtain rfl:i=s:=by have hc:¬(i:Int)<s:=hc;omega
 refine gB ?_;refine Ret.i (.tup [.sl 1001 0 0 i i,.tt]) [(1001,.mem true 0 [(i,.a8 (aDF x.toNat i))])] [(1001,(26,0,none))] rfl ?_ ⟨rfl,rfl⟩ rfl ?_ rfl ?_ rfl
 .exact fc
 .exact fc
 repeat' first|exact trivial|refine zA.app ?_ ?_|refine zA.zd ?_ ?_|refine zA.cons ?_ ?_|exact fc|fail
 all_goals exact hall.symm
end Go.Proofs.YtaehfiohjkiajaaGreat
