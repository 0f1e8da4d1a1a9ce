/- Walks. -/
import Derived.Test.YtllmefnbacjjcaaGreatHwCu6ToCu10
import Derived.Test.YtllmefnbacjjcaaGreatHwTabToCu5
set_option linter.unusedSimpArgs false
set_option linter.unusedVariables false
set_option maxHeartbeats 4000000
open UInt64 (ofNat toNat_add)
open List (replicate getD_eq_getElem?_getD length_set)
open Nat (mod_lt lt_trans zero_le pow_mul)
set_option maxRecDepth 100000
namespace Go.Cu
open Go Go.Sx
theorem io {x y:UInt64} {k:Nat} (z:Nat) (hy:y.toNat=z*2^k) (hx:x.toNat<2^k):(x|||y).toNat=x.toNat+y.toNat:=by
 rw[UInt64.toNat_or,Nat.or_comm,hy,Nat.mul_comm,Nat.add_comm,Nat.two_pow_add_eq_or_of_lt hx]
theorem cj (x:UInt64) {k:Nat} (hk:k<=64):(aQ x k).toNat=x.toNat%2^(64-k)*2^k:=by
 rw[wq,show(18446744073709551616:Nat)=2^(64-k)*2^k by rw[<-Nat.pow_add,Nat.sub_add_cancel hk],Nat.mul_mod_mul_right]
theorem aW7 {x0 x1 x2 x3 x4 q1 q2 q3 q4 q5:Nat} (h1:q1=(x0+19)/2251799813685248) (h2:q2=(x1+q1)/2251799813685248) (h3:q3=(x2+q2)/2251799813685248) (h4:q4=(x3+q3)/2251799813685248) (h5:q5=(x4+q4)/2251799813685248):
  q5*57896044618658097711785492504343953926634992332820282019728792003956564819968<=x0+x1*2251799813685248+x2*5070602400912917605986812821504+x3*11417981541647679048466287755595961091061972992+x4*25711008708143844408671393477458601640355247900524685364822016+19
  /\x0+x1*2251799813685248+x2*5070602400912917605986812821504+x3*11417981541647679048466287755595961091061972992+x4*25711008708143844408671393477458601640355247900524685364822016+19<(q5+1)*57896044618658097711785492504343953926634992332820282019728792003956564819968:=by omega
theorem aXL {x0 x1 x2 x3 x4 y1 y2 y3 y4:Nat} (h1:y1=x1+x0/2251799813685248) (h2:y2=x2+y1/2251799813685248) (h3:y3=x3+y2/2251799813685248) (h4:y4=x4+y3/2251799813685248):
  x0%2251799813685248+y1%2251799813685248*2251799813685248+y2%2251799813685248*5070602400912917605986812821504+y3%2251799813685248*11417981541647679048466287755595961091061972992+y4%2251799813685248*25711008708143844408671393477458601640355247900524685364822016
   =(x0+x1*2251799813685248+x2*5070602400912917605986812821504+x3*11417981541647679048466287755595961091061972992+x4*25711008708143844408671393477458601640355247900524685364822016)%57896044618658097711785492504343953926634992332820282019728792003956564819968:=by omega
theorem aWN {v q:Nat} (hv:v<86844066927987146567678238756515930889952488499230423029593188005934847229952) (h1:q*57896044618658097711785492504343953926634992332820282019728792003956564819968<=v+19) (h2:v+19<(q+1)*57896044618658097711785492504343953926634992332820282019728792003956564819968):
  (v+19*q)%57896044618658097711785492504343953926634992332820282019728792003956564819968=v%57896044618658097711785492504343953926634992332820282019728792003956564819949/\q<=1:=by
 have hq:q<=1:=by omega
 refine⟨?_,hq⟩
 rcases(by omega:q=0\/q=1)with rfl|rfl<;>omega
def L51 (l:List UInt64):Prop:=(l.getD 0 0).toNat<2251799813685248/\(l.getD 1 0).toNat<2251799813685248/\(l.getD 2 0).toNat<2251799813685248/\(l.getD 3 0).toNat<2251799813685248/\(l.getD 4 0).toNat<2251799813685248
theorem aUI {x0 x1 x2 x3 x4:UInt64}:frL [x0,x1,x2,x3,x4]=[x0+ofNat 19*qS [x0,x1,x2,x3,x4] 5,x1,x2,x3,x4]:=rfl
theorem aP6 {x0 x1 x2 x3 x4:UInt64} {y1 y2 y3 y4:UInt64} (h1:y1=x1+aF x0 51) (h2:y2=x2+aF y1 51) (h3:y3=x3+aF y2 51) (h4:y4=x4+aF y3 51):
  (nmS [x0,x1,x2,x3,x4] 4).set 4 ((nmS [x0,x1,x2,x3,x4] 4).getD 4 0&&&ofNat 2251799813685247)
   =[x0&&&ofNat 2251799813685247,y1&&&ofNat 2251799813685247,y2&&&ofNat 2251799813685247,y3&&&ofNat 2251799813685247,y4&&&ofNat 2251799813685247]:=by
 have s1:nmS [x0,x1,x2,x3,x4] 1=[x0&&&ofNat 2251799813685247,y1,x2,x3,x4]:=by rw[h1];rfl
 have s2:nmS [x0,x1,x2,x3,x4] 2=[x0&&&ofNat 2251799813685247,y1&&&ofNat 2251799813685247,y2,x3,x4]:=by
  rw[h2];show List.set (List.set (nmS [x0,x1,x2,x3,x4] 1) 2 _) 1 _=_;rw[s1];rfl
 have s3:nmS [x0,x1,x2,x3,x4] 3=[x0&&&ofNat 2251799813685247,y1&&&ofNat 2251799813685247,y2&&&ofNat 2251799813685247,y3,x4]:=by
  rw[h3];show List.set (List.set (nmS [x0,x1,x2,x3,x4] 2) 3 _) 2 _=_;rw[s2];rfl
 have s4:nmS [x0,x1,x2,x3,x4] 4=[x0&&&ofNat 2251799813685247,y1&&&ofNat 2251799813685247,y2&&&ofNat 2251799813685247,y3&&&ofNat 2251799813685247,y4]:=by
  rw[h4];show List.set (List.set (nmS [x0,x1,x2,x3,x4] 3) 4 _) 3 _=_;rw[s3];rfl
 rw[s4];rfl
theorem aRE {l:List UInt64} (h:l.length=5):∃x0 x1 x2 x3 x4,l=[x0,x1,x2,x3,x4]:=by
 match l,h with
 |[x0,x1,x2,x3,x4],_=>exact⟨x0,x1,x2,x3,x4,rfl⟩
theorem aML (l:List UInt64):((ci (ci l)).getD 0 0).toNat<=2251799813685266/\((ci (ci l)).getD 1 0).toNat<=2251799813685248/\((ci (ci l)).getD 2 0).toNat<=2251799813685248/\((ci (ci l)).getD 3 0).toNat<=2251799813685248/\((ci (ci l)).getD 4 0).toNat<=2251799813685248:=by
 obtain⟨e0,e1,e2,e3,e4⟩:=yF (ci l)
 obtain⟨_,h0,h1,h2,h3,h4⟩:=jC l
 rw[e0,e1,e2,e3,e4]
 clear e0 e1 e2 e3 e4
 refine⟨?_,?_,?_,?_,?_⟩<;>omega
theorem aP5 (l:List UInt64):nv5 (nmL (ci (ci l)))=(fv l).val/\L51 (nmL (ci (ci l))):=by
 have hb:=aML l
 have hf:fv (ci (ci l))=fv l:=by rw[qT,qT]
 obtain⟨x0,x1,x2,x3,x4,hx⟩:=aRE (jC (ci l)).1
 rw[hx]at hb hf⊢
 obtain⟨b0,b1,b2,b3,b4⟩:=hb
 have b0:x0.toNat<=2251799813685266:=b0
 have b1:x1.toNat<=2251799813685248:=b1
 have b2:x2.toNat<=2251799813685248:=b2
 have b3:x3.toNat<=2251799813685248:=b3
 have b4:x4.toNat<=2251799813685248:=b4
 obtain⟨q1,hq1⟩:∃q,q=aF (x0+ofNat 19) 51:=⟨_,rfl⟩
 obtain⟨q2,hq2⟩:∃q,q=aF (x1+q1) 51:=⟨_,rfl⟩
 obtain⟨q3,hq3⟩:∃q,q=aF (x2+q2) 51:=⟨_,rfl⟩
 obtain⟨q4,hq4⟩:∃q,q=aF (x3+q3) 51:=⟨_,rfl⟩
 obtain⟨q5,hq5⟩:∃q,q=aF (x4+q4) 51:=⟨_,rfl⟩
 have hq:qS [x0,x1,x2,x3,x4] 5=q5:=by rw[hq5,hq4,hq3,hq2,hq1];rfl
 have v1:q1.toNat=(x0.toNat+19)/2251799813685248:=by rw[hq1,jd,toNat_add,show(ofNat 19).toNat=19 from rfl];congr 1;omega
 have v2:q2.toNat=(x1.toNat+q1.toNat)/2251799813685248:=by rw[hq2,jd,toNat_add];congr 1;omega
 have v3:q3.toNat=(x2.toNat+q2.toNat)/2251799813685248:=by rw[hq3,jd,toNat_add];congr 1;omega
 have v4:q4.toNat=(x3.toNat+q3.toNat)/2251799813685248:=by rw[hq4,jd,toNat_add];congr 1;omega
 have v5:q5.toNat=(x4.toNat+q4.toNat)/2251799813685248:=by rw[hq5,jd,toNat_add];congr 1;omega
 obtain⟨k1,k2⟩:=aW7 v1 v2 v3 v4 v5
 clear v1 v2 v3 v4 v5 hq1 hq2 hq3 hq4 hq5
 have hv:nv5 [x0,x1,x2,x3,x4]=x0.toNat+x1.toNat*2251799813685248+x2.toNat*5070602400912917605986812821504+x3.toNat*11417981541647679048466287755595961091061972992+x4.toNat*25711008708143844408671393477458601640355247900524685364822016:=rfl
 have hlt:nv5 [x0,x1,x2,x3,x4]<86844066927987146567678238756515930889952488499230423029593188005934847229952:=by rw[hv];omega
 obtain⟨m1,m2⟩:=aWN hlt (hv▸k1) (hv▸k2)
 clear k1 k2
 unfold nmL
 rw[aUI,hq]
 obtain⟨z0,hz0⟩:∃z,z=x0+ofNat 19*q5:=⟨_,rfl⟩
 rw[<-hz0]
 have w0:z0.toNat=x0.toNat+19*q5.toNat:=by
  clear m1 hlt hv hf hx hq
  rw[hz0,toNat_add,UInt64.toNat_mul,show(ofNat 19).toNat=19 from rfl];omega
 obtain⟨y1,hy1⟩:∃y,y=x1+aF z0 51:=⟨_,rfl⟩
 obtain⟨y2,hy2⟩:∃y,y=x2+aF y1 51:=⟨_,rfl⟩
 obtain⟨y3,hy3⟩:∃y,y=x3+aF y2 51:=⟨_,rfl⟩
 obtain⟨y4,hy4⟩:∃y,y=x4+aF y3 51:=⟨_,rfl⟩
 rw[aP6 hy1 hy2 hy3 hy4]
 have w1:y1.toNat=x1.toNat+z0.toNat/2251799813685248:=by clear m1 hlt hv hf hx hq hz0;rw[hy1,toNat_add,jd];omega
 have w2:y2.toNat=x2.toNat+y1.toNat/2251799813685248:=by clear m1 hlt hv hf hx hq hz0;rw[hy2,toNat_add,jd];omega
 have w3:y3.toNat=x3.toNat+y2.toNat/2251799813685248:=by clear m1 hlt hv hf hx hq hz0;rw[hy3,toNat_add,jd];omega
 have w4:y4.toNat=x4.toNat+y3.toNat/2251799813685248:=by clear m1 hlt hv hf hx hq hz0;rw[hy4,toNat_add,jd];omega
 have hn:=aXL w1 w2 w3 w4
 rw[w0]at hn
 have hs:x0.toNat+19*q5.toNat+x1.toNat*2251799813685248+x2.toNat*5070602400912917605986812821504+x3.toNat*11417981541647679048466287755595961091061972992+x4.toNat*25711008708143844408671393477458601640355247900524685364822016=nv5 [x0,x1,x2,x3,x4]+19*q5.toNat:=by rw[hv];clear m1 hlt hv hf hx hq hz0 hn w0 w1 w2 w3 w4;omega
 rw[hs,m1]at hn
 refine⟨?_,?_⟩
 ·show(z0&&&ofNat 2251799813685247).toNat+(y1&&&ofNat 2251799813685247).toNat*_+(y2&&&ofNat 2251799813685247).toNat*_+(y3&&&ofNat 2251799813685247).toNat*_+(y4&&&ofNat 2251799813685247).toNat*_=_
  rw[gI,gI,gI,gI,gI,w0,hn,<-hf]
  rfl
 refine⟨?_,?_,?_,?_,?_⟩
 ·show(z0&&&ofNat 2251799813685247).toNat<_;rw[gI];exact mod_lt _ (by decide)
 ·show(y1&&&ofNat 2251799813685247).toNat<_;rw[gI];exact mod_lt _ (by decide)
 ·show(y2&&&ofNat 2251799813685247).toNat<_;rw[gI];exact mod_lt _ (by decide)
 ·show(y3&&&ofNat 2251799813685247).toNat<_;rw[gI];exact mod_lt _ (by decide)
 show(y4&&&ofNat 2251799813685247).toNat<_;rw[gI];exact mod_lt _ (by decide)
theorem aSQ {n0 n1 n2 n3 n4:Nat} (h0:n0<2251799813685248):n0+n1%2^(64-51)*2^51=(n0+n1*2251799813685248+n2*5070602400912917605986812821504+n3*11417981541647679048466287755595961091061972992+n4*25711008708143844408671393477458601640355247900524685364822016)%18446744073709551616:=by omega
theorem aSP {n0 n1 n2 n3 n4:Nat} (h0:n0<2251799813685248) (h1:n1<2251799813685248):n1/2^13+n2%2^(64-38)*2^38=(n0+n1*2251799813685248+n2*5070602400912917605986812821504+n3*11417981541647679048466287755595961091061972992+n4*25711008708143844408671393477458601640355247900524685364822016)/18446744073709551616%18446744073709551616:=by omega
theorem aSO {n0 n1 n2 n3 n4:Nat} (h0:n0<2251799813685248) (h1:n1<2251799813685248) (h2:n2<2251799813685248):n2/2^26+n3%2^(64-25)*2^25=(n0+n1*2251799813685248+n2*5070602400912917605986812821504+n3*11417981541647679048466287755595961091061972992+n4*25711008708143844408671393477458601640355247900524685364822016)/340282366920938463463374607431768211456%18446744073709551616:=by omega
theorem aSN {n0 n1 n2 n3 n4:Nat} (h0:n0<2251799813685248) (h1:n1<2251799813685248) (h2:n2<2251799813685248) (h3:n3<2251799813685248):n3/2^39+n4%2^(64-12)*2^12=(n0+n1*2251799813685248+n2*5070602400912917605986812821504+n3*11417981541647679048466287755595961091061972992+n4*25711008708143844408671393477458601640355247900524685364822016)/6277101735386680763835789423207666416102355444464034512896%18446744073709551616:=by omega
theorem aOW {l:List UInt64} (h:L51 l):∀j,j<4->((wdL l).getD j 0).toNat=nv5 l/18446744073709551616^j%18446744073709551616:=by
 obtain⟨h0,h1,h2,h3,h4⟩:=h
 intro j hj
 have:j=0\/j=1\/j=2\/j=3:=by omega
 unfold nv5
 rcases this with rfl|rfl|rfl|rfl
 ·show(l.getD 0 0|||aQ (l.getD 1 0) 51).toNat=_/1%_
  rw[io _ (cj _ (by omega)) h0,cj _ (by omega),Nat.div_one]
  exact aSQ h0
 ·show(aF (l.getD 1 0) 13|||aQ (l.getD 2 0) 38).toNat=_/18446744073709551616%_
  have hs:(aF (l.getD 1 0) 13).toNat<2^38:=by rw[bt];exact Nat.div_lt_of_lt_mul h1
  rw[io _ (cj _ (by omega)) hs,cj _ (by omega),bt]
  exact aSP h0 h1
 ·show(aF (l.getD 2 0) 26|||aQ (l.getD 3 0) 25).toNat=_/340282366920938463463374607431768211456%_
  have hs:(aF (l.getD 2 0) 26).toNat<2^25:=by rw[bt];exact Nat.div_lt_of_lt_mul h2
  rw[io _ (cj _ (by omega)) hs,cj _ (by omega),bt]
  exact aSO h0 h1 h2
 show(aF (l.getD 3 0) 39|||aQ (l.getD 4 0) 12).toNat=_/6277101735386680763835789423207666416102355444464034512896%_
 have hs:(aF (l.getD 3 0) 39).toNat<2^12:=by rw[bt];exact Nat.div_lt_of_lt_mul h3
 rw[io _ (cj _ (by omega)) hs,cj _ (by omega),bt]
 exact aSN h0 h1 h2 h3
theorem aRS (l:List UInt64):aWL l=leB (fv l):=by
 obtain⟨h1,h2⟩:=aP5 l
 unfold aWL leB
 rw[<-h1]
 exact aRT (aOW h2)
def owS (b:List UInt8):Nat->List UInt64
 |0=>replicate 4 0
 |i+1=>(owS b i).set (i/8) ((owS b i).getD (i/8) 0|||aQ (b.getD i 0).toUInt64 (i%8*8))
theorem owS_length (b:List UInt8):∀i,(owS b i).length=4
 |0=>rfl
 |i+1=>by show((owS b i).set _ _).length=4;rw[length_set];exact owS_length b i
def ofW (w:List UInt64):List UInt64:=
 [w.getD 0 0&&&ofNat 2251799813685247,(aF (w.getD 0 0) 51|||aQ (w.getD 1 0) 13)&&&ofNat 2251799813685247,(aF (w.getD 1 0) 38|||aQ (w.getD 2 0) 26)&&&ofNat 2251799813685247,
  (aF (w.getD 2 0) 25|||aQ (w.getD 3 0) 39)&&&ofNat 2251799813685247,aF (w.getD 3 0) 12&&&ofNat 2251799813685247]
def ofL (b:List UInt8):List UInt64:=ofW (owS b 32)
theorem uy:∀(b:List UInt8) (i:Nat),lv b/256^i%256=(b.getD i 0).toNat
 |[],i=>by show 0/_%256=0;rw[Nat.zero_div]
 |x::r,0=>by
  have:=x.toNat_lt
  show(x.toNat+256*lv r)/1%256=x.toNat;omega
 |x::r,i+1=>by
  have:=x.toNat_lt
  show(x.toNat+256*lv r)/256^(i+1)%256=(r.getD i 0).toNat
  rw[Nat.pow_succ',<-Nat.div_div_eq_div_mul,show(x.toNat+256*lv r)/256=lv r by omega]
  exact uy r i
theorem aGL:∀b:List UInt8,lv b<256^b.length
 |[]=>by decide
 |x::r=>by
  have:=x.toNat_lt
  have h:=aGL r
  show x.toNat+256*lv r<256^(r.length+1)
  rw[Nat.pow_succ'];omega
theorem pP (b:List UInt8):∀i,i<=32->∀j,j<4->((owS b i).getD j 0).toNat=lv b/18446744073709551616^j%256^(min 8 (i-8*j))
 |0,_,j,hj=>by
  rw[Nat.zero_sub,Nat.min_eq_right (by omega),Nat.pow_zero,Nat.mod_one]
  have:j=0\/j=1\/j=2\/j=3:=by omega
  rcases this with rfl|rfl|rfl|rfl<;>rfl
 |i+1,hi,j,hj=>by
  have ih:=pP b i (by omega)
  show(((owS b i).set (i/8) _).getD j 0).toNat=_
  by_cases h:i/8=j
  ·subst h
   rw[getD_eq_getElem?_getD,List.getElem?_set_self (by rw[owS_length];omega)]
   show((owS b i).getD (i/8) 0|||aQ (b.getD i 0).toUInt64 (i%8*8)).toNat=_
   have e:=ih (i/8) hj
   have hm:i-8*(i/8)=i%8:=by omega
   rw[hm,Nat.min_eq_right (by omega)]at e
   rw[show i+1-8*(i/8)=i%8+1 by omega,Nat.min_eq_right (by omega)]
   have hp:(256:Nat)^(i%8)=2^(i%8*8):=by rw[show(256:Nat)=2^8 from rfl,<-pow_mul,Nat.mul_comm]
   have hlt:((owS b i).getD (i/8) 0).toNat<2^(i%8*8):=by rw[e,hp];exact mod_lt _ (Nat.two_pow_pos _)
   have hb:=(b.getD i 0).toNat_lt
   have hsm:(aQ (b.getD i 0).toUInt64 (i%8*8)).toNat=(b.getD i 0).toNat*2^(i%8*8):=by
    rw[wq,UInt8.toNat_toUInt64]
    apply Nat.mod_eq_of_lt
    have h8:i%8<8:=mod_lt _ (by omega)
    have:(2:Nat)^(i%8*8)<=2^56:=Nat.pow_le_pow_right (by omega) (by omega)
    have:=Nat.mul_le_mul (show(b.getD i 0).toNat<=255 by omega) this
    have:(255*2^56:Nat)<18446744073709551616:=by decide
    omega
   rw[io _ hsm hlt,hsm,e,<-uy b i,Nat.pow_succ,Nat.mod_mul]
   congr 1
   rw[hp,Nat.mul_comm]
   congr 2
   have e256:(256:Nat)^i=18446744073709551616^(i/8)*2^(i%8*8):=by
    rw[show(256:Nat)=2^8 from rfl,show(18446744073709551616:Nat)=2^64 from rfl,<-pow_mul,<-pow_mul,<-Nat.pow_add]
    congr 1;omega
   rw[e256,Nat.div_div_eq_div_mul]
  rw[getD_eq_getElem?_getD,List.getElem?_set_ne (by omega),<-getD_eq_getElem?_getD,ih j hj]
  congr 2
  by_cases h2:i/8<j
  ·rw[show i-8*j=0 by omega,show i+1-8*j=0 by omega]
  rw[Nat.min_eq_left (by omega),Nat.min_eq_left (by omega)]
theorem aTP {V:Nat}:((V%18446744073709551616)/2^51+V/18446744073709551616%18446744073709551616%2^(64-13)*2^13)%2251799813685248=V/2251799813685248%2251799813685248:=by omega
theorem aTO {V:Nat}:((V/18446744073709551616%18446744073709551616)/2^38+V/340282366920938463463374607431768211456%18446744073709551616%2^(64-26)*2^26)%2251799813685248=V/5070602400912917605986812821504%2251799813685248:=by omega
theorem aTN {V:Nat}:((V/340282366920938463463374607431768211456%18446744073709551616)/2^25+V/6277101735386680763835789423207666416102355444464034512896%18446744073709551616%2^(64-39)*2^39)%2251799813685248=V/11417981541647679048466287755595961091061972992%2251799813685248:=by omega
theorem aTM {V:Nat}:(V/6277101735386680763835789423207666416102355444464034512896%18446744073709551616)/2^12%2251799813685248=V/25711008708143844408671393477458601640355247900524685364822016%2251799813685248:=by omega
theorem aXE {V:Nat}:V%2251799813685248+V/2251799813685248%2251799813685248*2251799813685248+V/5070602400912917605986812821504%2251799813685248*5070602400912917605986812821504+V/11417981541647679048466287755595961091061972992%2251799813685248*11417981541647679048466287755595961091061972992+V/25711008708143844408671393477458601640355247900524685364822016%2251799813685248*25711008708143844408671393477458601640355247900524685364822016=V%57896044618658097711785492504343953926634992332820282019728792003956564819968:=by omega
theorem pQ (b:List UInt8):nv5 (ofL b)=lv b%57896044618658097711785492504343953926634992332820282019728792003956564819968/\Lb (ofL b):=by
 have w0:((owS b 32).getD 0 0).toNat=lv b%18446744073709551616:=by have:=pP b 32 (by omega) 0 (by omega);rw[Nat.pow_zero,Nat.div_one]at this;exact this
 have w1:((owS b 32).getD 1 0).toNat=lv b/18446744073709551616%18446744073709551616:=pP b 32 (by omega) 1 (by omega)
 have w2:((owS b 32).getD 2 0).toNat=lv b/340282366920938463463374607431768211456%18446744073709551616:=pP b 32 (by omega) 2 (by omega)
 have w3:((owS b 32).getD 3 0).toNat=lv b/6277101735386680763835789423207666416102355444464034512896%18446744073709551616:=pP b 32 (by omega) 3 (by omega)
 have t0:=((owS b 32).getD 0 0).toNat_lt
 have t1:=((owS b 32).getD 1 0).toNat_lt
 have t2:=((owS b 32).getD 2 0).toNat_lt
 have t3:=((owS b 32).getD 3 0).toNat_lt
 have g0:((ofL b).getD 0 0).toNat=lv b%2251799813685248:=by
  show((owS b 32).getD 0 0&&&ofNat 2251799813685247).toNat=_
  rw[gI,w0];clear w1 w2 w3 t0 t1 t2 t3;omega
 have g1:((ofL b).getD 1 0).toNat=lv b/2251799813685248%2251799813685248:=by
  show((aF ((owS b 32).getD 0 0) 51|||aQ ((owS b 32).getD 1 0) 13)&&&ofNat 2251799813685247).toNat=_
  have hs:(aF ((owS b 32).getD 0 0) 51).toNat<2^13:=by rw[bt];exact Nat.div_lt_of_lt_mul t0
  rw[gI,io _ (cj _ (by omega)) hs,cj _ (by omega),bt,w0,w1]
  exact aTP
 have g2:((ofL b).getD 2 0).toNat=lv b/5070602400912917605986812821504%2251799813685248:=by
  show((aF ((owS b 32).getD 1 0) 38|||aQ ((owS b 32).getD 2 0) 26)&&&ofNat 2251799813685247).toNat=_
  have hs:(aF ((owS b 32).getD 1 0) 38).toNat<2^26:=by rw[bt];exact Nat.div_lt_of_lt_mul t1
  rw[gI,io _ (cj _ (by omega)) hs,cj _ (by omega),bt,w1,w2]
  exact aTO
 have g3:((ofL b).getD 3 0).toNat=lv b/11417981541647679048466287755595961091061972992%2251799813685248:=by
  show((aF ((owS b 32).getD 2 0) 25|||aQ ((owS b 32).getD 3 0) 39)&&&ofNat 2251799813685247).toNat=_
  have hs:(aF ((owS b 32).getD 2 0) 25).toNat<2^39:=by rw[bt];exact Nat.div_lt_of_lt_mul t2
  rw[gI,io _ (cj _ (by omega)) hs,cj _ (by omega),bt,w2,w3]
  exact aTN
 have g4:((ofL b).getD 4 0).toNat=lv b/25711008708143844408671393477458601640355247900524685364822016%2251799813685248:=by
  show(aF ((owS b 32).getD 3 0) 12&&&ofNat 2251799813685247).toNat=_
  rw[gI,bt,w3]
  exact aTM
 refine⟨?_,rfl,?_,?_,?_,?_,?_⟩
 ·unfold nv5
  rw[g0,g1,g2,g3,g4]
  exact aXE
 ·rw[g0];exact lt_trans (mod_lt _ (by decide)) (by decide)
 ·rw[g1];exact lt_trans (mod_lt _ (by decide)) (by decide)
 ·rw[g2];exact lt_trans (mod_lt _ (by decide)) (by decide)
 ·rw[g3];exact lt_trans (mod_lt _ (by decide)) (by decide)
 rw[g4];exact lt_trans (mod_lt _ (by decide)) (by decide)
def ofF (b:List UInt8):F:=fn (lv b%57896044618658097711785492504343953926634992332820282019728792003956564819968)
theorem aTL (b:List UInt8):fv (ofL b)=ofF b:=by unfold fv ofF;rw[(pQ b).1]
theorem aP1 (x:F):ofF (leB x)=x:=by
 unfold ofF
 rw[ux,Nat.mod_eq_of_lt (lt_trans x.isLt (by decide)),qI]
end Go.Cu
namespace Go.Cu
open Go Go.Sx
structure LL where
 ax:List UInt64
 az:List UInt64
 bx:List UInt64
 bz:List UInt64
def LL.B (s:LL):Prop:=Lb s.ax/\Lb s.az/\Lb s.bx/\Lb s.bz
def LL.f (s:LL):LS:=⟨fv s.ax,fv s.az,fv s.bx,fv s.bz⟩
def LL.swap (s:LL):LL:=⟨s.bx,s.bz,s.ax,s.az⟩
def aVP (c:List UInt8) (i:Nat):UInt8:=mD (c.getD (i/8) 0) (i%8)&&&UInt8.ofNat 1
theorem tf (c:List UInt8) (i:Nat):(aVP c i).toNat=lv c/2^i%2:=by
 unfold aVP mD
 have h1:(UInt8.ofNat ((c.getD (i/8) 0).toNat>>>(i%8))).toNat=(c.getD (i/8) 0).toNat/2^(i%8):=by
  have:=(c.getD (i/8) 0).toNat_lt
  have:=Nat.div_le_self (c.getD (i/8) 0).toNat (2^(i%8))
  rw[UInt8.toNat_ofNat',Nat.shiftRight_eq_div_pow,Nat.mod_eq_of_lt (by omega)]
 rw[UInt8.toNat_and,h1,show(UInt8.ofNat 1).toNat=2^1-1 from rfl,Nat.and_two_pow_sub_one_eq_mod,<-uy]
 have e:(2:Nat)^i=256^(i/8)*2^(i%8):=by
  rw[show(256:Nat)=2^8 from rfl,<-pow_mul,<-Nat.pow_add]
  congr 1;omega
 rw[e,<-Nat.div_div_eq_div_mul]
 generalize lv c/256^(i/8)=w
 have hm:i%8<8:=mod_lt _ (by omega)
 generalize i%8=m at hm
 have:m=0\/m=1\/m=2\/m=3\/m=4\/m=5\/m=6\/m=7:=by omega
 rcases this with rfl|rfl|rfl|rfl|rfl|rfl|rfl|rfl<;>(simp only[Nat.reducePow];omega)
def LL.turn (s:LL) (l b:UInt8):LL:=if b=l then s else s.swap
theorem aTH:Lb (ofL (UInt8.ofNat 1::replicate 31 0)):=(pQ _).2
theorem aTI:fv (ofL (UInt8.ofNat 1 :: replicate 31 0)) = 1:=by decide +kernel
theorem wM:Lb (replicate 5 (0:UInt64)):=⟨rfl,by decide,by decide,by decide,by decide,by decide⟩
theorem wO:fv (replicate 5 (0:UInt64)) = 0:=by decide +kernel
def clB (b:List UInt8):List UInt8:=(b.set 0 (b.getD 0 0&&&UInt8.ofNat 248)).set 31 (((b.set 0 (b.getD 0 0&&&UInt8.ofNat 248)).getD 31 0&&&UInt8.ofNat 127)|||UInt8.ofNat 64)
theorem aCN (b:List UInt8):(clB b).length=b.length:=by unfold clB;rw[length_set,length_set]
end Go.Cu
namespace Go.Proofs.YtllmefnbacjjcaaGreat
open Go Go.Sx Go.Cu
theorem aHM (l:List UInt64) (hl:l.length=5):Sx.Fn Γ.P 100 [.agg [(5,.a64 l)]] [] (λv _=>v= .agg [(5,.a64 (ci l))]):=by
 refine aG (Γ:=Γ) (fn:=Tryz.f100) rfl rfl rfl rfl ?_
 refine gB ?_
 refine Ret.i (.agg [(5,.a64 (ci l))]) [] [] rfl fc rfl rfl fc rfl fc rfl
theorem aYA (x y:UInt64):Sx.Fn Γ.P 69 [.u64 x,.u64 y] [] (λv _=>v= .tup [.u64 (Cu.muH x y),.u64 (x*y)]):=by
 refine aG (Γ:=Γ) (fn:=Tryz.f69) rfl rfl rfl rfl ?_
 refine gB ?_
 refine Ret.i (.tup [.u64 (Cu.muH x y),.u64 (x*y)]) [] [] rfl trivial rfl rfl ?_ rfl trivial rfl
 exact fc
theorem aMV (x y:UInt64):(oO x y (ofNat 0)).toNat<=1:=by
 have:=x.toNat_lt
 have:=y.toNat_lt
 unfold oO
 rw[UInt64.toNat_ofNat',show(ofNat 0).toNat=0 from rfl]
 omega
theorem aYX (w:W2) (x y:UInt64):Sx.Fn Γ.P 101 [.agg [(1,.u64 w.1),(1,.u64 w.2)],.u64 x,.u64 y] [] (λv _=>v= .agg [(1,.u64 (aI w x y).1),(1,.u64 (aI w x y).2)]):=by
 have hM:=aYA x y
 have z0:(ofNat 0).toNat<=1:=by decide
 have z1:=aMV w.2 (x*y)
 refine aG (Γ:=Γ) (fn:=Tryz.f101) rfl rfl rfl rfl ?_
 refine gB ?_
 refine Call.pure hM rfl fc ?_
 rintro _ rfl
 refine gB ?_
 refine Ret.i (.agg [(1,.u64 (aI w x y).1),(1,.u64 (aI w x y).2)]) [] [] rfl ?_ rfl rfl ?_ rfl ?_ rfl
 ·exact fc
 ·repeat' first|exact trivial|refine zA.app ?_ ?_|refine zA.zd ?_ ?_|refine zA.cons ?_ ?_|exact fc|fail
  all_goals first|exact(xT _ _ _).symm|exact(xS _ _ _).symm|exact xT _ _ _|exact xS _ _ _|trace_state
 exact fc
theorem aUS (a b:List UInt64) (ha:a.length=5) (hb:b.length=5):Sx.Fn Γ.P 75 [.agg [(5,.a64 a)],.agg [(5,.a64 b)]] [] (λv _=>v= .agg [(5,.a64 (wJ a b))]):=by
 have hC:=aHM (adS a b 5) (nK a b 5)
 refine aG (Γ:=Γ) (fn:=Tryz.f75) rfl rfl rfl rfl ?_
 refine gB ?_
 refine aY.i (σ:=Nat) (λi=>i<=5) (λi=>([(2,.ptr 2 0 none),(3,.ptr 3 0 none),(4,.ptr 4 0 none),(5,.ptr 5 0 none),(7,.i .i64 i)],
  [(2,.mem true 0 [(5,.a64 a)]),(3,.mem true 0 [(5,.a64 b)]),(4,.mem true 0 [(5,.a64 (replicate 5 0))]),(5,.mem true 0 [(5,.a64 (adS a b i))])])) (λi=>5-i) 0 (zero_le _) ?_ ?_
 ·refine Le.i [] rfl fc rfl fc rfl
 rintro i hi
 have hl:=nK a b i
 have hn:adS a b (i+1)=(adS a b i).set i (a.getD i 0+b.getD i 0):=rfl
 refine zB.i ?_ ?_<;>intro hc
 ·have hc:(i:Int)<5:=hc
  refine gB ?_
  refine aH.i [[],[],[],[1,2],[1,2,3],[],[],[5,6],[5,6,7],[1,2,3,4,5,6,7,8],[],fe,kX] jO (by kernel_rfl) ?_
  refine gC ?_
  refine⟨i+1,by omega,by omega,Le.i [] rfl fcn rfl fcn rfl⟩
 obtain rfl:i=5:=by have hc:¬(i:Int)<5:=hc;omega
 refine gB ?_
 refine Call.pure hC rfl fc ?_
 rintro _ rfl
 refine gB ?_
 refine Ret.i (.agg [(5,.a64 (wJ a b))]) [] [] rfl fc rfl rfl fc rfl fc rfl
theorem aSE (a b:List UInt64) (ha:a.length=5) (hb:b.length=5):Sx.Fn Γ.P 73 [.agg [(5,.a64 a)],.agg [(5,.a64 b)]] [] (λv _=>v= .agg [(5,.a64 (tj a b))]):=by
 have hC:=aHM (sbS a b 5) (bT a b 5)
 refine aG (Γ:=Γ) (fn:=Tryz.f73) rfl rfl rfl rfl ?_
 refine gB ?_
 refine aY.i (σ:=Nat) (λi=>i<=5) (λi=>([(2,.ptr 2 0 none),(3,.ptr 3 0 none),(4,.ptr 4 0 none),(5,.ptr 5 0 none),(9,.i .i64 i)],
  [(2,.mem true 0 [(5,.a64 a)]),(3,.mem true 0 [(5,.a64 b)]),(4,.mem true 0 [(5,.a64 (replicate 5 0))]),(5,.mem true 0 [(5,.a64 (sbS a b i))])])) (λi=>5-i) 0 (zero_le _) ?_ ?_
 ·refine Le.i [] rfl fc rfl fc rfl
 rintro i hi
 have hl:=bT a b i
 have hn:sbS a b (i+1)=(sbS a b i).set i ((sbS a b i).getD i 0+(a.getD i 0-b.getD i 0)):=rfl
 refine zB.i ?_ ?_<;>intro hc
 ·have hc:(i:Int)<5:=hc
  refine gB ?_
  refine aH.i [[],[],[0,1],[0,1,2],[],[],[4,5],[4,5,6],[],[],[8,9],[8,9,10],[4,5,6,7,8,9,10,11],jO,[],nw,na] wG (by kernel_rfl) ?_
  refine gC ?_
  refine⟨i+1,by omega,by omega,Le.i [] rfl fcn rfl fcn rfl⟩
 obtain rfl:i=5:=by have hc:¬(i:Int)<5:=hc;omega
 refine gB ?_
 refine Call.pure hC rfl fc ?_
 rintro _ rfl
 refine gB ?_
 refine Ret.i (.agg [(5,.a64 (tj a b))]) [] [] rfl fc rfl rfl fc rfl fc rfl
end Go.Proofs.YtllmefnbacjjcaaGreat
namespace Go.Proofs.YtllmefnbacjjcaaGreat
open Go Go.Sx Go.Cu
def wF (t:List W2) (q:Nat):List (Nat×SV):=[(1,.u64 (t.getD q (0,0)).1),(1,.u64 (t.getD q (0,0)).2)]
theorem aMY {U:List W2} {j:Nat} {w:W2} (hj:j<U.length) (q:Nat):wF (U.set j w) q=if q=j then[(1,.u64 w.1),(1,.u64 w.2)]else wF U q:=by
 unfold wF
 split
 ·rename_i h
  subst h
  rw[getD_eq_getElem?_getD,List.getElem?_set_self hj];rfl
 rename_i h
 rw[getD_eq_getElem?_getD,List.getElem?_set_ne (λe=>h e.symm),<-getD_eq_getElem?_getD]
theorem ru (a b:List UInt64) (ha:a.length=5) (hb:b.length=5):Sx.Fn Γ.P 67 [.agg [(5,.a64 a)],.agg [(5,.a64 b)]] [] (λv _=>v= .agg [(5,.a64 (cd a b))]):=by
 have hMore:=λw x y=>aYX w x y
 refine aG (Γ:=Γ) (fn:=Tryz.f67) rfl rfl rfl rfl ?_
 refine gB ?_
 refine aY.i (σ:=Nat) (λi=>i<=5) (λi=>([(2,.ptr 2 0 none),(3,.ptr 3 0 none),(4,.ptr 4 0 none),(5,.ptr 5 0 none),(17,.a64 a),(18,.i .i64 i)],
  [(2,.mem true 0 [(5,.a64 a)]),(3,.mem true 0 [(5,.a64 b)]),(4,.mem true 0 [(5,.a64 (replicate 5 0))]),(5,.mem true 0 [(10,.arr 5 2 (wF (muS a b i)))])])) (λi=>5-i) 0 (zero_le _) ?_ ?_
 ·refine Le.i [] rfl fc rfl fc rfl
 rintro i hi
 have hl:=rl a b i
 have hn:muS a b (i+1)=muR a b i (muS a b i) 5:=rfl
 refine zB.i ?_ ?_<;>intro hc
 ·have hc:(i:Int)<5:=hc
  obtain⟨T,hT⟩:∃t,muS a b i=t:=⟨_,rfl⟩
  rw[hT]at hl hn⊢
  refine gC ?_
  refine aY.i (σ:=Nat) (λk=>k<=5) (λk=>([(2,.ptr 2 0 none),(3,.ptr 3 0 none),(4,.ptr 4 0 none),(5,.ptr 5 0 none),(6,.i .i64 i),(7,.u64 (a.getD i 0)),(17,.a64 a),(18,.i .i64 i),(23,.a64 b),(24,.i .i64 k)],
   [(2,.mem true 0 [(5,.a64 a)]),(3,.mem true 0 [(5,.a64 b)]),(4,.mem true 0 [(5,.a64 (replicate 5 0))]),(5,.mem true 0 [(10,.arr 5 2 (wF (muR a b i T k)))])])) (λk=>5-k) 0 (zero_le _) ?_ ?_
  ·refine Le.i [] rfl fcn rfl fcn rfl
  rintro k hk
  have hlR:=mc (a:=a) (b:=b) (i:=i) (t:=T) k
  have hnR:muR a b i T (k+1)=muA a b i k (muR a b i T k):=rfl
  refine zB.i ?_ ?_<;>intro hc
  ·have hc:(k:Int)<5:=hc
   obtain⟨U,hU⟩:∃t,muR a b i T k=t:=⟨_,rfl⟩
   rw[hU]at hlR hnR⊢
   refine gC ?_
   refine zB.i ?_ ?_<;>intro h5
   ·have h5:(i:Int)+k≥5:=h5
    have e0:((i:Int)+k-5).toNat=i+k-5:=by omega
    have hA:muA a b i k U=U.set (i+k-5) (aI (U.getD (i+k-5) (0,0)) (a.getD i 0) (ofNat 19*b.getD k 0)):=if_pos (by omega)
    repeat refine sdH ?_
    refine Call.pure (hMore (U.getD (i+k-5) (0,0)) (a.getD i 0) (ofNat 19*b.getD k 0)) rfl fcH ?_
    rintro _ rfl
    repeat refine sdH ?_
    refine⟨k+1,by omega,by omega,Le.i [] rfl ?_ rfl ?_ rfl⟩
    ·exact fcn
    repeat' first|exact trivial|refine zA.app ?_ ?_|refine zA.zd ?_ ?_|refine zA.cons ?_ ?_|exact fcn|fail
    all_goals(intro q hq;rw[hnR,hA,aMY (by omega),<-e0];rfl)
   have h5:¬(i:Int)+k≥5:=h5
   have e0:((i:Int)+k).toNat=i+k:=by omega
   have hA:muA a b i k U=U.set (i+k) (aI (U.getD (i+k) (0,0)) (a.getD i 0) (b.getD k 0)):=if_neg (by omega)
   repeat refine sdH ?_
   refine Call.pure (hMore (U.getD (i+k) (0,0)) (a.getD i 0) (b.getD k 0)) rfl fcH ?_
   rintro _ rfl
   repeat refine sdH ?_
   refine⟨k+1,by omega,by omega,Le.i [] rfl ?_ rfl ?_ rfl⟩
   ·exact fcn
   repeat' first|exact trivial|refine zA.app ?_ ?_|refine zA.zd ?_ ?_|refine zA.cons ?_ ?_|exact fcn|fail
   all_goals(intro q hq;rw[hnR,hA,aMY (by omega),<-e0];rfl)
  obtain rfl:k=5:=by have hc:¬(k:Int)<5:=hc;omega
  refine gB ?_
  rw[<-hn]
  refine⟨i+1,by omega,by omega,Le.i [] rfl fcn rfl fcn rfl⟩
 obtain rfl:i=5:=by have hc:¬(i:Int)<5:=hc;omega
 have hE:cd a b=ci ((cyS (muS a b 5) 5).1.set 0 ((cyS (muS a b 5) 5).1.getD 0 0+(cyS (muS a b 5) 5).2*ofNat 19)):=rfl
 rw[hE]
 clear hn hE
 generalize muS a b 5=T at *
 have z0:(ofNat 0).toNat<=1:=by decide
 refine gB ?_
 refine aY.i (σ:=Nat) (λi=>i<=5) (λi=>([(4,.ptr 4 0 none),(5,.ptr 5 0 none),(10,.ptr 10 0 none),(11,.u64 (cyS T i).2),(61,.i .i64 i)],
  [(4,.mem true 0 [(5,.a64 (replicate 5 0))]),(5,.mem true 0 [(10,.arr 5 2 (wF T))]),(10,.mem true 0 [(5,.a64 (cyS T i).1)])])) (λi=>5-i) 0 (zero_le _) ?_ ?_
 ·have z1:(cyS T 0).1=replicate 5 0:=rfl
  have z2:(cyS T 0).2=ofNat 0:=rfl
  refine Le.i [] rfl fc rfl fc rfl
 rintro i hi
 have hlc:=r9 T i
 refine zB.i ?_ ?_<;>intro hc
 ·have hc:(i:Int)<5:=hc
  have hn1:(cyS T (i+1)).1=(cyS T i).1.set i (gF (T.getD i (0,0)).2 (cyS T i).2 0&&&ofNat 2251799813685247):=rfl
  have hn2:(cyS T (i+1)).2=aQ ((T.getD i (0,0)).1+oO (T.getD i (0,0)).2 (cyS T i).2 0) 13|||aF (gF (T.getD i (0,0)).2 (cyS T i).2 0) 51:=rfl
  generalize (cyS T i).1=X at *
  generalize (cyS T i).2=C at *
  refine gC ?_
  refine⟨i+1,by omega,by omega,Le.i [] rfl ?_ rfl ?_ rfl⟩
  ·repeat' first|exact trivial|refine zA.app ?_ ?_|refine zA.zd ?_ ?_|refine zA.cons ?_ ?_|exact fcn|fail
   all_goals trace_state
  repeat' first|exact trivial|refine zA.app ?_ ?_|refine zA.zd ?_ ?_|refine zA.cons ?_ ?_|exact fcn|fail
  all_goals trace_state
 obtain rfl:i=5:=by have hc:¬(i:Int)<5:=hc;omega
 generalize (cyS T 5).1=X at *
 generalize (cyS T 5).2=C at *
 have hC:=aHM (X.set 0 (X.getD 0 0+C*ofNat 19)) (by rw[length_set];exact hlc)
 have hlR:=(jC (X.set 0 (X.getD 0 0+C*ofNat 19))).1
 generalize ci (X.set 0 (X.getD 0 0+C*ofNat 19))=R at *
 refine gB ?_
 refine Call.pure hC rfl fc ?_
 rintro _ rfl
 refine gB ?_
 refine Ret.i (.agg [(5,.a64 R)]) [] [] rfl fc rfl rfl fc rfl fc rfl
end Go.Proofs.YtllmefnbacjjcaaGreat
namespace Go.Proofs.YtllmefnbacjjcaaGreat
open Go Go.Sx Go.Cu
theorem aKO {k i:Nat} (hk:1<=k):((((((k:Int)-1)/2^i).toNat&&&1:Nat):Int)=0\/10<(i:Int))↔aDG k i:=by
 have e:(((k:Int)-1)/2^i).toNat=(k-1)/2^i:=by
  have h1:((k:Int)-1)=((k-1:Nat):Int):=by omega
  have h2:((2:Int)^i)=((2^i:Nat):Int):=by rw[Int.natCast_pow];rfl
  rw[h1,h2,<-Int.natCast_ediv,zIn]
 rw[e,show(1:Nat)=2^1-1 from rfl,Nat.and_two_pow_sub_one_eq_mod]
 unfold aDG
 generalize (k-1)/2^i=w
 omega
theorem aYP (k i:Nat) (hk:1<=k) (hk2:k<=1000) (hi:i<=1000):Sx.Fn Γ.P 121 [.i .i64 i,.ptr 1000 0 none] [(1000,.mem true 0 [(1,.i .i64 k)])]
  (λv M=>v= .bool (aDG k i)/\M=[(1000,.mem true 0 [(1,.i .i64 k)])]):=by
 have hb:=aKO (k:=k) (i:=i) hk
 have h0:0<=((k:Int)-1)/2^i:=Int.ediv_nonneg (by omega) (Int.pow_nonneg (by omega))
 have h1:((k:Int)-1)/2^i<=(k:Int)-1:=by
  have h2:((2:Int)^i)=((2^i:Nat):Int):=by rw[Int.natCast_pow];rfl
  have h1:((k:Int)-1)=((k-1:Nat):Int):=by omega
  have:=Nat.div_le_self (k-1) (2^i)
  rw[h1,h2,<-Int.natCast_ediv];omega
 refine aG (Γ:=Γ) (fn:=Tryz.f121) rfl rfl rfl rfl ?_
 refine gB ?_
 refine zB.i ?_ ?_<;>intro h
 ·refine gB ?_
  refine Ret.i (.bool (aDG k i)) [(1000,.mem true 0 [(1,.i .i64 k)])] [] rfl ?_ ⟨rfl,rfl⟩ rfl ?_ rfl ?_ rfl
  ·exact fc
  ·repeat' first|exact trivial|refine zA.app ?_ ?_|refine zA.zd ?_ ?_|refine zA.cons ?_ ?_|exact fc|fail
   all_goals(rw[zIn]at h;exact hb.1 (Or.inl h))
  exact fc
 refine gB ?_
 refine Ret.i (.bool (aDG k i)) [(1000,.mem true 0 [(1,.i .i64 k)])] [] rfl ?_ ⟨rfl,rfl⟩ rfl ?_ rfl ?_ rfl
 ·exact fc
 ·repeat' first|exact trivial|refine zA.app ?_ ?_|refine zA.zd ?_ ?_|refine zA.cons ?_ ?_|exact fc|fail
  all_goals(rw[zIn]at h;exact⟨λhp=>(hb.2 hp).resolve_left h,λh10=>hb.1 (Or.inr h10)⟩)
 exact fc
theorem aYB (a:List UInt64) (n k:Nat) (ha:a.length=5) (hn:n<=1000) (hk:1<=k) (hk2:k<=1000):Sx.Fn Γ.P 99 [.agg [(5,.a64 a)],.i .i64 n,.i .i64 k] []
  (λv _=>v= .agg [(5,.a64 (pwS a n k n))]):=by
 have hM:=λ(x y:List UInt64) (hx:x.length=5) (hy:y.length=5)=>ru x y hx hy
 have hml:=λx y=>(aP x y).1
 refine aG (Γ:=Γ) (fn:=Tryz.f99) rfl rfl rfl rfl ?_
 refine gB ?_
 refine aY.i (σ:=Nat) (λj=>j<=n) (λj=>([(3,.ptr 3 0 none),(5,.ptr 5 0 none),(6,.ptr 6 0 none),(7,.fn 121 [(5,0)]),(8,.ptr 8 0 none),(9,.i .i64 ((n:Int)-1-j))],
  [(3,.mem true 0 [(5,.a64 a)]),(5,.mem true 0 [(1,.i .i64 k)]),(6,.mem true 0 [(5,.a64 (replicate 5 0))]),(8,.mem true 0 [(5,.a64 (pwS a n k j))])])) (λj=>n-j) 0 (zero_le _) ?_ ?_
 ·refine Le.i [] rfl fc rfl fc rfl
 rintro j hj
 have hl:=(ui a n k j).1
 have hn1:pwS a n k (j+1)=if aDG k (n-1-j)then cd (cd (pwS a n k j) (pwS a n k j)) a else cd (pwS a n k j) (pwS a n k j):=rfl
 obtain⟨X,hX⟩:∃x,pwS a n k j=x:=⟨_,rfl⟩
 refine zB.i ?_ ?_<;>intro hc
 ·have hc:(n:Int)-1-j≥0:=hc
  rw[hX]at hl hn1⊢
  have hll:=hml X X
  refine gB ?_
  refine Call.pure (hM X X hl hl) rfl fc ?_
  rintro _ rfl
  refine gB ?_
  refine Call.i (aYP k (n-1-j) hk hk2 (by omega)) [(1000,(5,0,none))] rfl fc rfl fc rfl ?_
  rintro _ _ ⟨rfl,rfl⟩
  refine gB ?_
  refine zB.i ?_ ?_<;>intro hp
  ·have hp:aDG k (n-1-j):=hp
   rw[if_pos hp]at hn1
   refine gB ?_
   refine Call.pure (hM (cd X X) a hll ha) rfl fc ?_
   rintro _ rfl
   refine gB ?_
   refine⟨j+1,by omega,by omega,Le.i [] rfl fc rfl fc rfl⟩
  have hp:¬aDG k (n-1-j):=hp
  rw[if_neg hp]at hn1
  refine gB ?_
  refine⟨j+1,by omega,by omega,Le.i [] rfl fc rfl fc rfl⟩
 obtain rfl:j=n:=by have hc:¬(n:Int)-1-j≥0:=hc;omega
 rw[hX]
 rw[hX]at hl
 refine gB ?_
 refine Ret.i (.agg [(5,.a64 X)]) [] [] rfl fc rfl rfl fc rfl fc rfl
theorem aZ8 (a:List UInt64) (ha:a.length=5):Sx.Fn Γ.P 65 [.agg [(5,.a64 a)]] [] (λv _=>v= .agg [(5,.a64 (aN2 a))]):=by
 have hP:=aYB a 255 21 ha (by omega) (by omega) (by omega)
 have hl:=(xu a).1
 have e:aN2 a=pwS a 255 21 255:=rfl
 rw[<-e]at hP
 generalize aN2 a=X at hP hl
 refine aG (Γ:=Γ) (fn:=Tryz.f65) rfl rfl rfl rfl ?_
 refine gB ?_
 refine Call.pure hP rfl fc ?_
 rintro _ rfl
 refine gB ?_
 refine Ret.i (.agg [(5,.a64 X)]) [] [] rfl fc rfl rfl fc rfl fc rfl
end Go.Proofs.YtllmefnbacjjcaaGreat
