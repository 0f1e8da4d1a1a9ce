/- Walks. -/
import Derived.Test.YtllmefnbacjjcaaGreatHwTabToCu5
import Derived.Test.YtllmefnbacjjcaaGreatHx5
set_option linter.unusedSimpArgs false
set_option linter.unusedVariables false
open UInt64 (ofNat toNat_add toNat_ofNat' toNat_mul)
open List (length_set replicate)
open Nat (mod_eq_of_lt)
namespace Go.Cu
structure LS where
 ax:F
 az:F
 bx:F
 bz:F
def nr (u:F) (s:LS):LS:=
 let p:=s.ax+s.az;let m:=s.ax-s.az;let pp:=p*p;let mm:=m*m;let e:=pp-mm
 let da:=(s.bx-s.bz)*p;let cb:=(s.bx+s.bz)*m;let t:=da+cb;let d:=da-cb
 ⟨pp*mm,e*(pp+121665*e),t*t,u*(d*d)⟩
def LS.swap (s:LS):LS:=⟨s.bx,s.bz,s.ax,s.az⟩
def LS.turn (s:LS) (l b:Nat):LS:=if b=l then s else s.swap
def LI (s:LS) (l:Nat) (P:Pt) (m:Nat):Prop:=(l=0/\Lr s.ax s.az (P.mul m)/\Lr s.bx s.bz (P.mul (m+1)))\/(l=1/\Lr s.bx s.bz (P.mul m)/\Lr s.ax s.az (P.mul (m+1)))
theorem LI.step {s:LS} {l:Nat} {P:Pt} {m:Nat} (h:LI s l P m) {u:F} (hu:u*(1-P.y)=1+P.y) (u0:u≠0) {b:Nat} (hb:b=0\/b=1):LI (nr u (s.turn l b)) b P (2*m+b):=by
 have main0:∀t:LS,Lr t.ax t.az (P.mul m)->Lr t.bx t.bz (P.mul (m+1))->Lr (nr u t).ax (nr u t).az (P.mul (2*m))/\Lr (nr u t).bx (nr u t).bz (P.mul (2*m+1)):=by
  intro t h1 h2
  have a:=aNU h1 (p:=_) (m:=_) (pp:=_) (mm:=_) (e:=_) rfl rfl rfl rfl rfl
  rw[Pt.mul_dbl]at a
  have hD:((P.mul m).add (P.mul (m+1)).ng).y=P.y:=by
   show((P.mul m).add ((P.mul m).add P).ng).y=P.y
   rw[Pt.dif1];rfl
  have c:=aNT h1 h2 hD hu u0 (p:=_) (m:=_) (da:=_) (cb:=_) (s:=_) (d:=_) rfl rfl rfl rfl rfl rfl
  rw[<-Pt.mul_add,show m+(m+1)=2*m+1 by omega]at c
  exact⟨a,c⟩
 have main1:∀t:LS,Lr t.bx t.bz (P.mul m)->Lr t.ax t.az (P.mul (m+1))->Lr (nr u t).ax (nr u t).az (P.mul (2*m+1+1))/\Lr (nr u t).bx (nr u t).bz (P.mul (2*m+1)):=by
  intro t h1 h2
  have a:=aNU h2 (p:=_) (m:=_) (pp:=_) (mm:=_) (e:=_) rfl rfl rfl rfl rfl
  rw[Pt.mul_dbl]at a
  have hD:((P.mul (m+1)).add (P.mul m).ng).y=P.y:=by
   show(((P.mul m).add P).add (P.mul m).ng).y=P.y
   rw[Pt.dif2]
  have c:=aNT h2 h1 hD hu u0 (p:=_) (m:=_) (da:=_) (cb:=_) (s:=_) (d:=_) rfl rfl rfl rfl rfl rfl
  rw[<-Pt.mul_add,show m+1+m=2*m+1 by omega]at c
  exact⟨a,c⟩
 rcases hb with rfl|rfl
 ·have key:Lr (s.turn l 0).ax (s.turn l 0).az (P.mul m)/\Lr (s.turn l 0).bx (s.turn l 0).bz (P.mul (m+1)):=by
   rcases h with⟨rfl,h1,h2⟩|⟨rfl,h1,h2⟩
   ·exact⟨h1,h2⟩
   exact⟨h1,h2⟩
  have:=main0 _ key.1 key.2
  exact Or.inl ⟨rfl,this.1,this.2⟩
 have key:Lr (s.turn l 1).bx (s.turn l 1).bz (P.mul m)/\Lr (s.turn l 1).ax (s.turn l 1).az (P.mul (m+1)):=by
  rcases h with⟨rfl,h1,h2⟩|⟨rfl,h1,h2⟩
  ·exact⟨h1,h2⟩
  exact⟨h1,h2⟩
 have:=main1 _ key.1 key.2
 exact Or.inr ⟨rfl,this.2,this.1⟩
theorem aVY:∀n,Pt.O.mul n= .O
 |0=>rfl
 |n+1=>by show(Pt.O.mul n).add .O= .O;rw[aVY n,Pt.add_O]
def aEZ (u:F) (s:LS) (b:Nat):LS:=
 let p:=s.ax*s.bx-s.az*s.bz;let q:=s.ax*s.bz-s.az*s.bx
 if b=0 then
  ⟨(s.ax*s.ax-s.az*s.az)*(s.ax*s.ax-s.az*s.az),4*(s.ax*s.az)*(s.ax*s.ax+s.az*s.az+486662*(s.ax*s.az)),p*p,u*(q*q)⟩
 else
  ⟨p*p,u*(q*q),(s.bx*s.bx-s.bz*s.bz)*(s.bx*s.bx-s.bz*s.bz),4*(s.bx*s.bz)*(s.bx*s.bx+s.bz*s.bz+486662*(s.bx*s.bz))⟩
def LQ (s:LS) (l:Nat) (r:LS):Prop:=∃a b:F,a≠0/\b≠0/\
 ((l=0/\s=⟨a*r.ax,a*r.az,b*r.bx,b*r.bz⟩)\/(l=1/\s=⟨b*r.bx,b*r.bz,a*r.ax,a*r.az⟩))
theorem LQ.step {s r:LS} {l:Nat} (h:LQ s l r) (u:F) {b:Nat} (hb:b=0\/b=1):LQ (nr u (s.turn l b)) b (aEZ u r b):=by
 obtain⟨x,y,hx,hy,h⟩:=h
 obtain⟨ax,az,bx,bz⟩:=r
 rcases hb with rfl|rfl
 ·have e:s.turn l 0=⟨x*ax,x*az,y*bx,y*bz⟩:=by
   rcases h with⟨rfl,rfl⟩|⟨rfl,rfl⟩<;>rfl
  rw[e]
  refine⟨x*x*(x*x),4*(x*y*(x*y)),eX (eX hx hx) (eX hx hx),eX aHC (eX (eX hx hy) (eX hx hy)),Or.inl ⟨rfl,?_⟩⟩
  unfold nr aEZ
  simp only[if_pos,LS.mk.injEq]
  exact⟨gr,gr,gr,gr⟩
 have e:s.turn l 1=⟨y*bx,y*bz,x*ax,x*az⟩:=by
  rcases h with⟨rfl,rfl⟩|⟨rfl,rfl⟩<;>rfl
 rw[e]
 refine⟨4*(x*y*(x*y)),y*y*(y*y),eX aHC (eX (eX hx hy) (eX hx hy)),eX (eX hy hy) (eX hy hy),Or.inr ⟨rfl,?_⟩⟩
 unfold nr aEZ
 simp only[if_neg (show¬(1=0) by decide),LS.mk.injEq]
 exact⟨gr,gr,gr,gr⟩
theorem aFP:(1:F)≠0:=by decide
end Go.Cu
namespace Go.Cu
open Go Go.Sx
def fn (n:Nat):F:=Fin.ofNat aB n
theorem qH (n:Nat):(fn n).val=n%aB:=rfl
theorem aN3 {a b:Nat} (h:a%aB=b%aB):fn a=fn b:=Fin.ext h
theorem af (a b:Nat):fn (a+b)=fn a+fn b:=Fin.ext (by rw[aHU,qH,qH,qH,<-Nat.add_mod])
theorem lV (a b:Nat):fn (a*b)=fn a*fn b:=Fin.ext (by rw[aHT,qH,qH,qH,<-Nat.mul_mod])
theorem aZ0 (a k:Nat):fn (a+k*aB)=fn a:=aN3 (Nat.add_mul_mod_self_right _ _ _)
theorem qI (x:F):fn x.val=x:=Fin.ext (mod_eq_of_lt x.isLt)
def nv5 (l:List UInt64):Nat:=(l.getD 0 0).toNat+(l.getD 1 0).toNat*2251799813685248+(l.getD 2 0).toNat*5070602400912917605986812821504+(l.getD 3 0).toNat*11417981541647679048466287755595961091061972992+(l.getD 4 0).toNat*25711008708143844408671393477458601640355247900524685364822016
def fv (l:List UInt64):F:=fn (nv5 l)
def Lb (l:List UInt64):Prop:=l.length=5/\(l.getD 0 0).toNat<4503599627370496/\(l.getD 1 0).toNat<4503599627370496/\(l.getD 2 0).toNat<4503599627370496/\(l.getD 3 0).toNat<4503599627370496/\(l.getD 4 0).toNat<4503599627370496
theorem gI (x:UInt64):(x&&&ofNat 2251799813685247).toNat=x.toNat%2251799813685248:=by
 rw[UInt64.toNat_and,show(ofNat 2251799813685247).toNat=2^51-1 from rfl,Nat.and_two_pow_sub_one_eq_mod]
theorem bt (x:UInt64) (k:Nat):(aF x k).toNat=x.toNat/2^k:=by
 have:=x.toNat_lt
 have h:=Nat.div_le_self x.toNat (2^k)
 unfold aF
 rw[toNat_ofNat',Nat.shiftRight_eq_div_pow,mod_eq_of_lt (by omega)]
theorem wq (x:UInt64) (k:Nat):(aQ x k).toNat=x.toNat*2^k%18446744073709551616:=by
 unfold aQ
 rw[toNat_ofNat',Nat.shiftLeft_eq]
theorem jd (x:UInt64):(aF x 51).toNat=x.toNat/2251799813685248:=bt x 51
def ci (l:List UInt64):List UInt64:=
 [(l.getD 0 0&&&ofNat 2251799813685247)+aF (l.getD 4 0) 51*ofNat 19,(l.getD 1 0&&&ofNat 2251799813685247)+aF (l.getD 0 0) 51,(l.getD 2 0&&&ofNat 2251799813685247)+aF (l.getD 1 0) 51,
  (l.getD 3 0&&&ofNat 2251799813685247)+aF (l.getD 2 0) 51,(l.getD 4 0&&&ofNat 2251799813685247)+aF (l.getD 3 0) 51]
theorem yF (l:List UInt64):((ci l).getD 0 0).toNat=(l.getD 0 0).toNat%2251799813685248+(l.getD 4 0).toNat/2251799813685248*19
  /\((ci l).getD 1 0).toNat=(l.getD 1 0).toNat%2251799813685248+(l.getD 0 0).toNat/2251799813685248
  /\((ci l).getD 2 0).toNat=(l.getD 2 0).toNat%2251799813685248+(l.getD 1 0).toNat/2251799813685248
  /\((ci l).getD 3 0).toNat=(l.getD 3 0).toNat%2251799813685248+(l.getD 2 0).toNat/2251799813685248
  /\((ci l).getD 4 0).toNat=(l.getD 4 0).toNat%2251799813685248+(l.getD 3 0).toNat/2251799813685248:=by
 have h0:=(l.getD 0 0).toNat_lt
 have h1:=(l.getD 1 0).toNat_lt
 have h2:=(l.getD 2 0).toNat_lt
 have h3:=(l.getD 3 0).toNat_lt
 have h4:=(l.getD 4 0).toNat_lt
 have e19:(ofNat 19).toNat=19:=rfl
 refine⟨?_,?_,?_,?_,?_⟩
 ·show((l.getD 0 0&&&ofNat 2251799813685247)+aF (l.getD 4 0) 51*ofNat 19).toNat=_
  rw[toNat_add,toNat_mul,gI,jd,e19];omega
 ·show((l.getD 1 0&&&ofNat 2251799813685247)+aF (l.getD 0 0) 51).toNat=_
  rw[toNat_add,gI,jd];omega
 ·show((l.getD 2 0&&&ofNat 2251799813685247)+aF (l.getD 1 0) 51).toNat=_
  rw[toNat_add,gI,jd];omega
 ·show((l.getD 3 0&&&ofNat 2251799813685247)+aF (l.getD 2 0) 51).toNat=_
  rw[toNat_add,gI,jd];omega
 show((l.getD 4 0&&&ofNat 2251799813685247)+aF (l.getD 3 0) 51).toNat=_
 rw[toNat_add,gI,jd];omega
theorem jC (l:List UInt64):Lb (ci l):=by
 obtain⟨e0,e1,e2,e3,e4⟩:=yF l
 have h0:=(l.getD 0 0).toNat_lt
 have h1:=(l.getD 1 0).toNat_lt
 have h2:=(l.getD 2 0).toNat_lt
 have h3:=(l.getD 3 0).toNat_lt
 have h4:=(l.getD 4 0).toNat_lt
 refine⟨rfl,?_,?_,?_,?_,?_⟩
 ·rw[e0];omega
 ·rw[e1];omega
 ·rw[e2];omega
 ·rw[e3];omega
 rw[e4];omega
theorem aRR (l:List UInt64):nv5 l=nv5 (ci l)+(l.getD 4 0).toNat/2251799813685248*aB:=by
 obtain⟨e0,e1,e2,e3,e4⟩:=yF l
 unfold nv5
 rw[e0,e1,e2,e3,e4]
 unfold aB
 generalize (l.getD 0 0).toNat=x0
 generalize (l.getD 1 0).toNat=x1
 generalize (l.getD 2 0).toNat=x2
 generalize (l.getD 3 0).toNat=x3
 generalize (l.getD 4 0).toNat=x4
 omega
theorem qT (l:List UInt64):fv (ci l)=fv l:=by
 unfold fv
 rw[aRR l,aZ0]
def adS (a b:List UInt64):Nat->List UInt64
 |0=>replicate 5 0
 |i+1=>(adS a b i).set i (a.getD i 0+b.getD i 0)
theorem aVX (a b:List UInt64):adS a b 5=[a.getD 0 0+b.getD 0 0,a.getD 1 0+b.getD 1 0,a.getD 2 0+b.getD 2 0,a.getD 3 0+b.getD 3 0,a.getD 4 0+b.getD 4 0]:=rfl
theorem nK (a b:List UInt64):∀i,(adS a b i).length=5
 |0=>rfl
 |i+1=>by show((adS a b i).set i _).length=5;rw[length_set];exact nK a b i
def wJ (a b:List UInt64):List UInt64:=ci (adS a b 5)
theorem ei (a b:List UInt64):Lb (wJ a b):=jC _
theorem kV {a b:List UInt64} (ha:Lb a) (hb:Lb b):fv (wJ a b)=fv a+fv b:=by
 unfold wJ
 rw[qT]
 unfold fv
 rw[<-af]
 congr 1
 obtain⟨_,a0,a1,a2,a3,a4⟩:=ha
 obtain⟨_,b0,b1,b2,b3,b4⟩:=hb
 unfold nv5
 rw[aVX]
 have e0:(a.getD 0 0+b.getD 0 0).toNat=(a.getD 0 0).toNat+(b.getD 0 0).toNat:=by rw[toNat_add];omega
 have e1:(a.getD 1 0+b.getD 1 0).toNat=(a.getD 1 0).toNat+(b.getD 1 0).toNat:=by rw[toNat_add];omega
 have e2:(a.getD 2 0+b.getD 2 0).toNat=(a.getD 2 0).toNat+(b.getD 2 0).toNat:=by rw[toNat_add];omega
 have e3:(a.getD 3 0+b.getD 3 0).toNat=(a.getD 3 0).toNat+(b.getD 3 0).toNat:=by rw[toNat_add];omega
 have e4:(a.getD 4 0+b.getD 4 0).toNat=(a.getD 4 0).toNat+(b.getD 4 0).toNat:=by rw[toNat_add];omega
 show(a.getD 0 0+b.getD 0 0).toNat+(a.getD 1 0+b.getD 1 0).toNat*_+(a.getD 2 0+b.getD 2 0).toNat*_+(a.getD 3 0+b.getD 3 0).toNat*_+(a.getD 4 0+b.getD 4 0).toNat*_=_
 rw[e0,e1,e2,e3,e4]
 generalize (a.getD 0 0).toNat=x0 at *
 generalize (a.getD 1 0).toNat=x1 at *
 generalize (a.getD 2 0).toNat=x2 at *
 generalize (a.getD 3 0).toNat=x3 at *
 generalize (a.getD 4 0).toNat=x4 at *
 omega
def sb0:List UInt64:=[ofNat 9007199254740916,ofNat 9007199254740988,ofNat 9007199254740988,ofNat 9007199254740988,ofNat 9007199254740988]
def sbS (a b:List UInt64):Nat->List UInt64
 |0=>sb0
 |i+1=>(sbS a b i).set i ((sbS a b i).getD i 0+(a.getD i 0-b.getD i 0))
theorem bT (a b:List UInt64):∀i,(sbS a b i).length=5
 |0=>rfl
 |i+1=>by show((sbS a b i).set i _).length=5;rw[length_set];exact bT a b i
theorem aSW (a b:List UInt64):sbS a b 5=[ofNat 9007199254740916+(a.getD 0 0-b.getD 0 0),ofNat 9007199254740988+(a.getD 1 0-b.getD 1 0),ofNat 9007199254740988+(a.getD 2 0-b.getD 2 0),ofNat 9007199254740988+(a.getD 3 0-b.getD 3 0),ofNat 9007199254740988+(a.getD 4 0-b.getD 4 0)]:=rfl
def tj (a b:List UInt64):List UInt64:=ci (sbS a b 5)
theorem dL (a b:List UInt64):Lb (tj a b):=jC _
theorem uF {x y:UInt64} (hx:x.toNat<4503599627370496) (hy:y.toNat<4503599627370496) {c:Nat} (h:4503599627370496<=c) (h':c<9007199254740992):(ofNat c+(x-y)).toNat+y.toNat=c+x.toNat:=by
 rw[toNat_add,UInt64.toNat_sub,toNat_ofNat']
 omega
theorem ic {a b:List UInt64} (ha:Lb a) (hb:Lb b):fv (tj a b)=fv a-fv b:=by
 have key:nv5 (sbS a b 5)+nv5 b=nv5 a+4*aB:=by
  obtain⟨_,a0,a1,a2,a3,a4⟩:=ha
  obtain⟨_,b0,b1,b2,b3,b4⟩:=hb
  have e0:=uF a0 b0 (c:=9007199254740916) (by omega) (by omega)
  have e1:=uF a1 b1 (c:=9007199254740988) (by omega) (by omega)
  have e2:=uF a2 b2 (c:=9007199254740988) (by omega) (by omega)
  have e3:=uF a3 b3 (c:=9007199254740988) (by omega) (by omega)
  have e4:=uF a4 b4 (c:=9007199254740988) (by omega) (by omega)
  unfold nv5
  rw[aSW]
  show(ofNat 9007199254740916+(a.getD 0 0-b.getD 0 0)).toNat+(ofNat 9007199254740988+(a.getD 1 0-b.getD 1 0)).toNat*_+(ofNat 9007199254740988+(a.getD 2 0-b.getD 2 0)).toNat*_+(ofNat 9007199254740988+(a.getD 3 0-b.getD 3 0)).toNat*_+(ofNat 9007199254740988+(a.getD 4 0-b.getD 4 0)).toNat*_+_=_
  generalize (ofNat 9007199254740916+(a.getD 0 0-b.getD 0 0)).toNat=y0 at *
  generalize (ofNat 9007199254740988+(a.getD 1 0-b.getD 1 0)).toNat=y1 at *
  generalize (ofNat 9007199254740988+(a.getD 2 0-b.getD 2 0)).toNat=y2 at *
  generalize (ofNat 9007199254740988+(a.getD 3 0-b.getD 3 0)).toNat=y3 at *
  generalize (ofNat 9007199254740988+(a.getD 4 0-b.getD 4 0)).toNat=y4 at *
  unfold aB
  omega
 unfold tj
 rw[qT]
 unfold fv
 have h:=congrArg fn key
 rw[af,aZ0]at h
 rw[<-h]
 exact gr
end Go.Cu
namespace Go.Cu
open Go Go.Sx
def muT (x y:UInt64):UInt64:=aF x 32*(y&&&ofNat 4294967295)+aF ((x&&&ofNat 4294967295)*(y&&&ofNat 4294967295)) 32
def muH (x y:UInt64):UInt64:=aF x 32*aF y 32+aF (muT x y) 32+aF ((muT x y&&&ofNat 4294967295)+(x&&&ofNat 4294967295)*aF y 32) 32
theorem ew {a b:Nat} (ha:a<4294967296) (hb:b<4294967296):a*b<=18446744065119617025:=by
 have:a*b<=4294967295*4294967295:=Nat.mul_le_mul (by omega) (by omega)
 omega
theorem sk (x1 x0 y1 y0:Nat):(x1*4294967296+x0)*(y1*4294967296+y0)=x1*y1*18446744073709551616+(x1*y0+x0*y1)*4294967296+x0*y0:=by
 rw[Nat.add_mul,Nat.mul_add,Nat.mul_add]
 have e1:x1*4294967296*(y1*4294967296)=x1*y1*18446744073709551616:=by
  rw[Nat.mul_assoc,Nat.mul_left_comm 4294967296,<-Nat.mul_assoc]
 have e2:x1*4294967296*y0=x1*y0*4294967296:=by rw[Nat.mul_right_comm]
 have e3:x0*(y1*4294967296)=x0*y1*4294967296:=by rw[Nat.mul_assoc]
 rw[e1,e2,e3]
 omega
theorem yU (x:UInt64):(x&&&ofNat 4294967295).toNat=x.toNat%4294967296:=by
 rw[UInt64.toNat_and,show(ofNat 4294967295).toNat=2^32-1 from rfl,Nat.and_two_pow_sub_one_eq_mod]
theorem aEL (x:UInt64):(aF x 32).toNat=x.toNat/4294967296:=bt x 32
theorem xQ (x y:UInt64):(muH x y).toNat=x.toNat*y.toNat/18446744073709551616:=by
 have hx:=x.toNat_lt
 have hy:=y.toNat_lt
 have sx:x.toNat=x.toNat/4294967296*4294967296+x.toNat%4294967296:=by omega
 have sy:y.toNat=y.toNat/4294967296*4294967296+y.toNat%4294967296:=by omega
 have ps:=sk (x.toNat/4294967296) (x.toNat%4294967296) (y.toNat/4294967296) (y.toNat%4294967296)
 rw[<-sx,<-sy]at ps
 have b11:=ew (a:=x.toNat/4294967296) (b:=y.toNat/4294967296) (by omega) (by omega)
 have b10:=ew (a:=x.toNat/4294967296) (b:=y.toNat%4294967296) (by omega) (by omega)
 have b01:=ew (a:=x.toNat%4294967296) (b:=y.toNat/4294967296) (by omega) (by omega)
 have b00:=ew (a:=x.toNat%4294967296) (b:=y.toNat%4294967296) (by omega) (by omega)
 unfold muH muT
 simp only[toNat_add,toNat_mul,yU,aEL]
 generalize x.toNat/4294967296*(y.toNat/4294967296)=p11 at *
 generalize x.toNat/4294967296*(y.toNat%4294967296)=p10 at *
 generalize x.toNat%4294967296*(y.toNat/4294967296)=p01 at *
 generalize x.toNat%4294967296*(y.toNat%4294967296)=p00 at *
 generalize x.toNat*y.toNat=P at *
 omega
theorem pg (x y:UInt64):(muH x y).toNat*18446744073709551616+(x*y).toNat=x.toNat*y.toNat:=by
 rw[xQ,toNat_mul]
 omega
theorem nJ (x y:UInt64):(gF x y 0).toNat+(oO x y 0).toNat*18446744073709551616=x.toNat+y.toNat:=by
 have:=x.toNat_lt
 have:=y.toNat_lt
 unfold gF oO
 rw[toNat_ofNat',toNat_ofNat',show(0:UInt64).toNat=0 from rfl]
 omega
abbrev W2:=UInt64×UInt64
def wV (w:W2):Nat:=w.1.toNat*18446744073709551616+w.2.toNat
theorem aDS (w:W2):wV w=w.1.toNat*18446744073709551616+w.2.toNat:=rfl
def aI (w:W2) (x y:UInt64):W2:=(gF w.1 (muH x y) (oO w.2 (x*y) 0),gF w.2 (x*y) 0)
theorem xT (w:W2) (x y:UInt64):(aI w x y).1=gF w.1 (muH x y) (oO w.2 (x*y) 0):=rfl
theorem xS (w:W2) (x y:UInt64):(aI w x y).2=gF w.2 (x*y) 0:=rfl
theorem aMU (x y c:UInt64):(gF x y c).toNat=(x.toNat+y.toNat+c.toNat)%18446744073709551616:=by
 unfold gF
 rw[toNat_ofNat']
theorem aF3 {W1 W2 H L P d s B:Nat} (hm:H*B+L=P) (a1:s+d*B=W2+L):(W1+H+d)*B+s=W1*B+W2+P:=by
 rw[Nat.add_mul,Nat.add_mul]
 generalize H*B=x at *
 generalize d*B=y at *
 generalize W1*B=z at *
 omega
theorem aK0 {W1 W2 H L P d s:Nat} (h:W1*18446744073709551616+W2+P<340282366920938463463374607431768211456) (hm:H*18446744073709551616+L=P) (a1:s+d*18446744073709551616=W2+L):
  (W1+H+d)%18446744073709551616*18446744073709551616+s=W1*18446744073709551616+W2+P:=by
 have hlt:W1+H+d<18446744073709551616:=by omega
 rw[mod_eq_of_lt hlt]
 clear hlt h
 exact aF3 hm a1
theorem pi {w:W2} {x y:UInt64} (h:wV w+x.toNat*y.toNat<340282366920938463463374607431768211456):wV (aI w x y)=wV w+x.toNat*y.toNat:=by
 have hm:=pg x y
 have a1:=nJ w.2 (x*y)
 rw[aDS]at h
 rw[aDS (aI w x y),aDS w,xT,xS,aMU]
 exact aK0 h hm a1
def muA (a b:List UInt64) (i k:Nat) (t:List W2):List W2:=
 if 5<=i+k then t.set (i+k-5) (aI (t.getD (i+k-5) (0,0)) (a.getD i 0) (ofNat 19*b.getD k 0))
 else t.set (i+k) (aI (t.getD (i+k) (0,0)) (a.getD i 0) (b.getD k 0))
def muR (a b:List UInt64) (i:Nat) (t:List W2):Nat->List W2
 |0=>t
 |k+1=>muA a b i k (muR a b i t k)
def muS (a b:List UInt64):Nat->List W2
 |0=>replicate 5 (0,0)
 |i+1=>muR a b i (muS a b i) 5
theorem mc {a b:List UInt64} {i:Nat} {t:List W2}:∀k,(muR a b i t k).length=t.length
 |0=>rfl
 |k+1=>by
  show(muA a b i k (muR a b i t k)).length=_
  unfold muA
  split <;>rw[length_set,mc k]
theorem rl (a b:List UInt64):∀i,(muS a b i).length=5
 |0=>rfl
 |i+1=>by show(muR a b i (muS a b i) 5).length=5;rw[mc,rl a b i]
attribute [irreducible] aI
theorem aXR (a b:List UInt64) (t0 t1 t2 t3 t4:W2):muR a b 0 [t0,t1,t2,t3,t4] 5=[aI t0 (a.getD 0 0) (b.getD 0 0),aI t1 (a.getD 0 0) (b.getD 1 0),aI t2 (a.getD 0 0) (b.getD 2 0),aI t3 (a.getD 0 0) (b.getD 3 0),aI t4 (a.getD 0 0) (b.getD 4 0)]:=rfl
theorem aXQ (a b:List UInt64) (t0 t1 t2 t3 t4:W2):muR a b 1 [t0,t1,t2,t3,t4] 5=[aI t0 (a.getD 1 0) (ofNat 19*b.getD 4 0),aI t1 (a.getD 1 0) (b.getD 0 0),aI t2 (a.getD 1 0) (b.getD 1 0),aI t3 (a.getD 1 0) (b.getD 2 0),aI t4 (a.getD 1 0) (b.getD 3 0)]:=rfl
theorem aXP (a b:List UInt64) (t0 t1 t2 t3 t4:W2):muR a b 2 [t0,t1,t2,t3,t4] 5=[aI t0 (a.getD 2 0) (ofNat 19*b.getD 3 0),aI t1 (a.getD 2 0) (ofNat 19*b.getD 4 0),aI t2 (a.getD 2 0) (b.getD 0 0),aI t3 (a.getD 2 0) (b.getD 1 0),aI t4 (a.getD 2 0) (b.getD 2 0)]:=rfl
theorem aXO (a b:List UInt64) (t0 t1 t2 t3 t4:W2):muR a b 3 [t0,t1,t2,t3,t4] 5=[aI t0 (a.getD 3 0) (ofNat 19*b.getD 2 0),aI t1 (a.getD 3 0) (ofNat 19*b.getD 3 0),aI t2 (a.getD 3 0) (ofNat 19*b.getD 4 0),aI t3 (a.getD 3 0) (b.getD 0 0),aI t4 (a.getD 3 0) (b.getD 1 0)]:=rfl
theorem aXN (a b:List UInt64) (t0 t1 t2 t3 t4:W2):muR a b 4 [t0,t1,t2,t3,t4] 5=[aI t0 (a.getD 4 0) (ofNat 19*b.getD 1 0),aI t1 (a.getD 4 0) (ofNat 19*b.getD 2 0),aI t2 (a.getD 4 0) (ofNat 19*b.getD 3 0),aI t3 (a.getD 4 0) (ofNat 19*b.getD 4 0),aI t4 (a.getD 4 0) (b.getD 0 0)]:=rfl
theorem aTW (a b:List UInt64):muS a b 5=
    [aI (aI (aI (aI (aI (0,0) (a.getD 0 0) (b.getD 0 0)) (a.getD 1 0) (ofNat 19*b.getD 4 0)) (a.getD 2 0) (ofNat 19*b.getD 3 0)) (a.getD 3 0) (ofNat 19*b.getD 2 0)) (a.getD 4 0) (ofNat 19*b.getD 1 0),
     aI (aI (aI (aI (aI (0,0) (a.getD 0 0) (b.getD 1 0)) (a.getD 1 0) (b.getD 0 0)) (a.getD 2 0) (ofNat 19*b.getD 4 0)) (a.getD 3 0) (ofNat 19*b.getD 3 0)) (a.getD 4 0) (ofNat 19*b.getD 2 0),
     aI (aI (aI (aI (aI (0,0) (a.getD 0 0) (b.getD 2 0)) (a.getD 1 0) (b.getD 1 0)) (a.getD 2 0) (b.getD 0 0)) (a.getD 3 0) (ofNat 19*b.getD 4 0)) (a.getD 4 0) (ofNat 19*b.getD 3 0),
     aI (aI (aI (aI (aI (0,0) (a.getD 0 0) (b.getD 3 0)) (a.getD 1 0) (b.getD 2 0)) (a.getD 2 0) (b.getD 1 0)) (a.getD 3 0) (b.getD 0 0)) (a.getD 4 0) (ofNat 19*b.getD 4 0),
     aI (aI (aI (aI (aI (0,0) (a.getD 0 0) (b.getD 4 0)) (a.getD 1 0) (b.getD 3 0)) (a.getD 2 0) (b.getD 2 0)) (a.getD 3 0) (b.getD 1 0)) (a.getD 4 0) (b.getD 0 0)]:=by
  show muR a b 4 (muR a b 3 (muR a b 2 (muR a b 1 (muR a b 0 [(0,0),(0,0),(0,0),(0,0),(0,0)] 5) 5) 5) 5) 5=_
  rw[aXR,aXQ,aXP,aXO,aXN]
theorem m19 {x:UInt64} (h:x.toNat<4503599627370496):(ofNat 19*x).toNat=19*x.toNat:=by
 rw[toNat_mul,show(ofNat 19).toNat=19 from rfl];omega
theorem pb1 {x y:Nat} (hx:x<4503599627370496) (hy:y<4503599627370496):x*y<=20282409603651661421847155900416:=by
 have:x*y<=4503599627370495*4503599627370495:=Nat.mul_le_mul (by omega) (by omega)
 omega
theorem aU1 {x0 x1 x2 x3 x4 y0 y1 y2 y3 y4:UInt64} {p0 p1 p2 p3 p4:Nat} (h0:x0.toNat*y0.toNat=p0) (h1:x1.toNat*y1.toNat=p1) (h2:x2.toNat*y2.toNat=p2) (h3:x3.toNat*y3.toNat=p3) (h4:x4.toNat*y4.toNat=p4)
  (hp:p0+p1+p2+p3+p4<340282366920938463463374607431768211456):
  wV (aI (aI (aI (aI (aI (0,0) x0 y0) x1 y1) x2 y2) x3 y3) x4 y4)=p0+p1+p2+p3+p4:=by
 have z:wV (0,0)=0:=rfl
 have a0:=pi (w:=(0,0)) (x:=x0) (y:=y0) (by rw[z,h0];omega)
 rw[z,h0]at a0
 have a1:=pi (w:=aI (0,0) x0 y0) (x:=x1) (y:=y1) (by rw[a0,h1];omega)
 rw[a0,h1]at a1
 have a2:=pi (w:=aI (aI (0,0) x0 y0) x1 y1) (x:=x2) (y:=y2) (by rw[a1,h2];omega)
 rw[a1,h2]at a2
 have a3:=pi (w:=aI (aI (aI (0,0) x0 y0) x1 y1) x2 y2) (x:=x3) (y:=y3) (by rw[a2,h3];omega)
 rw[a2,h3]at a3
 have a4:=pi (w:=aI (aI (aI (aI (0,0) x0 y0) x1 y1) x2 y2) x3 y3) (x:=x4) (y:=y4) (by rw[a3,h4];omega)
 rw[a3,h4]at a4
 rw[a4];omega
def cyS (t:List W2):Nat->List UInt64×UInt64
 |0=>(replicate 5 0,ofNat 0)
 |i+1=>
  ((cyS t i).1.set i (gF (t.getD i (0,0)).2 (cyS t i).2 0&&&ofNat 2251799813685247),
   aQ ((t.getD i (0,0)).1+oO (t.getD i (0,0)).2 (cyS t i).2 0) 13|||aF (gF (t.getD i (0,0)).2 (cyS t i).2 0) 51)
theorem r9 (t:List W2):∀i,(cyS t i).1.length=5
 |0=>rfl
 |i+1=>by show((cyS t i).1.set i _).length=5;rw[length_set];exact r9 t i
def cd (a b:List UInt64):List UInt64:=
 ci ((cyS (muS a b 5) 5).1.set 0 ((cyS (muS a b 5) 5).1.getD 0 0+(cyS (muS a b 5) 5).2*ofNat 19))
theorem aP (a b:List UInt64):Lb (cd a b):=jC _
theorem aTE {x y:UInt64} {k:Nat} (z:Nat) (hx:x.toNat=z*2^k) (hy:y.toNat<2^k):(x|||y).toNat=x.toNat+y.toNat:=by
 rw[UInt64.toNat_or,hx,Nat.mul_comm,Nat.two_pow_add_eq_or_of_lt hy]
theorem aRO {W1 W2 d s o:Nat} (_:W1*18446744073709551616+W2+o<41538374868278621028243970633760768) (a:s+d*18446744073709551616=W2+o):s%2251799813685248=(W1*18446744073709551616+W2+o)%2251799813685248:=by omega
theorem aRN {W1 W2 d s o:Nat} (h:W1*18446744073709551616+W2+o<41538374868278621028243970633760768) (a:s+d*18446744073709551616=W2+o):(W1+d)*8192+s/2251799813685248=(W1*18446744073709551616+W2+o)/2251799813685248/\W1+d<2251799813685248:=by omega
theorem aRM {x:Nat} (h:x<2251799813685248):x*2^13<18446744073709551616:=by omega
theorem qQ {w:W2} {o:UInt64} (h:wV w+o.toNat<41538374868278621028243970633760768):
  (gF w.2 o 0&&&ofNat 2251799813685247).toNat=(wV w+o.toNat)%2251799813685248
  /\(aQ (w.1+oO w.2 o 0) 13|||aF (gF w.2 o 0) 51).toNat=(wV w+o.toNat)/2251799813685248:=by
 have a:=nJ w.2 o
 have hs:=(gF w.2 o 0).toNat_lt
 rw[aDS]at h
 rw[aDS]
 refine⟨?_,?_⟩
 ·rw[gI];exact aRO h a
 obtain⟨k1,k2⟩:=aRN h a
 have e1:(w.1+oO w.2 o 0).toNat=w.1.toNat+(oO w.2 o 0).toNat:=by
  rw[toNat_add];exact mod_eq_of_lt (by omega)
 have e2:(aQ (w.1+oO w.2 o 0) 13).toNat=(w.1.toNat+(oO w.2 o 0).toNat)*2^13:=by
  rw[wq,e1]
  exact mod_eq_of_lt (aRM k2)
 have e3:(aF (gF w.2 o 0) 51).toNat<2^13:=by
  rw[jd];show _<8192;omega
 rw[aTE _ e2 e3,e2,jd]
 exact k1
end Go.Cu
namespace Go.Cu
open Go Go.Sx
def rF:F:=2251799813685248
theorem r5:rF * rF * rF * rF * rF = 19:=by decide +kernel
theorem aZZ:fn 2251799813685248 = rF:=by decide +kernel
theorem aX9:fn 5070602400912917605986812821504 = rF * rF:=by decide +kernel
theorem aX8:fn 11417981541647679048466287755595961091061972992 = rF * rF * rF:=by decide +kernel
theorem aX7:fn 25711008708143844408671393477458601640355247900524685364822016 = rF * rF * rF * rF:=by decide +kernel
theorem aUJ:fn 19 = 19:=by decide +kernel
def lf (l:List UInt64) (i:Nat):F:=fn (l.getD i 0).toNat
theorem aHB (l:List UInt64):fv l=lf l 0+lf l 1*rF+lf l 2*(rF*rF)+lf l 3*(rF*rF*rF)+lf l 4*(rF*rF*rF*rF):=by
 unfold fv nv5 lf
 rw[af,af,af,af,lV,lV,lV,lV,aZZ,aX9,aX8,aX7]
theorem aT0 {l:List UInt64} (h:Lb l):∀i,i<5->(l.getD i 0).toNat<4503599627370496:=by
 intro i hi
 obtain⟨_,h0,h1,h2,h3,h4⟩:=h
 match i,hi with
 |0,_=>exact h0
 |1,_=>exact h1
 |2,_=>exact h2
 |3,_=>exact h3
 |4,_=>exact h4
theorem pm (x y:UInt64) (hy:y.toNat<4503599627370496):x.toNat*(ofNat 19*y).toNat=19*(x.toNat*y.toNat):=by
 rw[m19 hy,Nat.mul_left_comm]
theorem aQD {a b:List UInt64} (ha:Lb a) (hb:Lb b):
  ∃v0 v1 v2 v3 v4:Nat,wV ((muS a b 5).getD 0 (0,0))=v0/\wV ((muS a b 5).getD 1 (0,0))=v1/\wV ((muS a b 5).getD 2 (0,0))=v2/\wV ((muS a b 5).getD 3 (0,0))=v3/\wV ((muS a b 5).getD 4 (0,0))=v4
   /\v0<2596148429267413814265248164610048/\v1<2596148429267413814265248164610048/\v2<2596148429267413814265248164610048/\v3<2596148429267413814265248164610048/\v4<162259276829213363391578010288128
   /\fn v0=lf a 0*lf b 0+19*(lf a 1*lf b 4)+19*(lf a 2*lf b 3)+19*(lf a 3*lf b 2)+19*(lf a 4*lf b 1)
   /\fn v1=lf a 0*lf b 1+lf a 1*lf b 0+19*(lf a 2*lf b 4)+19*(lf a 3*lf b 3)+19*(lf a 4*lf b 2)
   /\fn v2=lf a 0*lf b 2+lf a 1*lf b 1+lf a 2*lf b 0+19*(lf a 3*lf b 4)+19*(lf a 4*lf b 3)
   /\fn v3=lf a 0*lf b 3+lf a 1*lf b 2+lf a 2*lf b 1+lf a 3*lf b 0+19*(lf a 4*lf b 4)
   /\fn v4=lf a 0*lf b 4+lf a 1*lf b 3+lf a 2*lf b 2+lf a 3*lf b 1+lf a 4*lf b 0:=by
 have la:=aT0 ha
 have lb:=aT0 hb
 have q:∀i k,i<5->k<5->(a.getD i 0).toNat*(b.getD k 0).toNat<=20282409603651661421847155900416:=λi k hi hk=>pb1 (la i hi) (lb k hk)
 have p:∀i k,k<5->(a.getD i 0).toNat*(ofNat 19*b.getD k 0).toNat=19*((a.getD i 0).toNat*(b.getD k 0).toNat):=λi k hk=>pm _ _ (lb k hk)
 have f:∀i k,fn ((a.getD i 0).toNat*(b.getD k 0).toNat)=lf a i*lf b k:=λi k=>lV _ _
 have g:∀i k,fn (19*((a.getD i 0).toNat*(b.getD k 0).toNat))=19*(lf a i*lf b k):=λi k=>by rw[lV,f,aUJ]
 rw[aTW]
 have q00:=q 0 0 (by omega) (by omega)
 have q01:=q 0 1 (by omega) (by omega)
 have q02:=q 0 2 (by omega) (by omega)
 have q03:=q 0 3 (by omega) (by omega)
 have q04:=q 0 4 (by omega) (by omega)
 have q10:=q 1 0 (by omega) (by omega)
 have q11:=q 1 1 (by omega) (by omega)
 have q12:=q 1 2 (by omega) (by omega)
 have q13:=q 1 3 (by omega) (by omega)
 have q14:=q 1 4 (by omega) (by omega)
 have q20:=q 2 0 (by omega) (by omega)
 have q21:=q 2 1 (by omega) (by omega)
 have q22:=q 2 2 (by omega) (by omega)
 have q23:=q 2 3 (by omega) (by omega)
 have q24:=q 2 4 (by omega) (by omega)
 have q30:=q 3 0 (by omega) (by omega)
 have q31:=q 3 1 (by omega) (by omega)
 have q32:=q 3 2 (by omega) (by omega)
 have q33:=q 3 3 (by omega) (by omega)
 have q34:=q 3 4 (by omega) (by omega)
 have q40:=q 4 0 (by omega) (by omega)
 have q41:=q 4 1 (by omega) (by omega)
 have q42:=q 4 2 (by omega) (by omega)
 have q43:=q 4 3 (by omega) (by omega)
 have q44:=q 4 4 (by omega) (by omega)
 refine⟨_,_,_,_,_,aU1 rfl (p 1 4 (by omega)) (p 2 3 (by omega)) (p 3 2 (by omega)) (p 4 1 (by omega)) (by omega),aU1 rfl rfl (p 2 4 (by omega)) (p 3 3 (by omega)) (p 4 2 (by omega)) (by omega),
  aU1 rfl rfl rfl (p 3 4 (by omega)) (p 4 3 (by omega)) (by omega),aU1 rfl rfl rfl rfl (p 4 4 (by omega)) (by omega),aU1 rfl rfl rfl rfl rfl (by omega),by omega,by omega,by omega,by omega,by omega,?_,?_,?_,?_,?_⟩
 ·rw[af,af,af,af,f,g,g,g,g]
 ·rw[af,af,af,af,f,f,g,g,g]
 ·rw[af,af,af,af,f,f,f,g,g]
 ·rw[af,af,af,af,f,f,f,f,g]
 rw[af,af,af,af,f,f,f,f,f]
theorem aHE (x:Nat):fn (x%2251799813685248)=fn x-rF*fn (x/2251799813685248):=by
 have h:fn (2251799813685248*(x/2251799813685248)+x%2251799813685248)=fn x:=by rw[Nat.div_add_mod]
 rw[af,lV,aZZ]at h
 exact gr
theorem aaW {o0 o1 o2 o3 o4 o5 v0 v1 v2 v3 v4 r c0 c1 c2 c3 c4:F} (h0:o0=0) (hr:r*r*r*r*r=19) (e0:c0=v0+o0-r*o1) (e1:c1=v1+o1-r*o2) (e2:c2=v2+o2-r*o3) (e3:c3=v3+o3-r*o4) (e4:c4=v4+o4-r*o5):
  c0+o5*19+c1*r+c2*(r*r)+c3*(r*r*r)+c4*(r*r*r*r)=v0+v1*r+v2*(r*r)+v3*(r*r*r)+v4*(r*r*r*r):=by
 subst e0 e1 e2 e3 e4 h0;exact gr
theorem aW8 {a0 a1 a2 a3 a4 b0 b1 b2 b3 b4 r:F} (hr:r*r*r*r*r=19):
  (a0*b0+19*(a1*b4)+19*(a2*b3)+19*(a3*b2)+19*(a4*b1))+(a0*b1+a1*b0+19*(a2*b4)+19*(a3*b3)+19*(a4*b2))*r+(a0*b2+a1*b1+a2*b0+19*(a3*b4)+19*(a4*b3))*(r*r)+(a0*b3+a1*b2+a2*b1+a3*b0+19*(a4*b4))*(r*r*r)+(a0*b4+a1*b3+a2*b2+a3*b1+a4*b0)*(r*r*r*r)
   =(a0+a1*r+a2*(r*r)+a3*(r*r*r)+a4*(r*r*r*r))*(b0+b1*r+b2*(r*r)+b3*(r*r*r)+b4*(r*r*r*r)):=by
 exact gr
theorem dh (t:List W2) (i:Nat):cyS t (i+1)=((cyS t i).1.set i (gF (t.getD i (0,0)).2 (cyS t i).2 0&&&ofNat 2251799813685247),
   aQ ((t.getD i (0,0)).1+oO (t.getD i (0,0)).2 (cyS t i).2 0) 13|||aF (gF (t.getD i (0,0)).2 (cyS t i).2 0) 51):=rfl
theorem aVE (t:List W2):(cyS t 5).1=[gF (t.getD 0 (0,0)).2 (cyS t 0).2 0&&&ofNat 2251799813685247,gF (t.getD 1 (0,0)).2 (cyS t 1).2 0&&&ofNat 2251799813685247,gF (t.getD 2 (0,0)).2 (cyS t 2).2 0&&&ofNat 2251799813685247,
   gF (t.getD 3 (0,0)).2 (cyS t 3).2 0&&&ofNat 2251799813685247,gF (t.getD 4 (0,0)).2 (cyS t 4).2 0&&&ofNat 2251799813685247]:=by
 rw[dh t 4,dh t 3]
 generalize (cyS t 4).2=o4
 rw[dh t 2]
 generalize (cyS t 3).2=o3
 rw[dh t 1]
 generalize (cyS t 2).2=o2
 rw[dh t 0]
 generalize (cyS t 1).2=o1
 rfl
theorem tH {v o:Nat} (h:v<2596148429267413814265248164610048) (ho:o<=1152921504606848000):v+o<41538374868278621028243970633760768/\(v+o)/2251799813685248<=1152921504606848000:=by omega
theorem aK6 {v o:Nat} (h:v<162259276829213363391578010288128) (ho:o<=1152921504606848000):v+o<41538374868278621028243970633760768/\(v+o)/2251799813685248<=144115188075855872:=by omega
theorem ak {a b:List UInt64} (ha:Lb a) (hb:Lb b):fv (cd a b)=fv a*fv b:=by
 obtain⟨v0,v1,v2,v3,v4,w0,w1,w2,w3,w4,b0,b1,b2,b3,b4,f0,f1,f2,f3,f4⟩:=aQD ha hb
 unfold cd
 rw[qT]
 generalize muS a b 5=t at *
 have z0:((cyS t 0).2).toNat=0:=rfl
 have l0:=tH b0 (o:=((cyS t 0).2).toNat) (by omega)
 have s0:=qQ (w:=t.getD 0 (0,0)) (o:=(cyS t 0).2) (by rw[w0];exact l0.1)
 rw[w0]at s0
 have o1:((cyS t 1).2).toNat=(v0+((cyS t 0).2).toNat)/2251799813685248:=by rw[dh];exact s0.2
 have l1:=tH b1 (o:=((cyS t 1).2).toNat) (by rw[o1];exact l0.2)
 have s1:=qQ (w:=t.getD 1 (0,0)) (o:=(cyS t 1).2) (by rw[w1];exact l1.1)
 rw[w1]at s1
 have o2:((cyS t 2).2).toNat=(v1+((cyS t 1).2).toNat)/2251799813685248:=by rw[dh];exact s1.2
 have l2:=tH b2 (o:=((cyS t 2).2).toNat) (by rw[o2];exact l1.2)
 have s2:=qQ (w:=t.getD 2 (0,0)) (o:=(cyS t 2).2) (by rw[w2];exact l2.1)
 rw[w2]at s2
 have o3:((cyS t 3).2).toNat=(v2+((cyS t 2).2).toNat)/2251799813685248:=by rw[dh];exact s2.2
 have l3:=tH b3 (o:=((cyS t 3).2).toNat) (by rw[o3];exact l2.2)
 have s3:=qQ (w:=t.getD 3 (0,0)) (o:=(cyS t 3).2) (by rw[w3];exact l3.1)
 rw[w3]at s3
 have o4:((cyS t 4).2).toNat=(v3+((cyS t 3).2).toNat)/2251799813685248:=by rw[dh];exact s3.2
 have l4:=aK6 b4 (o:=((cyS t 4).2).toNat) (by rw[o4];exact l3.2)
 have s4:=qQ (w:=t.getD 4 (0,0)) (o:=(cyS t 4).2) (by rw[w4];exact l4.1)
 rw[w4]at s4
 have o5:((cyS t 5).2).toNat=(v4+((cyS t 4).2).toNat)/2251799813685248:=by rw[dh];exact s4.2
 have h5:((cyS t 5).2).toNat<=144115188075855872:=by rw[o5];exact l4.2
 rw[aVE]
 generalize (cyS t 5).2=O5 at *
 generalize (cyS t 4).2=O4 at *
 generalize (cyS t 3).2=O3 at *
 generalize (cyS t 2).2=O2 at *
 generalize (cyS t 1).2=O1 at *
 generalize (cyS t 0).2=O0 at *
 rw[aHB]
 have c0:lf ([gF (t.getD 0 (0,0)).2 O0 0&&&ofNat 2251799813685247,gF (t.getD 1 (0,0)).2 O1 0&&&ofNat 2251799813685247,gF (t.getD 2 (0,0)).2 O2 0&&&ofNat 2251799813685247,gF (t.getD 3 (0,0)).2 O3 0&&&ofNat 2251799813685247,gF (t.getD 4 (0,0)).2 O4 0&&&ofNat 2251799813685247].set 0 ((gF (t.getD 0 (0,0)).2 O0 0&&&ofNat 2251799813685247)+O5*ofNat 19)) 0
   =fn ((v0+O0.toNat)%2251799813685248)+fn O5.toNat*19:=by
  show fn ((gF (t.getD 0 (0,0)).2 O0 0&&&ofNat 2251799813685247)+O5*ofNat 19).toNat=_
  rw[toNat_add,toNat_mul,s0.1,show(ofNat 19).toNat=19 from rfl,<-aUJ,<-lV,<-af]
  congr 1
  rw[mod_eq_of_lt (show O5.toNat*19<2^64 by omega)]
  exact mod_eq_of_lt (by omega)
 have key:fv (List.set [gF (t.getD 0 (0,0)).2 O0 0&&&ofNat 2251799813685247,gF (t.getD 1 (0,0)).2 O1 0&&&ofNat 2251799813685247,gF (t.getD 2 (0,0)).2 O2 0&&&ofNat 2251799813685247,gF (t.getD 3 (0,0)).2 O3 0&&&ofNat 2251799813685247,gF (t.getD 4 (0,0)).2 O4 0&&&ofNat 2251799813685247] 0 ((gF (t.getD 0 (0,0)).2 O0 0&&&ofNat 2251799813685247)+O5*ofNat 19))
   =(fn ((v0+O0.toNat)%2251799813685248)+fn O5.toNat*19)+fn ((v1+O1.toNat)%2251799813685248)*rF+fn ((v2+O2.toNat)%2251799813685248)*(rF*rF)+fn ((v3+O3.toNat)%2251799813685248)*(rF*rF*rF)+fn ((v4+O4.toNat)%2251799813685248)*(rF*rF*rF*rF):=by
  rw[aHB,c0,<-s1.1,<-s2.1,<-s3.1,<-s4.1]
  rfl
 rw[<-aHB]
 refine key.trans ?_
 rw[aHE,aHE,aHE,aHE,aHE,<-o1,<-o2,<-o3,<-o4,<-o5,af,af,af,af,af]
 rw[aaW (o0:=fn O0.toNat) (by rw[z0];rfl) r5 rfl rfl rfl rfl rfl,f0,f1,f2,f3,f4,aW8 r5,<-aHB,<-aHB]
end Go.Cu
namespace Go.Cu
open Go Go.Sx
def aXC:List UInt64:=[ofNat 1,0,0,0,0]
theorem aPX:Lb aXC:=⟨rfl,by decide,by decide,by decide,by decide,by decide⟩
theorem aPY:fv aXC = 1:=by decide +kernel
def aDG (k i:Nat):Prop:=(k-1)/2^i%2=0\/10<i
instance (k i:Nat):Decidable (aDG k i):=by unfold aDG;exact inferInstance
def pwS (a:List UInt64) (n k:Nat):Nat->List UInt64
 |0=>aXC
 |j+1=>if aDG k (n-1-j)then cd (cd (pwS a n k j) (pwS a n k j)) a else cd (pwS a n k j) (pwS a n k j)
def exN (n k:Nat):Nat->Nat
 |0=>0
 |j+1=>if aDG k (n-1-j)then 2*exN n k j+1 else 2*exN n k j
theorem ui (a:List UInt64) (n k:Nat):∀j,Lb (pwS a n k j)
 |0=>aPX
 |j+1=>by unfold pwS;split <;>exact aP _ _
theorem zJ {a:List UInt64} (ha:Lb a) (n k:Nat):∀j,fv (pwS a n k j)=pw (fv a) (exN n k j)
 |0=>aPY
 |j+1=>by
  have ih:=zJ ha n k j
  have hb:=ui a n k j
  have h2:fv (cd (pwS a n k j) (pwS a n k j))=pw (fv a) (2*exN n k j):=by
   rw[ak hb hb,ih,<-rZ];congr 1;omega
  unfold pwS exN
  split
  ·rw[ak (aP _ _) ha,h2];rfl
  exact h2
def aN2 (a:List UInt64):List UInt64:=pwS a 255 21 255
theorem xu (a:List UInt64):Lb (aN2 a):=ui _ _ _ _
theorem aU4:exN 255 21 255 = aB - 2:=by decide +kernel
theorem aG4 {a:List UInt64} (ha:Lb a):fv (aN2 a)=inv (fv a):=by
 unfold aN2
 rw[zJ ha,aU4,aG3]
def lv:List UInt8->Nat
 |[]=>0
 |b::r=>b.toNat+256*lv r
def leN (v:Nat):Nat->List UInt8
 |0=>[]
 |n+1=>UInt8.ofNat v::leN (v/256) n
theorem mo:∀n v,(leN v n).length=n
 |0,_=>rfl
 |n+1,v=>by show(leN (v/256) n).length+1=n+1;rw[mo n]
theorem aNS:∀n v,lv (leN v n)=v%256^n
 |0,v=>by show 0=v%1;rw[Nat.mod_one]
 |n+1,v=>by
  show(UInt8.ofNat v).toNat+256*lv (leN (v/256) n)=v%256^(n+1)
  have h:(UInt8.ofNat v).toNat=v%256:=UInt8.toNat_ofNat'
  rw[aNS n,h,Nat.pow_succ',Nat.mod_mul]
theorem tK:∀n v i,i<n->(leN v n).getD i 0=UInt8.ofNat (v/256^i)
 |n+1,v,0,_=>by show UInt8.ofNat v=UInt8.ofNat (v/1);rw[Nat.div_one]
 |n+1,v,i+1,h=>by
  show(leN (v/256) n).getD i 0=_
  rw[tK n (v/256) i (by omega),Nat.div_div_eq_div_mul,Nat.pow_succ']
def leB (x:F):List UInt8:=leN x.val 32
theorem aj (x:F):(leB x).length=32:=mo _ _
theorem ux (x:F):lv (leB x)=x.val:=by
 have h:=x.isLt
 unfold leB
 rw[aNS]
 exact mod_eq_of_lt (Nat.lt_trans h (by decide))
def qS (l:List UInt64):Nat->UInt64
 |0=>ofNat 19
 |i+1=>aF (l.getD i 0+qS l i) 51
def nmS (l:List UInt64):Nat->List UInt64
 |0=>l
 |i+1=>((nmS l i).set (i+1) ((nmS l i).getD (i+1) 0+aF ((nmS l i).getD i 0) 51)).set i (((nmS l i).set (i+1) ((nmS l i).getD (i+1) 0+aF ((nmS l i).getD i 0) 51)).getD i 0&&&ofNat 2251799813685247)
theorem rh (l:List UInt64) (h:l.length=5):∀i,(nmS l i).length=5
 |0=>h
 |i+1=>by show(List.set (List.set _ _ _) _ _).length=5;rw[length_set,length_set];exact rh l h i
def wdL (l:List UInt64):List UInt64:=
 [l.getD 0 0|||aQ (l.getD 1 0) 51,aF (l.getD 1 0) 13|||aQ (l.getD 2 0) 38,aF (l.getD 2 0) 26|||aQ (l.getD 3 0) 25,aF (l.getD 3 0) 39|||aQ (l.getD 4 0) 12]
def byS (t:List UInt64):Nat->List UInt8
 |0=>replicate 32 0
 |i+1=>(byS t i).set i (aF (t.getD (i/8) 0) (i%8*8)).toUInt8
theorem byS_length (t:List UInt64):∀i,(byS t i).length=32
 |0=>rfl
 |i+1=>by show((byS t i).set i _).length=32;rw[length_set];exact byS_length t i
def frL (l:List UInt64):List UInt64:=l.set 0 (l.getD 0 0+ofNat 19*qS l 5)
def nmL (l:List UInt64):List UInt64:=(nmS (frL l) 4).set 4 ((nmS (frL l) 4).getD 4 0&&&ofNat 2251799813685247)
def aWL (l:List UInt64):List UInt8:=byS (wdL (nmL (ci (ci l)))) 32
theorem aAS (t:List UInt64):∀n i,i<n->n<=32->(byS t n).getD i 0=(aF (t.getD (i/8) 0) (i%8*8)).toUInt8
 |n+1,i,h,hn=>by
  show((byS t n).set n _).getD i 0=_
  by_cases hi:i=n
  ·subst hi
   rw[List.getD_eq_getElem?_getD,List.getElem?_set_self (by rw[byS_length];omega)];rfl
  rw[List.getD_eq_getElem?_getD,List.getElem?_set_ne (by omega),<-List.getD_eq_getElem?_getD]
  exact aAS t n i (by omega) (by omega)
theorem oI {A B:List UInt8} {n:Nat} (ha:A.length=n) (hb:B.length=n) (h:∀i,i<n->A.getD i 0=B.getD i 0):A=B:=by
 apply List.ext_getElem (by rw[ha,hb])
 intro i h1 h2
 have:=h i (by omega)
 rw[List.getD_eq_getElem?_getD,List.getD_eq_getElem?_getD,List.getElem?_eq_getElem h1,List.getElem?_eq_getElem h2]at this
 exact this
theorem aRT {t:List UInt64} {v:Nat} (h:∀j,j<4->(t.getD j 0).toNat=v/18446744073709551616^j%18446744073709551616):byS t 32=leN v 32:=by
 refine oI (n:=32) (byS_length _ _) (mo _ _) λi hi=>?_
 rw[aAS t 32 i hi (Nat.le_refl _),tK 32 v i hi]
 apply UInt8.toNat_inj.1
 rw[UInt64.toNat_toUInt8,bt,h (i/8) (by omega),UInt8.toNat_ofNat']
 have e256:(256:Nat)^i=18446744073709551616^(i/8)*2^(i%8*8):=by
  rw[show(256:Nat)=2^8 from rfl,show(18446744073709551616:Nat)=2^64 from rfl,<-Nat.pow_mul,<-Nat.pow_mul,<-Nat.pow_add]
  congr 1;omega
 rw[e256,<-Nat.div_div_eq_div_mul]
 generalize v/18446744073709551616^(i/8)=w
 have hm:i%8<8:=Nat.mod_lt _ (by omega)
 generalize i%8=m at hm
 have:m=0\/m=1\/m=2\/m=3\/m=4\/m=5\/m=6\/m=7:=by omega
 rcases this with rfl|rfl|rfl|rfl|rfl|rfl|rfl|rfl<;>(simp only[Nat.reduceMul,Nat.reducePow];omega)
end Go.Cu
