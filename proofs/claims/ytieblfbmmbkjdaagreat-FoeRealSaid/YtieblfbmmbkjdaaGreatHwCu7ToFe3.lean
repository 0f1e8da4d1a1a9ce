/- Walks. -/
import Derived.Test.YtieblfbmmbkjdaaGreatHx6
import Derived.Test.YtieblfbmmbkjdaaGreatHwTabToCu6
set_option linter.unusedSimpArgs false
set_option linter.unusedVariables false
set_option maxHeartbeats 4000000
open UInt64 (ofNat toNat_add toNat_ofNat' toNat_mul)
open List (replicate getD_eq_getElem?_getD length_set)
open Nat (mod_lt mod_eq_of_lt lt_trans pow_mul zero_le div_one pow_add)
set_option maxRecDepth 100000
namespace Go.Cu
open Go Go.Sx
def fn (n:Nat):F:=Fin.ofNat aB n
theorem qH (n:Nat):(fn n).val=n%aB:=rfl
theorem aN3 {a b:Nat} (h:a%aB=b%aB):fn a=fn b:=Fin.ext h
theorem af (a b:Nat):fn (a+b)=fn a+fn b:=Fin.ext (by rw[aHU,qH,qH,qH,<-Nat.add_mod])
theorem lV (a b:Nat):fn (a*b)=fn a*fn b:=Fin.ext (by rw[aHT,qH,qH,qH,<-Nat.mul_mod])
theorem aZ0 (a k:Nat):fn (a+k*aB)=fn a:=aN3 (Nat.add_mul_mod_self_right _ _ _)
theorem qI (x:F):fn x.val=x:=Fin.ext (mod_eq_of_lt x.isLt)
def nv5 (l:List UInt64):Nat:=(l.getD 0 0).toNat+(l.getD 1 0).toNat*2251799813685248+(l.getD 2 0).toNat*5070602400912917605986812821504+(l.getD 3 0).toNat*11417981541647679048466287755595961091061972992+(l.getD 4 0).toNat*25711008708143844408671393477458601640355247900524685364822016
def fv (l:List UInt64):F:=fn (nv5 l)
def Lb (l:List UInt64):Prop:=l.length=5/\(l.getD 0 0).toNat<4503599627370496/\(l.getD 1 0).toNat<4503599627370496/\(l.getD 2 0).toNat<4503599627370496/\(l.getD 3 0).toNat<4503599627370496/\(l.getD 4 0).toNat<4503599627370496
theorem gI (x:UInt64):(x&&&ofNat 2251799813685247).toNat=x.toNat%2251799813685248:=by
 rw[UInt64.toNat_and,show(ofNat 2251799813685247).toNat=2^51-1 from rfl,Nat.and_two_pow_sub_one_eq_mod]
theorem bt (x:UInt64) (k:Nat):(aF x k).toNat=x.toNat/2^k:=by
 have:=x.toNat_lt
 have h:=Nat.div_le_self x.toNat (2^k)
 unfold aF
 rw[toNat_ofNat',Nat.shiftRight_eq_div_pow,mod_eq_of_lt (by omega)]
theorem wq (x:UInt64) (k:Nat):(aQ x k).toNat=x.toNat*2^k%18446744073709551616:=by
 unfold aQ
 rw[toNat_ofNat',Nat.shiftLeft_eq]
theorem jd (x:UInt64):(aF x 51).toNat=x.toNat/2251799813685248:=bt x 51
def ci (l:List UInt64):List UInt64:=
 [(l.getD 0 0&&&ofNat 2251799813685247)+aF (l.getD 4 0) 51*ofNat 19,(l.getD 1 0&&&ofNat 2251799813685247)+aF (l.getD 0 0) 51,(l.getD 2 0&&&ofNat 2251799813685247)+aF (l.getD 1 0) 51,
  (l.getD 3 0&&&ofNat 2251799813685247)+aF (l.getD 2 0) 51,(l.getD 4 0&&&ofNat 2251799813685247)+aF (l.getD 3 0) 51]
theorem yF (l:List UInt64):((ci l).getD 0 0).toNat=(l.getD 0 0).toNat%2251799813685248+(l.getD 4 0).toNat/2251799813685248*19
  /\((ci l).getD 1 0).toNat=(l.getD 1 0).toNat%2251799813685248+(l.getD 0 0).toNat/2251799813685248
  /\((ci l).getD 2 0).toNat=(l.getD 2 0).toNat%2251799813685248+(l.getD 1 0).toNat/2251799813685248
  /\((ci l).getD 3 0).toNat=(l.getD 3 0).toNat%2251799813685248+(l.getD 2 0).toNat/2251799813685248
  /\((ci l).getD 4 0).toNat=(l.getD 4 0).toNat%2251799813685248+(l.getD 3 0).toNat/2251799813685248:=by
 have h0:=(l.getD 0 0).toNat_lt
 have h1:=(l.getD 1 0).toNat_lt
 have h2:=(l.getD 2 0).toNat_lt
 have h3:=(l.getD 3 0).toNat_lt
 have h4:=(l.getD 4 0).toNat_lt
 have e19:(ofNat 19).toNat=19:=rfl
 refine⟨?_,?_,?_,?_,?_⟩
 ·show((l.getD 0 0&&&ofNat 2251799813685247)+aF (l.getD 4 0) 51*ofNat 19).toNat=_
  rw[toNat_add,toNat_mul,gI,jd,e19];omega
 ·show((l.getD 1 0&&&ofNat 2251799813685247)+aF (l.getD 0 0) 51).toNat=_
  rw[toNat_add,gI,jd];omega
 ·show((l.getD 2 0&&&ofNat 2251799813685247)+aF (l.getD 1 0) 51).toNat=_
  rw[toNat_add,gI,jd];omega
 ·show((l.getD 3 0&&&ofNat 2251799813685247)+aF (l.getD 2 0) 51).toNat=_
  rw[toNat_add,gI,jd];omega
 show((l.getD 4 0&&&ofNat 2251799813685247)+aF (l.getD 3 0) 51).toNat=_
 rw[toNat_add,gI,jd];omega
theorem jC (l:List UInt64):Lb (ci l):=by
 obtain⟨e0,e1,e2,e3,e4⟩:=yF l
 have h0:=(l.getD 0 0).toNat_lt
 have h1:=(l.getD 1 0).toNat_lt
 have h2:=(l.getD 2 0).toNat_lt
 have h3:=(l.getD 3 0).toNat_lt
 have h4:=(l.getD 4 0).toNat_lt
 refine⟨rfl,?_,?_,?_,?_,?_⟩
 ·rw[e0];omega
 ·rw[e1];omega
 ·rw[e2];omega
 ·rw[e3];omega
 rw[e4];omega
theorem aRR (l:List UInt64):nv5 l=nv5 (ci l)+(l.getD 4 0).toNat/2251799813685248*aB:=by
 obtain⟨e0,e1,e2,e3,e4⟩:=yF l
 unfold nv5
 rw[e0,e1,e2,e3,e4]
 unfold aB
 generalize (l.getD 0 0).toNat=x0
 generalize (l.getD 1 0).toNat=x1
 generalize (l.getD 2 0).toNat=x2
 generalize (l.getD 3 0).toNat=x3
 generalize (l.getD 4 0).toNat=x4
 omega
theorem qT (l:List UInt64):fv (ci l)=fv l:=by
 unfold fv
 rw[aRR l,aZ0]
def adS (a b:List UInt64):Nat->List UInt64
 |0=>replicate 5 0
 |i+1=>(adS a b i).set i (a.getD i 0+b.getD i 0)
theorem aVX (a b:List UInt64):adS a b 5=[a.getD 0 0+b.getD 0 0,a.getD 1 0+b.getD 1 0,a.getD 2 0+b.getD 2 0,a.getD 3 0+b.getD 3 0,a.getD 4 0+b.getD 4 0]:=rfl
theorem nK (a b:List UInt64):∀i,(adS a b i).length=5
 |0=>rfl
 |i+1=>by show((adS a b i).set i _).length=5;rw[length_set];exact nK a b i
def wJ (a b:List UInt64):List UInt64:=ci (adS a b 5)
theorem ei (a b:List UInt64):Lb (wJ a b):=jC _
theorem kV {a b:List UInt64} (ha:Lb a) (hb:Lb b):fv (wJ a b)=fv a+fv b:=by
 unfold wJ
 rw[qT]
 unfold fv
 rw[<-af]
 congr 1
 obtain⟨_,a0,a1,a2,a3,a4⟩:=ha
 obtain⟨_,b0,b1,b2,b3,b4⟩:=hb
 unfold nv5
 rw[aVX]
 have e0:(a.getD 0 0+b.getD 0 0).toNat=(a.getD 0 0).toNat+(b.getD 0 0).toNat:=by rw[toNat_add];omega
 have e1:(a.getD 1 0+b.getD 1 0).toNat=(a.getD 1 0).toNat+(b.getD 1 0).toNat:=by rw[toNat_add];omega
 have e2:(a.getD 2 0+b.getD 2 0).toNat=(a.getD 2 0).toNat+(b.getD 2 0).toNat:=by rw[toNat_add];omega
 have e3:(a.getD 3 0+b.getD 3 0).toNat=(a.getD 3 0).toNat+(b.getD 3 0).toNat:=by rw[toNat_add];omega
 have e4:(a.getD 4 0+b.getD 4 0).toNat=(a.getD 4 0).toNat+(b.getD 4 0).toNat:=by rw[toNat_add];omega
 show(a.getD 0 0+b.getD 0 0).toNat+(a.getD 1 0+b.getD 1 0).toNat*_+(a.getD 2 0+b.getD 2 0).toNat*_+(a.getD 3 0+b.getD 3 0).toNat*_+(a.getD 4 0+b.getD 4 0).toNat*_=_
 rw[e0,e1,e2,e3,e4]
 generalize (a.getD 0 0).toNat=x0 at *
 generalize (a.getD 1 0).toNat=x1 at *
 generalize (a.getD 2 0).toNat=x2 at *
 generalize (a.getD 3 0).toNat=x3 at *
 generalize (a.getD 4 0).toNat=x4 at *
 omega
def sb0:List UInt64:=[ofNat 9007199254740916,ofNat 9007199254740988,ofNat 9007199254740988,ofNat 9007199254740988,ofNat 9007199254740988]
def sbS (a b:List UInt64):Nat->List UInt64
 |0=>sb0
 |i+1=>(sbS a b i).set i ((sbS a b i).getD i 0+(a.getD i 0-b.getD i 0))
theorem bT (a b:List UInt64):∀i,(sbS a b i).length=5
 |0=>rfl
 |i+1=>by show((sbS a b i).set i _).length=5;rw[length_set];exact bT a b i
theorem aSW (a b:List UInt64):sbS a b 5=[ofNat 9007199254740916+(a.getD 0 0-b.getD 0 0),ofNat 9007199254740988+(a.getD 1 0-b.getD 1 0),ofNat 9007199254740988+(a.getD 2 0-b.getD 2 0),ofNat 9007199254740988+(a.getD 3 0-b.getD 3 0),ofNat 9007199254740988+(a.getD 4 0-b.getD 4 0)]:=rfl
def tj (a b:List UInt64):List UInt64:=ci (sbS a b 5)
theorem dL (a b:List UInt64):Lb (tj a b):=jC _
theorem ln {x y:UInt64} (hx:x.toNat<4503599627370496) (hy:y.toNat<4503599627370496) {c:Nat} (h:4503599627370496<=c) (h':c<9007199254740992):(ofNat c+(x-y)).toNat+y.toNat=c+x.toNat:=by
 rw[toNat_add,UInt64.toNat_sub,toNat_ofNat']
 omega
theorem ic {a b:List UInt64} (ha:Lb a) (hb:Lb b):fv (tj a b)=fv a-fv b:=by
 have key:nv5 (sbS a b 5)+nv5 b=nv5 a+4*aB:=by
  obtain⟨_,a0,a1,a2,a3,a4⟩:=ha
  obtain⟨_,b0,b1,b2,b3,b4⟩:=hb
  have e0:=ln a0 b0 (c:=9007199254740916) (by omega) (by omega)
  have e1:=ln a1 b1 (c:=9007199254740988) (by omega) (by omega)
  have e2:=ln a2 b2 (c:=9007199254740988) (by omega) (by omega)
  have e3:=ln a3 b3 (c:=9007199254740988) (by omega) (by omega)
  have e4:=ln a4 b4 (c:=9007199254740988) (by omega) (by omega)
  unfold nv5
  rw[aSW]
  show(ofNat 9007199254740916+(a.getD 0 0-b.getD 0 0)).toNat+(ofNat 9007199254740988+(a.getD 1 0-b.getD 1 0)).toNat*_+(ofNat 9007199254740988+(a.getD 2 0-b.getD 2 0)).toNat*_+(ofNat 9007199254740988+(a.getD 3 0-b.getD 3 0)).toNat*_+(ofNat 9007199254740988+(a.getD 4 0-b.getD 4 0)).toNat*_+_=_
  generalize (ofNat 9007199254740916+(a.getD 0 0-b.getD 0 0)).toNat=y0 at *
  generalize (ofNat 9007199254740988+(a.getD 1 0-b.getD 1 0)).toNat=y1 at *
  generalize (ofNat 9007199254740988+(a.getD 2 0-b.getD 2 0)).toNat=y2 at *
  generalize (ofNat 9007199254740988+(a.getD 3 0-b.getD 3 0)).toNat=y3 at *
  generalize (ofNat 9007199254740988+(a.getD 4 0-b.getD 4 0)).toNat=y4 at *
  unfold aB
  omega
 unfold tj
 rw[qT]
 unfold fv
 have h:=congrArg fn key
 rw[af,aZ0]at h
 rw[<-h]
 exact gr
end Go.Cu
namespace Go.Cu
open Go Go.Sx
def muT (x y:UInt64):UInt64:=aF x 32*(y&&&ofNat 4294967295)+aF ((x&&&ofNat 4294967295)*(y&&&ofNat 4294967295)) 32
def muH (x y:UInt64):UInt64:=aF x 32*aF y 32+aF (muT x y) 32+aF ((muT x y&&&ofNat 4294967295)+(x&&&ofNat 4294967295)*aF y 32) 32
theorem ew {a b:Nat} (ha:a<4294967296) (hb:b<4294967296):a*b<=18446744065119617025:=by
 have:a*b<=4294967295*4294967295:=Nat.mul_le_mul (by omega) (by omega)
 omega
theorem sk (x1 x0 y1 y0:Nat):(x1*4294967296+x0)*(y1*4294967296+y0)=x1*y1*18446744073709551616+(x1*y0+x0*y1)*4294967296+x0*y0:=by
 rw[Nat.add_mul,Nat.mul_add,Nat.mul_add]
 have e1:x1*4294967296*(y1*4294967296)=x1*y1*18446744073709551616:=by
  rw[Nat.mul_assoc,Nat.mul_left_comm 4294967296,<-Nat.mul_assoc]
 have e2:x1*4294967296*y0=x1*y0*4294967296:=by rw[Nat.mul_right_comm]
 have e3:x0*(y1*4294967296)=x0*y1*4294967296:=by rw[Nat.mul_assoc]
 rw[e1,e2,e3]
 omega
theorem yU (x:UInt64):(x&&&ofNat 4294967295).toNat=x.toNat%4294967296:=by
 rw[UInt64.toNat_and,show(ofNat 4294967295).toNat=2^32-1 from rfl,Nat.and_two_pow_sub_one_eq_mod]
theorem aEL (x:UInt64):(aF x 32).toNat=x.toNat/4294967296:=bt x 32
theorem xQ (x y:UInt64):(muH x y).toNat=x.toNat*y.toNat/18446744073709551616:=by
 have hx:=x.toNat_lt
 have hy:=y.toNat_lt
 have sx:x.toNat=x.toNat/4294967296*4294967296+x.toNat%4294967296:=by omega
 have sy:y.toNat=y.toNat/4294967296*4294967296+y.toNat%4294967296:=by omega
 have ps:=sk (x.toNat/4294967296) (x.toNat%4294967296) (y.toNat/4294967296) (y.toNat%4294967296)
 rw[<-sx,<-sy]at ps
 have b11:=ew (a:=x.toNat/4294967296) (b:=y.toNat/4294967296) (by omega) (by omega)
 have b10:=ew (a:=x.toNat/4294967296) (b:=y.toNat%4294967296) (by omega) (by omega)
 have b01:=ew (a:=x.toNat%4294967296) (b:=y.toNat/4294967296) (by omega) (by omega)
 have b00:=ew (a:=x.toNat%4294967296) (b:=y.toNat%4294967296) (by omega) (by omega)
 unfold muH muT
 simp only[toNat_add,toNat_mul,yU,aEL]
 generalize x.toNat/4294967296*(y.toNat/4294967296)=p11 at *
 generalize x.toNat/4294967296*(y.toNat%4294967296)=p10 at *
 generalize x.toNat%4294967296*(y.toNat/4294967296)=p01 at *
 generalize x.toNat%4294967296*(y.toNat%4294967296)=p00 at *
 generalize x.toNat*y.toNat=P at *
 omega
theorem pg (x y:UInt64):(muH x y).toNat*18446744073709551616+(x*y).toNat=x.toNat*y.toNat:=by
 rw[xQ,toNat_mul]
 omega
theorem nJ (x y:UInt64):(gF x y 0).toNat+(oO x y 0).toNat*18446744073709551616=x.toNat+y.toNat:=by
 have:=x.toNat_lt
 have:=y.toNat_lt
 unfold gF oO
 rw[toNat_ofNat',toNat_ofNat',show(0:UInt64).toNat=0 from rfl]
 omega
abbrev W2:=UInt64×UInt64
def wV (w:W2):Nat:=w.1.toNat*18446744073709551616+w.2.toNat
theorem aDS (w:W2):wV w=w.1.toNat*18446744073709551616+w.2.toNat:=rfl
def aI (w:W2) (x y:UInt64):W2:=(gF w.1 (muH x y) (oO w.2 (x*y) 0),gF w.2 (x*y) 0)
theorem xT (w:W2) (x y:UInt64):(aI w x y).1=gF w.1 (muH x y) (oO w.2 (x*y) 0):=rfl
theorem xS (w:W2) (x y:UInt64):(aI w x y).2=gF w.2 (x*y) 0:=rfl
theorem aMU (x y c:UInt64):(gF x y c).toNat=(x.toNat+y.toNat+c.toNat)%18446744073709551616:=by
 unfold gF
 rw[toNat_ofNat']
theorem aF3 {W1 W2 H L P d s B:Nat} (hm:H*B+L=P) (a1:s+d*B=W2+L):(W1+H+d)*B+s=W1*B+W2+P:=by
 rw[Nat.add_mul,Nat.add_mul]
 generalize H*B=x at *
 generalize d*B=y at *
 generalize W1*B=z at *
 omega
theorem aK0 {W1 W2 H L P d s:Nat} (h:W1*18446744073709551616+W2+P<340282366920938463463374607431768211456) (hm:H*18446744073709551616+L=P) (a1:s+d*18446744073709551616=W2+L):
  (W1+H+d)%18446744073709551616*18446744073709551616+s=W1*18446744073709551616+W2+P:=by
 have hlt:W1+H+d<18446744073709551616:=by omega
 rw[mod_eq_of_lt hlt]
 clear hlt h
 exact aF3 hm a1
theorem pi {w:W2} {x y:UInt64} (h:wV w+x.toNat*y.toNat<340282366920938463463374607431768211456):wV (aI w x y)=wV w+x.toNat*y.toNat:=by
 have hm:=pg x y
 have a1:=nJ w.2 (x*y)
 rw[aDS]at h
 rw[aDS (aI w x y),aDS w,xT,xS,aMU]
 exact aK0 h hm a1
def muA (a b:List UInt64) (i k:Nat) (t:List W2):List W2:=
 if 5<=i+k then t.set (i+k-5) (aI (t.getD (i+k-5) (0,0)) (a.getD i 0) (ofNat 19*b.getD k 0))
 else t.set (i+k) (aI (t.getD (i+k) (0,0)) (a.getD i 0) (b.getD k 0))
def muR (a b:List UInt64) (i:Nat) (t:List W2):Nat->List W2
 |0=>t
 |k+1=>muA a b i k (muR a b i t k)
def muS (a b:List UInt64):Nat->List W2
 |0=>replicate 5 (0,0)
 |i+1=>muR a b i (muS a b i) 5
theorem mc {a b:List UInt64} {i:Nat} {t:List W2}:∀k,(muR a b i t k).length=t.length
 |0=>rfl
 |k+1=>by
  show(muA a b i k (muR a b i t k)).length=_
  unfold muA
  split <;>rw[length_set,mc k]
theorem rl (a b:List UInt64):∀i,(muS a b i).length=5
 |0=>rfl
 |i+1=>by show(muR a b i (muS a b i) 5).length=5;rw[mc,rl a b i]
attribute [irreducible] aI
theorem aXR (a b:List UInt64) (t0 t1 t2 t3 t4:W2):muR a b 0 [t0,t1,t2,t3,t4] 5=[aI t0 (a.getD 0 0) (b.getD 0 0),aI t1 (a.getD 0 0) (b.getD 1 0),aI t2 (a.getD 0 0) (b.getD 2 0),aI t3 (a.getD 0 0) (b.getD 3 0),aI t4 (a.getD 0 0) (b.getD 4 0)]:=rfl
theorem aXQ (a b:List UInt64) (t0 t1 t2 t3 t4:W2):muR a b 1 [t0,t1,t2,t3,t4] 5=[aI t0 (a.getD 1 0) (ofNat 19*b.getD 4 0),aI t1 (a.getD 1 0) (b.getD 0 0),aI t2 (a.getD 1 0) (b.getD 1 0),aI t3 (a.getD 1 0) (b.getD 2 0),aI t4 (a.getD 1 0) (b.getD 3 0)]:=rfl
theorem aXP (a b:List UInt64) (t0 t1 t2 t3 t4:W2):muR a b 2 [t0,t1,t2,t3,t4] 5=[aI t0 (a.getD 2 0) (ofNat 19*b.getD 3 0),aI t1 (a.getD 2 0) (ofNat 19*b.getD 4 0),aI t2 (a.getD 2 0) (b.getD 0 0),aI t3 (a.getD 2 0) (b.getD 1 0),aI t4 (a.getD 2 0) (b.getD 2 0)]:=rfl
theorem aXO (a b:List UInt64) (t0 t1 t2 t3 t4:W2):muR a b 3 [t0,t1,t2,t3,t4] 5=[aI t0 (a.getD 3 0) (ofNat 19*b.getD 2 0),aI t1 (a.getD 3 0) (ofNat 19*b.getD 3 0),aI t2 (a.getD 3 0) (ofNat 19*b.getD 4 0),aI t3 (a.getD 3 0) (b.getD 0 0),aI t4 (a.getD 3 0) (b.getD 1 0)]:=rfl
theorem aXN (a b:List UInt64) (t0 t1 t2 t3 t4:W2):muR a b 4 [t0,t1,t2,t3,t4] 5=[aI t0 (a.getD 4 0) (ofNat 19*b.getD 1 0),aI t1 (a.getD 4 0) (ofNat 19*b.getD 2 0),aI t2 (a.getD 4 0) (ofNat 19*b.getD 3 0),aI t3 (a.getD 4 0) (ofNat 19*b.getD 4 0),aI t4 (a.getD 4 0) (b.getD 0 0)]:=rfl
theorem aTW (a b:List UInt64):muS a b 5=
    [aI (aI (aI (aI (aI (0,0) (a.getD 0 0) (b.getD 0 0)) (a.getD 1 0) (ofNat 19*b.getD 4 0)) (a.getD 2 0) (ofNat 19*b.getD 3 0)) (a.getD 3 0) (ofNat 19*b.getD 2 0)) (a.getD 4 0) (ofNat 19*b.getD 1 0),
     aI (aI (aI (aI (aI (0,0) (a.getD 0 0) (b.getD 1 0)) (a.getD 1 0) (b.getD 0 0)) (a.getD 2 0) (ofNat 19*b.getD 4 0)) (a.getD 3 0) (ofNat 19*b.getD 3 0)) (a.getD 4 0) (ofNat 19*b.getD 2 0),
     aI (aI (aI (aI (aI (0,0) (a.getD 0 0) (b.getD 2 0)) (a.getD 1 0) (b.getD 1 0)) (a.getD 2 0) (b.getD 0 0)) (a.getD 3 0) (ofNat 19*b.getD 4 0)) (a.getD 4 0) (ofNat 19*b.getD 3 0),
     aI (aI (aI (aI (aI (0,0) (a.getD 0 0) (b.getD 3 0)) (a.getD 1 0) (b.getD 2 0)) (a.getD 2 0) (b.getD 1 0)) (a.getD 3 0) (b.getD 0 0)) (a.getD 4 0) (ofNat 19*b.getD 4 0),
     aI (aI (aI (aI (aI (0,0) (a.getD 0 0) (b.getD 4 0)) (a.getD 1 0) (b.getD 3 0)) (a.getD 2 0) (b.getD 2 0)) (a.getD 3 0) (b.getD 1 0)) (a.getD 4 0) (b.getD 0 0)]:=by
  show muR a b 4 (muR a b 3 (muR a b 2 (muR a b 1 (muR a b 0 [(0,0),(0,0),(0,0),(0,0),(0,0)] 5) 5) 5) 5) 5=_
  rw[aXR,aXQ,aXP,aXO,aXN]
theorem m19 {x:UInt64} (h:x.toNat<4503599627370496):(ofNat 19*x).toNat=19*x.toNat:=by
 rw[toNat_mul,show(ofNat 19).toNat=19 from rfl];omega
theorem pb1 {x y:Nat} (hx:x<4503599627370496) (hy:y<4503599627370496):x*y<=20282409603651661421847155900416:=by
 have:x*y<=4503599627370495*4503599627370495:=Nat.mul_le_mul (by omega) (by omega)
 omega
theorem aU1 {x0 x1 x2 x3 x4 y0 y1 y2 y3 y4:UInt64} {p0 p1 p2 p3 p4:Nat} (h0:x0.toNat*y0.toNat=p0) (h1:x1.toNat*y1.toNat=p1) (h2:x2.toNat*y2.toNat=p2) (h3:x3.toNat*y3.toNat=p3) (h4:x4.toNat*y4.toNat=p4)
  (hp:p0+p1+p2+p3+p4<340282366920938463463374607431768211456):
  wV (aI (aI (aI (aI (aI (0,0) x0 y0) x1 y1) x2 y2) x3 y3) x4 y4)=p0+p1+p2+p3+p4:=by
 have z:wV (0,0)=0:=rfl
 have a0:=pi (w:=(0,0)) (x:=x0) (y:=y0) (by rw[z,h0];omega)
 rw[z,h0]at a0
 have a1:=pi (w:=aI (0,0) x0 y0) (x:=x1) (y:=y1) (by rw[a0,h1];omega)
 rw[a0,h1]at a1
 have a2:=pi (w:=aI (aI (0,0) x0 y0) x1 y1) (x:=x2) (y:=y2) (by rw[a1,h2];omega)
 rw[a1,h2]at a2
 have a3:=pi (w:=aI (aI (aI (0,0) x0 y0) x1 y1) x2 y2) (x:=x3) (y:=y3) (by rw[a2,h3];omega)
 rw[a2,h3]at a3
 have a4:=pi (w:=aI (aI (aI (aI (0,0) x0 y0) x1 y1) x2 y2) x3 y3) (x:=x4) (y:=y4) (by rw[a3,h4];omega)
 rw[a3,h4]at a4
 rw[a4];omega
def cyS (t:List W2):Nat->List UInt64×UInt64
 |0=>(replicate 5 0,ofNat 0)
 |i+1=>
  ((cyS t i).1.set i (gF (t.getD i (0,0)).2 (cyS t i).2 0&&&ofNat 2251799813685247),
   aQ ((t.getD i (0,0)).1+oO (t.getD i (0,0)).2 (cyS t i).2 0) 13|||aF (gF (t.getD i (0,0)).2 (cyS t i).2 0) 51)
theorem r9 (t:List W2):∀i,(cyS t i).1.length=5
 |0=>rfl
 |i+1=>by show((cyS t i).1.set i _).length=5;rw[length_set];exact r9 t i
def cd (a b:List UInt64):List UInt64:=
 ci ((cyS (muS a b 5) 5).1.set 0 ((cyS (muS a b 5) 5).1.getD 0 0+(cyS (muS a b 5) 5).2*ofNat 19))
theorem aP (a b:List UInt64):Lb (cd a b):=jC _
theorem aTE {x y:UInt64} {k:Nat} (z:Nat) (hx:x.toNat=z*2^k) (hy:y.toNat<2^k):(x|||y).toNat=x.toNat+y.toNat:=by
 rw[UInt64.toNat_or,hx,Nat.mul_comm,Nat.two_pow_add_eq_or_of_lt hy]
theorem aRO {W1 W2 d s o:Nat} (_:W1*18446744073709551616+W2+o<41538374868278621028243970633760768) (a:s+d*18446744073709551616=W2+o):s%2251799813685248=(W1*18446744073709551616+W2+o)%2251799813685248:=by omega
theorem aRN {W1 W2 d s o:Nat} (h:W1*18446744073709551616+W2+o<41538374868278621028243970633760768) (a:s+d*18446744073709551616=W2+o):(W1+d)*8192+s/2251799813685248=(W1*18446744073709551616+W2+o)/2251799813685248/\W1+d<2251799813685248:=by omega
theorem aRM {x:Nat} (h:x<2251799813685248):x*2^13<18446744073709551616:=by omega
theorem qQ {w:W2} {o:UInt64} (h:wV w+o.toNat<41538374868278621028243970633760768):
  (gF w.2 o 0&&&ofNat 2251799813685247).toNat=(wV w+o.toNat)%2251799813685248
  /\(aQ (w.1+oO w.2 o 0) 13|||aF (gF w.2 o 0) 51).toNat=(wV w+o.toNat)/2251799813685248:=by
 have a:=nJ w.2 o
 have hs:=(gF w.2 o 0).toNat_lt
 rw[aDS]at h
 rw[aDS]
 refine⟨?_,?_⟩
 ·rw[gI];exact aRO h a
 obtain⟨k1,k2⟩:=aRN h a
 have e1:(w.1+oO w.2 o 0).toNat=w.1.toNat+(oO w.2 o 0).toNat:=by
  rw[toNat_add];exact mod_eq_of_lt (by omega)
 have e2:(aQ (w.1+oO w.2 o 0) 13).toNat=(w.1.toNat+(oO w.2 o 0).toNat)*2^13:=by
  rw[wq,e1]
  exact mod_eq_of_lt (aRM k2)
 have e3:(aF (gF w.2 o 0) 51).toNat<2^13:=by
  rw[jd];show _<8192;omega
 rw[aTE _ e2 e3,e2,jd]
 exact k1
end Go.Cu
namespace Go.Cu
open Go Go.Sx
def rF:F:=2251799813685248
theorem r5:rF * rF * rF * rF * rF = 19:=by decide +kernel
theorem aZZ:fn 2251799813685248 = rF:=by decide +kernel
theorem aX9:fn 5070602400912917605986812821504 = rF * rF:=by decide +kernel
theorem aX8:fn 11417981541647679048466287755595961091061972992 = rF * rF * rF:=by decide +kernel
theorem aX7:fn 25711008708143844408671393477458601640355247900524685364822016 = rF * rF * rF * rF:=by decide +kernel
theorem aUJ:fn 19 = 19:=by decide +kernel
def lf (l:List UInt64) (i:Nat):F:=fn (l.getD i 0).toNat
theorem aHB (l:List UInt64):fv l=lf l 0+lf l 1*rF+lf l 2*(rF*rF)+lf l 3*(rF*rF*rF)+lf l 4*(rF*rF*rF*rF):=by
 unfold fv nv5 lf
 rw[af,af,af,af,lV,lV,lV,lV,aZZ,aX9,aX8,aX7]
theorem aT0 {l:List UInt64} (h:Lb l):∀i,i<5->(l.getD i 0).toNat<4503599627370496:=by
 intro i hi
 obtain⟨_,h0,h1,h2,h3,h4⟩:=h
 match i,hi with
 |0,_=>exact h0
 |1,_=>exact h1
 |2,_=>exact h2
 |3,_=>exact h3
 |4,_=>exact h4
theorem pm (x y:UInt64) (hy:y.toNat<4503599627370496):x.toNat*(ofNat 19*y).toNat=19*(x.toNat*y.toNat):=by
 rw[m19 hy,Nat.mul_left_comm]
theorem aQD {a b:List UInt64} (ha:Lb a) (hb:Lb b):
  ∃v0 v1 v2 v3 v4:Nat,wV ((muS a b 5).getD 0 (0,0))=v0/\wV ((muS a b 5).getD 1 (0,0))=v1/\wV ((muS a b 5).getD 2 (0,0))=v2/\wV ((muS a b 5).getD 3 (0,0))=v3/\wV ((muS a b 5).getD 4 (0,0))=v4
   /\v0<2596148429267413814265248164610048/\v1<2596148429267413814265248164610048/\v2<2596148429267413814265248164610048/\v3<2596148429267413814265248164610048/\v4<162259276829213363391578010288128
   /\fn v0=lf a 0*lf b 0+19*(lf a 1*lf b 4)+19*(lf a 2*lf b 3)+19*(lf a 3*lf b 2)+19*(lf a 4*lf b 1)
   /\fn v1=lf a 0*lf b 1+lf a 1*lf b 0+19*(lf a 2*lf b 4)+19*(lf a 3*lf b 3)+19*(lf a 4*lf b 2)
   /\fn v2=lf a 0*lf b 2+lf a 1*lf b 1+lf a 2*lf b 0+19*(lf a 3*lf b 4)+19*(lf a 4*lf b 3)
   /\fn v3=lf a 0*lf b 3+lf a 1*lf b 2+lf a 2*lf b 1+lf a 3*lf b 0+19*(lf a 4*lf b 4)
   /\fn v4=lf a 0*lf b 4+lf a 1*lf b 3+lf a 2*lf b 2+lf a 3*lf b 1+lf a 4*lf b 0:=by
 have la:=aT0 ha
 have lb:=aT0 hb
 have q:∀i k,i<5->k<5->(a.getD i 0).toNat*(b.getD k 0).toNat<=20282409603651661421847155900416:=λi k hi hk=>pb1 (la i hi) (lb k hk)
 have p:∀i k,k<5->(a.getD i 0).toNat*(ofNat 19*b.getD k 0).toNat=19*((a.getD i 0).toNat*(b.getD k 0).toNat):=λi k hk=>pm _ _ (lb k hk)
 have f:∀i k,fn ((a.getD i 0).toNat*(b.getD k 0).toNat)=lf a i*lf b k:=λi k=>lV _ _
 have g:∀i k,fn (19*((a.getD i 0).toNat*(b.getD k 0).toNat))=19*(lf a i*lf b k):=λi k=>by rw[lV,f,aUJ]
 rw[aTW]
 have q00:=q 0 0 (by omega) (by omega)
 have q01:=q 0 1 (by omega) (by omega)
 have q02:=q 0 2 (by omega) (by omega)
 have q03:=q 0 3 (by omega) (by omega)
 have q04:=q 0 4 (by omega) (by omega)
 have q10:=q 1 0 (by omega) (by omega)
 have q11:=q 1 1 (by omega) (by omega)
 have q12:=q 1 2 (by omega) (by omega)
 have q13:=q 1 3 (by omega) (by omega)
 have q14:=q 1 4 (by omega) (by omega)
 have q20:=q 2 0 (by omega) (by omega)
 have q21:=q 2 1 (by omega) (by omega)
 have q22:=q 2 2 (by omega) (by omega)
 have q23:=q 2 3 (by omega) (by omega)
 have q24:=q 2 4 (by omega) (by omega)
 have q30:=q 3 0 (by omega) (by omega)
 have q31:=q 3 1 (by omega) (by omega)
 have q32:=q 3 2 (by omega) (by omega)
 have q33:=q 3 3 (by omega) (by omega)
 have q34:=q 3 4 (by omega) (by omega)
 have q40:=q 4 0 (by omega) (by omega)
 have q41:=q 4 1 (by omega) (by omega)
 have q42:=q 4 2 (by omega) (by omega)
 have q43:=q 4 3 (by omega) (by omega)
 have q44:=q 4 4 (by omega) (by omega)
 refine⟨_,_,_,_,_,aU1 rfl (p 1 4 (by omega)) (p 2 3 (by omega)) (p 3 2 (by omega)) (p 4 1 (by omega)) (by omega),aU1 rfl rfl (p 2 4 (by omega)) (p 3 3 (by omega)) (p 4 2 (by omega)) (by omega),
  aU1 rfl rfl rfl (p 3 4 (by omega)) (p 4 3 (by omega)) (by omega),aU1 rfl rfl rfl rfl (p 4 4 (by omega)) (by omega),aU1 rfl rfl rfl rfl rfl (by omega),by omega,by omega,by omega,by omega,by omega,?_,?_,?_,?_,?_⟩
 ·rw[af,af,af,af,f,g,g,g,g]
 ·rw[af,af,af,af,f,f,g,g,g]
 ·rw[af,af,af,af,f,f,f,g,g]
 ·rw[af,af,af,af,f,f,f,f,g]
 rw[af,af,af,af,f,f,f,f,f]
theorem aHE (x:Nat):fn (x%2251799813685248)=fn x-rF*fn (x/2251799813685248):=by
 have h:fn (2251799813685248*(x/2251799813685248)+x%2251799813685248)=fn x:=by rw[Nat.div_add_mod]
 rw[af,lV,aZZ]at h
 exact gr
theorem aaW {o0 o1 o2 o3 o4 o5 v0 v1 v2 v3 v4 r c0 c1 c2 c3 c4:F} (h0:o0=0) (hr:r*r*r*r*r=19) (e0:c0=v0+o0-r*o1) (e1:c1=v1+o1-r*o2) (e2:c2=v2+o2-r*o3) (e3:c3=v3+o3-r*o4) (e4:c4=v4+o4-r*o5):
  c0+o5*19+c1*r+c2*(r*r)+c3*(r*r*r)+c4*(r*r*r*r)=v0+v1*r+v2*(r*r)+v3*(r*r*r)+v4*(r*r*r*r):=by
 subst e0 e1 e2 e3 e4 h0;exact gr
theorem aW8 {a0 a1 a2 a3 a4 b0 b1 b2 b3 b4 r:F} (hr:r*r*r*r*r=19):
  (a0*b0+19*(a1*b4)+19*(a2*b3)+19*(a3*b2)+19*(a4*b1))+(a0*b1+a1*b0+19*(a2*b4)+19*(a3*b3)+19*(a4*b2))*r+(a0*b2+a1*b1+a2*b0+19*(a3*b4)+19*(a4*b3))*(r*r)+(a0*b3+a1*b2+a2*b1+a3*b0+19*(a4*b4))*(r*r*r)+(a0*b4+a1*b3+a2*b2+a3*b1+a4*b0)*(r*r*r*r)
   =(a0+a1*r+a2*(r*r)+a3*(r*r*r)+a4*(r*r*r*r))*(b0+b1*r+b2*(r*r)+b3*(r*r*r)+b4*(r*r*r*r)):=by
 exact gr
theorem dh (t:List W2) (i:Nat):cyS t (i+1)=((cyS t i).1.set i (gF (t.getD i (0,0)).2 (cyS t i).2 0&&&ofNat 2251799813685247),
   aQ ((t.getD i (0,0)).1+oO (t.getD i (0,0)).2 (cyS t i).2 0) 13|||aF (gF (t.getD i (0,0)).2 (cyS t i).2 0) 51):=rfl
theorem aVE (t:List W2):(cyS t 5).1=[gF (t.getD 0 (0,0)).2 (cyS t 0).2 0&&&ofNat 2251799813685247,gF (t.getD 1 (0,0)).2 (cyS t 1).2 0&&&ofNat 2251799813685247,gF (t.getD 2 (0,0)).2 (cyS t 2).2 0&&&ofNat 2251799813685247,
   gF (t.getD 3 (0,0)).2 (cyS t 3).2 0&&&ofNat 2251799813685247,gF (t.getD 4 (0,0)).2 (cyS t 4).2 0&&&ofNat 2251799813685247]:=by
 rw[dh t 4,dh t 3]
 generalize (cyS t 4).2=o4
 rw[dh t 2]
 generalize (cyS t 3).2=o3
 rw[dh t 1]
 generalize (cyS t 2).2=o2
 rw[dh t 0]
 generalize (cyS t 1).2=o1
 rfl
theorem tH {v o:Nat} (h:v<2596148429267413814265248164610048) (ho:o<=1152921504606848000):v+o<41538374868278621028243970633760768/\(v+o)/2251799813685248<=1152921504606848000:=by omega
theorem aK6 {v o:Nat} (h:v<162259276829213363391578010288128) (ho:o<=1152921504606848000):v+o<41538374868278621028243970633760768/\(v+o)/2251799813685248<=144115188075855872:=by omega
theorem ak {a b:List UInt64} (ha:Lb a) (hb:Lb b):fv (cd a b)=fv a*fv b:=by
 obtain⟨v0,v1,v2,v3,v4,w0,w1,w2,w3,w4,b0,b1,b2,b3,b4,f0,f1,f2,f3,f4⟩:=aQD ha hb
 unfold cd
 rw[qT]
 generalize muS a b 5=t at *
 have z0:((cyS t 0).2).toNat=0:=rfl
 have l0:=tH b0 (o:=((cyS t 0).2).toNat) (by omega)
 have s0:=qQ (w:=t.getD 0 (0,0)) (o:=(cyS t 0).2) (by rw[w0];exact l0.1)
 rw[w0]at s0
 have o1:((cyS t 1).2).toNat=(v0+((cyS t 0).2).toNat)/2251799813685248:=by rw[dh];exact s0.2
 have l1:=tH b1 (o:=((cyS t 1).2).toNat) (by rw[o1];exact l0.2)
 have s1:=qQ (w:=t.getD 1 (0,0)) (o:=(cyS t 1).2) (by rw[w1];exact l1.1)
 rw[w1]at s1
 have o2:((cyS t 2).2).toNat=(v1+((cyS t 1).2).toNat)/2251799813685248:=by rw[dh];exact s1.2
 have l2:=tH b2 (o:=((cyS t 2).2).toNat) (by rw[o2];exact l1.2)
 have s2:=qQ (w:=t.getD 2 (0,0)) (o:=(cyS t 2).2) (by rw[w2];exact l2.1)
 rw[w2]at s2
 have o3:((cyS t 3).2).toNat=(v2+((cyS t 2).2).toNat)/2251799813685248:=by rw[dh];exact s2.2
 have l3:=tH b3 (o:=((cyS t 3).2).toNat) (by rw[o3];exact l2.2)
 have s3:=qQ (w:=t.getD 3 (0,0)) (o:=(cyS t 3).2) (by rw[w3];exact l3.1)
 rw[w3]at s3
 have o4:((cyS t 4).2).toNat=(v3+((cyS t 3).2).toNat)/2251799813685248:=by rw[dh];exact s3.2
 have l4:=aK6 b4 (o:=((cyS t 4).2).toNat) (by rw[o4];exact l3.2)
 have s4:=qQ (w:=t.getD 4 (0,0)) (o:=(cyS t 4).2) (by rw[w4];exact l4.1)
 rw[w4]at s4
 have o5:((cyS t 5).2).toNat=(v4+((cyS t 4).2).toNat)/2251799813685248:=by rw[dh];exact s4.2
 have h5:((cyS t 5).2).toNat<=144115188075855872:=by rw[o5];exact l4.2
 rw[aVE]
 generalize (cyS t 5).2=O5 at *
 generalize (cyS t 4).2=O4 at *
 generalize (cyS t 3).2=O3 at *
 generalize (cyS t 2).2=O2 at *
 generalize (cyS t 1).2=O1 at *
 generalize (cyS t 0).2=O0 at *
 rw[aHB]
 have c0:lf ([gF (t.getD 0 (0,0)).2 O0 0&&&ofNat 2251799813685247,gF (t.getD 1 (0,0)).2 O1 0&&&ofNat 2251799813685247,gF (t.getD 2 (0,0)).2 O2 0&&&ofNat 2251799813685247,gF (t.getD 3 (0,0)).2 O3 0&&&ofNat 2251799813685247,gF (t.getD 4 (0,0)).2 O4 0&&&ofNat 2251799813685247].set 0 ((gF (t.getD 0 (0,0)).2 O0 0&&&ofNat 2251799813685247)+O5*ofNat 19)) 0
   =fn ((v0+O0.toNat)%2251799813685248)+fn O5.toNat*19:=by
  show fn ((gF (t.getD 0 (0,0)).2 O0 0&&&ofNat 2251799813685247)+O5*ofNat 19).toNat=_
  rw[toNat_add,toNat_mul,s0.1,show(ofNat 19).toNat=19 from rfl,<-aUJ,<-lV,<-af]
  congr 1
  rw[mod_eq_of_lt (show O5.toNat*19<2^64 by omega)]
  exact mod_eq_of_lt (by omega)
 have key:fv (List.set [gF (t.getD 0 (0,0)).2 O0 0&&&ofNat 2251799813685247,gF (t.getD 1 (0,0)).2 O1 0&&&ofNat 2251799813685247,gF (t.getD 2 (0,0)).2 O2 0&&&ofNat 2251799813685247,gF (t.getD 3 (0,0)).2 O3 0&&&ofNat 2251799813685247,gF (t.getD 4 (0,0)).2 O4 0&&&ofNat 2251799813685247] 0 ((gF (t.getD 0 (0,0)).2 O0 0&&&ofNat 2251799813685247)+O5*ofNat 19))
   =(fn ((v0+O0.toNat)%2251799813685248)+fn O5.toNat*19)+fn ((v1+O1.toNat)%2251799813685248)*rF+fn ((v2+O2.toNat)%2251799813685248)*(rF*rF)+fn ((v3+O3.toNat)%2251799813685248)*(rF*rF*rF)+fn ((v4+O4.toNat)%2251799813685248)*(rF*rF*rF*rF):=by
  rw[aHB,c0,<-s1.1,<-s2.1,<-s3.1,<-s4.1]
  rfl
 rw[<-aHB]
 refine key.trans ?_
 rw[aHE,aHE,aHE,aHE,aHE,<-o1,<-o2,<-o3,<-o4,<-o5,af,af,af,af,af]
 rw[aaW (o0:=fn O0.toNat) (by rw[z0];rfl) r5 rfl rfl rfl rfl rfl,f0,f1,f2,f3,f4,aW8 r5,<-aHB,<-aHB]
end Go.Cu
namespace Go.Cu
open Go Go.Sx
def aXC:List UInt64:=[ofNat 1,0,0,0,0]
theorem aPX:Lb aXC:=⟨rfl,by decide,by decide,by decide,by decide,by decide⟩
theorem aPY:fv aXC = 1:=by decide +kernel
def aDG (k i:Nat):Prop:=(k-1)/2^i%2=0\/10<i
instance (k i:Nat):Decidable (aDG k i):=by unfold aDG;exact inferInstance
def pwS (a:List UInt64) (n k:Nat):Nat->List UInt64
 |0=>aXC
 |j+1=>if aDG k (n-1-j)then cd (cd (pwS a n k j) (pwS a n k j)) a else cd (pwS a n k j) (pwS a n k j)
def exN (n k:Nat):Nat->Nat
 |0=>0
 |j+1=>if aDG k (n-1-j)then 2*exN n k j+1 else 2*exN n k j
theorem ui (a:List UInt64) (n k:Nat):∀j,Lb (pwS a n k j)
 |0=>aPX
 |j+1=>by unfold pwS;split <;>exact aP _ _
theorem zJ {a:List UInt64} (ha:Lb a) (n k:Nat):∀j,fv (pwS a n k j)=pw (fv a) (exN n k j)
 |0=>aPY
 |j+1=>by
  have ih:=zJ ha n k j
  have hb:=ui a n k j
  have h2:fv (cd (pwS a n k j) (pwS a n k j))=pw (fv a) (2*exN n k j):=by
   rw[ak hb hb,ih,<-rZ];congr 1;omega
  unfold pwS exN
  split
  ·rw[ak (aP _ _) ha,h2];rfl
  exact h2
def aN2 (a:List UInt64):List UInt64:=pwS a 255 21 255
theorem xu (a:List UInt64):Lb (aN2 a):=ui _ _ _ _
theorem aU4:exN 255 21 255 = aB - 2:=by decide +kernel
theorem aG4 {a:List UInt64} (ha:Lb a):fv (aN2 a)=inv (fv a):=by
 unfold aN2
 rw[zJ ha,aU4,aG3]
def lv:List UInt8->Nat
 |[]=>0
 |b::r=>b.toNat+256*lv r
def leN (v:Nat):Nat->List UInt8
 |0=>[]
 |n+1=>UInt8.ofNat v::leN (v/256) n
theorem mo:∀n v,(leN v n).length=n
 |0,_=>rfl
 |n+1,v=>by show(leN (v/256) n).length+1=n+1;rw[mo n]
theorem aNS:∀n v,lv (leN v n)=v%256^n
 |0,v=>by show 0=v%1;rw[Nat.mod_one]
 |n+1,v=>by
  show(UInt8.ofNat v).toNat+256*lv (leN (v/256) n)=v%256^(n+1)
  have h:(UInt8.ofNat v).toNat=v%256:=UInt8.toNat_ofNat'
  rw[aNS n,h,Nat.pow_succ',Nat.mod_mul]
theorem tK:∀n v i,i<n->(leN v n).getD i 0=UInt8.ofNat (v/256^i)
 |n+1,v,0,_=>by show UInt8.ofNat v=UInt8.ofNat (v/1);rw[div_one]
 |n+1,v,i+1,h=>by
  show(leN (v/256) n).getD i 0=_
  rw[tK n (v/256) i (by omega),Nat.div_div_eq_div_mul,Nat.pow_succ']
def leB (x:F):List UInt8:=leN x.val 32
theorem aj (x:F):(leB x).length=32:=mo _ _
theorem ux (x:F):lv (leB x)=x.val:=by
 have h:=x.isLt
 unfold leB
 rw[aNS]
 exact mod_eq_of_lt (lt_trans h (by decide))
def qS (l:List UInt64):Nat->UInt64
 |0=>ofNat 19
 |i+1=>aF (l.getD i 0+qS l i) 51
def nmS (l:List UInt64):Nat->List UInt64
 |0=>l
 |i+1=>((nmS l i).set (i+1) ((nmS l i).getD (i+1) 0+aF ((nmS l i).getD i 0) 51)).set i (((nmS l i).set (i+1) ((nmS l i).getD (i+1) 0+aF ((nmS l i).getD i 0) 51)).getD i 0&&&ofNat 2251799813685247)
theorem rh (l:List UInt64) (h:l.length=5):∀i,(nmS l i).length=5
 |0=>h
 |i+1=>by show(List.set (List.set _ _ _) _ _).length=5;rw[length_set,length_set];exact rh l h i
def wdL (l:List UInt64):List UInt64:=
 [l.getD 0 0|||aQ (l.getD 1 0) 51,aF (l.getD 1 0) 13|||aQ (l.getD 2 0) 38,aF (l.getD 2 0) 26|||aQ (l.getD 3 0) 25,aF (l.getD 3 0) 39|||aQ (l.getD 4 0) 12]
def byS (t:List UInt64):Nat->List UInt8
 |0=>replicate 32 0
 |i+1=>(byS t i).set i (aF (t.getD (i/8) 0) (i%8*8)).toUInt8
theorem byS_length (t:List UInt64):∀i,(byS t i).length=32
 |0=>rfl
 |i+1=>by show((byS t i).set i _).length=32;rw[length_set];exact byS_length t i
def frL (l:List UInt64):List UInt64:=l.set 0 (l.getD 0 0+ofNat 19*qS l 5)
def nmL (l:List UInt64):List UInt64:=(nmS (frL l) 4).set 4 ((nmS (frL l) 4).getD 4 0&&&ofNat 2251799813685247)
def aWL (l:List UInt64):List UInt8:=byS (wdL (nmL (ci (ci l)))) 32
theorem aAS (t:List UInt64):∀n i,i<n->n<=32->(byS t n).getD i 0=(aF (t.getD (i/8) 0) (i%8*8)).toUInt8
 |n+1,i,h,hn=>by
  show((byS t n).set n _).getD i 0=_
  by_cases hi:i=n
  ·subst hi
   rw[getD_eq_getElem?_getD,List.getElem?_set_self (by rw[byS_length];omega)];rfl
  rw[getD_eq_getElem?_getD,List.getElem?_set_ne (by omega),<-getD_eq_getElem?_getD]
  exact aAS t n i (by omega) (by omega)
theorem oI {A B:List UInt8} {n:Nat} (ha:A.length=n) (hb:B.length=n) (h:∀i,i<n->A.getD i 0=B.getD i 0):A=B:=by
 apply List.ext_getElem (by rw[ha,hb])
 intro i h1 h2
 have:=h i (by omega)
 rw[getD_eq_getElem?_getD,getD_eq_getElem?_getD,List.getElem?_eq_getElem h1,List.getElem?_eq_getElem h2]at this
 exact this
theorem aRT {t:List UInt64} {v:Nat} (h:∀j,j<4->(t.getD j 0).toNat=v/18446744073709551616^j%18446744073709551616):byS t 32=leN v 32:=by
 refine oI (n:=32) (byS_length _ _) (mo _ _) λi hi=>?_
 rw[aAS t 32 i hi (Nat.le_refl _),tK 32 v i hi]
 apply UInt8.toNat_inj.1
 rw[UInt64.toNat_toUInt8,bt,h (i/8) (by omega),UInt8.toNat_ofNat']
 have e256:(256:Nat)^i=18446744073709551616^(i/8)*2^(i%8*8):=by
  rw[show(256:Nat)=2^8 from rfl,show(18446744073709551616:Nat)=2^64 from rfl,<-pow_mul,<-pow_mul,<-pow_add]
  congr 1;omega
 rw[e256,<-Nat.div_div_eq_div_mul]
 generalize v/18446744073709551616^(i/8)=w
 have hm:i%8<8:=mod_lt _ (by omega)
 generalize i%8=m at hm
 have:m=0\/m=1\/m=2\/m=3\/m=4\/m=5\/m=6\/m=7:=by omega
 rcases this with rfl|rfl|rfl|rfl|rfl|rfl|rfl|rfl<;>(simp only[Nat.reduceMul,Nat.reducePow];omega)
end Go.Cu
namespace Go.Cu
open Go Go.Sx
theorem io {x y:UInt64} {k:Nat} (z:Nat) (hy:y.toNat=z*2^k) (hx:x.toNat<2^k):(x|||y).toNat=x.toNat+y.toNat:=by
 rw[UInt64.toNat_or,Nat.or_comm,hy,Nat.mul_comm,Nat.add_comm,Nat.two_pow_add_eq_or_of_lt hx]
theorem cj (x:UInt64) {k:Nat} (hk:k<=64):(aQ x k).toNat=x.toNat%2^(64-k)*2^k:=by
 rw[wq,show(18446744073709551616:Nat)=2^(64-k)*2^k by rw[<-pow_add,Nat.sub_add_cancel hk],Nat.mul_mod_mul_right]
theorem aW7 {x0 x1 x2 x3 x4 q1 q2 q3 q4 q5:Nat} (h1:q1=(x0+19)/2251799813685248) (h2:q2=(x1+q1)/2251799813685248) (h3:q3=(x2+q2)/2251799813685248) (h4:q4=(x3+q3)/2251799813685248) (h5:q5=(x4+q4)/2251799813685248):
  q5*57896044618658097711785492504343953926634992332820282019728792003956564819968<=x0+x1*2251799813685248+x2*5070602400912917605986812821504+x3*11417981541647679048466287755595961091061972992+x4*25711008708143844408671393477458601640355247900524685364822016+19
  /\x0+x1*2251799813685248+x2*5070602400912917605986812821504+x3*11417981541647679048466287755595961091061972992+x4*25711008708143844408671393477458601640355247900524685364822016+19<(q5+1)*57896044618658097711785492504343953926634992332820282019728792003956564819968:=by omega
theorem aXL {x0 x1 x2 x3 x4 y1 y2 y3 y4:Nat} (h1:y1=x1+x0/2251799813685248) (h2:y2=x2+y1/2251799813685248) (h3:y3=x3+y2/2251799813685248) (h4:y4=x4+y3/2251799813685248):
  x0%2251799813685248+y1%2251799813685248*2251799813685248+y2%2251799813685248*5070602400912917605986812821504+y3%2251799813685248*11417981541647679048466287755595961091061972992+y4%2251799813685248*25711008708143844408671393477458601640355247900524685364822016
   =(x0+x1*2251799813685248+x2*5070602400912917605986812821504+x3*11417981541647679048466287755595961091061972992+x4*25711008708143844408671393477458601640355247900524685364822016)%57896044618658097711785492504343953926634992332820282019728792003956564819968:=by omega
theorem aWN {v q:Nat} (hv:v<86844066927987146567678238756515930889952488499230423029593188005934847229952) (h1:q*57896044618658097711785492504343953926634992332820282019728792003956564819968<=v+19) (h2:v+19<(q+1)*57896044618658097711785492504343953926634992332820282019728792003956564819968):
  (v+19*q)%57896044618658097711785492504343953926634992332820282019728792003956564819968=v%57896044618658097711785492504343953926634992332820282019728792003956564819949/\q<=1:=by
 have hq:q<=1:=by omega
 refine⟨?_,hq⟩
 rcases(by omega:q=0\/q=1)with rfl|rfl<;>omega
def L51 (l:List UInt64):Prop:=(l.getD 0 0).toNat<2251799813685248/\(l.getD 1 0).toNat<2251799813685248/\(l.getD 2 0).toNat<2251799813685248/\(l.getD 3 0).toNat<2251799813685248/\(l.getD 4 0).toNat<2251799813685248
theorem aUI {x0 x1 x2 x3 x4:UInt64}:frL [x0,x1,x2,x3,x4]=[x0+ofNat 19*qS [x0,x1,x2,x3,x4] 5,x1,x2,x3,x4]:=rfl
theorem aP6 {x0 x1 x2 x3 x4:UInt64} {y1 y2 y3 y4:UInt64} (h1:y1=x1+aF x0 51) (h2:y2=x2+aF y1 51) (h3:y3=x3+aF y2 51) (h4:y4=x4+aF y3 51):
  (nmS [x0,x1,x2,x3,x4] 4).set 4 ((nmS [x0,x1,x2,x3,x4] 4).getD 4 0&&&ofNat 2251799813685247)
   =[x0&&&ofNat 2251799813685247,y1&&&ofNat 2251799813685247,y2&&&ofNat 2251799813685247,y3&&&ofNat 2251799813685247,y4&&&ofNat 2251799813685247]:=by
 have s1:nmS [x0,x1,x2,x3,x4] 1=[x0&&&ofNat 2251799813685247,y1,x2,x3,x4]:=by rw[h1];rfl
 have s2:nmS [x0,x1,x2,x3,x4] 2=[x0&&&ofNat 2251799813685247,y1&&&ofNat 2251799813685247,y2,x3,x4]:=by
  rw[h2];show List.set (List.set (nmS [x0,x1,x2,x3,x4] 1) 2 _) 1 _=_;rw[s1];rfl
 have s3:nmS [x0,x1,x2,x3,x4] 3=[x0&&&ofNat 2251799813685247,y1&&&ofNat 2251799813685247,y2&&&ofNat 2251799813685247,y3,x4]:=by
  rw[h3];show List.set (List.set (nmS [x0,x1,x2,x3,x4] 2) 3 _) 2 _=_;rw[s2];rfl
 have s4:nmS [x0,x1,x2,x3,x4] 4=[x0&&&ofNat 2251799813685247,y1&&&ofNat 2251799813685247,y2&&&ofNat 2251799813685247,y3&&&ofNat 2251799813685247,y4]:=by
  rw[h4];show List.set (List.set (nmS [x0,x1,x2,x3,x4] 3) 4 _) 3 _=_;rw[s3];rfl
 rw[s4];rfl
theorem aRE {l:List UInt64} (h:l.length=5):∃x0 x1 x2 x3 x4,l=[x0,x1,x2,x3,x4]:=by
 match l,h with
 |[x0,x1,x2,x3,x4],_=>exact⟨x0,x1,x2,x3,x4,rfl⟩
theorem aML (l:List UInt64):((ci (ci l)).getD 0 0).toNat<=2251799813685266/\((ci (ci l)).getD 1 0).toNat<=2251799813685248/\((ci (ci l)).getD 2 0).toNat<=2251799813685248/\((ci (ci l)).getD 3 0).toNat<=2251799813685248/\((ci (ci l)).getD 4 0).toNat<=2251799813685248:=by
 obtain⟨e0,e1,e2,e3,e4⟩:=yF (ci l)
 obtain⟨_,h0,h1,h2,h3,h4⟩:=jC l
 rw[e0,e1,e2,e3,e4]
 clear e0 e1 e2 e3 e4
 refine⟨?_,?_,?_,?_,?_⟩<;>omega
theorem aP5 (l:List UInt64):nv5 (nmL (ci (ci l)))=(fv l).val/\L51 (nmL (ci (ci l))):=by
 have hb:=aML l
 have hf:fv (ci (ci l))=fv l:=by rw[qT,qT]
 obtain⟨x0,x1,x2,x3,x4,hx⟩:=aRE (jC (ci l)).1
 rw[hx]at hb hf⊢
 obtain⟨b0,b1,b2,b3,b4⟩:=hb
 have b0:x0.toNat<=2251799813685266:=b0
 have b1:x1.toNat<=2251799813685248:=b1
 have b2:x2.toNat<=2251799813685248:=b2
 have b3:x3.toNat<=2251799813685248:=b3
 have b4:x4.toNat<=2251799813685248:=b4
 obtain⟨q1,hq1⟩:∃q,q=aF (x0+ofNat 19) 51:=⟨_,rfl⟩
 obtain⟨q2,hq2⟩:∃q,q=aF (x1+q1) 51:=⟨_,rfl⟩
 obtain⟨q3,hq3⟩:∃q,q=aF (x2+q2) 51:=⟨_,rfl⟩
 obtain⟨q4,hq4⟩:∃q,q=aF (x3+q3) 51:=⟨_,rfl⟩
 obtain⟨q5,hq5⟩:∃q,q=aF (x4+q4) 51:=⟨_,rfl⟩
 have hq:qS [x0,x1,x2,x3,x4] 5=q5:=by rw[hq5,hq4,hq3,hq2,hq1];rfl
 have v1:q1.toNat=(x0.toNat+19)/2251799813685248:=by rw[hq1,jd,toNat_add,show(ofNat 19).toNat=19 from rfl];congr 1;omega
 have v2:q2.toNat=(x1.toNat+q1.toNat)/2251799813685248:=by rw[hq2,jd,toNat_add];congr 1;omega
 have v3:q3.toNat=(x2.toNat+q2.toNat)/2251799813685248:=by rw[hq3,jd,toNat_add];congr 1;omega
 have v4:q4.toNat=(x3.toNat+q3.toNat)/2251799813685248:=by rw[hq4,jd,toNat_add];congr 1;omega
 have v5:q5.toNat=(x4.toNat+q4.toNat)/2251799813685248:=by rw[hq5,jd,toNat_add];congr 1;omega
 obtain⟨k1,k2⟩:=aW7 v1 v2 v3 v4 v5
 clear v1 v2 v3 v4 v5 hq1 hq2 hq3 hq4 hq5
 have hv:nv5 [x0,x1,x2,x3,x4]=x0.toNat+x1.toNat*2251799813685248+x2.toNat*5070602400912917605986812821504+x3.toNat*11417981541647679048466287755595961091061972992+x4.toNat*25711008708143844408671393477458601640355247900524685364822016:=rfl
 have hlt:nv5 [x0,x1,x2,x3,x4]<86844066927987146567678238756515930889952488499230423029593188005934847229952:=by rw[hv];omega
 obtain⟨m1,m2⟩:=aWN hlt (hv▸k1) (hv▸k2)
 clear k1 k2
 unfold nmL
 rw[aUI,hq]
 obtain⟨z0,hz0⟩:∃z,z=x0+ofNat 19*q5:=⟨_,rfl⟩
 rw[<-hz0]
 have w0:z0.toNat=x0.toNat+19*q5.toNat:=by
  clear m1 hlt hv hf hx hq
  rw[hz0,toNat_add,toNat_mul,show(ofNat 19).toNat=19 from rfl];omega
 obtain⟨y1,hy1⟩:∃y,y=x1+aF z0 51:=⟨_,rfl⟩
 obtain⟨y2,hy2⟩:∃y,y=x2+aF y1 51:=⟨_,rfl⟩
 obtain⟨y3,hy3⟩:∃y,y=x3+aF y2 51:=⟨_,rfl⟩
 obtain⟨y4,hy4⟩:∃y,y=x4+aF y3 51:=⟨_,rfl⟩
 rw[aP6 hy1 hy2 hy3 hy4]
 have w1:y1.toNat=x1.toNat+z0.toNat/2251799813685248:=by clear m1 hlt hv hf hx hq hz0;rw[hy1,toNat_add,jd];omega
 have w2:y2.toNat=x2.toNat+y1.toNat/2251799813685248:=by clear m1 hlt hv hf hx hq hz0;rw[hy2,toNat_add,jd];omega
 have w3:y3.toNat=x3.toNat+y2.toNat/2251799813685248:=by clear m1 hlt hv hf hx hq hz0;rw[hy3,toNat_add,jd];omega
 have w4:y4.toNat=x4.toNat+y3.toNat/2251799813685248:=by clear m1 hlt hv hf hx hq hz0;rw[hy4,toNat_add,jd];omega
 have hn:=aXL w1 w2 w3 w4
 rw[w0]at hn
 have hs:x0.toNat+19*q5.toNat+x1.toNat*2251799813685248+x2.toNat*5070602400912917605986812821504+x3.toNat*11417981541647679048466287755595961091061972992+x4.toNat*25711008708143844408671393477458601640355247900524685364822016=nv5 [x0,x1,x2,x3,x4]+19*q5.toNat:=by rw[hv];clear m1 hlt hv hf hx hq hz0 hn w0 w1 w2 w3 w4;omega
 rw[hs,m1]at hn
 refine⟨?_,?_⟩
 ·show(z0&&&ofNat 2251799813685247).toNat+(y1&&&ofNat 2251799813685247).toNat*_+(y2&&&ofNat 2251799813685247).toNat*_+(y3&&&ofNat 2251799813685247).toNat*_+(y4&&&ofNat 2251799813685247).toNat*_=_
  rw[gI,gI,gI,gI,gI,w0,hn,<-hf]
  rfl
 refine⟨?_,?_,?_,?_,?_⟩
 ·show(z0&&&ofNat 2251799813685247).toNat<_;rw[gI];exact mod_lt _ (by decide)
 ·show(y1&&&ofNat 2251799813685247).toNat<_;rw[gI];exact mod_lt _ (by decide)
 ·show(y2&&&ofNat 2251799813685247).toNat<_;rw[gI];exact mod_lt _ (by decide)
 ·show(y3&&&ofNat 2251799813685247).toNat<_;rw[gI];exact mod_lt _ (by decide)
 show(y4&&&ofNat 2251799813685247).toNat<_;rw[gI];exact mod_lt _ (by decide)
theorem aSQ {n0 n1 n2 n3 n4:Nat} (h0:n0<2251799813685248):n0+n1%2^(64-51)*2^51=(n0+n1*2251799813685248+n2*5070602400912917605986812821504+n3*11417981541647679048466287755595961091061972992+n4*25711008708143844408671393477458601640355247900524685364822016)%18446744073709551616:=by omega
theorem aSP {n0 n1 n2 n3 n4:Nat} (h0:n0<2251799813685248) (h1:n1<2251799813685248):n1/2^13+n2%2^(64-38)*2^38=(n0+n1*2251799813685248+n2*5070602400912917605986812821504+n3*11417981541647679048466287755595961091061972992+n4*25711008708143844408671393477458601640355247900524685364822016)/18446744073709551616%18446744073709551616:=by omega
theorem aSO {n0 n1 n2 n3 n4:Nat} (h0:n0<2251799813685248) (h1:n1<2251799813685248) (h2:n2<2251799813685248):n2/2^26+n3%2^(64-25)*2^25=(n0+n1*2251799813685248+n2*5070602400912917605986812821504+n3*11417981541647679048466287755595961091061972992+n4*25711008708143844408671393477458601640355247900524685364822016)/340282366920938463463374607431768211456%18446744073709551616:=by omega
theorem aSN {n0 n1 n2 n3 n4:Nat} (h0:n0<2251799813685248) (h1:n1<2251799813685248) (h2:n2<2251799813685248) (h3:n3<2251799813685248):n3/2^39+n4%2^(64-12)*2^12=(n0+n1*2251799813685248+n2*5070602400912917605986812821504+n3*11417981541647679048466287755595961091061972992+n4*25711008708143844408671393477458601640355247900524685364822016)/6277101735386680763835789423207666416102355444464034512896%18446744073709551616:=by omega
theorem aOW {l:List UInt64} (h:L51 l):∀j,j<4->((wdL l).getD j 0).toNat=nv5 l/18446744073709551616^j%18446744073709551616:=by
 obtain⟨h0,h1,h2,h3,h4⟩:=h
 intro j hj
 have:j=0\/j=1\/j=2\/j=3:=by omega
 unfold nv5
 rcases this with rfl|rfl|rfl|rfl
 ·show(l.getD 0 0|||aQ (l.getD 1 0) 51).toNat=_/1%_
  rw[io _ (cj _ (by omega)) h0,cj _ (by omega),div_one]
  exact aSQ h0
 ·show(aF (l.getD 1 0) 13|||aQ (l.getD 2 0) 38).toNat=_/18446744073709551616%_
  have hs:(aF (l.getD 1 0) 13).toNat<2^38:=by rw[bt];exact Nat.div_lt_of_lt_mul h1
  rw[io _ (cj _ (by omega)) hs,cj _ (by omega),bt]
  exact aSP h0 h1
 ·show(aF (l.getD 2 0) 26|||aQ (l.getD 3 0) 25).toNat=_/340282366920938463463374607431768211456%_
  have hs:(aF (l.getD 2 0) 26).toNat<2^25:=by rw[bt];exact Nat.div_lt_of_lt_mul h2
  rw[io _ (cj _ (by omega)) hs,cj _ (by omega),bt]
  exact aSO h0 h1 h2
 show(aF (l.getD 3 0) 39|||aQ (l.getD 4 0) 12).toNat=_/6277101735386680763835789423207666416102355444464034512896%_
 have hs:(aF (l.getD 3 0) 39).toNat<2^12:=by rw[bt];exact Nat.div_lt_of_lt_mul h3
 rw[io _ (cj _ (by omega)) hs,cj _ (by omega),bt]
 exact aSN h0 h1 h2 h3
theorem aRS (l:List UInt64):aWL l=leB (fv l):=by
 obtain⟨h1,h2⟩:=aP5 l
 unfold aWL leB
 rw[<-h1]
 exact aRT (aOW h2)
def owS (b:List UInt8):Nat->List UInt64
 |0=>replicate 4 0
 |i+1=>(owS b i).set (i/8) ((owS b i).getD (i/8) 0|||aQ (b.getD i 0).toUInt64 (i%8*8))
theorem owS_length (b:List UInt8):∀i,(owS b i).length=4
 |0=>rfl
 |i+1=>by show((owS b i).set _ _).length=4;rw[length_set];exact owS_length b i
def ofW (w:List UInt64):List UInt64:=
 [w.getD 0 0&&&ofNat 2251799813685247,(aF (w.getD 0 0) 51|||aQ (w.getD 1 0) 13)&&&ofNat 2251799813685247,(aF (w.getD 1 0) 38|||aQ (w.getD 2 0) 26)&&&ofNat 2251799813685247,
  (aF (w.getD 2 0) 25|||aQ (w.getD 3 0) 39)&&&ofNat 2251799813685247,aF (w.getD 3 0) 12&&&ofNat 2251799813685247]
def ofL (b:List UInt8):List UInt64:=ofW (owS b 32)
theorem uy:∀(b:List UInt8) (i:Nat),lv b/256^i%256=(b.getD i 0).toNat
 |[],i=>by show 0/_%256=0;rw[Nat.zero_div]
 |x::r,0=>by
  have:=x.toNat_lt
  show(x.toNat+256*lv r)/1%256=x.toNat;omega
 |x::r,i+1=>by
  have:=x.toNat_lt
  show(x.toNat+256*lv r)/256^(i+1)%256=(r.getD i 0).toNat
  rw[Nat.pow_succ',<-Nat.div_div_eq_div_mul,show(x.toNat+256*lv r)/256=lv r by omega]
  exact uy r i
theorem aGL:∀b:List UInt8,lv b<256^b.length
 |[]=>by decide
 |x::r=>by
  have:=x.toNat_lt
  have h:=aGL r
  show x.toNat+256*lv r<256^(r.length+1)
  rw[Nat.pow_succ'];omega
theorem pP (b:List UInt8):∀i,i<=32->∀j,j<4->((owS b i).getD j 0).toNat=lv b/18446744073709551616^j%256^(min 8 (i-8*j))
 |0,_,j,hj=>by
  rw[Nat.zero_sub,Nat.min_eq_right (by omega),Nat.pow_zero,Nat.mod_one]
  have:j=0\/j=1\/j=2\/j=3:=by omega
  rcases this with rfl|rfl|rfl|rfl<;>rfl
 |i+1,hi,j,hj=>by
  have ih:=pP b i (by omega)
  show(((owS b i).set (i/8) _).getD j 0).toNat=_
  by_cases h:i/8=j
  ·subst h
   rw[getD_eq_getElem?_getD,List.getElem?_set_self (by rw[owS_length];omega)]
   show((owS b i).getD (i/8) 0|||aQ (b.getD i 0).toUInt64 (i%8*8)).toNat=_
   have e:=ih (i/8) hj
   have hm:i-8*(i/8)=i%8:=by omega
   rw[hm,Nat.min_eq_right (by omega)]at e
   rw[show i+1-8*(i/8)=i%8+1 by omega,Nat.min_eq_right (by omega)]
   have hp:(256:Nat)^(i%8)=2^(i%8*8):=by rw[show(256:Nat)=2^8 from rfl,<-pow_mul,Nat.mul_comm]
   have hlt:((owS b i).getD (i/8) 0).toNat<2^(i%8*8):=by rw[e,hp];exact mod_lt _ (Nat.two_pow_pos _)
   have hb:=(b.getD i 0).toNat_lt
   have hsm:(aQ (b.getD i 0).toUInt64 (i%8*8)).toNat=(b.getD i 0).toNat*2^(i%8*8):=by
    rw[wq,UInt8.toNat_toUInt64]
    apply mod_eq_of_lt
    have h8:i%8<8:=mod_lt _ (by omega)
    have:(2:Nat)^(i%8*8)<=2^56:=Nat.pow_le_pow_right (by omega) (by omega)
    have:=Nat.mul_le_mul (show(b.getD i 0).toNat<=255 by omega) this
    have:(255*2^56:Nat)<18446744073709551616:=by decide
    omega
   rw[io _ hsm hlt,hsm,e,<-uy b i,Nat.pow_succ,Nat.mod_mul]
   congr 1
   rw[hp,Nat.mul_comm]
   congr 2
   have e256:(256:Nat)^i=18446744073709551616^(i/8)*2^(i%8*8):=by
    rw[show(256:Nat)=2^8 from rfl,show(18446744073709551616:Nat)=2^64 from rfl,<-pow_mul,<-pow_mul,<-pow_add]
    congr 1;omega
   rw[e256,Nat.div_div_eq_div_mul]
  rw[getD_eq_getElem?_getD,List.getElem?_set_ne (by omega),<-getD_eq_getElem?_getD,ih j hj]
  congr 2
  by_cases h2:i/8<j
  ·rw[show i-8*j=0 by omega,show i+1-8*j=0 by omega]
  rw[Nat.min_eq_left (by omega),Nat.min_eq_left (by omega)]
theorem aTP {V:Nat}:((V%18446744073709551616)/2^51+V/18446744073709551616%18446744073709551616%2^(64-13)*2^13)%2251799813685248=V/2251799813685248%2251799813685248:=by omega
theorem aTO {V:Nat}:((V/18446744073709551616%18446744073709551616)/2^38+V/340282366920938463463374607431768211456%18446744073709551616%2^(64-26)*2^26)%2251799813685248=V/5070602400912917605986812821504%2251799813685248:=by omega
theorem aTN {V:Nat}:((V/340282366920938463463374607431768211456%18446744073709551616)/2^25+V/6277101735386680763835789423207666416102355444464034512896%18446744073709551616%2^(64-39)*2^39)%2251799813685248=V/11417981541647679048466287755595961091061972992%2251799813685248:=by omega
theorem aTM {V:Nat}:(V/6277101735386680763835789423207666416102355444464034512896%18446744073709551616)/2^12%2251799813685248=V/25711008708143844408671393477458601640355247900524685364822016%2251799813685248:=by omega
theorem aXE {V:Nat}:V%2251799813685248+V/2251799813685248%2251799813685248*2251799813685248+V/5070602400912917605986812821504%2251799813685248*5070602400912917605986812821504+V/11417981541647679048466287755595961091061972992%2251799813685248*11417981541647679048466287755595961091061972992+V/25711008708143844408671393477458601640355247900524685364822016%2251799813685248*25711008708143844408671393477458601640355247900524685364822016=V%57896044618658097711785492504343953926634992332820282019728792003956564819968:=by omega
theorem pQ (b:List UInt8):nv5 (ofL b)=lv b%57896044618658097711785492504343953926634992332820282019728792003956564819968/\Lb (ofL b):=by
 have w0:((owS b 32).getD 0 0).toNat=lv b%18446744073709551616:=by have:=pP b 32 (by omega) 0 (by omega);rw[Nat.pow_zero,div_one]at this;exact this
 have w1:((owS b 32).getD 1 0).toNat=lv b/18446744073709551616%18446744073709551616:=pP b 32 (by omega) 1 (by omega)
 have w2:((owS b 32).getD 2 0).toNat=lv b/340282366920938463463374607431768211456%18446744073709551616:=pP b 32 (by omega) 2 (by omega)
 have w3:((owS b 32).getD 3 0).toNat=lv b/6277101735386680763835789423207666416102355444464034512896%18446744073709551616:=pP b 32 (by omega) 3 (by omega)
 have t0:=((owS b 32).getD 0 0).toNat_lt
 have t1:=((owS b 32).getD 1 0).toNat_lt
 have t2:=((owS b 32).getD 2 0).toNat_lt
 have t3:=((owS b 32).getD 3 0).toNat_lt
 have g0:((ofL b).getD 0 0).toNat=lv b%2251799813685248:=by
  show((owS b 32).getD 0 0&&&ofNat 2251799813685247).toNat=_
  rw[gI,w0];clear w1 w2 w3 t0 t1 t2 t3;omega
 have g1:((ofL b).getD 1 0).toNat=lv b/2251799813685248%2251799813685248:=by
  show((aF ((owS b 32).getD 0 0) 51|||aQ ((owS b 32).getD 1 0) 13)&&&ofNat 2251799813685247).toNat=_
  have hs:(aF ((owS b 32).getD 0 0) 51).toNat<2^13:=by rw[bt];exact Nat.div_lt_of_lt_mul t0
  rw[gI,io _ (cj _ (by omega)) hs,cj _ (by omega),bt,w0,w1]
  exact aTP
 have g2:((ofL b).getD 2 0).toNat=lv b/5070602400912917605986812821504%2251799813685248:=by
  show((aF ((owS b 32).getD 1 0) 38|||aQ ((owS b 32).getD 2 0) 26)&&&ofNat 2251799813685247).toNat=_
  have hs:(aF ((owS b 32).getD 1 0) 38).toNat<2^26:=by rw[bt];exact Nat.div_lt_of_lt_mul t1
  rw[gI,io _ (cj _ (by omega)) hs,cj _ (by omega),bt,w1,w2]
  exact aTO
 have g3:((ofL b).getD 3 0).toNat=lv b/11417981541647679048466287755595961091061972992%2251799813685248:=by
  show((aF ((owS b 32).getD 2 0) 25|||aQ ((owS b 32).getD 3 0) 39)&&&ofNat 2251799813685247).toNat=_
  have hs:(aF ((owS b 32).getD 2 0) 25).toNat<2^39:=by rw[bt];exact Nat.div_lt_of_lt_mul t2
  rw[gI,io _ (cj _ (by omega)) hs,cj _ (by omega),bt,w2,w3]
  exact aTN
 have g4:((ofL b).getD 4 0).toNat=lv b/25711008708143844408671393477458601640355247900524685364822016%2251799813685248:=by
  show(aF ((owS b 32).getD 3 0) 12&&&ofNat 2251799813685247).toNat=_
  rw[gI,bt,w3]
  exact aTM
 refine⟨?_,rfl,?_,?_,?_,?_,?_⟩
 ·unfold nv5
  rw[g0,g1,g2,g3,g4]
  exact aXE
 ·rw[g0];exact lt_trans (mod_lt _ (by decide)) (by decide)
 ·rw[g1];exact lt_trans (mod_lt _ (by decide)) (by decide)
 ·rw[g2];exact lt_trans (mod_lt _ (by decide)) (by decide)
 ·rw[g3];exact lt_trans (mod_lt _ (by decide)) (by decide)
 rw[g4];exact lt_trans (mod_lt _ (by decide)) (by decide)
def ofF (b:List UInt8):F:=fn (lv b%57896044618658097711785492504343953926634992332820282019728792003956564819968)
theorem aTL (b:List UInt8):fv (ofL b)=ofF b:=by unfold fv ofF;rw[(pQ b).1]
theorem aP1 (x:F):ofF (leB x)=x:=by
 unfold ofF
 rw[ux,mod_eq_of_lt (lt_trans x.isLt (by decide)),qI]
end Go.Cu
namespace Go.Cu
open Go Go.Sx
structure LL where
 ax:List UInt64
 az:List UInt64
 bx:List UInt64
 bz:List UInt64
def LL.B (s:LL):Prop:=Lb s.ax/\Lb s.az/\Lb s.bx/\Lb s.bz
def LL.f (s:LL):LS:=⟨fv s.ax,fv s.az,fv s.bx,fv s.bz⟩
def LL.swap (s:LL):LL:=⟨s.bx,s.bz,s.ax,s.az⟩
def xp:List UInt8:=UInt8.ofNat 65::UInt8.ofNat 219::UInt8.ofNat 1::replicate 29 0
theorem aC8:fv (ofL xp) = 121665:=by decide +kernel
theorem aAA:Lb (ofL xp):=(pQ _).2
def cm (s:LL):List UInt64:=cd (cd (wJ s.ax s.az) (wJ s.ax s.az)) (cd (tj s.ax s.az) (tj s.ax s.az))
def xy (s:LL):List UInt64:=tj (cd (wJ s.ax s.az) (wJ s.ax s.az)) (cd (tj s.ax s.az) (tj s.ax s.az))
def aAF (s:LL):List UInt64:=cd (xy s) (wJ (cd (wJ s.ax s.az) (wJ s.ax s.az)) (cd (ofL xp) (xy s)))
def rC (s:LL):List UInt64:=cd (tj s.bx s.bz) (wJ s.ax s.az)
def rS (s:LL):List UInt64:=cd (wJ s.bx s.bz) (tj s.ax s.az)
def li (u:List UInt64) (s:LL):LL:=
 ⟨cm s,aAF s,cd (wJ (rC s) (rS s)) (wJ (rC s) (rS s)),cd u (cd (tj (rC s) (rS s)) (tj (rC s) (rS s)))⟩
theorem sS (u:List UInt64) (s:LL):(li u s).B:=⟨aP _ _,aP _ _,aP _ _,aP _ _⟩
theorem yu {u:List UInt64} {s:LL} (hu:Lb u) (h:s.B):(li u s).f=nr (fv u) s.f:=by
 obtain⟨h1,h2,h3,h4⟩:=h
 have p:=kV h1 h2
 have m:=ic h1 h2
 have lp:=ei s.ax s.az
 have lm:=dL s.ax s.az
 have e:fv (xy s)=(fv s.ax+fv s.az)*(fv s.ax+fv s.az)-(fv s.ax-fv s.az)*(fv s.ax-fv s.az):=by
  unfold xy
  rw[ic (aP _ _) (aP _ _),ak lp lp,ak lm lm,p,m]
 have le:Lb (xy s):=dL _ _
 have d:fv (rC s)=(fv s.bx-fv s.bz)*(fv s.ax+fv s.az):=by
  unfold rC
  rw[ak (dL _ _) lp,ic h3 h4,p]
 have c:fv (rS s)=(fv s.bx+fv s.bz)*(fv s.ax-fv s.az):=by
  unfold rS
  rw[ak (ei _ _) lm,kV h3 h4,m]
 have ld:Lb (rC s):=aP _ _
 have lc:Lb (rS s):=aP _ _
 unfold li LL.f nr
 simp only[LS.mk.injEq]
 refine⟨?_,?_,?_,?_⟩
 ·unfold cm
  rw[ak (aP _ _) (aP _ _),ak lp lp,ak lm lm,p,m]
 ·unfold aAF
  rw[ak le (ei _ _),kV (aP _ _) (aP _ _),ak aAA le,ak lp lp,aC8,e,p]
 ·rw[ak (ei _ _) (ei _ _),kV ld lc,d,c]
 rw[ak hu (aP _ _),ak (dL _ _) (dL _ _),ic ld lc,d,c]
attribute [irreducible] li
def aVP (c:List UInt8) (i:Nat):UInt8:=mD (c.getD (i/8) 0) (i%8)&&&UInt8.ofNat 1
theorem tf (c:List UInt8) (i:Nat):(aVP c i).toNat=lv c/2^i%2:=by
 unfold aVP mD
 have h1:(UInt8.ofNat ((c.getD (i/8) 0).toNat>>>(i%8))).toNat=(c.getD (i/8) 0).toNat/2^(i%8):=by
  have:=(c.getD (i/8) 0).toNat_lt
  have:=Nat.div_le_self (c.getD (i/8) 0).toNat (2^(i%8))
  rw[UInt8.toNat_ofNat',Nat.shiftRight_eq_div_pow,mod_eq_of_lt (by omega)]
 rw[UInt8.toNat_and,h1,show(UInt8.ofNat 1).toNat=2^1-1 from rfl,Nat.and_two_pow_sub_one_eq_mod,<-uy]
 have e:(2:Nat)^i=256^(i/8)*2^(i%8):=by
  rw[show(256:Nat)=2^8 from rfl,<-pow_mul,<-pow_add]
  congr 1;omega
 rw[e,<-Nat.div_div_eq_div_mul]
 generalize lv c/256^(i/8)=w
 have hm:i%8<8:=mod_lt _ (by omega)
 generalize i%8=m at hm
 have:m=0\/m=1\/m=2\/m=3\/m=4\/m=5\/m=6\/m=7:=by omega
 rcases this with rfl|rfl|rfl|rfl|rfl|rfl|rfl|rfl<;>(simp only[Nat.reducePow];omega)
def LL.turn (s:LL) (l b:UInt8):LL:=if b=l then s else s.swap
theorem LL.turn_B {s:LL} (h:s.B) (l b:UInt8):(s.turn l b).B:=by
 unfold LL.turn
 split
 ·exact h
 exact⟨h.2.2.1,h.2.2.2,h.1,h.2.1⟩
theorem LL.turn_f (s:LL) (l b:UInt8):(s.turn l b).f=s.f.turn l.toNat b.toNat:=by
 unfold LL.turn LS.turn
 by_cases h:b=l
 ·rw[if_pos h,if_pos (by rw[h])]
 rw[if_neg h,if_neg (λe=>h (UInt8.toNat_inj.1 e))];rfl
def xH (u:List UInt64):LL:=⟨ofL (UInt8.ofNat 1::replicate 31 0),replicate 5 0,u,ofL (UInt8.ofNat 1::replicate 31 0)⟩
def nE (u:List UInt64) (c:List UInt8):Nat->LL×UInt8
 |0=>(xH u,UInt8.ofNat 0)
 |k+1=>(li u ((nE u c k).1.turn (nE u c k).2 (aVP c (254-k))),aVP c (254-k))
theorem aTH:Lb (ofL (UInt8.ofNat 1::replicate 31 0)):=(pQ _).2
theorem aTI:fv (ofL (UInt8.ofNat 1 :: replicate 31 0)) = 1:=by decide +kernel
theorem wM:Lb (replicate 5 (0:UInt64)):=⟨rfl,by decide,by decide,by decide,by decide,by decide⟩
theorem wO:fv (replicate 5 (0:UInt64)) = 0:=by decide +kernel
theorem tB {u:List UInt64} (hu:Lb u) (c:List UInt8):∀k,(nE u c k).1.B
 |0=>⟨aTH,wM,hu,aTH⟩
 |_+1=>sS _ _
theorem vb {u:List UInt64} (hu:Lb u) (c:List UInt8):∀k,(nE u c k).1.f=(tA (fv u) (lv c) k).1/\(nE u c k).2.toNat=(tA (fv u) (lv c) k).2
 |0=>⟨by show LL.f (xH u)=⟨1,0,fv u,1⟩;unfold xH LL.f;rw[aTI,wO],rfl⟩
 |k+1=>by
  obtain⟨h1,h2⟩:=vb hu c k
  refine⟨?_,tf c _⟩
  show(li u ((nE u c k).1.turn (nE u c k).2 (aVP c (254-k)))).f=nr (fv u) _
  rw[yu hu (LL.turn_B (tB hu c k) _ _),LL.turn_f,h1,h2,tf]
def jG (c u:List UInt8):List UInt8:=leB (xA (ofF u) (lv c))
theorem od {c u:List UInt8} {s:LL} {l:UInt8} (h:nE (ofL u) c 255=(s,l)):
  (l=UInt8.ofNat 1->aWL (cd s.bx (aN2 s.bz))=jG c u)/\(l≠UInt8.ofNat 1->aWL (cd s.ax (aN2 s.az))=jG c u):=by
 have hb:=tB (pQ u).2 c 255
 obtain⟨h1,h2⟩:=vb (pQ u).2 c 255
 rw[h]at hb h1 h2
 obtain⟨b1,b2,b3,b4⟩:=hb
 have h1:s.f=_:=h1
 have h2:l.toNat=_:=h2
 rw[aTL]at h1 h2
 refine⟨λe=>?_,λe=>?_⟩
 ·rw[aRS,ak b3 (xu _),aG4 b4]
  unfold jG xA
  rw[<-h2,<-h1,e,if_pos (show(UInt8.ofNat 1).toNat=1 from rfl)]
  rfl
 rw[aRS,ak b1 (xu _),aG4 b2]
 unfold jG xA
 rw[<-h2,<-h1,if_neg (show¬l.toNat=1 fromλe2=>e (UInt8.toNat_inj.1 e2))]
 rfl
def clB (b:List UInt8):List UInt8:=(b.set 0 (b.getD 0 0&&&UInt8.ofNat 248)).set 31 (((b.set 0 (b.getD 0 0&&&UInt8.ofNat 248)).getD 31 0&&&UInt8.ofNat 127)|||UInt8.ofNat 64)
theorem aCN (b:List UInt8):(clB b).length=b.length:=by unfold clB;rw[length_set,length_set]
theorem zo:∀x:UInt8,(x&&&UInt8.ofNat 248).toNat%2=0:=by
 intro x
 have:∀ y:Fin 256,(UInt8.ofNat y.val &&& UInt8.ofNat 248).toNat % 2 = 0:=by decide +kernel
 have h:=this ⟨x.toNat,x.toNat_lt⟩
 rw[UInt8.ofNat_toNat]at h;exact h
theorem zu:∀x:UInt8,((x&&&UInt8.ofNat 127)|||UInt8.ofNat 64).toNat<128:=by
 intro x
 have:∀ y:Fin 256,((UInt8.ofNat y.val &&& UInt8.ofNat 127) ||| UInt8.ofNat 64).toNat < 128:=by decide +kernel
 have h:=this ⟨x.toNat,x.toNat_lt⟩
 rw[UInt8.ofNat_toNat]at h;exact h
theorem tU {b:List UInt8} (h:b.length=32):lv (clB b)<2^255/\lv (clB b)%2=0:=by
 have hl:=aCN b
 rw[h]at hl
 have g0:(clB b).getD 0 0=b.getD 0 0&&&UInt8.ofNat 248:=by
  unfold clB
  rw[getD_eq_getElem?_getD,List.getElem?_set_ne (by omega),List.getElem?_set_self (by omega)];rfl
 have g31:(clB b).getD 31 0=((b.set 0 (b.getD 0 0&&&UInt8.ofNat 248)).getD 31 0&&&UInt8.ofNat 127)|||UInt8.ofNat 64:=by
  unfold clB
  rw[getD_eq_getElem?_getD,List.getElem?_set_self (by rw[length_set];omega)];rfl
 have e0:=uy (clB b) 0
 have e31:=uy (clB b) 31
 have hlt:=aGL (clB b)
 rw[hl]at hlt
 rw[g0,Nat.pow_zero,div_one]at e0
 rw[g31]at e31
 have k0:=zo (b.getD 0 0)
 have k31:=zu ((b.set 0 (b.getD 0 0&&&UInt8.ofNat 248)).getD 31 0)
 rw[<-e0]at k0
 rw[<-e31]at k31
 generalize lv (clB b)=n at *
 clear g0 g31 e0 e31 hl
 refine⟨?_,by omega⟩
 have hlt:n<115792089237316195423570985008687907853269984665640564039457584007913129639936:=hlt
 have k31:n/452312848583266388373324160190187140051835877600158453279131187530910662656%256<128:=k31
 show n<57896044618658097711785492504343953926634992332820282019728792003956564819968
 omega
theorem aR (c u:List UInt8):(jG c u).length=32:=aj _
end Go.Cu
namespace Go.Proofs.YtieblfbmmbkjdaaGreat
open Go Go.Sx Go.Cu
theorem acL (l:List UInt64) (hl:l.length=5):Sx.Fn Γ.P 80 [.agg [(5,.a64 l)]] [] (λv _=>v= .agg [(5,.a64 (ci l))]):=by
 refine aG (Γ:=Γ) (fn:=Tryz.f80) rfl rfl rfl rfl ?_
 refine gB ?_
 refine Ret.i (.agg [(5,.a64 (ci l))]) [] [] rfl fc rfl rfl fc rfl fc rfl
theorem aYA (x y:UInt64):Sx.Fn Γ.P 101 [.u64 x,.u64 y] [] (λv _=>v= .tup [.u64 (Cu.muH x y),.u64 (x*y)]):=by
 refine aG (Γ:=Γ) (fn:=Tryz.f101) rfl rfl rfl rfl ?_
 refine gB ?_
 refine Ret.i (.tup [.u64 (Cu.muH x y),.u64 (x*y)]) [] [] rfl trivial rfl rfl ?_ rfl trivial rfl
 exact fc
theorem aMV (x y:UInt64):(oO x y (ofNat 0)).toNat<=1:=by
 have:=x.toNat_lt
 have:=y.toNat_lt
 unfold oO
 rw[toNat_ofNat',show(ofNat 0).toNat=0 from rfl]
 omega
theorem abC (w:W2) (x y:UInt64):Sx.Fn Γ.P 81 [.agg [(1,.u64 w.1),(1,.u64 w.2)],.u64 x,.u64 y] [] (λv _=>v= .agg [(1,.u64 (aI w x y).1),(1,.u64 (aI w x y).2)]):=by
 have hM:=aYA x y
 have z0:(ofNat 0).toNat<=1:=by decide
 have z1:=aMV w.2 (x*y)
 refine aG (Γ:=Γ) (fn:=Tryz.f81) rfl rfl rfl rfl ?_
 refine gB ?_
 refine Call.pure hM rfl fc ?_
 rintro _ rfl
 refine gB ?_
 refine Ret.i (.agg [(1,.u64 (aI w x y).1),(1,.u64 (aI w x y).2)]) [] [] rfl ?_ rfl rfl ?_ rfl ?_ rfl
 ·exact fc
 ·repeat' first|exact trivial|refine zA.app ?_ ?_|refine zA.zd ?_ ?_|refine zA.cons ?_ ?_|exact fc|fail
  all_goals first|exact(xT _ _ _).symm|exact(xS _ _ _).symm|exact xT _ _ _|exact xS _ _ _|trace_state
 exact fc
theorem aYG (a b:List UInt64) (ha:a.length=5) (hb:b.length=5):Sx.Fn Γ.P 52 [.agg [(5,.a64 a)],.agg [(5,.a64 b)]] [] (λv _=>v= .agg [(5,.a64 (wJ a b))]):=by
 have hC:=acL (adS a b 5) (nK a b 5)
 refine aG (Γ:=Γ) (fn:=Tryz.f52) rfl rfl rfl rfl ?_
 refine gB ?_
 refine aY.i (σ:=Nat) (λi=>i<=5) (λi=>([(2,.ptr 2 0 none),(3,.ptr 3 0 none),(4,.ptr 4 0 none),(5,.ptr 5 0 none),(7,.i .i64 i)],
  [(2,.mem true 0 [(5,.a64 a)]),(3,.mem true 0 [(5,.a64 b)]),(4,.mem true 0 [(5,.a64 (replicate 5 0))]),(5,.mem true 0 [(5,.a64 (adS a b i))])])) (λi=>5-i) 0 (zero_le _) ?_ ?_
 ·refine Le.i [] rfl fc rfl fc rfl
 rintro i hi
 have hl:=nK a b i
 have hn:adS a b (i+1)=(adS a b i).set i (a.getD i 0+b.getD i 0):=rfl
 refine zB.i ?_ ?_<;>intro hc
 ·have hc:(i:Int)<5:=hc
  refine gB ?_
  refine aH.i [[],[],[],[1,2],[1,2,3],[],[],[5,6],[5,6,7],[1,2,3,4,5,6,7,8],[],fe,kX] jO (by kernel_rfl) ?_
  refine gC ?_
  refine⟨i+1,by omega,by omega,Le.i [] rfl fcn rfl fcn rfl⟩
 obtain rfl:i=5:=by have hc:¬(i:Int)<5:=hc;omega
 refine gB ?_
 refine Call.pure hC rfl fc ?_
 rintro _ rfl
 refine gB ?_
 refine Ret.i (.agg [(5,.a64 (wJ a b))]) [] [] rfl fc rfl rfl fc rfl fc rfl
theorem ac2 (a b:List UInt64) (ha:a.length=5) (hb:b.length=5):Sx.Fn Γ.P 49 [.agg [(5,.a64 a)],.agg [(5,.a64 b)]] [] (λv _=>v= .agg [(5,.a64 (tj a b))]):=by
 have hC:=acL (sbS a b 5) (bT a b 5)
 refine aG (Γ:=Γ) (fn:=Tryz.f49) rfl rfl rfl rfl ?_
 refine gB ?_
 refine aY.i (σ:=Nat) (λi=>i<=5) (λi=>([(2,.ptr 2 0 none),(3,.ptr 3 0 none),(4,.ptr 4 0 none),(5,.ptr 5 0 none),(9,.i .i64 i)],
  [(2,.mem true 0 [(5,.a64 a)]),(3,.mem true 0 [(5,.a64 b)]),(4,.mem true 0 [(5,.a64 (replicate 5 0))]),(5,.mem true 0 [(5,.a64 (sbS a b i))])])) (λi=>5-i) 0 (zero_le _) ?_ ?_
 ·refine Le.i [] rfl fc rfl fc rfl
 rintro i hi
 have hl:=bT a b i
 have hn:sbS a b (i+1)=(sbS a b i).set i ((sbS a b i).getD i 0+(a.getD i 0-b.getD i 0)):=rfl
 refine zB.i ?_ ?_<;>intro hc
 ·have hc:(i:Int)<5:=hc
  refine gB ?_
  refine aH.i [[],[],[0,1],[0,1,2],[],[],[4,5],[4,5,6],[],[],[8,9],[8,9,10],[4,5,6,7,8,9,10,11],jO,[],nw,na] wG (by kernel_rfl) ?_
  refine gC ?_
  refine⟨i+1,by omega,by omega,Le.i [] rfl fcn rfl fcn rfl⟩
 obtain rfl:i=5:=by have hc:¬(i:Int)<5:=hc;omega
 refine gB ?_
 refine Call.pure hC rfl fc ?_
 rintro _ rfl
 refine gB ?_
 refine Ret.i (.agg [(5,.a64 (tj a b))]) [] [] rfl fc rfl rfl fc rfl fc rfl
end Go.Proofs.YtieblfbmmbkjdaaGreat
namespace Go.Proofs.YtieblfbmmbkjdaaGreat
open Go Go.Sx Go.Cu
def wF (t:List W2) (q:Nat):List (Nat×SV):=[(1,.u64 (t.getD q (0,0)).1),(1,.u64 (t.getD q (0,0)).2)]
theorem aMY {U:List W2} {j:Nat} {w:W2} (hj:j<U.length) (q:Nat):wF (U.set j w) q=if q=j then[(1,.u64 w.1),(1,.u64 w.2)]else wF U q:=by
 unfold wF
 split
 ·rename_i h
  subst h
  rw[getD_eq_getElem?_getD,List.getElem?_set_self hj];rfl
 rename_i h
 rw[getD_eq_getElem?_getD,List.getElem?_set_ne (λe=>h e.symm),<-getD_eq_getElem?_getD]
theorem acN (a b:List UInt64) (ha:a.length=5) (hb:b.length=5):Sx.Fn Γ.P 48 [.agg [(5,.a64 a)],.agg [(5,.a64 b)]] [] (λv _=>v= .agg [(5,.a64 (cd a b))]):=by
 have hMore:=λw x y=>abC w x y
 refine aG (Γ:=Γ) (fn:=Tryz.f48) rfl rfl rfl rfl ?_
 refine gB ?_
 refine aY.i (σ:=Nat) (λi=>i<=5) (λi=>([(2,.ptr 2 0 none),(3,.ptr 3 0 none),(4,.ptr 4 0 none),(5,.ptr 5 0 none),(17,.a64 a),(18,.i .i64 i)],
  [(2,.mem true 0 [(5,.a64 a)]),(3,.mem true 0 [(5,.a64 b)]),(4,.mem true 0 [(5,.a64 (replicate 5 0))]),(5,.mem true 0 [(10,.arr 5 2 (wF (muS a b i)))])])) (λi=>5-i) 0 (zero_le _) ?_ ?_
 ·refine Le.i [] rfl fc rfl fc rfl
 rintro i hi
 have hl:=rl a b i
 have hn:muS a b (i+1)=muR a b i (muS a b i) 5:=rfl
 refine zB.i ?_ ?_<;>intro hc
 ·have hc:(i:Int)<5:=hc
  obtain⟨T,hT⟩:∃t,muS a b i=t:=⟨_,rfl⟩
  rw[hT]at hl hn⊢
  refine gC ?_
  refine aY.i (σ:=Nat) (λk=>k<=5) (λk=>([(2,.ptr 2 0 none),(3,.ptr 3 0 none),(4,.ptr 4 0 none),(5,.ptr 5 0 none),(6,.i .i64 i),(7,.u64 (a.getD i 0)),(17,.a64 a),(18,.i .i64 i),(23,.a64 b),(24,.i .i64 k)],
   [(2,.mem true 0 [(5,.a64 a)]),(3,.mem true 0 [(5,.a64 b)]),(4,.mem true 0 [(5,.a64 (replicate 5 0))]),(5,.mem true 0 [(10,.arr 5 2 (wF (muR a b i T k)))])])) (λk=>5-k) 0 (zero_le _) ?_ ?_
  ·refine Le.i [] rfl fcn rfl fcn rfl
  rintro k hk
  have hlR:=mc (a:=a) (b:=b) (i:=i) (t:=T) k
  have hnR:muR a b i T (k+1)=muA a b i k (muR a b i T k):=rfl
  refine zB.i ?_ ?_<;>intro hc
  ·have hc:(k:Int)<5:=hc
   obtain⟨U,hU⟩:∃t,muR a b i T k=t:=⟨_,rfl⟩
   rw[hU]at hlR hnR⊢
   refine gC ?_
   refine zB.i ?_ ?_<;>intro h5
   ·have h5:(i:Int)+k≥5:=h5
    have e0:((i:Int)+k-5).toNat=i+k-5:=by omega
    have hA:muA a b i k U=U.set (i+k-5) (aI (U.getD (i+k-5) (0,0)) (a.getD i 0) (ofNat 19*b.getD k 0)):=if_pos (by omega)
    repeat refine sdH ?_
    refine Call.pure (hMore (U.getD (i+k-5) (0,0)) (a.getD i 0) (ofNat 19*b.getD k 0)) rfl fcH ?_
    rintro _ rfl
    repeat refine sdH ?_
    refine⟨k+1,by omega,by omega,Le.i [] rfl ?_ rfl ?_ rfl⟩
    ·exact fcn
    repeat' first|exact trivial|refine zA.app ?_ ?_|refine zA.zd ?_ ?_|refine zA.cons ?_ ?_|exact fcn|fail
    all_goals(intro q hq;rw[hnR,hA,aMY (by omega),<-e0];rfl)
   have h5:¬(i:Int)+k≥5:=h5
   have e0:((i:Int)+k).toNat=i+k:=by omega
   have hA:muA a b i k U=U.set (i+k) (aI (U.getD (i+k) (0,0)) (a.getD i 0) (b.getD k 0)):=if_neg (by omega)
   repeat refine sdH ?_
   refine Call.pure (hMore (U.getD (i+k) (0,0)) (a.getD i 0) (b.getD k 0)) rfl fcH ?_
   rintro _ rfl
   repeat refine sdH ?_
   refine⟨k+1,by omega,by omega,Le.i [] rfl ?_ rfl ?_ rfl⟩
   ·exact fcn
   repeat' first|exact trivial|refine zA.app ?_ ?_|refine zA.zd ?_ ?_|refine zA.cons ?_ ?_|exact fcn|fail
   all_goals(intro q hq;rw[hnR,hA,aMY (by omega),<-e0];rfl)
  obtain rfl:k=5:=by have hc:¬(k:Int)<5:=hc;omega
  refine gB ?_
  rw[<-hn]
  refine⟨i+1,by omega,by omega,Le.i [] rfl fcn rfl fcn rfl⟩
 obtain rfl:i=5:=by have hc:¬(i:Int)<5:=hc;omega
 have hE:cd a b=ci ((cyS (muS a b 5) 5).1.set 0 ((cyS (muS a b 5) 5).1.getD 0 0+(cyS (muS a b 5) 5).2*ofNat 19)):=rfl
 rw[hE]
 clear hn hE
 generalize muS a b 5=T at *
 have z0:(ofNat 0).toNat<=1:=by decide
 refine gB ?_
 refine aY.i (σ:=Nat) (λi=>i<=5) (λi=>([(4,.ptr 4 0 none),(5,.ptr 5 0 none),(10,.ptr 10 0 none),(11,.u64 (cyS T i).2),(61,.i .i64 i)],
  [(4,.mem true 0 [(5,.a64 (replicate 5 0))]),(5,.mem true 0 [(10,.arr 5 2 (wF T))]),(10,.mem true 0 [(5,.a64 (cyS T i).1)])])) (λi=>5-i) 0 (zero_le _) ?_ ?_
 ·have z1:(cyS T 0).1=replicate 5 0:=rfl
  have z2:(cyS T 0).2=ofNat 0:=rfl
  refine Le.i [] rfl fc rfl fc rfl
 rintro i hi
 have hlc:=r9 T i
 refine zB.i ?_ ?_<;>intro hc
 ·have hc:(i:Int)<5:=hc
  have hn1:(cyS T (i+1)).1=(cyS T i).1.set i (gF (T.getD i (0,0)).2 (cyS T i).2 0&&&ofNat 2251799813685247):=rfl
  have hn2:(cyS T (i+1)).2=aQ ((T.getD i (0,0)).1+oO (T.getD i (0,0)).2 (cyS T i).2 0) 13|||aF (gF (T.getD i (0,0)).2 (cyS T i).2 0) 51:=rfl
  generalize (cyS T i).1=X at *
  generalize (cyS T i).2=C at *
  refine gC ?_
  refine⟨i+1,by omega,by omega,Le.i [] rfl ?_ rfl ?_ rfl⟩
  ·repeat' first|exact trivial|refine zA.app ?_ ?_|refine zA.zd ?_ ?_|refine zA.cons ?_ ?_|exact fcn|fail
   all_goals trace_state
  repeat' first|exact trivial|refine zA.app ?_ ?_|refine zA.zd ?_ ?_|refine zA.cons ?_ ?_|exact fcn|fail
  all_goals trace_state
 obtain rfl:i=5:=by have hc:¬(i:Int)<5:=hc;omega
 generalize (cyS T 5).1=X at *
 generalize (cyS T 5).2=C at *
 have hC:=acL (X.set 0 (X.getD 0 0+C*ofNat 19)) (by rw[length_set];exact hlc)
 have hlR:=(jC (X.set 0 (X.getD 0 0+C*ofNat 19))).1
 generalize ci (X.set 0 (X.getD 0 0+C*ofNat 19))=R at *
 refine gB ?_
 refine Call.pure hC rfl fc ?_
 rintro _ rfl
 refine gB ?_
 refine Ret.i (.agg [(5,.a64 R)]) [] [] rfl fc rfl rfl fc rfl fc rfl
end Go.Proofs.YtieblfbmmbkjdaaGreat
namespace Go.Proofs.YtieblfbmmbkjdaaGreat
open Go Go.Sx Go.Cu
theorem aKO {k i:Nat} (hk:1<=k):((((((k:Int)-1)/2^i).toNat&&&1:Nat):Int)=0\/10<(i:Int))↔aDG k i:=by
 have e:(((k:Int)-1)/2^i).toNat=(k-1)/2^i:=by
  have h1:((k:Int)-1)=((k-1:Nat):Int):=by omega
  have h2:((2:Int)^i)=((2^i:Nat):Int):=by rw[Int.natCast_pow];rfl
  rw[h1,h2,<-Int.natCast_ediv,zIn]
 rw[e,show(1:Nat)=2^1-1 from rfl,Nat.and_two_pow_sub_one_eq_mod]
 unfold aDG
 generalize (k-1)/2^i=w
 omega
theorem aYW (k i:Nat) (hk:1<=k) (hk2:k<=1000) (hi:i<=1000):Sx.Fn Γ.P 102 [.i .i64 i,.ptr 1000 0 none] [(1000,.mem true 0 [(1,.i .i64 k)])]
  (λv M=>v= .bool (aDG k i)/\M=[(1000,.mem true 0 [(1,.i .i64 k)])]):=by
 have hb:=aKO (k:=k) (i:=i) hk
 have h0:0<=((k:Int)-1)/2^i:=Int.ediv_nonneg (by omega) (Int.pow_nonneg (by omega))
 have h1:((k:Int)-1)/2^i<=(k:Int)-1:=by
  have h2:((2:Int)^i)=((2^i:Nat):Int):=by rw[Int.natCast_pow];rfl
  have h1:((k:Int)-1)=((k-1:Nat):Int):=by omega
  have:=Nat.div_le_self (k-1) (2^i)
  rw[h1,h2,<-Int.natCast_ediv];omega
 refine aG (Γ:=Γ) (fn:=Tryz.f102) rfl rfl rfl rfl ?_
 refine gB ?_
 refine zB.i ?_ ?_<;>intro h
 ·refine gB ?_
  refine Ret.i (.bool (aDG k i)) [(1000,.mem true 0 [(1,.i .i64 k)])] [] rfl ?_ ⟨rfl,rfl⟩ rfl ?_ rfl ?_ rfl
  ·exact fc
  ·repeat' first|exact trivial|refine zA.app ?_ ?_|refine zA.zd ?_ ?_|refine zA.cons ?_ ?_|exact fc|fail
   all_goals(rw[zIn]at h;exact hb.1 (Or.inl h))
  exact fc
 refine gB ?_
 refine Ret.i (.bool (aDG k i)) [(1000,.mem true 0 [(1,.i .i64 k)])] [] rfl ?_ ⟨rfl,rfl⟩ rfl ?_ rfl ?_ rfl
 ·exact fc
 ·repeat' first|exact trivial|refine zA.app ?_ ?_|refine zA.zd ?_ ?_|refine zA.cons ?_ ?_|exact fc|fail
  all_goals(rw[zIn]at h;exact⟨λhp=>(hb.2 hp).resolve_left h,λh10=>hb.1 (Or.inr h10)⟩)
 exact fc
theorem aZ6 (a:List UInt64) (n k:Nat) (ha:a.length=5) (hn:n<=1000) (hk:1<=k) (hk2:k<=1000):Sx.Fn Γ.P 83 [.agg [(5,.a64 a)],.i .i64 n,.i .i64 k] []
  (λv _=>v= .agg [(5,.a64 (pwS a n k n))]):=by
 have hM:=λ(x y:List UInt64) (hx:x.length=5) (hy:y.length=5)=>acN x y hx hy
 have hml:=λx y=>(aP x y).1
 refine aG (Γ:=Γ) (fn:=Tryz.f83) rfl rfl rfl rfl ?_
 refine gB ?_
 refine aY.i (σ:=Nat) (λj=>j<=n) (λj=>([(3,.ptr 3 0 none),(5,.ptr 5 0 none),(6,.ptr 6 0 none),(7,.fn 102 [(5,0)]),(8,.ptr 8 0 none),(9,.i .i64 ((n:Int)-1-j))],
  [(3,.mem true 0 [(5,.a64 a)]),(5,.mem true 0 [(1,.i .i64 k)]),(6,.mem true 0 [(5,.a64 (replicate 5 0))]),(8,.mem true 0 [(5,.a64 (pwS a n k j))])])) (λj=>n-j) 0 (zero_le _) ?_ ?_
 ·refine Le.i [] rfl fc rfl fc rfl
 rintro j hj
 have hl:=(ui a n k j).1
 have hn1:pwS a n k (j+1)=if aDG k (n-1-j)then cd (cd (pwS a n k j) (pwS a n k j)) a else cd (pwS a n k j) (pwS a n k j):=rfl
 obtain⟨X,hX⟩:∃x,pwS a n k j=x:=⟨_,rfl⟩
 refine zB.i ?_ ?_<;>intro hc
 ·have hc:(n:Int)-1-j≥0:=hc
  rw[hX]at hl hn1⊢
  have hll:=hml X X
  refine gB ?_
  refine Call.pure (hM X X hl hl) rfl fc ?_
  rintro _ rfl
  refine gB ?_
  refine Call.i (aYW k (n-1-j) hk hk2 (by omega)) [(1000,(5,0,none))] rfl fc rfl fc rfl ?_
  rintro _ _ ⟨rfl,rfl⟩
  refine gB ?_
  refine zB.i ?_ ?_<;>intro hp
  ·have hp:aDG k (n-1-j):=hp
   rw[if_pos hp]at hn1
   refine gB ?_
   refine Call.pure (hM (cd X X) a hll ha) rfl fc ?_
   rintro _ rfl
   refine gB ?_
   refine⟨j+1,by omega,by omega,Le.i [] rfl fc rfl fc rfl⟩
  have hp:¬aDG k (n-1-j):=hp
  rw[if_neg hp]at hn1
  refine gB ?_
  refine⟨j+1,by omega,by omega,Le.i [] rfl fc rfl fc rfl⟩
 obtain rfl:j=n:=by have hc:¬(n:Int)-1-j≥0:=hc;omega
 rw[hX]
 rw[hX]at hl
 refine gB ?_
 refine Ret.i (.agg [(5,.a64 X)]) [] [] rfl fc rfl rfl fc rfl fc rfl
theorem abM (a:List UInt64) (ha:a.length=5):Sx.Fn Γ.P 51 [.agg [(5,.a64 a)]] [] (λv _=>v= .agg [(5,.a64 (aN2 a))]):=by
 have hP:=aZ6 a 255 21 ha (by omega) (by omega) (by omega)
 have hl:=(xu a).1
 have e:aN2 a=pwS a 255 21 255:=rfl
 rw[<-e]at hP
 generalize aN2 a=X at hP hl
 refine aG (Γ:=Γ) (fn:=Tryz.f51) rfl rfl rfl rfl ?_
 refine gB ?_
 refine Call.pure hP rfl fc ?_
 rintro _ rfl
 refine gB ?_
 refine Ret.i (.agg [(5,.a64 X)]) [] [] rfl fc rfl rfl fc rfl fc rfl
end Go.Proofs.YtieblfbmmbkjdaaGreat
