/- Walks. -/
import Derived.Test.YtllmefnbacjjcaaGreatHwSc4ToScP2
import Derived.Test.YtllmefnbacjjcaaGreatHwCu6ToCu10
set_option linter.unusedSimpArgs false
set_option linter.unusedVariables false
set_option maxHeartbeats 4000000
open List (getD_eq_getElem?_getD replicate length_set)
open Nat (le_refl zero_le zero_add)
set_option maxRecDepth 100000
namespace Go.Proofs.YtllmefnbacjjcaaGreat
open Go Go.Sx Go.Cu
def dgN (v:Nat):Nat->List Int
 |0=>[]
 |n+1=>((v%65536:Nat):Int)::dgN (v/65536) n
theorem jZ:∀n v,(dgN v n).length=n
 |0,_=>rfl
 |n+1,v=>by show(dgN (v/65536) n).length+1=n+1;rw[jZ n]
theorem tU:∀n v i,i<n->(dgN v n).getD i 0=((v/65536^i%65536:Nat):Int)
 |n+1,v,0,_=>by show((v%65536:Nat):Int)=((v/1%65536:Nat):Int);rw[Nat.div_one]
 |n+1,v,i+1,h=>by
  show(dgN (v/65536) n).getD i 0=_
  rw[tU n (v/65536) i (by omega),Nat.div_div_eq_div_mul,Nat.pow_succ']
theorem aH7 (n v:Nat):Dig (dgN v n):=by
 intro i
 rcases Nat.lt_or_ge i n with h|h
 ·rw[tU n v i h]
  have:=Nat.mod_lt (v/65536^i) (show 0<65536 by decide)
  omega
 rw[cG (by rw[jZ];exact h)];decide
theorem aH5 (x:Int) (l:List Int):∀n,dv (x::l) (n+1)=x+65536*dv l n
 |0=>by show(0:Int)+x*1=x+65536*0;omega
 |n+1=>by
  show dv (x::l) (n+1)+l.getD n 0*65536^(n+1)=x+65536*(dv l n+l.getD n 0*65536^n)
  rw[aH5 x l n,Int.pow_succ,Int.mul_add]
  generalize (65536:Int)^n=p
  have:l.getD n 0*(p*65536)=65536*(l.getD n 0*p):=by rw[<-Int.mul_assoc,Int.mul_comm]
  omega
theorem x9:∀n v,dv (dgN v n) n=((v%65536^n:Nat):Int)
 |0,v=>by rw[Nat.pow_zero,Nat.mod_one];rfl
 |n+1,v=>by
  show dv (((v%65536:Nat):Int)::dgN (v/65536) n) (n+1)=_
  rw[aH5,x9 n,Nat.pow_succ',Nat.mod_mul]
  omega
theorem aMD {l:List Int} {v n:Nat} (hl:l.length=n) (hd:Dig l) (h:dv l n=((v%65536^n:Nat):Int)):l=dgN v n:=by
 have e:=aOF hd (aH7 n v) (n:=n) (by rw[x9,h])
 apply List.ext_getElem (by rw[hl,jZ])
 intro i h1 h2
 have:=e i (by omega)
 rw[getD_eq_getElem?_getD,getD_eq_getElem?_getD,List.getElem?_eq_getElem h1,List.getElem?_eq_getElem h2]at this
 exact this
@[irreducible] def nmN (v:Nat):List Int:=dgN v 16
theorem pZ (v:Nat):nmN v=dgN v 16:=by unfold nmN;rfl
theorem aR (v:Nat):(nmN v).length=16:=by rw[pZ];exact jZ _ _
theorem kB (v:Nat):Dig (nmN v):=by rw[pZ];exact aH7 _ _
theorem pb (v:Nat) {i:Nat} (h:i<16):(nmN v).getD i 0=((v/65536^i%65536:Nat):Int):=by rw[pZ];exact tU _ _ _ h
theorem p16:(65536:Nat)^16=115792089237316195423570985008687907853269984665640564039457584007913129639936:=by decide
theorem aTC:(65536:Int)^16=115792089237316195423570985008687907853269984665640564039457584007913129639936:=by decide
theorem aFY {v:Nat} (h:v<115792089237316195423570985008687907853269984665640564039457584007913129639936):dv (nmN v) 16=(v:Int):=by
 rw[pZ,x9,p16,Nat.mod_eq_of_lt h]
theorem jQ {l:List Int} {v:Nat} (hl:l.length=16) (hd:Dig l) (h:dv l 16=(v:Int)):l=nmN v:=by
 rw[pZ]
 refine aMD hl hd ?_
 have hb:=(aJ hd 16).2
 rw[h]at hb
 rw[h,Nat.mod_eq_of_lt]
 have e:((65536:Int)^16)=(((65536:Nat)^16:Nat):Int):=by decide
 rw[e]at hb
 omega
def nmF (x:F):List Int:=nmN x.val
theorem aC (x:F):(nmF x).length=16:=aR _
theorem iG (x:F):Dig (nmF x):=kB _
theorem aYY (x:F):x.val<115792089237316195423570985008687907853269984665640564039457584007913129639936:=Nat.lt_trans x.isLt (by decide)
theorem ip (x:F):dv (nmF x) 16=(x.val:Int):=aFY (aYY x)
theorem pc {x y:F} (h:nmF x=nmF y):x=y:=by
 have:=ip x
 rw[h,ip y]at this
 exact Fin.ext (by omega)
theorem aMG {d l:List Int} {n i:Nat} {c:Int} (hl:l.length=n) (hi:i<n) (hold:∀j,i<=j->l.getD j 0=d.getD j 0) (hv:dv l i+c*65536^i=dv d i) (_hc:0<=c):
  dv (l.set i ((c+l.getD i 0)%65536)) (i+1)+(c+l.getD i 0)/65536*65536^(i+1)=dv d (i+1)
  /\∀j,i+1<=j->(l.set i ((c+l.getD i 0)%65536)).getD j 0=d.getD j 0:=by
 refine⟨?_,λj hj=>?_⟩
 ·rw[ar (by omega)]
  show _=dv d i+d.getD i 0*65536^i
  rw[hold i (le_refl _),<-hv,Int.pow_succ]
  generalize d.getD i 0=x
  generalize (65536:Int)^i=p
  have e:=Int.emod_add_mul_ediv (c+x) 65536
  generalize (c+x)%65536=r at *
  generalize (c+x)/65536=q at *
  have e2:(r + 65536 * q) * p = r * p + q * (p * 65536):=by grind
  rw[e]at e2
  rw[Int.add_mul]at e2
  omega
 rw[aA (by omega)];exact hold j (by omega)
theorem aH6 {l:List Int} {n i:Nat} {x:Int} (hl:l.length=n) (_hi:i<n) (h:∀j,j<i->0<=l.getD j 0/\l.getD j 0<65536):∀j,j<i+1->0<=(l.set i (x%65536)).getD j 0/\(l.set i (x%65536)).getD j 0<65536:=by
 intro j hj
 by_cases hji:i=j
 ·subst hji
  rw[aE (by omega)]
  exact⟨Int.emod_nonneg _ (by decide),Int.emod_lt_of_pos _ (by decide)⟩
 rw[aA hji];exact h j (by omega)
theorem aRK {l:List Int} {n:Nat} (hl:l.length=n) (h:∀j,j<n->0<=l.getD j 0/\l.getD j 0<65536):Dig l:=by
 intro j
 rcases Nat.lt_or_ge j n with hj|hj
 ·exact h j hj
 rw[cG (by omega)];decide
theorem aRJ {l:List Int} (h:Dig l) (x:Int):Dig (l++[x%65536]):=by
 intro j
 have h0:=Int.emod_nonneg x (show(65536:Int)≠0 by decide)
 have h1:=Int.emod_lt_of_pos x (show(0:Int)<65536 by decide)
 rcases Nat.lt_trichotomy j l.length with hj|hj|hj
 ·rw[getD_eq_getElem?_getD,List.getElem?_append_left hj,<-getD_eq_getElem?_getD];exact h j
 ·rw[getD_eq_getElem?_getD,List.getElem?_append_right (by omega),hj,Nat.sub_self]
  exact⟨h0,h1⟩
 rw[cG (by rw[zlA];show l.length+1<=j;omega)];decide
theorem aRH {l:List Int} {x:Int} {n:Nat} (h:n<=l.length):dv (l++[x]) n=dv l n:=
 fr λi hi=>by rw[getD_eq_getElem?_getD,List.getElem?_append_left (by omega),<-getD_eq_getElem?_getD]
theorem aMS {l:List Int} {m:Nat} {c v:Int} (hl:l.length=m) (hv:dv l m+c*65536^m=v):dv (l++[c%65536]) (m+1)+c/65536*65536^(m+1)=v:=by
 show dv (l++[c%65536]) m+(l++[c%65536]).getD m 0*65536^m+_=v
 rw[aRH (by omega),getD_eq_getElem?_getD,List.getElem?_append_right (by omega),hl,Nat.sub_self,<-hv,Int.pow_succ]
 show dv l m+(c%65536)*_+_=_
 generalize (65536:Int)^m=p
 have e:=Int.emod_add_mul_ediv c 65536
 generalize c%65536=r at *
 generalize c/65536=q at *
 rw [<- e];grind
theorem aMT {l:List Int} {m:Nat} {c v:Int} (hd:Dig l) (hv:dv l m+c*65536^m=v) (hc:0<c) (hm:v<65536^32):m<32:=by
 apply Classical.byContradiction
 intro h
 have h0:=(aJ hd m).1
 have hp:(65536:Int)^32<=65536^m:=by
  have:(65536:Nat)^32<=65536^m:=Nat.pow_le_pow_right (by decide) (by omega)
  have e1:((65536:Int)^32)=(((65536:Nat)^32:Nat):Int):=by rw[Int.natCast_pow];rfl
  have e2:((65536:Int)^m)=(((65536:Nat)^m:Nat):Int):=by rw[Int.natCast_pow];rfl
  rw[e1,e2];exact Int.ofNat_le.2 this
 have h1:1*65536^m<=c*65536^m:=Int.mul_le_mul_of_nonneg_right (by omega) (by have:=pI m;omega)
 omega
theorem x8 (l:List Int) (k:Nat):∀n,dv l (k+n)=dv l k+65536^k*dv (l.drop k) n
 |0=>by show dv l k=dv l k+65536^k*0;omega
 |n+1=>by
  show dv l (k+n)+l.getD (k+n) 0*65536^(k+n)=dv l k+65536^k*(dv (l.drop k) n+(l.drop k).getD n 0*65536^n)
  rw[x8 l k n,Int.pow_add]
  have e:(l.drop k).getD n 0=l.getD (k+n) 0:=by rw[getD_eq_getElem?_getD,List.getElem?_drop,<-getD_eq_getElem?_getD]
  rw[e]
  generalize (65536:Int)^k=p
  generalize (65536:Int)^n=q
  grind
theorem nE {l:List Int} {i n:Nat} {x:Int} (hl:l.length=n) (hi:i<n):dv (l.set i (l.getD i 0+x)) n=dv l n+x*65536^i:=by
 have h:∀m,i<m->dv (l.set i (l.getD i 0+x)) m=dv l m+x*65536^i:=by
  intro m
  induction m with
  |zero=>intro h;omega
  |succ m ih=>
   intro hm
   by_cases h2:i=m
   ·subst h2
    rw[ar (by omega)]
    show _=dv l i+l.getD i 0*65536^i+x*65536^i
    rw[Int.add_mul];omega
   show dv (l.set i (l.getD i 0+x)) m+(l.set i (l.getD i 0+x)).getD m 0*65536^m=dv l m+l.getD m 0*65536^m+x*65536^i
   rw[ih (by omega),aA (by omega)]
   omega
 exact h n hi
structure FoI (d e:List Int) (i:Nat):Prop where
 len:e.length=16
 val:dv e 16=dv d (min i 16)+38*dv (d.drop 16) (i-16)
 nn:∀j,0<=e.getD j 0
 zero:∀j,i<=j->e.getD j 0=0
 one:∀j,i<=j+16->e.getD j 0<65536
 two:∀j,e.getD j 0<=2555865
theorem aX6 (d:List Int):FoI d (replicate 16 0) 0:=by
 have hz:∀j,(replicate 16 (0:Int)).getD j 0=0:=by
  intro j
  rw[getD_eq_getElem?_getD,List.getElem?_replicate]
  split <;>rfl
 refine⟨rfl,by rw[vf];rfl,λj=>?_,λj _=>hz j,λj _=>?_,λj=>?_⟩<;>rw[hz j]<;>decide
theorem aQ4 {d e:List Int} {i:Nat} (h:FoI d e i) (hd:Dig d) (hi:i<16):FoI d (e.set i (e.getD i 0+d.getD i 0)) (i+1):=by
 obtain⟨h1,h2,h3,h4,h5,h6⟩:=h
 have z:=h4 i (le_refl _)
 obtain⟨x0,x1⟩:=hd i
 refine⟨by rw[length_set];exact h1,?_,λj=>?_,λj hj=>?_,λj hj=>?_,λj=>?_⟩
 ·rw[nE h1 hi,h2,Nat.min_eq_left (by omega),Nat.min_eq_left (by omega),show i-16=0 by omega,show i+1-16=0 by omega]
  show _=dv d i+d.getD i 0*65536^i+_
  omega
 ·by_cases hj:i=j
  ·subst hj;rw[aE (by omega),z];omega
  rw[aA hj];exact h3 j
 ·rw[aA (by omega)];exact h4 j (by omega)
 ·by_cases hj:i=j
  ·subst hj;rw[aE (by omega),z];omega
  rw[aA hj];exact h5 j (by omega)
 by_cases hj:i=j
 ·subst hj;rw[aE (by omega),z];omega
 rw[aA hj];exact h6 j
theorem aLO {d e:List Int} {i:Nat} (h:FoI d e i) (hd:Dig d) (hi:16<=i) (hi2:i<32):FoI d (e.set (i-16) (e.getD (i-16) 0+38*d.getD i 0)) (i+1):=by
 obtain⟨h1,h2,h3,h4,h5,h6⟩:=h
 have z:=h5 (i-16) (by omega)
 have n0:=h3 (i-16)
 obtain⟨x0,x1⟩:=hd i
 refine⟨by rw[length_set];exact h1,?_,λj=>?_,λj hj=>?_,λj hj=>?_,λj=>?_⟩
 ·rw[nE h1 (by omega),h2,Nat.min_eq_right (by omega),Nat.min_eq_right (by omega),show i+1-16=i-16+1 by omega]
  show _=dv d 16+38*(dv (d.drop 16) (i-16)+(d.drop 16).getD (i-16) 0*65536^(i-16))
  have e:(d.drop 16).getD (i-16) 0=d.getD i 0:=by rw[getD_eq_getElem?_getD,List.getElem?_drop,<-getD_eq_getElem?_getD];congr 1;omega
  rw[e,Int.mul_add,Int.mul_assoc];omega
 ·by_cases hj:i-16=j
  ·subst hj;rw[aE (by omega)];omega
  rw[aA hj];exact h3 j
 ·rw[aA (by omega)];exact h4 j (by omega)
 ·rw[aA (by omega)];exact h5 j (by omega)
 by_cases hj:i-16=j
 ·subst hj;rw[aE (by omega)];omega
 rw[aA hj];exact h6 j
theorem aQ5 {d e:List Int} {m:Nat} (h:FoI d e m) (hd:Dig d) (hm:16<=m):dv e 16<=dv d m/\0<=dv e 16/\dv e 16%57896044618658097711785492504343953926634992332820282019728792003956564819949=dv d m%57896044618658097711785492504343953926634992332820282019728792003956564819949:=by
 have hv:=h.val
 rw[Nat.min_eq_right hm]at hv
 have hs:=x8 d 16 (m-16)
 rw[show 16+(m-16)=m by omega,aTC]at hs
 have hdd:Dig (d.drop 16):=by
  intro j
  rw[getD_eq_getElem?_getD,List.getElem?_drop,<-getD_eq_getElem?_getD];exact hd _
 have b1:=(aJ hdd (m-16)).1
 have b0:=(aJ hd 16).1
 generalize dv (d.drop 16) (m-16)=x at *
 rw[hv,hs]
 generalize dv d 16=y at *
 refine⟨by omega,by omega,?_⟩
 have e:y+115792089237316195423570985008687907853269984665640564039457584007913129639936*x=y+38*x+57896044618658097711785492504343953926634992332820282019728792003956564819949*(2*x):=by omega
 rw[e,Int.add_mul_emod_self_left]
def prD:List Int:=[65517,65535,65535,65535,65535,65535,65535,65535,65535,65535,65535,65535,65535,65535,65535,32767]
theorem aND:prD=nmN aB:=jQ rfl (by
  intro i
  match i with
  |0|1|2|3|4|5|6|7|8|9|10|11|12|13|14|15=>exact⟨by decide,by decide⟩
  | n + 16=>rw [cG (by show 16 <= n + 16;omega)];decide) (by decide +kernel)
theorem jy:Dig prD:=by rw[aND];exact kB _
theorem xL:dv prD 16 = 57896044618658097711785492504343953926634992332820282019728792003956564819949:=by decide +kernel
def fz (v:Int):F:=fn (v.toNat)
theorem aUH {a b:Int} (ha:0<=a) (hb:0<=b) (h:a%57896044618658097711785492504343953926634992332820282019728792003956564819949=b%57896044618658097711785492504343953926634992332820282019728792003956564819949):fz a=fz b:=by
 unfold fz
 refine aN3 ?_
 unfold aB
 omega
theorem aAF (v:Nat):fz (v:Int)=fn v:=by unfold fz;rw[zIn]
theorem aLI {l:List Int} (hl:l.length=16) (hd:Dig l) (h:dv l 16<57896044618658097711785492504343953926634992332820282019728792003956564819949):l=nmF (fz (dv l 16)):=by
 have h0:=(aJ hd 16).1
 unfold nmF fz
 refine jQ hl hd ?_
 rw[qH,Nat.mod_eq_of_lt (by unfold aB;omega),Int.toNat_of_nonneg h0]
open Go Go.Sx Go.Cu
structure MuI (a b d:List Int) (i k:Nat):Prop where
 len:d.length=31
 val:dv d 31=dv a i*dv b 16+a.getD i 0*65536^i*dv b k
 nn:∀j,0<=d.getD j 0
 hi:∀j,d.getD j 0<=(i+1)*4294836225
 lo:∀j,i+k<=j->d.getD j 0<=i*4294836225
theorem aXS (a b:List Int):MuI a b (replicate 31 0) 0 0:=by
 have hz:∀j,(replicate 31 (0:Int)).getD j 0=0:=by
  intro j
  rw[getD_eq_getElem?_getD,List.getElem?_replicate]
  split <;>rfl
 refine⟨rfl,?_,λj=>?_,λj=>?_,λj _=>?_⟩
 ·rw[vf];show(0:Int)=0*dv b 16+_*0;omega
 ·rw[hz j];decide
 ·rw[hz j];decide
 rw[hz j];decide
theorem aNC {x y:Int} (hx:0<=x) (hx1:x<65536) (hy:0<=y) (hy1:y<65536):0<=x*y/\x*y<=4294836225:=by
 have h1:x*y<=65535*y:=Int.mul_le_mul_of_nonneg_right (by omega) hy
 exact⟨Int.mul_nonneg hx hy,by omega⟩
theorem aKX {a b d:List Int} {i k:Nat} (h:MuI a b d i k) (ha:Dig a) (hb:Dig b) (hi:i<16) (hk:k<16):MuI a b (d.set (i+k) (d.getD (i+k) 0+a.getD i 0*b.getD k 0)) i (k+1):=by
 obtain⟨h1,h2,h3,h4,h5⟩:=h
 have z:=h5 (i+k) (le_refl _)
 have n0:=h3 (i+k)
 obtain⟨x0,x1⟩:=ha i
 obtain⟨y0,y1⟩:=hb k
 obtain⟨p0,p1⟩:=aNC x0 x1 y0 y1
 have e:((i:Int)+1)*4294836225=i*4294836225+4294836225:=by omega
 refine⟨by rw[length_set];exact h1,?_,λj=>?_,λj=>?_,λj hj=>?_⟩
 ·rw[nE h1 (by omega),h2]
  show _=dv a i*dv b 16+a.getD i 0*65536^i*(dv b k+b.getD k 0*65536^k)
  rw[Int.pow_add]
  generalize (65536:Int)^i=p
  generalize (65536:Int)^k=q
  grind
 ·by_cases hj:i+k=j
  ·subst hj;rw[aE (by omega)];omega
  rw[aA hj];exact h3 j
 ·by_cases hj:i+k=j
  ·subst hj;rw[aE (by omega)];omega
  rw[aA hj];exact h4 j
 rw[aA (by omega)];exact h5 j (by omega)
theorem aQE {a b d:List Int} {i:Nat} (h:MuI a b d i 16):MuI a b d (i+1) 0:=by
 obtain⟨h1,h2,h3,h4,h5⟩:=h
 refine⟨h1,?_,h3,λj=>?_,λj _=>?_⟩
 ·rw[h2]
  show _=(dv a i+a.getD i 0*65536^i)*dv b 16+_*0
  rw[Int.add_mul];omega
 ·have:=h4 j;omega
 have:=h4 j;omega
theorem aQF {a b d:List Int} (h:MuI a b d 16 0):dv d 31=dv a 16*dv b 16/\∀j,d.getD j 0<35184372088832:=by
 obtain⟨h1,h2,h3,h4,h5⟩:=h
 refine⟨?_,λj=>?_⟩
 ·rw[h2];show _+_*0=_;omega
 have:=h4 j;omega
theorem aTR {e i:Nat} (hi:i<256):((nmN e).getD (i/16) 0/2^(i%16)).toNat&&&1=e/2^i%2:=by
 rw[pb e (by omega)]
 have e1:(((e/65536^(i/16)%65536:Nat):Int)/2^(i%16)).toNat=e/65536^(i/16)%65536/2^(i%16):=by
  have:((2:Int)^(i%16))=((2^(i%16):Nat):Int):=by rw[Int.natCast_pow];rfl
  rw[this,<-Int.natCast_ediv,zIn]
 rw[e1,show(1:Nat)=2^1-1 from rfl,Nat.and_two_pow_sub_one_eq_mod]
 have e2:(2:Nat)^i=65536^(i/16)*2^(i%16):=by
  rw[show(65536:Nat)=2^16 from rfl,<-Nat.pow_mul,<-Nat.pow_add]
  congr 1;omega
 rw[e2,<-Nat.div_div_eq_div_mul]
 generalize e/65536^(i/16)=w
 have hm:i%16<16:=Nat.mod_lt _ (by omega)
 generalize i%16=m at hm
 have:m=0\/m=1\/m=2\/m=3\/m=4\/m=5\/m=6\/m=7\/m=8\/m=9\/m=10\/m=11\/m=12\/m=13\/m=14\/m=15:=by omega
 rcases this with rfl|rfl|rfl|rfl|rfl|rfl|rfl|rfl|rfl|rfl|rfl|rfl|rfl|rfl|rfl|rfl<;>(simp only[Nat.reducePow];omega)
theorem aS8 (a:F) (e i:Nat):pw a (e/2^i)=if e/2^i%2=1 then pw a (e/2^(i+1))*pw a (e/2^(i+1))*a else pw a (e/2^(i+1))*pw a (e/2^(i+1)):=by
 have h:e/2^(i+1)=e/2^i/2:=by rw[Nat.pow_succ,Nat.div_div_eq_div_mul]
 rw[h,<-rZ]
 generalize e/2^i=x
 split
 ·have:x=x/2+x/2+1:=by omega
  conv=>lhs;rw[this]
  rfl
 congr 1;omega
def hfS (l:List Int):Nat->List Int
 |0=>l
 |i+1=>if i<15 then((hfS l i).set i ((hfS l i).getD i 0/2)).set i (((hfS l i).set i ((hfS l i).getD i 0/2)).getD i 0+(hfS l i).getD (i+1) 0%2*32768)else(hfS l i).set i ((hfS l i).getD i 0/2)
theorem jW {l:List Int} (h:l.length=16):∀i,(hfS l i).length=16
 |0=>h
 |i+1=>by simp only[hfS];split <;>simp only[length_set,jW h i]
theorem xy {l:List Int} (h:l.length=16) (hd:Dig l):∀i,i<=16->(∀j,i<=j->(hfS l i).getD j 0=l.getD j 0)/\(∀j,j<i->(hfS l i).getD j 0=(l.getD j 0+65536*l.getD (j+1) 0)/2%65536)
 |0,_=>⟨λ_ _=>rfl,λj hj=>by omega⟩
 |i+1,hi=>by
  obtain⟨h1,h2⟩:=xy h hd i (by omega)
  have hl:=jW h i
  have hx:=h1 i (le_refl _)
  have hy:=h1 (i+1) (by omega)
  obtain⟨x0,x1⟩:=hd i
  obtain⟨y0,y1⟩:=hd (i+1)
  simp only[hfS]
  rw[hx,hy]
  split
  ·refine⟨λj hj=>?_,λj hj=>?_⟩
   ·rw[aA (by omega),aA (by omega)];exact h1 j (by omega)
   by_cases hji:i=j
   ·subst hji
    rw[aE (by rw[length_set];omega),aE (by omega)];omega
   rw[aA hji,aA hji];exact h2 j (by omega)
  refine⟨λj hj=>?_,λj hj=>?_⟩
  ·rw[aA (by omega)];exact h1 j (by omega)
  by_cases hji:i=j
  ·subst hji
   rw[aE (by omega)]
   have:l.getD (i+1) 0=0:=cG (by omega)
   omega
  rw[aA hji];exact h2 j (by omega)
theorem vZ {A B:List Int} {n:Nat} (ha:A.length=n) (hb:B.length=n) (h:∀i,i<n->A.getD i 0=B.getD i 0):A=B:=by
 apply List.ext_getElem (by rw[ha,hb])
 intro i h1 h2
 have:=h i (by omega)
 rw[getD_eq_getElem?_getD,getD_eq_getElem?_getD,List.getElem?_eq_getElem h1,List.getElem?_eq_getElem h2]at this
 exact this
theorem aQ3 {e:Nat} (h:e<115792089237316195423570985008687907853269984665640564039457584007913129639936):hfS (nmN e) 16=nmN (e/2):=by
 refine vZ (n:=16) (jW (aR e) 16) (aR _) λi hi=>?_
 rw[(xy (aR e) (kB e) 16 (le_refl _)).2 i hi,pb e hi,pb (e/2) hi]
 have e2:(nmN e).getD (i+1) 0=((e/65536^i/65536%65536:Nat):Int):=by
  rw[Nat.div_div_eq_div_mul,<-Nat.pow_succ]
  by_cases h15:i+1<16
  ·rw[pb e h15]
  obtain rfl:i=15:=by omega
  rw[cG (by rw[aR];omega),Nat.div_eq_of_lt (by omega)];rfl
 have e3:e/2/65536^i=e/65536^i/2:=by rw[Nat.div_div_eq_div_mul,Nat.mul_comm 2,<-Nat.div_div_eq_div_mul]
 rw[e2,e3]
 generalize e/65536^i=w
 omega
open Go Go.Sx Go.Cu
theorem aHL:Sx.Fn Γ.P 131 [] [] (λv _=>v= .ai prD):=by
 refine aG (Γ:=Γ) (fn:=Tryz.f131) rfl rfl rfl rfl ?_
 refine gB ?_
 refine Ret.i (.ai prD) [] [] rfl fc rfl rfl fc rfl fc rfl
theorem aYK (a b:List Int) (ha:Dig a) (hb:Dig b) (hla:a.length=16) (hlb:b.length=16):
  Sx.Fn Γ.P 139 [.ai a,.ai b] [] (λv _=>v= .bool (dv a 16<dv b 16)):=by
 refine aG (Γ:=Γ) (fn:=Tryz.f139) rfl rfl rfl rfl ?_
 refine gB ?_
 refine aY.i (σ:=Nat) (λk=>k<=16/\∀j,16-k<=j->j<16->a.getD j 0=b.getD j 0)
  (λk=>([(2,.ptr 2 0 none),(3,.ptr 3 0 none),(5,.i .i64 (15-(k:Int)))],[(2,.mem true 0 [(16,.ai a)]),(3,.mem true 0 [(16,.ai b)])])) (λk=>16-k) 0 ⟨zero_le _,λj h1 h2=>by omega⟩ ?_ ?_
 ·refine Le.i [] rfl fc rfl ?_ rfl
  exact fc
 rintro k ⟨hk,hs⟩
 refine zB.i ?_ ?_<;>intro hc
 ·have hc:(15-(k:Int))≥0:=hc
  have e0:(15-(k:Int)).toNat=15-k:=by omega
  refine aH.i [[],[0],[0,1],[],[3],[3,4],r_6] r_7 (by kernel_rfl) ?_
  repeat refine sdH ?_
  refine zB.i ?_ ?_<;>intro hd
  ·have hd:¬a.getD (fL 0 (15-(k:Int)).toNat) 0=b.getD (fL 0 (15-(k:Int)).toNat) 0:=hd
   rw[zQ,zero_add,e0]at hd
   refine aH.i [[],[0],[0,1],[],[3],[3,4],r_6,r_7] r_8 (by kernel_rfl) ?_
   repeat refine sdH ?_
   refine Ret.i (.bool (dv a 16<dv b 16)) [] [] rfl trivial rfl rfl ?_ rfl ?_ rfl
   ·show dv a 16<dv b 16↔a.getD (fL 0 (15-(k:Int)).toNat) 0<b.getD (fL 0 (15-(k:Int)).toNat) 0
    rw[zQ,zero_add,e0]
    have h1:∀j,15-k<j->j<16->a.getD j 0=b.getD j 0:=λj h1 h2=>hs j (by omega) h2
    constructor
    ·intro h
     rcases Int.lt_or_le (a.getD (15-k) 0) (b.getD (15-k) 0)with h2|h2
     ·exact h2
     have:=aMB hb ha (n:=16) (i:=15-k) (by omega) (by omega) λj h3 h4=>(h1 j h3 h4).symm
     omega
    intro h
    exact aMB ha hb (by omega) h h1
   exact fc
  have hd:¬¬a.getD (fL 0 (15-(k:Int)).toNat) 0=b.getD (fL 0 (15-(k:Int)).toNat) 0:=hd
  rw[zQ,zero_add,e0]at hd
  refine gB ?_
  refine⟨k+1,⟨by omega,λj h1 h2=>?_⟩,by omega,Le.i [] rfl fc rfl ?_ rfl⟩
  ·by_cases hj:j=15-k
   ·subst hj;omega
   exact hs j (by omega) h2
  exact fc
 have hc:¬(15-(k:Int))≥0:=hc
 have e:dv a 16=dv b 16:=fr λi hi=>hs i (by omega) hi
 refine gB ?_
 refine Ret.i (.bool (dv a 16<dv b 16)) [] [] rfl trivial rfl rfl ?_ rfl ?_ rfl
 ·show¬dv a 16<dv b 16
  omega
 exact fc
theorem aL4 (a b:List Int) (ha:Dig a) (hb:Dig b) (hla:a.length=16) (hlb:b.length=16):
  Sx.Fn Γ.P 130 [.ai a,.ai b] [] (λv _=>v= .ai (sbS a b 16).1):=by
 refine aG (Γ:=Γ) (fn:=Tryz.f130) rfl rfl rfl rfl ?_
 refine gB ?_
 refine aY.i (σ:=Nat) (λi=>i<=16)
  (λi=>([(2,.ptr 2 0 none),(3,.ptr 3 0 none),(4,.ptr 4 0 none),(5,.i .i64 (sbS a b i).2),(6,.i .i64 i)],[(2,.mem true 0 [(16,.ai (sbS a b i).1)]),(3,.mem true 0 [(16,.ai b)]),(4,.mem true 0 [(16,.ai (replicate 16 0))])])) (λi=>16-i) 0 (zero_le _) ?_ ?_
 ·have z1:(sbS a b 0).1=a:=rfl
  have z2:(sbS a b 0).2=0:=rfl
  refine Le.i [] rfl fc rfl fc rfl
 rintro i hi
 obtain⟨s1,s2,s3⟩:=mR ha hb i
 have sl:=bT a b i
 rw[hla]at sl
 refine zB.i ?_ ?_<;>intro hc
 ·have hc:(i:Int)<16:=hc
  have hai:=s1 i
  have hbi:=hb i
  have hx:sbS a b (i+1)=if(sbS a b i).1.getD i 0-b.getD i 0-(sbS a b i).2<0 then((sbS a b i).1.set i ((sbS a b i).1.getD i 0-b.getD i 0-(sbS a b i).2+65536),1)
   else((sbS a b i).1.set i ((sbS a b i).1.getD i 0-b.getD i 0-(sbS a b i).2),0):=rfl
  generalize (sbS a b i).1=X at *
  generalize (sbS a b i).2=C at *
  refine aH.i [[],[0],[0,1],[],[3],[3,4],r_6,[],r_8,r_9] ek (by kernel_rfl) ?_
  refine gC ?_
  refine zB.i ?_ ?_<;>intro hd
  ·have hd:X.getD (fL 0 (i:Int).toNat) 0-b.getD (fL 0 (i:Int).toNat) 0-C<0:=hd
   rw[zQ,zero_add,zIn]at hd
   rw[if_pos hd]at hx
   have hx1:(sbS a b (i+1)).1=X.set i (X.getD i 0-b.getD i 0-C+65536):=by rw[hx]
   have hx2:(sbS a b (i+1)).2=1:=by rw[hx]
   clear hx
   refine gC ?_
   refine⟨i+1,by omega,by omega,Le.i [] rfl fcn rfl fcn rfl⟩
  have hd:¬X.getD (fL 0 (i:Int).toNat) 0-b.getD (fL 0 (i:Int).toNat) 0-C<0:=hd
  rw[zQ,zero_add,zIn]at hd
  rw[if_neg hd]at hx
  have hx1:(sbS a b (i+1)).1=X.set i (X.getD i 0-b.getD i 0-C):=by rw[hx]
  have hx2:(sbS a b (i+1)).2=0:=by rw[hx]
  clear hx
  refine gC ?_
  refine⟨i+1,by omega,by omega,Le.i [] rfl fcn rfl fcn rfl⟩
 obtain rfl:i=16:=by have hc:¬(i:Int)<16:=hc;omega
 generalize (sbS a b 16).1=X at *
 refine gB ?_
 refine Ret.i (.ai X) [] [] rfl fc rfl rfl fc rfl fc rfl
theorem oE {a b:List Int} (ha:Dig a) (hb:Dig b) (hla:a.length=16) (h:dv b 16<=dv a 16):
  (sbS a b 16).1.length=16/\Dig (sbS a b 16).1/\dv (sbS a b 16).1 16=dv a 16-dv b 16:=by
 have hv:=wy a b 16 (by omega)
 obtain⟨s1,s2,s3⟩:=mR ha hb 16
 obtain⟨b1,b2⟩:=aJ s1 16
 have hc:(sbS a b 16).2=0:=by
  rcases Int.lt_or_le (sbS a b 16).2 1 with h3|h3
  ·omega
  have h4:(sbS a b 16).2=1:=by omega
  rw[h4]at hv
  omega
 rw[hc]at hv
 exact⟨by rw[bT];exact hla,s1,by omega⟩
open Go Go.Sx Go.Cu
theorem aTD {m:Nat} (h:16<=m):(115792089237316195423570985008687907853269984665640564039457584007913129639936:Int)<=65536^m:=by
 have:(65536:Nat)^16<=65536^m:=Nat.pow_le_pow_right (by decide) h
 have e2:((65536:Int)^m)=(((65536:Nat)^m:Nat):Int):=by rw[Int.natCast_pow];rfl
 rw[e2,<-aTC,show((65536:Int)^16)=(((65536:Nat)^16:Nat):Int) by decide]
 exact Int.ofNat_le.2 this
theorem aR2 {l:List Int} {m:Nat} {c v:Int} (hd:Dig l) (hv:dv l m+c*65536^m=v) (hc:0<c) (hm:16<=m):115792089237316195423570985008687907853269984665640564039457584007913129639936<=v:=by
 have h0:=(aJ hd m).1
 have h1:1*65536^m<=c*65536^m:=Int.mul_le_mul_of_nonneg_right (by omega) (by have:=pI m;omega)
 have h2:=aTD hm
 omega
theorem aLN {d e:List Int} {m:Nat} (h:FoI d e m) (hd:Dig d) (hm:16<=m) (hv:115792089237316195423570985008687907853269984665640564039457584007913129639936<=dv d m):dv e 16+100<dv d m:=by
 have hv2:=h.val
 rw[Nat.min_eq_right hm]at hv2
 have hs:=x8 d 16 (m-16)
 rw[show 16+(m-16)=m by omega,aTC]at hs
 have b0:=(aJ hd 16).2
 rw[aTC]at b0
 generalize dv (d.drop 16) (m-16)=x at *
 rw[hs]at hv⊢
 rw[hv2]
 generalize dv d 16=y at *
 omega
theorem aL3 (d:List Int) (n c0:Nat) (hl:d.length=n) (hn:n<=31) (hnc:n<=c0) (hd:∀j,0<=d.getD j 0/\d.getD j 0<35184372088832) (h0:0<=dv d n) (hv:dv d n<65536^32):
  Sx.Fn Γ.P 132 [.sl 1000 0 0 n c0] [(1000,.mem true (c0-n) [(n,.ai d)])] (λv M=>v= .ai (nmF (fz (dv d n)))/\M=[(1000,.dead)]):=by
 have hP:=aHL
 have hpl:prD.length=16:=rfl
 have pd:=jy
 have pv:=xL
 obtain⟨prime,hprime⟩:∃p,prD=p:=⟨_,rfl⟩
 rw[hprime]at hP hpl pd pv
 refine aG (Γ:=Γ) (fn:=Tryz.f132) rfl rfl rfl rfl ?_
 refine gB ?_
 refine aY.i (σ:=List Int×Nat×Nat) (λs=>s.1.length=s.2.1/\s.2.1<=s.2.2/\s.2.1<=31/\(∀j,0<=s.1.getD j 0/\s.1.getD j 0<35184372088832)/\0<=dv s.1 s.2.1/\dv s.1 s.2.1<65536^32
   /\dv s.1 s.2.1%57896044618658097711785492504343953926634992332820282019728792003956564819949=dv d n%57896044618658097711785492504343953926634992332820282019728792003956564819949)
  (λs=>([(0,.sl 203 0 0 s.2.1 s.2.2),(2,.ptr 2 0 none),(3,.ptr 3 0 none)],
   [(1000,.dead),(203,.mem true (s.2.2-s.2.1) [(s.2.1,.ai s.1)]),(2,.mem true 0 [(16,.ai (replicate 16 0))]),(3,.mem true 0 [(16,.ai (replicate 16 0))])]))
  (λs=>(dv s.1 s.2.1).toNat+s.2.1) (d,n,c0) ⟨hl,hnc,hn,hd,h0,hv,rfl⟩ ?_ ?_
 ·refine Le.i [(203,(1000,0,none))] rfl fc rfl fc rfl
 rintro⟨d1,n1,c1⟩ ⟨hl1,hnc1,hn1,hd1,h01,hv1,hm1⟩
 have hl1:d1.length=n1:=hl1
 have hnc1:n1<=c1:=hnc1
 have hn1:n1<=31:=hn1
 have hd1:∀j,0<=d1.getD j 0/\d1.getD j 0<35184372088832:=hd1
 have h01:0<=dv d1 n1:=h01
 have hv1:dv d1 n1<65536^32:=hv1
 have hm1:dv d1 n1%57896044618658097711785492504343953926634992332820282019728792003956564819949=dv d n%57896044618658097711785492504343953926634992332820282019728792003956564819949:=hm1
 clear hv hd hnc hn hl
 refine gB ?_
 refine aY.i (σ:=List Int×Nat×Int) (λs=>s.1.length=n1/\s.2.1<=n1/\(∀j,j<s.2.1->0<=s.1.getD j 0/\s.1.getD j 0<65536)/\(∀j,s.2.1<=j->s.1.getD j 0=d1.getD j 0)/\dv s.1 s.2.1+s.2.2*65536^s.2.1=dv d1 s.2.1/\0<=s.2.2/\s.2.2<35184372088832)
  (λs=>([(0,.sl 203 0 0 n1 c1),(2,.ptr 2 0 none),(3,.ptr 3 0 none),(4,.i .i64 s.2.2),(5,.i .i64 s.2.1)],
   [(1000,.dead),(203,.mem true (c1-n1) [(n1,.ai s.1)]),(2,.mem true 0 [(16,.ai (replicate 16 0))]),(3,.mem true 0 [(16,.ai (replicate 16 0))])]))
  (λs=>n1-s.2.1) (d1,0,0) ⟨hl1,zero_le _,λj hj=>absurd hj (Nat.not_lt_zero _),λ_ _=>rfl,by show(0:Int)+0*65536^0=0;decide,Int.le_refl _,by show(0:Int)<35184372088832;decide⟩ ?_ ?_
 ·refine Le.i [] rfl fc rfl fc rfl
 rintro⟨l,i,c⟩ ⟨a1,a2,a3,a4,a5,a6,a7⟩
 have a1:l.length=n1:=a1
 have a2:i<=n1:=a2
 have a3:∀j,j<i->0<=l.getD j 0/\l.getD j 0<65536:=a3
 have a4:∀j,i<=j->l.getD j 0=d1.getD j 0:=a4
 have a5:dv l i+c*65536^i=dv d1 i:=a5
 have a6:0<=c:=a6
 have a7:c<35184372088832:=a7
 refine zB.i ?_ ?_<;>intro hc
 ·have hc:(i:Int)<n1:=hc
  have hx:=a4 i (le_refl _)
  have hy:=hd1 i
  rw[<-hx]at hy
  refine gC ?_
  obtain⟨b1,b2⟩:=aMG a1 (by omega) a4 a5 a6
  refine⟨(l.set i ((c+l.getD i 0)%65536),i+1,(c+l.getD i 0)/65536),⟨by rw[length_set];exact a1,by show i+1<=n1;omega,aH6 a1 (by omega) a3,b2,b1,by show 0<=(c+l.getD i 0)/65536;omega,by show(c+l.getD i 0)/65536<35184372088832;omega⟩,by show n1-(i+1)<n1-i;omega,Le.i [] rfl fcn rfl fcn rfl⟩
 obtain rfl:i=n1:=by have hc:¬(i:Int)<n1:=hc;omega
 have ad:=aRK a1 a3
 refine gB ?_
 refine aY.i (σ:=List Int×Nat×Nat×Int) (λs=>s.1.length=s.2.1/\s.2.1<=s.2.2.1/\Dig s.1/\dv s.1 s.2.1+s.2.2.2*65536^s.2.1=dv d1 i/\0<=s.2.2.2/\s.2.2.2<35184372088832/\s.2.1<=32/\(s.2.1<=16\/s.2.1=i\/115792089237316195423570985008687907853269984665640564039457584007913129639936<=dv d1 i))
  (λs=>([(0,.sl 204 0 0 s.2.1 s.2.2.1),(2,.ptr 2 0 none),(3,.ptr 3 0 none),(4,.i .i64 s.2.2.2)],
   [(1000,.dead),(204,.mem true (s.2.2.1-s.2.1) [(s.2.1,.ai s.1)]),(2,.mem true 0 [(16,.ai (replicate 16 0))]),(3,.mem true 0 [(16,.ai (replicate 16 0))])]))
  (λs=>s.2.2.2.toNat) (l,i,c1,c) ⟨a1,hnc1,ad,a5,a6,a7,by show i<=32;omega,Or.inr (Or.inl rfl)⟩ ?_ ?_
 ·refine Le.i [(204,(203,0,none))] rfl fc rfl fc rfl
 clear a1 a2 a3 a4 a5 a6 a7 ad hc
 rintro⟨l,m,k,c⟩ ⟨a1,a2,a3,a4,a5,a6,a7,a8⟩
 have a1:l.length=m:=a1
 have a2:m<=k:=a2
 have a3:Dig l:=a3
 have a4:dv l m+c*65536^m=dv d1 i:=a4
 have a5:0<=c:=a5
 have a6:c<35184372088832:=a6
 have a7:m<=32:=a7
 have a8:m<=16\/m=i\/115792089237316195423570985008687907853269984665640564039457584007913129639936<=dv d1 i:=a8
 refine zB.i ?_ ?_<;>intro hc
 ·have hc:0<c:=hc
  have hm:=aMT a3 a4 hc hv1
  have hA:=aMS a1 a4
  refine gB ?_
  refineλc' hc'=>?_
  have hc':m+1<=c':=hc'
  refine gB ?_
  refine⟨(l++[c%65536],m+1,c',c/65536),⟨by rw[zlA,a1];rfl,hc',aRJ a3 c,hA,by show 0<=c/65536;omega,by show c/65536<35184372088832;omega,by show m+1<=32;omega,?_⟩,by show(c/65536).toNat<c.toNat;omega,Le.i [(204,(34,0,none))] rfl ?_ rfl ?_ rfl⟩
  ·rcases Nat.lt_or_ge m 16 with h|h
   ·exact Or.inl (by show m+1<=16;omega)
   exact Or.inr (Or.inr (aR2 a3 a4 hc h))
  ·exact fc
  exact fc
 obtain rfl:c=0:=by have hc:¬0<c:=hc;omega
 have a4:dv l m=dv d1 i:=by have a4:dv l m+0*65536^m=dv d1 i:=a4;rw[Int.zero_mul,Int.add_zero]at a4;exact a4
 have a1:l.length=m:=a1
 have a2:m<=k:=a2
 have a3:Dig l:=a3
 have a7:m<=32:=a7
 have a8:m<=16\/m=i\/115792089237316195423570985008687907853269984665640564039457584007913129639936<=dv d1 i:=a8
 refine gB ?_
 refine zB.i ?_ ?_<;>intro h16
 ·have h16:(m:Int)<=16:=h16
  refine gB ?_
  refine aY.i (σ:=List Int×Nat) (λs=>s.1.length=16/\s.2<=m/\(∀j,j<s.2->s.1.getD j 0=l.getD j 0)/\(∀j,s.2<=j->s.1.getD j 0=0))
   (λs=>([(0,.sl 204 0 0 m k),(2,.ptr 2 0 none),(3,.ptr 3 0 none),(8,.i .i64 s.2)],
    [(1000,.dead),(204,.mem true (k-m) [(m,.ai l)]),(2,.mem true 0 [(16,.ai (replicate 16 0))]),(3,.mem true 0 [(16,.ai s.1)])]))
   (λs=>m-s.2) (replicate 16 0,0) ⟨rfl,zero_le _,λj hj=>absurd hj (Nat.not_lt_zero _),λj _=>?_⟩ ?_ ?_
  ·show(replicate 16 (0:Int)).getD j 0=0
   rw[getD_eq_getElem?_getD,List.getElem?_replicate]
   split <;>rfl
  ·refine Le.i [] rfl fc rfl fc rfl
  rintro⟨A,q⟩ ⟨b1,b2,b3,b4⟩
  have b1:A.length=16:=b1
  have b2:q<=m:=b2
  have b3:∀j,j<q->A.getD j 0=l.getD j 0:=b3
  have b4:∀j,q<=j->A.getD j 0=0:=b4
  refine zB.i ?_ ?_<;>intro hc
  ·have hc:(q:Int)<m:=hc
   refine gC ?_
   refine⟨(A.set q (l.getD q 0),q+1),⟨by rw[length_set];exact b1,by show q+1<=m;omega,λj hj=>?_,λj hj=>?_⟩,by show m-(q+1)<m-q;omega,Le.i [] rfl ?_ rfl ?_ rfl⟩
   ·have hj:j<q+1:=hj
    show(A.set q (l.getD q 0)).getD j 0=l.getD j 0
    by_cases h:q=j
    ·subst h;rw[aE (by omega)]
    rw[aA h];exact b3 j (by omega)
   ·have hj:q+1<=j:=hj
    show(A.set q (l.getD q 0)).getD j 0=0
    rw[aA (by omega)];exact b4 j (by omega)
   ·exact fcn
   exact fcn
  have hq:q=m:=by have hc:¬(q:Int)<m:=hc;omega
  have Ad:Dig A:=by
   intro j
   rcases Nat.lt_or_ge j q with h|h
   ·rw[b3 j h];exact a3 j
   rw[b4 j h];decide
  have Av:dv A 16=dv d1 i:=by
   rw[<-a4,tT (a:=m) (by omega) λj h1 _=>b4 j (by omega)]
   exact fr λj hj=>b3 j (by omega)
  rw[<-Av]at hm1
  clear b2 b3 b4 hc Av a1 a2 a3 a4 a7 a8 hq
  refine gB ?_
  refine aY.i (σ:=List Int) (λA=>A.length=16/\Dig A/\dv A 16%57896044618658097711785492504343953926634992332820282019728792003956564819949=dv d n%57896044618658097711785492504343953926634992332820282019728792003956564819949)
   (λA=>([(2,.ptr 2 0 none),(3,.ptr 3 0 none)],
    [(1000,.dead),(2,.mem true 0 [(16,.ai (replicate 16 0))]),(3,.mem true 0 [(16,.ai A)])]))
   (λA=>(dv A 16).toNat) A ⟨b1,Ad,hm1⟩ ?_ ?_
  ·refine Le.i [] rfl fc rfl fc rfl
  clear hm1 Ad b1
  rintro A ⟨b1,b2,b3⟩
  have hL:=aYK A prime b2 pd b1 hpl
  have hM:=aL4 A prime b2 pd b1 hpl
  refine aH.i [[],[],[0,1],[0,1,2]] r_4 (by kernel_rfl) ?_
  refine gD ?_
  refine Call.pure hP rfl fc ?_
  rintro _ rfl
  refine gD ?_
  refine Call.pure hL rfl fc ?_
  rintro _ rfl
  refine gD ?_
  refine zB.i ?_ ?_<;>intro hc
  ·have hc:¬dv A 16<dv prime 16:=hc
   obtain⟨m1,m2,m3⟩:=oE b2 pd b1 (by omega)
   have b0:=(aJ m2 16).1
   generalize (sbS A prime 16).1=B at *
   refine aH.i [[],[],[0,1],[0,1,2]] r_4 (by kernel_rfl) ?_
   refine gD ?_
   refine Call.pure hP rfl fc ?_
   rintro _ rfl
   refine gD ?_
   refine Call.pure hM rfl fc ?_
   rintro _ rfl
   refine gD ?_
   refine⟨B,⟨m1,m2,?_⟩,by omega,Le.i [] rfl ?_ rfl ?_ rfl⟩
   ·rw[m3,pv,<-b3];exact Int.sub_emod_right _ _
   ·exact fc
   exact fc
  have hc:¬¬dv A 16<dv prime 16:=hc
  have hv:A=nmF (fz (dv A 16)):=aLI b1 b2 (by omega)
  have he:fz (dv A 16)=fz (dv d n):=aUH (aJ b2 16).1 h0 b3
  rw[he]at hv
  rw[<-hv]
  refine gB ?_
  refine Ret.i (.ai A) [(1000,.dead)] [] rfl fc ⟨rfl,rfl⟩ rfl fc rfl fc rfl
 have h16:¬(m:Int)<=16:=h16
 refine gB ?_
 refine aY.i (σ:=List Int×Nat) (λs=>s.2<=m/\FoI l s.1 s.2)
  (λs=>([(0,.sl 204 0 0 m k),(2,.ptr 2 0 none),(3,.ptr 3 0 none),(6,.sl 40 0 0 16 16),(7,.i .i64 s.2)],
   [(1000,.dead),(204,.mem true (k-m) [(m,.ai l)]),(2,.mem true 0 [(16,.ai (replicate 16 0))]),(3,.mem true 0 [(16,.ai (replicate 16 0))]),(40,.mem true 0 [(16,.ai s.1)])]))
  (λs=>m-s.2) (replicate 16 0,0) ⟨zero_le _,aX6 l⟩ ?_ ?_
 ·refine Le.i [] rfl fc rfl fc rfl
 rintro⟨e,q⟩ ⟨b1,b2⟩
 have b1:q<=m:=b1
 have b2:FoI l e q:=b2
 have el:=b2.len
 refine zB.i ?_ ?_<;>intro hc
 ·have hc:(q:Int)<m:=hc
  have lq:=a3 q
  refine gB ?_
  refine zB.i ?_ ?_<;>intro hq
  ·have hq:(q:Int)<16:=hq
   have e1:=b2.nn q
   have e2:=b2.two q
   have b3:=aQ4 b2 a3 (by omega)
   refine aH.i [[],[],[],[],[2,3],[2,3,4],[],[],[6,7],[6,7,8],[2,3,4,5,6,7,8,9],fe,kX] jO (by kernel_rfl) ?_
   refine gC ?_
   refine⟨(e.set q (e.getD q 0+l.getD q 0),q+1),⟨by show q+1<=m;omega,b3⟩,by show m-(q+1)<m-q;omega,Le.i [] rfl fcn rfl fcn rfl⟩
  have hq:¬(q:Int)<16:=hq
  have e0:((q:Int)-16).toNat=q-16:=by omega
  have e1:=b2.nn (q-16)
  have e2:=b2.two (q-16)
  have b3:=aLO b2 a3 (by omega) (by omega)
  refine aH.i [[],[],[1],[],[],[4],[3,4,5],[3,4,5,6],[],[],[8,9],[8,9,10],[8,9,10,11],[3,4,5,6,7,8,9,10,11,12],oB,nw] na (by kernel_rfl) ?_
  repeat refine sdH ?_
  refine⟨(e.set (q-16) (e.getD (q-16) 0+38*l.getD q 0),q+1),⟨by show q+1<=m;omega,b3⟩,by show m-(q+1)<m-q;omega,Le.i [] rfl fcH rfl fcH rfl⟩
 obtain rfl:q=m:=by have hc:¬(q:Int)<m:=hc;omega
 obtain⟨f1,f2,f3⟩:=aQ5 b2 a3 (by omega)
 refine gB ?_
 refine⟨(e,16,16),⟨el,le_refl _,by show 16<=31;omega,λj=>⟨b2.nn j,by have:=b2.two j;show e.getD j 0<_;omega⟩,f2,by show dv e 16<_;omega,?_⟩,?_,Le.i [(203,(40,0,none))] rfl ?_ rfl ?_ rfl⟩
 ·show dv e 16%_=_
  rw[f3,a4,hm1]
 ·show(dv e 16).toNat+16<(dv d1 i).toNat+i
  rcases a8 with h|h|h
  ·omega
  ·omega
  have:=aLN b2 a3 (by omega) (by omega)
  omega
 ·exact fc
 exact fc
end Go.Proofs.YtllmefnbacjjcaaGreat
