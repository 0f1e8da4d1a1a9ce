/- Walks. -/
import Derived.Test.YtaehfiohjkiajaaGreatHwSg3ToRf6
import Derived.Test.YtaehfiohjkiajaaGreatHx7
import Derived.Test.YtaehfiohjkiajaaGreatHwMac4ToCv5
import Derived.Test.YtaehfiohjkiajaaGreatHwScR4ToSg2
import Derived.Test.YtaehfiohjkiajaaGreatHwSha8ToMac3
import Derived.Test.YtaehfiohjkiajaaGreatHwCu10ToTm1
import Derived.Test.YtaehfiohjkiajaaGreatHwOfToCbc1
set_option linter.unusedSimpArgs false
set_option linter.unusedVariables false
set_option maxHeartbeats 4000000
open UInt8 (ofNat)
open List (replicate take drop take_of_length_le drop_zero)
open UInt64 (ofInt)
open Nat (zero_add)
open Option (getD_none)
set_option maxRecDepth 100000
namespace Go.Proofs.YtaehfiohjkiajaaGreat
open Go Go.Sx Go.Cu
theorem aV9:fn 1 = 1:=by decide +kernel
theorem aa6:fn 2 = 2:=by decide +kernel
theorem aVO (e i:Nat) (hi:i<256):0<=(nmN e).getD (i/16) 0/2^(i%16)/\(nmN e).getD (i/16) 0/2^(i%16)<65536:=by
 obtain⟨h0,h1⟩:=kB e (i/16);generalize (nmN e).getD (i/16) 0=x at *;have hp:((2:Int)^(i%16))=((2^(i%16):Nat):Int):=by rw[Int.natCast_pow];rfl
 obtain⟨n,rfl⟩:=Int.eq_ofNat_of_zero_le h0;have:=Nat.div_le_self n (2^(i%16));rw[hp,<-Int.natCast_ediv];generalize n/2^(i%16)=m at *;omega
theorem aFT (n:Nat) (h:n<18446744073709551616):(ofInt (n:Int)).toNat=n:=by
 unfold ofInt;rw[UInt64.toNat_ofNat'];omega
theorem aHK (x:F) (e:Nat) (he:e<115792089237316195423570985008687907853269984665640564039457584007913129639936):Sx.Fn Γ.P 134 [.ai (nmF x),.ai (nmN e)] [] (λv _=>v= .ai (nmF (pw x e))):=by
 have hS:=aL7 1 (by omega);rw[aV9]at hS;have hM:=λu v=>bM u v;have hl:=aC;have hln:=aR e;have hdg:=kB e;have hbit:=λi hi=>@aTR e i hi;have hble:=aVO e;have hz:e/2^256=0:=Nat.div_eq_of_lt he;have htop:=aS8 x e;generalize nmN e=E at *;refine aG (Γ:=Γ) (fn:=Tryz.f134) rfl rfl rfl rfl ?_;refine gB ?_;refine Call.pure hS rfl fc ?_;rintro _ rfl;refine gD ?_
 refine aY.i (σ:=Nat) (λk=>k<=256)
  (λk=>([(2,.ptr 2 0 none),(3,.ptr 3 0 none),(4,.ptr 4 0 none),(5,.ptr 5 0 none),(6,.i .i64 (255-(k:Int)))],
   [(2,.mem true 0 [(16,.ai (nmF x))]),(3,.mem true 0 [(16,.ai E)]),(4,.mem true 0 [(16,.ai (replicate 16 0))]),(5,.mem true 0 [(16,.ai (nmF (pw x (e/2^(256-k)))))])])) (λk=>256-k) 0 (Nat.zero_le _) ?_ ?_
 .have z:nmF (pw x (e/2^(256-0)))=nmF 1:=by rw[hz];rfl
  refine Le.i [] rfl fc rfl fc rfl
 rintro k hk;have hk:k<=256:=hk;refine zB.i ?_ ?_<;>intro hc
 .have hc:255-(k:Int)≥0:=hc
  obtain⟨i,hi⟩:∃i,i=255-k:=⟨_,rfl⟩;have e1:256-k=i+1:=by omega
  have e2:256-(k+1)=i:=by omega
  have e3:(255-(k:Int))=i:=by omega
  have hb:=hbit i (by omega);obtain⟨hb0,hb1⟩:=hble i (by omega);have ht:=htop i;rw[e1];have ht2:nmF (pw x (e/2^(256-(k+1))))=nmF (pw x (e/2^i)):=by rw[e2]
  generalize pw x (e/2^(i+1))=y at *;have ly:=hl y;have ly2:=hl (y*y);have lx:=hl x;have ly3:=hl (y*y*x);have e4:(ofInt ((255-(k:Int))%16)).toNat=i%16:=by
   rw[e3,show((i:Int)%16)=((i%16:Nat):Int) by omega];exact aFT _ (by omega)
  have e5:((255-(k:Int))/16).toNat=i/16:=by omega
  refine gB ?_;refine Call.pure (hM y y) rfl fc ?_;rintro _ rfl
  repeat(refine fg.i (by repeat' (first|(show zA _;first|exact trivial|refine zA.app ?_ ?_|refine zA.zd ?_ ?_|refine zA.cons ?_ ?_)|with_reducible rfl|with_reducible assumption|omega |(simp only[zero_add,zIn,e4,e5,rng,Ix.val,zQ,addI,szs]<;>omega)|(simp only[zero_add,zIn,e4,e5,rng,Ix.val,zIn,zme,zQ,addI,getD_none,Option.getD_some,zlT,zlD,zlA,List.length_set,List.length_replicate,szs, *]<;>omega)|(simp only[Ix.val];with_reducible assumption)|exact UInt8.toNat_lt _|(apply Eq.trans;(with_reducible assumption);exact rfl)|exact rfl|exactλ_ _=>rfl)) ?_)
  refine zB.i ?_ ?_<;>intro hp
  .have hp:(((E.getD (fL 0 ((255-(k:Int))/16).toNat) 0/2^(ofInt ((255-(k:Int))%16)).toNat).toNat&&&1:Nat):Int)=1:=hp
   rw[zQ,zero_add,e4,e5,hb]at hp;rw[if_pos (by omega)]at ht;rw[ht]at ht2;refine gB ?_;refine Call.pure (hM (y*y) x) rfl fc ?_;rintro _ rfl;refine gD ?_;refine⟨k+1,by omega,by omega,Le.i [] rfl fc rfl fc rfl⟩
  have hp:¬(((E.getD (fL 0 ((255-(k:Int))/16).toNat) 0/2^(ofInt ((255-(k:Int))%16)).toNat).toNat&&&1:Nat):Int)=1:=hp;rw[zQ,zero_add,e4,e5,hb]at hp;rw[if_neg (by omega)]at ht;rw[ht]at ht2;refine gB ?_;refine⟨k+1,by omega,by omega,Le.i [] rfl fc rfl fc rfl⟩
 obtain rfl:k=256:=by have hc:¬255-(k:Int)≥0:=hc;omega
 have z:pw x (e/2^(256-256))=pw x e:=by rw[Nat.sub_self,Nat.pow_zero,Nat.div_one]
 rw[z];have lr:=hl (pw x e);generalize nmF (pw x e)=R at *;refine gB ?_;refine Ret.i (.ai R) [] [] rfl fc rfl rfl fc rfl fc rfl
theorem aLZ:Sx.Fn Γ.P 132 [.ai prD,.ai ((2:Int)::replicate 15 0)] [] (λv _=>v= .ai (nmN (aB-2))):=by
 have d2:Dig ((2:Int)::replicate 15 0):=(Dig.rep 16).set (i:=0) (x:=2) (by decide) (by decide);have h:=aL3 prD ((2:Int)::replicate 15 0) jy d2 rfl rfl;obtain ⟨m1,m2,m3⟩:=oE jy d2 rfl (by decide +kernel);have e:(sbS prD ((2:Int) :: replicate 15 0) 16).1 = nmN (aB - 2):=jQ m1 m2 (by rw [m3];decide +kernel);rw[e]at h;exact h
theorem aL0:Sx.Fn Γ.P 132 [.ai prD,.ai ((1:Int)::replicate 15 0)] [] (λv _=>v= .ai (nmN (aB-1))):=by
 have d2:Dig ((1:Int)::replicate 15 0):=(Dig.rep 16).set (i:=0) (x:=1) (by decide) (by decide);have h:=aL3 prD ((1:Int)::replicate 15 0) jy d2 rfl rfl;obtain ⟨m1,m2,m3⟩:=oE jy d2 rfl (by decide +kernel);have e:(sbS prD ((1:Int) :: replicate 15 0) 16).1 = nmN (aB - 1):=jQ m1 m2 (by rw [m3];decide +kernel);rw[e]at h;exact h
theorem aUZ (x:F):Sx.Fn Γ.P 109 [.ai (nmF x)] [] (λv _=>v= .ai (nmF (inv x))):=by
 have hP:=aL2;have hM:=aLZ;have hW:=aHK x (aB-2) (by decide);rw[<-aG3]at hW;have lx:=aC x;have lr:=aC (inv x);have lp:prD.length=16:=rfl;have le:=aR (aB-2);generalize nmN (aB-2)=E at *;generalize prD=prime at *;generalize nmF (inv x)=R at *;generalize nmF x=a at *;refine aG (Γ:=Γ) (fn:=Tryz.f109) rfl rfl rfl rfl ?_;refine gB ?_;refine aH.i [[],[],[],[1,2],r_4,r_5] [0,2,1,3,4,5] (by kernel_rfl) ?_;refine gD ?_;refine Call.pure hP rfl fc ?_;rintro _ rfl;refine gD ?_;refine Call.pure hM rfl fc ?_;rintro _ rfl;refine gD ?_;refine Call.pure hW rfl fc ?_;rintro _ rfl;refine gD ?_;refine Ret.i (.ai R) [] [] rfl fc rfl rfl fc rfl fc rfl
end Go.Proofs.YtaehfiohjkiajaaGreat
namespace Go.Proofs.YtaehfiohjkiajaaGreat
open Go Go.Sx Go.Cu
theorem aX5:(aB-1)/2<115792089237316195423570985008687907853269984665640564039457584007913129639936:=by decide
theorem aXG:(nmN (aB/2/2/2)).set 0 ((nmN (aB/2/2/2)).getD 0 0+1)=nmN ((aB+3)/8):=by
 rw [pZ,pZ];decide +kernel
theorem aXH:0<=(nmN (aB/2/2/2)).getD 0 0/\(nmN (aB/2/2/2)).getD 0 0<65536:=kB _ 0
theorem aNL (r:F):(nmF r).getD 0 0%2=1↔r.val%2=1:=by
 have h:(nmF r).getD 0 0=((r.val/65536^0%65536:Nat):Int):=pb _ (by omega);rw[h,Nat.pow_zero,Nat.div_one];omega
theorem aW6:(aB-1)/2/2=(aB-1)/4:=by decide
theorem rS (x r:F) (hs:mv x) (hr:r=qp x) (T:Tm) (M:Mm)
  (hle:Le [] [(2,.ptr 2 0 none),(6,.ptr 6 0 none)] [(2,.mem true 0 [(16,.ai (replicate 16 0))]),(6,.mem true 0 [(16,.ai (nmF r))])] T M):
  aSJ Γ [9] Tryz.f107 9 [] T M (λv _=>(mv x/\v= .tup [.ai (nmF (dn x)),.tt])\/(¬mv x/\v= .tup [.ai (replicate 16 0),.ff])):=by
 have lr:=aC r;have hp:=aNL r;have dr:=iG r 0;have hN:=aYS r;have ln:=aC (0-r);have hE:dn x=if r.val%2=1 then 0-r else r:=by rw[hr];rfl
 generalize hN1:nmF (0-r)=N at *;generalize hR1:nmF r=R at *;refine Cut.i (σ:=Unit) (λ_=>True) (λ_=>([(2,.ptr 2 0 none),(6,.ptr 6 0 none)],[(2,.mem true 0 [(16,.ai (replicate 16 0))]),(6,.mem true 0 [(16,.ai R)])])) () trivial hle ?_;rintro - -;refine gB ?_;refine zB.i ?_ ?_<;>intro h
 .have h:R.getD 0 0%2=1:=h
  have h2:=hp.1 h;rw[if_pos h2]at hE;refine gB ?_;refine Call.pure hN rfl fc ?_;rintro _ rfl;refine gD ?_;refine Ret.i (.tup [.ai N,.tt]) [] [] rfl fc (Or.inl ⟨hs,by rw[hE,hN1]⟩) rfl fc rfl fc rfl
 have h:¬R.getD 0 0%2=1:=h;have h2:¬r.val%2=1:=λe=>h (hp.2 e);rw[if_neg h2]at hE;refine gB ?_;refine Ret.i (.tup [.ai R,.tt]) [] [] rfl fc (Or.inl ⟨hs,by rw[hE,hR1]⟩) rfl fc rfl fc rfl
theorem aE0 (x:F) (hs:mv x) (T:Tm) (M:Mm)
  (hle:Le [] [(1,.ptr 1 0 none),(2,.ptr 2 0 none),(4,.ptr 4 0 none)] [(1,.mem true 0 [(16,.ai (nmF x))]),(2,.mem true 0 [(16,.ai (replicate 16 0))]),(4,.mem true 0 [(16,.ai (nmN (aB-1)))])] T M):
  aSJ Γ [4,9] Tryz.f107 4 [] T M (λv _=>(mv x/\v= .tup [.ai (nmF (dn x)),.tt])\/(¬mv x/\v= .tup [.ai (replicate 16 0),.ff])):=by
 have hP:=aL2;rw[aND]at hP;have h1:=aUW aB (by decide);have h2:=aUW (aB/2) (by decide);have h3:=aUW (aB/2/2) (by decide);have hW:=aHK x ((aB+3)/8) (by decide);have g1:=aUW (aB-1) (by decide);have g2:=aUW ((aB-1)/2) (by decide);rw[aW6]at g2;have hS:=aL7 2 (by omega);rw[aa6]at hS;have hJ:=aHK 2 ((aB-1)/4) (by decide);have e0:pw x ((aB+3)/8)=r0 x:=rfl;have e1:pw 2 ((aB-1)/4)=j0:=rfl;rw[e0]at hW;rw[e1]at hJ;have hMr:=bM (r0 x) (r0 x);have hMj:=bM (r0 x) j0;have k1:=aXG;have k0:=aXH;have l1:=aR aB;have l2:=aR (aB/2);have l3:=aR (aB/2/2);have l4:=aR (aB/2/2/2);have l5:=aR ((aB+3)/8);have l6:=aR (aB-1);have l7:=aR ((aB-1)/2);have l8:=aR ((aB-1)/4);have lx:=aC x;have lr:=aC (r0 x);have lrr:=aC (r0 x*r0 x);have lrj:=aC (r0 x*j0);have lj:=aC j0;have l22:=aC 2;generalize nmN aB=A1 at *;generalize nmN (aB/2)=A2 at *;generalize nmN (aB/2/2)=A3 at *;generalize nmN (aB/2/2/2)=A4 at *;generalize nmN ((aB+3)/8)=A5 at *;generalize nmN (aB-1)=B1 at *;generalize nmN ((aB-1)/2)=B2 at *;generalize nmN ((aB-1)/4)=B3 at *;refine Cut.i (σ:=Unit) (λ_=>True) (λ_=>([(1,.ptr 1 0 none),(2,.ptr 2 0 none),(4,.ptr 4 0 none)],[(1,.mem true 0 [(16,.ai (nmF x))]),(2,.mem true 0 [(16,.ai (replicate 16 0))]),(4,.mem true 0 [(16,.ai B1)])])) () trivial hle ?_;rintro - -;refine gB ?_;refine Call.pure hP rfl fc ?_;rintro _ rfl;refine gD ?_;refine Call.pure h1 rfl fc ?_;rintro _ rfl;refine gD ?_;refine Call.pure h2 rfl fc ?_;rintro _ rfl;refine gD ?_;refine Call.pure h3 rfl fc ?_;rintro _ rfl;refine gD ?_;refine Call.pure hW rfl ?_ ?_
 .repeat' first|exact trivial|refine zA.app ?_ ?_|refine zA.zd ?_ ?_|refine zA.cons ?_ ?_|exact fc|fail
  all_goals(rw[<-k1];rfl)
 rintro _ rfl;refine gD ?_;refine aH.i [[],[],[0,1],[],r_4] [0,1,3,2,4] (by kernel_rfl) ?_;refine gD ?_;refine Call.pure hMr rfl fc ?_;rintro _ rfl;refine gD ?_;refine zB.i ?_ ?_<;>intro h
 .have h:¬nmF (r0 x*r0 x)=nmF x:=h
  have h2:¬r0 x*r0 x=x:=λe=>h (by rw[e]);refine aH.i [[],[],[],[1,2],[1,2,3],[1,2,3,4],r_6,r_7] [0,2,1,3,4,5,6,7] (by kernel_rfl) ?_;refine gD ?_;refine Call.pure hS rfl fc ?_;rintro _ rfl;refine gD ?_;refine Call.pure g1 rfl fc ?_;rintro _ rfl;refine gD ?_;refine Call.pure g2 rfl fc ?_;rintro _ rfl;refine gD ?_;refine Call.pure hJ rfl fc ?_;rintro _ rfl;refine gD ?_;refine Call.pure hMj rfl fc ?_;rintro _ rfl;refine gD ?_;refine rS x (r0 x*j0) hs (by unfold qp;rw[if_neg h2]) _ _ (Le.i [] rfl fc rfl fc rfl)
 have h:¬¬nmF (r0 x*r0 x)=nmF x:=h;have h2:r0 x*r0 x=x:=pc (Classical.not_not.1 h);refine gB ?_;refine rS x (r0 x) hs (by unfold qp;rw[if_pos h2]) _ _ (Le.i [] rfl fc rfl fc rfl)
theorem fV (x:F):Sx.Fn Γ.P 107 [.ai (nmF x)] [] (λv _=>(mv x/\v= .tup [.ai (nmF (dn x)),.tt])\/(¬mv x/\v= .tup [.ai (replicate 16 0),.ff])):=by
 have hP:=aL2;have hM:=aL0;have g1:=aUW (aB-1) (by decide);have hW:=aHK x ((aB-1)/2) aX5;have hS:=aL7 1 (by omega);rw[aV9]at hS;have lp:prD.length=16:=rfl;have l6:=aR (aB-1);have l7:=aR ((aB-1)/2);have lx:=aC x;have lw:=aC (pw x ((aB-1)/2));have l1:=aC 1;have mid:=aE0 x;generalize prD=prime at *;generalize nmN (aB-1)=B1 at *;generalize nmN ((aB-1)/2)=B2 at *;refine cV [4,9] (Γ:=Γ) (fn:=Tryz.f107) rfl rfl rfl rfl ?_;refine gB ?_;refine Call.pure hP rfl fc ?_;rintro _ rfl;refine gD ?_;refine Call.pure hM rfl fc ?_;rintro _ rfl;refine gD ?_;by_cases hx:nmF x=replicate 16 0
 .have hs:mv x:=Or.inl (pc (by rw[hx,oC]))
  have hx:¬¬nmF x=replicate 16 0:=λh=>h hx;refine aH.i [[],[],[0,1],[0,1,2],r_4,r_4,[0,1,2,3,5],r_7,r_8,r_9,ek] fe (by kernel_rfl) ?_
  repeat(first|refine gi ?_|refine sd ?_|(refine zB.i (λhn=>absurd hn hx) (λ_=>?_)))
  refine mid hs _ _ (Le.i [] rfl fc rfl fc rfl)
 have hx0:x≠0:=λe=>hx (by rw[e,oC]);refine aH.i [[],[],[0,1],[0,1,2],r_4,r_4,[0,1,2,3,5],r_7,r_8,r_9,ek] fe (by kernel_rfl) ?_
 repeat(first|refine gi ?_|refine sd ?_|(refine zB.i (λ_=>?_) (λhn=>absurd hx hn)))
 refine Call.pure g1 rfl fc ?_;rintro _ rfl
 repeat(first|refine gi ?_|refine sd ?_|(refine zB.i (λ_=>?_) (λhn=>absurd hx hn)))
 refine Call.pure hW rfl fc ?_;rintro _ rfl
 repeat(first|refine gi ?_|refine sd ?_|(refine zB.i (λ_=>?_) (λhn=>absurd hx hn)))
 refine Call.pure hS rfl fc ?_;rintro _ rfl
 repeat(first|refine gi ?_|refine sd ?_|(refine zB.i (λ_=>?_) (λhn=>absurd hx hn)))
 refine zB.i ?_ ?_<;>intro h
 .have h1:¬nmF (pw x ((aB-1)/2))=nmF 1:=by
   intro e;rcases h with⟨_,h⟩|⟨_,h⟩
   .exact h e
   exact h
  have hs:¬mv x:=by
   rintro(h2|h2)
   .exact hx0 h2
   exact h1 (by rw[h2])
  refine gB ?_;refine Ret.i (.tup [.ai (replicate 16 0),.ff]) [] [] rfl fc (Or.inr ⟨hs,rfl⟩) rfl fc rfl fc rfl
 have h1:nmF (pw x ((aB-1)/2))=nmF 1:=by
  apply Classical.byContradiction;intro e;exact h (by first|exact e|exact Or.inl ⟨hx,e⟩)
 refine mid (Or.inr (pc h1)) _ _ (Le.i [] rfl fc rfl fc rfl)
end Go.Proofs.YtaehfiohjkiajaaGreat
namespace Go.Proofs.YtaehfiohjkiajaaGreat
open Go Go.Sx Go.Cu
structure RP where
 x:F
 y:F
 z:F
def RP.V (p:RP):SV:=.agg [(16,.ai (nmF p.x)),(16,.ai (nmF p.y)),(16,.ai (nmF p.z))]
def RR (p:RP) (P:Pt):Prop:=Rep p.x p.y p.z P
theorem aZ1:fn 0 = 0:=by decide +kernel
theorem aS1:RR ⟨0,1,1⟩ .O:=aPR
theorem aYU:Sx.Fn Γ.P 104 [] [] (λv _=>v=RP.V ⟨0,1,1⟩):=by
 have c0:=aL7 0 (by omega);have c1:=aL7 1 (by omega);rw[aZ1]at c0;rw[aV9]at c1;have l0:=aC 0;have l1:=aC 1;unfold RP.V;simp only;generalize nmF 0=Z at *;generalize nmF 1=W at *;refine aG (Γ:=Γ) (fn:=Tryz.f104) rfl rfl rfl rfl ?_;refine gB ?_;refine Call.pure c0 rfl fc ?_;rintro _ rfl;refine gA ?_;refine Call.pure c1 rfl fc ?_;rintro _ rfl;refine gA ?_;refine Call.pure c1 rfl fc ?_;rintro _ rfl;refine gA ?_;refine Ret.i (.agg [(16,.ai Z),(16,.ai W),(16,.ai W)]) [] [] rfl fc rfl rfl fc rfl fc rfl
theorem aU2:0-fn 121665*inv (fn 121666)=dF:=by
 have h:=aaR;have e1:fn 121665 = 121665:=by decide +kernel
 have e2:fn 121666 = 121666:=by decide +kernel
 have hi:=iv aa0;rw[e1,e2];exact gr
theorem aYT:Sx.Fn Γ.P 111 [] [] (λv _=>v= .ai (nmF dF)):=by
 have c0:=aL7 121665 (by omega);have c1:=aL7 121666 (by omega);have hf:=aU2;generalize fn 121665=a at *;generalize fn 121666=b at *;have c2:=aUZ b;generalize inv b=i at *;have c3:=bM a i;generalize a*i=m at *;have c4:=aYS m;rw[hf]at c4;clear hf;generalize dF=d at *;have hl:=aC;have la:=hl a;have lb:=hl b;have li:=hl i;have lm:=hl m;have ld:=hl d;refine aG (Γ:=Γ) (fn:=Tryz.f111) rfl rfl rfl rfl ?_;refine gB ?_;refine Call.pure c0 rfl fc ?_;rintro _ rfl;refine gA ?_;refine Call.pure c1 rfl fc ?_;rintro _ rfl;refine gA ?_;refine Call.pure c2 rfl fc ?_;rintro _ rfl;refine gA ?_;refine Call.pure c3 rfl fc ?_;rintro _ rfl;refine gA ?_;refine Call.pure c4 rfl fc ?_;rintro _ rfl;refine gA ?_;refine Ret.i (.ai (nmF d)) [] [] rfl fc rfl rfl fc rfl fc rfl
theorem qJ (p q:RP) (P Q:Pt) (hp:RR p P) (hq:RR q Q):Sx.Fn Γ.P 113 [p.V,q.V,.ai (nmF dF)] [] (λv _=>∃o:RP,RR o (P.add Q)/\v=o.V):=by
 obtain⟨x1,y1,z1⟩:=p;obtain⟨x2,y2,z2⟩:=q;have hR:=λz zz xv yw xw e more less h1 h2 h3 h4 h5 h6 h7 h8=>@aE5 x1 y1 z1 x2 y2 z2 P Q hp hq z zz xv yw xw e more less h1 h2 h3 h4 h5 h6 h7 h8;unfold RP.V;simp only;generalize dF=d at *;have c1:=bM z1 z2;obtain⟨z,hz⟩:∃u,u=z1*z2:=⟨_,rfl⟩;rw[<-hz]at c1;have c2:=bM z z;obtain⟨zz,hzz⟩:∃u,u=z*z:=⟨_,rfl⟩;rw[<-hzz]at c2;have c3:=bM x1 x2;obtain⟨xv,hxv⟩:∃u,u=x1*x2:=⟨_,rfl⟩;rw[<-hxv]at c3;have c4:=bM y1 y2;obtain⟨yw,hyw⟩:∃u,u=y1*y2:=⟨_,rfl⟩;rw[<-hyw]at c4;have c5:=bM x1 y2;obtain⟨t1,ht1⟩:∃u,u=x1*y2:=⟨_,rfl⟩;rw[<-ht1]at c5;have c6:=bM y1 x2;obtain⟨t2,ht2⟩:∃u,u=y1*x2:=⟨_,rfl⟩;rw[<-ht2]at c6;have c7:=aUY t1 t2;obtain⟨xw,hxw⟩:∃u,u=t1+t2:=⟨_,rfl⟩;rw[<-hxw]at c7;have c8:=bM xv yw;obtain⟨t3,ht3⟩:∃u,u=xv*yw:=⟨_,rfl⟩;rw[<-ht3]at c8;have c9:=bM d t3;obtain⟨e,he⟩:∃u,u=d*t3:=⟨_,rfl⟩;rw[<-he]at c9;have d1:=aUY zz e;obtain⟨more,hmore⟩:∃u,u=zz+e:=⟨_,rfl⟩;rw[<-hmore]at d1;have d2:=aRD zz e;obtain⟨less,hless⟩:∃u,u=zz-e:=⟨_,rfl⟩;rw[<-hless]at d2;have d3:=bM z less;obtain⟨t4,ht4⟩:∃u,u=z*less:=⟨_,rfl⟩;rw[<-ht4]at d3;have d4:=bM t4 xw;obtain⟨X,hX⟩:∃u,u=t4*xw:=⟨_,rfl⟩;rw[<-hX]at d4;have d5:=bM z more;obtain⟨t5,ht5⟩:∃u,u=z*more:=⟨_,rfl⟩;rw[<-ht5]at d5;have d6:=aUY yw xv;obtain⟨t6,ht6⟩:∃u,u=yw+xv:=⟨_,rfl⟩;rw[<-ht6]at d6;have d7:=bM t5 t6;obtain⟨Y,hY⟩:∃u,u=t5*t6:=⟨_,rfl⟩;rw[<-hY]at d7;have d8:=bM more less;obtain⟨Z,hZ⟩:∃u,u=more*less:=⟨_,rfl⟩;rw[<-hZ]at d8;have hR:=hR z zz xv yw xw e more less hz hzz hxv hyw (by rw[hxw,ht1,ht2]) (by rw[he,ht3]) hmore hless;rw[<-ht4,<-hX,<-ht5,<-ht6,<-hY,<-hZ]at hR;clear hz hzz hxv hyw ht1 ht2 hxw ht3 he hmore hless ht4 hX ht5 ht6 hY hZ hp hq;have hl:=aC;refine aG (Γ:=Γ) (fn:=Tryz.f113) rfl rfl rfl rfl ?_;refine gB ?_;refine Call.pure c1 rfl fc ?_;rintro _ rfl;refine gA ?_;refine Call.pure c2 rfl fc ?_;rintro _ rfl;refine gA ?_;refine Call.pure c3 rfl fc ?_;rintro _ rfl;refine gA ?_;refine Call.pure c4 rfl fc ?_;rintro _ rfl;refine gA ?_;refine aH.i [[],[0],[],[2],r_4,[],[5],[],[7],r_9,ek,[],kX] [0,1,2,3,5,6,7,8,11,4,9,10,12] (by kernel_rfl) ?_;refine gA ?_;refine Call.pure c5 rfl fc ?_;rintro _ rfl;refine gA ?_;refine Call.pure c6 rfl fc ?_;rintro _ rfl;refine gA ?_;refine Call.pure c7 rfl fc ?_;rintro _ rfl;refine gA ?_;refine aH.i [[],[],[],[1,2],r_4,[],r_6] [0,1,2,5,3,4,6] (by kernel_rfl) ?_;refine gA ?_;refine Call.pure c8 rfl fc ?_;rintro _ rfl;refine gA ?_;refine Call.pure c9 rfl fc ?_;rintro _ rfl;refine gA ?_;refine aH.i [[],[],[0,1],[],[],r_5,[],[],r_8,r_9] [0,1,3,4,6,7,2,5,8,9] (by kernel_rfl) ?_;refine gA ?_;refine Call.pure d1 rfl fc ?_;rintro _ rfl;refine gA ?_;refine Call.pure d2 rfl fc ?_;rintro _ rfl;refine gA ?_;refine aH.i [[],[],[0,1],[],r_4,[],[],r_7,[],[],ek,fe,[],[],oB,nw,na] [0,1,3,5,6,8,9,12,13,2,4,7,10,11,14,15,16] (by kernel_rfl) ?_;refine gA ?_;refine Call.pure d3 rfl fc ?_;rintro _ rfl;refine gA ?_;refine Call.pure d4 rfl fc ?_;rintro _ rfl;refine gA ?_;refine Call.pure d5 rfl fc ?_;rintro _ rfl;refine gA ?_;refine Call.pure d6 rfl fc ?_;rintro _ rfl;refine gA ?_;refine Call.pure d7 rfl fc ?_;rintro _ rfl;refine gA ?_;refine Call.pure d8 rfl fc ?_;rintro _ rfl;refine gA ?_;refine Ret.i (.agg [(16,.ai (nmF X)),(16,.ai (nmF Y)),(16,.ai (nmF Z))]) [] [] rfl fc ⟨⟨X,Y,Z⟩,hR,rfl⟩ rfl fc rfl fc rfl
theorem abG (p:RP) (P:Pt) (hp:RR p P):Sx.Fn Γ.P 63 [p.V] [] (λv _=>∃o:RP,RR o P.ng/\v=o.V):=by
 obtain⟨x,y,z⟩:=p;have c:=aYS x;have hR:RR ⟨0-x,y,z⟩ P.ng:=aS0 hp;unfold RP.V;simp only;generalize 0-x=n at *;have hl:=aC;refine aG (Γ:=Γ) (fn:=Tryz.f63) rfl rfl rfl rfl ?_;refine gB ?_;refine aH.i [[],[0],[0,1],[],[3],[],[5],r_7,r_8] [0,1,3,4,5,6,2,7,8] (by kernel_rfl) ?_;refine gA ?_;refine Call.pure c rfl fc ?_;rintro _ rfl;refine gA ?_;refine Ret.i (.agg [(16,.ai (nmF n)),(16,.ai (nmF y)),(16,.ai (nmF z))]) [] [] rfl fc ⟨⟨n,y,z⟩,hR,rfl⟩ rfl fc rfl fc rfl
theorem aZ9 (p q:RP) (P Q:Pt) (hp:RR p P) (hq:RR q Q):Sx.Fn Γ.P 62 [p.V,q.V] [] (λv _=>∃o:RP,RR o (P.add Q)/\v=o.V):=by
 have cF:=aYT;have cS:=qJ p q P Q hp hq;have ld:=aC dF;have hl:=aC;unfold RP.V at *;generalize nmF dF=d at *;refine aG (Γ:=Γ) (fn:=Tryz.f62) rfl rfl rfl rfl ?_;refine gB ?_;refine aH.i [[],[],[],[0,1,2],r_4] r_5 (by kernel_rfl) ?_;refine gA ?_;refine Call.pure cF rfl fc ?_;rintro _ rfl;refine gA ?_;refine Call.pure cS rfl fc ?_;rintro v ⟨o,ho,rfl⟩;refine gA ?_;refine Ret.i (.agg [(16,.ai (nmF o.x)),(16,.ai (nmF o.y)),(16,.ai (nmF o.z))]) [] [] rfl fc ⟨o,ho,rfl⟩ rfl fc rfl fc rfl
end Go.Proofs.YtaehfiohjkiajaaGreat
namespace Go.Proofs.YtaehfiohjkiajaaGreat
open Go Go.Sx Go.Cu
theorem abH (p:RP) (P:Pt) (hp:RR p P):Sx.Fn Γ.P 61 [p.V] [] (λv _=>v= .a8 (rD P)):=by
 obtain⟨x,y,z⟩:=p;have c1:=aUZ z;have hx:=aPP hp;have hy:=aPO hp;simp only at hx hy;generalize inv z=i at *;have c2:=bM x i;have c3:=bM y i;rw[hx]at c2;rw[hy]at c3;have c4:=aYV P.y;have hE:rD P=if P.x.val%2=1 then(leB P.y).set 31 ((leB P.y).getD 31 0+ofNat 128)else leB P.y:=rfl
 have lE:=kQ P;have lB:=aj P.y;have hpar:=aNL P.x;have dg:=iG P.x 0;have hl:=aC;have lx:=hl P.x;unfold RP.V;simp only;generalize nmF P.x=A at *;generalize leB P.y=B at *;refine aG (Γ:=Γ) (fn:=Tryz.f61) rfl rfl rfl rfl ?_;refine gB ?_;refine Call.pure c1 rfl fc ?_;rintro _ rfl;refine gA ?_;refine Call.pure c2 rfl fc ?_;rintro _ rfl;refine gA ?_;refine Call.pure c3 rfl fc ?_;rintro _ rfl;refine gA ?_;refine Call.pure c4 rfl fc ?_;rintro _ rfl;refine gA ?_;refine zB.i ?_ ?_<;>intro h
 .have h:A.getD 0 0%2=1:=h
  rw[if_pos (hpar.1 h)]at hE;rw[hE];refine gB ?_;refine Ret.i (.a8 (B.set 31 (B.getD 31 0+ofNat 128))) [] [] rfl fc rfl rfl fc rfl fc rfl
 have h:¬A.getD 0 0%2=1:=h;rw[if_neg (λe=>h (hpar.2 e))]at hE;rw[hE];refine gB ?_;refine Ret.i (.a8 B) [] [] rfl fc rfl rfl fc rfl fc rfl
theorem ab8 (n:List UInt8) (hn:n.length=32) (p:RP) (P:Pt) (hp:RR p P):Sx.Fn Γ.P 59 [.a8 n,p.V] [] (λv _=>∃o:RP,RR o (P.mul (lv n))/\v=o.V):=by
  have cF:=aYT;have cZ:=aYU;have cS:=λp q P Q hp hq=>qJ p q P Q hp hq;have hO:=aS1;have hlt:=aGL n;rw[hn]at hlt;have ld:=aC dF;have hl:=aC;have hend:lv n%2^256=lv n:=Nat.mod_eq_of_lt hlt;unfold RP.V at *;generalize nmF dF=d at *;generalize (⟨0,1,1⟩:RP)=zo at *;refine cV [1000008] (Γ:=Γ) (fn:=Tryz.f59) rfl rfl rfl rfl ?_;refine gB ?_;refine Call.pure cF rfl fc ?_;rintro _ rfl;refine gA ?_;refine Call.pure cZ rfl fc ?_;rintro _ rfl;refine gA ?_
  refine aY.i (σ:=Nat×RP×RP) (λs=>s.1<=256/\RR s.2.1 (P.mul (lv n%2^s.1))/\RR s.2.2 (P.mul (2^s.1)))
    (λs=>([(2,.ptr 2 0 none),(3,.ptr 3 0 none),(4,.ptr 4 0 none),(5,.ptr 5 0 none),(6,.ptr 6 0 none),(7,.i .i64 s.1)],
      [(2,.mem true 0 [(32,.a8 n)]),(3,.mem true 0 [(16,.ai (nmF s.2.2.x)),(16,.ai (nmF s.2.2.y)),(16,.ai (nmF s.2.2.z))]),(4,.mem true 0 [(16,.ai (replicate 16 0)),(16,.ai (replicate 16 0)),(16,.ai (replicate 16 0))]),
       (5,.mem true 0 [(16,.ai d)]),(6,.mem true 0 [(16,.ai (nmF s.2.1.x)),(16,.ai (nmF s.2.1.y)),(16,.ai (nmF s.2.1.z))])])) (λs=>256-s.1) (0,zo,p)
    ⟨Nat.zero_le _,by show RR zo (P.mul (lv n%1));rw[Nat.mod_one];exact hO,by show RR p (P.mul 1);rw[Pt.mul_one];exact hp⟩ ?_ ?_
  · refine Le.i [] rfl fc rfl fc rfl
  clear hp hO;rintro⟨i,o,p⟩ ⟨h1,h2,h3⟩;have h1:i<=256:=h1;have h2:RR o (P.mul (lv n%2^i)):=h2;have h3:RR p (P.mul (2^i)):=h3;refine zB.i ?_ ?_<;>intro hc
  · have hc:(i:Int)<256:=hc
    have e0:((i:Int)/8).toNat=i/8:=by omega
    have e1:(ofInt ((i:Int)%8)).toNat=i%8:=by
      rw[show((i:Int)%8)=((i%8:Nat):Int) by omega];exact aFT _ (by omega)
    have hbit:aVP n i=mD (n.getD (i/8) 0) (i%8)&&&ofNat 1:=rfl;have hbv:=tf n i;have hlow:=Pt.mul_low P (lv n) i;have cA:=cS o p _ _ h2 h3;have cB:=cS p p _ _ h3 h3;have hd2:(P.mul (2^i)).add (P.mul (2^i))=P.mul (2^(i+1)):=by rw[Pt.mul_dbl,Nat.pow_succ']
    rw[hd2]at cB;refine gB ?_
    refine aOR.i (σ:=RP) (λo=>RR o (P.mul (lv n%2^(i+1)))) (λo=>([(2,.ptr 2 0 none),(3,.ptr 3 0 none),(4,.ptr 4 0 none),(5,.ptr 5 0 none),(6,.ptr 6 0 none),(7,.i .i64 i)],
      [(2,.mem true 0 [(32,.a8 n)]),(3,.mem true 0 [(16,.ai (nmF p.x)),(16,.ai (nmF p.y)),(16,.ai (nmF p.z))]),(4,.mem true 0 [(16,.ai (replicate 16 0)),(16,.ai (replicate 16 0)),(16,.ai (replicate 16 0))]),
       (5,.mem true 0 [(16,.ai d)]),(6,.mem true 0 [(16,.ai (nmF o.x)),(16,.ai (nmF o.y)),(16,.ai (nmF o.z))])])) ?_ ?_
    · repeat refine sdI ?_
      refine zB.i ?_ ?_<;>intro hb
      · have hb:mD (n.getD ((i:Int)/8).toNat 0) (ofInt ((i:Int)%8)).toNat&&&ofNat 1=ofNat 1:=hb
        rw[e0,e1,<-hbit]at hb;rw[hb]at hbv;have hb1:lv n/2^i%2=1:=hbv.symm;rw[if_pos hb1]at hlow;rw[<-hlow]at cA;refine gB ?_;refine Call.pure cA rfl fc ?_;rintro v ⟨w,hw,rfl⟩;refine gB ?_;refine⟨w,hw,Le.i [] rfl fc rfl fc rfl⟩
      have hb:¬mD (n.getD ((i:Int)/8).toNat 0) (ofInt ((i:Int)%8)).toNat&&&ofNat 1=ofNat 1:=hb;rw[e0,e1,<-hbit]at hb;have hb1:¬lv n/2^i%2=1:=λe=>hb (UInt8.toNat_inj.1 (hbv.trans e));rw[if_neg hb1]at hlow;rw[<-hlow]at h2;refine gB ?_;refine⟨o,h2,Le.i [] rfl fc rfl fc rfl⟩
    clear h2 hlow cA;rintro w hw;refine gB ?_;refine Call.pure cB rfl fc ?_;rintro v ⟨u,hu,rfl⟩;refine gB ?_;refine⟨(i+1,w,u),⟨by show i+1<=256;omega,hw,hu⟩,by show 256-(i+1)<256-i;omega,Le.i [] rfl fc rfl fc rfl⟩
  obtain rfl:i=256:=by have hc:¬(i:Int)<256:=hc;omega
  have h2:RR o (P.mul (lv n)):=by rw[<-hend];exact h2
  refine gB ?_;refine Ret.i (.agg [(16,.ai (nmF o.x)),(16,.ai (nmF o.y)),(16,.ai (nmF o.z))]) [] [] rfl fc ⟨o,h2,rfl⟩ rfl fc rfl fc rfl
end Go.Proofs.YtaehfiohjkiajaaGreat
namespace Go.Proofs.YtaehfiohjkiajaaGreat
open Go Go.Sx Go.Cu
theorem aTX (x:UInt8):x%ofNat 128=x&&&ofNat 127:=by
 have h:∀ z:Fin 256,ofNat z.val % ofNat 128 = ofNat z.val &&& ofNat 127:=by decide +kernel
 have h2:=h ⟨x.toNat,x.toNat_lt⟩;rw[UInt8.ofNat_toNat]at h2;exact h2
def rdQ (b:List UInt8) (v:SV):Prop:=(okD b/\∃o:RP,RR o (vg b)/\v= .tup [o.V,.tt])\/(¬okD b/\v= .tup [RP.V ⟨0,1,1⟩,.ff])
theorem aOH {b:List UInt8} (h:okD b) {x y:F} (vx:x=aIA b) (vy:y=nF b):RR ⟨x,y,1⟩ (vg b):=
 ⟨aFP,by show x=_*1;rw[vx,aAN h];exact gr,by show y=_*1;rw[vy,aAM h];exact gr⟩
theorem aE8 (b:List UInt8) (y x:F) (od:Prop) (vy:y=nF b) (hr:x=dn (xxF (nF b))) (hsq:mv (xxF (nF b))) (heq:leB (ofF (kF b))=kF b) (hu:od↔tk b)
  (hno:¬(tk b/\dn (xxF (nF b))=0)) (T:Tm) (M:Mm)
  (hle:Le [] [(2,.ptr 2 0 none),(4,.bool od),(5,.ptr 5 0 none),(7,.ptr 7 0 none),(8,.ptr 8 0 none)]
   [(2,.mem true 0 [(16,.ai (replicate 16 0)),(16,.ai (replicate 16 0)),(16,.ai (replicate 16 0))]),(5,.mem true 0 [(16,.ai (nmF y))]),(7,.mem true 0 [(16,.ai (nmF 1))]),(8,.mem true 0 [(16,.ai (nmF x))])] T M):
  aSJ Γ [11] Tryz.f57 11 [] T M (λv _=>rdQ b v):=by
 have ok:okD b:=⟨heq,hsq,hno⟩;have cN:=aYS x;have r1:tk b->RR ⟨0-x,y,1⟩ (vg b):=λho=>aOH ok (by rw[hr];unfold aIA;rw[if_pos ho];rfl) vy;have r2:¬tk b->RR ⟨x,y,1⟩ (vg b):=λho=>aOH ok (by rw[hr];unfold aIA;rw[if_neg ho];rfl) vy;have hl:=aC;have l1:=hl 1;unfold rdQ RP.V;generalize 0-x=n at *;generalize hone:nmF 1=one at *
 refine Cut.i (σ:=Unit) (λ_=>True) (λ_=>([(2,.ptr 2 0 none),(4,.bool od),(5,.ptr 5 0 none),(7,.ptr 7 0 none),(8,.ptr 8 0 none)],
   [(2,.mem true 0 [(16,.ai (replicate 16 0)),(16,.ai (replicate 16 0)),(16,.ai (replicate 16 0))]),(5,.mem true 0 [(16,.ai (nmF y))]),(7,.mem true 0 [(16,.ai one)]),(8,.mem true 0 [(16,.ai (nmF x))])])) () trivial hle ?_
 rintro - -;refine gB ?_;refine zB.i ?_ ?_<;>intro h
 .have h:od:=h
  have hR:=r1 (hu.1 h);refine gB ?_;refine Call.pure cN rfl fc ?_;rintro _ rfl;refine gA ?_;refine Ret.i (.tup [.agg [(16,.ai (nmF n)),(16,.ai (nmF y)),(16,.ai one)],.tt]) [] [] rfl fc (Or.inl ⟨ok,⟨n,y,1⟩,hR,by simp only;rw[hone]⟩) rfl fc rfl fc rfl
 have h:¬od:=h;have hR:=r2 (λe=>h (hu.2 e));refine gB ?_;refine Ret.i (.tup [.agg [(16,.ai (nmF x)),(16,.ai (nmF y)),(16,.ai one)],.tt]) [] [] rfl fc (Or.inl ⟨ok,⟨x,y,1⟩,hR,by simp only;rw[hone]⟩) rfl fc rfl fc rfl
theorem abI (b:List UInt8) (hb:b.length=32):Sx.Fn Γ.P 57 [.a8 b] [] (λv _=>rdQ b v):=by
 have hL:kF b=b.set 31 (b.getD 31 0%ofNat 128):=by rw[aTX];rfl
 have lL:=pl b;rw[hb]at lL;have hu:(ofNat 128).toNat<=(b.getD 31 0).toNat↔tk b:=Iff.rfl;have hdef:okD b↔(leB (ofF (kF b))=kF b/\mv (xxF (nF b))/\¬(tk b/\dn (xxF (nF b))=0)):=Iff.rfl;have tl:=aE8 b;have vY0:ofF (kF b)=nF b:=rfl;have cOf:=aYW (kF b) lL;rw[vY0]at hdef tl cOf;have hxx:xxF (nF b)=(nF b*nF b-1)*inv (dF*(nF b*nF b)+1):=rfl;generalize nF b=Y at *;generalize kF b=L at *;have cB:=aYV Y;have lB:=aj Y;have c0:=aL7 1 (by omega);rw[aV9]at c0;have s0:=aL7 0 (by omega);rw[aZ1]at s0;have cF:=aYT;have cZ:=aYU;have c1:=bM Y Y;generalize Y*Y=yy at *;have c2:=aRD yy 1;generalize yy-1=s at *;have c3:=bM dF yy;generalize dF*yy=m at *;have c4:=aUY m 1;generalize m+1=q at *;have c5:=aUZ q;generalize inv q=i at *;have c6:=bM s i;rw[<-hxx]at c6;have c7:=fV (xxF Y);clear hxx;generalize xxF Y=X at *;have hl:=aC;have l1:=hl 1;have l0:=hl 0;have ld:=hl dF;have hzero:∀x:F,nmF x=nmF 0↔x=0:=λx=>⟨pc,λe=>by rw[e]⟩;unfold rdQ RP.V at tl⊢;unfold RP.V at cZ;generalize nmF dF=d at *;generalize hone:nmF 1=one at *;generalize hz0:nmF 0=z0 at *;have h128:ofNat 128≠0:=by decide
 refine cV [11] (Γ:=Γ) (fn:=Tryz.f57) rfl rfl rfl rfl ?_;refine gB ?_;refine Call.pure cOf rfl fc ?_;rintro _ rfl;refine gA ?_;refine aH.i [[],[0],[],[0,1,2]] [0,2,1,3] (by kernel_rfl) ?_;refine gA ?_;refine Call.pure cB rfl fc ?_;rintro _ rfl;refine gA ?_;refine zB.i ?_ ?_<;>intro h
 .have h:¬leB Y=L:=by rw[hL];exact h
  refine gB ?_;refine Call.pure cZ rfl fc ?_;rintro _ rfl;refine gA ?_;refine Ret.i (.tup [.agg [(16,.ai z0),(16,.ai one),(16,.ai one)],.ff]) [] [] rfl fc (Or.inr ⟨(λe=>h (hdef.1 e).1),rfl⟩) rfl fc rfl fc rfl
 have h:leB Y=L:=by rw[hL];exact Classical.not_not.1 h
 refine gB ?_;refine Call.pure c1 rfl fc ?_;rintro _ rfl;refine gA ?_;refine Call.pure c0 rfl fc ?_;rintro _ rfl;refine gA ?_;refine aH.i [[],[],[0,1],[0,1,2],[],r_5,[],r_7,r_8,r_9,ek,fe,kX,kX,[],[0,1,2,3,4,5,6,7,8,9,10,11,12,14],na] [0,1,4,6,14,2,3,5,7,8,9,10,11,12,13,15,16] (by kernel_rfl) ?_;refine gA ?_;refine Call.pure c2 rfl fc ?_;rintro _ rfl;refine gA ?_;refine Call.pure cF rfl fc ?_;rintro _ rfl;refine gA ?_;refine Call.pure c3 rfl fc ?_;rintro _ rfl;refine gA ?_;refine Call.pure c4 rfl fc ?_;rintro _ rfl;refine gA ?_;refine Call.pure c5 rfl fc ?_;rintro _ rfl;refine gA ?_;refine Call.pure c6 rfl fc ?_;rintro _ rfl;refine gA ?_;refine Call.pure c7 rfl fc ?_;rintro v (⟨hsq,rfl⟩|⟨hsq,rfl⟩)
 .obtain⟨R,hroot⟩:∃R,dn X=R:=⟨_,rfl⟩
  rw[hroot];refine gA ?_;by_cases ho:(ofNat 128).toNat<=(b.getD 31 0).toNat
  .refine aH.i [[],[0],[0,1],[0,1,2],r_4,r_5,r_5,r_7,r_8,r_9] ek (by kernel_rfl) ?_
   repeat(first|refine gi ?_|refine gt ?_|refine ga ?_|refine sd ?_|(refine zB.i (λhn=>absurd hn ho) (λ_=>?_))|(refine zB.i (λ_=>?_) (λhn=>absurd ho hn)))
   refine Call.pure s0 rfl fc ?_;rintro _ rfl
   repeat(first|refine gi ?_|refine gt ?_|refine ga ?_|refine sd ?_|(refine zB.i (λhn=>absurd hn ho) (λ_=>?_))|(refine zB.i (λ_=>?_) (λhn=>absurd ho hn)))
   refine zB.i ?_ ?_<;>intro hz
   .have hz0':R=0:=by
     rcases hz with⟨_,hz⟩|⟨_,hz⟩
     .exact(hzero R).1 hz
     exact hz.elim
    refine gB ?_;refine Call.pure cZ rfl fc ?_;rintro _ rfl;refine gA ?_;refine Ret.i (.tup [.agg [(16,.ai z0),(16,.ai one),(16,.ai one)],.ff]) [] [] rfl fc (Or.inr ⟨(λe=>(hdef.1 e).2.2 ⟨hu.1 ho,hroot.trans hz0'⟩),rfl⟩) rfl fc rfl fc rfl
   have hz:¬R=0:=λe=>hz (Or.inl ⟨ho,(hzero R).2 e⟩);refine tl Y R ((ofNat 128).toNat<=(b.getD 31 0).toNat) rfl hroot.symm hsq h hu (λe=>hz (hroot.symm.trans e.2)) _ _ (Le.i [] rfl fc rfl fc rfl)
  refine aH.i [[],[0],[0,1],[0,1,2],r_4,r_5,r_5,r_7,r_8,r_9] ek (by kernel_rfl) ?_
  repeat(first|refine gi ?_|refine gt ?_|refine ga ?_|refine sd ?_|(refine zB.i (λhn=>absurd hn ho) (λ_=>?_))|(refine zB.i (λ_=>?_) (λhn=>absurd ho hn)))
  refine tl Y R ((ofNat 128).toNat<=(b.getD 31 0).toNat) rfl hroot.symm hsq h hu (λe=>ho (hu.2 e.1)) _ _ (Le.i [] rfl fc rfl fc rfl)
 refine gA ?_;refine aH.i [[],[0],[0,1],[0,1,2],r_4,r_5,r_5,r_7,r_8,r_9] ek (by kernel_rfl) ?_;refine gA ?_;refine Call.pure cZ rfl fc ?_;rintro _ rfl;refine gA ?_;refine Ret.i (.tup [.agg [(16,.ai z0),(16,.ai one),(16,.ai one)],.ff]) [] [] rfl fc (Or.inr ⟨(λe=>hsq (hdef.1 e).2.1),rfl⟩) rfl fc rfl fc rfl
theorem aRZ:leB (fn 4*inv (fn 5))=basB:=by
 have h5:fn 5 * inv (fn 5) = 1:=iv (by decide +kernel);have hb:fn 5 * aR0 = fn 4:=by decide +kernel
 have e:fn 4*inv (fn 5)=aR0:=by
  rw[<-hb];exact gr
 rw[e];have h:=yP;have hx:¬ basP.x.val % 2 = 1:=by decide +kernel
 unfold rD at h;rw[if_neg hx]at h;exact h
theorem aaA:Sx.Fn Γ.P 60 [] [] (λv _=>∃o:RP,RR o basP/\v=o.V):=by
 have c4:=aL7 4 (by omega);have c5:=aL7 5 (by omega);have hb:=aRZ;generalize fn 4=f4 at *;generalize fn 5=f5 at *;have cI:=aUZ f5;generalize inv f5=i at *;have cM:=bM f4 i;generalize f4*i=m at *;have cB:=aYV m;rw[hb]at cB;have cD:=abI basB rfl;have hok:=aOO;unfold rdQ at cD;rw[aIV]at cD;have hl:=aC;have lB:basB.length=32:=rfl;generalize basB=B at *;unfold RP.V at *;refine aG (Γ:=Γ) (fn:=Tryz.f60) rfl rfl rfl rfl ?_;refine gB ?_;refine Call.pure c4 rfl fc ?_;rintro _ rfl;refine gA ?_;refine Call.pure c5 rfl fc ?_;rintro _ rfl;refine gA ?_;refine Call.pure cI rfl fc ?_;rintro _ rfl;refine gA ?_;refine Call.pure cM rfl fc ?_;rintro _ rfl;refine gA ?_;refine Call.pure cB rfl fc ?_;rintro _ rfl;refine gA ?_;refine Call.pure cD rfl fc ?_;rintro v (⟨_,o,ho,rfl⟩|⟨hno,rfl⟩)
 .refine gA ?_
  refine Ret.i (.agg [(16,.ai (nmF o.x)),(16,.ai (nmF o.y)),(16,.ai (nmF o.z))]) [] [] rfl fc ⟨o,ho,rfl⟩ rfl fc rfl fc rfl
 exact absurd hok hno
end Go.Proofs.YtaehfiohjkiajaaGreat
namespace Go.Proofs.YtaehfiohjkiajaaGreat
open Go Go.Sx Go.Cu
theorem ab3 (x:UInt8):x/ofNat 8*ofNat 8=x&&&ofNat 248:=by
 have h:∀ z:Fin 256,ofNat z.val / ofNat 8 * ofNat 8 = ofNat z.val &&& ofNat 248:=by decide +kernel
 have h2:=h ⟨x.toNat,x.toNat_lt⟩;rw[UInt8.ofNat_toNat]at h2;exact h2
theorem aXT (x:UInt8):x%ofNat 64+ofNat 64=x&&&ofNat 127|||ofNat 64:=by
 have h:∀ z:Fin 256,ofNat z.val % ofNat 64 + ofNat 64 = ofNat z.val &&& ofNat 127 ||| ofNat 64:=by decide +kernel
 have h2:=h ⟨x.toNat,x.toNat_lt⟩;rw[UInt8.ofNat_toNat]at h2;exact h2
theorem aRQ (b:List UInt8):clB b=(b.set 0 (b.getD 0 0/ofNat 8*ofNat 8)).set 31 ((b.set 0 (b.getD 0 0/ofNat 8*ofNat 8)).getD 31 0%ofNat 64+ofNat 64):=by
 rw[ab3,aXT];rfl
theorem abO (s:List UInt8) (hs:s.length=32):Sx.Fn Γ.P 45 [.a8 s] []
  (λv _=>v= .tup [.a8 (nuB s),.isl 0 32 1 [(32,.a8 (pfB s))]]):=by
 have cH:=aa9 s 32 hs (by omega);rw[xc]at cH;have lH:=aW s;have hN:=aFX s;rw[aRQ]at hN;have lN:=fI s;have hP:pfB s=(ae s).drop 32:=rfl;generalize pfB s=P at *;generalize nuB s=N at *;generalize ae s=H at *;have h8:ofNat 8≠0:=by decide
 have h64:ofNat 64≠0:=by decide
 have lT:(H.take 32).length=32:=by rw[zlT,lH];rfl
 have lP:P.length=32:=by rw[hP,zlD,lH]
 refine cV [4,7] (Γ:=Γ) (fn:=Tryz.f45) rfl rfl rfl rfl ?_;refine gB ?_;refine Call.i cH [(1000,(1,0,none))] rfl fc rfl fc rfl ?_;rintro _ _ ⟨rfl,rfl⟩;refine gN ?_;refine gB ?_;refine aH.i [[],[],[0,1]] [0,1,2] (by kernel_rfl) ?_;refine gA ?_
 refine Cut.i (σ:=Unit) (λ_=>True) (λ_=>([(2,.ptr 2 0 none),(3,.nsl),(4,.ptr 4 0 none),(5,.ptr 5 0 none)],
  [(2,.mem true 0 [(32,.a8 (replicate 32 0))]),(4,.mem true 0 [(64,.a8 H)]),(5,.mem true 0 [(32,.a8 (H.take 32))])])) () trivial (Le.i [] rfl ?_ rfl ?_ rfl) ?_
 .exact fc
 .repeat' first|exact trivial|refine zA.app ?_ ?_|refine zA.zd ?_ ?_|refine zA.cons ?_ ?_|exact fc|fail
  all_goals(first|(rw[getD_none,drop_zero,zlT,lH];show _=[]++take 32 (take 32 H)++drop 32 (replicate 32 0);rw[List.take_take];simp;done)|trace_state)
 rintro - -;have eP:take 32 (drop 32 H)=P:=by rw[<-hP];exact take_of_length_le (by omega)
 generalize H.take 32=N0 at *;refine gB ?_
 refine Cut.i (σ:=Unit) (λ_=>True) (λ_=>([(2,.ptr 2 0 none),(4,.ptr 4 0 none),(5,.ptr 5 0 none),(6,.sl 450 0 0 0 0)],
  [(2,.mem true 0 [(32,.a8 (replicate 32 0))]),(4,.mem true 0 [(64,.a8 H)]),(5,.mem true 0 [(32,.a8 N)]),(450,.mem true 0 [(0,.a8 [])])])) () trivial
  (Le.ghost [.own 450 [(0,.a8 [])]] [(6,450)] [] rfl ⟨rfl,rfl,trivial⟩ rfl rfl fc rfl fc rfl) ?_
 rintro - -;refine aH.i [[],[],[],[1,2],r_4,r_5] r_6 (by kernel_rfl) ?_;refine gA ?_;refineλc hc=>?_;have hc:32<=c:=hc;refine gA ?_;refine Ret.ghost [.keep 25] [(3,0)] rfl ?_ rfl (.tup [.a8 N,.isl 0 32 1 [(32,.a8 P)]]) [] [] rfl ?_ rfl rfl ?_ rfl ?_ rfl
 .exact fc
 .exact fc
 .repeat' first|exact trivial|refine zA.app ?_ ?_|refine zA.zd ?_ ?_|refine zA.cons ?_ ?_|exact fc|fail
  all_goals(rw[bq];show P=take 32 (drop 32 H);exact eP.symm)
 exact fc
theorem aaC (m n q:Nat) (A B C W:List UInt8) (N:Nat) (hA:A.length=m) (hB:B.length=n) (hC:C.length=q) (hN:N=m+n+q) (hx:A++B++C=W) (hle:N<=10000):
  Sx.Fn Γ.P 46 [.slx 1000 0 0 m,.slx 1001 0 0 n,.isl 0 q 1 [(q,.a8 C)]] [(1000,.mem false 0 [(m,.a8 A)]),(1001,.mem false 0 [(n,.a8 B)])]
   (λv M=>v= .a8 (haB W)/\M=[(1000,.mem false 0 [(m,.a8 A)]),(1001,.mem false 0 [(n,.a8 B)])]):=by
 have hW:W.length=N:=by rw[<-hx,zlA,zlA];omega
 have tC:take q C=C:=take_of_length_le (by omega);have hx0:Unit->W=A++B++take q C:=λ_=>by rw[tC,hx]
 clear hx;have cH:=aa9 W N hW (by omega);rw[xc]at cH;have cR:=aWB (ae W) 64 (aW _) (by omega);rw[<-aAC]at cR;have lH:=aW W;have lR:=fJ W;generalize haB W=R at *;generalize ae W=H at *;refine cV [2,5] (Γ:=Γ) (fn:=Tryz.f46) rfl rfl rfl rfl ?_;refine gB ?_
 refine Cut.i (σ:=Unit) (λ_=>True) (λ_=>([(0,.slx 1000 0 0 m),(1,.slx 1001 0 0 n),(2,.isl 0 q 1 [(q,.a8 C)]),(6,.ptr 6 0 none),(7,.sl 450 0 0 0 0)],
  [(6,.mem true 0 [(32,.a8 (replicate 32 0))]),(450,.mem true 0 [(0,.a8 [])]),(1000,.mem false 0 [(m,.a8 A)]),(1001,.mem false 0 [(n,.a8 B)])])) () trivial
  (Le.ghost [.own 450 [(0,.a8 [])]] [(7,450)] [] rfl ⟨rfl,rfl,trivial⟩ rfl rfl fc rfl fc rfl) ?_
 rintro - -;refine gB ?_;refineλc1 hc1=>?_;refine gB ?_;refineλc2 hc2=>?_;refine gB ?_;refineλc3 hc3=>?_;have hc3:N<=c3:=by rw[hN];exact Nat.le_trans (by omega) hc3
 have hN0:0+m+n+q=N:=by omega
 clear hN;have tA:take m A=A:=take_of_length_le (by omega);have tB:take n B=B:=take_of_length_le (by omega);refine gB ?_
 refine Cut.i (σ:=Unit) (λ_=>True) (λ_=>([(6,.ptr 206 0 none),(7,.sl 204 0 0 N c3)],
  [(206,.mem true 0 [(32,.a8 (replicate 32 0))]),(204,.mem true (c3-N) [(N,.a8 W)]),(1000,.mem false 0 [(m,.a8 A)]),(1001,.mem false 0 [(n,.a8 B)])])) () trivial (Le.i [(206,(6,0,none)),(204,(17,0,none))] rfl ?_ rfl ?_ rfl) ?_
 .exact fcM
 .repeat' (first|exact trivial|refine zA.app ?_ ?_|refine zA.zd ?_ ?_|refine zA.cons ?_ ?_|exact fcM|fail)
  all_goals(first|(simp only[bq,Ix.val,zQ,zero_add,zIn,drop_zero,List.nil_append,List.append_nil,tA,tB];exact hx0 ())|trace_state)
 rintro - -;refine gB ?_;refine Call.i cH [(1000,(204,0,none))] rfl fc rfl fc rfl ?_;rintro _ _ ⟨rfl,rfl⟩;refine gN ?_;refine gB ?_;refine Call.i cR [(1000,(8,0,none))] rfl fc rfl fc rfl ?_;rintro _ _ ⟨rfl,rfl⟩;refine gN ?_;refine gB ?_;refine Ret.i (.a8 R) [(1000,.mem false 0 [(m,.a8 A)]),(1001,.mem false 0 [(n,.a8 B)])] [] rfl fc ⟨rfl,rfl⟩ rfl fc rfl fc rfl
theorem aRC (m n:Nat) (A B W:List UInt8) (N:Nat) (hA:A.length=m) (hB:B.length=n) (hN:N=m+n) (hx:A++B=W) (hle:N<=10000):
  Sx.Fn Γ.P 46 [.isl 0 m 1 [(m,.a8 A)],.isl 0 n 1 [(n,.a8 B)],.nsl] [] (λv _=>v= .a8 (haB W)):=by
 have hW:W.length=N:=by rw[<-hx,zlA];omega
 have hx0:Unit->W=A++B:=λ_=>hx.symm;clear hx;have cH:=aa9 W N hW (by omega);rw[xc]at cH;have cR:=aWB (ae W) 64 (aW _) (by omega);rw[<-aAC]at cR;have lH:=aW W;have lR:=fJ W;generalize haB W=R at *;generalize ae W=H at *;refine cV [2,5] (Γ:=Γ) (fn:=Tryz.f46) rfl rfl rfl rfl ?_;refine gB ?_
 refine Cut.i (σ:=Unit) (λ_=>True) (λ_=>([(0,.isl 0 m 1 [(m,.a8 A)]),(1,.isl 0 n 1 [(n,.a8 B)]),(2,.nsl),(6,.ptr 6 0 none),(7,.sl 450 0 0 0 0)],
  [(6,.mem true 0 [(32,.a8 (replicate 32 0))]),(450,.mem true 0 [(0,.a8 [])])])) () trivial
  (Le.ghost [.own 450 [(0,.a8 [])]] [(7,450)] [] rfl ⟨rfl,rfl,trivial⟩ rfl rfl fc rfl fc rfl) ?_
 rintro - -;refine gB ?_;refineλc1 hc1=>?_;refine gB ?_;refineλc2 hc2=>?_;refine gB ?_;refineλc3 hc3=>?_;have hc3:N<=c3:=by rw[hN];exact Nat.le_trans (by omega) hc3
 have hN0:0+m+n+0=N:=by omega
 clear hN;have tA:take m A=A:=take_of_length_le (by omega);have tB:take n B=B:=take_of_length_le (by omega);refine gB ?_
 refine Cut.i (σ:=Unit) (λ_=>True) (λ_=>([(6,.ptr 206 0 none),(7,.sl 204 0 0 N c3)],
  [(206,.mem true 0 [(32,.a8 (replicate 32 0))]),(204,.mem true (c3-N) [(N,.a8 W)])])) () trivial (Le.i [(206,(6,0,none)),(204,(17,0,none))] rfl ?_ rfl ?_ rfl) ?_
 .exact fcM
 .repeat' (first|exact trivial|refine zA.app ?_ ?_|refine zA.zd ?_ ?_|refine zA.cons ?_ ?_|exact fcM|fail)
  all_goals(first|(simp only[bq,Ix.val,zQ,zero_add,zIn,drop_zero,List.nil_append,List.append_nil,tA,tB];exact hx0 ())|trace_state)
 rintro - -;refine gB ?_;refine Call.i cH [(1000,(204,0,none))] rfl fc rfl fc rfl ?_;rintro _ _ ⟨rfl,rfl⟩;refine gN ?_;refine gB ?_;refine Call.i cR [(1000,(8,0,none))] rfl fc rfl fc rfl ?_;rintro _ _ ⟨rfl,rfl⟩;refine gN ?_;refine gB ?_;refine Ret.i (.a8 R) [] [] rfl fc rfl rfl fc rfl fc rfl
theorem abN (n:List UInt8) (hn:n.length=32):Sx.Fn Γ.P 47 [.a8 n] [] (λv _=>v= .a8 (qm n)):=by
 have cB:=aaA;have cM:=λo ho=>ab8 n hn o basP ho;have cE:=λp hp=>abH p (pS n) hp;rw[<-kq]at cM;rw[<-qM]at cE;have lE:=dS n;generalize qm n=E at *;have hl:=aC;unfold RP.V at *;refine aG (Γ:=Γ) (fn:=Tryz.f47) rfl rfl rfl rfl ?_;refine gB ?_;refine aH.i [[],[],[0,1],[0,1,2],r_4] r_5 (by kernel_rfl) ?_;refine gA ?_;refine Call.pure cB rfl fc ?_;rintro v ⟨o,ho,rfl⟩;have cM:=cM o ho;refine gA ?_;refine Call.pure cM rfl fc ?_;rintro v ⟨p,hp,rfl⟩;have cE:=cE p hp;refine gA ?_;refine Call.pure cE rfl fc ?_;rintro _ rfl;refine gA ?_;refine Ret.i (.a8 E) [] [] rfl fc rfl rfl fc rfl fc rfl
theorem aaJ (s:List UInt8) (hs:s.length=32):Sx.Fn Γ.P 25 [.a8 s] [] (λv _=>v= .a8 (spB s)):=by
 have cS:=abO s hs;have cB:=abN (nuB s) (fI s);rw[<-ym]at cB;have lN:=fI s;have l:=gU s;generalize spB s=E at *;generalize nuB s=N at *;generalize pfB s=P at *;refine aG (Γ:=Γ) (fn:=Tryz.f25) rfl rfl rfl rfl ?_;refine gB ?_;refine Call.pure cS rfl fc ?_;rintro _ rfl;refine gA ?_;refine Call.pure cB rfl fc ?_;rintro _ rfl;refine gA ?_;refine Ret.i (.a8 E) [] [] rfl fc rfl rfl fc rfl fc rfl
end Go.Proofs.YtaehfiohjkiajaaGreat
namespace Go.Proofs.YtaehfiohjkiajaaGreat
open Go Go.Sx Go.Cu
theorem abX (s q:List UInt8) (n:Nat) (hs:s.length=32) (hq:q.length=n) (hn:n<=4096):Sx.Fn Γ.P 23 [.a8 s,.isl 0 n 1 [(n,.a8 q)]] [] (λv _=>v= .a8 (sgB s q)):=by
 have cS:=abO s hs;have lN:=fI s;have lP:=gU s;have lF:(pfB s).length=32:=by unfold pfB;rw[zlD,aW]
 have eR:=aE1 s q;have lR:=mU s q;have eK:=zw s q;have lK:=mt s q;have eS:=uH s q;have lS:=mM s q;have eG:=uN s q;have lG:=gX s q;have cH1:=aRC 32 n (pfB s) q (pfB s++q) (32+n) lF hq rfl rfl (by omega);rw[<-eR]at cH1;have cB1:=abN (rrB s q) lR;have cB2:=abN (nuB s) lN;rw[<-ym]at cB2;have lE:=dS (rrB s q);have cH2:=aaC 32 32 n (qm (rrB s q)) (spB s) q (qm (rrB s q)++spB s++q) (32+32+n) lE lP hq rfl rfl (by omega);rw[<-eK]at cH2;have cA:=acN (kkB s q) (nuB s) (rrB s q) lK lN lR;rw[<-eS]at cA;clear eR eK eS;generalize sgB s q=G at *;generalize ssB s q=S at *;generalize kkB s q=K at *;generalize qm (rrB s q)=E at *;generalize rrB s q=R at *;generalize spB s=A at *;generalize nuB s=N at *;generalize pfB s=F at *;have eG:Unit->G=E++S:=λ_=>eG;refine cV [5,10] (Γ:=Γ) (fn:=Tryz.f23) rfl rfl rfl rfl ?_;refine gB ?_;refine Call.pure cS rfl fc ?_;rintro _ rfl;refine gA ?_;refine Call.pure cH1 rfl fc ?_;rintro _ rfl;refine gA ?_;refine Call.pure cB1 rfl fc ?_;rintro _ rfl;refine gA ?_;refine Call.pure cB2 rfl fc ?_;rintro _ rfl;refine gA ?_
 refine Cut.i (σ:=Unit) (λ_=>True) (λ_=>([(1,.isl 0 n 1 [(n,.a8 q)]),(4,.ptr 204 0 none),(5,.ptr 205 0 none),(7,.ptr 207 0 none),(8,.ptr 208 0 none),(9,.ptr 209 0 none)],
  [(204,.mem true 0 [(64,.a8 (replicate 64 0))]),(205,.mem true 0 [(32,.a8 N)]),(207,.mem true 0 [(32,.a8 R)]),(208,.mem true 0 [(32,.a8 E)]),(209,.mem true 0 [(32,.a8 A)])])) () trivial
  (Le.i [(204,(4,0,none)),(205,(5,0,none)),(207,(7,0,none)),(208,(8,0,none)),(209,(9,0,none))] rfl fc rfl fc rfl) ?_
 rintro - -;refine aH.i [[],[],[],[0,1,2],[],r_5] [0,1,2,4,3,5] (by kernel_rfl) ?_;refine gA ?_;refine Call.i cH2 [(1000,(208,0,none)),(1001,(209,0,none))] rfl fc rfl fc rfl ?_;rintro _ _ ⟨rfl,rfl⟩;refine gN ?_;refine gA ?_;refine Call.pure cA rfl fc ?_;rintro _ rfl;refine gA ?_;refine aH.i [[],[],[0,1]] [0,1,2] (by kernel_rfl) ?_;refine gA ?_;refine aH.i [[],[],[0,1]] [0,1,2] (by kernel_rfl) ?_;refine gA ?_
 refine Cut.i (σ:=Unit) (λ_=>True) (λ_=>([(4,.ptr 204 0 none),(12,.ptr 212 0 none)],
  [(204,.mem true 0 [(64,.a8 (replicate 64 0))]),(212,.mem true 0 [(64,.a8 G)])])) () trivial (Le.i [(204,(204,0,none)),(212,(12,0,none))] rfl ?_ rfl ?_ rfl) ?_
 .exact fc
 .repeat' first|exact trivial|refine zA.app ?_ ?_|refine zA.zd ?_ ?_|refine zA.cons ?_ ?_|exact fc|fail
  all_goals(
   have t1:take 32 E=E:=take_of_length_le (by omega);have t2:take 32 S=S:=take_of_length_le (by omega);simp only[getD_none,drop_zero,t1,t2,lE,lS];exact aM4 lE lS (eG ()))
 rintro - -;refine gB ?_;refine Ret.i (.a8 G) [] [] rfl fc rfl rfl fc rfl fc rfl
end Go.Proofs.YtaehfiohjkiajaaGreat
namespace Go.Proofs.YtaehfiohjkiajaaGreat
open Go Go.Sx Go.Cu
theorem aQK (pub q sg:List UInt8) (n:Nat) (hp:pub.length=32) (hq:q.length=n) (hn:n<=4097) (hs:sg.length=64) (hok:okD pub) (hr:sf (sg.drop 32)=sg.drop 32) (o:RP) (ho:RR o (vg pub)) (T:Tm) (M:Mm)
  (hle:Le [] [(1,.isl 0 n 1 [(n,.a8 q)]),(3,.ptr 203 0 none),(7,.ptr 207 0 none),(9,.ptr 209 0 none),(10,.ptr 210 0 none)]
   [(203,.mem true 0 [(32,.a8 pub)]),(207,.mem true 0 [(16,.ai (nmF o.x)),(16,.ai (nmF o.y)),(16,.ai (nmF o.z))]),(209,.mem true 0 [(32,.a8 (sg.take 32))]),(210,.mem true 0 [(32,.a8 (sg.drop 32))])] T M):
  aSJ Γ [7] Tryz.f28 7 [] T M (λv _=>v= .bool (vrf pub q sg)):=by
 have lr:(sg.take 32).length=32:=by rw[zlT,hs];rfl
 have ls:(sg.drop 32).length=32:=by rw[zlD,hs]
 have hv:vrf pub q sg↔vrE pub (vkB pub q sg) (sg.drop 32)=sg.take 32:=⟨λh=>h.2.2,λh=>⟨hok,hr,h⟩⟩;have eK:=aDX pub q sg;have lK:=aA5 pub q sg;have lE:=aA4 pub (vkB pub q sg) (sg.drop 32);have eE:=aDW pub (vkB pub q sg) (sg.drop 32);have eP:=aMZ pub (vkB pub q sg) (sg.drop 32);generalize vrf pub q sg=V at *;generalize sg.take 32=r at *;generalize sg.drop 32=z at *;have cH:=aaC 32 32 n r pub q (r++pub++q) (32+32+n) lr hp hq rfl rfl (by omega);rw[<-eK]at cH;clear eK;generalize vkB pub q sg=K at *;have cB:=aaA;have cM1:=λb hb=>ab8 z ls b basP hb;have cM2:=ab8 K lK o _ ho;rw[<-kq]at cM1;have hl:=aC
 refine Cut.i (σ:=Unit) (λ_=>True) (λ_=>([(1,.isl 0 n 1 [(n,.a8 q)]),(3,.ptr 203 0 none),(7,.ptr 207 0 none),(9,.ptr 209 0 none),(10,.ptr 210 0 none)],
   [(203,.mem true 0 [(32,.a8 pub)]),(207,.mem true 0 [(16,.ai (nmF o.x)),(16,.ai (nmF o.y)),(16,.ai (nmF o.z))]),(209,.mem true 0 [(32,.a8 r)]),(210,.mem true 0 [(32,.a8 z)])])) () trivial hle ?_
 rintro - -;unfold RP.V at *;refine aH.i [[],[],[],[0,1,2],[],r_5] [0,1,2,4,3,5] (by kernel_rfl) ?_;refine gA ?_;refine Call.i cH [(1000,(209,0,none)),(1001,(203,0,none))] rfl fc rfl fc rfl ?_;rintro _ _ ⟨rfl,rfl⟩;refine gN ?_;refine gA ?_;refine aH.i [[],[],[0,1],[],r_4] [0,3,1,2,4] (by kernel_rfl) ?_;refine gA ?_;refine Call.pure cB rfl fc ?_;rintro v ⟨b,hb,rfl⟩;have cM1:=cM1 b hb;refine gA ?_;refine Call.pure cM1 rfl fc ?_;rintro v ⟨p,hp1,rfl⟩;refine gA ?_;refine Call.pure cM2 rfl fc ?_;rintro v ⟨a,ha,rfl⟩;have cN:=abG a _ ha;unfold RP.V at cN;refine aH.i [[],[],[1],[0,1,2],r_4,[],r_6,r_7] [0,1,5,2,3,4,6,7] (by kernel_rfl) ?_;refine gA ?_;refine Call.pure cN rfl fc ?_;rintro v ⟨c,hc,rfl⟩;have cA:=aZ9 p c _ _ hp1 hc;rw[<-eP]at cA;unfold RP.V at cA;refine gA ?_;refine Call.pure cA rfl fc ?_;rintro v ⟨d,hd,rfl⟩;have cE:=abH d _ hd;rw[<-eE]at cE;unfold RP.V at cE;generalize vrE pub K z=E at *;refine gA ?_;refine Call.pure cE rfl fc ?_;intro v hv1;subst hv1;refine gA ?_;refine Ret.i (.bool V) [] [] rfl ?_ rfl rfl ?_ rfl ?_ rfl
 .exact fc
 .repeat' first|exact trivial|refine zA.app ?_ ?_|refine zA.zd ?_ ?_|refine zA.cons ?_ ?_|exact fc|fail
  all_goals exact hv
 exact fc
theorem aWE (pub q sg:List UInt8) (n:Nat) (hp:pub.length=32) (hq:q.length=n) (hn:n<=4097) (hs:sg.length=64):Sx.Fn Γ.P 28 [.a8 pub,.isl 0 n 1 [(n,.a8 q)],.a8 sg] [] (λv _=>v= .bool (vrf pub q sg)):=by
 have cD:=abI pub hp;have lr:(sg.take 32).length=32:=by rw[zlT,hs];rfl
 have ls:(sg.drop 32).length=32:=by rw[zlD,hs]
 have cR:=aUT (sg.drop 32) ls;have hl:=aC;unfold rdQ RP.V at cD;refine cV [5,7] (Γ:=Γ) (fn:=Tryz.f28) rfl rfl rfl rfl ?_;refine gB ?_;refine Call.pure cD rfl fc ?_;rintro v (⟨hok,o,ho,rfl⟩|⟨hok,rfl⟩)
 .refine gB ?_
  refine aH.i [[],[],[0,1]] [0,1,2] (by kernel_rfl) ?_;refine gA ?_;refine aH.i [[],[],[0,1]] [0,1,2] (by kernel_rfl) ?_;refine gA ?_
  refine Cut.i (σ:=Unit) (λ_=>True) (λ_=>([(1,.isl 0 n 1 [(n,.a8 q)]),(3,.ptr 203 0 none),(7,.ptr 207 0 none),(8,.tt),(9,.ptr 209 0 none),(10,.ptr 210 0 none)],
   [(203,.mem true 0 [(32,.a8 pub)]),(207,.mem true 0 [(16,.ai (nmF o.x)),(16,.ai (nmF o.y)),(16,.ai (nmF o.z))]),(209,.mem true 0 [(32,.a8 (sg.take 32))]),(210,.mem true 0 [(32,.a8 (sg.drop 32))])])) () trivial
   (Le.i [(203,(3,0,none)),(207,(7,0,none)),(209,(9,0,none)),(210,(10,0,none))] rfl ?_ rfl ?_ rfl) ?_
  .exact fc
  .repeat' first|exact trivial|refine zA.app ?_ ?_|refine zA.zd ?_ ?_|refine zA.cons ?_ ?_|exact fc|fail
   .show sg.take 32=take 0 (replicate 32 (0:UInt8))++take (min (take 32 (drop 0 sg)).length 32) (take 32 (drop 0 sg))++drop (0+min (take 32 (drop 0 sg)).length 32) (replicate 32 0)
    rw[drop_zero,lr];exact(aaS lr).symm
   have e:take 32 (drop 32 sg)=drop 32 sg:=take_of_length_le (by omega);show sg.drop 32=take 0 (replicate 32 (0:UInt8))++take (min (take 32 (drop 32 sg)).length 32) (take 32 (drop 32 sg))++drop (0+min (take 32 (drop 32 sg)).length 32) (replicate 32 0);rw[e,ls];exact(aaS ls).symm
  rintro - -;refine gB ?_;refine Call.pure cR rfl fc ?_;rintro _ rfl;refine gB ?_;refine zB.i ?_ ?_<;>intro h
  .have h:¬sf (sg.drop 32)=sg.drop 32:=h
   refine gB ?_;refine Ret.i (.bool (vrf pub q sg)) [] [] rfl ?_ rfl rfl ?_ rfl ?_ rfl
   .exact fc
   .repeat' first|exact trivial|refine zA.app ?_ ?_|refine zA.zd ?_ ?_|refine zA.cons ?_ ?_|exact fc|fail
    all_goals exact(λe=>h e.2.1)
   exact fc
  have h:sf (sg.drop 32)=sg.drop 32:=Classical.not_not.1 h;refine aQK pub q sg n hp hq hn hs hok h o ho _ _ (Le.i [] rfl fc rfl fc rfl)
 refine gB ?_;refine aH.i [[],[],[0,1]] [0,1,2] (by kernel_rfl) ?_;refine gA ?_;refine aH.i [[],[],[0,1]] [0,1,2] (by kernel_rfl) ?_;refine gA ?_;refine Cut.i (σ:=Unit) (λ_=>True) (λ_=>([(8,.ff)],[])) () trivial (Le.i [] rfl fc rfl fc rfl) ?_;rintro - -;refine gB ?_;refine Ret.i (.bool (vrf pub q sg)) [] [] rfl ?_ rfl rfl ?_ rfl ?_ rfl
 .exact fc
 .repeat' first|exact trivial|refine zA.app ?_ ?_|refine zA.zd ?_ ?_|refine zA.cons ?_ ?_|exact fc|fail
  all_goals exact(λh=>hok h.1)
 exact fc
end Go.Proofs.YtaehfiohjkiajaaGreat
namespace Go.Proofs.YtaehfiohjkiajaaGreat
open Go Go.Sx Go.Cu
theorem aHH (p:List UInt8) (hp:p.length=32):Sx.Fn Γ.P 8 [.agg [(1,.nilp)],.a8 p] [] (λv _=>v= .a8 (spB p)):=by
 have c:=aaK p hp;have l:=gU p;generalize spB p=R at *;refine aG (Γ:=Γ) (fn:=Tryz.f8) rfl rfl rfl rfl ?_;refine gB ?_
 repeat(first|(refine zB.i (λ_=>?_) (λhn=>absurd rfl hn))|refine ky0 ?_|refine kn0 ?_|refine sd ?_)
 refine Call.pure c rfl fc ?_;rintro _ rfl;refine gA ?_;refine Ret.i (.a8 R) [] [] rfl fc rfl rfl fc rfl fc rfl
theorem aJN (p:List UInt8) (hp:p.length=32):Sx.Fn Γ.P 10 [.agg [(1,.nilp)],.a8 p] [] (λv _=>v= .a8 (spB p)):=by
 have c:=aaJ p hp;have l:=gU p;generalize spB p=R at *;refine aG (Γ:=Γ) (fn:=Tryz.f10) rfl rfl rfl rfl ?_;refine gB ?_
 repeat(first|(refine zB.i (λ_=>?_) (λhn=>absurd rfl hn))|refine ky0 ?_|refine kn0 ?_|refine sd ?_)
 refine Call.pure c rfl fc ?_;rintro _ rfl;refine gA ?_;refine Ret.i (.a8 R) [] [] rfl fc rfl rfl fc rfl fc rfl
theorem aQ6 (p q:List UInt8) (n:Nat) (hp:p.length=32) (hq:q.length=n) (hn:n<=4096):Sx.Fn Γ.P 7 [.agg [(1,.nilp)],.a8 p,.isl 0 n 1 [(n,.a8 q)]] [] (λv _=>v= .a8 (sgB p q)):=by
 have c:=abY p q n hp hq hn;have l:=gX p q;generalize sgB p q=R at *;refine aG (Γ:=Γ) (fn:=Tryz.f7) rfl rfl rfl rfl ?_;refine gB ?_;refine zB.i ?_ ?_<;>intro hc
 .have hc:(n:Int)>4096:=hc
  exact absurd hc (by omega)
 refine gB ?_
 repeat(first|(refine zB.i (λ_=>?_) (λhn=>absurd rfl hn))|refine ky0 ?_|refine kn0 ?_|refine sd ?_)
 refine Call.pure c rfl fc ?_;rintro _ rfl;refine gA ?_;refine Ret.i (.a8 R) [] [] rfl fc rfl rfl fc rfl fc rfl
theorem aLV (p q:List UInt8) (n:Nat) (hp:p.length=32) (hq:q.length=n) (hn:n<=4096):Sx.Fn Γ.P 9 [.agg [(1,.nilp)],.a8 p,.isl 0 n 1 [(n,.a8 q)]] [] (λv _=>v= .a8 (sgB p q)):=by
 have c:=abX p q n hp hq hn;have l:=gX p q;generalize sgB p q=R at *;refine aG (Γ:=Γ) (fn:=Tryz.f9) rfl rfl rfl rfl ?_;refine gB ?_;refine zB.i ?_ ?_<;>intro hc
 .have hc:(n:Int)>4096:=hc
  exact absurd hc (by omega)
 refine gB ?_
 repeat(first|(refine zB.i (λ_=>?_) (λhn=>absurd rfl hn))|refine ky0 ?_|refine kn0 ?_|refine sd ?_)
 refine Call.pure c rfl fc ?_;rintro _ rfl;refine gA ?_;refine Ret.i (.a8 R) [] [] rfl fc rfl rfl fc rfl fc rfl
theorem aHF (w q s:List UInt8) (n:Nat) (hw:w.length=32) (hq:q.length=n) (hn:n<=4096) (hs:s.length=64):Sx.Fn Γ.P 11 [.agg [(1,.nilp)],.a8 w,.isl 0 n 1 [(n,.a8 q)],.a8 s] [] (λv _=>v= .bool (vrf w q s)):=by
 have c:=aaI w q s n hw hq (by omega) hs;generalize vrf w q s=V at *;refine aG (Γ:=Γ) (fn:=Tryz.f11) rfl rfl rfl rfl ?_;refine gB ?_;refine zB.i ?_ ?_<;>intro hc
 .have hc:(n:Int)>4096:=hc
  exact absurd hc (by omega)
 refine gB ?_
 repeat(first|(refine zB.i (λ_=>?_) (λhn=>absurd rfl hn))|refine ky0 ?_|refine kn0 ?_|refine sd ?_)
 refine Call.pure c rfl fc ?_;rintro _ rfl;refine gA ?_;refine Ret.i (.bool V) [] [] rfl ?_ rfl rfl ?_ rfl ?_ rfl
 .exact fc
 .repeat' first|exact trivial|refine zA.app ?_ ?_|refine zA.zd ?_ ?_|refine zA.cons ?_ ?_|exact fc|fail
  all_goals exact Iff.rfl
 exact fc
theorem aHQ (w q s:List UInt8) (n:Nat) (hw:w.length=32) (hq:q.length=n) (hn:n<=4096) (hs:s.length=64):Sx.Fn Γ.P 12 [.agg [(1,.nilp)],.a8 w,.isl 0 n 1 [(n,.a8 q)],.a8 s] [] (λv _=>v= .bool (vrf w q s)):=by
 have c:=aWE w q s n hw hq (by omega) hs;generalize vrf w q s=V at *;refine aG (Γ:=Γ) (fn:=Tryz.f12) rfl rfl rfl rfl ?_;refine gB ?_;refine zB.i ?_ ?_<;>intro hc
 .have hc:(n:Int)>4096:=hc
  exact absurd hc (by omega)
 refine gB ?_
 repeat(first|(refine zB.i (λ_=>?_) (λhn=>absurd rfl hn))|refine ky0 ?_|refine kn0 ?_|refine sd ?_)
 refine Call.pure c rfl fc ?_;rintro _ rfl;refine gA ?_;refine Ret.i (.bool V) [] [] rfl ?_ rfl rfl ?_ rfl ?_ rfl
 .exact fc
 .repeat' first|exact trivial|refine zA.app ?_ ?_|refine zA.zd ?_ ?_|refine zA.cons ?_ ?_|exact fc|fail
  all_goals exact Iff.rfl
 exact fc
theorem aCD (w q s:List UInt8) (n:Nat) (hw:w.length=32) (hq:q.length=n) (hn:4096<n) (hs:s.length=64):Sx.Fn Γ.P 11 [.agg [(1,.nilp)],.a8 w,.isl 0 n 1 [(n,.a8 q)],.a8 s] [] (λv _=>v= .ff):=by
 refine aG (Γ:=Γ) (fn:=Tryz.f11) rfl rfl rfl rfl ?_;refine gB ?_;refine zB.i ?_ ?_<;>intro hc
 .refine gB ?_
  refine Ret.i .ff [] [] rfl fc rfl rfl fc rfl fc rfl
 have hc:¬(n:Int)>4096:=hc;exact absurd hc (by omega)
end Go.Proofs.YtaehfiohjkiajaaGreat
namespace Go.Proofs.YtaehfiohjkiajaaGreat
open Go Go.Sx
theorem aVK {w:List UInt64}:bv (xN w 32) 32=wv w 4:=by
 unfold bv;rw[dt (by decide) (W:=wv w 4) λi hi=>aFL w hi];have h:=wS w 4;exact Nat.mod_eq_of_lt (by rw[show(256:Nat)^32=18446744073709551616^4 by decide];exact h)
theorem bR (b:List UInt8):bv (sf b) 32=bv b b.length%Ln:=by rw[<-aE7,aVK,mg]
end Go.Proofs.YtaehfiohjkiajaaGreat
namespace Go.Proofs.YtaehfiohjkiajaaGreat
open Go Go.Sx Go.Cu
def smT (s t:F×F×F):F×F×F:=
 let z:=s.2.2*t.2.2;let zz:=z*z;let xv:=s.1*t.1;let yw:=s.2.1*t.2.1;let xw:=s.1*t.2.1+s.2.1*t.1;let e:=dF*(xv*yw)
 (z*(zz-e)*xw,z*(zz+e)*(yw+xv),(zz+e)*(zz-e))
theorem aEJ {s t:F×F×F} {P Q:Pt} (h:Rep s.1 s.2.1 s.2.2 P) (k:Rep t.1 t.2.1 t.2.2 Q):Rep (smT s t).1 (smT s t).2.1 (smT s t).2.2 (P.add Q):=
 aE5 h k rfl rfl rfl rfl rfl rfl rfl rfl
def mlT (n:Nat):Nat->F×F×F
 |0=>(0,1,1)
 |k+1=>if n/2^(252-k)%2=1 then smT (smT (mlT n k) (mlT n k)) (aVQ,aR0,1)else smT (mlT n k) (mlT n k)
theorem aF6 {n:Nat} (hn:n<2^253):∀k,k<=253->Rep (mlT n k).1 (mlT n k).2.1 (mlT n k).2.2 (basP.mul (n/2^(253-k)))
 |0,_=>by rw[Nat.div_eq_of_lt hn];exact aPR
 |k+1,h=>by
  have ih:=aF6 hn k (by omega);have d:=aEJ ih ih;rw[Pt.mul_dbl]at d;have e:=Pt.mul_top basP n (252-k);rw[show 252-k+1=253-k by omega]at e;rw[show 253-(k+1)=252-k by omega,e];show Rep (ite _ _ _:F×F×F).1 (ite _ _ _:F×F×F).2.1 (ite _ _ _:F×F×F).2.2 _;by_cases hb:n/2^(252-k)%2=1
  .rw[if_pos hb,if_pos hb]
   exact aEJ (t:=(aVQ,aR0,1)) d ⟨aFP,by show aVQ=aVQ*1;exact gr,by show aR0=aR0*1;exact gr⟩
  rw[if_neg hb,if_neg hb];exact d
theorem zU:(mlT Ln 253).1 = 0/\(mlT Ln 253).2.1 = (mlT Ln 253).2.2:=by decide +kernel
theorem aXA:basP.mul Ln= .O:=by
 have h:=aF6 (n:=Ln) (by decide +kernel) 253 (Nat.le_refl _);rw[Nat.sub_self,Nat.pow_zero,Nat.div_one]at h;have hx:=aPP h;have hy:=aPO h;rw[zU.1]at hx;rw[zU.2]at hy;have hz:=h.1;refine Pt.ext' ?_ ?_
 .rw[<-hx];show 0*_=(0:F);exact gr
 rw[<-hy];exact iv hz
theorem mul_mod (n:Nat):basP.mul (n%Ln)=basP.mul n:=by
 have e:=Nat.div_add_mod n Ln;have h:basP.mul n=(basP.mul (Ln*(n/Ln))).add (basP.mul (n%Ln)):=by rw[<-Pt.mul_add,e]
 rw[h,Pt.mul_mul,aXA,aVY,Pt.O_add]
end Go.Proofs.YtaehfiohjkiajaaGreat
namespace Go.Proofs.YtaehfiohjkiajaaGreat
open Go Go.Sx
theorem acW (T:List Te) (N c:Nat) (hT:T.length=N) (hN:N<=60000) (hNc:N<=c) (hTv:∀x∈T,bP x.1 x.2) (k:Int) (p:List UInt8) (hp:p.length<=4096) (T1:List Te) (o:Nat) (e1:(mk1 T k p).1=T1) (e2:(mk1 T k p).2=o):
  Sx.Fn Γ.P 24 [.ptr 1000 0 none,.i .i64 k,.slx 1003 0 0 1] (M12 N c T 1001 1 [p])
  (λv M=>∃n' c',T1.length=n'/\n'<=c'/\v= .tup [.a8 (kyB o),.bool (o≠0)]/\M=(1001,.dead)::M12 n' c' T1 1005 1 [p]):=by
 subst e1;subst e2;rw[rn];exact ac0 T N c hT hN hNc (λx h=>by have:=(hTv x h).1.1;omega) k [p] 1 rfl (by omega) (λx hx=>by rw[List.mem_singleton.1 hx];omega)
theorem acV (T:List Te) (N c:Nat) (hT:T.length=N) (hN:N<=60000) (hNc:N<=c) (hTv:∀x∈T,bP x.1 x.2) (k:Int) (p q:List UInt8) (hp:p.length<=4096) (hq:q.length<=4096) (T1:List Te) (o:Nat) (e1:(mk2 T k p q).1=T1) (e2:(mk2 T k p q).2=o):
  Sx.Fn Γ.P 24 [.ptr 1000 0 none,.i .i64 k,.slx 1003 0 0 2] (M12 N c T 1001 2 [p,q])
  (λv M=>∃n' c',T1.length=n'/\n'<=c'/\v= .tup [.a8 (kyB o),.bool (o≠0)]/\M=(1001,.dead)::M12 n' c' T1 1005 2 [p,q]):=by
 subst e1;subst e2;rw[uv];refine ac0 T N c hT hN hNc (λx h=>by have:=(hTv x h).1.1;omega) k [p,q] 2 rfl (by omega) (λx hx=>?_);rcases List.mem_cons.1 hx with rfl|hx
 .omega
 rw[List.mem_singleton.1 hx];omega
end Go.Proofs.YtaehfiohjkiajaaGreat
