/- Walks. -/
import Derived.Test.YtllmefnbacjjcaaGreatHwRf1ToRf4
import Derived.Test.YtllmefnbacjjcaaGreatHwFe4ToTm2
import Derived.Test.YtllmefnbacjjcaaGreatHx7
set_option linter.unusedSimpArgs false
set_option linter.unusedVariables false
open List (replicate length_set)
open UInt8 (ofInt toNat_ofNat' ofNat)
open Nat (zero_le le_refl)
set_option maxRecDepth 100000
namespace Go.Proofs.YtllmefnbacjjcaaGreat
open Go Go.Sx Go.Cu
theorem oC:nmF 0=replicate 16 0:=(jQ rfl (Dig.rep 16) (vf 16 16)).symm
theorem aOD {a b d:List Int}:∀{n:Nat},(∀j,j<n->d.getD j 0=a.getD j 0+b.getD j 0)->dv d n=dv a n+dv b n
 |0,_=>rfl
 |n+1,h=>by
  show dv d n+d.getD n 0*65536^n=dv a n+a.getD n 0*65536^n+(dv b n+b.getD n 0*65536^n)
  rw[aOD λj hj=>h j (by omega),h n (by omega),Int.add_mul]
  omega
theorem qJ (n:Nat) (hn:n<35184372088832):Sx.Fn Γ.P 113 [.i .i64 n] [] (λv _=>v= .ai (nmF (fn n))):=by
 have e:dv [(n:Int)] 1=n:=by show(0:Int)+n*1=n;omega
 have hF:=aL3 [(n:Int)] 1 1 rfl (by omega) (le_refl _) (λj=>by
  match j with
  |0=>exact⟨by show(0:Int)<=n;omega,by show(n:Int)<_;omega⟩
  |j+1=>exact⟨Int.le_refl _,by show(0:Int)<_;omega⟩) (by rw[e];omega) (by rw[e];omega)
 rw[e,aAF]at hF
 have hl:=aC (fn n)
 generalize nmF (fn n)=R at hF hl
 refine aG (Γ:=Γ) (fn:=Tryz.f113) rfl rfl rfl rfl ?_
 refine gB ?_
 refine Call.i hF [(1000,(4,0,none))] rfl fc rfl fc rfl ?_
 rintro _ _ ⟨rfl,rfl⟩
 refine gN ?_
 refine gB ?_
 refine Ret.i (.ai R) [] [] rfl fc rfl rfl fc rfl fc rfl
theorem aHK (x y:F):Sx.Fn Γ.P 134 [.ai (nmF x),.ai (nmF y)] [] (λv _=>v= .ai (nmF (x+y))):=by
 have la:=aC x
 have lb:=aC y
 have da:=iG x
 have db:=iG y
 have va:=ip x
 have vb:=ip y
 have hF:=λ(d:List Int) h1 h2 h3 h4=>aL3 d 16 16 h1 (by omega) (le_refl _) h2 h3 h4
 have hl:=aC (x+y)
 generalize nmF x=a at *
 generalize nmF y=b at *
 have hv:∀d,dv d 16=dv a 16+dv b 16->nmF (fz (dv d 16))=nmF (x+y):=by
  intro d h
  rw[h,va,vb]
  have e:((x.val:Int)+(y.val:Int))=((x.val+y.val:Nat):Int):=by omega
  rw[e,aAF,af,qI,qI]
 generalize nmF (x+y)=R at *
 refine aG (Γ:=Γ) (fn:=Tryz.f134) rfl rfl rfl rfl ?_
 refine gB ?_
 refine aY.i (σ:=List Int×Nat) (λs=>s.1.length=16/\s.2<=16/\(∀j,j<s.2->s.1.getD j 0=a.getD j 0+b.getD j 0))
  (λs=>([(2,.ptr 2 0 none),(3,.ptr 3 0 none),(4,.ptr 4 0 none),(5,.sl 7 0 0 16 16),(6,.i .i64 s.2)],
   [(2,.mem true 0 [(16,.ai a)]),(3,.mem true 0 [(16,.ai b)]),(4,.mem true 0 [(16,.ai (replicate 16 0))]),(7,.mem true 0 [(16,.ai s.1)])])) (λs=>16-s.2) (replicate 16 0,0) ⟨rfl,zero_le _,λj hj=>absurd hj (Nat.not_lt_zero _)⟩ ?_ ?_
 ·refine Le.i [] rfl fc rfl fc rfl
 rintro⟨d,i⟩ ⟨h1,h2,h3⟩
 have h1:d.length=16:=h1
 have h2:i<=16:=h2
 have h3:∀j,j<i->d.getD j 0=a.getD j 0+b.getD j 0:=h3
 refine zB.i ?_ ?_<;>intro hc
 ·have hc:(i:Int)<16:=hc
  have xa:=da i
  have xb:=db i
  refine aH.i [[],[],[],[2],[2,3],[],[5],[5,6],[2,3,4,5,6,7],r_9,ek] fe (by kernel_rfl) ?_
  refine gC ?_
  refine⟨(d.set i (a.getD i 0+b.getD i 0),i+1),⟨by rw[length_set];exact h1,by show i+1<=16;omega,λj hj=>?_⟩,by show 16-(i+1)<16-i;omega,Le.i [] rfl ?_ rfl ?_ rfl⟩
  ·have hj:j<i+1:=hj
   show(d.set i (a.getD i 0+b.getD i 0)).getD j 0=_
   by_cases h:i=j
   ·subst h;rw[aE (by omega)]
   rw[aA h];exact h3 j (by omega)
  ·exact fcn
  exact fcn
 obtain rfl:i=16:=by have hc:¬(i:Int)<16:=hc;omega
 have e:=aOD h3
 have b1:=(aJ da 16).1
 have b2:=(aJ da 16).2
 have b3:=(aJ db 16).1
 have b4:=(aJ db 16).2
 have hG:=hF d h1 (λj=>by
  rcases Nat.lt_or_ge j 16 with h|h
  ·rw[h3 j h]
   have xa:=da j
   have xb:=db j
   omega
  rw[cG (by omega)];omega) (by rw[e];omega) (by rw[e];rw[aTC]at b2 b4;omega)
 rw[hv d e]at hG
 refine gB ?_
 refine Call.i hG [(1000,(7,0,none))] rfl fc rfl fc rfl ?_
 rintro _ _ ⟨rfl,rfl⟩
 refine gN ?_
 refine gB ?_
 refine Ret.i (.ai R) [] [] rfl fc rfl rfl fc rfl fc rfl
theorem aLY (x:F) (hx:x≠0):Sx.Fn Γ.P 130 [.ai prD,.ai (nmF x)] [] (λv _=>v= .ai (nmF (0-x))):=by
 have h:=aL4 prD (nmF x) jy (iG x) rfl (aC x)
 have hv:=aFZ hx
 have h1:=x.isLt
 have hp:aB=57896044618658097711785492504343953926634992332820282019728792003956564819949:=rfl
 obtain⟨m1,m2,m3⟩:=oE jy (iG x) rfl (by rw[xL,ip];omega)
 have e:(sbS prD (nmF x) 16).1=nmF (0-x):=by
  refine jQ m1 m2 ?_
  rw[m3,xL,ip,hv]
  omega
 rw[e]at h
 exact h
theorem aL2 (x:F):Sx.Fn Γ.P 133 [.ai (nmF x)] [] (λv _=>v= .ai (nmF (0-x))):=by
 have la:=aC x
 have lr:=aC (0-x)
 have hP:=aHL
 refine aG (Γ:=Γ) (fn:=Tryz.f133) rfl rfl rfl rfl ?_
 refine gB ?_
 refine zB.i ?_ ?_<;>intro h
 ·have h:nmF x=replicate 16 0:=h
  have hx:x=0:=pc (by rw[h,oC])
  have e:nmF (0-x)=nmF x:=by rw[hx];rfl
  rw[e]
  generalize nmF x=a at *
  refine gB ?_
  refine Ret.i (.ai a) [] [] rfl fc rfl rfl fc rfl fc rfl
 have h:¬nmF x=replicate 16 0:=h
 have hM:=aLY x (λe=>h (by rw[e,oC]))
 have hpl:prD.length=16:=rfl
 generalize prD=prime at *
 generalize nmF (0-x)=R at *
 generalize nmF x=a at *
 refine aH.i [[],[],[0,1],[0,1,2]] [1,0,2,3] (by kernel_rfl) ?_
 refine gD ?_
 refine Call.pure hP rfl fc ?_
 rintro _ rfl
 refine gD ?_
 refine Call.pure hM rfl fc ?_
 rintro _ rfl
 refine gD ?_
 refine Ret.i (.ai R) [] [] rfl fc rfl rfl fc rfl fc rfl
theorem aUW (x y:F):Sx.Fn Γ.P 135 [.ai (nmF x),.ai (nmF y)] [] (λv _=>v= .ai (nmF (x-y))):=by
 have la:=aC x
 have lb:=aC y
 have ln:=aC (0-y)
 have lr:=aC (x-y)
 have hN:=aL2 y
 have hA:=aHK x (0-y)
 have e:x+(0-y)=x-y:=gr
 rw[e]at hA
 generalize nmF (x-y)=R at *
 generalize nmF (0-y)=N at *
 generalize nmF y=b at *
 generalize nmF x=a at *
 refine aG (Γ:=Γ) (fn:=Tryz.f135) rfl rfl rfl rfl ?_
 refine gB ?_
 refine aH.i [[],[],[1],[0,1,2],r_4] r_5 (by kernel_rfl) ?_
 refine gD ?_
 refine Call.pure hN rfl fc ?_
 rintro _ rfl
 refine gD ?_
 refine Call.pure hA rfl fc ?_
 rintro _ rfl
 refine gD ?_
 refine Ret.i (.ai R) [] [] rfl fc rfl rfl fc rfl fc rfl
theorem fV (x y:F):Sx.Fn Γ.P 107 [.ai (nmF x),.ai (nmF y)] [] (λv _=>v= .ai (nmF (x*y))):=by
 have la:=aC x
 have lb:=aC y
 have da:=iG x
 have db:=iG y
 have va:=ip x
 have vb:=ip y
 have hF:=λ(d:List Int) h1 h2 h3 h4=>aL3 d 31 31 h1 (by omega) (le_refl _) h2 h3 h4
 have hl:=aC (x*y)
 generalize nmF x=a at *
 generalize nmF y=b at *
 have hv:∀d,dv d 31=dv a 16*dv b 16->nmF (fz (dv d 31))=nmF (x*y)/\0<=dv d 31/\dv d 31<65536^32:=by
  intro d h
  rw[h,va,vb]
  have e:((x.val:Int)*(y.val:Int))=((x.val*y.val:Nat):Int):=by rw[Int.natCast_mul]
  have hx:=aYY x
  have hy:=aYY y
  have hb:x.val*y.val<=115792089237316195423570985008687907853269984665640564039457584007913129639935*115792089237316195423570985008687907853269984665640564039457584007913129639935:=Nat.mul_le_mul (by omega) (by omega)
  refine⟨by rw[e,aAF,lV,qI,qI],by rw[e];omega,?_⟩
  rw[e]
  generalize x.val*y.val=q at *
  omega
 generalize nmF (x*y)=R at *
 refine aG (Γ:=Γ) (fn:=Tryz.f107) rfl rfl rfl rfl ?_
 refine gB ?_
 refine aY.i (σ:=List Int×Nat) (λs=>s.2<=16/\MuI a b s.1 s.2 0)
  (λs=>([(2,.ptr 2 0 none),(3,.ptr 3 0 none),(4,.ptr 4 0 none),(5,.sl 8 0 0 31 31),(6,.i .i64 s.2)],
   [(2,.mem true 0 [(16,.ai a)]),(3,.mem true 0 [(16,.ai b)]),(4,.mem true 0 [(16,.ai (replicate 16 0))]),(8,.mem true 0 [(31,.ai s.1)])])) (λs=>16-s.2) (replicate 31 0,0) ⟨zero_le _,aXS a b⟩ ?_ ?_
 ·refine Le.i [] rfl fc rfl fc rfl
 rintro⟨d,i⟩ ⟨h1,h2⟩
 have h1:i<=16:=h1
 have h2:MuI a b d i 0:=h2
 refine zB.i ?_ ?_<;>intro hc
 ·have hc:(i:Int)<16:=hc
  refine gB ?_
  refine aY.i (σ:=List Int×Nat) (λs=>s.2<=16/\MuI a b s.1 i s.2)
   (λs=>([(2,.ptr 2 0 none),(3,.ptr 3 0 none),(4,.ptr 4 0 none),(5,.sl 8 0 0 31 31),(6,.i .i64 i),(7,.i .i64 s.2)],
    [(2,.mem true 0 [(16,.ai a)]),(3,.mem true 0 [(16,.ai b)]),(4,.mem true 0 [(16,.ai (replicate 16 0))]),(8,.mem true 0 [(31,.ai s.1)])])) (λs=>16-s.2) (d,0) ⟨zero_le _,h2⟩ ?_ ?_
  ·have hll:=h2.len
   refine Le.i [] rfl fc rfl fc rfl
  clear h2
  rintro⟨d,k⟩ ⟨h3,h2⟩
  have h3:k<=16:=h3
  have h2:MuI a b d i k:=h2
  have hll:=h2.len
  refine zB.i ?_ ?_<;>intro hk
  ·have hk:(k:Int)<16:=hk
   have xa:=da i
   have xb:=db k
   have xp:=aNC xa.1 xa.2 xb.1 xb.2
   have xd:=h2.nn (i+k)
   have xe:=h2.hi (i+k)
   have e0:((i:Int)+k).toNat=i+k:=by omega
   have hs:=aKX h2 da db (by omega) (by omega)
   refine aH.i [[],[],[],[1,2],[],[],[],[5,6],[4,5,6,7],[4,5,6,7,8],[],[10],[10,11],[],[13],[13,14],[10,11,12,13,14,15],[4,5,6,7,8,9,10,11,12,13,14,15,16],aBU,uf] aJG (by kernel_rfl) ?_
   repeat refine sdH ?_
   refine⟨(d.set (i+k) (d.getD (i+k) 0+a.getD i 0*b.getD k 0),k+1),⟨by show k+1<=16;omega,hs⟩,by show 16-(k+1)<16-k;omega,Le.i [] rfl fcH rfl fcH rfl⟩
  obtain rfl:k=16:=by have hk:¬(k:Int)<16:=hk;omega
  refine gB ?_
  refine⟨(d,i+1),⟨by show i+1<=16;omega,aQE h2⟩,by show 16-(i+1)<16-i;omega,Le.i [] rfl fc rfl fc rfl⟩
 obtain rfl:i=16:=by have hc:¬(i:Int)<16:=hc;omega
 obtain⟨m1,m2⟩:=aQF h2
 obtain⟨v1,v2,v3⟩:=hv d m1
 have hll:=h2.len
 have hG:=hF d hll (λj=>⟨h2.nn j,m2 j⟩) v2 v3
 rw[v1]at hG
 refine gB ?_
 refine Call.i hG [(1000,(8,0,none))] rfl fc rfl fc rfl ?_
 rintro _ _ ⟨rfl,rfl⟩
 refine gN ?_
 refine gB ?_
 refine Ret.i (.ai R) [] [] rfl fc rfl rfl fc rfl fc rfl
open Go Go.Sx Go.Cu
theorem aWO {b:List UInt8} {i:Nat}:(((b.getD (2*i) 0).toNat:Int)+256*((b.getD (2*i+1) 0).toNat:Int))=((lv b/65536^i%65536:Nat):Int):=by
 have h0:=uy b (2*i)
 have h1:=uy b (2*i+1)
 have e0:(256:Nat)^(2*i)=65536^i:=by rw[Nat.pow_mul]
 have e1:(256:Nat)^(2*i+1)=65536^i*256:=by rw[Nat.pow_succ,e0]
 rw[e0]at h0
 rw[e1,<-Nat.div_div_eq_div_mul]at h1
 rw[<-h0,<-h1]
 generalize lv b/65536^i=w
 omega
theorem aTK {d:List Int} {b:List UInt8} (hl:d.length=16) (hb:b.length=32) (h:∀j,j<16->d.getD j 0=((lv b/65536^j%65536:Nat):Int)):
  Dig (d.set 15 (d.getD 15 0%32768))/\fz (dv (d.set 15 (d.getD 15 0%32768)) 16)=ofF b/\0<=dv (d.set 15 (d.getD 15 0%32768)) 16/\dv (d.set 15 (d.getD 15 0%32768)) 16<65536^32:=by
 have hd:Dig d:=by
  intro j
  rcases Nat.lt_or_ge j 16 with hj|hj
  ·rw[h j hj];omega
  rw[cG (by omega)];decide
 have e:d=nmN (lv b):=vZ hl (aR _) λi hi=>by rw[h i hi,pb _ hi]
 have hlt:=aGL b
 rw[hb]at hlt
 have hlt:lv b<115792089237316195423570985008687907853269984665640564039457584007913129639936:=hlt
 have hv:=aFY hlt
 rw[<-e]at hv
 have x1:=Int.emod_nonneg (d.getD 15 0) (show(32768:Int)≠0 by decide)
 have x2:=Int.emod_lt_of_pos (d.getD 15 0) (show(0:Int)<32768 by decide)
 have hd2:Dig (d.set 15 (d.getD 15 0%32768)):=hd.set x1 (by omega)
 have hs:dv (d.set 15 (d.getD 15 0%32768)) 16=dv d 15+d.getD 15 0%32768*65536^15:=ar (by omega)
 have ho:dv d 16=dv d 15+d.getD 15 0*65536^15:=rfl
 obtain⟨b1,b2⟩:=aJ hd 15
 have p15:(65536:Int)^15=1766847064778384329583297500742918515827483896875618958121606201292619776:=by decide
 rw[p15]at hs ho b2
 have key:dv (d.set 15 (d.getD 15 0%32768)) 16=((lv b%57896044618658097711785492504343953926634992332820282019728792003956564819968:Nat):Int):=by
  rw[hs]
  rw[ho]at hv
  generalize dv d 15=x at *
  generalize d.getD 15 0=y at *
  omega
 rw[key]
 refine⟨hd2,by rw[aAF];rfl,by omega,?_⟩
 have:lv b%57896044618658097711785492504343953926634992332820282019728792003956564819968<57896044618658097711785492504343953926634992332820282019728792003956564819968:=Nat.mod_lt _ (by decide)
 omega
theorem aYM (b:List UInt8) (hb:b.length=32):Sx.Fn Γ.P 136 [.a8 b] [] (λv _=>v= .ai (nmF (ofF b))):=by
 have hF:=λ(d:List Int) h1 h2 h3 h4=>aL3 d 16 16 h1 (by omega) (le_refl _) h2 h3 h4
 have hl:=aC (ofF b)
 refine aG (Γ:=Γ) (fn:=Tryz.f136) rfl rfl rfl rfl ?_
 refine gB ?_
 refine aY.i (σ:=List Int×Nat) (λs=>s.1.length=16/\s.2<=16/\(∀j,j<s.2->s.1.getD j 0=((lv b/65536^j%65536:Nat):Int)))
  (λs=>([(1,.ptr 1 0 none),(2,.ptr 2 0 none),(3,.sl 5 0 0 16 16),(4,.i .i64 s.2)],
   [(1,.mem true 0 [(32,.a8 b)]),(2,.mem true 0 [(16,.ai (replicate 16 0))]),(5,.mem true 0 [(16,.ai s.1)])])) (λs=>16-s.2) (replicate 16 0,0) ⟨rfl,zero_le _,λj hj=>absurd hj (Nat.not_lt_zero _)⟩ ?_ ?_
 ·refine Le.i [] rfl fc rfl fc rfl
 rintro⟨d,i⟩ ⟨h1,h2,h3⟩
 have h1:d.length=16:=h1
 have h2:i<=16:=h2
 have h3:∀j,j<i->d.getD j 0=((lv b/65536^j%65536:Nat):Int):=h3
 refine zB.i ?_ ?_<;>intro hc
 ·have hc:(i:Int)<16:=hc
  have e0:(2*(i:Int)).toNat=2*i:=by omega
  have e1:(2*(i:Int)+1).toNat=2*i+1:=by omega
  have x0:=(b.getD (2*i) 0).toNat_lt
  have x1:=(b.getD (2*i+1) 0).toNat_lt
  have e2:=aWO (b:=b) (i:=i)
  refine aH.i [[],[],[],[2],[2,3],[2,3,4],[2,3,4,5],[],[7],[7,8],[7,8,9],[7,8,9,10],[7,8,9,10,11],[7,8,9,10,11,12],[2,3,4,5,6,7,8,9,10,11,12,13],nw,na] wG (by kernel_rfl) ?_
  repeat refine sdI ?_
  refine⟨(d.set i (((b.getD (2*i) 0).toNat:Int)+256*((b.getD (2*i+1) 0).toNat:Int)),i+1),⟨by rw[length_set];exact h1,by show i+1<=16;omega,λj hj=>?_⟩,by show 16-(i+1)<16-i;omega,Le.i [] rfl ?_ rfl ?_ rfl⟩
  ·have hj:j<i+1:=hj
   show(d.set i _).getD j 0=_
   by_cases h:i=j
   ·subst h;rw[aE (by omega),e2]
   rw[aA h];exact h3 j (by omega)
  ·exact fcI
  exact fcI
 obtain rfl:i=16:=by have hc:¬(i:Int)<16:=hc;omega
 obtain⟨g1,g2,g3,g4⟩:=aTK h1 hb h3
 have x15:0<=d.getD 15 0:=by rw[h3 15 (by omega)];omega
 have hG:=hF (d.set 15 (d.getD 15 0%32768)) (by rw[length_set];exact h1) (λj=>⟨(g1 j).1,by have h:(d.set 15 (d.getD 15 0%32768)).getD j 0<65536:=(g1 j).2;omega⟩) g3 g4
 rw[g2]at hG
 generalize nmF (ofF b)=R at *
 refine gB ?_
 refine Call.i hG [(1000,(5,0,none))] rfl fc rfl fc rfl ?_
 rintro _ _ ⟨rfl,rfl⟩
 refine gN ?_
 refine gB ?_
 refine Ret.i (.ai R) [] [] rfl fc rfl rfl fc rfl fc rfl
theorem un (n:Nat):ofInt (n:Int)=ofNat n:=by
 unfold ofInt
 apply UInt8.toNat_inj.1
 rw[toNat_ofNat',toNat_ofNat']
 omega
theorem ab5 (v i:Nat):ofInt (((v/65536^i%65536:Nat):Int)%256)=ofNat (v/256^(2*i)):=by
 have e:(((v/65536^i%65536:Nat):Int)%256)=((v/65536^i%65536%256:Nat):Int):=by omega
 rw[e,un,Nat.pow_mul]
 apply UInt8.toNat_inj.1
 rw[toNat_ofNat',toNat_ofNat',show(256:Nat)^2=65536 from rfl]
 omega
theorem ab4 (v i:Nat):ofInt (((v/65536^i%65536:Nat):Int)/256)=ofNat (v/256^(2*i+1)):=by
 have e:(((v/65536^i%65536:Nat):Int)/256)=((v/65536^i%65536/256:Nat):Int):=by omega
 rw[e,un,Nat.pow_succ,Nat.pow_mul,<-Nat.div_div_eq_div_mul]
 apply UInt8.toNat_inj.1
 rw[toNat_ofNat',toNat_ofNat',show(256:Nat)^2=65536 from rfl]
 omega
theorem aRD (x:F):Sx.Fn Γ.P 108 [.ai (nmF x)] [] (λv _=>v= .a8 (leB x)):=by
 have la:=aC x
 have da:=iG x
 have ha:∀i,i<16->(nmF x).getD i 0=((x.val/65536^i%65536:Nat):Int):=λi hi=>pb _ hi
 generalize nmF x=a at *
 refine aG (Γ:=Γ) (fn:=Tryz.f108) rfl rfl rfl rfl ?_
 refine gB ?_
 refine aY.i (σ:=List UInt8×Nat) (λs=>s.1.length=32/\s.2<=16/\(∀j,j<2*s.2->s.1.getD j 0=ofNat (x.val/256^j)))
  (λs=>([(1,.ptr 1 0 none),(2,.ptr 2 0 none),(3,.ptr 3 0 none),(4,.i .i64 s.2)],
   [(1,.mem true 0 [(16,.ai a)]),(2,.mem true 0 [(32,.a8 (replicate 32 0))]),(3,.mem true 0 [(32,.a8 s.1)])])) (λs=>16-s.2) (replicate 32 0,0) ⟨rfl,zero_le _,λj hj=>absurd hj (Nat.not_lt_zero _)⟩ ?_ ?_
 ·refine Le.i [] rfl fc rfl fc rfl
 rintro⟨d,i⟩ ⟨h1,h2,h3⟩
 have h1:d.length=32:=h1
 have h2:i<=16:=h2
 have h3:∀j,j<2*i->d.getD j 0=ofNat (x.val/256^j):=h3
 refine zB.i ?_ ?_<;>intro hc
 ·have hc:(i:Int)<16:=hc
  have e0:(2*(i:Int)).toNat=2*i:=by omega
  have e1:(2*(i:Int)+1).toNat=2*i+1:=by omega
  have x0:=da i
  repeat refine sdI ?_
  refine⟨((d.set (2*i) (ofInt (a.getD i 0%256))).set (2*i+1) (ofInt (a.getD i 0/256)),i+1),⟨by rw[length_set,length_set];exact h1,by show i+1<=16;omega,λj hj=>?_⟩,by show 16-(i+1)<16-i;omega,Le.i [] rfl ?_ rfl ?_ rfl⟩
  ·have hj:j<2*(i+1):=hj
   show((d.set (2*i) _).set (2*i+1) _).getD j 0=_
   by_cases h:2*i+1=j
   ·subst h;rw[aE (by rw[length_set];omega),ha i (by omega),ab4]
   rw[aA h]
   by_cases h:2*i=j
   ·subst h;rw[aE (by omega),ha i (by omega),ab5]
   rw[aA h];exact h3 j (by omega)
  ·exact fcI
  exact fcI
 obtain rfl:i=16:=by have hc:¬(i:Int)<16:=hc;omega
 have e:d=leB x:=oI h1 (aj x) λj hj=>by rw[h3 j (by omega)];exact(tK 32 _ j hj).symm
 rw[<-e]
 refine gB ?_
 refine Ret.i (.a8 d) [] [] rfl fc rfl rfl fc rfl fc rfl
theorem aCF (e:Nat) (he:e<115792089237316195423570985008687907853269984665640564039457584007913129639936):Sx.Fn Γ.P 140 [.ai (nmN e)] [] (λv _=>v= .ai (nmN (e/2))):=by
 have la:=aR e
 have da:=kB e
 have hH:=aQ3 he
 have hI:=λi hi=>xy la da i hi
 have hL:=jW la
 generalize nmN e=a at *
 refine aG (Γ:=Γ) (fn:=Tryz.f140) rfl rfl rfl rfl ?_
 refine gB ?_
 refine aY.i (σ:=Nat) (λi=>i<=16)
  (λi=>([(1,.ptr 1 0 none),(2,.ptr 2 0 none),(3,.i .i64 i)],[(1,.mem true 0 [(16,.ai (hfS a i))]),(2,.mem true 0 [(16,.ai (replicate 16 0))])])) (λi=>16-i) 0 (zero_le _) ?_ ?_
 ·have z:hfS a 0=a:=rfl
  refine Le.i [] rfl fc rfl fc rfl
 rintro i hi
 have hl:=hL i
 have h1:=(hI i hi).1
 refine zB.i ?_ ?_<;>intro hc
 ·have hc:(i:Int)<16:=hc
  have e0:((i:Int)+1).toNat=i+1:=by omega
  have hx:=h1 i (le_refl _)
  have hy:=h1 (i+1) (by omega)
  have x0:=da i
  have x1:=da (i+1)
  rw[<-hx]at x0
  rw[<-hy]at x1
  have hn:hfS a (i+1)=if i<15 then((hfS a i).set i ((hfS a i).getD i 0/2)).set i (((hfS a i).set i ((hfS a i).getD i 0/2)).getD i 0+(hfS a i).getD (i+1) 0%2*32768)else(hfS a i).set i ((hfS a i).getD i 0/2):=rfl
  clear h1 hx hy
  generalize hfS a i=X at *
  have y0:(X.set i (X.getD i 0/2)).getD i 0=X.getD i 0/2:=aE (by omega)
  have y1:(X.set i (X.getD i 0/2)).getD (i+1) 0=X.getD (i+1) 0:=aA (by omega)
  refine gC ?_
  refine zB.i ?_ ?_<;>intro hq
  ·have hq:(i:Int)<15:=hq
   rw[if_pos (by omega)]at hn
   rw[<-y1]at hn
   have y2:0<=(X.set i (X.getD i 0/2)).getD i 0/\(X.set i (X.getD i 0/2)).getD i 0<65536:=by rw[y0];omega
   have y3:0<=(X.set i (X.getD i 0/2)).getD (i+1) 0/\(X.set i (X.getD i 0/2)).getD (i+1) 0<65536:=by rw[y1];omega
   clear y0 y1
   refine aH.i [[],[],[1],[1,2],[],[4],[4,5],[4,5,6],[4,5,6,7],[4,5,6,7,8],[1,2,3,4,5,6,7,8,9],fe,kX] jO (by kernel_rfl) ?_
   repeat refine sdH ?_
   refine⟨i+1,by omega,by omega,Le.i [] rfl fcH rfl fcH rfl⟩
  have hq:¬(i:Int)<15:=hq
  rw[if_neg (by omega)]at hn
  refine gB ?_
  refine⟨i+1,by omega,by omega,Le.i [] rfl fcn rfl fcn rfl⟩
 obtain rfl:i=16:=by have hc:¬(i:Int)<16:=hc;omega
 rw[<-hH]
 generalize hfS a 16=X at *
 refine gB ?_
 refine Ret.i (.ai X) [] [] rfl fc rfl rfl fc rfl fc rfl
open Go Go.Sx Go.Cu
theorem aV9:fn 1 = 1:=by decide +kernel
theorem aa6:fn 2 = 2:=by decide +kernel
theorem aVO (e i:Nat) (hi:i<256):0<=(nmN e).getD (i/16) 0/2^(i%16)/\(nmN e).getD (i/16) 0/2^(i%16)<65536:=by
 obtain⟨h0,h1⟩:=kB e (i/16)
 generalize (nmN e).getD (i/16) 0=x at *
 have hp:((2:Int)^(i%16))=((2^(i%16):Nat):Int):=by rw[Int.natCast_pow];rfl
 obtain⟨n,rfl⟩:=Int.eq_ofNat_of_zero_le h0
 have:=Nat.div_le_self n (2^(i%16))
 rw[hp,<-Int.natCast_ediv]
 generalize n/2^(i%16)=m at *
 omega
theorem aFT (n:Nat) (h:n<18446744073709551616):(UInt64.ofInt (n:Int)).toNat=n:=by
 unfold UInt64.ofInt
 rw[UInt64.toNat_ofNat']
 omega
theorem aL5 (x:F) (e:Nat) (he:e<115792089237316195423570985008687907853269984665640564039457584007913129639936):Sx.Fn Γ.P 129 [.ai (nmF x),.ai (nmN e)] [] (λv _=>v= .ai (nmF (pw x e))):=by
 have hS:=qJ 1 (by omega)
 rw[aV9]at hS
 have hM:=λu v=>fV u v
 have hl:=aC
 have hln:=aR e
 have hdg:=kB e
 have hbit:=λi hi=>@aTR e i hi
 have hble:=aVO e
 have hz:e/2^256=0:=Nat.div_eq_of_lt he
 have htop:=aS8 x e
 generalize nmN e=E at *
 refine aG (Γ:=Γ) (fn:=Tryz.f129) rfl rfl rfl rfl ?_
 refine gB ?_
 refine Call.pure hS rfl fc ?_
 rintro _ rfl
 refine gD ?_
 refine aY.i (σ:=Nat) (λk=>k<=256)
  (λk=>([(2,.ptr 2 0 none),(3,.ptr 3 0 none),(4,.ptr 4 0 none),(5,.ptr 5 0 none),(6,.i .i64 (255-(k:Int)))],
   [(2,.mem true 0 [(16,.ai (nmF x))]),(3,.mem true 0 [(16,.ai E)]),(4,.mem true 0 [(16,.ai (replicate 16 0))]),(5,.mem true 0 [(16,.ai (nmF (pw x (e/2^(256-k)))))])])) (λk=>256-k) 0 (zero_le _) ?_ ?_
 ·have z:nmF (pw x (e/2^(256-0)))=nmF 1:=by rw[hz];rfl
  refine Le.i [] rfl fc rfl fc rfl
 rintro k hk
 have hk:k<=256:=hk
 refine zB.i ?_ ?_<;>intro hc
 ·have hc:255-(k:Int)≥0:=hc
  obtain⟨i,hi⟩:∃i,i=255-k:=⟨_,rfl⟩
  have e1:256-k=i+1:=by omega
  have e2:256-(k+1)=i:=by omega
  have e3:(255-(k:Int))=i:=by omega
  have hb:=hbit i (by omega)
  obtain⟨hb0,hb1⟩:=hble i (by omega)
  have ht:=htop i
  rw[e1]
  have ht2:nmF (pw x (e/2^(256-(k+1))))=nmF (pw x (e/2^i)):=by rw[e2]
  generalize pw x (e/2^(i+1))=y at *
  have ly:=hl y
  have ly2:=hl (y*y)
  have lx:=hl x
  have ly3:=hl (y*y*x)
  have e4:(UInt64.ofInt ((255-(k:Int))%16)).toNat=i%16:=by
   rw[e3,show((i:Int)%16)=((i%16:Nat):Int) by omega];exact aFT _ (by omega)
  have e5:((255-(k:Int))/16).toNat=i/16:=by omega
  refine gB ?_
  refine Call.pure (hM y y) rfl fc ?_
  rintro _ rfl
  repeat(refine fg.i (by repeat' (first|(show zA _;first|exact trivial|refine zA.app ?_ ?_|refine zA.zd ?_ ?_|refine zA.cons ?_ ?_)|with_reducible rfl|with_reducible assumption|omega |(simp only[Nat.zero_add,zIn,e4,e5,rng,Ix.val,zQ,addI,szs]<;>omega)|(simp only[Nat.zero_add,zIn,e4,e5,rng,Ix.val,zIn,zme,zQ,addI,Option.getD_none,Option.getD_some,zlT,zlD,zlA,length_set,List.length_replicate,szs, *]<;>omega)|(simp only[Ix.val];with_reducible assumption)|exact UInt8.toNat_lt _|(apply Eq.trans;(with_reducible assumption);exact rfl)|exact rfl|exactλ_ _=>rfl)) ?_)
  refine zB.i ?_ ?_<;>intro hp
  ·have hp:(((E.getD (fL 0 ((255-(k:Int))/16).toNat) 0/2^(UInt64.ofInt ((255-(k:Int))%16)).toNat).toNat&&&1:Nat):Int)=1:=hp
   rw[zQ,Nat.zero_add,e4,e5,hb]at hp
   rw[if_pos (by omega)]at ht
   rw[ht]at ht2
   refine gB ?_
   refine Call.pure (hM (y*y) x) rfl fc ?_
   rintro _ rfl
   refine gD ?_
   refine⟨k+1,by omega,by omega,Le.i [] rfl fc rfl fc rfl⟩
  have hp:¬(((E.getD (fL 0 ((255-(k:Int))/16).toNat) 0/2^(UInt64.ofInt ((255-(k:Int))%16)).toNat).toNat&&&1:Nat):Int)=1:=hp
  rw[zQ,Nat.zero_add,e4,e5,hb]at hp
  rw[if_neg (by omega)]at ht
  rw[ht]at ht2
  refine gB ?_
  refine⟨k+1,by omega,by omega,Le.i [] rfl fc rfl fc rfl⟩
 obtain rfl:k=256:=by have hc:¬255-(k:Int)≥0:=hc;omega
 have z:pw x (e/2^(256-256))=pw x e:=by rw[Nat.sub_self,Nat.pow_zero,Nat.div_one]
 rw[z]
 have lr:=hl (pw x e)
 generalize nmF (pw x e)=R at *
 refine gB ?_
 refine Ret.i (.ai R) [] [] rfl fc rfl rfl fc rfl fc rfl
theorem aLZ:Sx.Fn Γ.P 130 [.ai prD,.ai ((2:Int)::replicate 15 0)] [] (λv _=>v= .ai (nmN (aB-2))):=by
 have d2:Dig ((2:Int)::replicate 15 0):=(Dig.rep 16).set (i:=0) (x:=2) (by decide) (by decide)
 have h:=aL4 prD ((2:Int)::replicate 15 0) jy d2 rfl rfl
 obtain ⟨m1,m2,m3⟩:=oE jy d2 rfl (by decide +kernel)
 have e:(sbS prD ((2:Int) :: replicate 15 0) 16).1 = nmN (aB - 2):=jQ m1 m2 (by rw [m3];decide +kernel)
 rw[e]at h
 exact h
theorem aL0:Sx.Fn Γ.P 130 [.ai prD,.ai ((1:Int)::replicate 15 0)] [] (λv _=>v= .ai (nmN (aB-1))):=by
 have d2:Dig ((1:Int)::replicate 15 0):=(Dig.rep 16).set (i:=0) (x:=1) (by decide) (by decide)
 have h:=aL4 prD ((1:Int)::replicate 15 0) jy d2 rfl rfl
 obtain ⟨m1,m2,m3⟩:=oE jy d2 rfl (by decide +kernel)
 have e:(sbS prD ((1:Int) :: replicate 15 0) 16).1 = nmN (aB - 1):=jQ m1 m2 (by rw [m3];decide +kernel)
 rw[e]at h
 exact h
theorem aL7 (x:F):Sx.Fn Γ.P 106 [.ai (nmF x)] [] (λv _=>v= .ai (nmF (inv x))):=by
 have hP:=aHL
 have hM:=aLZ
 have hW:=aL5 x (aB-2) (by decide)
 rw[<-aG3]at hW
 have lx:=aC x
 have lr:=aC (inv x)
 have lp:prD.length=16:=rfl
 have le:=aR (aB-2)
 generalize nmN (aB-2)=E at *
 generalize prD=prime at *
 generalize nmF (inv x)=R at *
 generalize nmF x=a at *
 refine aG (Γ:=Γ) (fn:=Tryz.f106) rfl rfl rfl rfl ?_
 refine gB ?_
 refine aH.i [[],[],[],[1,2],r_4,r_5] [0,2,1,3,4,5] (by kernel_rfl) ?_
 refine gD ?_
 refine Call.pure hP rfl fc ?_
 rintro _ rfl
 refine gD ?_
 refine Call.pure hM rfl fc ?_
 rintro _ rfl
 refine gD ?_
 refine Call.pure hW rfl fc ?_
 rintro _ rfl
 refine gD ?_
 refine Ret.i (.ai R) [] [] rfl fc rfl rfl fc rfl fc rfl
open Go Go.Sx Go.Cu
theorem aX5:(aB-1)/2<115792089237316195423570985008687907853269984665640564039457584007913129639936:=by decide
theorem aXG:(nmN (aB/2/2/2)).set 0 ((nmN (aB/2/2/2)).getD 0 0+1)=nmN ((aB+3)/8):=by
 rw [pZ,pZ];decide +kernel
theorem aXH:0<=(nmN (aB/2/2/2)).getD 0 0/\(nmN (aB/2/2/2)).getD 0 0<65536:=kB _ 0
theorem aNL (r:F):(nmF r).getD 0 0%2=1↔r.val%2=1:=by
 have h:(nmF r).getD 0 0=((r.val/65536^0%65536:Nat):Int):=pb _ (by omega)
 rw[h,Nat.pow_zero,Nat.div_one]
 omega
theorem aW6:(aB-1)/2/2=(aB-1)/4:=by decide
theorem rS (x r:F) (hs:mv x) (hr:r=qp x) (T:Tm) (M:Mm)
  (hle:Le [] [(2,.ptr 2 0 none),(6,.ptr 6 0 none)] [(2,.mem true 0 [(16,.ai (replicate 16 0))]),(6,.mem true 0 [(16,.ai (nmF r))])] T M):
  aSJ Γ [9] Tryz.f137 9 [] T M (λv _=>(mv x/\v= .tup [.ai (nmF (dn x)),.tt])\/(¬mv x/\v= .tup [.ai (replicate 16 0),.ff])):=by
 have lr:=aC r
 have hp:=aNL r
 have dr:=iG r 0
 have hN:=aL2 r
 have ln:=aC (0-r)
 have hE:dn x=if r.val%2=1 then 0-r else r:=by rw[hr];rfl
 generalize hN1:nmF (0-r)=N at *
 generalize hR1:nmF r=R at *
 refine Cut.i (σ:=Unit) (λ_=>True) (λ_=>([(2,.ptr 2 0 none),(6,.ptr 6 0 none)],[(2,.mem true 0 [(16,.ai (replicate 16 0))]),(6,.mem true 0 [(16,.ai R)])])) () trivial hle ?_
 rintro - -
 refine gB ?_
 refine zB.i ?_ ?_<;>intro h
 ·have h:R.getD 0 0%2=1:=h
  have h2:=hp.1 h
  rw[if_pos h2]at hE
  refine gB ?_
  refine Call.pure hN rfl fc ?_
  rintro _ rfl
  refine gD ?_
  refine Ret.i (.tup [.ai N,.tt]) [] [] rfl fc (Or.inl ⟨hs,by rw[hE,hN1]⟩) rfl fc rfl fc rfl
 have h:¬R.getD 0 0%2=1:=h
 have h2:¬r.val%2=1:=λe=>h (hp.2 e)
 rw[if_neg h2]at hE
 refine gB ?_
 refine Ret.i (.tup [.ai R,.tt]) [] [] rfl fc (Or.inl ⟨hs,by rw[hE,hR1]⟩) rfl fc rfl fc rfl
theorem aE0 (x:F) (hs:mv x) (T:Tm) (M:Mm)
  (hle:Le [] [(1,.ptr 1 0 none),(2,.ptr 2 0 none),(4,.ptr 4 0 none)] [(1,.mem true 0 [(16,.ai (nmF x))]),(2,.mem true 0 [(16,.ai (replicate 16 0))]),(4,.mem true 0 [(16,.ai (nmN (aB-1)))])] T M):
  aSJ Γ [4,9] Tryz.f137 4 [] T M (λv _=>(mv x/\v= .tup [.ai (nmF (dn x)),.tt])\/(¬mv x/\v= .tup [.ai (replicate 16 0),.ff])):=by
 have hP:=aHL
 rw[aND]at hP
 have h1:=aCF aB (by decide)
 have h2:=aCF (aB/2) (by decide)
 have h3:=aCF (aB/2/2) (by decide)
 have hW:=aL5 x ((aB+3)/8) (by decide)
 have g1:=aCF (aB-1) (by decide)
 have g2:=aCF ((aB-1)/2) (by decide)
 rw[aW6]at g2
 have hS:=qJ 2 (by omega)
 rw[aa6]at hS
 have hJ:=aL5 2 ((aB-1)/4) (by decide)
 have e0:pw x ((aB+3)/8)=r0 x:=rfl
 have e1:pw 2 ((aB-1)/4)=j0:=rfl
 rw[e0]at hW
 rw[e1]at hJ
 have hMr:=fV (r0 x) (r0 x)
 have hMj:=fV (r0 x) j0
 have k1:=aXG
 have k0:=aXH
 have l1:=aR aB
 have l2:=aR (aB/2)
 have l3:=aR (aB/2/2)
 have l4:=aR (aB/2/2/2)
 have l5:=aR ((aB+3)/8)
 have l6:=aR (aB-1)
 have l7:=aR ((aB-1)/2)
 have l8:=aR ((aB-1)/4)
 have lx:=aC x
 have lr:=aC (r0 x)
 have lrr:=aC (r0 x*r0 x)
 have lrj:=aC (r0 x*j0)
 have lj:=aC j0
 have l22:=aC 2
 generalize nmN aB=A1 at *
 generalize nmN (aB/2)=A2 at *
 generalize nmN (aB/2/2)=A3 at *
 generalize nmN (aB/2/2/2)=A4 at *
 generalize nmN ((aB+3)/8)=A5 at *
 generalize nmN (aB-1)=B1 at *
 generalize nmN ((aB-1)/2)=B2 at *
 generalize nmN ((aB-1)/4)=B3 at *
 refine Cut.i (σ:=Unit) (λ_=>True) (λ_=>([(1,.ptr 1 0 none),(2,.ptr 2 0 none),(4,.ptr 4 0 none)],[(1,.mem true 0 [(16,.ai (nmF x))]),(2,.mem true 0 [(16,.ai (replicate 16 0))]),(4,.mem true 0 [(16,.ai B1)])])) () trivial hle ?_
 rintro - -
 refine gB ?_
 refine Call.pure hP rfl fc ?_
 rintro _ rfl
 refine gD ?_
 refine Call.pure h1 rfl fc ?_
 rintro _ rfl
 refine gD ?_
 refine Call.pure h2 rfl fc ?_
 rintro _ rfl
 refine gD ?_
 refine Call.pure h3 rfl fc ?_
 rintro _ rfl
 refine gD ?_
 refine Call.pure hW rfl ?_ ?_
 ·repeat' first|exact trivial|refine zA.app ?_ ?_|refine zA.zd ?_ ?_|refine zA.cons ?_ ?_|exact fc|fail
  all_goals(rw[<-k1];rfl)
 rintro _ rfl
 refine gD ?_
 refine aH.i [[],[],[0,1],[],r_4] [0,1,3,2,4] (by kernel_rfl) ?_
 refine gD ?_
 refine Call.pure hMr rfl fc ?_
 rintro _ rfl
 refine gD ?_
 refine zB.i ?_ ?_<;>intro h
 ·have h:¬nmF (r0 x*r0 x)=nmF x:=h
  have h2:¬r0 x*r0 x=x:=λe=>h (by rw[e])
  refine aH.i [[],[],[],[1,2],[1,2,3],[1,2,3,4],r_6,r_7] [0,2,1,3,4,5,6,7] (by kernel_rfl) ?_
  refine gD ?_
  refine Call.pure hS rfl fc ?_
  rintro _ rfl
  refine gD ?_
  refine Call.pure g1 rfl fc ?_
  rintro _ rfl
  refine gD ?_
  refine Call.pure g2 rfl fc ?_
  rintro _ rfl
  refine gD ?_
  refine Call.pure hJ rfl fc ?_
  rintro _ rfl
  refine gD ?_
  refine Call.pure hMj rfl fc ?_
  rintro _ rfl
  refine gD ?_
  refine rS x (r0 x*j0) hs (by unfold qp;rw[if_neg h2]) _ _ (Le.i [] rfl fc rfl fc rfl)
 have h:¬¬nmF (r0 x*r0 x)=nmF x:=h
 have h2:r0 x*r0 x=x:=pc (Classical.not_not.1 h)
 refine gB ?_
 refine rS x (r0 x) hs (by unfold qp;rw[if_pos h2]) _ _ (Le.i [] rfl fc rfl fc rfl)
theorem aYL (x:F):Sx.Fn Γ.P 137 [.ai (nmF x)] [] (λv _=>(mv x/\v= .tup [.ai (nmF (dn x)),.tt])\/(¬mv x/\v= .tup [.ai (replicate 16 0),.ff])):=by
 have hP:=aHL
 have hM:=aL0
 have g1:=aCF (aB-1) (by decide)
 have hW:=aL5 x ((aB-1)/2) aX5
 have hS:=qJ 1 (by omega)
 rw[aV9]at hS
 have lp:prD.length=16:=rfl
 have l6:=aR (aB-1)
 have l7:=aR ((aB-1)/2)
 have lx:=aC x
 have lw:=aC (pw x ((aB-1)/2))
 have l1:=aC 1
 have mid:=aE0 x
 generalize prD=prime at *
 generalize nmN (aB-1)=B1 at *
 generalize nmN ((aB-1)/2)=B2 at *
 refine cV [4,9] (Γ:=Γ) (fn:=Tryz.f137) rfl rfl rfl rfl ?_
 refine gB ?_
 refine Call.pure hP rfl fc ?_
 rintro _ rfl
 refine gD ?_
 refine Call.pure hM rfl fc ?_
 rintro _ rfl
 refine gD ?_
 by_cases hx:nmF x=replicate 16 0
 ·have hs:mv x:=Or.inl (pc (by rw[hx,oC]))
  have hx:¬¬nmF x=replicate 16 0:=λh=>h hx
  refine aH.i [[],[],[0,1],[0,1,2],r_4,r_4,[0,1,2,3,5],r_7,r_8,r_9,ek] fe (by kernel_rfl) ?_
  repeat(first|refine gi ?_|refine sd ?_|(refine zB.i (λhn=>absurd hn hx) (λ_=>?_)))
  refine mid hs _ _ (Le.i [] rfl fc rfl fc rfl)
 have hx0:x≠0:=λe=>hx (by rw[e,oC])
 refine aH.i [[],[],[0,1],[0,1,2],r_4,r_4,[0,1,2,3,5],r_7,r_8,r_9,ek] fe (by kernel_rfl) ?_
 repeat(first|refine gi ?_|refine sd ?_|(refine zB.i (λ_=>?_) (λhn=>absurd hx hn)))
 refine Call.pure g1 rfl fc ?_
 rintro _ rfl
 repeat(first|refine gi ?_|refine sd ?_|(refine zB.i (λ_=>?_) (λhn=>absurd hx hn)))
 refine Call.pure hW rfl fc ?_
 rintro _ rfl
 repeat(first|refine gi ?_|refine sd ?_|(refine zB.i (λ_=>?_) (λhn=>absurd hx hn)))
 refine Call.pure hS rfl fc ?_
 rintro _ rfl
 repeat(first|refine gi ?_|refine sd ?_|(refine zB.i (λ_=>?_) (λhn=>absurd hx hn)))
 refine zB.i ?_ ?_<;>intro h
 ·have h1:¬nmF (pw x ((aB-1)/2))=nmF 1:=by
   intro e
   rcases h with⟨_,h⟩|⟨_,h⟩
   ·exact h e
   exact h
  have hs:¬mv x:=by
   rintro(h2|h2)
   ·exact hx0 h2
   exact h1 (by rw[h2])
  refine gB ?_
  refine Ret.i (.tup [.ai (replicate 16 0),.ff]) [] [] rfl fc (Or.inr ⟨hs,rfl⟩) rfl fc rfl fc rfl
 have h1:nmF (pw x ((aB-1)/2))=nmF 1:=by
  apply Classical.byContradiction
  intro e
  exact h (by first|exact e|exact Or.inl ⟨hx,e⟩)
 refine mid (Or.inr (pc h1)) _ _ (Le.i [] rfl fc rfl fc rfl)
end Go.Proofs.YtllmefnbacjjcaaGreat
