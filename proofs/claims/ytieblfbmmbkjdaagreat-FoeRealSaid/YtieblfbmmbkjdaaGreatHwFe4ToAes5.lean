/- Walks. -/
import Derived.Test.YtieblfbmmbkjdaaGreatHwCu7ToFe3
import Derived.Test.YtieblfbmmbkjdaaGreatHx7
import Derived.Test.YtieblfbmmbkjdaaGreatHx8
import Derived.Test.YtieblfbmmbkjdaaGreatHwTabToCu6
set_option linter.unusedSimpArgs false
set_option linter.unusedVariables false
set_option maxHeartbeats 4000000
open UInt8 (ofNat)
open List (replicate length_set)
open Nat (zero_le)
set_option maxRecDepth 100000
namespace Go.Proofs.YtieblfbmmbkjdaaGreat
open Go Go.Sx Go.Cu
theorem aaC (b:List UInt8) (hb:b.length=32):Sx.Fn Γ.P 46 [.a8 b] [] (λv _=>v= .agg [(5,.a64 (ofL b))]):=by
 refine aG (Γ:=Γ) (fn:=Tryz.f46) rfl rfl rfl rfl ?_
 refine gB ?_
 refine aY.i (σ:=Nat) (λi=>i<=32) (λi=>([(1,.ptr 1 0 none),(2,.ptr 2 0 none),(3,.ptr 3 0 none),(6,.a8 b),(7,.i .i64 i)],
  [(1,.mem true 0 [(32,.a8 b)]),(2,.mem true 0 [(5,.a64 (replicate 5 0))]),(3,.mem true 0 [(4,.a64 (Cu.owS b i))])])) (λi=>32-i) 0 (zero_le _) ?_ ?_
 ·refine Le.i [] rfl fc rfl fc rfl
 rintro i hi
 have hl:=Cu.owS_length b i
 have hn:Cu.owS b (i+1)=(Cu.owS b i).set (i/8) ((Cu.owS b i).getD (i/8) 0|||aQ (b.getD i 0).toUInt64 (i%8*8)):=rfl
 have hE:ofL b=ofW (Cu.owS b 32):=rfl
 refine zB.i ?_ ?_<;>intro hc
 ·have hc:(i:Int)<32:=hc
  have e0:((i:Int)/8).toNat=i/8:=by omega
  have e1:((i:Int)%8*8).toNat=i%8*8:=by omega
  obtain⟨X,hX⟩:∃x,Cu.owS b i=x:=⟨_,rfl⟩
  rw[hX]at hl hn⊢
  refine gB ?_
  refine aH.i [[],[0],[0,1],[0,1,2],[],[4],[],[6],[6,7],[4,5,6,7,8],ek,fe,kX] jO (by kernel_rfl) ?_
  repeat refine sdI ?_
  refine⟨i+1,by omega,by omega,Le.i [] rfl fcI rfl fcI rfl⟩
 obtain rfl:i=32:=by have hc:¬(i:Int)<32:=hc;omega
 obtain⟨X,hX⟩:∃x,Cu.owS b 32=x:=⟨_,rfl⟩
 rw[hX]at hl hE⊢
 obtain⟨Y,hY⟩:∃y,ofW X=y:=⟨_,rfl⟩
 rw[hE,hY]
 refine gB ?_
 refine Ret.i (.agg [(5,.a64 Y)]) [] [] rfl ?_ rfl rfl ?_ rfl ?_ rfl
 ·exact fc
 ·repeat' first|exact trivial|refine zA.app ?_ ?_|refine zA.zd ?_ ?_|refine zA.cons ?_ ?_|exact fc|fail
  all_goals(rw[<-hY];rfl)
 exact fc
theorem abN (l:List UInt64) (hl:l.length=5):Sx.Fn Γ.P 47 [.agg [(5,.a64 l)]] [] (λv _=>v= .a8 (aWL l)):=by
 have hC1:=acL l hl
 have hl1:=(jC l).1
 have hC2:=acL (ci l) hl1
 have hl2:=(jC (ci l)).1
 have hE:aWL l=Cu.byS (wdL (nmL (ci (ci l)))) 32:=rfl
 rw[hE]
 have hN:nmL (ci (ci l))=(Cu.nmS (frL (ci (ci l))) 4).set 4 ((Cu.nmS (frL (ci (ci l))) 4).getD 4 0&&&UInt64.ofNat 2251799813685247):=rfl
 have hF:frL (ci (ci l))=(ci (ci l)).set 0 ((ci (ci l)).getD 0 0+UInt64.ofNat 19*qS (ci (ci l)) 5):=rfl
 generalize nmL (ci (ci l))=W at hN⊢
 generalize frL (ci (ci l))=B at hN hF
 generalize ci (ci l)=A at hC2 hl2 hF
 generalize ci l=A1 at hC1 hC2 hl1
 refine aG (Γ:=Γ) (fn:=Tryz.f47) rfl rfl rfl rfl ?_
 refine gB ?_
 refine Call.pure hC1 rfl fc ?_
 rintro _ rfl
 refine gB ?_
 refine Call.pure hC2 rfl fc ?_
 rintro _ rfl
 refine gB ?_
 refine aY.i (σ:=Nat) (λi=>i<=5) (λi=>([(1,.ptr 1 0 none),(2,.ptr 2 0 none),(3,.u64 (qS A i)),(15,.a64 A),(16,.i .i64 i)],
  [(1,.mem true 0 [(5,.a64 A)]),(2,.mem true 0 [(32,.a8 (replicate 32 0))])])) (λi=>5-i) 0 (zero_le _) ?_ ?_
 ·refine Le.i [] rfl fc rfl fc rfl
 rintro i hi
 refine zB.i ?_ ?_<;>intro hc
 ·have hc:(i:Int)<5:=hc
  have hn:qS A (i+1)=aF (A.getD i 0+qS A i) 51:=rfl
  refine gC ?_
  refine⟨i+1,by omega,by omega,Le.i [] rfl fcn rfl fcn rfl⟩
 obtain rfl:i=5:=by have hc:¬(i:Int)<5:=hc;omega
 have hlB:B.length=5:=by rw[hF,length_set];exact hl2
 generalize qS A 5=Q at hF
 refine gB ?_
 refine aY.i (σ:=Nat) (λi=>i<=4) (λi=>([(1,.ptr 1 0 none),(2,.ptr 2 0 none),(32,.i .i64 i)],
  [(1,.mem true 0 [(5,.a64 (Cu.nmS B i))]),(2,.mem true 0 [(32,.a8 (replicate 32 0))])])) (λi=>4-i) 0 (zero_le _) ?_ ?_
 ·have e:Cu.nmS B 0=A.set 0 (A.getD 0 0+UInt64.ofNat 19*Q):=hF
  refine Le.i [] rfl fc rfl fc rfl
 rintro i hi
 have hln:=rh B hlB i
 refine zB.i ?_ ?_<;>intro hc
 ·have hc:(i:Int)<4:=hc
  have e0:((i:Int)+1).toNat=i+1:=by omega
  have hn:Cu.nmS B (i+1)=((Cu.nmS B i).set (i+1) ((Cu.nmS B i).getD (i+1) 0+aF ((Cu.nmS B i).getD i 0) 51)).set i (((Cu.nmS B i).set (i+1) ((Cu.nmS B i).getD (i+1) 0+aF ((Cu.nmS B i).getD i 0) 51)).getD i 0&&&UInt64.ofNat 2251799813685247):=rfl
  obtain⟨X,hX⟩:∃x,Cu.nmS B i=x:=⟨_,rfl⟩
  rw[hX]at hln hn⊢
  refine gB ?_
  refine aH.i [[],[0],[],[0,1,2],r_4,[],[],[5,6],[5,6,7],[5,6,7,8],ek,[],kX,jO] oB (by kernel_rfl) ?_
  repeat refine sdH ?_
  refine⟨i+1,by omega,by omega,Le.i [] rfl fcH rfl fcH rfl⟩
 obtain rfl:i=4:=by have hc:¬(i:Int)<4:=hc;omega
 obtain⟨X,hX⟩:∃x,Cu.nmS B 4=x:=⟨_,rfl⟩
 rw[hX]at hln hN⊢
 have hlW:W.length=5:=by rw[hN,length_set];exact hln
 have hw:wdL W=[W.getD 0 0|||aQ (W.getD 1 0) 51,aF (W.getD 1 0) 13|||aQ (W.getD 2 0) 38,aF (W.getD 2 0) 26|||aQ (W.getD 3 0) 25,aF (W.getD 3 0) 39|||aQ (W.getD 4 0) 12]:=rfl
 obtain⟨T,hT⟩:∃t,wdL W=t:=⟨_,rfl⟩
 have hlT:T.length=4:=by rw[<-hT];rfl
 rw[hT]at hw⊢
 refine gB ?_
 refine aY.i (σ:=Nat) (λi=>i<=32) (λi=>([(2,.ptr 2 0 none),(8,.ptr 8 0 none),(9,.ptr 9 0 none),(92,.i .i64 i)],
  [(2,.mem true 0 [(32,.a8 (replicate 32 0))]),(8,.mem true 0 [(4,.a64 T)]),(9,.mem true 0 [(32,.a8 (Cu.byS T i))])])) (λi=>32-i) 0 (zero_le _) ?_ ?_
 ·have e:Cu.byS T 0=replicate 32 0:=rfl
  refine Le.i [] rfl ?_ rfl ?_ rfl
  ·exact fc
  repeat' first|exact trivial|refine zA.app ?_ ?_|refine zA.zd ?_ ?_|refine zA.cons ?_ ?_|exact fc|fail
  all_goals(rw[hw,hN];rfl)
 rintro i hi
 have hlb:=Cu.byS_length T i
 refine zB.i ?_ ?_<;>intro hc
 ·have hc:(i:Int)<32:=hc
  have e0:((i:Int)/8).toNat=i/8:=by omega
  have e1:((i:Int)%8*8).toNat=i%8*8:=by omega
  have hn:Cu.byS T (i+1)=(Cu.byS T i).set i (aF (T.getD (i/8) 0) (i%8*8)).toUInt8:=rfl
  obtain⟨X,hX⟩:∃x,Cu.byS T i=x:=⟨_,rfl⟩
  rw[hX]at hlb hn⊢
  repeat refine sdI ?_
  refine⟨i+1,by omega,by omega,Le.i [] rfl fcI rfl fcI rfl⟩
 obtain rfl:i=32:=by have hc:¬(i:Int)<32:=hc;omega
 obtain⟨X,hX⟩:∃x,Cu.byS T 32=x:=⟨_,rfl⟩
 rw[hX]at hlb⊢
 refine gB ?_
 refine Ret.i (.a8 X) [] [] rfl fc rfl rfl fc rfl fc rfl
end Go.Proofs.YtieblfbmmbkjdaaGreat
namespace Go.Cu
open Go Go.Sx
def r0 (a:F):F:=pw a ((aB+3)/8)
def j0:F:=pw 2 ((aB-1)/4)
theorem aX2:j0*j0=0-1:=by
 have e:j0=iF\/j0=0-iF:=by
  have h:j0.val=aKZ aB 2 256 ((aB-1)/4):=aFE 2 _ (by decide)
  have h2:aKZ aB 2 256 ((aB - 1) / 4) = iF.val \/ aKZ aB 2 256 ((aB - 1) / 4) = (0 - iF).val:=by decide +kernel
  rcases h2 with h2|h2
  ·exact Or.inl (Fin.ext (h.trans h2))
  exact Or.inr (Fin.ext (h.trans h2))
 have hi:=aX4
 rcases e with e|e<;>rw[e]
 ·exact hi
 exact gr
def mv (a:F):Prop:=a=0\/pw a ((aB-1)/2)=1
instance (a:F):Decidable (mv a):=by unfold mv;exact inferInstance
def qp (a:F):F:=if r0 a*r0 a=a then r0 a else r0 a*j0
def aCI (r:F):F:=if r.val%2=1 then 0-r else r
def dn (a:F):F:=aCI (qp a)
theorem aFZ {a:F} (h:a≠0):(0-a).val=aB-a.val:=by
 have hp:0<a.val:=Nat.pos_of_ne_zero λh0=>h (Fin.ext h0)
 show(aB-a.val+0)%aB=_
 rw[Nat.add_zero,Nat.mod_eq_of_lt (by have:=a.isLt;omega)]
theorem aFU {a:F} (h:a≠0):(0-a).val%2=1↔a.val%2=0:=by
 have h1:=aFZ h
 have h2:=a.isLt
 rw[h1]
 have:aB=57896044618658097711785492504343953926634992332820282019728792003956564819949:=rfl
 omega
theorem aCH (r:F):(aCI r).val%2=0:=by
 unfold aCI
 split
 ·rename_i h
  have hr:r≠0:=by rintro rfl;exact absurd h (by decide)
  have:=aFU hr
  omega
 omega
theorem aS4 (a:F):r0 a*r0 a=a*pw a ((aB-1)/4):=by
 unfold r0
 rw[<-rZ,show(aB+3)/8+(aB+3)/8=(aB-1)/4+1 by decide,aFD]
 exact aOB _ _
theorem aWW {x:F} (h:x*x=1):x=1\/x=0-1:=by
 have h1:(x-1)*(x+1)=0:=gr
 rcases dI h1 with h2|h2
 ·exact Or.inl (gr)
 exact Or.inr (gr)
theorem aNM {a:F} (h:a≠0):a≠0-a:=by
 intro e
 have h1:2*a=0:=gr
 exact(dI h1).elim nR h
theorem aFB:r0 0=0:=by unfold r0;exact aPT (by decide)
theorem aS5 {a:F} (h:mv a):r0 a*r0 a=a\/r0 a*r0 a=0-a:=by
 rcases h with rfl|h
 ·rw[aFB];exact Or.inl (gr)
 rw[aS4]
 have e:pw a ((aB-1)/4)*pw a ((aB-1)/4)=1:=by
  rw[<-rZ,show(aB-1)/4+(aB-1)/4=(aB-1)/2 by decide];exact h
 rcases aWW e with h1|h1<;>rw[h1]
 ·exact Or.inl (gr)
 exact Or.inr (gr)
theorem aPB {a s:F} (h:s*s=a):mv a:=by
 by_cases hs:s=0
 ·exact Or.inl (by rw[<-h,hs];exact gr)
 exact Or.inr (by rw[<-h];exact aEI hs)
def nu (a:F):F:=if r0 a*r0 a=0-a then r0 a*j0 else r0 a
theorem sa (a:F):nu a*nu a=a↔mv a:=by
 refine⟨λh=>aPB h,λh=>?_⟩
 unfold nu
 have hj:=aX2
 split
 ·exact gr
 rename_i h1
 exact(aS5 h).resolve_right h1
theorem y6 {a:F} (h:mv a):nu a=qp a:=by
 unfold nu qp
 by_cases ha:a=0
 ·subst ha
  rw[aFB]
  split
  ·split <;>exact gr
  split <;>exact gr
 rcases aS5 h with h1|h1
 ·rw[if_neg (by rw[h1];exact aNM ha),if_pos h1]
 rw[if_pos h1,if_neg (by rw[h1];exactλe=>aNM ha e.symm)]
theorem aKG {a:F} (h:mv a):qp a*qp a=a:=by rw[<-y6 h];exact(sa a).2 h
theorem y7 {a:F} (h:mv a):dn a*dn a=a:=by
 have h1:=aKG h
 unfold dn aCI
 split
 ·exact gr
 exact h1
theorem aD4 {x y:F} (h:x*x=y*y):x=y\/x=0-y:=by
 have h1:(x-y)*(x+y)=0:=gr
 rcases dI h1 with h2|h2
 ·exact Or.inl (gr)
 exact Or.inr (gr)
theorem aKH (x:F):dn (x*x)=if x.val%2=1 then 0-x else x:=by
 have h:=y7 (aPB (s:=x) rfl)
 have he:=aCH (qp (x*x))
 have he:(dn (x*x)).val%2=0:=he
 rcases aD4 h with h1|h1
 ·rw[h1]at he⊢
  rw[if_neg (by omega)]
 by_cases hx:x=0
 ·subst hx
  rw [h1];decide +kernel
 have:=aFU hx
 rw[h1]at he⊢
 rw[if_pos (by omega)]
def kF (b:List UInt8):List UInt8:=b.set 31 (b.getD 31 0&&&ofNat 127)
theorem pl (b:List UInt8):(kF b).length=b.length:=by unfold kF;rw[length_set]
def xxF (y:F):F:=(y*y-1)*inv (dF*(y*y)+1)
def tk (b:List UInt8):Prop:=128<=(b.getD 31 0).toNat
instance (b:List UInt8):Decidable (tk b):=by unfold tk;exact inferInstance
def okD (b:List UInt8):Prop:=leB (ofF (kF b))=kF b/\mv (xxF (ofF (kF b)))/\¬(tk b/\dn (xxF (ofF (kF b)))=0)
instance (b:List UInt8):Decidable (okD b):=by unfold okD;exact inferInstance
def aIA (b:List UInt8):F:=if tk b then 0-dn (xxF (ofF (kF b)))else dn (xxF (ofF (kF b)))
def nF (b:List UInt8):F:=ofF (kF b)
theorem aOG (y:F):dF*(y*y)+1≠0:=by
 intro h
 have h1:iF*iF=dF*(y*y):=by have:=aX4;exact gr
 have h2:=aP3 h1
 rw[h2]at h
 exact absurd h (by decide +kernel)
theorem aSK {x y:F}:On x y↔x*x=xxF y:=by
 have hn:=iv (aOG y)
 unfold On xxF
 constructor
 ·intro h
  have:x*x*(dF*(y*y)+1)=y*y-1:=gr
  refine x6 (aOG y) ?_
  rw[this];exact gr
 intro h
 have:x*x*(dF*(y*y)+1)=y*y-1:=by rw[h];exact gr
 exact gr
theorem aVD {b:List UInt8} (h:okD b):On (aIA b) (nF b):=by
 rw[aSK]
 have h1:=y7 h.2.1
 unfold aIA nF
 split
 ·exact gr
 exact h1
def vg (b:List UInt8):Pt:=if h:okD b then⟨aIA b,nF b,aVD h⟩else .O
theorem aAN {b:List UInt8} (h:okD b):(vg b).x=aIA b:=by unfold vg;rw[dif_pos h]
theorem aAM {b:List UInt8} (h:okD b):(vg b).y=nF b:=by unfold vg;rw[dif_pos h]
def rD (P:Pt):List UInt8:=if P.x.val%2=1 then(leB P.y).set 31 ((leB P.y).getD 31 0+ofNat 128)else leB P.y
theorem kQ (P:Pt):(rD P).length=32:=by
 unfold rD
 split
 ·rw[length_set];exact aj _
 exact aj _
theorem aNX (y:F):((leB y).getD 31 0).toNat<128:=by
 have h:=uy (leB y) 31
 rw[ux]at h
 have:=y.isLt
 rw[<-h]
 have h2:aB=57896044618658097711785492504343953926634992332820282019728792003956564819949:=rfl
 have h3:(256:Nat)^31=452312848583266388373324160190187140051835877600158453279131187530910662656:=by decide
 rw[h3]
 omega
theorem vu:∀x:UInt8,x.toNat<128->x&&&ofNat 127=x:=by
 intro x hx
 have:∀ y:Fin 256,y.val < 128->ofNat y.val &&& ofNat 127 = ofNat y.val:=by decide +kernel
 have h:=this ⟨x.toNat,x.toNat_lt⟩ hx
 rw[UInt8.ofNat_toNat]at h;exact h
theorem aC6:∀x:UInt8,x.toNat<128->(x+ofNat 128)&&&ofNat 127=x:=by
 intro x hx
 have:∀ y:Fin 256,y.val < 128->(ofNat y.val + ofNat 128) &&& ofNat 127 = ofNat y.val:=by decide +kernel
 have h:=this ⟨x.toNat,x.toNat_lt⟩ hx
 rw[UInt8.ofNat_toNat]at h;exact h
theorem sQ {l:List UInt8} {i:Nat} (h:i<l.length):l.set i (l.getD i 0)=l:=by
 apply List.ext_getElem (by rw[length_set])
 intro j h1 h2
 rw[List.getElem_set]
 split
 ·rename_i e
  subst e
  rw[List.getD_eq_getElem?_getD,List.getElem?_eq_getElem h];rfl
 rfl
theorem aK3 (P:Pt):kF (rD P)=leB P.y/\(tk (rD P)↔P.x.val%2=1):=by
 have hs:=aNX P.y
 have hl:=aj P.y
 unfold kF rD tk
 split
 ·rename_i h
  have g:((leB P.y).set 31 ((leB P.y).getD 31 0+ofNat 128)).getD 31 0=(leB P.y).getD 31 0+ofNat 128:=by
   rw[List.getD_eq_getElem?_getD,List.getElem?_set_self (by omega)];rfl
  rw[g,List.set_set,aC6 _ hs,sQ (by omega)]
  refine⟨rfl,λ_=>h,λ_=>?_⟩
  rw[UInt8.toNat_add,show(ofNat 128).toNat=128 from rfl];omega
 rename_i h
 rw[vu _ hs,sQ (by omega)]
 refine⟨rfl,λh2=>by omega,λh2=>absurd h2 h⟩
theorem yA (P:Pt):okD (rD P)/\vg (rD P)=P:=by
 obtain⟨h1,h2⟩:=aK3 P
 have hy:ofF (kF (rD P))=P.y:=by rw[h1,aP1]
 have hx:xxF (ofF (kF (rD P)))=P.x*P.x:=by rw[hy];exact(aSK.1 P.on).symm
 have hr:=aKH P.x
 have ok:okD (rD P):=by
  refine⟨by rw[hy,h1],by rw[hx];exact aPB rfl,?_⟩
  rw[hx,hr,h2]
  rintro⟨h3,h4⟩
  rw[if_pos h3]at h4
  have:P.x=0:=gr
  rw[this]at h3
  exact absurd h3 (by decide)
 refine⟨ok,Pt.ext' ?_ ?_⟩
 ·rw[aAN ok]
  unfold aIA
  rw[hx,hr]
  by_cases h3:P.x.val%2=1
  ·rw[if_pos (h2.2 h3),if_pos h3];exact gr
  rw[if_neg (λh=>h3 (h2.1 h)),if_neg h3]
 rw[aAM ok];exact hy
def x9:List UInt8:=ofNat 88::replicate 31 (ofNat 102)
theorem yP:rD basP = x9:=by decide +kernel
theorem aOO:okD x9:=by rw[<-yP];exact(yA basP).1
theorem aIV:vg x9=basP:=by rw[<-yP];exact(yA basP).2
end Go.Cu
namespace Go.Proofs.YtieblfbmmbkjdaaGreat
open Go Go.Sx Go.Cu
theorem xl {x y:F} (h:leB x=leB y):x=y:=by
 have:=ux x
 rw[h,ux y]at this
 exact Fin.ext this.symm
theorem zK (x:F):(leB x).getD 0 0&&&ofNat 1=ofNat 1↔x.val%2=1:=by
 have h:=uy (leB x) 0
 rw[ux,Nat.pow_zero,Nat.div_one]at h
 have e:((leB x).getD 0 0&&&ofNat 1).toNat=x.val%2:=by
  rw[UInt8.toNat_and,show(ofNat 1).toNat=2^1-1 from rfl,Nat.and_two_pow_sub_one_eq_mod,<-h]
  omega
 constructor
 ·intro h1;rw[h1]at e;exact e.symm
 intro h1;exact UInt8.toNat_inj.1 (by rw[e,h1];rfl)
def rk (a:List UInt64):List UInt64:=tj (replicate 5 0) a
theorem iq (a:List UInt64):Lb (rk a):=dL _ _
theorem pf {a:List UInt64} (h:Lb a):fv (rk a)=0-fv a:=by unfold rk;rw[ic wM h,wO]
def aM0:List UInt64:=[UInt64.ofNat 2,0,0,0,0]
theorem aD5:Lb aM0:=⟨rfl,by decide,by decide,by decide,by decide,by decide⟩
theorem aO4:fv aM0 = 2:=by decide +kernel
theorem aY1:exN 252 2 252 = (aB + 3) / 8:=by decide +kernel
theorem aY2:exN 253 5 253 = (aB - 1) / 4:=by decide +kernel
theorem aS6 {a:List UInt64} (h:Lb a):fv (pwS a 252 2 252)=r0 (fv a):=by rw[zJ h,aY1];rfl
theorem aUA:fv (pwS aM0 253 5 253)=j0:=by rw[zJ aD5,aY2,aO4];rfl
theorem fB (l:List UInt64) (hl:l.length=5):Sx.Fn Γ.P 47 [.agg [(5,.a64 l)]] [] (λv _=>v= .a8 (leB (fv l))):=by
 have h:=abN l hl
 rw[aRS]at h
 exact h
theorem aaB (a:List UInt64) (ha:a.length=5):Sx.Fn Γ.P 55 [.agg [(5,.a64 a)]] [] (λv _=>v= .agg [(5,.a64 (rk a))]):=by
 have hS:=ac2 (replicate 5 0) a rfl ha
 have e:rk a=tj (replicate 5 0) a:=by unfold rk;rfl
 have hl:=(iq a).1
 rw[<-e]at hS
 generalize rk a=X at hS hl
 refine aG (Γ:=Γ) (fn:=Tryz.f55) rfl rfl rfl rfl ?_
 refine gB ?_
 refine Call.pure hS rfl fc ?_
 rintro _ rfl
 refine gD ?_
 refine Ret.i (.agg [(5,.a64 X)]) [] [] rfl fc rfl rfl fc rfl fc rfl
def aPN (a:List UInt64) (v:SV):Prop:=(mv (fv a)/\∃l,Lb l/\fv l=dn (fv a)/\v= .tup [.agg [(5,.a64 l)],.tt])\/(¬mv (fv a)/\v= .tup [.agg [(5,.a64 (replicate 5 0))],.ff])
theorem uT (a:List UInt64) (ha:Lb a) (R:List UInt64) (bR:Lb R) (vR:fv R=nu (fv a)) (T:Tm) (M:Mm)
  (hle:Le [] [(1,.ptr 1 0 none),(2,.ptr 2 0 none),(4,.ptr 4 0 none),(5,.ptr 5 0 none)]
   [(1,.mem true 0 [(5,.a64 a)]),(2,.mem true 0 [(5,.a64 (replicate 5 0))]),(4,.mem true 0 [(5,.a64 R)]),(5,.mem true 0 [(32,.a8 (leB (fv (cd R R))))])] T M):
  aSJ Γ [6] Tryz.f54 6 [] T M (λv _=>aPN a v):=by
 have hla:=ha.1
 have hAB:=fB a hla
 have hbl:=aj
 have lR:=bR.1
 have hRB:=fB R lR
 have hN:=aaB R lR
 have bN:=iq R
 have vN:=pf bR
 have lN:=bN.1
 have vRR:fv (cd R R)=nu (fv a)*nu (fv a):=by rw[ak bR bR,vR]
 generalize rk R=N at *
 refine Cut.i (σ:=Unit) (λ_=>True) (λ_=>([(1,.ptr 1 0 none),(2,.ptr 2 0 none),(4,.ptr 4 0 none),(5,.ptr 5 0 none)],
   [(1,.mem true 0 [(5,.a64 a)]),(2,.mem true 0 [(5,.a64 (replicate 5 0))]),(4,.mem true 0 [(5,.a64 R)]),(5,.mem true 0 [(32,.a8 (leB (fv (cd R R))))])])) () trivial hle ?_
 rintro - -
 refine aH.i [[],[],[1],[0,1,2]] r_4 (by kernel_rfl) ?_
 refine gD ?_
 refine Call.pure hAB rfl fc ?_
 rintro _ rfl
 refine gD ?_
 refine zB.i ?_ ?_<;>intro h
 ·have h:¬leB (fv (cd R R))=leB (fv a):=h
  have h1:¬mv (fv a):=λhs=>h (by rw[vRR,(sa _).2 hs])
  refine gB ?_
  refine Ret.i (.tup [.agg [(5,.a64 (replicate 5 0))],.ff]) [] [] rfl fc (Or.inr ⟨h1,rfl⟩) rfl fc rfl fc rfl
 have h:¬¬leB (fv (cd R R))=leB (fv a):=h
 have h1:mv (fv a):=(sa _).1 (by rw[<-vRR];exact xl (Classical.not_not.1 h))
 have vT:fv R=qp (fv a):=by rw[vR,y6 h1]
 refine gB ?_
 refine Call.pure hRB rfl fc ?_
 rintro _ rfl
 refine gD ?_
 refine zB.i ?_ ?_<;>intro h2
 ·have h2:(leB (fv R)).getD 0 0&&&ofNat 1=ofNat 1:=h2
  have h3:=(zK _).1 h2
  refine gB ?_
  refine Call.pure hN rfl fc ?_
  rintro _ rfl
  refine gD ?_
  refine Ret.i (.tup [.agg [(5,.a64 N)],.tt]) [] [] rfl ?_ (Or.inl ⟨h1,N,bN,?_,rfl⟩) rfl ?_ rfl ?_ rfl
  ·exact fc
  ·rw[vN,vT];unfold dn aCI;rw[<-vT,if_pos h3]
  ·exact fc
  exact fc
 have h2:¬(leB (fv R)).getD 0 0&&&ofNat 1=ofNat 1:=h2
 have h3:¬(fv R).val%2=1:=λe=>h2 ((zK _).2 e)
 refine gB ?_
 refine Ret.i (.tup [.agg [(5,.a64 R)],.tt]) [] [] rfl ?_ (Or.inl ⟨h1,R,bR,?_,rfl⟩) rfl ?_ rfl ?_ rfl
 ·exact fc
 ·unfold dn aCI;rw[<-vT,if_neg h3]
 ·exact fc
 exact fc
theorem abK (a:List UInt64) (ha:Lb a):Sx.Fn Γ.P 54 [.agg [(5,.a64 a)]] []
  (λv _=>aPN a v):=by
 have hla:=ha.1
 have hP:=aZ6 a 252 2 hla (by omega) (by omega) (by omega)
 have hJ:=aZ6 aM0 253 5 aD5.1 (by omega) (by omega) (by omega)
 have hX:=aS6 ha
 have bX:=ui a 252 2 252
 have bJ:=ui aM0 253 5 253
 have vJ:=aUA
 have hN:=aaB a hla
 have bN:=iq a
 have vN:=pf ha
 have lN:=bN.1
 have hNB:=fB (rk a) lN
 rw[vN]at hNB
 have hAB:=fB a hla
 have hM:=λ(x y:List UInt64) (hx:x.length=5) (hy:y.length=5)=>acN x y hx hy
 have hB:=λ(x:List UInt64) (hx:x.length=5)=>fB x hx
 have hml:=λx y=>(aP x y).1
 have hbl:=aj
 unfold aM0 at hJ
 change Sx.Fn _ _ _ _ (λv _=>v= .agg [(5,.a64 (pwS aM0 253 5 253))])at hJ
 generalize pwS aM0 253 5 253=J at hJ bJ vJ
 generalize pwS a 252 2 252=X at hP hX bX
 generalize rk a=N at *
 have lX:=bX.1
 have lJ:=bJ.1
 refine cV [6] (Γ:=Γ) (fn:=Tryz.f54) rfl rfl rfl rfl ?_
 refine gB ?_
 refine Call.pure hP rfl fc ?_
 rintro _ rfl
 refine gD ?_
 refine Call.pure (hM X X lX lX) rfl fc ?_
 rintro _ rfl
 refine gD ?_
 refine Call.pure (hB (cd X X) (hml X X)) rfl fc ?_
 rintro _ rfl
 refine gD ?_
 refine aH.i [[],[],[1],[1,2],r_4] r_5 (by kernel_rfl) ?_
 refine gD ?_
 refine Call.pure hN rfl fc ?_
 rintro _ rfl
 refine gD ?_
 refine Call.pure hNB rfl fc ?_
 rintro _ rfl
 refine gD ?_
 have vXX:fv (cd X X)=r0 (fv a)*r0 (fv a):=by rw[ak bX bX,hX]
 refine zB.i ?_ ?_<;>intro h
 ·have h:leB (fv (cd X X))=leB (0-fv a):=h
  have h1:r0 (fv a)*r0 (fv a)=0-fv a:=by rw[<-vXX];exact xl h
  have bR:=aP X J
  have vR:fv (cd X J)=nu (fv a):=by rw[ak bX bJ,hX,vJ];unfold nu;rw[if_pos h1]
  refine aH.i [[],[],[1],[1,2],r_4,r_5] r_6 (by kernel_rfl) ?_
  refine gD ?_
  refine Call.pure hJ rfl fc ?_
  rintro _ rfl
  refine gD ?_
  refine Call.pure (hM X J lX lJ) rfl fc ?_
  rintro _ rfl
  refine gD ?_
  obtain⟨R,hR⟩:∃r,cd X J=r:=⟨_,rfl⟩
  rw[hR]at bR vR⊢
  have lR:=bR.1
  refine Call.pure (hM R R lR lR) rfl fc ?_
  rintro _ rfl
  refine gD ?_
  refine Call.pure (hB (cd R R) (hml R R)) rfl fc ?_
  rintro _ rfl
  refine gD ?_
  refine uT a ha R bR vR _ _ (Le.i [] rfl fc rfl fc rfl)
 have h:¬leB (fv (cd X X))=leB (0-fv a):=h
 have h1:¬r0 (fv a)*r0 (fv a)=0-fv a:=by rw[<-vXX];exactλe=>h (by rw[e])
 have vR:fv X=nu (fv a):=by rw[hX];unfold nu;rw[if_neg h1]
 refine gB ?_
 refine uT a ha X bX vR _ _ (Le.i [] rfl fc rfl fc rfl)
end Go.Proofs.YtieblfbmmbkjdaaGreat
namespace Go.Proofs.YtieblfbmmbkjdaaGreat
open Go Go.Sx Go.Cu
theorem wN (u:List UInt64) (s:LL):li u s=⟨cm s,aAF s,cd (wJ (rC s) (rS s)) (wJ (rC s) (rS s)),cd u (cd (tj (rC s) (rS s)) (tj (rC s) (rS s)))⟩:=by unfold li;rfl
theorem aWA (ax az bx bz u:List UInt64) (h1:ax.length=5) (h2:az.length=5) (h3:bx.length=5) (h4:bz.length=5) (hu:u.length=5):
  Sx.Fn Γ.P 94 [.agg [(5,.a64 ax),(5,.a64 az)],.agg [(5,.a64 bx),(5,.a64 bz)],.agg [(5,.a64 u)]] []
   (λv _=>v= .tup [.agg [(5,.a64 (li u ⟨ax,az,bx,bz⟩).ax),(5,.a64 (li u ⟨ax,az,bx,bz⟩).az)],.agg [(5,.a64 (li u ⟨ax,az,bx,bz⟩).bx),(5,.a64 (li u ⟨ax,az,bx,bz⟩).bz)]]):=by
 rw[wN]
 unfold aAF rC rS xy cm
 simp only
 have c1:=aYG ax az h1 h2
 have l1:=(ei ax az).1
 generalize wJ ax az=p at *
 have c2:=ac2 ax az h1 h2
 have l2:=(dL ax az).1
 generalize tj ax az=m at *
 have c3:=acN p p l1 l1
 have l3:=(aP p p).1
 generalize cd p p=pp at *
 have c4:=acN m m l2 l2
 have l4:=(aP m m).1
 generalize cd m m=mm at *
 have c5:=ac2 pp mm l3 l4
 have l5:=(dL pp mm).1
 generalize tj pp mm=e at *
 have c6:=ac2 bx bz h3 h4
 have l6:=(dL bx bz).1
 generalize tj bx bz=q1 at *
 have c7:=acN q1 p l6 l1
 have l7:=(aP q1 p).1
 generalize cd q1 p=da at *
 have c8:=aYG bx bz h3 h4
 have l8:=(ei bx bz).1
 generalize wJ bx bz=q2 at *
 have c9:=acN q2 m l8 l2
 have l9:=(aP q2 m).1
 generalize cd q2 m=cb at *
 have d1:=aYG da cb l7 l9
 have m1:=(ei da cb).1
 generalize wJ da cb=s at *
 have d2:=ac2 da cb l7 l9
 have m2:=(dL da cb).1
 generalize tj da cb=d at *
 have d3:=aaC xp rfl
 have m3:=(pQ xp).2.1
 have z:xp=ofNat 65::ofNat 219::ofNat 1::replicate 29 0:=rfl
 generalize ofL xp=k at *
 rw[z]at d3
 clear z
 have d4:=acN pp mm l3 l4
 have m4:=(aP pp mm).1
 generalize cd pp mm=r1 at *
 have d5:=acN k e m3 l5
 have m5:=(aP k e).1
 generalize cd k e=ke at *
 have d6:=aYG pp ke l3 m5
 have m6:=(ei pp ke).1
 generalize wJ pp ke=w at *
 have d7:=acN e w l5 m6
 have m7:=(aP e w).1
 generalize cd e w=r2 at *
 have d8:=acN s s m1 m1
 have m8:=(aP s s).1
 generalize cd s s=r3 at *
 have d9:=acN d d m2 m2
 have m9:=(aP d d).1
 generalize cd d d=dd at *
 have g1:=acN u dd hu m9
 have n1:=(aP u dd).1
 generalize cd u dd=r4 at *
 refine aG (Γ:=Γ) (fn:=Tryz.f94) rfl rfl rfl rfl ?_
 refine gB ?_
 refine aH.i [[],[0],[],[2],r_4,[],[5],[],[7],r_9,[],[],kX,jO] [0,1,2,3,5,6,7,8,10,11,4,9,12,13] (by kernel_rfl) ?_
 refine gA ?_
 refine Call.pure c1 rfl fc ?_
 rintro _ rfl
 refine gA ?_
 refine Call.pure c2 rfl fc ?_
 rintro _ rfl
 refine gA ?_
 refine aH.i [[],[],[0,1],[],[],r_5,[],[],r_8,r_9] [0,1,3,4,6,7,2,5,8,9] (by kernel_rfl) ?_
 refine gA ?_
 refine Call.pure c3 rfl fc ?_
 rintro _ rfl
 refine gA ?_
 refine Call.pure c4 rfl fc ?_
 rintro _ rfl
 refine gA ?_
 refine Call.pure c5 rfl fc ?_
 rintro _ rfl
 refine gA ?_
 refine aH.i [[],[0],[],[2],r_4,[],r_6,[],[7],[],[9],fe,[],jO,[],[],na,wG] [0,1,2,3,5,7,8,9,10,12,14,15,4,6,11,13,16,17] (by kernel_rfl) ?_
 refine gA ?_
 refine Call.pure c6 rfl fc ?_
 rintro _ rfl
 refine gA ?_
 refine Call.pure c7 rfl fc ?_
 rintro _ rfl
 refine gA ?_
 refine Call.pure c8 rfl fc ?_
 rintro _ rfl
 refine gA ?_
 refine Call.pure c9 rfl fc ?_
 rintro _ rfl
 refine gA ?_
 refine aH.i [[],[],[0,1],[],[],r_5,[],[],r_8,r_9] [0,1,3,4,6,7,2,5,8,9] (by kernel_rfl) ?_
 refine gA ?_
 refine Call.pure d1 rfl fc ?_
 rintro _ rfl
 refine gA ?_
 refine Call.pure d2 rfl fc ?_
 rintro _ rfl
 refine gA ?_
 refine Call.pure d3 rfl fc ?_
 rintro _ rfl
 refine gA ?_
 refine aH.i [[],[],[0,1],[],[],[],[],[0,1,2,5,6],[0,1,2,4,5,6,7],r_9,ek,[],[],[0,1,2,3,4,5,6,7,8,9,11,12],[],[],[],[0,1,2,3,4,5,6,7,8,9,11,12,13,15,16],[0,1,2,3,4,5,6,7,8,9,11,12,13,14,15,16,17],[0,1,2,3,4,5,6,7,8,9,11,12,13,14,15,16,17,18],uf,aJF] [0,1,3,4,5,6,11,12,14,15,16,2,7,8,9,10,13,17,18,19,20,21] (by kernel_rfl) ?_
 refine gA ?_
 refine Call.pure d4 rfl fc ?_
 rintro _ rfl
 refine gA ?_
 refine Call.pure d5 rfl fc ?_
 rintro _ rfl
 refine gA ?_
 refine Call.pure d6 rfl fc ?_
 rintro _ rfl
 refine gA ?_
 refine Call.pure d7 rfl fc ?_
 rintro _ rfl
 refine gA ?_
 refine Call.pure d8 rfl fc ?_
 rintro _ rfl
 refine gA ?_
 refine Call.pure d9 rfl fc ?_
 rintro _ rfl
 refine gA ?_
 refine Call.pure g1 rfl fc ?_
 rintro _ rfl
 refine gA ?_
 refine Ret.i (.tup [.agg [(5,.a64 r1),(5,.a64 r2)],.agg [(5,.a64 r3),(5,.a64 r4)]]) [] [] rfl fc rfl rfl fc rfl fc rfl
end Go.Proofs.YtieblfbmmbkjdaaGreat
namespace Go.Proofs.YtieblfbmmbkjdaaGreat
open Go Go.Sx Go.Cu
def laI (c u:List UInt8) (s:Nat×LL×UInt8):Prop:=s.1<=254/\nE (ofL u) c s.1=(s.2.1,s.2.2)
def laT (s:Nat×LL×UInt8):Tm:=[(2,.ptr 2 0 none),(4,.ptr 4 0 none),(6,.ptr 6 0 none),(7,.ptr 7 0 none),(8,.ptr 8 0 none),(9,.u8 s.2.2),(10,.i .i64 (254-(s.1:Int)))]
def laM (c u:List UInt8) (s:Nat×LL×UInt8):Mm:=[(2,.mem true 0 [(32,.a8 c)]),(4,.mem true 0 [(32,.a8 (replicate 32 0))]),(6,.mem true 0 [(5,.a64 (ofL u))]),
 (7,.mem true 0 [(5,.a64 s.2.1.ax),(5,.a64 s.2.1.az)]),(8,.mem true 0 [(5,.a64 s.2.1.bx),(5,.a64 s.2.1.bz)])]
theorem ze (c u:List UInt8) (s:Nat×LL×UInt8) (h:laI c u s):s.2.1.B:=by
 have hb:=tB (pQ u).2 c s.1
 rw[h.2]at hb;exact hb
theorem aDE (sec u:List UInt8) (h1:sec.length=32) (h2:u.length=32):Sx.Fn Γ.P 73 [.a8 sec,.a8 u] [] (λv _=>v= .a8 (jG (clB sec) u)):=by
  have cOne:=aaC (ofNat 1::replicate 31 0) rfl
  have cU:=aaC u h2
  have lu:=(pQ u).2.1
  have hc:clB sec=(sec.set 0 (sec.getD 0 0&&&ofNat 248)).set 31 (((sec.set 0 (sec.getD 0 0&&&ofNat 248)).getD 31 0&&&ofNat 127)|||ofNat 64):=rfl
  have lc:=aCN sec
  rw[h1]at lc
  have hst:nE (ofL u) (clB sec) 0=(⟨ofL (ofNat 1::replicate 31 0),replicate 5 0,ofL u,ofL (ofNat 1::replicate 31 0)⟩,ofNat 0):=rfl
  generalize clB sec=c at *
  have lone:=(pQ (ofNat 1::replicate 31 0)).2.1
  generalize ofL (ofNat 1::replicate 31 0)=one at *
  have hbd:(Tryz.f73).body=some (.seq _ (.scope _)):=rfl
  refine aLP [8,1000011] (Γ:=Γ) (fn:=Tryz.f73) rfl hbd rfl rfl ?_
  clear hbd
  refine gB ?_
  refine qd.i [0] (λ_ s=>laI c u s) (λ_ s=>(laT s,laM c u s)) (λ_ s=>255-s.1) rfl ?_ ⟨?_,trivial⟩
  · refine gB ?_
    refine Call.pure cOne rfl fc ?_
    rintro _ rfl
    refine gA ?_
    refine Call.pure cU rfl fc ?_
    rintro _ rfl
    refine gA ?_
    refine aH.i [[],[],[0,1],[],[],[3,4],[],[],[0,1,2,6,7],r_9] ek (by kernel_rfl) ?_
    refine gA ?_
    refine Cut.i (σ:=Nat×LL×UInt8) (laI c u) (λs=>(laT s,laM c u s)) (0,⟨one,replicate 5 0,ofL u,one⟩,ofNat 0) ⟨zero_le _,hst⟩ (Le.i [] rfl fc rfl fc rfl) ?_
    rintro⟨k,s,l⟩ hI
    obtain⟨⟨b1,b2,b3,b4⟩,hk,hs⟩:=(⟨ze c u _ hI,hI.1,hI.2⟩:LL.B _/\_/\_)
    unfold laT laM
    simp only at hk hs b1 b2 b3 b4
    have l1:=b1.1
    have l2:=b2.1
    have l3:=b3.1
    have l4:=b4.1
    have e0:((254-(k:Int))/8).toNat=(254-k)/8:=by omega
    have e1:((254-(k:Int))%8).toNat=(254-k)%8:=by omega
    have hn:nE (ofL u) c (k+1)=(li (ofL u) (s.turn l (aVP c (254-k))),aVP c (254-k)):=by show(li (ofL u) ((nE (ofL u) c k).1.turn (nE (ofL u) c k).2 (aVP c (254-k))),aVP c (254-k))=_;rw[hs]
    have hbit:aVP c (254-k)=mD (c.getD ((254-k)/8) 0) ((254-k)%8)&&&ofNat 1:=rfl
    repeat refine sdI ?_
    refine aOR.i (σ:=Unit) (λ_=>True) (λ_=>([(2,.ptr 2 0 none),(4,.ptr 4 0 none),(6,.ptr 6 0 none),(7,.ptr 7 0 none),(8,.ptr 8 0 none),(10,.i .i64 (254-(k:Int))),(11,.u8 (aVP c (254-k)))],
      [(2,.mem true 0 [(32,.a8 c)]),(4,.mem true 0 [(32,.a8 (replicate 32 0))]),(6,.mem true 0 [(5,.a64 (ofL u))]),(7,.mem true 0 [(5,.a64 (s.turn l (aVP c (254-k))).ax),(5,.a64 (s.turn l (aVP c (254-k))).az)]),
       (8,.mem true 0 [(5,.a64 (s.turn l (aVP c (254-k))).bx),(5,.a64 (s.turn l (aVP c (254-k))).bz)])])) ?_ ?_
    · refine zB.i ?_ ?_<;>intro hb
      · have hb:¬mD (c.getD ((254-(k:Int))/8).toNat 0) ((254-(k:Int))%8).toNat&&&ofNat 1=l:=hb
        rw[e0,e1,<-hbit]at hb
        have ht:s.turn l (aVP c (254-k))=⟨s.bx,s.bz,s.ax,s.az⟩:=by unfold LL.turn;rw[if_neg hb];rfl
        rw[ht]
        repeat refine sdI ?_
        refine⟨(),trivial,Le.i [] rfl fcI rfl fcI rfl⟩
      have hb:¬¬mD (c.getD ((254-(k:Int))/8).toNat 0) ((254-(k:Int))%8).toNat&&&ofNat 1=l:=hb
      rw[e0,e1,<-hbit]at hb
      have ht:s.turn l (aVP c (254-k))=s:=by unfold LL.turn;rw[if_pos (Classical.not_not.1 hb)]
      rw[ht]
      repeat refine sdI ?_
      refine⟨(),trivial,Le.i [] rfl fcI rfl fcI rfl⟩
    rintro - -
    have hB:=LL.turn_B (⟨b1,b2,b3,b4⟩:LL.B s) l (aVP c (254-k))
    have hsb:=sS (ofL u) (s.turn l (aVP c (254-k)))
    generalize s.turn l (aVP c (254-k))=t at *
    clear hbit e0 e1
    generalize aVP c (254-k)=w at *
    obtain⟨t1,t2,t3,t4⟩:=hB
    have cS:=aWA t.ax t.az t.bx t.bz (ofL u) t1.1 t2.1 t3.1 t4.1 lu
    have ett:(⟨t.ax,t.az,t.bx,t.bz⟩:LL)=t:=rfl
    rw[ett]at cS
    obtain⟨r,hr⟩:∃r,li (ofL u) t=r:=⟨_,rfl⟩
    rw[hr]at cS hsb hn
    obtain⟨r1,r2,r3,r4⟩:=hsb
    have n1:=r1.1
    have n2:=r2.1
    have n3:=r3.1
    have n4:=r4.1
    have q1:=t1.1
    have q2:=t2.1
    have q3:=t3.1
    have q4:=t4.1
    refine gB ?_
    refine Call.pure cS rfl fc ?_
    rintro _ rfl
    refine gA ?_
    refine zB.i ?_ ?_<;>intro hp
    · have hp:0<254-(k:Int):=hp
      refine gB ?_
      refine⟨rfl,(k+1,r,w),⟨by show k+1<=254;omega,hn⟩,trivial,Le.i [] rfl fc rfl fc rfl⟩
    have hp:¬0<254-(k:Int):=hp
    obtain rfl:k=254:=by omega
    obtain⟨f1,f2⟩:=od hn
    refine gB ?_
    refine zB.i ?_ ?_<;>intro hw
    · have hw:w=ofNat 1:=hw
      have f:=f1 hw
      rw[aRS]at f
      have cI:=abM r.bz n4
      have lI:=(xu r.bz).1
      have cM:=acN r.bx (aN2 r.bz) n3 lI
      have lM:=(aP r.bx (aN2 r.bz)).1
      have cB:=fB (cd r.bx (aN2 r.bz)) lM
      have lF:=aR c u
      rw[f]at cB
      generalize jG c u=B at *
      generalize cd r.bx (aN2 r.bz)=Y at *
      generalize aN2 r.bz=Z at *
      refine gB ?_
      refine aH.i [[],[0],[],[2],[2,3],r_5,r_6,r_7] r_8 (by kernel_rfl) ?_
      refine gA ?_
      refine Call.pure cI rfl fc ?_
      rintro _ rfl
      refine gA ?_
      refine Call.pure cM rfl fc ?_
      rintro _ rfl
      refine gA ?_
      refine Call.pure cB rfl fc ?_
      rintro _ rfl
      refine gA ?_
      refine Ret.i (.a8 B) [] [] rfl fc rfl rfl fc rfl fc rfl
    have hw:¬w=ofNat 1:=hw
    have f:=f2 hw
    rw[aRS]at f
    have cI:=abM r.az n2
    have lI:=(xu r.az).1
    have cM:=acN r.ax (aN2 r.az) n1 lI
    have lM:=(aP r.ax (aN2 r.az)).1
    have cB:=fB (cd r.ax (aN2 r.az)) lM
    have lF:=aR c u
    rw[f]at cB
    generalize jG c u=B at *
    generalize cd r.ax (aN2 r.az)=Y at *
    generalize aN2 r.az=Z at *
    refine gB ?_
    refine aH.i [[],[0],[],[2],[2,3],r_5,r_6,r_7] r_8 (by kernel_rfl) ?_
    refine gA ?_
    refine Call.pure cI rfl fc ?_
    rintro _ rfl
    refine gA ?_
    refine Call.pure cM rfl fc ?_
    rintro _ rfl
    refine gA ?_
    refine Call.pure cB rfl fc ?_
    rintro _ rfl
    refine gA ?_
    refine Ret.i (.a8 B) [] [] rfl fc rfl rfl fc rfl fc rfl
  rintro⟨k,s,l⟩ hI
  refine Cut.i (σ:=Unit) (λ_=>True) (λ_=>(laT (k,s,l),laM c u (k,s,l))) () trivial (Le.i [] rfl fc rfl fc rfl) ?_
  rintro - -
  obtain⟨⟨b1,b2,b3,b4⟩,hk,hs⟩:=(⟨ze c u _ hI,hI.1,hI.2⟩:LL.B _/\_/\_)
  unfold laT laM
  simp only at hk hs b1 b2 b3 b4
  have l1:=b1.1
  have l2:=b2.1
  have l3:=b3.1
  have l4:=b4.1
  have e0:((254-(k:Int))/8).toNat=(254-k)/8:=by omega
  have e1:((254-(k:Int))%8).toNat=(254-k)%8:=by omega
  have hn:nE (ofL u) c (k+1)=(li (ofL u) (s.turn l (aVP c (254-k))),aVP c (254-k)):=by show(li (ofL u) ((nE (ofL u) c k).1.turn (nE (ofL u) c k).2 (aVP c (254-k))),aVP c (254-k))=_;rw[hs]
  have hbit:aVP c (254-k)=mD (c.getD ((254-k)/8) 0) ((254-k)%8)&&&ofNat 1:=rfl
  repeat refine sdI ?_
  refine aOR.i (σ:=Unit) (λ_=>True) (λ_=>([(2,.ptr 2 0 none),(4,.ptr 4 0 none),(6,.ptr 6 0 none),(7,.ptr 7 0 none),(8,.ptr 8 0 none),(10,.i .i64 (254-(k:Int))),(11,.u8 (aVP c (254-k)))],
    [(2,.mem true 0 [(32,.a8 c)]),(4,.mem true 0 [(32,.a8 (replicate 32 0))]),(6,.mem true 0 [(5,.a64 (ofL u))]),(7,.mem true 0 [(5,.a64 (s.turn l (aVP c (254-k))).ax),(5,.a64 (s.turn l (aVP c (254-k))).az)]),
     (8,.mem true 0 [(5,.a64 (s.turn l (aVP c (254-k))).bx),(5,.a64 (s.turn l (aVP c (254-k))).bz)])])) ?_ ?_
  · refine zB.i ?_ ?_<;>intro hb
    · have hb:¬mD (c.getD ((254-(k:Int))/8).toNat 0) ((254-(k:Int))%8).toNat&&&ofNat 1=l:=hb
      rw[e0,e1,<-hbit]at hb
      have ht:s.turn l (aVP c (254-k))=⟨s.bx,s.bz,s.ax,s.az⟩:=by unfold LL.turn;rw[if_neg hb];rfl
      rw[ht]
      repeat refine sdI ?_
      refine⟨(),trivial,Le.i [] rfl fcI rfl fcI rfl⟩
    have hb:¬¬mD (c.getD ((254-(k:Int))/8).toNat 0) ((254-(k:Int))%8).toNat&&&ofNat 1=l:=hb
    rw[e0,e1,<-hbit]at hb
    have ht:s.turn l (aVP c (254-k))=s:=by unfold LL.turn;rw[if_pos (Classical.not_not.1 hb)]
    rw[ht]
    repeat refine sdI ?_
    refine⟨(),trivial,Le.i [] rfl fcI rfl fcI rfl⟩
  rintro - -
  have hB:=LL.turn_B (⟨b1,b2,b3,b4⟩:LL.B s) l (aVP c (254-k))
  have hsb:=sS (ofL u) (s.turn l (aVP c (254-k)))
  generalize s.turn l (aVP c (254-k))=t at *
  clear hbit e0 e1
  generalize aVP c (254-k)=w at *
  obtain⟨t1,t2,t3,t4⟩:=hB
  have cS:=aWA t.ax t.az t.bx t.bz (ofL u) t1.1 t2.1 t3.1 t4.1 lu
  have ett:(⟨t.ax,t.az,t.bx,t.bz⟩:LL)=t:=rfl
  rw[ett]at cS
  obtain⟨r,hr⟩:∃r,li (ofL u) t=r:=⟨_,rfl⟩
  rw[hr]at cS hsb hn
  obtain⟨r1,r2,r3,r4⟩:=hsb
  have n1:=r1.1
  have n2:=r2.1
  have n3:=r3.1
  have n4:=r4.1
  have q1:=t1.1
  have q2:=t2.1
  have q3:=t3.1
  have q4:=t4.1
  refine gB ?_
  refine Call.pure cS rfl fc ?_
  rintro _ rfl
  refine gA ?_
  refine zB.i ?_ ?_<;>intro hp
  · have hp:0<254-(k:Int):=hp
    refine gB ?_
    refine⟨rfl,(k+1,r,w),⟨by show k+1<=254;omega,hn⟩,(by show 255-(k+1)<255-k;omega),Le.i [] rfl fc rfl fc rfl⟩
  have hp:¬0<254-(k:Int):=hp
  obtain rfl:k=254:=by omega
  obtain⟨f1,f2⟩:=od hn
  refine gB ?_
  refine zB.i ?_ ?_<;>intro hw
  · have hw:w=ofNat 1:=hw
    have f:=f1 hw
    rw[aRS]at f
    have cI:=abM r.bz n4
    have lI:=(xu r.bz).1
    have cM:=acN r.bx (aN2 r.bz) n3 lI
    have lM:=(aP r.bx (aN2 r.bz)).1
    have cB:=fB (cd r.bx (aN2 r.bz)) lM
    have lF:=aR c u
    rw[f]at cB
    generalize jG c u=B at *
    generalize cd r.bx (aN2 r.bz)=Y at *
    generalize aN2 r.bz=Z at *
    refine gB ?_
    refine aH.i [[],[0],[],[2],[2,3],r_5,r_6,r_7] r_8 (by kernel_rfl) ?_
    refine gA ?_
    refine Call.pure cI rfl fc ?_
    rintro _ rfl
    refine gA ?_
    refine Call.pure cM rfl fc ?_
    rintro _ rfl
    refine gA ?_
    refine Call.pure cB rfl fc ?_
    rintro _ rfl
    refine gA ?_
    refine Ret.i (.a8 B) [] [] rfl fc rfl rfl fc rfl fc rfl
  have hw:¬w=ofNat 1:=hw
  have f:=f2 hw
  rw[aRS]at f
  have cI:=abM r.az n2
  have lI:=(xu r.az).1
  have cM:=acN r.ax (aN2 r.az) n1 lI
  have lM:=(aP r.ax (aN2 r.az)).1
  have cB:=fB (cd r.ax (aN2 r.az)) lM
  have lF:=aR c u
  rw[f]at cB
  generalize jG c u=B at *
  generalize cd r.ax (aN2 r.az)=Y at *
  generalize aN2 r.az=Z at *
  refine gB ?_
  refine aH.i [[],[0],[],[2],[2,3],r_5,r_6,r_7] r_8 (by kernel_rfl) ?_
  refine gA ?_
  refine Call.pure cI rfl fc ?_
  rintro _ rfl
  refine gA ?_
  refine Call.pure cM rfl fc ?_
  rintro _ rfl
  refine gA ?_
  refine Call.pure cB rfl fc ?_
  rintro _ rfl
  refine gA ?_
  refine Ret.i (.a8 B) [] [] rfl fc rfl rfl fc rfl fc rfl
theorem aWC (sec:List UInt8) (h1:sec.length=32):Sx.Fn Γ.P 72 [.a8 sec] [] (λv _=>v= .a8 (jG (clB sec) (ofNat 9::replicate 31 0))):=by
 have cM:=aDE sec (ofNat 9::replicate 31 0) h1 rfl
 have lF:=aR (clB sec) (ofNat 9::replicate 31 0)
 generalize jG (clB sec) (ofNat 9::replicate 31 0)=B at *
 refine aG (Γ:=Γ) (fn:=Tryz.f72) rfl rfl rfl rfl ?_
 refine gB ?_
 refine Call.pure cM rfl fc ?_
 rintro _ rfl
 refine gA ?_
 refine Ret.i (.a8 B) [] [] rfl fc rfl rfl fc rfl fc rfl
end Go.Proofs.YtieblfbmmbkjdaaGreat
namespace Go.Proofs.YtieblfbmmbkjdaaGreat
open Go Go.Sx
def aBF (n:Int):Int:=if n<0\/1099511627776<n then 0 else n/16*16+16
theorem uK {n:Int} (h:n<0\/1099511627776<n):aBF n=0:=if_pos h
theorem yn {n:Int} (h1:¬n<0) (h2:¬1099511627776<n):aBF n=n/16*16+16:=if_neg (by omega)
theorem aZ3 (n:Int):Sx.Fn Γ.P 96 [.i .i64 n] [] (λv _=>v= .i .i64 (aBF n)):=by
 refine aG (Γ:=Γ) (fn:=Tryz.f96) rfl rfl rfl rfl ?_
 refine zB.i ?_ ?_<;>intro h
 ·refine Ret.i (.i .i64 (aBF n)) [] [] rfl trivial rfl rfl ?_ rfl trivial rfl
  exact uK (Or.inl h)
 refine zB.i ?_ ?_<;>intro h2
 ·refine Ret.i (.i .i64 (aBF n)) [] [] rfl trivial rfl rfl ?_ rfl trivial rfl
  exact uK (Or.inr h2)
 refine gB ?_
 refine Ret.i (.i .i64 (aBF n)) [] [] rfl trivial rfl rfl ?_ rfl trivial rfl
 exact yn h h2
end Go.Proofs.YtieblfbmmbkjdaaGreat
namespace Go.Proofs.YtieblfbmmbkjdaaGreat
open Go Go.Sx
@[irreducible] def aM3 (n:Int):Int:=if n<0\/1024<n then 0 else n/16*16+32
theorem yo {n:Int} (h:n<0\/1024<n):aM3 n=0:=by unfold aM3;exact if_pos h
theorem mO {n:Int} (h1:¬n<0) (h2:¬1024<n):aM3 n=n/16*16+32:=by unfold aM3;exact if_neg (by omega)
theorem aUS (n:Int):Sx.Fn Γ.P 75 [.i .i64 n] [] (λv _=>v= .i .i64 (aM3 n)):=by
 refine aG (Γ:=Γ) (fn:=Tryz.f75) rfl rfl rfl rfl ?_
 refine gB ?_
 refine zB.i ?_ ?_<;>intro h
 ·refine gB ?_
  refine Ret.i (.i .i64 (aM3 n)) [] [] rfl trivial rfl rfl ?_ rfl trivial rfl
  exact yo (Or.inl h)
 have h:¬n<0:=h
 refine gB ?_
 refine zB.i ?_ ?_<;>intro h2
 ·refine gB ?_
  refine Ret.i (.i .i64 (aM3 n)) [] [] rfl trivial rfl rfl ?_ rfl trivial rfl
  exact yo (Or.inr h2)
 have h2:¬n>1024:=h2
 have e:=mO h (by omega)
 have e1:=yn h (by omega)
 refine Call.pure (aZ3 n) rfl fc ?_
 rintro _ rfl
 rw[e1]
 refine gB ?_
 refine Ret.i (.i .i64 (aM3 n)) [] [] rfl trivial rfl rfl ?_ rfl trivial rfl
 exact fc
end Go.Proofs.YtieblfbmmbkjdaaGreat
namespace Go.Proofs.YtieblfbmmbkjdaaGreat
open Go Go.Sx
theorem aUO:Sx.Fn Γ.P 18 [] [] (λv M=>v= .ptr 1000 0 none/\M=[(1000,.mem true 0 [(1,.nsl),(1,.mp 1002)]),(1002,.map (.si []))]):=by
 refine aG (Γ:=Γ) (fn:=Tryz.f18) rfl rfl rfl rfl ?_
 refine gB ?_
 refine Ret.i (.ptr 1000 0 none) [(1000,.mem true 0 [(1,.nsl),(1,.mp 1002)]),(1002,.map (.si []))] [(1000,(3,0,none)),(1002,(1,0,none))] rfl fc ⟨rfl,rfl⟩ rfl fc rfl fc rfl
theorem aDT:Sx.Fn Γ.P 11 [] [] (λv M=>v= .agg [(1,.ptr 1000 0 none)]/\M=[(1000,.mem true 0 [(1,.nsl),(1,.mp 1002)]),(1002,.map (.si []))]):=by
 refine aG (Γ:=Γ) (fn:=Tryz.f11) rfl rfl rfl rfl ?_
 refine gB ?_
 refine Call.i aUO [(1000,(300,0,none)),(1002,(302,0,none))] rfl fc rfl trivial rfl ?_
 rintro _ _ ⟨rfl,rfl⟩
 refine gN ?_
 refine gB ?_
 refine Ret.i (.agg [(1,.ptr 1000 0 none)]) [(1000,.mem true 0 [(1,.nsl),(1,.mp 1002)]),(1002,.map (.si []))] [(1000,(300,0,none)),(1002,(302,0,none))] rfl fc ⟨rfl,rfl⟩ rfl fc rfl fc rfl
theorem fn6:Sx.Fn Γ.P 6 [] [] (λv M=>v= .agg [(1,.nilp)]/\M=[]):=by
 refine aG (Γ:=Γ) (fn:=Tryz.f6) rfl rfl rfl rfl ?_
 refine gB ?_
 refine Ret.i (.agg [(1,.nilp)]) [] [] rfl fc ⟨rfl,rfl⟩ rfl fc rfl fc rfl
end Go.Proofs.YtieblfbmmbkjdaaGreat
namespace Go.Proofs.YtieblfbmmbkjdaaGreat
open Go Go.Sx
theorem z6 {p q:List UInt8} (hp:p.length<=1024) (hq:q.length<=1024):wA [p,q]:=by
 refine⟨by simp,λx hx=>?_⟩
 rcases List.mem_cons.1 hx with rfl|hx
 ·omega
 rw[List.mem_singleton.1 hx];omega
end Go.Proofs.YtieblfbmmbkjdaaGreat
namespace Go.Proofs.YtieblfbmmbkjdaaGreat
open Go Go.Sx
theorem aT7 {p:List UInt8} (hp:p.length<=4096):wA [p]:=⟨by simp,λx hx=>by rw[List.mem_singleton.1 hx];exact hp⟩
end Go.Proofs.YtieblfbmmbkjdaaGreat
namespace Go.Proofs.YtieblfbmmbkjdaaGreat
open Go Go.Sx
def dbl (b:UInt8):UInt8:=if b.toNat<128 then qh b 1 else qh b 1^^^27
theorem aUY (b:UInt8):Sx.Fn Γ.P 110 [.u8 b] [] (λv _=>v= .u8 (dbl b)):=by
 refine aG (Γ:=Γ) (fn:=Tryz.f110) rfl rfl rfl rfl ?_
 refine zB.i ?_ ?_<;>intro h
 ·refine Ret.i (.u8 (dbl b)) [] [] rfl trivial rfl rfl ?_ rfl trivial rfl
  show dbl b=qh b 1
  exact if_pos h
 refine Ret.i (.u8 (dbl b)) [] [] rfl trivial rfl rfl ?_ rfl trivial rfl
 show dbl b=qh b 1^^^27
 exact if_neg h
def tms:Nat->UInt8->UInt8->UInt8->UInt8
 |0,_,_,p=>p
 |n+1,a,b,p=>tms n (dbl a) (mD b 1) (if b&&&1=1 then p^^^a else p)
theorem yh:∀(n:Nat) (a p:UInt8),tms n a 0 p=p
 |0,_,_=>rfl
 |n+1,a,p=>by
  show tms n (dbl a) 0 p=p
  exact yh n _ _
theorem yr (b:UInt8):(mD b 1).toNat=b.toNat/2:=by
 have:=b.toNat_lt
 unfold mD
 rw[UInt8.toNat_ofNat',Nat.shiftRight_eq_div_pow]
 omega
def aL (a b:UInt8):UInt8:=tms 8 a b 0
theorem aYR (a b:UInt8):Sx.Fn Γ.P 114 [.u8 a,.u8 b] [] (λv _=>v= .u8 (aL a b)):=by
 refine aG (Γ:=Γ) (fn:=Tryz.f114) rfl rfl rfl rfl ?_
 refine aY.i (σ:=UInt8×UInt8×UInt8) (λs=>∃n,s.2.1.toNat<2^n/\tms n s.1 s.2.1 s.2.2=tms 8 a b 0)
  (λs=>([(0,.u8 s.1),(1,.u8 s.2.1),(5,.u8 s.2.2)],[])) (λs=>s.2.1.toNat) (a,b,0) ?_ ?_ ?_
 ·exact⟨8,b.toNat_lt,rfl⟩
 ·exact Le.i [] rfl ⟨rfl,rfl,rfl⟩ rfl trivial rfl
 rintro⟨x,y,z⟩ ⟨n,hn,ht⟩
 have step:0<y.toNat->∃n,(mD y 1).toNat<2^n/\tms n (dbl x) (mD y 1) (if y&&&1=1 then z^^^x else z)=tms 8 a b 0:=by
  intro h
  match n,hn,ht with
  |0,hn,_=>exact absurd hn (by simp only[Nat.pow_zero];omega)
  |n+1,hn,ht=>
   refine⟨n,?_,ht⟩
   rw[yr]
   have:y.toNat<2^(n+1):=hn
   rw[Nat.pow_succ]at this
   omega
 have less:0<y.toNat->(mD y 1).toNat<y.toNat:=λh=>by rw[yr];omega
 refine zB.i ?_ ?_<;>intro h
 ·refine zB.i ?_ ?_<;>intro h2
  ·refine Call.pure (aUY x) rfl rfl ?_
   rintro _ rfl
   have st:=step h
   rw[if_pos (show y&&&1=1 from h2)]at st
   exact⟨(dbl x,mD y 1,z^^^x),st,less h,Le.i [] rfl ⟨rfl,rfl,rfl⟩ rfl trivial rfl⟩
  refine Call.pure (aUY x) rfl rfl ?_
  rintro _ rfl
  have st:=step h
  rw[if_neg (show¬(y&&&1=1)from h2)]at st
  exact⟨(dbl x,mD y 1,z),st,less h,Le.i [] rfl ⟨rfl,rfl,rfl⟩ rfl trivial rfl⟩
 have hy:y=0:=UInt8.toNat_inj.1 (by
  have h:¬(0<y.toNat):=h
  show y.toNat=0
  omega)
 subst hy
 have ht:tms n x 0 z=tms 8 a b 0:=ht
 rw[yh]at ht
 refine Ret.i (.u8 z) [] [] rfl trivial ?_ rfl rfl rfl trivial rfl
 rw[ht];rfl
end Go.Proofs.YtieblfbmmbkjdaaGreat
namespace Go.Proofs.YtieblfbmmbkjdaaGreat
open Go Go.Sx
def dX (k:List UInt8):Nat->List UInt8->List UInt8
 |0,b=>b
 |n+1,b=>(dX k n b).set n ((dX k n b).getD n 0^^^k.getD n 0)
theorem bL (k:List UInt8):∀(n:Nat) (b:List UInt8),(dX k n b).length=b.length
 |0,_=>rfl
 |n+1,b=>by simp only[dX,length_set,bL k n b]
theorem aYT (b k:List UInt8) (hb:b.length=16) (hk:k.length=16):Sx.Fn Γ.P 111 [.a8 b,.a8 k] [] (λv _=>v= .a8 (dX k 16 b)):=by
 have hl:∀n,(dX k n b).length=16:=λn=>by rw[bL,hb]
 refine aG (Γ:=Γ) (fn:=Tryz.f111) rfl rfl rfl rfl ?_
 refine fg.i ⟨hk,hb⟩ ?_
 refine aY.i (σ:=Nat) (λi=>i<=16)
  (λi=>([(2,.ptr 2 0 none),(3,.ptr 3 0 none),(4,.ptr 4 0 none),(6,.i .i64 i)],
   [(2,.mem true 0 [(16,.a8 (dX k i b))]),(3,.mem true 0 [(16,.a8 k)]),(4,.mem true 0 [(16,.a8 (replicate 16 0))])])) (λi=>16-i) 0 (zero_le _) ?_ ?_
 ·exact Le.i [] rfl rfl rfl ⟨rfl,rfl,rfl,rfl,rfl,rfl,rfl,rfl,rfl⟩ rfl
 intro i hi
 refine zB.i ?_ ?_<;>intro h
 ·refine aH.i [[],[0],[0,1],[],[3],[3,4],r_6,r_7,r_8] r_9 (by kernel_rfl) ?_
  refine fg.i ⟨by omega,Int.natCast_nonneg _⟩ ?_
  refine fg.i (show(i:Int).toNat<16 by omega) ?_
  refine fg.i ⟨by omega,Int.natCast_nonneg _⟩ ?_
  refine fg.i (show(i:Int).toNat<16 by omega) ?_
  refine fg.i ⟨by omega,Int.natCast_nonneg _⟩ ?_
  refine fg.i (show(i:Int).toNat<16 by omega) ?_
  refine fg.i (show rng .i64 ((i:Int)+1) by unfold rng;exact⟨by omega,by omega⟩) ?_
  refine⟨i+1,by omega,by omega,Le.i [] rfl rfl rfl ⟨rfl,rfl,?_,rfl,rfl,rfl,rfl,rfl,rfl⟩ rfl⟩
  rw[zIn];rfl
 have hi:i=16:=by omega
 subst hi
 refine fg.i (hl 16) ?_
 exact Ret.i (.a8 (dX k 16 b)) [] [] rfl trivial rfl rfl rfl rfl trivial rfl
end Go.Proofs.YtieblfbmmbkjdaaGreat
namespace Go.Proofs.YtieblfbmmbkjdaaGreat
open Go Go.Sx
def aSB (b m:List UInt8) (i:Nat) (out:List UInt8):Nat->List UInt8
 |0=>out
 |k+1=>(aSB b m i out k).set i ((aSB b m i out k).getD i 0^^^aL (b.getD (i/4*4+(i+k)%4) 0) (m.getD k 0))
def xV (b m:List UInt8):Nat->List UInt8
 |0=>replicate 16 0
 |i+1=>aSB b m i (xV b m i) 4
theorem pj (b m:List UInt8) (i:Nat) (out:List UInt8):∀k,(aSB b m i out k).length=out.length
 |0=>rfl
 |k+1=>by simp only[aSB,length_set,pj b m i out k]
theorem dQ (b m:List UInt8):∀i,(xV b m i).length=16
 |0=>rfl
 |i+1=>by simp only[xV,pj,dQ b m i]
theorem aYS (b m:List UInt8) (hb:b.length=16) (hm:m.length=4):Sx.Fn Γ.P 112 [.a8 b,.a8 m] [] (λv _=>v= .a8 (xV b m 16)):=by
 refine aG (Γ:=Γ) (fn:=Tryz.f112) rfl rfl rfl rfl ?_
 refine sd ?_
 refine aY.i (σ:=Nat) (λi=>i<=16)
  (λi=>([(2,.ptr 2 0 none),(3,.ptr 3 0 none),(4,.ptr 4 0 none),(5,.ptr 5 0 none),(8,.i .i64 i)],
   [(2,.mem true 0 [(16,.a8 b)]),(3,.mem true 0 [(4,.a8 m)]),(4,.mem true 0 [(16,.a8 (replicate 16 0))]),(5,.mem true 0 [(16,.a8 (xV b m i))])])) (λi=>16-i) 0 (zero_le _) ?_ ?_
 ·exact Le.i [] rfl fc rfl fc rfl
 intro i hi
 refine zB.i ?_ ?_<;>intro h
 ·refine aY.i (σ:=Nat) (λk=>k<=4)
   (λk=>([(2,.ptr 2 0 none),(3,.ptr 3 0 none),(4,.ptr 4 0 none),(5,.ptr 5 0 none),(8,.i .i64 i),(6,.i .i64 i),(11,.i .i64 k)],
    [(2,.mem true 0 [(16,.a8 b)]),(3,.mem true 0 [(4,.a8 m)]),(4,.mem true 0 [(16,.a8 (replicate 16 0))]),(5,.mem true 0 [(16,.a8 (aSB b m i (xV b m i) k))])])) (λi=>4-i) 0 (zero_le _) ?_ ?_
  ·exact Le.i [] rfl fc rfl fc rfl
  intro k hk
  refine zB.i (λh'=>?_) (λh'=>?_)
  ·refine aH.i [[],[0],[0,1],[],[3],[3,4],[],[],[6,7],[6,7,8],[3,4,5,6,7,8,9],[3,4,5,6,7,8,9,10],[3,4,5,6,7,8,9,10,11],[],[13],[13,14],[3,4,5,6,7,8,9,10,11,12,13,14,15],wG,aBU,uf] aJG (by kernel_rfl) ?_
   refine gB ?_
   refine Call.pure (aYR (b.getD (i/4*4+(i+k)%4) 0) (m.getD k 0)) rfl ?_ ?_
   ·refine⟨?_,?_⟩
    ·show b.getD (i/4*4+(i+k)%4) 0=b.getD ((i:Int)/4*4+((i:Int)+k)%4).toNat 0
     congr 1
    show m.getD k 0=m.getD (k:Int).toNat 0
    rfl
   rintro _ rfl
   refine cL.i [] rfl rfl ?_
   refine gB ?_
   exact⟨k+1,by omega,by omega,Le.i [] rfl fc rfl fc rfl⟩
  have:k=4:=by omega
  subst this
  refine sd ?_
  exact⟨i+1,by omega,by omega,Le.i [] rfl fc rfl fc rfl⟩
 have:i=16:=by omega
 subst this
 have:=dQ b m 16
 refine sd ?_
 exact Ret.i (.a8 (xV b m 16)) [] [] rfl trivial rfl rfl rfl rfl trivial rfl
end Go.Proofs.YtieblfbmmbkjdaaGreat
namespace Go.Proofs.YtieblfbmmbkjdaaGreat
open Go Go.Sx
def cK (s bk ks:List UInt8):Ent:=.mem false 0 [(256,.a8 s),(256,.a8 bk),(240,.a8 ks)]
def fA (ks:List UInt8) (r:Nat):List UInt8:=(ks.drop (16*r)).take 16
def wE (s b:List UInt8):Nat->List UInt8
 |0=>replicate 16 0
 |i+1=>(wE s b i).set i (s.getD (b.getD ((i+i%4*4)%16) 0).toNat 0)
def kj (s ks:List UInt8) (r:Nat) (b:List UInt8):List UInt8:=
 dX (fA ks r) 16 (if r<14 then xV (wE s b 16) [2,3,1,1] 16 else wE s b 16)
def bQ (s ks b:List UInt8):Nat->List UInt8
 |0=>dX (fA ks 0) 16 b
 |n+1=>kj s ks (n+1) (bQ s ks b n)
theorem fN (s b:List UInt8):∀i,(wE s b i).length=16
 |0=>rfl
 |i+1=>by simp only[wE,length_set,fN s b i]
theorem be {ks:List UInt8} (h:ks.length=240) {r:Nat} (hr:r<=14):(fA ks r).length=16:=by
 simp only[fA,zlT,zlD];omega
theorem sZ (s ks:List UInt8) (r:Nat) (b:List UInt8):(kj s ks r b).length=16:=by
 unfold kj
 rw[bL]
 split
 ·exact dQ _ _ _
 exact fN _ _ _
theorem iJ (s ks:List UInt8) {b:List UInt8} (hb:b.length=16):∀n,(bQ s ks b n).length=16
 |0=>by simp only[bQ,bL,hb]
 |n+1=>sZ _ _ _ _
theorem aE0 (s bk ks b:List UInt8) (hs:s.length=256) (hbk:bk.length=256) (hk:ks.length=240) (hb:b.length=16):
  Sx.Fn Γ.P 99 [.ptr 1000 0 none,.a8 b] [(1000,cK s bk ks)] (λv M=>v= .a8 (bQ s ks b 14)/\M=[(1000,cK s bk ks)]):=by
 refine aG (Γ:=Γ) (fn:=Tryz.f99) rfl rfl rfl rfl ?_
 refine sd ?_
 refine aH.i [[],[],[1],[1,2],[1,2,3],[1,2,3,4],r_6,[],r_8] [0,1,2,3,4,5,7,6,8] (by kernel_rfl) ?_
 refine Call.pure (aYT b (fA ks 0) hb (be hk (by omega))) rfl fc ?_
 rintro _ rfl
 refine cL.i [] rfl rfl ?_
 have hl:=iJ s ks hb
 have h0:(dX (fA ks 0) 16 b).length=16:=hl 0
 refine gB ?_
 refine aY.i (σ:=Nat) (λn=>n<=14)
  (λn=>([(0,.ptr 1000 0 none),(3,.ptr 3 0 none),(4,.ptr 4 0 none),(5,.ptr 5 0 none),(6,.i .i64 ((n:Int)+1))],
   [(1000,cK s bk ks),(3,.mem true 0 [(16,.a8 b)]),(4,.mem true 0 [(16,.a8 (replicate 16 0))]),(5,.mem true 0 [(16,.a8 (bQ s ks b n))])])) (λn=>14-n) 0 (zero_le _) ?_ ?_
 ·exact Le.i [] rfl fc rfl fc rfl
 intro n hn
 refine zB.i ?_ ?_<;>intro h
 ·refine aY.i (σ:=Nat) (λi=>i<=16)
   (λi=>([(0,.ptr 1000 0 none),(3,.ptr 3 0 none),(4,.ptr 4 0 none),(5,.ptr 5 0 none),(6,.i .i64 ((n:Int)+1)),(7,.ptr 7 0 none),(20,.i .i64 i)],
   [(1000,cK s bk ks),(3,.mem true 0 [(16,.a8 b)]),(4,.mem true 0 [(16,.a8 (replicate 16 0))]),(5,.mem true 0 [(16,.a8 (bQ s ks b n))]),(7,.mem true 0 [(16,.a8 (wE s (bQ s ks b n) i))])])) (λi=>16-i) 0 (zero_le _) ?_ ?_
  ·exact Le.i [] rfl fc rfl fc rfl
  intro i hi
  refine zB.i (λh'=>?_) (λh'=>?_)
  ·refine aH.i [[],[],[],[],[3],[3,4],[2,3,4,5],[2,3,4,5,6],[2,3,4,5,6,7],[2,3,4,5,6,7,8],[1],[1,10],[1,2,3,4,5,6,7,8,9,10,11],[1,2,3,4,5,6,7,8,9,10,11,12],oB,nw] na (by kernel_rfl) ?_
   refine gB ?_
   have hv:wE s (bQ s ks b n) (i+1)=(wE s (bQ s ks b n) i).set (i:Int).toNat (s.getD ((bQ s ks b n).getD (((i:Int)+(i:Int)%4*4)%16).toNat 0).toNat 0):=by
    rw[show(((i:Int)+(i:Int)%4*4)%16).toNat=(i+i%4*4)%16 by omega];rfl
   exact⟨i+1,by omega,by omega,Le.i [] rfl fc rfl fc rfl⟩
  have:i=16:=by omega
  subst this
  have hkey:fA ks (n+1)=(ks.drop (((n:Int)+1).toNat*16)).take 16:=by
   rw[show((n:Int)+1).toNat*16=16*(n+1) by omega];rfl
  have hround:∀t,bQ s ks b (n+1)=dX (fA ks (n+1)) 16 t->(dX (fA ks (n+1)) 16 t).length=16:=λt e=>by rw[<-e];exact hl _
  refine zB.i ?_ ?_<;>intro h2
  ·refine gB ?_
   refine Call.pure (aYS (wE s (bQ s ks b n) 16) [2,3,1,1] (fN _ _ _) rfl) rfl fc ?_
   rintro _ rfl
   have hm:=dQ (wE s (bQ s ks b n) 16) [2,3,1,1] 16
   have hstep:bQ s ks b (n+1)=dX (fA ks (n+1)) 16 (xV (wE s (bQ s ks b n) 16) [2,3,1,1] 16):=by
    show kj _ _ _ _=_
    unfold kj
    rw[if_pos (by omega)]
   have hlen:=hround _ hstep
   refine gB ?_
   refine aH.i [[],[],[],[1],[1,3],[1,2,3,4],[1,2,3,4,5],r_7,r_8] r_9 (by kernel_rfl) ?_
   refine gB ?_
   refine Call.pure (aYT (xV (wE s (bQ s ks b n) 16) [2,3,1,1] 16) (fA ks (n+1)) hm (be hk (by omega))) rfl fc ?_
   rintro _ rfl
   refine gB ?_
   exact⟨n+1,by omega,by omega,Le.i [] rfl fc rfl fc rfl⟩
  have hm:=fN s (bQ s ks b n) 16
  have hstep:bQ s ks b (n+1)=dX (fA ks (n+1)) 16 (wE s (bQ s ks b n) 16):=by
   show kj _ _ _ _=_
   unfold kj
   rw[if_neg (by omega)]
  have hlen:=hround _ hstep
  refine aH.i [[],[],[],[1],[1,3],[1,2,3,4],[1,2,3,4,5],r_7,r_8] r_9 (by kernel_rfl) ?_
  refine gB ?_
  refine Call.pure (aYT (wE s (bQ s ks b n) 16) (fA ks (n+1)) hm (be hk (by omega))) rfl fc ?_
  rintro _ rfl
  refine gB ?_
  exact⟨n+1,by omega,by omega,Le.i [] rfl fc rfl fc rfl⟩
 have:n=14:=by omega
 subst this
 have hl14:=hl 14
 refine gB ?_
 exact Ret.i (.a8 (bQ s ks b 14)) [(1000,cK s bk ks)] [] rfl trivial ⟨rfl,rfl⟩ rfl rfl rfl fc rfl
end Go.Proofs.YtieblfbmmbkjdaaGreat
namespace Go.Proofs.YtieblfbmmbkjdaaGreat
open Go Go.Sx
def jq (bk b:List UInt8):Nat->List UInt8
 |0=>replicate 16 0
 |i+1=>(jq bk b i).set ((i+i%4*4)%16) (bk.getD (b.getD i 0).toNat 0)
def fM (ks:List UInt8) (r:Nat) (b:List UInt8):List UInt8:=
 if r<14 then xV (dX (fA ks r) 16 b) [14,11,13,9] 16 else dX (fA ks r) 16 b
def js (bk ks b:List UInt8):Nat->List UInt8
 |0=>b
 |n+1=>jq bk (fM ks (14-n) (js bk ks b n)) 16
def jr (bk ks b:List UInt8):List UInt8:=dX (fA ks 0) 16 (js bk ks b 14)
theorem fk (bk b:List UInt8):∀i,(jq bk b i).length=16
 |0=>rfl
 |i+1=>by simp only[jq,length_set,fk bk b i]
theorem uB (ks:List UInt8) (r:Nat) {b:List UInt8} (hb:b.length=16):(fM ks r b).length=16:=by
 unfold fM
 split
 ·exact dQ _ _ _
 rw[bL,hb]
theorem oa (bk ks:List UInt8) {b:List UInt8} (hb:b.length=16):∀n,(js bk ks b n).length=16
 |0=>hb
 |n+1=>fk _ _ _
theorem aBY (s bk ks b:List UInt8) (hk:ks.length=240) (hb:b.length=16):
  Sx.Fn Γ.P 100 [.ptr 1000 0 none,.a8 b] [(1000,cK s bk ks)] (λv M=>v= .a8 (jr bk ks b)/\M=[(1000,cK s bk ks)]):=by
 refine aG (Γ:=Γ) (fn:=Tryz.f100) rfl rfl rfl rfl ?_
 refine gB ?_
 have hl:=oa bk ks hb
 refine aY.i (σ:=Nat) (λn=>n<=14)
  (λn=>([(0,.ptr 1000 0 none),(3,.ptr 3 0 none),(4,.ptr 4 0 none),(5,.ptr 5 0 none),(6,.i .i64 (14-(n:Int)))],
   [(1000,cK s bk ks),(3,.mem true 0 [(16,.a8 b)]),(4,.mem true 0 [(16,.a8 (replicate 16 0))]),(5,.mem true 0 [(16,.a8 (js bk ks b n))])])) (λn=>14-n) 0 (zero_le _) ?_ ?_
 ·exact Le.i [] rfl fc rfl fc rfl
 intro n hn
 have hln:=hl n
 refine zB.i ?_ ?_<;>intro h
 ·refine aH.i [[],[],[],[1],[1,3],[1,2,3,4],[1,2,3,4,5],r_7,r_8] r_9 (by kernel_rfl) ?_
  refine gB ?_
  have hkey:fA ks (14-n)=(ks.drop ((14-(n:Int)).toNat*16)).take 16:=by
   rw[show(14-(n:Int)).toNat*16=16*(14-n) by omega];rfl
  refine Call.pure (aYT (js bk ks b n) (fA ks (14-n)) hln (be hk (by omega))) rfl fc ?_
  rintro _ rfl
  have ha:(dX (fA ks (14-n)) 16 (js bk ks b n)).length=16:=by rw[bL,hln]
  refine gB ?_
  have hum:=uB ks (14-n) hln
  refine zB.i ?_ ?_<;>intro h2
  ·refine gB ?_
   refine Call.pure (aYS (dX (fA ks (14-n)) 16 (js bk ks b n)) [14,11,13,9] ha rfl) rfl fc ?_
   rintro _ rfl
   have hx:xV (dX (fA ks (14-n)) 16 (js bk ks b n)) [14,11,13,9] 16=fM ks (14-n) (js bk ks b n):=by
    unfold fM
    rw[if_pos (by omega)]
   rw[hx]
   refine gB ?_
   refine aY.i (σ:=Nat) (λi=>i<=16)
    (λi=>([(0,.ptr 1000 0 none),(3,.ptr 3 0 none),(4,.ptr 4 0 none),(5,.ptr 5 0 none),(6,.i .i64 (14-(n:Int))),(7,.ptr 7 0 none),(27,.i .i64 i)],
    [(1000,cK s bk ks),(3,.mem true 0 [(16,.a8 b)]),(4,.mem true 0 [(16,.a8 (replicate 16 0))]),(5,.mem true 0 [(16,.a8 (fM ks (14-n) (js bk ks b n)))]),(7,.mem true 0 [(16,.a8 (jq bk (fM ks (14-n) (js bk ks b n)) i))])])) (λi=>16-i) 0 (zero_le _) ?_ ?_
   ·exact Le.i [] rfl fc rfl fc rfl
   intro i hi
   refine zB.i (λh'=>?_) (λh'=>?_)
   ·refine aH.i [[],[],[1],[1,2],r_4,r_5,[],[],[7],[7,8],[6],[6,10],[6,7,8,9,10,11],[6,7,8,9,10,11,12],oB,nw] na (by kernel_rfl) ?_
    refine gB ?_
    have hv:jq bk (fM ks (14-n) (js bk ks b n)) (i+1)=(jq bk (fM ks (14-n) (js bk ks b n)) i).set (((i:Int)+(i:Int)%4*4)%16).toNat (bk.getD ((fM ks (14-n) (js bk ks b n)).getD (i:Int).toNat 0).toNat 0):=by
     rw[show(((i:Int)+(i:Int)%4*4)%16).toNat=(i+i%4*4)%16 by omega];rfl
    exact⟨i+1,by omega,by omega,Le.i [] rfl fc rfl fc rfl⟩
   have:i=16:=by omega
   subst this
   have hu:=fk bk (fM ks (14-n) (js bk ks b n)) 16
   refine gB ?_
   have hst:js bk ks b (n+1)=jq bk (fM ks (14-n) (js bk ks b n)) 16:=rfl
   exact⟨n+1,by omega,by omega,Le.i [] rfl fc rfl fc rfl⟩
  have hx:dX (fA ks (14-n)) 16 (js bk ks b n)=fM ks (14-n) (js bk ks b n):=by
   unfold fM
   rw[if_neg (by omega)]
  rw[hx]
  refine aY.i (σ:=Nat) (λi=>i<=16)
   (λi=>([(0,.ptr 1000 0 none),(3,.ptr 3 0 none),(4,.ptr 4 0 none),(5,.ptr 5 0 none),(6,.i .i64 (14-(n:Int))),(7,.ptr 7 0 none),(27,.i .i64 i)],
   [(1000,cK s bk ks),(3,.mem true 0 [(16,.a8 b)]),(4,.mem true 0 [(16,.a8 (replicate 16 0))]),(5,.mem true 0 [(16,.a8 (fM ks (14-n) (js bk ks b n)))]),(7,.mem true 0 [(16,.a8 (jq bk (fM ks (14-n) (js bk ks b n)) i))])])) (λi=>16-i) 0 (zero_le _) ?_ ?_
  ·exact Le.i [] rfl fc rfl fc rfl
  intro i hi
  refine zB.i (λh'=>?_) (λh'=>?_)
  ·refine aH.i [[],[],[1],[1,2],r_4,r_5,[],[],[7],[7,8],[6],[6,10],[6,7,8,9,10,11],[6,7,8,9,10,11,12],oB,nw] na (by kernel_rfl) ?_
   refine gB ?_
   have hv:jq bk (fM ks (14-n) (js bk ks b n)) (i+1)=(jq bk (fM ks (14-n) (js bk ks b n)) i).set (((i:Int)+(i:Int)%4*4)%16).toNat (bk.getD ((fM ks (14-n) (js bk ks b n)).getD (i:Int).toNat 0).toNat 0):=by
    rw[show(((i:Int)+(i:Int)%4*4)%16).toNat=(i+i%4*4)%16 by omega];rfl
   exact⟨i+1,by omega,by omega,Le.i [] rfl fc rfl fc rfl⟩
  have:i=16:=by omega
  subst this
  have hu:=fk bk (fM ks (14-n) (js bk ks b n)) 16
  refine gB ?_
  have hst:js bk ks b (n+1)=jq bk (fM ks (14-n) (js bk ks b n)) 16:=rfl
  exact⟨n+1,by omega,by omega,Le.i [] rfl fc rfl fc rfl⟩
 have:n=14:=by omega
 subst this
 refine aH.i [[],[],[1],[1,2],[1,2,3],[1,2,3,4],r_6,r_7] r_8 (by kernel_rfl) ?_
 refine gB ?_
 refine Call.pure (aYT (js bk ks b 14) (fA ks 0) (hl 14) (be hk (by omega))) rfl fc ?_
 rintro _ rfl
 have ha:(dX (fA ks 0) 16 (js bk ks b 14)).length=16:=by rw[bL,hl 14]
 refine gB ?_
 exact Ret.i (.a8 (jr bk ks b)) [(1000,cK s bk ks)] [] rfl trivial ⟨rfl,rfl⟩ rfl rfl rfl fc rfl
end Go.Proofs.YtieblfbmmbkjdaaGreat
