/- Walks. -/
import Derived.Test.YtllmefnbacjjcaaGreatHwCu11ToFe3
import Derived.Test.YtllmefnbacjjcaaGreatHx7
import Derived.Test.YtllmefnbacjjcaaGreatHwTabToCu5
set_option linter.unusedSimpArgs false
set_option linter.unusedVariables false
open UInt8 (ofNat)
open List (replicate length_set getD_eq_getElem?_getD)
open UInt64 (ofInt)
open Nat (zero_le)
set_option maxRecDepth 100000
namespace Go.Proofs.YtllmefnbacjjcaaGreat
open Go Go.Sx Go.Cu
theorem aWC (b:List UInt8) (hb:b.length=32):Sx.Fn Γ.P 72 [.a8 b] [] (λv _=>v= .agg [(5,.a64 (ofL b))]):=by
 refine aG (Γ:=Γ) (fn:=Tryz.f72) rfl rfl rfl rfl ?_
 refine gB ?_
 refine aY.i (σ:=Nat) (λi=>i<=32) (λi=>([(1,.ptr 1 0 none),(2,.ptr 2 0 none),(3,.ptr 3 0 none),(6,.a8 b),(7,.i .i64 i)],
  [(1,.mem true 0 [(32,.a8 b)]),(2,.mem true 0 [(5,.a64 (replicate 5 0))]),(3,.mem true 0 [(4,.a64 (Cu.owS b i))])])) (λi=>32-i) 0 (zero_le _) ?_ ?_
 ·refine Le.i [] rfl fc rfl fc rfl
 rintro i hi
 have hl:=Cu.owS_length b i
 have hn:Cu.owS b (i+1)=(Cu.owS b i).set (i/8) ((Cu.owS b i).getD (i/8) 0|||aQ (b.getD i 0).toUInt64 (i%8*8)):=rfl
 have hE:ofL b=ofW (Cu.owS b 32):=rfl
 refine zB.i ?_ ?_<;>intro hc
 ·have hc:(i:Int)<32:=hc
  have e0:((i:Int)/8).toNat=i/8:=by omega
  have e1:((i:Int)%8*8).toNat=i%8*8:=by omega
  obtain⟨X,hX⟩:∃x,Cu.owS b i=x:=⟨_,rfl⟩
  rw[hX]at hl hn⊢
  refine gB ?_
  refine aH.i [[],[0],[0,1],[0,1,2],[],[4],[],[6],[6,7],[4,5,6,7,8],ek,fe,kX] jO (by kernel_rfl) ?_
  repeat refine sdI ?_
  refine⟨i+1,by omega,by omega,Le.i [] rfl fcI rfl fcI rfl⟩
 obtain rfl:i=32:=by have hc:¬(i:Int)<32:=hc;omega
 obtain⟨X,hX⟩:∃x,Cu.owS b 32=x:=⟨_,rfl⟩
 rw[hX]at hl hE⊢
 obtain⟨Y,hY⟩:∃y,ofW X=y:=⟨_,rfl⟩
 rw[hE,hY]
 refine gB ?_
 refine Ret.i (.agg [(5,.a64 Y)]) [] [] rfl ?_ rfl rfl ?_ rfl ?_ rfl
 ·exact fc
 ·repeat' first|exact trivial|refine zA.app ?_ ?_|refine zA.zd ?_ ?_|refine zA.cons ?_ ?_|exact fc|fail
  all_goals(rw[<-hY];rfl)
 exact fc
theorem abF (l:List UInt64) (hl:l.length=5):Sx.Fn Γ.P 66 [.agg [(5,.a64 l)]] [] (λv _=>v= .a8 (aWL l)):=by
 have hC1:=aHM l hl
 have hl1:=(jC l).1
 have hC2:=aHM (ci l) hl1
 have hl2:=(jC (ci l)).1
 have hE:aWL l=Cu.byS (wdL (nmL (ci (ci l)))) 32:=rfl
 rw[hE]
 have hN:nmL (ci (ci l))=(nmS (frL (ci (ci l))) 4).set 4 ((nmS (frL (ci (ci l))) 4).getD 4 0&&&UInt64.ofNat 2251799813685247):=rfl
 have hF:frL (ci (ci l))=(ci (ci l)).set 0 ((ci (ci l)).getD 0 0+UInt64.ofNat 19*qS (ci (ci l)) 5):=rfl
 generalize nmL (ci (ci l))=W at hN⊢
 generalize frL (ci (ci l))=B at hN hF
 generalize ci (ci l)=A at hC2 hl2 hF
 generalize ci l=A1 at hC1 hC2 hl1
 refine aG (Γ:=Γ) (fn:=Tryz.f66) rfl rfl rfl rfl ?_
 refine gB ?_
 refine Call.pure hC1 rfl fc ?_
 rintro _ rfl
 refine gB ?_
 refine Call.pure hC2 rfl fc ?_
 rintro _ rfl
 refine gB ?_
 refine aY.i (σ:=Nat) (λi=>i<=5) (λi=>([(1,.ptr 1 0 none),(2,.ptr 2 0 none),(3,.u64 (qS A i)),(15,.a64 A),(16,.i .i64 i)],
  [(1,.mem true 0 [(5,.a64 A)]),(2,.mem true 0 [(32,.a8 (replicate 32 0))])])) (λi=>5-i) 0 (zero_le _) ?_ ?_
 ·refine Le.i [] rfl fc rfl fc rfl
 rintro i hi
 refine zB.i ?_ ?_<;>intro hc
 ·have hc:(i:Int)<5:=hc
  have hn:qS A (i+1)=aF (A.getD i 0+qS A i) 51:=rfl
  refine gC ?_
  refine⟨i+1,by omega,by omega,Le.i [] rfl fcn rfl fcn rfl⟩
 obtain rfl:i=5:=by have hc:¬(i:Int)<5:=hc;omega
 have hlB:B.length=5:=by rw[hF,length_set];exact hl2
 generalize qS A 5=Q at hF
 refine gB ?_
 refine aY.i (σ:=Nat) (λi=>i<=4) (λi=>([(1,.ptr 1 0 none),(2,.ptr 2 0 none),(32,.i .i64 i)],
  [(1,.mem true 0 [(5,.a64 (nmS B i))]),(2,.mem true 0 [(32,.a8 (replicate 32 0))])])) (λi=>4-i) 0 (zero_le _) ?_ ?_
 ·have e:nmS B 0=A.set 0 (A.getD 0 0+UInt64.ofNat 19*Q):=hF
  refine Le.i [] rfl fc rfl fc rfl
 rintro i hi
 have hln:=rh B hlB i
 refine zB.i ?_ ?_<;>intro hc
 ·have hc:(i:Int)<4:=hc
  have e0:((i:Int)+1).toNat=i+1:=by omega
  have hn:nmS B (i+1)=((nmS B i).set (i+1) ((nmS B i).getD (i+1) 0+aF ((nmS B i).getD i 0) 51)).set i (((nmS B i).set (i+1) ((nmS B i).getD (i+1) 0+aF ((nmS B i).getD i 0) 51)).getD i 0&&&UInt64.ofNat 2251799813685247):=rfl
  obtain⟨X,hX⟩:∃x,nmS B i=x:=⟨_,rfl⟩
  rw[hX]at hln hn⊢
  refine gB ?_
  refine aH.i [[],[0],[],[0,1,2],r_4,[],[],[5,6],[5,6,7],[5,6,7,8],ek,[],kX,jO] oB (by kernel_rfl) ?_
  repeat refine sdH ?_
  refine⟨i+1,by omega,by omega,Le.i [] rfl fcH rfl fcH rfl⟩
 obtain rfl:i=4:=by have hc:¬(i:Int)<4:=hc;omega
 obtain⟨X,hX⟩:∃x,nmS B 4=x:=⟨_,rfl⟩
 rw[hX]at hln hN⊢
 have hlW:W.length=5:=by rw[hN,length_set];exact hln
 have hw:wdL W=[W.getD 0 0|||aQ (W.getD 1 0) 51,aF (W.getD 1 0) 13|||aQ (W.getD 2 0) 38,aF (W.getD 2 0) 26|||aQ (W.getD 3 0) 25,aF (W.getD 3 0) 39|||aQ (W.getD 4 0) 12]:=rfl
 obtain⟨T,hT⟩:∃t,wdL W=t:=⟨_,rfl⟩
 have hlT:T.length=4:=by rw[<-hT];rfl
 rw[hT]at hw⊢
 refine gB ?_
 refine aY.i (σ:=Nat) (λi=>i<=32) (λi=>([(2,.ptr 2 0 none),(8,.ptr 8 0 none),(9,.ptr 9 0 none),(92,.i .i64 i)],
  [(2,.mem true 0 [(32,.a8 (replicate 32 0))]),(8,.mem true 0 [(4,.a64 T)]),(9,.mem true 0 [(32,.a8 (Cu.byS T i))])])) (λi=>32-i) 0 (zero_le _) ?_ ?_
 ·have e:Cu.byS T 0=replicate 32 0:=rfl
  refine Le.i [] rfl ?_ rfl ?_ rfl
  ·exact fc
  repeat' first|exact trivial|refine zA.app ?_ ?_|refine zA.zd ?_ ?_|refine zA.cons ?_ ?_|exact fc|fail
  all_goals(rw[hw,hN];rfl)
 rintro i hi
 have hlb:=Cu.byS_length T i
 refine zB.i ?_ ?_<;>intro hc
 ·have hc:(i:Int)<32:=hc
  have e0:((i:Int)/8).toNat=i/8:=by omega
  have e1:((i:Int)%8*8).toNat=i%8*8:=by omega
  have hn:Cu.byS T (i+1)=(Cu.byS T i).set i (aF (T.getD (i/8) 0) (i%8*8)).toUInt8:=rfl
  obtain⟨X,hX⟩:∃x,Cu.byS T i=x:=⟨_,rfl⟩
  rw[hX]at hlb hn⊢
  repeat refine sdI ?_
  refine⟨i+1,by omega,by omega,Le.i [] rfl fcI rfl fcI rfl⟩
 obtain rfl:i=32:=by have hc:¬(i:Int)<32:=hc;omega
 obtain⟨X,hX⟩:∃x,Cu.byS T 32=x:=⟨_,rfl⟩
 rw[hX]at hlb⊢
 refine gB ?_
 refine Ret.i (.a8 X) [] [] rfl fc rfl rfl fc rfl fc rfl
end Go.Proofs.YtllmefnbacjjcaaGreat
namespace Go.Cu
open Go Go.Sx
def r0 (a:F):F:=pw a ((aB+3)/8)
def j0:F:=pw 2 ((aB-1)/4)
theorem aX2:j0*j0=0-1:=by
 have e:j0=iF\/j0=0-iF:=by
  have h:j0.val=aKZ aB 2 256 ((aB-1)/4):=aFE 2 _ (by decide)
  have h2:aKZ aB 2 256 ((aB - 1) / 4) = iF.val \/ aKZ aB 2 256 ((aB - 1) / 4) = (0 - iF).val:=by decide +kernel
  rcases h2 with h2|h2
  ·exact Or.inl (Fin.ext (h.trans h2))
  exact Or.inr (Fin.ext (h.trans h2))
 have hi:=aX4
 rcases e with e|e<;>rw[e]
 ·exact hi
 exact gr
def mv (a:F):Prop:=a=0\/pw a ((aB-1)/2)=1
instance (a:F):Decidable (mv a):=by unfold mv;exact inferInstance
def qp (a:F):F:=if r0 a*r0 a=a then r0 a else r0 a*j0
def aCI (r:F):F:=if r.val%2=1 then 0-r else r
def dn (a:F):F:=aCI (qp a)
theorem aFZ {a:F} (h:a≠0):(0-a).val=aB-a.val:=by
 have hp:0<a.val:=Nat.pos_of_ne_zero λh0=>h (Fin.ext h0)
 show(aB-a.val+0)%aB=_
 rw[Nat.add_zero,Nat.mod_eq_of_lt (by have:=a.isLt;omega)]
theorem aFU {a:F} (h:a≠0):(0-a).val%2=1↔a.val%2=0:=by
 have h1:=aFZ h
 have h2:=a.isLt
 rw[h1]
 have:aB=57896044618658097711785492504343953926634992332820282019728792003956564819949:=rfl
 omega
theorem aCH (r:F):(aCI r).val%2=0:=by
 unfold aCI
 split
 ·rename_i h
  have hr:r≠0:=by rintro rfl;exact absurd h (by decide)
  have:=aFU hr
  omega
 omega
theorem aS4 (a:F):r0 a*r0 a=a*pw a ((aB-1)/4):=by
 unfold r0
 rw[<-rZ,show(aB+3)/8+(aB+3)/8=(aB-1)/4+1 by decide,aFD]
 exact aOB _ _
theorem aWW {x:F} (h:x*x=1):x=1\/x=0-1:=by
 have h1:(x-1)*(x+1)=0:=gr
 rcases dI h1 with h2|h2
 ·exact Or.inl (gr)
 exact Or.inr (gr)
theorem aNM {a:F} (h:a≠0):a≠0-a:=by
 intro e
 have h1:2*a=0:=gr
 exact(dI h1).elim nR h
theorem aFB:r0 0=0:=by unfold r0;exact aPT (by decide)
theorem aS5 {a:F} (h:mv a):r0 a*r0 a=a\/r0 a*r0 a=0-a:=by
 rcases h with rfl|h
 ·rw[aFB];exact Or.inl (gr)
 rw[aS4]
 have e:pw a ((aB-1)/4)*pw a ((aB-1)/4)=1:=by
  rw[<-rZ,show(aB-1)/4+(aB-1)/4=(aB-1)/2 by decide];exact h
 rcases aWW e with h1|h1<;>rw[h1]
 ·exact Or.inl (gr)
 exact Or.inr (gr)
theorem aPB {a s:F} (h:s*s=a):mv a:=by
 by_cases hs:s=0
 ·exact Or.inl (by rw[<-h,hs];exact gr)
 exact Or.inr (by rw[<-h];exact aEI hs)
def nu (a:F):F:=if r0 a*r0 a=0-a then r0 a*j0 else r0 a
theorem sa (a:F):nu a*nu a=a↔mv a:=by
 refine⟨λh=>aPB h,λh=>?_⟩
 unfold nu
 have hj:=aX2
 split
 ·exact gr
 rename_i h1
 exact(aS5 h).resolve_right h1
theorem y6 {a:F} (h:mv a):nu a=qp a:=by
 unfold nu qp
 by_cases ha:a=0
 ·subst ha
  rw[aFB]
  split
  ·split <;>exact gr
  split <;>exact gr
 rcases aS5 h with h1|h1
 ·rw[if_neg (by rw[h1];exact aNM ha),if_pos h1]
 rw[if_pos h1,if_neg (by rw[h1];exactλe=>aNM ha e.symm)]
theorem aKG {a:F} (h:mv a):qp a*qp a=a:=by rw[<-y6 h];exact(sa a).2 h
theorem y7 {a:F} (h:mv a):dn a*dn a=a:=by
 have h1:=aKG h
 unfold dn aCI
 split
 ·exact gr
 exact h1
theorem aD4 {x y:F} (h:x*x=y*y):x=y\/x=0-y:=by
 have h1:(x-y)*(x+y)=0:=gr
 rcases dI h1 with h2|h2
 ·exact Or.inl (gr)
 exact Or.inr (gr)
theorem aKH (x:F):dn (x*x)=if x.val%2=1 then 0-x else x:=by
 have h:=y7 (aPB (s:=x) rfl)
 have he:=aCH (qp (x*x))
 have he:(dn (x*x)).val%2=0:=he
 rcases aD4 h with h1|h1
 ·rw[h1]at he⊢
  rw[if_neg (by omega)]
 by_cases hx:x=0
 ·subst hx
  rw [h1];decide +kernel
 have:=aFU hx
 rw[h1]at he⊢
 rw[if_pos (by omega)]
def kF (b:List UInt8):List UInt8:=b.set 31 (b.getD 31 0&&&ofNat 127)
theorem pl (b:List UInt8):(kF b).length=b.length:=by unfold kF;rw[length_set]
def xxF (y:F):F:=(y*y-1)*inv (dF*(y*y)+1)
def tk (b:List UInt8):Prop:=128<=(b.getD 31 0).toNat
instance (b:List UInt8):Decidable (tk b):=by unfold tk;exact inferInstance
def okD (b:List UInt8):Prop:=leB (ofF (kF b))=kF b/\mv (xxF (ofF (kF b)))/\¬(tk b/\dn (xxF (ofF (kF b)))=0)
instance (b:List UInt8):Decidable (okD b):=by unfold okD;exact inferInstance
def aIA (b:List UInt8):F:=if tk b then 0-dn (xxF (ofF (kF b)))else dn (xxF (ofF (kF b)))
def nF (b:List UInt8):F:=ofF (kF b)
theorem aOG (y:F):dF*(y*y)+1≠0:=by
 intro h
 have h1:iF*iF=dF*(y*y):=by have:=aX4;exact gr
 have h2:=aP3 h1
 rw[h2]at h
 exact absurd h (by decide +kernel)
theorem aSK {x y:F}:On x y↔x*x=xxF y:=by
 have hn:=iv (aOG y)
 unfold On xxF
 constructor
 ·intro h
  have:x*x*(dF*(y*y)+1)=y*y-1:=gr
  refine x6 (aOG y) ?_
  rw[this];exact gr
 intro h
 have:x*x*(dF*(y*y)+1)=y*y-1:=by rw[h];exact gr
 exact gr
theorem aVD {b:List UInt8} (h:okD b):On (aIA b) (nF b):=by
 rw[aSK]
 have h1:=y7 h.2.1
 unfold aIA nF
 split
 ·exact gr
 exact h1
def vg (b:List UInt8):Pt:=if h:okD b then⟨aIA b,nF b,aVD h⟩else .O
theorem aAN {b:List UInt8} (h:okD b):(vg b).x=aIA b:=by unfold vg;rw[dif_pos h]
theorem aAM {b:List UInt8} (h:okD b):(vg b).y=nF b:=by unfold vg;rw[dif_pos h]
def rD (P:Pt):List UInt8:=if P.x.val%2=1 then(leB P.y).set 31 ((leB P.y).getD 31 0+ofNat 128)else leB P.y
theorem kQ (P:Pt):(rD P).length=32:=by
 unfold rD
 split
 ·rw[length_set];exact aj _
 exact aj _
theorem aNX (y:F):((leB y).getD 31 0).toNat<128:=by
 have h:=uy (leB y) 31
 rw[ux]at h
 have:=y.isLt
 rw[<-h]
 have h2:aB=57896044618658097711785492504343953926634992332820282019728792003956564819949:=rfl
 have h3:(256:Nat)^31=452312848583266388373324160190187140051835877600158453279131187530910662656:=by decide
 rw[h3]
 omega
theorem vu:∀x:UInt8,x.toNat<128->x&&&ofNat 127=x:=by
 intro x hx
 have:∀ y:Fin 256,y.val < 128->ofNat y.val &&& ofNat 127 = ofNat y.val:=by decide +kernel
 have h:=this ⟨x.toNat,x.toNat_lt⟩ hx
 rw[UInt8.ofNat_toNat]at h;exact h
theorem aC6:∀x:UInt8,x.toNat<128->(x+ofNat 128)&&&ofNat 127=x:=by
 intro x hx
 have:∀ y:Fin 256,y.val < 128->(ofNat y.val + ofNat 128) &&& ofNat 127 = ofNat y.val:=by decide +kernel
 have h:=this ⟨x.toNat,x.toNat_lt⟩ hx
 rw[UInt8.ofNat_toNat]at h;exact h
theorem sQ {l:List UInt8} {i:Nat} (h:i<l.length):l.set i (l.getD i 0)=l:=by
 apply List.ext_getElem (by rw[length_set])
 intro j h1 h2
 rw[List.getElem_set]
 split
 ·rename_i e
  subst e
  rw[getD_eq_getElem?_getD,List.getElem?_eq_getElem h];rfl
 rfl
theorem aK3 (P:Pt):kF (rD P)=leB P.y/\(tk (rD P)↔P.x.val%2=1):=by
 have hs:=aNX P.y
 have hl:=aj P.y
 unfold kF rD tk
 split
 ·rename_i h
  have g:((leB P.y).set 31 ((leB P.y).getD 31 0+ofNat 128)).getD 31 0=(leB P.y).getD 31 0+ofNat 128:=by
   rw[getD_eq_getElem?_getD,List.getElem?_set_self (by omega)];rfl
  rw[g,List.set_set,aC6 _ hs,sQ (by omega)]
  refine⟨rfl,λ_=>h,λ_=>?_⟩
  rw[UInt8.toNat_add,show(ofNat 128).toNat=128 from rfl];omega
 rename_i h
 rw[vu _ hs,sQ (by omega)]
 refine⟨rfl,λh2=>by omega,λh2=>absurd h2 h⟩
theorem yA (P:Pt):okD (rD P)/\vg (rD P)=P:=by
 obtain⟨h1,h2⟩:=aK3 P
 have hy:ofF (kF (rD P))=P.y:=by rw[h1,aP1]
 have hx:xxF (ofF (kF (rD P)))=P.x*P.x:=by rw[hy];exact(aSK.1 P.on).symm
 have hr:=aKH P.x
 have ok:okD (rD P):=by
  refine⟨by rw[hy,h1],by rw[hx];exact aPB rfl,?_⟩
  rw[hx,hr,h2]
  rintro⟨h3,h4⟩
  rw[if_pos h3]at h4
  have:P.x=0:=gr
  rw[this]at h3
  exact absurd h3 (by decide)
 refine⟨ok,Pt.ext' ?_ ?_⟩
 ·rw[aAN ok]
  unfold aIA
  rw[hx,hr]
  by_cases h3:P.x.val%2=1
  ·rw[if_pos (h2.2 h3),if_pos h3];exact gr
  rw[if_neg (λh=>h3 (h2.1 h)),if_neg h3]
 rw[aAM ok];exact hy
def basB:List UInt8:=ofNat 88::replicate 31 (ofNat 102)
theorem yP:rD basP = basB:=by decide +kernel
theorem aOO:okD basB:=by rw[<-yP];exact(yA basP).1
theorem aIV:vg basB=basP:=by rw[<-yP];exact(yA basP).2
end Go.Cu
namespace Go.Proofs.YtllmefnbacjjcaaGreat
open Go Go.Sx Go.Cu
theorem xl {x y:F} (h:leB x=leB y):x=y:=by
 have:=ux x
 rw[h,ux y]at this
 exact Fin.ext this.symm
theorem zK (x:F):(leB x).getD 0 0&&&ofNat 1=ofNat 1↔x.val%2=1:=by
 have h:=uy (leB x) 0
 rw[ux,Nat.pow_zero,Nat.div_one]at h
 have e:((leB x).getD 0 0&&&ofNat 1).toNat=x.val%2:=by
  rw[UInt8.toNat_and,show(ofNat 1).toNat=2^1-1 from rfl,Nat.and_two_pow_sub_one_eq_mod,<-h]
  omega
 constructor
 ·intro h1;rw[h1]at e;exact e.symm
 intro h1;exact UInt8.toNat_inj.1 (by rw[e,h1];rfl)
def rk (a:List UInt64):List UInt64:=tj (replicate 5 0) a
theorem iq (a:List UInt64):Lb (rk a):=dL _ _
theorem pf {a:List UInt64} (h:Lb a):fv (rk a)=0-fv a:=by unfold rk;rw[ic wM h,wO]
def aM0:List UInt64:=[UInt64.ofNat 2,0,0,0,0]
theorem aD5:Lb aM0:=⟨rfl,by decide,by decide,by decide,by decide,by decide⟩
theorem aO4:fv aM0 = 2:=by decide +kernel
theorem aY1:exN 252 2 252 = (aB + 3) / 8:=by decide +kernel
theorem aY2:exN 253 5 253 = (aB - 1) / 4:=by decide +kernel
theorem aS6 {a:List UInt64} (h:Lb a):fv (pwS a 252 2 252)=r0 (fv a):=by rw[zJ h,aY1];rfl
theorem aUA:fv (pwS aM0 253 5 253)=j0:=by rw[zJ aD5,aY2,aO4];rfl
theorem fB (l:List UInt64) (hl:l.length=5):Sx.Fn Γ.P 66 [.agg [(5,.a64 l)]] [] (λv _=>v= .a8 (leB (fv l))):=by
 have h:=abF l hl
 rw[aRS]at h
 exact h
theorem aUR (a:List UInt64) (ha:a.length=5):Sx.Fn Γ.P 78 [.agg [(5,.a64 a)]] [] (λv _=>v= .agg [(5,.a64 (rk a))]):=by
 have hS:=aSE (replicate 5 0) a rfl ha
 have e:rk a=tj (replicate 5 0) a:=by unfold rk;rfl
 have hl:=(iq a).1
 rw[<-e]at hS
 generalize rk a=X at hS hl
 refine aG (Γ:=Γ) (fn:=Tryz.f78) rfl rfl rfl rfl ?_
 refine gB ?_
 refine Call.pure hS rfl fc ?_
 rintro _ rfl
 refine gD ?_
 refine Ret.i (.agg [(5,.a64 X)]) [] [] rfl fc rfl rfl fc rfl fc rfl
def aPN (a:List UInt64) (v:SV):Prop:=(mv (fv a)/\∃l,Lb l/\fv l=dn (fv a)/\v= .tup [.agg [(5,.a64 l)],.tt])\/(¬mv (fv a)/\v= .tup [.agg [(5,.a64 (replicate 5 0))],.ff])
theorem uT (a:List UInt64) (ha:Lb a) (R:List UInt64) (bR:Lb R) (vR:fv R=nu (fv a)) (T:Tm) (M:Mm)
  (hle:Le [] [(1,.ptr 1 0 none),(2,.ptr 2 0 none),(4,.ptr 4 0 none),(5,.ptr 5 0 none)]
   [(1,.mem true 0 [(5,.a64 a)]),(2,.mem true 0 [(5,.a64 (replicate 5 0))]),(4,.mem true 0 [(5,.a64 R)]),(5,.mem true 0 [(32,.a8 (leB (fv (cd R R))))])] T M):
  aSJ Γ [6] Tryz.f77 6 [] T M (λv _=>aPN a v):=by
 have hla:=ha.1
 have hAB:=fB a hla
 have hbl:=aj
 have lR:=bR.1
 have hRB:=fB R lR
 have hN:=aUR R lR
 have bN:=iq R
 have vN:=pf bR
 have lN:=bN.1
 have vRR:fv (cd R R)=nu (fv a)*nu (fv a):=by rw[ak bR bR,vR]
 generalize rk R=N at *
 refine Cut.i (σ:=Unit) (λ_=>True) (λ_=>([(1,.ptr 1 0 none),(2,.ptr 2 0 none),(4,.ptr 4 0 none),(5,.ptr 5 0 none)],
   [(1,.mem true 0 [(5,.a64 a)]),(2,.mem true 0 [(5,.a64 (replicate 5 0))]),(4,.mem true 0 [(5,.a64 R)]),(5,.mem true 0 [(32,.a8 (leB (fv (cd R R))))])])) () trivial hle ?_
 rintro - -
 refine aH.i [[],[],[1],[0,1,2]] r_4 (by kernel_rfl) ?_
 refine gD ?_
 refine Call.pure hAB rfl fc ?_
 rintro _ rfl
 refine gD ?_
 refine zB.i ?_ ?_<;>intro h
 ·have h:¬leB (fv (cd R R))=leB (fv a):=h
  have h1:¬mv (fv a):=λhs=>h (by rw[vRR,(sa _).2 hs])
  refine gB ?_
  refine Ret.i (.tup [.agg [(5,.a64 (replicate 5 0))],.ff]) [] [] rfl fc (Or.inr ⟨h1,rfl⟩) rfl fc rfl fc rfl
 have h:¬¬leB (fv (cd R R))=leB (fv a):=h
 have h1:mv (fv a):=(sa _).1 (by rw[<-vRR];exact xl (Classical.not_not.1 h))
 have vT:fv R=qp (fv a):=by rw[vR,y6 h1]
 refine gB ?_
 refine Call.pure hRB rfl fc ?_
 rintro _ rfl
 refine gD ?_
 refine zB.i ?_ ?_<;>intro h2
 ·have h2:(leB (fv R)).getD 0 0&&&ofNat 1=ofNat 1:=h2
  have h3:=(zK _).1 h2
  refine gB ?_
  refine Call.pure hN rfl fc ?_
  rintro _ rfl
  refine gD ?_
  refine Ret.i (.tup [.agg [(5,.a64 N)],.tt]) [] [] rfl ?_ (Or.inl ⟨h1,N,bN,?_,rfl⟩) rfl ?_ rfl ?_ rfl
  ·exact fc
  ·rw[vN,vT];unfold dn aCI;rw[<-vT,if_pos h3]
  ·exact fc
  exact fc
 have h2:¬(leB (fv R)).getD 0 0&&&ofNat 1=ofNat 1:=h2
 have h3:¬(fv R).val%2=1:=λe=>h2 ((zK _).2 e)
 refine gB ?_
 refine Ret.i (.tup [.agg [(5,.a64 R)],.tt]) [] [] rfl ?_ (Or.inl ⟨h1,R,bR,?_,rfl⟩) rfl ?_ rfl ?_ rfl
 ·exact fc
 ·unfold dn aCI;rw[<-vT,if_neg h3]
 ·exact fc
 exact fc
theorem abD (a:List UInt64) (ha:Lb a):Sx.Fn Γ.P 77 [.agg [(5,.a64 a)]] []
  (λv _=>aPN a v):=by
 have hla:=ha.1
 have hP:=aYB a 252 2 hla (by omega) (by omega) (by omega)
 have hJ:=aYB aM0 253 5 aD5.1 (by omega) (by omega) (by omega)
 have hX:=aS6 ha
 have bX:=ui a 252 2 252
 have bJ:=ui aM0 253 5 253
 have vJ:=aUA
 have hN:=aUR a hla
 have bN:=iq a
 have vN:=pf ha
 have lN:=bN.1
 have hNB:=fB (rk a) lN
 rw[vN]at hNB
 have hAB:=fB a hla
 have hM:=λ(x y:List UInt64) (hx:x.length=5) (hy:y.length=5)=>ru x y hx hy
 have hB:=λ(x:List UInt64) (hx:x.length=5)=>fB x hx
 have hml:=λx y=>(aP x y).1
 have hbl:=aj
 unfold aM0 at hJ
 change Sx.Fn _ _ _ _ (λv _=>v= .agg [(5,.a64 (pwS aM0 253 5 253))])at hJ
 generalize pwS aM0 253 5 253=J at hJ bJ vJ
 generalize pwS a 252 2 252=X at hP hX bX
 generalize rk a=N at *
 have lX:=bX.1
 have lJ:=bJ.1
 refine cV [6] (Γ:=Γ) (fn:=Tryz.f77) rfl rfl rfl rfl ?_
 refine gB ?_
 refine Call.pure hP rfl fc ?_
 rintro _ rfl
 refine gD ?_
 refine Call.pure (hM X X lX lX) rfl fc ?_
 rintro _ rfl
 refine gD ?_
 refine Call.pure (hB (cd X X) (hml X X)) rfl fc ?_
 rintro _ rfl
 refine gD ?_
 refine aH.i [[],[],[1],[1,2],r_4] r_5 (by kernel_rfl) ?_
 refine gD ?_
 refine Call.pure hN rfl fc ?_
 rintro _ rfl
 refine gD ?_
 refine Call.pure hNB rfl fc ?_
 rintro _ rfl
 refine gD ?_
 have vXX:fv (cd X X)=r0 (fv a)*r0 (fv a):=by rw[ak bX bX,hX]
 refine zB.i ?_ ?_<;>intro h
 ·have h:leB (fv (cd X X))=leB (0-fv a):=h
  have h1:r0 (fv a)*r0 (fv a)=0-fv a:=by rw[<-vXX];exact xl h
  have bR:=aP X J
  have vR:fv (cd X J)=nu (fv a):=by rw[ak bX bJ,hX,vJ];unfold nu;rw[if_pos h1]
  refine aH.i [[],[],[1],[1,2],r_4,r_5] r_6 (by kernel_rfl) ?_
  refine gD ?_
  refine Call.pure hJ rfl fc ?_
  rintro _ rfl
  refine gD ?_
  refine Call.pure (hM X J lX lJ) rfl fc ?_
  rintro _ rfl
  refine gD ?_
  obtain⟨R,hR⟩:∃r,cd X J=r:=⟨_,rfl⟩
  rw[hR]at bR vR⊢
  have lR:=bR.1
  refine Call.pure (hM R R lR lR) rfl fc ?_
  rintro _ rfl
  refine gD ?_
  refine Call.pure (hB (cd R R) (hml R R)) rfl fc ?_
  rintro _ rfl
  refine gD ?_
  refine uT a ha R bR vR _ _ (Le.i [] rfl fc rfl fc rfl)
 have h:¬leB (fv (cd X X))=leB (0-fv a):=h
 have h1:¬r0 (fv a)*r0 (fv a)=0-fv a:=by rw[<-vXX];exactλe=>h (by rw[e])
 have vR:fv X=nu (fv a):=by rw[hX];unfold nu;rw[if_neg h1]
 refine gB ?_
 refine uT a ha X bX vR _ _ (Le.i [] rfl fc rfl fc rfl)
end Go.Proofs.YtllmefnbacjjcaaGreat
namespace Go.Proofs.YtllmefnbacjjcaaGreat
open Go Go.Sx
def aBF (n:Int):Int:=if n<0\/1099511627776<n then 0 else n/16*16+16
theorem uK {n:Int} (h:n<0\/1099511627776<n):aBF n=0:=if_pos h
theorem yn {n:Int} (h1:¬n<0) (h2:¬1099511627776<n):aBF n=n/16*16+16:=if_neg (by omega)
theorem abT (n:Int):Sx.Fn Γ.P 31 [.i .i64 n] [] (λv _=>v= .i .i64 (aBF n)):=by
 refine aG (Γ:=Γ) (fn:=Tryz.f31) rfl rfl rfl rfl ?_
 refine zB.i ?_ ?_<;>intro h
 ·refine Ret.i (.i .i64 (aBF n)) [] [] rfl trivial rfl rfl ?_ rfl trivial rfl
  exact uK (Or.inl h)
 refine zB.i ?_ ?_<;>intro h2
 ·refine Ret.i (.i .i64 (aBF n)) [] [] rfl trivial rfl rfl ?_ rfl trivial rfl
  exact uK (Or.inr h2)
 refine gB ?_
 refine Ret.i (.i .i64 (aBF n)) [] [] rfl trivial rfl rfl ?_ rfl trivial rfl
 exact yn h h2
end Go.Proofs.YtllmefnbacjjcaaGreat
namespace Go.Proofs.YtllmefnbacjjcaaGreat
open Go Go.Sx
@[irreducible] def aM3 (n:Int):Int:=if n<0\/1024<n then 0 else n/16*16+32
theorem yo {n:Int} (h:n<0\/1024<n):aM3 n=0:=by unfold aM3;exact if_pos h
theorem mO {n:Int} (h1:¬n<0) (h2:¬1024<n):aM3 n=n/16*16+32:=by unfold aM3;exact if_neg (by omega)
theorem aUV (n:Int):Sx.Fn Γ.P 14 [.i .i64 n] [] (λv _=>v= .i .i64 (aM3 n)):=by
 refine aG (Γ:=Γ) (fn:=Tryz.f14) rfl rfl rfl rfl ?_
 refine gB ?_
 refine zB.i ?_ ?_<;>intro h
 ·refine gB ?_
  refine Ret.i (.i .i64 (aM3 n)) [] [] rfl trivial rfl rfl ?_ rfl trivial rfl
  exact yo (Or.inl h)
 have h:¬n<0:=h
 refine gB ?_
 refine zB.i ?_ ?_<;>intro h2
 ·refine gB ?_
  refine Ret.i (.i .i64 (aM3 n)) [] [] rfl trivial rfl rfl ?_ rfl trivial rfl
  exact yo (Or.inr h2)
 have h2:¬n>1024:=h2
 have e:=mO h (by omega)
 have e1:=yn h (by omega)
 refine Call.pure (abT n) rfl fc ?_
 rintro _ rfl
 rw[e1]
 refine gB ?_
 refine Ret.i (.i .i64 (aM3 n)) [] [] rfl trivial rfl rfl ?_ rfl trivial rfl
 exact fc
end Go.Proofs.YtllmefnbacjjcaaGreat
namespace Go.Proofs.YtllmefnbacjjcaaGreat
open Go Go.Sx
def aDF (n:Nat):Nat->List UInt8
 |0=>[]
 |s+1=>ofNat (n/256^s)::aDF n s
theorem iA (n:Nat):∀s,(aDF n s).length=s
 |0=>rfl
 |s+1=>by simp only[aDF,List.length_cons,iA n s]
theorem uj (n:Nat):∀{s j:Nat},j<s->(aDF n s).getD j 0=ofNat (n/256^(s-1-j))
 |0,j,h=>absurd h (Nat.not_lt_zero _)
 |s+1,0,_=>rfl
 |s+1,j+1,h=>by
  show(aDF n s).getD j 0=_
  rw[uj n (by omega),show s-1-j=s+1-1-(j+1) by omega]
theorem oI {a b:List UInt8} {n:Nat} (ha:a.length=n) (hb:b.length=n) (h:∀j,j<n->a.getD j 0=b.getD j 0):a=b:=by
 apply List.ext_getElem (by omega)
 intro i h1 h2
 have:=h i (by omega)
 rwa [getD_eq_getElem?_getD,getD_eq_getElem?_getD,List.getElem?_eq_getElem h1,List.getElem?_eq_getElem h2]at this
theorem aLH {l:List UInt8} {i j:Nat} {x:UInt8} (h:i<l.length):(l.set i x).getD j 0=if i=j then x else l.getD j 0:=by
 simp only[getD_eq_getElem?_getD,List.getElem?_set]
 split
 ·rfl
 rfl
def pK (x:UInt64) (s:Nat):Nat->List UInt8
 |0=>replicate s 0
 |i+1=>(pK x s i).set (s-1-i) (aF x (8*i)).toUInt8
theorem ik (x:UInt64) (s:Nat):∀i,(pK x s i).length=s
 |0=>List.length_replicate
 |i+1=>by simp only[pK,length_set,ik x s i]
theorem aJ3 (x:UInt64) {i:Nat} (hi:i<8):(aF x (8*i)).toUInt8=ofNat (x.toNat/256^i):=by
 apply UInt8.toNat_inj.1
 have hp:(256:Nat)^i=2^(8*i):=by rw[show(256:Nat)=2^8 from rfl,<-Nat.pow_mul]
 have hlt:x.toNat/2^(8*i)<2^64:=Nat.lt_of_le_of_lt (Nat.div_le_self _ _) x.toNat_lt
 rw[aF,Nat.shiftRight_eq_div_pow,hp,UInt64.toNat_toUInt8,UInt64.toNat_ofNat',UInt8.toNat_ofNat',Nat.mod_eq_of_lt hlt]
theorem aFI (x:UInt64) {s:Nat} (hs:s<=8):∀{i:Nat},i<=s->∀j,j<s->(pK x s i).getD j 0=if s-i<=j then ofNat (x.toNat/256^(s-1-j))else 0
 |0,_,j,hj=>by rw[if_neg (by omega)];simp[pK,getD_eq_getElem?_getD,hj]
 |i+1,hi,j,hj=>by
  simp only[pK]
  rw[aLH (by rw[ik];omega),aFI x hs (by omega) j hj]
  by_cases h:s-1-i=j
  ·rw[if_pos h,if_pos (by omega),aJ3 x (by omega),show s-1-j=i by omega]
  rw[if_neg h]
  by_cases h2:s-i<=j
  ·rw[if_pos h2,if_pos (by omega)]
  rw[if_neg h2,if_neg (by omega)]
theorem aTB (x:UInt64) {s:Nat} (hs:s<=8):pK x s s=aDF x.toNat s:=by
 refine oI (ik x s s) (iA _ _) λj hj=>?_
 rw[aFI x hs (Nat.le_refl _) j hj,if_pos (by omega),uj _ hj]
theorem aa8 (x:UInt64) (s:Nat) (h1:1<=s) (h8:s<=8) (hx:s<8->aF x (8*s)=0):Sx.Fn Γ.P 92 [.u64 x,.i .i64 (s:Int)] []
  (λv M=>v= .tup [.sl 1001 0 0 s s,.tt]/\M=[(1001,.mem true 0 [(s,.a8 (aDF x.toNat s))])]):=by
 have hz:pK x s 0=replicate s 0:=rfl
 have hall:=aTB x h8
 refine aG (Γ:=Γ) (fn:=Tryz.f92) rfl rfl rfl rfl ?_
 refine zB.i (λh=>absurd h (by omega)) (λ_=>?_)
 refine zB.i (λh=>absurd h (by omega)) (λ_=>?_)
 refine zB.i ?_ ?_<;>intro h
 ·have h:(s:Int)<8:=h
  have e0:((8:Int)*(s:Int)).toNat=8*s:=by omega
  have hx:=hx (by omega)
  refine gB ?_
  refine zB.i (λhn=>?_) (λ_=>?_)
  ·exact absurd (by rw[e0];exact hx) hn
  refine gB ?_
  refine aY.i (σ:=Nat) (λi=>i<=s)
   (λi=>([(0,.u64 x),(1,.i .i64 (s:Int)),(6,.sl 26 0 0 s s),(28,.i .i64 (s:Int)),(29,.i .i64 (i:Int))],[(26,.mem true 0 [(s,.a8 (pK x s i))])])) (λi=>s-i) 0 (zero_le _) ?_ ?_
  ·refine Le.i [] rfl fc rfl fc rfl
  rintro i hi
  have hl:=ik x s i
  refine zB.i ?_ ?_<;>intro hc
  ·have hc:(i:Int)<s:=hc
   have hs:pK x s (i+1)=(pK x s i).set (s-1-i) (aF x (8*i)).toUInt8:=rfl
   have e1:((s:Int)-1-(i:Int)).toNat=s-1-i:=by omega
   have e2:((8:Int)*(i:Int)).toNat=8*i:=by omega
   repeat refine sdJ ?_
   refine⟨i+1,by omega,by omega,Le.i [] rfl fc rfl fcJ rfl⟩
  obtain rfl:i=s:=by have hc:¬(i:Int)<s:=hc;omega
  refine gB ?_
  refine Ret.i (.tup [.sl 1001 0 0 i i,.tt]) [(1001,.mem true 0 [(i,.a8 (aDF x.toNat i))])] [(1001,(26,0,none))] rfl ?_ ⟨rfl,rfl⟩ rfl ?_ rfl ?_ rfl
  ·exact fc
  ·exact fc
  repeat' first|exact trivial|refine zA.app ?_ ?_|refine zA.zd ?_ ?_|refine zA.cons ?_ ?_|exact fc|fail
  all_goals exact hall.symm
 refine gB ?_
 refine aY.i (σ:=Nat) (λi=>i<=s)
  (λi=>([(0,.u64 x),(1,.i .i64 (s:Int)),(6,.sl 26 0 0 s s),(28,.i .i64 (s:Int)),(29,.i .i64 (i:Int))],[(26,.mem true 0 [(s,.a8 (pK x s i))])])) (λi=>s-i) 0 (zero_le _) ?_ ?_
 ·refine Le.i [] rfl fc rfl fc rfl
 rintro i hi
 have hl:=ik x s i
 refine zB.i ?_ ?_<;>intro hc
 ·have hc:(i:Int)<s:=hc
  have hs:pK x s (i+1)=(pK x s i).set (s-1-i) (aF x (8*i)).toUInt8:=rfl
  have e1:((s:Int)-1-(i:Int)).toNat=s-1-i:=by omega
  have e2:((8:Int)*(i:Int)).toNat=8*i:=by omega
  repeat refine sdJ ?_
  refine⟨i+1,by omega,by omega,Le.i [] rfl fc rfl fcJ rfl⟩
 obtain rfl:i=s:=by have hc:¬(i:Int)<s:=hc;omega
 refine gB ?_
 refine Ret.i (.tup [.sl 1001 0 0 i i,.tt]) [(1001,.mem true 0 [(i,.a8 (aDF x.toNat i))])] [(1001,(26,0,none))] rfl ?_ ⟨rfl,rfl⟩ rfl ?_ rfl ?_ rfl
 ·exact fc
 ·exact fc
 repeat' first|exact trivial|refine zA.app ?_ ?_|refine zA.zd ?_ ?_|refine zA.cons ?_ ?_|exact fc|fail
 all_goals exact hall.symm
end Go.Proofs.YtllmefnbacjjcaaGreat
namespace Go.Proofs.YtllmefnbacjjcaaGreat
open Go Go.Sx
def xK (x:UInt64):Nat->UInt64
 |0=>x
 |i+1=>xK x i/256
theorem acE (x:UInt64):∀i,(xK x i).toNat=x.toNat/256^i
 |0=>by simp[xK]
 |i+1=>by
  simp only[xK,UInt64.toNat_div]
  rw[acE x i,Nat.div_div_eq_div_mul,Nat.pow_succ]
  rfl
def qK (x:UInt64) (s:Nat):Nat->List UInt8
 |0=>replicate s 0
 |i+1=>(qK x s i).set (s-1-i) (xK x i%256).toUInt8
theorem acF (x:UInt64) (s:Nat):∀i,(qK x s i).length=s
 |0=>List.length_replicate
 |i+1=>by simp only[qK,length_set,acF x s i]
theorem acJ (x:UInt64) (i:Nat):(xK x i%256).toUInt8=ofNat (x.toNat/256^i):=by
 apply UInt8.toNat_inj.1
 rw[UInt64.toNat_toUInt8,UInt64.toNat_mod,acE,UInt8.toNat_ofNat']
 show _%256%256=_%256
 rw[Nat.mod_mod]
theorem acP (x:UInt64) {s:Nat} (hs:s<=8):∀i,i<=s->qK x s i=pK x s i
 |0,_=>rfl
 |i+1,h=>by simp only[qK,pK];rw[acP x hs i (by omega),acJ,aJ3 x (by omega)]
theorem acQ (x:UInt64) {s:Nat} (hs:s<=8):qK x s s=aDF x.toNat s:=by
 rw[acP x hs s (Nat.le_refl _),aTB x hs]
theorem acR (x:UInt64) (s:Nat) (h1:1<=s) (h8:s<=8) (hx:x.toNat/256^s=0):Sx.Fn Γ.P 116 [.u64 x,.i .i64 (s:Int)] []
  (λv M=>v= .tup [.sl 1001 0 0 s s,.tt]/\M=[(1001,.mem true 0 [(s,.a8 (aDF x.toNat s))])]):=by
 have hz:qK x s 0=replicate s 0:=rfl
 have hz2:xK x 0=x:=rfl
 have hall:=acQ x h8
 have hx0:xK x s=0:=by
  apply UInt64.toNat_inj.1
  rw[acE,hx];rfl
 refine aG (Γ:=Γ) (fn:=Tryz.f116) rfl rfl rfl rfl ?_
 refine zB.i (λh=>absurd h (by omega)) (λ_=>?_)
 refine zB.i (λh=>absurd h (by omega)) (λ_=>?_)
 refine gB ?_
 refine aY.i (σ:=Nat) (λi=>i<=s)
  (λi=>([(0,.u64 (xK x i)),(1,.i .i64 (s:Int)),(6,.sl 15 0 0 s s),(7,.i .i64 ((s:Int)-1-(i:Int)))],[(15,.mem true 0 [(s,.a8 (qK x s i))])])) (λi=>s-i) 0 (zero_le _) ?_ ?_
 ·refine Le.i [] rfl fc rfl fc rfl
 rintro i hi
 have hl:=acF x s i
 refine zB.i ?_ ?_<;>intro hc
 ·have hc:(s:Int)-1-(i:Int)≥0:=hc
  have hs:qK x s (i+1)=(qK x s i).set (s-1-i) (xK x i%256).toUInt8:=rfl
  have hs2:xK x (i+1)=xK x i/256:=rfl
  have e1:((s:Int)-1-(i:Int)).toNat=s-1-i:=by omega
  have n1:(256:UInt64)≠0:=by decide
  repeat refine sdK ?_
  refine⟨i+1,by omega,by omega,Le.i [] rfl fc rfl fcK rfl⟩
 obtain rfl:i=s:=by have hc:¬(s:Int)-1-(i:Int)≥0:=hc;omega
 refine gB ?_
 refine zB.i (λhn=>absurd hx0 hn) (λ_=>?_)
 refine gB ?_
 refine Ret.i (.tup [.sl 1001 0 0 i i,.tt]) [(1001,.mem true 0 [(i,.a8 (aDF x.toNat i))])] [(1001,(15,0,none))] rfl ?_ ⟨rfl,rfl⟩ rfl ?_ rfl ?_ rfl
 ·exact fc
 ·exact fc
 repeat' first|exact trivial|refine zA.app ?_ ?_|refine zA.zd ?_ ?_|refine zA.cons ?_ ?_|exact fc|fail
 all_goals exact hall.symm
theorem acI {n s:Nat} (h:n<256^s):n/256^s=0:=Nat.div_eq_of_lt h
theorem kA {n:Nat} (h:n<18446744073709551616):(ofInt (n:Int)).toNat=n:=by
 have e:ofInt (n:Int)=UInt64.ofNat n:=by
  unfold ofInt
  congr 1;omega
 rw[e,UInt64.toNat_ofNat',Nat.mod_eq_of_lt (by omega)]
theorem aJ2 {x:UInt64} {k:Nat} (h:x.toNat/2^k=0):aF x k=0:=by
 rw[aF,Nat.shiftRight_eq_div_pow,h];rfl
theorem acS (n s:Nat) (h1:1<=s) (h8:s<=8) (hn:n<256^s) (hn64:n<18446744073709551616):Sx.Fn Γ.P 90 [.i .i64 (n:Int),.i .i64 (s:Int)] []
  (λv M=>v= .sl 1001 0 0 s s/\M=[(1001,.mem true 0 [(s,.a8 (aDF n s))])]):=by
 have hP:=acR (ofInt (n:Int)) s h1 h8 (by rw[kA hn64];exact acI hn)
 rw[kA hn64]at hP
 refine aG (Γ:=Γ) (fn:=Tryz.f90) rfl rfl rfl rfl ?_
 refine gB ?_
 refine Call.i hP [(1001,(1001,0,none))] rfl fc rfl fc rfl ?_
 rintro _ _ ⟨rfl,rfl⟩
 refine gB ?_
 refine Ret.i (.sl 1001 0 0 s s) [(1001,.mem true 0 [(s,.a8 (aDF n s))])] [(1001,(1001,0,none))] rfl fc ⟨rfl,rfl⟩ rfl fc rfl fc rfl
theorem aa5 {b:List UInt8} (h:b.length=4):∃b0 b1 b2 b3,b=[b0,b1,b2,b3]:=by
 rcases b with _|⟨b0,_|⟨b1,_|⟨b2,_|⟨b3,_|⟨b4,r⟩⟩⟩⟩⟩<;>simp at h
 exact⟨b0,b1,b2,b3,rfl⟩
@[irreducible] def kC (n:Nat):List UInt8:=[ofNat 116,ofNat 101,ofNat 114,ofNat 109]++(aDF n 4++replicate 24 0)
theorem oD (n:Nat):kC n=[ofNat 116,ofNat 101,ofNat 114,ofNat 109]++(aDF n 4++replicate 24 0):=by unfold kC;rfl
theorem bc (n:Nat):(kC n).length=32:=by rw[oD];simp[iA]
theorem acT (n:Nat) (hn:n<4294967296):Sx.Fn Γ.P 50 [.i .i64 (n:Int)] [] (λv M=>v= .a8 (kC n)/\M=[]):=by
 have hN:=acS n 4 (by decide) (by decide) (by omega) (by omega)
 have hl:=iA n 4
 have he:=oD n
 generalize aDF n 4=b at hN hl he
 obtain⟨b0,b1,b2,b3,rfl⟩:=aa5 hl
 refine aG (Γ:=Γ) (fn:=Tryz.f50) rfl rfl rfl rfl ?_
 refine gB ?_
 refine aH.i [[],[],[1],[0,1,2]] r_4 (by kernel_rfl) ?_
 refine gB ?_
 refine Call.i hN [(1001,(8,0,none))] rfl fc rfl fc rfl ?_
 rintro _ _ ⟨rfl,rfl⟩
 refine cL.i [(8,.mem true 0 [(4,.a8 [b0,b1,b2,b3])])] rfl rfl ?_
 refine gB ?_
 refine Ret.i (.a8 (kC n)) [] [] rfl ?_ ⟨rfl,rfl⟩ rfl ?_ rfl trivial rfl
 ·exact fc
 repeat' first|exact trivial|refine zA.app ?_ ?_|refine zA.zd ?_ ?_|refine zA.cons ?_ ?_|exact fc|fail
 all_goals(rw[he];exact rfl)
theorem aYG (n:Nat) (hn:n<4294967296):Sx.Fn Γ.P 52 [.i .i64 (n:Int)] [] (λv M=>v= .a8 (kC n)/\M=[]):=by
 have hN:=aa8 (ofInt (n:Int)) 4 (by decide) (by decide) (λ_=>aJ2 (by rw[kA (by omega)];omega))
 rw[kA (by omega)]at hN
 have hl:=iA n 4
 have he:=oD n
 generalize aDF n 4=b at hN hl he
 obtain⟨b0,b1,b2,b3,rfl⟩:=aa5 hl
 refine aG (Γ:=Γ) (fn:=Tryz.f52) rfl rfl rfl rfl ?_
 refine gB ?_
 refine Call.i hN [(1001,(11,0,none))] rfl fc rfl fc rfl ?_
 rintro _ _ ⟨rfl,rfl⟩
 refine gB ?_
 refine Ret.i (.a8 (kC n)) [] [] rfl ?_ ⟨rfl,rfl⟩ rfl ?_ rfl trivial rfl
 ·exact fc
 repeat' first|exact trivial|refine zA.app ?_ ?_|refine zA.zd ?_ ?_|refine zA.cons ?_ ?_|exact fc|fail
 all_goals(rw[he];exact rfl)
end Go.Proofs.YtllmefnbacjjcaaGreat
