/- Walks. -/
import Derived.Test.YtllmefnbacjjcaaGreatHwSs5ToCv4
import Derived.Test.YtllmefnbacjjcaaGreatHwSc8ToSg3
import Derived.Test.YtllmefnbacjjcaaGreatHwRp1ToRl1
import Derived.Test.YtllmefnbacjjcaaGreatHx7
import Derived.Test.YtllmefnbacjjcaaGreatHwFe4ToTm2
import Derived.Test.YtllmefnbacjjcaaGreatHwTm10ToAes4
set_option linter.unusedSimpArgs false
set_option linter.unusedVariables false
set_option maxHeartbeats 4000000
open List (replicate take take_of_length_le drop)
open Nat (le_refl)
set_option maxRecDepth 100000
namespace Go.Proofs.YtllmefnbacjjcaaGreat
open Go Go.Sx Go.Cu
theorem aHH (p:List UInt8) (hp:p.length=32):Sx.Fn Γ.P 9 [.agg [(1,.nilp)],.a8 p] [] (λv _=>v= .a8 (spB p)):=by
 have c:=aaK p hp
 have l:=gU p
 generalize spB p=R at *
 refine aG (Γ:=Γ) (fn:=Tryz.f9) rfl rfl rfl rfl ?_
 refine gB ?_
 repeat(first|(refine zB.i (λ_=>?_) (λhn=>absurd rfl hn))|refine ky0 ?_|refine kn0 ?_|refine sd ?_)
 refine Call.pure c rfl fc ?_
 rintro _ rfl
 refine gA ?_
 refine Ret.i (.a8 R) [] [] rfl fc rfl rfl fc rfl fc rfl
theorem aQ6 (p q:List UInt8) (n:Nat) (hp:p.length=32) (hq:q.length=n) (hn:n<=4096):Sx.Fn Γ.P 7 [.agg [(1,.nilp)],.a8 p,.isl 0 n 1 [(n,.a8 q)]] [] (λv _=>v= .a8 (sgB p q)):=by
 have c:=abZ p q n hp hq hn
 have l:=gX p q
 generalize sgB p q=R at *
 refine aG (Γ:=Γ) (fn:=Tryz.f7) rfl rfl rfl rfl ?_
 refine gB ?_
 refine zB.i ?_ ?_<;>intro hc
 ·have hc:(n:Int)>4096:=hc
  exact absurd hc (by omega)
 refine gB ?_
 repeat(first|(refine zB.i (λ_=>?_) (λhn=>absurd rfl hn))|refine ky0 ?_|refine kn0 ?_|refine sd ?_)
 refine Call.pure c rfl fc ?_
 rintro _ rfl
 refine gA ?_
 refine Ret.i (.a8 R) [] [] rfl fc rfl rfl fc rfl fc rfl
theorem aLV (p q:List UInt8) (n:Nat) (hp:p.length=32) (hq:q.length=n) (hn:n<=4096):Sx.Fn Γ.P 10 [.agg [(1,.nilp)],.a8 p,.isl 0 n 1 [(n,.a8 q)]] [] (λv _=>v= .a8 (sgB p q)):=by
 have c:=abX p q n hp hq hn
 have l:=gX p q
 generalize sgB p q=R at *
 refine aG (Γ:=Γ) (fn:=Tryz.f10) rfl rfl rfl rfl ?_
 refine gB ?_
 refine zB.i ?_ ?_<;>intro hc
 ·have hc:(n:Int)>4096:=hc
  exact absurd hc (by omega)
 refine gB ?_
 repeat(first|(refine zB.i (λ_=>?_) (λhn=>absurd rfl hn))|refine ky0 ?_|refine kn0 ?_|refine sd ?_)
 refine Call.pure c rfl fc ?_
 rintro _ rfl
 refine gA ?_
 refine Ret.i (.a8 R) [] [] rfl fc rfl rfl fc rfl fc rfl
theorem aHF (w q s:List UInt8) (n:Nat) (hw:w.length=32) (hq:q.length=n) (hn:n<=4096) (hs:s.length=64):Sx.Fn Γ.P 8 [.agg [(1,.nilp)],.a8 w,.isl 0 n 1 [(n,.a8 q)],.a8 s] [] (λv _=>v= .bool (vrf w q s)):=by
 have c:=abY w q s n hw hq (by omega) hs
 generalize vrf w q s=V at *
 refine aG (Γ:=Γ) (fn:=Tryz.f8) rfl rfl rfl rfl ?_
 refine gB ?_
 refine zB.i ?_ ?_<;>intro hc
 ·have hc:(n:Int)>4096:=hc
  exact absurd hc (by omega)
 refine gB ?_
 repeat(first|(refine zB.i (λ_=>?_) (λhn=>absurd rfl hn))|refine ky0 ?_|refine kn0 ?_|refine sd ?_)
 refine Call.pure c rfl fc ?_
 rintro _ rfl
 refine gA ?_
 refine Ret.i (.bool V) [] [] rfl ?_ rfl rfl ?_ rfl ?_ rfl
 ·exact fc
 ·repeat' first|exact trivial|refine zA.app ?_ ?_|refine zA.zd ?_ ?_|refine zA.cons ?_ ?_|exact fc|fail
  all_goals exact Iff.rfl
 exact fc
theorem aLT (p q:List UInt8) (n:Nat) (hp:p.length=32) (hq:q.length=n) (hn:4096<n):Sx.Fn Γ.P 7 [.agg [(1,.nilp)],.a8 p,.isl 0 n 1 [(n,.a8 q)]] [] (λv _=>v= .a8 (replicate 64 0)):=by
 refine aG (Γ:=Γ) (fn:=Tryz.f7) rfl rfl rfl rfl ?_
 refine gB ?_
 refine zB.i ?_ ?_<;>intro hc
 ·refine gB ?_
  refine Ret.i (.a8 (replicate 64 0)) [] [] rfl fc rfl rfl fc rfl fc rfl
 have hc:¬(n:Int)>4096:=hc
 exact absurd hc (by omega)
theorem aCD (w q s:List UInt8) (n:Nat) (hw:w.length=32) (hq:q.length=n) (hn:4096<n) (hs:s.length=64):Sx.Fn Γ.P 8 [.agg [(1,.nilp)],.a8 w,.isl 0 n 1 [(n,.a8 q)],.a8 s] [] (λv _=>v= .ff):=by
 refine aG (Γ:=Γ) (fn:=Tryz.f8) rfl rfl rfl rfl ?_
 refine gB ?_
 refine zB.i ?_ ?_<;>intro hc
 ·refine gB ?_
  refine Ret.i .ff [] [] rfl fc rfl rfl fc rfl fc rfl
 have hc:¬(n:Int)>4096:=hc
 exact absurd hc (by omega)
end Go.Proofs.YtllmefnbacjjcaaGreat
namespace Go.Proofs.YtllmefnbacjjcaaGreat
open Go Go.Sx
theorem aVL {a b:List UInt8} (ha:a.length=32) (hb:b.length=32) (h:bv a 32=bv b 32):a=b:=
 vi ha hb λi hi=>by rw[<-ta a hi,<-ta b hi,h]
theorem aVK {w:List UInt64}:bv (xN w 32) 32=wv w 4:=by
 unfold bv
 rw[dt (by decide) (W:=wv w 4) λi hi=>aFL w hi]
 have h:=wS w 4
 exact Nat.mod_eq_of_lt (by rw[show(256:Nat)^32=18446744073709551616^4 by decide];exact h)
theorem bR (b:List UInt8):bv (sf b) 32=bv b b.length%Ln:=by rw[<-aE7,aVK,mg]
theorem aVM {d:List Int} (h:Dig d) {W:Nat} (hW:dv d 16=(W:Int)):bv (byS d 16) 32=W%256^32:=dt (by decide) λi hi=>aOK h hW hi
theorem bM (a b c:List UInt8):bv (acG a b c) 32=(bv c 32+bv a 32*bv b 32)%Ln:=by
 rw[sh]
 have da:=(dC a 32).1
 have db:=(dC b 32).1
 have dc:=(dC c 32).1
 rw[aVM (iH (kD da db dc 16) _ _) (W:=(bv c 32+bv a 32*bv b 32)%Ln)]
 ·refine Nat.mod_eq_of_lt (Nat.lt_trans (Nat.mod_lt _ (by decide)) (by decide))
 rw[aF5 (kD da db dc 16),ph da db dc 16 (le_refl _)]
 have ea:=jA a 32
 have eb:=jA b 32
 have ec:=jA c 32
 rw[show(32+1)/2=16 from rfl]at ea eb ec
 rw[ea,eb,ec]
 rfl
end Go.Proofs.YtllmefnbacjjcaaGreat
namespace Go.Proofs.YtllmefnbacjjcaaGreat
open Go Go.Sx Go.Cu
theorem aMM {b:List UInt8} (h:b.length=32):bv b 32=lv b:=by
 have hl:=aGL b
 rw[h]at hl
 unfold bv
 rw[dt (by decide) (W:=lv b) (f:=by_ b) λi _=>(uy b i).symm,Nat.mod_eq_of_lt hl]
theorem aQQ {a b c:List UInt8} (ha:a.length=32) (hb:b.length=32) (hc:c.length=32):lv (acG a b c)=(lv c+lv a*lv b)%Ln:=by
 rw[<-aMM (dN a b c),bM,aMM ha,aMM hb,aMM hc]
theorem aFA (a b c:List UInt8):sf (acG a b c)=acG a b c:=by
 refine aVL (fQ _) (dN _ _ _) ?_
 rw[bR,dN,bM,Nat.mod_mod]
def smT (s t:F×F×F):F×F×F:=
 let z:=s.2.2*t.2.2;let zz:=z*z;let xv:=s.1*t.1;let yw:=s.2.1*t.2.1;let xw:=s.1*t.2.1+s.2.1*t.1;let e:=dF*(xv*yw)
 (z*(zz-e)*xw,z*(zz+e)*(yw+xv),(zz+e)*(zz-e))
theorem aEJ {s t:F×F×F} {P Q:Pt} (h:Rep s.1 s.2.1 s.2.2 P) (k:Rep t.1 t.2.1 t.2.2 Q):Rep (smT s t).1 (smT s t).2.1 (smT s t).2.2 (P.add Q):=
 aE5 h k rfl rfl rfl rfl rfl rfl rfl rfl
def mlT (n:Nat):Nat->F×F×F
 |0=>(0,1,1)
 |k+1=>if n/2^(252-k)%2=1 then smT (smT (mlT n k) (mlT n k)) (aVQ,aR0,1)else smT (mlT n k) (mlT n k)
theorem aF6 {n:Nat} (hn:n<2^253):∀k,k<=253->Rep (mlT n k).1 (mlT n k).2.1 (mlT n k).2.2 (basP.mul (n/2^(253-k)))
 |0,_=>by rw[Nat.div_eq_of_lt hn];exact aPR
 |k+1,h=>by
  have ih:=aF6 hn k (by omega)
  have d:=aEJ ih ih
  rw[Pt.mul_dbl]at d
  have e:=Pt.mul_top basP n (252-k)
  rw[show 252-k+1=253-k by omega]at e
  rw[show 253-(k+1)=252-k by omega,e]
  show Rep (ite _ _ _:F×F×F).1 (ite _ _ _:F×F×F).2.1 (ite _ _ _:F×F×F).2.2 _
  by_cases hb:n/2^(252-k)%2=1
  ·rw[if_pos hb,if_pos hb]
   exact aEJ (t:=(aVQ,aR0,1)) d ⟨aFP,by show aVQ=aVQ*1;exact gr,by show aR0=aR0*1;exact gr⟩
  rw[if_neg hb,if_neg hb];exact d
theorem zU:(mlT Ln 253).1 = 0/\(mlT Ln 253).2.1 = (mlT Ln 253).2.2:=by decide +kernel
theorem aXA:basP.mul Ln= .O:=by
 have h:=aF6 (n:=Ln) (by decide +kernel) 253 (le_refl _)
 rw[Nat.sub_self,Nat.pow_zero,Nat.div_one]at h
 have hx:=aPP h
 have hy:=aPO h
 rw[zU.1]at hx
 rw[zU.2]at hy
 have hz:=h.1
 refine Pt.ext' ?_ ?_
 ·rw[<-hx];show 0*_=(0:F);exact gr
 rw[<-hy];exact iv hz
theorem mul_mod (n:Nat):basP.mul (n%Ln)=basP.mul n:=by
 have e:=Nat.div_add_mod n Ln
 have h:basP.mul n=(basP.mul (Ln*(n/Ln))).add (basP.mul (n%Ln)):=by rw[<-Pt.mul_add,e]
 rw[h,Pt.mul_mul,aXA,aVY,Pt.O_add]
theorem aJM (s q:List UInt8):vrf (spB s) q (sgB s q):=by
 have lE:=dS (rrB s q)
 have t1:(sgB s q).take 32=qm (rrB s q):=by rw[uN];exact List.take_left' lE
 have t2:(sgB s q).drop 32=ssB s q:=by rw[uN];exact List.drop_left' lE
 have e:spB s=rD (pS (nuB s)):=by rw[ym,qM]
 obtain⟨d1,d2⟩:=yA (pS (nuB s))
 unfold vrf
 rw[t1,t2]
 refine⟨by rw[e];exact d1,by rw[uH];exact aFA _ _ _,?_⟩
 have hk:vkB (spB s) q (sgB s q)=kkB s q:=by rw[aDX,zw,t1]
 rw[hk,aDW,aMZ,qM]
 congr 1
 rw[e,d2,kq,kq,kq,uH,aQQ (mt s q) (fI s) (mU s q),mul_mod,Pt.mul_add,Nat.mul_comm,Pt.mul_mul,Pt.add_assoc,Pt.add_ng,Pt.add_O]
end Go.Proofs.YtllmefnbacjjcaaGreat
namespace Go.Proofs.YtllmefnbacjjcaaGreat
open Go Go.Sx
theorem acL (T:List Te) (N c:Nat) (hT:T.length=N) (hN:N<=60000) (hNc:N<=c) (hTv:∀x∈T,bP x.1 x.2) (k:Int) (p q:List UInt8) (hp:p.length<=4096) (hq:q.length<=4096) (T1:List Te) (o:Nat) (e1:(mk2 T k p q).1=T1) (e2:(mk2 T k p q).2=o):
  Sx.Fn Γ.P 24 [.ptr 1000 0 none,.i .i64 k,.slx 1003 0 0 2] (M12 N c T 1001 2 [p,q])
  (λv M=>∃n' c',T1.length=n'/\n'<=c'/\v= .tup [.a8 (kyB o),.bool (o≠0)]/\M=(1001,.dead)::M12 n' c' T1 1005 2 [p,q]):=by
 subst e1;subst e2
 rw[uv]
 refine acX T N c hT hN hNc (λx h=>by have:=(hTv x h).1.1;omega) k [p,q] 2 rfl (by omega) (λx hx=>?_)
 rcases List.mem_cons.1 hx with rfl|hx
 ·omega
 rw[List.mem_singleton.1 hx];omega
end Go.Proofs.YtllmefnbacjjcaaGreat
namespace Go.Proofs.YtllmefnbacjjcaaGreat
open Go Go.Sx
theorem vP (T:List Te) (N c:Nat) (hT:T.length=N) (hN:N<=60000) (hNc:N<=c) (hTv:∀x∈T,bP x.1 x.2) (p:List UInt8) (hp:p.length=32) (T1:List Te) (o:Nat) (e1:(mk1 T 5 p).1=T1) (e2:(mk1 T 5 p).2=o):
  Sx.Fn Γ.P 9 [.agg [(1,.ptr 1000 0 none)],.a8 p] (tbM N c T 1001)
  (λv M=>∃n' c',T1.length=n'/\n'<=c'/\v= .a8 (kyB o)/\M=(1001,.dead)::tbM n' c' T1 1005):=by
 have hM:=aaL T N c hT hN hNc hTv 5 [p] 1 rfl (by omega) (λx hx=>by rw[List.mem_singleton.1 hx];omega) T1 o (by rw[<-rn];exact e1) (by rw[<-rn];exact e2)
 have hkl:=zk o
 unfold MT rwS at hM
 unfold tbM
 refine cV [3] (Γ:=Γ) (fn:=Tryz.f9) rfl rfl rfl rfl ?_
 refine gB ?_
 refine zB.i (λhc=>absurd hc (by simp)) (λ_=>?_)
 refine Cut.i (σ:=Unit) (λ_=>True) (λ_=>([(2,.ptr 202 0 none),(3,.ptr 203 0 none),(4,.ptr 204 0 none)],[(202,.mem true 0 [(1,.ptr 1000 0 none)]),(203,.mem false 1 [(32,.a8 p)]),(204,.mem true 0 [(32,.a8 (replicate 32 0))]),
  (1000,.mem true 0 [(1,.sl 1001 0 0 N c),(1,.mp 1002)]),(1001,.mem true (zmE (c-N) 3) [(N*3,.arr N 3 (ttF T))]),(1002,.map (.si (mpL T)))])) () trivial (Le.ghost [.keep 3] [] [(202,(2,0,none)),(203,(3,0,none)),(204,(4,0,none))] rfl fc rfl rfl fc rfl fc rfl) ?_
 rintro - -
 refine aH.i [[],[],[1],[0,1,2],r_4] r_5 (by kernel_rfl) ?_
 refine gB ?_
 refine Call.name [(0,[]),(0,[]),(2001,[])] rfl fc (kW.i hM [(1000,(1000,0,none)),(1001,(1001,0,none)),(1002,(1002,0,none)),(1003,(2001,0,none)),(1005,(305,0,none))] rfl fc rfl ?_ rfl ?_)
 ·repeat' first|exact trivial|refine zA.app ?_ ?_|refine zA.zd ?_ ?_|refine zA.cons ?_ ?_|exact fc|fail
  all_goals exact aSX hp
 rintro v M' ⟨n',c',hn',hnc',rfl,rfl⟩
 refine gN ?_
 refine gB ?_
 refine Ret.i (.a8 (kyB o)) ((1001,.dead)::tbM n' c' T1 1005) [(1005,(305,0,none))] rfl fc ⟨n',c',hn',hnc',rfl,rfl⟩ rfl fc rfl fc rfl
@[irreducible] def sgF (o:Nat):List UInt8:=kyB o++replicate 32 0
theorem yx (o:Nat):sgF o=kyB o++replicate 32 0:=by unfold sgF;rfl
theorem mP (o:Nat):(sgF o).length=64:=by rw[yx,zlA,zk,List.length_replicate]
theorem yv (o:Nat):(sgF o).take 32=kyB o:=by rw[yx];exact List.take_left' (zk o)
theorem aJ5 (o:Nat):(sgF o).drop 32=replicate 32 0:=by rw[yx];exact List.drop_left' (zk o)
theorem aM6 (o:Nat):sgF o=take 0 (replicate 64 (0:UInt8))++take (min 32 64) (kyB o)++drop (0+min 32 64) (replicate 64 0):=by
 rw[yx,take_of_length_le (l:=kyB o) (by rw[zk];decide)]
 rfl
theorem aQ7 (T:List Te) (N c:Nat) (hT:T.length=N) (hN:N<=60000) (hNc:N<=c) (hTv:∀x∈T,bP x.1 x.2) (p q:List UInt8) (n:Nat) (hp:p.length=32) (hq:q.length=n) (hn:n<=4096) (T1:List Te) (o:Nat) (e1:(mk2 T 6 p q).1=T1) (e2:(mk2 T 6 p q).2=o):
  Sx.Fn Γ.P 7 [.agg [(1,.ptr 1000 0 none)],.a8 p,.isl 0 n 1 [(n,.a8 q)]] (tbM N c T 1001)
  (λv M=>∃n' c',T1.length=n'/\n'<=c'/\v= .a8 (sgF o)/\M=(1001,.dead)::tbM n' c' T1 1005):=by
 have hM:=aaL T N c hT hN hNc hTv 6 [p,q] 2 rfl (by omega) (λx hx=>by
  rcases List.mem_cons.1 hx with rfl|hx
  ·omega
  rw[List.mem_singleton.1 hx];omega) T1 o (by rw[<-uv];exact e1) (by rw[<-uv];exact e2)
 have hkl:=zk o
 have hsl:=mP o
 unfold MT rwS at hM
 unfold tbM
 refine cV [6,8] (Γ:=Γ) (fn:=Tryz.f7) rfl rfl rfl rfl ?_
 refine gB ?_
 refine zB.i ?_ ?_<;>intro hc
 ·have hc:(n:Int)>4096:=hc
  exact absurd hc (by omega)
 refine gB ?_
 refine zB.i (λhc=>absurd hc (by simp)) (λ_=>?_)
 refine gB ?_
 refine Cut.i (σ:=Unit) (λ_=>True) (λ_=>([(2,.isl 0 n 1 [(n,.a8 q)]),(3,.ptr 203 0 none),(4,.ptr 204 0 none),(6,.ptr 206 0 none),(7,.ptr 207 0 none)],[(203,.mem true 0 [(1,.ptr 1000 0 none)]),(204,.mem false 1 [(32,.a8 p)]),(206,.mem true 0 [(64,.a8 (replicate 64 0))]),(207,.mem true 0 [(64,.a8 (replicate 64 0))]),
  (1000,.mem true 0 [(1,.sl 1001 0 0 N c),(1,.mp 1002)]),(1001,.mem true (zmE (c-N) 3) [(N*3,.arr N 3 (ttF T))]),(1002,.map (.si (mpL T)))])) () trivial (Le.ghost [.keep 4] [] [(203,(3,0,none)),(204,(4,0,none)),(206,(6,0,none)),(207,(7,0,none))] rfl fc rfl rfl fc rfl fc rfl) ?_
 rintro - -
 refine aH.i [[],[],[],[1,2],r_4,[],r_6] [0,1,2,3,5,4,6] (by kernel_rfl) ?_
 refine gB ?_
 refine Call.name [(0,[]),(0,[]),(2001,[])] rfl fc (kW.i hM [(1000,(1000,0,none)),(1001,(1001,0,none)),(1002,(1002,0,none)),(1003,(2001,0,none)),(1005,(305,0,none))] rfl fc rfl ?_ rfl ?_)
 ·repeat' first|exact trivial|refine zA.app ?_ ?_|refine zA.zd ?_ ?_|refine zA.cons ?_ ?_|exact fc|fail
  ·exact xB hp
  exact xA hq
 rintro v M' ⟨n',c',hn',hnc',rfl,rfl⟩
 refine gN ?_
 refine gE ?_
 refine aH.i [[],[],[0,1]] [0,1,2] (by kernel_rfl) ?_
 refine gE ?_
 refine Cut.i (σ:=Unit) (λ_=>True) (λ_=>([(6,.ptr 206 0 none),(7,.ptr 207 0 none)],[(206,.mem true 0 [(64,.a8 (replicate 64 0))]),(207,.mem true 0 [(64,.a8 (sgF o))]),
  (1000,.mem true 0 [(1,.sl 305 0 0 n' c'),(1,.mp 1002)]),(1001,.dead),(305,.mem true (zmE (c'-n') 3) [(n'*3,.arr n' 3 (ttF T1))]),(1002,.map (.si (mpL T1)))])) () trivial (Le.i [(206,(206,0,none)),(207,(207,0,none))] rfl ?_ rfl ?_ rfl) ?_
 ·exact fc
 ·repeat' first|exact trivial|refine zA.app ?_ ?_|refine zA.zd ?_ ?_|refine zA.cons ?_ ?_|exact fc|fail
  all_goals(rw[aX0,zk];exact aM6 o)
 rintro - -
 refine gB ?_
 refine Ret.i (.a8 (sgF o)) ((1001,.dead)::tbM n' c' T1 1005) [(1005,(305,0,none))] rfl fc ⟨n',c',hn',hnc',rfl,rfl⟩ rfl fc rfl fc rfl
end Go.Proofs.YtllmefnbacjjcaaGreat
namespace Go.Proofs.YtllmefnbacjjcaaGreat
open Go Go.Sx
def vfy (T:List Te) (N:Nat) (signer text sig:List UInt8):Prop:=
 ∃q r a,iW (sig.take 32) N 0=q+1/\sig.drop 32=replicate 32 0/\T.getD q te0=(6,[a,text])/\iW signer N 0=r+1/\T.getD r te0=(5,[a])
theorem cpK {K X:List UInt8} (hX:X=K) (hl:K.length=32):K=take 0 (replicate 32 (0:UInt8))++take (min X.length 32) X++drop (0+min X.length 32) (replicate 32 0):=by
 subst hX
 have h:=aWS hl (le_refl _)
 rw[take_of_length_le (l:=X) (i:=32) (by omega)]at h
 exact h
theorem aHG (T:List Te) (N:Nat) (hT:T.length=N) (hN:N<=60000) (hTv:∀x∈T,bP x.1 x.2) (who text sig:List UInt8) (n:Nat) (hw:who.length=32) (hn:text.length=n) (hn1:n<=4096) (hs:sig.length=64):
  Sx.Fn Γ.P 8 [.agg [(1,.ptr 1000 0 none)],.a8 who,.isl 0 n 1 [(n,.a8 text)],.a8 sig] [(1000,.mem false 0 [(1,.slx 1001 0 0 N),(1,.mp 1002)]),(1001,.mem false 0 [(N*3,.arr N 3 (ttF T))]),(1002,.dead)]
  (λv M=>(vfy T N who text sig/\v= .tt/\M=[(1000,.mem false 0 [(1,.slx 1001 0 0 N),(1,.mp 1002)]),(1001,.mem false 0 [(N*3,.arr N 3 (ttF T))]),(1002,.dead)])\/
   (¬vfy T N who text sig/\v= .ff/\M=[(1000,.mem false 0 [(1,.slx 1001 0 0 N),(1,.mp 1002)]),(1001,.mem false 0 [(N*3,.arr N 3 (ttF T))]),(1002,.dead)])):=by
 obtain⟨K,hK⟩:∃K,sig.take 32=K:=⟨_,rfl⟩
 obtain⟨Z,hZ⟩:∃Z,sig.drop 32=Z:=⟨_,rfl⟩
 have hKl:K.length=32:=by rw[<-hK,zlT];omega
 have hZl:Z.length=32:=by rw[<-hZ,zlD];omega
 have eK:take 32 (drop 0 sig)=K:=by rw[List.drop_zero,hK]
 have eZ:take 32 (drop 32 sig)=Z:=by rw[hZ,take_of_length_le (by omega)]
 have hOf:=aYJ T N hT hN hTv K hKl
 have hOw:=aYJ T N hT hN hTv who hw
 refine cV [8,11] (Γ:=Γ) (fn:=Tryz.f8) rfl rfl rfl rfl ?_
 refine gB ?_
 refine zB.i ?_ ?_<;>intro hc
 ·have hc:(n:Int)>4096:=hc
  exact absurd hc (by omega)
 refine gB ?_
 refine zB.i (λhc=>absurd hc (by simp)) (λ_=>?_)
 refine gB ?_
 refine aH.i [[],[],[0,1]] [0,1,2] (by kernel_rfl) ?_
 refine gE ?_
 refine aH.i [[],[],[0,1]] [0,1,2] (by kernel_rfl) ?_
 refine gE ?_
 refine Cut.i (σ:=Unit) (λ_=>True) (λ_=>([(2,.isl 0 n 1 [(n,.a8 text)]),(4,.ptr 204 0 none),(5,.ptr 205 0 none),(9,.ptr 209 0 none),(10,.ptr 210 0 none)],[(204,.mem true 0 [(1,.ptr 1000 0 none)]),(205,.mem true 0 [(32,.a8 who)]),(209,.mem true 0 [(32,.a8 K)]),(210,.mem true 0 [(32,.a8 Z)]),
  (1000,.mem false 0 [(1,.slx 1001 0 0 N),(1,.mp 1002)]),(1001,.mem false 0 [(N*3,.arr N 3 (ttF T))]),(1002,.dead)])) () trivial (Le.i [(204,(4,0,none)),(205,(5,0,none)),(209,(9,0,none)),(210,(10,0,none))] rfl ?_ rfl ?_ rfl) ?_
 ·exact fc
 ·repeat' first|exact trivial|refine zA.app ?_ ?_|refine zA.zd ?_ ?_|refine zA.cons ?_ ?_|exact fc|fail
  all_goals first|(refine cpK ?_ hKl;exact eK)|(refine cpK ?_ hZl;exact eZ)
 rintro - -
 refine gB ?_
 refine Call.i hOf [(1000,(1000,0,none)),(1001,(1001,0,none)),(1002,(1002,0,none)),(1005,(305,0,none))] rfl fc rfl fc rfl ?_
 rintro v M' (⟨hz,rfl,rfl⟩|⟨q,L,k,c,g1,g2,g3,g4,g5,rfl,rfl⟩)
 ·have h0:¬vfy T N who text sig:=by
   rintro⟨q,r,a,f1,_⟩
   rw[hK,hz]at f1;omega
  refine gN ?_
  refine gB ?_
  by_cases c0:¬Z=replicate 32 0
  ·refine aH.i [[],[],[0,1],[0,1,2],r_4,r_5,r_6,r_7,r_8,r_9,ek,fe,kX,jO,oB,nw,na,jO,[0,1,2,3,4,5,6,7,8,9,10,11,12,17],uf,aJG] aJF (by kernel_rfl) ?_
   repeat(first|(refine zB.i (λ_=>?_) (λh=>(by with_reducible exact absurd c0 h)))|(refine zB.i (λh=>(by with_reducible exact absurd c0 h)) (λ_=>?_))|(refine zB.i (λh=>False.elim (by revert h;first|(simp ;done)|fail)) (λ_=>?_))|(refine zB.i (λ_=>?_) (λh=>False.elim (by revert h;first|(simp ;done)|fail)))|refine sd ?_)
   refine Ret.i .ff [(1000,.mem false 0 [(1,.slx 1001 0 0 N),(1,.mp 1002)]),(1001,.mem false 0 [(N*3,.arr N 3 (ttF T))]),(1002,.dead)] [] rfl fc (Or.inr ⟨h0,rfl,rfl⟩) rfl fc rfl fc rfl
  have c0:=Classical.not_not.1 c0
  refine aH.i [[],[],[0,1],[0,1,2],r_4,r_5,r_6,r_7,r_8,r_9,ek,fe,kX,jO,oB,nw,na,jO,[0,1,2,3,4,5,6,7,8,9,10,11,12,17],uf,aJG] aJF (by kernel_rfl) ?_
  repeat(first|(refine zB.i (λ_=>?_) (λh=>(by with_reducible exact absurd c0 h)))|(refine zB.i (λh=>(by with_reducible exact absurd c0 h)) (λ_=>?_))|(refine zB.i (λh=>False.elim (by revert h;first|(simp ;done)|fail)) (λ_=>?_))|(refine zB.i (λ_=>?_) (λh=>False.elim (by revert h;first|(simp ;done)|fail)))|refine sd ?_)
  refine Ret.i .ff [(1000,.mem false 0 [(1,.slx 1001 0 0 N),(1,.mp 1002)]),(1001,.mem false 0 [(N*3,.arr N 3 (ttF T))]),(1002,.dead)] [] rfl fc (Or.inr ⟨h0,rfl,rfl⟩) rfl fc rfl fc rfl
 have hV:=hTv _ (fq te0 (L:=T) (i:=q) (by omega))
 have hv0:vfy T N who text sig->Z=replicate 32 0/\∃a,T.getD q te0=(6,[a,text])/\∃r,iW who N 0=r+1/\T.getD r te0=(5,[a]):=by
  rintro⟨q',r,a,f1,f2,f3,f4,f5⟩
  rw[hK,g1]at f1
  obtain rfl:q=q':=by omega
  exact⟨hZ▸f2,a,f3,r,f4,f5⟩
 have hv1:Z=replicate 32 0->∀a r,T.getD q te0=(6,[a,text])->iW who N 0=r+1->T.getD r te0=(5,[a])->vfy T N who text sig:=λf1 a r f2 f3 f4=>⟨q,r,a,by rw[hK];exact g1,by rw[hZ];exact f1,f2,f3,f4⟩
 obtain⟨x,hx⟩:∃x,T.getD q te0=x:=⟨_,rfl⟩
 rw[hx]at hV g3 hv0 hv1⊢
 obtain rfl:x.2=L:=g3
 clear hOf
 refine gN ?_
 refine gB ?_
 by_cases c0:¬Z=replicate 32 0
 ·have h0:¬vfy T N who text sig:=λh=>c0 (hv0 h).1
  refine aH.i [[],[],[0,1],[0,1,2],r_4,r_5,r_6,r_7,r_8,r_9,ek,fe,kX,jO,oB,nw,na,jO,[0,1,2,3,4,5,6,7,8,9,10,11,12,17],uf,aJG] aJF (by kernel_rfl) ?_
  repeat(first|(refine zB.i (λ_=>?_) (λh=>(by with_reducible exact absurd c0 h)))|(refine zB.i (λh=>(by with_reducible exact absurd c0 h)) (λ_=>?_))|(refine zB.i (λh=>False.elim (by revert h;first|(simp ;done)|fail)) (λ_=>?_))|(refine zB.i (λ_=>?_) (λh=>False.elim (by revert h;first|(simp ;done)|fail)))|refine sd ?_)
  refine Ret.i .ff [(1000,.mem false 0 [(1,.slx 1001 0 0 N),(1,.mp 1002)]),(1001,.mem false 0 [(N*3,.arr N 3 (ttF T))]),(1002,.dead)] [] rfl fc (Or.inr ⟨h0,rfl,rfl⟩) rfl fc rfl fc rfl
 have c0:Z=replicate 32 0:=Classical.not_not.1 c0
 by_cases c1:¬x.1=6
 ·have h0:¬vfy T N who text sig:=λh=>by obtain⟨_,a,f,_⟩:=hv0 h;exact c1 (by rw[f])
  refine aH.i [[],[],[0,1],[0,1,2],r_4,r_5,r_6,r_7,r_8,r_9,ek,fe,kX,jO,oB,nw,na,jO,[0,1,2,3,4,5,6,7,8,9,10,11,12,17],uf,aJG] aJF (by kernel_rfl) ?_
  repeat(first|(refine zB.i (λ_=>?_) (λh=>(by with_reducible exact absurd c0 h)))|(refine zB.i (λh=>(by with_reducible exact absurd c0 h)) (λ_=>?_))|(refine zB.i (λh=>False.elim (by revert h;first|(simp[c0,c1];done)|fail)) (λ_=>?_))|(refine zB.i (λ_=>?_) (λh=>False.elim (by revert h;first|(simp[c0,c1];done)|fail)))|refine sd ?_)
  refine Ret.i .ff [(1000,.mem false 0 [(1,.slx 1001 0 0 N),(1,.mp 1002)]),(1001,.mem false 0 [(N*3,.arr N 3 (ttF T))]),(1002,.dead)] [] rfl fc (Or.inr ⟨h0,rfl,rfl⟩) rfl fc rfl fc rfl
 have c1:x.1=6:=Classical.not_not.1 c1
 by_cases c2:¬k=2
 ·have h0:¬vfy T N who text sig:=λh=>by obtain⟨_,a,f,_⟩:=hv0 h;exact c2 (by rw[<-g4,f];rfl)
  have c2':¬((k:Nat):Int)=2:=by omega
  refine aH.i [[],[],[0,1],[0,1,2],r_4,r_5,r_6,r_7,r_8,r_9,ek,fe,kX,jO,oB,nw,na,jO,[0,1,2,3,4,5,6,7,8,9,10,11,12,17],uf,aJG] aJF (by kernel_rfl) ?_
  repeat(first|(refine zB.i (λ_=>?_) (λh=>(by with_reducible exact absurd c0 h)))|(refine zB.i (λh=>(by with_reducible exact absurd c0 h)) (λ_=>?_))|(refine zB.i (λh=>False.elim (by revert h;first|(simp[c0,c1,c2,c2'];done)|fail)) (λ_=>?_))|(refine zB.i (λ_=>?_) (λh=>False.elim (by revert h;first|(simp[c0,c1,c2,c2'];done)|fail)))|refine sd ?_)
  refine Ret.i .ff [(1000,.mem false 0 [(1,.slx 1001 0 0 N),(1,.mp 1002)]),(1001,.mem false 0 [(N*3,.arr N 3 (ttF T))]),(1002,.dead)] [] rfl fc (Or.inr ⟨h0,rfl,rfl⟩) rfl fc rfl fc rfl
 have c2:k=2:=Classical.not_not.1 c2
 subst c2
 obtain⟨a,b,hab⟩:∃a b,x.2=[a,b]:=by
  match hL:x.2,g4 with
  |[a,b],_=>exact⟨a,b,rfl⟩
 have hal:a.length<=4096:=hV.1.2 a (by rw[hab];simp)
 have hbl:b.length<=4096:=hV.1.2 b (by rw[hab];simp)
 have hxe:x=(6,[a,b]):=by rw[<-c1,<-hab]
 rw[hab]
 have f0:([a,b]:List (List UInt8))[fL (addI none 0) (Ix.lit 0).val]?.getD []=a:=rfl
 have f1:([a,b]:List (List UInt8))[fL (addI none 0) (Ix.lit 1).val]?.getD []=b:=rfl
 have eT:take n text=text:=take_of_length_le (by omega)
 have eB:take b.length b=b:=take_of_length_le (le_refl _)
 by_cases c3:¬b=text
 ·have h0:¬vfy T N who text sig:=λh=>by
   obtain⟨_,a',f,_⟩:=hv0 h
   rw[hxe]at f
   simp only[zpI,List.cons.injEq,true_and,and_true]at f
   exact c3 f.2
  refine aH.i [[],[],[0,1],[0,1,2],r_4,r_5,r_6,r_7,r_8,r_9,ek,fe,kX,jO,oB,nw,na,jO,[0,1,2,3,4,5,6,7,8,9,10,11,12,17],uf,aJG] aJF (by kernel_rfl) ?_
  repeat(first|(refine zB.i (λ_=>?_) (λh=>(by with_reducible exact absurd c0 h)))|(refine zB.i (λh=>(by with_reducible exact absurd c0 h)) (λ_=>?_))|(refine zB.i (λh=>False.elim (by revert h;first|(simp[c0,c1,c3,f0,f1,eT,eB];done)|fail)) (λ_=>?_))|(refine zB.i (λ_=>?_) (λh=>False.elim (by revert h;first|(simp[c0,c1,c3,f0,f1,eT,eB];done)|fail)))|refine sd ?_)
  refine Ret.i .ff [(1000,.mem false 0 [(1,.slx 1001 0 0 N),(1,.mp 1002)]),(1001,.mem false 0 [(N*3,.arr N 3 (ttF T))]),(1002,.dead)] [] rfl fc (Or.inr ⟨h0,rfl,rfl⟩) rfl fc rfl fc rfl
 have c3:b=text:=Classical.not_not.1 c3
 subst c3
 refine aH.i [[],[],[0,1],[0,1,2],r_4,r_5,r_6,r_7,r_8,r_9,ek,fe,kX,jO,oB,nw,na,jO,[0,1,2,3,4,5,6,7,8,9,10,11,12,17],uf,aJG] aJF (by kernel_rfl) ?_
 repeat(first|(refine zB.i (λ_=>?_) (λh=>(by with_reducible exact absurd c0 h)))|(refine zB.i (λh=>(by with_reducible exact absurd c0 h)) (λ_=>?_))|(refine zB.i (λh=>False.elim (by revert h;first|(simp[c0,c1,f0,f1,eT,eB];done)|fail)) (λ_=>?_))|(refine zB.i (λ_=>?_) (λh=>False.elim (by revert h;first|(simp[c0,c1,f0,f1,eT,eB];done)|fail)))|refine sd ?_)
 refine Cut.i (σ:=Unit) (λ_=>True) (λ_=>([(4,.ptr 204 0 none),(5,.ptr 205 0 none),(12,.sl 305 0 0 2 c)],[(204,.mem true 0 [(1,.ptr 1000 0 none)]),(205,.mem true 0 [(32,.a8 who)]),(305,.mem true (c-2) [(2*1,.arr 2 1 (rwF [a,b]))]),
  (1000,.mem false 0 [(1,.slx 1001 0 0 N),(1,.mp 1002)]),(1001,.mem false 0 [(N*3,.arr N 3 (ttF T))]),(1002,.dead)])) () trivial (Le.i [(204,(204,0,none)),(205,(205,0,none)),(305,(305,0,none))] rfl fc rfl fc rfl) ?_
 rintro - -
 refine gB ?_
 refine Call.i hOw [(1000,(1000,0,none)),(1001,(1001,0,none)),(1002,(1002,0,none)),(1005,(306,0,none))] rfl fc rfl fc rfl ?_
 rintro v M' (⟨hz,rfl,rfl⟩|⟨r,L2,k2,d,w1,w2,w3,w4,w5,rfl,rfl⟩)
 ·have h0:¬vfy T N who b sig:=λh=>by
   obtain⟨_,a',_,r,f,_⟩:=hv0 h
   rw[hz]at f;omega
  refine gN ?_
  refine gB ?_
  refine aH.i [[],[0],[0,1],[0,1,2],r_4,r_5,r_6,r_7,r_8,r_9,ek,fe,r_8,[0,1,2,3,4,5,6,7,12],[0,1,2,3,4,5,6,7,12,13],[0,1,2,3,4,5,6,7,12,13,14],na,wG,aBU] uf (by kernel_rfl) ?_
  repeat(first|(refine zB.i (λ_=>?_) (λh=>(by with_reducible exact absurd c0 h)))|(refine zB.i (λh=>(by with_reducible exact absurd c0 h)) (λ_=>?_))|(refine zB.i (λh=>False.elim (by revert h;first|(simp ;done)|fail)) (λ_=>?_))|(refine zB.i (λ_=>?_) (λh=>False.elim (by revert h;first|(simp ;done)|fail)))|refine sd ?_)
  refine Ret.i .ff [(1000,.mem false 0 [(1,.slx 1001 0 0 N),(1,.mp 1002)]),(1001,.mem false 0 [(N*3,.arr N 3 (ttF T))]),(1002,.dead)] [] rfl fc (Or.inr ⟨h0,rfl,rfl⟩) rfl fc rfl fc rfl
 have hW:=hTv _ (fq te0 (L:=T) (i:=r) (by omega))
 have hu0:vfy T N who b sig->T.getD r te0=(5,[a]):=λh=>by
  obtain⟨_,a',f1,r',f2,f3⟩:=hv0 h
  rw[hxe]at f1
  simp only[zpI,List.cons.injEq,true_and,and_true]at f1
  rw[w1]at f2
  obtain rfl:r=r':=by omega
  rw[f1];exact f3
 have hu1:T.getD r te0=(5,[a])->vfy T N who b sig:=λh=>hv1 c0 a r hxe w1 h
 obtain⟨y,hy⟩:∃y,T.getD r te0=y:=⟨_,rfl⟩
 rw[hy]at hW w3 hu0 hu1⊢
 obtain rfl:y.2=L2:=w3
 clear hOw
 refine gN ?_
 refine gB ?_
 by_cases d1:¬y.1=5
 ·have h0:¬vfy T N who b sig:=λh=>d1 (by rw[hu0 h])
  refine aH.i [[],[0],[0,1],[0,1,2],r_4,r_5,r_6,r_7,r_8,r_9,ek,fe,r_8,[0,1,2,3,4,5,6,7,12],[0,1,2,3,4,5,6,7,12,13],[0,1,2,3,4,5,6,7,12,13,14],na,wG,aBU] uf (by kernel_rfl) ?_
  repeat(first|(refine zB.i (λ_=>?_) (λh=>(by with_reducible exact absurd c0 h)))|(refine zB.i (λh=>(by with_reducible exact absurd c0 h)) (λ_=>?_))|(refine zB.i (λh=>False.elim (by revert h;first|(simp[d1];done)|fail)) (λ_=>?_))|(refine zB.i (λ_=>?_) (λh=>False.elim (by revert h;first|(simp[d1];done)|fail)))|refine sd ?_)
  refine Ret.i .ff [(1000,.mem false 0 [(1,.slx 1001 0 0 N),(1,.mp 1002)]),(1001,.mem false 0 [(N*3,.arr N 3 (ttF T))]),(1002,.dead)] [] rfl fc (Or.inr ⟨h0,rfl,rfl⟩) rfl fc rfl fc rfl
 have d1:y.1=5:=Classical.not_not.1 d1
 by_cases d2:¬k2=1
 ·have h0:¬vfy T N who b sig:=λh=>d2 (by rw[<-w4,hu0 h];rfl)
  have d2':¬((k2:Nat):Int)=1:=by omega
  refine aH.i [[],[0],[0,1],[0,1,2],r_4,r_5,r_6,r_7,r_8,r_9,ek,fe,r_8,[0,1,2,3,4,5,6,7,12],[0,1,2,3,4,5,6,7,12,13],[0,1,2,3,4,5,6,7,12,13,14],na,wG,aBU] uf (by kernel_rfl) ?_
  repeat(first|(refine zB.i (λ_=>?_) (λh=>(by with_reducible exact absurd c0 h)))|(refine zB.i (λh=>(by with_reducible exact absurd c0 h)) (λ_=>?_))|(refine zB.i (λh=>False.elim (by revert h;first|(simp[d1,d2,d2'];done)|fail)) (λ_=>?_))|(refine zB.i (λ_=>?_) (λh=>False.elim (by revert h;first|(simp[d1,d2,d2'];done)|fail)))|refine sd ?_)
  refine Ret.i .ff [(1000,.mem false 0 [(1,.slx 1001 0 0 N),(1,.mp 1002)]),(1001,.mem false 0 [(N*3,.arr N 3 (ttF T))]),(1002,.dead)] [] rfl fc (Or.inr ⟨h0,rfl,rfl⟩) rfl fc rfl fc rfl
 have d2:k2=1:=Classical.not_not.1 d2
 subst d2
 obtain⟨a2,hab2⟩:∃a,y.2=[a]:=by
  match hL:y.2,w4 with
  |[a],_=>exact⟨a,rfl⟩
 have hal2:a2.length<=4096:=hW.1.2 a2 (by rw[hab2];simp)
 have hye:y=(5,[a2]):=by rw[<-d1,<-hab2]
 rw[hab2]
 have f3:([a,b]:List (List UInt8))[fL 0 (Ix.lit 0).val]?.getD []=a:=rfl
 have f2:([a2]:List (List UInt8))[fL (addI none 0) (Ix.lit 0).val]?.getD []=a2:=rfl
 have eA:take a.length a=a:=take_of_length_le (le_refl _)
 have eA2:take a2.length a2=a2:=take_of_length_le (le_refl _)
 by_cases d3:¬a2=a
 ·have h0:¬vfy T N who b sig:=λh=>by
   have:=hu0 h
   rw[hye]at this
   simp only[zpI,List.cons.injEq,true_and,and_true]at this
   exact d3 this
  refine aH.i [[],[0],[0,1],[0,1,2],r_4,r_5,r_6,r_7,r_8,r_9,ek,fe,r_8,[0,1,2,3,4,5,6,7,12],[0,1,2,3,4,5,6,7,12,13],[0,1,2,3,4,5,6,7,12,13,14],na,wG,aBU] uf (by kernel_rfl) ?_
  repeat(first|(refine zB.i (λ_=>?_) (λh=>(by with_reducible exact absurd c0 h)))|(refine zB.i (λh=>(by with_reducible exact absurd c0 h)) (λ_=>?_))|(refine zB.i (λh=>False.elim (by revert h;first|(simp[d1,d3,f0,f2,eA,eA2];done)|fail)) (λ_=>?_))|(refine zB.i (λ_=>?_) (λh=>False.elim (by revert h;first|(simp[d1,d3,f0,f2,eA,eA2];done)|fail)))|refine sd ?_)
  refine Ret.i .ff [(1000,.mem false 0 [(1,.slx 1001 0 0 N),(1,.mp 1002)]),(1001,.mem false 0 [(N*3,.arr N 3 (ttF T))]),(1002,.dead)] [] rfl ?_ (Or.inr ⟨h0,rfl,rfl⟩) rfl ?_ rfl ?_ rfl
  ·exact fc
  ·repeat' first|exact trivial|refine zA.app ?_ ?_|refine zA.zd ?_ ?_|refine zA.cons ?_ ?_|exact fc|fail
   all_goals(revert d1;simp[d1,d3,f0,f2,f3,eA,eA2])
  exact fc
 have d3:a2=a:=Classical.not_not.1 d3
 subst d3
 have h1:vfy T N who b sig:=hu1 hye
 refine aH.i [[],[0],[0,1],[0,1,2],r_4,r_5,r_6,r_7,r_8,r_9,ek,fe,r_8,[0,1,2,3,4,5,6,7,12],[0,1,2,3,4,5,6,7,12,13],[0,1,2,3,4,5,6,7,12,13,14],na,wG,aBU] uf (by kernel_rfl) ?_
 repeat(first|(refine zB.i (λ_=>?_) (λh=>(by with_reducible exact absurd c0 h)))|(refine zB.i (λh=>(by with_reducible exact absurd c0 h)) (λ_=>?_))|(refine zB.i (λh=>False.elim (by revert h;first|(simp[d1,f0,f2,eA,eA2];done)|fail)) (λ_=>?_))|(refine zB.i (λ_=>?_) (λh=>False.elim (by revert h;first|(simp[d1,f0,f2,eA,eA2];done)|fail)))|refine sd ?_)
 refine Ret.i .tt [(1000,.mem false 0 [(1,.slx 1001 0 0 N),(1,.mp 1002)]),(1001,.mem false 0 [(N*3,.arr N 3 (ttF T))]),(1002,.dead)] [] rfl ?_ (Or.inl ⟨h1,rfl,rfl⟩) rfl ?_ rfl ?_ rfl
 ·exact fc
 ·repeat' first|exact trivial|refine zA.app ?_ ?_|refine zA.zd ?_ ?_|refine zA.cons ?_ ?_|exact fc|fail
  all_goals(simp[d1,f0,f2,f3,eA,eA2])
 exact fc
end Go.Proofs.YtllmefnbacjjcaaGreat
namespace Go.Proofs.YtllmefnbacjjcaaGreat
open Go Go.Sx Go.Cu
theorem aJN {T:List Te} {X Y one two:List UInt8} {o w:Nat} (h6:Num T (6,[X,one]) o) (h5:Num T (5,[Y]) w) (hl:T.length<4294967296):vfy T T.length (kyB w) two (sgF o)↔one=two/\X=Y:=by
 obtain⟨a1,a2,a3⟩:=h6.getD
 obtain⟨b1,b2,b3⟩:=h5.getD
 constructor
 ·rintro⟨q,r,a,f1,f2,f3,f4,f5⟩
  rw[yv,sq a3 a2 hl]at f1
  rw[sq b3 b2 hl]at f4
  obtain rfl:q=o-1:=by omega
  obtain rfl:r=w-1:=by omega
  rw[a1]at f3
  rw[b1]at f5
  simp only[zpI,List.cons.injEq,true_and,and_true]at f3 f5
  exact⟨f3.2,f3.1.trans f5.symm⟩
 rintro⟨rfl,rfl⟩
 exact⟨o-1,w-1,X,by rw[yv,sq a3 a2 hl];omega,aJ5 o,a1,by rw[sq b3 b2 hl];omega,b1⟩
theorem aQK (T:List Te) {k:Int} (h1:1<=k) (h8:k<=8) {p q:List UInt8} (hp:p.length<=4096) (hq:q.length<=4096):Num (mk2 T k p q).1 (k,[p,q]) (mk2 T k p q).2:=by rw[uv];exact aF9 (x:=(k,_)) ⟨aT6 hp hq,h1,h8⟩
theorem aLW (T:List Te) (N c:Nat) (hT:T.length=N) (hN:N<=60000) (hNc:N<=c) (hTv:∀x∈T,bP x.1 x.2) (p q:List UInt8) (n:Nat) (hp:p.length=32) (hq:q.length=n) (hn:n<=4096) (T1:List Te) (o:Nat) (e1:(mk2 T 6 p q).1=T1) (e2:(mk2 T 6 p q).2=o):
  Sx.Fn Γ.P 10 [.agg [(1,.ptr 1000 0 none)],.a8 p,.isl 0 n 1 [(n,.a8 q)]] (rbM N c T 1001)
  (λv M=>∃n' c',T1.length=n'/\n'<=c'/\v= .a8 (sgF o)/\M=(1001,.dead)::rbM n' c' T1 1005):=by
 have hM:=acL T N c hT hN hNc hTv 6 p q (by omega) (by omega) T1 o e1 e2
 have hkl:=zk o
 have hsl:=mP o
 unfold M12 rwS at hM
 unfold rbM
 refine cV [6,8] (Γ:=Γ) (fn:=Tryz.f10) rfl rfl rfl rfl ?_
 refine gB ?_
 refine zB.i ?_ ?_<;>intro hc
 ·have hc:(n:Int)>4096:=hc
  exact absurd hc (by omega)
 refine gB ?_
 refine zB.i (λhc=>absurd hc (by simp)) (λ_=>?_)
 refine gB ?_
 refine Cut.i (σ:=Unit) (λ_=>True) (λ_=>([(2,.isl 0 n 1 [(n,.a8 q)]),(3,.ptr 203 0 none),(4,.ptr 204 0 none),(6,.ptr 206 0 none),(7,.ptr 207 0 none)],[(203,.mem true 0 [(1,.ptr 1000 0 none)]),(204,.mem false 1 [(32,.a8 p)]),(206,.mem true 0 [(64,.a8 (replicate 64 0))]),(207,.mem true 0 [(64,.a8 (replicate 64 0))]),
  (1000,.mem true 0 [(1,.sl 1001 0 0 N c)]),(1001,.mem true (zmE (c-N) 2) [(N*2,.arr N 2 (rtF T))])])) () trivial (Le.ghost [.keep 4] [] [(203,(3,0,none)),(204,(4,0,none)),(206,(6,0,none)),(207,(7,0,none))] rfl fc rfl rfl fc rfl fc rfl) ?_
 rintro - -
 refine aH.i [[],[0],[],[],[2,3],r_5,r_6,r_7,r_7,[],[0,1,2,3,4,5,6,7,9],fe] [0,1,2,3,4,9,5,6,7,8,10,11] (by kernel_rfl) ?_
 refine gE ?_
 refine Call.name [(0,[]),(0,[]),(2001,[])] rfl fc (kW.i hM [(1000,(1000,0,none)),(1001,(1001,0,none)),(1003,(2001,0,none)),(1005,(305,0,none))] rfl fc rfl ?_ rfl ?_)
 ·repeat' first|exact trivial|refine zA.app ?_ ?_|refine zA.zd ?_ ?_|refine zA.cons ?_ ?_|exact fc|fail
  ·exact xB hp
  exact xA hq
 rintro v M' ⟨n',c',hn',hnc',rfl,rfl⟩
 refine gN ?_
 refine gE ?_
 refine aH.i [[],[],[0,1]] [0,1,2] (by kernel_rfl) ?_
 refine gE ?_
 refine Cut.i (σ:=Unit) (λ_=>True) (λ_=>([(6,.ptr 206 0 none),(7,.ptr 207 0 none)],[(206,.mem true 0 [(64,.a8 (replicate 64 0))]),(207,.mem true 0 [(64,.a8 (sgF o))]),
  (1000,.mem true 0 [(1,.sl 305 0 0 n' c')]),(1001,.dead),(305,.mem true (zmE (c'-n') 2) [(n'*2,.arr n' 2 (rtF T1))])])) () trivial (Le.i [(206,(206,0,none)),(207,(207,0,none))] rfl ?_ rfl ?_ rfl) ?_
 ·exact fc
 ·repeat' first|exact trivial|refine zA.app ?_ ?_|refine zA.zd ?_ ?_|refine zA.cons ?_ ?_|exact fc|fail
  all_goals(rw[aX0,zk];exact aM6 o)
 rintro - -
 refine gB ?_
 refine Ret.i (.a8 (sgF o)) ((1001,.dead)::rbM n' c' T1 1005) [(1005,(305,0,none))] rfl fc ⟨n',c',hn',hnc',rfl,rfl⟩ rfl fc rfl fc rfl
theorem aLU (T:List Te) (N c:Nat) (p q:List UInt8) (n:Nat) (hp:p.length=32) (hq:q.length=n) (hn:4096<n):
  Sx.Fn Γ.P 7 [.agg [(1,.ptr 1000 0 none)],.a8 p,.isl 0 n 1 [(n,.a8 q)]] (tbM N c T 1001) (λv M=>v= .a8 (replicate 64 0)/\M=tbM N c T 1001):=by
 unfold tbM
 refine aG (Γ:=Γ) (fn:=Tryz.f7) rfl rfl rfl rfl ?_
 refine gB ?_
 refine zB.i ?_ ?_<;>intro hc
 ·refine gB ?_
  refine Ret.i (.a8 (replicate 64 0)) (tbM N c T 1001) [] rfl fc ⟨rfl,rfl⟩ rfl fc rfl fc rfl
 have hc:¬(n:Int)>4096:=hc
 exact absurd hc (by omega)
theorem aCE (T:List Te) (N c:Nat) (w q s:List UInt8) (n:Nat) (hw:w.length=32) (hq:q.length=n) (hn:4096<n) (hs:s.length=64):
  Sx.Fn Γ.P 8 [.agg [(1,.ptr 1000 0 none)],.a8 w,.isl 0 n 1 [(n,.a8 q)],.a8 s] (tbM N c T 1001) (λv M=>v= .ff/\M=tbM N c T 1001):=by
 unfold tbM
 refine aG (Γ:=Γ) (fn:=Tryz.f8) rfl rfl rfl rfl ?_
 refine gB ?_
 refine zB.i ?_ ?_<;>intro hc
 ·refine gB ?_
  refine Ret.i .ff (tbM N c T 1001) [] rfl fc ⟨rfl,rfl⟩ rfl fc rfl fc rfl
 have hc:¬(n:Int)>4096:=hc
 exact absurd hc (by omega)
end Go.Proofs.YtllmefnbacjjcaaGreat
