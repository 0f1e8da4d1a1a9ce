/- Walks. -/
import Derived.Test.YtaehfiohjkiajaaGreatHwMac4ToCv5
import Derived.Test.YtaehfiohjkiajaaGreatHwRf7ToZa1
import Derived.Test.YtaehfiohjkiajaaGreatHwTm2ToTb
import Derived.Test.YtaehfiohjkiajaaGreatHwOfToCbc1
set_option linter.unusedSimpArgs false
set_option linter.unusedVariables false
set_option maxHeartbeats 4000000
open List (replicate take take_of_length_le drop)
open UInt8 (ofNat)
open Nat (le_refl mul_one)
set_option maxRecDepth 100000
namespace Go.Proofs.YtaehfiohjkiajaaGreat
open Go Go.Sx
theorem vP (T:List Te) (N c:Nat) (hT:T.length=N) (hN:N<=60000) (hNc:N<=c) (hTv:∀x∈T,bP x.1 x.2) (p:List UInt8) (hp:p.length=32) (T1:List Te) (o:Nat) (e1:(mk1 T 5 p).1=T1) (e2:(mk1 T 5 p).2=o):
  Sx.Fn Γ.P 8 [.agg [(1,.ptr 1000 0 none)],.a8 p] (tbM N c T 1001)
  (λv M=>∃n' c',T1.length=n'/\n'<=c'/\v= .a8 (kyB o)/\M=(1001,.dead)::tbM n' c' T1 1005):=by
 have hM:=aYJ T N c hT hN hNc hTv 5 [p] 1 rfl (by omega) (λx hx=>by rw[List.mem_singleton.1 hx];omega) T1 o (by rw[<-rn];exact e1) (by rw[<-rn];exact e2);have hkl:=zk o;unfold MT rwS at hM;unfold tbM;refine cV [3] (Γ:=Γ) (fn:=Tryz.f8) rfl rfl rfl rfl ?_;refine gB ?_;refine zB.i (λhc=>absurd hc (by simp)) (λ_=>?_)
 refine Cut.i (σ:=Unit) (λ_=>True) (λ_=>([(2,.ptr 202 0 none),(3,.ptr 203 0 none),(4,.ptr 204 0 none)],[(202,.mem true 0 [(1,.ptr 1000 0 none)]),(203,.mem false 1 [(32,.a8 p)]),(204,.mem true 0 [(32,.a8 (replicate 32 0))]),
  (1000,.mem true 0 [(1,.sl 1001 0 0 N c),(1,.mp 1002)]),(1001,.mem true (zmE (c-N) 3) [(N*3,.arr N 3 (ttF T))]),(1002,.map (.si (mpL T)))])) () trivial (Le.ghost [.keep 3] [] [(202,(2,0,none)),(203,(3,0,none)),(204,(4,0,none))] rfl fc rfl rfl fc rfl fc rfl) ?_
 rintro - -;refine aH.i [[],[],[1],[0,1,2],r_4] r_5 (by kernel_rfl) ?_;refine gB ?_;refine Call.name [(0,[]),(0,[]),(2001,[])] rfl fc (kW.i hM [(1000,(1000,0,none)),(1001,(1001,0,none)),(1002,(1002,0,none)),(1003,(2001,0,none)),(1005,(305,0,none))] rfl fc rfl ?_ rfl ?_)
 .repeat' first|exact trivial|refine zA.app ?_ ?_|refine zA.zd ?_ ?_|refine zA.cons ?_ ?_|exact fc|fail
  all_goals exact aSX hp
 rintro v M' ⟨n',c',hn',hnc',rfl,rfl⟩;refine gN ?_;refine gB ?_;refine Ret.i (.a8 (kyB o)) ((1001,.dead)::tbM n' c' T1 1005) [(1005,(305,0,none))] rfl fc ⟨n',c',hn',hnc',rfl,rfl⟩ rfl fc rfl fc rfl
@[irreducible] def sgF (o:Nat):List UInt8:=kyB o++replicate 32 0
theorem yx (o:Nat):sgF o=kyB o++replicate 32 0:=by unfold sgF;rfl
theorem mP (o:Nat):(sgF o).length=64:=by rw[yx,zlA,zk,List.length_replicate]
theorem aM6 (o:Nat):sgF o=take 0 (replicate 64 (0:UInt8))++take (min 32 64) (kyB o)++drop (0+min 32 64) (replicate 64 0):=by
 rw[yx,take_of_length_le (l:=kyB o) (by rw[zk];decide)];rfl
theorem aQ7 (T:List Te) (N c:Nat) (hT:T.length=N) (hN:N<=60000) (hNc:N<=c) (hTv:∀x∈T,bP x.1 x.2) (p q:List UInt8) (n:Nat) (hp:p.length=32) (hq:q.length=n) (hn:n<=4096) (T1:List Te) (o:Nat) (e1:(mk2 T 6 p q).1=T1) (e2:(mk2 T 6 p q).2=o):
  Sx.Fn Γ.P 7 [.agg [(1,.ptr 1000 0 none)],.a8 p,.isl 0 n 1 [(n,.a8 q)]] (tbM N c T 1001)
  (λv M=>∃n' c',T1.length=n'/\n'<=c'/\v= .a8 (sgF o)/\M=(1001,.dead)::tbM n' c' T1 1005):=by
 have hM:=aYJ T N c hT hN hNc hTv 6 [p,q] 2 rfl (by omega) (λx hx=>by
  rcases List.mem_cons.1 hx with rfl|hx
  .omega
  rw[List.mem_singleton.1 hx];omega) T1 o (by rw[<-uv];exact e1) (by rw[<-uv];exact e2)
 have hkl:=zk o;have hsl:=mP o;unfold MT rwS at hM;unfold tbM;refine cV [6,8] (Γ:=Γ) (fn:=Tryz.f7) rfl rfl rfl rfl ?_;refine gB ?_;refine zB.i ?_ ?_<;>intro hc
 .have hc:(n:Int)>4096:=hc
  exact absurd hc (by omega)
 refine gB ?_;refine zB.i (λhc=>absurd hc (by simp)) (λ_=>?_);refine gB ?_
 refine Cut.i (σ:=Unit) (λ_=>True) (λ_=>([(2,.isl 0 n 1 [(n,.a8 q)]),(3,.ptr 203 0 none),(4,.ptr 204 0 none),(6,.ptr 206 0 none),(7,.ptr 207 0 none)],[(203,.mem true 0 [(1,.ptr 1000 0 none)]),(204,.mem false 1 [(32,.a8 p)]),(206,.mem true 0 [(64,.a8 (replicate 64 0))]),(207,.mem true 0 [(64,.a8 (replicate 64 0))]),
  (1000,.mem true 0 [(1,.sl 1001 0 0 N c),(1,.mp 1002)]),(1001,.mem true (zmE (c-N) 3) [(N*3,.arr N 3 (ttF T))]),(1002,.map (.si (mpL T)))])) () trivial (Le.ghost [.keep 4] [] [(203,(3,0,none)),(204,(4,0,none)),(206,(6,0,none)),(207,(7,0,none))] rfl fc rfl rfl fc rfl fc rfl) ?_
 rintro - -;refine aH.i [[],[],[],[1,2],r_4,[],r_6] [0,1,2,3,5,4,6] (by kernel_rfl) ?_;refine gB ?_;refine Call.name [(0,[]),(0,[]),(2001,[])] rfl fc (kW.i hM [(1000,(1000,0,none)),(1001,(1001,0,none)),(1002,(1002,0,none)),(1003,(2001,0,none)),(1005,(305,0,none))] rfl fc rfl ?_ rfl ?_)
 .repeat' first|exact trivial|refine zA.app ?_ ?_|refine zA.zd ?_ ?_|refine zA.cons ?_ ?_|exact fc|fail
  .exact xB hp
  exact xA hq
 rintro v M' ⟨n',c',hn',hnc',rfl,rfl⟩;refine gN ?_;refine gE ?_;refine aH.i [[],[],[0,1]] [0,1,2] (by kernel_rfl) ?_;refine gE ?_
 refine Cut.i (σ:=Unit) (λ_=>True) (λ_=>([(6,.ptr 206 0 none),(7,.ptr 207 0 none)],[(206,.mem true 0 [(64,.a8 (replicate 64 0))]),(207,.mem true 0 [(64,.a8 (sgF o))]),
  (1000,.mem true 0 [(1,.sl 305 0 0 n' c'),(1,.mp 1002)]),(1001,.dead),(305,.mem true (zmE (c'-n') 3) [(n'*3,.arr n' 3 (ttF T1))]),(1002,.map (.si (mpL T1)))])) () trivial (Le.i [(206,(206,0,none)),(207,(207,0,none))] rfl ?_ rfl ?_ rfl) ?_
 .exact fc
 .repeat' first|exact trivial|refine zA.app ?_ ?_|refine zA.zd ?_ ?_|refine zA.cons ?_ ?_|exact fc|fail
  all_goals(rw[aX0,zk];exact aM6 o)
 rintro - -;refine gB ?_;refine Ret.i (.a8 (sgF o)) ((1001,.dead)::tbM n' c' T1 1005) [(1005,(305,0,none))] rfl fc ⟨n',c',hn',hnc',rfl,rfl⟩ rfl fc rfl fc rfl
end Go.Proofs.YtaehfiohjkiajaaGreat
namespace Go.Proofs.YtaehfiohjkiajaaGreat
open Go Go.Sx
def vfy (T:List Te) (N:Nat) (signer text sig:List UInt8):Prop:=
 ∃q r a,iW (sig.take 32) N 0=q+1/\sig.drop 32=replicate 32 0/\T.getD q te0=(6,[a,text])/\iW signer N 0=r+1/\T.getD r te0=(5,[a])
theorem cpK {K X:List UInt8} (hX:X=K) (hl:K.length=32):K=take 0 (replicate 32 (0:UInt8))++take (min X.length 32) X++drop (0+min X.length 32) (replicate 32 0):=by
 subst hX;have h:=aWS hl (le_refl _);rw[take_of_length_le (l:=X) (i:=32) (by omega)]at h;exact h
theorem aHG (T:List Te) (N:Nat) (hT:T.length=N) (hN:N<=60000) (hTv:∀x∈T,bP x.1 x.2) (who text sig:List UInt8) (n:Nat) (hw:who.length=32) (hn:text.length=n) (hn1:n<=4096) (hs:sig.length=64):
  Sx.Fn Γ.P 11 [.agg [(1,.ptr 1000 0 none)],.a8 who,.isl 0 n 1 [(n,.a8 text)],.a8 sig] [(1000,.mem false 0 [(1,.slx 1001 0 0 N),(1,.mp 1002)]),(1001,.mem false 0 [(N*3,.arr N 3 (ttF T))]),(1002,.dead)]
  (λv M=>(vfy T N who text sig/\v= .tt/\M=[(1000,.mem false 0 [(1,.slx 1001 0 0 N),(1,.mp 1002)]),(1001,.mem false 0 [(N*3,.arr N 3 (ttF T))]),(1002,.dead)])\/
   (¬vfy T N who text sig/\v= .ff/\M=[(1000,.mem false 0 [(1,.slx 1001 0 0 N),(1,.mp 1002)]),(1001,.mem false 0 [(N*3,.arr N 3 (ttF T))]),(1002,.dead)])):=by
 obtain⟨K,hK⟩:∃K,sig.take 32=K:=⟨_,rfl⟩;obtain⟨Z,hZ⟩:∃Z,sig.drop 32=Z:=⟨_,rfl⟩;have hKl:K.length=32:=by rw[<-hK,zlT];omega
 have hZl:Z.length=32:=by rw[<-hZ,zlD];omega
 have eK:take 32 (drop 0 sig)=K:=by rw[List.drop_zero,hK]
 have eZ:take 32 (drop 32 sig)=Z:=by rw[hZ,take_of_length_le (by omega)]
 have hOf:=abW T N hT hN hTv K hKl;have hOw:=abW T N hT hN hTv who hw;refine cV [8,11] (Γ:=Γ) (fn:=Tryz.f11) rfl rfl rfl rfl ?_;refine gB ?_;refine zB.i ?_ ?_<;>intro hc
 .have hc:(n:Int)>4096:=hc
  exact absurd hc (by omega)
 refine gB ?_;refine zB.i (λhc=>absurd hc (by simp)) (λ_=>?_);refine gB ?_;refine aH.i [[],[],[0,1]] [0,1,2] (by kernel_rfl) ?_;refine gE ?_;refine aH.i [[],[],[0,1]] [0,1,2] (by kernel_rfl) ?_;refine gE ?_
 refine Cut.i (σ:=Unit) (λ_=>True) (λ_=>([(2,.isl 0 n 1 [(n,.a8 text)]),(4,.ptr 204 0 none),(5,.ptr 205 0 none),(9,.ptr 209 0 none),(10,.ptr 210 0 none)],[(204,.mem true 0 [(1,.ptr 1000 0 none)]),(205,.mem true 0 [(32,.a8 who)]),(209,.mem true 0 [(32,.a8 K)]),(210,.mem true 0 [(32,.a8 Z)]),
  (1000,.mem false 0 [(1,.slx 1001 0 0 N),(1,.mp 1002)]),(1001,.mem false 0 [(N*3,.arr N 3 (ttF T))]),(1002,.dead)])) () trivial (Le.i [(204,(4,0,none)),(205,(5,0,none)),(209,(9,0,none)),(210,(10,0,none))] rfl ?_ rfl ?_ rfl) ?_
 .exact fc
 .repeat' first|exact trivial|refine zA.app ?_ ?_|refine zA.zd ?_ ?_|refine zA.cons ?_ ?_|exact fc|fail
  all_goals first|(refine cpK ?_ hKl;exact eK)|(refine cpK ?_ hZl;exact eZ)
 rintro - -;refine gB ?_;refine Call.i hOf [(1000,(1000,0,none)),(1001,(1001,0,none)),(1002,(1002,0,none)),(1005,(305,0,none))] rfl fc rfl fc rfl ?_;rintro v M' (⟨hz,rfl,rfl⟩|⟨q,L,k,c,g1,g2,g3,g4,g5,rfl,rfl⟩)
 .have h0:¬vfy T N who text sig:=by
   rintro⟨q,r,a,f1,_⟩;rw[hK,hz]at f1;omega
  refine gN ?_;refine gB ?_;by_cases c0:¬Z=replicate 32 0
  .refine aH.i [[],[],[0,1],[0,1,2],r_4,r_5,r_6,r_7,r_8,r_9,ek,fe,kX,jO,oB,nw,na,jO,[0,1,2,3,4,5,6,7,8,9,10,11,12,17],uf,aJG] aJF (by kernel_rfl) ?_
   repeat(first|(refine zB.i (λ_=>?_) (λh=>(by with_reducible exact absurd c0 h)))|(refine zB.i (λh=>(by with_reducible exact absurd c0 h)) (λ_=>?_))|(refine zB.i (λh=>False.elim (by revert h;first|(simp ;done)|fail)) (λ_=>?_))|(refine zB.i (λ_=>?_) (λh=>False.elim (by revert h;first|(simp ;done)|fail)))|refine sd ?_)
   refine Ret.i .ff [(1000,.mem false 0 [(1,.slx 1001 0 0 N),(1,.mp 1002)]),(1001,.mem false 0 [(N*3,.arr N 3 (ttF T))]),(1002,.dead)] [] rfl fc (Or.inr ⟨h0,rfl,rfl⟩) rfl fc rfl fc rfl
  have c0:=Classical.not_not.1 c0;refine aH.i [[],[],[0,1],[0,1,2],r_4,r_5,r_6,r_7,r_8,r_9,ek,fe,kX,jO,oB,nw,na,jO,[0,1,2,3,4,5,6,7,8,9,10,11,12,17],uf,aJG] aJF (by kernel_rfl) ?_
  repeat(first|(refine zB.i (λ_=>?_) (λh=>(by with_reducible exact absurd c0 h)))|(refine zB.i (λh=>(by with_reducible exact absurd c0 h)) (λ_=>?_))|(refine zB.i (λh=>False.elim (by revert h;first|(simp ;done)|fail)) (λ_=>?_))|(refine zB.i (λ_=>?_) (λh=>False.elim (by revert h;first|(simp ;done)|fail)))|refine sd ?_)
  refine Ret.i .ff [(1000,.mem false 0 [(1,.slx 1001 0 0 N),(1,.mp 1002)]),(1001,.mem false 0 [(N*3,.arr N 3 (ttF T))]),(1002,.dead)] [] rfl fc (Or.inr ⟨h0,rfl,rfl⟩) rfl fc rfl fc rfl
 have hV:=hTv _ (fq te0 (L:=T) (i:=q) (by omega));have hv0:vfy T N who text sig->Z=replicate 32 0/\∃a,T.getD q te0=(6,[a,text])/\∃r,iW who N 0=r+1/\T.getD r te0=(5,[a]):=by
  rintro⟨q',r,a,f1,f2,f3,f4,f5⟩;rw[hK,g1]at f1;obtain rfl:q=q':=by omega
  exact⟨hZ▸f2,a,f3,r,f4,f5⟩
 have hv1:Z=replicate 32 0->∀a r,T.getD q te0=(6,[a,text])->iW who N 0=r+1->T.getD r te0=(5,[a])->vfy T N who text sig:=λf1 a r f2 f3 f4=>⟨q,r,a,by rw[hK];exact g1,by rw[hZ];exact f1,f2,f3,f4⟩;obtain⟨x,hx⟩:∃x,T.getD q te0=x:=⟨_,rfl⟩;rw[hx]at hV g3 hv0 hv1⊢;obtain rfl:x.2=L:=g3;clear hOf;refine gN ?_;refine gB ?_;by_cases c0:¬Z=replicate 32 0
 .have h0:¬vfy T N who text sig:=λh=>c0 (hv0 h).1
  refine aH.i [[],[],[0,1],[0,1,2],r_4,r_5,r_6,r_7,r_8,r_9,ek,fe,kX,jO,oB,nw,na,jO,[0,1,2,3,4,5,6,7,8,9,10,11,12,17],uf,aJG] aJF (by kernel_rfl) ?_
  repeat(first|(refine zB.i (λ_=>?_) (λh=>(by with_reducible exact absurd c0 h)))|(refine zB.i (λh=>(by with_reducible exact absurd c0 h)) (λ_=>?_))|(refine zB.i (λh=>False.elim (by revert h;first|(simp ;done)|fail)) (λ_=>?_))|(refine zB.i (λ_=>?_) (λh=>False.elim (by revert h;first|(simp ;done)|fail)))|refine sd ?_)
  refine Ret.i .ff [(1000,.mem false 0 [(1,.slx 1001 0 0 N),(1,.mp 1002)]),(1001,.mem false 0 [(N*3,.arr N 3 (ttF T))]),(1002,.dead)] [] rfl fc (Or.inr ⟨h0,rfl,rfl⟩) rfl fc rfl fc rfl
 have c0:Z=replicate 32 0:=Classical.not_not.1 c0;by_cases c1:¬x.1=6
 .have h0:¬vfy T N who text sig:=λh=>by obtain⟨_,a,f,_⟩:=hv0 h;exact c1 (by rw[f])
  refine aH.i [[],[],[0,1],[0,1,2],r_4,r_5,r_6,r_7,r_8,r_9,ek,fe,kX,jO,oB,nw,na,jO,[0,1,2,3,4,5,6,7,8,9,10,11,12,17],uf,aJG] aJF (by kernel_rfl) ?_
  repeat(first|(refine zB.i (λ_=>?_) (λh=>(by with_reducible exact absurd c0 h)))|(refine zB.i (λh=>(by with_reducible exact absurd c0 h)) (λ_=>?_))|(refine zB.i (λh=>False.elim (by revert h;first|(simp[c0,c1];done)|fail)) (λ_=>?_))|(refine zB.i (λ_=>?_) (λh=>False.elim (by revert h;first|(simp[c0,c1];done)|fail)))|refine sd ?_)
  refine Ret.i .ff [(1000,.mem false 0 [(1,.slx 1001 0 0 N),(1,.mp 1002)]),(1001,.mem false 0 [(N*3,.arr N 3 (ttF T))]),(1002,.dead)] [] rfl fc (Or.inr ⟨h0,rfl,rfl⟩) rfl fc rfl fc rfl
 have c1:x.1=6:=Classical.not_not.1 c1;by_cases c2:¬k=2
 .have h0:¬vfy T N who text sig:=λh=>by obtain⟨_,a,f,_⟩:=hv0 h;exact c2 (by rw[<-g4,f];rfl)
  have c2':¬((k:Nat):Int)=2:=by omega
  refine aH.i [[],[],[0,1],[0,1,2],r_4,r_5,r_6,r_7,r_8,r_9,ek,fe,kX,jO,oB,nw,na,jO,[0,1,2,3,4,5,6,7,8,9,10,11,12,17],uf,aJG] aJF (by kernel_rfl) ?_
  repeat(first|(refine zB.i (λ_=>?_) (λh=>(by with_reducible exact absurd c0 h)))|(refine zB.i (λh=>(by with_reducible exact absurd c0 h)) (λ_=>?_))|(refine zB.i (λh=>False.elim (by revert h;first|(simp[c0,c1,c2,c2'];done)|fail)) (λ_=>?_))|(refine zB.i (λ_=>?_) (λh=>False.elim (by revert h;first|(simp[c0,c1,c2,c2'];done)|fail)))|refine sd ?_)
  refine Ret.i .ff [(1000,.mem false 0 [(1,.slx 1001 0 0 N),(1,.mp 1002)]),(1001,.mem false 0 [(N*3,.arr N 3 (ttF T))]),(1002,.dead)] [] rfl fc (Or.inr ⟨h0,rfl,rfl⟩) rfl fc rfl fc rfl
 have c2:k=2:=Classical.not_not.1 c2;subst c2;obtain⟨a,b,hab⟩:∃a b,x.2=[a,b]:=by
  match hL:x.2,g4 with
  |[a,b],_=>exact⟨a,b,rfl⟩
 have hal:a.length<=4096:=hV.1.2 a (by rw[hab];simp);have hbl:b.length<=4096:=hV.1.2 b (by rw[hab];simp);have hxe:x=(6,[a,b]):=by rw[<-c1,<-hab]
 rw[hab];have f0:([a,b]:List (List UInt8))[fL (addI none 0) (Ix.lit 0).val]?.getD []=a:=rfl;have f1:([a,b]:List (List UInt8))[fL (addI none 0) (Ix.lit 1).val]?.getD []=b:=rfl;have eT:take n text=text:=take_of_length_le (by omega);have eB:take b.length b=b:=take_of_length_le (le_refl _);by_cases c3:¬b=text
 .have h0:¬vfy T N who text sig:=λh=>by
   obtain⟨_,a',f,_⟩:=hv0 h;rw[hxe]at f;simp only[zpI,List.cons.injEq,true_and,and_true]at f;exact c3 f.2
  refine aH.i [[],[],[0,1],[0,1,2],r_4,r_5,r_6,r_7,r_8,r_9,ek,fe,kX,jO,oB,nw,na,jO,[0,1,2,3,4,5,6,7,8,9,10,11,12,17],uf,aJG] aJF (by kernel_rfl) ?_
  repeat(first|(refine zB.i (λ_=>?_) (λh=>(by with_reducible exact absurd c0 h)))|(refine zB.i (λh=>(by with_reducible exact absurd c0 h)) (λ_=>?_))|(refine zB.i (λh=>False.elim (by revert h;first|(simp[c0,c1,c3,f0,f1,eT,eB];done)|fail)) (λ_=>?_))|(refine zB.i (λ_=>?_) (λh=>False.elim (by revert h;first|(simp[c0,c1,c3,f0,f1,eT,eB];done)|fail)))|refine sd ?_)
  refine Ret.i .ff [(1000,.mem false 0 [(1,.slx 1001 0 0 N),(1,.mp 1002)]),(1001,.mem false 0 [(N*3,.arr N 3 (ttF T))]),(1002,.dead)] [] rfl fc (Or.inr ⟨h0,rfl,rfl⟩) rfl fc rfl fc rfl
 have c3:b=text:=Classical.not_not.1 c3;subst c3;refine aH.i [[],[],[0,1],[0,1,2],r_4,r_5,r_6,r_7,r_8,r_9,ek,fe,kX,jO,oB,nw,na,jO,[0,1,2,3,4,5,6,7,8,9,10,11,12,17],uf,aJG] aJF (by kernel_rfl) ?_
 repeat(first|(refine zB.i (λ_=>?_) (λh=>(by with_reducible exact absurd c0 h)))|(refine zB.i (λh=>(by with_reducible exact absurd c0 h)) (λ_=>?_))|(refine zB.i (λh=>False.elim (by revert h;first|(simp[c0,c1,f0,f1,eT,eB];done)|fail)) (λ_=>?_))|(refine zB.i (λ_=>?_) (λh=>False.elim (by revert h;first|(simp[c0,c1,f0,f1,eT,eB];done)|fail)))|refine sd ?_)
 refine Cut.i (σ:=Unit) (λ_=>True) (λ_=>([(4,.ptr 204 0 none),(5,.ptr 205 0 none),(12,.sl 305 0 0 2 c)],[(204,.mem true 0 [(1,.ptr 1000 0 none)]),(205,.mem true 0 [(32,.a8 who)]),(305,.mem true (c-2) [(2*1,.arr 2 1 (rwF [a,b]))]),
  (1000,.mem false 0 [(1,.slx 1001 0 0 N),(1,.mp 1002)]),(1001,.mem false 0 [(N*3,.arr N 3 (ttF T))]),(1002,.dead)])) () trivial (Le.i [(204,(204,0,none)),(205,(205,0,none)),(305,(305,0,none))] rfl fc rfl fc rfl) ?_
 rintro - -;refine gB ?_;refine Call.i hOw [(1000,(1000,0,none)),(1001,(1001,0,none)),(1002,(1002,0,none)),(1005,(306,0,none))] rfl fc rfl fc rfl ?_;rintro v M' (⟨hz,rfl,rfl⟩|⟨r,L2,k2,d,w1,w2,w3,w4,w5,rfl,rfl⟩)
 .have h0:¬vfy T N who b sig:=λh=>by
   obtain⟨_,a',_,r,f,_⟩:=hv0 h;rw[hz]at f;omega
  refine gN ?_;refine gB ?_;refine aH.i [[],[0],[0,1],[0,1,2],r_4,r_5,r_6,r_7,r_8,r_9,ek,fe,r_8,[0,1,2,3,4,5,6,7,12],[0,1,2,3,4,5,6,7,12,13],[0,1,2,3,4,5,6,7,12,13,14],na,wG,aBU] uf (by kernel_rfl) ?_
  repeat(first|(refine zB.i (λ_=>?_) (λh=>(by with_reducible exact absurd c0 h)))|(refine zB.i (λh=>(by with_reducible exact absurd c0 h)) (λ_=>?_))|(refine zB.i (λh=>False.elim (by revert h;first|(simp ;done)|fail)) (λ_=>?_))|(refine zB.i (λ_=>?_) (λh=>False.elim (by revert h;first|(simp ;done)|fail)))|refine sd ?_)
  refine Ret.i .ff [(1000,.mem false 0 [(1,.slx 1001 0 0 N),(1,.mp 1002)]),(1001,.mem false 0 [(N*3,.arr N 3 (ttF T))]),(1002,.dead)] [] rfl fc (Or.inr ⟨h0,rfl,rfl⟩) rfl fc rfl fc rfl
 have hW:=hTv _ (fq te0 (L:=T) (i:=r) (by omega))
 have hu0:vfy T N who b sig->T.getD r te0=(5,[a]):=λh=>by
  obtain⟨_,a',f1,r',f2,f3⟩:=hv0 h;rw[hxe]at f1;simp only[zpI,List.cons.injEq,true_and,and_true]at f1;rw[w1]at f2;obtain rfl:r=r':=by omega
  rw[f1];exact f3
 have hu1:T.getD r te0=(5,[a])->vfy T N who b sig:=λh=>hv1 c0 a r hxe w1 h;obtain⟨y,hy⟩:∃y,T.getD r te0=y:=⟨_,rfl⟩;rw[hy]at hW w3 hu0 hu1⊢;obtain rfl:y.2=L2:=w3;clear hOw;refine gN ?_;refine gB ?_;by_cases d1:¬y.1=5
 .have h0:¬vfy T N who b sig:=λh=>d1 (by rw[hu0 h])
  refine aH.i [[],[0],[0,1],[0,1,2],r_4,r_5,r_6,r_7,r_8,r_9,ek,fe,r_8,[0,1,2,3,4,5,6,7,12],[0,1,2,3,4,5,6,7,12,13],[0,1,2,3,4,5,6,7,12,13,14],na,wG,aBU] uf (by kernel_rfl) ?_
  repeat(first|(refine zB.i (λ_=>?_) (λh=>(by with_reducible exact absurd c0 h)))|(refine zB.i (λh=>(by with_reducible exact absurd c0 h)) (λ_=>?_))|(refine zB.i (λh=>False.elim (by revert h;first|(simp[d1];done)|fail)) (λ_=>?_))|(refine zB.i (λ_=>?_) (λh=>False.elim (by revert h;first|(simp[d1];done)|fail)))|refine sd ?_)
  refine Ret.i .ff [(1000,.mem false 0 [(1,.slx 1001 0 0 N),(1,.mp 1002)]),(1001,.mem false 0 [(N*3,.arr N 3 (ttF T))]),(1002,.dead)] [] rfl fc (Or.inr ⟨h0,rfl,rfl⟩) rfl fc rfl fc rfl
 have d1:y.1=5:=Classical.not_not.1 d1;by_cases d2:¬k2=1
 .have h0:¬vfy T N who b sig:=λh=>d2 (by rw[<-w4,hu0 h];rfl)
  have d2':¬((k2:Nat):Int)=1:=by omega
  refine aH.i [[],[0],[0,1],[0,1,2],r_4,r_5,r_6,r_7,r_8,r_9,ek,fe,r_8,[0,1,2,3,4,5,6,7,12],[0,1,2,3,4,5,6,7,12,13],[0,1,2,3,4,5,6,7,12,13,14],na,wG,aBU] uf (by kernel_rfl) ?_
  repeat(first|(refine zB.i (λ_=>?_) (λh=>(by with_reducible exact absurd c0 h)))|(refine zB.i (λh=>(by with_reducible exact absurd c0 h)) (λ_=>?_))|(refine zB.i (λh=>False.elim (by revert h;first|(simp[d1,d2,d2'];done)|fail)) (λ_=>?_))|(refine zB.i (λ_=>?_) (λh=>False.elim (by revert h;first|(simp[d1,d2,d2'];done)|fail)))|refine sd ?_)
  refine Ret.i .ff [(1000,.mem false 0 [(1,.slx 1001 0 0 N),(1,.mp 1002)]),(1001,.mem false 0 [(N*3,.arr N 3 (ttF T))]),(1002,.dead)] [] rfl fc (Or.inr ⟨h0,rfl,rfl⟩) rfl fc rfl fc rfl
 have d2:k2=1:=Classical.not_not.1 d2;subst d2;obtain⟨a2,hab2⟩:∃a,y.2=[a]:=by
  match hL:y.2,w4 with
  |[a],_=>exact⟨a,rfl⟩
 have hal2:a2.length<=4096:=hW.1.2 a2 (by rw[hab2];simp);have hye:y=(5,[a2]):=by rw[<-d1,<-hab2]
 rw[hab2];have f3:([a,b]:List (List UInt8))[fL 0 (Ix.lit 0).val]?.getD []=a:=rfl;have f2:([a2]:List (List UInt8))[fL (addI none 0) (Ix.lit 0).val]?.getD []=a2:=rfl;have eA:take a.length a=a:=take_of_length_le (le_refl _);have eA2:take a2.length a2=a2:=take_of_length_le (le_refl _);by_cases d3:¬a2=a
 .have h0:¬vfy T N who b sig:=λh=>by
   have:=hu0 h;rw[hye]at this;simp only[zpI,List.cons.injEq,true_and,and_true]at this;exact d3 this
  refine aH.i [[],[0],[0,1],[0,1,2],r_4,r_5,r_6,r_7,r_8,r_9,ek,fe,r_8,[0,1,2,3,4,5,6,7,12],[0,1,2,3,4,5,6,7,12,13],[0,1,2,3,4,5,6,7,12,13,14],na,wG,aBU] uf (by kernel_rfl) ?_
  repeat(first|(refine zB.i (λ_=>?_) (λh=>(by with_reducible exact absurd c0 h)))|(refine zB.i (λh=>(by with_reducible exact absurd c0 h)) (λ_=>?_))|(refine zB.i (λh=>False.elim (by revert h;first|(simp[d1,d3,f0,f2,eA,eA2];done)|fail)) (λ_=>?_))|(refine zB.i (λ_=>?_) (λh=>False.elim (by revert h;first|(simp[d1,d3,f0,f2,eA,eA2];done)|fail)))|refine sd ?_)
  refine Ret.i .ff [(1000,.mem false 0 [(1,.slx 1001 0 0 N),(1,.mp 1002)]),(1001,.mem false 0 [(N*3,.arr N 3 (ttF T))]),(1002,.dead)] [] rfl ?_ (Or.inr ⟨h0,rfl,rfl⟩) rfl ?_ rfl ?_ rfl
  .exact fc
  .repeat' first|exact trivial|refine zA.app ?_ ?_|refine zA.zd ?_ ?_|refine zA.cons ?_ ?_|exact fc|fail
   all_goals(revert d1;simp[d1,d3,f0,f2,f3,eA,eA2])
  exact fc
 have d3:a2=a:=Classical.not_not.1 d3;subst d3;have h1:vfy T N who b sig:=hu1 hye;refine aH.i [[],[0],[0,1],[0,1,2],r_4,r_5,r_6,r_7,r_8,r_9,ek,fe,r_8,[0,1,2,3,4,5,6,7,12],[0,1,2,3,4,5,6,7,12,13],[0,1,2,3,4,5,6,7,12,13,14],na,wG,aBU] uf (by kernel_rfl) ?_
 repeat(first|(refine zB.i (λ_=>?_) (λh=>(by with_reducible exact absurd c0 h)))|(refine zB.i (λh=>(by with_reducible exact absurd c0 h)) (λ_=>?_))|(refine zB.i (λh=>False.elim (by revert h;first|(simp[d1,f0,f2,eA,eA2];done)|fail)) (λ_=>?_))|(refine zB.i (λ_=>?_) (λh=>False.elim (by revert h;first|(simp[d1,f0,f2,eA,eA2];done)|fail)))|refine sd ?_)
 refine Ret.i .tt [(1000,.mem false 0 [(1,.slx 1001 0 0 N),(1,.mp 1002)]),(1001,.mem false 0 [(N*3,.arr N 3 (ttF T))]),(1002,.dead)] [] rfl ?_ (Or.inl ⟨h1,rfl,rfl⟩) rfl ?_ rfl ?_ rfl
 .exact fc
 .repeat' first|exact trivial|refine zA.app ?_ ?_|refine zA.zd ?_ ?_|refine zA.cons ?_ ?_|exact fc|fail
  all_goals(simp[d1,f0,f2,f3,eA,eA2])
 exact fc
end Go.Proofs.YtaehfiohjkiajaaGreat
namespace Go.Proofs.YtaehfiohjkiajaaGreat
open Go Go.Sx Go.Cu
theorem aLW (T:List Te) (N c:Nat) (hT:T.length=N) (hN:N<=60000) (hNc:N<=c) (hTv:∀x∈T,bP x.1 x.2) (p q:List UInt8) (n:Nat) (hp:p.length=32) (hq:q.length=n) (hn:n<=4096) (T1:List Te) (o:Nat) (e1:(mk2 T 6 p q).1=T1) (e2:(mk2 T 6 p q).2=o):
  Sx.Fn Γ.P 9 [.agg [(1,.ptr 1000 0 none)],.a8 p,.isl 0 n 1 [(n,.a8 q)]] (rbM N c T 1001)
  (λv M=>∃n' c',T1.length=n'/\n'<=c'/\v= .a8 (sgF o)/\M=(1001,.dead)::rbM n' c' T1 1005):=by
 have hM:=acV T N c hT hN hNc hTv 6 p q (by omega) (by omega) T1 o e1 e2;have hkl:=zk o;have hsl:=mP o;unfold M12 rwS at hM;unfold rbM;refine cV [6,8] (Γ:=Γ) (fn:=Tryz.f9) rfl rfl rfl rfl ?_;refine gB ?_;refine zB.i ?_ ?_<;>intro hc
 .have hc:(n:Int)>4096:=hc
  exact absurd hc (by omega)
 refine gB ?_;refine zB.i (λhc=>absurd hc (by simp)) (λ_=>?_);refine gB ?_
 refine Cut.i (σ:=Unit) (λ_=>True) (λ_=>([(2,.isl 0 n 1 [(n,.a8 q)]),(3,.ptr 203 0 none),(4,.ptr 204 0 none),(6,.ptr 206 0 none),(7,.ptr 207 0 none)],[(203,.mem true 0 [(1,.ptr 1000 0 none)]),(204,.mem false 1 [(32,.a8 p)]),(206,.mem true 0 [(64,.a8 (replicate 64 0))]),(207,.mem true 0 [(64,.a8 (replicate 64 0))]),
  (1000,.mem true 0 [(1,.sl 1001 0 0 N c)]),(1001,.mem true (zmE (c-N) 2) [(N*2,.arr N 2 (rtF T))])])) () trivial (Le.ghost [.keep 4] [] [(203,(3,0,none)),(204,(4,0,none)),(206,(6,0,none)),(207,(7,0,none))] rfl fc rfl rfl fc rfl fc rfl) ?_
 rintro - -;refine aH.i [[],[0],[],[],[2,3],r_5,r_6,r_7,r_7,[],[0,1,2,3,4,5,6,7,9],fe] [0,1,2,3,4,9,5,6,7,8,10,11] (by kernel_rfl) ?_;refine gE ?_;refine Call.name [(0,[]),(0,[]),(2001,[])] rfl fc (kW.i hM [(1000,(1000,0,none)),(1001,(1001,0,none)),(1003,(2001,0,none)),(1005,(305,0,none))] rfl fc rfl ?_ rfl ?_)
 .repeat' first|exact trivial|refine zA.app ?_ ?_|refine zA.zd ?_ ?_|refine zA.cons ?_ ?_|exact fc|fail
  .exact xB hp
  exact xA hq
 rintro v M' ⟨n',c',hn',hnc',rfl,rfl⟩;refine gN ?_;refine gE ?_;refine aH.i [[],[],[0,1]] [0,1,2] (by kernel_rfl) ?_;refine gE ?_
 refine Cut.i (σ:=Unit) (λ_=>True) (λ_=>([(6,.ptr 206 0 none),(7,.ptr 207 0 none)],[(206,.mem true 0 [(64,.a8 (replicate 64 0))]),(207,.mem true 0 [(64,.a8 (sgF o))]),
  (1000,.mem true 0 [(1,.sl 305 0 0 n' c')]),(1001,.dead),(305,.mem true (zmE (c'-n') 2) [(n'*2,.arr n' 2 (rtF T1))])])) () trivial (Le.i [(206,(206,0,none)),(207,(207,0,none))] rfl ?_ rfl ?_ rfl) ?_
 .exact fc
 .repeat' first|exact trivial|refine zA.app ?_ ?_|refine zA.zd ?_ ?_|refine zA.cons ?_ ?_|exact fc|fail
  all_goals(rw[aX0,zk];exact aM6 o)
 rintro - -;refine gB ?_;refine Ret.i (.a8 (sgF o)) ((1001,.dead)::rbM n' c' T1 1005) [(1005,(305,0,none))] rfl fc ⟨n',c',hn',hnc',rfl,rfl⟩ rfl fc rfl fc rfl
theorem aCE (T:List Te) (N c:Nat) (w q s:List UInt8) (n:Nat) (hw:w.length=32) (hq:q.length=n) (hn:4096<n) (hs:s.length=64):
  Sx.Fn Γ.P 11 [.agg [(1,.ptr 1000 0 none)],.a8 w,.isl 0 n 1 [(n,.a8 q)],.a8 s] (tbM N c T 1001) (λv M=>v= .ff/\M=tbM N c T 1001):=by
 unfold tbM;refine aG (Γ:=Γ) (fn:=Tryz.f11) rfl rfl rfl rfl ?_;refine gB ?_;refine zB.i ?_ ?_<;>intro hc
 .refine gB ?_
  refine Ret.i .ff (tbM N c T 1001) [] rfl fc ⟨rfl,rfl⟩ rfl fc rfl fc rfl
 have hc:¬(n:Int)>4096:=hc;exact absurd hc (by omega)
end Go.Proofs.YtaehfiohjkiajaaGreat
namespace Go.Proofs.YtaehfiohjkiajaaGreat
open Go Go.Sx Go.Cu
theorem aQO (x y:List UInt8) (n m:Nat) (hx:x.length=n) (hy:y.length=m):Sx.Fn Γ.P 30 [.isl 0 n 1 [(n,.a8 x)],.isl 0 m 1 [(m,.a8 y)]] [] (λv M=>v= .bool (x=y)/\M=[]):=by
 have h:=abU x y;rw[hx,hy,mul_one,mul_one]at h;exact h
theorem aLT {s:List UInt8} (hs:s.length=64) (h:∀j,32<=j->j<64->s.getD j 0=0):s.drop 32=replicate 32 0:=by
 refine List.ext_getElem (by rw[zlD,hs,List.length_replicate]) λi h1 h2=>?_;rw[zlD,hs]at h1;have g:=h (32+i) (by omega) (by omega);rw[List.getElem_drop,List.getElem_replicate];rw[List.getD_eq_getElem?_getD,List.getElem?_eq_getElem (by omega)]at g;exact g
theorem aLU {s:List UInt8} (hs:s.length=64) (h:s.drop 32=replicate 32 0) {j:Nat} (h1:32<=j) (h2:j<64):s.getD j 0=0:=by
 have g:(s.drop 32).getD (j-32) 0=0:=by
  rw[h,List.getD_eq_getElem?_getD,List.getElem?_replicate];split <;>rfl
 rw[List.getD_eq_getElem?_getD,List.getElem?_drop,show 32+(j-32)=j by omega,<-List.getD_eq_getElem?_getD]at g;exact g
theorem aJM (T:List Te) (N:Nat) (hT:T.length=N) (hN:N<=60000) (hTv:∀x∈T,bP x.1 x.2) (who text sig:List UInt8) (n:Nat) (hw:who.length=32) (hn:text.length=n) (hn1:n<=4096) (hs:sig.length=64):
  Sx.Fn Γ.P 12 [.agg [(1,.ptr 1000 0 none)],.a8 who,.isl 0 n 1 [(n,.a8 text)],.a8 sig] [(1000,.mem false 0 [(1,.slx 1001 0 0 N)]),(1001,.mem false 0 [(N*2,.arr N 2 (rtF T))])]
  (λv M=>(vfy T N who text sig/\v= .tt/\M=[(1000,.mem false 0 [(1,.slx 1001 0 0 N)]),(1001,.mem false 0 [(N*2,.arr N 2 (rtF T))])])\/
   (¬vfy T N who text sig/\v= .ff/\M=[(1000,.mem false 0 [(1,.slx 1001 0 0 N)]),(1001,.mem false 0 [(N*2,.arr N 2 (rtF T))])])):=by
 obtain⟨K,hK⟩:∃K,sig.take 32=K:=⟨_,rfl⟩;have hKl:K.length=32:=by rw[<-hK,zlT];omega
 have eK:take 64 (drop 0 sig)=sig:=by rw[List.drop_zero,take_of_length_le (by omega)]
 have hOf:=abV T N hT hN K hKl;have hOw:=abV T N hT hN who hw;have tz:=λh=>λj=>@aLU sig hs h j;have zt:=aLT hs;refine cV [7,16] (Γ:=Γ) (fn:=Tryz.f12) rfl rfl rfl rfl ?_;refine gB ?_;refine zB.i ?_ ?_<;>intro hc
 .have hc:(n:Int)>4096:=hc
  exact absurd hc (by omega)
 refine gB ?_;refine zB.i (λhc=>absurd hc (by simp)) (λ_=>?_);refine gB ?_;refine aH.i [[],[],[0,1]] [0,1,2] (by kernel_rfl) ?_
 repeat(first|(refine zB.i (λh=>False.elim (by revert h;first|(simp ;done)|fail)) (λ_=>?_))|(refine zB.i (λ_=>?_) (λh=>False.elim (by revert h;first|(simp ;done)|fail)))|refine gt ?_|refine sd ?_)
 refine Cut.i (σ:=Unit) (λ_=>True) (λ_=>([(2,.isl 0 n 1 [(n,.a8 text)]),(4,.ptr 204 0 none),(5,.ptr 205 0 none),(7,.ptr 207 0 none),(9,.ptr 209 0 none)],[(204,.mem true 0 [(1,.ptr 1000 0 none)]),(205,.mem true 0 [(32,.a8 who)]),(207,.mem true 0 [(64,.a8 sig)]),(209,.mem true 0 [(32,.a8 K)]),
  (1000,.mem false 0 [(1,.slx 1001 0 0 N)]),(1001,.mem false 0 [(N*2,.arr N 2 (rtF T))])])) () trivial (Le.i [(204,(4,0,none)),(205,(5,0,none)),(207,(7,0,none)),(209,(9,0,none))] rfl ?_ rfl ?_ rfl) ?_
 .exact fc
 .repeat' first|exact trivial|refine zA.app ?_ ?_|refine zA.zd ?_ ?_|refine zA.cons ?_ ?_|exact fc|fail
  all_goals(simp only[Option.getD_none,eK,hs];exact hK.symm.trans (by simp))
 rintro - -;refine gB ?_;refine Call.i hOf [(1000,(1000,0,none)),(1001,(1001,0,none))] rfl fc rfl fc rfl ?_;rintro v M' (⟨hz,rfl,rfl⟩|⟨q,h1,h2,rfl,rfl⟩)
 .have h0:¬vfy T N who text sig:=by
   rintro⟨q,r,a,f1,_⟩;rw[hK,hz]at f1;omega
  refine gN ?_;refine gB ?_;refine Call.i hOw [(1000,(1000,0,none)),(1001,(1001,0,none))] rfl fc rfl fc rfl ?_;rintro v M' (⟨hz2,rfl,rfl⟩|⟨r,w1,w2,rfl,rfl⟩)
  .refine gN ?_
   repeat(first|(refine zB.i (λh=>False.elim (by revert h;first|(simp ;done)|fail)) (λ_=>?_))|(refine zB.i (λ_=>?_) (λh=>False.elim (by revert h;first|(simp ;done)|fail)))|refine gt ?_|refine sd ?_)
   refine Ret.i .ff [(1000,.mem false 0 [(1,.slx 1001 0 0 N)]),(1001,.mem false 0 [(N*2,.arr N 2 (rtF T))])] [] rfl fc (Or.inr ⟨h0,rfl,rfl⟩) rfl fc rfl fc rfl
  refine gN ?_
  repeat(first|(refine zB.i (λh=>False.elim (by revert h;first|(simp ;done)|fail)) (λ_=>?_))|(refine zB.i (λ_=>?_) (λh=>False.elim (by revert h;first|(simp ;done)|fail)))|refine gt ?_|refine sd ?_)
  refine Ret.i .ff [(1000,.mem false 0 [(1,.slx 1001 0 0 N)]),(1001,.mem false 0 [(N*2,.arr N 2 (rtF T))])] [] rfl fc (Or.inr ⟨h0,rfl,rfl⟩) rfl fc rfl fc rfl
 have hV:=hTv _ (fq te0 (L:=T) (i:=q) (by omega));have hv0:vfy T N who text sig->sig.drop 32=replicate 32 0/\∃a,T.getD q te0=(6,[a,text])/\∃r,iW who N 0=r+1/\T.getD r te0=(5,[a]):=by
  rintro⟨q',r,a,f1,f2,f3,f4,f5⟩;rw[hK,h1]at f1;obtain rfl:q=q':=by omega
  exact⟨f2,a,f3,r,f4,f5⟩
 have hv1:sig.drop 32=replicate 32 0->∀a r,T.getD q te0=(6,[a,text])->iW who N 0=r+1->T.getD r te0=(5,[a])->vfy T N who text sig:=λf1 a r f2 f3 f4=>⟨q,r,a,by rw[hK];exact h1,f1,f2,f3,f4⟩;obtain⟨x,hx⟩:∃x,T.getD q te0=x:=⟨_,rfl⟩;rw[hx]at hV hv0 hv1⊢;obtain⟨k,h4⟩:∃k,x.2.length=k:=⟨_,rfl⟩;have hk64:k<=64:=by rw[<-h4];exact hV.1.1
 unfold prS;rw[h4];clear hOf;refine gN ?_;refine gB ?_;refine Call.i hOw [(1000,(1000,0,none)),(1001,(1001,0,none))] rfl fc rfl fc rfl ?_;rintro v M' (⟨hz2,rfl,rfl⟩|⟨r,w1,w2,rfl,rfl⟩)
 .have h0:¬vfy T N who text sig:=λh=>by
   obtain⟨_,a',_,r,f,_⟩:=hv0 h;rw[hz2]at f;omega
  refine gN ?_;by_cases c1:¬x.1=6
  .repeat(first|(refine zB.i (λh=>False.elim (by revert h;first|(simp[c1];done)|fail)) (λ_=>?_))|(refine zB.i (λ_=>?_) (λh=>False.elim (by revert h;first|(simp[c1];done)|fail)))|refine gt ?_|refine sd ?_)
   refine Ret.i .ff [(1000,.mem false 0 [(1,.slx 1001 0 0 N)]),(1001,.mem false 0 [(N*2,.arr N 2 (rtF T))])] [] rfl fc (Or.inr ⟨h0,rfl,rfl⟩) rfl fc rfl fc rfl
  have c1:x.1=6:=Classical.not_not.1 c1;by_cases c2:¬k=2
  .have c2':¬((k:Nat):Int)=2:=by omega
   repeat(first|(refine zB.i (λh=>False.elim (by revert h;first|(simp[c1,c2,c2'];done)|fail)) (λ_=>?_))|(refine zB.i (λ_=>?_) (λh=>False.elim (by revert h;first|(simp[c1,c2,c2'];done)|fail)))|refine gt ?_|refine sd ?_)
   refine Ret.i .ff [(1000,.mem false 0 [(1,.slx 1001 0 0 N)]),(1001,.mem false 0 [(N*2,.arr N 2 (rtF T))])] [] rfl fc (Or.inr ⟨h0,rfl,rfl⟩) rfl fc rfl fc rfl
  have c2:k=2:=Classical.not_not.1 c2;subst c2
  repeat(first|(refine zB.i (λh=>False.elim (by revert h;first|(simp[c1];done)|fail)) (λ_=>?_))|(refine zB.i (λ_=>?_) (λh=>False.elim (by revert h;first|(simp[c1];done)|fail)))|refine gt ?_|refine sd ?_)
  refine Ret.i .ff [(1000,.mem false 0 [(1,.slx 1001 0 0 N)]),(1001,.mem false 0 [(N*2,.arr N 2 (rtF T))])] [] rfl fc (Or.inr ⟨h0,rfl,rfl⟩) rfl fc rfl fc rfl
 have hW:=hTv _ (fq te0 (L:=T) (i:=r) (by omega))
 have hu:vfy T N who text sig->∃a,x=(6,[a,text])/\T.getD r te0=(5,[a]):=λh=>by
  obtain⟨_,a',f1,r',f2,f3⟩:=hv0 h;rw[w1]at f2;obtain rfl:r=r':=by omega
  exact⟨a',f1,f3⟩
 have hv1:sig.drop 32=replicate 32 0->∀a,x=(6,[a,text])->T.getD r te0=(5,[a])->vfy T N who text sig:=λf a g1 g2=>hv1 f a r g1 w1 g2;obtain⟨y,hy⟩:∃y,T.getD r te0=y:=⟨_,rfl⟩;rw[hy]at hW hu hv1⊢;obtain⟨k2,w4⟩:∃k,y.2.length=k:=⟨_,rfl⟩;have hk264:k2<=64:=by rw[<-w4];exact hW.1.1
 unfold prS;rw[w4];clear hOw;refine gN ?_;by_cases c1:¬x.1=6
 .have h0:¬vfy T N who text sig:=λh=>by obtain⟨a,f,_⟩:=hu h;exact c1 (by rw[f])
  repeat(first|(refine zB.i (λh=>False.elim (by revert h;first|(simp[c1];done)|fail)) (λ_=>?_))|(refine zB.i (λ_=>?_) (λh=>False.elim (by revert h;first|(simp[c1];done)|fail)))|refine gt ?_|refine sd ?_)
  refine Ret.i .ff [(1000,.mem false 0 [(1,.slx 1001 0 0 N)]),(1001,.mem false 0 [(N*2,.arr N 2 (rtF T))])] [] rfl fc (Or.inr ⟨h0,rfl,rfl⟩) rfl fc rfl fc rfl
 have c1:x.1=6:=Classical.not_not.1 c1;by_cases c2:¬k=2
 .have h0:¬vfy T N who text sig:=λh=>by obtain⟨a,f,_⟩:=hu h;exact c2 (by rw[<-h4,f];rfl)
  have c2':¬((k:Nat):Int)=2:=by omega
  repeat(first|(refine zB.i (λh=>False.elim (by revert h;first|(simp[c1,c2,c2'];done)|fail)) (λ_=>?_))|(refine zB.i (λ_=>?_) (λh=>False.elim (by revert h;first|(simp[c1,c2,c2'];done)|fail)))|refine gt ?_|refine sd ?_)
  refine Ret.i .ff [(1000,.mem false 0 [(1,.slx 1001 0 0 N)]),(1001,.mem false 0 [(N*2,.arr N 2 (rtF T))])] [] rfl fc (Or.inr ⟨h0,rfl,rfl⟩) rfl fc rfl fc rfl
 have c2:k=2:=Classical.not_not.1 c2;subst c2;by_cases d1:¬y.1=5
 .have h0:¬vfy T N who text sig:=λh=>by obtain⟨a,_,f⟩:=hu h;exact d1 (by rw[f])
  repeat(first|(refine zB.i (λh=>False.elim (by revert h;first|(simp[c1,d1];done)|fail)) (λ_=>?_))|(refine zB.i (λ_=>?_) (λh=>False.elim (by revert h;first|(simp[c1,d1];done)|fail)))|refine gt ?_|refine sd ?_)
  refine Ret.i .ff [(1000,.mem false 0 [(1,.slx 1001 0 0 N)]),(1001,.mem false 0 [(N*2,.arr N 2 (rtF T))])] [] rfl fc (Or.inr ⟨h0,rfl,rfl⟩) rfl fc rfl fc rfl
 have d1:y.1=5:=Classical.not_not.1 d1;by_cases d2:¬k2=1
 .have h0:¬vfy T N who text sig:=λh=>by obtain⟨a,_,f⟩:=hu h;exact d2 (by rw[<-w4,f];rfl)
  have d2':¬((k2:Nat):Int)=1:=by omega
  repeat(first|(refine zB.i (λh=>False.elim (by revert h;first|(simp[c1,d1,d2,d2'];done)|fail)) (λ_=>?_))|(refine zB.i (λ_=>?_) (λh=>False.elim (by revert h;first|(simp[c1,d1,d2,d2'];done)|fail)))|refine gt ?_|refine sd ?_)
  refine Ret.i .ff [(1000,.mem false 0 [(1,.slx 1001 0 0 N)]),(1001,.mem false 0 [(N*2,.arr N 2 (rtF T))])] [] rfl fc (Or.inr ⟨h0,rfl,rfl⟩) rfl fc rfl fc rfl
 have d2:k2=1:=Classical.not_not.1 d2;subst d2;obtain⟨a,b,hab⟩:∃a b,x.2=[a,b]:=by
  match hL:x.2,h4 with
  |[a,b],_=>exact⟨a,b,rfl⟩
 have hal:a.length<=4096:=hV.1.2 a (by rw[hab];simp);have hbl:b.length<=4096:=hV.1.2 b (by rw[hab];simp);have hxe:x=(6,[a,b]):=by rw[<-c1,<-hab]
 obtain⟨a2,hab2⟩:∃a,y.2=[a]:=by
  match hL:y.2,w4 with
  |[a],_=>exact⟨a,rfl⟩
 have hal2:a2.length<=4096:=hW.1.2 a2 (by rw[hab2];simp);have hye:y=(5,[a2]):=by rw[<-d1,<-hab2]
 rw[hab,hab2];have hB1:=aQO b text b.length n rfl hn;have hB2:=aQO a a2 a.length a2.length rfl rfl
 repeat(first|(refine zB.i (λh=>False.elim (by revert h;first|(simp[c1,d1];done)|fail)) (λ_=>?_))|(refine zB.i (λ_=>?_) (λh=>False.elim (by revert h;first|(simp[c1,d1];done)|fail)))|refine gt ?_|refine sd ?_)
 refine aY.i (σ:=Nat) (λi=>32<=i/\i<=64/\∀j,32<=j->j<i->sig.getD j 0=0)
  (λi=>([(2,.isl 0 n 1 [(n,.a8 text)]),(7,.ptr 207 0 none),(10,.ptr 210 0 none),(12,.ptr 212 0 none),(14,.i .i64 i)],[(207,.mem true 0 [(64,.a8 sig)]),
   (210,.mem true 0 [(1,.i .i64 6),(1,.isl 0 2 1 [(2*1,.arr 2 1 (rwF [a,b]))])]),(212,.mem true 0 [(1,.i .i64 5),(1,.isl 0 1 1 [(1*1,.arr 1 1 (rwF [a2]))])]),
   (1000,.mem false 0 [(1,.slx 1001 0 0 N)]),(1001,.mem false 0 [(N*2,.arr N 2 (rtF T))])])) (λi=>64-i) 32 ⟨le_refl _,by omega,λj h1 h2=>by omega⟩ ?_ ?_
 .refine Le.i [(207,(207,0,none)),(210,(10,0,none)),(212,(12,0,none))] rfl ?_ rfl ?_ rfl
  .exact fc
  repeat' first|exact trivial|refine zA.app ?_ ?_|refine zA.zd ?_ ?_|refine zA.cons ?_ ?_|exact fc|fail
  all_goals first|exact c1|exact c1.symm|exact d1|exact d1.symm
 rintro i ⟨i1,i2,i3⟩;refine zB.i ?_ ?_<;>intro hc
 .have hc:(i:Int)<64:=hc
  refine gC ?_;refine zB.i ?_ ?_<;>intro hb
  .have hb:¬sig.getD (i:Int).toNat 0=0:=hb
   have h0:¬vfy T N who text sig:=λh=>hb (by rw[zIn];exact tz (hv0 h).1 i i1 (by omega));refine gB ?_;refine Ret.i .ff [(1000,.mem false 0 [(1,.slx 1001 0 0 N)]),(1001,.mem false 0 [(N*2,.arr N 2 (rtF T))])] [] rfl fc (Or.inr ⟨h0,rfl,rfl⟩) rfl fc rfl fc rfl
  have hb:¬¬sig.getD (i:Int).toNat 0=0:=hb;rw[zIn]at hb;have hb:=Classical.not_not.1 hb;refine gB ?_
  refine⟨i+1,⟨by omega,by omega,λj h1 h2=>by
   rcases Nat.lt_or_ge j i with g|g
   .exact i3 j h1 g
   obtain rfl:j=i:=by omega
   exact hb⟩,by omega,Le.i [] rfl ?_ rfl ?_ rfl⟩
  .exact fc
  exact fc
 have hc:¬(i:Int)<64:=hc;have hz32:=zt λj g1 g2=>i3 j g1 (by omega);clear i3 hc;have f0:([a,b]:List (List UInt8))[fL 0 (Ix.lit 0).val]?.getD []=a:=rfl;have f1:([a,b]:List (List UInt8))[fL 0 (Ix.lit 1).val]?.getD []=b:=rfl;have f2:([a2]:List (List UInt8))[fL 0 (Ix.lit 0).val]?.getD []=a2:=rfl;refine gB ?_
 refine Cut.i (σ:=Unit) (λ_=>True) (λ_=>([(2,.isl 0 n 1 [(n,.a8 text)]),(10,.ptr 210 0 none),(12,.ptr 212 0 none)],[
   (210,.mem true 0 [(1,.i .i64 6),(1,.isl 0 2 1 [(2*1,.arr 2 1 (rwF [a,b]))])]),(212,.mem true 0 [(1,.i .i64 5),(1,.isl 0 1 1 [(1*1,.arr 1 1 (rwF [a2]))])]),
   (1000,.mem false 0 [(1,.slx 1001 0 0 N)]),(1001,.mem false 0 [(N*2,.arr N 2 (rtF T))])])) () trivial (Le.i [] rfl fc rfl fc rfl) ?_
 rintro - -;refine aH.i [[],[0],[0,1],[0,1,2],[],r_5,r_6,r_7,r_8,r_9,ek,r_7,[0,1,2,3,4,5,6,11],[0,1,2,3,4,5,6,11,12],[0,1,2,3,4,5,6,11,12,13],nw,na,wG] aBU (by kernel_rfl) ?_;by_cases c3:¬b=text
 .have h0:¬vfy T N who text sig:=λh=>by
   obtain⟨a',f,_⟩:=hu h;rw[hxe]at f;simp only[zpI,List.cons.injEq,true_and,and_true]at f;exact c3 f.2
  repeat(first|(refine zB.i (λh=>False.elim (by revert h;first|(simp[c3];done)|fail)) (λ_=>?_))|(refine zB.i (λ_=>?_) (λh=>False.elim (by revert h;first|(simp[c3];done)|fail)))|refine gt ?_|refine sd ?_)
  refine Call.i hB1 [] rfl ?_ rfl ?_ rfl ?_
  .repeat' first|exact trivial|refine zA.app ?_ ?_|refine zA.zd ?_ ?_|refine zA.cons ?_ ?_|exact fc|fail
   all_goals(first|(rw[mul_one];rfl)|trace_state)
  .exact fc
  rintro _ _ ⟨rfl,rfl⟩;refine gN ?_
  repeat(first|(refine zB.i (λh=>False.elim (by revert h;first|(simp[c3];done)|fail)) (λ_=>?_))|(refine zB.i (λ_=>?_) (λh=>False.elim (by revert h;first|(simp[c3];done)|fail)))|refine gt ?_|refine sd ?_)
  refine Ret.i .ff [(1000,.mem false 0 [(1,.slx 1001 0 0 N)]),(1001,.mem false 0 [(N*2,.arr N 2 (rtF T))])] [] rfl ?_ (Or.inr ⟨h0,rfl,rfl⟩) rfl ?_ rfl ?_ rfl
  .exact fc
  .repeat' first|exact trivial|refine zA.app ?_ ?_|refine zA.zd ?_ ?_|refine zA.cons ?_ ?_|exact fc|fail
   all_goals(simp[c3])
  exact fc
 have c3:b=text:=Classical.not_not.1 c3;subst c3
 repeat(first|(refine zB.i (λh=>False.elim (by revert h;first|(simp ;done)|fail)) (λ_=>?_))|(refine zB.i (λ_=>?_) (λh=>False.elim (by revert h;first|(simp ;done)|fail)))|refine gt ?_|refine sd ?_)
 refine Call.i hB1 [] rfl ?_ rfl ?_ rfl ?_
 .repeat' first|exact trivial|refine zA.app ?_ ?_|refine zA.zd ?_ ?_|refine zA.cons ?_ ?_|exact fc|fail
  all_goals(first|(rw[mul_one];rfl)|trace_state)
 .exact fc
 rintro _ _ ⟨rfl,rfl⟩;refine gN ?_
 repeat(first|(refine zB.i (λh=>False.elim (by revert h;first|(simp ;done)|fail)) (λ_=>?_))|(refine zB.i (λ_=>?_) (λh=>False.elim (by revert h;first|(simp ;done)|fail)))|refine gt ?_|refine sd ?_)
 refine Call.i hB2 [] rfl ?_ rfl ?_ rfl ?_
 .repeat' first|exact trivial|refine zA.app ?_ ?_|refine zA.zd ?_ ?_|refine zA.cons ?_ ?_|exact fc|fail
  all_goals(first|(rw[mul_one];rfl)|trace_state)
 .exact fc
 rintro _ _ ⟨rfl,rfl⟩;refine gN ?_
 repeat(first|(refine zB.i (λh=>False.elim (by revert h;first|(simp ;done)|fail)) (λ_=>?_))|(refine zB.i (λ_=>?_) (λh=>False.elim (by revert h;first|(simp ;done)|fail)))|refine gt ?_|refine sd ?_)
 by_cases d3:a=a2
 .subst d3
  have h1:vfy T N who b sig:=hv1 hz32 a hxe hye;refine Ret.i .tt [(1000,.mem false 0 [(1,.slx 1001 0 0 N)]),(1001,.mem false 0 [(N*2,.arr N 2 (rtF T))])] [] rfl ?_ (Or.inl ⟨h1,rfl,rfl⟩) rfl ?_ rfl ?_ rfl
  .exact fc
  .repeat' first|exact trivial|refine zA.app ?_ ?_|refine zA.zd ?_ ?_|refine zA.cons ?_ ?_|exact fc|fail
   all_goals(simp)
  exact fc
 have h0:¬vfy T N who b sig:=λh=>by
  obtain⟨a',f,g⟩:=hu h;rw[hxe]at f;rw[hye]at g;simp only[zpI,List.cons.injEq,true_and,and_true]at f g;exact d3 (f.trans g.symm)
 refine Ret.i .ff [(1000,.mem false 0 [(1,.slx 1001 0 0 N)]),(1001,.mem false 0 [(N*2,.arr N 2 (rtF T))])] [] rfl ?_ (Or.inr ⟨h0,rfl,rfl⟩) rfl ?_ rfl ?_ rfl
 .exact fc
 .repeat' first|exact trivial|refine zA.app ?_ ?_|refine zA.zd ?_ ?_|refine zA.cons ?_ ?_|exact fc|fail
  all_goals(simp[d3])
 exact fc
end Go.Proofs.YtaehfiohjkiajaaGreat
namespace Go.Proofs.YtaehfiohjkiajaaGreat
open Go Go.Sx Go.Cu
theorem aVL (q:List UInt8) (n:Nat) (hq:q.length=n) (pub sg:List UInt8) (hp:pub.length=32) (hs:sg.length=64) (T:Tm) (M:Mm)
  (hle:Le [] [(9,.ptr 209 0 none),(10,.ptr 210 0 none),(13,.ptr 213 0 none),(14,.ptr 214 0 none),(17,.isl 0 n 1 [(n,.a8 q)])]
   [(209,.mem true 0 [(32,.a8 pub)]),(210,.mem true 0 [(64,.a8 sg)]),(213,.mem true 0 [(1,.nilp)]),(214,.mem true 0 [(1,.nilp)])] T M):
  aSJ Γ [14,17] Tryz.f3 17 [] T M (λv _=>v= .tt):=by
 refine Cut.i (σ:=Unit) (λ_=>True) (λ_=>([(9,.ptr 209 0 none),(10,.ptr 210 0 none),(13,.ptr 213 0 none),(14,.ptr 214 0 none),(17,.isl 0 n 1 [(n,.a8 q)])],
   [(209,.mem true 0 [(32,.a8 pub)]),(210,.mem true 0 [(64,.a8 sg)]),(213,.mem true 0 [(1,.nilp)]),(214,.mem true 0 [(1,.nilp)])])) () trivial hle ?_
 rintro - -;refine gB ?_;refine zB.i ?_ ?_<;>intro hc
 .have hc:(n:Int)>4096:=hc
  have v1:=aCD pub q sg n hp hq (by omega) hs
  repeat(first|(refine zB.i (λh=>False.elim (by revert h;first|(simp ;done)|fail)) (λ_=>?_))|(refine zB.i (λ_=>?_) (λh=>False.elim (by revert h;first|(simp ;done)|fail)))|refine gi ?_|refine gt ?_|refine sd ?_)
  refine Call.pure v1 rfl fc ?_;rintro _ rfl
  repeat(first|(refine zB.i (λh=>False.elim (by revert h;first|(simp ;done)|fail)) (λ_=>?_))|(refine zB.i (λ_=>?_) (λh=>False.elim (by revert h;first|(simp ;done)|fail)))|refine gi ?_|refine gt ?_|refine sd ?_)
  refine Ret.i .tt [] [] rfl ?_ rfl rfl ?_ rfl ?_ rfl
  .exact fc
  .repeat' first|exact trivial|refine zA.app ?_ ?_|refine zA.zd ?_ ?_|refine zA.cons ?_ ?_|exact fc|fail
   all_goals(simp )
  exact fc
 have hc:¬(n:Int)>4096:=hc;have v1:=aHF pub q sg n hp hq (by omega) hs;have v2:=aHQ pub q sg n hp hq (by omega) hs;generalize vrf pub q sg=V at *;refine gB ?_;refine aH.i [[],[],[],[],r_4,[],[],[],[],r_9,ek,fe] [0,1,2,3,5,6,7,8,4,9,10,11] (by kernel_rfl) ?_
 repeat(first|(refine zB.i (λh=>False.elim (by revert h;first|(simp ;done)|fail)) (λ_=>?_))|(refine zB.i (λ_=>?_) (λh=>False.elim (by revert h;first|(simp ;done)|fail)))|refine gi ?_|refine gt ?_|refine sd ?_)
 refine Call.pure v1 rfl fc ?_;rintro _ rfl
 repeat(first|(refine zB.i (λh=>False.elim (by revert h;first|(simp ;done)|fail)) (λ_=>?_))|(refine zB.i (λ_=>?_) (λh=>False.elim (by revert h;first|(simp ;done)|fail)))|refine gi ?_|refine gt ?_|refine sd ?_)
 refine Call.pure v2 rfl fc ?_;rintro _ rfl
 repeat(first|(refine zB.i (λh=>False.elim (by revert h;first|(simp ;done)|fail)) (λ_=>?_))|(refine zB.i (λ_=>?_) (λh=>False.elim (by revert h;first|(simp ;done)|fail)))|refine gi ?_|refine gt ?_|refine sd ?_)
 refine Ret.i .tt [] [] rfl ?_ rfl rfl ?_ rfl ?_ rfl
 .exact fc
 .repeat' first|exact trivial|refine zA.app ?_ ?_|refine zA.zd ?_ ?_|refine zA.cons ?_ ?_|exact fc|fail
  all_goals(simp )
 exact fc
theorem aF9 (q:List UInt8) (n:Nat) (hq:q.length=n) (hn:n<=4096) (w:UInt8) (pub sg:List UInt8) (hp:pub.length=32) (hs:sg.length=64) (T:Tm) (M:Mm)
  (hle:Le [] [(2,.isl 0 n 1 [(n,.a8 q)]),(5,.u8 w),(9,.ptr 209 0 none),(10,.ptr 210 0 none),(13,.ptr 213 0 none),(14,.ptr 214 0 none)]
   [(209,.mem true 0 [(32,.a8 pub)]),(210,.mem true 0 [(64,.a8 sg)]),(213,.mem true 0 [(1,.nilp)]),(214,.mem true 0 [(1,.nilp)])] T M):
  aSJ Γ [14,17] Tryz.f3 14 [] T M (λv _=>v= .tt):=by
 have eq:take n q=q:=take_of_length_le (by omega);have h4:ofNat 4≠0:=by decide
 have h2:ofNat 2≠0:=by decide
 have hl1:(q++[w]).length=n+1:=by rw[zlA,hq];rfl
 refine Cut.i (σ:=Unit) (λ_=>True) (λ_=>([(2,.isl 0 n 1 [(n,.a8 q)]),(5,.u8 w),(9,.ptr 209 0 none),(10,.ptr 210 0 none),(13,.ptr 213 0 none),(14,.ptr 214 0 none)],
   [(209,.mem true 0 [(32,.a8 pub)]),(210,.mem true 0 [(64,.a8 sg)]),(213,.mem true 0 [(1,.nilp)]),(214,.mem true 0 [(1,.nilp)])])) () trivial hle ?_
 rintro - -;refine gB ?_;refineλc1 hc1=>?_;refine gB ?_;refine zB.i ?_ ?_<;>intro hb
 .refine gB ?_
  refineλc2 hc2=>?_;refine gB ?_;refine aVL (q++[w]) (n+1) hl1 pub sg hp hs _ _ (Le.ghost [.keep 66] [(17,0)] [] rfl ?_ rfl rfl ?_ rfl ?_ rfl)
  .exact fc
  .repeat' first|exact trivial|refine zA.app ?_ ?_|refine zA.zd ?_ ?_|refine zA.cons ?_ ?_|exact fc|fail
   all_goals(simp[bq,eq])
  exact fc
 refine gB ?_;refine aVL q n hq pub sg hp hs _ _ (Le.ghost [.keep 58] [(17,0)] [] rfl ?_ rfl rfl ?_ rfl ?_ rfl)
 .exact fc
 .repeat' first|exact trivial|refine zA.app ?_ ?_|refine zA.zd ?_ ?_|refine zA.cons ?_ ?_|exact fc|fail
  all_goals(simp[bq,eq])
 exact fc
theorem aVM (B:List Te) (N c d:Nat) (hB:B.length=N) (hN:N<=100) (hc0:N<=c) (hd0:N<=d) (hvB:∀x∈B,bP x.1 x.2) (q:List UInt8) (n:Nat) (hq:q.length=n) (pub sg:List UInt8) (hp:pub.length=32) (hs:sg.length=64) (T:Tm) (M:Mm)
  (hle:Le [] [(9,.ptr 209 0 none),(10,.ptr 210 0 none),(13,.ptr 213 0 none),(14,.ptr 214 0 none),(17,.isl 0 n 1 [(n,.a8 q)])] [(209,.mem true 0 [(32,.a8 pub)]),(210,.mem true 0 [(64,.a8 sg)]),(213,.mem true 0 [(1,.ptr 1000 0 none)]),(214,.mem true 0 [(1,.ptr 2000 0 none)]),
   (1000,.mem true 0 [(1,.sl 305 0 0 N c),(1,.mp 1002)]),(305,.mem true (zmE (c-N) 3) [(N*3,.arr N 3 (ttF B))]),(1002,.map (.si (mpL B))),(2000,.mem true 0 [(1,.sl 405 0 0 N d)]),(405,.mem true (zmE (d-N) 2) [(N*2,.arr N 2 (rtF B))])] T M):
  aSJ Γ [14,17] Tryz.f3 17 [] T M (λv _=>v= .tt):=by
 refine Cut.i (σ:=Unit) (λ_=>True) (λ_=>([(9,.ptr 209 0 none),(10,.ptr 210 0 none),(13,.ptr 213 0 none),(14,.ptr 214 0 none),(17,.isl 0 n 1 [(n,.a8 q)])],[(209,.mem true 0 [(32,.a8 pub)]),(210,.mem true 0 [(64,.a8 sg)]),(213,.mem true 0 [(1,.ptr 1000 0 none)]),(214,.mem true 0 [(1,.ptr 2000 0 none)]),
   (1000,.mem true 0 [(1,.sl 305 0 0 N c),(1,.mp 1002)]),(305,.mem true (zmE (c-N) 3) [(N*3,.arr N 3 (ttF B))]),(1002,.map (.si (mpL B))),(2000,.mem true 0 [(1,.sl 405 0 0 N d)]),(405,.mem true (zmE (d-N) 2) [(N*2,.arr N 2 (rtF B))])])) () trivial hle ?_
 rintro - -;refine gB ?_;refine zB.i ?_ ?_<;>intro hc
 .have hc:(n:Int)>4096:=hc
  have v1:=aCE B N c pub q sg n hp hq (by omega) hs;unfold tbM at v1
  repeat(first|(refine zB.i (λh=>False.elim (by revert h;first|(simp ;done)|fail)) (λ_=>?_))|(refine zB.i (λ_=>?_) (λh=>False.elim (by revert h;first|(simp ;done)|fail)))|refine gi ?_|refine gt ?_|refine sd ?_)
  refine Call.i v1 [(1000,(1000,0,none)),(1001,(305,0,none)),(1002,(1002,0,none))] rfl fc rfl fc rfl ?_;rintro _ _ ⟨rfl,rfl⟩;refine gN ?_
  repeat(first|(refine zB.i (λh=>False.elim (by revert h;first|(simp ;done)|fail)) (λ_=>?_))|(refine zB.i (λ_=>?_) (λh=>False.elim (by revert h;first|(simp ;done)|fail)))|refine gi ?_|refine gt ?_|refine sd ?_)
  refine Ret.i .tt [] [] rfl ?_ rfl rfl ?_ rfl ?_ rfl
  .exact fc
  .repeat' first|exact trivial|refine zA.app ?_ ?_|refine zA.zd ?_ ?_|refine zA.cons ?_ ?_|exact fc|fail
   all_goals(simp )
  exact fc
 have hc:¬(n:Int)>4096:=hc;have v1:=aHG B N hB (by omega) hvB pub q sg n hp hq (by omega) hs;have v2:=aJM B N hB (by omega) hvB pub q sg n hp hq (by omega) hs;refine gB ?_;refine aH.i [[],[],[],[],r_4,[],[],[],[],r_9,ek,fe] [0,1,2,3,5,6,7,8,4,9,10,11] (by kernel_rfl) ?_
 repeat(first|(refine zB.i (λh=>False.elim (by revert h;first|(simp ;done)|fail)) (λ_=>?_))|(refine zB.i (λ_=>?_) (λh=>False.elim (by revert h;first|(simp ;done)|fail)))|refine gi ?_|refine gt ?_|refine sd ?_)
 refine Call.i v1 [(1000,(1000,0,none)),(1001,(305,0,none)),(1002,(1002,0,none))] rfl fc rfl fc rfl ?_;rintro v M' (⟨hv,rfl,rfl⟩|⟨hv,rfl,rfl⟩)
 .refine gN ?_
  repeat(first|(refine zB.i (λh=>False.elim (by revert h;first|(simp ;done)|fail)) (λ_=>?_))|(refine zB.i (λ_=>?_) (λh=>False.elim (by revert h;first|(simp ;done)|fail)))|refine gi ?_|refine gt ?_|refine sd ?_)
  refine Call.i v2 [(1000,(2000,0,none)),(1001,(405,0,none))] rfl fc rfl fc rfl ?_;rintro v M' (⟨hv2,rfl,rfl⟩|⟨hv2,rfl,rfl⟩)
  .refine gN ?_
   repeat(first|(refine zB.i (λh=>False.elim (by revert h;first|(simp ;done)|fail)) (λ_=>?_))|(refine zB.i (λ_=>?_) (λh=>False.elim (by revert h;first|(simp ;done)|fail)))|refine gi ?_|refine gt ?_|refine sd ?_)
   refine Ret.i .tt [] [] rfl ?_ rfl rfl ?_ rfl ?_ rfl
   .exact fc
   .repeat' first|exact trivial|refine zA.app ?_ ?_|refine zA.zd ?_ ?_|refine zA.cons ?_ ?_|exact fc|fail
    all_goals(simp )
   exact fc
  exact absurd hv hv2
 refine gN ?_
 repeat(first|(refine zB.i (λh=>False.elim (by revert h;first|(simp ;done)|fail)) (λ_=>?_))|(refine zB.i (λ_=>?_) (λh=>False.elim (by revert h;first|(simp ;done)|fail)))|refine gi ?_|refine gt ?_|refine sd ?_)
 refine Call.i v2 [(1000,(2000,0,none)),(1001,(405,0,none))] rfl fc rfl fc rfl ?_;rintro v M' (⟨hv2,rfl,rfl⟩|⟨hv2,rfl,rfl⟩)
 .exact absurd hv2 hv
 refine gN ?_
 repeat(first|(refine zB.i (λh=>False.elim (by revert h;first|(simp ;done)|fail)) (λ_=>?_))|(refine zB.i (λ_=>?_) (λh=>False.elim (by revert h;first|(simp ;done)|fail)))|refine gi ?_|refine gt ?_|refine sd ?_)
 refine Ret.i .tt [] [] rfl ?_ rfl rfl ?_ rfl ?_ rfl
 .exact fc
 .repeat' first|exact trivial|refine zA.app ?_ ?_|refine zA.zd ?_ ?_|refine zA.cons ?_ ?_|exact fc|fail
  all_goals(simp )
 exact fc
theorem aHM (B:List Te) (N c d:Nat) (hB:B.length=N) (hN:N<=100) (hc0:N<=c) (hd0:N<=d) (hvB:∀x∈B,bP x.1 x.2) (q:List UInt8) (n:Nat) (hq:q.length=n) (hn:n<=4096) (w:UInt8) (pub sg:List UInt8) (hp:pub.length=32) (hs:sg.length=64) (T:Tm) (M:Mm)
  (hle:Le [] [(2,.isl 0 n 1 [(n,.a8 q)]),(5,.u8 w),(9,.ptr 209 0 none),(10,.ptr 210 0 none),(13,.ptr 213 0 none),(14,.ptr 214 0 none)] [(209,.mem true 0 [(32,.a8 pub)]),(210,.mem true 0 [(64,.a8 sg)]),(213,.mem true 0 [(1,.ptr 1000 0 none)]),(214,.mem true 0 [(1,.ptr 2000 0 none)]),
   (1000,.mem true 0 [(1,.sl 305 0 0 N c),(1,.mp 1002)]),(305,.mem true (zmE (c-N) 3) [(N*3,.arr N 3 (ttF B))]),(1002,.map (.si (mpL B))),(2000,.mem true 0 [(1,.sl 405 0 0 N d)]),(405,.mem true (zmE (d-N) 2) [(N*2,.arr N 2 (rtF B))])] T M):
  aSJ Γ [14,17] Tryz.f3 14 [] T M (λv _=>v= .tt):=by
 have eq:take n q=q:=take_of_length_le (by omega);have h4:ofNat 4≠0:=by decide
 have h2:ofNat 2≠0:=by decide
 have hl1:(q++[w]).length=n+1:=by rw[zlA,hq];rfl
 refine Cut.i (σ:=Unit) (λ_=>True) (λ_=>([(2,.isl 0 n 1 [(n,.a8 q)]),(5,.u8 w),(9,.ptr 209 0 none),(10,.ptr 210 0 none),(13,.ptr 213 0 none),(14,.ptr 214 0 none)],[(209,.mem true 0 [(32,.a8 pub)]),(210,.mem true 0 [(64,.a8 sg)]),(213,.mem true 0 [(1,.ptr 1000 0 none)]),(214,.mem true 0 [(1,.ptr 2000 0 none)]),
   (1000,.mem true 0 [(1,.sl 305 0 0 N c),(1,.mp 1002)]),(305,.mem true (zmE (c-N) 3) [(N*3,.arr N 3 (ttF B))]),(1002,.map (.si (mpL B))),(2000,.mem true 0 [(1,.sl 405 0 0 N d)]),(405,.mem true (zmE (d-N) 2) [(N*2,.arr N 2 (rtF B))])])) () trivial hle ?_
 rintro - -;refine gB ?_;refineλc1 hc1=>?_;refine gB ?_;refine zB.i ?_ ?_<;>intro hb
 .refine gB ?_
  refineλc2 hc2=>?_;refine gB ?_;refine aVM B N c d hB hN hc0 hd0 hvB (q++[w]) (n+1) hl1 pub sg hp hs _ _ (Le.ghost [.keep 66] [(17,0)] [] rfl ?_ rfl rfl ?_ rfl ?_ rfl)
  .exact fc
  .repeat' first|exact trivial|refine zA.app ?_ ?_|refine zA.zd ?_ ?_|refine zA.cons ?_ ?_|exact fc|fail
   all_goals(simp[bq,eq])
  exact fc
 refine gB ?_;refine aVM B N c d hB hN hc0 hd0 hvB q n hq pub sg hp hs _ _ (Le.ghost [.keep 58] [(17,0)] [] rfl ?_ rfl rfl ?_ rfl ?_ rfl)
 .exact fc
 .repeat' first|exact trivial|refine zA.app ?_ ?_|refine zA.zd ?_ ?_|refine zA.cons ?_ ?_|exact fc|fail
  all_goals(simp[bq,eq])
 exact fc
end Go.Proofs.YtaehfiohjkiajaaGreat
namespace Go.Proofs.YtaehfiohjkiajaaGreat
open Go Go.Sx Go.Cu
theorem aJ5 (T:List Te) (N c:Nat) (hT:T.length=N) (hN:N<=60000) (hNc:N<=c) (hTv:∀x∈T,bP x.1 x.2) (p:List UInt8) (hp:p.length=32) (T1:List Te) (o:Nat) (e1:(mk1 T 5 p).1=T1) (e2:(mk1 T 5 p).2=o):
  Sx.Fn Γ.P 10 [.agg [(1,.ptr 1000 0 none)],.a8 p] (rbM N c T 1001)
  (λv M=>∃n' c',T1.length=n'/\n'<=c'/\v= .a8 (kyB o)/\M=(1001,.dead)::rbM n' c' T1 1005):=by
 have hM:=acW T N c hT hN hNc hTv 5 p (by omega) T1 o e1 e2;have hkl:=zk o;unfold M12 rwS at hM;unfold rbM;refine cV [3] (Γ:=Γ) (fn:=Tryz.f10) rfl rfl rfl rfl ?_;refine gB ?_;refine zB.i (λhc=>absurd hc (by simp)) (λ_=>?_)
 refine Cut.i (σ:=Unit) (λ_=>True) (λ_=>([(2,.ptr 202 0 none),(3,.ptr 203 0 none),(4,.ptr 204 0 none)],[(202,.mem true 0 [(1,.ptr 1000 0 none)]),(203,.mem false 1 [(32,.a8 p)]),(204,.mem true 0 [(32,.a8 (replicate 32 0))]),
  (1000,.mem true 0 [(1,.sl 1001 0 0 N c)]),(1001,.mem true (zmE (c-N) 2) [(N*2,.arr N 2 (rtF T))])])) () trivial (Le.ghost [.keep 3] [] [(202,(2,0,none)),(203,(3,0,none)),(204,(4,0,none))] rfl fc rfl rfl fc rfl fc rfl) ?_
 rintro - -;refine aH.i [[],[0],[],[2],r_4,r_5,r_6,r_6,[],[0,1,2,3,4,5,6,8],ek] [0,1,2,3,8,4,5,6,7,9,10] (by kernel_rfl) ?_;refine gE ?_;refine Call.name [(0,[]),(0,[]),(2001,[])] rfl fc (kW.i hM [(1000,(1000,0,none)),(1001,(1001,0,none)),(1003,(2001,0,none)),(1005,(305,0,none))] rfl fc rfl ?_ rfl ?_)
 .repeat' first|exact trivial|refine zA.app ?_ ?_|refine zA.zd ?_ ?_|refine zA.cons ?_ ?_|exact fc|fail
  all_goals exact aSX hp
 rintro v M' ⟨n',c',hn',hnc',rfl,rfl⟩;refine gN ?_;refine gE ?_;refine Ret.i (.a8 (kyB o)) ((1001,.dead)::rbM n' c' T1 1005) [(1005,(305,0,none))] rfl fc ⟨n',c',hn',hnc',rfl,rfl⟩ rfl fc rfl fc rfl
end Go.Proofs.YtaehfiohjkiajaaGreat
namespace Go.Proofs.YtaehfiohjkiajaaGreat
open Go Go.Sx Go.Cu
theorem wj (P:Prop) (hP:¬P) (s q:List UInt8) (n:Nat) (pub sg:List UInt8) (w:UInt8) (hs:s.length=32) (hq:q.length=n) (hp:pub.length=32) (hg:sg.length=64):Sx.Fn Γ.P 3 [.bool P,.a8 s,.isl 0 n 1 [(n,.a8 q)],.a8 pub,.a8 sg,.u8 w] [] (λv _=>v= .tt):=by
 have s1:=aHH s hs;have s2:=aJN s hs;have l1:=gU s;have lG:=gX s q;have g1:=λh=>aQ6 s q n hs hq h;have g2:=λh=>aLV s q n hs hq h;generalize sgB s q=G at *;generalize spB s=S at *;have h4:ofNat 4≠0:=by decide
 have h2:ofNat 2≠0:=by decide
 refine cV [14,17] (Γ:=Γ) (fn:=Tryz.f3) rfl rfl rfl rfl ?_;refine gB ?_;refine Call.i fn4 [] rfl trivial rfl trivial rfl ?_;rintro v M' rfl;refine gN ?_
 repeat(first|(refine zB.i (λ_=>?_) (λhn=>absurd rfl hn))|refine ky0 ?_|refine kn0 ?_|refine sd ?_)
 refine zB.i ?_ ?_<;>intro hc
 .refine gB ?_
  refine Ret.i .tt [] [] rfl fc rfl rfl fc rfl fc rfl
 have hc:¬(n:Int)>4096:=hc;have hn:n<=4096:=by omega
 refine gB ?_;have g1:=g1 hn;have g2:=g2 hn;refine Call.i tN [] rfl fc rfl fc rfl ?_;rintro _ _ ⟨rfl,rfl⟩;refine gN ?_;refine gB ?_;refine Call.i aN4 [] rfl fc rfl fc rfl ?_;rintro _ _ ⟨rfl,rfl⟩;refine gN ?_;refine gB ?_;refine Call.pure g1 rfl fc ?_;rintro _ rfl;refine gP ?_;refine Call.pure s1 rfl fc ?_;rintro _ rfl;refine gP ?_;refine aH.i [[],[],[],[],[1,2,3],r_5,r_6,r_7,r_7,r_7,[0,1,2,3,4,5,6,8,9],fe,kX] jO (by kernel_rfl) ?_;refine gP ?_;refine Call.pure g2 rfl fc ?_;rintro _ rfl;refine gP ?_;refine Call.pure s2 rfl fc ?_;rintro _ rfl;refine gP ?_;refine zB.i ?_ ?_<;>intro ha
 .refine gB ?_
  refine zB.i ?_ ?_<;>intro hb
  .refine gB ?_
   refine aF9 q n hq hn w S G l1 lG _ _ (Le.i [(209,(9,0,none)),(210,(10,0,none)),(213,(13,0,none)),(214,(14,0,none))] rfl fc rfl fc rfl)
  refine gB ?_;refine aF9 q n hq hn w pub G hp lG _ _ (Le.i [(209,(9,0,none)),(210,(10,0,none)),(213,(13,0,none)),(214,(14,0,none))] rfl fc rfl fc rfl)
 refine gB ?_;refine zB.i ?_ ?_<;>intro hb
 .refine gB ?_
  refine aF9 q n hq hn w S sg l1 hg _ _ (Le.i [(209,(9,0,none)),(210,(10,0,none)),(213,(13,0,none)),(214,(14,0,none))] rfl fc rfl fc rfl)
 refine gB ?_;refine aF9 q n hq hn w pub sg hp hg _ _ (Le.i [(209,(9,0,none)),(210,(10,0,none)),(213,(13,0,none)),(214,(14,0,none))] rfl fc rfl fc rfl)
theorem wk (P:Prop) (hP:P) (s q:List UInt8) (n:Nat) (pub sg:List UInt8) (w:UInt8) (hs:s.length=32) (hq:q.length=n) (hp:pub.length=32) (hg:sg.length=64):Sx.Fn Γ.P 3 [.bool P,.a8 s,.isl 0 n 1 [(n,.a8 q)],.a8 pub,.a8 sg,.u8 w] [] (λv _=>v= .tt):=by
 have h4:ofNat 4≠0:=by decide
 have h2:ofNat 2≠0:=by decide
 refine cV [14,17] (Γ:=Γ) (fn:=Tryz.f3) rfl rfl rfl rfl ?_;refine gB ?_;refine Call.i fn4 [] rfl trivial rfl trivial rfl ?_;rintro v M' rfl;refine gN ?_
 repeat(first|(refine zB.i (λ_=>?_) (λhn=>absurd rfl hn))|refine ky0 ?_|refine kn0 ?_|refine sd ?_)
 refine zB.i ?_ ?_<;>intro hc
 .refine gB ?_
  refine Ret.i .tt [] [] rfl fc rfl rfl fc rfl fc rfl
 have hc:¬(n:Int)>4096:=hc;have hn:n<=4096:=by omega
 refine gB ?_;obtain⟨A,hA⟩:∃A,(mk2 [] 6 s q).1=A:=⟨_,rfl⟩;obtain⟨o1,ho1⟩:∃o,(mk2 [] 6 s q).2=o:=⟨_,rfl⟩;have hvA:=aGB (T:=[]) ib 6 s q;have hlA:=(aQL [] 6 s q).2;rw[hA]at hvA hlA;have hlA:A.length<=1:=hlA;obtain⟨B,hB⟩:∃B,(mk1 A 5 s).1=B:=⟨_,rfl⟩;obtain⟨o2,ho2⟩:∃o,(mk1 A 5 s).2=o:=⟨_,rfl⟩;have hvB:=aGC hvA 5 s;have hlB:=(aQN A 5 s).2;rw[hB]at hvB hlB;have hsl:=mP o1;have hk2:=zk o2;have hF1:=aQ7 [] 0 0 rfl (by omega) (le_refl _) ib s q n hs hq hn A o1 hA ho1;have hR1:=aLW [] 0 0 rfl (by omega) (le_refl _) ib s q n hs hq hn A o1 hA ho1;unfold tbM at hF1;unfold rbM at hR1;refine Call.i tO [(1000,(1000,0,none)),(1001,(1001,0,none)),(1002,(1002,0,none))] rfl fc rfl fc rfl ?_;rintro _ _ ⟨rfl,rfl⟩;refine gN ?_;refine gB ?_;refine Call.i aN5 [(1000,(2000,0,none)),(1001,(2001,0,none))] rfl fc rfl fc rfl ?_;rintro _ _ ⟨rfl,rfl⟩;refine gN ?_;refine gB ?_;refine Call.i hF1 [(1000,(1000,0,none)),(1001,(1001,0,none)),(1002,(1002,0,none)),(1005,(305,0,none))] rfl fc rfl fc rfl ?_;rintro v M' ⟨n1,c1,hn1,hc1,rfl,rfl⟩;refine gN ?_;refine gP ?_;have hF2:=vP A n1 c1 hn1 (by omega) hc1 hvA s hs B o2 hB ho2;unfold tbM at hF2;refine Call.i hF2 [(1000,(1000,0,none)),(1001,(305,0,none)),(1002,(1002,0,none)),(1005,(306,0,none))] rfl fc rfl fc rfl ?_;rintro v M' ⟨n2,c2,hn2,hc2,rfl,rfl⟩;refine gN ?_;refine gP ?_;refine aH.i [[],[],[],[],[1,2,3],r_5,r_6,r_7,r_7,r_7,[0,1,2,3,4,5,6,8,9],fe,kX] jO (by kernel_rfl) ?_;refine gP ?_;refine Call.i hR1 [(1000,(2000,0,none)),(1001,(2001,0,none)),(1005,(405,0,none))] rfl fc rfl fc rfl ?_;rintro v M' ⟨m1,d1,hm1,hd1,rfl,rfl⟩;refine gN ?_;refine gP ?_;have hR2:=aJ5 A m1 d1 hm1 (by omega) hd1 hvA s hs B o2 hB ho2;unfold rbM at hR2;refine Call.i hR2 [(1000,(2000,0,none)),(1001,(405,0,none)),(1005,(406,0,none))] rfl fc rfl fc rfl ?_;rintro v M' ⟨m2,d2,hm2,hd2,rfl,rfl⟩;refine gN ?_;refine gP ?_;obtain rfl:m2=n2:=by omega
 refine zB.i ?_ ?_<;>intro ha
 .refine gB ?_
  refine zB.i ?_ ?_<;>intro hb
  .refine gB ?_
   refine aHM B _ c2 d2 hn2 (by omega) hc2 (by omega) hvB q n hq hn w (kyB o2) (sgF o1) hk2 hsl _ _ (Le.i [(209,(9,0,none)),(210,(10,0,none)),(213,(13,0,none)),(214,(14,0,none)),(305,(306,0,none)),(405,(406,0,none))] rfl fc rfl fc rfl)
  refine gB ?_;refine aHM B _ c2 d2 hn2 (by omega) hc2 (by omega) hvB q n hq hn w pub (sgF o1) hp hsl _ _ (Le.i [(209,(9,0,none)),(210,(10,0,none)),(213,(13,0,none)),(214,(14,0,none)),(305,(306,0,none)),(405,(406,0,none))] rfl fc rfl fc rfl)
 refine gB ?_;refine zB.i ?_ ?_<;>intro hb
 .refine gB ?_
  refine aHM B _ c2 d2 hn2 (by omega) hc2 (by omega) hvB q n hq hn w (kyB o2) sg hk2 hg _ _ (Le.i [(209,(9,0,none)),(210,(10,0,none)),(213,(13,0,none)),(214,(14,0,none)),(305,(306,0,none)),(405,(406,0,none))] rfl fc rfl fc rfl)
 refine gB ?_;refine aHM B _ c2 d2 hn2 (by omega) hc2 (by omega) hvB q n hq hn w pub sg hp hg _ _ (Le.i [(209,(9,0,none)),(210,(10,0,none)),(213,(13,0,none)),(214,(14,0,none)),(305,(306,0,none)),(405,(406,0,none))] rfl fc rfl fc rfl)
theorem suiteVerifies_runs (svs:List SV) (h:aWM [aG1,aG2 32,aG0 1,aG2 32,aG2 64,ab2] svs):Sx.Fn Γ.P 3 svs [] (λv _=>v= .tt):=by
 match svs,h with
 |[_,_,_,_,_,_],⟨⟨p,rfl⟩,⟨s,hs,rfl⟩,⟨n,q,hq,_,rfl⟩,⟨pub,hp,rfl⟩,⟨sg,hg,rfl⟩,⟨w,rfl⟩,_⟩=>
  rw[mul_one]at hq⊢;by_cases hp0:p=true
  .exact wk _ hp0 s q n pub sg w hs hq hp hg
  exact wj _ hp0 s q n pub sg w hs hq hp hg
end Go.Proofs.YtaehfiohjkiajaaGreat
