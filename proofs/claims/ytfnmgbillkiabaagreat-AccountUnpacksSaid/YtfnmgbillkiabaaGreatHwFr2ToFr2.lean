/- What the functions of the program compute. No condition. -/
import Derived.Test.YtfnmgbillkiabaaGreatHwAc7ToNm
set_option linter.unusedSimpArgs false
set_option linter.unusedVariables false
set_option maxRecDepth 100000
namespace Go.Proofs.YtfnmgbillkiabaaGreat
open Go Go.Sx
def vfy (T:List Te) (N:Nat) (signer text sig:List UInt8):Prop:=
 ∃ q r a,numP (sig.take 32) N 0 = q + 1/\sig.drop 32 = List.replicate 32 0/\T.getD q te0 = (6,[a,text])/\numP signer N 0 = r + 1/\T.getD r te0 = (5,[a])
theorem cpK {K X:List UInt8} (hX:X = K) (hl:K.length = 32):K = List.take 0 (List.replicate 32 (0:UInt8)) ++ List.take (min X.length 32) X ++ List.drop (0 + min X.length 32) (List.replicate 32 0):=by
 subst hX
 have h:=takeK hl (Nat.le_refl _)
 rw [List.take_of_length_le (l:=X) (i:=32) (by omega)] at h
 exact h
set_option maxHeartbeats 4000000 in
theorem fnVerifyF (T:List Te) (N:Nat) (hT:T.length = N) (hN:N <= 60000) (hTv:∀ x ∈ T,Valid x.1 x.2) (who text sig:List UInt8) (n:Nat) (hw:who.length = 32) (hn:text.length = n) (hn1:n <= 4096) (hs:sig.length = 64) :
  Sx.Fn Γ.P 103 [.agg [(1,.ptr 1000 0 none)],.a8 who,.isl 0 n 1 [(n,.a8 text)],.a8 sig] [(1000,.mem false 0 [(1,.slx 1001 0 0 N),(1,.mp 1002)]),(1001,.mem false 0 [(N * 3,.arr N 3 (ttF T))]),(1002,.dead)]
  (fun v M=>(vfy T N who text sig/\v = .tt/\M = [(1000,.mem false 0 [(1,.slx 1001 0 0 N),(1,.mp 1002)]),(1001,.mem false 0 [(N * 3,.arr N 3 (ttF T))]),(1002,.dead)]) \/
   (¬ vfy T N who text sig/\v = .ff/\M = [(1000,.mem false 0 [(1,.slx 1001 0 0 N),(1,.mp 1002)]),(1001,.mem false 0 [(N * 3,.arr N 3 (ttF T))]),(1002,.dead)])):=by
 obtain ⟨K,hK⟩:∃ K,sig.take 32 = K:=⟨_,rfl⟩
 obtain ⟨Z,hZ⟩:∃ Z,sig.drop 32 = Z:=⟨_,rfl⟩
 have hKl:K.length = 32:=by rw [<- hK,zlT];omega
 have hZl:Z.length = 32:=by rw [<- hZ,zlD];omega
 have eK:List.take 32 (List.drop 0 sig) = K:=by rw [List.drop_zero,hK]
 have eZ:List.take 32 (List.drop 32 sig) = Z:=by rw [hZ,List.take_of_length_le (by omega)]
 have hOf:=fn87 T N hT hN hTv K hKl
 have hOw:=fn87 T N hT hN hTv who hw
 refine fn_cut [8,11] (Γ:=Γ) (fn:=Tryz.f103) rfl rfl rfl rfl ?_
 repeat (refine sd ?_)
 refine zB.intro (fun hc=>?_) (fun hc=>?_)
 ·have hc:(n:Int) > 4096:=hc
  exact absurd hc (by omega)
 repeat (refine sd ?_)
 refine zB.intro (fun hc=>absurd hc (by simp)) (fun _=>?_)
 repeat (refine sd ?_)
 refine Draw.intro [[],[],[0,1]] [0,1,2] (by kernel_rfl) ?_
 repeat (first | (refine Grow.turn rfl rfl ?_) | (refine sd ?_))
 refine Draw.intro [[],[],[0,1]] [0,1,2] (by kernel_rfl) ?_
 repeat (first | (refine Grow.turn rfl rfl ?_) | (refine sd ?_))
 refine Cut.intro (σ:=Unit) (fun _=>True) (fun _=>([(2,.isl 0 n 1 [(n,.a8 text)]),(4,.ptr 204 0 none),(5,.ptr 205 0 none),(9,.ptr 209 0 none),(10,.ptr 210 0 none)],[(204,.mem true 0 [(1,.ptr 1000 0 none)]),(205,.mem true 0 [(32,.a8 who)]),(209,.mem true 0 [(32,.a8 K)]),(210,.mem true 0 [(32,.a8 Z)]),
  (1000,.mem false 0 [(1,.slx 1001 0 0 N),(1,.mp 1002)]),(1001,.mem false 0 [(N * 3,.arr N 3 (ttF T))]),(1002,.dead)])) () trivial (Le.intro [(204,(4,0,none)),(205,(5,0,none)),(209,(9,0,none)),(210,(10,0,none))] rfl ?_ rfl ?_ rfl) ?_
 ·exact fc
 ·repeat' (first | (show zA _;first | exact trivial | refine zA.app ?_ ?_ | refine zA.zd ?_ ?_ | refine zA.cons ?_ ?_) | exact fd | fail)
  all_goals first | (refine cpK ?_ hKl;exact eK) | (refine cpK ?_ hZl;exact eZ)
 rintro - -
 repeat (refine sd ?_)
 refine Call.intro hOf [(1000,(1000,0,none)),(1001,(1001,0,none)),(1002,(1002,0,none)),(1005,(305,0,none))] rfl ?_ rfl ?_ rfl ?_
 ·exact fc
 ·exact fc
 rintro v M' (⟨hz,rfl,rfl⟩ | ⟨q,L,k,c,g1,g2,g3,g4,g5,rfl,rfl⟩)
 ·have h0:¬ vfy T N who text sig:=by
   rintro ⟨q,r,a,f1,_⟩
   rw [hK,hz] at f1;omega
  dsimp only [zt,zM,zE,ren,zz,zx,zy,look,zG,zX,ev,evL,zV,zcT,zcF,act,zP,zO,Ent.zW]
  repeat (refine sd ?_)
  by_cases c0:¬ Z = List.replicate 32 0
  ·refine Draw.intro [[],[],[0,1],[0,1,2],[0,1,2,3],[0,1,2,3,4],[0,1,2,3,4,5],[0,1,2,3,4,5,6],[0,1,2,3,4,5,6,7],[0,1,2,3,4,5,6,7,8],[0,1,2,3,4,5,6,7,8,9],[0,1,2,3,4,5,6,7,8,9,10],[0,1,2,3,4,5,6,7,8,9,10,11],[0,1,2,3,4,5,6,7,8,9,10,11,12],[0,1,2,3,4,5,6,7,8,9,10,11,12,13],[0,1,2,3,4,5,6,7,8,9,10,11,12,13,14],[0,1,2,3,4,5,6,7,8,9,10,11,12,13,14,15],[0,1,2,3,4,5,6,7,8,9,10,11,12],[0,1,2,3,4,5,6,7,8,9,10,11,12,17],[0,1,2,3,4,5,6,7,8,9,10,11,12,13,14,15,16,17,18],[0,1,2,3,4,5,6,7,8,9,10,11,12,13,14,15,16,17,18,19]] [0,1,2,3,4,5,6,7,8,9,10,11,12,13,14,15,16,17,18,19,20] (by kernel_rfl) ?_
   repeat (first | (refine zB.intro (fun _=>?_) (fun h=>(by with_reducible exact absurd c0 h))) | (refine zB.intro (fun h=>(by with_reducible exact absurd c0 h)) (fun _=>?_)) | (refine zB.intro (fun h=>False.elim (by revert h;first | (simp ;done) | fail)) (fun _=>?_)) | (refine zB.intro (fun _=>?_) (fun h=>False.elim (by revert h;first | (simp ;done) | fail))) | (refine sd ?_))
   refine Ret.intro .ff [(1000,.mem false 0 [(1,.slx 1001 0 0 N),(1,.mp 1002)]),(1001,.mem false 0 [(N * 3,.arr N 3 (ttF T))]),(1002,.dead)] [] rfl ?_ (Or.inr ⟨h0,rfl,rfl⟩) rfl ?_ rfl ?_ rfl
   ·exact fc
   ·exact fc
   ·exact fc
  ·have c0:=Classical.not_not.1 c0
   refine Draw.intro [[],[],[0,1],[0,1,2],[0,1,2,3],[0,1,2,3,4],[0,1,2,3,4,5],[0,1,2,3,4,5,6],[0,1,2,3,4,5,6,7],[0,1,2,3,4,5,6,7,8],[0,1,2,3,4,5,6,7,8,9],[0,1,2,3,4,5,6,7,8,9,10],[0,1,2,3,4,5,6,7,8,9,10,11],[0,1,2,3,4,5,6,7,8,9,10,11,12],[0,1,2,3,4,5,6,7,8,9,10,11,12,13],[0,1,2,3,4,5,6,7,8,9,10,11,12,13,14],[0,1,2,3,4,5,6,7,8,9,10,11,12,13,14,15],[0,1,2,3,4,5,6,7,8,9,10,11,12],[0,1,2,3,4,5,6,7,8,9,10,11,12,17],[0,1,2,3,4,5,6,7,8,9,10,11,12,13,14,15,16,17,18],[0,1,2,3,4,5,6,7,8,9,10,11,12,13,14,15,16,17,18,19]] [0,1,2,3,4,5,6,7,8,9,10,11,12,13,14,15,16,17,18,19,20] (by kernel_rfl) ?_
   repeat (first | (refine zB.intro (fun _=>?_) (fun h=>(by with_reducible exact absurd c0 h))) | (refine zB.intro (fun h=>(by with_reducible exact absurd c0 h)) (fun _=>?_)) | (refine zB.intro (fun h=>False.elim (by revert h;first | (simp ;done) | fail)) (fun _=>?_)) | (refine zB.intro (fun _=>?_) (fun h=>False.elim (by revert h;first | (simp ;done) | fail))) | (refine sd ?_))
   refine Ret.intro .ff [(1000,.mem false 0 [(1,.slx 1001 0 0 N),(1,.mp 1002)]),(1001,.mem false 0 [(N * 3,.arr N 3 (ttF T))]),(1002,.dead)] [] rfl ?_ (Or.inr ⟨h0,rfl,rfl⟩) rfl ?_ rfl ?_ rfl
   ·exact fc
   ·exact fc
   ·exact fc
 have hV:=hTv _ (getD_mem te0 (L:=T) (i:=q) (by omega))
 have hv0:vfy T N who text sig->Z = List.replicate 32 0/\∃ a,T.getD q te0 = (6,[a,text])/\∃ r,numP who N 0 = r + 1/\T.getD r te0 = (5,[a]):=by
  rintro ⟨q',r,a,f1,f2,f3,f4,f5⟩
  rw [hK,g1] at f1
  obtain rfl:q = q':=by omega
  exact ⟨hZ ▸ f2,a,f3,r,f4,f5⟩
 have hv1:Z = List.replicate 32 0->∀ a r,T.getD q te0 = (6,[a,text])->numP who N 0 = r + 1->T.getD r te0 = (5,[a])->vfy T N who text sig:=fun f1 a r f2 f3 f4=>⟨q,r,a,by rw [hK];exact g1,by rw [hZ];exact f1,f2,f3,f4⟩
 obtain ⟨x,hx⟩:∃ x,T.getD q te0 = x:=⟨_,rfl⟩
 rw [hx] at hV g3 hv0 hv1 ⊢
 obtain rfl:x.2 = L:=g3
 clear hOf
 dsimp only [zt,zM,zE,ren,zz,zx,zy,look,zG,zX,ev,evL,zV,zcT,zcF,act,zP,zO,Ent.zW]
 repeat (refine sd ?_)
 by_cases c0:¬ Z = List.replicate 32 0
 ·have h0:¬ vfy T N who text sig:=fun h=>c0 (hv0 h).1
  refine Draw.intro [[],[],[0,1],[0,1,2],[0,1,2,3],[0,1,2,3,4],[0,1,2,3,4,5],[0,1,2,3,4,5,6],[0,1,2,3,4,5,6,7],[0,1,2,3,4,5,6,7,8],[0,1,2,3,4,5,6,7,8,9],[0,1,2,3,4,5,6,7,8,9,10],[0,1,2,3,4,5,6,7,8,9,10,11],[0,1,2,3,4,5,6,7,8,9,10,11,12],[0,1,2,3,4,5,6,7,8,9,10,11,12,13],[0,1,2,3,4,5,6,7,8,9,10,11,12,13,14],[0,1,2,3,4,5,6,7,8,9,10,11,12,13,14,15],[0,1,2,3,4,5,6,7,8,9,10,11,12],[0,1,2,3,4,5,6,7,8,9,10,11,12,17],[0,1,2,3,4,5,6,7,8,9,10,11,12,13,14,15,16,17,18],[0,1,2,3,4,5,6,7,8,9,10,11,12,13,14,15,16,17,18,19]] [0,1,2,3,4,5,6,7,8,9,10,11,12,13,14,15,16,17,18,19,20] (by kernel_rfl) ?_
  repeat (first | (refine zB.intro (fun _=>?_) (fun h=>(by with_reducible exact absurd c0 h))) | (refine zB.intro (fun h=>(by with_reducible exact absurd c0 h)) (fun _=>?_)) | (refine zB.intro (fun h=>False.elim (by revert h;first | (simp ;done) | fail)) (fun _=>?_)) | (refine zB.intro (fun _=>?_) (fun h=>False.elim (by revert h;first | (simp ;done) | fail))) | (refine sd ?_))
  refine Ret.intro .ff [(1000,.mem false 0 [(1,.slx 1001 0 0 N),(1,.mp 1002)]),(1001,.mem false 0 [(N * 3,.arr N 3 (ttF T))]),(1002,.dead)] [] rfl ?_ (Or.inr ⟨h0,rfl,rfl⟩) rfl ?_ rfl ?_ rfl
  ·exact fc
  ·exact fc
  ·exact fc
 have c0:Z = List.replicate 32 0:=Classical.not_not.1 c0
 by_cases c1:¬ x.1 = 6
 ·have h0:¬ vfy T N who text sig:=fun h=>by obtain ⟨_,a,f,_⟩:=hv0 h;exact c1 (by rw [f])
  refine Draw.intro [[],[],[0,1],[0,1,2],[0,1,2,3],[0,1,2,3,4],[0,1,2,3,4,5],[0,1,2,3,4,5,6],[0,1,2,3,4,5,6,7],[0,1,2,3,4,5,6,7,8],[0,1,2,3,4,5,6,7,8,9],[0,1,2,3,4,5,6,7,8,9,10],[0,1,2,3,4,5,6,7,8,9,10,11],[0,1,2,3,4,5,6,7,8,9,10,11,12],[0,1,2,3,4,5,6,7,8,9,10,11,12,13],[0,1,2,3,4,5,6,7,8,9,10,11,12,13,14],[0,1,2,3,4,5,6,7,8,9,10,11,12,13,14,15],[0,1,2,3,4,5,6,7,8,9,10,11,12],[0,1,2,3,4,5,6,7,8,9,10,11,12,17],[0,1,2,3,4,5,6,7,8,9,10,11,12,13,14,15,16,17,18],[0,1,2,3,4,5,6,7,8,9,10,11,12,13,14,15,16,17,18,19]] [0,1,2,3,4,5,6,7,8,9,10,11,12,13,14,15,16,17,18,19,20] (by kernel_rfl) ?_
  repeat (first | (refine zB.intro (fun _=>?_) (fun h=>(by with_reducible exact absurd c0 h))) | (refine zB.intro (fun h=>(by with_reducible exact absurd c0 h)) (fun _=>?_)) | (refine zB.intro (fun h=>False.elim (by revert h;first | (simp [c0,c1];done) | fail)) (fun _=>?_)) | (refine zB.intro (fun _=>?_) (fun h=>False.elim (by revert h;first | (simp [c0,c1];done) | fail))) | (refine sd ?_))
  refine Ret.intro .ff [(1000,.mem false 0 [(1,.slx 1001 0 0 N),(1,.mp 1002)]),(1001,.mem false 0 [(N * 3,.arr N 3 (ttF T))]),(1002,.dead)] [] rfl ?_ (Or.inr ⟨h0,rfl,rfl⟩) rfl ?_ rfl ?_ rfl
  ·exact fc
  ·exact fc
  ·exact fc
 have c1:x.1 = 6:=Classical.not_not.1 c1
 by_cases c2:¬ k = 2
 ·have h0:¬ vfy T N who text sig:=fun h=>by obtain ⟨_,a,f,_⟩:=hv0 h;exact c2 (by rw [<- g4,f];rfl)
  have c2':¬ ((k:Nat):Int) = 2:=by omega
  refine Draw.intro [[],[],[0,1],[0,1,2],[0,1,2,3],[0,1,2,3,4],[0,1,2,3,4,5],[0,1,2,3,4,5,6],[0,1,2,3,4,5,6,7],[0,1,2,3,4,5,6,7,8],[0,1,2,3,4,5,6,7,8,9],[0,1,2,3,4,5,6,7,8,9,10],[0,1,2,3,4,5,6,7,8,9,10,11],[0,1,2,3,4,5,6,7,8,9,10,11,12],[0,1,2,3,4,5,6,7,8,9,10,11,12,13],[0,1,2,3,4,5,6,7,8,9,10,11,12,13,14],[0,1,2,3,4,5,6,7,8,9,10,11,12,13,14,15],[0,1,2,3,4,5,6,7,8,9,10,11,12],[0,1,2,3,4,5,6,7,8,9,10,11,12,17],[0,1,2,3,4,5,6,7,8,9,10,11,12,13,14,15,16,17,18],[0,1,2,3,4,5,6,7,8,9,10,11,12,13,14,15,16,17,18,19]] [0,1,2,3,4,5,6,7,8,9,10,11,12,13,14,15,16,17,18,19,20] (by kernel_rfl) ?_
  repeat (first | (refine zB.intro (fun _=>?_) (fun h=>(by with_reducible exact absurd c0 h))) | (refine zB.intro (fun h=>(by with_reducible exact absurd c0 h)) (fun _=>?_)) | (refine zB.intro (fun h=>False.elim (by revert h;first | (simp [c0,c1,c2,c2'];done) | fail)) (fun _=>?_)) | (refine zB.intro (fun _=>?_) (fun h=>False.elim (by revert h;first | (simp [c0,c1,c2,c2'];done) | fail))) | (refine sd ?_))
  refine Ret.intro .ff [(1000,.mem false 0 [(1,.slx 1001 0 0 N),(1,.mp 1002)]),(1001,.mem false 0 [(N * 3,.arr N 3 (ttF T))]),(1002,.dead)] [] rfl ?_ (Or.inr ⟨h0,rfl,rfl⟩) rfl ?_ rfl ?_ rfl
  ·exact fc
  ·exact fc
  ·exact fc
 have c2:k = 2:=Classical.not_not.1 c2
 subst c2
 obtain ⟨a,b,hab⟩:∃ a b,x.2 = [a,b]:=by
  match hL:x.2,g4 with
  | [a,b],_=>exact ⟨a,b,rfl⟩
 have hal:a.length <= 4096:=hV.1.2 a (by rw [hab];simp)
 have hbl:b.length <= 4096:=hV.1.2 b (by rw [hab];simp)
 have hxe:x = (6,[a,b]):=by rw [<- c1,<- hab]
 rw [hab]
 have f0:([a,b]:List (List UInt8))[addQ (addI none 0) (Ix.lit 0).val]?.getD [] = a:=rfl
 have f1:([a,b]:List (List UInt8))[addQ (addI none 0) (Ix.lit 1).val]?.getD [] = b:=rfl
 have eT:List.take n text = text:=List.take_of_length_le (by omega)
 have eB:List.take b.length b = b:=List.take_of_length_le (Nat.le_refl _)
 by_cases c3:¬ b = text
 ·have h0:¬ vfy T N who text sig:=fun h=>by
   obtain ⟨_,a',f,_⟩:=hv0 h
   rw [hxe] at f
   simp only [zpI,List.cons.injEq,true_and,and_true] at f
   exact c3 f.2
  refine Draw.intro [[],[],[0,1],[0,1,2],[0,1,2,3],[0,1,2,3,4],[0,1,2,3,4,5],[0,1,2,3,4,5,6],[0,1,2,3,4,5,6,7],[0,1,2,3,4,5,6,7,8],[0,1,2,3,4,5,6,7,8,9],[0,1,2,3,4,5,6,7,8,9,10],[0,1,2,3,4,5,6,7,8,9,10,11],[0,1,2,3,4,5,6,7,8,9,10,11,12],[0,1,2,3,4,5,6,7,8,9,10,11,12,13],[0,1,2,3,4,5,6,7,8,9,10,11,12,13,14],[0,1,2,3,4,5,6,7,8,9,10,11,12,13,14,15],[0,1,2,3,4,5,6,7,8,9,10,11,12],[0,1,2,3,4,5,6,7,8,9,10,11,12,17],[0,1,2,3,4,5,6,7,8,9,10,11,12,13,14,15,16,17,18],[0,1,2,3,4,5,6,7,8,9,10,11,12,13,14,15,16,17,18,19]] [0,1,2,3,4,5,6,7,8,9,10,11,12,13,14,15,16,17,18,19,20] (by kernel_rfl) ?_
  repeat (first | (refine zB.intro (fun _=>?_) (fun h=>(by with_reducible exact absurd c0 h))) | (refine zB.intro (fun h=>(by with_reducible exact absurd c0 h)) (fun _=>?_)) | (refine zB.intro (fun h=>False.elim (by revert h;first | (simp [c0,c1,c3,f0,f1,eT,eB];done) | fail)) (fun _=>?_)) | (refine zB.intro (fun _=>?_) (fun h=>False.elim (by revert h;first | (simp [c0,c1,c3,f0,f1,eT,eB];done) | fail))) | (refine sd ?_))
  refine Ret.intro .ff [(1000,.mem false 0 [(1,.slx 1001 0 0 N),(1,.mp 1002)]),(1001,.mem false 0 [(N * 3,.arr N 3 (ttF T))]),(1002,.dead)] [] rfl ?_ (Or.inr ⟨h0,rfl,rfl⟩) rfl ?_ rfl ?_ rfl
  ·exact fc
  ·exact fc
  ·exact fc
 have c3:b = text:=Classical.not_not.1 c3
 subst c3
 refine Draw.intro [[],[],[0,1],[0,1,2],[0,1,2,3],[0,1,2,3,4],[0,1,2,3,4,5],[0,1,2,3,4,5,6],[0,1,2,3,4,5,6,7],[0,1,2,3,4,5,6,7,8],[0,1,2,3,4,5,6,7,8,9],[0,1,2,3,4,5,6,7,8,9,10],[0,1,2,3,4,5,6,7,8,9,10,11],[0,1,2,3,4,5,6,7,8,9,10,11,12],[0,1,2,3,4,5,6,7,8,9,10,11,12,13],[0,1,2,3,4,5,6,7,8,9,10,11,12,13,14],[0,1,2,3,4,5,6,7,8,9,10,11,12,13,14,15],[0,1,2,3,4,5,6,7,8,9,10,11,12],[0,1,2,3,4,5,6,7,8,9,10,11,12,17],[0,1,2,3,4,5,6,7,8,9,10,11,12,13,14,15,16,17,18],[0,1,2,3,4,5,6,7,8,9,10,11,12,13,14,15,16,17,18,19]] [0,1,2,3,4,5,6,7,8,9,10,11,12,13,14,15,16,17,18,19,20] (by kernel_rfl) ?_
 repeat (first | (refine zB.intro (fun _=>?_) (fun h=>(by with_reducible exact absurd c0 h))) | (refine zB.intro (fun h=>(by with_reducible exact absurd c0 h)) (fun _=>?_)) | (refine zB.intro (fun h=>False.elim (by revert h;first | (simp [c0,c1,f0,f1,eT,eB];done) | fail)) (fun _=>?_)) | (refine zB.intro (fun _=>?_) (fun h=>False.elim (by revert h;first | (simp [c0,c1,f0,f1,eT,eB];done) | fail))) | (refine sd ?_))
 refine Cut.intro (σ:=Unit) (fun _=>True) (fun _=>([(4,.ptr 204 0 none),(5,.ptr 205 0 none),(12,.sl 305 0 0 2 c)],[(204,.mem true 0 [(1,.ptr 1000 0 none)]),(205,.mem true 0 [(32,.a8 who)]),(305,.mem true (c - 2) [(2 * 1,.arr 2 1 (rwF [a,b]))]),
  (1000,.mem false 0 [(1,.slx 1001 0 0 N),(1,.mp 1002)]),(1001,.mem false 0 [(N * 3,.arr N 3 (ttF T))]),(1002,.dead)])) () trivial (Le.intro [(204,(204,0,none)),(205,(205,0,none)),(305,(305,0,none))] rfl ?_ rfl ?_ rfl) ?_
 ·exact fc
 ·exact fc
 rintro - -
 repeat (refine sd ?_)
 refine Call.intro hOw [(1000,(1000,0,none)),(1001,(1001,0,none)),(1002,(1002,0,none)),(1005,(306,0,none))] rfl ?_ rfl ?_ rfl ?_
 ·exact fc
 ·exact fc
 rintro v M' (⟨hz,rfl,rfl⟩ | ⟨r,L2,k2,d,w1,w2,w3,w4,w5,rfl,rfl⟩)
 ·have h0:¬ vfy T N who b sig:=fun h=>by
   obtain ⟨_,a',_,r,f,_⟩:=hv0 h
   rw [hz] at f;omega
  dsimp only [zt,zM,zE,ren,zz,zx,zy,look,zG,zX,ev,evL,zV,zcT,zcF,act,zP,zO,Ent.zW]
  repeat (refine sd ?_)
  refine Draw.intro [[],[0],[0,1],[0,1,2],[0,1,2,3],[0,1,2,3,4],[0,1,2,3,4,5],[0,1,2,3,4,5,6],[0,1,2,3,4,5,6,7],[0,1,2,3,4,5,6,7,8],[0,1,2,3,4,5,6,7,8,9],[0,1,2,3,4,5,6,7,8,9,10],[0,1,2,3,4,5,6,7],[0,1,2,3,4,5,6,7,12],[0,1,2,3,4,5,6,7,12,13],[0,1,2,3,4,5,6,7,12,13,14],[0,1,2,3,4,5,6,7,8,9,10,11,12,13,14,15],[0,1,2,3,4,5,6,7,8,9,10,11,12,13,14,15,16],[0,1,2,3,4,5,6,7,8,9,10,11,12,13,14,15,16,17]] [0,1,2,3,4,5,6,7,8,9,10,11,12,13,14,15,16,17,18] (by kernel_rfl) ?_
  repeat (first | (refine zB.intro (fun _=>?_) (fun h=>(by with_reducible exact absurd c0 h))) | (refine zB.intro (fun h=>(by with_reducible exact absurd c0 h)) (fun _=>?_)) | (refine zB.intro (fun h=>False.elim (by revert h;first | (simp ;done) | fail)) (fun _=>?_)) | (refine zB.intro (fun _=>?_) (fun h=>False.elim (by revert h;first | (simp ;done) | fail))) | (refine sd ?_))
  refine Ret.intro .ff [(1000,.mem false 0 [(1,.slx 1001 0 0 N),(1,.mp 1002)]),(1001,.mem false 0 [(N * 3,.arr N 3 (ttF T))]),(1002,.dead)] [] rfl ?_ (Or.inr ⟨h0,rfl,rfl⟩) rfl ?_ rfl ?_ rfl
  ·exact fc
  ·exact fc
  ·exact fc
 have hW:=hTv _ (getD_mem te0 (L:=T) (i:=r) (by omega))
 have hu0:vfy T N who b sig->T.getD r te0 = (5,[a]):=fun h=>by
  obtain ⟨_,a',f1,r',f2,f3⟩:=hv0 h
  rw [hxe] at f1
  simp only [zpI,List.cons.injEq,true_and,and_true] at f1
  rw [w1] at f2
  obtain rfl:r = r':=by omega
  rw [f1];exact f3
 have hu1:T.getD r te0 = (5,[a])->vfy T N who b sig:=fun h=>hv1 c0 a r hxe w1 h
 obtain ⟨y,hy⟩:∃ y,T.getD r te0 = y:=⟨_,rfl⟩
 rw [hy] at hW w3 hu0 hu1 ⊢
 obtain rfl:y.2 = L2:=w3
 clear hOw
 dsimp only [zt,zM,zE,ren,zz,zx,zy,look,zG,zX,ev,evL,zV,zcT,zcF,act,zP,zO,Ent.zW]
 repeat (refine sd ?_)
 by_cases d1:¬ y.1 = 5
 ·have h0:¬ vfy T N who b sig:=fun h=>d1 (by rw [hu0 h])
  refine Draw.intro [[],[0],[0,1],[0,1,2],[0,1,2,3],[0,1,2,3,4],[0,1,2,3,4,5],[0,1,2,3,4,5,6],[0,1,2,3,4,5,6,7],[0,1,2,3,4,5,6,7,8],[0,1,2,3,4,5,6,7,8,9],[0,1,2,3,4,5,6,7,8,9,10],[0,1,2,3,4,5,6,7],[0,1,2,3,4,5,6,7,12],[0,1,2,3,4,5,6,7,12,13],[0,1,2,3,4,5,6,7,12,13,14],[0,1,2,3,4,5,6,7,8,9,10,11,12,13,14,15],[0,1,2,3,4,5,6,7,8,9,10,11,12,13,14,15,16],[0,1,2,3,4,5,6,7,8,9,10,11,12,13,14,15,16,17]] [0,1,2,3,4,5,6,7,8,9,10,11,12,13,14,15,16,17,18] (by kernel_rfl) ?_
  repeat (first | (refine zB.intro (fun _=>?_) (fun h=>(by with_reducible exact absurd c0 h))) | (refine zB.intro (fun h=>(by with_reducible exact absurd c0 h)) (fun _=>?_)) | (refine zB.intro (fun h=>False.elim (by revert h;first | (simp [d1];done) | fail)) (fun _=>?_)) | (refine zB.intro (fun _=>?_) (fun h=>False.elim (by revert h;first | (simp [d1];done) | fail))) | (refine sd ?_))
  refine Ret.intro .ff [(1000,.mem false 0 [(1,.slx 1001 0 0 N),(1,.mp 1002)]),(1001,.mem false 0 [(N * 3,.arr N 3 (ttF T))]),(1002,.dead)] [] rfl ?_ (Or.inr ⟨h0,rfl,rfl⟩) rfl ?_ rfl ?_ rfl
  ·exact fc
  ·exact fc
  ·exact fc
 have d1:y.1 = 5:=Classical.not_not.1 d1
 by_cases d2:¬ k2 = 1
 ·have h0:¬ vfy T N who b sig:=fun h=>d2 (by rw [<- w4,hu0 h];rfl)
  have d2':¬ ((k2:Nat):Int) = 1:=by omega
  refine Draw.intro [[],[0],[0,1],[0,1,2],[0,1,2,3],[0,1,2,3,4],[0,1,2,3,4,5],[0,1,2,3,4,5,6],[0,1,2,3,4,5,6,7],[0,1,2,3,4,5,6,7,8],[0,1,2,3,4,5,6,7,8,9],[0,1,2,3,4,5,6,7,8,9,10],[0,1,2,3,4,5,6,7],[0,1,2,3,4,5,6,7,12],[0,1,2,3,4,5,6,7,12,13],[0,1,2,3,4,5,6,7,12,13,14],[0,1,2,3,4,5,6,7,8,9,10,11,12,13,14,15],[0,1,2,3,4,5,6,7,8,9,10,11,12,13,14,15,16],[0,1,2,3,4,5,6,7,8,9,10,11,12,13,14,15,16,17]] [0,1,2,3,4,5,6,7,8,9,10,11,12,13,14,15,16,17,18] (by kernel_rfl) ?_
  repeat (first | (refine zB.intro (fun _=>?_) (fun h=>(by with_reducible exact absurd c0 h))) | (refine zB.intro (fun h=>(by with_reducible exact absurd c0 h)) (fun _=>?_)) | (refine zB.intro (fun h=>False.elim (by revert h;first | (simp [d1,d2,d2'];done) | fail)) (fun _=>?_)) | (refine zB.intro (fun _=>?_) (fun h=>False.elim (by revert h;first | (simp [d1,d2,d2'];done) | fail))) | (refine sd ?_))
  refine Ret.intro .ff [(1000,.mem false 0 [(1,.slx 1001 0 0 N),(1,.mp 1002)]),(1001,.mem false 0 [(N * 3,.arr N 3 (ttF T))]),(1002,.dead)] [] rfl ?_ (Or.inr ⟨h0,rfl,rfl⟩) rfl ?_ rfl ?_ rfl
  ·exact fc
  ·exact fc
  ·exact fc
 have d2:k2 = 1:=Classical.not_not.1 d2
 subst d2
 obtain ⟨a2,hab2⟩:∃ a,y.2 = [a]:=by
  match hL:y.2,w4 with
  | [a],_=>exact ⟨a,rfl⟩
 have hal2:a2.length <= 4096:=hW.1.2 a2 (by rw [hab2];simp)
 have hye:y = (5,[a2]):=by rw [<- d1,<- hab2]
 rw [hab2]
 have f3:([a,b]:List (List UInt8))[addQ 0 (Ix.lit 0).val]?.getD [] = a:=rfl
 have f2:([a2]:List (List UInt8))[addQ (addI none 0) (Ix.lit 0).val]?.getD [] = a2:=rfl
 have eA:List.take a.length a = a:=List.take_of_length_le (Nat.le_refl _)
 have eA2:List.take a2.length a2 = a2:=List.take_of_length_le (Nat.le_refl _)
 by_cases d3:¬ a2 = a
 ·have h0:¬ vfy T N who b sig:=fun h=>by
   have:=hu0 h
   rw [hye] at this
   simp only [zpI,List.cons.injEq,true_and,and_true] at this
   exact d3 this
  refine Draw.intro [[],[0],[0,1],[0,1,2],[0,1,2,3],[0,1,2,3,4],[0,1,2,3,4,5],[0,1,2,3,4,5,6],[0,1,2,3,4,5,6,7],[0,1,2,3,4,5,6,7,8],[0,1,2,3,4,5,6,7,8,9],[0,1,2,3,4,5,6,7,8,9,10],[0,1,2,3,4,5,6,7],[0,1,2,3,4,5,6,7,12],[0,1,2,3,4,5,6,7,12,13],[0,1,2,3,4,5,6,7,12,13,14],[0,1,2,3,4,5,6,7,8,9,10,11,12,13,14,15],[0,1,2,3,4,5,6,7,8,9,10,11,12,13,14,15,16],[0,1,2,3,4,5,6,7,8,9,10,11,12,13,14,15,16,17]] [0,1,2,3,4,5,6,7,8,9,10,11,12,13,14,15,16,17,18] (by kernel_rfl) ?_
  repeat (first | (refine zB.intro (fun _=>?_) (fun h=>(by with_reducible exact absurd c0 h))) | (refine zB.intro (fun h=>(by with_reducible exact absurd c0 h)) (fun _=>?_)) | (refine zB.intro (fun h=>False.elim (by revert h;first | (simp [d1,d3,f0,f2,eA,eA2];done) | fail)) (fun _=>?_)) | (refine zB.intro (fun _=>?_) (fun h=>False.elim (by revert h;first | (simp [d1,d3,f0,f2,eA,eA2];done) | fail))) | (refine sd ?_))
  refine Ret.intro .ff [(1000,.mem false 0 [(1,.slx 1001 0 0 N),(1,.mp 1002)]),(1001,.mem false 0 [(N * 3,.arr N 3 (ttF T))]),(1002,.dead)] [] rfl ?_ (Or.inr ⟨h0,rfl,rfl⟩) rfl ?_ rfl ?_ rfl
  ·exact fc
  ·repeat' (first | (show zA _;first | exact trivial | refine zA.app ?_ ?_ | refine zA.zd ?_ ?_ | refine zA.cons ?_ ?_) | exact fd | fail)
   all_goals (revert d1;simp [d1,d3,f0,f2,f3,eA,eA2])
  ·exact fc
 have d3:a2 = a:=Classical.not_not.1 d3
 subst d3
 have h1:vfy T N who b sig:=hu1 hye
 refine Draw.intro [[],[0],[0,1],[0,1,2],[0,1,2,3],[0,1,2,3,4],[0,1,2,3,4,5],[0,1,2,3,4,5,6],[0,1,2,3,4,5,6,7],[0,1,2,3,4,5,6,7,8],[0,1,2,3,4,5,6,7,8,9],[0,1,2,3,4,5,6,7,8,9,10],[0,1,2,3,4,5,6,7],[0,1,2,3,4,5,6,7,12],[0,1,2,3,4,5,6,7,12,13],[0,1,2,3,4,5,6,7,12,13,14],[0,1,2,3,4,5,6,7,8,9,10,11,12,13,14,15],[0,1,2,3,4,5,6,7,8,9,10,11,12,13,14,15,16],[0,1,2,3,4,5,6,7,8,9,10,11,12,13,14,15,16,17]] [0,1,2,3,4,5,6,7,8,9,10,11,12,13,14,15,16,17,18] (by kernel_rfl) ?_
 repeat (first | (refine zB.intro (fun _=>?_) (fun h=>(by with_reducible exact absurd c0 h))) | (refine zB.intro (fun h=>(by with_reducible exact absurd c0 h)) (fun _=>?_)) | (refine zB.intro (fun h=>False.elim (by revert h;first | (simp [d1,f0,f2,eA,eA2];done) | fail)) (fun _=>?_)) | (refine zB.intro (fun _=>?_) (fun h=>False.elim (by revert h;first | (simp [d1,f0,f2,eA,eA2];done) | fail))) | (refine sd ?_))
 refine Ret.intro .tt [(1000,.mem false 0 [(1,.slx 1001 0 0 N),(1,.mp 1002)]),(1001,.mem false 0 [(N * 3,.arr N 3 (ttF T))]),(1002,.dead)] [] rfl ?_ (Or.inl ⟨h1,rfl,rfl⟩) rfl ?_ rfl ?_ rfl
 ·exact fc
 ·repeat' (first | (show zA _;first | exact trivial | refine zA.app ?_ ?_ | refine zA.zd ?_ ?_ | refine zA.cons ?_ ?_) | exact fd | fail)
  all_goals (simp [d1,f0,f2,f3,eA,eA2])
 ·exact fc
end Go.Proofs.YtfnmgbillkiabaaGreat
