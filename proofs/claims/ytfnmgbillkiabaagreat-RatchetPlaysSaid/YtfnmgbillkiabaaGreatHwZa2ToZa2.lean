/- What the functions of the program compute. No condition. -/
import Derived.Test.YtfnmgbillkiabaaGreatHwZa1ToZa1
import Derived.Test.YtfnmgbillkiabaaGreatHwRa2ToRa2
set_option linter.unusedSimpArgs false
set_option linter.unusedVariables false
set_option maxRecDepth 100000
namespace Go.Proofs.YtfnmgbillkiabaaGreat
open Go Go.Sx
set_option maxHeartbeats 4000000 in
theorem fnRAgreeX (T:List Te) (N c:Nat) (hT:T.length = N) (hN:N <= 60000) (hNc:N <= c) (hTv:∀ x ∈ T,Valid x.1 x.2) (a pub:List UInt8) (ha:a.length = 32) (hp:pub.length = 32) :
  Sx.Fn Γ.P 92 [.agg [(1,.ptr 1000 0 none)],.a8 a,.a8 pub] (rbM N c T 1001)
  (fun v M=>∃ n' c',(agr T N a pub).1.length = n'/\n' <= c'/\v = .tup [.a8 (kyB (agr T N a pub).2),.tt]/\M = (1001,.dead) :: rbM n' c' (agr T N a pub).1 1005):=by
 have hOf:=fn94 T N hT hN pub hp
 unfold rbM
 refine fn_cut [6,9] (Γ:=Γ) (fn:=Tryz.f92) rfl rfl rfl rfl ?_
 repeat (refine sd ?_)
 refine zB.intro (fun hc=>absurd hc (by simp)) (fun _=>?_)
 repeat (refine sd ?_)
 refine Call.intro hOf [(1000,(1000,0,none)),(1001,(1001,0,none))] rfl ?_ rfl ?_ rfl ?_
 ·exact fc
 ·exact fc
 rintro v M' (⟨hz,rfl,rfl⟩ | ⟨q,h1,h2,rfl,rfl⟩)
 ·have h0:=agr_zero (T:=T) (a:=a) hz
  dsimp only [zt,zM,zE,ren,zz,zx,zy,look,zG,zX,ev,evL,zV,zcT,zcF,act,zP,zO,Ent.zW]
  repeat (first | (refine zB.intro (fun h=>False.elim (by revert h;first | (simp ;done) | fail)) (fun _=>?_)) | (refine zB.intro (fun _=>?_) (fun h=>False.elim (by revert h;first | (simp ;done) | fail))) | (refine Grow.turn rfl rfl ?_) | (refine sd ?_))
  refine Cut.intro (σ:=Unit) (fun _=>True) (fun _=>([(3,.ptr 203 0 none),(4,.ptr 204 0 none),(5,.ptr 205 0 none),(6,.ptr 206 0 none)],[(203,.mem true 0 [(1,.ptr 1000 0 none)]),(204,.mem false 1 [(32,.a8 a)]),(205,.mem false 1 [(32,.a8 pub)]),(206,.mem true 0 [(32,.a8 (List.replicate 32 0))]),
   (1000,.mem true 0 [(1,.sl 1001 0 0 N c)]),(1001,.mem true (zmE (c - N) 2) [(N * 2,.arr N 2 (rtF T))])])) () trivial (Le.ghost [.keep 4,.keep 5] [] [(203,(3,0,none)),(204,(4,0,none)),(205,(5,0,none)),(206,(6,0,none))] rfl ?_ rfl rfl ?_ rfl ?_ rfl) ?_
  ·exact fc
  ·exact fc
  ·exact fc
  rintro - -
  have hM:=fnRMakeB T N c hT hN hNc hTv 4 a pub (by omega) (by omega) _ _ rfl rfl
  have hne:=mk2_ne T (k:=4) (by decide) (by decide) (p:=a) (q:=pub) (by omega) (by omega)
  obtain ⟨R,hR⟩:∃ R,mk2 T 4 a pub = R:=⟨_,rfl⟩
  rw [hR] at hM hne h0
  unfold M12 rwS at hM
  refine Draw.intro [[],[0],[],[],[2,3],[0,1,2,3,4],[0,1,2,3,4,5],[0,1,2,3,4,5],[0,1,2,3,4,5,6,7],[0,1,2,3,4,5,6,7,8]] [0,1,2,3,4,5,6,7,8,9] (by kernel_rfl) ?_
  repeat (first | (refine Grow.turn rfl rfl ?_) | (refine sd ?_))
  refine Call.name [(0,[]),(0,[]),(2001,[])] rfl fc (CallP.intro hM [(1000,(1000,0,none)),(1001,(1001,0,none)),(1003,(2001,0,none)),(1005,(305,0,none))] rfl fc rfl ?_ rfl ?_)
  ·repeat' (first | (show zA _;first | exact trivial | refine zA.app ?_ ?_ | refine zA.zd ?_ ?_ | refine zA.cons ?_ ?_) | exact fd | fail)
   all_goals first | exact rwS_eq0 ha | exact rwS_eq1 hp
  rintro v M' ⟨n',c',hn',hnc',rfl,rfl⟩
  have hkl:=zk (R).2
  dsimp only [zt,zM,zE,ren,zz,zx,zy,look,zG,zX,ev,evL,zV,zcT,zcF,act,zP,zO,Ent.zW]
  repeat (first | (refine Grow.turn rfl rfl ?_) | (refine sd ?_))
  refine Ret.intro (.tup [.a8 (kyB (R).2),.tt]) ((1001,.dead) :: rbM n' c' (R).1 1005) [(1005,(305,0,none))] rfl ?_ (by rw [h0];exact ⟨n',c',hn',hnc',rfl,rfl⟩) rfl ?_ rfl ?_ rfl
  ·exact fc
  ·exact fc
  ·repeat' (first | (show zA _;first | exact trivial | refine zA.app ?_ ?_ | refine zA.zd ?_ ?_ | refine zA.cons ?_ ?_) | exact fd | fail)
   all_goals exact ⟨fun _=>trivial,fun _=>hne⟩
 obtain ⟨x,hx⟩:∃ x,T.getD q te0 = x:=⟨_,rfl⟩
 have hno:=agr_no (T:=T) (a:=a) h1
 have hle:=agr_le (T:=T) (a:=a) h1
 have hgt:=agr_gt (T:=T) (a:=a) h1
 have hV:=hTv _ (getD_mem te0 (L:=T) (i:=q) (by omega))
 rw [hx] at hno hle hgt hV ⊢
 obtain ⟨k,hk⟩:∃ k,x.2.length = k:=⟨_,rfl⟩
 have hk64:k <= 64:=by rw [<- hk];exact hV.1.1
 unfold prS
 rw [hk]
 clear hOf
 dsimp only [zt,zM,zE,ren,zz,zx,zy,look,zG,zX,ev,evL,zV,zcT,zcF,act,zP,zO,Ent.zW]
 repeat (refine sd ?_)
 by_cases c1:¬ x.1 = 2
 ·have h0:=hno (fun h=>c1 h.1)
  repeat (first | (refine zB.intro (fun h=>False.elim (by revert h;first | (simp [c1];done) | fail)) (fun _=>?_)) | (refine zB.intro (fun _=>?_) (fun h=>False.elim (by revert h;first | (simp [c1];done) | fail))) | (refine Grow.turn rfl rfl ?_) | (refine sd ?_))
  refine Cut.intro (σ:=Unit) (fun _=>True) (fun _=>([(3,.ptr 203 0 none),(4,.ptr 204 0 none),(5,.ptr 205 0 none),(6,.ptr 206 0 none)],[(203,.mem true 0 [(1,.ptr 1000 0 none)]),(204,.mem false 1 [(32,.a8 a)]),(205,.mem false 1 [(32,.a8 pub)]),(206,.mem true 0 [(32,.a8 (List.replicate 32 0))]),
   (1000,.mem true 0 [(1,.sl 1001 0 0 N c)]),(1001,.mem true (zmE (c - N) 2) [(N * 2,.arr N 2 (rtF T))])])) () trivial (Le.ghost [.keep 4,.keep 5] [] [(203,(3,0,none)),(204,(4,0,none)),(205,(5,0,none)),(206,(6,0,none))] rfl ?_ rfl rfl ?_ rfl ?_ rfl) ?_
  ·exact fc
  ·exact fc
  ·exact fc
  rintro - -
  have hM:=fnRMakeB T N c hT hN hNc hTv 4 a pub (by omega) (by omega) _ _ rfl rfl
  have hne:=mk2_ne T (k:=4) (by decide) (by decide) (p:=a) (q:=pub) (by omega) (by omega)
  obtain ⟨R,hR⟩:∃ R,mk2 T 4 a pub = R:=⟨_,rfl⟩
  rw [hR] at hM hne h0
  unfold M12 rwS at hM
  refine Draw.intro [[],[0],[],[],[2,3],[0,1,2,3,4],[0,1,2,3,4,5],[0,1,2,3,4,5],[0,1,2,3,4,5,6,7],[0,1,2,3,4,5,6,7,8]] [0,1,2,3,4,5,6,7,8,9] (by kernel_rfl) ?_
  repeat (first | (refine Grow.turn rfl rfl ?_) | (refine sd ?_))
  refine Call.name [(0,[]),(0,[]),(2001,[])] rfl fc (CallP.intro hM [(1000,(1000,0,none)),(1001,(1001,0,none)),(1003,(2001,0,none)),(1005,(305,0,none))] rfl fc rfl ?_ rfl ?_)
  ·repeat' (first | (show zA _;first | exact trivial | refine zA.app ?_ ?_ | refine zA.zd ?_ ?_ | refine zA.cons ?_ ?_) | exact fd | fail)
   all_goals first | exact rwS_eq0 ha | exact rwS_eq1 hp
  rintro v M' ⟨n',c',hn',hnc',rfl,rfl⟩
  have hkl:=zk (R).2
  dsimp only [zt,zM,zE,ren,zz,zx,zy,look,zG,zX,ev,evL,zV,zcT,zcF,act,zP,zO,Ent.zW]
  repeat (first | (refine Grow.turn rfl rfl ?_) | (refine sd ?_))
  refine Ret.intro (.tup [.a8 (kyB (R).2),.tt]) ((1001,.dead) :: rbM n' c' (R).1 1005) [(1005,(305,0,none))] rfl ?_ (by rw [h0];exact ⟨n',c',hn',hnc',rfl,rfl⟩) rfl ?_ rfl ?_ rfl
  ·exact fc
  ·exact fc
  ·repeat' (first | (show zA _;first | exact trivial | refine zA.app ?_ ?_ | refine zA.zd ?_ ?_ | refine zA.cons ?_ ?_) | exact fd | fail)
   all_goals exact ⟨fun _=>trivial,fun _=>hne⟩
 have c1:x.1 = 2:=Classical.not_not.1 c1
 by_cases c2:¬ k = 1
 ·have h0:=hno (fun h=>c2 (by rw [<- hk];exact h.2.1))
  have c2':¬ ((k:Nat):Int) = 1:=by omega
  repeat (first | (refine zB.intro (fun h=>False.elim (by revert h;first | (simp [c1,c2,c2'];done) | fail)) (fun _=>?_)) | (refine zB.intro (fun _=>?_) (fun h=>False.elim (by revert h;first | (simp [c1,c2,c2'];done) | fail))) | (refine Grow.turn rfl rfl ?_) | (refine sd ?_))
  refine Cut.intro (σ:=Unit) (fun _=>True) (fun _=>([(3,.ptr 203 0 none),(4,.ptr 204 0 none),(5,.ptr 205 0 none),(6,.ptr 206 0 none)],[(203,.mem true 0 [(1,.ptr 1000 0 none)]),(204,.mem false 1 [(32,.a8 a)]),(205,.mem false 1 [(32,.a8 pub)]),(206,.mem true 0 [(32,.a8 (List.replicate 32 0))]),
   (1000,.mem true 0 [(1,.sl 1001 0 0 N c)]),(1001,.mem true (zmE (c - N) 2) [(N * 2,.arr N 2 (rtF T))])])) () trivial (Le.ghost [.keep 4,.keep 5] [] [(203,(3,0,none)),(204,(4,0,none)),(205,(5,0,none)),(206,(6,0,none))] rfl ?_ rfl rfl ?_ rfl ?_ rfl) ?_
  ·exact fc
  ·exact fc
  ·exact fc
  rintro - -
  have hM:=fnRMakeB T N c hT hN hNc hTv 4 a pub (by omega) (by omega) _ _ rfl rfl
  have hne:=mk2_ne T (k:=4) (by decide) (by decide) (p:=a) (q:=pub) (by omega) (by omega)
  obtain ⟨R,hR⟩:∃ R,mk2 T 4 a pub = R:=⟨_,rfl⟩
  rw [hR] at hM hne h0
  unfold M12 rwS at hM
  refine Draw.intro [[],[0],[],[],[2,3],[0,1,2,3,4],[0,1,2,3,4,5],[0,1,2,3,4,5],[0,1,2,3,4,5,6,7],[0,1,2,3,4,5,6,7,8]] [0,1,2,3,4,5,6,7,8,9] (by kernel_rfl) ?_
  repeat (first | (refine Grow.turn rfl rfl ?_) | (refine sd ?_))
  refine Call.name [(0,[]),(0,[]),(2001,[])] rfl fc (CallP.intro hM [(1000,(1000,0,none)),(1001,(1001,0,none)),(1003,(2001,0,none)),(1005,(305,0,none))] rfl fc rfl ?_ rfl ?_)
  ·repeat' (first | (show zA _;first | exact trivial | refine zA.app ?_ ?_ | refine zA.zd ?_ ?_ | refine zA.cons ?_ ?_) | exact fd | fail)
   all_goals first | exact rwS_eq0 ha | exact rwS_eq1 hp
  rintro v M' ⟨n',c',hn',hnc',rfl,rfl⟩
  have hkl:=zk (R).2
  dsimp only [zt,zM,zE,ren,zz,zx,zy,look,zG,zX,ev,evL,zV,zcT,zcF,act,zP,zO,Ent.zW]
  repeat (first | (refine Grow.turn rfl rfl ?_) | (refine sd ?_))
  refine Ret.intro (.tup [.a8 (kyB (R).2),.tt]) ((1001,.dead) :: rbM n' c' (R).1 1005) [(1005,(305,0,none))] rfl ?_ (by rw [h0];exact ⟨n',c',hn',hnc',rfl,rfl⟩) rfl ?_ rfl ?_ rfl
  ·exact fc
  ·exact fc
  ·repeat' (first | (show zA _;first | exact trivial | refine zA.app ?_ ?_ | refine zA.zd ?_ ?_ | refine zA.cons ?_ ?_) | exact fd | fail)
   all_goals exact ⟨fun _=>trivial,fun _=>hne⟩
 have c2:k = 1:=Classical.not_not.1 c2
 subst c2
 obtain ⟨b,hab⟩:∃ b,x.2 = [b]:=by
  match hL:x.2,hk with
  | [b],_=>exact ⟨b,rfl⟩
 rw [hab] at hno hle hgt ⊢
 have e0:([b]:List (List UInt8)).getD 0 [] = b:=rfl
 rw [e0] at hno hle hgt
 have f0:([b]:List (List UInt8))[addQ (addI none 0) (Ix.lit 0).val]?.getD [] = b:=rfl
 have f1:([b]:List (List UInt8))[addQ 0 (Ix.lit 0).val]?.getD [] = b:=rfl
 by_cases c3:¬ b.length = 32
 ·have h0:=hno (fun h=>c3 h.2.2)
  have c3':¬ ((b.length:Nat):Int) = 32:=by omega
  repeat (first | (refine zB.intro (fun h=>False.elim (by revert h;first | (simp [c1,c3,c3',f0,f1];done) | fail)) (fun _=>?_)) | (refine zB.intro (fun _=>?_) (fun h=>False.elim (by revert h;first | (simp [c1,c3,c3',f0,f1];done) | fail))) | (refine Grow.turn rfl rfl ?_) | (refine sd ?_))
  refine Cut.intro (σ:=Unit) (fun _=>True) (fun _=>([(3,.ptr 203 0 none),(4,.ptr 204 0 none),(5,.ptr 205 0 none),(6,.ptr 206 0 none)],[(203,.mem true 0 [(1,.ptr 1000 0 none)]),(204,.mem false 1 [(32,.a8 a)]),(205,.mem false 1 [(32,.a8 pub)]),(206,.mem true 0 [(32,.a8 (List.replicate 32 0))]),
   (1000,.mem true 0 [(1,.sl 1001 0 0 N c)]),(1001,.mem true (zmE (c - N) 2) [(N * 2,.arr N 2 (rtF T))])])) () trivial (Le.ghost [.keep 4,.keep 5] [] [(203,(3,0,none)),(204,(4,0,none)),(205,(5,0,none)),(206,(6,0,none))] rfl ?_ rfl rfl ?_ rfl ?_ rfl) ?_
  ·exact fc
  ·exact fc
  ·exact fc
  rintro - -
  have hM:=fnRMakeB T N c hT hN hNc hTv 4 a pub (by omega) (by omega) _ _ rfl rfl
  have hne:=mk2_ne T (k:=4) (by decide) (by decide) (p:=a) (q:=pub) (by omega) (by omega)
  obtain ⟨R,hR⟩:∃ R,mk2 T 4 a pub = R:=⟨_,rfl⟩
  rw [hR] at hM hne h0
  unfold M12 rwS at hM
  refine Draw.intro [[],[0],[],[],[2,3],[0,1,2,3,4],[0,1,2,3,4,5],[0,1,2,3,4,5],[0,1,2,3,4,5,6,7],[0,1,2,3,4,5,6,7,8]] [0,1,2,3,4,5,6,7,8,9] (by kernel_rfl) ?_
  repeat (first | (refine Grow.turn rfl rfl ?_) | (refine sd ?_))
  refine Call.name [(0,[]),(0,[]),(2001,[])] rfl fc (CallP.intro hM [(1000,(1000,0,none)),(1001,(1001,0,none)),(1003,(2001,0,none)),(1005,(305,0,none))] rfl fc rfl ?_ rfl ?_)
  ·repeat' (first | (show zA _;first | exact trivial | refine zA.app ?_ ?_ | refine zA.zd ?_ ?_ | refine zA.cons ?_ ?_) | exact fd | fail)
   all_goals first | exact rwS_eq0 ha | exact rwS_eq1 hp
  rintro v M' ⟨n',c',hn',hnc',rfl,rfl⟩
  have hkl:=zk (R).2
  dsimp only [zt,zM,zE,ren,zz,zx,zy,look,zG,zX,ev,evL,zV,zcT,zcF,act,zP,zO,Ent.zW]
  repeat (first | (refine Grow.turn rfl rfl ?_) | (refine sd ?_))
  refine Ret.intro (.tup [.a8 (kyB (R).2),.tt]) ((1001,.dead) :: rbM n' c' (R).1 1005) [(1005,(305,0,none))] rfl ?_ (by rw [h0];exact ⟨n',c',hn',hnc',rfl,rfl⟩) rfl ?_ rfl ?_ rfl
  ·exact fc
  ·exact fc
  ·repeat' (first | (show zA _;first | exact trivial | refine zA.app ?_ ?_ | refine zA.zd ?_ ?_ | refine zA.cons ?_ ?_) | exact fd | fail)
   all_goals exact ⟨fun _=>trivial,fun _=>hne⟩
 have c3:b.length = 32:=Classical.not_not.1 c3
 have c3':((b.length:Nat):Int) = 32:=by omega
 repeat (first | (refine zB.intro (fun h=>False.elim (by revert h;first | (simp [c1,c3,c3',f0,f1];done) | fail)) (fun _=>?_)) | (refine zB.intro (fun _=>?_) (fun h=>False.elim (by revert h;first | (simp [c1,c3,c3',f0,f1];done) | fail))) | (refine Grow.turn rfl rfl ?_) | (refine sd ?_))
 refine Cut.intro (σ:=Unit) (fun _=>True) (fun _=>([(3,.ptr 203 0 none),(4,.ptr 204 0 none),(6,.ptr 206 0 none),(9,.ptr 209 0 none)],[(203,.mem true 0 [(1,.ptr 1000 0 none)]),(204,.mem false 1 [(32,.a8 a)]),(206,.mem true 0 [(32,.a8 (List.replicate 32 0))]),(209,.mem true 0 [(1,.i .i64 2),(1,.isl 0 1 1 [(1 * 1,.arr 1 1 (rwF [b]))])]),
  (1000,.mem true 0 [(1,.sl 1001 0 0 N c)]),(1001,.mem true (zmE (c - N) 2) [(N * 2,.arr N 2 (rtF T))])])) () trivial (Le.ghost [.keep 4] [] [(203,(3,0,none)),(204,(4,0,none)),(206,(6,0,none)),(209,(9,0,none))] rfl ?_ rfl rfl ?_ rfl ?_ rfl) ?_
 ·exact fc
 ·exact fc
 ·repeat' (first | (show zA _;first | exact trivial | refine zA.app ?_ ?_ | refine zA.zd ?_ ?_ | refine zA.cons ?_ ?_) | exact fd | fail)
  all_goals first | exact c1 | exact c1.symm | trace_state
 rintro - -
 have eT:List.take 32 a = a:=List.take_of_length_le (by omega)
 have eA:List.take 32 (List.drop ((none:Option Nat).getD 0) a) = a:=by rw [Option.getD_none,List.drop_zero,eT]
 have eB:List.take b.length (List.drop 0 b) = b:=by rw [List.drop_zero,List.take_length]
 refine Draw.intro [[],[0],[],[2],[2,3],[2,3,4],[2,3,4,5],[0,1,2,3,4,5,6]] [0,1,2,3,4,5,6,7] (by kernel_rfl) ?_
 repeat (refine sd ?_)
 by_cases hb:Op.bytesLess a b = true
 ·have h0:=hle ⟨c1,rfl,c3⟩ (Or.inl hb)
  refine zB.intro (fun _=>?_) (fun h=>?_)
  rotate_left
  ·exfalso;revert h;simp [eT,f1,hb]
  repeat (refine sd ?_)
  have hM:=fnRMakeB T N c hT hN hNc hTv 3 a b (by omega) (by omega) _ _ rfl rfl
  have hne:=mk2_ne T (k:=3) (by decide) (by decide) (p:=a) (q:=b) (by omega) (by omega)
  obtain ⟨R,hR⟩:∃ R,mk2 T 3 a b = R:=⟨_,rfl⟩
  rw [hR] at hM hne h0
  unfold M12 rwS at hM
  refine Draw.intro [[],[0],[],[],[3],[3,4],[3,4,5],[2,3,4,5,6],[0,1,2,3,4,5,6,7],[0,1,2,3,4,5,6,7,8],[0,1,2,3,4,5,6,7,8],[0,1,2,3,4,5,6,7,8,9,10],[0,1,2,3,4,5,6,7,8,9,10,11]] [0,1,2,3,4,5,6,7,8,9,10,11,12] (by kernel_rfl) ?_
  repeat (first | (refine Grow.turn rfl rfl ?_) | (refine sd ?_))
  refine Call.name [(0,[]),(0,[]),(2001,[])] rfl fc (CallP.intro hM [(1000,(1000,0,none)),(1001,(1001,0,none)),(1003,(2001,0,none)),(1005,(305,0,none))] rfl fc rfl ?_ rfl ?_)
  ·repeat' (first | (show zA _;first | exact trivial | refine zA.app ?_ ?_ | refine zA.zd ?_ ?_ | refine zA.cons ?_ ?_) | exact fd | fail)
   all_goals first | exact rwS_eq0 ha | exact rwS_eq1 c3
  rintro v M' ⟨n',c',hn',hnc',rfl,rfl⟩
  have hkl:=zk (R).2
  dsimp only [zt,zM,zE,ren,zz,zx,zy,look,zG,zX,ev,evL,zV,zcT,zcF,act,zP,zO,Ent.zW]
  repeat (first | (refine Grow.turn rfl rfl ?_) | (refine sd ?_))
  refine Ret.intro (.tup [.a8 (kyB (R).2),.tt]) ((1001,.dead) :: rbM n' c' (R).1 1005) [(1005,(305,0,none))] rfl ?_ (by rw [h0];exact ⟨n',c',hn',hnc',rfl,rfl⟩) rfl ?_ rfl ?_ rfl
  ·exact fc
  ·exact fc
  ·repeat' (first | (show zA _;first | exact trivial | refine zA.app ?_ ?_ | refine zA.zd ?_ ?_ | refine zA.cons ?_ ?_) | exact fd | fail)
   all_goals exact ⟨fun _=>trivial,fun _=>hne⟩
 ·have h0:agr T N a pub = mk2 T 3 b a:=by
   by_cases he:a = b
   ·subst he;exact hle ⟨c1,rfl,c3⟩ (Or.inr rfl)
   ·exact hgt ⟨c1,rfl,c3⟩ (fun h=>h.elim hb he)
  refine zB.intro (fun h=>?_) (fun _=>?_)
  ·exfalso;revert h;simp [eT,f1,hb]
  repeat (refine sd ?_)
  have hM:=fnRMakeB T N c hT hN hNc hTv 3 b a (by omega) (by omega) _ _ rfl rfl
  have hne:=mk2_ne T (k:=3) (by decide) (by decide) (p:=b) (q:=a) (by omega) (by omega)
  obtain ⟨R,hR⟩:∃ R,mk2 T 3 b a = R:=⟨_,rfl⟩
  rw [hR] at hM hne h0
  unfold M12 rwS at hM
  refine Draw.intro [[],[0],[],[2],[2,3],[2,3,4],[],[2,3,4,5,6],[0,1,2,3,4,5,6,7],[0,1,2,3,4,5,6,7,8],[0,1,2,3,4,5,6,7,8],[0,1,2,3,4,5,6,7,8,9,10],[0,1,2,3,4,5,6,7,8,9,10,11]] [0,1,2,3,4,5,6,7,8,9,10,11,12] (by kernel_rfl) ?_
  repeat (first | (refine Grow.turn rfl rfl ?_) | (refine sd ?_))
  refine Call.name [(0,[]),(0,[]),(2001,[])] rfl fc (CallP.intro hM [(1000,(1000,0,none)),(1001,(1001,0,none)),(1003,(2001,0,none)),(1005,(305,0,none))] rfl fc rfl ?_ rfl ?_)
  ·repeat' (first | (show zA _;first | exact trivial | refine zA.app ?_ ?_ | refine zA.zd ?_ ?_ | refine zA.cons ?_ ?_) | exact fd | fail)
   all_goals first | exact rwS_eq0 c3 | exact rwS_eq1 ha
  rintro v M' ⟨n',c',hn',hnc',rfl,rfl⟩
  have hkl:=zk (R).2
  dsimp only [zt,zM,zE,ren,zz,zx,zy,look,zG,zX,ev,evL,zV,zcT,zcF,act,zP,zO,Ent.zW]
  repeat (first | (refine Grow.turn rfl rfl ?_) | (refine sd ?_))
  refine Ret.intro (.tup [.a8 (kyB (R).2),.tt]) ((1001,.dead) :: rbM n' c' (R).1 1005) [(1005,(305,0,none))] rfl ?_ (by rw [h0];exact ⟨n',c',hn',hnc',rfl,rfl⟩) rfl ?_ rfl ?_ rfl
  ·exact fc
  ·exact fc
  ·repeat' (first | (show zA _;first | exact trivial | refine zA.app ?_ ?_ | refine zA.zd ?_ ?_ | refine zA.cons ?_ ?_) | exact fd | fail)
   all_goals exact ⟨fun _=>trivial,fun _=>hne⟩
end Go.Proofs.YtfnmgbillkiabaaGreat
