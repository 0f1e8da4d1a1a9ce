/- Walks. -/
import Derived.Test.YtimbdhpchlakfaaGreatHwRf8ToZa1
import Derived.Test.YtimbdhpchlakfaaGreatHwRa2ToCbc2
import Derived.Test.YtimbdhpchlakfaaGreatHwSs3ToSg1
set_option linter.unusedSimpArgs false
set_option linter.unusedVariables false
set_option maxHeartbeats 4000000
open List (replicate take)
set_option maxRecDepth 100000
namespace Go.Proofs.YtimbdhpchlakfaaGreat
open Go Go.Sx
theorem ta (T:List Te) (N c:Nat) (hT:T.length = N) (hN:N <= 60000) (hNc:N <= c) (hTv:∀ x ∈ T,ak x.1 x.2) (a pub:List UInt8) (ha:a.length = 32) (hp:pub.length = 32) :
  Sx.Fn Γ.P 17 [.agg [(1,.ptr 1000 0 none)],.a8 a,.a8 pub] (rbM N c T 1001)
  (fun v M=>∃ n' c',(agr T N a pub).1.length = n'/\n' <= c'/\v = .tup [.a8 (kyB (agr T N a pub).2),.tt]/\M = (1001,.dead) :: rbM n' c' (agr T N a pub).1 1005):=by
 have hOf:=aWP T N hT hN pub hp
 unfold rbM
 refine ci [6,9] (Γ:=Γ) (fn:=Tryz.f17) rfl rfl rfl rfl ?_
 repeat refine sd ?_
 refine zB.intro (fun hc=>absurd hc (by simp)) (fun _=>?_)
 repeat refine sd ?_
 refine Call.intro hOf [(1000,(1000,0,none)),(1001,(1001,0,none))] rfl fc rfl fc rfl ?_
 rintro v M' (⟨hz,rfl,rfl⟩ | ⟨q,h1,h2,rfl,rfl⟩)
 ·have h0:=yJ (T:=T) (a:=a) hz
  dsimp only [zt,zM,zE,ren,zz,zx,zy,aS,zG,zX,ev,evL,zV,zcT,zcF,act,zP,zO,Ent.zW]
  repeat (first | (refine zB.intro (fun h=>False.elim (by revert h;first | (simp ;done) | fail)) (fun _=>?_)) | (refine zB.intro (fun _=>?_) (fun h=>False.elim (by revert h;first | (simp ;done) | fail)))|refine gt ?_|refine sd ?_)
  refine Cut.intro (σ:=Unit) (fun _=>True) (fun _=>([(3,.ptr 203 0 none),(4,.ptr 204 0 none),(5,.ptr 205 0 none),(6,.ptr 206 0 none)],[(203,.mem true 0 [(1,.ptr 1000 0 none)]),(204,.mem false 1 [(32,.a8 a)]),(205,.mem false 1 [(32,.a8 pub)]),(206,.mem true 0 [(32,.a8 (replicate 32 0))]),
   (1000,.mem true 0 [(1,.sl 1001 0 0 N c)]),(1001,.mem true (zmE (c - N) 2) [(N * 2,.arr N 2 (rtF T))])])) () trivial (Le.ghost [.keep 4,.keep 5] [] [(203,(3,0,none)),(204,(4,0,none)),(205,(5,0,none)),(206,(6,0,none))] rfl fc rfl rfl fc rfl fc rfl) ?_
  rintro - -
  have hM:=ie T N c hT hN hNc hTv 4 a pub (by omega) (by omega) _ _ rfl rfl
  have hne:=gb T (k:=4) (by decide) (by decide) (p:=a) (q:=pub) (by omega) (by omega)
  obtain ⟨R,hR⟩:∃ R,mk2 T 4 a pub = R:=⟨_,rfl⟩
  rw [hR] at hM hne h0
  unfold M12 rwS at hM
  refine aI.intro [[],[0],[],[],[2,3],r_5,r_6,r_6,r_8,r_9] fi (by kernel_rfl) ?_
  repeat (first|refine gt ?_|refine sd ?_)
  refine Call.name [(0,[]),(0,[]),(2001,[])] rfl fc (cz.intro hM [(1000,(1000,0,none)),(1001,(1001,0,none)),(1003,(2001,0,none)),(1005,(305,0,none))] rfl fc rfl ?_ rfl ?_)
  ·repeat' first|exact trivial|refine zA.app ?_ ?_|refine zA.zd ?_ ?_|refine zA.cons ?_ ?_|exact fc|fail
   all_goals first | exact dH ha | exact dG hp
  rintro v M' ⟨n',c',hn',hnc',rfl,rfl⟩
  have hkl:=zk (R).2
  dsimp only [zt,zM,zE,ren,zz,zx,zy,aS,zG,zX,ev,evL,zV,zcT,zcF,act,zP,zO,Ent.zW]
  repeat (first|refine gt ?_|refine sd ?_)
  refine Ret.intro (.tup [.a8 (kyB (R).2),.tt]) ((1001,.dead) :: rbM n' c' (R).1 1005) [(1005,(305,0,none))] rfl ?_ (by rw [h0];exact ⟨n',c',hn',hnc',rfl,rfl⟩) rfl ?_ rfl ?_ rfl
  ·exact fc
  ·exact fc
  ·repeat' first|exact trivial|refine zA.app ?_ ?_|refine zA.zd ?_ ?_|refine zA.cons ?_ ?_|exact fc|fail
   all_goals exact ⟨fun _=>trivial,fun _=>hne⟩
 obtain ⟨x,hx⟩:∃ x,T.getD q te0 = x:=⟨_,rfl⟩
 have hno:=aKH (T:=T) (a:=a) h1
 have hle:=aFM (T:=T) (a:=a) h1
 have hgt:=aFN (T:=T) (a:=a) h1
 have hV:=hTv _ (eJ te0 (L:=T) (i:=q) (by omega))
 rw [hx] at hno hle hgt hV ⊢
 obtain ⟨k,hk⟩:∃ k,x.2.length = k:=⟨_,rfl⟩
 have hk64:k <= 64:=by rw [<- hk];exact hV.1.1
 unfold prS
 rw [hk]
 clear hOf
 dsimp only [zt,zM,zE,ren,zz,zx,zy,aS,zG,zX,ev,evL,zV,zcT,zcF,act,zP,zO,Ent.zW]
 repeat refine sd ?_
 by_cases c1:¬ x.1 = 2
 ·have h0:=hno (fun h=>c1 h.1)
  repeat (first | (refine zB.intro (fun h=>False.elim (by revert h;first | (simp [c1];done) | fail)) (fun _=>?_)) | (refine zB.intro (fun _=>?_) (fun h=>False.elim (by revert h;first | (simp [c1];done) | fail)))|refine gt ?_|refine sd ?_)
  refine Cut.intro (σ:=Unit) (fun _=>True) (fun _=>([(3,.ptr 203 0 none),(4,.ptr 204 0 none),(5,.ptr 205 0 none),(6,.ptr 206 0 none)],[(203,.mem true 0 [(1,.ptr 1000 0 none)]),(204,.mem false 1 [(32,.a8 a)]),(205,.mem false 1 [(32,.a8 pub)]),(206,.mem true 0 [(32,.a8 (replicate 32 0))]),
   (1000,.mem true 0 [(1,.sl 1001 0 0 N c)]),(1001,.mem true (zmE (c - N) 2) [(N * 2,.arr N 2 (rtF T))])])) () trivial (Le.ghost [.keep 4,.keep 5] [] [(203,(3,0,none)),(204,(4,0,none)),(205,(5,0,none)),(206,(6,0,none))] rfl fc rfl rfl fc rfl fc rfl) ?_
  rintro - -
  have hM:=ie T N c hT hN hNc hTv 4 a pub (by omega) (by omega) _ _ rfl rfl
  have hne:=gb T (k:=4) (by decide) (by decide) (p:=a) (q:=pub) (by omega) (by omega)
  obtain ⟨R,hR⟩:∃ R,mk2 T 4 a pub = R:=⟨_,rfl⟩
  rw [hR] at hM hne h0
  unfold M12 rwS at hM
  refine aI.intro [[],[0],[],[],[2,3],r_5,r_6,r_6,r_8,r_9] fi (by kernel_rfl) ?_
  repeat (first|refine gt ?_|refine sd ?_)
  refine Call.name [(0,[]),(0,[]),(2001,[])] rfl fc (cz.intro hM [(1000,(1000,0,none)),(1001,(1001,0,none)),(1003,(2001,0,none)),(1005,(305,0,none))] rfl fc rfl ?_ rfl ?_)
  ·repeat' first|exact trivial|refine zA.app ?_ ?_|refine zA.zd ?_ ?_|refine zA.cons ?_ ?_|exact fc|fail
   all_goals first | exact dH ha | exact dG hp
  rintro v M' ⟨n',c',hn',hnc',rfl,rfl⟩
  have hkl:=zk (R).2
  dsimp only [zt,zM,zE,ren,zz,zx,zy,aS,zG,zX,ev,evL,zV,zcT,zcF,act,zP,zO,Ent.zW]
  repeat (first|refine gt ?_|refine sd ?_)
  refine Ret.intro (.tup [.a8 (kyB (R).2),.tt]) ((1001,.dead) :: rbM n' c' (R).1 1005) [(1005,(305,0,none))] rfl ?_ (by rw [h0];exact ⟨n',c',hn',hnc',rfl,rfl⟩) rfl ?_ rfl ?_ rfl
  ·exact fc
  ·exact fc
  ·repeat' first|exact trivial|refine zA.app ?_ ?_|refine zA.zd ?_ ?_|refine zA.cons ?_ ?_|exact fc|fail
   all_goals exact ⟨fun _=>trivial,fun _=>hne⟩
 have c1:x.1 = 2:=Classical.not_not.1 c1
 by_cases c2:¬ k = 1
 ·have h0:=hno (fun h=>c2 (by rw [<- hk];exact h.2.1))
  have c2':¬ ((k:Nat):Int) = 1:=by omega
  repeat (first | (refine zB.intro (fun h=>False.elim (by revert h;first | (simp [c1,c2,c2'];done) | fail)) (fun _=>?_)) | (refine zB.intro (fun _=>?_) (fun h=>False.elim (by revert h;first | (simp [c1,c2,c2'];done) | fail)))|refine gt ?_|refine sd ?_)
  refine Cut.intro (σ:=Unit) (fun _=>True) (fun _=>([(3,.ptr 203 0 none),(4,.ptr 204 0 none),(5,.ptr 205 0 none),(6,.ptr 206 0 none)],[(203,.mem true 0 [(1,.ptr 1000 0 none)]),(204,.mem false 1 [(32,.a8 a)]),(205,.mem false 1 [(32,.a8 pub)]),(206,.mem true 0 [(32,.a8 (replicate 32 0))]),
   (1000,.mem true 0 [(1,.sl 1001 0 0 N c)]),(1001,.mem true (zmE (c - N) 2) [(N * 2,.arr N 2 (rtF T))])])) () trivial (Le.ghost [.keep 4,.keep 5] [] [(203,(3,0,none)),(204,(4,0,none)),(205,(5,0,none)),(206,(6,0,none))] rfl fc rfl rfl fc rfl fc rfl) ?_
  rintro - -
  have hM:=ie T N c hT hN hNc hTv 4 a pub (by omega) (by omega) _ _ rfl rfl
  have hne:=gb T (k:=4) (by decide) (by decide) (p:=a) (q:=pub) (by omega) (by omega)
  obtain ⟨R,hR⟩:∃ R,mk2 T 4 a pub = R:=⟨_,rfl⟩
  rw [hR] at hM hne h0
  unfold M12 rwS at hM
  refine aI.intro [[],[0],[],[],[2,3],r_5,r_6,r_6,r_8,r_9] fi (by kernel_rfl) ?_
  repeat (first|refine gt ?_|refine sd ?_)
  refine Call.name [(0,[]),(0,[]),(2001,[])] rfl fc (cz.intro hM [(1000,(1000,0,none)),(1001,(1001,0,none)),(1003,(2001,0,none)),(1005,(305,0,none))] rfl fc rfl ?_ rfl ?_)
  ·repeat' first|exact trivial|refine zA.app ?_ ?_|refine zA.zd ?_ ?_|refine zA.cons ?_ ?_|exact fc|fail
   all_goals first | exact dH ha | exact dG hp
  rintro v M' ⟨n',c',hn',hnc',rfl,rfl⟩
  have hkl:=zk (R).2
  dsimp only [zt,zM,zE,ren,zz,zx,zy,aS,zG,zX,ev,evL,zV,zcT,zcF,act,zP,zO,Ent.zW]
  repeat (first|refine gt ?_|refine sd ?_)
  refine Ret.intro (.tup [.a8 (kyB (R).2),.tt]) ((1001,.dead) :: rbM n' c' (R).1 1005) [(1005,(305,0,none))] rfl ?_ (by rw [h0];exact ⟨n',c',hn',hnc',rfl,rfl⟩) rfl ?_ rfl ?_ rfl
  ·exact fc
  ·exact fc
  ·repeat' first|exact trivial|refine zA.app ?_ ?_|refine zA.zd ?_ ?_|refine zA.cons ?_ ?_|exact fc|fail
   all_goals exact ⟨fun _=>trivial,fun _=>hne⟩
 have c2:k = 1:=Classical.not_not.1 c2
 subst c2
 obtain ⟨b,hab⟩:∃ b,x.2 = [b]:=by
  match hL:x.2,hk with
  | [b],_=>exact ⟨b,rfl⟩
 rw [hab] at hno hle hgt ⊢
 have e0:([b]:List (List UInt8)).getD 0 [] = b:=rfl
 rw [e0] at hno hle hgt
 have f0:([b]:List (List UInt8))[ge (addI none 0) (Ix.lit 0).val]?.getD [] = b:=rfl
 have f1:([b]:List (List UInt8))[ge 0 (Ix.lit 0).val]?.getD [] = b:=rfl
 by_cases c3:¬ b.length = 32
 ·have h0:=hno (fun h=>c3 h.2.2)
  have c3':¬ ((b.length:Nat):Int) = 32:=by omega
  repeat (first | (refine zB.intro (fun h=>False.elim (by revert h;first | (simp [c1,c3,c3',f0,f1];done) | fail)) (fun _=>?_)) | (refine zB.intro (fun _=>?_) (fun h=>False.elim (by revert h;first | (simp [c1,c3,c3',f0,f1];done) | fail)))|refine gt ?_|refine sd ?_)
  refine Cut.intro (σ:=Unit) (fun _=>True) (fun _=>([(3,.ptr 203 0 none),(4,.ptr 204 0 none),(5,.ptr 205 0 none),(6,.ptr 206 0 none)],[(203,.mem true 0 [(1,.ptr 1000 0 none)]),(204,.mem false 1 [(32,.a8 a)]),(205,.mem false 1 [(32,.a8 pub)]),(206,.mem true 0 [(32,.a8 (replicate 32 0))]),
   (1000,.mem true 0 [(1,.sl 1001 0 0 N c)]),(1001,.mem true (zmE (c - N) 2) [(N * 2,.arr N 2 (rtF T))])])) () trivial (Le.ghost [.keep 4,.keep 5] [] [(203,(3,0,none)),(204,(4,0,none)),(205,(5,0,none)),(206,(6,0,none))] rfl fc rfl rfl fc rfl fc rfl) ?_
  rintro - -
  have hM:=ie T N c hT hN hNc hTv 4 a pub (by omega) (by omega) _ _ rfl rfl
  have hne:=gb T (k:=4) (by decide) (by decide) (p:=a) (q:=pub) (by omega) (by omega)
  obtain ⟨R,hR⟩:∃ R,mk2 T 4 a pub = R:=⟨_,rfl⟩
  rw [hR] at hM hne h0
  unfold M12 rwS at hM
  refine aI.intro [[],[0],[],[],[2,3],r_5,r_6,r_6,r_8,r_9] fi (by kernel_rfl) ?_
  repeat (first|refine gt ?_|refine sd ?_)
  refine Call.name [(0,[]),(0,[]),(2001,[])] rfl fc (cz.intro hM [(1000,(1000,0,none)),(1001,(1001,0,none)),(1003,(2001,0,none)),(1005,(305,0,none))] rfl fc rfl ?_ rfl ?_)
  ·repeat' first|exact trivial|refine zA.app ?_ ?_|refine zA.zd ?_ ?_|refine zA.cons ?_ ?_|exact fc|fail
   all_goals first | exact dH ha | exact dG hp
  rintro v M' ⟨n',c',hn',hnc',rfl,rfl⟩
  have hkl:=zk (R).2
  dsimp only [zt,zM,zE,ren,zz,zx,zy,aS,zG,zX,ev,evL,zV,zcT,zcF,act,zP,zO,Ent.zW]
  repeat (first|refine gt ?_|refine sd ?_)
  refine Ret.intro (.tup [.a8 (kyB (R).2),.tt]) ((1001,.dead) :: rbM n' c' (R).1 1005) [(1005,(305,0,none))] rfl ?_ (by rw [h0];exact ⟨n',c',hn',hnc',rfl,rfl⟩) rfl ?_ rfl ?_ rfl
  ·exact fc
  ·exact fc
  ·repeat' first|exact trivial|refine zA.app ?_ ?_|refine zA.zd ?_ ?_|refine zA.cons ?_ ?_|exact fc|fail
   all_goals exact ⟨fun _=>trivial,fun _=>hne⟩
 have c3:b.length = 32:=Classical.not_not.1 c3
 have c3':((b.length:Nat):Int) = 32:=by omega
 repeat (first | (refine zB.intro (fun h=>False.elim (by revert h;first | (simp [c1,c3,c3',f0,f1];done) | fail)) (fun _=>?_)) | (refine zB.intro (fun _=>?_) (fun h=>False.elim (by revert h;first | (simp [c1,c3,c3',f0,f1];done) | fail)))|refine gt ?_|refine sd ?_)
 refine Cut.intro (σ:=Unit) (fun _=>True) (fun _=>([(3,.ptr 203 0 none),(4,.ptr 204 0 none),(6,.ptr 206 0 none),(9,.ptr 209 0 none)],[(203,.mem true 0 [(1,.ptr 1000 0 none)]),(204,.mem false 1 [(32,.a8 a)]),(206,.mem true 0 [(32,.a8 (replicate 32 0))]),(209,.mem true 0 [(1,.i .i64 2),(1,.isl 0 1 1 [(1 * 1,.arr 1 1 (rwF [b]))])]),
  (1000,.mem true 0 [(1,.sl 1001 0 0 N c)]),(1001,.mem true (zmE (c - N) 2) [(N * 2,.arr N 2 (rtF T))])])) () trivial (Le.ghost [.keep 4] [] [(203,(3,0,none)),(204,(4,0,none)),(206,(6,0,none)),(209,(9,0,none))] rfl ?_ rfl rfl ?_ rfl ?_ rfl) ?_
 ·exact fc
 ·exact fc
 ·repeat' first|exact trivial|refine zA.app ?_ ?_|refine zA.zd ?_ ?_|refine zA.cons ?_ ?_|exact fc|fail
  all_goals first | exact c1 | exact c1.symm | trace_state
 rintro - -
 have eT:take 32 a = a:=List.take_of_length_le (by omega)
 have eA:take 32 (List.drop ((none:Option Nat).getD 0) a) = a:=by rw [Option.getD_none,List.drop_zero,eT]
 have eB:take b.length (List.drop 0 b) = b:=by rw [List.drop_zero,List.take_length]
 refine aI.intro [[],[0],[],[2],[2,3],[2,3,4],[2,3,4,5],r_7] r_8 (by kernel_rfl) ?_
 repeat refine sd ?_
 by_cases hb:Op.bytesLess a b = true
 ·have h0:=hle ⟨c1,rfl,c3⟩ (Or.inl hb)
  refine zB.intro (fun _=>?_) (fun h=>?_)
  rotate_left
  ·exfalso;revert h;simp [eT,f1,hb]
  repeat refine sd ?_
  have hM:=ie T N c hT hN hNc hTv 3 a b (by omega) (by omega) _ _ rfl rfl
  have hne:=gb T (k:=3) (by decide) (by decide) (p:=a) (q:=b) (by omega) (by omega)
  obtain ⟨R,hR⟩:∃ R,mk2 T 3 a b = R:=⟨_,rfl⟩
  rw [hR] at hM hne h0
  unfold M12 rwS at hM
  refine aI.intro [[],[0],[],[],[3],[3,4],[3,4,5],[2,3,4,5,6],r_8,r_9,r_9,fy,mR] nb (by kernel_rfl) ?_
  repeat (first|refine gt ?_|refine sd ?_)
  refine Call.name [(0,[]),(0,[]),(2001,[])] rfl fc (cz.intro hM [(1000,(1000,0,none)),(1001,(1001,0,none)),(1003,(2001,0,none)),(1005,(305,0,none))] rfl fc rfl ?_ rfl ?_)
  ·repeat' first|exact trivial|refine zA.app ?_ ?_|refine zA.zd ?_ ?_|refine zA.cons ?_ ?_|exact fc|fail
   all_goals first | exact dH ha | exact dG c3
  rintro v M' ⟨n',c',hn',hnc',rfl,rfl⟩
  have hkl:=zk (R).2
  dsimp only [zt,zM,zE,ren,zz,zx,zy,aS,zG,zX,ev,evL,zV,zcT,zcF,act,zP,zO,Ent.zW]
  repeat (first|refine gt ?_|refine sd ?_)
  refine Ret.intro (.tup [.a8 (kyB (R).2),.tt]) ((1001,.dead) :: rbM n' c' (R).1 1005) [(1005,(305,0,none))] rfl ?_ (by rw [h0];exact ⟨n',c',hn',hnc',rfl,rfl⟩) rfl ?_ rfl ?_ rfl
  ·exact fc
  ·exact fc
  ·repeat' first|exact trivial|refine zA.app ?_ ?_|refine zA.zd ?_ ?_|refine zA.cons ?_ ?_|exact fc|fail
   all_goals exact ⟨fun _=>trivial,fun _=>hne⟩
 ·have h0:agr T N a pub = mk2 T 3 b a:=by
   by_cases he:a = b
   ·subst he;exact hle ⟨c1,rfl,c3⟩ (Or.inr rfl)
   ·exact hgt ⟨c1,rfl,c3⟩ (fun h=>h.elim hb he)
  refine zB.intro (fun h=>?_) (fun _=>?_)
  ·exfalso;revert h;simp [eT,f1,hb]
  repeat refine sd ?_
  have hM:=ie T N c hT hN hNc hTv 3 b a (by omega) (by omega) _ _ rfl rfl
  have hne:=gb T (k:=3) (by decide) (by decide) (p:=b) (q:=a) (by omega) (by omega)
  obtain ⟨R,hR⟩:∃ R,mk2 T 3 b a = R:=⟨_,rfl⟩
  rw [hR] at hM hne h0
  unfold M12 rwS at hM
  refine aI.intro [[],[0],[],[2],[2,3],[2,3,4],[],[2,3,4,5,6],r_8,r_9,r_9,fy,mR] nb (by kernel_rfl) ?_
  repeat (first|refine gt ?_|refine sd ?_)
  refine Call.name [(0,[]),(0,[]),(2001,[])] rfl fc (cz.intro hM [(1000,(1000,0,none)),(1001,(1001,0,none)),(1003,(2001,0,none)),(1005,(305,0,none))] rfl fc rfl ?_ rfl ?_)
  ·repeat' first|exact trivial|refine zA.app ?_ ?_|refine zA.zd ?_ ?_|refine zA.cons ?_ ?_|exact fc|fail
   all_goals first | exact dH c3 | exact dG ha
  rintro v M' ⟨n',c',hn',hnc',rfl,rfl⟩
  have hkl:=zk (R).2
  dsimp only [zt,zM,zE,ren,zz,zx,zy,aS,zG,zX,ev,evL,zV,zcT,zcF,act,zP,zO,Ent.zW]
  repeat (first|refine gt ?_|refine sd ?_)
  refine Ret.intro (.tup [.a8 (kyB (R).2),.tt]) ((1001,.dead) :: rbM n' c' (R).1 1005) [(1005,(305,0,none))] rfl ?_ (by rw [h0];exact ⟨n',c',hn',hnc',rfl,rfl⟩) rfl ?_ rfl ?_ rfl
  ·exact fc
  ·exact fc
  ·repeat' first|exact trivial|refine zA.app ?_ ?_|refine zA.zd ?_ ?_|refine zA.cons ?_ ?_|exact fc|fail
   all_goals exact ⟨fun _=>trivial,fun _=>hne⟩
end Go.Proofs.YtimbdhpchlakfaaGreat
namespace Go.Proofs.YtimbdhpchlakfaaGreat
open Go Go.Sx
theorem aD2 (T:List Te) (N c:Nat) (hT:T.length = N) (hN:N <= 60000) (hNc:N <= c) (hTv:∀ x ∈ T,ak x.1 x.2) (p:List UInt8) (hp:p.length = 32) (T1:List Te) (o:Nat) (e1:(mk1 T 5 p).1 = T1) (e2:(mk1 T 5 p).2 = o) :
  Sx.Fn Γ.P 14 [.agg [(1,.ptr 1000 0 none)],.a8 p] (tbM N c T 1001)
  (fun v M=>∃ n' c',T1.length = n'/\n' <= c'/\v = .a8 (kyB o)/\M = (1001,.dead) :: tbM n' c' T1 1005):=by
 have hM:=aTS T N c hT hN hNc hTv 5 [p] 1 rfl (by omega) (fun x hx=>by rw [List.mem_singleton.1 hx];omega) T1 o (by rw [<- iC];exact e1) (by rw [<- iC];exact e2)
 have hkl:=zk o
 unfold MT rwS at hM
 unfold tbM
 refine ci [3] (Γ:=Γ) (fn:=Tryz.f14) rfl rfl rfl rfl ?_
 repeat refine sd ?_
 refine zB.intro (fun hc=>absurd hc (by simp)) (fun _=>?_)
 refine Cut.intro (σ:=Unit) (fun _=>True) (fun _=>([(2,.ptr 202 0 none),(3,.ptr 203 0 none),(4,.ptr 204 0 none)],[(202,.mem true 0 [(1,.ptr 1000 0 none)]),(203,.mem false 1 [(32,.a8 p)]),(204,.mem true 0 [(32,.a8 (replicate 32 0))]),
  (1000,.mem true 0 [(1,.sl 1001 0 0 N c),(1,.mp 1002)]),(1001,.mem true (zmE (c - N) 3) [(N * 3,.arr N 3 (ttF T))]),(1002,.map (.si (mpL T)))])) () trivial (Le.ghost [.keep 3] [] [(202,(2,0,none)),(203,(3,0,none)),(204,(4,0,none))] rfl fc rfl rfl fc rfl fc rfl) ?_
 rintro - -
 refine aI.intro [[],[],[1],[0,1,2],r_4] r_5 (by kernel_rfl) ?_
 repeat refine sd ?_
 refine Call.name [(0,[]),(0,[]),(2001,[])] rfl fc (cz.intro hM [(1000,(1000,0,none)),(1001,(1001,0,none)),(1002,(1002,0,none)),(1003,(2001,0,none)),(1005,(305,0,none))] rfl fc rfl ?_ rfl ?_)
 ·repeat' first|exact trivial|refine zA.app ?_ ?_|refine zA.zd ?_ ?_|refine zA.cons ?_ ?_|exact fc|fail
  all_goals exact p7 hp
 rintro v M' ⟨n',c',hn',hnc',rfl,rfl⟩
 dsimp only [zt,zM,zE,ren,zz,zx,zy,aS,zG,zX,ev,evL,zV,zcT,zcF,act,zP,zO,Ent.zW]
 repeat refine sd ?_
 refine Ret.intro (.a8 (kyB o)) ((1001,.dead) :: tbM n' c' T1 1005) [(1005,(305,0,none))] rfl fc ⟨n',c',hn',hnc',rfl,rfl⟩ rfl fc rfl fc rfl
end Go.Proofs.YtimbdhpchlakfaaGreat
namespace Go.Proofs.YtimbdhpchlakfaaGreat
open Go Go.Sx Go.Cu
theorem zb (T:List Te) (N c:Nat) (hT:T.length = N) (hN:N <= 60000) (hNc:N <= c) (hTv:∀ x ∈ T,ak x.1 x.2) (p:List UInt8) (hp:p.length = 32) (T1:List Te) (o:Nat) (e1:(mk1 T 5 p).1 = T1) (e2:(mk1 T 5 p).2 = o) :
  Sx.Fn Γ.P 15 [.agg [(1,.ptr 1000 0 none)],.a8 p] (rbM N c T 1001)
  (fun v M=>∃ n' c',T1.length = n'/\n' <= c'/\v = .a8 (kyB o)/\M = (1001,.dead) :: rbM n' c' T1 1005):=by
 have hM:=re T N c hT hN hNc hTv 5 p (by omega) T1 o e1 e2
 have hkl:=zk o
 unfold M12 rwS at hM
 unfold rbM
 refine ci [3] (Γ:=Γ) (fn:=Tryz.f15) rfl rfl rfl rfl ?_
 repeat refine sd ?_
 refine zB.intro (fun hc=>absurd hc (by simp)) (fun _=>?_)
 refine Cut.intro (σ:=Unit) (fun _=>True) (fun _=>([(2,.ptr 202 0 none),(3,.ptr 203 0 none),(4,.ptr 204 0 none)],[(202,.mem true 0 [(1,.ptr 1000 0 none)]),(203,.mem false 1 [(32,.a8 p)]),(204,.mem true 0 [(32,.a8 (replicate 32 0))]),
  (1000,.mem true 0 [(1,.sl 1001 0 0 N c)]),(1001,.mem true (zmE (c - N) 2) [(N * 2,.arr N 2 (rtF T))])])) () trivial (Le.ghost [.keep 3] [] [(202,(2,0,none)),(203,(3,0,none)),(204,(4,0,none))] rfl fc rfl rfl fc rfl fc rfl) ?_
 rintro - -
 refine aI.intro [[],[0],[],[2],r_4,r_5,r_6,r_6,[],[0,1,2,3,4,5,6,8],fi] [0,1,2,3,8,4,5,6,7,9,10] (by kernel_rfl) ?_
 repeat (first|refine gt ?_|refine sd ?_)
 refine Call.name [(0,[]),(0,[]),(2001,[])] rfl fc (cz.intro hM [(1000,(1000,0,none)),(1001,(1001,0,none)),(1003,(2001,0,none)),(1005,(305,0,none))] rfl fc rfl ?_ rfl ?_)
 ·repeat' first|exact trivial|refine zA.app ?_ ?_|refine zA.zd ?_ ?_|refine zA.cons ?_ ?_|exact fc|fail
  all_goals exact p7 hp
 rintro v M' ⟨n',c',hn',hnc',rfl,rfl⟩
 dsimp only [zt,zM,zE,ren,zz,zx,zy,aS,zG,zX,ev,evL,zV,zcT,zcF,act,zP,zO,Ent.zW]
 repeat (first|refine gt ?_|refine sd ?_)
 refine Ret.intro (.a8 (kyB o)) ((1001,.dead) :: rbM n' c' T1 1005) [(1005,(305,0,none))] rfl fc ⟨n',c',hn',hnc',rfl,rfl⟩ rfl fc rfl fc rfl
theorem yV (P:Prop) (hP:P) (a b o:List UInt8) (ha:a.length = 32) (hb:b.length = 32) (ho:o.length = 32):Sx.Fn Γ.P 3 [.bool P,.a8 a,.a8 b,.a8 o] [] (fun v _=>v = .tt):=by
 obtain ⟨A,hA⟩:∃ A,(mk1 [] 1 a).1 = A:=⟨_,rfl⟩
 obtain ⟨o1,ho1⟩:∃ o,(mk1 [] 1 a).2 = o:=⟨_,rfl⟩
 have hvA:=iB (T:=[]) jo 1 a
 have hlA:=(nx [] 1 a).2
 rw [hA] at hvA hlA
 have hlA:A.length <= 1:=hlA
 obtain ⟨B,hB⟩:∃ B,(mk1 A 1 b).1 = B:=⟨_,rfl⟩
 obtain ⟨o2,ho2⟩:∃ o,(mk1 A 1 b).2 = o:=⟨_,rfl⟩
 have hvB:=iB hvA 1 b
 have hlB:=(nx A 1 b).2
 rw [hB] at hvB hlB
 have hk1:=zk o1
 have hk2:=zk o2
 obtain ⟨C,hC⟩:∃ C,(mk1 B 2 (kyB o1)).1 = C:=⟨_,rfl⟩
 obtain ⟨o3,ho3⟩:∃ q,(mk1 B 2 (kyB o1)).2 = q:=⟨_,rfl⟩
 have hvC:=iB hvB 2 (kyB o1)
 have hlC:=(nx B 2 (kyB o1)).2
 rw [hC] at hvC hlC
 obtain ⟨D,hD⟩:∃ D,(mk1 C 5 (kyB o2)).1 = D:=⟨_,rfl⟩
 obtain ⟨o4,ho4⟩:∃ q,(mk1 C 5 (kyB o2)).2 = q:=⟨_,rfl⟩
 have hvD:=iB hvC 5 (kyB o2)
 have hlD:=(nx C 5 (kyB o2)).2
 rw [hD] at hvD hlD
 obtain ⟨E,hE⟩:∃ E,(mk1 D 2 (kyB o2)).1 = E:=⟨_,rfl⟩
 obtain ⟨o5,ho5⟩:∃ q,(mk1 D 2 (kyB o2)).2 = q:=⟨_,rfl⟩
 have hN5:=aLX D (k:=2) (by decide) (by decide) (p:=kyB o2) (by omega)
 have hvE:=iB hvD 2 (kyB o2)
 have hlE:=(nx D 2 (kyB o2)).2
 rw [hE,ho5] at hN5
 rw [hE] at hvE hlE
 have hH:mk1 E 2 (kyB o2) = (E,o5):=aLY (by decide) (by decide) (by omega) hN5
 obtain ⟨Q,hQ⟩:∃ Q,(mkT E (3,srt (kyB o1) (kyB o2))).1 = Q:=⟨_,rfl⟩
 obtain ⟨o6,ho6⟩:∃ q,(mkT E (3,srt (kyB o1) (kyB o2))).2 = q:=⟨_,rfl⟩
 have hvQ:=tG (x:=(3,srt (kyB o1) (kyB o2))) hvE
 have hlQ:=(aC2 E (3,srt (kyB o1) (kyB o2))).2
 rw [hQ] at hvQ hlQ
 obtain ⟨G,hG⟩:∃ G,agr Q Q.length (kyB o1) o = G:=⟨_,rfl⟩
 have hagr:∀ n,Q.length = n->agr Q n (kyB o1) o = G:=fun n h=>by subst h;exact hG
 have hk6:=zk o6
 have hk3:=zk o3
 have hk4:=zk o4
 have hk5:=zk o5
 have hkG:=zk G.2
 refine aF (Γ:=Γ) (fn:=Tryz.f3) rfl rfl rfl rfl ?_
 repeat refine sd ?_
 refine Call.intro fn7 [] rfl trivial rfl trivial rfl ?_
 rintro v M' rfl
 dsimp only [zt,zM,zE,ren,zz,zx,zy,aS,zG,zX,ev,evL,zV,zcT,zcF,act,zP,zO,Ent.zW]
 repeat (first | (refine zB.intro (fun _=>?_) (fun hn=>absurd rfl hn))|refine ky0 ?_|refine kn0 ?_|refine sd ?_)
 refine Call.intro xl [(1000,(1000,0,none)),(1001,(1001,0,none)),(1002,(1002,0,none))] rfl fc rfl fc rfl ?_
 rintro _ _ ⟨rfl,rfl⟩
 dsimp only [zt,zM,zE,ren,zz,zx,zy,aS,zG,zX,ev,evL,zV,zcT,zcF,act,zP,zO,Ent.zW]
 repeat refine sd ?_
 refine Call.intro aP1 [(1000,(2000,0,none)),(1001,(2001,0,none))] rfl fc rfl fc rfl ?_
 rintro _ _ ⟨rfl,rfl⟩
 dsimp only [zt,zM,zE,ren,zz,zx,zy,aS,zG,zX,ev,evL,zV,zcT,zcF,act,zP,zO,Ent.zW]
 repeat refine sd ?_
 refine aI.intro [[],[],[0,1],[],[],r_5,[],[],r_8,r_9] [0,1,3,4,6,7,2,5,8,9] (by kernel_rfl) ?_
 repeat (first | (refine zB.intro (fun h=>False.elim (by revert h;first|(simp [hP];done)|fail)) (fun _=>?_)) | (refine zB.intro (fun _=>?_) (fun h=>False.elim (by revert h;first|(simp [hP];done)|fail)))|refine gi ?_|refine gt ?_|refine sd ?_)
 have hF1:=xq [] 0 0 rfl (by omega) (Nat.le_refl _) jo a ha A o1 hA ho1
 unfold tbM at hF1
 refine Call.intro hF1 [(1000,(1000,0,none)),(1001,(1001,0,none)),(1002,(1002,0,none)),(1005,(305,0,none))] rfl fc rfl fc rfl ?_
 rintro v M' ⟨n1,c1,hn1,hc1,rfl,rfl⟩
 dsimp only [zt,zM,zE,ren,zz,zx,zy,aS,zG,zX,ev,evL,zV,zcT,zcF,act,zP,zO,Ent.zW]
 repeat (first | (refine zB.intro (fun h=>False.elim (by revert h;first|(simp [hP];done)|fail)) (fun _=>?_)) | (refine zB.intro (fun _=>?_) (fun h=>False.elim (by revert h;first|(simp [hP];done)|fail)))|refine gi ?_|refine gt ?_|refine sd ?_)
 have hF2:=xq A n1 c1 hn1 (by omega) hc1 hvA b hb B o2 hB ho2
 unfold tbM at hF2
 refine Call.intro hF2 [(1000,(1000,0,none)),(1001,(305,0,none)),(1002,(1002,0,none)),(1005,(306,0,none))] rfl fc rfl fc rfl ?_
 rintro v M' ⟨n2,c2,hn2,hc2,rfl,rfl⟩
 dsimp only [zt,zM,zE,ren,zz,zx,zy,aS,zG,zX,ev,evL,zV,zcT,zcF,act,zP,zO,Ent.zW]
 repeat (first | (refine zB.intro (fun h=>False.elim (by revert h;first|(simp [hP];done)|fail)) (fun _=>?_)) | (refine zB.intro (fun _=>?_) (fun h=>False.elim (by revert h;first|(simp [hP];done)|fail)))|refine gi ?_|refine gt ?_|refine sd ?_)
 refine aI.intro [[],[],[0,1],[],[],r_5,[],[],r_8,r_9] [0,1,3,4,6,7,2,5,8,9] (by kernel_rfl) ?_
 repeat (first | (refine zB.intro (fun h=>False.elim (by revert h;first|(simp [hP];done)|fail)) (fun _=>?_)) | (refine zB.intro (fun _=>?_) (fun h=>False.elim (by revert h;first|(simp [hP];done)|fail)))|refine gi ?_|refine gt ?_|refine sd ?_)
 have hR1:=tZ [] 0 0 rfl (by omega) (Nat.le_refl _) jo a ha A o1 hA ho1
 unfold rbM at hR1
 refine Call.intro hR1 [(1000,(2000,0,none)),(1001,(2001,0,none)),(1005,(405,0,none))] rfl fc rfl fc rfl ?_
 rintro v M' ⟨m1,d1,hm1,hd1,rfl,rfl⟩
 dsimp only [zt,zM,zE,ren,zz,zx,zy,aS,zG,zX,ev,evL,zV,zcT,zcF,act,zP,zO,Ent.zW]
 repeat (first | (refine zB.intro (fun h=>False.elim (by revert h;first|(simp [hP];done)|fail)) (fun _=>?_)) | (refine zB.intro (fun _=>?_) (fun h=>False.elim (by revert h;first|(simp [hP];done)|fail)))|refine gi ?_|refine gt ?_|refine sd ?_)
 have hR2:=tZ A m1 d1 hm1 (by omega) hd1 hvA b hb B o2 hB ho2
 unfold rbM at hR2
 refine Call.intro hR2 [(1000,(2000,0,none)),(1001,(405,0,none)),(1005,(406,0,none))] rfl fc rfl fc rfl ?_
 rintro v M' ⟨m2,d2,hm2,hd2,rfl,rfl⟩
 dsimp only [zt,zM,zE,ren,zz,zx,zy,aS,zG,zX,ev,evL,zV,zcT,zcF,act,zP,zO,Ent.zW]
 repeat (first | (refine zB.intro (fun h=>False.elim (by revert h;first|(simp [hP];done)|fail)) (fun _=>?_)) | (refine zB.intro (fun _=>?_) (fun h=>False.elim (by revert h;first|(simp [hP];done)|fail)))|refine gi ?_|refine gt ?_|refine sd ?_)
 refine aI.intro [[],[],[0,1],[0,1,2],r_4,r_4,r_6,r_7,r_8,r_9,r_9,fy,r_9,r_9,sj,uM,rM,uL,rL,rL,aOK,rL,rL,aRK,aOJ,aOI,aSL,aI3,aI3,aI2,aI3,aI3,aRJ,aU2,aSI] [0,1,2,3,4,5,6,7,8,9,10,12,13,11,14,15,16,17,18,19,21,22,20,23,24,25,26,27,28,30,31,29,32,33,34] (by kernel_rfl) ?_
 repeat (first | (refine zB.intro (fun h=>False.elim (by revert h;first|(simp [hP];done)|fail)) (fun _=>?_)) | (refine zB.intro (fun _=>?_) (fun h=>False.elim (by revert h;first|(simp [hP];done)|fail)))|refine gi ?_|refine gt ?_|refine sd ?_)
 have hF3:=ob B n2 c2 hn2 (by omega) hc2 hvB (kyB o1) hk1 C o3 hC ho3
 unfold tbM at hF3
 refine Call.intro hF3 [(1000,(1000,0,none)),(1001,(306,0,none)),(1002,(1002,0,none)),(1005,(307,0,none))] rfl fc rfl fc rfl ?_
 rintro v M' ⟨n3,c3,hn3,hc3,rfl,rfl⟩
 dsimp only [zt,zM,zE,ren,zz,zx,zy,aS,zG,zX,ev,evL,zV,zcT,zcF,act,zP,zO,Ent.zW]
 repeat (first | (refine zB.intro (fun h=>False.elim (by revert h;first|(simp [hP];done)|fail)) (fun _=>?_)) | (refine zB.intro (fun _=>?_) (fun h=>False.elim (by revert h;first|(simp [hP];done)|fail)))|refine gi ?_|refine gt ?_|refine sd ?_)
 have hR3:=lU B m2 d2 hm2 (by omega) hd2 hvB (kyB o1) hk1 C o3 hC ho3
 unfold rbM at hR3
 refine Call.intro hR3 [(1000,(2000,0,none)),(1001,(406,0,none)),(1005,(407,0,none))] rfl fc rfl fc rfl ?_
 rintro v M' ⟨m3,d3,hm3,hd3,rfl,rfl⟩
 dsimp only [zt,zM,zE,ren,zz,zx,zy,aS,zG,zX,ev,evL,zV,zcT,zcF,act,zP,zO,Ent.zW]
 repeat (first | (refine zB.intro (fun h=>False.elim (by revert h;first|(simp [hP];done)|fail)) (fun _=>?_)) | (refine zB.intro (fun _=>?_) (fun h=>False.elim (by revert h;first|(simp [hP];done)|fail)))|refine gi ?_|refine gt ?_|refine sd ?_)
 have hF4:=aD2 C n3 c3 hn3 (by omega) hc3 hvC (kyB o2) hk2 D o4 hD ho4
 unfold tbM at hF4
 refine Call.intro hF4 [(1000,(1000,0,none)),(1001,(307,0,none)),(1002,(1002,0,none)),(1005,(308,0,none))] rfl fc rfl fc rfl ?_
 rintro v M' ⟨n4,c4,hn4,hc4,rfl,rfl⟩
 dsimp only [zt,zM,zE,ren,zz,zx,zy,aS,zG,zX,ev,evL,zV,zcT,zcF,act,zP,zO,Ent.zW]
 repeat (first | (refine zB.intro (fun h=>False.elim (by revert h;first|(simp [hP];done)|fail)) (fun _=>?_)) | (refine zB.intro (fun _=>?_) (fun h=>False.elim (by revert h;first|(simp [hP];done)|fail)))|refine gi ?_|refine gt ?_|refine sd ?_)
 have hR4:=zb C m3 d3 hm3 (by omega) hd3 hvC (kyB o2) hk2 D o4 hD ho4
 unfold rbM at hR4
 refine Call.intro hR4 [(1000,(2000,0,none)),(1001,(407,0,none)),(1005,(408,0,none))] rfl fc rfl fc rfl ?_
 rintro v M' ⟨m4,d4,hm4,hd4,rfl,rfl⟩
 dsimp only [zt,zM,zE,ren,zz,zx,zy,aS,zG,zX,ev,evL,zV,zcT,zcF,act,zP,zO,Ent.zW]
 repeat (first | (refine zB.intro (fun h=>False.elim (by revert h;first|(simp [hP];done)|fail)) (fun _=>?_)) | (refine zB.intro (fun _=>?_) (fun h=>False.elim (by revert h;first|(simp [hP];done)|fail)))|refine gi ?_|refine gt ?_|refine sd ?_)
 have hF5:=ob D n4 c4 hn4 (by omega) hc4 hvD (kyB o2) hk2 E o5 hE ho5
 unfold tbM at hF5
 refine Call.intro hF5 [(1000,(1000,0,none)),(1001,(308,0,none)),(1002,(1002,0,none)),(1005,(309,0,none))] rfl fc rfl fc rfl ?_
 rintro v M' ⟨n5,c5,hn5,hc5,rfl,rfl⟩
 dsimp only [zt,zM,zE,ren,zz,zx,zy,aS,zG,zX,ev,evL,zV,zcT,zcF,act,zP,zO,Ent.zW]
 repeat (first | (refine zB.intro (fun h=>False.elim (by revert h;first|(simp [hP];done)|fail)) (fun _=>?_)) | (refine zB.intro (fun _=>?_) (fun h=>False.elim (by revert h;first|(simp [hP];done)|fail)))|refine gi ?_|refine gt ?_|refine sd ?_)
 have hR5:=lU D m4 d4 hm4 (by omega) hd4 hvD (kyB o2) hk2 E o5 hE ho5
 unfold rbM at hR5
 refine Call.intro hR5 [(1000,(2000,0,none)),(1001,(408,0,none)),(1005,(409,0,none))] rfl fc rfl fc rfl ?_
 rintro v M' ⟨m5,d5,hm5,hd5,rfl,rfl⟩
 dsimp only [zt,zM,zE,ren,zz,zx,zy,aS,zG,zX,ev,evL,zV,zcT,zcF,act,zP,zO,Ent.zW]
 repeat (first | (refine zB.intro (fun h=>False.elim (by revert h;first|(simp [hP];done)|fail)) (fun _=>?_)) | (refine zB.intro (fun _=>?_) (fun h=>False.elim (by revert h;first|(simp [hP];done)|fail)))|refine gi ?_|refine gt ?_|refine sd ?_)
 refine aI.intro [[],[],[],[],[2,3],r_5,r_6,r_7,r_7,[],[0,1,2,3,4,5,6,7,9],fy] [0,1,2,3,9,4,5,6,7,8,10,11] (by kernel_rfl) ?_
 repeat (first | (refine zB.intro (fun h=>False.elim (by revert h;first|(simp [hP];done)|fail)) (fun _=>?_)) | (refine zB.intro (fun _=>?_) (fun h=>False.elim (by revert h;first|(simp [hP];done)|fail)))|refine gi ?_|refine gt ?_|refine sd ?_)
 have hF6:=ob E n5 c5 hn5 (by omega) hc5 hvE (kyB o2) hk2 E o5 (by rw [hH]) (by rw [hH])
 unfold tbM at hF6
 refine Call.intro hF6 [(1000,(1000,0,none)),(1001,(309,0,none)),(1002,(1002,0,none)),(1005,(310,0,none))] rfl fc rfl fc rfl ?_
 rintro v M' ⟨n6,c6,hn6,hc6,rfl,rfl⟩
 dsimp only [zt,zM,zE,ren,zz,zx,zy,aS,zG,zX,ev,evL,zV,zcT,zcF,act,zP,zO,Ent.zW]
 repeat (first | (refine zB.intro (fun h=>False.elim (by revert h;first|(simp [hP];done)|fail)) (fun _=>?_)) | (refine zB.intro (fun _=>?_) (fun h=>False.elim (by revert h;first|(simp [hP];done)|fail)))|refine gi ?_|refine gt ?_|refine sd ?_)
 have hF7:=xr E n6 c6 hn6 (by omega) hc6 hvE (kyB o1) (kyB o5) hk1 hk5
 rw [aFL hn6 (by omega) hk2 hN5,hQ,ho6] at hF7
 unfold tbM at hF7
 refine Call.intro hF7 [(1000,(1000,0,none)),(1001,(310,0,none)),(1002,(1002,0,none)),(1005,(311,0,none))] rfl fc rfl fc rfl ?_
 rintro v M' ⟨n7,c7,hn7,hc7,rfl,rfl⟩
 dsimp only [zt,zM,zE,ren,zz,zx,zy,aS,zG,zX,ev,evL,zV,zcT,zcF,act,zP,zO,Ent.zW]
 repeat (first | (refine zB.intro (fun h=>False.elim (by revert h;first|(simp [hP];done)|fail)) (fun _=>?_)) | (refine zB.intro (fun _=>?_) (fun h=>False.elim (by revert h;first|(simp [hP];done)|fail)))|refine gi ?_|refine gt ?_|refine sd ?_)
 refine aI.intro [[],[],[],[],[2,3],r_5,r_6,r_7,r_7,[],[0,1,2,3,4,5,6,7,9],fy] [0,1,2,3,9,4,5,6,7,8,10,11] (by kernel_rfl) ?_
 repeat (first | (refine zB.intro (fun h=>False.elim (by revert h;first|(simp [hP];done)|fail)) (fun _=>?_)) | (refine zB.intro (fun _=>?_) (fun h=>False.elim (by revert h;first|(simp [hP];done)|fail)))|refine gi ?_|refine gt ?_|refine sd ?_)
 have hR6:=lU E m5 d5 hm5 (by omega) hd5 hvE (kyB o2) hk2 E o5 (by rw [hH]) (by rw [hH])
 unfold rbM at hR6
 refine Call.intro hR6 [(1000,(2000,0,none)),(1001,(409,0,none)),(1005,(410,0,none))] rfl fc rfl fc rfl ?_
 rintro v M' ⟨m6,d6,hm6,hd6,rfl,rfl⟩
 dsimp only [zt,zM,zE,ren,zz,zx,zy,aS,zG,zX,ev,evL,zV,zcT,zcF,act,zP,zO,Ent.zW]
 repeat (first | (refine zB.intro (fun h=>False.elim (by revert h;first|(simp [hP];done)|fail)) (fun _=>?_)) | (refine zB.intro (fun _=>?_) (fun h=>False.elim (by revert h;first|(simp [hP];done)|fail)))|refine gi ?_|refine gt ?_|refine sd ?_)
 have hR7:=ta E m6 d6 hm6 (by omega) hd6 hvE (kyB o1) (kyB o5) hk1 hk5
 rw [aFL hm6 (by omega) hk2 hN5,hQ,ho6] at hR7
 unfold rbM at hR7
 refine Call.intro hR7 [(1000,(2000,0,none)),(1001,(410,0,none)),(1005,(411,0,none))] rfl fc rfl fc rfl ?_
 rintro v M' ⟨m7,d7,hm7,hd7,rfl,rfl⟩
 dsimp only [zt,zM,zE,ren,zz,zx,zy,aS,zG,zX,ev,evL,zV,zcT,zcF,act,zP,zO,Ent.zW]
 repeat (first | (refine zB.intro (fun h=>False.elim (by revert h;first|(simp [hP];done)|fail)) (fun _=>?_)) | (refine zB.intro (fun _=>?_) (fun h=>False.elim (by revert h;first|(simp [hP];done)|fail)))|refine gi ?_|refine gt ?_|refine sd ?_)
 have hF8:=xr Q n7 c7 hn7 (by omega) hc7 hvQ (kyB o1) o hk1 ho
 rw [hagr n7 hn7] at hF8
 unfold tbM at hF8
 refine Call.intro hF8 [(1000,(1000,0,none)),(1001,(311,0,none)),(1002,(1002,0,none)),(1005,(312,0,none))] rfl fc rfl fc rfl ?_
 rintro v M' ⟨n8,c8,hn8,hc8,rfl,rfl⟩
 dsimp only [zt,zM,zE,ren,zz,zx,zy,aS,zG,zX,ev,evL,zV,zcT,zcF,act,zP,zO,Ent.zW]
 repeat (first | (refine zB.intro (fun h=>False.elim (by revert h;first|(simp [hP];done)|fail)) (fun _=>?_)) | (refine zB.intro (fun _=>?_) (fun h=>False.elim (by revert h;first|(simp [hP];done)|fail)))|refine gi ?_|refine gt ?_|refine sd ?_)
 have hR8:=ta Q m7 d7 hm7 (by omega) hd7 hvQ (kyB o1) o hk1 ho
 rw [hagr m7 hm7] at hR8
 unfold rbM at hR8
 refine Call.intro hR8 [(1000,(2000,0,none)),(1001,(411,0,none)),(1005,(412,0,none))] rfl fc rfl fc rfl ?_
 rintro v M' ⟨m8,d8,hm8,hd8,rfl,rfl⟩
 dsimp only [zt,zM,zE,ren,zz,zx,zy,aS,zG,zX,ev,evL,zV,zcT,zcF,act,zP,zO,Ent.zW]
 repeat (first | (refine zB.intro (fun h=>False.elim (by revert h;first|(simp [hP];done)|fail)) (fun _=>?_)) | (refine zB.intro (fun _=>?_) (fun h=>False.elim (by revert h;first|(simp [hP];done)|fail)))|refine gi ?_|refine gt ?_|refine sd ?_)
 refine Ret.intro .tt [] [] rfl ?_ rfl rfl ?_ rfl ?_ rfl
 ·exact fc
 ·repeat' first|exact trivial|refine zA.app ?_ ?_|refine zA.zd ?_ ?_|refine zA.cons ?_ ?_|exact fc|fail
  all_goals (simp [hP])
 ·exact fc
theorem suiteKeys_runs (svs:List SV) (h:aR0 [aDR,oM 32,oM 32,oM 32] svs):Sx.Fn Γ.P 3 svs [] (fun v _=>v = .tt):=by
 match svs,h with
 | [_,_,_,_],⟨⟨p,rfl⟩,⟨a,ha,rfl⟩,⟨b,hb,rfl⟩,⟨o,ho,rfl⟩,_⟩=>
  by_cases hp:p = true
  ·exact yV _ hp a b o ha hb ho
  ·exact yU _ hp a b o ha hb ho
end Go.Proofs.YtimbdhpchlakfaaGreat
