/- What the functions of the program compute. No condition. -/
import Derived.Test.YtimbdhpchlakfaaHwRa1ToRa1
set_option linter.unusedSimpArgs false
set_option linter.unusedVariables false
namespace Go.Proofs.Ytimbdhpchlakfaa
open Go Go.Sx
def agr (T:List Te) (N:Nat) (a pub:List UInt8):List Te × Nat:=
 match numP pub N 0 with
 | 0=>mk2 T 4 a pub
 | q + 1=>if (T.getD q te0).1 = 2∧(T.getD q te0).2.length = 1∧((T.getD q te0).2.getD 0 []).length = 32 then (if Op.bytesLess a ((T.getD q te0).2.getD 0 []) = true ∨ a = (T.getD q te0).2.getD 0 [] then mk2 T 3 a ((T.getD q te0).2.getD 0 []) else mk2 T 3 ((T.getD q te0).2.getD 0 []) a) else mk2 T 4 a pub
theorem agr_zero {T:List Te} {N:Nat} {a pub:List UInt8} (h:numP pub N 0 = 0):agr T N a pub = mk2 T 4 a pub:=by unfold agr;rw [h]
theorem agr_no {T:List Te} {N:Nat} {a pub:List UInt8} {q:Nat} (h:numP pub N 0 = q + 1) (hn:¬ ((T.getD q te0).1 = 2∧(T.getD q te0).2.length = 1∧((T.getD q te0).2.getD 0 []).length = 32)):agr T N a pub = mk2 T 4 a pub:=by unfold agr;rw [h];exact if_neg hn
theorem agr_le {T:List Te} {N:Nat} {a pub:List UInt8} {q:Nat} (h:numP pub N 0 = q + 1) (hn:(T.getD q te0).1 = 2∧(T.getD q te0).2.length = 1∧((T.getD q te0).2.getD 0 []).length = 32) (hl:Op.bytesLess a ((T.getD q te0).2.getD 0 []) = true ∨ a = (T.getD q te0).2.getD 0 []):agr T N a pub = mk2 T 3 a ((T.getD q te0).2.getD 0 []):=by unfold agr;rw [h];simp only;rw [if_pos hn,if_pos hl]
theorem agr_gt {T:List Te} {N:Nat} {a pub:List UInt8} {q:Nat} (h:numP pub N 0 = q + 1) (hn:(T.getD q te0).1 = 2∧(T.getD q te0).2.length = 1∧((T.getD q te0).2.getD 0 []).length = 32) (hl:¬ (Op.bytesLess a ((T.getD q te0).2.getD 0 []) = true ∨ a = (T.getD q te0).2.getD 0 [])):agr T N a pub = mk2 T 3 ((T.getD q te0).2.getD 0 []) a:=by unfold agr;rw [h];simp only;rw [if_pos hn,if_neg hl]
theorem fnMake2 (T:List Te) (N c:Nat) (hT:T.length = N) (hN:N ≤ 60000) (hNc:N ≤ c) (hTv:∀ x ∈ T,Valid x.1 x.2) (k:Int) (p q:List UInt8) (hp:p.length ≤ 4096) (hq:q.length ≤ 4096) :
  Sx.Fn Γ.P 18 [.ptr 1000 0 none,.i .i64 k,.slx 1003 0 0 2] (MT N c T 1001 2 [p,q])
  (fun v M=>∃ n' c',(mk2 T k p q).1.length = n'∧n' ≤ c'∧v = .tup [.a8 (kyB (mk2 T k p q).2),.bool ((mk2 T k p q).2 ≠ 0)]∧M = (1001,.dead) :: MT n' c' (mk2 T k p q).1 1005 2 [p,q]):=by
 rw [mk2_eq]
 refine fn18 T N c hT hN hNc hTv k [p,q] 2 rfl (by omega) (fun x hx=>?_)
 rcases List.mem_cons.1 hx with rfl | hx
 ·omega
 ·rw [List.mem_singleton.1 hx];omega
set_option maxRecDepth 100000 in
set_option maxHeartbeats 4000000 in
theorem fnAgreeX (T:List Te) (N c:Nat) (hT:T.length = N) (hN:N ≤ 60000) (hNc:N ≤ c) (hTv:∀ x ∈ T,Valid x.1 x.2) (a pub:List UInt8) (ha:a.length = 32) (hp:pub.length = 32) :
  Sx.Fn Γ.P 7 [.agg [(1,.ptr 1000 0 none)],.a8 a,.a8 pub] (tbM N c T 1001)
  (fun v M=>∃ n' c',(agr T N a pub).1.length = n'∧n' ≤ c'∧v = .tup [.a8 (kyB (agr T N a pub).2),.tt]∧M = (1001,.dead) :: tbM n' c' (agr T N a pub).1 1005):=by
 have hOf:=fn17 T N hT hN hTv pub hp
 unfold tbM
 refine fn_cut [6,11] (Γ:=Γ) (fn:=Try.f7) rfl rfl rfl rfl ?_
 repeat (refine sd ?_)
 refine Branch.intro (fun hc=>absurd hc (by simp)) (fun _=>?_)
 repeat (refine sd ?_)
 refine Call.intro hOf [(1000,(1000,0,none)),(1001,(1001,0,none)),(1002,(1002,0,none)),(1005,(305,0,none))] rfl ?_ rfl ?_ rfl ?_
 ·exact fc
 ·exact fc
 rintro v M' (⟨hz,rfl,rfl⟩ | ⟨q,L,k,cc,h1,h2,h3,h4,h5,rfl,rfl⟩)
 ·have h0:=agr_zero (T:=T) (a:=a) hz
  dsimp only [putT,afterM,newEnt,ren,renA,renS,renL,look,getM,getT,ev,evL,ofVal,cond_true,cond_false,Nat.beq_eq,act,isPar,ownPar,Ent.isOwn]
  repeat (first | (refine Branch.intro (fun h=>False.elim (by revert h;first | (simp ;done) | fail)) (fun _=>?_)) | (refine Branch.intro (fun _=>?_) (fun h=>False.elim (by revert h;first | (simp ;done) | fail))) | (refine sd ?_))
  have hM:=fnMake2 T N c hT hN hNc hTv 4 a pub (by omega) (by omega)
  have hne:=mk2_ne T (k:=4) (by decide) (by decide) (p:=a) (q:=pub) (by omega) (by omega)
  obtain ⟨R,hR⟩:∃ R,mk2 T 4 a pub = R:=⟨_,rfl⟩
  rw [hR] at hM hne h0
  unfold MT rwS at hM
  refine Cut.intro (σ:=Unit) (fun _=>True) (fun _=>([(3,.ptr 203 0 none),(4,.ptr 204 0 none),(5,.ptr 205 0 none),(6,.ptr 206 0 none)],[(203,.mem true 0 [(1,.ptr 1000 0 none)]),(204,.mem false 1 [(32,.a8 a)]),(205,.mem false 1 [(32,.a8 pub)]),(206,.mem true 0 [(32,.a8 (List.replicate 32 0))]),
   (1000,.mem true 0 [(1,.sl 1001 0 0 N c),(1,.mp 1002)]),(1001,.mem true (mulE (c - N) 3) [(N * 3,.arr N 3 (ttF T))]),(1002,.map (.si (mpL T)))])) () trivial (Le.ghost [.keep 4,.keep 5] [] [(203,(3,0,none)),(204,(4,0,none)),(205,(5,0,none)),(206,(6,0,none))] rfl ?_ rfl rfl ?_ rfl ?_ rfl) ?_
  ·exact fc
  ·exact fc
  ·exact fc
  rintro - -
  refine Draw.intro [[],[0],[],[],[2,3],[0,1,2,3,4],[0,1,2,3,4,5],[0,1,2,3,4,5,6],[0,1,2,3,4,5,6],[],[0,1,2,3,4,5,6,7,9],[0,1,2,3,4,5,6,7,8,9,10],[]] [0,1,2,3,4,9,5,6,7,8,10,11] (by kernel_rfl) ?_
  refine ⟨?_,?_⟩
  all_goals
   repeat (refine sd ?_)
   refine Call.name [(0,[]),(0,[]),(2001,[])] rfl fc (CallP.intro hM [(1000,(1000,0,none)),(1001,(1001,0,none)),(1002,(1002,0,none)),(1003,(2001,0,none)),(1005,(305,0,none))] rfl fc rfl ?_ rfl ?_)
   ·repeat' (first | (show AllP _;first | exact trivial | refine AllP.app ?_ ?_ | refine AllP.appd ?_ ?_ | refine AllP.cons ?_ ?_) | exact fd | fail)
    ·exact rwS_eq0 ha
    ·exact rwS_eq1 hp
   rintro v M' ⟨n',c',hn',hnc',rfl,rfl⟩
   have hkl:=kyB_length (R).2
   dsimp only [putT,afterM,newEnt,ren,renA,renS,renL,look,getM,getT,ev,evL,ofVal,cond_true,cond_false,Nat.beq_eq,act,isPar,ownPar,Ent.isOwn]
   repeat (refine sd ?_)
   refine Ret.intro (.tup [.a8 (kyB (R).2),.tt]) ((1001,.dead) :: tbM n' c' (R).1 1005) [(1005,(305,0,none))] rfl ?_ (by rw [h0];exact ⟨n',c',hn',hnc',rfl,rfl⟩) rfl ?_ rfl ?_ rfl
   ·exact fc
   ·exact fc
   ·repeat' (first | (show AllP _;first | exact trivial | refine AllP.app ?_ ?_ | refine AllP.appd ?_ ?_ | refine AllP.cons ?_ ?_) | exact fd | fail)
    all_goals exact ⟨fun _=>trivial,fun _=>hne⟩
 obtain ⟨x,hx⟩:∃ x,T.getD q te0 = x:=⟨_,rfl⟩
 have hno:=agr_no (T:=T) (a:=a) h1
 have hle:=agr_le (T:=T) (a:=a) h1
 have hgt:=agr_gt (T:=T) (a:=a) h1
 rw [hx] at h3 hno hle hgt ⊢
 obtain rfl:x.2 = L:=h3
 clear hOf
 dsimp only [putT,afterM,newEnt,ren,renA,renS,renL,look,getM,getT,ev,evL,ofVal,cond_true,cond_false,Nat.beq_eq,act,isPar,ownPar,Ent.isOwn]
 repeat (refine sd ?_)
 by_cases c1:¬ x.1 = 2
 ·have h0:=hno (fun h=>c1 h.1)
  repeat (first | (refine Branch.intro (fun h=>False.elim (by revert h;first | (simp [c1];done) | fail)) (fun _=>?_)) | (refine Branch.intro (fun _=>?_) (fun h=>False.elim (by revert h;first | (simp [c1];done) | fail))) | (refine sd ?_))
  have hM:=fnMake2 T N c hT hN hNc hTv 4 a pub (by omega) (by omega)
  have hne:=mk2_ne T (k:=4) (by decide) (by decide) (p:=a) (q:=pub) (by omega) (by omega)
  obtain ⟨R,hR⟩:∃ R,mk2 T 4 a pub = R:=⟨_,rfl⟩
  rw [hR] at hM hne h0
  unfold MT rwS at hM
  refine Cut.intro (σ:=Unit) (fun _=>True) (fun _=>([(3,.ptr 203 0 none),(4,.ptr 204 0 none),(5,.ptr 205 0 none),(6,.ptr 206 0 none)],[(203,.mem true 0 [(1,.ptr 1000 0 none)]),(204,.mem false 1 [(32,.a8 a)]),(205,.mem false 1 [(32,.a8 pub)]),(206,.mem true 0 [(32,.a8 (List.replicate 32 0))]),
   (1000,.mem true 0 [(1,.sl 1001 0 0 N c),(1,.mp 1002)]),(1001,.mem true (mulE (c - N) 3) [(N * 3,.arr N 3 (ttF T))]),(1002,.map (.si (mpL T)))])) () trivial (Le.ghost [.keep 4,.keep 5] [] [(203,(3,0,none)),(204,(4,0,none)),(205,(5,0,none)),(206,(6,0,none))] rfl ?_ rfl rfl ?_ rfl ?_ rfl) ?_
  ·exact fc
  ·exact fc
  ·exact fc
  rintro - -
  refine Draw.intro [[],[0],[],[],[2,3],[0,1,2,3,4],[0,1,2,3,4,5],[0,1,2,3,4,5,6],[0,1,2,3,4,5,6],[],[0,1,2,3,4,5,6,7,9],[0,1,2,3,4,5,6,7,8,9,10],[]] [0,1,2,3,4,9,5,6,7,8,10,11] (by kernel_rfl) ?_
  refine ⟨?_,?_⟩
  all_goals
   repeat (refine sd ?_)
   refine Call.name [(0,[]),(0,[]),(2001,[])] rfl fc (CallP.intro hM [(1000,(1000,0,none)),(1001,(1001,0,none)),(1002,(1002,0,none)),(1003,(2001,0,none)),(1005,(305,0,none))] rfl fc rfl ?_ rfl ?_)
   ·repeat' (first | (show AllP _;first | exact trivial | refine AllP.app ?_ ?_ | refine AllP.appd ?_ ?_ | refine AllP.cons ?_ ?_) | exact fd | fail)
    ·exact rwS_eq0 ha
    ·exact rwS_eq1 hp
   rintro v M' ⟨n',c',hn',hnc',rfl,rfl⟩
   have hkl:=kyB_length (R).2
   dsimp only [putT,afterM,newEnt,ren,renA,renS,renL,look,getM,getT,ev,evL,ofVal,cond_true,cond_false,Nat.beq_eq,act,isPar,ownPar,Ent.isOwn]
   repeat (refine sd ?_)
   refine Ret.intro (.tup [.a8 (kyB (R).2),.tt]) ((1001,.dead) :: tbM n' c' (R).1 1005) [(1005,(305,0,none))] rfl ?_ (by rw [h0];exact ⟨n',c',hn',hnc',rfl,rfl⟩) rfl ?_ rfl ?_ rfl
   ·exact fc
   ·exact fc
   ·repeat' (first | (show AllP _;first | exact trivial | refine AllP.app ?_ ?_ | refine AllP.appd ?_ ?_ | refine AllP.cons ?_ ?_) | exact fd | fail)
    all_goals exact ⟨fun _=>trivial,fun _=>hne⟩
 have c1:x.1 = 2:=Classical.not_not.1 c1
 by_cases c2:¬ k = 1
 ·have h0:=hno (fun h=>c2 (by rw [← h4];exact h.2.1))
  have c2':¬ ((k:Nat):Int) = 1:=by omega
  repeat (first | (refine Branch.intro (fun h=>False.elim (by revert h;first | (simp [c1,c2,c2'];done) | fail)) (fun _=>?_)) | (refine Branch.intro (fun _=>?_) (fun h=>False.elim (by revert h;first | (simp [c1,c2,c2'];done) | fail))) | (refine sd ?_))
  have hM:=fnMake2 T N c hT hN hNc hTv 4 a pub (by omega) (by omega)
  have hne:=mk2_ne T (k:=4) (by decide) (by decide) (p:=a) (q:=pub) (by omega) (by omega)
  obtain ⟨R,hR⟩:∃ R,mk2 T 4 a pub = R:=⟨_,rfl⟩
  rw [hR] at hM hne h0
  unfold MT rwS at hM
  refine Cut.intro (σ:=Unit) (fun _=>True) (fun _=>([(3,.ptr 203 0 none),(4,.ptr 204 0 none),(5,.ptr 205 0 none),(6,.ptr 206 0 none)],[(203,.mem true 0 [(1,.ptr 1000 0 none)]),(204,.mem false 1 [(32,.a8 a)]),(205,.mem false 1 [(32,.a8 pub)]),(206,.mem true 0 [(32,.a8 (List.replicate 32 0))]),
   (1000,.mem true 0 [(1,.sl 1001 0 0 N c),(1,.mp 1002)]),(1001,.mem true (mulE (c - N) 3) [(N * 3,.arr N 3 (ttF T))]),(1002,.map (.si (mpL T)))])) () trivial (Le.ghost [.keep 4,.keep 5] [] [(203,(3,0,none)),(204,(4,0,none)),(205,(5,0,none)),(206,(6,0,none))] rfl ?_ rfl rfl ?_ rfl ?_ rfl) ?_
  ·exact fc
  ·exact fc
  ·exact fc
  rintro - -
  refine Draw.intro [[],[0],[],[],[2,3],[0,1,2,3,4],[0,1,2,3,4,5],[0,1,2,3,4,5,6],[0,1,2,3,4,5,6],[],[0,1,2,3,4,5,6,7,9],[0,1,2,3,4,5,6,7,8,9,10],[]] [0,1,2,3,4,9,5,6,7,8,10,11] (by kernel_rfl) ?_
  refine ⟨?_,?_⟩
  all_goals
   repeat (refine sd ?_)
   refine Call.name [(0,[]),(0,[]),(2001,[])] rfl fc (CallP.intro hM [(1000,(1000,0,none)),(1001,(1001,0,none)),(1002,(1002,0,none)),(1003,(2001,0,none)),(1005,(305,0,none))] rfl fc rfl ?_ rfl ?_)
   ·repeat' (first | (show AllP _;first | exact trivial | refine AllP.app ?_ ?_ | refine AllP.appd ?_ ?_ | refine AllP.cons ?_ ?_) | exact fd | fail)
    ·exact rwS_eq0 ha
    ·exact rwS_eq1 hp
   rintro v M' ⟨n',c',hn',hnc',rfl,rfl⟩
   have hkl:=kyB_length (R).2
   dsimp only [putT,afterM,newEnt,ren,renA,renS,renL,look,getM,getT,ev,evL,ofVal,cond_true,cond_false,Nat.beq_eq,act,isPar,ownPar,Ent.isOwn]
   repeat (refine sd ?_)
   refine Ret.intro (.tup [.a8 (kyB (R).2),.tt]) ((1001,.dead) :: tbM n' c' (R).1 1005) [(1005,(305,0,none))] rfl ?_ (by rw [h0];exact ⟨n',c',hn',hnc',rfl,rfl⟩) rfl ?_ rfl ?_ rfl
   ·exact fc
   ·exact fc
   ·repeat' (first | (show AllP _;first | exact trivial | refine AllP.app ?_ ?_ | refine AllP.appd ?_ ?_ | refine AllP.cons ?_ ?_) | exact fd | fail)
    all_goals exact ⟨fun _=>trivial,fun _=>hne⟩
 have c2:k = 1:=Classical.not_not.1 c2
 subst c2
 obtain ⟨b,hab⟩:∃ b,x.2 = [b]:=by
  match hL:x.2,h4 with
  | [b],_=>exact ⟨b,rfl⟩
 rw [hab] at hno hle hgt ⊢
 have e0:([b]:List (List UInt8)).getD 0 [] = b:=rfl
 rw [e0] at hno hle hgt
 have f0:([b]:List (List UInt8))[addQ (addI none 0) (Ix.lit 0).val]?.getD [] = b:=rfl
 by_cases c3:¬ b.length = 32
 ·have h0:=hno (fun h=>c3 h.2.2)
  have c3':¬ ((b.length:Nat):Int) = 32:=by omega
  repeat (first | (refine Branch.intro (fun h=>False.elim (by revert h;first | (simp [c1,c3,c3',f0];done) | fail)) (fun _=>?_)) | (refine Branch.intro (fun _=>?_) (fun h=>False.elim (by revert h;first | (simp [c1,c3,c3',f0];done) | fail))) | (refine sd ?_))
  have hM:=fnMake2 T N c hT hN hNc hTv 4 a pub (by omega) (by omega)
  have hne:=mk2_ne T (k:=4) (by decide) (by decide) (p:=a) (q:=pub) (by omega) (by omega)
  obtain ⟨R,hR⟩:∃ R,mk2 T 4 a pub = R:=⟨_,rfl⟩
  rw [hR] at hM hne h0
  unfold MT rwS at hM
  refine Cut.intro (σ:=Unit) (fun _=>True) (fun _=>([(3,.ptr 203 0 none),(4,.ptr 204 0 none),(5,.ptr 205 0 none),(6,.ptr 206 0 none)],[(203,.mem true 0 [(1,.ptr 1000 0 none)]),(204,.mem false 1 [(32,.a8 a)]),(205,.mem false 1 [(32,.a8 pub)]),(206,.mem true 0 [(32,.a8 (List.replicate 32 0))]),
   (1000,.mem true 0 [(1,.sl 1001 0 0 N c),(1,.mp 1002)]),(1001,.mem true (mulE (c - N) 3) [(N * 3,.arr N 3 (ttF T))]),(1002,.map (.si (mpL T)))])) () trivial (Le.ghost [.keep 4,.keep 5] [] [(203,(3,0,none)),(204,(4,0,none)),(205,(5,0,none)),(206,(6,0,none))] rfl ?_ rfl rfl ?_ rfl ?_ rfl) ?_
  ·exact fc
  ·exact fc
  ·exact fc
  rintro - -
  refine Draw.intro [[],[0],[],[],[2,3],[0,1,2,3,4],[0,1,2,3,4,5],[0,1,2,3,4,5,6],[0,1,2,3,4,5,6],[],[0,1,2,3,4,5,6,7,9],[0,1,2,3,4,5,6,7,8,9,10],[]] [0,1,2,3,4,9,5,6,7,8,10,11] (by kernel_rfl) ?_
  refine ⟨?_,?_⟩
  all_goals
   repeat (refine sd ?_)
   refine Call.name [(0,[]),(0,[]),(2001,[])] rfl fc (CallP.intro hM [(1000,(1000,0,none)),(1001,(1001,0,none)),(1002,(1002,0,none)),(1003,(2001,0,none)),(1005,(305,0,none))] rfl fc rfl ?_ rfl ?_)
   ·repeat' (first | (show AllP _;first | exact trivial | refine AllP.app ?_ ?_ | refine AllP.appd ?_ ?_ | refine AllP.cons ?_ ?_) | exact fd | fail)
    ·exact rwS_eq0 ha
    ·exact rwS_eq1 hp
   rintro v M' ⟨n',c',hn',hnc',rfl,rfl⟩
   have hkl:=kyB_length (R).2
   dsimp only [putT,afterM,newEnt,ren,renA,renS,renL,look,getM,getT,ev,evL,ofVal,cond_true,cond_false,Nat.beq_eq,act,isPar,ownPar,Ent.isOwn]
   repeat (refine sd ?_)
   refine Ret.intro (.tup [.a8 (kyB (R).2),.tt]) ((1001,.dead) :: tbM n' c' (R).1 1005) [(1005,(305,0,none))] rfl ?_ (by rw [h0];exact ⟨n',c',hn',hnc',rfl,rfl⟩) rfl ?_ rfl ?_ rfl
   ·exact fc
   ·exact fc
   ·repeat' (first | (show AllP _;first | exact trivial | refine AllP.app ?_ ?_ | refine AllP.appd ?_ ?_ | refine AllP.cons ?_ ?_) | exact fd | fail)
    all_goals exact ⟨fun _=>trivial,fun _=>hne⟩
 have c3:b.length = 32:=Classical.not_not.1 c3
 have c3':((b.length:Nat):Int) = 32:=by omega
 repeat (first | (refine Branch.intro (fun h=>False.elim (by revert h;first | (simp [c1,c3,c3',f0];done) | fail)) (fun _=>?_)) | (refine Branch.intro (fun _=>?_) (fun h=>False.elim (by revert h;first | (simp [c1,c3,c3',f0];done) | fail))) | (refine sd ?_))
 have eT:List.take 32 a = a:=List.take_of_length_le (by omega)
 refine Draw.intro [[],[],[1],[1,2],[0],[0,1,2,3,4]] [0,1,2,3,4,5] (by kernel_rfl) ?_
 repeat (refine sd ?_)
 have eA:List.take 32 (List.drop ((none:Option Nat).getD 0) a) = a:=by rw [Option.getD_none,List.drop_zero,eT]
 have eB:List.take b.length (List.drop 0 b) = b:=by rw [List.drop_zero,List.take_length]
 have hQ:(Op.bytesLess (List.take 32 (List.drop ((none:Option Nat).getD 0) a)) (List.take b.length (List.drop 0 b)) = true ∨ List.take 32 (List.drop ((none:Option Nat).getD 0) a) = List.take b.length (List.drop 0 b)) ↔ (Op.bytesLess a b = true ∨ a = b):=by rw [eA,eB]
 by_cases hl:Op.bytesLess a b = true ∨ a = b
 ·have h0:=hle ⟨c1,rfl,c3⟩ hl
  refine Branch.intro (fun h=>absurd (hQ.2 hl) h) (fun _=>?_)
  repeat (refine sd ?_)
  have hM:=fnMake2 T N c hT hN hNc hTv 3 a b (by omega) (by omega)
  have hne:=mk2_ne T (k:=3) (by decide) (by decide) (p:=a) (q:=b) (by omega) (by omega)
  obtain ⟨R,hR⟩:∃ R,mk2 T 3 a b = R:=⟨_,rfl⟩
  rw [hR] at hM hne h0
  unfold MT rwS at hM
  refine Cut.intro (σ:=Unit) (fun _=>True) (fun _=>([(3,.ptr 203 0 none),(6,.ptr 206 0 none),(14,.isl 0 32 1 [(32,.a8 a)]),(15,.isl 0 32 1 [(32,.a8 b)])],[(203,.mem true 0 [(1,.ptr 1000 0 none)]),(206,.mem true 0 [(32,.a8 (List.replicate 32 0))]),
   (1000,.mem true 0 [(1,.sl 1001 0 0 N c),(1,.mp 1002)]),(1001,.mem true (mulE (c - N) 3) [(N * 3,.arr N 3 (ttF T))]),(1002,.map (.si (mpL T)))])) () trivial (Le.ghost [.keep 4] [(14,0)] [(203,(3,0,none)),(206,(6,0,none))] rfl ?_ rfl rfl ?_ rfl ?_ rfl) ?_
  ·exact fc
  ·repeat' (first | (show AllP _;first | exact trivial | refine AllP.app ?_ ?_ | refine AllP.appd ?_ ?_ | refine AllP.cons ?_ ?_) | exact fd | fail)
   all_goals first | exact c3.symm | (show 32 = b.length * 1;omega)
  ·exact fc
  rintro - -
  repeat (refine sd ?_)
  refine Call.name [(0,[]),(0,[]),(2001,[])] rfl fc (CallP.intro hM [(1000,(1000,0,none)),(1001,(1001,0,none)),(1002,(1002,0,none)),(1003,(2001,0,none)),(1005,(305,0,none))] rfl fc rfl ?_ rfl ?_)
  ·repeat' (first | (show AllP _;first | exact trivial | refine AllP.app ?_ ?_ | refine AllP.appd ?_ ?_ | refine AllP.cons ?_ ?_) | exact fd | fail)
   ·exact rwS_eq0 (by assumption)
   ·exact rwS_eq1 (by assumption)
  rintro v M' ⟨n',c',hn',hnc',rfl,rfl⟩
  have hkl:=kyB_length (R).2
  dsimp only [putT,afterM,newEnt,ren,renA,renS,renL,look,getM,getT,ev,evL,ofVal,cond_true,cond_false,Nat.beq_eq,act,isPar,ownPar,Ent.isOwn]
  repeat (refine sd ?_)
  refine Ret.intro (.tup [.a8 (kyB (R).2),.tt]) ((1001,.dead) :: tbM n' c' (R).1 1005) [(1005,(305,0,none))] rfl ?_ (by rw [h0];exact ⟨n',c',hn',hnc',rfl,rfl⟩) rfl ?_ rfl ?_ rfl
  ·exact fc
  ·exact fc
  ·repeat' (first | (show AllP _;first | exact trivial | refine AllP.app ?_ ?_ | refine AllP.appd ?_ ?_ | refine AllP.cons ?_ ?_) | exact fd | fail)
   all_goals exact ⟨fun _=>trivial,fun _=>hne⟩
 ·have h0:=hgt ⟨c1,rfl,c3⟩ hl
  refine Branch.intro (fun _=>?_) (fun h=>absurd (fun g=>hl (hQ.1 g)) h)
  repeat (refine sd ?_)
  have hM:=fnMake2 T N c hT hN hNc hTv 3 b a (by omega) (by omega)
  have hne:=mk2_ne T (k:=3) (by decide) (by decide) (p:=b) (q:=a) (by omega) (by omega)
  obtain ⟨R,hR⟩:∃ R,mk2 T 3 b a = R:=⟨_,rfl⟩
  rw [hR] at hM hne h0
  unfold MT rwS at hM
  refine Cut.intro (σ:=Unit) (fun _=>True) (fun _=>([(3,.ptr 203 0 none),(6,.ptr 206 0 none),(14,.isl 0 32 1 [(32,.a8 b)]),(15,.isl 0 32 1 [(32,.a8 a)])],[(203,.mem true 0 [(1,.ptr 1000 0 none)]),(206,.mem true 0 [(32,.a8 (List.replicate 32 0))]),
   (1000,.mem true 0 [(1,.sl 1001 0 0 N c),(1,.mp 1002)]),(1001,.mem true (mulE (c - N) 3) [(N * 3,.arr N 3 (ttF T))]),(1002,.map (.si (mpL T)))])) () trivial (Le.ghost [.keep 4] [(15,0)] [(203,(3,0,none)),(206,(6,0,none))] rfl ?_ rfl rfl ?_ rfl ?_ rfl) ?_
  ·exact fc
  ·repeat' (first | (show AllP _;first | exact trivial | refine AllP.app ?_ ?_ | refine AllP.appd ?_ ?_ | refine AllP.cons ?_ ?_) | exact fd | fail)
   all_goals first | exact c3.symm | (show 32 = b.length * 1;omega)
  ·exact fc
  rintro - -
  repeat (refine sd ?_)
  refine Call.name [(0,[]),(0,[]),(2001,[])] rfl fc (CallP.intro hM [(1000,(1000,0,none)),(1001,(1001,0,none)),(1002,(1002,0,none)),(1003,(2001,0,none)),(1005,(305,0,none))] rfl fc rfl ?_ rfl ?_)
  ·repeat' (first | (show AllP _;first | exact trivial | refine AllP.app ?_ ?_ | refine AllP.appd ?_ ?_ | refine AllP.cons ?_ ?_) | exact fd | fail)
   ·exact rwS_eq0 (by assumption)
   ·exact rwS_eq1 (by assumption)
  rintro v M' ⟨n',c',hn',hnc',rfl,rfl⟩
  have hkl:=kyB_length (R).2
  dsimp only [putT,afterM,newEnt,ren,renA,renS,renL,look,getM,getT,ev,evL,ofVal,cond_true,cond_false,Nat.beq_eq,act,isPar,ownPar,Ent.isOwn]
  repeat (refine sd ?_)
  refine Ret.intro (.tup [.a8 (kyB (R).2),.tt]) ((1001,.dead) :: tbM n' c' (R).1 1005) [(1005,(305,0,none))] rfl ?_ (by rw [h0];exact ⟨n',c',hn',hnc',rfl,rfl⟩) rfl ?_ rfl ?_ rfl
  ·exact fc
  ·exact fc
  ·repeat' (first | (show AllP _;first | exact trivial | refine AllP.app ?_ ?_ | refine AllP.appd ?_ ?_ | refine AllP.cons ?_ ?_) | exact fd | fail)
   all_goals exact ⟨fun _=>trivial,fun _=>hne⟩
end Go.Proofs.Ytimbdhpchlakfaa
