/- Walks. -/
import Derived.Test.YtimbdhpchlakfaaGreatHwTm6ToRa1
import Derived.Test.YtimbdhpchlakfaaGreatHwTabToCu8
import Derived.Test.YtimbdhpchlakfaaGreatHx7
import Derived.Test.YtimbdhpchlakfaaGreatHwFe5ToTm5
set_option linter.unusedSimpArgs false
set_option linter.unusedVariables false
set_option maxHeartbeats 4000000
open List (replicate take drop length_set)
open UInt8 (ofNat xor_zero toNat_ofNat' ofInt toNat_xor ofNat_toNat toNat xor_self)
open Nat (zero_le beq)
set_option maxRecDepth 100000
namespace Go.Proofs.YtimbdhpchlakfaaGreat
open Go Go.Sx
def agr (T:List Te) (N:Nat) (a pub:List UInt8):List Te × Nat:=
 match du pub N 0 with
 | 0=>mk2 T 4 a pub
 | q + 1=>if (T.getD q te0).1 = 2/\(T.getD q te0).2.length = 1/\((T.getD q te0).2.getD 0 []).length = 32 then (if Op.bytesLess a ((T.getD q te0).2.getD 0 []) = true \/ a = (T.getD q te0).2.getD 0 [] then mk2 T 3 a ((T.getD q te0).2.getD 0 []) else mk2 T 3 ((T.getD q te0).2.getD 0 []) a) else mk2 T 4 a pub
theorem yJ {T:List Te} {N:Nat} {a pub:List UInt8} (h:du pub N 0 = 0):agr T N a pub = mk2 T 4 a pub:=by unfold agr;rw [h]
theorem aKH {T:List Te} {N:Nat} {a pub:List UInt8} {q:Nat} (h:du pub N 0 = q + 1) (hn:¬ ((T.getD q te0).1 = 2/\(T.getD q te0).2.length = 1/\((T.getD q te0).2.getD 0 []).length = 32)):agr T N a pub = mk2 T 4 a pub:=by unfold agr;rw [h];exact if_neg hn
theorem aFM {T:List Te} {N:Nat} {a pub:List UInt8} {q:Nat} (h:du pub N 0 = q + 1) (hn:(T.getD q te0).1 = 2/\(T.getD q te0).2.length = 1/\((T.getD q te0).2.getD 0 []).length = 32) (hl:Op.bytesLess a ((T.getD q te0).2.getD 0 []) = true \/ a = (T.getD q te0).2.getD 0 []):agr T N a pub = mk2 T 3 a ((T.getD q te0).2.getD 0 []):=by unfold agr;rw [h];simp only;rw [if_pos hn,if_pos hl]
theorem aFN {T:List Te} {N:Nat} {a pub:List UInt8} {q:Nat} (h:du pub N 0 = q + 1) (hn:(T.getD q te0).1 = 2/\(T.getD q te0).2.length = 1/\((T.getD q te0).2.getD 0 []).length = 32) (hl:¬ (Op.bytesLess a ((T.getD q te0).2.getD 0 []) = true \/ a = (T.getD q te0).2.getD 0 [])):agr T N a pub = mk2 T 3 ((T.getD q te0).2.getD 0 []) a:=by unfold agr;rw [h];simp only;rw [if_pos hn,if_neg hl]
theorem lV (T:List Te) (N c:Nat) (hT:T.length = N) (hN:N <= 60000) (hNc:N <= c) (hTv:∀ x ∈ T,ak x.1 x.2) (k:Int) (p q:List UInt8) (hp:p.length <= 4096) (hq:q.length <= 4096) :
  Sx.Fn Γ.P 41 [.ptr 1000 0 none,.i .i64 k,.slx 1003 0 0 2] (MT N c T 1001 2 [p,q])
  (fun v M=>∃ n' c',(mk2 T k p q).1.length = n'/\n' <= c'/\v = .tup [.a8 (kyB (mk2 T k p q).2),.bool ((mk2 T k p q).2 ≠ 0)]/\M = (1001,.dead) :: MT n' c' (mk2 T k p q).1 1005 2 [p,q]):=by
 rw [tH]
 refine aTR T N c hT hN hNc hTv k [p,q] 2 rfl (by omega) (fun x hx=>?_)
 rcases List.mem_cons.1 hx with rfl | hx
 ·omega
 ·rw [List.mem_singleton.1 hx];omega
theorem xr (T:List Te) (N c:Nat) (hT:T.length = N) (hN:N <= 60000) (hNc:N <= c) (hTv:∀ x ∈ T,ak x.1 x.2) (a pub:List UInt8) (ha:a.length = 32) (hp:pub.length = 32) :
  Sx.Fn Γ.P 16 [.agg [(1,.ptr 1000 0 none)],.a8 a,.a8 pub] (tbM N c T 1001)
  (fun v M=>∃ n' c',(agr T N a pub).1.length = n'/\n' <= c'/\v = .tup [.a8 (kyB (agr T N a pub).2),.tt]/\M = (1001,.dead) :: tbM n' c' (agr T N a pub).1 1005):=by
 have hOf:=aVF T N hT hN hTv pub hp
 unfold tbM
 refine ci [6,11] (Γ:=Γ) (fn:=Tryz.f16) rfl rfl rfl rfl ?_
 repeat refine sd ?_
 refine zB.intro (fun hc=>absurd hc (by simp)) (fun _=>?_)
 repeat refine sd ?_
 refine Call.intro hOf [(1000,(1000,0,none)),(1001,(1001,0,none)),(1002,(1002,0,none)),(1005,(305,0,none))] rfl fc rfl fc rfl ?_
 rintro v M' (⟨hz,rfl,rfl⟩ | ⟨q,L,k,cc,h1,h2,h3,h4,h5,rfl,rfl⟩)
 ·have h0:=yJ (T:=T) (a:=a) hz
  dsimp only [zt,zM,zE,ren,zz,zx,zy,aS,zG,zX,ev,evL,zV,zcT,zcF,act,zP,zO,Ent.zW]
  repeat (first | (refine zB.intro (fun h=>False.elim (by revert h;first | (simp ;done) | fail)) (fun _=>?_)) | (refine zB.intro (fun _=>?_) (fun h=>False.elim (by revert h;first | (simp ;done) | fail)))|refine sd ?_)
  have hM:=lV T N c hT hN hNc hTv 4 a pub (by omega) (by omega)
  have hne:=gb T (k:=4) (by decide) (by decide) (p:=a) (q:=pub) (by omega) (by omega)
  obtain ⟨R,hR⟩:∃ R,mk2 T 4 a pub = R:=⟨_,rfl⟩
  rw [hR] at hM hne h0
  unfold MT rwS at hM
  refine Cut.intro (σ:=Unit) (fun _=>True) (fun _=>([(3,.ptr 203 0 none),(4,.ptr 204 0 none),(5,.ptr 205 0 none),(6,.ptr 206 0 none)],[(203,.mem true 0 [(1,.ptr 1000 0 none)]),(204,.mem false 1 [(32,.a8 a)]),(205,.mem false 1 [(32,.a8 pub)]),(206,.mem true 0 [(32,.a8 (replicate 32 0))]),
   (1000,.mem true 0 [(1,.sl 1001 0 0 N c),(1,.mp 1002)]),(1001,.mem true (zmE (c - N) 3) [(N * 3,.arr N 3 (ttF T))]),(1002,.map (.si (mpL T)))])) () trivial (Le.ghost [.keep 4,.keep 5] [] [(203,(3,0,none)),(204,(4,0,none)),(205,(5,0,none)),(206,(6,0,none))] rfl fc rfl rfl fc rfl fc rfl) ?_
  rintro - -
  refine aI.intro [[],[0],[],[],[2,3],r_5,r_6,r_7,r_7,[],[0,1,2,3,4,5,6,7,9],fy,[]] [0,1,2,3,4,9,5,6,7,8,10,11] (by kernel_rfl) ?_
  refine ⟨?_,?_⟩
  all_goals
   repeat refine sd ?_
   refine Call.name [(0,[]),(0,[]),(2001,[])] rfl fc (cz.intro hM [(1000,(1000,0,none)),(1001,(1001,0,none)),(1002,(1002,0,none)),(1003,(2001,0,none)),(1005,(305,0,none))] rfl fc rfl ?_ rfl ?_)
   ·repeat' first|exact trivial|refine zA.app ?_ ?_|refine zA.zd ?_ ?_|refine zA.cons ?_ ?_|exact fc|fail
    ·exact dH ha
    ·exact dG hp
   rintro v M' ⟨n',c',hn',hnc',rfl,rfl⟩
   have hkl:=zk (R).2
   dsimp only [zt,zM,zE,ren,zz,zx,zy,aS,zG,zX,ev,evL,zV,zcT,zcF,act,zP,zO,Ent.zW]
   repeat refine sd ?_
   refine Ret.intro (.tup [.a8 (kyB (R).2),.tt]) ((1001,.dead) :: tbM n' c' (R).1 1005) [(1005,(305,0,none))] rfl ?_ (by rw [h0];exact ⟨n',c',hn',hnc',rfl,rfl⟩) rfl ?_ rfl ?_ rfl
   ·exact fc
   ·exact fc
   ·repeat' first|exact trivial|refine zA.app ?_ ?_|refine zA.zd ?_ ?_|refine zA.cons ?_ ?_|exact fc|fail
    all_goals exact ⟨fun _=>trivial,fun _=>hne⟩
 obtain ⟨x,hx⟩:∃ x,T.getD q te0 = x:=⟨_,rfl⟩
 have hno:=aKH (T:=T) (a:=a) h1
 have hle:=aFM (T:=T) (a:=a) h1
 have hgt:=aFN (T:=T) (a:=a) h1
 rw [hx] at h3 hno hle hgt ⊢
 obtain rfl:x.2 = L:=h3
 clear hOf
 dsimp only [zt,zM,zE,ren,zz,zx,zy,aS,zG,zX,ev,evL,zV,zcT,zcF,act,zP,zO,Ent.zW]
 repeat refine sd ?_
 by_cases c1:¬ x.1 = 2
 ·have h0:=hno (fun h=>c1 h.1)
  repeat (first | (refine zB.intro (fun h=>False.elim (by revert h;first | (simp [c1];done) | fail)) (fun _=>?_)) | (refine zB.intro (fun _=>?_) (fun h=>False.elim (by revert h;first | (simp [c1];done) | fail)))|refine sd ?_)
  have hM:=lV T N c hT hN hNc hTv 4 a pub (by omega) (by omega)
  have hne:=gb T (k:=4) (by decide) (by decide) (p:=a) (q:=pub) (by omega) (by omega)
  obtain ⟨R,hR⟩:∃ R,mk2 T 4 a pub = R:=⟨_,rfl⟩
  rw [hR] at hM hne h0
  unfold MT rwS at hM
  refine Cut.intro (σ:=Unit) (fun _=>True) (fun _=>([(3,.ptr 203 0 none),(4,.ptr 204 0 none),(5,.ptr 205 0 none),(6,.ptr 206 0 none)],[(203,.mem true 0 [(1,.ptr 1000 0 none)]),(204,.mem false 1 [(32,.a8 a)]),(205,.mem false 1 [(32,.a8 pub)]),(206,.mem true 0 [(32,.a8 (replicate 32 0))]),
   (1000,.mem true 0 [(1,.sl 1001 0 0 N c),(1,.mp 1002)]),(1001,.mem true (zmE (c - N) 3) [(N * 3,.arr N 3 (ttF T))]),(1002,.map (.si (mpL T)))])) () trivial (Le.ghost [.keep 4,.keep 5] [] [(203,(3,0,none)),(204,(4,0,none)),(205,(5,0,none)),(206,(6,0,none))] rfl fc rfl rfl fc rfl fc rfl) ?_
  rintro - -
  refine aI.intro [[],[0],[],[],[2,3],r_5,r_6,r_7,r_7,[],[0,1,2,3,4,5,6,7,9],fy,[]] [0,1,2,3,4,9,5,6,7,8,10,11] (by kernel_rfl) ?_
  refine ⟨?_,?_⟩
  all_goals
   repeat refine sd ?_
   refine Call.name [(0,[]),(0,[]),(2001,[])] rfl fc (cz.intro hM [(1000,(1000,0,none)),(1001,(1001,0,none)),(1002,(1002,0,none)),(1003,(2001,0,none)),(1005,(305,0,none))] rfl fc rfl ?_ rfl ?_)
   ·repeat' first|exact trivial|refine zA.app ?_ ?_|refine zA.zd ?_ ?_|refine zA.cons ?_ ?_|exact fc|fail
    ·exact dH ha
    ·exact dG hp
   rintro v M' ⟨n',c',hn',hnc',rfl,rfl⟩
   have hkl:=zk (R).2
   dsimp only [zt,zM,zE,ren,zz,zx,zy,aS,zG,zX,ev,evL,zV,zcT,zcF,act,zP,zO,Ent.zW]
   repeat refine sd ?_
   refine Ret.intro (.tup [.a8 (kyB (R).2),.tt]) ((1001,.dead) :: tbM n' c' (R).1 1005) [(1005,(305,0,none))] rfl ?_ (by rw [h0];exact ⟨n',c',hn',hnc',rfl,rfl⟩) rfl ?_ rfl ?_ rfl
   ·exact fc
   ·exact fc
   ·repeat' first|exact trivial|refine zA.app ?_ ?_|refine zA.zd ?_ ?_|refine zA.cons ?_ ?_|exact fc|fail
    all_goals exact ⟨fun _=>trivial,fun _=>hne⟩
 have c1:x.1 = 2:=Classical.not_not.1 c1
 by_cases c2:¬ k = 1
 ·have h0:=hno (fun h=>c2 (by rw [<- h4];exact h.2.1))
  have c2':¬ ((k:Nat):Int) = 1:=by omega
  repeat (first | (refine zB.intro (fun h=>False.elim (by revert h;first | (simp [c1,c2,c2'];done) | fail)) (fun _=>?_)) | (refine zB.intro (fun _=>?_) (fun h=>False.elim (by revert h;first | (simp [c1,c2,c2'];done) | fail)))|refine sd ?_)
  have hM:=lV T N c hT hN hNc hTv 4 a pub (by omega) (by omega)
  have hne:=gb T (k:=4) (by decide) (by decide) (p:=a) (q:=pub) (by omega) (by omega)
  obtain ⟨R,hR⟩:∃ R,mk2 T 4 a pub = R:=⟨_,rfl⟩
  rw [hR] at hM hne h0
  unfold MT rwS at hM
  refine Cut.intro (σ:=Unit) (fun _=>True) (fun _=>([(3,.ptr 203 0 none),(4,.ptr 204 0 none),(5,.ptr 205 0 none),(6,.ptr 206 0 none)],[(203,.mem true 0 [(1,.ptr 1000 0 none)]),(204,.mem false 1 [(32,.a8 a)]),(205,.mem false 1 [(32,.a8 pub)]),(206,.mem true 0 [(32,.a8 (replicate 32 0))]),
   (1000,.mem true 0 [(1,.sl 1001 0 0 N c),(1,.mp 1002)]),(1001,.mem true (zmE (c - N) 3) [(N * 3,.arr N 3 (ttF T))]),(1002,.map (.si (mpL T)))])) () trivial (Le.ghost [.keep 4,.keep 5] [] [(203,(3,0,none)),(204,(4,0,none)),(205,(5,0,none)),(206,(6,0,none))] rfl fc rfl rfl fc rfl fc rfl) ?_
  rintro - -
  refine aI.intro [[],[0],[],[],[2,3],r_5,r_6,r_7,r_7,[],[0,1,2,3,4,5,6,7,9],fy,[]] [0,1,2,3,4,9,5,6,7,8,10,11] (by kernel_rfl) ?_
  refine ⟨?_,?_⟩
  all_goals
   repeat refine sd ?_
   refine Call.name [(0,[]),(0,[]),(2001,[])] rfl fc (cz.intro hM [(1000,(1000,0,none)),(1001,(1001,0,none)),(1002,(1002,0,none)),(1003,(2001,0,none)),(1005,(305,0,none))] rfl fc rfl ?_ rfl ?_)
   ·repeat' first|exact trivial|refine zA.app ?_ ?_|refine zA.zd ?_ ?_|refine zA.cons ?_ ?_|exact fc|fail
    ·exact dH ha
    ·exact dG hp
   rintro v M' ⟨n',c',hn',hnc',rfl,rfl⟩
   have hkl:=zk (R).2
   dsimp only [zt,zM,zE,ren,zz,zx,zy,aS,zG,zX,ev,evL,zV,zcT,zcF,act,zP,zO,Ent.zW]
   repeat refine sd ?_
   refine Ret.intro (.tup [.a8 (kyB (R).2),.tt]) ((1001,.dead) :: tbM n' c' (R).1 1005) [(1005,(305,0,none))] rfl ?_ (by rw [h0];exact ⟨n',c',hn',hnc',rfl,rfl⟩) rfl ?_ rfl ?_ rfl
   ·exact fc
   ·exact fc
   ·repeat' first|exact trivial|refine zA.app ?_ ?_|refine zA.zd ?_ ?_|refine zA.cons ?_ ?_|exact fc|fail
    all_goals exact ⟨fun _=>trivial,fun _=>hne⟩
 have c2:k = 1:=Classical.not_not.1 c2
 subst c2
 obtain ⟨b,hab⟩:∃ b,x.2 = [b]:=by
  match hL:x.2,h4 with
  | [b],_=>exact ⟨b,rfl⟩
 rw [hab] at hno hle hgt ⊢
 have e0:([b]:List (List UInt8)).getD 0 [] = b:=rfl
 rw [e0] at hno hle hgt
 have f0:([b]:List (List UInt8))[ge (addI none 0) (Ix.lit 0).val]?.getD [] = b:=rfl
 by_cases c3:¬ b.length = 32
 ·have h0:=hno (fun h=>c3 h.2.2)
  have c3':¬ ((b.length:Nat):Int) = 32:=by omega
  repeat (first | (refine zB.intro (fun h=>False.elim (by revert h;first | (simp [c1,c3,c3',f0];done) | fail)) (fun _=>?_)) | (refine zB.intro (fun _=>?_) (fun h=>False.elim (by revert h;first | (simp [c1,c3,c3',f0];done) | fail)))|refine sd ?_)
  have hM:=lV T N c hT hN hNc hTv 4 a pub (by omega) (by omega)
  have hne:=gb T (k:=4) (by decide) (by decide) (p:=a) (q:=pub) (by omega) (by omega)
  obtain ⟨R,hR⟩:∃ R,mk2 T 4 a pub = R:=⟨_,rfl⟩
  rw [hR] at hM hne h0
  unfold MT rwS at hM
  refine Cut.intro (σ:=Unit) (fun _=>True) (fun _=>([(3,.ptr 203 0 none),(4,.ptr 204 0 none),(5,.ptr 205 0 none),(6,.ptr 206 0 none)],[(203,.mem true 0 [(1,.ptr 1000 0 none)]),(204,.mem false 1 [(32,.a8 a)]),(205,.mem false 1 [(32,.a8 pub)]),(206,.mem true 0 [(32,.a8 (replicate 32 0))]),
   (1000,.mem true 0 [(1,.sl 1001 0 0 N c),(1,.mp 1002)]),(1001,.mem true (zmE (c - N) 3) [(N * 3,.arr N 3 (ttF T))]),(1002,.map (.si (mpL T)))])) () trivial (Le.ghost [.keep 4,.keep 5] [] [(203,(3,0,none)),(204,(4,0,none)),(205,(5,0,none)),(206,(6,0,none))] rfl fc rfl rfl fc rfl fc rfl) ?_
  rintro - -
  refine aI.intro [[],[0],[],[],[2,3],r_5,r_6,r_7,r_7,[],[0,1,2,3,4,5,6,7,9],fy,[]] [0,1,2,3,4,9,5,6,7,8,10,11] (by kernel_rfl) ?_
  refine ⟨?_,?_⟩
  all_goals
   repeat refine sd ?_
   refine Call.name [(0,[]),(0,[]),(2001,[])] rfl fc (cz.intro hM [(1000,(1000,0,none)),(1001,(1001,0,none)),(1002,(1002,0,none)),(1003,(2001,0,none)),(1005,(305,0,none))] rfl fc rfl ?_ rfl ?_)
   ·repeat' first|exact trivial|refine zA.app ?_ ?_|refine zA.zd ?_ ?_|refine zA.cons ?_ ?_|exact fc|fail
    ·exact dH ha
    ·exact dG hp
   rintro v M' ⟨n',c',hn',hnc',rfl,rfl⟩
   have hkl:=zk (R).2
   dsimp only [zt,zM,zE,ren,zz,zx,zy,aS,zG,zX,ev,evL,zV,zcT,zcF,act,zP,zO,Ent.zW]
   repeat refine sd ?_
   refine Ret.intro (.tup [.a8 (kyB (R).2),.tt]) ((1001,.dead) :: tbM n' c' (R).1 1005) [(1005,(305,0,none))] rfl ?_ (by rw [h0];exact ⟨n',c',hn',hnc',rfl,rfl⟩) rfl ?_ rfl ?_ rfl
   ·exact fc
   ·exact fc
   ·repeat' first|exact trivial|refine zA.app ?_ ?_|refine zA.zd ?_ ?_|refine zA.cons ?_ ?_|exact fc|fail
    all_goals exact ⟨fun _=>trivial,fun _=>hne⟩
 have c3:b.length = 32:=Classical.not_not.1 c3
 have c3':((b.length:Nat):Int) = 32:=by omega
 repeat (first | (refine zB.intro (fun h=>False.elim (by revert h;first | (simp [c1,c3,c3',f0];done) | fail)) (fun _=>?_)) | (refine zB.intro (fun _=>?_) (fun h=>False.elim (by revert h;first | (simp [c1,c3,c3',f0];done) | fail)))|refine sd ?_)
 have eT:take 32 a = a:=List.take_of_length_le (by omega)
 refine aI.intro [[],[],[1],[1,2],[0],r_5] r_6 (by kernel_rfl) ?_
 repeat refine sd ?_
 have eA:take 32 (drop ((none:Option Nat).getD 0) a) = a:=by rw [Option.getD_none,List.drop_zero,eT]
 have eB:take b.length (drop 0 b) = b:=by rw [List.drop_zero,List.take_length]
 have hQ:(Op.bytesLess (take 32 (drop ((none:Option Nat).getD 0) a)) (take b.length (drop 0 b)) = true \/ take 32 (drop ((none:Option Nat).getD 0) a) = take b.length (drop 0 b)) ↔ (Op.bytesLess a b = true \/ a = b):=by rw [eA,eB]
 by_cases hl:Op.bytesLess a b = true \/ a = b
 ·have h0:=hle ⟨c1,rfl,c3⟩ hl
  refine zB.intro (fun h=>absurd (hQ.2 hl) h) (fun _=>?_)
  repeat refine sd ?_
  have hM:=lV T N c hT hN hNc hTv 3 a b (by omega) (by omega)
  have hne:=gb T (k:=3) (by decide) (by decide) (p:=a) (q:=b) (by omega) (by omega)
  obtain ⟨R,hR⟩:∃ R,mk2 T 3 a b = R:=⟨_,rfl⟩
  rw [hR] at hM hne h0
  unfold MT rwS at hM
  refine Cut.intro (σ:=Unit) (fun _=>True) (fun _=>([(3,.ptr 203 0 none),(6,.ptr 206 0 none),(14,.isl 0 32 1 [(32,.a8 a)]),(15,.isl 0 32 1 [(32,.a8 b)])],[(203,.mem true 0 [(1,.ptr 1000 0 none)]),(206,.mem true 0 [(32,.a8 (replicate 32 0))]),
   (1000,.mem true 0 [(1,.sl 1001 0 0 N c),(1,.mp 1002)]),(1001,.mem true (zmE (c - N) 3) [(N * 3,.arr N 3 (ttF T))]),(1002,.map (.si (mpL T)))])) () trivial (Le.ghost [.keep 4] [(14,0)] [(203,(3,0,none)),(206,(6,0,none))] rfl ?_ rfl rfl ?_ rfl ?_ rfl) ?_
  ·exact fc
  ·repeat' first|exact trivial|refine zA.app ?_ ?_|refine zA.zd ?_ ?_|refine zA.cons ?_ ?_|exact fc|fail
   all_goals first | exact c3.symm | (show 32 = b.length * 1;omega)
  ·exact fc
  rintro - -
  repeat refine sd ?_
  refine Call.name [(0,[]),(0,[]),(2001,[])] rfl fc (cz.intro hM [(1000,(1000,0,none)),(1001,(1001,0,none)),(1002,(1002,0,none)),(1003,(2001,0,none)),(1005,(305,0,none))] rfl fc rfl ?_ rfl ?_)
  ·repeat' first|exact trivial|refine zA.app ?_ ?_|refine zA.zd ?_ ?_|refine zA.cons ?_ ?_|exact fc|fail
   ·exact dH (by assumption)
   ·exact dG (by assumption)
  rintro v M' ⟨n',c',hn',hnc',rfl,rfl⟩
  have hkl:=zk (R).2
  dsimp only [zt,zM,zE,ren,zz,zx,zy,aS,zG,zX,ev,evL,zV,zcT,zcF,act,zP,zO,Ent.zW]
  repeat refine sd ?_
  refine Ret.intro (.tup [.a8 (kyB (R).2),.tt]) ((1001,.dead) :: tbM n' c' (R).1 1005) [(1005,(305,0,none))] rfl ?_ (by rw [h0];exact ⟨n',c',hn',hnc',rfl,rfl⟩) rfl ?_ rfl ?_ rfl
  ·exact fc
  ·exact fc
  ·repeat' first|exact trivial|refine zA.app ?_ ?_|refine zA.zd ?_ ?_|refine zA.cons ?_ ?_|exact fc|fail
   all_goals exact ⟨fun _=>trivial,fun _=>hne⟩
 ·have h0:=hgt ⟨c1,rfl,c3⟩ hl
  refine zB.intro (fun _=>?_) (fun h=>absurd (fun g=>hl (hQ.1 g)) h)
  repeat refine sd ?_
  have hM:=lV T N c hT hN hNc hTv 3 b a (by omega) (by omega)
  have hne:=gb T (k:=3) (by decide) (by decide) (p:=b) (q:=a) (by omega) (by omega)
  obtain ⟨R,hR⟩:∃ R,mk2 T 3 b a = R:=⟨_,rfl⟩
  rw [hR] at hM hne h0
  unfold MT rwS at hM
  refine Cut.intro (σ:=Unit) (fun _=>True) (fun _=>([(3,.ptr 203 0 none),(6,.ptr 206 0 none),(14,.isl 0 32 1 [(32,.a8 b)]),(15,.isl 0 32 1 [(32,.a8 a)])],[(203,.mem true 0 [(1,.ptr 1000 0 none)]),(206,.mem true 0 [(32,.a8 (replicate 32 0))]),
   (1000,.mem true 0 [(1,.sl 1001 0 0 N c),(1,.mp 1002)]),(1001,.mem true (zmE (c - N) 3) [(N * 3,.arr N 3 (ttF T))]),(1002,.map (.si (mpL T)))])) () trivial (Le.ghost [.keep 4] [(15,0)] [(203,(3,0,none)),(206,(6,0,none))] rfl ?_ rfl rfl ?_ rfl ?_ rfl) ?_
  ·exact fc
  ·repeat' first|exact trivial|refine zA.app ?_ ?_|refine zA.zd ?_ ?_|refine zA.cons ?_ ?_|exact fc|fail
   all_goals first | exact c3.symm | (show 32 = b.length * 1;omega)
  ·exact fc
  rintro - -
  repeat refine sd ?_
  refine Call.name [(0,[]),(0,[]),(2001,[])] rfl fc (cz.intro hM [(1000,(1000,0,none)),(1001,(1001,0,none)),(1002,(1002,0,none)),(1003,(2001,0,none)),(1005,(305,0,none))] rfl fc rfl ?_ rfl ?_)
  ·repeat' first|exact trivial|refine zA.app ?_ ?_|refine zA.zd ?_ ?_|refine zA.cons ?_ ?_|exact fc|fail
   ·exact dH (by assumption)
   ·exact dG (by assumption)
  rintro v M' ⟨n',c',hn',hnc',rfl,rfl⟩
  have hkl:=zk (R).2
  dsimp only [zt,zM,zE,ren,zz,zx,zy,aS,zG,zX,ev,evL,zV,zcT,zcF,act,zP,zO,Ent.zW]
  repeat refine sd ?_
  refine Ret.intro (.tup [.a8 (kyB (R).2),.tt]) ((1001,.dead) :: tbM n' c' (R).1 1005) [(1005,(305,0,none))] rfl ?_ (by rw [h0];exact ⟨n',c',hn',hnc',rfl,rfl⟩) rfl ?_ rfl ?_ rfl
  ·exact fc
  ·exact fc
  ·repeat' first|exact trivial|refine zA.app ?_ ?_|refine zA.zd ?_ ?_|refine zA.cons ?_ ?_|exact fc|fail
   all_goals exact ⟨fun _=>trivial,fun _=>hne⟩
def dbl (b:UInt8):UInt8:=if b.toNat < 128 then pJ b 1 else pJ b 1 ^^^ 27
theorem aH2 (b:UInt8):Sx.Fn Γ.P 152 [.u8 b] [] (fun v _=>v = .u8 (dbl b)):=by
 refine aF (Γ:=Γ) (fn:=Tryz.f152) rfl rfl rfl rfl ?_
 refine zB.intro (fun h=>?_) (fun h=>?_)
 ·refine Ret.intro (.u8 (dbl b)) [] [] rfl trivial rfl rfl ?_ rfl trivial rfl
  show dbl b = pJ b 1
  exact if_pos h
 ·refine Ret.intro (.u8 (dbl b)) [] [] rfl trivial rfl rfl ?_ rfl trivial rfl
  show dbl b = pJ b 1 ^^^ 27
  exact if_neg h
def tms:Nat->UInt8->UInt8->UInt8->UInt8
 | 0,_,_,p=>p
 | n + 1,a,b,p=>tms n (dbl a) (gg b 1) (if b &&& 1 = 1 then p ^^^ a else p)
theorem wm:∀ (n:Nat) (a p:UInt8),tms n a 0 p = p
 | 0,_,_=>rfl
 | n + 1,a,p=>by
  show tms n (dbl a) 0 p = p
  exact wm n _ _
theorem wv (b:UInt8):(gg b 1).toNat = b.toNat / 2:=by
 have:=b.toNat_lt
 unfold gg
 rw [toNat_ofNat',Nat.shiftRight_eq_div_pow]
 omega
def aL (a b:UInt8):UInt8:=tms 8 a b 0
theorem aQA (a b:UInt8):Sx.Fn Γ.P 170 [.u8 a,.u8 b] [] (fun v _=>v = .u8 (aL a b)):=by
 refine aF (Γ:=Γ) (fn:=Tryz.f170) rfl rfl rfl rfl ?_
 refine ac.intro (σ:=UInt8 × UInt8 × UInt8) (fun s=>∃ n,s.2.1.toNat < 2 ^ n/\tms n s.1 s.2.1 s.2.2 = tms 8 a b 0)
  (fun s=>([(0,.u8 s.1),(1,.u8 s.2.1),(5,.u8 s.2.2)],[])) (fun s=>s.2.1.toNat) (a,b,0) ?_ ?_ ?_
 ·exact ⟨8,b.toNat_lt,rfl⟩
 ·exact Le.intro [] rfl ⟨rfl,rfl,rfl⟩ rfl trivial rfl
 ·rintro ⟨x,y,z⟩ ⟨n,hn,ht⟩
  have step:0 < y.toNat->∃ n,(gg y 1).toNat < 2 ^ n/\tms n (dbl x) (gg y 1) (if y &&& 1 = 1 then z ^^^ x else z) = tms 8 a b 0:=by
   intro h
   match n,hn,ht with
   | 0,hn,_=>exact absurd hn (by simp only [Nat.pow_zero];omega)
   | n + 1,hn,ht=>
    refine ⟨n,?_,ht⟩
    rw [wv]
    have:y.toNat < 2 ^ (n + 1):=hn
    rw [Nat.pow_succ] at this
    omega
  have less:0 < y.toNat->(gg y 1).toNat < y.toNat:=fun h=>by rw [wv];omega
  refine zB.intro (fun h=>?_) (fun h=>?_)
  ·refine zB.intro (fun h2=>?_) (fun h2=>?_)
   ·refine Call.pure (aH2 x) rfl rfl ?_
    rintro _ rfl
    have st:=step h
    rw [if_pos (show y &&& 1 = 1 from h2)] at st
    exact ⟨(dbl x,gg y 1,z ^^^ x),st,less h,Le.intro [] rfl ⟨rfl,rfl,rfl⟩ rfl trivial rfl⟩
   ·refine Call.pure (aH2 x) rfl rfl ?_
    rintro _ rfl
    have st:=step h
    rw [if_neg (show ¬ (y &&& 1 = 1) from h2)] at st
    exact ⟨(dbl x,gg y 1,z),st,less h,Le.intro [] rfl ⟨rfl,rfl,rfl⟩ rfl trivial rfl⟩
  ·have hy:y = 0:=UInt8.toNat_inj.1 (by
    have h:¬ (0 < y.toNat):=h
    show y.toNat = 0
    omega)
   subst hy
   have ht:tms n x 0 z = tms 8 a b 0:=ht
   rw [wm] at ht
   refine Ret.intro (.u8 z) [] [] rfl trivial ?_ rfl rfl rfl trivial rfl
   rw [ht];rfl
def dP (k:List UInt8):Nat->List UInt8->List UInt8
 | 0,b=>b
 | n + 1,b=>(dP k n b).set n ((dP k n b).getD n 0 ^^^ k.getD n 0)
theorem bL (k:List UInt8):∀ (n:Nat) (b:List UInt8),(dP k n b).length = b.length
 | 0,_=>rfl
 | n + 1,b=>by simp only [dP,length_set,bL k n b]
theorem aD4 (b k:List UInt8) (hb:b.length = 16) (hk:k.length = 16):Sx.Fn Γ.P 153 [.a8 b,.a8 k] [] (fun v _=>v = .a8 (dP k 16 b)):=by
 have hl:∀ n,(dP k n b).length = 16:=fun n=>by rw [bL,hb]
 refine aF (Γ:=Γ) (fn:=Tryz.f153) rfl rfl rfl rfl ?_
 refine d0.intro ⟨hk,hb⟩ ?_
 refine ac.intro (σ:=Nat) (fun i=>i <= 16)
  (fun i=>([(2,.ptr 2 0 none),(3,.ptr 3 0 none),(4,.ptr 4 0 none),(6,.i .i64 i)],
   [(2,.mem true 0 [(16,.a8 (dP k i b))]),(3,.mem true 0 [(16,.a8 k)]),(4,.mem true 0 [(16,.a8 (replicate 16 0))])])) (fun i=>16 - i) 0 (zero_le _) ?_ ?_
 ·exact Le.intro [] rfl rfl rfl ⟨rfl,rfl,rfl,rfl,rfl,rfl,rfl,rfl,rfl⟩ rfl
 ·intro i hi
  refine zB.intro (fun h=>?_) (fun h=>?_)
  ·refine aI.intro [[],[0],[0,1],[],[3],[3,4],r_6,r_7,r_8] r_9 (by kernel_rfl) ?_
   refine d0.intro ⟨by omega,Int.natCast_nonneg _⟩ ?_
   refine d0.intro (show (i:Int).toNat < 16 by omega) ?_
   refine d0.intro ⟨by omega,Int.natCast_nonneg _⟩ ?_
   refine d0.intro (show (i:Int).toNat < 16 by omega) ?_
   refine d0.intro ⟨by omega,Int.natCast_nonneg _⟩ ?_
   refine d0.intro (show (i:Int).toNat < 16 by omega) ?_
   refine d0.intro (show rng .i64 ((i:Int) + 1) by unfold rng;exact ⟨by omega,by omega⟩) ?_
   refine ⟨i + 1,by omega,by omega,Le.intro [] rfl rfl rfl ⟨rfl,rfl,?_,rfl,rfl,rfl,rfl,rfl,rfl⟩ rfl⟩
   rw [zIn];rfl
  ·have hi:i = 16:=by omega
   subst hi
   refine d0.intro (hl 16) ?_
   exact Ret.intro (.a8 (dP k 16 b)) [] [] rfl trivial rfl rfl rfl rfl trivial rfl
def aNN (b m:List UInt8) (i:Nat) (out:List UInt8):Nat->List UInt8
 | 0=>out
 | k + 1=>(aNN b m i out k).set i ((aNN b m i out k).getD i 0 ^^^ aL (b.getD (i / 4 * 4 + (i + k) % 4) 0) (m.getD k 0))
def vU (b m:List UInt8):Nat->List UInt8
 | 0=>replicate 16 0
 | i + 1=>aNN b m i (vU b m i) 4
theorem ny (b m:List UInt8) (i:Nat) (out:List UInt8):∀ k,(aNN b m i out k).length = out.length
 | 0=>rfl
 | k + 1=>by simp only [aNN,length_set,ny b m i out k]
theorem dK (b m:List UInt8):∀ i,(vU b m i).length = 16
 | 0=>rfl
 | i + 1=>by simp only [vU,ny,dK b m i]
theorem aQC (b m:List UInt8) (hb:b.length = 16) (hm:m.length = 4):Sx.Fn Γ.P 154 [.a8 b,.a8 m] [] (fun v _=>v = .a8 (vU b m 16)):=by
 refine aF (Γ:=Γ) (fn:=Tryz.f154) rfl rfl rfl rfl ?_
 refine sd ?_
 refine ac.intro (σ:=Nat) (fun i=>i <= 16)
  (fun i=>([(2,.ptr 2 0 none),(3,.ptr 3 0 none),(4,.ptr 4 0 none),(5,.ptr 5 0 none),(8,.i .i64 i)],
   [(2,.mem true 0 [(16,.a8 b)]),(3,.mem true 0 [(4,.a8 m)]),(4,.mem true 0 [(16,.a8 (replicate 16 0))]),(5,.mem true 0 [(16,.a8 (vU b m i))])])) (fun i=>16 - i) 0 (zero_le _) ?_ ?_
 ·exact Le.intro [] rfl fc rfl fc rfl
 intro i hi
 refine zB.intro (fun h=>?_) (fun h=>?_)
 ·refine ac.intro (σ:=Nat) (fun k=>k <= 4)
   (fun k=>([(2,.ptr 2 0 none),(3,.ptr 3 0 none),(4,.ptr 4 0 none),(5,.ptr 5 0 none),(8,.i .i64 i),(6,.i .i64 i),(11,.i .i64 k)],
    [(2,.mem true 0 [(16,.a8 b)]),(3,.mem true 0 [(4,.a8 m)]),(4,.mem true 0 [(16,.a8 (replicate 16 0))]),(5,.mem true 0 [(16,.a8 (aNN b m i (vU b m i) k))])])) (fun i=>4 - i) 0 (zero_le _) ?_ ?_
  ·exact Le.intro [] rfl fc rfl fc rfl
  intro k hk
  refine zB.intro (fun h'=>?_) (fun h'=>?_)
  ·refine aI.intro [[],[0],[0,1],[],[3],[3,4],[],[],[6,7],[6,7,8],[3,4,5,6,7,8,9],[3,4,5,6,7,8,9,10],[3,4,5,6,7,8,9,10,11],[],[13],[13,14],[3,4,5,6,7,8,9,10,11,12,13,14,15],uL,rL,aNM] aOK (by kernel_rfl) ?_
   repeat refine sd ?_
   refine Call.pure (aQA (b.getD (i / 4 * 4 + (i + k) % 4) 0) (m.getD k 0)) rfl ?_ ?_
   ·refine ⟨?_,?_⟩
    ·show b.getD (i / 4 * 4 + (i + k) % 4) 0 = b.getD ((i:Int) / 4 * 4 + ((i:Int) + k) % 4).toNat 0
     congr 1
    ·show m.getD k 0 = m.getD (k:Int).toNat 0
     rfl
   rintro _ rfl
   refine dC.intro [] rfl rfl ?_
   repeat refine sd ?_
   exact ⟨k + 1,by omega,by omega,Le.intro [] rfl fc rfl fc rfl⟩
  ·have:k = 4:=by omega
   subst this
   refine sd ?_
   exact ⟨i + 1,by omega,by omega,Le.intro [] rfl fc rfl fc rfl⟩
 ·have:i = 16:=by omega
  subst this
  have:=dK b m 16
  refine sd ?_
  exact Ret.intro (.a8 (vU b m 16)) [] [] rfl trivial rfl rfl rfl rfl trivial rfl
def b8 (s bk ks:List UInt8):Ent:=.mem false 0 [(256,.a8 s),(256,.a8 bk),(240,.a8 ks)]
def eI (ks:List UInt8) (r:Nat):List UInt8:=(ks.drop (16 * r)).take 16
def uK (s b:List UInt8):Nat->List UInt8
 | 0=>replicate 16 0
 | i + 1=>(uK s b i).set i (s.getD (b.getD ((i + i % 4 * 4) % 16) 0).toNat 0)
def jv (s ks:List UInt8) (r:Nat) (b:List UInt8):List UInt8:=
 dP (eI ks r) 16 (if r < 14 then vU (uK s b 16) [2,3,1,1] 16 else uK s b 16)
def bP (s ks b:List UInt8):Nat->List UInt8
 | 0=>dP (eI ks 0) 16 b
 | n + 1=>jv s ks (n + 1) (bP s ks b n)
theorem eY (s b:List UInt8):∀ i,(uK s b i).length = 16
 | 0=>rfl
 | i + 1=>by simp only [uK,length_set,eY s b i]
theorem bZ {ks:List UInt8} (h:ks.length = 240) {r:Nat} (hr:r <= 14):(eI ks r).length = 16:=by
 simp only [eI,zlT,zlD];omega
theorem rG (s ks:List UInt8) (r:Nat) (b:List UInt8):(jv s ks r b).length = 16:=by
 unfold jv
 rw [bL]
 split
 ·exact dK _ _ _
 ·exact eY _ _ _
theorem gM (s ks:List UInt8) {b:List UInt8} (hb:b.length = 16):∀ n,(bP s ks b n).length = 16
 | 0=>by simp only [bP,bL,hb]
 | n + 1=>rG _ _ _ _
theorem aT9 (s bk ks b:List UInt8) (hs:s.length = 256) (hbk:bk.length = 256) (hk:ks.length = 240) (hb:b.length = 16) :
  Sx.Fn Γ.P 106 [.ptr 1000 0 none,.a8 b] [(1000,b8 s bk ks)] (fun v M=>v = .a8 (bP s ks b 14)/\M = [(1000,b8 s bk ks)]):=by
 refine aF (Γ:=Γ) (fn:=Tryz.f106) rfl rfl rfl rfl ?_
 refine sd ?_
 refine aI.intro [[],[],[1],[1,2],[1,2,3],[1,2,3,4],r_6,[],r_8] [0,1,2,3,4,5,7,6,8] (by kernel_rfl) ?_
 refine Call.pure (aD4 b (eI ks 0) hb (bZ hk (by omega))) rfl fc ?_
 rintro _ rfl
 refine dC.intro [] rfl rfl ?_
 have hl:=gM s ks hb
 have h0:(dP (eI ks 0) 16 b).length = 16:=hl 0
 repeat refine sd ?_
 refine ac.intro (σ:=Nat) (fun n=>n <= 14)
  (fun n=>([(0,.ptr 1000 0 none),(3,.ptr 3 0 none),(4,.ptr 4 0 none),(5,.ptr 5 0 none),(6,.i .i64 ((n:Int) + 1))],
   [(1000,b8 s bk ks),(3,.mem true 0 [(16,.a8 b)]),(4,.mem true 0 [(16,.a8 (replicate 16 0))]),(5,.mem true 0 [(16,.a8 (bP s ks b n))])])) (fun n=>14 - n) 0 (zero_le _) ?_ ?_
 ·exact Le.intro [] rfl fc rfl fc rfl
 intro n hn
 refine zB.intro (fun h=>?_) (fun h=>?_)
 ·refine ac.intro (σ:=Nat) (fun i=>i <= 16)
   (fun i=>([(0,.ptr 1000 0 none),(3,.ptr 3 0 none),(4,.ptr 4 0 none),(5,.ptr 5 0 none),(6,.i .i64 ((n:Int) + 1)),(7,.ptr 7 0 none),(20,.i .i64 i)],
   [(1000,b8 s bk ks),(3,.mem true 0 [(16,.a8 b)]),(4,.mem true 0 [(16,.a8 (replicate 16 0))]),(5,.mem true 0 [(16,.a8 (bP s ks b n))]),(7,.mem true 0 [(16,.a8 (uK s (bP s ks b n) i))])])) (fun i=>16 - i) 0 (zero_le _) ?_ ?_
  ·exact Le.intro [] rfl fc rfl fc rfl
  intro i hi
  refine zB.intro (fun h'=>?_) (fun h'=>?_)
  ·refine aI.intro [[],[],[],[],[3],[3,4],[2,3,4,5],[2,3,4,5,6],[2,3,4,5,6,7],[2,3,4,5,6,7,8],[1],[1,10],[1,2,3,4,5,6,7,8,9,10,11],[1,2,3,4,5,6,7,8,9,10,11,12],sj,uM] rM (by kernel_rfl) ?_
   repeat refine sd ?_
   have hv:uK s (bP s ks b n) (i + 1) = (uK s (bP s ks b n) i).set (i:Int).toNat (s.getD ((bP s ks b n).getD (((i:Int) + (i:Int) % 4 * 4) % 16).toNat 0).toNat 0):=by
    rw [show (((i:Int) + (i:Int) % 4 * 4) % 16).toNat = (i + i % 4 * 4) % 16 by omega];rfl
   exact ⟨i + 1,by omega,by omega,Le.intro [] rfl fc rfl fc rfl⟩
  ·have:i = 16:=by omega
   subst this
   have hkey:eI ks (n + 1) = (ks.drop (((n:Int) + 1).toNat * 16)).take 16:=by
    rw [show ((n:Int) + 1).toNat * 16 = 16 * (n + 1) by omega];rfl
   have hround:∀ t,bP s ks b (n + 1) = dP (eI ks (n + 1)) 16 t->(dP (eI ks (n + 1)) 16 t).length = 16:=fun t e=>by rw [<- e];exact hl _
   refine zB.intro (fun h2=>?_) (fun h2=>?_)
   ·repeat refine sd ?_
    refine Call.pure (aQC (uK s (bP s ks b n) 16) [2,3,1,1] (eY _ _ _) rfl) rfl fc ?_
    rintro _ rfl
    have hm:=dK (uK s (bP s ks b n) 16) [2,3,1,1] 16
    have hstep:bP s ks b (n + 1) = dP (eI ks (n + 1)) 16 (vU (uK s (bP s ks b n) 16) [2,3,1,1] 16):=by
     show jv _ _ _ _ = _
     unfold jv
     rw [if_pos (by omega)]
    have hlen:=hround _ hstep
    repeat refine sd ?_
    refine aI.intro [[],[],[],[1],[1,3],[1,2,3,4],[1,2,3,4,5],r_7,r_8] r_9 (by kernel_rfl) ?_
    repeat refine sd ?_
    refine Call.pure (aD4 (vU (uK s (bP s ks b n) 16) [2,3,1,1] 16) (eI ks (n + 1)) hm (bZ hk (by omega))) rfl fc ?_
    rintro _ rfl
    repeat refine sd ?_
    exact ⟨n + 1,by omega,by omega,Le.intro [] rfl fc rfl fc rfl⟩
   ·have hm:=eY s (bP s ks b n) 16
    have hstep:bP s ks b (n + 1) = dP (eI ks (n + 1)) 16 (uK s (bP s ks b n) 16):=by
     show jv _ _ _ _ = _
     unfold jv
     rw [if_neg (by omega)]
    have hlen:=hround _ hstep
    refine aI.intro [[],[],[],[1],[1,3],[1,2,3,4],[1,2,3,4,5],r_7,r_8] r_9 (by kernel_rfl) ?_
    repeat refine sd ?_
    refine Call.pure (aD4 (uK s (bP s ks b n) 16) (eI ks (n + 1)) hm (bZ hk (by omega))) rfl fc ?_
    rintro _ rfl
    repeat refine sd ?_
    exact ⟨n + 1,by omega,by omega,Le.intro [] rfl fc rfl fc rfl⟩
 ·have:n = 14:=by omega
  subst this
  have hl14:=hl 14
  repeat refine sd ?_
  exact Ret.intro (.a8 (bP s ks b 14)) [(1000,b8 s bk ks)] [] rfl trivial ⟨rfl,rfl⟩ rfl rfl rfl fc rfl
def jE (bk b:List UInt8):Nat->List UInt8
 | 0=>replicate 16 0
 | i + 1=>(jE bk b i).set ((i + i % 4 * 4) % 16) (bk.getD (b.getD i 0).toNat 0)
def eX (ks:List UInt8) (r:Nat) (b:List UInt8):List UInt8:=
 if r < 14 then vU (dP (eI ks r) 16 b) [14,11,13,9] 16 else dP (eI ks r) 16 b
def jG (bk ks b:List UInt8):Nat->List UInt8
 | 0=>b
 | n + 1=>jE bk (eX ks (14 - n) (jG bk ks b n)) 16
def jF (bk ks b:List UInt8):List UInt8:=dP (eI ks 0) 16 (jG bk ks b 14)
theorem fG (bk b:List UInt8):∀ i,(jE bk b i).length = 16
 | 0=>rfl
 | i + 1=>by simp only [jE,length_set,fG bk b i]
theorem sF (ks:List UInt8) (r:Nat) {b:List UInt8} (hb:b.length = 16):(eX ks r b).length = 16:=by
 unfold eX
 split
 ·exact dK _ _ _
 ·rw [bL,hb]
theorem nF (bk ks:List UInt8) {b:List UInt8} (hb:b.length = 16):∀ n,(jG bk ks b n).length = 16
 | 0=>hb
 | n + 1=>fG _ _ _
theorem aT7 (s bk ks b:List UInt8) (hk:ks.length = 240) (hb:b.length = 16) :
  Sx.Fn Γ.P 111 [.ptr 1000 0 none,.a8 b] [(1000,b8 s bk ks)] (fun v M=>v = .a8 (jF bk ks b)/\M = [(1000,b8 s bk ks)]):=by
 refine aF (Γ:=Γ) (fn:=Tryz.f111) rfl rfl rfl rfl ?_
 repeat refine sd ?_
 have hl:=nF bk ks hb
 refine ac.intro (σ:=Nat) (fun n=>n <= 14)
  (fun n=>([(0,.ptr 1000 0 none),(3,.ptr 3 0 none),(4,.ptr 4 0 none),(5,.ptr 5 0 none),(6,.i .i64 (14 - (n:Int)))],
   [(1000,b8 s bk ks),(3,.mem true 0 [(16,.a8 b)]),(4,.mem true 0 [(16,.a8 (replicate 16 0))]),(5,.mem true 0 [(16,.a8 (jG bk ks b n))])])) (fun n=>14 - n) 0 (zero_le _) ?_ ?_
 ·exact Le.intro [] rfl fc rfl fc rfl
 intro n hn
 have hln:=hl n
 refine zB.intro (fun h=>?_) (fun h=>?_)
 ·refine aI.intro [[],[],[],[1],[1,3],[1,2,3,4],[1,2,3,4,5],r_7,r_8] r_9 (by kernel_rfl) ?_
  repeat refine sd ?_
  have hkey:eI ks (14 - n) = (ks.drop ((14 - (n:Int)).toNat * 16)).take 16:=by
   rw [show (14 - (n:Int)).toNat * 16 = 16 * (14 - n) by omega];rfl
  refine Call.pure (aD4 (jG bk ks b n) (eI ks (14 - n)) hln (bZ hk (by omega))) rfl fc ?_
  rintro _ rfl
  have ha:(dP (eI ks (14 - n)) 16 (jG bk ks b n)).length = 16:=by rw [bL,hln]
  repeat refine sd ?_
  have hum:=sF ks (14 - n) hln
  refine zB.intro (fun h2=>?_) (fun h2=>?_)
  ·repeat refine sd ?_
   refine Call.pure (aQC (dP (eI ks (14 - n)) 16 (jG bk ks b n)) [14,11,13,9] ha rfl) rfl fc ?_
   rintro _ rfl
   have hx:vU (dP (eI ks (14 - n)) 16 (jG bk ks b n)) [14,11,13,9] 16 = eX ks (14 - n) (jG bk ks b n):=by
    unfold eX
    rw [if_pos (by omega)]
   rw [hx]
   repeat refine sd ?_
   refine ac.intro (σ:=Nat) (fun i=>i <= 16)
    (fun i=>([(0,.ptr 1000 0 none),(3,.ptr 3 0 none),(4,.ptr 4 0 none),(5,.ptr 5 0 none),(6,.i .i64 (14 - (n:Int))),(7,.ptr 7 0 none),(27,.i .i64 i)],
    [(1000,b8 s bk ks),(3,.mem true 0 [(16,.a8 b)]),(4,.mem true 0 [(16,.a8 (replicate 16 0))]),(5,.mem true 0 [(16,.a8 (eX ks (14 - n) (jG bk ks b n)))]),(7,.mem true 0 [(16,.a8 (jE bk (eX ks (14 - n) (jG bk ks b n)) i))])])) (fun i=>16 - i) 0 (zero_le _) ?_ ?_
   ·exact Le.intro [] rfl fc rfl fc rfl
   intro i hi
   refine zB.intro (fun h'=>?_) (fun h'=>?_)
   ·refine aI.intro [[],[],[1],[1,2],r_4,r_5,[],[],[7],[7,8],[6],[6,10],[6,7,8,9,10,11],[6,7,8,9,10,11,12],sj,uM] rM (by kernel_rfl) ?_
    repeat refine sd ?_
    have hv:jE bk (eX ks (14 - n) (jG bk ks b n)) (i + 1) = (jE bk (eX ks (14 - n) (jG bk ks b n)) i).set (((i:Int) + (i:Int) % 4 * 4) % 16).toNat (bk.getD ((eX ks (14 - n) (jG bk ks b n)).getD (i:Int).toNat 0).toNat 0):=by
     rw [show (((i:Int) + (i:Int) % 4 * 4) % 16).toNat = (i + i % 4 * 4) % 16 by omega];rfl
    exact ⟨i + 1,by omega,by omega,Le.intro [] rfl fc rfl fc rfl⟩
   ·have:i = 16:=by omega
    subst this
    have hu:=fG bk (eX ks (14 - n) (jG bk ks b n)) 16
    repeat refine sd ?_
    have hst:jG bk ks b (n + 1) = jE bk (eX ks (14 - n) (jG bk ks b n)) 16:=rfl
    exact ⟨n + 1,by omega,by omega,Le.intro [] rfl fc rfl fc rfl⟩
  ·have hx:dP (eI ks (14 - n)) 16 (jG bk ks b n) = eX ks (14 - n) (jG bk ks b n):=by
    unfold eX
    rw [if_neg (by omega)]
   rw [hx]
   refine ac.intro (σ:=Nat) (fun i=>i <= 16)
    (fun i=>([(0,.ptr 1000 0 none),(3,.ptr 3 0 none),(4,.ptr 4 0 none),(5,.ptr 5 0 none),(6,.i .i64 (14 - (n:Int))),(7,.ptr 7 0 none),(27,.i .i64 i)],
    [(1000,b8 s bk ks),(3,.mem true 0 [(16,.a8 b)]),(4,.mem true 0 [(16,.a8 (replicate 16 0))]),(5,.mem true 0 [(16,.a8 (eX ks (14 - n) (jG bk ks b n)))]),(7,.mem true 0 [(16,.a8 (jE bk (eX ks (14 - n) (jG bk ks b n)) i))])])) (fun i=>16 - i) 0 (zero_le _) ?_ ?_
   ·exact Le.intro [] rfl fc rfl fc rfl
   intro i hi
   refine zB.intro (fun h'=>?_) (fun h'=>?_)
   ·refine aI.intro [[],[],[1],[1,2],r_4,r_5,[],[],[7],[7,8],[6],[6,10],[6,7,8,9,10,11],[6,7,8,9,10,11,12],sj,uM] rM (by kernel_rfl) ?_
    repeat refine sd ?_
    have hv:jE bk (eX ks (14 - n) (jG bk ks b n)) (i + 1) = (jE bk (eX ks (14 - n) (jG bk ks b n)) i).set (((i:Int) + (i:Int) % 4 * 4) % 16).toNat (bk.getD ((eX ks (14 - n) (jG bk ks b n)).getD (i:Int).toNat 0).toNat 0):=by
     rw [show (((i:Int) + (i:Int) % 4 * 4) % 16).toNat = (i + i % 4 * 4) % 16 by omega];rfl
    exact ⟨i + 1,by omega,by omega,Le.intro [] rfl fc rfl fc rfl⟩
   ·have:i = 16:=by omega
    subst this
    have hu:=fG bk (eX ks (14 - n) (jG bk ks b n)) 16
    repeat refine sd ?_
    have hst:jG bk ks b (n + 1) = jE bk (eX ks (14 - n) (jG bk ks b n)) 16:=rfl
    exact ⟨n + 1,by omega,by omega,Le.intro [] rfl fc rfl fc rfl⟩
 ·have:n = 14:=by omega
  subst this
  refine aI.intro [[],[],[1],[1,2],[1,2,3],[1,2,3,4],r_6,r_7] r_8 (by kernel_rfl) ?_
  repeat refine sd ?_
  refine Call.pure (aD4 (jG bk ks b 14) (eI ks 0) (hl 14) (bZ hk (by omega))) rfl fc ?_
  rintro _ rfl
  have ha:(dP (eI ks 0) 16 (jG bk ks b 14)).length = 16:=by rw [bL,hl 14]
  repeat refine sd ?_
  exact Ret.intro (.a8 (jF bk ks b)) [(1000,b8 s bk ks)] [] rfl trivial ⟨rfl,rfl⟩ rfl rfl rfl fc rfl
def aNJ (x:UInt8) (k:Nat):UInt8:=pJ x k ||| gg x (8 - k)
theorem aH1 (x:UInt8) (k:Nat) (hk:k < 8):Sx.Fn Γ.P 169 [.u8 x,.i .i64 k] [] (fun v _=>v = .u8 (aNJ x k)):=by
 refine aF (Γ:=Γ) (fn:=Tryz.f169) rfl rfl rfl rfl ?_
 refine Ret.intro (.u8 (aNJ x k)) [] [] rfl trivial rfl rfl ?_ rfl trivial rfl
 have:k = 0 \/ k = 1 \/ k = 2 \/ k = 3 \/ k = 4 \/ k = 5 \/ k = 6 \/ k = 7:=by omega
 rcases this with rfl | rfl | rfl | rfl | rfl | rfl | rfl | rfl
 all_goals rfl
theorem aJF (i:Nat):ofInt (i:Int) = ofNat i:=by
 apply UInt8.toNat_inj.1
 simp [ofInt]
 try omega
def aVS (q:UInt8):UInt8:=q ^^^ aNJ q 1 ^^^ aNJ q 2 ^^^ aNJ q 3 ^^^ aNJ q 4 ^^^ 99
def jp:Nat->UInt8 × UInt8 × List UInt8
 | 0=>(1,1,replicate 256 0)
 | n + 1=>let s:=jp n;(s.1 ^^^ dbl s.1,aL s.2.1 246,s.2.2.set s.1.toNat (aVS s.2.1))
def tabS:List UInt8:=(jp 255).2.2.set 0 99
def pC:Nat->List UInt8
 | 0=>replicate 256 0
 | i + 1=>(pC i).set (tabS.getD i 0).toNat (ofNat i)
def tabB:List UInt8:=pC 256
theorem mJ:∀ n,(jp n).2.2.length = 256
 | 0=>List.length_replicate
 | n + 1=>by simp only [jp,length_set,mJ n]
theorem nJ:tabS.length = 256:=by unfold tabS;rw [length_set,mJ]
theorem kL:∀ n,(pC n).length = 256
 | 0=>List.length_replicate
 | n + 1=>by simp only [pC,length_set,kL n]
def bc (s bk ks:List UInt8):Ent:=.mem true 0 [(256,.a8 s),(256,.a8 bk),(240,.a8 ks)]
theorem aTY (ks:List UInt8):Sx.Fn Γ.P 151 [.ptr 1000 0 none] [(1000,bc (replicate 256 0) (replicate 256 0) ks)]
  (fun v M=>v = .tup []/\M = [(1000,bc tabS tabB ks)]):=by
 refine aF (Γ:=Γ) (fn:=Tryz.f151) rfl rfl rfl rfl ?_
 refine ac.intro (σ:=Nat) (fun n=>n <= 255)
  (fun n=>([(0,.ptr 1000 0 none),(2,.u8 (jp n).1),(3,.u8 (jp n).2.1),(6,.i .i64 n)],[(1000,bc (jp n).2.2 (replicate 256 0) ks)])) (fun n=>255 - n) 0 (zero_le _) ?_ ?_
 ·exact Le.intro [] rfl fc rfl fc rfl
 intro n hn
 refine zB.intro (fun h=>?_) (fun h=>?_)
 ·refine aI.intro [[],[],[],[],[3],[2,3,4],[],[3,4,6],[2,3,4,5,6,7],[],[3,4,6,7,9],[2,3,4,5,6,7,8,9,10],[],[3,4,6,7,9,10,12],[2,3,4,5,6,7,8,9,10,11,12,13],[2,3,4,5,6,7,8,9,10,11,12,13,14],[0],[0,16],rL,aNM] [0,1,2,3,6,9,12,16,17,4,5,7,8,10,11,13,14,15,18,19] (by kernel_rfl) ?_
  refine Call.pure (aH1 (jp n).2.1 1 (by omega)) rfl fc ?_
  rintro _ rfl
  refine dC.intro [] rfl rfl ?_
  refine Call.pure (aH1 (jp n).2.1 2 (by omega)) rfl fc ?_
  rintro _ rfl
  refine dC.intro [] rfl rfl ?_
  refine Call.pure (aH1 (jp n).2.1 3 (by omega)) rfl fc ?_
  rintro _ rfl
  refine dC.intro [] rfl rfl ?_
  refine Call.pure (aH1 (jp n).2.1 4 (by omega)) rfl fc ?_
  rintro _ rfl
  refine dC.intro [] rfl rfl ?_
  repeat refine sd ?_
  refine Call.pure (aH2 (jp n).1) rfl fc ?_
  rintro _ rfl
  refine Call.pure (aQA (jp n).2.1 246) rfl fc ?_
  rintro _ rfl
  repeat refine sd ?_
  exact ⟨n + 1,by omega,by omega,Le.intro [] rfl fc rfl fc rfl⟩
 ·have:n = 255:=by omega
  subst this
  have htab:tabS = (jp 255).2.2.set 0 (ofNat 99):=rfl
  refine ac.intro (σ:=Nat) (fun i=>i <= 256)
   (fun i=>([(0,.ptr 1000 0 none),(41,.a8 tabS),(42,.i .i64 i)],[(1000,bc tabS (pC i) ks)])) (fun i=>256 - i) 0 (zero_le _) ?_ ?_
  ·exact Le.intro [] rfl fc rfl fc rfl
  intro i hi
  have hts:=nJ
  refine zB.intro (fun h=>?_) (fun h=>?_)
  ·repeat refine sd ?_
   have hv:pC (i + 1) = (pC i).set (tabS.getD (i:Int).toNat 0).toNat (ofInt (i:Int)):=by rw [aJF];rfl
   exact ⟨i + 1,by omega,by omega,Le.intro [] rfl fc rfl fc rfl⟩
  ·have:i = 256:=by omega
   subst this
   exact Ret.intro (.tup []) [(1000,bc tabS tabB ks)] [] rfl trivial ⟨rfl,rfl⟩ rfl trivial rfl fc rfl
def aIW (x:UInt8):UInt8:=tabS.getD x.toNat 0
def dA (w:List UInt8) (i:Nat):List UInt8:=(w.drop (4 * i)).take 4
def tOf (i:Nat) (t:List UInt8) (rnd:UInt8):List UInt8:=
 if i % 8 = 0 then [aIW (t.getD 1 0) ^^^ rnd,aIW (t.getD 2 0),aIW (t.getD 3 0),aIW (t.getD 0 0)]
 else if i % 8 = 4 then [aIW (t.getD 0 0),aIW (t.getD 1 0),aIW (t.getD 2 0),aIW (t.getD 3 0)] else t
def wK (i:Nat) (t w:List UInt8):Nat->List UInt8
 | 0=>w
 | k + 1=>(wK i t w k).set (4 * i + k) ((wK i t w k).getD (4 * (i - 8) + k) 0 ^^^ t.getD k 0)
def wGo (key:List UInt8):Nat->List UInt8 × UInt8
 | 0=>(replicate 240 0,1)
 | i + 1=>let s:=wGo key i
  if i < 8 then (s.1.take (4 * i) ++ (key.drop (4 * i)).take 4 ++ s.1.drop (4 * i + 4),s.2)
  else (wK i (tOf i (dA s.1 (i - 1)) s.2) s.1 4,if i % 8 = 0 then dbl s.2 else s.2)
def aGV (w:List UInt8):Nat->List UInt8
 | 0=>replicate 240 0
 | i + 1=>(aGV w i).take (4 * i) ++ dA w i ++ (aGV w i).drop (4 * i + 4)
def dc (key:List UInt8):List UInt8:=aGV (wGo key 60).1 60
theorem sD (i:Nat) (t w:List UInt8):∀ k,(wK i t w k).length = w.length
 | 0=>rfl
 | k + 1=>by simp only [wK,length_set,sD i t w k]
theorem fS {key:List UInt8} (hk:key.length = 32):∀ i,i <= 60->(wGo key i).1.length = 240
 | 0,_=>List.length_replicate
 | i + 1,h=>by
  have ih:=fS hk i (by omega)
  simp only [wGo]
  split
  ·simp only [zlA,zlT,zlD,ih,hk];omega
  ·rw [sD,ih]
theorem jL {w:List UInt8} (hw:w.length = 240):∀ j,j <= 60->(aGV w j).length = 240
 | 0,_=>List.length_replicate
 | j + 1,h=>by
  have ih:=jL hw j (by omega)
  simp only [aGV,dA,zlA,zlT,zlD,ih,hw];omega
theorem aGT (w:List UInt8) (hw:w.length = 240) (j:Nat) (h:j < 60):aGV w (j + 1) =
  (aGV w j).take (((j:Int) % 4 * 4).toNat * 1 + ((j:Int) / 4).toNat * 16) ++
   ((w.drop ((j:Int).toNat * 4)).take 4).take (min ((w.drop ((j:Int).toNat * 4)).take 4).length (16 - ((j:Int) % 4 * 4).toNat)) ++
   (aGV w j).drop (((j:Int) % 4 * 4).toNat * 1 + ((j:Int) / 4).toNat * 16 + min ((w.drop ((j:Int).toNat * 4)).take 4).length (16 - ((j:Int) % 4 * 4).toNat)):=by
 rw [show ((j:Int) % 4 * 4).toNat * 1 + ((j:Int) / 4).toNat * 16 = 4 * j by omega,show (j:Int).toNat * 4 = 4 * j by omega]
 have e:min ((w.drop (4 * j)).take 4).length (16 - ((j:Int) % 4 * 4).toNat) = 4:=by
  simp only [zlT,zlD,hw];omega
 rw [e,List.take_take,Nat.min_self]
 rfl
theorem uU (i:Nat) (t w:List UInt8) (k:Nat) (h:8 <= i):wK i t w (k + 1) =
  (wK i t w k).set ((k:Int).toNat + (i:Int).toNat * 4) ((wK i t w k).getD ((k:Int).toNat + ((i:Int) - 8).toNat * 4) 0 ^^^ t.getD (k:Int).toNat 0):=by
 rw [show (k:Int).toNat + (i:Int).toNat * 4 = 4 * i + k by omega,show (k:Int).toNat + ((i:Int) - 8).toNat * 4 = 4 * (i - 8) + k by omega];rfl
theorem aIG (w key:List UInt8) (hk:key.length = 32) (i:Nat) (h:i < 8) :
  w.take ((i:Int).toNat * 4) ++ ((key.drop ((4 * (i:Int)).toNat * 1 + 0)).take (32 - (4 * (i:Int)).toNat)).take (min ((key.drop ((4 * (i:Int)).toNat * 1 + 0)).take (32 - (4 * (i:Int)).toNat)).length 4) ++
   w.drop ((i:Int).toNat * 4 + min ((key.drop ((4 * (i:Int)).toNat * 1 + 0)).take (32 - (4 * (i:Int)).toNat)).length 4)
  = w.take (4 * i) ++ (key.drop (4 * i)).take 4 ++ w.drop (4 * i + 4):=by
 rw [show (i:Int).toNat * 4 = 4 * i by omega,show (4 * (i:Int)).toNat * 1 + 0 = 4 * i by omega,show (4 * (i:Int)).toNat = 4 * i by omega]
 have e:min ((key.drop (4 * i)).take (32 - 4 * i)).length 4 = 4:=by
  simp only [zlT,zlD,hk];omega
 rw [e,List.take_take,show min 4 (32 - 4 * i) = 4 by omega]
theorem aQI (key:List UInt8) (hk:key.length = 32):Sx.Fn Γ.P 105 [.a8 key] []
  (fun v M=>v = .ptr 1001 0 none/\M = [(1001,bc tabS tabB (dc key))]):=by
 refine aF (Γ:=Γ) (fn:=Tryz.f105) rfl rfl rfl rfl ?_
 repeat refine sd ?_
 refine Call.intro (aTY (replicate 240 0)) [(1000,(11,0,none))] rfl fc rfl fc rfl ?_
 rintro _ _ ⟨rfl,rfl⟩
 refine ac.intro (σ:=Nat) (fun i=>i <= 60)
  (fun i=>([(1,.ptr 1 0 none),(3,.ptr 11 0 none),(4,.ptr 4 0 none),(5,.u8 (wGo key i).2),(14,.i .i64 i)],
   [(1,.mem true 0 [(32,.a8 key)]),(11,bc tabS tabB (replicate 240 0)),(4,.mem true 0 [(240,.a8 (wGo key i).1)])])) (fun i=>60 - i) 0 (zero_le _) ?_ ?_
 ·exact Le.intro [] rfl fc rfl fc rfl
 intro i hi
 refine zB.intro (fun h=>?_) (fun h=>?_)
 ·refine zB.intro (fun h8=>?_) (fun h8=>?_)
  ·have hwl:=fS hk i (by omega)
   refine aI.intro [[],[0],[0,1],[],[3],[3,4],r_6] r_7 (by kernel_rfl) ?_
   repeat refine sd ?_
   have hw:=aIG (wGo key i).1 key hk i (by omega)
   have hw2:(wGo key (i + 1)).1 = (wGo key i).1.take (4 * i) ++ (key.drop (4 * i)).take 4 ++ (wGo key i).1.drop (4 * i + 4):=by
    show (if i < 8 then _ else _:List UInt8 × UInt8).1 = _
    rw [if_pos (by omega)]
   have hw3:(wGo key (i + 1)).2 = (wGo key i).2:=by
    show (if i < 8 then _ else _:List UInt8 × UInt8).2 = _
    rw [if_pos (by omega)]
   rw [<- hw2] at hw
   refine ⟨i + 1,by omega,by omega,Le.intro [] rfl fc rfl ⟨rfl,rfl,rfl,rfl,rfl,rfl,rfl,rfl,rfl,rfl,rfl,rfl,?_⟩ rfl⟩
   exact hw.symm
  ·have hwl:=fS hk i (by omega)
   have htl:((wGo key i).1.drop (4 * (i - 1))).take 4 = dA (wGo key i).1 (i - 1):=rfl
   repeat refine sd ?_
   have hw2:(wGo key (i + 1)).1 = wK i (tOf i (dA (wGo key i).1 (i - 1)) (wGo key i).2) (wGo key i).1 4:=by
    show (if i < 8 then _ else _:List UInt8 × UInt8).1 = _
    rw [if_neg (by omega)]
   have hw3:(wGo key (i + 1)).2 = if i % 8 = 0 then dbl (wGo key i).2 else (wGo key i).2:=by
    show (if i < 8 then _ else _:List UInt8 × UInt8).2 = _
    rw [if_neg (by omega)]
   have ht:((wGo key i).1.drop (((i:Int) - 1).toNat * 4)).take 4 = dA (wGo key i).1 (i - 1):=by
    rw [show ((i:Int) - 1).toNat * 4 = 4 * (i - 1) by omega];rfl
   refine zB.intro (fun h0=>?_) (fun h0=>?_)
   ·refine aI.intro [[],[],[1],[0],[0,3],r_5,r_6,[],r_8,[],[],[10],[9],[9,12],[9,10,11,12,13],[9,10,11,12,13,14],[],[],[17],[16],[16,19],[16,17,18,19,20],[16,17,18,19,20,21],[],[],[24],[23],[23,26],[23,24,25,26,27],[23,24,25,26,27,28],aNL,aSJ] aRJ (by kernel_rfl) ?_
    repeat refine sd ?_
    refine Call.pure (aH2 (wGo key i).2) rfl fc ?_
    rintro _ rfl
    have hT:tOf i (dA (wGo key i).1 (i - 1)) (wGo key i).2 = [tabS.getD ((((wGo key i).1.drop (((i:Int) - 1).toNat * 4)).take 4).getD 1 0).toNat 0 ^^^ (wGo key i).2,tabS.getD ((((wGo key i).1.drop (((i:Int) - 1).toNat * 4)).take 4).getD 2 0).toNat 0,tabS.getD ((((wGo key i).1.drop (((i:Int) - 1).toNat * 4)).take 4).getD 3 0).toNat 0,tabS.getD ((((wGo key i).1.drop (((i:Int) - 1).toNat * 4)).take 4).getD 0 0).toNat 0]:=by
     unfold tOf
     rw [if_pos (show i % 8 = 0 by omega),ht]
     try rfl
    have hR:(if i % 8 = 0 then dbl (wGo key i).2 else (wGo key i).2) = dbl (wGo key i).2:=by rw [if_pos (show i % 8 = 0 by omega)]
    refine ac.intro (σ:=Nat) (fun k=>k <= 4)
     (fun k=>([(1,.ptr 1 0 none),(3,.ptr 11 0 none),(4,.ptr 4 0 none),(5,.u8 (if i % 8 = 0 then dbl (wGo key i).2 else (wGo key i).2)),(6,.i .i64 i),(7,.ptr 7 0 none),(14,.i .i64 i),(98,.i .i64 k)],
      [(1,.mem true 0 [(32,.a8 key)]),(11,bc tabS tabB (replicate 240 0)),(4,.mem true 0 [(240,.a8 (wK i (tOf i (dA (wGo key i).1 (i - 1)) (wGo key i).2) (wGo key i).1 k))]),(7,.mem true 0 [(4,.a8 (tOf i (dA (wGo key i).1 (i - 1)) (wGo key i).2))])])) (fun i=>4 - i) 0 (zero_le _) ?_ ?_
    ·exact Le.intro [] rfl ⟨hR,rfl,rfl,rfl⟩ rfl ⟨rfl,rfl,rfl,rfl,rfl,rfl,rfl,rfl,rfl,rfl,rfl,rfl,rfl,rfl,rfl,hT⟩ rfl
    intro k hk4
    refine zB.intro (fun hk5=>?_) (fun hk5=>?_)
    ·refine aI.intro [[],[],[],[2],[],[2,3],[2,3,4,5],[2,3,4,5,6],[],[8],[8,9],[2,3,4,5,6,7,8,9,10],[0],nb,sj] uM (by kernel_rfl) ?_
     repeat refine sd ?_
     have hv:=uU i (tOf i (dA (wGo key i).1 (i - 1)) (wGo key i).2) (wGo key i).1 k (by omega)
     exact ⟨k + 1,by omega,by omega,Le.intro [] rfl fc rfl ⟨rfl,rfl,rfl,rfl,rfl,rfl,rfl,rfl,rfl,rfl,rfl,rfl,hv,rfl,rfl,rfl⟩ rfl⟩
    ·have:k = 4:=by omega
     subst this
     repeat refine sd ?_
     refine ⟨i + 1,by omega,by omega,Le.intro [] rfl fc rfl fc rfl⟩
   ·repeat refine sd ?_
    refine zB.intro (fun h4=>?_) (fun h4=>?_)
    ·refine aI.intro [[],[],[1],[0],[0,3],r_5,r_6,[],[],[8],[7],[7,10],[7,8,9,10,11],[7,8,9,10,11,12],[],[],[15],[14],[14,17],[14,15,16,17,18],[14,15,16,17,18,19],[],[],[22],[21],[21,24],[21,22,23,24,25],[21,22,23,24,25,26],aSK,aI2] aNL (by kernel_rfl) ?_
     repeat refine sd ?_
     have hT:tOf i (dA (wGo key i).1 (i - 1)) (wGo key i).2 = [tabS.getD ((((wGo key i).1.drop (((i:Int) - 1).toNat * 4)).take 4).getD 0 0).toNat 0,tabS.getD ((((wGo key i).1.drop (((i:Int) - 1).toNat * 4)).take 4).getD 1 0).toNat 0,tabS.getD ((((wGo key i).1.drop (((i:Int) - 1).toNat * 4)).take 4).getD 2 0).toNat 0,tabS.getD ((((wGo key i).1.drop (((i:Int) - 1).toNat * 4)).take 4).getD 3 0).toNat 0]:=by
      unfold tOf
      rw [if_neg (show ¬ i % 8 = 0 by omega),if_pos (show i % 8 = 4 by omega),ht]
      try rfl
     have hR:(if i % 8 = 0 then dbl (wGo key i).2 else (wGo key i).2) = (wGo key i).2:=by rw [if_neg (show ¬ i % 8 = 0 by omega)]
     refine ac.intro (σ:=Nat) (fun k=>k <= 4)
      (fun k=>([(1,.ptr 1 0 none),(3,.ptr 11 0 none),(4,.ptr 4 0 none),(5,.u8 (if i % 8 = 0 then dbl (wGo key i).2 else (wGo key i).2)),(6,.i .i64 i),(7,.ptr 7 0 none),(14,.i .i64 i),(98,.i .i64 k)],
       [(1,.mem true 0 [(32,.a8 key)]),(11,bc tabS tabB (replicate 240 0)),(4,.mem true 0 [(240,.a8 (wK i (tOf i (dA (wGo key i).1 (i - 1)) (wGo key i).2) (wGo key i).1 k))]),(7,.mem true 0 [(4,.a8 (tOf i (dA (wGo key i).1 (i - 1)) (wGo key i).2))])])) (fun i=>4 - i) 0 (zero_le _) ?_ ?_
     ·exact Le.intro [] rfl ⟨hR,rfl,rfl,rfl⟩ rfl ⟨rfl,rfl,rfl,rfl,rfl,rfl,rfl,rfl,rfl,rfl,rfl,rfl,rfl,rfl,rfl,hT⟩ rfl
     intro k hk4
     refine zB.intro (fun hk5=>?_) (fun hk5=>?_)
     ·refine aI.intro [[],[],[],[2],[],[2,3],[2,3,4,5],[2,3,4,5,6],[],[8],[8,9],[2,3,4,5,6,7,8,9,10],[0],nb,sj] uM (by kernel_rfl) ?_
      repeat refine sd ?_
      have hv:=uU i (tOf i (dA (wGo key i).1 (i - 1)) (wGo key i).2) (wGo key i).1 k (by omega)
      exact ⟨k + 1,by omega,by omega,Le.intro [] rfl fc rfl ⟨rfl,rfl,rfl,rfl,rfl,rfl,rfl,rfl,rfl,rfl,rfl,rfl,hv,rfl,rfl,rfl⟩ rfl⟩
     ·have:k = 4:=by omega
      subst this
      repeat refine sd ?_
      refine ⟨i + 1,by omega,by omega,Le.intro [] rfl fc rfl fc rfl⟩
    ·skip
     have hT:tOf i (dA (wGo key i).1 (i - 1)) (wGo key i).2 = (((wGo key i).1.drop (((i:Int) - 1).toNat * 4)).take 4):=by
      unfold tOf
      rw [if_neg (show ¬ i % 8 = 0 by omega),if_neg (show ¬ i % 8 = 4 by omega),ht]
      try rfl
     have hR:(if i % 8 = 0 then dbl (wGo key i).2 else (wGo key i).2) = (wGo key i).2:=by rw [if_neg (show ¬ i % 8 = 0 by omega)]
     refine ac.intro (σ:=Nat) (fun k=>k <= 4)
      (fun k=>([(1,.ptr 1 0 none),(3,.ptr 11 0 none),(4,.ptr 4 0 none),(5,.u8 (if i % 8 = 0 then dbl (wGo key i).2 else (wGo key i).2)),(6,.i .i64 i),(7,.ptr 7 0 none),(14,.i .i64 i),(98,.i .i64 k)],
       [(1,.mem true 0 [(32,.a8 key)]),(11,bc tabS tabB (replicate 240 0)),(4,.mem true 0 [(240,.a8 (wK i (tOf i (dA (wGo key i).1 (i - 1)) (wGo key i).2) (wGo key i).1 k))]),(7,.mem true 0 [(4,.a8 (tOf i (dA (wGo key i).1 (i - 1)) (wGo key i).2))])])) (fun i=>4 - i) 0 (zero_le _) ?_ ?_
     ·exact Le.intro [] rfl ⟨hR,rfl,rfl,rfl⟩ rfl ⟨rfl,rfl,rfl,rfl,rfl,rfl,rfl,rfl,rfl,rfl,rfl,rfl,rfl,rfl,rfl,hT⟩ rfl
     intro k hk4
     refine zB.intro (fun hk5=>?_) (fun hk5=>?_)
     ·refine aI.intro [[],[],[],[2],[],[2,3],[2,3,4,5],[2,3,4,5,6],[],[8],[8,9],[2,3,4,5,6,7,8,9,10],[0],nb,sj] uM (by kernel_rfl) ?_
      repeat refine sd ?_
      have hv:=uU i (tOf i (dA (wGo key i).1 (i - 1)) (wGo key i).2) (wGo key i).1 k (by omega)
      exact ⟨k + 1,by omega,by omega,Le.intro [] rfl fc rfl ⟨rfl,rfl,rfl,rfl,rfl,rfl,rfl,rfl,rfl,rfl,rfl,rfl,hv,rfl,rfl,rfl⟩ rfl⟩
     ·have:k = 4:=by omega
      subst this
      repeat refine sd ?_
      refine ⟨i + 1,by omega,by omega,Le.intro [] rfl fc rfl fc rfl⟩
 ·have:i = 60:=by omega
  subst this
  refine ac.intro (σ:=Nat) (fun j=>j <= 60)
   (fun j=>([(3,.ptr 11 0 none),(4,.ptr 4 0 none),(117,.i .i64 j)],
    [(11,bc tabS tabB (aGV (wGo key 60).1 j)),(4,.mem true 0 [(240,.a8 (wGo key 60).1)])])) (fun j=>60 - j) 0 (zero_le _) ?_ ?_
  ·exact Le.intro [] rfl fc rfl fc rfl
  intro j hj
  have hwl:=fS hk 60 (by omega)
  have hpl:=jL hwl j hj
  refine zB.intro (fun h2=>?_) (fun h2=>?_)
  ·refine aI.intro [[],[],[1],[0],[0,3],r_5,[],[6],[6,7],r_9,[],[10],[10,11],nb] sj (by kernel_rfl) ?_
   repeat refine sd ?_
   have hv:=aGT (wGo key 60).1 hwl j (by omega)
   exact ⟨j + 1,by omega,by omega,Le.intro [] rfl fc rfl ⟨rfl,rfl,rfl,rfl,rfl,rfl,hv,rfl,rfl,rfl⟩ rfl⟩
  ·have:j = 60:=by omega
   subst this
   repeat refine sd ?_
   exact Ret.intro (.ptr 1001 0 none) [(1001,bc tabS tabB (dc key))] [(1001,(11,0,none))] rfl trivial ⟨rfl,rfl⟩ rfl trivial rfl fc rfl
theorem cg {key:List UInt8} (hk:key.length = 32):(dc key).length = 240:=jL (fS hk 60 (by omega)) 60 (by omega)
def natS:List Nat:=[99,124,119,123,242,107,111,197,48,1,103,43,254,215,171,118,202,130,201,125,250,89,71,
240,173,212,162,175,156,164,114,192,183,253,147,38,54,63,247,204,52,165,229,241,113,216,
49,21,4,199,35,195,24,150,5,154,7,18,128,226,235,39,178,117,9,131,44,26,27,110,90,
160,82,59,214,179,41,227,47,132,83,209,0,237,32,252,177,91,106,203,190,57,74,76,88,
207,208,239,170,251,67,77,51,133,69,249,2,127,80,60,159,168,81,163,64,143,146,157,56,
245,188,182,218,33,16,255,243,210,205,12,19,236,95,151,68,23,196,167,126,61,100,93,25,
115,96,129,79,220,34,42,144,136,70,238,184,20,222,94,11,219,224,50,58,10,73,6,36,92,
194,211,172,98,145,149,228,121,231,200,55,109,141,213,78,169,108,86,244,234,101,122,174,
8,186,120,37,46,28,166,180,198,232,221,116,31,75,189,139,138,112,62,181,102,72,3,246,
14,97,53,87,185,134,193,29,158,225,248,152,17,105,217,142,148,155,30,135,233,206,85,40,
223,140,161,137,13,191,230,66,104,65,153,45,15,176,84,187,22]
def natB:List Nat:=[82,9,106,213,48,54,165,56,191,64,163,158,129,243,215,251,124,227,57,130,155,47,255,135,
52,142,67,68,196,222,233,203,84,123,148,50,166,194,35,61,238,76,149,11,66,250,195,78,
8,46,161,102,40,217,36,178,118,91,162,73,109,139,209,37,114,248,246,100,134,104,152,22,
212,164,92,204,93,101,182,146,108,112,72,80,253,237,185,218,94,21,70,87,167,141,157,
132,144,216,171,0,140,188,211,10,247,228,88,5,184,179,69,6,208,44,30,143,202,63,15,2,
193,175,189,3,1,19,138,107,58,145,17,65,79,103,220,234,151,242,207,206,240,180,230,115,
150,172,116,34,231,173,53,133,226,249,55,232,28,117,223,110,71,241,26,113,29,41,197,
137,111,183,98,14,170,24,190,27,252,86,62,75,198,210,121,32,154,219,192,254,120,205,90,
244,31,221,168,51,136,7,199,49,177,18,16,89,39,128,236,95,96,81,127,169,25,181,74,13,
45,229,122,159,147,201,156,239,160,224,59,77,174,42,245,176,200,235,187,60,131,83,153,
97,23,43,4,126,186,119,214,38,225,105,20,99,85,33,12,125]
set_option maxRecDepth 1000000 in
theorem aGD:tabS.map toNat = natS:=by kernel_rfl
set_option maxRecDepth 1000000 in
theorem aGE:tabB.map toNat = natB:=by kernel_rfl
set_option maxRecDepth 1000000 in
theorem aSY:(List.range 256).all (fun i=>beq (natB.getD (natS.getD i 0) 0) i) = true:=by kernel_rfl
theorem xg (l:List UInt8) (i:Nat):(l.map toNat).getD i 0 = (l.getD i 0).toNat:=by
 simp only [List.getD_eq_getElem?_getD,List.getElem?_map]
 cases l[i]? <;> rfl
theorem aQ5 (x:UInt8):tabB.getD (tabS.getD x.toNat 0).toNat 0 = x:=by
 apply UInt8.toNat_inj.1
 rw [<- xg,<- xg,aGD,aGE]
 exact Nat.eq_of_beq_eq_true (List.all_eq_true.1 aSY x.toNat (List.mem_range.2 x.toNat_lt))
theorem aHG {l:List UInt8} (h:l.length = 16):∃ a0 a1 a2 a3 a4 a5 a6 a7 a8 a9 a10 a11 a12 a13 a14 a15,l = [a0,a1,a2,a3,a4,a5,a6,a7,a8,a9,a10,a11,a12,a13,a14,a15]:=by
 match l,h with
 | [a0,a1,a2,a3,a4,a5,a6,a7,a8,a9,a10,a11,a12,a13,a14,a15],_=>exact ⟨a0,a1,a2,a3,a4,a5,a6,a7,a8,a9,a10,a11,a12,a13,a14,a15,rfl⟩
theorem sE {b:List UInt8} (h:b.length = 16):jE tabB (uK tabS b 16) 16 = b:=by
 obtain ⟨a0,a1,a2,a3,a4,a5,a6,a7,a8,a9,a10,a11,a12,a13,a14,a15,rfl⟩:=aHG h
 have:jE tabB (uK tabS [a0,a1,a2,a3,a4,a5,a6,a7,a8,a9,a10,a11,a12,a13,a14,a15] 16) 16 =
  [a0,a1,a2,a3,a4,a5,a6,a7,a8,a9,a10,a11,a12,a13,a14,a15].map (fun x=>tabB.getD (tabS.getD x.toNat 0).toNat 0):=by kernel_rfl
 rw [this,List.map_congr_left (g:=id) (fun x _=>aQ5 x),List.map_id]
theorem wc {k b:List UInt8} (hk:k.length = 16) (h:b.length = 16):dP k 16 (dP k 16 b) = b:=by
 obtain ⟨a0,a1,a2,a3,a4,a5,a6,a7,a8,a9,a10,a11,a12,a13,a14,a15,rfl⟩:=aHG h
 obtain ⟨k0,k1,k2,k3,k4,k5,k6,k7,k8,k9,k10,k11,k12,k13,k14,k15,rfl⟩:=aHG hk
 have:dP [k0,k1,k2,k3,k4,k5,k6,k7,k8,k9,k10,k11,k12,k13,k14,k15] 16 (dP [k0,k1,k2,k3,k4,k5,k6,k7,k8,k9,k10,k11,k12,k13,k14,k15] 16 [a0,a1,a2,a3,a4,a5,a6,a7,a8,a9,a10,a11,a12,a13,a14,a15]) = [a0 ^^^ k0 ^^^ k0,a1 ^^^ k1 ^^^ k1,a2 ^^^ k2 ^^^ k2,a3 ^^^ k3 ^^^ k3,a4 ^^^ k4 ^^^ k4,a5 ^^^ k5 ^^^ k5,a6 ^^^ k6 ^^^ k6,a7 ^^^ k7 ^^^ k7,a8 ^^^ k8 ^^^ k8,a9 ^^^ k9 ^^^ k9,a10 ^^^ k10 ^^^ k10,a11 ^^^ k11 ^^^ k11,a12 ^^^ k12 ^^^ k12,a13 ^^^ k13 ^^^ k13,a14 ^^^ k14 ^^^ k14,a15 ^^^ k15 ^^^ k15]:=by kernel_rfl
 rw [this]
 simp only [UInt8.xor_assoc,xor_self,xor_zero]
theorem aGH (a b:UInt8):pJ (a ^^^ b) 1 = pJ a 1 ^^^ pJ b 1:=by
 unfold pJ
 rw [toNat_xor,Nat.shiftLeft_xor_distrib]
 apply UInt8.toNat_inj.1
 rw [toNat_xor,toNat_ofNat',toNat_ofNat',toNat_ofNat',Nat.xor_mod_two_pow]
theorem uc {n:Nat} (h:n < 256):n < 128 ↔ n.testBit 7 = false:=by
 rw [Nat.testBit_eq_decide_div_mod_eq,decide_eq_false_iff_not];omega
theorem aMU (a b:UInt8):dbl (a ^^^ b) = dbl a ^^^ dbl b:=by
 have ha:=uc a.toNat_lt
 have hb:=uc b.toNat_lt
 have hab:=uc (a ^^^ b).toNat_lt
 rw [toNat_xor,Nat.testBit_xor] at hab
 unfold dbl
 rw [aGH,toNat_xor]
 cases h1:a.toNat.testBit 7 <;> cases h2:b.toNat.testBit 7 <;> simp only [h1,h2,Bool.xor_self,Bool.xor_false,Bool.false_xor,iff_true,iff_false,Bool.true_eq_false] at ha hb hab <;> simp only [ha,hb,hab,if_true,if_false]
 ·ac_rfl
 ·ac_rfl
 ·rw [show pJ a 1 ^^^ 27 ^^^ (pJ b 1 ^^^ 27) = pJ a 1 ^^^ pJ b 1 ^^^ (27 ^^^ 27) by ac_rfl,xor_self,xor_zero]
theorem aBN:∀ (n:Nat) (a b m p q:UInt8),tms n (a ^^^ b) m (p ^^^ q) = tms n a m p ^^^ tms n b m q
 | 0,_,_,_,_,_=>rfl
 | n + 1,a,b,m,p,q=>by
  simp only [tms]
  rw [aMU,<- aBN n]
  congr 1
  split
  ·ac_rfl
  ·rfl
theorem aBO (a b m:UInt8):aL (a ^^^ b) m = aL a m ^^^ aL b m:=by
 unfold aL
 rw [<- aBN,xor_self]
def col (m0 m1 m2 m3 x0 x1 x2 x3:UInt8):UInt8:=0 ^^^ aL x0 m0 ^^^ aL x1 m1 ^^^ aL x2 m2 ^^^ aL x3 m3
theorem xL (a0 a1 a2 a3 a4 a5 a6 a7 a8 a9 a10 a11 a12 a13 a14 a15 m0 m1 m2 m3:UInt8):vU [a0,a1,a2,a3,a4,a5,a6,a7,a8,a9,a10,a11,a12,a13,a14,a15] [m0,m1,m2,m3] 16 =
 [col m0 m1 m2 m3 a0 a1 a2 a3,col m0 m1 m2 m3 a1 a2 a3 a0,col m0 m1 m2 m3 a2 a3 a0 a1,col m0 m1 m2 m3 a3 a0 a1 a2,col m0 m1 m2 m3 a4 a5 a6 a7,col m0 m1 m2 m3 a5 a6 a7 a4,col m0 m1 m2 m3 a6 a7 a4 a5,col m0 m1 m2 m3 a7 a4 a5 a6,col m0 m1 m2 m3 a8 a9 a10 a11,col m0 m1 m2 m3 a9 a10 a11 a8,col m0 m1 m2 m3 a10 a11 a8 a9,col m0 m1 m2 m3 a11 a8 a9 a10,col m0 m1 m2 m3 a12 a13 a14 a15,col m0 m1 m2 m3 a13 a14 a15 a12,col m0 m1 m2 m3 a14 a15 a12 a13,col m0 m1 m2 m3 a15 a12 a13 a14]:=by kernel_rfl
theorem aAY (a:UInt8):0 ^^^ a = a:=UInt8.zero_xor
set_option maxRecDepth 1000000 in
theorem aLN:(List.range 256).all (fun i=>beq (aL (aL (ofNat i) 2) 14 ^^^ aL (aL (ofNat i) 1) 11 ^^^ aL (aL (ofNat i) 1) 13 ^^^ aL (aL (ofNat i) 3) 9).toNat i) = true:=by kernel_rfl
theorem aHQ (x:UInt8):aL (aL x 2) 14 ^^^ aL (aL x 1) 11 ^^^ aL (aL x 1) 13 ^^^ aL (aL x 3) 9 = x:=by
 have:=Nat.eq_of_beq_eq_true (List.all_eq_true.1 aLN x.toNat (List.mem_range.2 x.toNat_lt))
 rw [ofNat_toNat] at this
 exact UInt8.toNat_inj.1 this
set_option maxRecDepth 1000000 in
theorem aLM:(List.range 256).all (fun i=>beq (aL (aL (ofNat i) 3) 14 ^^^ aL (aL (ofNat i) 2) 11 ^^^ aL (aL (ofNat i) 1) 13 ^^^ aL (aL (ofNat i) 1) 9).toNat 0) = true:=by kernel_rfl
theorem aHP (x:UInt8):aL (aL x 3) 14 ^^^ aL (aL x 2) 11 ^^^ aL (aL x 1) 13 ^^^ aL (aL x 1) 9 = 0:=by
 have:=Nat.eq_of_beq_eq_true (List.all_eq_true.1 aLM x.toNat (List.mem_range.2 x.toNat_lt))
 rw [ofNat_toNat] at this
 exact UInt8.toNat_inj.1 this
set_option maxRecDepth 1000000 in
theorem aLL:(List.range 256).all (fun i=>beq (aL (aL (ofNat i) 1) 14 ^^^ aL (aL (ofNat i) 3) 11 ^^^ aL (aL (ofNat i) 2) 13 ^^^ aL (aL (ofNat i) 1) 9).toNat 0) = true:=by kernel_rfl
theorem aHO (x:UInt8):aL (aL x 1) 14 ^^^ aL (aL x 3) 11 ^^^ aL (aL x 2) 13 ^^^ aL (aL x 1) 9 = 0:=by
 have:=Nat.eq_of_beq_eq_true (List.all_eq_true.1 aLL x.toNat (List.mem_range.2 x.toNat_lt))
 rw [ofNat_toNat] at this
 exact UInt8.toNat_inj.1 this
set_option maxRecDepth 1000000 in
theorem aLK:(List.range 256).all (fun i=>beq (aL (aL (ofNat i) 1) 14 ^^^ aL (aL (ofNat i) 1) 11 ^^^ aL (aL (ofNat i) 3) 13 ^^^ aL (aL (ofNat i) 2) 9).toNat 0) = true:=by kernel_rfl
theorem aHN (x:UInt8):aL (aL x 1) 14 ^^^ aL (aL x 1) 11 ^^^ aL (aL x 3) 13 ^^^ aL (aL x 2) 9 = 0:=by
 have:=Nat.eq_of_beq_eq_true (List.all_eq_true.1 aLK x.toNat (List.mem_range.2 x.toNat_lt))
 rw [ofNat_toNat] at this
 exact UInt8.toNat_inj.1 this
theorem aQZ (x0 x1 x2 x3:UInt8):col 14 11 13 9 (col 2 3 1 1 x0 x1 x2 x3) (col 2 3 1 1 x1 x2 x3 x0) (col 2 3 1 1 x2 x3 x0 x1) (col 2 3 1 1 x3 x0 x1 x2) = x0:=by
 unfold col
 simp only [aAY,aBO]
 have e:∀ a b c d e f g h i j k l m n o p:UInt8,a ^^^ b ^^^ c ^^^ d ^^^ (e ^^^ f ^^^ g ^^^ h) ^^^ (i ^^^ j ^^^ k ^^^ l) ^^^ (m ^^^ n ^^^ o ^^^ p) =
   (a ^^^ h ^^^ k ^^^ n) ^^^ (b ^^^ e ^^^ l ^^^ o) ^^^ (c ^^^ f ^^^ i ^^^ p) ^^^ (d ^^^ g ^^^ j ^^^ m):=by intros;ac_rfl
 rw [e,aHQ,aHP,aHO,aHN,xor_zero,xor_zero,xor_zero]
theorem aPB {b:List UInt8} (h:b.length = 16):vU (vU b [2,3,1,1] 16) [14,11,13,9] 16 = b:=by
 obtain ⟨a0,a1,a2,a3,a4,a5,a6,a7,a8,a9,a10,a11,a12,a13,a14,a15,rfl⟩:=aHG h
 rw [xL,xL]
 simp only [aQZ]
theorem aF6 {ks b:List UInt8} (hk:ks.length = 240) (hb:b.length = 16) {r:Nat} (hr:r <= 14):jE tabB (eX ks r (jv tabS ks r b)) 16 = b:=by
 have hs:=eY tabS b 16
 have hkr:=bZ hk hr
 unfold eX jv
 split
 ·rw [wc hkr (dK _ _ _),aPB hs,sE hb]
 ·rw [wc hkr hs,sE hb]
theorem sH {ks b:List UInt8} (hk:ks.length = 240) (hb:b.length = 16):∀ n,n <= 14->jG tabB ks (bP tabS ks b 14) n = bP tabS ks b (14 - n)
 | 0,_=>rfl
 | n + 1,h=>by
  have ih:=sH hk hb n (by omega)
  simp only [jG]
  rw [ih,show 14 - n = (14 - (n + 1)) + 1 by omega]
  exact aF6 hk (gM _ _ hb _) (by omega)
theorem uY {ks b:List UInt8} (hk:ks.length = 240) (hb:b.length = 16):jF tabB ks (bP tabS ks b 14) = b:=by
 unfold jF
 rw [sH hk hb 14 (Nat.le_refl _)]
 exact wc (bZ hk (zero_le _)) hb
theorem pO {ks b:List UInt8} (hb:b.length = 16):(jF tabB ks b).length = 16:=by
 unfold jF;rw [bL,nF _ _ hb]
def og (text:List UInt8):UInt8:=ofNat (16 - text.length % 16)
def pT (text:List UInt8) (k:Nat):UInt8:=if k < text.length then text.getD k 0 else og text
def xKc (last text:List UInt8) (i:Nat):Nat->List UInt8
 | 0=>last
 | j + 1=>(xKc last text i j).set j ((xKc last text i j).getD j 0 ^^^ pT text (16 * i + j))
@[irreducible] def aF1 (key b:List UInt8):List UInt8:=bP tabS (dc key) b 14
theorem oo (key:List UInt8) {b:List UInt8} (hb:b.length = 16):(aF1 key b).length = 16:=by unfold aF1;exact gM tabS (dc key) hb 14
def bG (key bg text:List UInt8):Nat->List UInt8 × List UInt8
 | 0=>(bg,[])
 | i + 1=>let s:=bG key bg text i
  let l:=aF1 key (xKc s.1 text i 16)
  (l,s.2 ++ l)
def bp (key bg text:List UInt8):List UInt8:=(bG key bg text (text.length / 16 + 1)).2
theorem fR (last text:List UInt8) (i:Nat):∀ j,(xKc last text i j).length = last.length
 | 0=>rfl
 | j + 1=>by simp only [xKc,length_set,fR last text i j]
theorem cr (key:List UInt8) {bg:List UInt8} (hb:bg.length = 16) (text:List UInt8):∀ i,(bG key bg text i).1.length = 16
 | 0=>hb
 | i + 1=>by
  simp only [bG]
  exact oo key (by rw [fR];exact cr key hb text i)
theorem eL (key:List UInt8) {bg:List UInt8} (hb:bg.length = 16) (text:List UInt8):∀ i,(bG key bg text i).2.length = 16 * i
 | 0=>rfl
 | i + 1=>by
  have h1:=eL key hb text i
  have h2:=cr key hb text (i + 1)
  have e:(bG key bg text (i + 1)).2 = (bG key bg text i).2 ++ (bG key bg text (i + 1)).1:=rfl
  rw [e,zlA,h1,h2]
  omega
theorem aTA (key b:List UInt8) (hk:key.length = 32) (hb:b.length = 16) :
  Sx.Fn Γ.P 106 [.ptr 1000 0 none,.a8 b] [(1000,b8 tabS tabB (dc key))] (fun v M=>v = .a8 (aF1 key b)/\M = [(1000,b8 tabS tabB (dc key))]):=by
 unfold aF1
 exact aT9 tabS tabB (dc key) b nJ (kL 256) (cg hk) hb
theorem aWO (key bg text:List UInt8) (n:Nat) (hk:key.length = 32) (hb:bg.length = 16) (hn:text.length = n) (hmax:n <= 4096) :
  Sx.Fn Γ.P 51 [.a8 key,.a8 bg,.slx 1000 0 0 n] [(1000,.mem false 0 [(n,.a8 text)])] (fun v M=>∃ c,n / 16 * 16 + 16 <= c/\v = .sl 1001 0 0 (n / 16 * 16 + 16) c/\M = [(1000,.mem false 0 [(n,.a8 text)]),(1001,.mem true (c - (n / 16 * 16 + 16)) [(n / 16 * 16 + 16,.a8 (bp key bg text))])]):=by
 have hfill:og text = ofInt (16 - (n:Int) % 16):=by
  unfold og
  rw [show (16 - (n:Int) % 16) = ((16 - text.length % 16:Nat):Int) by omega,aJF]
 refine aF (Γ:=Γ) (fn:=Tryz.f51) rfl rfl rfl rfl ?_
 repeat refine sd ?_
 refine aI.intro [[],[0],[],[],[0,1,3],r_5] [0,2,3,1,4,5] (by kernel_rfl) ?_
 repeat refine sd ?_
 refine Call.intro (aQI key hk) [(1001,(1001,0,none))] rfl fc rfl trivial rfl ?_
 rintro _ _ ⟨rfl,rfl⟩
 refine dC.intro [(1001,bc tabS tabB (dc key))] rfl rfl ?_
 repeat refine sd ?_
 refine ac.intro (σ:=Nat × Nat) (fun s=>s.1 <= n / 16 + 1/\16 * s.1 <= s.2)
  (fun s=>([(2,.slx 1000 0 0 n),(7,.ptr 1001 0 none),(8,.ptr 8 0 none),(9,.sl 1005 0 0 (16 * s.1) s.2),(10,.u8 (og text)),(11,.i .i64 (16 * s.1:Nat))],
   [(1000,.mem false 0 [(n,.a8 text)]),(8,.mem true 0 [(16,.a8 (bG key bg text s.1).1)]),(1001,bc tabS tabB (dc key)),(1005,.mem true (s.2 - 16 * s.1) [(16 * s.1,.a8 (bG key bg text s.1).2)])])) (fun s=>n / 16 + 1 - s.1) (0,n / 16 * 16 + 16) ?_ ?_ ?_
 ·exact ⟨zero_le _,zero_le _⟩
 ·refine Le.intro [(1005,(22,0,none))] rfl fc rfl fc rfl
 ·rintro ⟨i,c⟩ ⟨hi,hc⟩
  simp only at hi hc ⊢
  have hl1:=cr key hb text i
  have hl2:=eL key hb text i
  refine zB.intro (fun h=>?_) (fun h=>?_)
  ·repeat refine sd ?_
   refine ac.intro (σ:=Nat) (fun j=>j <= 16)
    (fun j=>([(7,.ptr 1001 0 none),(8,.ptr 8 0 none),(9,.sl 1005 0 0 (16 * i) c),(10,.u8 (og text)),(11,.i .i64 (16 * i:Nat)),(2,.slx 1000 0 0 n),(12,.slx 1000 0 (16 * i) (min 16 (n - 16 * i))),(44,.i .i64 j)],
     [(1000,.mem false 0 [(n,.a8 text)]),(8,.mem true 0 [(16,.a8 (xKc (bG key bg text i).1 text i j))]),(1001,bc tabS tabB (dc key)),(1005,.mem true (c - 16 * i) [(16 * i,.a8 (bG key bg text i).2)])])) (fun j=>16 - j) 0 (zero_le _) ?_ ?_
   ·have e1:min 16 (n - 16 * i) = (if (n:Int) < ↑(16 * i) + 16 then (n:Int) else ↑(16 * i) + 16).toNat - (↑(16 * i):Int).toNat:=by split <;> omega
    exact Le.intro [] rfl fc rfl fc rfl
   ·rintro j hj
    simp only at hj ⊢
    have hxl:(xKc (bG key bg text i).1 text i j).length = 16:=by rw [fR,hl1]
    refine zB.intro (fun h2=>?_) (fun h2=>?_)
    ·repeat refine sd ?_
     refine zB.intro (fun h3=>?_) (fun h3=>?_)
     ·refine aI.intro [[],[0],[0,1],[],[],[3,4],[3,4,5],r_7,r_8,r_9] fi (by kernel_rfl) ?_
      repeat refine sd ?_
      have e:xKc (bG key bg text i).1 text i (j + 1) = (xKc (bG key bg text i).1 text i j).set j ((xKc (bG key bg text i).1 text i j).getD j 0 ^^^ text.getD (ge (16 * i) j) 0):=by
       simp only [xKc,pT,zQ];rw [if_pos (by omega)]
      exact ⟨j + 1,by omega,by omega,Le.intro [] rfl fc rfl fc rfl⟩
     ·repeat refine sd ?_
      have e:xKc (bG key bg text i).1 text i (j + 1) = (xKc (bG key bg text i).1 text i j).set j ((xKc (bG key bg text i).1 text i j).getD j 0 ^^^ og text):=by
       simp only [xKc,pT];rw [if_neg (by omega)]
      exact ⟨j + 1,by omega,by omega,Le.intro [] rfl fc rfl fc rfl⟩
    ·obtain rfl:j = 16:=by omega
     repeat refine sd ?_
     have hel:=oo key hxl
     have hkl:=cg hk
     refine Call.intro (aTA key _ hk hxl) [(1000,(1001,0,none))] rfl fc rfl fc rfl ?_
     rintro _ _ ⟨rfl,rfl⟩
     repeat refine sd ?_
     refine fun c' hc'=>?_
     repeat refine sd ?_
     have hc2:16 * (i + 1) <= c':=hc'
     refine ⟨(i + 1,c'),⟨by simp only;omega,hc2⟩,by simp only;omega,Le.intro [(1005,(72,0,none))] rfl ?_ rfl ?_ rfl⟩
     ·exact fc
     ·have e1:(bG key bg text (i + 1)).1 = aF1 key (xKc (bG key bg text i).1 text i 16):=rfl
      have e2:(bG key bg text (i + 1)).2 = jf 0 (bG key bg text i).2 ++ take 16 (drop ((none:Option Nat).getD 0) (aF1 key (xKc (bG key bg text i).1 text i 16))):=by
       rw [Option.getD_none,List.drop_zero,List.take_of_length_le (by rw [hel];exact Nat.le_refl _)];rfl
      exact fc
  ·obtain rfl:i = n / 16 + 1:=by omega
   refine Ret.intro (.sl 1001 0 0 (n / 16 * 16 + 16) c) [(1000,.mem false 0 [(n,.a8 text)]),(1001,.mem true (c - (n / 16 * 16 + 16)) [(n / 16 * 16 + 16,.a8 (bp key bg text))])] [(1001,(1005,0,none))] rfl ?_ ⟨c,by omega,rfl,rfl⟩ rfl ?_ rfl ?_ rfl
   ·exact fc
   ·exact fc
   ·have e:bp key bg text = (bG key bg text (n / 16 + 1)).2:=by unfold bp;rw [hn]
    exact fc
@[irreducible] def wB (key b:List UInt8):List UInt8:=jF tabB (dc key) b
theorem wA (key:List UInt8) {b:List UInt8} (hb:b.length = 16):(wB key b).length = 16:=by unfold wB;exact pO hb
theorem aKP (key b:List UInt8) (hk:key.length = 32) (hb:b.length = 16) :
  Sx.Fn Γ.P 111 [.ptr 1000 0 none,.a8 b] [(1000,b8 tabS tabB (dc key))] (fun v M=>v = .a8 (wB key b)/\M = [(1000,b8 tabS tabB (dc key))]):=by
 unfold wB
 exact aT7 tabS tabB (dc key) b (cg hk) hb
def ez (b:List UInt8) (i:Nat):List UInt8:=(b.drop (16 * i)).take 16
def aCO (out x bg:List UInt8):Nat->List UInt8
 | 0=>out
 | j + 1=>aCO out x bg j ++ [x.getD j 0 ^^^ bg.getD j 0]
def unC (key bg b:List UInt8):Nat->List UInt8 × List UInt8
 | 0=>(bg,[])
 | i + 1=>let s:=unC key bg b i
  (ez b i,aCO s.2 (wB key (ez b i)) s.1 16)
def gf (key bg b:List UInt8):List UInt8:=(unC key bg b (b.length / 16)).2
def aW (key bg b:List UInt8):Nat:=((gf key bg b).getD (b.length - 1) 0).toNat
def bd (key bg b:List UInt8):Option (List UInt8):=
 if b.length = 0 \/ ¬ b.length % 16 = 0 then none
 else if aW key bg b < 1 \/ 16 < aW key bg b then none
 else if ∀ k,k < aW key bg b->((gf key bg b).getD (b.length - aW key bg b + k) 0).toNat = aW key bg b then some ((gf key bg b).take (b.length - aW key bg b))
 else none
theorem jQ (out x bg:List UInt8):∀ j,(aCO out x bg j).length = out.length + j
 | 0=>rfl
 | j + 1=>by simp only [aCO,zlA,jQ out x bg j,List.length_cons,List.length_nil];omega
theorem iO {b:List UInt8} {i:Nat} (h:16 * i + 16 <= b.length):(ez b i).length = 16:=by
 simp only [ez,zlT,zlD];omega
theorem ua (key:List UInt8) {bg:List UInt8} (hb:bg.length = 16) (b:List UInt8):∀ i,16 * i <= b.length->(unC key bg b i).1.length = 16
 | 0,_=>hb
 | i + 1,h=>by
  simp only [unC]
  exact iO (by omega)
theorem nG (key:List UInt8) {bg:List UInt8} (hb:bg.length = 16) (b:List UInt8):∀ i,(unC key bg b i).2.length = 16 * i
 | 0=>rfl
 | i + 1=>by
  have h1:=nG key hb b i
  simp only [unC,jQ,h1]
  omega
theorem aQ2 {b:List UInt8} {i:Nat} (h:16 * i + 16 <= b.length):ez b i =
  take ((none:Option Nat).getD 0) (replicate 16 0) ++
   take (min (take ((((16 * i:Nat):Int) + 16).toNat - ((16 * i:Nat):Int).toNat) (drop (((16 * i:Nat):Int).toNat * 1 + 0) b)).length 16)
    (take ((((16 * i:Nat):Int) + 16).toNat - ((16 * i:Nat):Int).toNat) (drop (((16 * i:Nat):Int).toNat * 1 + 0) b)) ++
   drop ((none:Option Nat).getD 0 + min (take ((((16 * i:Nat):Int) + 16).toNat - ((16 * i:Nat):Int).toNat) (drop (((16 * i:Nat):Int).toNat * 1 + 0) b)).length 16) (replicate 16 0):=by
 rw [show (((16 * i:Nat):Int) + 16).toNat - ((16 * i:Nat):Int).toNat = 16 by omega,show ((16 * i:Nat):Int).toNat * 1 + 0 = 16 * i by omega]
 have hl:=iO h
 show ez b i = _ ++ take (min (ez b i).length 16) (ez b i) ++ drop (_ + min (ez b i).length 16) _
 rw [hl,List.take_of_length_le (l:=ez b i) (by omega)]
 simp
def aBD (key bg b:List UInt8) (n:Nat) (v:SV) (M:Mm):Prop:=
 (bd key bg b = none/\v = .tup [.nsl,.ff]/\M = [(1000,.mem false 0 [(n,.a8 b)])]) \/
 ∃ m s sp,bd key bg b = some s/\s.length = m/\(gf key bg b).take m = s/\m <= n/\(gf key bg b).length = n/\v = .tup [.sl 1001 0 0 m m,.tt]/\M = [(1000,.mem false 0 [(n,.a8 b)]),(1001,.mem true sp [(n,.a8 (gf key bg b))])]
theorem aWM (key bg b:List UInt8) (n:Nat) (hk:key.length = 32) (hb:bg.length = 16) (hn:b.length = n) (hmax:n <= 8192) :
  Sx.Fn Γ.P 54 [.a8 key,.a8 bg,.slx 1000 0 0 n] [(1000,.mem false 0 [(n,.a8 b)])] (aBD key bg b n):=by
 have bad:bd key bg b = none->aBD key bg b n (.tup [.nsl,.ff]) [(1000,.mem false 0 [(n,.a8 b)])]:=fun h=>Or.inl ⟨h,rfl,rfl⟩
 refine aF (Γ:=Γ) (fn:=Tryz.f54) rfl rfl rfl rfl ?_
 repeat refine sd ?_
 refine zB.intro (fun h0=>?_) (fun h0=>?_)
 ·refine Ret.intro (.tup [.nsl,.ff]) [(1000,.mem false 0 [(n,.a8 b)])] [] rfl trivial (bad ?_) rfl fc rfl fc rfl
  unfold bd;rw [if_pos (by omega)]
 repeat refine sd ?_
 refine zB.intro (fun h1=>?_) (fun h1=>?_)
 ·refine Ret.intro (.tup [.nsl,.ff]) [(1000,.mem false 0 [(n,.a8 b)])] [] rfl trivial (bad ?_) rfl fc rfl fc rfl
  unfold bd;rw [if_pos (by omega)]
 repeat refine sd ?_
 refine Call.intro (aQI key hk) [(1001,(1001,0,none))] rfl fc rfl trivial rfl ?_
 rintro _ _ ⟨rfl,rfl⟩
 repeat refine sd ?_
 have hkl:=cg hk
 refine ac.intro (σ:=Nat × Nat) (fun s=>16 * s.1 <= n/\16 * s.1 <= s.2)
  (fun s=>([(2,.slx 1000 0 0 n),(4,.ptr 4 0 none),(8,.ptr 1001 0 none),(9,.sl 1005 0 0 (16 * s.1) s.2),(10,.i .i64 (16 * s.1:Nat))],
   [(1000,.mem false 0 [(n,.a8 b)]),(4,.mem true 0 [(16,.a8 (unC key bg b s.1).1)]),(1001,bc tabS tabB (dc key)),(1005,.mem true (s.2 - 16 * s.1) [(16 * s.1,.a8 (unC key bg b s.1).2)])])) (fun s=>n - 16 * s.1) (0,n) ?_ ?_ ?_
 ·exact ⟨zero_le _,zero_le _⟩
 ·exact Le.intro [(1005,(31,0,none))] rfl fc rfl fc rfl
 ·rintro ⟨i,c⟩ ⟨hi,hc⟩
  simp only at hi hc ⊢
  have hl1:=ua key hb b i (by omega)
  have hl2:=nG key hb b i
  refine zB.intro (fun h=>?_) (fun h=>?_)
  ·repeat refine sd ?_
   refine aI.intro [[],[],[],[],[3],[],[5],[1,2,3,4,5,6],r_8] r_9 (by kernel_rfl) ?_
   repeat refine sd ?_
   have h16:16 * i + 16 <= b.length:=by omega
   have hbk:=iO h16
   have hbe:=aQ2 h16
   refine Call.intro (aKP key (ez b i) hk hbk) [(1000,(1001,0,none))] rfl fc rfl fc rfl ?_
   rintro _ _ ⟨rfl,rfl⟩
   have hdl:=wA key hbk
   repeat refine sd ?_
   refine ac.intro (σ:=Nat × Nat) (fun s=>s.1 <= 16/\16 * i + s.1 <= s.2)
    (fun s=>([(2,.slx 1000 0 0 n),(4,.ptr 4 0 none),(8,.ptr 1001 0 none),(10,.i .i64 (16 * i:Nat)),(11,.ptr 11 0 none),(12,.ptr 12 0 none),(50,.i .i64 s.1),(9,.sl 1006 0 0 (16 * i + s.1) s.2)],
     [(1000,.mem false 0 [(n,.a8 b)]),(4,.mem true 0 [(16,.a8 (unC key bg b i).1)]),(11,.mem true 0 [(16,.a8 (ez b i))]),(12,.mem true 0 [(16,.a8 (wB key (ez b i)))]),(1001,bc tabS tabB (dc key)),
      (1006,.mem true (s.2 - (16 * i + s.1)) [(16 * i + s.1,.a8 (aCO (unC key bg b i).2 (wB key (ez b i)) (unC key bg b i).1 s.1))])])) (fun s=>16 - s.1) (0,c) ?_ ?_ ?_
   ·exact ⟨zero_le _,hc⟩
   ·have e0:aCO (unC key bg b i).2 (wB key (ez b i)) (unC key bg b i).1 0 = (unC key bg b i).2:=rfl
    exact Le.intro [(1006,(1005,0,none))] rfl fc rfl fc rfl
   ·rintro ⟨j,c1⟩ ⟨hj,hc1⟩
    simp only at hj hc1 ⊢
    have hol:=jQ (unC key bg b i).2 (wB key (ez b i)) (unC key bg b i).1 j
    refine zB.intro (fun h2=>?_) (fun h2=>?_)
    ·repeat refine sd ?_
     refine aI.intro [[],[],[1],[1,2],[],[4],[4,5],[1,2,3,4,5,6],[1,2,3,4,5,6,7],r_9,fi] fy (by kernel_rfl) ?_
     repeat refine sd ?_
     refine fun c' hc'=>?_
     repeat refine sd ?_
     have hc2:16 * i + (j + 1) <= c':=hc'
     refine ⟨(j + 1,c'),⟨by simp only;omega,hc2⟩,by simp only;omega,Le.intro [(1006,(62,0,none))] rfl fc rfl ?_ rfl⟩
     have e:aCO (unC key bg b i).2 (wB key (ez b i)) (unC key bg b i).1 (j + 1) = jf 0 (aCO (unC key bg b i).2 (wB key (ez b i)) (unC key bg b i).1 j) ++ take 1 (drop 0 (((wB key (ez b i)).getD j 0 ^^^ (unC key bg b i).1.getD j 0) :: replicate 0 0)):=rfl
     exact fc
    ·obtain rfl:j = 16:=by omega
     repeat refine sd ?_
     have hc2:16 * (i + 1) <= c1:=by omega
     refine ⟨(i + 1,c1),⟨by simp only;omega,hc2⟩,by simp only;omega,Le.intro [(1005,(1006,0,none))] rfl fc rfl ?_ rfl⟩
     have e1:(unC key bg b (i + 1)).1 = ez b i:=rfl
     have e2:(unC key bg b (i + 1)).2 = aCO (unC key bg b i).2 (wB key (ez b i)) (unC key bg b i).1 16:=rfl
     exact fc
  ·have hin:n = 16 * i:=by omega
   have hout:gf key bg b = (unC key bg b i).2:=by unfold gf;rw [show b.length / 16 = i by omega]
   have heF:((aW key bg b:Nat):Int) = (((unC key bg b i).2.getD (0 + (((16 * i:Nat):Int) - 1).toNat) 0).toNat:Int):=by
    unfold aW;rw [hout,show b.length - 1 = 0 + (((16 * i:Nat):Int) - 1).toNat by omega]
   have hc0:¬ (b.length = 0 \/ ¬ b.length % 16 = 0):=by omega
   have no2:aW key bg b < 1 \/ 16 < aW key bg b->bd key bg b = none:=fun h=>by
    unfold bd;rw [if_neg hc0,if_pos h]
   repeat refine sd ?_
   refine zB.intro (fun hf1=>?_) (fun hf1=>?_)
   ·have hf2:((aW key bg b:Nat):Int) < 1:=by rw [heF,Nat.zero_add];exact hf1
    refine Ret.intro (.tup [.nsl,.ff]) [(1000,.mem false 0 [(n,.a8 b)])] [] rfl trivial (bad (no2 (by omega))) rfl fc rfl fc rfl
   have hf2:¬ ((aW key bg b:Nat):Int) < 1:=by rw [heF,Nat.zero_add];exact hf1
   refine zB.intro (fun hg1=>?_) (fun hg1=>?_)
   ·have hg2:16 < ((aW key bg b:Nat):Int):=by rw [heF,Nat.zero_add];exact hg1
    refine Ret.intro (.tup [.nsl,.ff]) [(1000,.mem false 0 [(n,.a8 b)])] [] rfl trivial (bad (no2 (by omega))) rfl fc rfl fc rfl
   have hg2:¬ 16 < ((aW key bg b:Nat):Int):=by rw [heF,Nat.zero_add];exact hg1
   have hc1:¬ (aW key bg b < 1 \/ 16 < aW key bg b):=by omega
   have hi1:1 <= i:=by omega
   repeat refine sd ?_
   refine ac.intro (σ:=Nat) (fun k=>k <= aW key bg b/\∀ k',k' < k->((gf key bg b).getD (n - aW key bg b + k') 0).toNat = aW key bg b)
    (fun k=>([(9,.sl 1005 0 0 n c),(14,.i .i64 (aW key bg b:Nat)),(83,.sl 1005 0 (n - aW key bg b) (aW key bg b) (c - (n - aW key bg b))),(84,.i .i64 (aW key bg b:Nat)),(85,.i .i64 k)],
     [(1000,.mem false 0 [(n,.a8 b)]),(1005,.mem true (c - n) [(n,.a8 (gf key bg b))])])) (fun k=>aW key bg b - k) 0 ?_ ?_ ?_
   ·exact ⟨zero_le _,fun _ h=>absurd h (Nat.not_lt_zero _)⟩
   ·exact Le.intro [] rfl fc rfl fc rfl
   ·rintro k ⟨hk1,hk2⟩
    have hol:(gf key bg b).length = n:=by rw [hout,hl2];omega
    refine zB.intro (fun h2=>?_) (fun h2=>?_)
    ·repeat refine sd ?_
     refine zB.intro (fun h3=>?_) (fun h3=>?_)
     ·have h3':¬ (((gf key bg b).getD (n - aW key bg b + k) 0).toNat:Int) = (aW key bg b:Int):=by
       rw [<- zQ];exact h3
      refine Ret.intro (.tup [.nsl,.ff]) [(1000,.mem false 0 [(n,.a8 b)])] [] rfl trivial (bad ?_) rfl fc rfl fc rfl
      unfold bd
      rw [if_neg hc0,if_neg hc1,if_neg]
      intro hall
      have:=hall k (by omega)
      rw [hn] at this
      exact h3' (by omega)
     ·have h3':¬ ¬ (((gf key bg b).getD (n - aW key bg b + k) 0).toNat:Int) = (aW key bg b:Int):=by
       rw [<- zQ];exact h3
      repeat refine sd ?_
      refine ⟨k + 1,⟨by omega,fun k' hk'=>?_⟩,by omega,Le.intro [] rfl fc rfl fc rfl⟩
      by_cases he:k' = k
      ·subst he;omega
      ·exact hk2 k' (by omega)
    ·have hkF:k = aW key bg b:=by omega
     subst hkF
     repeat refine sd ?_
     refine Ret.intro (.tup [.sl 1001 0 0 (n - aW key bg b) (n - aW key bg b),.tt]) [(1000,.mem false 0 [(n,.a8 b)]),(1001,.mem true (c - n) [(n,.a8 (gf key bg b))])] [(1001,(1005,0,none))] rfl trivial (Or.inr ⟨n - aW key bg b,(gf key bg b).take (n - aW key bg b),c - n,?_,by rw [zlT,hol];omega,rfl,by omega,hol,rfl,rfl⟩) rfl fc rfl fc rfl
     unfold bd
     rw [if_neg hc0,if_neg hc1,if_pos,hn]
     rw [hn]
     exact hk2
end Go.Proofs.YtimbdhpchlakfaaGreat
