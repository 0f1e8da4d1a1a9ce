/- What the functions of the program compute. No condition. -/
import Derived.Test.YtimbdhpchlakfaaHwOfToSs4
set_option linter.unusedSimpArgs false
set_option linter.unusedVariables false
namespace Go.Proofs.Ytimbdhpchlakfaa
open Go Go.Sx
def mk1 (T:List Te) (k:Int) (p:List UInt8):List Te × Nat:=mkT T (k,[p])
def mk2 (T:List Te) (k:Int) (p q:List UInt8):List Te × Nat:=mkT T (k,[p,q])
theorem mk1_eq (T:List Te) (k:Int) (p:List UInt8):mk1 T k p = mkT T (k,[p]):=rfl
theorem mk2_eq (T:List Te) (k:Int) (p q:List UInt8):mk2 T k p q = mkT T (k,[p,q]):=rfl
attribute [irreducible] mk1 mk2
theorem joinsA {p:List UInt8} (hp:p.length ≤ 4096):Joins [p]:=⟨by simp,fun x hx=>by rw [List.mem_singleton.1 hx];exact hp⟩
theorem joinsB {p q:List UInt8} (hp:p.length ≤ 4096) (hq:q.length ≤ 4096):Joins [p,q]:=by
 refine ⟨by simp,fun x hx=>?_⟩
 rcases List.mem_cons.1 hx with rfl | hx
 ·exact hp
 ·rw [List.mem_singleton.1 hx];exact hq
theorem mk2_ne (T:List Te) {k:Int} (h1:1 ≤ k) (h8:k ≤ 8) {p q:List UInt8} (hp:p.length ≤ 4096) (hq:q.length ≤ 4096):(mk2 T k p q).2 ≠ 0:=by rw [mk2_eq];exact mkT_ne (x:=(k,_)) ⟨joinsB hp hq,h1,h8⟩
theorem mk1_valid {T:List Te} (h:∀ x ∈ T,Valid x.1 x.2) (k:Int) (p:List UInt8):∀ x ∈ (mk1 T k p).1,Valid x.1 x.2:=by rw [mk1_eq];exact mkT_valid h
theorem mk1_len (T:List Te) (k:Int) (p:List UInt8):T.length ≤ (mk1 T k p).1.length∧(mk1 T k p).1.length ≤ T.length + 1:=by rw [mk1_eq];exact mkT_len T _
theorem rwA_eq {p:List UInt8} {k:Nat} (hp:p.length = k):rwF [p] 0 = [(1,.isl 0 k 1 [(k,.a8 p)])]:=by
 show [(1,SV.isl 0 p.length 1 [(p.length * 1,SV.a8 p)])] = _
 rw [hp,Nat.mul_one]
set_option maxRecDepth 100000 in
set_option maxHeartbeats 1000000 in
theorem fn15 (T:List Te) (N c:Nat) (hT:T.length = N) (hN:N ≤ 60000) (hNc:N ≤ c) (hTv:∀ x ∈ T,Valid x.1 x.2) (k:Int) (L:List (List UInt8)) (m:Nat) (hL:L.length = m) (hm:m ≤ 64) (hLs:∀ x ∈ L,x.length ≤ 4096) (T1:List Te) (o:Nat) (e1:(mkT T (k,L)).1 = T1) (e2:(mkT T (k,L)).2 = o) :
  Sx.Fn Γ.P 15 [.agg [(1,.ptr 1000 0 none)],.i .i64 k,.slx 1003 0 0 m] (MT N c T 1001 m L)
  (fun v M=>∃ n' c',T1.length = n'∧n' ≤ c'∧v = .a8 (kyB o)∧M = (1001,.dead) :: MT n' c' T1 1005 m L):=by
 have hM:=fn18 T N c hT hN hNc hTv k L m hL (by omega) (fun x hx=>by have:=hLs x hx;omega)
 rw [e1,e2] at hM
 have hkl:=kyB_length o
 unfold MT rwS at hM
 unfold MT rwS
 refine fn_of (Γ:=Γ) (fn:=Try.f15) rfl rfl rfl rfl ?_
 repeat (refine sd ?_)
 refine Call.intro hM [(1000,(1000,0,none)),(1001,(1001,0,none)),(1002,(1002,0,none)),(1003,(1003,0,none)),(1005,(305,0,none))] rfl ?_ rfl ?_ rfl ?_
 ·exact fc
 ·exact fc
 rintro v M' ⟨n',c',hn',hnc',rfl,rfl⟩
 dsimp only [putT,afterM,newEnt,ren,renA,renS,renL,look,getM,getT,ev,evL,ofVal,cond_true,cond_false,Nat.beq_eq,act,isPar,ownPar,Ent.isOwn]
 repeat (refine sd ?_)
 refine Ret.intro (.a8 (kyB o)) ((1001,.dead) :: MT n' c' T1 1005 m L) [(1005,(305,0,none))] rfl ?_ ⟨n',c',hn',hnc',rfl,rfl⟩ rfl ?_ rfl ?_ rfl
 ·exact fc
 ·exact fc
 ·exact fc
set_option maxRecDepth 100000 in
set_option maxHeartbeats 1000000 in
theorem fnFreshF (T:List Te) (N c:Nat) (hT:T.length = N) (hN:N ≤ 60000) (hNc:N ≤ c) (hTv:∀ x ∈ T,Valid x.1 x.2) (p:List UInt8) (hp:p.length = 32) (T1:List Te) (o:Nat) (e1:(mk1 T 1 p).1 = T1) (e2:(mk1 T 1 p).2 = o) :
  Sx.Fn Γ.P 6 [.agg [(1,.ptr 1000 0 none)],.a8 p] (tbM N c T 1001)
  (fun v M=>∃ n' c',T1.length = n'∧n' ≤ c'∧v = .a8 (kyB o)∧M = (1001,.dead) :: tbM n' c' T1 1005):=by
 have hM:=fn15 T N c hT hN hNc hTv 1 [p] 1 rfl (by omega) (fun x hx=>by rw [List.mem_singleton.1 hx];omega) T1 o (by rw [← mk1_eq];exact e1) (by rw [← mk1_eq];exact e2)
 have hkl:=kyB_length o
 unfold MT rwS at hM
 unfold tbM
 refine fn_cut [3] (Γ:=Γ) (fn:=Try.f6) rfl rfl rfl rfl ?_
 repeat (refine sd ?_)
 refine Branch.intro (fun hc=>absurd hc (by simp)) (fun _=>?_)
 refine Cut.intro (σ:=Unit) (fun _=>True) (fun _=>([(2,.ptr 202 0 none),(3,.ptr 203 0 none),(4,.ptr 204 0 none)],[(202,.mem true 0 [(1,.ptr 1000 0 none)]),(203,.mem false 1 [(32,.a8 p)]),(204,.mem true 0 [(32,.a8 (List.replicate 32 0))]),
  (1000,.mem true 0 [(1,.sl 1001 0 0 N c),(1,.mp 1002)]),(1001,.mem true (mulE (c - N) 3) [(N * 3,.arr N 3 (ttF T))]),(1002,.map (.si (mpL T)))])) () trivial (Le.ghost [.keep 3] [] [(202,(2,0,none)),(203,(3,0,none)),(204,(4,0,none))] rfl ?_ rfl rfl ?_ rfl ?_ rfl) ?_
 ·exact fc
 ·exact fc
 ·exact fc
 rintro - -
 refine Draw.intro [[],[],[1],[0,1,2],[0,1,2,3]] [0,1,2,3,4] (by kernel_rfl) ?_
 repeat (refine sd ?_)
 refine Call.name [(0,[]),(0,[]),(2001,[])] rfl fc (CallP.intro hM [(1000,(1000,0,none)),(1001,(1001,0,none)),(1002,(1002,0,none)),(1003,(2001,0,none)),(1005,(305,0,none))] rfl fc rfl ?_ rfl ?_)
 ·repeat' (first | (show AllP _;first | exact trivial | refine AllP.app ?_ ?_ | refine AllP.appd ?_ ?_ | refine AllP.cons ?_ ?_) | exact fd | fail)
  all_goals exact rwA_eq hp
 rintro v M' ⟨n',c',hn',hnc',rfl,rfl⟩
 dsimp only [putT,afterM,newEnt,ren,renA,renS,renL,look,getM,getT,ev,evL,ofVal,cond_true,cond_false,Nat.beq_eq,act,isPar,ownPar,Ent.isOwn]
 repeat (refine sd ?_)
 refine Ret.intro (.a8 (kyB o)) ((1001,.dead) :: tbM n' c' T1 1005) [(1005,(305,0,none))] rfl ?_ ⟨n',c',hn',hnc',rfl,rfl⟩ rfl ?_ rfl ?_ rfl
 ·exact fc
 ·exact fc
 ·exact fc
set_option maxRecDepth 100000 in
set_option maxHeartbeats 1000000 in
theorem fnPublicF (T:List Te) (N c:Nat) (hT:T.length = N) (hN:N ≤ 60000) (hNc:N ≤ c) (hTv:∀ x ∈ T,Valid x.1 x.2) (p:List UInt8) (hp:p.length = 32) (T1:List Te) (o:Nat) (e1:(mk1 T 2 p).1 = T1) (e2:(mk1 T 2 p).2 = o) :
  Sx.Fn Γ.P 8 [.agg [(1,.ptr 1000 0 none)],.a8 p] (tbM N c T 1001)
  (fun v M=>∃ n' c',T1.length = n'∧n' ≤ c'∧v = .a8 (kyB o)∧M = (1001,.dead) :: tbM n' c' T1 1005):=by
 have hM:=fn15 T N c hT hN hNc hTv 2 [p] 1 rfl (by omega) (fun x hx=>by rw [List.mem_singleton.1 hx];omega) T1 o (by rw [← mk1_eq];exact e1) (by rw [← mk1_eq];exact e2)
 have hkl:=kyB_length o
 unfold MT rwS at hM
 unfold tbM
 refine fn_cut [3] (Γ:=Γ) (fn:=Try.f8) rfl rfl rfl rfl ?_
 repeat (refine sd ?_)
 refine Branch.intro (fun hc=>absurd hc (by simp)) (fun _=>?_)
 refine Cut.intro (σ:=Unit) (fun _=>True) (fun _=>([(2,.ptr 202 0 none),(3,.ptr 203 0 none),(4,.ptr 204 0 none)],[(202,.mem true 0 [(1,.ptr 1000 0 none)]),(203,.mem false 1 [(32,.a8 p)]),(204,.mem true 0 [(32,.a8 (List.replicate 32 0))]),
  (1000,.mem true 0 [(1,.sl 1001 0 0 N c),(1,.mp 1002)]),(1001,.mem true (mulE (c - N) 3) [(N * 3,.arr N 3 (ttF T))]),(1002,.map (.si (mpL T)))])) () trivial (Le.ghost [.keep 3] [] [(202,(2,0,none)),(203,(3,0,none)),(204,(4,0,none))] rfl ?_ rfl rfl ?_ rfl ?_ rfl) ?_
 ·exact fc
 ·exact fc
 ·exact fc
 rintro - -
 refine Draw.intro [[],[],[1],[0,1,2],[0,1,2,3]] [0,1,2,3,4] (by kernel_rfl) ?_
 repeat (refine sd ?_)
 refine Call.name [(0,[]),(0,[]),(2001,[])] rfl fc (CallP.intro hM [(1000,(1000,0,none)),(1001,(1001,0,none)),(1002,(1002,0,none)),(1003,(2001,0,none)),(1005,(305,0,none))] rfl fc rfl ?_ rfl ?_)
 ·repeat' (first | (show AllP _;first | exact trivial | refine AllP.app ?_ ?_ | refine AllP.appd ?_ ?_ | refine AllP.cons ?_ ?_) | exact fd | fail)
  all_goals exact rwA_eq hp
 rintro v M' ⟨n',c',hn',hnc',rfl,rfl⟩
 dsimp only [putT,afterM,newEnt,ren,renA,renS,renL,look,getM,getT,ev,evL,ofVal,cond_true,cond_false,Nat.beq_eq,act,isPar,ownPar,Ent.isOwn]
 repeat (refine sd ?_)
 refine Ret.intro (.a8 (kyB o)) ((1001,.dead) :: tbM n' c' T1 1005) [(1005,(305,0,none))] rfl ?_ ⟨n',c',hn',hnc',rfl,rfl⟩ rfl ?_ rfl ?_ rfl
 ·exact fc
 ·exact fc
 ·exact fc
end Go.Proofs.Ytimbdhpchlakfaa
