/- What the functions of the program compute. No condition. -/
import Derived.Test.YtfnmgbillkiabaaGreatHwAc7ToNm
set_option linter.unusedSimpArgs false
set_option linter.unusedVariables false
set_option maxRecDepth 100000
namespace Go.Proofs.YtfnmgbillkiabaaGreat
open Go Go.Sx
set_option maxHeartbeats 1000000 in
theorem fnSignerF (T:List Te) (N c:Nat) (hT:T.length = N) (hN:N <= 60000) (hNc:N <= c) (hTv:∀ x ∈ T,Valid x.1 x.2) (p:List UInt8) (hp:p.length = 32) (T1:List Te) (o:Nat) (e1:(mk1 T 5 p).1 = T1) (e2:(mk1 T 5 p).2 = o) :
  Sx.Fn Γ.P 143 [.agg [(1,.ptr 1000 0 none)],.a8 p] (tbM N c T 1001)
  (fun v M=>∃ n' c',T1.length = n'/\n' <= c'/\v = .a8 (kyB o)/\M = (1001,.dead) :: tbM n' c' T1 1005):=by
 have hM:=fn34 T N c hT hN hNc hTv 5 [p] 1 rfl (by omega) (fun x hx=>by rw [List.mem_singleton.1 hx];omega) T1 o (by rw [<- mk1_eq];exact e1) (by rw [<- mk1_eq];exact e2)
 have hkl:=zk o
 unfold MT rwS at hM
 unfold tbM
 refine fn_cut [3] (Γ:=Γ) (fn:=Tryz.f143) rfl rfl rfl rfl ?_
 repeat (refine sd ?_)
 refine zB.intro (fun hc=>absurd hc (by simp)) (fun _=>?_)
 refine Cut.intro (σ:=Unit) (fun _=>True) (fun _=>([(2,.ptr 202 0 none),(3,.ptr 203 0 none),(4,.ptr 204 0 none)],[(202,.mem true 0 [(1,.ptr 1000 0 none)]),(203,.mem false 1 [(32,.a8 p)]),(204,.mem true 0 [(32,.a8 (List.replicate 32 0))]),
  (1000,.mem true 0 [(1,.sl 1001 0 0 N c),(1,.mp 1002)]),(1001,.mem true (zmE (c - N) 3) [(N * 3,.arr N 3 (ttF T))]),(1002,.map (.si (mpL T)))])) () trivial (Le.ghost [.keep 3] [] [(202,(2,0,none)),(203,(3,0,none)),(204,(4,0,none))] rfl ?_ rfl rfl ?_ rfl ?_ rfl) ?_
 ·exact fc
 ·exact fc
 ·exact fc
 rintro - -
 refine Draw.intro [[],[],[1],[0,1,2],[0,1,2,3]] [0,1,2,3,4] (by kernel_rfl) ?_
 repeat (refine sd ?_)
 refine Call.name [(0,[]),(0,[]),(2001,[])] rfl fc (CallP.intro hM [(1000,(1000,0,none)),(1001,(1001,0,none)),(1002,(1002,0,none)),(1003,(2001,0,none)),(1005,(305,0,none))] rfl fc rfl ?_ rfl ?_)
 ·repeat' (first | (show zA _;first | exact trivial | refine zA.app ?_ ?_ | refine zA.zd ?_ ?_ | refine zA.cons ?_ ?_) | exact fd | fail)
  all_goals exact rwA_eq hp
 rintro v M' ⟨n',c',hn',hnc',rfl,rfl⟩
 dsimp only [zt,zM,zE,ren,zz,zx,zy,look,zG,zX,ev,evL,zV,zcT,zcF,act,zP,zO,Ent.zW]
 repeat (refine sd ?_)
 refine Ret.intro (.a8 (kyB o)) ((1001,.dead) :: tbM n' c' T1 1005) [(1005,(305,0,none))] rfl ?_ ⟨n',c',hn',hnc',rfl,rfl⟩ rfl ?_ rfl ?_ rfl
 ·exact fc
 ·exact fc
 ·exact fc
@[irreducible] def sgF (o:Nat):List UInt8:=kyB o ++ List.replicate 32 0
theorem sgF_eq (o:Nat):sgF o = kyB o ++ List.replicate 32 0:=by unfold sgF;rfl
theorem sgF_length (o:Nat):(sgF o).length = 64:=by rw [sgF_eq,zlA,zk,List.length_replicate]
theorem sgF_cp (o:Nat):sgF o = List.take 0 (List.replicate 64 (0:UInt8)) ++ List.take (min 32 64) (kyB o) ++ List.drop (0 + min 32 64) (List.replicate 64 0):=by
 rw [sgF_eq,List.take_of_length_le (l:=kyB o) (by rw [zk];decide)]
 rfl
set_option maxHeartbeats 1000000 in
theorem fnSignF (T:List Te) (N c:Nat) (hT:T.length = N) (hN:N <= 60000) (hNc:N <= c) (hTv:∀ x ∈ T,Valid x.1 x.2) (p q:List UInt8) (n:Nat) (hp:p.length = 32) (hq:q.length = n) (hn:n <= 4096) (T1:List Te) (o:Nat) (e1:(mk2 T 6 p q).1 = T1) (e2:(mk2 T 6 p q).2 = o) :
  Sx.Fn Γ.P 101 [.agg [(1,.ptr 1000 0 none)],.a8 p,.isl 0 n 1 [(n,.a8 q)]] (tbM N c T 1001)
  (fun v M=>∃ n' c',T1.length = n'/\n' <= c'/\v = .a8 (sgF o)/\M = (1001,.dead) :: tbM n' c' T1 1005):=by
 have hM:=fn34 T N c hT hN hNc hTv 6 [p,q] 2 rfl (by omega) (fun x hx=>by
  rcases List.mem_cons.1 hx with rfl | hx
  ·omega
  ·rw [List.mem_singleton.1 hx];omega) T1 o (by rw [<- mk2_eq];exact e1) (by rw [<- mk2_eq];exact e2)
 have hkl:=zk o
 have hsl:=sgF_length o
 unfold MT rwS at hM
 unfold tbM
 refine fn_cut [6,8] (Γ:=Γ) (fn:=Tryz.f101) rfl rfl rfl rfl ?_
 repeat (refine sd ?_)
 refine zB.intro (fun hc=>?_) (fun hc=>?_)
 ·have hc:(n:Int) > 4096:=hc
  exact absurd hc (by omega)
 repeat (refine sd ?_)
 refine zB.intro (fun hc=>absurd hc (by simp)) (fun _=>?_)
 repeat (refine sd ?_)
 refine Cut.intro (σ:=Unit) (fun _=>True) (fun _=>([(2,.isl 0 n 1 [(n,.a8 q)]),(3,.ptr 203 0 none),(4,.ptr 204 0 none),(6,.ptr 206 0 none),(7,.ptr 207 0 none)],[(203,.mem true 0 [(1,.ptr 1000 0 none)]),(204,.mem false 1 [(32,.a8 p)]),(206,.mem true 0 [(64,.a8 (List.replicate 64 0))]),(207,.mem true 0 [(64,.a8 (List.replicate 64 0))]),
  (1000,.mem true 0 [(1,.sl 1001 0 0 N c),(1,.mp 1002)]),(1001,.mem true (zmE (c - N) 3) [(N * 3,.arr N 3 (ttF T))]),(1002,.map (.si (mpL T)))])) () trivial (Le.ghost [.keep 4] [] [(203,(3,0,none)),(204,(4,0,none)),(206,(6,0,none)),(207,(7,0,none))] rfl ?_ rfl rfl ?_ rfl ?_ rfl) ?_
 ·exact fc
 ·exact fc
 ·exact fc
 rintro - -
 refine Draw.intro [[],[],[],[1,2],[0,1,2,3],[],[0,1,2,3,4,5]] [0,1,2,3,5,4,6] (by kernel_rfl) ?_
 repeat (refine sd ?_)
 refine Call.name [(0,[]),(0,[]),(2001,[])] rfl fc (CallP.intro hM [(1000,(1000,0,none)),(1001,(1001,0,none)),(1002,(1002,0,none)),(1003,(2001,0,none)),(1005,(305,0,none))] rfl fc rfl ?_ rfl ?_)
 ·repeat' (first | (show zA _;first | exact trivial | refine zA.app ?_ ?_ | refine zA.zd ?_ ?_ | refine zA.cons ?_ ?_) | exact fd | fail)
  ·exact rwS_eq0 hp
  ·exact rwS_eq1 hq
 rintro v M' ⟨n',c',hn',hnc',rfl,rfl⟩
 dsimp only [zt,zM,zE,ren,zz,zx,zy,look,zG,zX,ev,evL,zV,zcT,zcF,act,zP,zO,Ent.zW]
 repeat (first | (refine Grow.turn rfl rfl ?_) | (refine sd ?_))
 refine Draw.intro [[],[],[0,1]] [0,1,2] (by kernel_rfl) ?_
 repeat (first | (refine Grow.turn rfl rfl ?_) | (refine sd ?_))
 refine Cut.intro (σ:=Unit) (fun _=>True) (fun _=>([(6,.ptr 206 0 none),(7,.ptr 207 0 none)],[(206,.mem true 0 [(64,.a8 (List.replicate 64 0))]),(207,.mem true 0 [(64,.a8 (sgF o))]),
  (1000,.mem true 0 [(1,.sl 305 0 0 n' c'),(1,.mp 1002)]),(1001,.dead),(305,.mem true (zmE (c' - n') 3) [(n' * 3,.arr n' 3 (ttF T1))]),(1002,.map (.si (mpL T1)))])) () trivial (Le.intro [(206,(206,0,none)),(207,(207,0,none))] rfl ?_ rfl ?_ rfl) ?_
 ·exact fc
 ·repeat' (first | (show zA _;first | exact trivial | refine zA.app ?_ ?_ | refine zA.zd ?_ ?_ | refine zA.cons ?_ ?_) | exact fd | fail)
  all_goals (rw [ky32,zk];exact sgF_cp o)
 rintro - -
 repeat (refine sd ?_)
 refine Ret.intro (.a8 (sgF o)) ((1001,.dead) :: tbM n' c' T1 1005) [(1005,(305,0,none))] rfl ?_ ⟨n',c',hn',hnc',rfl,rfl⟩ rfl ?_ rfl ?_ rfl
 ·exact fc
 ·exact fc
 ·exact fc
end Go.Proofs.YtfnmgbillkiabaaGreat
