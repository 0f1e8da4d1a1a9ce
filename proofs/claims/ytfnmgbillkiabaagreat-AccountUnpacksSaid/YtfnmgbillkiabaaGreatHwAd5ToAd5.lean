/- What the functions of the program compute. No condition. -/
import Derived.Test.YtfnmgbillkiabaaGreatHwAd4ToAd4
import Derived.Test.YtfnmgbillkiabaaGreatHwRy3ToRy7
set_option linter.unusedSimpArgs false
set_option linter.unusedVariables false
set_option maxRecDepth 100000
namespace Go.Proofs.YtfnmgbillkiabaaGreat
open Go Go.Sx
abbrev Pr:=List UInt8 × List UInt8
def pr0:Pr:=(z32,z32)
def prV (p:Pr):SV:=.a8 (p.1 ++ p.2)
def prF (P:List Pr) (q:Nat):List (Nat × SV):=[(64,.a8 ((P.getD q pr0).1 ++ (P.getD q pr0).2))]
def ag1 (T:List Te) (p:Pr):List Te × Nat:=agr T T.length p.1 p.2
theorem ag1_eq (T:List Te) (p:Pr):ag1 T p = agr T T.length p.1 p.2:=rfl
attribute [irreducible] ag1
def agT (T:List Te) (P:List Pr):Nat->List Te
 | 0=>T
 | i + 1=>(ag1 (agT T P i) (P.getD i pr0)).1
def agL (T:List Te) (P:List Pr):Nat->List (List UInt8)
 | 0=>[]
 | i + 1=>agL T P i ++ [kyB (ag1 (agT T P i) (P.getD i pr0)).2]
theorem agT_zero (T:List Te) (P:List Pr):agT T P 0 = T:=rfl
theorem agT_succ (T:List Te) (P:List Pr) (i:Nat):agT T P (i + 1) = (ag1 (agT T P i) (P.getD i pr0)).1:=rfl
theorem agL_zero (T:List Te) (P:List Pr):agL T P 0 = []:=rfl
theorem agL_succ (T:List Te) (P:List Pr) (i:Nat):agL T P (i + 1) = agL T P i ++ [kyB (ag1 (agT T P i) (P.getD i pr0)).2]:=rfl
attribute [irreducible] agT agL
def PrOK (p:Pr):Prop:=p.1.length = 32/\p.2.length = 32
theorem ag1_info {T:List Te} (hTv:∀ x ∈ T,Valid x.1 x.2) {p:Pr} (hp:PrOK p):(∀ x ∈ (ag1 T p).1,Valid x.1 x.2)/\(ag1 T p).1.length <= T.length + 1:=by
 rw [ag1_eq]
 obtain ⟨k,a,b,_,_,_,_,e⟩:=agr_mk T T.length hp.1 hp.2
 rw [e]
 exact ⟨mk2_valid hTv _ _ _,(mk2_len T k a b).2⟩
theorem agT_info {T:List Te} (hTv:∀ x ∈ T,Valid x.1 x.2) {P:List Pr} (hP:∀ p ∈ P,PrOK p):∀ i,i <= P.length->(∀ x ∈ agT T P i,Valid x.1 x.2)/\(agT T P i).length <= T.length + i
 | 0,_=>by rw [agT_zero];exact ⟨hTv,Nat.le_refl _⟩
 | i + 1,hi=>by
  obtain ⟨h1,h2⟩:=agT_info hTv hP i (by omega)
  obtain ⟨h3,h4⟩:=ag1_info h1 (hP _ (getD_mem pr0 (L:=P) (i:=i) (by omega)))
  rw [agT_succ]
  exact ⟨h3,by omega⟩
theorem agL_len (T:List Te) (P:List Pr):∀ i,(agL T P i).length = i
 | 0=>by rw [agL_zero];rfl
 | i + 1=>by rw [agL_succ,zlA,agL_len T P i];rfl
theorem agL_le (T:List Te) (P:List Pr):∀ i,∀ y ∈ agL T P i,y.length = 32
 | 0,y,hy=>by rw [agL_zero] at hy;cases hy
 | i + 1,y,hy=>by
  rw [agL_succ] at hy
  rcases List.mem_append.1 hy with hy | hy
  ·exact agL_le T P i y hy
  ·rw [List.mem_singleton.1 hy];exact zk _
@[irreducible] def shd (T:List Te) (P:List Pr):List Te × Nat:=mkT (agT T P 3) (7,[83] :: agL T P 3)
theorem shd_eq (T:List Te) (P:List Pr):shd T P = mkT (agT T P 3) (7,[83] :: agL T P 3):=by unfold shd;rfl
theorem shd_ne (T:List Te) (P:List Pr):(shd T P).2 ≠ 0:=by
 rw [shd_eq]
 refine mkT_ne (x:=(7,_)) ⟨⟨?_,?_⟩,by show (1:Int) <= 7;decide,by show (7:Int) <= 8;decide⟩
 ·show ([83] :: agL T P 3).length <= 64
  rw [List.length_cons,agL_len];omega
 ·intro y hy
  rcases List.mem_cons.1 hy with rfl | hy
  ·show 1 <= 4096;omega
  ·rw [agL_le T P 3 y hy];omega
set_option maxHeartbeats 8000000 in
theorem fn104 (T:List Te) (N c:Nat) (hT:T.length = N) (hN:N <= 40000) (hNc:N <= c) (hTv:∀ x ∈ T,Valid x.1 x.2) (p q r:Pr) (hp:PrOK p) (hq:PrOK q) (hr:PrOK r) (P:List Pr) (hPe:[p,q,r] = P) :
  Sx.Fn Γ.P 104 [.agg [(1,.ptr 1000 0 none)],prV p,prV q,prV r] (tbM N c T 1001)
  (fun v M=>∃ n' c',(shd T P).1.length = n'/\n' <= c'/\v = .tup [.a8 (kyB (shd T P).2),.bool ((shd T P).2 ≠ 0)]/\M = (1001,.dead) :: tbM n' c' (shd T P).1 1005):=by
 have hPO:∀ y ∈ P,PrOK y:=by
  subst hPe
  intro y hy
  simp only [List.mem_cons,List.not_mem_nil,or_false] at hy
  rcases hy with rfl | rfl | rfl
  ·exact hp
  ·exact hq
  ·exact hr
 have hPl:P.length = 3:=by subst hPe;rfl
 obtain ⟨p1,p2⟩:=hp
 obtain ⟨q1,q2⟩:=hq
 obtain ⟨r1,r2⟩:=hr
 have pl:(p.1 ++ p.2).length = 64:=by rw [zlA,p1,p2]
 have ql:(q.1 ++ q.2).length = 64:=by rw [zlA,q1,q2]
 have rl:(r.1 ++ r.2).length = 64:=by rw [zlA,r1,r2]
 unfold tbM
 refine fn_of (Γ:=Γ) (fn:=Tryz.f104) rfl rfl rfl rfl ?_
 repeat (refine sd ?_)
 refine Loop.intro (σ:=Nat × Nat × Nat × Nat) (fun s=>s.1 <= 3/\(agT T P s.1).length = s.2.1/\s.2.1 <= s.2.2.1/\s.1 <= s.2.2.2)
  (fun s=>([(4,.ptr 204 0 none),(8,.ptr 208 0 none),(10,.sl 210 0 0 s.1 s.2.2.2),(18,.sl 218 0 0 3 3),(19,.i .i64 3),(20,.i .i64 (s.1:Int))],
   [(204,.mem true 0 [(1,.ptr 1000 0 none)]),(208,.mem true 0 [(32,.a8 (List.replicate 32 0))]),(210,.mem true (zmE (s.2.2.2 - s.1) 1) [(s.1 * 1,.arr s.1 1 (rwF (agL T P s.1)))]),(218,.mem true (zmE (3 - 3) 64) [(3 * 64,.arr 3 64 (prF P))]),
   (1000,.mem true 0 [(1,.sl 211 0 0 s.2.1 s.2.2.1),(1,.mp 1002)]),(1001,.dead),(211,.mem true (zmE (s.2.2.1 - s.2.1) 3) [(s.2.1 * 3,.arr s.2.1 3 (ttF (agT T P s.1)))]),(1002,.map (.si (mpL (agT T P s.1))))]))
  (fun s=>3 - s.1) (0,N,c,0) ⟨Nat.zero_le _,by rw [agT_zero];exact hT,hNc,Nat.le_refl _⟩ ?_ ?_
 ·refine Le.ghost [.own 450 [(0 * 1,.arr 0 1 (rwF []))]] [(10,450)] [(204,(4,0,none)),(208,(8,0,none)),(210,(450,0,none)),(218,(18,0,none)),(211,(1001,0,none))] rfl ?_ rfl rfl ?_ rfl ?_ rfl
  ·repeat' (first | (show zA _;first | exact trivial | refine zA.app ?_ ?_ | refine zA.zd ?_ ?_ | refine zA.cons ?_ ?_) | exact fd | fail)
   all_goals exact ⟨rfl,rfl,trivial⟩
  ·exact fc
  ·repeat' (first | (show zA _;first | exact trivial | refine zA.app ?_ ?_ | refine zA.zd ?_ ?_ | refine zA.cons ?_ ?_) | exact fd | fail)
   all_goals first | (rw [agT_zero];done) | (rw [agL_zero];done) | (subst hPe;rfl) | (simp [agT_zero,agL_zero];done) | trace_state
 rintro ⟨i,n,cc,cb⟩ ⟨hi,hn,hnc,hcb⟩
 have hi:i <= 3:=hi
 have hn:(agT T P i).length = n:=hn
 have hnc:n <= cc:=hnc
 have hcb:i <= cb:=hcb
 obtain ⟨iv,il⟩:=agT_info hTv hPO i (by omega)
 refine zB.intro (fun hb=>?_) (fun hb=>?_)
 ·have hb:(i:Int) < 3:=hb
  obtain ⟨w,hw⟩:∃ w,P.getD i pr0 = w:=⟨_,rfl⟩
  obtain ⟨w1,w2⟩:PrOK w:=by rw [<- hw];exact hPO _ (getD_mem pr0 (by omega))
  have e1:addQ 0 (Int.toNat (i:Int)) = i:=by rw [zQ,Nat.zero_add,zIn]
  have j0:(P.getD (addQ 0 (Ix.dyn (Int.toNat (i:Int))).val) pr0).1 ++ (P.getD (addQ 0 (Ix.dyn (Int.toNat (i:Int))).val) pr0).2 = w.1 ++ w.2:=by rw [show addQ 0 (Ix.dyn (Int.toNat (i:Int))).val = i from e1,hw]
  have wl:(w.1 ++ w.2).length = 64:=by rw [zlA,w1,w2]
  have jl:((P.getD (addQ 0 (Ix.dyn (Int.toNat (i:Int))).val) pr0).1 ++ (P.getD (addQ 0 (Ix.dyn (Int.toNat (i:Int))).val) pr0).2).length = 64:=by rw [j0,wl]
  have k1:List.take (Γ.ty 33).size ((P.getD (Ix.dyn (Int.toNat (i:Int))).val pr0).1 ++ (P.getD (Ix.dyn (Int.toNat (i:Int))).val pr0).2) = w.1:=by
   rw [show (Ix.dyn (Int.toNat (i:Int))).val = i from zIn i,hw]
   exact List.take_left' w1
  have k2:List.take (Γ.ty 33).size (List.drop (31 + 1) ((P.getD (Ix.dyn (Int.toNat (i:Int))).val pr0).1 ++ (P.getD (Ix.dyn (Int.toNat (i:Int))).val pr0).2)) = w.2:=by
   rw [show (Ix.dyn (Int.toNat (i:Int))).val = i from zIn i,hw,List.drop_left' w1]
   exact List.take_of_length_le (Nat.le_of_eq w2)
  have hS1:=agT_succ T P i
  have hS2:=agL_succ T P i
  rw [hw] at hS1 hS2
  have hbl:=agL_len T P i
  have hA:=fnAgreeX (agT T P i) n cc hn (by omega) hnc iv w.1 w.2 w1 w2
  rw [<- hn,<- ag1_eq (agT T P i) w,hn] at hA
  obtain ⟨U,hU⟩:∃ z,(ag1 (agT T P i) w).1 = z:=⟨_,rfl⟩
  obtain ⟨o,ho⟩:∃ z,(ag1 (agT T P i) w).2 = z:=⟨_,rfl⟩
  rw [hU] at hA hS1
  rw [ho] at hA hS2
  have hko:=zk o
  have hCl:=fnCloneB (kyB o) 32 0 32 hko (by omega) (by omega)
  have eT:((kyB o).drop 0).take 32 = kyB o:=by rw [List.drop_zero,List.take_of_length_le (by omega)]
  rw [eT] at hCl
  unfold tbM at hA
  repeat (refine sd ?_)
  refine Call.intro hA [(1000,(1000,0,none)),(1001,(211,0,none)),(1002,(1002,0,none)),(1005,(305,0,none))] rfl ?_ rfl ?_ rfl ?_
  ·repeat' (first | (show zA _;first | exact trivial | refine zA.app ?_ ?_ | refine zA.zd ?_ ?_ | refine zA.cons ?_ ?_) | exact fd | fail)
   all_goals first | exact k1.symm | exact k2.symm | trace_state
  ·exact fc
  rintro v M' ⟨n',c',hn',hnc',rfl,rfl⟩
  dsimp only [zt,zM,zE,ren,zz,zx,zy,look,zG,zX,ev,evL,zV,zcT,zcF,act,zP,zO,Ent.zW]
  repeat (first | (refine zB.intro (fun _=>?_) (fun hn=>absurd rfl hn)) | (refine ky0 ?_) | (refine kn0 ?_) | (refine sd ?_))
  refine Call.name [(1,[])] rfl ?_ (CallP.intro hCl [(1006,(306,0,none))] rfl ?_ rfl ?_ rfl ?_)
  ·exact fc
  ·exact fc
  ·exact fc
  rintro v M' ⟨cz,hcz,rfl,rfl⟩
  dsimp only [zt,zM,zE,ren,zz,zx,zy,look,zG,zX,ev,evL,zV,zcT,zcF,act,zP,zO,Ent.zW]
  repeat (refine sd ?_)
  refine fun cd hcd=>?_
  have hcd:i + 1 <= cd:=hcd
  repeat (refine sd ?_)
  refine ⟨(i + 1,n',c',cd),⟨by show i + 1 <= 3;omega,by show (agT T P (i + 1)).length = n';rw [hS1];exact hn',hnc',hcd⟩,by show 3 - (i + 1) < 3 - i;omega,Le.intro [(204,(204,0,none)),(208,(208,0,none)),(210,(40,0,none)),(218,(218,0,none)),(211,(305,0,none))] rfl ?_ rfl ?_ rfl⟩
  ·exact fc
  ·repeat' (first | (show zA _;first | exact trivial | refine zA.app ?_ ?_ | refine zA.zd ?_ ?_ | refine zA.cons ?_ ?_) | exact fd | fail)
   all_goals first | (show ∀ q,q < i + 1->rwF (agL T P (i + 1)) q = _;rw [hS2];exact rw_next' hbl hko) | (intro q _;rw [hS1];done) | (rw [hS1];done) | trace_state
 have hb:¬ (i:Int) < 3:=hb
 obtain rfl:i = 3:=by omega
 have hMx:=fnMixF (agT T P 3) n cc hn (by omega) hnc iv 83 (agL T P 3) 3 (agL_len T P 3) (by omega) (fun y hy=>by rw [agL_le T P 3 y hy];omega)
 rw [<- shd_eq] at hMx
 obtain ⟨U,hU⟩:∃ z,(shd T P).1 = z:=⟨_,rfl⟩
 obtain ⟨o,ho⟩:∃ z,(shd T P).2 = z:=⟨_,rfl⟩
 rw [hU,ho] at hMx ⊢
 have hko:=zk o
 unfold MT rwS at hMx
 repeat (refine sd ?_)
 refine Call.intro hMx [(1000,(1000,0,none)),(1001,(211,0,none)),(1002,(1002,0,none)),(1003,(210,0,none)),(1005,(305,0,none))] rfl ?_ rfl ?_ rfl ?_
 ·exact fc
 ·exact fc
 rintro v M' ⟨n',c',hn',hnc',rfl,rfl⟩
 dsimp only [zt,zM,zE,ren,zz,zx,zy,look,zG,zX,ev,evL,zV,zcT,zcF,act,zP,zO,Ent.zW]
 repeat (refine sd ?_)
 refine Ret.intro (.tup [.a8 (kyB o),.bool (o ≠ 0)]) ((1001,.dead) :: tbM n' c' U 1005) [(1005,(305,0,none))] rfl ?_ ⟨n',c',hn',hnc',rfl,rfl⟩ rfl ?_ rfl ?_ rfl
 ·exact fc
 ·exact fc
 ·exact fc
end Go.Proofs.YtfnmgbillkiabaaGreat
