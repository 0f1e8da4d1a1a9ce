/- What the functions of the program compute. No condition. -/
import Derived.Test.YtfnmgbillkiabaaGreatHwCh11ToSz
import Derived.Test.YtfnmgbillkiabaaGreatHwTbToCh10
import Derived.Test.YtfnmgbillkiabaaGreatHwOfToOf
import Derived.Test.YtfnmgbillkiabaaGreatHwOpToOp
set_option linter.unusedSimpArgs false
set_option linter.unusedVariables false
set_option maxRecDepth 100000
namespace Go.Proofs.YtfnmgbillkiabaaGreat
open Go Go.Sx
def mx8 (T:List Te) (key plain:List UInt8):List Te × Nat:=mkT T (8,[key,plain])
theorem mx8_eq (T:List Te) (key plain:List UInt8):mx8 T key plain = mkT T (8,[key,plain]):=rfl
attribute [irreducible] mx8
theorem joinsS {p q:List UInt8} (hp:p.length <= 1024) (hq:q.length <= 1024):Joins [p,q]:=by
 refine ⟨by simp,fun x hx=>?_⟩
 rcases List.mem_cons.1 hx with rfl | hx
 ·omega
 ·rw [List.mem_singleton.1 hx];omega
theorem mx8_ne (T:List Te) {key plain:List UInt8} (hk:key.length <= 1024) (hp:plain.length <= 1024):(mx8 T key plain).2 ≠ 0:=by
 rw [mx8_eq];exact mkT_ne (x:=(8,_)) ⟨joinsS hk hp,by show (1:Int) <= 8;decide,by show (8:Int) <= 8;decide⟩
theorem mx8_valid {T:List Te} (h:∀ x ∈ T,Valid x.1 x.2) (key plain:List UInt8):∀ x ∈ (mx8 T key plain).1,Valid x.1 x.2:=by rw [mx8_eq];exact mkT_valid h
theorem mx8_len (T:List Te) (key plain:List UInt8):T.length <= (mx8 T key plain).1.length/\(mx8 T key plain).1.length <= T.length + 1:=by
 rw [mx8_eq];exact mkT_len T _
theorem rwS_eq0 {p q:List UInt8} {k:Nat} (hp:p.length = k):rwF [p,q] 0 = [(1,.isl 0 k 1 [(k,.a8 p)])]:=by
 show [(1,SV.isl 0 p.length 1 [(p.length * 1,SV.a8 p)])] = _
 rw [hp,Nat.mul_one]
theorem rwS_eq1 {p q:List UInt8} {k:Nat} (hq:q.length = k):rwF [p,q] 1 = [(1,.isl 0 k 1 [(k,.a8 q)])]:=by
 show [(1,SV.isl 0 q.length 1 [(q.length * 1,SV.a8 q)])] = _
 rw [hq,Nat.mul_one]
@[irreducible] def sefB (o n:Nat):List UInt8:=kyB o ++ List.replicate (n / 16 * 16) 0
theorem sefB_eq (o n:Nat):sefB o n = kyB o ++ List.replicate (n / 16 * 16) 0:=by unfold sefB;rfl
theorem sefB_length (o n:Nat):(sefB o n).length = n / 16 * 16 + 32:=by rw [sefB_eq,zlA,zk,List.length_replicate];omega
theorem sefB_take (o n:Nat):(sefB o n).take 32 = kyB o:=by rw [sefB_eq];exact List.take_left' (zk o)
theorem sefB_cp {o n m:Nat} (hm:n / 16 * 16 + 32 = m) {k:List UInt8} (hk:k = kyB o):sefB o n = List.take 0 (List.replicate m (0:UInt8)) ++ List.take (min k.length m) k ++ List.drop (0 + min k.length m) (List.replicate m 0):=by
 have hl:=zk o
 subst hk
 rw [hl,List.take_zero,List.nil_append,Nat.min_eq_left (by omega),Nat.zero_add,List.drop_replicate,List.take_of_length_le (by omega),sefB_eq]
 congr 2
 omega
theorem ky32 {o:Nat}:List.take 32 (List.drop ((none:Option Nat).getD 0) (kyB o)) = kyB o:=by
 rw [Option.getD_none,List.drop_zero,List.take_of_length_le (by rw [zk];exact Nat.le_refl _)]
theorem fnMake8 (T:List Te) (N c:Nat) (hT:T.length = N) (hN:N <= 60000) (hNc:N <= c) (hTv:∀ x ∈ T,Valid x.1 x.2) (p q:List UInt8) (hp:p.length <= 1024) (hq:q.length <= 1024) (T1:List Te) (o:Nat) (e1:(mx8 T p q).1 = T1) (e2:(mx8 T p q).2 = o) :
  Sx.Fn Γ.P 71 [.ptr 1000 0 none,.i .i64 8,.slx 1003 0 0 2] (MT N c T 1001 2 [p,q])
  (fun v M=>∃ n' c',T1.length = n'/\n' <= c'/\v = .tup [.a8 (kyB o),.bool (o ≠ 0)]/\M = (1001,.dead) :: MT n' c' T1 1005 2 [p,q]):=by
 subst e1;subst e2
 rw [mx8_eq]
 refine fn71 T N c hT hN hNc hTv 8 [p,q] 2 rfl (by omega) (fun x hx=>?_)
 rcases List.mem_cons.1 hx with rfl | hx
 ·omega
 ·rw [List.mem_singleton.1 hx];omega
set_option maxHeartbeats 1000000 in
theorem fnSealF (T:List Te) (N c:Nat) (hT:T.length = N) (hN:N <= 60000) (hNc:N <= c) (hTv:∀ x ∈ T,Valid x.1 x.2) (key plain:List UInt8) (n m:Nat) (hk:key.length = 32) (hn:plain.length = n) (hn1:n <= 1024) (hm:n / 16 * 16 + 32 = m) (T1:List Te) (o:Nat) (e1:(mx8 T key plain).1 = T1) (e2:(mx8 T key plain).2 = o) :
  Sx.Fn Γ.P 96 [.agg [(1,.ptr 1000 0 none)],.a8 key,.isl 0 n 1 [(n,.a8 plain)]] (tbM N c T 1001)
  (fun v M=>∃ n' c',T1.length = n'/\n' <= c'/\v = .tup [.sl 1006 0 0 m m,.tt]/\M = (1001,.dead) :: (1006,.mem true 0 [(m,.a8 (sefB o n))]) :: tbM n' c' T1 1005):=by
 have hM:=fnMake8 T N c hT hN hNc hTv key plain (by omega) (by omega) T1 o e1 e2
 have hone:o ≠ 0:=by rw [<- e2];exact mx8_ne T (by omega) (by omega)
 have hkl:=zk o
 have hSz:=fn86 (n:Int)
 rw [sizS_ok (by omega) (by omega),show (n:Int) / 16 * 16 + 32 = (m:Int) by omega] at hSz
 unfold MT at hM
 unfold tbM
 refine fn_cut [4] (Γ:=Γ) (fn:=Tryz.f96) rfl rfl rfl rfl ?_
 repeat (refine sd ?_)
 refine zB.intro (fun hc=>?_) (fun hc=>?_)
 ·have hc:(n:Int) > 1024:=hc
  exact absurd hc (by omega)
 repeat (refine sd ?_)
 refine zB.intro (fun _=>?_) (fun hn=>absurd hn (by simp))
 refine Cut.intro (σ:=Unit) (fun _=>True) (fun _=>([(2,.isl 0 n 1 [(n,.a8 plain)]),(3,.ptr 203 0 none),(4,.ptr 204 0 none)],[(203,.mem true 0 [(1,.ptr 1000 0 none)]),(204,.mem false 1 [(32,.a8 key)]),
  (1000,.mem true 0 [(1,.sl 1001 0 0 N c),(1,.mp 1002)]),(1001,.mem true (zmE (c - N) 3) [(N * 3,.arr N 3 (ttF T))]),(1002,.map (.si (mpL T)))])) () trivial (Le.ghost [.keep 4] [] [(203,(3,0,none)),(204,(4,0,none))] rfl ?_ rfl rfl ?_ rfl ?_ rfl) ?_
 ·exact fc
 ·exact fc
 ·exact fc
 rintro - -
 refine Draw.intro [[],[0],[],[],[2,3],[0,1,2,3,4],[0,1,2,3,4,5],[0,1,2,3,4,5,6],[0,1,2,3,4,5,6],[],[0,1,2,3,4,5,6,7,9],[0,1,2,3,4,5,6,7,8,9,10],[]] [0,1,2,3,4,9,5,6,7,8,10,11] (by kernel_rfl) ?_
 refine ⟨?_,?_⟩
 all_goals
  repeat (refine sd ?_)
  refine Call.name [(0,[]),(0,[]),(2001,[])] rfl fc (CallP.intro hM [(1000,(1000,0,none)),(1001,(1001,0,none)),(1002,(1002,0,none)),(1003,(2001,0,none)),(1005,(305,0,none))] rfl fc rfl ?_ rfl ?_)
  ·repeat' (first | (show zA _;first | exact trivial | refine zA.app ?_ ?_ | refine zA.zd ?_ ?_ | refine zA.cons ?_ ?_) | exact fd | fail)
   ·exact rwS_eq0 hk
   ·exact rwS_eq1 hn
  rintro v M' ⟨n',c',hn',hnc',rfl,rfl⟩
  dsimp only [zt,zM,zE,ren,zz,zx,zy,look,zG,zX,ev,evL,zV,zcT,zcF,act,zP,zO,Ent.zW]
  repeat (refine sd ?_)
  have hn1:¬ ¬ (o ≠ 0):=fun h=>h hone
  repeat (first | (refine zB.intro (fun _=>?_) (fun hn=>absurd rfl hn)) | (refine ky0 ?_) | (refine kn0 ?_) | (refine ky ?_) | (refine kn ?_) | (refine sd ?_))
  repeat (refine sd ?_)
  refine Call.pure hSz rfl fc ?_
  intro v hv
  subst hv
  repeat (refine sd ?_)
  refine Ret.intro (.tup [.sl 1006 0 0 m m,.tt]) ((1001,.dead) :: (1006,.mem true 0 [(m,.a8 (sefB o n))]) :: tbM n' c' T1 1005) [(1005,(305,0,none)),(1006,(36,0,none))] rfl ?_ ⟨n',c',hn',hnc',rfl,rfl⟩ rfl ?_ rfl ?_ rfl
  ·exact fc
  ·exact fc
  ·repeat' (first | (show zA _;first | exact trivial | refine zA.app ?_ ?_ | refine zA.zd ?_ ?_ | refine zA.cons ?_ ?_) | exact fd | fail)
   exact sefB_cp hm ky32
def mk1 (T:List Te) (k:Int) (p:List UInt8):List Te × Nat:=mkT T (k,[p])
def mk2 (T:List Te) (k:Int) (p q:List UInt8):List Te × Nat:=mkT T (k,[p,q])
theorem mk1_eq (T:List Te) (k:Int) (p:List UInt8):mk1 T k p = mkT T (k,[p]):=rfl
theorem mk2_eq (T:List Te) (k:Int) (p q:List UInt8):mk2 T k p q = mkT T (k,[p,q]):=rfl
attribute [irreducible] mk1 mk2
theorem joinsA {p:List UInt8} (hp:p.length <= 4096):Joins [p]:=⟨by simp,fun x hx=>by rw [List.mem_singleton.1 hx];exact hp⟩
theorem joinsB {p q:List UInt8} (hp:p.length <= 4096) (hq:q.length <= 4096):Joins [p,q]:=by
 refine ⟨by simp,fun x hx=>?_⟩
 rcases List.mem_cons.1 hx with rfl | hx
 ·exact hp
 ·rw [List.mem_singleton.1 hx];exact hq
theorem mk2_ne (T:List Te) {k:Int} (h1:1 <= k) (h8:k <= 8) {p q:List UInt8} (hp:p.length <= 4096) (hq:q.length <= 4096):(mk2 T k p q).2 ≠ 0:=by rw [mk2_eq];exact mkT_ne (x:=(k,_)) ⟨joinsB hp hq,h1,h8⟩
theorem mk1_valid {T:List Te} (h:∀ x ∈ T,Valid x.1 x.2) (k:Int) (p:List UInt8):∀ x ∈ (mk1 T k p).1,Valid x.1 x.2:=by rw [mk1_eq];exact mkT_valid h
theorem mk2_valid {T:List Te} (h:∀ x ∈ T,Valid x.1 x.2) (k:Int) (p q:List UInt8):∀ x ∈ (mk2 T k p q).1,Valid x.1 x.2:=by rw [mk2_eq];exact mkT_valid h
theorem mk1_len (T:List Te) (k:Int) (p:List UInt8):T.length <= (mk1 T k p).1.length/\(mk1 T k p).1.length <= T.length + 1:=by rw [mk1_eq];exact mkT_len T _
theorem mk2_len (T:List Te) (k:Int) (p q:List UInt8):T.length <= (mk2 T k p q).1.length/\(mk2 T k p q).1.length <= T.length + 1:=by rw [mk2_eq];exact mkT_len T _
theorem rwA_eq {p:List UInt8} {k:Nat} (hp:p.length = k):rwF [p] 0 = [(1,.isl 0 k 1 [(k,.a8 p)])]:=by
 show [(1,SV.isl 0 p.length 1 [(p.length * 1,SV.a8 p)])] = _
 rw [hp,Nat.mul_one]
set_option maxHeartbeats 1000000 in
theorem fn34 (T:List Te) (N c:Nat) (hT:T.length = N) (hN:N <= 60000) (hNc:N <= c) (hTv:∀ x ∈ T,Valid x.1 x.2) (k:Int) (L:List (List UInt8)) (m:Nat) (hL:L.length = m) (hm:m <= 64) (hLs:∀ x ∈ L,x.length <= 4096) (T1:List Te) (o:Nat) (e1:(mkT T (k,L)).1 = T1) (e2:(mkT T (k,L)).2 = o) :
  Sx.Fn Γ.P 34 [.agg [(1,.ptr 1000 0 none)],.i .i64 k,.slx 1003 0 0 m] (MT N c T 1001 m L)
  (fun v M=>∃ n' c',T1.length = n'/\n' <= c'/\v = .a8 (kyB o)/\M = (1001,.dead) :: MT n' c' T1 1005 m L):=by
 have hM:=fn71 T N c hT hN hNc hTv k L m hL (by omega) (fun x hx=>by have:=hLs x hx;omega)
 rw [e1,e2] at hM
 have hkl:=zk o
 unfold MT rwS at hM
 unfold MT rwS
 refine fn_of (Γ:=Γ) (fn:=Tryz.f34) rfl rfl rfl rfl ?_
 repeat (refine sd ?_)
 refine Call.intro hM [(1000,(1000,0,none)),(1001,(1001,0,none)),(1002,(1002,0,none)),(1003,(1003,0,none)),(1005,(305,0,none))] rfl ?_ rfl ?_ rfl ?_
 ·exact fc
 ·exact fc
 rintro v M' ⟨n',c',hn',hnc',rfl,rfl⟩
 dsimp only [zt,zM,zE,ren,zz,zx,zy,look,zG,zX,ev,evL,zV,zcT,zcF,act,zP,zO,Ent.zW]
 repeat (refine sd ?_)
 refine Ret.intro (.a8 (kyB o)) ((1001,.dead) :: MT n' c' T1 1005 m L) [(1005,(305,0,none))] rfl ?_ ⟨n',c',hn',hnc',rfl,rfl⟩ rfl ?_ rfl ?_ rfl
 ·exact fc
 ·exact fc
 ·exact fc
set_option maxHeartbeats 1000000 in
theorem fnFreshF (T:List Te) (N c:Nat) (hT:T.length = N) (hN:N <= 60000) (hNc:N <= c) (hTv:∀ x ∈ T,Valid x.1 x.2) (p:List UInt8) (hp:p.length = 32) (T1:List Te) (o:Nat) (e1:(mk1 T 1 p).1 = T1) (e2:(mk1 T 1 p).2 = o) :
  Sx.Fn Γ.P 30 [.agg [(1,.ptr 1000 0 none)],.a8 p] (tbM N c T 1001)
  (fun v M=>∃ n' c',T1.length = n'/\n' <= c'/\v = .a8 (kyB o)/\M = (1001,.dead) :: tbM n' c' T1 1005):=by
 have hM:=fn34 T N c hT hN hNc hTv 1 [p] 1 rfl (by omega) (fun x hx=>by rw [List.mem_singleton.1 hx];omega) T1 o (by rw [<- mk1_eq];exact e1) (by rw [<- mk1_eq];exact e2)
 have hkl:=zk o
 unfold MT rwS at hM
 unfold tbM
 refine fn_cut [3] (Γ:=Γ) (fn:=Tryz.f30) rfl rfl rfl rfl ?_
 repeat (refine sd ?_)
 refine zB.intro (fun hc=>absurd hc (by simp)) (fun _=>?_)
 refine Cut.intro (σ:=Unit) (fun _=>True) (fun _=>([(2,.ptr 202 0 none),(3,.ptr 203 0 none),(4,.ptr 204 0 none)],[(202,.mem true 0 [(1,.ptr 1000 0 none)]),(203,.mem false 1 [(32,.a8 p)]),(204,.mem true 0 [(32,.a8 (List.replicate 32 0))]),
  (1000,.mem true 0 [(1,.sl 1001 0 0 N c),(1,.mp 1002)]),(1001,.mem true (zmE (c - N) 3) [(N * 3,.arr N 3 (ttF T))]),(1002,.map (.si (mpL T)))])) () trivial (Le.ghost [.keep 3] [] [(202,(2,0,none)),(203,(3,0,none)),(204,(4,0,none))] rfl ?_ rfl rfl ?_ rfl ?_ rfl) ?_
 ·exact fc
 ·exact fc
 ·exact fc
 rintro - -
 refine Draw.intro [[],[],[1],[0,1,2],[0,1,2,3]] [0,1,2,3,4] (by kernel_rfl) ?_
 repeat (refine sd ?_)
 refine Call.name [(0,[]),(0,[]),(2001,[])] rfl fc (CallP.intro hM [(1000,(1000,0,none)),(1001,(1001,0,none)),(1002,(1002,0,none)),(1003,(2001,0,none)),(1005,(305,0,none))] rfl fc rfl ?_ rfl ?_)
 ·repeat' (first | (show zA _;first | exact trivial | refine zA.app ?_ ?_ | refine zA.zd ?_ ?_ | refine zA.cons ?_ ?_) | exact fd | fail)
  all_goals exact rwA_eq hp
 rintro v M' ⟨n',c',hn',hnc',rfl,rfl⟩
 dsimp only [zt,zM,zE,ren,zz,zx,zy,look,zG,zX,ev,evL,zV,zcT,zcF,act,zP,zO,Ent.zW]
 repeat (refine sd ?_)
 refine Ret.intro (.a8 (kyB o)) ((1001,.dead) :: tbM n' c' T1 1005) [(1005,(305,0,none))] rfl ?_ ⟨n',c',hn',hnc',rfl,rfl⟩ rfl ?_ rfl ?_ rfl
 ·exact fc
 ·exact fc
 ·exact fc
set_option maxHeartbeats 1000000 in
theorem fnPublicF (T:List Te) (N c:Nat) (hT:T.length = N) (hN:N <= 60000) (hNc:N <= c) (hTv:∀ x ∈ T,Valid x.1 x.2) (p:List UInt8) (hp:p.length = 32) (T1:List Te) (o:Nat) (e1:(mk1 T 2 p).1 = T1) (e2:(mk1 T 2 p).2 = o) :
  Sx.Fn Γ.P 12 [.agg [(1,.ptr 1000 0 none)],.a8 p] (tbM N c T 1001)
  (fun v M=>∃ n' c',T1.length = n'/\n' <= c'/\v = .a8 (kyB o)/\M = (1001,.dead) :: tbM n' c' T1 1005):=by
 have hM:=fn34 T N c hT hN hNc hTv 2 [p] 1 rfl (by omega) (fun x hx=>by rw [List.mem_singleton.1 hx];omega) T1 o (by rw [<- mk1_eq];exact e1) (by rw [<- mk1_eq];exact e2)
 have hkl:=zk o
 unfold MT rwS at hM
 unfold tbM
 refine fn_cut [3] (Γ:=Γ) (fn:=Tryz.f12) rfl rfl rfl rfl ?_
 repeat (refine sd ?_)
 refine zB.intro (fun hc=>absurd hc (by simp)) (fun _=>?_)
 refine Cut.intro (σ:=Unit) (fun _=>True) (fun _=>([(2,.ptr 202 0 none),(3,.ptr 203 0 none),(4,.ptr 204 0 none)],[(202,.mem true 0 [(1,.ptr 1000 0 none)]),(203,.mem false 1 [(32,.a8 p)]),(204,.mem true 0 [(32,.a8 (List.replicate 32 0))]),
  (1000,.mem true 0 [(1,.sl 1001 0 0 N c),(1,.mp 1002)]),(1001,.mem true (zmE (c - N) 3) [(N * 3,.arr N 3 (ttF T))]),(1002,.map (.si (mpL T)))])) () trivial (Le.ghost [.keep 3] [] [(202,(2,0,none)),(203,(3,0,none)),(204,(4,0,none))] rfl ?_ rfl rfl ?_ rfl ?_ rfl) ?_
 ·exact fc
 ·exact fc
 ·exact fc
 rintro - -
 refine Draw.intro [[],[],[1],[0,1,2],[0,1,2,3]] [0,1,2,3,4] (by kernel_rfl) ?_
 repeat (refine sd ?_)
 refine Call.name [(0,[]),(0,[]),(2001,[])] rfl fc (CallP.intro hM [(1000,(1000,0,none)),(1001,(1001,0,none)),(1002,(1002,0,none)),(1003,(2001,0,none)),(1005,(305,0,none))] rfl fc rfl ?_ rfl ?_)
 ·repeat' (first | (show zA _;first | exact trivial | refine zA.app ?_ ?_ | refine zA.zd ?_ ?_ | refine zA.cons ?_ ?_) | exact fd | fail)
  all_goals exact rwA_eq hp
 rintro v M' ⟨n',c',hn',hnc',rfl,rfl⟩
 dsimp only [zt,zM,zE,ren,zz,zx,zy,look,zG,zX,ev,evL,zV,zcT,zcF,act,zP,zO,Ent.zW]
 repeat (refine sd ?_)
 refine Ret.intro (.a8 (kyB o)) ((1001,.dead) :: tbM n' c' T1 1005) [(1005,(305,0,none))] rfl ?_ ⟨n',c',hn',hnc',rfl,rfl⟩ rfl ?_ rfl ?_ rfl
 ·exact fc
 ·exact fc
 ·exact fc
end Go.Proofs.YtfnmgbillkiabaaGreat
