/- What the functions of the program compute. No condition. -/
import Derived.Test.YtfnmgbillkiabaaGreatHwCh8ToCh9
set_option linter.unusedSimpArgs false
set_option linter.unusedVariables false
set_option maxRecDepth 100000
namespace Go.Proofs.YtfnmgbillkiabaaGreat
open Go Go.Sx
def mx2 (T:List Te) (lab:UInt8) (p q:List UInt8):List Te × Nat:=mkT T (7,[[lab],p,q])
theorem mx2_eq (T:List Te) (lab:UInt8) (p q:List UInt8):mx2 T lab p q = mkT T (7,[[lab],p,q]):=rfl
def roA (T:List Te) (p q:List UInt8):List Te:=(mx2 T 82 p q).1
def roR (T:List Te) (p q:List UInt8):Nat:=(mx2 T 82 p q).2
def roT (T:List Te) (p q:List UInt8):List Te:=(mx2 (roA T p q) 67 p q).1
def roC (T:List Te) (p q:List UInt8):Nat:=(mx2 (roA T p q) 67 p q).2
attribute [irreducible] mx2 roA roR roT roC
theorem joins3 (lab:UInt8) {p q:List UInt8} (hp:p.length <= 1024) (hq:q.length <= 1024):Joins [[lab],p,q]:=by
 refine ⟨by simp,fun x hx=>?_⟩
 rcases List.mem_cons.1 hx with rfl | hx
 ·simp
 ·rcases List.mem_cons.1 hx with rfl | hx
  ·omega
  ·rw [List.mem_singleton.1 hx];omega
theorem mx2_ne (T:List Te) (lab:UInt8) {p q:List UInt8} (hp:p.length <= 1024) (hq:q.length <= 1024):(mx2 T lab p q).2 ≠ 0:=by
 rw [mx2_eq];exact mkT_ne (x:=(7,_)) (valid7 (joins3 lab hp hq))
theorem mx2_valid {T:List Te} (h:∀ x ∈ T,Valid x.1 x.2) (lab:UInt8) (p q:List UInt8):∀ x ∈ (mx2 T lab p q).1,Valid x.1 x.2:=by rw [mx2_eq];exact mkT_valid h
theorem mx2_len (T:List Te) (lab:UInt8) (p q:List UInt8):T.length <= (mx2 T lab p q).1.length/\(mx2 T lab p q).1.length <= T.length + 1:=by
 rw [mx2_eq];exact mkT_len T _
theorem roT_valid {T:List Te} (h:∀ x ∈ T,Valid x.1 x.2) (p q:List UInt8):∀ x ∈ roT T p q,Valid x.1 x.2:=by
 unfold roT roA;exact mx2_valid (mx2_valid h _ _ _) _ _ _
theorem roT_len (T:List Te) (p q:List UInt8):T.length <= (roT T p q).length/\(roT T p q).length <= T.length + 2:=by
 unfold roT roA
 have h1:=mx2_len T 82 p q
 have h2:=mx2_len (mx2 T 82 p q).1 67 p q
 omega
theorem len2 {p q:List UInt8} (hp:p.length = 32) (hq:q.length = 32):∀ x ∈ [p,q],x.length <= 1024:=by
 intro x hx
 rcases List.mem_cons.1 hx with rfl | hx
 ·omega
 ·rw [List.mem_singleton.1 hx];omega
theorem rw2_eq0 {p q:List UInt8} (hp:p.length = 32):rwF [p,q] 0 = [(1,.isl 0 32 1 [(32,.a8 p)])]:=by
 show [(1,SV.isl 0 p.length 1 [(p.length * 1,SV.a8 p)])] = _
 rw [hp]
theorem rw2_eq1 {p q:List UInt8} (hq:q.length = 32):rwF [p,q] 1 = [(1,.isl 0 32 1 [(32,.a8 q)])]:=by
 show [(1,SV.isl 0 q.length 1 [(q.length * 1,SV.a8 q)])] = _
 rw [hq]
theorem fnMix2 (T:List Te) (N c:Nat) (hT:T.length = N) (hN:N <= 60000) (hNc:N <= c) (hTv:∀ x ∈ T,Valid x.1 x.2) (lab:UInt8) (p q:List UInt8) (hp:p.length = 32) (hq:q.length = 32) (T1:List Te) (o:Nat) (e1:(mx2 T lab p q).1 = T1) (e2:(mx2 T lab p q).2 = o) :
  Sx.Fn Γ.P 29 [.agg [(1,.ptr 1000 0 none)],.u8 lab,.slx 1003 0 0 2] (MT N c T 1001 2 [p,q])
  (fun v M=>∃ n' c',T1.length = n'/\n' <= c'/\v = .tup [.a8 (kyB o),.bool (o ≠ 0)]/\M = (1001,.dead) :: MT n' c' T1 1005 2 [p,q]):=by
 subst e1;subst e2
 rw [mx2_eq]
 exact fnMixF T N c hT hN hNc hTv lab [p,q] 2 rfl (by omega) (len2 hp hq)
theorem fnRMix2 (T:List Te) (N c:Nat) (hT:T.length = N) (hN:N <= 60000) (hNc:N <= c) (hTv:∀ x ∈ T,Valid x.1 x.2) (lab:UInt8) (p q:List UInt8) (hp:p.length = 32) (hq:q.length = 32) (T1:List Te) (o:Nat) (e1:(mx2 T lab p q).1 = T1) (e2:(mx2 T lab p q).2 = o) :
  Sx.Fn Γ.P 31 [.agg [(1,.ptr 1000 0 none)],.u8 lab,.slx 1003 0 0 2] (M12 N c T 1001 2 [p,q])
  (fun v M=>∃ n' c',T1.length = n'/\n' <= c'/\v = .tup [.a8 (kyB o),.bool (o ≠ 0)]/\M = (1001,.dead) :: M12 n' c' T1 1005 2 [p,q]):=by
 subst e1;subst e2
 rw [mx2_eq]
 exact fnRMixF T N c hT hN hNc (fun x h=>by have:=(hTv x h).1.1;omega) lab [p,q] 2 rfl (by omega) (by omega) (len2 hp hq)
set_option maxHeartbeats 1000000 in
theorem fnRootF (T:List Te) (N c:Nat) (hT:T.length = N) (hN:N <= 50000) (hNc:N <= c) (hTv:∀ x ∈ T,Valid x.1 x.2) (p q:List UInt8) (hp:p.length = 32) (hq:q.length = 32) :
  Sx.Fn Γ.P 133 [.agg [(1,.ptr 1000 0 none)],.a8 p,.a8 q] (tbM N c T 1001)
  (fun v M=>∃ n' c',(roT T p q).length = n'/\n' <= c'/\v = .tup [.a8 (kyB (roR T p q)),.a8 (kyB (roC T p q)),.tt]/\M = (1001,.dead) :: tbM n' c' (roT T p q) 1005):=by
 obtain ⟨A,hA⟩:∃ A,(mx2 T 82 p q).1 = A:=⟨_,rfl⟩
 obtain ⟨B,hB⟩:∃ B,(mx2 A 67 p q).1 = B:=⟨_,rfl⟩
 obtain ⟨o1,ho1⟩:∃ o,(mx2 T 82 p q).2 = o:=⟨_,rfl⟩
 obtain ⟨o2,ho2⟩:∃ o,(mx2 A 67 p q).2 = o:=⟨_,rfl⟩
 have hl1:=mx2_len T 82 p q
 rw [hA] at hl1
 have hv1:=mx2_valid hTv 82 p q
 rw [hA] at hv1
 have eT:roT T p q = B:=by unfold roT roA;rw [hA,hB]
 have eK:roR T p q = o1:=by unfold roR;rw [ho1]
 have eN:roC T p q = o2:=by unfold roC roA;rw [hA,ho2]
 rw [eT,eK,eN]
 have ho1n:o1 ≠ 0:=by rw [<- ho1];exact mx2_ne T 82 (by omega) (by omega)
 have ho2n:o2 ≠ 0:=by rw [<- ho2];exact mx2_ne A 67 (by omega) (by omega)
 have hn1:¬ ¬ (o1 ≠ 0):=fun h=>h ho1n
 have hn2:¬ ¬ (o2 ≠ 0):=fun h=>h ho2n
 have hM1:=fnMix2 T N c hT (by omega) hNc hTv 82 p q hp hq A o1 hA ho1
 have hk1:=zk o1
 have hk2:=zk o2
 unfold MT at hM1
 unfold tbM
 refine fn_cut [1,2] (Γ:=Γ) (fn:=Tryz.f133) rfl rfl rfl rfl ?_
 repeat (refine sd ?_)
 refine Cut.intro (σ:=Unit) (fun _=>True) (fun _=>([(3,.ptr 203 0 none),(4,.ptr 204 0 none),(5,.ptr 205 0 none),(6,.ptr 206 0 none),(7,.ptr 207 0 none)],[(203,.mem true 0 [(1,.ptr 1000 0 none)]),(204,.mem false 1 [(32,.a8 p)]),(205,.mem false 1 [(32,.a8 q)]),(206,.mem true 0 [(32,.a8 (List.replicate 32 0))]),(207,.mem true 0 [(32,.a8 (List.replicate 32 0))]),
  (1000,.mem true 0 [(1,.sl 1001 0 0 N c),(1,.mp 1002)]),(1001,.mem true (zmE (c - N) 3) [(N * 3,.arr N 3 (ttF T))]),(1002,.map (.si (mpL T)))])) () trivial (Le.ghost [.keep 4,.keep 5] [] [(203,(3,0,none)),(204,(4,0,none)),(205,(5,0,none)),(206,(6,0,none)),(207,(7,0,none))] rfl ?_ rfl rfl ?_ rfl ?_ rfl) ?_
 ·exact fc
 ·exact fc
 ·exact fc
 rintro - -
 refine Draw.intro [[],[],[],[1,2],[0,1,2,3],[0,1,2,3,4],[0,1,2,3,4,5],[0,1,2,3,4,5],[],[0,1,2,3,4,5,6,8],[0,1,2,3,4,5,6,7,8,9],[]] [0,1,2,3,8,4,5,6,7,9,10] (by kernel_rfl) ?_
 refine ⟨?_,?_⟩
 all_goals
  repeat (refine sd ?_)
  refine Call.name [(0,[]),(0,[]),(2001,[])] rfl fc (CallP.intro hM1 [(1000,(1000,0,none)),(1001,(1001,0,none)),(1002,(1002,0,none)),(1003,(2001,0,none)),(1005,(305,0,none))] rfl fc rfl ?_ rfl ?_)
  ·repeat' (first | (show zA _;first | exact trivial | refine zA.app ?_ ?_ | refine zA.zd ?_ ?_ | refine zA.cons ?_ ?_) | exact fd | fail)
   ·exact rw2_eq0 hp
   ·exact rw2_eq1 hq
  rintro v M' ⟨n',c',hn',hnc',rfl,rfl⟩
  dsimp only [zt,zM,zE,ren,zz,zx,zy,look,zG,zX,ev,evL,zV,zcT,zcF,act,zP,zO,Ent.zW]
  repeat (refine sd ?_)
 all_goals
  have hM2:=fnMix2 A n' c' hn' (by omega) hnc' hv1 67 p q hp hq B o2 hB ho2
  unfold MT at hM2
  refine Cut.intro (σ:=Unit) (fun _=>True) (fun _=>([(3,.ptr 203 0 none),(4,.ptr 204 0 none),(5,.ptr 205 0 none),(6,.ptr 206 0 none),(7,.ptr 207 0 none),(9,.ptr 209 0 none),(10,.bool (o1 ≠ 0))],[(203,.mem true 0 [(1,.ptr 1000 0 none)]),(204,.mem false 1 [(32,.a8 p)]),(205,.mem false 1 [(32,.a8 q)]),(206,.mem true 0 [(32,.a8 (List.replicate 32 0))]),(207,.mem true 0 [(32,.a8 (List.replicate 32 0))]),(209,.mem true 0 [(32,.a8 (kyB o1))]),
   (1000,.mem true 0 [(1,.sl 211 0 0 n' c'),(1,.mp 1002)]),(1001,.dead),(211,.mem true (zmE (c' - n') 3) [(n' * 3,.arr n' 3 (ttF A))]),(1002,.map (.si (mpL A)))])) () trivial (Le.intro [(203,(203,0,none)),(204,(204,0,none)),(205,(205,0,none)),(206,(206,0,none)),(207,(207,0,none)),(209,(9,0,none)),(211,(305,0,none))] rfl ?_ rfl ?_ rfl) ?_
  ·exact fc
  ·exact fc
  rintro - -
  refine Draw.intro [[],[],[],[1,2],[0,1,2,3],[0,1,2,3,4],[0,1,2,3,4,5],[0,1,2,3,4,5],[],[0,1,2,3,4,5,6,8],[0,1,2,3,4,5,6,7,8,9],[]] [0,1,2,3,8,4,5,6,7,9,10] (by kernel_rfl) ?_
  refine ⟨?_,?_⟩
  all_goals
   repeat (refine sd ?_)
   refine Call.name [(0,[]),(0,[]),(2001,[])] rfl fc (CallP.intro hM2 [(1000,(1000,0,none)),(1001,(211,0,none)),(1002,(1002,0,none)),(1003,(2001,0,none)),(1005,(306,0,none))] rfl fc rfl ?_ rfl ?_)
   ·repeat' (first | (show zA _;first | exact trivial | refine zA.app ?_ ?_ | refine zA.zd ?_ ?_ | refine zA.cons ?_ ?_) | exact fd | fail)
    ·exact rw2_eq0 hp
    ·exact rw2_eq1 hq
   rintro v M' ⟨n',c',hn',hnc',rfl,rfl⟩
   dsimp only [zt,zM,zE,ren,zz,zx,zy,look,zG,zX,ev,evL,zV,zcT,zcF,act,zP,zO,Ent.zW]
   repeat (refine sd ?_)
  all_goals
   ((repeat (first | (refine zB.intro (fun _=>?_) (fun hn=>absurd rfl hn)) | (refine ky0 ?_) | (refine kn0 ?_) | (refine ky ?_) | (refine kn ?_) | (refine sd ?_)));refine Draw.intro [[],[],[0],[0,1,2],[0,1,2,3],[]] [0,1,2,3,4] (by kernel_rfl) ?_)
   repeat (first | (refine zB.intro (fun _=>?_) (fun hn=>absurd rfl hn)) | (refine ky0 ?_) | (refine kn0 ?_) | (refine ky ?_) | (refine kn ?_) | (refine sd ?_))
   refine ⟨?_,?_⟩
   all_goals
    repeat (first | (refine zB.intro (fun _=>?_) (fun hn=>absurd rfl hn)) | (refine ky0 ?_) | (refine kn0 ?_) | (refine ky ?_) | (refine kn ?_) | (refine sd ?_))
    refine Ret.intro (.tup [.a8 (kyB o1),.a8 (kyB o2),.tt]) ((1001,.dead) :: tbM n' c' B 1005) [(1005,(306,0,none))] rfl ?_ ⟨n',c',hn',hnc',rfl,rfl⟩ rfl ?_ rfl ?_ rfl
    ·exact fc
    ·exact fc
    ·exact fc
set_option maxHeartbeats 1000000 in
theorem fnRRootF (T:List Te) (N c:Nat) (hT:T.length = N) (hN:N <= 50000) (hNc:N <= c) (hTv:∀ x ∈ T,Valid x.1 x.2) (p q:List UInt8) (hp:p.length = 32) (hq:q.length = 32) :
  Sx.Fn Γ.P 93 [.agg [(1,.ptr 1000 0 none)],.a8 p,.a8 q] (rbM N c T 1001)
  (fun v M=>∃ n' c',(roT T p q).length = n'/\n' <= c'/\v = .tup [.a8 (kyB (roR T p q)),.a8 (kyB (roC T p q)),.tt]/\M = (1001,.dead) :: rbM n' c' (roT T p q) 1005):=by
 obtain ⟨A,hA⟩:∃ A,(mx2 T 82 p q).1 = A:=⟨_,rfl⟩
 obtain ⟨B,hB⟩:∃ B,(mx2 A 67 p q).1 = B:=⟨_,rfl⟩
 obtain ⟨o1,ho1⟩:∃ o,(mx2 T 82 p q).2 = o:=⟨_,rfl⟩
 obtain ⟨o2,ho2⟩:∃ o,(mx2 A 67 p q).2 = o:=⟨_,rfl⟩
 have hl1:=mx2_len T 82 p q
 rw [hA] at hl1
 have hv1:=mx2_valid hTv 82 p q
 rw [hA] at hv1
 have eT:roT T p q = B:=by unfold roT roA;rw [hA,hB]
 have eK:roR T p q = o1:=by unfold roR;rw [ho1]
 have eN:roC T p q = o2:=by unfold roC roA;rw [hA,ho2]
 rw [eT,eK,eN]
 have ho1n:o1 ≠ 0:=by rw [<- ho1];exact mx2_ne T 82 (by omega) (by omega)
 have ho2n:o2 ≠ 0:=by rw [<- ho2];exact mx2_ne A 67 (by omega) (by omega)
 have hn1:¬ ¬ (o1 ≠ 0):=fun h=>h ho1n
 have hn2:¬ ¬ (o2 ≠ 0):=fun h=>h ho2n
 have hM1:=fnRMix2 T N c hT (by omega) hNc hTv 82 p q hp hq A o1 hA ho1
 have hk1:=zk o1
 have hk2:=zk o2
 unfold M12 at hM1
 unfold rbM
 refine fn_cut [1,2] (Γ:=Γ) (fn:=Tryz.f93) rfl rfl rfl rfl ?_
 repeat (refine sd ?_)
 refine Cut.intro (σ:=Unit) (fun _=>True) (fun _=>([(3,.ptr 203 0 none),(4,.ptr 204 0 none),(5,.ptr 205 0 none),(6,.ptr 206 0 none),(7,.ptr 207 0 none)],[(203,.mem true 0 [(1,.ptr 1000 0 none)]),(204,.mem false 1 [(32,.a8 p)]),(205,.mem false 1 [(32,.a8 q)]),(206,.mem true 0 [(32,.a8 (List.replicate 32 0))]),(207,.mem true 0 [(32,.a8 (List.replicate 32 0))]),
  (1000,.mem true 0 [(1,.sl 1001 0 0 N c)]),(1001,.mem true (zmE (c - N) 2) [(N * 2,.arr N 2 (rtF T))])])) () trivial (Le.ghost [.keep 4,.keep 5] [] [(203,(3,0,none)),(204,(4,0,none)),(205,(5,0,none)),(206,(6,0,none)),(207,(7,0,none))] rfl ?_ rfl rfl ?_ rfl ?_ rfl) ?_
 ·exact fc
 ·exact fc
 ·exact fc
 rintro - -
 refine Draw.intro [[],[],[],[1,2],[0,1,2,3],[0,1,2,3,4],[0,1,2,3,4,5],[0,1,2,3,4,5],[],[0,1,2,3,4,5,6,8],[0,1,2,3,4,5,6,7,8,9],[]] [0,1,2,3,8,4,5,6,7,9,10] (by kernel_rfl) ?_
 refine ⟨?_,?_⟩
 all_goals
  repeat (refine sd ?_)
  refine Call.name [(0,[]),(0,[]),(2001,[])] rfl fc (CallP.intro hM1 [(1000,(1000,0,none)),(1001,(1001,0,none)),(1003,(2001,0,none)),(1005,(305,0,none))] rfl fc rfl ?_ rfl ?_)
  ·repeat' (first | (show zA _;first | exact trivial | refine zA.app ?_ ?_ | refine zA.zd ?_ ?_ | refine zA.cons ?_ ?_) | exact fd | fail)
   ·exact rw2_eq0 hp
   ·exact rw2_eq1 hq
  rintro v M' ⟨n',c',hn',hnc',rfl,rfl⟩
  dsimp only [zt,zM,zE,ren,zz,zx,zy,look,zG,zX,ev,evL,zV,zcT,zcF,act,zP,zO,Ent.zW]
  repeat (refine sd ?_)
 all_goals
  have hM2:=fnRMix2 A n' c' hn' (by omega) hnc' hv1 67 p q hp hq B o2 hB ho2
  unfold M12 at hM2
  refine Cut.intro (σ:=Unit) (fun _=>True) (fun _=>([(3,.ptr 203 0 none),(4,.ptr 204 0 none),(5,.ptr 205 0 none),(6,.ptr 206 0 none),(7,.ptr 207 0 none),(9,.ptr 209 0 none),(10,.bool (o1 ≠ 0))],[(203,.mem true 0 [(1,.ptr 1000 0 none)]),(204,.mem false 1 [(32,.a8 p)]),(205,.mem false 1 [(32,.a8 q)]),(206,.mem true 0 [(32,.a8 (List.replicate 32 0))]),(207,.mem true 0 [(32,.a8 (List.replicate 32 0))]),(209,.mem true 0 [(32,.a8 (kyB o1))]),
   (1000,.mem true 0 [(1,.sl 211 0 0 n' c')]),(1001,.dead),(211,.mem true (zmE (c' - n') 2) [(n' * 2,.arr n' 2 (rtF A))])])) () trivial (Le.intro [(203,(203,0,none)),(204,(204,0,none)),(205,(205,0,none)),(206,(206,0,none)),(207,(207,0,none)),(209,(9,0,none)),(211,(305,0,none))] rfl ?_ rfl ?_ rfl) ?_
  ·exact fc
  ·exact fc
  rintro - -
  refine Draw.intro [[],[],[],[1,2],[0,1,2,3],[0,1,2,3,4],[0,1,2,3,4,5],[0,1,2,3,4,5],[],[0,1,2,3,4,5,6,8],[0,1,2,3,4,5,6,7,8,9],[]] [0,1,2,3,8,4,5,6,7,9,10] (by kernel_rfl) ?_
  refine ⟨?_,?_⟩
  all_goals
   repeat (refine sd ?_)
   refine Call.name [(0,[]),(0,[]),(2001,[])] rfl fc (CallP.intro hM2 [(1000,(1000,0,none)),(1001,(211,0,none)),(1003,(2001,0,none)),(1005,(306,0,none))] rfl fc rfl ?_ rfl ?_)
   ·repeat' (first | (show zA _;first | exact trivial | refine zA.app ?_ ?_ | refine zA.zd ?_ ?_ | refine zA.cons ?_ ?_) | exact fd | fail)
    ·exact rw2_eq0 hp
    ·exact rw2_eq1 hq
   rintro v M' ⟨n',c',hn',hnc',rfl,rfl⟩
   dsimp only [zt,zM,zE,ren,zz,zx,zy,look,zG,zX,ev,evL,zV,zcT,zcF,act,zP,zO,Ent.zW]
   repeat (refine sd ?_)
  all_goals
   refine Draw.intro [[],[],[],[2],[2,3],[2,3,4],[0,2,3],[0,1,2,3,6],[0,1,2,3,4,5,6,7],[]] [0,1,2,3,4,5,6,7,8] (by kernel_rfl) ?_
   repeat (first | (refine zB.intro (fun _=>?_) (fun hn=>absurd rfl hn)) | (refine ky0 ?_) | (refine kn0 ?_) | (refine ky ?_) | (refine kn ?_) | (refine sd ?_))
   refine ⟨?_,?_⟩
   all_goals
    repeat (first | (refine zB.intro (fun _=>?_) (fun hn=>absurd rfl hn)) | (refine ky0 ?_) | (refine kn0 ?_) | (refine ky ?_) | (refine kn ?_) | (refine sd ?_))
    refine Ret.intro (.tup [.a8 (kyB o1),.a8 (kyB o2),.tt]) ((1001,.dead) :: rbM n' c' B 1005) [(1005,(306,0,none))] rfl ?_ ⟨n',c',hn',hnc',rfl,rfl⟩ rfl ?_ rfl ?_ rfl
    ·exact fc
    ·exact fc
    ·exact fc
end Go.Proofs.YtfnmgbillkiabaaGreat
