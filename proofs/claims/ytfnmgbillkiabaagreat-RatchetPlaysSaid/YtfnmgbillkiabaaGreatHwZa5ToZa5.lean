/- What the functions of the program compute. No condition. -/
import Derived.Test.YtfnmgbillkiabaaGreatHwZa2ToZa2
import Derived.Test.YtfnmgbillkiabaaGreatHwZa3ToRb0
import Derived.Test.YtfnmgbillkiabaaGreatHwRa8ToRc4
set_option linter.unusedSimpArgs false
set_option linter.unusedVariables false
set_option maxRecDepth 100000
namespace Go.Proofs.YtfnmgbillkiabaaGreat
open Go Go.Sx
set_option maxHeartbeats 4000000 in
theorem fn46 (T:List Te) (N c:Nat) (hT:T.length = N) (hN:N <= 40000) (hNc:N <= c) (hTv:∀ x ∈ T,Valid x.1 x.2) (x:Se) (hx:x.OK) (k kc:Nat) (kl:List Kp) :
  Sx.Fn Γ.P 46 [.agg [(1,.ptr 1000 0 none)],.agg (seL x (.isl 0 k 65 [(kc * 65,.arr kc 65 (kpF kl))]))] (rbM N c T 1001)
  (fun v M=>∃ n' c',(tuT T x).length = n'/\n' <= c'/\v = .tup [.a8 (tuR T x),.a8 (tuK T x),.tt]/\M = (1001,.dead) :: rbM n' c' (tuT T x) 1005):=by
 have hA:=fnRAgreeX T N c hT (by omega) hNc hTv x.mine x.th hx.mine hx.th
 obtain ⟨hAv,hAl⟩:=tuA_info hTv hx.mine hx.th
 have eA:=tuA_eq T x
 rw [hT] at eA
 rw [<- eA] at hA
 unfold tuT tuR tuK
 obtain ⟨A,hAe⟩:∃ A,(tuA T x).1 = A:=⟨_,rfl⟩
 obtain ⟨o,hoe⟩:∃ o,(tuA T x).2 = o:=⟨_,rfl⟩
 rw [hAe,hoe] at hA
 rw [hAe] at hAv hAl
 rw [hAe,hoe]
 have hko:=zk o
 have hkR:=zk (roR A x.root (kyB o))
 have hkC:=zk (roC A x.root (kyB o))
 obtain ⟨h1,h2,h3,h4,h5,h6,h7,h8,h9,_⟩:=hx
 unfold rbM at hA
 unfold rbM seL
 refine fn_of (Γ:=Γ) (fn:=Tryz.f46) rfl rfl rfl rfl ?_
 repeat (refine sd ?_)
 refine Call.intro hA [(1000,(1000,0,none)),(1001,(1001,0,none)),(1005,(305,0,none))] rfl ?_ rfl ?_ rfl ?_
 ·exact fc
 ·exact fc
 rintro v M' ⟨n1,c1,hn1,hc1,rfl,rfl⟩
 dsimp only [zt,zM,zE,ren,zz,zx,zy,look,zG,zX,ev,evL,zV,zcT,zcF,act,zP,zO,Ent.zW]
 repeat (first | (refine zB.intro (fun _=>?_) (fun hn=>absurd rfl hn)) | (refine ky0 ?_) | (refine kn0 ?_) | (refine sd ?_))
 have hR:=fnRRootF A n1 c1 hn1 (by omega) hc1 hAv x.root (kyB o) h2 hko
 unfold rbM at hR
 refine Call.intro hR [(1000,(1000,0,none)),(1001,(305,0,none)),(1005,(306,0,none))] rfl ?_ rfl ?_ rfl ?_
 ·exact fc
 ·exact fc
 rintro v M' ⟨n2,c2,hn2,hc2,rfl,rfl⟩
 dsimp only [zt,zM,zE,ren,zz,zx,zy,look,zG,zX,ev,evL,zV,zcT,zcF,act,zP,zO,Ent.zW]
 repeat (refine sd ?_)
 refine Ret.intro (.tup [.a8 (kyB (roR A x.root (kyB o))),.a8 (kyB (roC A x.root (kyB o))),.tt]) ((1001,.dead) :: rbM n2 c2 (roT A x.root (kyB o)) 1005) [(1005,(306,0,none))] rfl ?_ ⟨n2,c2,hn2,hc2,rfl,rfl⟩ rfl ?_ rfl ?_ rfl
 ·exact fc
 ·exact fc
 ·exact fc
theorem fnRMixG (T:List Te) (N c:Nat) (hT:T.length = N) (hN:N <= 60000) (hNc:N <= c) (hTv:∀ x ∈ T,Valid x.1 x.2) (lab:UInt8) (p q:List UInt8) (hp:p.length <= 1024) (hq:q.length <= 1024) (T1:List Te) (o:Nat) (e1:(mx2 T lab p q).1 = T1) (e2:(mx2 T lab p q).2 = o) :
  Sx.Fn Γ.P 31 [.agg [(1,.ptr 1000 0 none)],.u8 lab,.slx 1003 0 0 2] (M12 N c T 1001 2 [p,q])
  (fun v M=>∃ n' c',T1.length = n'/\n' <= c'/\v = .tup [.a8 (kyB o),.bool (o ≠ 0)]/\M = (1001,.dead) :: M12 n' c' T1 1005 2 [p,q]):=by
 subst e1;subst e2
 rw [mx2_eq]
 refine fnRMixF T N c hT hN hNc (fun x h=>by have:=(hTv x h).1.1;omega) lab [p,q] 2 rfl (by omega) (by omega) (fun x hx=>?_)
 rcases List.mem_cons.1 hx with rfl | hx
 ·exact hp
 ·rw [List.mem_singleton.1 hx];exact hq
set_option maxHeartbeats 2000000 in
theorem fn49 (T:List Te) (N c:Nat) (hT:T.length = N) (hN:N <= 60000) (hNc:N <= c) (hTv:∀ x ∈ T,Valid x.1 x.2) (row:List UInt8) (hr:row.length = 32) (h:Hd) (hk:h.OK) (hG:hdG h) (T1:List Te) (o:Nat) (e1:(mx2 T 75 row (hdB h)).1 = T1) (e2:(mx2 T 75 row (hdB h)).2 = o) :
  Sx.Fn Γ.P 49 [.agg [(1,.ptr 1000 0 none)],.a8 row,hdV h] (rbM N c T 1001)
  (fun v M=>∃ n' c',T1.length = n'/\n' <= c'/\v = .a8 (kyB o)/\M = (1001,.dead) :: rbM n' c' T1 1005):=by
 obtain ⟨m,hm⟩:∃ m,(hdB h).length = m:=⟨_,rfl⟩
 have hHb:=fn42 h hk m hm
 have hBl:=hdB_le hk
 have hM:=fnRMixG T N c hT hN hNc hTv 75 row (hdB h) (by omega) (by omega) T1 o e1 e2
 obtain ⟨B,hB⟩:∃ B,hdB h = B:=⟨_,rfl⟩
 rw [hB] at hHb hM hBl hm
 have hkl:=zk o
 obtain ⟨h1,h2,h3,h4,h5⟩:=hk
 unfold M12 rwS at hM
 unfold hdV at hHb
 unfold rbM hdV
 refine fn_cut [2] (Γ:=Γ) (fn:=Tryz.f49) rfl rfl rfl rfl ?_
 repeat (refine sd ?_)
 refine Call.intro hHb [] rfl ?_ rfl ?_ rfl ?_
 ·exact fc
 ·exact fc
 rintro v M' (⟨hG',_⟩ | ⟨_,rfl,rfl⟩)
 ·exact absurd hG hG'
 dsimp only [zt,zM,zE,ren,zz,zx,zy,look,zG,zX,ev,evL,zV,zcT,zcF,act,zP,zO,Ent.zW]
 repeat (refine sd ?_)
 refine Cut.intro (σ:=Unit) (fun _=>True) (fun _=>([(3,.ptr 203 0 none),(4,.ptr 204 0 none),(6,.ptr 206 0 none),(7,.isl 0 m 1 [(m,.a8 B)])],[(203,.mem true 0 [(1,.ptr 1000 0 none)]),(204,.mem false 1 [(32,.a8 row)]),(206,.mem true 0 [(32,.a8 (List.replicate 32 0))]),
  (1000,.mem true 0 [(1,.sl 1001 0 0 N c)]),(1001,.mem true (zmE (c - N) 2) [(N * 2,.arr N 2 (rtF T))])])) () trivial (Le.ghost [.keep 4] [] [(203,(3,0,none)),(204,(4,0,none)),(206,(6,0,none))] rfl ?_ rfl rfl ?_ rfl ?_ rfl) ?_
 ·exact fc
 ·exact fc
 ·exact fc
 rintro - -
 refine Draw.intro [[],[],[],[1,2],[0,1,2,3],[0,1,2,3,4],[0,1,2,3,4,5],[0,1,2,3,4,5],[],[0,1,2,3,4,5,6,8],[0,1,2,3,4,5,6,7,8,9]] [0,1,2,3,8,4,5,6,7,9,10] (by kernel_rfl) ?_
 repeat (first | (refine Grow.turn rfl rfl ?_) | (refine sd ?_))
 refine Call.name [(0,[]),(0,[]),(2001,[])] rfl fc (CallP.intro hM [(1000,(1000,0,none)),(1001,(1001,0,none)),(1003,(2001,0,none)),(1005,(305,0,none))] rfl fc rfl ?_ rfl ?_)
 ·repeat' (first | (show zA _;first | exact trivial | refine zA.app ?_ ?_ | refine zA.zd ?_ ?_ | refine zA.cons ?_ ?_) | exact fd | fail)
  all_goals first | exact rwS_eq0 hr | exact rw2G hm
 rintro v M' ⟨n',c',hn',hnc',rfl,rfl⟩
 dsimp only [zt,zM,zE,ren,zz,zx,zy,look,zG,zX,ev,evL,zV,zcT,zcF,act,zP,zO,Ent.zW]
 repeat (first | (refine Grow.turn rfl rfl ?_) | (refine sd ?_))
 refine Ret.intro (.a8 (kyB o)) ((1001,.dead) :: rbM n' c' T1 1005) [(1005,(305,0,none))] rfl ?_ ⟨n',c',hn',hnc',rfl,rfl⟩ rfl ?_ rfl ?_ rfl
 ·exact fc
 ·exact fc
 ·exact fc
set_option maxHeartbeats 4000000 in
theorem fn10 (T:List Te) (N c:Nat) (hT:T.length = N) (hN:N <= 40000) (hNc:N <= c) (hTv:∀ x ∈ T,Valid x.1 x.2) (id sh dr:List UInt8) (h1:id.length = 32) (h2:sh.length = 32) (h3:dr.length = 32) :
  Sx.Fn Γ.P 10 [.agg [(1,.ptr 1000 0 none)],.a8 id,.a8 sh,.a8 dr] (rbM N c T 1001)
  (fun v M=>∃ n' c',(begC T sh dr).1.length = n'/\n' <= c'/\v = .agg (seL (begS T id sh dr) (.isl 0 0 65 [(0 * 65,.arr 0 65 (kpF []))]))/\M = (1001,.dead) :: rbM n' c' (begC T sh dr).1 1005):=by
 obtain ⟨A,hA⟩:∃ A,(begA T sh).1 = A:=⟨_,rfl⟩
 obtain ⟨B,hB⟩:∃ B,(begB T sh).1 = B:=⟨_,rfl⟩
 obtain ⟨o1,ho1⟩:∃ o,(begA T sh).2 = o:=⟨_,rfl⟩
 obtain ⟨o2,ho2⟩:∃ o,(begB T sh).2 = o:=⟨_,rfl⟩
 have hvA:∀ x ∈ A,Valid x.1 x.2:=by rw [<- hA,begA_eq];exact mx1_valid hTv _ _
 have hlA:A.length <= N + 1:=by rw [<- hA,begA_eq,<- hT];exact (mx1_len T _ _).2
 have hvB:∀ x ∈ B,Valid x.1 x.2:=by rw [<- hB,begB_eq,hA];exact mx1_valid hvA _ _
 have hlB:B.length <= A.length + 1:=by rw [<- hB,begB_eq,hA];exact (mx1_len A _ _).2
 have hM1:=fnRMix1 T N c hT (by omega) hNc hTv 48 sh h2 A o1 (by rw [<- begA_eq];exact hA) (by rw [<- begA_eq];exact ho1)
 have hk1:=zk o1
 have hk2:=zk o2
 unfold M12 rwS at hM1
 obtain ⟨C,hC⟩:∃ C,(begC T sh dr).1 = C:=⟨_,rfl⟩
 obtain ⟨o3,ho3⟩:∃ o,(begC T sh dr).2 = o:=⟨_,rfl⟩
 unfold begS
 rw [hC,ho1,ho2,ho3]
 have hk3:=zk o3
 unfold rbM
 refine fn_cut [2] (Γ:=Γ) (fn:=Tryz.f10) rfl rfl rfl rfl ?_
 repeat (refine sd ?_)
 refine Cut.intro (σ:=Unit) (fun _=>True) (fun _=>([(4,.ptr 204 0 none),(6,.ptr 206 0 none),(7,.ptr 207 0 none),(8,.ptr 208 0 none),(9,.ptr 209 0 none)],[(204,.mem true 0 [(1,.ptr 1000 0 none)]),(206,.mem false 1 [(32,.a8 sh)]),(207,.mem true 0 [(32,.a8 dr)]),(208,.mem true 0 zsL),
  (209,.mem true 0 [(32,.a8 id),(32,.a8 (List.replicate 32 0)),(32,.a8 (List.replicate 32 0)),(1,.tt),(32,.a8 (List.replicate 32 0)),(1,.u16 0),(1,.u16 0),(32,.a8 (List.replicate 32 0)),(1,.ff),(32,.a8 (List.replicate 32 0)),(1,.u16 0),(1,.ff),(32,.a8 (List.replicate 32 0)),(32,.a8 (List.replicate 32 0)),(32,.a8 (List.replicate 32 0)),(1,.u16 0),(1,.isl 0 0 65 [(0 * 65,.arr 0 65 (kpF []))])]),
  (1000,.mem true 0 [(1,.sl 1001 0 0 N c)]),(1001,.mem true (zmE (c - N) 2) [(N * 2,.arr N 2 (rtF T))])])) () trivial (Le.ghost [.keep 6,.own 450 [(0 * 65,.arr 0 65 (kpF []))],.leaf 9 16 450,.keep 450,.ice 9 16] [] [(204,(4,0,none)),(206,(6,0,none)),(207,(7,0,none)),(208,(8,0,none)),(209,(9,0,none))] rfl ?_ rfl rfl ?_ rfl ?_ rfl) ?_
 ·repeat' (first | (show zA _;first | exact trivial | refine zA.app ?_ ?_ | refine zA.zd ?_ ?_ | refine zA.cons ?_ ?_) | exact fd | fail)
  all_goals exact ⟨rfl,rfl,trivial⟩
 ·exact fc
 ·exact fc
 rintro - -
 refine Draw.intro [[],[],[1],[0,1,2],[0,1,2,3],[0,1,2,3,4],[0,1,2,3,4],[],[0,1,2,3,4,5,7],[0,1,2,3,4,5,6,7,8]] [0,1,2,7,3,4,5,6,8,9] (by kernel_rfl) ?_
 repeat (first | (refine Grow.turn rfl rfl ?_) | (refine sd ?_))
 refine Call.name [(0,[]),(0,[]),(2001,[])] rfl fc (CallP.intro hM1 [(1000,(1000,0,none)),(1001,(1001,0,none)),(1003,(2001,0,none)),(1005,(305,0,none))] rfl fc rfl ?_ rfl ?_)
 ·repeat' (first | (show zA _;first | exact trivial | refine zA.app ?_ ?_ | refine zA.zd ?_ ?_ | refine zA.cons ?_ ?_) | exact fd | fail)
  all_goals exact rw1_eq h2
 rintro v M' ⟨n1,c1,hn_n1,hc_c1,rfl,rfl⟩
 dsimp only [zt,zM,zE,ren,zz,zx,zy,look,zG,zX,ev,evL,zV,zcT,zcF,act,zP,zO,Ent.zW]
 repeat (first | (refine Grow.turn rfl rfl ?_) | (refine sd ?_))
 have hM2:=fnRMix1 A n1 c1 hn_n1 (by omega) hc_c1 hvA 49 sh h2 B o2 (by rw [<- hA,<- begB_eq];exact hB) (by rw [<- hA,<- begB_eq];exact ho2)
 unfold M12 rwS at hM2
 refine Draw.intro [[],[],[1],[0,1,2],[0,1,2,3],[0,1,2,3,4],[0,1,2,3,4],[],[0,1,2,3,4,5,7],[0,1,2,3,4,5,6,7,8]] [0,1,2,7,3,4,5,6,8,9] (by kernel_rfl) ?_
 repeat (first | (refine Grow.turn rfl rfl ?_) | (refine sd ?_))
 refine Call.name [(0,[]),(0,[]),(2002,[])] rfl fc (CallP.intro hM2 [(1000,(1000,0,none)),(1001,(305,0,none)),(1003,(2002,0,none)),(1005,(306,0,none))] rfl fc rfl ?_ rfl ?_)
 ·repeat' (first | (show zA _;first | exact trivial | refine zA.app ?_ ?_ | refine zA.zd ?_ ?_ | refine zA.cons ?_ ?_) | exact fd | fail)
  all_goals exact rw1_eq h2
 rintro v M' ⟨n2,c2,hn_n2,hc_c2,rfl,rfl⟩
 dsimp only [zt,zM,zE,ren,zz,zx,zy,look,zG,zX,ev,evL,zV,zcT,zcF,act,zP,zO,Ent.zW]
 repeat (first | (refine Grow.turn rfl rfl ?_) | (refine sd ?_))
 have hF:=fnRFreshF B n2 c2 hn_n2 (by omega) hc_c2 hvB dr h3 C o3 (by rw [<- hB,<- begC_eq];exact hC) (by rw [<- hB,<- begC_eq];exact ho3)
 unfold rbM at hF
 refine Call.intro hF [(1000,(1000,0,none)),(1001,(306,0,none)),(1005,(307,0,none))] rfl ?_ rfl ?_ rfl ?_
 ·exact fc
 ·exact fc
 rintro v M' ⟨n',c',hn',hnc',rfl,rfl⟩
 dsimp only [zt,zM,zE,ren,zz,zx,zy,look,zG,zX,ev,evL,zV,zcT,zcF,act,zP,zO,Ent.zW]
 repeat (refine sd ?_)
 refine Ret.intro (.agg (seL { id:=id,root:=kyB o1,mine:=kyB o3,hs:=true,sk:=kyB o2,sn:=0,pv:=0,th:=List.replicate 32 0,hr:=false,rk:=List.replicate 32 0,rn:=0,fi:=false,ag:=List.replicate 32 0,sg:=List.replicate 32 0,ba:=List.replicate 32 0,oc:=0,kp:=[] } (.isl 0 0 65 [(0 * 65,.arr 0 65 (kpF []))]))) ((1001,.dead) :: rbM n' c' C 1005) [(1005,(307,0,none))] rfl ?_ ⟨n',c',hn',hnc',rfl,rfl⟩ rfl ?_ rfl ?_ rfl
 ·exact fc
 ·repeat' (first | (show zA _;first | exact trivial | refine zA.app ?_ ?_ | refine zA.zd ?_ ?_ | refine zA.cons ?_ ?_) | exact fd | fail)
  all_goals first | exact Bool.false_ne_true | exact ⟨rfl,rfl,trivial⟩ | exact iff_of_true rfl trivial | exact rfl | trace_state
 ·exact fc
set_option maxHeartbeats 4000000 in
theorem fn13 (T:List Te) (N c:Nat) (hT:T.length = N) (hN:N <= 40000) (hNc:N <= c) (hTv:∀ x ∈ T,Valid x.1 x.2) (id sh th:List UInt8) (h1:id.length = 32) (h2:sh.length = 32) (h3:th.length = 32) :
  Sx.Fn Γ.P 13 [.agg [(1,.ptr 1000 0 none)],.a8 id,.a8 sh,.a8 th] (rbM N c T 1001)
  (fun v M=>∃ n' c',(begB T sh).1.length = n'/\n' <= c'/\v = .agg (seL (joiS T id sh th) (.isl 0 0 65 [(0 * 65,.arr 0 65 (kpF []))]))/\M = (1001,.dead) :: rbM n' c' (begB T sh).1 1005):=by
 obtain ⟨A,hA⟩:∃ A,(begA T sh).1 = A:=⟨_,rfl⟩
 obtain ⟨B,hB⟩:∃ B,(begB T sh).1 = B:=⟨_,rfl⟩
 obtain ⟨o1,ho1⟩:∃ o,(begA T sh).2 = o:=⟨_,rfl⟩
 obtain ⟨o2,ho2⟩:∃ o,(begB T sh).2 = o:=⟨_,rfl⟩
 have hvA:∀ x ∈ A,Valid x.1 x.2:=by rw [<- hA,begA_eq];exact mx1_valid hTv _ _
 have hlA:A.length <= N + 1:=by rw [<- hA,begA_eq,<- hT];exact (mx1_len T _ _).2
 have hvB:∀ x ∈ B,Valid x.1 x.2:=by rw [<- hB,begB_eq,hA];exact mx1_valid hvA _ _
 have hlB:B.length <= A.length + 1:=by rw [<- hB,begB_eq,hA];exact (mx1_len A _ _).2
 have hM1:=fnRMix1 T N c hT (by omega) hNc hTv 48 sh h2 A o1 (by rw [<- begA_eq];exact hA) (by rw [<- begA_eq];exact ho1)
 have hk1:=zk o1
 have hk2:=zk o2
 unfold M12 rwS at hM1
 unfold joiS
 rw [hB,ho1,ho2]
 unfold rbM
 refine fn_cut [2] (Γ:=Γ) (fn:=Tryz.f13) rfl rfl rfl rfl ?_
 repeat (refine sd ?_)
 refine Cut.intro (σ:=Unit) (fun _=>True) (fun _=>([(4,.ptr 204 0 none),(6,.ptr 206 0 none),(8,.ptr 208 0 none),(9,.ptr 209 0 none)],[(204,.mem true 0 [(1,.ptr 1000 0 none)]),(206,.mem false 1 [(32,.a8 sh)]),(208,.mem true 0 zsL),
  (209,.mem true 0 [(32,.a8 id),(32,.a8 (List.replicate 32 0)),(32,.a8 (List.replicate 32 0)),(1,.ff),(32,.a8 (List.replicate 32 0)),(1,.u16 0),(1,.u16 0),(32,.a8 th),(1,.tt),(32,.a8 (List.replicate 32 0)),(1,.u16 0),(1,.ff),(32,.a8 (List.replicate 32 0)),(32,.a8 (List.replicate 32 0)),(32,.a8 (List.replicate 32 0)),(1,.u16 0),(1,.isl 0 0 65 [(0 * 65,.arr 0 65 (kpF []))])]),
  (1000,.mem true 0 [(1,.sl 1001 0 0 N c)]),(1001,.mem true (zmE (c - N) 2) [(N * 2,.arr N 2 (rtF T))])])) () trivial (Le.ghost [.keep 6,.own 450 [(0 * 65,.arr 0 65 (kpF []))],.leaf 9 16 450,.keep 450,.ice 9 16] [] [(204,(4,0,none)),(206,(6,0,none)),(208,(8,0,none)),(209,(9,0,none))] rfl ?_ rfl rfl ?_ rfl ?_ rfl) ?_
 ·repeat' (first | (show zA _;first | exact trivial | refine zA.app ?_ ?_ | refine zA.zd ?_ ?_ | refine zA.cons ?_ ?_) | exact fd | fail)
  all_goals exact ⟨rfl,rfl,trivial⟩
 ·exact fc
 ·exact fc
 rintro - -
 refine Draw.intro [[],[],[1],[0,1,2],[0,1,2,3],[0,1,2,3,4],[0,1,2,3,4],[],[0,1,2,3,4,5,7],[0,1,2,3,4,5,6,7,8]] [0,1,2,7,3,4,5,6,8,9] (by kernel_rfl) ?_
 repeat (first | (refine Grow.turn rfl rfl ?_) | (refine sd ?_))
 refine Call.name [(0,[]),(0,[]),(2001,[])] rfl fc (CallP.intro hM1 [(1000,(1000,0,none)),(1001,(1001,0,none)),(1003,(2001,0,none)),(1005,(305,0,none))] rfl fc rfl ?_ rfl ?_)
 ·repeat' (first | (show zA _;first | exact trivial | refine zA.app ?_ ?_ | refine zA.zd ?_ ?_ | refine zA.cons ?_ ?_) | exact fd | fail)
  all_goals exact rw1_eq h2
 rintro v M' ⟨n1,c1,hn_n1,hc_c1,rfl,rfl⟩
 dsimp only [zt,zM,zE,ren,zz,zx,zy,look,zG,zX,ev,evL,zV,zcT,zcF,act,zP,zO,Ent.zW]
 repeat (first | (refine Grow.turn rfl rfl ?_) | (refine sd ?_))
 have hM2:=fnRMix1 A n1 c1 hn_n1 (by omega) hc_c1 hvA 49 sh h2 B o2 (by rw [<- hA,<- begB_eq];exact hB) (by rw [<- hA,<- begB_eq];exact ho2)
 unfold M12 rwS at hM2
 refine Draw.intro [[],[],[1],[0,1,2],[0,1,2,3],[0,1,2,3,4],[0,1,2,3,4],[],[0,1,2,3,4,5,7],[0,1,2,3,4,5,6,7,8]] [0,1,2,7,3,4,5,6,8,9] (by kernel_rfl) ?_
 repeat (first | (refine Grow.turn rfl rfl ?_) | (refine sd ?_))
 refine Call.name [(0,[]),(0,[]),(2002,[])] rfl fc (CallP.intro hM2 [(1000,(1000,0,none)),(1001,(305,0,none)),(1003,(2002,0,none)),(1005,(306,0,none))] rfl fc rfl ?_ rfl ?_)
 ·repeat' (first | (show zA _;first | exact trivial | refine zA.app ?_ ?_ | refine zA.zd ?_ ?_ | refine zA.cons ?_ ?_) | exact fd | fail)
  all_goals exact rw1_eq h2
 rintro v M' ⟨n2,c2,hn_n2,hc_c2,rfl,rfl⟩
 dsimp only [zt,zM,zE,ren,zz,zx,zy,look,zG,zX,ev,evL,zV,zcT,zcF,act,zP,zO,Ent.zW]
 repeat (first | (refine Grow.turn rfl rfl ?_) | (refine sd ?_))
 refine Ret.intro (.agg (seL { id:=id,root:=kyB o1,mine:=List.replicate 32 0,hs:=false,sk:=List.replicate 32 0,sn:=0,pv:=0,th:=th,hr:=true,rk:=kyB o2,rn:=0,fi:=false,ag:=List.replicate 32 0,sg:=List.replicate 32 0,ba:=List.replicate 32 0,oc:=0,kp:=[] } (.isl 0 0 65 [(0 * 65,.arr 0 65 (kpF []))]))) ((1001,.dead) :: rbM n2 c2 B 1005) [(1005,(306,0,none))] rfl ?_ ⟨n2,c2,hn_n2,hc_c2,rfl,rfl⟩ rfl ?_ rfl ?_ rfl
 ·exact fc
 ·repeat' (first | (show zA _;first | exact trivial | refine zA.app ?_ ?_ | refine zA.zd ?_ ?_ | refine zA.cons ?_ ?_) | exact fd | fail)
  all_goals first | exact Bool.false_ne_true | exact ⟨rfl,rfl,trivial⟩ | exact iff_of_true rfl trivial | exact rfl | trace_state
 ·exact fc
end Go.Proofs.YtfnmgbillkiabaaGreat
