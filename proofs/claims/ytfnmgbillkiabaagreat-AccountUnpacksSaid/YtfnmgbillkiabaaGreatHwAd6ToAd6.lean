/- What the functions of the program compute. No condition. -/
import Derived.Test.YtfnmgbillkiabaaGreatHwAd5ToAd5
set_option linter.unusedSimpArgs false
set_option linter.unusedVariables false
set_option maxRecDepth 100000
namespace Go.Proofs.YtfnmgbillkiabaaGreat
open Go Go.Sx
theorem shd_info {T:List Te} (hTv:∀ x ∈ T,Valid x.1 x.2) {P:List Pr} (hP:∀ p ∈ P,PrOK p) (hPl:P.length = 3):(∀ x ∈ (shd T P).1,Valid x.1 x.2)/\(shd T P).1.length <= T.length + 4:=by
 obtain ⟨h1,h2⟩:=agT_info hTv hP 3 (by omega)
 rw [shd_eq]
 exact ⟨mkT_valid h1,by have:=(mkT_len (agT T P 3) (7,[83] :: agL T P 3)).2;omega⟩
structure Nx (T A:List Te) (m:Nat):Prop where
 v:(∀ x ∈ T,Valid x.1 x.2)->∀ x ∈ A,Valid x.1 x.2
 l:A.length <= T.length + m
theorem Nx.mk1 {T A:List Te} {k:Int} {p:List UInt8} {o:Nat} (h:mk1 T k p = (A,o)):Nx T A 1:=by
 have e:(Proofs.YtfnmgbillkiabaaGreat.mk1 T k p).1 = A:=by rw [h]
 subst e
 exact ⟨fun hv=>mk1_valid hv k p,(mk1_len T k p).2⟩
theorem Nx.mkT {T A:List Te} {x:Te} {o:Nat} (h:mkT T x = (A,o)):Nx T A 1:=by
 have e:(Proofs.YtfnmgbillkiabaaGreat.mkT T x).1 = A:=by rw [h]
 subst e
 exact ⟨fun hv=>mkT_valid hv,(mkT_len T x).2⟩
theorem Nx.shd {T A:List Te} {P:List Pr} {o:Nat} (hP:∀ p ∈ P,PrOK p) (hPl:P.length = 3) (h:shd T P = (A,o)):(∀ x ∈ T,Valid x.1 x.2)->(∀ x ∈ A,Valid x.1 x.2)/\A.length <= T.length + 4:=by
 have e:(Proofs.YtfnmgbillkiabaaGreat.shd T P).1 = A:=by rw [h]
 subst e
 exact fun hv=>shd_info hv hP hPl
theorem pr3 {p q r:Pr} (hp:PrOK p) (hq:PrOK q) (hr:PrOK r):∀ y ∈ [p,q,r],PrOK y:=by
 intro y hy
 simp only [List.mem_cons,List.not_mem_nil,or_false] at hy
 rcases hy with rfl | rfl | rfl
 ·exact hp
 ·exact hq
 ·exact hr
set_option maxHeartbeats 8000000 in
theorem fn57 (T:List Te) (N c:Nat) (hT:T.length = N) (hN:N <= 30000) (hNc:N <= c) (hTv:∀ x ∈ T,Valid x.1 x.2) (x:Ac) (hx:x.OK) (l:List On) (m:Nat) (hl:l.length = m) (hm:m <= 1000) (b:Bu) (hb:b.OK) (hv:vfy T N b.sg (buB b.dv b.ag b.sg b.id b.on) b.si)
  (e d:List UInt8) (he:e.length = 32) (hd:d.length = 32) (T1 T2 T3 T4 T5 T6:List Te) (f s o1 o2 o3 o4:Nat) (h1:mk1 T 1 e = (T1,f)) (h2:shd T1 [(x.ag,b.on),(kyB f,b.ag),(kyB f,b.on)] = (T2,s)) (h3:mk1 T2 2 x.ag = (T3,o1)) (h4:mk1 T3 5 x.sg = (T4,o2)) (h5:mk1 T4 2 (kyB f) = (T5,o3)) (h6:mkT T5 (7,[73] :: [kyB o1,kyB o3,b.on]) = (T6,o4)) :
  Sx.Fn Γ.P 57 [.agg [(1,.ptr 1000 0 none)],.agg (acL x (.isl 0 m 33 [(m * 33,.arr m 33 (onF l))])),.agg (buR b),.a8 e,.a8 d] (tbM N c T 1001)
  (fun v M=>∃ n' c',(begC T6 (kyB s) d).1.length = n'/\n' <= c'/\v = .tup [.agg (seL { begS T6 (kyB o4) (kyB s) d with fi:=true,ag:=kyB o1,sg:=kyB o2,ba:=kyB o3,oc:=b.id } (.isl 0 0 65 [(0 * 65,.arr 0 65 (kpF []))])),.i .i64 0]/\M = (1001,.dead) :: tbM n' c' (begC T6 (kyB s) d).1 1005):=by
 have hCk:=fn56 T N hT (by omega) hTv b hb hv
 have x1:=Nx.mk1 h1
 obtain ⟨b1,b2,b3,b4⟩:=hb
 obtain ⟨g1,g2,g3⟩:=hx
 have kf:=zk f
 have ks:=zk s
 have k1:=zk o1
 have k2:=zk o2
 have k3:=zk o3
 have k4:=zk o4
 have v1:=x1.v hTv
 have hPO:=pr3 (p:=(x.ag,b.on)) (q:=(kyB f,b.ag)) (r:=(kyB f,b.on)) ⟨g1,b3⟩ ⟨kf,b1⟩ ⟨kf,b3⟩
 obtain ⟨v2,l2⟩:=Nx.shd hPO rfl h2 v1
 have l1:=x1.l
 have v3:=(Nx.mk1 h3).v v2
 have l3:=(Nx.mk1 h3).l
 have v4:=(Nx.mk1 h4).v v3
 have l4:=(Nx.mk1 h4).l
 have v5:=(Nx.mk1 h5).v v4
 have l5:=(Nx.mk1 h5).l
 have v6:=(Nx.mkT h6).v v5
 have l6:=(Nx.mkT h6).l
 have hs0:s ≠ 0:=by have:=shd_ne T1 [(x.ag,b.on),(kyB f,b.ag),(kyB f,b.on)];rw [h2] at this;exact this
 have hFr:=fnFreshF T N c hT (by omega) hNc hTv e he T1 f (by rw [h1]) (by rw [h1])
 obtain ⟨Z,hZ⟩:∃ Z,begS T6 (kyB o4) (kyB s) d = Z:=⟨_,rfl⟩
 have za:Z.id.length = 32:=by rw [<- hZ];exact k4
 have zb:Z.root.length = 32:=by rw [<- hZ];exact zk _
 have zc:Z.mine.length = 32:=by rw [<- hZ];exact zk _
 have wd7:Z.sk.length = 32:=by rw [<- hZ];exact zk _
 have ze:Z.th.length = 32:=by rw [<- hZ];exact List.length_replicate
 have zf:Z.rk.length = 32:=by rw [<- hZ];exact List.length_replicate
 have wg7:Z.ag.length = 32:=by rw [<- hZ];exact List.length_replicate
 have wh7:Z.sg.length = 32:=by rw [<- hZ];exact List.length_replicate
 have zi:Z.ba.length = 32:=by rw [<- hZ];exact List.length_replicate
 rw [hZ]
 unfold buR at hCk
 unfold tbM at hFr
 unfold tbM buR
 refine fn_cut [4,9] (Γ:=Γ) (fn:=Tryz.f57) rfl rfl rfl rfl ?_
 repeat (refine sd ?_)
 refine Call.intro hCk [(1000,(1000,0,none)),(1001,(1001,0,none)),(1002,(1002,0,none))] rfl ?_ rfl ?_ rfl ?_
 ·exact fc
 ·exact fc
 rintro v M' ⟨rfl,rfl⟩
 dsimp only [zt,zM,zE,ren,zz,zx,zy,look,zG,zX,ev,evL,zV,zcT,zcF,act,zP,zO,Ent.zW]
 repeat (first | (refine zB.intro (fun _=>?_) (fun hn=>absurd rfl hn)) | (refine ky0 ?_) | (refine kn0 ?_) | (refine sd ?_))
 refine Call.intro hFr [(1000,(1000,0,none)),(1001,(1001,0,none)),(1002,(1002,0,none)),(1005,(305,0,none))] rfl ?_ rfl ?_ rfl ?_
 ·exact fc
 ·exact fc
 rintro v M' ⟨n1,c1,hn1,hc1,rfl,rfl⟩
 have hn1:T1.length = n1:=hn1
 have hBg:=fn104 T1 n1 c1 hn1 (by omega) hc1 v1 (x.ag,b.on) (kyB f,b.ag) (kyB f,b.on) ⟨g1,b3⟩ ⟨kf,b1⟩ ⟨kf,b3⟩ _ rfl
 rw [h2] at hBg
 unfold prV tbM at hBg
 dsimp only [zt,zM,zE,ren,zz,zx,zy,look,zG,zX,ev,evL,zV,zcT,zcF,act,zP,zO,Ent.zW]
 repeat (refine sd ?_)
 refine Cut.intro (σ:=Unit) (fun _=>True) (fun _=>([(5,.ptr 205 0 none),(6,.ptr 206 0 none),(7,.ptr 207 0 none),(9,.ptr 209 0 none),(10,.ptr 210 0 none),(12,.ptr 212 0 none)],[(205,.mem true 0 [(1,.ptr 1000 0 none)]),(206,.mem true 0 (acL x (.isl 0 m 33 [(m * 33,.arr m 33 (onF l))]))),(207,.mem true 0 [(1,.u8 b.dv),(32,.a8 b.ag),(32,.a8 b.sg),(1,.u16 b.id),(32,.a8 b.on),(64,.a8 b.si)]),(209,.mem true 0 [(32,.a8 d)]),(210,.mem true 0 zsL),(212,.mem true 0 [(32,.a8 (kyB f))]),
  (1000,.mem true 0 [(1,.sl 211 0 0 n1 c1),(1,.mp 1002)]),(1001,.dead),(211,.mem true (zmE (c1 - n1) 3) [(n1 * 3,.arr n1 3 (ttF T1))]),(1002,.map (.si (mpL T1)))])) () trivial (Le.intro [(205,(5,0,none)),(206,(6,0,none)),(207,(7,0,none)),(209,(9,0,none)),(210,(10,0,none)),(212,(12,0,none)),(211,(305,0,none))] rfl ?_ rfl ?_ rfl) ?_
 ·exact fc
 ·exact fc
 rintro - -
 repeat (refine sd ?_)
 refine Call.intro hBg [(1000,(1000,0,none)),(1001,(211,0,none)),(1002,(1002,0,none)),(1005,(305,0,none))] rfl ?_ rfl ?_ rfl ?_
 ·exact fc
 ·exact fc
 rintro v M' ⟨n2,c2,hn2,hc2,rfl,rfl⟩
 have hn2:T2.length = n2:=hn2
 have hPu:=fn100 T2 n2 c2 hn2 (by omega) hc2 v2 x ⟨g1,g2,g3⟩ l m hl hm T3 T4 o1 o2 (by rw [h3]) (by rw [h3]) (by rw [h4]) (by rw [h4])
 unfold tbM at hPu
 have hs1:¬ ¬ (s ≠ 0):=fun h=>h hs0
 dsimp only [zt,zM,zE,ren,zz,zx,zy,look,zG,zX,ev,evL,zV,zcT,zcF,act,zP,zO,Ent.zW]
 repeat (first | (refine zB.intro (fun _=>?_) (fun hn=>absurd rfl hn)) | (refine ky0 ?_) | (refine kn0 ?_) | (refine ky ?_) | (refine kn ?_) | (refine sd ?_))
 refine Call.intro hPu [(1000,(1000,0,none)),(1001,(305,0,none)),(1002,(1002,0,none)),(1005,(306,0,none))] rfl ?_ rfl ?_ rfl ?_
 ·exact fc
 ·exact fc
 rintro v M' ⟨n3,c3,hn3,hc3,rfl,rfl⟩
 have hn3:T4.length = n3:=hn3
 have hPb:=fnPublicF T4 n3 c3 hn3 (by omega) hc3 v4 (kyB f) kf T5 o3 (by rw [h5]) (by rw [h5])
 unfold tbM at hPb
 dsimp only [zt,zM,zE,ren,zz,zx,zy,look,zG,zX,ev,evL,zV,zcT,zcF,act,zP,zO,Ent.zW]
 repeat (refine sd ?_)
 refine Call.intro hPb [(1000,(1000,0,none)),(1001,(306,0,none)),(1002,(1002,0,none)),(1005,(307,0,none))] rfl ?_ rfl ?_ rfl ?_
 ·exact fc
 ·exact fc
 rintro v M' ⟨n4,c4,hn4,hc4,rfl,rfl⟩
 have hn4:T5.length = n4:=hn4
 dsimp only [zt,zM,zE,ren,zz,zx,zy,look,zG,zX,ev,evL,zV,zcT,zcF,act,zP,zO,Ent.zW]
 repeat (refine sd ?_)
 refine Cut.intro (σ:=Unit) (fun _=>True) (fun _=>([(5,.ptr 205 0 none),(7,.ptr 207 0 none),(9,.ptr 209 0 none),(10,.ptr 210 0 none),(13,.ptr 213 0 none),(15,.ptr 215 0 none),(16,.ptr 216 0 none),(17,.ptr 217 0 none)],[(205,.mem true 0 [(1,.ptr 1000 0 none)]),(207,.mem false 1 [(1,.u8 b.dv),(32,.a8 b.ag),(32,.a8 b.sg),(1,.u16 b.id),(32,.a8 b.on),(64,.a8 b.si)]),(209,.mem true 0 [(32,.a8 d)]),(210,.mem true 0 zsL),(213,.mem true 0 [(32,.a8 (kyB s))]),(215,.mem false 1 [(32,.a8 (kyB o1))]),(216,.mem true 0 [(32,.a8 (kyB o2))]),(217,.mem false 1 [(32,.a8 (kyB o3))]),
  (1000,.mem true 0 [(1,.sl 211 0 0 n4 c4),(1,.mp 1002)]),(1001,.dead),(211,.mem true (zmE (c4 - n4) 3) [(n4 * 3,.arr n4 3 (ttF T5))]),(1002,.map (.si (mpL T5)))])) () trivial (Le.ghost [.keep 207,.keep 15,.keep 17] [] [(205,(205,0,none)),(207,(207,0,none)),(209,(209,0,none)),(210,(210,0,none)),(213,(13,0,none)),(215,(15,0,none)),(216,(16,0,none)),(217,(17,0,none)),(211,(307,0,none))] rfl ?_ rfl rfl ?_ rfl ?_ rfl) ?_
 ·exact fc
 ·exact fc
 ·exact fc
 rintro - -
 have hMx:=fnMixF T5 n4 c4 hn4 (by omega) hc4 v5 73 [kyB o1,kyB o3,b.on] 3 rfl (by omega) (fun y hy=>by
  simp only [List.mem_cons,List.not_mem_nil,or_false] at hy
  rcases hy with rfl | rfl | rfl <;> omega)
 rw [h6] at hMx
 unfold MT rwS at hMx
 refine Draw.intro [[],[],[],[],[3],[1,2,3,4],[0,1,2,3,4,5],[0,1,2,3,4,5,6],[0,1,2,3,4,5,6,7],[0,1,2,3,4,5,6,7],[],[0,1,2,3,4,5,6,7,8,10],[0,1,2,3,4,5,6,7,8,9,10,11]] [0,1,2,3,4,5,10,6,7,8,9,11,12] (by kernel_rfl) ?_
 repeat (first | (refine Grow.turn rfl rfl ?_) | (refine sd ?_))
 refine Call.name [(0,[]),(0,[]),(2001,[])] rfl fc (CallP.intro hMx [(1000,(1000,0,none)),(1001,(211,0,none)),(1002,(1002,0,none)),(1003,(2001,0,none)),(1005,(305,0,none))] rfl fc rfl ?_ rfl ?_)
 ·repeat' (first | (show zA _;first | exact trivial | refine zA.app ?_ ?_ | refine zA.zd ?_ ?_ | refine zA.cons ?_ ?_) | exact fd | fail)
  all_goals first | exact rwK rfl k1 | exact rwK rfl k3 | exact rwK rfl b3 | trace_state
 rintro v M' ⟨n5,c5,hn5,hc5,rfl,rfl⟩
 have hn5:T6.length = n5:=hn5
 have hBe:=fn9 T6 n5 c5 hn5 (by omega) hc5 v6 (kyB o4) (kyB s) d k4 ks hd
 rw [hZ] at hBe
 unfold tbM seL at hBe
 dsimp only [zt,zM,zE,ren,zz,zx,zy,look,zG,zX,ev,evL,zV,zcT,zcF,act,zP,zO,Ent.zW]
 repeat (first | (refine Grow.turn rfl rfl ?_) | (refine sd ?_))
 refine Call.intro hBe [(1000,(1000,0,none)),(1001,(305,0,none)),(1002,(1002,0,none)),(1005,(306,0,none))] rfl ?_ rfl ?_ rfl ?_
 ·exact fc
 ·exact fc
 rintro v M' ⟨n6,c6,hn6,hc6,rfl,rfl⟩
 dsimp only [zt,zM,zE,ren,zz,zx,zy,look,zG,zX,ev,evL,zV,zcT,zcF,act,zP,zO,Ent.zW]
 repeat (refine sd ?_)
 refine Draw.intro [[],[],[],[],[3],[],[5],[0,5,6],[0,5,6,7],[0,1,5,6,7,8],[0,1,5,6,7,8,9],[0,1,2,5,6,7,8,9,10],[0,1,2,5,6,7,8,9,10,11],[0,1,2,3,4,5,6,7,8,9,10,11,12],[0,1,2,3,4,5,6,7,8,9,10,11,12,13]] [0,1,2,3,4,5,6,7,8,9,10,11,12,13,14] (by kernel_rfl) ?_
 repeat (first | (refine Grow.turn rfl rfl ?_) | (refine sd ?_))
 refine Ret.intro (.tup [.agg (seL { Z with fi:=true,ag:=kyB o1,sg:=kyB o2,ba:=kyB o3,oc:=b.id } (.isl 0 0 65 [(0 * 65,.arr 0 65 (kpF []))])),.i .i64 0]) ((1001,.dead) :: tbM n6 c6 (begC T6 (kyB s) d).1 1005) [(1005,(306,0,none))] rfl ?_ ⟨n6,c6,hn6,hc6,rfl,rfl⟩ rfl ?_ rfl ?_ rfl
 ·repeat' (first | (show zA _;first | exact trivial | refine zA.app ?_ ?_ | refine zA.zd ?_ ?_ | refine zA.cons ?_ ?_) | exact fd | fail)
  all_goals first | exact ⟨fun _=>rfl,fun _=>trivial⟩ | exact ⟨fun _=>trivial,fun _=>rfl⟩ | trace_state
 ·repeat' (first | (show zA _;first | exact trivial | refine zA.app ?_ ?_ | refine zA.zd ?_ ?_ | refine zA.cons ?_ ?_) | exact fd | fail)
  all_goals first | exact ⟨fun _=>rfl,fun _=>trivial⟩ | exact ⟨fun _=>trivial,fun _=>rfl⟩ | trace_state
 ·repeat' (first | (show zA _;first | exact trivial | refine zA.app ?_ ?_ | refine zA.zd ?_ ?_ | refine zA.cons ?_ ?_) | exact fd | fail)
  all_goals first | exact ⟨fun _=>rfl,fun _=>trivial⟩ | exact ⟨fun _=>trivial,fun _=>rfl⟩ | trace_state
end Go.Proofs.YtfnmgbillkiabaaGreat
