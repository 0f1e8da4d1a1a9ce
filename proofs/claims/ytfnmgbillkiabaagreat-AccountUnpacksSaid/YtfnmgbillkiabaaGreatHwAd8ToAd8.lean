/- What the functions of the program compute. No condition. -/
import Derived.Test.YtfnmgbillkiabaaGreatHwAd7ToAd7
set_option linter.unusedSimpArgs false
set_option linter.unusedVariables false
set_option maxRecDepth 100000
namespace Go.Proofs.YtfnmgbillkiabaaGreat
open Go Go.Sx
set_option maxHeartbeats 8000000 in
theorem fnAnswerNo (T:List Te) (N c:Nat) (hT:T.length = N) (hN:N <= 30000) (hNc:N <= c) (x:Ac) (hx:x.OK) (l:List On) (k:Nat) (hl:l.length = k) (hk:k <= 100) (hlO:∀ y ∈ l,OnOK y) (h:Hd) (hh:h.OK) (hf:h.fi = true) (all:List On) (hal:(x.fi,x.fs) :: l = all) (hno:fiO h.id all = 1 + k) :
  Sx.Fn Γ.P 58 [.agg [(1,.ptr 1000 0 none)],.agg (acL x (.isl 0 k 33 [(k * 33,.arr k 33 (onF l))])),hdV h] (tbM N c T 1001)
  (fun v M=>v = .tup [.agg (acL x (.isl 0 k 33 [(k * 33,.arr k 33 (onF l))])),.agg zsL,.i .i64 190]/\M = (1001,.dead) :: tbM N c T 1005):=by
 refine fn_cut [6] (Γ:=Γ) (fn:=Tryz.f58) rfl rfl rfl rfl ?_
 have hCl:=fnCloneO l k k hl (Nat.le_refl _) (by omega)
 have hlt:l.take k = l:=List.take_of_length_le (by omega)
 rw [hlt] at hCl
 have halO:∀ y ∈ all,OnOK y:=by
  subst hal
  intro y hy
  rcases List.mem_cons.1 hy with rfl | hy
  ·exact hx.fs
  ·exact hlO y hy
 have hall:all.length = 1 + k:=by subst hal;rw [List.length_cons,hl];omega
 have hIx:=fnIndexO all (1 + k) hall (by omega) halO h
 obtain ⟨g1,g2,g3⟩:=hx
 have hh':=hh
 obtain ⟨f1,f2,f3,f4,f5⟩:=hh'
 unfold tbM hdV
 repeat (refine sd ?_)
 refine Call.name [(2001,[])] rfl fc (CallP.intro hCl [(1003,(2001,0,none)),(1006,(306,0,none))] rfl fc rfl ?_ rfl ?_)
 ·exact fc
 rintro v M' ⟨cl,hcl,rfl,rfl⟩
 dsimp only [zt,zM,zE,ren,zz,zx,zy,look,zG,zX,ev,evL,zV,zcT,zcF,act,zP,zO,Ent.zW]
 repeat (first | (refine zB.intro (fun h=>False.elim (by revert h;first | (simp [hf];done) | fail)) (fun _=>?_)) | (refine zB.intro (fun _=>?_) (fun h=>False.elim (by revert h;first | (simp [hf];done) | fail))) | (refine sd ?_))
 refine fun ca hca=>?_
 have hca:1 + k <= ca:=hca
 repeat (refine sd ?_)
 refine Cut.intro (σ:=Unit) (fun _=>True) (fun _=>([(3,.ptr 203 0 none),(4,.ptr 204 0 none),(5,.ptr 205 0 none),(6,.ptr 206 0 none),(7,.ptr 207 0 none),(9,.fn 105 [(205,0)]),(10,.sl 210 0 0 (1 + k) ca)],[(203,.mem true 0 [(1,.ptr 1000 0 none)]),(204,.mem true 0 [(32,.a8 x.ag),(32,.a8 x.sg),(1,.u16 x.fi),(32,.a8 x.fs),(1,.sl 214 0 0 k cl),(1,.u16 x.nx)]),(205,.mem true 0 (hdR h)),(206,.mem true 0 zAc),(207,.mem true 0 zsL),(210,.mem true (zmE (ca - (1 + k)) 33) [((1 + k) * 33,.arr (1 + k) 33 (onF all))]),(214,.mem true (zmE (cl - k) 33) [(k * 33,.arr k 33 (onF l))]),
  (1000,.mem true 0 [(1,.sl 1001 0 0 N c),(1,.mp 1002)]),(1001,.mem true (zmE (c - N) 3) [(N * 3,.arr N 3 (ttF T))]),(1002,.map (.si (mpL T)))])) () trivial (Le.intro [(203,(3,0,none)),(204,(4,0,none)),(205,(5,0,none)),(206,(6,0,none)),(207,(7,0,none)),(210,(33,0,none)),(214,(306,0,none))] rfl ?_ rfl ?_ rfl) ?_
 ·exact fc
 ·repeat' (first | (show zA _;first | exact trivial | refine zA.app ?_ ?_ | refine zA.zd ?_ ?_ | refine zA.cons ?_ ?_) | exact fd | fail)
  all_goals first | (rw [<- hal];exact onF_cons hl rfl (fun q _=>by first | rfl | (rw [shiftF_eq,Nat.zero_add]))) | trace_state
 rintro - -
 unfold hdR at hIx
 repeat (refine sd ?_)
 refine Call.intro hIx [(1003,(210,0,none)),(1000,(205,0,none))] rfl ?_ rfl ?_ rfl ?_
 ·exact fc
 ·exact fc
 rintro v M' ⟨(⟨hlt2,_⟩ | ⟨_,rfl⟩),rfl⟩
 ·omega
 dsimp only [zt,zM,zE,ren,zz,zx,zy,look,zG,zX,ev,evL,zV,zcT,zcF,act,zP,zO,Ent.zW]
 repeat (first | (refine zB.intro (fun h=>False.elim (by revert h;first | (simp ;done) | fail)) (fun _=>?_)) | (refine zB.intro (fun _=>?_) (fun h=>False.elim (by revert h;first | (simp ;done) | fail))) | (refine sd ?_))
 refine Ret.ghost [.keep 214,.ice 206 4] [] rfl ?_ rfl (.tup [.agg (acL x (.isl 0 k 33 [(k * 33,.arr k 33 (onF l))])),.agg zsL,.i .i64 190]) ((1001,.dead) :: tbM N c T 1005) [(1005,(1001,0,none))] rfl ?_ ⟨rfl,rfl⟩ rfl ?_ rfl ?_ rfl
 ·repeat' (first | (show zA _;first | exact trivial | refine zA.app ?_ ?_ | refine zA.zd ?_ ?_ | refine zA.cons ?_ ?_) | exact fd | fail)
  all_goals first | exact fun _ _=>rfl | trace_state
 ·repeat' (first | (show zA _;first | exact trivial | refine zA.app ?_ ?_ | refine zA.zd ?_ ?_ | refine zA.cons ?_ ?_) | exact fd | fail)
  all_goals first | exact fun _ _=>rfl | trace_state
 ·repeat' (first | (show zA _;first | exact trivial | refine zA.app ?_ ?_ | refine zA.zd ?_ ?_ | refine zA.cons ?_ ?_) | exact fd | fail)
  all_goals first | exact fun _ _=>rfl | trace_state
 ·repeat' (first | (show zA _;first | exact trivial | refine zA.app ?_ ?_ | refine zA.zd ?_ ?_ | refine zA.cons ?_ ?_) | exact fd | fail)
  all_goals first | exact fun _ _=>rfl | trace_state
set_option maxHeartbeats 8000000 in
theorem fnAnswerYes (T:List Te) (N c:Nat) (hT:T.length = N) (hN:N <= 30000) (hNc:N <= c) (hTv:∀ y ∈ T,Valid y.1 y.2) (x:Ac) (hx:x.OK) (l:List On) (k:Nat) (hl:l.length = k) (hk:k <= 100) (hlO:∀ y ∈ l,OnOK y) (h:Hd) (hh:h.OK) (hf:h.fi = true) (all:List On) (hal:(x.fi,x.fs) :: l = all) (i:Nat) (hi1:1 <= i) (hik:i <= k) (hyes:fiO h.id all = i)
  (o:List UInt8) (ho:(all.getD i on0).2 = o) (T2 T3 T4:List Te) (s o1 o2:Nat) (h2:shd T [(o,h.ag),(x.ag,h.ba),(o,h.ba)] = (T2,s)) (h3:mk1 T2 2 o = (T3,o1)) (h4:mkT T3 (7,[73] :: [h.ag,h.ba,kyB o1]) = (T4,o2)) (hid:kyB o2 = h.ss) :
  Sx.Fn Γ.P 58 [.agg [(1,.ptr 1000 0 none)],.agg (acL x (.isl 0 k 33 [(k * 33,.arr k 33 (onF l))])),hdV h] (tbM N c T 1001)
  (fun v M=>∃ n' c',(begB T4 (kyB s)).1.length = n'/\n' <= c'/\v = .tup [.agg (acL x (.isl 0 (k - 1) 33 [((k - 1) * 33,.arr (k - 1) 33 (onF (l.take (i - 1) ++ l.drop (i - 1 + 1))))])),.agg (seL (joiS T4 h.ss (kyB s) h.ra) (.isl 0 0 65 [(0 * 65,.arr 0 65 (kpF []))])),.i .i64 0]/\M = (1001,.dead) :: tbM n' c' (begB T4 (kyB s)).1 1005):=by
 refine fn_cut [6,9,12] (Γ:=Γ) (fn:=Tryz.f58) rfl rfl rfl rfl ?_
 have hCl:=fnCloneO l k k hl (Nat.le_refl _) (by omega)
 have hlt:l.take k = l:=List.take_of_length_le (by omega)
 rw [hlt] at hCl
 have halO:∀ y ∈ all,OnOK y:=by
  subst hal
  intro y hy
  rcases List.mem_cons.1 hy with rfl | hy
  ·exact hx.fs
  ·exact hlO y hy
 have hall:all.length = 1 + k:=by subst hal;rw [List.length_cons,hl];omega
 have hIx:=fnIndexO all (1 + k) hall (by omega) halO h
 obtain ⟨g1,g2,g3⟩:=hx
 have hh':=hh
 obtain ⟨f1,f2,f3,f4,f5⟩:=hh'
 unfold tbM hdV
 repeat (refine sd ?_)
 refine Call.name [(2001,[])] rfl fc (CallP.intro hCl [(1003,(2001,0,none)),(1006,(306,0,none))] rfl fc rfl ?_ rfl ?_)
 ·exact fc
 rintro v M' ⟨cl,hcl,rfl,rfl⟩
 dsimp only [zt,zM,zE,ren,zz,zx,zy,look,zG,zX,ev,evL,zV,zcT,zcF,act,zP,zO,Ent.zW]
 repeat (first | (refine zB.intro (fun h=>False.elim (by revert h;first | (simp [hf];done) | fail)) (fun _=>?_)) | (refine zB.intro (fun _=>?_) (fun h=>False.elim (by revert h;first | (simp [hf];done) | fail))) | (refine sd ?_))
 refine fun ca hca=>?_
 have hca:1 + k <= ca:=hca
 repeat (refine sd ?_)
 refine Cut.intro (σ:=Unit) (fun _=>True) (fun _=>([(3,.ptr 203 0 none),(4,.ptr 204 0 none),(5,.ptr 205 0 none),(6,.ptr 206 0 none),(7,.ptr 207 0 none),(9,.fn 105 [(205,0)]),(10,.sl 210 0 0 (1 + k) ca)],[(203,.mem true 0 [(1,.ptr 1000 0 none)]),(204,.mem true 0 [(32,.a8 x.ag),(32,.a8 x.sg),(1,.u16 x.fi),(32,.a8 x.fs),(1,.sl 214 0 0 k cl),(1,.u16 x.nx)]),(205,.mem true 0 (hdR h)),(206,.mem true 0 zAc),(207,.mem true 0 zsL),(210,.mem true (zmE (ca - (1 + k)) 33) [((1 + k) * 33,.arr (1 + k) 33 (onF all))]),(214,.mem true (zmE (cl - k) 33) [(k * 33,.arr k 33 (onF l))]),
  (1000,.mem true 0 [(1,.sl 1001 0 0 N c),(1,.mp 1002)]),(1001,.mem true (zmE (c - N) 3) [(N * 3,.arr N 3 (ttF T))]),(1002,.map (.si (mpL T)))])) () trivial (Le.intro [(203,(3,0,none)),(204,(4,0,none)),(205,(5,0,none)),(206,(6,0,none)),(207,(7,0,none)),(210,(33,0,none)),(214,(306,0,none))] rfl ?_ rfl ?_ rfl) ?_
 ·exact fc
 ·repeat' (first | (show zA _;first | exact trivial | refine zA.app ?_ ?_ | refine zA.zd ?_ ?_ | refine zA.cons ?_ ?_) | exact fd | fail)
  all_goals first | (rw [<- hal];exact onF_cons hl rfl (fun q _=>by first | rfl | (rw [shiftF_eq,Nat.zero_add]))) | trace_state
 rintro - -
 unfold hdR at hIx
 repeat (refine sd ?_)
 refine Call.intro hIx [(1003,(210,0,none)),(1000,(205,0,none))] rfl ?_ rfl ?_ rfl ?_
 ·exact fc
 ·exact fc
 rintro v M' ⟨(⟨_,rfl⟩ | ⟨hno,_⟩),rfl⟩
 rotate_left
 ·omega
 rw [hyes]
 have ho32:o.length = 32:=by rw [<- ho];exact halO _ (getD_mem on0 (by omega))
 have hDe:=fnDelete l k cl (i - 1) hl (by omega) hcl (by omega)
 have ei:((i - 1 + 1:Nat):Int) = (i:Int):=by omega
 rw [ei] at hDe
 have ei2:((i - 1:Nat):Int) = (i:Int) - 1:=by omega
 rw [ei2] at hDe
 have j1:(all.getD (Ix.dyn (Int.toNat (i:Int))).val on0).2 = o:=by rw [show (Ix.dyn (Int.toNat (i:Int))).val = i from zIn i,ho]
 have j2:(all.getD (addQ 0 (Ix.dyn (Int.toNat (i:Int))).val) on0).2 = o:=by rw [show addQ 0 (Ix.dyn (Int.toNat (i:Int))).val = i by rw [zQ,Nat.zero_add];exact zIn i,ho]
 have ks:=zk s
 have k1:=zk o1
 have k2:=zk o2
 have hPO:=pr3 (p:=(o,h.ag)) (q:=(x.ag,h.ba)) (r:=(o,h.ba)) ⟨ho32,f2⟩ ⟨g1,f4⟩ ⟨ho32,f4⟩
 obtain ⟨v2,l2⟩:=Nx.shd hPO rfl h2 hTv
 have v3:=(Nx.mk1 h3).v v2
 have l3:=(Nx.mk1 h3).l
 have v4:=(Nx.mkT h4).v v3
 have l4:=(Nx.mkT h4).l
 have hs0:s ≠ 0:=by have:=shd_ne T [(o,h.ag),(x.ag,h.ba),(o,h.ba)];rw [h2] at this;exact this
 have hBg:=fn104 T N c hT (by omega) hNc hTv (o,h.ag) (x.ag,h.ba) (o,h.ba) ⟨ho32,f2⟩ ⟨g1,f4⟩ ⟨ho32,f4⟩ _ rfl
 rw [h2] at hBg
 unfold prV tbM at hBg
 dsimp only [zt,zM,zE,ren,zz,zx,zy,look,zG,zX,ev,evL,zV,zcT,zcF,act,zP,zO,Ent.zW]
 refine zB.intro (fun hb=>?_) (fun hb=>?_)
 ·have hb:(i:Int) < 0:=hb
  exact absurd hb (by omega)
 refine Cut.intro (σ:=Unit) (fun _=>True) (fun _=>([(3,.ptr 203 0 none),(4,.ptr 204 0 none),(5,.ptr 205 0 none),(6,.ptr 206 0 none),(7,.ptr 207 0 none),(10,.sl 210 0 0 (1 + k) ca),(11,.i .i64 (i:Int))],[(203,.mem true 0 [(1,.ptr 1000 0 none)]),(204,.mem true 0 [(32,.a8 x.ag),(32,.a8 x.sg),(1,.u16 x.fi),(32,.a8 x.fs),(1,.sl 214 0 0 k cl),(1,.u16 x.nx)]),(205,.mem true 0 (hdR h)),(206,.mem true 0 zAc),(207,.mem true 0 zsL),(210,.mem true (zmE (ca - (1 + k)) 33) [((1 + k) * 33,.arr (1 + k) 33 (onF all))]),(214,.mem true (zmE (cl - k) 33) [(k * 33,.arr k 33 (onF l))]),
  (1000,.mem true 0 [(1,.sl 1001 0 0 N c),(1,.mp 1002)]),(1001,.mem true (zmE (c - N) 3) [(N * 3,.arr N 3 (ttF T))]),(1002,.map (.si (mpL T)))])) () trivial (Le.intro [(203,(203,0,none)),(204,(204,0,none)),(205,(205,0,none)),(206,(206,0,none)),(207,(207,0,none)),(210,(210,0,none)),(214,(214,0,none))] rfl ?_ rfl ?_ rfl) ?_
 ·exact fc
 ·exact fc
 rintro - -
 repeat (refine sd ?_)
 refine Call.intro hBg [(1000,(1000,0,none)),(1001,(1001,0,none)),(1002,(1002,0,none)),(1005,(305,0,none))] rfl ?_ rfl ?_ rfl ?_
 ·repeat' (first | (show zA _;first | exact trivial | refine zA.app ?_ ?_ | refine zA.zd ?_ ?_ | refine zA.cons ?_ ?_) | exact fd | fail)
  all_goals first | (rw [j1];done) | (rw [j2];done) | (simp only [j1];done) | (simp only [j2];done) | trace_state
 ·exact fc
 rintro v M' ⟨n2,c2,hn2,hc2,rfl,rfl⟩
 have hn2:T2.length = n2:=hn2
 have hPb:=fnPublicF T2 n2 c2 hn2 (by omega) hc2 v2 o ho32 T3 o1 (by rw [h3]) (by rw [h3])
 unfold tbM at hPb
 dsimp only [zt,zM,zE,ren,zz,zx,zy,look,zG,zX,ev,evL,zV,zcT,zcF,act,zP,zO,Ent.zW]
 repeat (refine sd ?_)
 refine Call.intro hPb [(1000,(1000,0,none)),(1001,(305,0,none)),(1002,(1002,0,none)),(1005,(306,0,none))] rfl ?_ rfl ?_ rfl ?_
 ·repeat' (first | (show zA _;first | exact trivial | refine zA.app ?_ ?_ | refine zA.zd ?_ ?_ | refine zA.cons ?_ ?_) | exact fd | fail)
  all_goals first | (rw [j1];done) | (rw [j2];done) | exact j1 | exact j1.symm | exact j2 | exact j2.symm | trace_state
 ·exact fc
 rintro v M' ⟨n3,c3,hn3,hc3,rfl,rfl⟩
 have hn3:T3.length = n3:=hn3
 dsimp only [zt,zM,zE,ren,zz,zx,zy,look,zG,zX,ev,evL,zV,zcT,zcF,act,zP,zO,Ent.zW]
 repeat (refine sd ?_)
 refine Cut.intro (σ:=Unit) (fun _=>True) (fun _=>([(3,.ptr 203 0 none),(4,.ptr 204 0 none),(5,.ptr 205 0 none),(6,.ptr 206 0 none),(7,.ptr 207 0 none),(11,.i .i64 (i:Int)),(13,.ptr 213 0 none),(14,.bool (s ≠ 0)),(15,.ptr 215 0 none)],[(203,.mem true 0 [(1,.ptr 1000 0 none)]),(204,.mem true 0 [(32,.a8 x.ag),(32,.a8 x.sg),(1,.u16 x.fi),(32,.a8 x.fs),(1,.sl 214 0 0 k cl),(1,.u16 x.nx)]),(205,.mem false 1 (hdR h)),(206,.mem true 0 zAc),(207,.mem true 0 zsL),(213,.mem true 0 [(32,.a8 (kyB s))]),(214,.mem true (zmE (cl - k) 33) [(k * 33,.arr k 33 (onF l))]),(215,.mem false 1 [(32,.a8 (kyB o1))]),
  (1000,.mem true 0 [(1,.sl 211 0 0 n3 c3),(1,.mp 1002)]),(1001,.dead),(211,.mem true (zmE (c3 - n3) 3) [(n3 * 3,.arr n3 3 (ttF T3))]),(1002,.map (.si (mpL T3)))])) () trivial (Le.ghost [.keep 205,.keep 15] [] [(203,(203,0,none)),(204,(204,0,none)),(205,(205,0,none)),(206,(206,0,none)),(207,(207,0,none)),(213,(13,0,none)),(214,(214,0,none)),(215,(15,0,none)),(211,(306,0,none))] rfl ?_ rfl rfl ?_ rfl ?_ rfl) ?_
 ·exact fc
 ·exact fc
 ·exact fc
 rintro - -
 have hMx:=fnMixF T3 n3 c3 hn3 (by omega) hc3 v3 73 [h.ag,h.ba,kyB o1] 3 rfl (by omega) (fun y hy=>by
  simp only [List.mem_cons,List.not_mem_nil,or_false] at hy
  rcases hy with rfl | rfl | rfl <;> omega)
 rw [h4] at hMx
 unfold MT rwS at hMx
 refine Draw.intro [[],[],[1],[],[3],[],[1,2,3,4,5],[0,1,2,3,4,5,6],[0,1,2,3,4,5,6,7],[0,1,2,3,4,5,6,7,8],[0,1,2,3,4,5,6,7,8],[],[0,1,2,3,4,5,6,7,8,9,11],[0,1,2,3,4,5,6,7,8,9,10,11,12]] [0,1,2,3,4,5,6,11,7,8,9,10,12,13] (by kernel_rfl) ?_
 repeat (first | (refine Grow.turn rfl rfl ?_) | (refine sd ?_))
 refine Call.name [(0,[]),(0,[]),(2001,[])] rfl fc (CallP.intro hMx [(1000,(1000,0,none)),(1001,(211,0,none)),(1002,(1002,0,none)),(1003,(2001,0,none)),(1005,(305,0,none))] rfl fc rfl ?_ rfl ?_)
 ·repeat' (first | (show zA _;first | exact trivial | refine zA.app ?_ ?_ | refine zA.zd ?_ ?_ | refine zA.cons ?_ ?_) | exact fd | fail)
  all_goals first | exact rwK rfl k1 | exact rwK rfl f2 | exact rwK rfl f4 | trace_state
 rintro v M' ⟨n4,c4,hn4,hc4,rfl,rfl⟩
 have hn4:T4.length = n4:=hn4
 have hip:(0:Int) < (i:Int):=by omega
 have hJo:=fn11 T4 n4 c4 hn4 (by omega) hc4 v4 (kyB o2) (kyB s) h.ra k2 ks f5
 rw [hid] at hJo
 obtain ⟨Z,hZ⟩:∃ Z,joiS T4 h.ss (kyB s) h.ra = Z:=⟨_,rfl⟩
 have za:Z.id.length = 32:=by rw [<- hZ];exact f1
 have zb:Z.root.length = 32:=by rw [<- hZ];exact zk _
 have zc:Z.mine.length = 32:=by rw [<- hZ];exact List.length_replicate
 have wd7:Z.sk.length = 32:=by rw [<- hZ];exact List.length_replicate
 have ze:Z.th.length = 32:=by rw [<- hZ];exact f5
 have zf:Z.rk.length = 32:=by rw [<- hZ];exact zk _
 have wg7:Z.ag.length = 32:=by rw [<- hZ];exact List.length_replicate
 have wh7:Z.sg.length = 32:=by rw [<- hZ];exact List.length_replicate
 have zi:Z.ba.length = 32:=by rw [<- hZ];exact List.length_replicate
 rw [hZ] at hJo ⊢
 unfold tbM seL at hJo
 dsimp only [zt,zM,zE,ren,zz,zx,zy,look,zG,zX,ev,evL,zV,zcT,zcF,act,zP,zO,Ent.zW]
 repeat (first | (refine Grow.turn rfl rfl ?_) | (refine sd ?_))
 repeat (first | (refine zB.intro (fun h=>False.elim (by revert h;first | (simp [hs0,hid];done) | fail)) (fun _=>?_)) | (refine zB.intro (fun _=>?_) (fun h=>False.elim (by revert h;first | (simp [hs0,hid];done) | fail))) | (refine sd ?_))
 repeat (first | (refine zB.intro (fun _=>?_) (fun hn=>absurd rfl hn)) | (refine ky0 ?_) | (refine kn0 ?_) | (refine ky ?_) | (refine kn ?_) | (refine sd ?_))
 refine Call.intro hDe [(1000,(214,0,none))] rfl ?_ rfl ?_ rfl ?_
 ·exact fc
 ·exact fc
 rintro v M' ⟨rfl,rfl⟩
 dsimp only [zt,zM,zE,ren,zz,zx,zy,look,zG,zX,ev,evL,zV,zcT,zcF,act,zP,zO,Ent.zW]
 repeat (refine sd ?_)
 refine Draw.intro [[],[],[],[],[],[4],[1,2,3,4,5],[0,1,2,3,4,5,6],[0,1,2,3,4,5,6,7],[0,1,2,3,4,5,6,7,8]] [0,1,2,3,4,5,6,7,8,9] (by kernel_rfl) ?_
 repeat (first | (refine Grow.turn rfl rfl ?_) | (refine sd ?_))
 refine Call.intro hJo [(1000,(1000,0,none)),(1001,(305,0,none)),(1002,(1002,0,none)),(1005,(306,0,none))] rfl ?_ rfl ?_ rfl ?_
 ·repeat' (first | (show zA _;first | exact trivial | refine zA.app ?_ ?_ | refine zA.zd ?_ ?_ | refine zA.cons ?_ ?_) | exact fd | fail)
  all_goals first | exact hid | exact hid.symm | trace_state
 ·exact fc
 rintro v M' ⟨n5,c5,hn5,hc5,rfl,rfl⟩
 dsimp only [zt,zM,zE,ren,zz,zx,zy,look,zG,zX,ev,evL,zV,zcT,zcF,act,zP,zO,Ent.zW]
 repeat (first | (refine Grow.turn rfl rfl ?_) | (refine sd ?_))
 refine Ret.ghost [.keep 214,.ice 206 4] [] rfl ?_ rfl (.tup [.agg (acL x (.isl 0 (k - 1) 33 [((k - 1) * 33,.arr (k - 1) 33 (onF (l.take (i - 1) ++ l.drop (i - 1 + 1))))])),.agg (seL Z (.isl 0 0 65 [(0 * 65,.arr 0 65 (kpF []))])),.i .i64 0]) ((1001,.dead) :: tbM n5 c5 (begB T4 (kyB s)).1 1005) [(1005,(306,0,none))] rfl ?_ ⟨n5,c5,hn5,hc5,rfl,rfl⟩ rfl ?_ rfl ?_ rfl
 ·exact fc
 ·exact fc
 ·exact fc
 ·exact fc
end Go.Proofs.YtfnmgbillkiabaaGreat
