/- What the functions of the program compute. No condition. -/
import Derived.Test.YtfnmgbillkiabaaGreatHwRb6ToRb7
set_option linter.unusedSimpArgs false
set_option linter.unusedVariables false
set_option maxRecDepth 100000
namespace Go.Proofs.YtfnmgbillkiabaaGreat
open Go Go.Sx
theorem fnFreeT:Sx.Fn Γ.P 7 [] [] (fun v M=>v = .agg [(1,.ptr 1000 0 none)]/\M = tbM 0 0 [] 1001):=by
 refine fn_of (Γ:=Γ) (fn:=Tryz.f7) rfl rfl rfl rfl ?_
 repeat (refine sd ?_)
 refine Call.intro fnNewT [(1000,(300,0,none)),(1002,(302,0,none))] rfl fc rfl trivial rfl ?_
 rintro v M' ⟨rfl,rfl⟩
 dsimp only [zt,zM,zE,ren,zz,zx,zy,look,zG,zX,ev,evL,zV,zcT,zcF,act,zP,zO,Ent.zW]
 repeat (refine sd ?_)
 refine Ret.ghost [.own 401 [(0,.arr 0 3 (ttF []))],.leaf 300 0 401] [] rfl ⟨rfl,rfl,trivial⟩ rfl (.agg [(1,.ptr 1000 0 none)]) (tbM 0 0 [] 1001) [(1000,(300,0,none)),(1001,(401,0,none)),(1002,(302,0,none))] rfl ?_ ⟨rfl,rfl⟩ rfl ?_ rfl ?_ rfl
 ·exact fc
 ·exact fc
 ·repeat' (first | (show zA _;first | exact trivial | refine zA.app ?_ ?_ | refine zA.zd ?_ ?_ | refine zA.cons ?_ ?_) | exact fd | fail)
  all_goals exact mpL_nil
def alT (T:List Te) (x:Se):Nat->List Te × Se × Hd × List UInt8
 | 0=>(T,x,hd0,[])
 | i + 1=>((sealF (alT T x i).1 (alT T x i).2.1 z32 [UInt8.ofNat i]).1,(sealF (alT T x i).1 (alT T x i).2.1 z32 [UInt8.ofNat i]).2.1,(sealF (alT T x i).1 (alT T x i).2.1 z32 [UInt8.ofNat i]).2.2.1,(sealF (alT T x i).1 (alT T x i).2.1 z32 [UInt8.ofNat i]).2.2.2.1.getD [])
theorem alT_zero (T:List Te) (x:Se):alT T x 0 = (T,x,hd0,[]):=rfl
theorem alT_succ (T:List Te) (x:Se) (i:Nat):alT T x (i + 1) = ((sealF (alT T x i).1 (alT T x i).2.1 z32 [UInt8.ofNat i]).1,(sealF (alT T x i).1 (alT T x i).2.1 z32 [UInt8.ofNat i]).2.1,(sealF (alT T x i).1 (alT T x i).2.1 z32 [UInt8.ofNat i]).2.2.1,(sealF (alT T x i).1 (alT T x i).2.1 z32 [UInt8.ofNat i]).2.2.2.1.getD []):=rfl
attribute [irreducible] alT
structure AlI (T:List Te) (x:Se) (oP i:Nat) (S:List Te × Se × Hd × List UInt8):Prop where
 hs:S.2.1.hs = true
 sn:S.2.1.sn = UInt16.ofNat i
 mine:S.2.1.mine = x.mine
 id:S.2.1.id = x.id
 fi:S.2.1.fi = x.fi
 pv:S.2.1.pv = x.pv
 kp:S.2.1.kp = x.kp
 ok:S.2.1.OK
 ext:Ext T S.1
 val:∀ y ∈ S.1,Valid y.1 y.2
 len:S.1.length <= T.length + 9 * i
 hok:S.2.2.1.OK
 bl:S.2.2.2.length <= 1056
theorem u16_small {i:Nat} (h:i < 10):UInt16.ofNat i ≠ 65535:=by
 intro e
 have:=congrArg UInt16.toNat e
 rw [UInt16.toNat_ofNat'] at this
 have h2:(65535:UInt16).toNat = 65535:=rfl
 omega
theorem slHd_small {x:Se} (hx:x.OK) (o:Nat):(hdB (slH x (kyB o))).length <= 1024:=by
 have:=hdB_le (slH_ok hx (zk o));omega
theorem al_step {T:List Te} {x:Se} {oP i:Nat} (hi:i < 3) (hP:Num T (2,[x.mine]) oP) (h:AlI T x oP i (alT T x i)) :
  ∃ oL oZ B,sealF (alT T x i).1 (alT T x i).2.1 z32 [UInt8.ofNat i] = ((alT T x (i + 1)).1,(alT T x (i + 1)).2.1,(alT T x (i + 1)).2.2.1,some B,0)/\(alT T x (i + 1)).2.2.2 = B/\B = sefB oZ 1 /\
   AlI T x oP (i + 1) (alT T x (i + 1))/\Ext (nxT (alT T x i).1 (alT T x i).2.1.sk) (alT T x (i + 1)).1/\(alT T x (i + 1)).2.1.sk = kyB (nxN (alT T x i).1 (alT T x i).2.1.sk) /\
   (alT T x (i + 1)).2.2.1 = slH (alT T x i).2.1 (kyB oP)/\Num (alT T x (i + 1)).1 (7,[[75],kyB (nxK (alT T x i).1 (alT T x i).2.1.sk),hdB (slH (alT T x i).2.1 (kyB oP))]) oL /\
   Num (alT T x (i + 1)).1 (8,[kyB oL,[UInt8.ofNat i]]) oZ:=by
 have hP':Num (alT T x i).1 (2,[(alT T x i).2.1.mine]) oP:=by rw [h.mine];exact h.ext _ _ hP
 obtain ⟨e1,e2,e3⟩:=seal_next (T:=(alT T x i).1) (dr:=z32) (p:=[UInt8.ofNat i]) h.hs (by rw [h.sn];exact u16_small (by omega)) h.ok.mine (by simp) hP'
 obtain ⟨t1,t2,t3⟩:=seal_terms (p:=[UInt8.ofNat i]) (by simp) (slHd_small h.ok oP) e2 e3
 obtain ⟨z1,z2⟩:=slZ_info h.val h.ok z32 [UInt8.ofNat i]
 have hH:=slH_ok h.ok (zk oP)
 have eS:alT T x (i + 1) = ((slZ (alT T x i).1 (alT T x i).2.1 z32 [UInt8.ofNat i]).1,{ (alT T x i).2.1 with sk:=kyB (nxN (alT T x i).1 (alT T x i).2.1.sk),sn:=(alT T x i).2.1.sn + 1 },slH (alT T x i).2.1 (kyB oP),sefB (slZ (alT T x i).1 (alT T x i).2.1 z32 [UInt8.ofNat i]).2 1):=by
  rw [alT_succ,e1];rfl
 rw [eS]
 refine ⟨_,_,_,e1,rfl,rfl,⟨h.hs,?_,h.mine,h.id,h.fi,h.pv,h.kp,⟨h.ok.id,h.ok.root,h.ok.mine,zk _,h.ok.th,h.ok.rk,h.ok.ag,h.ok.sg,h.ok.ba,h.ok.kp⟩,h.ext.trans ((nxT_ext _ _).trans t1),z1,?_,hH,?_⟩,t1,rfl,rfl,t2,t3⟩
 ·show (alT T x i).2.1.sn + 1 = _
  rw [h.sn]
  have:=u16_succ 0 i
  simp
 ·show (slZ (alT T x i).1 (alT T x i).2.1 z32 [UInt8.ofNat i]).1.length <= _
  have:=h.len
  omega
 ·show (sefB _ 1).length <= _
  rw [sefB_length];omega
theorem al_inv {T:List Te} {x:Se} {oP:Nat} (hs:x.hs = true) (hsn:x.sn = 0) (hx:x.OK) (hT:∀ y ∈ T,Valid y.1 y.2) (hP:Num T (2,[x.mine]) oP):∀ i,i <= 3->AlI T x oP i (alT T x i)
 | 0,_=>by rw [alT_zero];exact ⟨hs,hsn,rfl,rfl,rfl,rfl,rfl,hx,Ext.refl T,hT,by show T.length <= _;omega,hd0_ok,by simp⟩
 | i + 1,hi=>by
  obtain ⟨_,_,_,_,_,_,h,_⟩:=al_step (by omega) hP (al_inv hs hsn hx hT hP i (by omega))
  exact h
theorem al_end {T:List Te} {x y:Se} {oP:Nat} (hs:x.hs = true) (hsn:x.sn = 0) (hx:x.OK) (hT:∀ z ∈ T,Valid z.1 z.2) (hP:Num T (2,[x.mine]) oP) (hkp:y.kp = []) (hhr:y.hr = true) (hrn:y.rn = 0) (hid:y.id = x.id) (hth:y.th = kyB oP) (hrk:y.rk = x.sk) (hl:T.length <= 1000) :
  ∃ y',OpenR (alT T x 3).1 y (alT T x 3).2.2.1 (alT T x 3).2.2.2 (alT T x 3).1 y' (some [UInt8.ofNat 2]) 0/\y'.kp.length = 2/\OpenR (alT T x 3).1 y' (alT T x 3).2.2.1 (alT T x 3).2.2.2 (alT T x 3).1 y' none 180:=by
 have I:=al_inv hs hsn hx hT hP
 obtain ⟨_,_,_,_,_,_,_,x0,k0,_,_,_⟩:=al_step (i:=0) (by omega) hP (I 0 (by omega))
 obtain ⟨_,_,_,_,_,_,_,x1,k1,_,_,_⟩:=al_step (i:=1) (by omega) hP (I 1 (by omega))
 obtain ⟨oL,oZ,B,_,b2,rfl,J,x2,k2,h2,hL,hZ⟩:=al_step (i:=2) (by omega) hP (I 2 (by omega))
 have e0:(alT T x 0).2.1.sk = x.sk:=by rw [alT_zero]
 obtain ⟨K0,hK0⟩:∃ K,(alT T x 0).2.1.sk = K:=⟨_,rfl⟩
 obtain ⟨K1,hK1⟩:∃ K,(alT T x 1).2.1.sk = K:=⟨_,rfl⟩
 obtain ⟨K2,hK2⟩:∃ K,(alT T x 2).2.1.sk = K:=⟨_,rfl⟩
 have l0:K0.length = 32:=by rw [<- hK0];exact (I 0 (by omega)).ok.sk
 have l1:K1.length = 32:=by rw [<- hK1];exact (I 1 (by omega)).ok.sk
 have l2:K2.length = 32:=by rw [<- hK2];exact (I 2 (by omega)).ok.sk
 simp only [Nat.zero_add,Nat.reduceAdd] at x0 k0 x1 k1 x2 k2 h2 hL hZ J b2
 have hlen:(alT T x 3).1.length <= T.length + 27:=J.len
 have hbl:=slHd_small (I 2 (by omega)).ok oP
 rw [hK0] at x0 k0
 rw [hK1] at x1 k1 k0
 rw [hK2] at x2 k2 k1
 rw [hK2] at hL
 have E2:Ext (nxT (alT T x 2).1 K2) (alT T x 3).1:=x2
 have E1:Ext (nxT (alT T x 1).1 K1) (alT T x 3).1:=x1.trans ((nxT_ext _ _).trans E2)
 have E0:Ext (nxT (alT T x 0).1 K0) (alT T x 3).1:=x0.trans ((nxT_ext _ _).trans E1)
 obtain ⟨a1,a2,a3⟩:=nx_again (by omega) E0
 obtain ⟨c1,c2,c3⟩:=nx_again (by omega) E1
 obtain ⟨d1,d2,d3⟩:=nx_again (by omega) E2
 have hA:skA true (alT T x 3).1 y.rk 2 = ((alT T x 3).1,K2):=by
  have s0:skA true (alT T x 3).1 y.rk 0 = ((alT T x 3).1,K0):=by rw [skA_zero,hrk,<- hK0,e0]
  have s1:skA true (alT T x 3).1 y.rk 1 = ((alT T x 3).1,K1):=by
   rw [skA_succ,s0]
   show (nxT _ _,kyB (nxN _ _)) = _
   rw [a1,a3,<- k0]
  rw [skA_succ,s1]
  show (nxT _ _,kyB (nxN _ _)) = _
  rw [c1,c3,<- k1]
 obtain ⟨h,hh⟩:∃ h,slH (alT T x 2).2.1 (kyB oP) = h:=⟨_,rfl⟩
 rw [hh] at h2 hL hbl
 have hn:h.n = UInt16.ofNat 2:=by rw [<- hh];exact (I 2 (by omega)).sn
 have hn2:h.n.toNat = 2:=by rw [hn];rfl
 have hss:h.ss = y.id:=by rw [<- hh,hid];exact (I 2 (by omega)).id
 have hra:h.ra = y.th:=by rw [<- hh,hth];rfl
 have hG:hdG h:=by rw [<- hh];exact slH_good _ _
 rw [h2,b2]
 have hO:=open_next (T:=(alT T x 3).1) (p:=[UInt8.ofNat 2]) hkp hhr hrn (by omega) hss hG hra (by rw [hn2];exact hA) d1 (by rw [d2];exact hL) hbl hZ (by simp) (by omega)
 refine ⟨_,hO,?_,open_old ?_ hhr ?_ hss hG hra⟩
 ·show (skP true _ _ _ _ _ _).length = 2
  rw [skP_len,hn2];rfl
 ·show fiI h.ra h.n (skP true _ _ _ _ _ _) = -1
  refine fiG_no fun z hz hk=>?_
  rcases skG_mem _ _ _ _ _ _ _ z hz with h1 | ⟨i,g1,rfl⟩
  ·cases h1
  ·rw [hn2] at g1
   exact u16G_ne 0 (i:=i) (j:=2) g1 (by omega) (hk.2.trans (by rw [hn];rfl))
 ·show h.n.toNat < (h.n + 1).toNat
  rw [hn];decide
theorem beg_info {T:List Te} (hTv:∀ y ∈ T,Valid y.1 y.2) {id sh dr:List UInt8} (hid:id.length = 32):(∀ y ∈ (begC T sh dr).1,Valid y.1 y.2)/\(begC T sh dr).1.length <= T.length + 3/\(begS T id sh dr).OK:=by
 have v1:∀ y ∈ (begA T sh).1,Valid y.1 y.2:=by rw [begA_eq];exact mx1_valid hTv _ _
 have v2:∀ y ∈ (begB T sh).1,Valid y.1 y.2:=by rw [begB_eq];exact mx1_valid v1 _ _
 have l1:(begA T sh).1.length <= T.length + 1:=by rw [begA_eq];exact (mx1_len T _ _).2
 have l2:(begB T sh).1.length <= (begA T sh).1.length + 1:=by rw [begB_eq];exact (mx1_len _ _ _).2
 have l3:(begC T sh dr).1.length <= (begB T sh).1.length + 1:=by rw [begC_eq];exact (mk1_len _ _ _).2
 exact ⟨by rw [begC_eq];exact mk1_valid v2 _ _,by omega,⟨hid,zk _,zk _,zk _,zlz,zlz,zlz,zlz,zlz,fun k hk=>by cases hk⟩⟩
theorem joi_ok (T:List Te) {id sh th:List UInt8} (hid:id.length = 32) (hth:th.length = 32):(joiS T id sh th).OK:=⟨hid,zk _,zlz,zlz,hth,zk _,zlz,zlz,zlz,fun k hk=>by cases hk⟩
set_option maxHeartbeats 4000000 in
theorem fn6:Sx.Fn Γ.P 6 [] [] (fun v _=>v = .tt):=by
 obtain ⟨id,hid⟩:∃ l:List UInt8,l = UInt8.ofNat 1 :: List.replicate 31 0:=⟨_,rfl⟩
 obtain ⟨sh,hsh⟩:∃ l:List UInt8,l = UInt8.ofNat 2 :: List.replicate 31 0:=⟨_,rfl⟩
 obtain ⟨dr,hdr⟩:∃ l:List UInt8,l = UInt8.ofNat 3 :: List.replicate 31 0:=⟨_,rfl⟩
 have hidl:id.length = 32:=by rw [hid];rfl
 have hshl:sh.length = 32:=by rw [hsh];rfl
 have hdrl:dr.length = 32:=by rw [hdr];rfl
 have hfr:=fnFreeT
 unfold tbM at hfr
 obtain ⟨bv,bl,bo⟩:=beg_info (sh:=sh) (dr:=dr) tb0_valid hidl
 obtain ⟨b48,b49,_⟩:=beg_terms [] hshl hdrl
 have hBe:=fn9 [] 0 0 rfl (by omega) (Nat.le_refl 0) tb0_valid id sh dr hidl hshl hdrl
 have hxs:(begS [] id sh dr).hs = true:=rfl
 have hxn:(begS [] id sh dr).sn = 0:=rfl
 have hxi:(begS [] id sh dr).id = id:=rfl
 have hxk:(begS [] id sh dr).kp = []:=rfl
 have hxr:(begS [] id sh dr).sk = kyB (begB [] sh).2:=rfl
 obtain ⟨A,hA⟩:∃ A,(begC [] sh dr).1 = A:=⟨_,rfl⟩
 obtain ⟨x,hx⟩:∃ x,begS [] id sh dr = x:=⟨_,rfl⟩
 rw [hx] at hBe hxs hxn hxi hxk hxr bo
 rw [hA] at hBe bv bl b48 b49
 have bl:A.length <= 3:=bl
 obtain ⟨P,hP⟩:∃ P,(mk1 A 2 x.mine).1 = P:=⟨_,rfl⟩
 obtain ⟨oP,hoP⟩:∃ o,(mk1 A 2 x.mine).2 = o:=⟨_,rfl⟩
 have hPn:Num P (2,[x.mine]) oP:=by rw [<- hP,<- hoP];exact mk1_num A (by decide) (by decide) (by have:=bo.mine;omega)
 have hPe:Ext A P:=by rw [<- hP];exact mk1_ext _ _ _
 have hPv:∀ y ∈ P,Valid y.1 y.2:=by rw [<- hP];exact mk1_valid bv _ _
 have hPl:P.length <= A.length + 1:=by rw [<- hP];exact (mk1_len A _ _).2
 obtain ⟨j1,j2⟩:=join_same hshl (hPe _ _ b48) (hPe _ _ b49)
 have hoPl:=zk oP
 have hyo:=joi_ok P (sh:=sh) hidl hoPl
 have hyk:(joiS P id sh (kyB oP)).kp = []:=rfl
 have hyr:(joiS P id sh (kyB oP)).hr = true:=rfl
 have hyn:(joiS P id sh (kyB oP)).rn = 0:=rfl
 have hyi:(joiS P id sh (kyB oP)).id = id:=rfl
 have hyt:(joiS P id sh (kyB oP)).th = kyB oP:=rfl
 have hyq:(joiS P id sh (kyB oP)).rk = kyB (begB P sh).2:=rfl
 rw [j2] at hyq
 obtain ⟨y,hy⟩:∃ y,joiS P id sh (kyB oP) = y:=⟨_,rfl⟩
 rw [hy] at hyo hyk hyr hyn hyi hyt hyq
 have hinv:=al_inv hxs hxn bo hPv hPn
 have hstp:=fun i (hi:i < 3)=>al_step hi hPn (hinv i (by omega))
 obtain ⟨y',hO1,hk2,hO2⟩:=al_end hxs hxn bo hPv hPn hyk hyr hyn (by rw [hyi,hxi]) hyt (by rw [hyq,hxr]) (by omega)
 obtain ⟨q1,q2,q3,q4,q5,q6,q7,q8,q9,_⟩:=bo
 unfold tbM at hBe
 refine fn_of (Γ:=Γ) (fn:=Tryz.f6) rfl rfl rfl rfl ?_
 repeat (refine sd ?_)
 refine Call.intro hfr [(1000,(300,0,none)),(1001,(301,0,none)),(1002,(302,0,none))] rfl fc rfl trivial rfl ?_
 rintro v M' ⟨rfl,rfl⟩
 dsimp only [zt,zM,zE,ren,zz,zx,zy,look,zG,zX,ev,evL,zV,zcT,zcF,act,zP,zO,Ent.zW]
 repeat (refine sd ?_)
 refine Call.intro hBe [(1000,(300,0,none)),(1001,(301,0,none)),(1002,(302,0,none)),(1005,(305,0,none))] rfl ?_ rfl ?_ rfl ?_
 ·exact fc
 ·exact fc
 rintro v M' ⟨n1,c1,hn1,hc1,rfl,rfl⟩
 dsimp only [zt,zM,zE,ren,zz,zx,zy,look,zG,zX,ev,evL,zV,zcT,zcF,act,zP,zO,Ent.zW]
 repeat (refine sd ?_)
 have hPu:=fnPublicF A n1 c1 hn1 (by omega) hc1 bv x.mine q3 P oP hP hoP
 unfold tbM at hPu
 refine Draw.intro [[],[],[],[],[],[4],[3,4,5],[0,1,2,3,4,5,6],[],[0,1,2,3,4,5,6,7,8]] [0,1,2,3,4,5,8,6,7,9] (by kernel_rfl) ?_
 repeat (first | (refine Grow.turn rfl rfl ?_) | (refine sd ?_))
 refine Call.intro hPu [(1000,(300,0,none)),(1001,(305,0,none)),(1002,(302,0,none)),(1005,(306,0,none))] rfl ?_ rfl ?_ rfl ?_
 ·exact fc
 ·exact fc
 rintro v M' ⟨n2,c2,hn2,hc2,rfl,rfl⟩
 dsimp only [zt,zM,zE,ren,zz,zx,zy,look,zG,zX,ev,evL,zV,zcT,zcF,act,zP,zO,Ent.zW]
 repeat (first | (refine Grow.turn rfl rfl ?_) | (refine sd ?_))
 have hJo:=fn11 P n2 c2 hn2 (by omega) hc2 hPv id sh (kyB oP) hidl hshl hoPl
 rw [j2,hy] at hJo
 unfold tbM at hJo
 refine Call.intro hJo [(1000,(300,0,none)),(1001,(306,0,none)),(1002,(302,0,none)),(1005,(307,0,none))] rfl ?_ rfl ?_ rfl ?_
 ·exact fc
 ·exact fc
 rintro v M' ⟨n3,c3,hn3,hc3,rfl,rfl⟩
 have hn3:P.length = n3:=hn3
 have hyo':=hyo
 obtain ⟨r1,r2,r3,r4,r5,r6,r7,r8,r9,_⟩:=hyo'
 dsimp only [zt,zM,zE,ren,zz,zx,zy,look,zG,zX,ev,evL,zV,zcT,zcF,act,zP,zO,Ent.zW]
 repeat (first | (refine Grow.turn rfl rfl ?_) | (refine sd ?_))
 refine Loop.intro (σ:=Nat × Nat × Nat) (fun s=>s.1 <= 3/\(alT P x s.1).1.length = s.2.1/\s.2.1 <= s.2.2)
  (fun s=>([(1,.ptr 201 0 none),(2,.ptr 202 0 none),(3,.ptr 203 0 none),(4,.ptr 204 0 none),(5,.isl 0 (alT P x s.1).2.2.2.length 1 [((alT P x s.1).2.2.2.length,.a8 (alT P x s.1).2.2.2)]),(6,.i .i64 (s.1:Int))],
   [(201,.mem true 0 [(1,.ptr 1000 0 none)]),(202,.mem true 0 (seL (alT P x s.1).2.1 (.isl 0 0 65 [(0 * 65,.arr 0 65 (kpF []))]))),(203,.mem true 0 (seL y (.isl 0 0 65 [(0 * 65,.arr 0 65 (kpF []))]))),
   (204,.mem true 0 [(32,.a8 (alT P x s.1).2.2.1.ss),(1,.bool ((alT P x s.1).2.2.1.fi = true)),(32,.a8 (alT P x s.1).2.2.1.ag),(32,.a8 (alT P x s.1).2.2.1.sg),(32,.a8 (alT P x s.1).2.2.1.ba),(1,.u16 (alT P x s.1).2.2.1.id),(32,.a8 (alT P x s.1).2.2.1.ra),(1,.u16 (alT P x s.1).2.2.1.n),(1,.u16 (alT P x s.1).2.2.1.pv)]),
   (1000,.mem true 0 [(1,.sl 1001 0 0 s.2.1 s.2.2),(1,.mp 1002)]),(1001,.mem true (zmE (s.2.2 - s.2.1) 3) [(s.2.1 * 3,.arr s.2.1 3 (ttF (alT P x s.1).1))]),(1002,.map (.si (mpL (alT P x s.1).1)))]))
  (fun s=>3 - s.1) (0,n3,c3) ⟨by omega,by rw [alT_zero];exact hn3,hc3⟩ ?_ ?_
 ·rw [alT_zero]
  refine Le.intro [(201,(1,0,none)),(202,(2,0,none)),(203,(3,0,none)),(204,(4,0,none)),(1000,(300,0,none)),(1001,(307,0,none)),(1002,(302,0,none))] rfl ?_ rfl ?_ rfl
  ·repeat' (first | (show zA _;first | exact trivial | refine zA.app ?_ ?_ | refine zA.zd ?_ ?_ | refine zA.cons ?_ ?_) | exact fd | fail)
   all_goals first | exact Bool.false_ne_true | exact ⟨rfl,rfl,trivial⟩
  ·repeat' (first | (show zA _;first | exact trivial | refine zA.app ?_ ?_ | refine zA.zd ?_ ?_ | refine zA.cons ?_ ?_) | exact fd | fail)
   all_goals first | exact Bool.false_ne_true | exact ⟨rfl,rfl,trivial⟩
 rintro ⟨i,n,c⟩ ⟨hi,hn,hc⟩
 have hi:i <= 3:=hi
 have hn:(alT P x i).1.length = n:=hn
 have hc:n <= c:=hc
 have J:=hinv i hi
 have Jn:=J.len
 have Jh:=J.hok
 have Jo:=J.ok
 obtain ⟨g1,g2,g3,g4,g5,g6,g7,g8,g9,_⟩:=J.ok
 obtain ⟨f1,f2,f3,f4,f5⟩:=J.hok
 repeat (refine sd ?_)
 refine zB.intro (fun h3=>?_) (fun h3=>?_)
 ·have h3:(i:Int) < 3:=h3
  obtain ⟨oL,oZ,B,s1,s2,s3,J',_⟩:=hstp i (by omega)
  have hb8:UInt8.ofInt (i:Int) = UInt8.ofNat i:=ofInt8_nat i
  have hSe:=fn20 (alT P x i).1 n c hn (by omega) hc J.val (alT P x i).2.1 Jo [] 0 0 rfl (Nat.le_refl 0) (by omega) (by rw [J.kp,hxk];rfl) z32 [UInt8.ofNat i] 1 zlz rfl (by omega)
  rw [s1] at hSe
  unfold tbM seL hdV at hSe
  repeat (refine sd ?_)
  refine Call.name [(0,[]),(0,[]),(0,[]),(1,[])] rfl fc (CallP.intro hSe [(1000,(1000,0,none)),(1001,(1001,0,none)),(1002,(1002,0,none)),(1005,(308,0,none)),(1009,(309,0,none))] rfl ?_ rfl ?_ rfl ?_)
  ·repeat' (first | (show zA _;first | exact trivial | refine zA.app ?_ ?_ | refine zA.zd ?_ ?_ | refine zA.cons ?_ ?_) | exact fd | fail)
   all_goals exact congrArg (fun z=>[z]) hb8.symm
  ·exact fc
  rintro v M' ⟨T',x',h',b,e,n',c',hF,hn',hc',hcase⟩
  simp only [zpI] at hF
  obtain ⟨rfl,rfl,rfl,rfl,rfl⟩:=hF
  rcases hcase with ⟨h0,_,_⟩ | ⟨B2,k,h0,hk,rfl,rfl⟩
  ·cases h0
  obtain rfl:B = B2:=Option.some.inj h0
  subst s2
  subst hk
  have Jo':=J'.ok
  obtain ⟨u1,u2,u3,u4,u5,u6,u7,u8,u9,_⟩:=Jo'
  have Jh':=J'.hok
  obtain ⟨w1,w2,w3,w4,w5⟩:=Jh'
  dsimp only [zt,zM,zE,ren,zz,zx,zy,look,zG,zX,ev,evL,zV,zcT,zcF,act,zP,zO,Ent.zW]
  repeat (refine sd ?_)
  refine ⟨(i + 1,n',c'),⟨by show i + 1 <= 3;omega,hn',hc'⟩,by show 3 - (i + 1) < 3 - i;omega,Le.ghost [.keep 309] [(5,0)] [(1001,(308,0,none))] rfl trivial rfl rfl ?_ rfl ?_ rfl⟩
  ·exact fc
  ·exact fc
 ·have h3:¬ (i:Int) < 3:=h3
  obtain rfl:i = 3:=by omega
  have hOp:=fn15 (alT P x 3).1 n c hn (by omega) hc J.val y hyo [] 0 0 rfl (Nat.le_refl 0) (by omega) (fun _ h=>by cases h) (by rw [hyk];rfl) (alT P x 3).2.2.1 Jh (alT P x 3).2.2.2 _ rfl (by have:=J.bl;omega)
  unfold tbM seL hdV at hOp
  repeat (refine sd ?_)
  refine Call.name [(0,[]),(0,[]),(0,[]),(2005,[])] rfl fc (CallP.intro hOp [(1000,(1000,0,none)),(1001,(1001,0,none)),(1002,(1002,0,none)),(1003,(2005,0,none)),(1005,(308,0,none))] rfl ?_ rfl ?_ rfl ?_)
  ·exact fc
  ·exact fc
  rintro v M' ⟨T',x',p,e,n',c',le,Ne,me,k,hres,hn',hc',hN',hok',hle,hme,hNe,hkx,hleO,hk,hk1,rfl,rfl⟩
  obtain ⟨rfl,rfl,rfl,rfl⟩:=open_det hres hO1
  have hk:[UInt8.ofNat 2].length = k:=hk
  subst hk
  have hme2:me = 2:=by
   have:=congrArg List.length hkx
   rw [hk2,zlT] at this
   omega
  subst hme2
  have hOp2:=fn15 (alT P x 3).1 n' c' hn' (by omega) hc' hok'.1 x' hok'.2 le Ne 2 hle hme (by omega) hleO hkx (alT P x 3).2.2.1 Jh (alT P x 3).2.2.2 _ rfl (by have:=J.bl;omega)
  unfold tbM seL hdV at hOp2
  obtain ⟨u1,u2,u3,u4,u5,u6,u7,u8,u9,_⟩:=hok'.2
  dsimp only [zt,zM,zE,ren,zz,zx,zy,look,zG,zX,ev,evL,zV,zcT,zcF,act,zP,zO,Ent.zW]
  repeat (refine sd ?_)
  refine Call.name [(0,[]),(0,[]),(0,[]),(2006,[])] rfl fc (CallP.intro hOp2 [(1000,(1000,0,none)),(1001,(308,0,none)),(1002,(1002,0,none)),(1003,(2006,0,none)),(1005,(309,0,none))] rfl ?_ rfl ?_ rfl ?_)
  ·exact fc
  ·exact fc
  rintro v M' ⟨T2,x2,p2,e2,n2',c2',le2,Ne2,me2,k2,hres2,hn2',hc2',hN2',hok2,hle2,hme2,hNe2,hkx2,hleO2,hk2',hk3,rfl,rfl⟩
  obtain ⟨rfl,rfl,rfl,rfl⟩:=open_det hres2 hO2
  dsimp only [zt,zM,zE,ren,zz,zx,zy,look,zG,zX,ev,evL,zV,zcT,zcF,act,zP,zO,Ent.zW]
  repeat (first | (refine zB.intro (fun _=>?_) (fun hn=>absurd rfl hn)) | (refine ky0 ?_) | (refine kn0 ?_) | (refine sd ?_))
  refine Ret.intro .tt [] [] rfl ?_ rfl rfl ?_ rfl ?_ rfl
  ·exact fc
  ·exact fc
  ·exact fc
end Go.Proofs.YtfnmgbillkiabaaGreat
