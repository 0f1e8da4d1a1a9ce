/- What the functions of the program compute. No condition. -/
import Derived.Test.YtfnmgbillkiabaaGreatHwRb1ToRb1
set_option linter.unusedSimpArgs false
set_option linter.unusedVariables false
set_option maxRecDepth 100000
namespace Go.Proofs.YtfnmgbillkiabaaGreat
open Go Go.Sx
def sealF (T:List Te) (x:Se) (dr p:List UInt8):List Te × Se × Hd × Option (List UInt8) × Int:=
 if 1024 < p.length then (T,x,hd0,none,5) else
 if ¬ x.hs = true/\¬ x.hr = true then (T,x,hd0,none,1) else
 if (slX T x dr).2.sn = 65535 then ((slP T x dr).1,x,hd0,none,7) else
 ((slZ T x dr p).1,slS T x dr,slHd T x dr,some (sefB (slZ T x dr p).2 p.length),0)
theorem sealF_long {T:List Te} {x:Se} {dr p:List UInt8} (h:1024 < p.length):sealF T x dr p = (T,x,hd0,none,5):=if_pos h
theorem sealF_none {T:List Te} {x:Se} {dr p:List UInt8} (h:¬ 1024 < p.length) (k:¬ x.hs = true/\¬ x.hr = true):sealF T x dr p = (T,x,hd0,none,1):=(if_neg h).trans (if_pos k)
theorem sealF_full {T:List Te} {x:Se} {dr p:List UInt8} (h:¬ 1024 < p.length) (k:¬ (¬ x.hs = true/\¬ x.hr = true)) (j:(slX T x dr).2.sn = 65535):sealF T x dr p = ((slP T x dr).1,x,hd0,none,7):=(if_neg h).trans ((if_neg k).trans (if_pos j))
theorem sealF_ok {T:List Te} {x:Se} {dr p:List UInt8} (h:¬ 1024 < p.length) (k:¬ (¬ x.hs = true/\¬ x.hr = true)) (j:¬ (slX T x dr).2.sn = 65535):sealF T x dr p = ((slZ T x dr p).1,slS T x dr,slHd T x dr,some (sefB (slZ T x dr p).2 p.length),0):=(if_neg h).trans ((if_neg k).trans (if_neg j))
attribute [irreducible] sealF
theorem slS_ok {T:List Te} (hTv:∀ y ∈ T,Valid y.1 y.2) {x:Se} (hx:x.OK) (dr:List UInt8):(slS T x dr).OK:=by
 have h:=(slX_info hTv hx dr).2.2
 rw [slS_eq]
 exact ⟨h.id,h.root,h.mine,zk _,h.th,h.rk,h.ag,h.sg,h.ba,h.kp⟩
theorem slHd_ok {T:List Te} (hTv:∀ y ∈ T,Valid y.1 y.2) {x:Se} (hx:x.OK) (dr:List UInt8):(slHd T x dr).OK:=by
 rw [slHd_eq];exact slH_ok (slX_info hTv hx dr).2.2 (zk _)
theorem hd0_ok:hd0.OK:=⟨zlz,zlz,zlz,zlz,zlz⟩
theorem slX_kp (T:List Te) (x:Se) (dr:List UInt8):(slX T x dr).2.kp = x.kp:=by
 by_cases h:x.hs = true
 ·rw [slX_yes h]
 ·rw [slX_no h]
theorem slS_kp (T:List Te) (x:Se) (dr:List UInt8):(slS T x dr).kp = x.kp:=by rw [slS_eq];exact slX_kp T x dr
theorem slP_info {T:List Te} (hTv:∀ y ∈ T,Valid y.1 y.2) {x:Se} (hx:x.OK) (dr:List UInt8):(∀ y ∈ (slP T x dr).1,Valid y.1 y.2)/\(slP T x dr).1.length <= T.length + 5:=by
 obtain ⟨h1,h2,_⟩:=slX_info hTv hx dr
 rw [slP_eq]
 have:=(mk1_len (slX T x dr).1 2 (slX T x dr).2.mine).2
 exact ⟨mk1_valid h1 _ _,by omega⟩
theorem slZ_info {T:List Te} (hTv:∀ y ∈ T,Valid y.1 y.2) {x:Se} (hx:x.OK) (dr p:List UInt8):(∀ y ∈ (slZ T x dr p).1,Valid y.1 y.2)/\(slZ T x dr p).1.length <= T.length + 9:=by
 obtain ⟨h1,h2⟩:=slP_info hTv hx dr
 have h3:=nxT_valid h1 (slX T x dr).2.sk
 have h4:=(nxT_len (slP T x dr).1 (slX T x dr).2.sk).2
 have h5:(∀ y ∈ (slL T x dr).1,Valid y.1 y.2):=by rw [slL_eq];exact mx2_valid h3 _ _ _
 have h6:(slL T x dr).1.length <= (nxT (slP T x dr).1 (slX T x dr).2.sk).length + 1:=by rw [slL_eq];exact (mx2_len _ _ _ _).2
 rw [slZ_eq]
 have h7:=(mx8_len (slL T x dr).1 (kyB (slL T x dr).2) p).2
 exact ⟨mx8_valid h5 _ _,by omega⟩
theorem sealF_info {T:List Te} (hTv:∀ y ∈ T,Valid y.1 y.2) {x:Se} (hx:x.OK) (dr p:List UInt8) {T':List Te} {x':Se} {h':Hd} {b:Option (List UInt8)} {e:Int} (h:sealF T x dr p = (T',x',h',b,e)) :
  (∀ y ∈ T',Valid y.1 y.2)/\T'.length <= T.length + 9/\x'.OK/\h'.OK/\x'.kp = x.kp/\(e = 0 ↔ ∃ B,b = some B)/\(∀ B,b = some B->32 <= B.length/\B.length <= 1056):=by
 by_cases h1:1024 < p.length
 ·rw [sealF_long h1] at h
  simp only [zpI] at h
  obtain ⟨rfl,rfl,rfl,rfl,rfl⟩:=h
  exact ⟨hTv,by omega,hx,hd0_ok,rfl,by simp,by simp⟩
 ·by_cases h2:¬ x.hs = true/\¬ x.hr = true
  ·rw [sealF_none h1 h2] at h
   simp only [zpI] at h
   obtain ⟨rfl,rfl,rfl,rfl,rfl⟩:=h
   exact ⟨hTv,by omega,hx,hd0_ok,rfl,by simp,by simp⟩
  ·by_cases h3:(slX T x dr).2.sn = 65535
   ·rw [sealF_full h1 h2 h3] at h
    simp only [zpI] at h
    obtain ⟨rfl,rfl,rfl,rfl,rfl⟩:=h
    have:=slP_info hTv hx dr
    exact ⟨this.1,by omega,hx,hd0_ok,rfl,by simp,by simp⟩
   ·rw [sealF_ok h1 h2 h3] at h
    simp only [zpI] at h
    obtain ⟨rfl,rfl,rfl,rfl,rfl⟩:=h
    have:=slZ_info hTv hx dr p
    refine ⟨this.1,this.2,slS_ok hTv hx dr,slHd_ok hTv hx dr,slS_kp T x dr,by simp,fun B hB=>?_⟩
    simp only [zoI] at hB;subst hB
    rw [sefB_length];omega
set_option maxHeartbeats 4000000 in
theorem fn20 (T:List Te) (N c:Nat) (hT:T.length = N) (hN:N <= 39000) (hNc:N <= c) (hTv:∀ x ∈ T,Valid x.1 x.2) (x:Se) (hx:x.OK) (l:List Kp) (Nl ml:Nat) (hNl:l.length = Nl) (hml:ml <= Nl) (hNl1:Nl <= 1000000) (hkp:x.kp = l.take ml)
  (dr p:List UInt8) (n:Nat) (hd:dr.length = 32) (hp:p.length = n) (hn:n <= 9223372036854775807) :
  Sx.Fn Γ.P 20 [.agg [(1,.ptr 1000 0 none)],.agg (seL x (.isl 0 ml 65 [(Nl * 65,.arr Nl 65 (kpF l))])),.a8 dr,.isl 0 n 1 [(n,.a8 p)]] (tbM N c T 1001)
  (fun v M=>∃ T' x' h' b e n' c',sealF T x dr p = (T',x',h',b,e)/\T'.length = n'/\n' <= c' /\
   ((b = none/\v = .tup [.agg (seL x' (.isl 0 ml 65 [(ml * 65,.arr ml 65 (kpF (l.take ml)))])),hdV h',.nsl,.i .i64 e]/\M = (1001,.dead) :: tbM n' c' T' 1005) \/
   (∃ B k,b = some B/\B.length = k/\v = .tup [.agg (seL x' (.isl 0 ml 65 [(ml * 65,.arr ml 65 (kpF (l.take ml)))])),hdV h',.sl 1009 0 0 k k,.i .i64 e]/\M = (1001,.dead) :: (1009,.mem true 0 [(k,.a8 B)]) :: tbM n' c' T' 1005))):=by
 obtain ⟨hXv,hXl,hXo⟩:=slX_info hTv hx dr
 have hx':=hx
 obtain ⟨h1,h2,h3,h4,h5,h6,h7,h8,h9,_⟩:=hx'
 have hOw:=fnOwn l Nl ml hNl hml hNl1 x.id x.root x.mine (x.hs = true) x.sk x.sn x.pv x.th (x.hr = true) x.rk x.rn (x.fi = true) x.ag x.sg x.ba x.oc h1 h2 h3 h4 h5 h6 h7 h8 h9
 unfold tbM
 refine fn_of (Γ:=Γ) (fn:=Tryz.f20) rfl rfl rfl rfl ?_
 repeat (refine sd ?_)
 refine Draw.intro [[],[],[1],[],[],[0,1,2,3,4],[0,1,2,3,4,5],[0,1,2,3,4,5,6],[0,1,2,3,4,5,6],[0,1,2,3,4,5,6],[0,1,2,3,4,5,6],[],[],[0,1,2,3,4,5,6,7,11,12],[0,1,2,3,4,5,6,7,8,11,12,13],[0,1,2,3,4,5,6,7,8,9,11,12,13,14],[0,1,2,3,4,5,6,7,8,9,10,11,12,13,14,15]] [0,1,3,4,11,12,2,5,6,7,8,9,10,13,14,15,16] (by kernel_rfl) ?_
 repeat (refine sd ?_)
 refine Call.intro hOw [] rfl ?_ rfl ?_ rfl ?_
 ·exact fc
 ·exact fc
 rintro v M' ⟨rfl,rfl⟩
 dsimp only [zt,zM,zE,ren,zz,zx,zy,look,zG,zX,ev,evL,zV,zcT,zcF,act,zP,zO,Ent.zW]
 repeat (refine sd ?_)
 refine Grow.auto rfl rfl ?_
 repeat (refine sd ?_)
 have hSe:=fn51 T N c hT hN hNc hTv x hx ml ml (l.take ml) dr p n hd hp hn
 unfold tbM seL hdV at hSe
 refine Call.intro hSe [(1000,(1000,0,none)),(1001,(1001,0,none)),(1002,(1002,0,none)),(1005,(305,0,none)),(1006,(307,0,none))] rfl ?_ rfl ?_ rfl ?_
 ·exact fc
 ·exact fc
 rintro v M' (⟨hl,rfl,rfl⟩ | ⟨hl,hs,hr,rfl,rfl⟩ | ⟨hl,hsr,hsn,n',c',hn',hnc',rfl,rfl⟩ | ⟨hl,hsr,hsn,n',c',m,hn',hnc',hm,rfl,rfl⟩)
 ·dsimp only [zt,zM,zE,ren,zz,zx,zy,look,zG,zX,ev,evL,zV,zcT,zcF,act,zP,zO,Ent.zW]
  repeat (first | (refine Grow.turn rfl rfl ?_) | (refine sd ?_))
  refine zB.intro (fun _=>?_) (fun h=>absurd (by decide) h)
  repeat (refine sd ?_)
  refine Call.intro hOw [] rfl ?_ rfl ?_ rfl ?_
  ·exact fc
  ·exact fc
  rintro v M' ⟨rfl,rfl⟩
  dsimp only [zt,zM,zE,ren,zz,zx,zy,look,zG,zX,ev,evL,zV,zcT,zcF,act,zP,zO,Ent.zW]
  repeat (refine sd ?_)
  refine Ret.intro (.tup [.agg (seL x (.isl 0 ml 65 [(ml * 65,.arr ml 65 (kpF (l.take ml)))])),hdV hd0,.nsl,.i .i64 5]) ((1001,.dead) :: tbM N c T 1005) [(1005,(305,0,none))] rfl ?_ ⟨T,x,hd0,none,5,N,c,sealF_long (by omega),hT,hNc,Or.inl ⟨rfl,rfl,rfl⟩⟩ rfl ?_ rfl ?_ rfl
  ·repeat' (first | (show zA _;first | exact trivial | refine zA.app ?_ ?_ | refine zA.zd ?_ ?_ | refine zA.cons ?_ ?_) | exact fd | fail)
   all_goals exact Bool.false_ne_true
  ·repeat' (first | (show zA _;first | exact trivial | refine zA.app ?_ ?_ | refine zA.zd ?_ ?_ | refine zA.cons ?_ ?_) | exact fd | fail)
   all_goals exact Bool.false_ne_true
  ·exact fc
 ·dsimp only [zt,zM,zE,ren,zz,zx,zy,look,zG,zX,ev,evL,zV,zcT,zcF,act,zP,zO,Ent.zW]
  repeat (first | (refine Grow.turn rfl rfl ?_) | (refine sd ?_))
  refine zB.intro (fun _=>?_) (fun h=>absurd (by decide) h)
  repeat (refine sd ?_)
  refine Call.intro hOw [] rfl ?_ rfl ?_ rfl ?_
  ·exact fc
  ·exact fc
  rintro v M' ⟨rfl,rfl⟩
  dsimp only [zt,zM,zE,ren,zz,zx,zy,look,zG,zX,ev,evL,zV,zcT,zcF,act,zP,zO,Ent.zW]
  repeat (refine sd ?_)
  refine Ret.intro (.tup [.agg (seL x (.isl 0 ml 65 [(ml * 65,.arr ml 65 (kpF (l.take ml)))])),hdV hd0,.nsl,.i .i64 1]) ((1001,.dead) :: tbM N c T 1005) [(1005,(305,0,none))] rfl ?_ ⟨T,x,hd0,none,1,N,c,sealF_none (by omega) ⟨hs,hr⟩,hT,hNc,Or.inl ⟨rfl,rfl,rfl⟩⟩ rfl ?_ rfl ?_ rfl
  ·repeat' (first | (show zA _;first | exact trivial | refine zA.app ?_ ?_ | refine zA.zd ?_ ?_ | refine zA.cons ?_ ?_) | exact fd | fail)
   all_goals exact Bool.false_ne_true
  ·repeat' (first | (show zA _;first | exact trivial | refine zA.app ?_ ?_ | refine zA.zd ?_ ?_ | refine zA.cons ?_ ?_) | exact fd | fail)
   all_goals exact Bool.false_ne_true
  ·exact fc
 ·dsimp only [zt,zM,zE,ren,zz,zx,zy,look,zG,zX,ev,evL,zV,zcT,zcF,act,zP,zO,Ent.zW]
  repeat (first | (refine Grow.turn rfl rfl ?_) | (refine sd ?_))
  refine zB.intro (fun _=>?_) (fun h=>absurd (by decide) h)
  repeat (refine sd ?_)
  refine Call.intro hOw [] rfl ?_ rfl ?_ rfl ?_
  ·exact fc
  ·exact fc
  rintro v M' ⟨rfl,rfl⟩
  dsimp only [zt,zM,zE,ren,zz,zx,zy,look,zG,zX,ev,evL,zV,zcT,zcF,act,zP,zO,Ent.zW]
  repeat (refine sd ?_)
  refine Ret.intro (.tup [.agg (seL x (.isl 0 ml 65 [(ml * 65,.arr ml 65 (kpF (l.take ml)))])),hdV hd0,.nsl,.i .i64 7]) ((1001,.dead) :: tbM n' c' (slP T x dr).1 1005) [(1005,(305,0,none))] rfl ?_ ⟨(slP T x dr).1,x,hd0,none,7,n',c',sealF_full (by omega) (fun h=>hsr.elim h.1 h.2) hsn,hn',hnc',Or.inl ⟨rfl,rfl,rfl⟩⟩ rfl ?_ rfl ?_ rfl
  ·repeat' (first | (show zA _;first | exact trivial | refine zA.app ?_ ?_ | refine zA.zd ?_ ?_ | refine zA.cons ?_ ?_) | exact fd | fail)
   all_goals exact Bool.false_ne_true
  ·repeat' (first | (show zA _;first | exact trivial | refine zA.app ?_ ?_ | refine zA.zd ?_ ?_ | refine zA.cons ?_ ?_) | exact fd | fail)
   all_goals exact Bool.false_ne_true
  ·exact fc
 have hsS:=slS_ok hTv hx dr
 have hHo:=slHd_ok hTv hx dr
 have hF:=sealF_ok (T:=T) (x:=x) (dr:=dr) (p:=p) (by omega) (fun h=>hsr.elim h.1 h.2) hsn
 obtain ⟨S,hS⟩:∃ S,slS T x dr = S:=⟨_,rfl⟩
 obtain ⟨H,hH⟩:∃ H,slHd T x dr = H:=⟨_,rfl⟩
 rw [hS] at hsS
 rw [hH] at hHo
 rw [hS,hH,hp] at hF
 rw [hS,hH]
 obtain ⟨g1,g2,g3,g4,g5,g6,g7,g8,g9,_⟩:=hsS
 obtain ⟨f1,f2,f3,f4,f5⟩:=hHo
 dsimp only [zt,zM,zE,ren,zz,zx,zy,look,zG,zX,ev,evL,zV,zcT,zcF,act,zP,zO,Ent.zW]
 repeat (first | (refine Grow.turn rfl rfl ?_) | (refine sd ?_))
 repeat (first | (refine zB.intro (fun _=>?_) (fun hn=>absurd rfl hn)) | (refine ky0 ?_) | (refine kn0 ?_) | (refine sd ?_))
 refine Draw.intro [[],[],[],[0],[0,1,3],[0,1,2,3,4],[0,1,2,3,4,5]] [0,1,2,3,4,5,6] (by kernel_rfl) ?_
 repeat (first | (refine Grow.turn rfl rfl ?_) | (refine sd ?_))
 refine Ret.intro (.tup [.agg (seL S (.isl 0 ml 65 [(ml * 65,.arr ml 65 (kpF (l.take ml)))])),hdV H,.sl 1009 0 0 m m,.i .i64 0]) ((1001,.dead) :: (1009,.mem true 0 [(m,.a8 (sefB (slZ T x dr p).2 n))]) :: tbM n' c' (slZ T x dr p).1 1005) [(1005,(305,0,none)),(1009,(307,0,none))] rfl ?_
  ⟨_,S,H,_,0,n',c',hF,hn',hnc',Or.inr ⟨_,m,rfl,by rw [sefB_length];exact hm,rfl,rfl⟩⟩ rfl ?_ rfl ?_ rfl
 ·exact fc
 ·exact fc
 ·exact fc
end Go.Proofs.YtfnmgbillkiabaaGreat
