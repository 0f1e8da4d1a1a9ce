/- What the functions of the program compute. No condition. -/
import Derived.Test.YtfnmgbillkiabaaGreatHwRb3ToRb3
import Derived.Test.YtfnmgbillkiabaaGreatHwAd1ToRb0
import Derived.Test.YtfnmgbillkiabaaGreatHwAc7ToNm
import Derived.Test.YtfnmgbillkiabaaGreatHwRb2ToRb2
set_option linter.unusedSimpArgs false
set_option linter.unusedVariables false
set_option maxRecDepth 100000
namespace Go.Proofs.YtfnmgbillkiabaaGreat
open Go Go.Sx
def OpenR (T:List Te) (x:Se) (h:Hd) (B:List UInt8) (T':List Te) (x':Se) (p:Option (List UInt8)) (e:Int):Prop:=
 (h.ss ≠ x.id/\T' = T/\x' = x/\p = none/\e = 1) \/
 (h.ss = x.id/\¬ hdG h/\T' = T/\x' = x/\p = none/\e = 141) \/
 (h.ss = x.id/\hdG h/\∃ T1 x1 row e1,FindR T x h.ra h.n h.pv T1 x1 row e1/\((e1 ≠ 0/\T' = T1/\x' = x/\p = none/\e = e1) \/
  (e1 = 0/\T' = (mx2 T1 75 row (hdB h)).1/\p = opn T' T'.length (kyB (mx2 T1 75 row (hdB h)).2) B/\((p = none/\x' = x/\e = 182) \/ (p ≠ none/\x' = x1/\e = 0)))))
theorem open_det {T:List Te} {x:Se} {h:Hd} {B:List UInt8} {T1 T2:List Te} {x1 x2:Se} {p1 p2:Option (List UInt8)} {e1 e2:Int} (a:OpenR T x h B T1 x1 p1 e1) (b:OpenR T x h B T2 x2 p2 e2):T1 = T2/\x1 = x2/\p1 = p2/\e1 = e2:=by
 rcases a with ⟨a1,rfl,rfl,rfl,rfl⟩ | ⟨a1,a2,rfl,rfl,rfl,rfl⟩ | ⟨a1,a2,A,y1,r1,d1,a3,a4⟩
 ·rcases b with ⟨b1,rfl,rfl,rfl,rfl⟩ | ⟨b1,b2,rfl,rfl,rfl,rfl⟩ | ⟨b1,b2,C,y2,r2,d2,b3,b4⟩
  ·exact ⟨rfl,rfl,rfl,rfl⟩
  ·exact absurd b1 a1
  ·exact absurd b1 a1
 ·rcases b with ⟨b1,rfl,rfl,rfl,rfl⟩ | ⟨b1,b2,rfl,rfl,rfl,rfl⟩ | ⟨b1,b2,C,y2,r2,d2,b3,b4⟩
  ·exact absurd a1 b1
  ·exact ⟨rfl,rfl,rfl,rfl⟩
  ·exact absurd b2 a2
 ·rcases b with ⟨b1,rfl,rfl,rfl,rfl⟩ | ⟨b1,b2,rfl,rfl,rfl,rfl⟩ | ⟨b1,b2,C,y2,r2,d2,b3,b4⟩
  ·exact absurd a1 b1
  ·exact absurd a2 b2
  ·obtain ⟨rfl,rfl,rfl,rfl⟩:=find_det a3 b3
   rcases a4 with ⟨c1,rfl,rfl,rfl,rfl⟩ | ⟨c1,rfl,c2,c3⟩
   ·rcases b4 with ⟨k1,rfl,rfl,rfl,rfl⟩ | ⟨k1,rfl,k2,k3⟩
    ·exact ⟨rfl,rfl,rfl,rfl⟩
    ·exact absurd k1 c1
   ·rcases b4 with ⟨k1,rfl,rfl,rfl,rfl⟩ | ⟨k1,rfl,k2,k3⟩
    ·exact absurd c1 k1
    ·have e:p1 = p2:=by rw [c2,k2]
     subst e
     rcases c3 with ⟨m1,rfl,rfl⟩ | ⟨m1,rfl,rfl⟩
     ·rcases k3 with ⟨w1,rfl,rfl⟩ | ⟨w1,rfl,rfl⟩
      ·exact ⟨rfl,rfl,rfl,rfl⟩
      ·exact absurd m1 w1
     ·rcases k3 with ⟨w1,rfl,rfl⟩ | ⟨w1,rfl,rfl⟩
      ·exact absurd w1 m1
      ·exact ⟨rfl,rfl,rfl,rfl⟩
set_option maxHeartbeats 8000000 in
theorem fn15 (T:List Te) (N c:Nat) (hT:T.length = N) (hN:N <= 39000) (hNc:N <= c) (hTv:∀ x ∈ T,Valid x.1 x.2) (x:Se) (hx:x.OK) (l:List Kp) (Nl ml:Nat) (hNl:l.length = Nl) (hml:ml <= Nl) (hNl1:Nl <= 90000) (hlO:∀ x ∈ l,KpOK x) (hkp:x.kp = l.take ml)
  (h:Hd) (hh:h.OK) (B:List UInt8) (n:Nat) (hB:B.length = n) (hn:n <= 1000000) :
  Sx.Fn Γ.P 15 [.agg [(1,.ptr 1000 0 none)],.agg (seL x (.isl 0 ml 65 [(Nl * 65,.arr Nl 65 (kpF l))])),hdV h,.slx 1003 0 0 n] ((1003,.mem false 0 [(n,.a8 B)]) :: tbM N c T 1001)
  (fun v M=>∃ T' x' p e n' c' le Ne me kq,OpenR T x h B T' x' p e/\T'.length = n'/\n' <= c'/\n' <= N + 101/\((∀ y ∈ T',Valid y.1 y.2)/\x'.OK)/\le.length = Ne/\me <= Ne/\Ne <= Nl + 40/\x'.kp = le.take me/\(∀ y ∈ le,KpOK y) /\
   (p.getD []).length = kq/\kq <= 1024/\v = .tup [.agg (seL x' (.isl 0 me 65 [(Ne * 65,.arr Ne 65 (kpF le))])),.isl 0 kq 1 [(kq,.a8 (p.getD []))],.i .i64 e]/\M = (1001,.dead) :: (1003,.mem false 0 [(n,.a8 B)]) :: tbM n' c' T' 1005):=by
 have hx':=hx
 obtain ⟨h1,h2,h3,h4,h5,h6,h7,h8,h9,_⟩:=hx'
 have hh':=hh
 obtain ⟨f1,f2,f3,f4,f5⟩:=hh'
 have hOw:=fnOwn l Nl ml hNl hml (by omega) x.id x.root x.mine (x.hs = true) x.sk x.sn x.pv x.th (x.hr = true) x.rk x.rn (x.fi = true) x.ag x.sg x.ba x.oc h1 h2 h3 h4 h5 h6 h7 h8 h9
 have hlt0:(l.take ml).length = ml:=by rw [zlT];omega
 have hlO0:∀ y ∈ l.take ml,KpOK y:=fun y hy=>hlO y (List.mem_of_mem_take hy)
 have hHb:=fn38 h hh
 unfold hdV at hHb
 unfold tbM hdV
 refine fn_of (Γ:=Γ) (fn:=Tryz.f15) rfl rfl rfl rfl ?_
 repeat (refine sd ?_)
 refine zB.intro (fun hid=>?_) (fun hid=>?_)
 ·have hid:¬ h.ss = x.id:=hid
  have hOK0:(∀ y ∈ T,Valid y.1 y.2)/\x.OK:=⟨hTv,hx⟩
  repeat (refine sd ?_)
  refine Call.intro hOw [] rfl ?_ rfl ?_ rfl ?_
  ·exact fc
  ·exact fc
  rintro v M' ⟨rfl,rfl⟩
  dsimp only [zt,zM,zE,ren,zz,zx,zy,look,zG,zX,ev,evL,zV,zcT,zcF,act,zP,zO,Ent.zW]
  repeat (refine sd ?_)
  refine Ret.intro (.tup [.agg (seL x (.isl 0 ml 65 [(ml * 65,.arr ml 65 (kpF (l.take ml)))])),.isl 0 0 1 [(0,.a8 [])],.i .i64 1]) ((1001,.dead) :: (1003,.mem false 0 [(n,.a8 B)]) :: tbM N c T 1005) [(1005,(1001,0,none))] rfl ?_
   ⟨T,x,none,1,N,c,l.take ml,ml,ml,0,Or.inl ⟨hid,rfl,rfl,rfl,rfl⟩,hT,hNc,(by omega),hOK0,hlt0,Nat.le_refl _,by omega,by rw [List.take_take,Nat.min_self];exact hkp,hlO0,rfl,by omega,rfl,rfl⟩ rfl ?_ rfl ?_ rfl
  ·exact fc
  ·repeat' (first | (show zA _;first | exact trivial | refine zA.app ?_ ?_ | refine zA.zd ?_ ?_ | refine zA.cons ?_ ?_) | exact fd | fail)
   all_goals exact ⟨rfl,rfl,trivial⟩
  ·exact fc
 have hid:h.ss = x.id:=Classical.not_not.1 hid
 repeat (refine sd ?_)
 refine Call.intro hHb [(1005,(305,0,none))] rfl ?_ rfl ?_ rfl ?_
 ·exact fc
 ·exact fc
 rintro v M' (⟨hG,rfl,rfl⟩ | ⟨m,c1,hG,hm,hmc,rfl,rfl⟩)
 ·dsimp only [zt,zM,zE,ren,zz,zx,zy,look,zG,zX,ev,evL,zV,zcT,zcF,act,zP,zO,Ent.zW]
  repeat (first | (refine zB.intro (fun _=>?_) (fun hn=>absurd rfl hn)) | (refine ky0 ?_) | (refine kn0 ?_) | (refine sd ?_))
  have hOK0:(∀ y ∈ T,Valid y.1 y.2)/\x.OK:=⟨hTv,hx⟩
  repeat (refine sd ?_)
  refine Call.intro hOw [] rfl ?_ rfl ?_ rfl ?_
  ·exact fc
  ·exact fc
  rintro v M' ⟨rfl,rfl⟩
  dsimp only [zt,zM,zE,ren,zz,zx,zy,look,zG,zX,ev,evL,zV,zcT,zcF,act,zP,zO,Ent.zW]
  repeat (refine sd ?_)
  refine Ret.intro (.tup [.agg (seL x (.isl 0 ml 65 [(ml * 65,.arr ml 65 (kpF (l.take ml)))])),.isl 0 0 1 [(0,.a8 [])],.i .i64 141]) ((1001,.dead) :: (1003,.mem false 0 [(n,.a8 B)]) :: tbM N c T 1005) [(1005,(1001,0,none))] rfl ?_
   ⟨T,x,none,141,N,c,l.take ml,ml,ml,0,Or.inr (Or.inl ⟨hid,hG,rfl,rfl,rfl,rfl⟩),hT,hNc,(by omega),hOK0,hlt0,Nat.le_refl _,by omega,by rw [List.take_take,Nat.min_self];exact hkp,hlO0,rfl,by omega,rfl,rfl⟩ rfl ?_ rfl ?_ rfl
  ·exact fc
  ·repeat' (first | (show zA _;first | exact trivial | refine zA.app ?_ ?_ | refine zA.zd ?_ ?_ | refine zA.cons ?_ ?_) | exact fd | fail)
   all_goals exact ⟨rfl,rfl,trivial⟩
  ·exact fc
 dsimp only [zt,zM,zE,ren,zz,zx,zy,look,zG,zX,ev,evL,zV,zcT,zcF,act,zP,zO,Ent.zW]
 repeat (first | (refine zB.intro (fun _=>?_) (fun hn=>absurd rfl hn)) | (refine ky0 ?_) | (refine kn0 ?_) | (refine sd ?_))
 refine Draw.intro [[],[],[1],[],[0,1,2,3],[0,1,2,3,4],[0,1,2,3,4,5],[0,1,2,3,4,5],[0,1,2,3,4,5],[],[],[0,1,2,3,4,5,6,9,10],[0,1,2,3,4,5,6,7,9,10,11],[0,1,2,3,4,5,6,7,8,9,10,11,12]] [0,1,3,9,10,2,4,5,6,7,8,11,12,13] (by kernel_rfl) ?_
 repeat (refine sd ?_)
 refine Call.intro hOw [] rfl ?_ rfl ?_ rfl ?_
 ·exact fc
 ·exact fc
 rintro v M' ⟨rfl,rfl⟩
 dsimp only [zt,zM,zE,ren,zz,zx,zy,look,zG,zX,ev,evL,zV,zcT,zcF,act,zP,zO,Ent.zW]
 repeat (refine sd ?_)
 refine Grow.auto rfl rfl ?_
 repeat (refine sd ?_)
 have hFi:=fn39 T N c hT hN hNc hTv x hx (l.take ml) ml ml hlt0 (Nat.le_refl _) (by omega) hlO0 (by rw [List.take_take,Nat.min_self];exact hkp) h hh
 unfold tbM seL hdV at hFi
 refine Call.intro hFi [(1000,(1000,0,none)),(1001,(1001,0,none)),(1002,(1002,0,none)),(1005,(306,0,none))] rfl ?_ rfl ?_ rfl ?_
 ·exact fc
 ·exact fc
 rintro v M' ⟨T1,x1,row,e1,n1,c1',xe,le,Ne,me,re,hres,hn1,hc1,hN1,hv1,hle,hme,hNe,hleO,hxe,hre,hok,rfl,rfl⟩
 have hxe':=hxe
 obtain ⟨g1,g2,g3,g4,g5,g6,g7,g8,g9,_⟩:=hxe'
 dsimp only [zt,zM,zE,ren,zz,zx,zy,look,zG,zX,ev,evL,zV,zcT,zcF,act,zP,zO,Ent.zW]
 repeat (first | (refine Grow.turn rfl rfl ?_) | (refine sd ?_))
 refine zB.intro (fun he=>?_) (fun he=>?_)
 ·have he:¬ e1 = 0:=he
  have hOK0:(∀ y ∈ T1,Valid y.1 y.2)/\x.OK:=⟨hv1,hx⟩
  repeat (refine sd ?_)
  refine Call.intro hOw [] rfl ?_ rfl ?_ rfl ?_
  ·exact fc
  ·exact fc
  rintro v M' ⟨rfl,rfl⟩
  dsimp only [zt,zM,zE,ren,zz,zx,zy,look,zG,zX,ev,evL,zV,zcT,zcF,act,zP,zO,Ent.zW]
  repeat (refine sd ?_)
  refine Ret.intro (.tup [.agg (seL x (.isl 0 ml 65 [(ml * 65,.arr ml 65 (kpF (l.take ml)))])),.isl 0 0 1 [(0,.a8 [])],.i .i64 e1]) ((1001,.dead) :: (1003,.mem false 0 [(n,.a8 B)]) :: tbM n1 c1' T1 1005) [(1005,(306,0,none))] rfl ?_
   ⟨T1,x,none,e1,n1,c1',l.take ml,ml,ml,0,Or.inr (Or.inr ⟨hid,hG,T1,x1,row,e1,hres,Or.inl ⟨he,rfl,rfl,rfl,rfl⟩⟩),hn1,hc1,(by omega),hOK0,hlt0,Nat.le_refl _,by omega,by rw [List.take_take,Nat.min_self];exact hkp,hlO0,rfl,by omega,rfl,rfl⟩ rfl ?_ rfl ?_ rfl
  ·exact fc
  ·repeat' (first | (show zA _;first | exact trivial | refine zA.app ?_ ?_ | refine zA.zd ?_ ?_ | refine zA.cons ?_ ?_) | exact fd | fail)
   all_goals exact ⟨rfl,rfl,trivial⟩
  ·exact fc
 have he:e1 = 0:=Classical.not_not.1 he
 subst he
 obtain ⟨hxx,hkx,hrr⟩:=hok rfl
 subst hxx
 subst hrr
 have hBl:=hdB_le hh
 have hv2:∀ y ∈ (mx2 T1 75 re (hdB h)).1,Valid y.1 y.2:=mx2_valid hv1 _ _ _
 have hl2:=(mx2_len T1 75 re (hdB h)).2
 have hLK:=fn40 T1 n1 c1' hn1 (by omega) hc1 hv1 re hre h hh _ _ rfl rfl
 obtain ⟨T2,hT2⟩:∃ T2,(mx2 T1 75 re (hdB h)).1 = T2:=⟨_,rfl⟩
 obtain ⟨o,ho⟩:∃ o,(mx2 T1 75 re (hdB h)).2 = o:=⟨_,rfl⟩
 rw [hT2] at hv2 hl2
 rw [hT2,ho] at hLK
 have hko:=zk o
 unfold tbM hdV at hLK
 repeat (refine sd ?_)
 refine Call.intro hLK [(1000,(1000,0,none)),(1001,(306,0,none)),(1002,(1002,0,none)),(1005,(307,0,none))] rfl ?_ rfl ?_ rfl ?_
 ·exact fc
 ·exact fc
 rintro v M' (⟨hG',rfl,rfl⟩ | ⟨_,n2,c2,hn2,hc2,rfl,rfl⟩)
 ·exact absurd hG hG'
 dsimp only [zt,zM,zE,ren,zz,zx,zy,look,zG,zX,ev,evL,zV,zcT,zcF,act,zP,zO,Ent.zW]
 repeat (first | (refine zB.intro (fun _=>?_) (fun hn=>absurd rfl hn)) | (refine ky0 ?_) | (refine kn0 ?_) | (refine sd ?_))
 have hOp:=fnOpenF T2 n2 hn2 (by omega) hv2 (kyB o) B n hko hB hn
 refine Call.intro hOp [(1000,(1000,0,none)),(1001,(307,0,none)),(1002,(1002,0,none)),(1003,(1003,0,none))] rfl ?_ rfl ?_ rfl ?_
 ·exact fc
 ·exact fc
 rintro v M' (⟨hq,rfl,rfl⟩ | ⟨q,k,hq,hk,hk1,rfl,rfl⟩)
 ·dsimp only [zt,zM,zE,ren,zz,zx,zy,look,zG,zX,ev,evL,zV,zcT,zcF,act,zP,zO,Ent.zW]
  repeat (first | (refine zB.intro (fun _=>?_) (fun hn=>absurd rfl hn)) | (refine ky0 ?_) | (refine kn0 ?_) | (refine sd ?_))
  have hOK0:(∀ y ∈ T2,Valid y.1 y.2)/\x.OK:=⟨hv2,hx⟩
  repeat (refine sd ?_)
  refine Call.intro hOw [] rfl ?_ rfl ?_ rfl ?_
  ·exact fc
  ·exact fc
  rintro v M' ⟨rfl,rfl⟩
  dsimp only [zt,zM,zE,ren,zz,zx,zy,look,zG,zX,ev,evL,zV,zcT,zcF,act,zP,zO,Ent.zW]
  repeat (refine sd ?_)
  refine Ret.intro (.tup [.agg (seL x (.isl 0 ml 65 [(ml * 65,.arr ml 65 (kpF (l.take ml)))])),.isl 0 0 1 [(0,.a8 [])],.i .i64 182]) ((1001,.dead) :: (1003,.mem false 0 [(n,.a8 B)]) :: tbM n2 c2 T2 1005) [(1005,(307,0,none))] rfl ?_
   ⟨T2,x,none,182,n2,c2,l.take ml,ml,ml,0,Or.inr (Or.inr ⟨hid,hG,T1,xe,re,0,hres,Or.inr ⟨rfl,hT2.symm,by rw [ho,hn2];exact hq.symm,Or.inl ⟨rfl,rfl,rfl⟩⟩⟩),hn2,hc2,(by omega),hOK0,hlt0,Nat.le_refl _,by omega,by rw [List.take_take,Nat.min_self];exact hkp,hlO0,rfl,by omega,rfl,rfl⟩ rfl ?_ rfl ?_ rfl
  ·exact fc
  ·repeat' (first | (show zA _;first | exact trivial | refine zA.app ?_ ?_ | refine zA.zd ?_ ?_ | refine zA.cons ?_ ?_) | exact fd | fail)
   all_goals exact ⟨rfl,rfl,trivial⟩
  ·exact fc
 ·dsimp only [zt,zM,zE,ren,zz,zx,zy,look,zG,zX,ev,evL,zV,zcT,zcF,act,zP,zO,Ent.zW]
  repeat (first | (refine zB.intro (fun _=>?_) (fun hn=>absurd rfl hn)) | (refine ky0 ?_) | (refine kn0 ?_) | (refine sd ?_))
  refine Ret.intro (.tup [.agg (seL xe (.isl 0 me 65 [(Ne * 65,.arr Ne 65 (kpF le))])),.isl 0 k 1 [(k,.a8 q)],.i .i64 0]) ((1001,.dead) :: (1003,.mem false 0 [(n,.a8 B)]) :: tbM n2 c2 T2 1005) [(1005,(307,0,none))] rfl ?_
   ⟨T2,xe,some q,0,n2,c2,le,Ne,me,k,Or.inr (Or.inr ⟨hid,hG,T1,xe,re,0,hres,Or.inr ⟨rfl,hT2.symm,by rw [ho,hn2];exact hq.symm,Or.inr ⟨by simp,rfl,rfl⟩⟩⟩),hn2,hc2,by omega,⟨hv2,hxe⟩,hle,hme,by omega,hkx,hleO,hk,hk1,rfl,rfl⟩ rfl ?_ rfl ?_ rfl
  ·exact fc
  ·exact fc
  ·exact fc
theorem v72 (lab:UInt8) {p q:List UInt8} (hp:p.length <= 1024) (hq:q.length <= 1024):Valid 7 [[lab],p,q]:=valid7 (joins3 lab hp hq)
theorem mx2_has {T:List Te} {lab:UInt8} {p q:List UInt8} {o:Nat} (hp:p.length <= 1024) (hq:q.length <= 1024) (h:Num T (7,[[lab],p,q]) o):mx2 T lab p q = (T,o):=by rw [mx2_eq];exact mkT_has (x:=(7,_)) (v72 lab hp hq) h
def K8 (T:List Te) (z:Nat):Prop:=∀ q,q < T.length->(T.getD q te0).1 = 8->q + 1 = z
theorem K8.mk {T:List Te} {z:Nat} (h:K8 T z) {x:Te} (hx:x.1 ≠ 8):K8 (mkT T x).1 z:=by
 by_cases hV:Valid x.1 x.2
 ·cases hf:fdT x T with
  | zero=>
   rw [mkT_new hV hf]
   intro q hq h8
   have hq:q < T.length + 1:=by simpa using hq
   rcases Nat.lt_or_ge q T.length with hl | hl
   ·rw [List.getD_eq_getElem?_getD,List.getElem?_append_left hl,<- List.getD_eq_getElem?_getD] at h8
    exact h q hl h8
   ·obtain rfl:q = T.length:=by omega
    rw [List.getD_eq_getElem?_getD,List.getElem?_append_right (Nat.le_refl _),Nat.sub_self] at h8
    exact absurd h8 hx
  | succ i=>rw [mkT_old hV hf];exact h
 ·rw [mkT_no hV];exact h
theorem K8.new {T:List Te} (h:K8 T 0) {L:List (List UInt8)} (hV:Valid 8 L):K8 (mkT T (8,L)).1 (mkT T (8,L)).2:=by
 have hf:fdT (8,L) T = 0:=by
  cases hf:fdT (8,L) T with
  | zero=>rfl
  | succ i=>
   have h1:=fdG_getD hf
   have h2:=fdT_le (8,L) T
   have:=h i (by omega) (by rw [h1])
   omega
 rw [mkT_new hV hf]
 intro q hq h8
 have hq:q < T.length + 1:=by simpa using hq
 rcases Nat.lt_or_ge q T.length with hl | hl
 ·rw [List.getD_eq_getElem?_getD,List.getElem?_append_left hl,<- List.getD_eq_getElem?_getD] at h8
  have:=h q hl h8
  omega
 ·show q + 1 = T.length + 1
  omega
theorem skG_mem (fr:Bool) (T:List Te) (key:List UInt8) (r:List UInt8) (n:UInt16) (l:List Kp):∀ j,∀ x ∈ skP fr T key r n l j,x ∈ l \/ ∃ i,i < j/\x = (r,n + UInt16.ofNat i,skK fr T key i)
 | 0,x,h=>by rw [skP_zero'] at h;exact Or.inl h
 | j + 1,x,h=>by
  rw [skP_succ] at h
  rcases List.mem_append.1 h with h | h
  ·exact (skG_mem fr T key r n l j x h).imp id fun ⟨i,h1,h2⟩=>⟨i,by omega,h2⟩
  ·exact Or.inr ⟨j,by omega,List.mem_singleton.1 h⟩
theorem fiG_no {r:List UInt8} {k:UInt16} {L:List Kp} (h:∀ x ∈ L,¬ isK r k x):fiI r k L = -1:=by
 have:=fiI_none (r:=r) (n:=k) (l:=L) (m:=L.length) (Nat.le_refl _) (fun j hj=>h _ (getD_mem kp0 hj))
 rw [List.take_length] at this;exact this
theorem u16G_ne (n:UInt16) {i j:Nat} (hij:i < j) (hj:j < 65536):n + UInt16.ofNat i ≠ n + UInt16.ofNat j:=by
 intro h
 have:=congrArg UInt16.toNat h
 rw [UInt16.toNat_add,UInt16.toNat_add,UInt16.toNat_ofNat',UInt16.toNat_ofNat'] at this
 have:=n.toNat_lt
 omega
theorem skXG_nil (fr:Bool) (T:List Te) (key:List UInt8) (r:List UInt8) (n:UInt16) {j:Nat} (hj:j < 65536):¬ skX fr T key r n [] j:=by
 unfold skX
 rw [fiG_no]
 ·omega
 ·intro x hx h
  rcases skG_mem fr T key r n [] j x hx with h1 | ⟨i,h1,h2⟩
  ·cases h1
  ·subst h2
   exact u16G_ne n h1 hj h.2
theorem fiI_nil (r:List UInt8) (n:UInt16):fiI r n [] = -1:=fiG_no fun x hx=>by cases hx
theorem open_next {T:List Te} {y:Se} {h:Hd} (hkp:y.kp = []) (hhr:y.hr = true) (hrn:y.rn = 0) (hi:h.n.toNat <= 16) (hss:h.ss = y.id) (hG:hdG h) (hra:h.ra = y.th) {k:List UInt8} (hA:skA true T y.rk h.n.toNat = (T,k)) (hN:nxT T k = T)
  {oL oZ:Nat} {p:List UInt8} (hL:Num T (7,[[75],kyB (nxK T k),hdB h]) oL) (hBl:(hdB h).length <= 1024) (hZ:Num T (8,[kyB oL,p]) oZ) (hp:p.length <= 1024) (hTl:T.length < 4294967296) :
  OpenR T y h (sefB oZ p.length) T { y with rk:=kyB (nxN T k),rn:=h.n + 1,kp:=skP true T y.rk y.th 0 [] h.n.toNat } (some p) 0:=by
 have hlt:=h.n.toNat_lt
 have h65:h.n ≠ 65535:=fun e=>by
  have:h.n.toNat = 65535:=by rw [e];rfl
  omega
 have hz:(0:UInt16).toNat = 0:=rfl
 have hS:SkRes true T y.rk y.th y.rn h.n y.kp T k h.n (skP true T y.rk y.th 0 [] h.n.toNat) 0:=by
  rw [hrn,hkp]
  refine Or.inr (Or.inr (Or.inr ⟨by omega,?_,?_,?_,?_,rfl,?_,rfl⟩))
  ·simp only [hz,List.length_nil];omega
  ·intro j hj
   exact skXG_nil true T y.rk y.th 0 (by simp only [hz] at hj;omega)
  ·rw [hz,Nat.sub_zero,hA]
  ·rw [hz,Nat.sub_zero,hA]
  ·rw [hz,Nat.sub_zero]
 have hF:FindR T y h.ra h.n h.pv T { y with rk:=kyB (nxN T k),rn:=h.n + 1,kp:=skP true T y.rk y.th 0 [] h.n.toNat } (kyB (nxK T k)) 0:=
  Or.inr ⟨by rw [hkp];exact fiI_nil _ _,T,y,0,Or.inl ⟨hhr,hra,rfl,rfl,rfl⟩,Or.inr ⟨rfl,T,k,h.n,_,0,hS,Or.inr (Or.inr ⟨rfl,h65,hN.symm,rfl,rfl,rfl⟩)⟩⟩
 have hm:=mx2_has (by have:=zk (nxK T k);omega) hBl hL
 refine Or.inr (Or.inr ⟨hss,hG,T,_,_,0,hF,Or.inr ⟨rfl,by rw [hm],?_,Or.inr ⟨by simp,rfl,rfl⟩⟩⟩)
 rw [hm]
 exact (opn_sealed hZ hTl hp).symm
end Go.Proofs.YtfnmgbillkiabaaGreat
