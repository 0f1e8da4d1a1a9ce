/- What the functions of the program compute. No condition. -/
import Derived.Test.YtfnmgbillkiabaaGreatHwRb3ToRb3
import Derived.Test.YtfnmgbillkiabaaGreatHwSs4ToRa1
set_option linter.unusedSimpArgs false
set_option linter.unusedVariables false
set_option maxRecDepth 100000
namespace Go.Proofs.YtfnmgbillkiabaaGreat
open Go Go.Sx
def OpenR (T:List Te) (x:Se) (h:Hd) (B:List UInt8) (T':List Te) (x':Se) (p:Option (List UInt8)) (e:Int):Prop:=
 (h.ss ≠ x.id/\T' = T/\x' = x/\p = none/\e = 1) \/
 (h.ss = x.id/\¬ hdG h/\T' = T/\x' = x/\p = none/\e = 141) \/
 (h.ss = x.id/\hdG h/\∃ T1 x1 row e1,FindR T x h.ra h.n h.pv T1 x1 row e1/\((e1 ≠ 0/\T' = T1/\x' = x/\p = none/\e = e1) \/
  (e1 = 0/\T' = (mx2 T1 75 row (hdB h)).1/\p = opn T' T'.length (kyB (mx2 T1 75 row (hdB h)).2) B/\((p = none/\x' = x/\e = 182) \/ (p ≠ none/\x' = x1/\e = 0)))))
theorem open_det {T:List Te} {x:Se} {h:Hd} {B:List UInt8} {T1 T2:List Te} {x1 x2:Se} {p1 p2:Option (List UInt8)} {e1 e2:Int} (a:OpenR T x h B T1 x1 p1 e1) (b:OpenR T x h B T2 x2 p2 e2):T1 = T2/\x1 = x2/\p1 = p2/\e1 = e2:=by
 rcases a with ⟨a1,rfl,rfl,rfl,rfl⟩ | ⟨a1,a2,rfl,rfl,rfl,rfl⟩ | ⟨a1,a2,A,y1,r1,d1,a3,a4⟩
 ·rcases b with ⟨b1,rfl,rfl,rfl,rfl⟩ | ⟨b1,b2,rfl,rfl,rfl,rfl⟩ | ⟨b1,b2,C,y2,r2,d2,b3,b4⟩
  ·exact ⟨rfl,rfl,rfl,rfl⟩
  ·exact absurd b1 a1
  ·exact absurd b1 a1
 ·rcases b with ⟨b1,rfl,rfl,rfl,rfl⟩ | ⟨b1,b2,rfl,rfl,rfl,rfl⟩ | ⟨b1,b2,C,y2,r2,d2,b3,b4⟩
  ·exact absurd a1 b1
  ·exact ⟨rfl,rfl,rfl,rfl⟩
  ·exact absurd b2 a2
 ·rcases b with ⟨b1,rfl,rfl,rfl,rfl⟩ | ⟨b1,b2,rfl,rfl,rfl,rfl⟩ | ⟨b1,b2,C,y2,r2,d2,b3,b4⟩
  ·exact absurd a1 b1
  ·exact absurd a2 b2
  ·obtain ⟨rfl,rfl,rfl,rfl⟩:=find_det a3 b3
   rcases a4 with ⟨c1,rfl,rfl,rfl,rfl⟩ | ⟨c1,rfl,c2,c3⟩
   ·rcases b4 with ⟨k1,rfl,rfl,rfl,rfl⟩ | ⟨k1,rfl,k2,k3⟩
    ·exact ⟨rfl,rfl,rfl,rfl⟩
    ·exact absurd k1 c1
   ·rcases b4 with ⟨k1,rfl,rfl,rfl,rfl⟩ | ⟨k1,rfl,k2,k3⟩
    ·exact absurd c1 k1
    ·have e:p1 = p2:=by rw [c2,k2]
     subst e
     rcases c3 with ⟨m1,rfl,rfl⟩ | ⟨m1,rfl,rfl⟩
     ·rcases k3 with ⟨w1,rfl,rfl⟩ | ⟨w1,rfl,rfl⟩
      ·exact ⟨rfl,rfl,rfl,rfl⟩
      ·exact absurd m1 w1
     ·rcases k3 with ⟨w1,rfl,rfl⟩ | ⟨w1,rfl,rfl⟩
      ·exact absurd w1 m1
      ·exact ⟨rfl,rfl,rfl,rfl⟩
set_option maxHeartbeats 8000000 in
theorem fn15 (T:List Te) (N c:Nat) (hT:T.length = N) (hN:N <= 39000) (hNc:N <= c) (hTv:∀ x ∈ T,Valid x.1 x.2) (x:Se) (hx:x.OK) (l:List Kp) (Nl ml:Nat) (hNl:l.length = Nl) (hml:ml <= Nl) (hNl1:Nl <= 90000) (hlO:∀ x ∈ l,KpOK x) (hkp:x.kp = l.take ml)
  (h:Hd) (hh:h.OK) (B:List UInt8) (n:Nat) (hB:B.length = n) (hn:n <= 1000000) :
  Sx.Fn Γ.P 15 [.agg [(1,.ptr 1000 0 none)],.agg (seL x (.isl 0 ml 65 [(Nl * 65,.arr Nl 65 (kpF l))])),hdV h,.slx 1003 0 0 n] ((1003,.mem false 0 [(n,.a8 B)]) :: tbM N c T 1001)
  (fun v M=>∃ T' x' p e n' c' le Ne me kq,OpenR T x h B T' x' p e/\T'.length = n'/\n' <= c'/\n' <= N + 101/\((∀ y ∈ T',Valid y.1 y.2)/\x'.OK)/\le.length = Ne/\me <= Ne/\Ne <= Nl + 40/\x'.kp = le.take me/\(∀ y ∈ le,KpOK y) /\
   (p.getD []).length = kq/\kq <= 1024/\v = .tup [.agg (seL x' (.isl 0 me 65 [(Ne * 65,.arr Ne 65 (kpF le))])),.isl 0 kq 1 [(kq,.a8 (p.getD []))],.i .i64 e]/\M = (1001,.dead) :: (1003,.mem false 0 [(n,.a8 B)]) :: tbM n' c' T' 1005):=by
 have hx':=hx
 obtain ⟨h1,h2,h3,h4,h5,h6,h7,h8,h9,_⟩:=hx'
 have hh':=hh
 obtain ⟨f1,f2,f3,f4,f5⟩:=hh'
 have hOw:=fnOwn l Nl ml hNl hml (by omega) x.id x.root x.mine (x.hs = true) x.sk x.sn x.pv x.th (x.hr = true) x.rk x.rn (x.fi = true) x.ag x.sg x.ba x.oc h1 h2 h3 h4 h5 h6 h7 h8 h9
 have hlt0:(l.take ml).length = ml:=by rw [zlT];omega
 have hlO0:∀ y ∈ l.take ml,KpOK y:=fun y hy=>hlO y (List.mem_of_mem_take hy)
 have hHb:=fn38 h hh
 unfold hdV at hHb
 unfold tbM hdV
 refine fn_of (Γ:=Γ) (fn:=Tryz.f15) rfl rfl rfl rfl ?_
 repeat (refine sd ?_)
 refine zB.intro (fun hid=>?_) (fun hid=>?_)
 ·have hid:¬ h.ss = x.id:=hid
  have hOK0:(∀ y ∈ T,Valid y.1 y.2)/\x.OK:=⟨hTv,hx⟩
  repeat (refine sd ?_)
  refine Call.intro hOw [] rfl ?_ rfl ?_ rfl ?_
  ·exact fc
  ·exact fc
  rintro v M' ⟨rfl,rfl⟩
  dsimp only [zt,zM,zE,ren,zz,zx,zy,look,zG,zX,ev,evL,zV,zcT,zcF,act,zP,zO,Ent.zW]
  repeat (refine sd ?_)
  refine Ret.intro (.tup [.agg (seL x (.isl 0 ml 65 [(ml * 65,.arr ml 65 (kpF (l.take ml)))])),.isl 0 0 1 [(0,.a8 [])],.i .i64 1]) ((1001,.dead) :: (1003,.mem false 0 [(n,.a8 B)]) :: tbM N c T 1005) [(1005,(1001,0,none))] rfl ?_
   ⟨T,x,none,1,N,c,l.take ml,ml,ml,0,Or.inl ⟨hid,rfl,rfl,rfl,rfl⟩,hT,hNc,(by omega),hOK0,hlt0,Nat.le_refl _,by omega,by rw [List.take_take,Nat.min_self];exact hkp,hlO0,rfl,by omega,rfl,rfl⟩ rfl ?_ rfl ?_ rfl
  ·exact fc
  ·repeat' (first | (show zA _;first | exact trivial | refine zA.app ?_ ?_ | refine zA.zd ?_ ?_ | refine zA.cons ?_ ?_) | exact fd | fail)
   all_goals exact ⟨rfl,rfl,trivial⟩
  ·exact fc
 have hid:h.ss = x.id:=Classical.not_not.1 hid
 repeat (refine sd ?_)
 refine Call.intro hHb [(1005,(305,0,none))] rfl ?_ rfl ?_ rfl ?_
 ·exact fc
 ·exact fc
 rintro v M' (⟨hG,rfl,rfl⟩ | ⟨m,c1,hG,hm,hmc,rfl,rfl⟩)
 ·dsimp only [zt,zM,zE,ren,zz,zx,zy,look,zG,zX,ev,evL,zV,zcT,zcF,act,zP,zO,Ent.zW]
  repeat (first | (refine zB.intro (fun _=>?_) (fun hn=>absurd rfl hn)) | (refine ky0 ?_) | (refine kn0 ?_) | (refine sd ?_))
  have hOK0:(∀ y ∈ T,Valid y.1 y.2)/\x.OK:=⟨hTv,hx⟩
  repeat (refine sd ?_)
  refine Call.intro hOw [] rfl ?_ rfl ?_ rfl ?_
  ·exact fc
  ·exact fc
  rintro v M' ⟨rfl,rfl⟩
  dsimp only [zt,zM,zE,ren,zz,zx,zy,look,zG,zX,ev,evL,zV,zcT,zcF,act,zP,zO,Ent.zW]
  repeat (refine sd ?_)
  refine Ret.intro (.tup [.agg (seL x (.isl 0 ml 65 [(ml * 65,.arr ml 65 (kpF (l.take ml)))])),.isl 0 0 1 [(0,.a8 [])],.i .i64 141]) ((1001,.dead) :: (1003,.mem false 0 [(n,.a8 B)]) :: tbM N c T 1005) [(1005,(1001,0,none))] rfl ?_
   ⟨T,x,none,141,N,c,l.take ml,ml,ml,0,Or.inr (Or.inl ⟨hid,hG,rfl,rfl,rfl,rfl⟩),hT,hNc,(by omega),hOK0,hlt0,Nat.le_refl _,by omega,by rw [List.take_take,Nat.min_self];exact hkp,hlO0,rfl,by omega,rfl,rfl⟩ rfl ?_ rfl ?_ rfl
  ·exact fc
  ·repeat' (first | (show zA _;first | exact trivial | refine zA.app ?_ ?_ | refine zA.zd ?_ ?_ | refine zA.cons ?_ ?_) | exact fd | fail)
   all_goals exact ⟨rfl,rfl,trivial⟩
  ·exact fc
 dsimp only [zt,zM,zE,ren,zz,zx,zy,look,zG,zX,ev,evL,zV,zcT,zcF,act,zP,zO,Ent.zW]
 repeat (first | (refine zB.intro (fun _=>?_) (fun hn=>absurd rfl hn)) | (refine ky0 ?_) | (refine kn0 ?_) | (refine sd ?_))
 refine Draw.intro [[],[],[1],[],[0,1,2,3],[0,1,2,3,4],[0,1,2,3,4,5],[0,1,2,3,4,5],[0,1,2,3,4,5],[],[],[0,1,2,3,4,5,6,9,10],[0,1,2,3,4,5,6,7,9,10,11],[0,1,2,3,4,5,6,7,8,9,10,11,12]] [0,1,3,9,10,2,4,5,6,7,8,11,12,13] (by kernel_rfl) ?_
 repeat (refine sd ?_)
 refine Call.intro hOw [] rfl ?_ rfl ?_ rfl ?_
 ·exact fc
 ·exact fc
 rintro v M' ⟨rfl,rfl⟩
 dsimp only [zt,zM,zE,ren,zz,zx,zy,look,zG,zX,ev,evL,zV,zcT,zcF,act,zP,zO,Ent.zW]
 repeat (refine sd ?_)
 refine Grow.auto rfl rfl ?_
 repeat (refine sd ?_)
 have hFi:=fn39 T N c hT hN hNc hTv x hx (l.take ml) ml ml hlt0 (Nat.le_refl _) (by omega) hlO0 (by rw [List.take_take,Nat.min_self];exact hkp) h hh
 unfold tbM seL hdV at hFi
 refine Call.intro hFi [(1000,(1000,0,none)),(1001,(1001,0,none)),(1002,(1002,0,none)),(1005,(306,0,none))] rfl ?_ rfl ?_ rfl ?_
 ·exact fc
 ·exact fc
 rintro v M' ⟨T1,x1,row,e1,n1,c1',xe,le,Ne,me,re,hres,hn1,hc1,hN1,hv1,hle,hme,hNe,hleO,hxe,hre,hok,rfl,rfl⟩
 have hxe':=hxe
 obtain ⟨g1,g2,g3,g4,g5,g6,g7,g8,g9,_⟩:=hxe'
 dsimp only [zt,zM,zE,ren,zz,zx,zy,look,zG,zX,ev,evL,zV,zcT,zcF,act,zP,zO,Ent.zW]
 repeat (first | (refine Grow.turn rfl rfl ?_) | (refine sd ?_))
 refine zB.intro (fun he=>?_) (fun he=>?_)
 ·have he:¬ e1 = 0:=he
  have hOK0:(∀ y ∈ T1,Valid y.1 y.2)/\x.OK:=⟨hv1,hx⟩
  repeat (refine sd ?_)
  refine Call.intro hOw [] rfl ?_ rfl ?_ rfl ?_
  ·exact fc
  ·exact fc
  rintro v M' ⟨rfl,rfl⟩
  dsimp only [zt,zM,zE,ren,zz,zx,zy,look,zG,zX,ev,evL,zV,zcT,zcF,act,zP,zO,Ent.zW]
  repeat (refine sd ?_)
  refine Ret.intro (.tup [.agg (seL x (.isl 0 ml 65 [(ml * 65,.arr ml 65 (kpF (l.take ml)))])),.isl 0 0 1 [(0,.a8 [])],.i .i64 e1]) ((1001,.dead) :: (1003,.mem false 0 [(n,.a8 B)]) :: tbM n1 c1' T1 1005) [(1005,(306,0,none))] rfl ?_
   ⟨T1,x,none,e1,n1,c1',l.take ml,ml,ml,0,Or.inr (Or.inr ⟨hid,hG,T1,x1,row,e1,hres,Or.inl ⟨he,rfl,rfl,rfl,rfl⟩⟩),hn1,hc1,(by omega),hOK0,hlt0,Nat.le_refl _,by omega,by rw [List.take_take,Nat.min_self];exact hkp,hlO0,rfl,by omega,rfl,rfl⟩ rfl ?_ rfl ?_ rfl
  ·exact fc
  ·repeat' (first | (show zA _;first | exact trivial | refine zA.app ?_ ?_ | refine zA.zd ?_ ?_ | refine zA.cons ?_ ?_) | exact fd | fail)
   all_goals exact ⟨rfl,rfl,trivial⟩
  ·exact fc
 have he:e1 = 0:=Classical.not_not.1 he
 subst he
 obtain ⟨hxx,hkx,hrr⟩:=hok rfl
 subst hxx
 subst hrr
 have hBl:=hdB_le hh
 have hv2:∀ y ∈ (mx2 T1 75 re (hdB h)).1,Valid y.1 y.2:=mx2_valid hv1 _ _ _
 have hl2:=(mx2_len T1 75 re (hdB h)).2
 have hLK:=fn40 T1 n1 c1' hn1 (by omega) hc1 hv1 re hre h hh _ _ rfl rfl
 obtain ⟨T2,hT2⟩:∃ T2,(mx2 T1 75 re (hdB h)).1 = T2:=⟨_,rfl⟩
 obtain ⟨o,ho⟩:∃ o,(mx2 T1 75 re (hdB h)).2 = o:=⟨_,rfl⟩
 rw [hT2] at hv2 hl2
 rw [hT2,ho] at hLK
 have hko:=zk o
 unfold tbM hdV at hLK
 repeat (refine sd ?_)
 refine Call.intro hLK [(1000,(1000,0,none)),(1001,(306,0,none)),(1002,(1002,0,none)),(1005,(307,0,none))] rfl ?_ rfl ?_ rfl ?_
 ·exact fc
 ·exact fc
 rintro v M' (⟨hG',rfl,rfl⟩ | ⟨_,n2,c2,hn2,hc2,rfl,rfl⟩)
 ·exact absurd hG hG'
 dsimp only [zt,zM,zE,ren,zz,zx,zy,look,zG,zX,ev,evL,zV,zcT,zcF,act,zP,zO,Ent.zW]
 repeat (first | (refine zB.intro (fun _=>?_) (fun hn=>absurd rfl hn)) | (refine ky0 ?_) | (refine kn0 ?_) | (refine sd ?_))
 have hOp:=fnOpenF T2 n2 hn2 (by omega) hv2 (kyB o) B n hko hB hn
 refine Call.intro hOp [(1000,(1000,0,none)),(1001,(307,0,none)),(1002,(1002,0,none)),(1003,(1003,0,none))] rfl ?_ rfl ?_ rfl ?_
 ·exact fc
 ·exact fc
 rintro v M' (⟨hq,rfl,rfl⟩ | ⟨q,k,hq,hk,hk1,rfl,rfl⟩)
 ·dsimp only [zt,zM,zE,ren,zz,zx,zy,look,zG,zX,ev,evL,zV,zcT,zcF,act,zP,zO,Ent.zW]
  repeat (first | (refine zB.intro (fun _=>?_) (fun hn=>absurd rfl hn)) | (refine ky0 ?_) | (refine kn0 ?_) | (refine sd ?_))
  have hOK0:(∀ y ∈ T2,Valid y.1 y.2)/\x.OK:=⟨hv2,hx⟩
  repeat (refine sd ?_)
  refine Call.intro hOw [] rfl ?_ rfl ?_ rfl ?_
  ·exact fc
  ·exact fc
  rintro v M' ⟨rfl,rfl⟩
  dsimp only [zt,zM,zE,ren,zz,zx,zy,look,zG,zX,ev,evL,zV,zcT,zcF,act,zP,zO,Ent.zW]
  repeat (refine sd ?_)
  refine Ret.intro (.tup [.agg (seL x (.isl 0 ml 65 [(ml * 65,.arr ml 65 (kpF (l.take ml)))])),.isl 0 0 1 [(0,.a8 [])],.i .i64 182]) ((1001,.dead) :: (1003,.mem false 0 [(n,.a8 B)]) :: tbM n2 c2 T2 1005) [(1005,(307,0,none))] rfl ?_
   ⟨T2,x,none,182,n2,c2,l.take ml,ml,ml,0,Or.inr (Or.inr ⟨hid,hG,T1,xe,re,0,hres,Or.inr ⟨rfl,hT2.symm,by rw [ho,hn2];exact hq.symm,Or.inl ⟨rfl,rfl,rfl⟩⟩⟩),hn2,hc2,(by omega),hOK0,hlt0,Nat.le_refl _,by omega,by rw [List.take_take,Nat.min_self];exact hkp,hlO0,rfl,by omega,rfl,rfl⟩ rfl ?_ rfl ?_ rfl
  ·exact fc
  ·repeat' (first | (show zA _;first | exact trivial | refine zA.app ?_ ?_ | refine zA.zd ?_ ?_ | refine zA.cons ?_ ?_) | exact fd | fail)
   all_goals exact ⟨rfl,rfl,trivial⟩
  ·exact fc
 ·dsimp only [zt,zM,zE,ren,zz,zx,zy,look,zG,zX,ev,evL,zV,zcT,zcF,act,zP,zO,Ent.zW]
  repeat (first | (refine zB.intro (fun _=>?_) (fun hn=>absurd rfl hn)) | (refine ky0 ?_) | (refine kn0 ?_) | (refine sd ?_))
  refine Ret.intro (.tup [.agg (seL xe (.isl 0 me 65 [(Ne * 65,.arr Ne 65 (kpF le))])),.isl 0 k 1 [(k,.a8 q)],.i .i64 0]) ((1001,.dead) :: (1003,.mem false 0 [(n,.a8 B)]) :: tbM n2 c2 T2 1005) [(1005,(307,0,none))] rfl ?_
   ⟨T2,xe,some q,0,n2,c2,le,Ne,me,k,Or.inr (Or.inr ⟨hid,hG,T1,xe,re,0,hres,Or.inr ⟨rfl,hT2.symm,by rw [ho,hn2];exact hq.symm,Or.inr ⟨by simp,rfl,rfl⟩⟩⟩),hn2,hc2,by omega,⟨hv2,hxe⟩,hle,hme,by omega,hkx,hleO,hk,hk1,rfl,rfl⟩ rfl ?_ rfl ?_ rfl
  ·exact fc
  ·exact fc
  ·exact fc
theorem fdG_app {x:Te}:∀ {T r:List Te} {i:Nat},fdT x T = i + 1->fdT x (T ++ r) = i + 1
 | [],_,_,h=>by simp [fdT] at h
 | y :: t,r,i,h=>by
  by_cases hy:y = x
  ·simp only [fdT,if_pos hy,List.cons_append] at h ⊢;exact h
  ·simp only [fdT,if_neg hy,List.cons_append] at h ⊢
   cases hf:fdT x t with
   | zero=>rw [hf] at h;cases h
   | succ j=>rw [hf] at h;rw [fdG_app hf];exact h
theorem fdG_getD {x:Te}:∀ {T:List Te} {i:Nat},fdT x T = i + 1->T.getD i te0 = x
 | [],_,h=>by simp [fdT] at h
 | y :: t,i,h=>by
  by_cases hy:y = x
  ·simp only [fdT,if_pos hy] at h
   obtain rfl:i = 0:=by omega
   exact hy
  ·simp only [fdT,if_neg hy] at h
   cases hf:fdT x t with
   | zero=>rw [hf] at h;cases h
   | succ j=>
    rw [hf] at h
    have h:j + 2 = i + 1:=h
    obtain rfl:i = j + 1:=by omega
    exact (fdG_getD hf:t.getD j te0 = x)
theorem fdG_new (x:Te):∀ {T:List Te},fdT x T = 0->fdT x (T ++ [x]) = T.length + 1
 | [],_=>by simp [fdT]
 | y :: t,h=>by
  by_cases hy:y = x
  ·simp only [fdT,if_pos hy] at h;cases h
  ·simp only [fdT,if_neg hy,List.cons_append] at h ⊢
   cases hf:fdT x t with
   | zero=>rw [fdG_new x hf];rfl
   | succ j=>rw [hf] at h;cases h
def Num (T:List Te) (x:Te) (o:Nat):Prop:=fdT x T = o/\o ≠ 0
def Ext (A B:List Te):Prop:=∀ y o,Num A y o->Num B y o
theorem Ext.refl (A:List Te):Ext A A:=fun _ _ h=>h
theorem Ext.trans {A B C:List Te} (h:Ext A B) (k:Ext B C):Ext A C:=fun y o n=>k y o (h y o n)
theorem mkT_num {T:List Te} {x:Te} (hV:Valid x.1 x.2):Num (mkT T x).1 x (mkT T x).2:=by
 cases hf:fdT x T with
 | zero=>rw [mkT_new hV hf];exact ⟨fdG_new x hf,by simp⟩
 | succ i=>rw [mkT_old hV hf];exact ⟨hf,by simp⟩
theorem Ext.mk (T:List Te) (x:Te):Ext T (mkT T x).1:=by
 rintro y o ⟨h,h0⟩
 obtain ⟨i,rfl⟩:∃ i,o = i + 1:=⟨o - 1,by omega⟩
 by_cases hV:Valid x.1 x.2
 ·cases hf:fdT x T with
  | zero=>rw [mkT_new hV hf];exact ⟨fdG_app h,h0⟩
  | succ j=>rw [mkT_old hV hf];exact ⟨h,h0⟩
 ·rw [mkT_no hV];exact ⟨h,h0⟩
theorem mkT_has {T:List Te} {x:Te} {o:Nat} (hV:Valid x.1 x.2) (h:Num T x o):mkT T x = (T,o):=by
 obtain ⟨h,h0⟩:=h
 obtain ⟨i,rfl⟩:∃ i,o = i + 1:=⟨o - 1,by omega⟩
 exact mkT_old hV h
theorem Num.getD {T:List Te} {x:Te} {o:Nat} (h:Num T x o):T.getD (o - 1) te0 = x/\o <= T.length/\1 <= o:=by
 obtain ⟨h,h0⟩:=h
 obtain ⟨i,rfl⟩:∃ i,o = i + 1:=⟨o - 1,by omega⟩
 exact ⟨fdG_getD h,by rw [<- h];exact fdT_le x T,by omega⟩
theorem Num.one {T:List Te} {x:Te} {o p:Nat} (h:Num T x o) (k:Num T x p):o = p:=by rw [<- h.1,<- k.1]
theorem v1 {k:Int} (h1:1 <= k) (h8:k <= 8) {p:List UInt8} (hp:p.length <= 4096):Valid k [p]:=⟨joinsA hp,h1,h8⟩
theorem v8 {p q:List UInt8} (hp:p.length <= 1024) (hq:q.length <= 1024):Valid 8 [p,q]:=⟨joinsS hp hq,by decide,by decide⟩
theorem mk1_num (T:List Te) {k:Int} (h1:1 <= k) (h8:k <= 8) {p:List UInt8} (hp:p.length <= 4096):Num (mk1 T k p).1 (k,[p]) (mk1 T k p).2:=by rw [mk1_eq];exact mkT_num (x:=(k,_)) (v1 h1 h8 hp)
theorem mk1_ext (T:List Te) (k:Int) (p:List UInt8):Ext T (mk1 T k p).1:=by rw [mk1_eq];exact Ext.mk _ _
theorem mk1_has {T:List Te} {k:Int} (h1:1 <= k) (h8:k <= 8) {p:List UInt8} {o:Nat} (hp:p.length <= 4096) (h:Num T (k,[p]) o):mk1 T k p = (T,o):=by rw [mk1_eq];exact mkT_has (x:=(k,_)) (v1 h1 h8 hp) h
theorem mx8_num (T:List Te) {p q:List UInt8} (hp:p.length <= 1024) (hq:q.length <= 1024):Num (mx8 T p q).1 (8,[p,q]) (mx8 T p q).2:=by rw [mx8_eq];exact mkT_num (x:=(8,_)) (v8 hp hq)
theorem mx8_ext (T:List Te) (p q:List UInt8):Ext T (mx8 T p q).1:=by rw [mx8_eq];exact Ext.mk _ _
theorem numP_ky {z N:Nat} (h1:1 <= z) (h2:z <= N) (h3:N < 4294967296):numP (kyB z) N 0 = z:=by
 obtain ⟨i,rfl⟩:∃ i,z = i + 1:=⟨z - 1,by omega⟩
 exact numP_name h1 h2 h3
theorem opn_sealed {T:List Te} {key p:List UInt8} {o:Nat} (h:Num T (8,[key,p]) o) (hl:T.length < 4294967296) (hp:p.length <= 1024):opn T T.length key (sefB o p.length) = some p:=by
 obtain ⟨h1,h2,h3⟩:=h.getD
 have hq:numP ((sefB o p.length).take 32) T.length 0 = (o - 1) + 1:=by rw [sefB_take,numP_ky h3 h2 hl];omega
 rw [opn_yes hq,h1]
 ·rfl
 ·rw [h1]
  refine ⟨rfl,rfl,rfl,?_,?_⟩
  ·show sizS ((p.length:Nat):Int) = _
   rw [sizS_ok (by omega) (by omega),sefB_length];omega
  ·rw [sefB_length,sefB_eq,List.drop_left' (zk o)]
   congr 1
end Go.Proofs.YtfnmgbillkiabaaGreat
