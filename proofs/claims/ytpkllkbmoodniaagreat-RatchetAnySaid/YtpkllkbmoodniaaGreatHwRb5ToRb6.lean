/- What the functions of the program compute. No condition. -/
import Derived.Test.YtpkllkbmoodniaaGreatHwZa3ToZa5
import Derived.Test.YtpkllkbmoodniaaGreatHwSs4ToRa1
set_option linter.unusedSimpArgs false
set_option linter.unusedVariables false
namespace Go.Proofs.YtpkllkbmoodniaaGreat
open Go Go.Sx
def sameP (x y:Se):Prop:=x.id = y.id∧x.root = y.root∧x.mine = y.mine∧x.hs = y.hs∧x.sk = y.sk∧x.sn = y.sn∧x.pv = y.pv∧x.th = y.th∧x.hr = y.hr∧x.rk = y.rk∧x.rn = y.rn∧x.fi = y.fi∧x.ag = y.ag∧x.sg = y.sg∧x.ba = y.ba∧x.oc = y.oc
set_option maxRecDepth 100000 in
set_option maxHeartbeats 4000000 in
theorem fn19 (x y:Se) (hx:x.OK) (hy:y.OK) (l k:List Kp) (Nl ml Nk mk:Nat) (hNl:l.length = Nl) (hml:ml ≤ Nl) (hNl1:Nl ≤ 1000000) (hlO:∀ x ∈ l,KpOK x) (hNk:k.length = Nk) (hmk:mk ≤ Nk) (hNk1:Nk ≤ 1000000) (hkO:∀ x ∈ k,KpOK x) :
  Sx.Fn Γ.P 19 [.agg (seL x (.isl 0 ml 65 [(Nl * 65,.arr Nl 65 (kpF l))])),.agg (seL y (.isl 0 mk 65 [(Nk * 65,.arr Nk 65 (kpF k))]))] []
  (fun v M=>v = .bool (sameP x y∧l.take ml = k.take mk)∧M = []):=by
 have hS:=fn46 l k Nl ml Nk mk hNl hml hNl1 hNk hmk hNk1 hlO hkO
 obtain ⟨h1,h2,h3,h4,h5,h6,h7,h8,h9,_⟩:=hx
 obtain ⟨g1,g2,g3,g4,g5,g6,g7,g8,g9,_⟩:=hy
 refine fn_of (Γ:=Γ) (fn:=Tryz.f19) rfl rfl rfl rfl ?_
 repeat (refine sd ?_)
 refine Branch.intro (fun e0=>?_) (fun e0=>?_)
 rotate_left
 ·have e0:¬ x.id = y.id:=e0
  repeat (refine sd ?_)
  refine Ret.intro (.bool (sameP x y∧l.take ml = k.take mk)) [] [] rfl ?_ ⟨rfl,rfl⟩ rfl ?_ rfl ?_ rfl
  ·exact fc
  ·repeat' (first | (show AllP _;first | exact trivial | refine AllP.app ?_ ?_ | refine AllP.appd ?_ ?_ | refine AllP.cons ?_ ?_) | exact fd | fail)
   all_goals exact fun h=>e0 h.1.1
  ·exact fc
 have e0:x.id = y.id:=e0
 repeat (refine sd ?_)
 refine Branch.intro (fun e1=>?_) (fun e1=>?_)
 rotate_left
 ·have e1:¬ x.root = y.root:=e1
  repeat (refine sd ?_)
  refine Ret.intro (.bool (sameP x y∧l.take ml = k.take mk)) [] [] rfl ?_ ⟨rfl,rfl⟩ rfl ?_ rfl ?_ rfl
  ·exact fc
  ·repeat' (first | (show AllP _;first | exact trivial | refine AllP.app ?_ ?_ | refine AllP.appd ?_ ?_ | refine AllP.cons ?_ ?_) | exact fd | fail)
   all_goals exact fun h=>e1 h.1.2.1
  ·exact fc
 have e1:x.root = y.root:=e1
 repeat (refine sd ?_)
 refine Branch.intro (fun e2=>?_) (fun e2=>?_)
 rotate_left
 ·have e2:¬ x.mine = y.mine:=e2
  repeat (refine sd ?_)
  refine Ret.intro (.bool (sameP x y∧l.take ml = k.take mk)) [] [] rfl ?_ ⟨rfl,rfl⟩ rfl ?_ rfl ?_ rfl
  ·exact fc
  ·repeat' (first | (show AllP _;first | exact trivial | refine AllP.app ?_ ?_ | refine AllP.appd ?_ ?_ | refine AllP.cons ?_ ?_) | exact fd | fail)
   all_goals exact fun h=>e2 h.1.2.2.1
  ·exact fc
 have e2:x.mine = y.mine:=e2
 repeat (refine sd ?_)
 refine Branch.intro (fun e3=>?_) (fun e3=>?_)
 rotate_left
 ·have e3:¬ (x.hs = true ↔ y.hs = true):=e3
  repeat (refine sd ?_)
  refine Ret.intro (.bool (sameP x y∧l.take ml = k.take mk)) [] [] rfl ?_ ⟨rfl,rfl⟩ rfl ?_ rfl ?_ rfl
  ·exact fc
  ·repeat' (first | (show AllP _;first | exact trivial | refine AllP.app ?_ ?_ | refine AllP.appd ?_ ?_ | refine AllP.cons ?_ ?_) | exact fd | fail)
   all_goals exact fun h=>e3 (by rw [show x.hs = y.hs from h.1.2.2.2.1])
  ·exact fc
 have e3:x.hs = y.hs:=Bool.eq_iff_iff.2 e3
 repeat (refine sd ?_)
 refine Branch.intro (fun e4=>?_) (fun e4=>?_)
 rotate_left
 ·have e4:¬ (x.sk = y.sk∧x.sn = y.sn):=e4
  repeat (refine sd ?_)
  refine Ret.intro (.bool (sameP x y∧l.take ml = k.take mk)) [] [] rfl ?_ ⟨rfl,rfl⟩ rfl ?_ rfl ?_ rfl
  ·exact fc
  ·repeat' (first | (show AllP _;first | exact trivial | refine AllP.app ?_ ?_ | refine AllP.appd ?_ ?_ | refine AllP.cons ?_ ?_) | exact fd | fail)
   all_goals exact fun h=>e4 ⟨h.1.2.2.2.2.1,h.1.2.2.2.2.2.1⟩
  ·exact fc
 have e4:x.sk = y.sk∧x.sn = y.sn:=e4
 repeat (refine sd ?_)
 refine Branch.intro (fun e5=>?_) (fun e5=>?_)
 rotate_left
 ·have e5:¬ x.pv = y.pv:=e5
  repeat (refine sd ?_)
  refine Ret.intro (.bool (sameP x y∧l.take ml = k.take mk)) [] [] rfl ?_ ⟨rfl,rfl⟩ rfl ?_ rfl ?_ rfl
  ·exact fc
  ·repeat' (first | (show AllP _;first | exact trivial | refine AllP.app ?_ ?_ | refine AllP.appd ?_ ?_ | refine AllP.cons ?_ ?_) | exact fd | fail)
   all_goals exact fun h=>e5 h.1.2.2.2.2.2.2.1
  ·exact fc
 have e5:x.pv = y.pv:=e5
 repeat (refine sd ?_)
 refine Branch.intro (fun e6=>?_) (fun e6=>?_)
 rotate_left
 ·have e6:¬ x.th = y.th:=e6
  repeat (refine sd ?_)
  refine Ret.intro (.bool (sameP x y∧l.take ml = k.take mk)) [] [] rfl ?_ ⟨rfl,rfl⟩ rfl ?_ rfl ?_ rfl
  ·exact fc
  ·repeat' (first | (show AllP _;first | exact trivial | refine AllP.app ?_ ?_ | refine AllP.appd ?_ ?_ | refine AllP.cons ?_ ?_) | exact fd | fail)
   all_goals exact fun h=>e6 h.1.2.2.2.2.2.2.2.1
  ·exact fc
 have e6:x.th = y.th:=e6
 repeat (refine sd ?_)
 refine Branch.intro (fun e7=>?_) (fun e7=>?_)
 rotate_left
 ·have e7:¬ (x.hr = true ↔ y.hr = true):=e7
  repeat (refine sd ?_)
  refine Ret.intro (.bool (sameP x y∧l.take ml = k.take mk)) [] [] rfl ?_ ⟨rfl,rfl⟩ rfl ?_ rfl ?_ rfl
  ·exact fc
  ·repeat' (first | (show AllP _;first | exact trivial | refine AllP.app ?_ ?_ | refine AllP.appd ?_ ?_ | refine AllP.cons ?_ ?_) | exact fd | fail)
   all_goals exact fun h=>e7 (by rw [show x.hr = y.hr from h.1.2.2.2.2.2.2.2.2.1])
  ·exact fc
 have e7:x.hr = y.hr:=Bool.eq_iff_iff.2 e7
 repeat (refine sd ?_)
 refine Branch.intro (fun e8=>?_) (fun e8=>?_)
 rotate_left
 ·have e8:¬ (x.rk = y.rk∧x.rn = y.rn):=e8
  repeat (refine sd ?_)
  refine Ret.intro (.bool (sameP x y∧l.take ml = k.take mk)) [] [] rfl ?_ ⟨rfl,rfl⟩ rfl ?_ rfl ?_ rfl
  ·exact fc
  ·repeat' (first | (show AllP _;first | exact trivial | refine AllP.app ?_ ?_ | refine AllP.appd ?_ ?_ | refine AllP.cons ?_ ?_) | exact fd | fail)
   all_goals exact fun h=>e8 ⟨h.1.2.2.2.2.2.2.2.2.2.1,h.1.2.2.2.2.2.2.2.2.2.2.1⟩
  ·exact fc
 have e8:x.rk = y.rk∧x.rn = y.rn:=e8
 repeat (refine sd ?_)
 refine Branch.intro (fun e9=>?_) (fun e9=>?_)
 rotate_left
 ·have e9:¬ (x.fi = true ↔ y.fi = true):=e9
  repeat (refine sd ?_)
  refine Ret.intro (.bool (sameP x y∧l.take ml = k.take mk)) [] [] rfl ?_ ⟨rfl,rfl⟩ rfl ?_ rfl ?_ rfl
  ·exact fc
  ·repeat' (first | (show AllP _;first | exact trivial | refine AllP.app ?_ ?_ | refine AllP.appd ?_ ?_ | refine AllP.cons ?_ ?_) | exact fd | fail)
   all_goals exact fun h=>e9 (by rw [show x.fi = y.fi from h.1.2.2.2.2.2.2.2.2.2.2.2.1])
  ·exact fc
 have e9:x.fi = y.fi:=Bool.eq_iff_iff.2 e9
 repeat (refine sd ?_)
 refine Branch.intro (fun e10=>?_) (fun e10=>?_)
 rotate_left
 ·have e10:¬ x.ag = y.ag:=e10
  repeat (refine sd ?_)
  refine Ret.intro (.bool (sameP x y∧l.take ml = k.take mk)) [] [] rfl ?_ ⟨rfl,rfl⟩ rfl ?_ rfl ?_ rfl
  ·exact fc
  ·repeat' (first | (show AllP _;first | exact trivial | refine AllP.app ?_ ?_ | refine AllP.appd ?_ ?_ | refine AllP.cons ?_ ?_) | exact fd | fail)
   all_goals exact fun h=>e10 h.1.2.2.2.2.2.2.2.2.2.2.2.2.1
  ·exact fc
 have e10:x.ag = y.ag:=e10
 repeat (refine sd ?_)
 refine Branch.intro (fun e11=>?_) (fun e11=>?_)
 rotate_left
 ·have e11:¬ x.sg = y.sg:=e11
  repeat (refine sd ?_)
  refine Ret.intro (.bool (sameP x y∧l.take ml = k.take mk)) [] [] rfl ?_ ⟨rfl,rfl⟩ rfl ?_ rfl ?_ rfl
  ·exact fc
  ·repeat' (first | (show AllP _;first | exact trivial | refine AllP.app ?_ ?_ | refine AllP.appd ?_ ?_ | refine AllP.cons ?_ ?_) | exact fd | fail)
   all_goals exact fun h=>e11 h.1.2.2.2.2.2.2.2.2.2.2.2.2.2.1
  ·exact fc
 have e11:x.sg = y.sg:=e11
 repeat (refine sd ?_)
 refine Branch.intro (fun e12=>?_) (fun e12=>?_)
 rotate_left
 ·have e12:¬ x.ba = y.ba:=e12
  repeat (refine sd ?_)
  refine Ret.intro (.bool (sameP x y∧l.take ml = k.take mk)) [] [] rfl ?_ ⟨rfl,rfl⟩ rfl ?_ rfl ?_ rfl
  ·exact fc
  ·repeat' (first | (show AllP _;first | exact trivial | refine AllP.app ?_ ?_ | refine AllP.appd ?_ ?_ | refine AllP.cons ?_ ?_) | exact fd | fail)
   all_goals exact fun h=>e12 h.1.2.2.2.2.2.2.2.2.2.2.2.2.2.2.1
  ·exact fc
 have e12:x.ba = y.ba:=e12
 repeat (refine sd ?_)
 refine Branch.intro (fun e13=>?_) (fun e13=>?_)
 rotate_left
 ·have e13:¬ x.oc = y.oc:=e13
  repeat (refine sd ?_)
  refine Ret.intro (.bool (sameP x y∧l.take ml = k.take mk)) [] [] rfl ?_ ⟨rfl,rfl⟩ rfl ?_ rfl ?_ rfl
  ·exact fc
  ·repeat' (first | (show AllP _;first | exact trivial | refine AllP.app ?_ ?_ | refine AllP.appd ?_ ?_ | refine AllP.cons ?_ ?_) | exact fd | fail)
   all_goals exact fun h=>e13 h.1.2.2.2.2.2.2.2.2.2.2.2.2.2.2.2
  ·exact fc
 have e13:x.oc = y.oc:=e13
 repeat (refine sd ?_)
 refine Call.name [(2001,[]),(2002,[])] rfl fc (CallP.intro hS [(1003,(2001,0,none)),(1004,(2002,0,none))] rfl fc rfl ?_ rfl ?_)
 ·exact fc
 rintro v M' ⟨rfl,rfl⟩
 dsimp only [putT,afterM,newEnt,ren,renA,renS,renL,look,getM,getT,ev,evL,ofVal,cond_true,cond_false,Nat.beq_eq,act,isPar,ownPar,Ent.isOwn]
 repeat (refine sd ?_)
 refine Ret.intro (.bool (sameP x y∧l.take ml = k.take mk)) [] [] rfl ?_ ⟨rfl,rfl⟩ rfl ?_ rfl ?_ rfl
 ·exact fc
 ·repeat' (first | (show AllP _;first | exact trivial | refine AllP.app ?_ ?_ | refine AllP.appd ?_ ?_ | refine AllP.cons ?_ ?_) | exact fd | fail)
  all_goals exact ⟨fun h=>h.2,fun h=>⟨⟨e0,e1,e2,e3,e4.1,e4.2,e5,e6,e7,e8.1,e8.2,e9,e10,e11,e12,e13⟩,h⟩⟩
 ·exact fc
end Go.Proofs.YtpkllkbmoodniaaGreat
namespace Go.Proofs.YtpkllkbmoodniaaGreat
open Go Go.Sx
theorem fdG_app {x:Te}:∀ {T r:List Te} {i:Nat},fdT x T = i + 1→fdT x (T ++ r) = i + 1
 | [],_,_,h=>by simp [fdT] at h
 | y :: t,r,i,h=>by
  by_cases hy:y = x
  ·simp only [fdT,if_pos hy,List.cons_append] at h ⊢;exact h
  ·simp only [fdT,if_neg hy,List.cons_append] at h ⊢
   cases hf:fdT x t with
   | zero=>rw [hf] at h;cases h
   | succ j=>rw [hf] at h;rw [fdG_app hf];exact h
theorem fdG_getD {x:Te}:∀ {T:List Te} {i:Nat},fdT x T = i + 1→T.getD i te0 = x
 | [],_,h=>by simp [fdT] at h
 | y :: t,i,h=>by
  by_cases hy:y = x
  ·simp only [fdT,if_pos hy] at h
   obtain rfl:i = 0:=by omega
   exact hy
  ·simp only [fdT,if_neg hy] at h
   cases hf:fdT x t with
   | zero=>rw [hf] at h;cases h
   | succ j=>
    rw [hf] at h
    have h:j + 2 = i + 1:=h
    obtain rfl:i = j + 1:=by omega
    exact (fdG_getD hf:t.getD j te0 = x)
theorem fdG_new (x:Te):∀ {T:List Te},fdT x T = 0→fdT x (T ++ [x]) = T.length + 1
 | [],_=>by simp [fdT]
 | y :: t,h=>by
  by_cases hy:y = x
  ·simp only [fdT,if_pos hy] at h;cases h
  ·simp only [fdT,if_neg hy,List.cons_append] at h ⊢
   cases hf:fdT x t with
   | zero=>rw [fdG_new x hf];rfl
   | succ j=>rw [hf] at h;cases h
def Num (T:List Te) (x:Te) (o:Nat):Prop:=fdT x T = o∧o ≠ 0
def Ext (A B:List Te):Prop:=∀ y o,Num A y o→Num B y o
theorem Ext.refl (A:List Te):Ext A A:=fun _ _ h=>h
theorem Ext.trans {A B C:List Te} (h:Ext A B) (k:Ext B C):Ext A C:=fun y o n=>k y o (h y o n)
theorem mkT_num {T:List Te} {x:Te} (hV:Valid x.1 x.2):Num (mkT T x).1 x (mkT T x).2:=by
 cases hf:fdT x T with
 | zero=>rw [mkT_new hV hf];exact ⟨fdG_new x hf,by simp⟩
 | succ i=>rw [mkT_old hV hf];exact ⟨hf,by simp⟩
theorem Ext.mk (T:List Te) (x:Te):Ext T (mkT T x).1:=by
 rintro y o ⟨h,h0⟩
 obtain ⟨i,rfl⟩:∃ i,o = i + 1:=⟨o - 1,by omega⟩
 by_cases hV:Valid x.1 x.2
 ·cases hf:fdT x T with
  | zero=>rw [mkT_new hV hf];exact ⟨fdG_app h,h0⟩
  | succ j=>rw [mkT_old hV hf];exact ⟨h,h0⟩
 ·rw [mkT_no hV];exact ⟨h,h0⟩
theorem mkT_has {T:List Te} {x:Te} {o:Nat} (hV:Valid x.1 x.2) (h:Num T x o):mkT T x = (T,o):=by
 obtain ⟨h,h0⟩:=h
 obtain ⟨i,rfl⟩:∃ i,o = i + 1:=⟨o - 1,by omega⟩
 exact mkT_old hV h
theorem Num.getD {T:List Te} {x:Te} {o:Nat} (h:Num T x o):T.getD (o - 1) te0 = x∧o ≤ T.length∧1 ≤ o:=by
 obtain ⟨h,h0⟩:=h
 obtain ⟨i,rfl⟩:∃ i,o = i + 1:=⟨o - 1,by omega⟩
 exact ⟨fdG_getD h,by rw [← h];exact fdT_le x T,by omega⟩
theorem Num.one {T:List Te} {x:Te} {o p:Nat} (h:Num T x o) (k:Num T x p):o = p:=by rw [← h.1,← k.1]
theorem v1 {k:Int} (h1:1 ≤ k) (h8:k ≤ 8) {p:List UInt8} (hp:p.length ≤ 4096):Valid k [p]:=⟨joinsA hp,h1,h8⟩
theorem v8 {p q:List UInt8} (hp:p.length ≤ 1024) (hq:q.length ≤ 1024):Valid 8 [p,q]:=⟨joinsS hp hq,by decide,by decide⟩
theorem mk1_num (T:List Te) {k:Int} (h1:1 ≤ k) (h8:k ≤ 8) {p:List UInt8} (hp:p.length ≤ 4096):Num (mk1 T k p).1 (k,[p]) (mk1 T k p).2:=by rw [mk1_eq];exact mkT_num (x:=(k,_)) (v1 h1 h8 hp)
theorem mk1_ext (T:List Te) (k:Int) (p:List UInt8):Ext T (mk1 T k p).1:=by rw [mk1_eq];exact Ext.mk _ _
theorem mk1_has {T:List Te} {k:Int} (h1:1 ≤ k) (h8:k ≤ 8) {p:List UInt8} {o:Nat} (hp:p.length ≤ 4096) (h:Num T (k,[p]) o):mk1 T k p = (T,o):=by rw [mk1_eq];exact mkT_has (x:=(k,_)) (v1 h1 h8 hp) h
theorem mx8_num (T:List Te) {p q:List UInt8} (hp:p.length ≤ 1024) (hq:q.length ≤ 1024):Num (mx8 T p q).1 (8,[p,q]) (mx8 T p q).2:=by rw [mx8_eq];exact mkT_num (x:=(8,_)) (v8 hp hq)
theorem mx8_ext (T:List Te) (p q:List UInt8):Ext T (mx8 T p q).1:=by rw [mx8_eq];exact Ext.mk _ _
theorem numP_ky {z N:Nat} (h1:1 ≤ z) (h2:z ≤ N) (h3:N < 4294967296):numP (kyB z) N 0 = z:=by
 obtain ⟨i,rfl⟩:∃ i,z = i + 1:=⟨z - 1,by omega⟩
 exact numP_name h1 h2 h3
theorem opn_sealed {T:List Te} {key p:List UInt8} {o:Nat} (h:Num T (8,[key,p]) o) (hl:T.length < 4294967296) (hp:p.length ≤ 1024):opn T T.length key (sefB o p.length) = some p:=by
 obtain ⟨h1,h2,h3⟩:=h.getD
 have hq:numP ((sefB o p.length).take 32) T.length 0 = (o - 1) + 1:=by rw [sefB_take,numP_ky h3 h2 hl];omega
 rw [opn_yes hq,h1]
 ·rfl
 ·rw [h1]
  refine ⟨rfl,rfl,rfl,?_,?_⟩
  ·show sizS ((p.length:Nat):Int) = _
   rw [sizS_ok (by omega) (by omega),sefB_length];omega
  ·rw [sefB_length,sefB_eq,List.drop_left' (kyB_length o)]
   congr 1
end Go.Proofs.YtpkllkbmoodniaaGreat
namespace Go.Proofs.YtpkllkbmoodniaaGreat
open Go Go.Sx
theorem v7 (lab:UInt8) {p:List UInt8} (hp:p.length ≤ 1024):Valid 7 [[lab],p]:=valid7 (joins2 lab hp)
theorem v72 (lab:UInt8) {p q:List UInt8} (hp:p.length ≤ 1024) (hq:q.length ≤ 1024):Valid 7 [[lab],p,q]:=valid7 (joins3 lab hp hq)
theorem mx1_num (T:List Te) (lab:UInt8) {p:List UInt8} (hp:p.length ≤ 1024):Num (mx1 T lab p).1 (7,[[lab],p]) (mx1 T lab p).2:=by rw [mx1_eq];exact mkT_num (x:=(7,_)) (v7 lab hp)
theorem mx1_ext (T:List Te) (lab:UInt8) (p:List UInt8):Ext T (mx1 T lab p).1:=by rw [mx1_eq];exact Ext.mk _ _
theorem mx1_has {T:List Te} {lab:UInt8} {p:List UInt8} {o:Nat} (hp:p.length ≤ 1024) (h:Num T (7,[[lab],p]) o):mx1 T lab p = (T,o):=by rw [mx1_eq];exact mkT_has (x:=(7,_)) (v7 lab hp) h
theorem mx2_num (T:List Te) (lab:UInt8) {p q:List UInt8} (hp:p.length ≤ 1024) (hq:q.length ≤ 1024):Num (mx2 T lab p q).1 (7,[[lab],p,q]) (mx2 T lab p q).2:=by rw [mx2_eq];exact mkT_num (x:=(7,_)) (v72 lab hp hq)
theorem mx2_ext (T:List Te) (lab:UInt8) (p q:List UInt8):Ext T (mx2 T lab p q).1:=by rw [mx2_eq];exact Ext.mk _ _
theorem mx2_has {T:List Te} {lab:UInt8} {p q:List UInt8} {o:Nat} (hp:p.length ≤ 1024) (hq:q.length ≤ 1024) (h:Num T (7,[[lab],p,q]) o):mx2 T lab p q = (T,o):=by rw [mx2_eq];exact mkT_has (x:=(7,_)) (v72 lab hp hq) h
theorem nxT_ext (T:List Te) (key:List UInt8):Ext T (nxT T key):=by unfold nxT nxA;exact (mx1_ext _ _ _).trans (mx1_ext _ _ _)
theorem nxT_num (T:List Te) {key:List UInt8} (hk:key.length ≤ 1024):Num (nxT T key) (7,[[77],key]) (nxK T key)∧Num (nxT T key) (7,[[78],key]) (nxN T key):=by
 unfold nxT nxK nxN nxA
 exact ⟨mx1_ext _ _ _ _ _ (mx1_num T 77 hk),mx1_num _ 78 hk⟩
theorem nx_has {T:List Te} {key:List UInt8} (hk:key.length ≤ 1024) {a b:Nat} (h1:Num T (7,[[77],key]) a) (h2:Num T (7,[[78],key]) b):nxT T key = T∧nxK T key = a∧nxN T key = b:=by
 have e1:=mx1_has hk h1
 unfold nxT nxK nxN nxA
 rw [e1]
 have e2:=mx1_has hk h2
 rw [e2]
 exact ⟨rfl,rfl,rfl⟩
theorem nx_again {T0 T:List Te} {key:List UInt8} (hk:key.length ≤ 1024) (h:Ext (nxT T0 key) T):nxT T key = T∧nxK T key = nxK T0 key∧nxN T key = nxN T0 key:=by
 obtain ⟨h1,h2⟩:=nxT_num T0 hk
 exact nx_has hk (h _ _ h1) (h _ _ h2)
def K8 (T:List Te) (z:Nat):Prop:=∀ q,q < T.length→(T.getD q te0).1 = 8→q + 1 = z
theorem K8.mk {T:List Te} {z:Nat} (h:K8 T z) {x:Te} (hx:x.1 ≠ 8):K8 (mkT T x).1 z:=by
 by_cases hV:Valid x.1 x.2
 ·cases hf:fdT x T with
  | zero=>
   rw [mkT_new hV hf]
   intro q hq h8
   have hq:q < T.length + 1:=by simpa using hq
   rcases Nat.lt_or_ge q T.length with hl | hl
   ·rw [List.getD_eq_getElem?_getD,List.getElem?_append_left hl,← List.getD_eq_getElem?_getD] at h8
    exact h q hl h8
   ·obtain rfl:q = T.length:=by omega
    rw [List.getD_eq_getElem?_getD,List.getElem?_append_right (Nat.le_refl _),Nat.sub_self] at h8
    exact absurd h8 hx
  | succ i=>rw [mkT_old hV hf];exact h
 ·rw [mkT_no hV];exact h
theorem K8.new {T:List Te} (h:K8 T 0) {L:List (List UInt8)} (hV:Valid 8 L):K8 (mkT T (8,L)).1 (mkT T (8,L)).2:=by
 have hf:fdT (8,L) T = 0:=by
  cases hf:fdT (8,L) T with
  | zero=>rfl
  | succ i=>
   have h1:=fdG_getD hf
   have h2:=fdT_le (8,L) T
   have:=h i (by omega) (by rw [h1])
   omega
 rw [mkT_new hV hf]
 intro q hq h8
 have hq:q < T.length + 1:=by simpa using hq
 rcases Nat.lt_or_ge q T.length with hl | hl
 ·rw [List.getD_eq_getElem?_getD,List.getElem?_append_left hl,← List.getD_eq_getElem?_getD] at h8
  have:=h q hl h8
  omega
 ·show q + 1 = T.length + 1
  omega
end Go.Proofs.YtpkllkbmoodniaaGreat
