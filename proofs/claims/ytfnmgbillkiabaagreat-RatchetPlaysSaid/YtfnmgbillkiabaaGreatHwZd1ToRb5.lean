/- What the functions of the program compute. No condition. -/
import Derived.Test.YtfnmgbillkiabaaGreatHwZa6ToZa6
import Derived.Test.YtfnmgbillkiabaaGreatHwZa3ToRb0
set_option linter.unusedSimpArgs false
set_option linter.unusedVariables false
set_option maxRecDepth 100000
namespace Go.Proofs.YtfnmgbillkiabaaGreat
open Go Go.Sx
def ltL (f:Int) (h:Hd) (b:List UInt8) (nb:Nat) (t:List UInt8) (nt:Nat):List (Nat × SV):=[(1,.i .i64 f),(32,.a8 h.ss),(1,.bool (h.fi = true)),(32,.a8 h.ag),(32,.a8 h.sg),(32,.a8 h.ba),(1,.u16 h.id),(32,.a8 h.ra),(1,.u16 h.n),(1,.u16 h.pv),(1,.isl 0 nb 1 [(nb,.a8 b)]),(1,.isl 0 nt 1 [(nt,.a8 t)])]
def opL (e:UInt8) (o:Prop) (w:Int) (t:List UInt8) (nt:Nat) (a:Int) (y:UInt8):List (Nat × SV):=[(1,.u8 e),(1,.bool o),(1,.i .i64 w),(1,.isl 0 nt 1 [(nt,.a8 t)]),(1,.i .i64 a),(1,.u8 y)]
def spB (b:List UInt8) (a:Int) (y:UInt8):List UInt8:=if 0 <= a/\a < b.length then b.set a.toNat (b.getD a.toNat 0 ^^^ y) else b
theorem spB_length (b:List UInt8) (a:Int) (y:UInt8):(spB b a y).length = b.length:=by
 unfold spB;split
 ·exact List.length_set
 ·rfl
set_option maxHeartbeats 2000000 in
theorem fnSpoilt (f:Int) (h:Hd) (hh:h.OK) (b:List UInt8) (n:Nat) (hb:b.length = n) (hn0:0 < n) (hn:n <= 1000000) (t:List UInt8) (m:Nat) (ht:t.length = m) (e:UInt8) (o:Prop) (w:Int) (t2:List UInt8) (m2:Nat) (ht2:t2.length = m2) (a:Int) (y:UInt8) :
  Sx.Fn Γ.P 16 [.agg (ltL f h b n t m),.agg (opL e o w t2 m2 a y)] []
  (fun v M=>v = .isl 0 n 1 [(n,.a8 (spB b a y))]/\M = []):=by
 obtain ⟨h1,h2,h3,h4,h5⟩:=hh
 have hP:(n:Int) = (b.length:Int):=by rw [hb]
 have eE:dropQ 0 (List.replicate 0 (0:UInt8)) ++ List.take n (List.drop 0 b) = b:=by rw [List.drop_zero,List.take_of_length_le (by omega)];rfl
 unfold ltL opL
 refine fn_of (Γ:=Γ) (fn:=Tryz.f16) rfl rfl rfl rfl ?_
 repeat (refine sd ?_)
 refine fun c hc=>?_
 have hc:0 + n <= c:=hc
 repeat (refine sd ?_)
 refine zB.intro (fun ha=>?_) (fun ha=>?_)
 ·have ha:a ≥ 0:=ha
  repeat (refine sd ?_)
  refine zB.intro (fun hl=>?_) (fun hl=>?_)
  ·have hl:a < ((0 + n:Nat):Int):=hl
   rw [Nat.zero_add] at hl
   have e0:spB b a y = b.set a.toNat (b.getD a.toNat 0 ^^^ y):=by unfold spB;exact if_pos ⟨ha,by omega⟩
   repeat (refine sd ?_)
   refine Draw.intro [[],[],[1],[],[],[4],[3,4,5],[3,4,5,6],[],[8],[3,4,5,6,7,8,9],[0,1,2,3,4,5,6,7,8,9,10],[0,1,2,3,4,5,6,7,8,9,10,11]] [0,1,2,3,4,5,6,7,8,9,10,11,12] (by kernel_rfl) ?_
   repeat (first | (refine Grow.turn rfl rfl ?_) | (refine sd ?_))
   refine Ret.ghost [.keep 9] [(4,0)] rfl ?_ rfl (.isl 0 n 1 [(n,.a8 (spB b a y))]) [] [] rfl ?_ ⟨rfl,rfl⟩ rfl ?_ rfl ?_ rfl
   ·exact fc
   ·exact fc
   ·repeat' (first | (show zA _;first | exact trivial | refine zA.app ?_ ?_ | refine zA.zd ?_ ?_ | refine zA.cons ?_ ?_) | exact fd | fail)
    all_goals (rw [e0];show _ = (dropQ 0 (List.replicate 0 (0:UInt8)) ++ List.take n (List.drop 0 b)).set (addQ 0 a.toNat) ((dropQ 0 (List.replicate 0 (0:UInt8)) ++ List.take n (List.drop 0 b)).getD (addQ 0 a.toNat) 0 ^^^ y);rw [eE,zQ,Nat.zero_add])
   ·exact fc
  ·have hl:¬ a < ((0 + n:Nat):Int):=hl
   rw [Nat.zero_add] at hl
   have e0:spB b a y = b:=by unfold spB;exact if_neg (fun h=>hl (by rw [hP];exact h.2))
   repeat (refine sd ?_)
   refine Ret.ghost [.keep 9] [(4,0)] rfl ?_ rfl (.isl 0 n 1 [(n,.a8 (spB b a y))]) [] [] rfl ?_ ⟨rfl,rfl⟩ rfl ?_ rfl ?_ rfl
   ·exact fc
   ·exact fc
   ·repeat' (first | (show zA _;first | exact trivial | refine zA.app ?_ ?_ | refine zA.zd ?_ ?_ | refine zA.cons ?_ ?_) | exact fd | fail)
    all_goals (rw [e0];exact eE.symm)
   ·exact fc
 ·have ha:¬ a ≥ 0:=ha
  have e0:spB b a y = b:=by unfold spB;exact if_neg (fun h=>ha h.1)
  repeat (first | (refine zB.intro (fun _=>?_) (fun hn=>absurd rfl hn)) | (refine ky0 ?_) | (refine kn0 ?_) | (refine sd ?_))
  refine Ret.ghost [.keep 9] [(4,0)] rfl ?_ rfl (.isl 0 n 1 [(n,.a8 (spB b a y))]) [] [] rfl ?_ ⟨rfl,rfl⟩ rfl ?_ rfl ?_ rfl
  ·exact fc
  ·exact fc
  ·repeat' (first | (show zA _;first | exact trivial | refine zA.app ?_ ?_ | refine zA.zd ?_ ?_ | refine zA.cons ?_ ?_) | exact fd | fail)
   all_goals (rw [e0];exact eE.symm)
  ·exact fc
def sameP (x y:Se):Prop:=x.id = y.id/\x.root = y.root/\x.mine = y.mine/\x.hs = y.hs/\x.sk = y.sk/\x.sn = y.sn/\x.pv = y.pv/\x.th = y.th/\x.hr = y.hr/\x.rk = y.rk/\x.rn = y.rn/\x.fi = y.fi/\x.ag = y.ag/\x.sg = y.sg/\x.ba = y.ba/\x.oc = y.oc
set_option maxHeartbeats 4000000 in
theorem fn19 (x y:Se) (hx:x.OK) (hy:y.OK) (l k:List Kp) (Nl ml Nk mk:Nat) (hNl:l.length = Nl) (hml:ml <= Nl) (hNl1:Nl <= 1000000) (hlO:∀ x ∈ l,KpOK x) (hNk:k.length = Nk) (hmk:mk <= Nk) (hNk1:Nk <= 1000000) (hkO:∀ x ∈ k,KpOK x) :
  Sx.Fn Γ.P 19 [.agg (seL x (.isl 0 ml 65 [(Nl * 65,.arr Nl 65 (kpF l))])),.agg (seL y (.isl 0 mk 65 [(Nk * 65,.arr Nk 65 (kpF k))]))] []
  (fun v M=>v = .bool (sameP x y/\l.take ml = k.take mk)/\M = []):=by
 have hS:=fn50 l k Nl ml Nk mk hNl hml hNl1 hNk hmk hNk1 hlO hkO
 obtain ⟨h1,h2,h3,h4,h5,h6,h7,h8,h9,_⟩:=hx
 obtain ⟨g1,g2,g3,g4,g5,g6,g7,g8,g9,_⟩:=hy
 refine fn_of (Γ:=Γ) (fn:=Tryz.f19) rfl rfl rfl rfl ?_
 repeat (refine sd ?_)
 refine zB.intro (fun e0=>?_) (fun e0=>?_)
 rotate_left
 ·have e0:¬ x.id = y.id:=e0
  repeat (refine sd ?_)
  refine Ret.intro (.bool (sameP x y/\l.take ml = k.take mk)) [] [] rfl ?_ ⟨rfl,rfl⟩ rfl ?_ rfl ?_ rfl
  ·exact fc
  ·repeat' (first | (show zA _;first | exact trivial | refine zA.app ?_ ?_ | refine zA.zd ?_ ?_ | refine zA.cons ?_ ?_) | exact fd | fail)
   all_goals exact fun h=>e0 h.1.1
  ·exact fc
 have e0:x.id = y.id:=e0
 repeat (refine sd ?_)
 refine zB.intro (fun e1=>?_) (fun e1=>?_)
 rotate_left
 ·have e1:¬ x.root = y.root:=e1
  repeat (refine sd ?_)
  refine Ret.intro (.bool (sameP x y/\l.take ml = k.take mk)) [] [] rfl ?_ ⟨rfl,rfl⟩ rfl ?_ rfl ?_ rfl
  ·exact fc
  ·repeat' (first | (show zA _;first | exact trivial | refine zA.app ?_ ?_ | refine zA.zd ?_ ?_ | refine zA.cons ?_ ?_) | exact fd | fail)
   all_goals exact fun h=>e1 h.1.2.1
  ·exact fc
 have e1:x.root = y.root:=e1
 repeat (refine sd ?_)
 refine zB.intro (fun e2=>?_) (fun e2=>?_)
 rotate_left
 ·have e2:¬ x.mine = y.mine:=e2
  repeat (refine sd ?_)
  refine Ret.intro (.bool (sameP x y/\l.take ml = k.take mk)) [] [] rfl ?_ ⟨rfl,rfl⟩ rfl ?_ rfl ?_ rfl
  ·exact fc
  ·repeat' (first | (show zA _;first | exact trivial | refine zA.app ?_ ?_ | refine zA.zd ?_ ?_ | refine zA.cons ?_ ?_) | exact fd | fail)
   all_goals exact fun h=>e2 h.1.2.2.1
  ·exact fc
 have e2:x.mine = y.mine:=e2
 repeat (refine sd ?_)
 refine zB.intro (fun e3=>?_) (fun e3=>?_)
 rotate_left
 ·have e3:¬ (x.hs = true ↔ y.hs = true):=e3
  repeat (refine sd ?_)
  refine Ret.intro (.bool (sameP x y/\l.take ml = k.take mk)) [] [] rfl ?_ ⟨rfl,rfl⟩ rfl ?_ rfl ?_ rfl
  ·exact fc
  ·repeat' (first | (show zA _;first | exact trivial | refine zA.app ?_ ?_ | refine zA.zd ?_ ?_ | refine zA.cons ?_ ?_) | exact fd | fail)
   all_goals exact fun h=>e3 (by rw [show x.hs = y.hs from h.1.2.2.2.1])
  ·exact fc
 have e3:x.hs = y.hs:=Bool.eq_iff_iff.2 e3
 repeat (refine sd ?_)
 refine zB.intro (fun e4=>?_) (fun e4=>?_)
 rotate_left
 ·have e4:¬ (x.sk = y.sk/\x.sn = y.sn):=e4
  repeat (refine sd ?_)
  refine Ret.intro (.bool (sameP x y/\l.take ml = k.take mk)) [] [] rfl ?_ ⟨rfl,rfl⟩ rfl ?_ rfl ?_ rfl
  ·exact fc
  ·repeat' (first | (show zA _;first | exact trivial | refine zA.app ?_ ?_ | refine zA.zd ?_ ?_ | refine zA.cons ?_ ?_) | exact fd | fail)
   all_goals exact fun h=>e4 ⟨h.1.2.2.2.2.1,h.1.2.2.2.2.2.1⟩
  ·exact fc
 have e4:x.sk = y.sk/\x.sn = y.sn:=e4
 repeat (refine sd ?_)
 refine zB.intro (fun e5=>?_) (fun e5=>?_)
 rotate_left
 ·have e5:¬ x.pv = y.pv:=e5
  repeat (refine sd ?_)
  refine Ret.intro (.bool (sameP x y/\l.take ml = k.take mk)) [] [] rfl ?_ ⟨rfl,rfl⟩ rfl ?_ rfl ?_ rfl
  ·exact fc
  ·repeat' (first | (show zA _;first | exact trivial | refine zA.app ?_ ?_ | refine zA.zd ?_ ?_ | refine zA.cons ?_ ?_) | exact fd | fail)
   all_goals exact fun h=>e5 h.1.2.2.2.2.2.2.1
  ·exact fc
 have e5:x.pv = y.pv:=e5
 repeat (refine sd ?_)
 refine zB.intro (fun e6=>?_) (fun e6=>?_)
 rotate_left
 ·have e6:¬ x.th = y.th:=e6
  repeat (refine sd ?_)
  refine Ret.intro (.bool (sameP x y/\l.take ml = k.take mk)) [] [] rfl ?_ ⟨rfl,rfl⟩ rfl ?_ rfl ?_ rfl
  ·exact fc
  ·repeat' (first | (show zA _;first | exact trivial | refine zA.app ?_ ?_ | refine zA.zd ?_ ?_ | refine zA.cons ?_ ?_) | exact fd | fail)
   all_goals exact fun h=>e6 h.1.2.2.2.2.2.2.2.1
  ·exact fc
 have e6:x.th = y.th:=e6
 repeat (refine sd ?_)
 refine zB.intro (fun e7=>?_) (fun e7=>?_)
 rotate_left
 ·have e7:¬ (x.hr = true ↔ y.hr = true):=e7
  repeat (refine sd ?_)
  refine Ret.intro (.bool (sameP x y/\l.take ml = k.take mk)) [] [] rfl ?_ ⟨rfl,rfl⟩ rfl ?_ rfl ?_ rfl
  ·exact fc
  ·repeat' (first | (show zA _;first | exact trivial | refine zA.app ?_ ?_ | refine zA.zd ?_ ?_ | refine zA.cons ?_ ?_) | exact fd | fail)
   all_goals exact fun h=>e7 (by rw [show x.hr = y.hr from h.1.2.2.2.2.2.2.2.2.1])
  ·exact fc
 have e7:x.hr = y.hr:=Bool.eq_iff_iff.2 e7
 repeat (refine sd ?_)
 refine zB.intro (fun e8=>?_) (fun e8=>?_)
 rotate_left
 ·have e8:¬ (x.rk = y.rk/\x.rn = y.rn):=e8
  repeat (refine sd ?_)
  refine Ret.intro (.bool (sameP x y/\l.take ml = k.take mk)) [] [] rfl ?_ ⟨rfl,rfl⟩ rfl ?_ rfl ?_ rfl
  ·exact fc
  ·repeat' (first | (show zA _;first | exact trivial | refine zA.app ?_ ?_ | refine zA.zd ?_ ?_ | refine zA.cons ?_ ?_) | exact fd | fail)
   all_goals exact fun h=>e8 ⟨h.1.2.2.2.2.2.2.2.2.2.1,h.1.2.2.2.2.2.2.2.2.2.2.1⟩
  ·exact fc
 have e8:x.rk = y.rk/\x.rn = y.rn:=e8
 repeat (refine sd ?_)
 refine zB.intro (fun e9=>?_) (fun e9=>?_)
 rotate_left
 ·have e9:¬ (x.fi = true ↔ y.fi = true):=e9
  repeat (refine sd ?_)
  refine Ret.intro (.bool (sameP x y/\l.take ml = k.take mk)) [] [] rfl ?_ ⟨rfl,rfl⟩ rfl ?_ rfl ?_ rfl
  ·exact fc
  ·repeat' (first | (show zA _;first | exact trivial | refine zA.app ?_ ?_ | refine zA.zd ?_ ?_ | refine zA.cons ?_ ?_) | exact fd | fail)
   all_goals exact fun h=>e9 (by rw [show x.fi = y.fi from h.1.2.2.2.2.2.2.2.2.2.2.2.1])
  ·exact fc
 have e9:x.fi = y.fi:=Bool.eq_iff_iff.2 e9
 repeat (refine sd ?_)
 refine zB.intro (fun e10=>?_) (fun e10=>?_)
 rotate_left
 ·have e10:¬ x.ag = y.ag:=e10
  repeat (refine sd ?_)
  refine Ret.intro (.bool (sameP x y/\l.take ml = k.take mk)) [] [] rfl ?_ ⟨rfl,rfl⟩ rfl ?_ rfl ?_ rfl
  ·exact fc
  ·repeat' (first | (show zA _;first | exact trivial | refine zA.app ?_ ?_ | refine zA.zd ?_ ?_ | refine zA.cons ?_ ?_) | exact fd | fail)
   all_goals exact fun h=>e10 h.1.2.2.2.2.2.2.2.2.2.2.2.2.1
  ·exact fc
 have e10:x.ag = y.ag:=e10
 repeat (refine sd ?_)
 refine zB.intro (fun e11=>?_) (fun e11=>?_)
 rotate_left
 ·have e11:¬ x.sg = y.sg:=e11
  repeat (refine sd ?_)
  refine Ret.intro (.bool (sameP x y/\l.take ml = k.take mk)) [] [] rfl ?_ ⟨rfl,rfl⟩ rfl ?_ rfl ?_ rfl
  ·exact fc
  ·repeat' (first | (show zA _;first | exact trivial | refine zA.app ?_ ?_ | refine zA.zd ?_ ?_ | refine zA.cons ?_ ?_) | exact fd | fail)
   all_goals exact fun h=>e11 h.1.2.2.2.2.2.2.2.2.2.2.2.2.2.1
  ·exact fc
 have e11:x.sg = y.sg:=e11
 repeat (refine sd ?_)
 refine zB.intro (fun e12=>?_) (fun e12=>?_)
 rotate_left
 ·have e12:¬ x.ba = y.ba:=e12
  repeat (refine sd ?_)
  refine Ret.intro (.bool (sameP x y/\l.take ml = k.take mk)) [] [] rfl ?_ ⟨rfl,rfl⟩ rfl ?_ rfl ?_ rfl
  ·exact fc
  ·repeat' (first | (show zA _;first | exact trivial | refine zA.app ?_ ?_ | refine zA.zd ?_ ?_ | refine zA.cons ?_ ?_) | exact fd | fail)
   all_goals exact fun h=>e12 h.1.2.2.2.2.2.2.2.2.2.2.2.2.2.2.1
  ·exact fc
 have e12:x.ba = y.ba:=e12
 repeat (refine sd ?_)
 refine zB.intro (fun e13=>?_) (fun e13=>?_)
 rotate_left
 ·have e13:¬ x.oc = y.oc:=e13
  repeat (refine sd ?_)
  refine Ret.intro (.bool (sameP x y/\l.take ml = k.take mk)) [] [] rfl ?_ ⟨rfl,rfl⟩ rfl ?_ rfl ?_ rfl
  ·exact fc
  ·repeat' (first | (show zA _;first | exact trivial | refine zA.app ?_ ?_ | refine zA.zd ?_ ?_ | refine zA.cons ?_ ?_) | exact fd | fail)
   all_goals exact fun h=>e13 h.1.2.2.2.2.2.2.2.2.2.2.2.2.2.2.2
  ·exact fc
 have e13:x.oc = y.oc:=e13
 repeat (refine sd ?_)
 refine Call.name [(2001,[]),(2002,[])] rfl fc (CallP.intro hS [(1003,(2001,0,none)),(1004,(2002,0,none))] rfl fc rfl ?_ rfl ?_)
 ·exact fc
 rintro v M' ⟨rfl,rfl⟩
 dsimp only [zt,zM,zE,ren,zz,zx,zy,look,zG,zX,ev,evL,zV,zcT,zcF,act,zP,zO,Ent.zW]
 repeat (refine sd ?_)
 refine Ret.intro (.bool (sameP x y/\l.take ml = k.take mk)) [] [] rfl ?_ ⟨rfl,rfl⟩ rfl ?_ rfl ?_ rfl
 ·exact fc
 ·repeat' (first | (show zA _;first | exact trivial | refine zA.app ?_ ?_ | refine zA.zd ?_ ?_ | refine zA.cons ?_ ?_) | exact fd | fail)
  all_goals exact ⟨fun h=>h.2,fun h=>⟨⟨e0,e1,e2,e3,e4.1,e4.2,e5,e6,e7,e8.1,e8.2,e9,e10,e11,e12,e13⟩,h⟩⟩
 ·exact fc
end Go.Proofs.YtfnmgbillkiabaaGreat
