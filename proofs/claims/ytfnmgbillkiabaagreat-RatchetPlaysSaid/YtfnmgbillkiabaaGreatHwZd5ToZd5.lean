/- What the functions of the program compute. No condition. -/
import Derived.Test.YtfnmgbillkiabaaGreatHwZd3ToZd3
import Derived.Test.YtfnmgbillkiabaaGreatHwZd8ToZd7
import Derived.Test.YtfnmgbillkiabaaGreatHwZd4ToZd4
import Derived.Test.YtfnmgbillkiabaaGreatHwZd9ToZd9
import Derived.Test.YtfnmgbillkiabaaGreatHx7
set_option linter.unusedSimpArgs false
set_option linter.unusedVariables false
set_option maxRecDepth 100000
namespace Go.Proofs.YtfnmgbillkiabaaGreat
open Go Go.Sx
theorem fnRFreeP:Sx.Fn Γ.P 8 [] [] (fun v M=>v = .agg [(1,.ptr 1000 0 none)]/\M = rbM 0 0 [] 1001):=by
 refine fn_of (Γ:=Γ) (fn:=Tryz.f8) rfl rfl rfl rfl ?_
 repeat (refine sd ?_)
 refine Ret.ghost [.own 401 [(0,.arr 0 2 (rtF []))],.leaf 2 0 401] [] rfl ⟨rfl,rfl,trivial⟩ rfl (.agg [(1,.ptr 1000 0 none)]) (rbM 0 0 [] 1001) [(1000,(2,0,none)),(1001,(401,0,none))] rfl ?_ ⟨rfl,rfl⟩ rfl ?_ rfl ?_ rfl
 ·exact fc
 ·exact fc
 ·exact fc
theorem PlI.step {i:Nat} {s:Pl} (h:PlI i s):PlI (i + 1) s:=⟨h.T,h.c,h.d,by have:=h.b;omega,h.v,h.e0.mono (by omega),h.e1.mono (by omega),h.S,h.cs,by have:=h.ns;omega,h.so⟩
set_option maxHeartbeats 8000000 in
theorem fn3 (ops:List Opr) (N:Nat) (hN:ops.length = N) (hNm:N <= maxLen) (hOp:∀ p ∈ ops,p.t.length <= maxLen) :
  Sx.Fn Γ.P 3 [.isl 0 N 6 [(N * 6,.arr N 6 (opF ops))]] [] (fun v _=>v = .tt):=by
 have hmx:maxLen = 9223372036854775807:=by decide
 obtain ⟨id,hid⟩:∃ l:List UInt8,l = UInt8.ofNat 1 :: List.replicate 31 0:=⟨_,rfl⟩
 obtain ⟨sh,hsh⟩:∃ l:List UInt8,l = UInt8.ofNat 2 :: List.replicate 31 0:=⟨_,rfl⟩
 obtain ⟨dr,hdr⟩:∃ l:List UInt8,l = UInt8.ofNat 3 :: List.replicate 31 0:=⟨_,rfl⟩
 obtain ⟨ag,hag⟩:∃ l:List UInt8,l = UInt8.ofNat 7 :: List.replicate 31 0:=⟨_,rfl⟩
 have hidl:id.length = 32:=by rw [hid];rfl
 have hshl:sh.length = 32:=by rw [hsh];rfl
 have hdrl:dr.length = 32:=by rw [hdr];rfl
 have hagl:ag.length = 32:=by rw [hag];rfl
 have hfr:=fnFreeT
 unfold tbM at hfr
 have hrr:=fnRFreeP
 unfold rbM at hrr
 obtain ⟨bv,bl,bo⟩:=beg_info (sh:=sh) (dr:=dr) tb0_valid hidl
 have hBe:=fn9 [] 0 0 rfl (by omega) (Nat.le_refl 0) tb0_valid id sh dr hidl hshl hdrl
 have hBr:=fn10 [] 0 0 rfl (by omega) (Nat.le_refl 0) tb0_valid id sh dr hidl hshl hdrl
 have hxk:(begS [] id sh dr).kp = []:=rfl
 obtain ⟨A,hA⟩:∃ A,(begC [] sh dr).1 = A:=⟨_,rfl⟩
 obtain ⟨x,hx⟩:∃ x,begS [] id sh dr = x:=⟨_,rfl⟩
 rw [hx] at hBe hBr hxk bo
 rw [hA] at hBe hBr bv bl
 have bl:A.length <= 3:=bl
 obtain ⟨P,hP⟩:∃ P,(mk1 A 2 x.mine).1 = P:=⟨_,rfl⟩
 obtain ⟨oP,hoP⟩:∃ o,(mk1 A 2 x.mine).2 = o:=⟨_,rfl⟩
 have hPv:∀ y ∈ P,Valid y.1 y.2:=by rw [<- hP];exact mk1_valid bv _ _
 have hPl:P.length <= A.length + 1:=by rw [<- hP];exact (mk1_len A _ _).2
 have hoPl:=zk oP
 have hyo:=joi_ok P (sh:=sh) hidl hoPl
 have hyk:(joiS P id sh (kyB oP)).kp = []:=rfl
 have hB1:∀ y ∈ (begA P sh).1,Valid y.1 y.2:=by rw [begA_eq];exact mx1_valid hPv _ _
 have hB2:∀ y ∈ (begB P sh).1,Valid y.1 y.2:=by rw [begB_eq];exact mx1_valid hB1 _ _
 have hB3:(begA P sh).1.length <= P.length + 1:=by rw [begA_eq];exact (mx1_len P _ _).2
 have hB4:(begB P sh).1.length <= (begA P sh).1.length + 1:=by rw [begB_eq];exact (mx1_len _ _ _).2
 obtain ⟨P',hP'⟩:∃ P',(begB P sh).1 = P':=⟨_,rfl⟩
 obtain ⟨y,hy⟩:∃ y,joiS P id sh (kyB oP) = y:=⟨_,rfl⟩
 rw [hy] at hyo hyk
 rw [hP'] at hB2 hB4
 obtain ⟨x1,hx1⟩:∃ x1:Se,x1 = { x with fi:=true,ag:=ag,oc:=9 }:=⟨_,rfl⟩
 have hx1o:x1.OK:=by rw [hx1];exact ⟨bo.id,bo.root,bo.mine,bo.sk,bo.th,bo.rk,hagl,bo.sg,bo.ba,bo.kp⟩
 have hx1k:x1.kp = []:=by rw [hx1];exact hxk
 obtain ⟨q1,q2,q3,q4,q5,q6,q7,q8,q9,_⟩:=bo
 have hyo':=hyo
 obtain ⟨r1,r2,r3,r4,r5,r6,r7,r8,r9,_⟩:=hyo'
 unfold tbM seL at hBe
 unfold rbM seL at hBr
 refine fn_cut [18,20,23,29,30,37] (Γ:=Γ) (fn:=Tryz.f3) rfl rfl rfl rfl ?_
 repeat (refine sd ?_)
 refine Call.intro fn6 [] rfl trivial rfl trivial rfl ?_
 rintro v M' rfl
 dsimp only [zt,zM,zE,ren,zz,zx,zy,look,zG,zX,ev,evL,zV,zcT,zcF,act,zP,zO,Ent.zW]
 repeat (refine sd ?_)
 refine Call.intro hfr [(1000,(1000,0,none)),(1001,(1001,0,none)),(1002,(1002,0,none))] rfl ?_ rfl ?_ rfl ?_
 ·exact fc
 ·exact fc
 rintro v M' ⟨rfl,rfl⟩
 dsimp only [zt,zM,zE,ren,zz,zx,zy,look,zG,zX,ev,evL,zV,zcT,zcF,act,zP,zO,Ent.zW]
 repeat (refine sd ?_)
 refine Call.intro hrr [(1000,(1100,0,none)),(1001,(1101,0,none))] rfl ?_ rfl ?_ rfl ?_
 ·exact fc
 ·exact fc
 rintro v M' ⟨rfl,rfl⟩
 dsimp only [zt,zM,zE,ren,zz,zx,zy,look,zG,zX,ev,evL,zV,zcT,zcF,act,zP,zO,Ent.zW]
 repeat (refine sd ?_)
 refine Call.intro hBe [(1000,(1000,0,none)),(1001,(1001,0,none)),(1002,(1002,0,none)),(1005,(305,0,none))] rfl ?_ rfl ?_ rfl ?_
 ·exact fc
 ·exact fc
 rintro v M' ⟨n1,c1,hn1,hc1,rfl,rfl⟩
 dsimp only [zt,zM,zE,ren,zz,zx,zy,look,zG,zX,ev,evL,zV,zcT,zcF,act,zP,zO,Ent.zW]
 repeat (refine sd ?_)
 refine Call.intro hBr [(1000,(1100,0,none)),(1001,(1101,0,none)),(1005,(405,0,none))] rfl ?_ rfl ?_ rfl ?_
 ·exact fc
 ·exact fc
 rintro v M' ⟨n1',d1,hn1',hd1,rfl,rfl⟩
 obtain rfl:n1 = n1':=hn1.symm.trans hn1'
 dsimp only [zt,zM,zE,ren,zz,zx,zy,look,zG,zX,ev,evL,zV,zcT,zcF,act,zP,zO,Ent.zW]
 repeat (refine sd ?_)
 have hPu:=fnPublicF A n1 c1 hn1 (by omega) hc1 bv x.mine q3 P oP hP hoP
 unfold tbM at hPu
 have hPr:=fnRPublicF A n1 d1 hn1 (by omega) hd1 bv x.mine q3 P oP hP hoP
 unfold rbM at hPr
 refine Draw.intro [[],[],[],[],[],[4],[4,5],[3,4,5,6],[0,1,2,3,4,5,6,7],[0,1,2,3,4,5,6,7,8],[0,1,2,3,4,5,6,7,8,9]] [0,1,2,3,4,5,6,7,8,9,10] (by kernel_rfl) ?_
 repeat (first | (refine Grow.turn rfl rfl ?_) | (refine sdn ?_))
 refine Call.intro hPu [(1000,(1000,0,none)),(1001,(305,0,none)),(1002,(1002,0,none)),(1005,(306,0,none))] rfl ?_ rfl ?_ rfl ?_
 ·exact fc
 ·exact fc
 rintro v M' ⟨n2,c2,hn2,hc2,rfl,rfl⟩
 dsimp only [zt,zM,zE,ren,zz,zx,zy,look,zG,zX,ev,evL,zV,zcT,zcF,act,zP,zO,Ent.zW]
 repeat (first | (refine Grow.turn rfl rfl ?_) | (refine sdn ?_))
 have hJo:=fn11 P n2 c2 hn2 (by omega) hc2 hPv id sh (kyB oP) hidl hshl hoPl
 rw [hP',hy] at hJo
 unfold tbM seL at hJo
 refine Call.intro hJo [(1000,(1000,0,none)),(1001,(306,0,none)),(1002,(1002,0,none)),(1005,(307,0,none))] rfl ?_ rfl ?_ rfl ?_
 ·exact fc
 ·exact fc
 rintro v M' ⟨n3,c3,hn3,hc3,rfl,rfl⟩
 dsimp only [zt,zM,zE,ren,zz,zx,zy,look,zG,zX,ev,evL,zV,zcT,zcF,act,zP,zO,Ent.zW]
 repeat (first | (refine Grow.turn rfl rfl ?_) | (refine sdn ?_))
 refine Draw.intro [[],[],[],[],[],[4],[4,5],[3,4,5,6],[0,1,2,3,4,5,6,7],[0,1,2,3,4,5,6,7,8],[0,1,2,3,4,5,6,7,8,9]] [0,1,2,3,4,5,6,7,8,9,10] (by kernel_rfl) ?_
 repeat (first | (refine Grow.turn rfl rfl ?_) | (refine sdn ?_))
 refine Call.intro hPr [(1000,(1100,0,none)),(1001,(405,0,none)),(1005,(406,0,none))] rfl ?_ rfl ?_ rfl ?_
 ·exact fc
 ·exact fc
 rintro v M' ⟨n2',d2,hn2',hd2,rfl,rfl⟩
 obtain rfl:n2 = n2':=hn2.symm.trans hn2'
 dsimp only [zt,zM,zE,ren,zz,zx,zy,look,zG,zX,ev,evL,zV,zcT,zcF,act,zP,zO,Ent.zW]
 repeat (first | (refine Grow.turn rfl rfl ?_) | (refine sdn ?_))
 have hJr:=fn13 P n2 d2 hn2 (by omega) hd2 hPv id sh (kyB oP) hidl hshl hoPl
 rw [hP',hy] at hJr
 unfold rbM seL at hJr
 refine Call.intro hJr [(1000,(1100,0,none)),(1001,(406,0,none)),(1005,(407,0,none))] rfl ?_ rfl ?_ rfl ?_
 ·exact fc
 ·exact fc
 rintro v M' ⟨n3',d3,hn3',hd3,rfl,rfl⟩
 obtain rfl:n3 = n3':=hn3.symm.trans hn3'
 dsimp only [zt,zM,zE,ren,zz,zx,zy,look,zG,zX,ev,evL,zV,zcT,zcF,act,zP,zO,Ent.zW]
 repeat (first | (refine Grow.turn rfl rfl ?_) | (refine sdn ?_))
 have hnil:∀ k ∈ ([]:List Kp),KpOK k:=fun k h=>by cases h
 refine Loop.intro (σ:=Nat × Pl) (fun s=>PlI s.1 s.2/\s.1 <= N) (fun s=>([(0,.isl 0 N 6 [(N * 6,.arr N 6 (opF ops))]),(3,.ptr 203 0 none),(4,.ptr 204 0 none),(5,.ptr 205 0 none),(6,.ptr 206 0 none),(7,.sl 207 0 0 s.2.ns s.2.cs),(8,.i .i64 ((s.1:Nat):Int))],[(203,.mem true 0 [(1,.ptr 1000 0 none)]),(204,.mem true 0 [(1,.ptr 1100 0 none)]),(205,.mem true 0 (s.2.e0.pL ++ s.2.e1.pL)),(206,.mem true 0 (s.2.e0.rL ++ s.2.e1.rL)),(207,.mem true (zmE (s.2.cs - s.2.ns) 167) [(s.2.ns * 167,.arr s.2.ns 167 (ltF s.2.S))]),(1000,.mem true 0 [(1,.sl 221 0 0 s.2.n s.2.c),(1,.mp 1002)]),(221,.mem true (zmE (s.2.c - s.2.n) 3) [(s.2.n * 3,.arr s.2.n 3 (ttF s.2.T))]),(1002,.map (.si (mpL s.2.T))),(1100,.mem true 0 [(1,.sl 222 0 0 s.2.n s.2.d)]),(222,.mem true (zmE (s.2.d - s.2.n) 2) [(s.2.n * 2,.arr s.2.n 2 (rtF s.2.T))])])) (fun s=>N - s.1)
  (0,(⟨P',n3,c3,d3,⟨x1,[],0,0,[],0,0⟩,⟨y,[],0,0,[],0,0⟩,[],0,0⟩:Pl)) ⟨⟨hn3,hc3,hd3,by show n3 <= _;omega,hB2,⟨hx1o,rfl,Nat.le_refl 0,by show 0 <= _;omega,hnil,hx1k,rfl,Nat.le_refl 0,by show 0 <= _;omega,hnil,hx1k⟩,⟨hyo,rfl,Nat.le_refl 0,by show 0 <= _;omega,hnil,hyk,rfl,Nat.le_refl 0,by show 0 <= _;omega,hnil,hyk⟩,rfl,Nat.le_refl 0,Nat.le_refl 0,fun x h=>by cases h⟩,Nat.zero_le _⟩ ?_ ?_
 ·refine Le.ghost [.own 207 [(0 * 167,.arr 0 167 (ltF []))]] [(7,207)] [(203,(3,0,none)),(204,(4,0,none)),(205,(5,0,none)),(206,(6,0,none)),(221,(307,0,none)),(222,(407,0,none))] rfl ⟨rfl,rfl,trivial⟩ rfl rfl ?_ rfl ?_ rfl
  ·repeat' (first | (show zA _;first | exact trivial | refine zA.app ?_ ?_ | refine zA.zd ?_ ?_ | refine zA.cons ?_ ?_) | exact fd | fail)
   all_goals first | (show x1.oc = _;rw [hx1];rfl) | (show x1.oc = _;rw [hx1]) | trace_state
  ·repeat' (first | (show zA _;first | exact trivial | refine zA.app ?_ ?_ | refine zA.zd ?_ ?_ | refine zA.cons ?_ ?_) | exact fd | fail)
   all_goals first | (show x1.oc = _;rw [hx1];rfl) | (show x1.oc = _;rw [hx1]) | trace_state
 rintro ⟨i,s⟩ ⟨hI,hiN⟩
 have hI:PlI i s:=hI
 have hiN:i <= N:=hiN
 have hI':=hI
 obtain ⟨i1,i2,i3,i4,i5,i6,i7,i8,i9,i10,i11⟩:=hI'
 obtain ⟨⟨h1,h2,h3,h4,h5,h6,h7,h8,h9,_⟩,_⟩:=i6
 obtain ⟨⟨k1,k2,k3,k4,k5,k6,k7,k8,k9,_⟩,_⟩:=i7
 repeat (refine sd ?_)
 refine zB.intro (fun hq=>?_) (fun hq=>?_)
 rotate_left
 ·repeat (first | (refine zB.intro (fun _=>?_) (fun hn=>absurd rfl hn)) | (refine ky0 ?_) | (refine kn0 ?_) | (refine sd ?_))
  refine Ret.intro .tt [] [] rfl ?_ rfl rfl ?_ rfl ?_ rfl
  ·exact fc
  ·exact fc
  ·exact fc
 have hq:(i:Int) < (N:Int):=hq
 repeat (refine sd ?_)
 refine zB.intro (fun hq2=>?_) (fun hq2=>?_)
 rotate_left
 ·repeat (first | (refine zB.intro (fun _=>?_) (fun hn=>absurd rfl hn)) | (refine ky0 ?_) | (refine kn0 ?_) | (refine sd ?_))
  refine Ret.intro .tt [] [] rfl ?_ rfl rfl ?_ rfl ?_ rfl
  ·exact fc
  ·exact fc
  ·exact fc
 have hq2:(i:Int) < 40:=hq2
 have hi2:i < N/\i < 40:=by omega
 obtain ⟨hi,hi40⟩:=hi2
 obtain ⟨p,hp⟩:∃ p,ops.getD i op0 = p:=⟨_,rfl⟩
 have hpt:p.t.length <= 9223372036854775807:=hmx ▸ hOp p (by rw [<- hp,List.getD_eq_getElem?_getD,List.getElem?_eq_getElem (by omega)];exact List.getElem_mem _)
 have eI:addQ 0 ((i:Nat):Int).toNat = i:=by rw [zQ,Nat.zero_add,zIn]
 have hz2:UInt8.ofNat 2 ≠ 0:=by decide
 repeat (refine sd ?_)
 have hmod:p.e % 2 = 0 \/ p.e % 2 = 1:=by
  have h:(p.e % 2).toNat < 2:=by rw [UInt8.toNat_mod];exact Nat.mod_lt _ (by decide)
  rcases Nat.lt_or_ge (p.e % 2).toNat 1 with h0 | h0
  ·exact Or.inl (UInt8.toNat_inj.1 (by show _ = 0;omega))
  ·exact Or.inr (UInt8.toNat_inj.1 (by show _ = 1;omega))
 rcases hmod with hk | hk
 ·have hk:p.e % 2 = 0:=hk
  refine Cut.intro (σ:=Unit) (fun _=>True) (fun _=>([(0,.isl 0 N 6 [(N * 6,.arr N 6 (opF ops))]),(3,.ptr 203 0 none),(4,.ptr 204 0 none),(5,.ptr 205 0 none),(6,.ptr 206 0 none),(7,.sl 207 0 0 s.ns s.cs),(8,.i .i64 ((i:Nat):Int)),(9,.i .i64 0)],[(203,.mem true 0 [(1,.ptr 1000 0 none)]),(204,.mem true 0 [(1,.ptr 1100 0 none)]),(205,.mem true 0 (s.e0.pL ++ s.e1.pL)),(206,.mem true 0 (s.e0.rL ++ s.e1.rL)),(207,.mem true (zmE (s.cs - s.ns) 167) [(s.ns * 167,.arr s.ns 167 (ltF s.S))]),(1000,.mem true 0 [(1,.sl 221 0 0 s.n s.c),(1,.mp 1002)]),(221,.mem true (zmE (s.c - s.n) 3) [(s.n * 3,.arr s.n 3 (ttF s.T))]),(1002,.map (.si (mpL s.T))),(1100,.mem true 0 [(1,.sl 222 0 0 s.n s.d)]),(222,.mem true (zmE (s.d - s.n) 2) [(s.n * 2,.arr s.n 2 (rtF s.T))])])) () trivial (Le.intro [(203,(203,0,none)),(204,(204,0,none)),(205,(205,0,none)),(206,(206,0,none)),(207,(207,0,none)),(221,(221,0,none)),(222,(222,0,none))] rfl ?_ rfl ?_ rfl) ?_
  ·repeat' (first | (show zA _;first | exact trivial | refine zA.app ?_ ?_ | refine zA.zd ?_ ?_ | refine zA.cons ?_ ?_) | exact fd | fail)
   all_goals first | (show (0:Int) = (((ops.getD (addQ 0 ((i:Nat):Int).toNat) op0).e % 2).toNat:Int);rw [eI,hp,hk];rfl) | trace_state
  ·exact fc
  rintro - -
  repeat (refine sd ?_)
  refine zB.intro (fun ho=>?_) (fun ho=>?_)
  ·repeat (refine sd ?_)
   refine zB.intro (fun hw=>?_) (fun hw=>?_)
   ·repeat (refine sd ?_)
    refine Cut.intro (σ:=Unit) (fun _=>True) (fun _=>([(0,.isl 0 N 6 [(N * 6,.arr N 6 (opF ops))]),(3,.ptr 203 0 none),(4,.ptr 204 0 none),(5,.ptr 205 0 none),(6,.ptr 206 0 none),(7,.sl 207 0 0 s.ns s.cs),(8,.i .i64 ((i:Nat):Int))],[(203,.mem true 0 [(1,.ptr 1000 0 none)]),(204,.mem true 0 [(1,.ptr 1100 0 none)]),(205,.mem true 0 (s.e0.pL ++ s.e1.pL)),(206,.mem true 0 (s.e0.rL ++ s.e1.rL)),(207,.mem true (zmE (s.cs - s.ns) 167) [(s.ns * 167,.arr s.ns 167 (ltF s.S))]),(1000,.mem true 0 [(1,.sl 221 0 0 s.n s.c),(1,.mp 1002)]),(221,.mem true (zmE (s.c - s.n) 3) [(s.n * 3,.arr s.n 3 (ttF s.T))]),(1002,.map (.si (mpL s.T))),(1100,.mem true 0 [(1,.sl 222 0 0 s.n s.d)]),(222,.mem true (zmE (s.d - s.n) 2) [(s.n * 2,.arr s.n 2 (rtF s.T))])])) () trivial (Le.intro [(203,(203,0,none)),(204,(204,0,none)),(205,(205,0,none)),(206,(206,0,none)),(207,(207,0,none)),(221,(221,0,none)),(222,(222,0,none))] rfl ?_ rfl ?_ rfl) ?_
    ·exact fc
    ·exact fc
    rintro - -
    repeat (refine sd ?_)
    refine ⟨(i + 1,s),⟨hI.step,by show i + 1 <= N;omega⟩,by show N - (i + 1) < N - i;omega,Le.intro [(203,(203,0,none)),(204,(204,0,none)),(205,(205,0,none)),(206,(206,0,none)),(207,(207,0,none)),(221,(221,0,none)),(222,(222,0,none))] rfl ?_ rfl ?_ rfl⟩
    ·repeat' (first | (show zA _;first | exact trivial | refine zA.app ?_ ?_ | refine zA.zd ?_ ?_ | refine zA.cons ?_ ?_) | exact fd | fail)
     all_goals first | omega | trace_state
    ·exact fc
   have hwR:=hw
   have hw:¬ (ops.getD (addQ 0 ((i:Nat):Int).toNat) op0).w < 0:=hw
   rw [eI,hp] at hw
   repeat (refine sd ?_)
   refine zB.intro (fun hv=>?_) (fun hv=>?_)
   ·repeat (refine sd ?_)
    refine Cut.intro (σ:=Unit) (fun _=>True) (fun _=>([(0,.isl 0 N 6 [(N * 6,.arr N 6 (opF ops))]),(3,.ptr 203 0 none),(4,.ptr 204 0 none),(5,.ptr 205 0 none),(6,.ptr 206 0 none),(7,.sl 207 0 0 s.ns s.cs),(8,.i .i64 ((i:Nat):Int))],[(203,.mem true 0 [(1,.ptr 1000 0 none)]),(204,.mem true 0 [(1,.ptr 1100 0 none)]),(205,.mem true 0 (s.e0.pL ++ s.e1.pL)),(206,.mem true 0 (s.e0.rL ++ s.e1.rL)),(207,.mem true (zmE (s.cs - s.ns) 167) [(s.ns * 167,.arr s.ns 167 (ltF s.S))]),(1000,.mem true 0 [(1,.sl 221 0 0 s.n s.c),(1,.mp 1002)]),(221,.mem true (zmE (s.c - s.n) 3) [(s.n * 3,.arr s.n 3 (ttF s.T))]),(1002,.map (.si (mpL s.T))),(1100,.mem true 0 [(1,.sl 222 0 0 s.n s.d)]),(222,.mem true (zmE (s.d - s.n) 2) [(s.n * 2,.arr s.n 2 (rtF s.T))])])) () trivial (Le.intro [(203,(203,0,none)),(204,(204,0,none)),(205,(205,0,none)),(206,(206,0,none)),(207,(207,0,none)),(221,(221,0,none)),(222,(222,0,none))] rfl ?_ rfl ?_ rfl) ?_
    ·exact fc
    ·exact fc
    rintro - -
    repeat (refine sd ?_)
    refine ⟨(i + 1,s),⟨hI.step,by show i + 1 <= N;omega⟩,by show N - (i + 1) < N - i;omega,Le.intro [(203,(203,0,none)),(204,(204,0,none)),(205,(205,0,none)),(206,(206,0,none)),(207,(207,0,none)),(221,(221,0,none)),(222,(222,0,none))] rfl ?_ rfl ?_ rfl⟩
    ·repeat' (first | (show zA _;first | exact trivial | refine zA.app ?_ ?_ | refine zA.zd ?_ ?_ | refine zA.cons ?_ ?_) | exact fd | fail)
     all_goals first | omega | trace_state
    ·exact fc
   have hvR:=hv
   have hv:¬ (ops.getD (addQ 0 ((i:Nat):Int).toNat) op0).w ≥ ((s.ns:Nat):Int):=hv
   rw [eI,hp] at hv
   have hwn:p.w.toNat < s.S.length:=by rw [i8];omega
   have hwB:(([0 <= (ops.getD (addQ 0 ([0 <= ((i:Nat):Int)],Ix.dyn ((i:Nat):Int).toNat).snd.val) op0).w],Ix.dyn (ops.getD (addQ 0 ([0 <= ((i:Nat):Int)],Ix.dyn ((i:Nat):Int).toNat).snd.val) op0).w.toNat):List Prop × Ix).snd.val < s.ns:=by
    show (ops.getD (addQ 0 ((i:Nat):Int).toNat) op0).w.toNat < s.ns
    rw [eI,hp];omega
   have hlt:(s.S.getD p.w.toNat lt0).OK:=i11 _ (by rw [List.getD_eq_getElem?_getD,List.getElem?_eq_getElem hwn];exact List.getElem_mem _)
   obtain ⟨lt,hlt0⟩:∃ lt,s.S.getD p.w.toNat lt0 = lt:=⟨_,rfl⟩
   rw [hlt0] at hlt
   repeat (refine sd ?_)
   refine plOpen0 ops N i hN hNm hi hi40 s hI p hp lt hlt _ (fun s' T' M' hI' hl=>?_) _ _ (Le.intro [(203,(203,0,none)),(204,(204,0,none)),(205,(205,0,none)),(206,(206,0,none)),(207,(207,0,none)),(221,(221,0,none)),(222,(222,0,none)),(210,(10,0,none))] rfl ?_ rfl ?_ rfl)
   ·
    refine Cut.intro (σ:=Unit) (fun _=>True) (fun _=>([(0,.isl 0 N 6 [(N * 6,.arr N 6 (opF ops))]),(3,.ptr 203 0 none),(4,.ptr 204 0 none),(5,.ptr 205 0 none),(6,.ptr 206 0 none),(7,.sl 207 0 0 s'.ns s'.cs),(8,.i .i64 ((i:Nat):Int))],[(203,.mem true 0 [(1,.ptr 1000 0 none)]),(204,.mem true 0 [(1,.ptr 1100 0 none)]),(205,.mem true 0 (s'.e0.pL ++ s'.e1.pL)),(206,.mem true 0 (s'.e0.rL ++ s'.e1.rL)),(207,.mem true (zmE (s'.cs - s'.ns) 167) [(s'.ns * 167,.arr s'.ns 167 (ltF s'.S))]),(1000,.mem true 0 [(1,.sl 221 0 0 s'.n s'.c),(1,.mp 1002)]),(221,.mem true (zmE (s'.c - s'.n) 3) [(s'.n * 3,.arr s'.n 3 (ttF s'.T))]),(1002,.map (.si (mpL s'.T))),(1100,.mem true 0 [(1,.sl 222 0 0 s'.n s'.d)]),(222,.mem true (zmE (s'.d - s'.n) 2) [(s'.n * 2,.arr s'.n 2 (rtF s'.T))])])) () trivial hl ?_
    rintro - -
    repeat (refine sd ?_)
    refine ⟨(i + 1,s'),⟨hI',by show i + 1 <= N;omega⟩,by show N - (i + 1) < N - i;omega,Le.intro [(203,(203,0,none)),(204,(204,0,none)),(205,(205,0,none)),(206,(206,0,none)),(207,(207,0,none)),(221,(221,0,none)),(222,(222,0,none))] rfl ?_ rfl ?_ rfl⟩
    ·repeat' (first | (show zA _;first | exact trivial | refine zA.app ?_ ?_ | refine zA.zd ?_ ?_ | refine zA.cons ?_ ?_) | exact fd | fail)
     all_goals first | omega | trace_state
    ·exact fc
   ·exact fc
   ·repeat' (first | (show zA _;first | exact trivial | refine zA.app ?_ ?_ | refine zA.zd ?_ ?_ | refine zA.cons ?_ ?_) | exact fd | fail)
    all_goals first | (show _ = s.S.getD (addQ 0 (ops.getD (addQ 0 ((i:Nat):Int).toNat) op0).w.toNat) lt0;rw [eI,hp,zQ,Nat.zero_add,hlt0];done) | (simp only [Ix.val,zQ,Nat.zero_add,zIn,hp,hlt0,ltF];done) | trace_state
  ·refine plSeal0 ops N i hN hNm hi hi40 s hI p hp hpt _ (fun s' T' M' hI' hl=>?_) _ _ (Le.intro [(203,(203,0,none)),(204,(204,0,none)),(205,(205,0,none)),(206,(206,0,none)),(207,(207,0,none)),(221,(221,0,none)),(222,(222,0,none))] rfl ?_ rfl ?_ rfl)
   ·
    refine Cut.intro (σ:=Unit) (fun _=>True) (fun _=>([(0,.isl 0 N 6 [(N * 6,.arr N 6 (opF ops))]),(3,.ptr 203 0 none),(4,.ptr 204 0 none),(5,.ptr 205 0 none),(6,.ptr 206 0 none),(7,.sl 207 0 0 s'.ns s'.cs),(8,.i .i64 ((i:Nat):Int))],[(203,.mem true 0 [(1,.ptr 1000 0 none)]),(204,.mem true 0 [(1,.ptr 1100 0 none)]),(205,.mem true 0 (s'.e0.pL ++ s'.e1.pL)),(206,.mem true 0 (s'.e0.rL ++ s'.e1.rL)),(207,.mem true (zmE (s'.cs - s'.ns) 167) [(s'.ns * 167,.arr s'.ns 167 (ltF s'.S))]),(1000,.mem true 0 [(1,.sl 221 0 0 s'.n s'.c),(1,.mp 1002)]),(221,.mem true (zmE (s'.c - s'.n) 3) [(s'.n * 3,.arr s'.n 3 (ttF s'.T))]),(1002,.map (.si (mpL s'.T))),(1100,.mem true 0 [(1,.sl 222 0 0 s'.n s'.d)]),(222,.mem true (zmE (s'.d - s'.n) 2) [(s'.n * 2,.arr s'.n 2 (rtF s'.T))])])) () trivial hl ?_
    rintro - -
    repeat (refine sd ?_)
    refine ⟨(i + 1,s'),⟨hI',by show i + 1 <= N;omega⟩,by show N - (i + 1) < N - i;omega,Le.intro [(203,(203,0,none)),(204,(204,0,none)),(205,(205,0,none)),(206,(206,0,none)),(207,(207,0,none)),(221,(221,0,none)),(222,(222,0,none))] rfl ?_ rfl ?_ rfl⟩
    ·repeat' (first | (show zA _;first | exact trivial | refine zA.app ?_ ?_ | refine zA.zd ?_ ?_ | refine zA.cons ?_ ?_) | exact fd | fail)
     all_goals first | omega | trace_state
    ·exact fc
   ·exact fc
   ·exact fc
 ·have hk:p.e % 2 = 1:=hk
  refine Cut.intro (σ:=Unit) (fun _=>True) (fun _=>([(0,.isl 0 N 6 [(N * 6,.arr N 6 (opF ops))]),(3,.ptr 203 0 none),(4,.ptr 204 0 none),(5,.ptr 205 0 none),(6,.ptr 206 0 none),(7,.sl 207 0 0 s.ns s.cs),(8,.i .i64 ((i:Nat):Int)),(9,.i .i64 1)],[(203,.mem true 0 [(1,.ptr 1000 0 none)]),(204,.mem true 0 [(1,.ptr 1100 0 none)]),(205,.mem true 0 (s.e0.pL ++ s.e1.pL)),(206,.mem true 0 (s.e0.rL ++ s.e1.rL)),(207,.mem true (zmE (s.cs - s.ns) 167) [(s.ns * 167,.arr s.ns 167 (ltF s.S))]),(1000,.mem true 0 [(1,.sl 221 0 0 s.n s.c),(1,.mp 1002)]),(221,.mem true (zmE (s.c - s.n) 3) [(s.n * 3,.arr s.n 3 (ttF s.T))]),(1002,.map (.si (mpL s.T))),(1100,.mem true 0 [(1,.sl 222 0 0 s.n s.d)]),(222,.mem true (zmE (s.d - s.n) 2) [(s.n * 2,.arr s.n 2 (rtF s.T))])])) () trivial (Le.intro [(203,(203,0,none)),(204,(204,0,none)),(205,(205,0,none)),(206,(206,0,none)),(207,(207,0,none)),(221,(221,0,none)),(222,(222,0,none))] rfl ?_ rfl ?_ rfl) ?_
  ·repeat' (first | (show zA _;first | exact trivial | refine zA.app ?_ ?_ | refine zA.zd ?_ ?_ | refine zA.cons ?_ ?_) | exact fd | fail)
   all_goals first | (show (1:Int) = (((ops.getD (addQ 0 ((i:Nat):Int).toNat) op0).e % 2).toNat:Int);rw [eI,hp,hk];rfl) | trace_state
  ·exact fc
  rintro - -
  repeat (refine sd ?_)
  refine zB.intro (fun ho=>?_) (fun ho=>?_)
  ·repeat (refine sd ?_)
   refine zB.intro (fun hw=>?_) (fun hw=>?_)
   ·repeat (refine sd ?_)
    refine Cut.intro (σ:=Unit) (fun _=>True) (fun _=>([(0,.isl 0 N 6 [(N * 6,.arr N 6 (opF ops))]),(3,.ptr 203 0 none),(4,.ptr 204 0 none),(5,.ptr 205 0 none),(6,.ptr 206 0 none),(7,.sl 207 0 0 s.ns s.cs),(8,.i .i64 ((i:Nat):Int))],[(203,.mem true 0 [(1,.ptr 1000 0 none)]),(204,.mem true 0 [(1,.ptr 1100 0 none)]),(205,.mem true 0 (s.e0.pL ++ s.e1.pL)),(206,.mem true 0 (s.e0.rL ++ s.e1.rL)),(207,.mem true (zmE (s.cs - s.ns) 167) [(s.ns * 167,.arr s.ns 167 (ltF s.S))]),(1000,.mem true 0 [(1,.sl 221 0 0 s.n s.c),(1,.mp 1002)]),(221,.mem true (zmE (s.c - s.n) 3) [(s.n * 3,.arr s.n 3 (ttF s.T))]),(1002,.map (.si (mpL s.T))),(1100,.mem true 0 [(1,.sl 222 0 0 s.n s.d)]),(222,.mem true (zmE (s.d - s.n) 2) [(s.n * 2,.arr s.n 2 (rtF s.T))])])) () trivial (Le.intro [(203,(203,0,none)),(204,(204,0,none)),(205,(205,0,none)),(206,(206,0,none)),(207,(207,0,none)),(221,(221,0,none)),(222,(222,0,none))] rfl ?_ rfl ?_ rfl) ?_
    ·exact fc
    ·exact fc
    rintro - -
    repeat (refine sd ?_)
    refine ⟨(i + 1,s),⟨hI.step,by show i + 1 <= N;omega⟩,by show N - (i + 1) < N - i;omega,Le.intro [(203,(203,0,none)),(204,(204,0,none)),(205,(205,0,none)),(206,(206,0,none)),(207,(207,0,none)),(221,(221,0,none)),(222,(222,0,none))] rfl ?_ rfl ?_ rfl⟩
    ·repeat' (first | (show zA _;first | exact trivial | refine zA.app ?_ ?_ | refine zA.zd ?_ ?_ | refine zA.cons ?_ ?_) | exact fd | fail)
     all_goals first | omega | trace_state
    ·exact fc
   have hwR:=hw
   have hw:¬ (ops.getD (addQ 0 ((i:Nat):Int).toNat) op0).w < 0:=hw
   rw [eI,hp] at hw
   repeat (refine sd ?_)
   refine zB.intro (fun hv=>?_) (fun hv=>?_)
   ·repeat (refine sd ?_)
    refine Cut.intro (σ:=Unit) (fun _=>True) (fun _=>([(0,.isl 0 N 6 [(N * 6,.arr N 6 (opF ops))]),(3,.ptr 203 0 none),(4,.ptr 204 0 none),(5,.ptr 205 0 none),(6,.ptr 206 0 none),(7,.sl 207 0 0 s.ns s.cs),(8,.i .i64 ((i:Nat):Int))],[(203,.mem true 0 [(1,.ptr 1000 0 none)]),(204,.mem true 0 [(1,.ptr 1100 0 none)]),(205,.mem true 0 (s.e0.pL ++ s.e1.pL)),(206,.mem true 0 (s.e0.rL ++ s.e1.rL)),(207,.mem true (zmE (s.cs - s.ns) 167) [(s.ns * 167,.arr s.ns 167 (ltF s.S))]),(1000,.mem true 0 [(1,.sl 221 0 0 s.n s.c),(1,.mp 1002)]),(221,.mem true (zmE (s.c - s.n) 3) [(s.n * 3,.arr s.n 3 (ttF s.T))]),(1002,.map (.si (mpL s.T))),(1100,.mem true 0 [(1,.sl 222 0 0 s.n s.d)]),(222,.mem true (zmE (s.d - s.n) 2) [(s.n * 2,.arr s.n 2 (rtF s.T))])])) () trivial (Le.intro [(203,(203,0,none)),(204,(204,0,none)),(205,(205,0,none)),(206,(206,0,none)),(207,(207,0,none)),(221,(221,0,none)),(222,(222,0,none))] rfl ?_ rfl ?_ rfl) ?_
    ·exact fc
    ·exact fc
    rintro - -
    repeat (refine sd ?_)
    refine ⟨(i + 1,s),⟨hI.step,by show i + 1 <= N;omega⟩,by show N - (i + 1) < N - i;omega,Le.intro [(203,(203,0,none)),(204,(204,0,none)),(205,(205,0,none)),(206,(206,0,none)),(207,(207,0,none)),(221,(221,0,none)),(222,(222,0,none))] rfl ?_ rfl ?_ rfl⟩
    ·repeat' (first | (show zA _;first | exact trivial | refine zA.app ?_ ?_ | refine zA.zd ?_ ?_ | refine zA.cons ?_ ?_) | exact fd | fail)
     all_goals first | omega | trace_state
    ·exact fc
   have hvR:=hv
   have hv:¬ (ops.getD (addQ 0 ((i:Nat):Int).toNat) op0).w ≥ ((s.ns:Nat):Int):=hv
   rw [eI,hp] at hv
   have hwn:p.w.toNat < s.S.length:=by rw [i8];omega
   have hwB:(([0 <= (ops.getD (addQ 0 ([0 <= ((i:Nat):Int)],Ix.dyn ((i:Nat):Int).toNat).snd.val) op0).w],Ix.dyn (ops.getD (addQ 0 ([0 <= ((i:Nat):Int)],Ix.dyn ((i:Nat):Int).toNat).snd.val) op0).w.toNat):List Prop × Ix).snd.val < s.ns:=by
    show (ops.getD (addQ 0 ((i:Nat):Int).toNat) op0).w.toNat < s.ns
    rw [eI,hp];omega
   have hlt:(s.S.getD p.w.toNat lt0).OK:=i11 _ (by rw [List.getD_eq_getElem?_getD,List.getElem?_eq_getElem hwn];exact List.getElem_mem _)
   obtain ⟨lt,hlt0⟩:∃ lt,s.S.getD p.w.toNat lt0 = lt:=⟨_,rfl⟩
   rw [hlt0] at hlt
   repeat (refine sd ?_)
   refine plOpen1 ops N i hN hNm hi hi40 s hI p hp lt hlt _ (fun s' T' M' hI' hl=>?_) _ _ (Le.intro [(203,(203,0,none)),(204,(204,0,none)),(205,(205,0,none)),(206,(206,0,none)),(207,(207,0,none)),(221,(221,0,none)),(222,(222,0,none)),(210,(10,0,none))] rfl ?_ rfl ?_ rfl)
   ·
    refine Cut.intro (σ:=Unit) (fun _=>True) (fun _=>([(0,.isl 0 N 6 [(N * 6,.arr N 6 (opF ops))]),(3,.ptr 203 0 none),(4,.ptr 204 0 none),(5,.ptr 205 0 none),(6,.ptr 206 0 none),(7,.sl 207 0 0 s'.ns s'.cs),(8,.i .i64 ((i:Nat):Int))],[(203,.mem true 0 [(1,.ptr 1000 0 none)]),(204,.mem true 0 [(1,.ptr 1100 0 none)]),(205,.mem true 0 (s'.e0.pL ++ s'.e1.pL)),(206,.mem true 0 (s'.e0.rL ++ s'.e1.rL)),(207,.mem true (zmE (s'.cs - s'.ns) 167) [(s'.ns * 167,.arr s'.ns 167 (ltF s'.S))]),(1000,.mem true 0 [(1,.sl 221 0 0 s'.n s'.c),(1,.mp 1002)]),(221,.mem true (zmE (s'.c - s'.n) 3) [(s'.n * 3,.arr s'.n 3 (ttF s'.T))]),(1002,.map (.si (mpL s'.T))),(1100,.mem true 0 [(1,.sl 222 0 0 s'.n s'.d)]),(222,.mem true (zmE (s'.d - s'.n) 2) [(s'.n * 2,.arr s'.n 2 (rtF s'.T))])])) () trivial hl ?_
    rintro - -
    repeat (refine sd ?_)
    refine ⟨(i + 1,s'),⟨hI',by show i + 1 <= N;omega⟩,by show N - (i + 1) < N - i;omega,Le.intro [(203,(203,0,none)),(204,(204,0,none)),(205,(205,0,none)),(206,(206,0,none)),(207,(207,0,none)),(221,(221,0,none)),(222,(222,0,none))] rfl ?_ rfl ?_ rfl⟩
    ·repeat' (first | (show zA _;first | exact trivial | refine zA.app ?_ ?_ | refine zA.zd ?_ ?_ | refine zA.cons ?_ ?_) | exact fd | fail)
     all_goals first | omega | trace_state
    ·exact fc
   ·exact fc
   ·repeat' (first | (show zA _;first | exact trivial | refine zA.app ?_ ?_ | refine zA.zd ?_ ?_ | refine zA.cons ?_ ?_) | exact fd | fail)
    all_goals first | (show _ = s.S.getD (addQ 0 (ops.getD (addQ 0 ((i:Nat):Int).toNat) op0).w.toNat) lt0;rw [eI,hp,zQ,Nat.zero_add,hlt0];done) | (simp only [Ix.val,zQ,Nat.zero_add,zIn,hp,hlt0,ltF];done) | trace_state
  ·refine plSeal1 ops N i hN hNm hi hi40 s hI p hp hpt _ (fun s' T' M' hI' hl=>?_) _ _ (Le.intro [(203,(203,0,none)),(204,(204,0,none)),(205,(205,0,none)),(206,(206,0,none)),(207,(207,0,none)),(221,(221,0,none)),(222,(222,0,none))] rfl ?_ rfl ?_ rfl)
   ·
    refine Cut.intro (σ:=Unit) (fun _=>True) (fun _=>([(0,.isl 0 N 6 [(N * 6,.arr N 6 (opF ops))]),(3,.ptr 203 0 none),(4,.ptr 204 0 none),(5,.ptr 205 0 none),(6,.ptr 206 0 none),(7,.sl 207 0 0 s'.ns s'.cs),(8,.i .i64 ((i:Nat):Int))],[(203,.mem true 0 [(1,.ptr 1000 0 none)]),(204,.mem true 0 [(1,.ptr 1100 0 none)]),(205,.mem true 0 (s'.e0.pL ++ s'.e1.pL)),(206,.mem true 0 (s'.e0.rL ++ s'.e1.rL)),(207,.mem true (zmE (s'.cs - s'.ns) 167) [(s'.ns * 167,.arr s'.ns 167 (ltF s'.S))]),(1000,.mem true 0 [(1,.sl 221 0 0 s'.n s'.c),(1,.mp 1002)]),(221,.mem true (zmE (s'.c - s'.n) 3) [(s'.n * 3,.arr s'.n 3 (ttF s'.T))]),(1002,.map (.si (mpL s'.T))),(1100,.mem true 0 [(1,.sl 222 0 0 s'.n s'.d)]),(222,.mem true (zmE (s'.d - s'.n) 2) [(s'.n * 2,.arr s'.n 2 (rtF s'.T))])])) () trivial hl ?_
    rintro - -
    repeat (refine sd ?_)
    refine ⟨(i + 1,s'),⟨hI',by show i + 1 <= N;omega⟩,by show N - (i + 1) < N - i;omega,Le.intro [(203,(203,0,none)),(204,(204,0,none)),(205,(205,0,none)),(206,(206,0,none)),(207,(207,0,none)),(221,(221,0,none)),(222,(222,0,none))] rfl ?_ rfl ?_ rfl⟩
    ·repeat' (first | (show zA _;first | exact trivial | refine zA.app ?_ ?_ | refine zA.zd ?_ ?_ | refine zA.cons ?_ ?_) | exact fd | fail)
     all_goals first | omega | trace_state
    ·exact fc
   ·exact fc
   ·exact fc
end Go.Proofs.YtfnmgbillkiabaaGreat
