/- What the functions of the program compute. No condition. -/
import Derived.Test.YtfnmgbillkiabaaGreatHwZa7ToCh13
set_option linter.unusedSimpArgs false
set_option linter.unusedVariables false
set_option maxRecDepth 100000
namespace Go.Proofs.YtfnmgbillkiabaaGreat
open Go Go.Sx
structure RoS where
 T1:List Te
 X:Se
 k1:List UInt8
 w1:UInt16
 l1:List Kp
 nt:Nat
 ct:Nat
 N1:Nat
 m1:Nat
set_option maxHeartbeats 16000000 in
theorem fn17 (T:List Te) (N c:Nat) (hT:T.length = N) (hN:N <= 39000) (hNc:N <= c) (hTv:∀ x ∈ T,Valid x.1 x.2) (x:Se) (hx:x.OK) (l:List Kp) (Nl ml:Nat) (hNl:l.length = Nl) (hml:ml <= Nl) (hNl1:Nl <= 90000) (hlO:∀ x ∈ l,KpOK x) (hkp:x.kp = l.take ml)
  (h:Hd) (hh:h.OK) (B:List UInt8) (n:Nat) (hB:B.length = n) (hn:n <= 1000000) :
  Sx.Fn Γ.P 17 [.agg [(1,.ptr 1000 0 none)],.agg (seL x (.isl 0 ml 65 [(Nl * 65,.arr Nl 65 (kpF l))])),hdV h,.slx 1003 0 0 n] ((1003,.mem false 0 [(n,.a8 B)]) :: rbM N c T 1001) (roPost T x h B N Nl n):=by
 have hx':=hx
 obtain ⟨h1,h2,h3,h4,h5,h6,h7,h8,h9,_⟩:=hx'
 have hh':=hh
 obtain ⟨f1,f2,f3,f4,f5⟩:=hh'
 obtain ⟨m,hm⟩:∃ m,(hdB h).length = m:=⟨_,rfl⟩
 have hHb:=fn42 h hh m hm
 have hAt:=fn43 l Nl ml hNl hml (by omega) hlO h.ra h.n f5
 rw [<- hkp] at hAt
 have hkl:x.kp.length = ml:=by rw [hkp,zlT];omega
 unfold hdV at hHb
 unfold rbM hdV
 refine fn_cut [1000012,1000023,1000036,1000048] (Γ:=Γ) (fn:=Tryz.f17) rfl rfl rfl rfl ?_
 repeat (refine sd ?_)
 refine zB.intro (fun hid=>?_) (fun hid=>?_)
 ·have hid:¬ h.ss = x.id:=hid
  repeat (refine sd ?_)
  refine Ret.intro (.tup [.agg (seL x (.isl 0 ml 65 [(Nl * 65,.arr Nl 65 (kpF l))])),.isl 0 0 1 [(0,.a8 [])],.i .i64 1]) ((1001,.dead) :: (1003,.mem false 0 [(n,.a8 B)]) :: rbM N c T 1005) [(1005,(1001,0,none))] rfl ?_
   ⟨T,x,none,1,N,c,l,Nl,ml,0,Or.inl ⟨hid,rfl,rfl,rfl,rfl⟩,hT,hNc,(by omega),⟨hTv,hx⟩,hNl,hml,by omega,hkp,hlO,rfl,by omega,rfl,rfl⟩ rfl ?_ rfl ?_ rfl
  ·exact fc
  ·repeat' (first | (show zA _;first | exact trivial | refine zA.app ?_ ?_ | refine zA.zd ?_ ?_ | refine zA.cons ?_ ?_) | exact fd | fail)
   all_goals exact ⟨rfl,rfl,trivial⟩
  ·exact fc
 have hid:h.ss = x.id:=Classical.not_not.1 hid
 repeat (refine sd ?_)
 refine Call.intro hHb [] rfl ?_ rfl ?_ rfl ?_
 ·exact fc
 ·exact fc
 rintro v M' (⟨hG,rfl,rfl⟩ | ⟨hG,rfl,rfl⟩)
 ·dsimp only [zt,zM,zE,ren,zz,zx,zy,look,zG,zX,ev,evL,zV,zcT,zcF,act,zP,zO,Ent.zW]
  repeat (first | (refine zB.intro (fun _=>?_) (fun hn=>absurd rfl hn)) | (refine ky0 ?_) | (refine kn0 ?_) | (refine sd ?_))
  repeat (refine sd ?_)
  refine Ret.intro (.tup [.agg (seL x (.isl 0 ml 65 [(Nl * 65,.arr Nl 65 (kpF l))])),.isl 0 0 1 [(0,.a8 [])],.i .i64 141]) ((1001,.dead) :: (1003,.mem false 0 [(n,.a8 B)]) :: rbM N c T 1005) [(1005,(1001,0,none))] rfl ?_
   ⟨T,x,none,141,N,c,l,Nl,ml,0,Or.inr (Or.inl ⟨hid,hG,rfl,rfl,rfl,rfl⟩),hT,hNc,(by omega),⟨hTv,hx⟩,hNl,hml,by omega,hkp,hlO,rfl,by omega,rfl,rfl⟩ rfl ?_ rfl ?_ rfl
  ·exact fc
  ·repeat' (first | (show zA _;first | exact trivial | refine zA.app ?_ ?_ | refine zA.zd ?_ ?_ | refine zA.cons ?_ ?_) | exact fd | fail)
   all_goals exact ⟨rfl,rfl,trivial⟩
  ·exact fc
 dsimp only [zt,zM,zE,ren,zz,zx,zy,look,zG,zX,ev,evL,zV,zcT,zcF,act,zP,zO,Ent.zW]
 repeat (first | (refine zB.intro (fun _=>?_) (fun hn=>absurd rfl hn)) | (refine ky0 ?_) | (refine kn0 ?_) | (refine sd ?_))
 refine Call.name [(2001,[]),(0,[]),(0,[])] rfl fc (CallP.intro hAt [(1003,(2001,0,none))] rfl fc rfl ?_ rfl ?_)
 ·exact fc
 rintro v M' ⟨rfl,rfl⟩
 dsimp only [zt,zM,zE,ren,zz,zx,zy,look,zG,zX,ev,evL,zV,zcT,zcF,act,zP,zO,Ent.zW]
 repeat (refine sd ?_)
 refine Join.intro (σ:=RoS) (fun s=>s.T1.length = s.nt/\s.nt <= s.ct/\s.nt <= N + 100/\(∀ y ∈ s.T1,Valid y.1 y.2)/\s.X.OK/\s.l1.length = s.N1/\s.m1 <= s.N1/\s.N1 <= Nl + 40/\s.X.kp = s.l1.take s.m1/\(∀ y ∈ s.l1,KpOK y)/\s.k1.length = 32/\FindR T x h.ra h.n h.pv s.T1 s.X s.k1 0)
  (fun s=>([(3,.slx 1003 0 0 n),(4,.ptr 204 0 none),(5,.ptr 205 0 none),(6,.ptr 206 0 none),(8,.ptr 208 0 none),(11,.ptr 219 0 none),(14,.ptr 214 0 none)],[(204,.mem true 0 [(1,.ptr 1000 0 none)]),(205,.mem true 0 (seL s.X (.isl 0 s.m1 65 [(s.N1 * 65,.arr s.N1 65 (kpF s.l1))]))),(206,.mem true 0 [(32,.a8 h.ss),(1,.bool (h.fi = true)),(32,.a8 h.ag),(32,.a8 h.sg),(32,.a8 h.ba),(1,.u16 h.id),(32,.a8 h.ra),(1,.u16 h.n),(1,.u16 h.pv)]),(208,.mem true 0 zsL),(219,.mem true 0 (seL x (.isl 0 ml 65 [(Nl * 65,.arr Nl 65 (kpF l))]))),(214,.mem true 0 [(32,.a8 s.k1)]),(1003,.mem false 0 [(n,.a8 B)]),(1000,.mem true 0 [(1,.sl 213 0 0 s.nt s.ct)]),(1001,.dead),(213,.mem true (zmE (s.ct - s.nt) 2) [(s.nt * 2,.arr s.nt 2 (rtF s.T1))])])) ?_ ?_
 rotate_left
 ·rintro ⟨T1,X,row,w,le,n1,c1,Ne,me⟩ ⟨q1,q2,q3,q4,q5,q6,q7,q8,q9,q10,q11,q12⟩
  exact roTail T N c hT hN x hx l Nl ml hNl hml hNl1 hlO hkp h hh hG B n hB hn hid T1 n1 c1 q1 q2 q3 q4 X q5 le Ne me q6 q7 q8 q9 q10 row q11 q12
 rcases fiI_cases h.ra h.n x.kp with ⟨hf,_⟩ | ⟨i,hi,hf,_⟩
 rotate_left
 ·rw [hf]
  rw [hkl] at hi
  have hki:=kpOK_getD hlO (i:=i) (by omega)
  have hk2:=hki.2
  have hgd:(x.kp.getD i kp0).2.2 = (l.getD i kp0).2.2:=by rw [hkp,getD_take_lt kp0 (by omega)]
  have hle:(x.kp.eraseIdx i).length = ml - 1:=by rw [List.length_eraseIdx_of_lt (l:=x.kp) (i:=i) (by omega),hkl]
  have hW:=fn44 l Nl ml hNl hml (by omega) hlO i hi
  rw [<- hkp] at hW
  repeat (refine sd ?_)
  refine zB.intro (fun hc=>?_) (fun hc=>?_)
  rotate_left
  ·have hc:¬ (i:Int) ≥ 0:=hc
   exact absurd (Int.natCast_nonneg i) hc
  repeat (refine sdn ?_)
  refine Call.name [(2002,[]),(0,[])] rfl fc (CallP.intro hW [(1003,(2002,0,none)),(1005,(320,0,none))] rfl fc rfl ?_ rfl ?_)
  ·exact fc
  rintro v M' ⟨cw,hcw,_,rfl,rfl⟩
  dsimp only [zt,zM,zE,ren,zz,zx,zy,look,zG,zX,ev,evL,zV,zcT,zcF,act,zP,zO,Ent.zW]
  repeat (refine sd ?_)
  refine ⟨⟨T,{ x with kp:=x.kp.eraseIdx i },(l.getD i kp0).2.2,0,x.kp.eraseIdx i,N,c,ml - 1,ml - 1⟩,⟨hT,hNc,by show N <= _;omega,hTv,⟨h1,h2,h3,h4,h5,h6,h7,h8,h9,erase_mem hx.kp i⟩,hle,Nat.le_refl _,by show ml - 1 <= _;omega,(List.take_of_length_le (l:=x.kp.eraseIdx i) (i:=ml - 1) (by omega)).symm,erase_mem hx.kp i,hk2,Or.inl ⟨i,by show i < x.kp.length;omega,hf,rfl,rfl,hgd.symm,rfl⟩⟩,Le.ghost [.keep 320,.ice 5 16] [] [(204,(4,0,none)),(205,(5,0,none)),(206,(6,0,none)),(208,(8,0,none)),(219,(11,0,none)),(214,(14,0,none)),(213,(1001,0,none))] rfl ?_ rfl rfl ?_ rfl ?_ rfl⟩
  ·exact fc
  ·exact fc
  ·repeat' (first | (show zA _;first | exact trivial | refine zA.app ?_ ?_ | refine zA.zd ?_ ?_ | refine zA.cons ?_ ?_) | exact fd | fail)
   all_goals first | (show _ = (l.getD (addQ 0 (Int.toNat (i:Int))) kp0).2.2;rw [zQ,Nat.zero_add,zIn]) | trace_state
 rw [hf]
 repeat (refine sd ?_)
 refine zB.intro (fun hc=>?_) (fun hc=>?_)
 ·have hc:(-1:Int) ≥ 0:=hc
  exact absurd hc (by decide)
 refine Join.intro (σ:=RoS) (fun s=>TurnR T x h.ra h.pv s.T1 s.X 0/\s.T1.length = s.nt/\s.nt <= s.ct/\s.nt <= N + 50/\(∀ y ∈ s.T1,Valid y.1 y.2)/\s.X.OK/\s.l1.length = s.N1/\s.m1 <= s.N1/\s.N1 <= Nl + 16/\(∀ y ∈ s.l1,KpOK y)/\s.X.kp = s.l1.take s.m1)
  (fun s=>([(3,.slx 1003 0 0 n),(4,.ptr 204 0 none),(5,.ptr 205 0 none),(6,.ptr 206 0 none),(8,.ptr 208 0 none),(11,.ptr 219 0 none),(14,.ptr 214 0 none)],[(204,.mem true 0 [(1,.ptr 1000 0 none)]),(205,.mem true 0 (seL s.X (.isl 0 s.m1 65 [(s.N1 * 65,.arr s.N1 65 (kpF s.l1))]))),(206,.mem true 0 [(32,.a8 h.ss),(1,.bool (h.fi = true)),(32,.a8 h.ag),(32,.a8 h.sg),(32,.a8 h.ba),(1,.u16 h.id),(32,.a8 h.ra),(1,.u16 h.n),(1,.u16 h.pv)]),(208,.mem true 0 zsL),(219,.mem true 0 (seL x (.isl 0 ml 65 [(Nl * 65,.arr Nl 65 (kpF l))]))),(214,.mem true 0 [(32,.a8 (List.replicate 32 0))]),(1003,.mem false 0 [(n,.a8 B)]),(1000,.mem true 0 [(1,.sl 212 0 0 s.nt s.ct)]),(1001,.dead),(212,.mem true (zmE (s.ct - s.nt) 2) [(s.nt * 2,.arr s.nt 2 (rtF s.T1))])])) ?_ ?_
 ·repeat (refine sd ?_)
  refine zB.intro (fun hr=>?_) (fun hr=>?_)
  ·have hr:¬ x.hr = true:=hr
   repeat (first | (refine zB.intro (fun _=>?_) (fun hn=>absurd rfl hn)) | (refine ky0 ?_) | (refine kn0 ?_) | (refine sd ?_))
   refine zB.intro (fun hs=>?_) (fun hs=>?_)
   ·have hs:¬ x.hs = true:=hs
    repeat (refine sd ?_)
    refine Ret.intro (.tup [.agg (seL x (.isl 0 ml 65 [(Nl * 65,.arr Nl 65 (kpF l))])),.isl 0 0 1 [(0,.a8 [])],.i .i64 190]) ((1001,.dead) :: (1003,.mem false 0 [(n,.a8 B)]) :: rbM N c T 1005) [(1005,(1001,0,none))] rfl ?_
     ⟨T,x,none,190,N,c,l,Nl,ml,0,Or.inr (Or.inr ⟨hid,hG,T,x,z32,190,Or.inr ⟨hf,T,x,190,Or.inr (Or.inl ⟨fun h=>hr h.1,hs,rfl,rfl,rfl⟩),Or.inl ⟨by decide,rfl,rfl,rfl,rfl⟩⟩,Or.inl ⟨by decide,rfl,rfl,rfl,rfl⟩⟩),hT,hNc,(by omega),⟨hTv,hx⟩,hNl,hml,by omega,hkp,hlO,rfl,by omega,rfl,rfl⟩ rfl ?_ rfl ?_ rfl
    ·exact fc
    ·repeat' (first | (show zA _;first | exact trivial | refine zA.app ?_ ?_ | refine zA.zd ?_ ?_ | refine zA.cons ?_ ?_) | exact fd | fail)
     all_goals exact ⟨rfl,rfl,trivial⟩
    ·exact fc
   have hs:=Classical.not_not.1 hs
   refine Join.intro (σ:=RoS) (fun s=>PreR T x h.pv s.T1 s.k1 s.w1 (s.l1.take s.m1) 0/\s.T1.length = s.nt/\s.nt <= s.ct/\s.nt <= N + 40/\(∀ y ∈ s.T1,Valid y.1 y.2)/\s.k1.length = 32/\s.l1.length = s.N1/\s.m1 <= s.N1/\s.N1 <= Nl + 16/\∀ y ∈ s.l1,KpOK y)
    (fun s=>([(3,.slx 1003 0 0 n),(4,.ptr 204 0 none),(5,.ptr 205 0 none),(6,.ptr 206 0 none),(8,.ptr 208 0 none),(11,.ptr 219 0 none),(14,.ptr 214 0 none)],[(204,.mem true 0 [(1,.ptr 1000 0 none)]),(205,.mem true 0 [(32,.a8 x.id),(32,.a8 x.root),(32,.a8 x.mine),(1,.bool (x.hs = true)),(32,.a8 x.sk),(1,.u16 x.sn),(1,.u16 x.pv),(32,.a8 x.th),(1,.bool (x.hr = true)),(32,.a8 s.k1),(1,.u16 s.w1),(1,.bool (x.fi = true)),(32,.a8 x.ag),(32,.a8 x.sg),(32,.a8 x.ba),(1,.u16 x.oc),(1,.isl 0 s.m1 65 [(s.N1 * 65,.arr s.N1 65 (kpF s.l1))])]),(206,.mem true 0 [(32,.a8 h.ss),(1,.bool (h.fi = true)),(32,.a8 h.ag),(32,.a8 h.sg),(32,.a8 h.ba),(1,.u16 h.id),(32,.a8 h.ra),(1,.u16 h.n),(1,.u16 h.pv)]),(208,.mem true 0 zsL),(219,.mem true 0 (seL x (.isl 0 ml 65 [(Nl * 65,.arr Nl 65 (kpF l))]))),(214,.mem true 0 [(32,.a8 (List.replicate 32 0))]),(1003,.mem false 0 [(n,.a8 B)]),(1000,.mem true 0 [(1,.sl 211 0 0 s.nt s.ct)]),(1001,.dead),(211,.mem true (zmE (s.ct - s.nt) 2) [(s.nt * 2,.arr s.nt 2 (rtF s.T1))])])) ?_ ?_
   ·repeat (first | (refine zB.intro (fun _=>?_) (fun hn=>absurd rfl hn)) | (refine ky0 ?_) | (refine kn0 ?_) | (refine ky ?_) | (refine kn ?_) | (refine sd ?_))
    refine ⟨⟨T,x,x.rk,x.rn,l,N,c,Nl,ml⟩,⟨Or.inr ⟨fun h=>hr h.1,rfl,rfl,rfl,hkp.symm,rfl⟩,hT,hNc,by show N <= _;omega,hTv,h6,hNl,hml,by show Nl <= _;omega,hlO⟩,Le.intro [(204,(4,0,none)),(205,(5,0,none)),(206,(6,0,none)),(208,(8,0,none)),(219,(11,0,none)),(214,(14,0,none)),(211,(1001,0,none))] rfl ?_ rfl ?_ rfl⟩
    ·exact fc
    ·exact fc
   rintro ⟨T1,X0,k1,n1,l1,nt,ct,N1,m1⟩ ⟨hpre,ht1,ht2,ht3,ht4,hk1,hl1,hm1,hN1,hlo1⟩
   have hpre:PreR T x h.pv T1 k1 n1 (l1.take m1) 0:=hpre
   have ht1:T1.length = nt:=ht1
   have ht2:nt <= ct:=ht2
   have ht3:nt <= N + 40:=ht3
   have ht4:∀ y ∈ T1,Valid y.1 y.2:=ht4
   have hk1:k1.length = 32:=hk1
   have hl1:l1.length = N1:=hl1
   have hm1:m1 <= N1:=hm1
   have hN1:N1 <= Nl + 16:=hN1
   have hlo1:∀ y ∈ l1,KpOK y:=hlo1
   obtain ⟨Y,hY⟩:∃ Y:Se,Y = { x with rk:=k1,rn:=n1,kp:=l1.take m1,th:=h.ra }:=⟨_,rfl⟩
   have hYo:Y.OK:=by subst hY;exact ⟨h1,h2,h3,h4,f5,hk1,h7,h8,h9,fun y hy=>hlo1 y (List.mem_of_mem_take hy)⟩
   have hTu:=fn46 T1 nt ct ht1 (by omega) ht2 ht4 Y hYo m1 N1 l1
   have hvT:=tuT_valid ht4 (x:=Y) hYo.mine hYo.th
   have hlT:=tuT_len ht4 (x:=Y) hYo.mine hYo.th
   have hkK:=tuK_length T1 Y
   have hkR:=tuR_length T1 Y
   have hYp:Y.kp = l1.take m1:=by rw [hY]
   have eS:trS T1 Y = { id:=x.id,root:=tuR T1 Y,mine:=x.mine,hs:=false,sk:=x.sk,sn:=x.sn,pv:=x.pv,th:=h.ra,hr:=true,rk:=tuK T1 Y,rn:=0,fi:=false,ag:=z32,sg:=z32,ba:=z32,oc:=0,kp:=l1.take m1 }:=by rw [hY];rfl
   have hTR:TurnR T x h.ra h.pv (tuT T1 Y) (trS T1 Y) 0:=Or.inr (Or.inr ⟨fun h=>hr h.1,hs,T1,k1,n1,l1.take m1,0,hpre,Or.inr ⟨rfl,by rw [hY],by rw [hY],rfl⟩⟩)
   rw [eS] at hTR
   unfold rbM seL at hTu
   rw [show Y.id = x.id by rw [hY],show Y.root = x.root by rw [hY],show Y.mine = x.mine by rw [hY],show Y.hs = x.hs by rw [hY],show Y.sk = x.sk by rw [hY],show Y.sn = x.sn by rw [hY],show Y.pv = x.pv by rw [hY],show Y.th = h.ra by rw [hY],show Y.hr = x.hr by rw [hY],show Y.rk = k1 by rw [hY],show Y.rn = n1 by rw [hY],show Y.fi = x.fi by rw [hY],show Y.ag = x.ag by rw [hY],show Y.sg = x.sg by rw [hY],show Y.ba = x.ba by rw [hY],show Y.oc = x.oc by rw [hY]] at hTu
   repeat (refine sd ?_)
   refine Call.intro hTu [(1000,(1000,0,none)),(1001,(211,0,none)),(1005,(306,0,none))] rfl ?_ rfl ?_ rfl ?_
   ·exact fc
   ·exact fc
   rintro v M' ⟨n2,c2,hn2,hc2,rfl,rfl⟩
   dsimp only [zt,zM,zE,ren,zz,zx,zy,look,zG,zX,ev,evL,zV,zcT,zcF,act,zP,zO,Ent.zW]
   repeat (first | (refine zB.intro (fun _=>?_) (fun hn=>absurd rfl hn)) | (refine ky0 ?_) | (refine kn0 ?_) | (refine sd ?_))
   refine ⟨⟨tuT T1 Y,{ id:=x.id,root:=tuR T1 Y,mine:=x.mine,hs:=false,sk:=x.sk,sn:=x.sn,pv:=x.pv,th:=h.ra,hr:=true,rk:=tuK T1 Y,rn:=0,fi:=false,ag:=z32,sg:=z32,ba:=z32,oc:=0,kp:=l1.take m1 },[],0,l1,n2,c2,N1,m1⟩,⟨hTR,hn2,hc2,by show n2 <= _;omega,hvT,⟨h1,hkR,h3,h4,f5,hkK,zlz,zlz,zlz,fun y hy=>hlo1 y (List.mem_of_mem_take hy)⟩,hl1,hm1,hN1,hlo1,rfl⟩,Le.intro [(204,(204,0,none)),(205,(205,0,none)),(206,(206,0,none)),(208,(208,0,none)),(219,(219,0,none)),(214,(214,0,none)),(212,(306,0,none))] rfl ?_ rfl ?_ rfl⟩
   ·exact fc
   ·repeat' (first | (show zA _;first | exact trivial | refine zA.app ?_ ?_ | refine zA.zd ?_ ?_ | refine zA.cons ?_ ?_) | exact fd | fail)
    all_goals first | exact Bool.false_ne_true | exact iff_of_true rfl trivial | exact iff_of_false Bool.false_ne_true (fun h=>h)
  ·have hr:=Classical.not_not.1 hr
   repeat (refine sd ?_)
   refine zB.intro (fun hra=>?_) (fun hra=>?_)
   ·have hra:¬ h.ra = x.th:=hra
    repeat (refine sd ?_)
    refine zB.intro (fun hs=>?_) (fun hs=>?_)
    ·have hs:¬ x.hs = true:=hs
     repeat (refine sd ?_)
     refine Ret.intro (.tup [.agg (seL x (.isl 0 ml 65 [(Nl * 65,.arr Nl 65 (kpF l))])),.isl 0 0 1 [(0,.a8 [])],.i .i64 190]) ((1001,.dead) :: (1003,.mem false 0 [(n,.a8 B)]) :: rbM N c T 1005) [(1005,(1001,0,none))] rfl ?_
      ⟨T,x,none,190,N,c,l,Nl,ml,0,Or.inr (Or.inr ⟨hid,hG,T,x,z32,190,Or.inr ⟨hf,T,x,190,Or.inr (Or.inl ⟨fun h=>hra h.2,hs,rfl,rfl,rfl⟩),Or.inl ⟨by decide,rfl,rfl,rfl,rfl⟩⟩,Or.inl ⟨by decide,rfl,rfl,rfl,rfl⟩⟩),hT,hNc,(by omega),⟨hTv,hx⟩,hNl,hml,by omega,hkp,hlO,rfl,by omega,rfl,rfl⟩ rfl ?_ rfl ?_ rfl
     ·exact fc
     ·repeat' (first | (show zA _;first | exact trivial | refine zA.app ?_ ?_ | refine zA.zd ?_ ?_ | refine zA.cons ?_ ?_) | exact fd | fail)
      all_goals exact ⟨rfl,rfl,trivial⟩
     ·exact fc
    have hs:=Classical.not_not.1 hs
    refine Join.intro (σ:=RoS) (fun s=>PreR T x h.pv s.T1 s.k1 s.w1 (s.l1.take s.m1) 0/\s.T1.length = s.nt/\s.nt <= s.ct/\s.nt <= N + 40/\(∀ y ∈ s.T1,Valid y.1 y.2)/\s.k1.length = 32/\s.l1.length = s.N1/\s.m1 <= s.N1/\s.N1 <= Nl + 16/\∀ y ∈ s.l1,KpOK y)
     (fun s=>([(3,.slx 1003 0 0 n),(4,.ptr 204 0 none),(5,.ptr 205 0 none),(6,.ptr 206 0 none),(8,.ptr 208 0 none),(11,.ptr 219 0 none),(14,.ptr 214 0 none)],[(204,.mem true 0 [(1,.ptr 1000 0 none)]),(205,.mem true 0 [(32,.a8 x.id),(32,.a8 x.root),(32,.a8 x.mine),(1,.bool (x.hs = true)),(32,.a8 x.sk),(1,.u16 x.sn),(1,.u16 x.pv),(32,.a8 x.th),(1,.bool (x.hr = true)),(32,.a8 s.k1),(1,.u16 s.w1),(1,.bool (x.fi = true)),(32,.a8 x.ag),(32,.a8 x.sg),(32,.a8 x.ba),(1,.u16 x.oc),(1,.isl 0 s.m1 65 [(s.N1 * 65,.arr s.N1 65 (kpF s.l1))])]),(206,.mem true 0 [(32,.a8 h.ss),(1,.bool (h.fi = true)),(32,.a8 h.ag),(32,.a8 h.sg),(32,.a8 h.ba),(1,.u16 h.id),(32,.a8 h.ra),(1,.u16 h.n),(1,.u16 h.pv)]),(208,.mem true 0 zsL),(219,.mem true 0 (seL x (.isl 0 ml 65 [(Nl * 65,.arr Nl 65 (kpF l))]))),(214,.mem true 0 [(32,.a8 (List.replicate 32 0))]),(1003,.mem false 0 [(n,.a8 B)]),(1000,.mem true 0 [(1,.sl 211 0 0 s.nt s.ct)]),(1001,.dead),(211,.mem true (zmE (s.ct - s.nt) 2) [(s.nt * 2,.arr s.nt 2 (rtF s.T1))])])) ?_ ?_
    ·repeat (first | (refine zB.intro (fun _=>?_) (fun hn=>absurd rfl hn)) | (refine ky0 ?_) | (refine kn0 ?_) | (refine ky ?_) | (refine kn ?_) | (refine sd ?_))
     refine zB.intro (fun hpv=>?_) (fun hpv=>?_)
     ·have hpv:x.rn < h.pv:=hpv
      have hSk:=fnRSkipF T N c hT (by omega) hNc hTv x.rk h6 x.rn x.th h5 h.pv l Nl ml hNl hml (by omega) hlO
      rw [<- hkp] at hSk
      unfold rbM at hSk
      repeat (refine sd ?_)
      refine Call.name [(0,[]),(0,[]),(0,[]),(0,[]),(2003,[])] rfl fc (CallP.intro hSk [(1000,(1000,0,none)),(1001,(1001,0,none)),(1003,(2003,0,none)),(1005,(315,0,none)),(1006,(316,0,none))] rfl fc rfl ?_ rfl ?_)
      ·exact fc
      rintro v M' ⟨T1,k1,n1,L1,e1,nt,ct,hnt,hct,hres,hv⟩
      obtain ⟨i1,i2,i3,i4,i5⟩:=skr_info hres h6 h5 hx.kp hTv
      rcases hv with ⟨he,hL1,rfl,rfl⟩ | ⟨rfl,m1,cc,hmc,hL1,rfl,rfl⟩
      ·dsimp only [zt,zM,zE,ren,zz,zx,zy,look,zG,zX,ev,evL,zV,zcT,zcF,act,zP,zO,Ent.zW]
       repeat (refine sd ?_)
       refine zB.intro (fun _=>?_) (fun hn=>absurd he hn)
       repeat (refine sd ?_)
       refine Ret.intro (.tup [.agg (seL x (.isl 0 ml 65 [(Nl * 65,.arr Nl 65 (kpF l))])),.isl 0 0 1 [(0,.a8 [])],.i .i64 e1]) ((1001,.dead) :: (1003,.mem false 0 [(n,.a8 B)]) :: rbM nt ct T1 1005) [(1005,(315,0,none))] rfl ?_
        ⟨T1,x,none,e1,nt,ct,l,Nl,ml,0,Or.inr (Or.inr ⟨hid,hG,T1,x,z32,e1,Or.inr ⟨hf,T1,x,e1,Or.inr (Or.inr ⟨fun h=>hra h.2,hs,T1,k1,n1,L1,e1,Or.inl ⟨hr,hpv,hres⟩,Or.inl ⟨he,rfl,rfl,rfl⟩⟩),Or.inl ⟨he,rfl,rfl,rfl,rfl⟩⟩,Or.inl ⟨he,rfl,rfl,rfl,rfl⟩⟩),hnt,hct,(by omega),⟨i4,hx⟩,hNl,hml,by omega,hkp,hlO,rfl,by omega,rfl,rfl⟩ rfl ?_ rfl ?_ rfl
       ·exact fc
       ·repeat' (first | (show zA _;first | exact trivial | refine zA.app ?_ ?_ | refine zA.zd ?_ ?_ | refine zA.cons ?_ ?_) | exact fd | fail)
        all_goals exact ⟨rfl,rfl,trivial⟩
       ·exact fc
      ·dsimp only [zt,zM,zE,ren,zz,zx,zy,look,zG,zX,ev,evL,zV,zcT,zcF,act,zP,zO,Ent.zW]
       repeat (refine sd ?_)
       repeat (first | (refine zB.intro (fun _=>?_) (fun hn=>absurd rfl hn)) | (refine ky0 ?_) | (refine kn0 ?_) | (refine sd ?_))
       refine ⟨⟨T1,x,k1,n1,L1,nt,ct,m1,m1⟩,⟨Or.inl ⟨hr,hpv,by show SkRes true T x.rk x.th x.rn h.pv x.kp T1 k1 n1 (L1.take m1) 0;rw [List.take_of_length_le (by omega)];exact hres⟩,hnt,hct,by show nt <= _;omega,i4,i1,hL1,Nat.le_refl _,by show m1 <= _;omega,i2⟩,Le.ghost [.keep 316,.ice 5 16] [] [(204,(4,0,none)),(205,(5,0,none)),(206,(6,0,none)),(208,(8,0,none)),(219,(11,0,none)),(214,(14,0,none)),(211,(315,0,none))] rfl ?_ rfl rfl ?_ rfl ?_ rfl⟩
       ·exact fc
       ·exact fc
       ·exact fc
     ·have hpv:¬ x.rn < h.pv:=hpv
      repeat (refine sd ?_)
      refine ⟨⟨T,x,x.rk,x.rn,l,N,c,Nl,ml⟩,⟨Or.inr ⟨fun h=>hpv h.2,rfl,rfl,rfl,hkp.symm,rfl⟩,hT,hNc,by show N <= _;omega,hTv,h6,hNl,hml,by show Nl <= _;omega,hlO⟩,Le.intro [(204,(4,0,none)),(205,(5,0,none)),(206,(6,0,none)),(208,(8,0,none)),(219,(11,0,none)),(214,(14,0,none)),(211,(1001,0,none))] rfl ?_ rfl ?_ rfl⟩
      ·exact fc
      ·exact fc
    rintro ⟨T1,X0,k1,n1,l1,nt,ct,N1,m1⟩ ⟨hpre,ht1,ht2,ht3,ht4,hk1,hl1,hm1,hN1,hlo1⟩
    have hpre:PreR T x h.pv T1 k1 n1 (l1.take m1) 0:=hpre
    have ht1:T1.length = nt:=ht1
    have ht2:nt <= ct:=ht2
    have ht3:nt <= N + 40:=ht3
    have ht4:∀ y ∈ T1,Valid y.1 y.2:=ht4
    have hk1:k1.length = 32:=hk1
    have hl1:l1.length = N1:=hl1
    have hm1:m1 <= N1:=hm1
    have hN1:N1 <= Nl + 16:=hN1
    have hlo1:∀ y ∈ l1,KpOK y:=hlo1
    obtain ⟨Y,hY⟩:∃ Y:Se,Y = { x with rk:=k1,rn:=n1,kp:=l1.take m1,th:=h.ra }:=⟨_,rfl⟩
    have hYo:Y.OK:=by subst hY;exact ⟨h1,h2,h3,h4,f5,hk1,h7,h8,h9,fun y hy=>hlo1 y (List.mem_of_mem_take hy)⟩
    have hTu:=fn46 T1 nt ct ht1 (by omega) ht2 ht4 Y hYo m1 N1 l1
    have hvT:=tuT_valid ht4 (x:=Y) hYo.mine hYo.th
    have hlT:=tuT_len ht4 (x:=Y) hYo.mine hYo.th
    have hkK:=tuK_length T1 Y
    have hkR:=tuR_length T1 Y
    have hYp:Y.kp = l1.take m1:=by rw [hY]
    have eS:trS T1 Y = { id:=x.id,root:=tuR T1 Y,mine:=x.mine,hs:=false,sk:=x.sk,sn:=x.sn,pv:=x.pv,th:=h.ra,hr:=true,rk:=tuK T1 Y,rn:=0,fi:=false,ag:=z32,sg:=z32,ba:=z32,oc:=0,kp:=l1.take m1 }:=by rw [hY];rfl
    have hTR:TurnR T x h.ra h.pv (tuT T1 Y) (trS T1 Y) 0:=Or.inr (Or.inr ⟨fun h=>hra h.2,hs,T1,k1,n1,l1.take m1,0,hpre,Or.inr ⟨rfl,by rw [hY],by rw [hY],rfl⟩⟩)
    rw [eS] at hTR
    unfold rbM seL at hTu
    rw [show Y.id = x.id by rw [hY],show Y.root = x.root by rw [hY],show Y.mine = x.mine by rw [hY],show Y.hs = x.hs by rw [hY],show Y.sk = x.sk by rw [hY],show Y.sn = x.sn by rw [hY],show Y.pv = x.pv by rw [hY],show Y.th = h.ra by rw [hY],show Y.hr = x.hr by rw [hY],show Y.rk = k1 by rw [hY],show Y.rn = n1 by rw [hY],show Y.fi = x.fi by rw [hY],show Y.ag = x.ag by rw [hY],show Y.sg = x.sg by rw [hY],show Y.ba = x.ba by rw [hY],show Y.oc = x.oc by rw [hY]] at hTu
    repeat (refine sd ?_)
    refine Call.intro hTu [(1000,(1000,0,none)),(1001,(211,0,none)),(1005,(306,0,none))] rfl ?_ rfl ?_ rfl ?_
    ·exact fc
    ·exact fc
    rintro v M' ⟨n2,c2,hn2,hc2,rfl,rfl⟩
    dsimp only [zt,zM,zE,ren,zz,zx,zy,look,zG,zX,ev,evL,zV,zcT,zcF,act,zP,zO,Ent.zW]
    repeat (first | (refine zB.intro (fun _=>?_) (fun hn=>absurd rfl hn)) | (refine ky0 ?_) | (refine kn0 ?_) | (refine sd ?_))
    refine ⟨⟨tuT T1 Y,{ id:=x.id,root:=tuR T1 Y,mine:=x.mine,hs:=false,sk:=x.sk,sn:=x.sn,pv:=x.pv,th:=h.ra,hr:=true,rk:=tuK T1 Y,rn:=0,fi:=false,ag:=z32,sg:=z32,ba:=z32,oc:=0,kp:=l1.take m1 },[],0,l1,n2,c2,N1,m1⟩,⟨hTR,hn2,hc2,by show n2 <= _;omega,hvT,⟨h1,hkR,h3,h4,f5,hkK,zlz,zlz,zlz,fun y hy=>hlo1 y (List.mem_of_mem_take hy)⟩,hl1,hm1,hN1,hlo1,rfl⟩,Le.intro [(204,(204,0,none)),(205,(205,0,none)),(206,(206,0,none)),(208,(208,0,none)),(219,(219,0,none)),(214,(214,0,none)),(212,(306,0,none))] rfl ?_ rfl ?_ rfl⟩
    ·exact fc
    ·repeat' (first | (show zA _;first | exact trivial | refine zA.app ?_ ?_ | refine zA.zd ?_ ?_ | refine zA.cons ?_ ?_) | exact fd | fail)
     all_goals first | exact Bool.false_ne_true | exact iff_of_true rfl trivial | exact iff_of_false Bool.false_ne_true (fun h=>h)
   ·have hra:=Classical.not_not.1 hra
    have hra:h.ra = x.th:=hra
    repeat (refine sd ?_)
    refine ⟨⟨T,x,[],0,l,N,c,Nl,ml⟩,⟨Or.inl ⟨hr,hra,rfl,rfl,rfl⟩,hT,hNc,by show N <= _;omega,hTv,hx,hNl,hml,by show Nl <= _;omega,hlO,hkp⟩,Le.intro [(204,(4,0,none)),(205,(5,0,none)),(206,(6,0,none)),(208,(8,0,none)),(219,(11,0,none)),(214,(14,0,none)),(212,(1001,0,none))] rfl ?_ rfl ?_ rfl⟩
    ·exact fc
    ·exact fc
 rintro ⟨T2,X,k0,w0,l2,n2,c2,N2,m2⟩ ⟨hTR,hn2,hc2,hN2,hv2,hXo,hl2,hm2,hN3,hlo2,hkp2⟩
 have hTR:TurnR T x h.ra h.pv T2 X 0:=hTR
 have hn2:T2.length = n2:=hn2
 have hc2:n2 <= c2:=hc2
 have hN2:n2 <= N + 50:=hN2
 have hv2:∀ y ∈ T2,Valid y.1 y.2:=hv2
 have hXo:X.OK:=hXo
 have hl2:l2.length = N2:=hl2
 have hm2:m2 <= N2:=hm2
 have hN3:N2 <= Nl + 16:=hN3
 have hlo2:∀ y ∈ l2,KpOK y:=hlo2
 have hkp2:X.kp = l2.take m2:=hkp2
 have hXo':=hXo
 obtain ⟨g1,g2,g3,g4,g5,g6,g7,g8,g9,_⟩:=hXo'
 have i6:X.kp.length <= N2:=by rw [hkp2,zlT];omega
 have hSk:=fnRSkipF T2 n2 c2 hn2 (by omega) hc2 hv2 X.rk g6 X.rn X.th g5 h.n l2 N2 m2 hl2 hm2 (by omega) hlo2
 rw [<- hkp2] at hSk
 unfold rbM at hSk
 repeat (refine sd ?_)
 refine Call.name [(0,[]),(0,[]),(0,[]),(0,[]),(2004,[])] rfl fc (CallP.intro hSk [(1000,(1000,0,none)),(1001,(212,0,none)),(1003,(2004,0,none)),(1005,(317,0,none)),(1006,(318,0,none))] rfl fc rfl ?_ rfl ?_)
 ·exact fc
 rintro v M' ⟨T1,k1,n1,L1,e1,nt,ct,hnt,hct,hres,hv⟩
 obtain ⟨i1,i2,i3,i4,i5⟩:=skr_info hres g6 g5 hXo.kp hv2
 rcases hv with ⟨he,hL1,rfl,rfl⟩ | ⟨rfl,m1,cc,hmc,hL1,rfl,rfl⟩
 ·dsimp only [zt,zM,zE,ren,zz,zx,zy,look,zG,zX,ev,evL,zV,zcT,zcF,act,zP,zO,Ent.zW]
  repeat (refine sd ?_)
  refine zB.intro (fun _=>?_) (fun hn=>absurd he hn)
  repeat (refine sd ?_)
  refine Ret.intro (.tup [.agg (seL x (.isl 0 ml 65 [(Nl * 65,.arr Nl 65 (kpF l))])),.isl 0 0 1 [(0,.a8 [])],.i .i64 e1]) ((1001,.dead) :: (1003,.mem false 0 [(n,.a8 B)]) :: rbM nt ct T1 1005) [(1005,(317,0,none))] rfl ?_
   ⟨T1,x,none,e1,nt,ct,l,Nl,ml,0,Or.inr (Or.inr ⟨hid,hG,T1,X,z32,e1,Or.inr ⟨hf,T2,X,0,hTR,Or.inr ⟨rfl,T1,k1,n1,L1,e1,hres,Or.inl ⟨he,rfl,rfl,rfl,rfl⟩⟩⟩,Or.inl ⟨he,rfl,rfl,rfl,rfl⟩⟩),hnt,hct,(by omega),⟨i4,hx⟩,hNl,hml,by omega,hkp,hlO,rfl,by omega,rfl,rfl⟩ rfl ?_ rfl ?_ rfl
  ·exact fc
  ·repeat' (first | (show zA _;first | exact trivial | refine zA.app ?_ ?_ | refine zA.zd ?_ ?_ | refine zA.cons ?_ ?_) | exact fd | fail)
   all_goals exact ⟨rfl,rfl,trivial⟩
  ·exact fc
 have hNx:=fnRNextF T1 nt ct hnt (by omega) hct i4 k1 i1 n1
 have hkN:=zk (nxN T1 k1)
 have hkK:=zk (nxK T1 k1)
 have hlx:=(nxT_len T1 k1).2
 unfold rbM at hNx
 dsimp only [zt,zM,zE,ren,zz,zx,zy,look,zG,zX,ev,evL,zV,zcT,zcF,act,zP,zO,Ent.zW]
 repeat (refine sd ?_)
 repeat (first | (refine zB.intro (fun _=>?_) (fun hn=>absurd rfl hn)) | (refine ky0 ?_) | (refine kn0 ?_) | (refine sd ?_))
 refine Call.intro hNx [(1000,(1000,0,none)),(1001,(317,0,none)),(1005,(319,0,none))] rfl ?_ rfl ?_ rfl ?_
 ·exact fc
 ·exact fc
 rintro v M' (⟨hsn,rfl,rfl⟩ | ⟨hsn,n4,c4,hn4,hc4,rfl,rfl⟩)
 ·dsimp only [zt,zM,zE,ren,zz,zx,zy,look,zG,zX,ev,evL,zV,zcT,zcF,act,zP,zO,Ent.zW]
  repeat (first | (refine zB.intro (fun _=>?_) (fun hn=>absurd rfl hn)) | (refine ky0 ?_) | (refine kn0 ?_) | (refine sd ?_))
  refine zB.intro (fun _=>?_) (fun h=>absurd (by decide) h)
  repeat (refine sd ?_)
  refine Ret.intro (.tup [.agg (seL x (.isl 0 ml 65 [(Nl * 65,.arr Nl 65 (kpF l))])),.isl 0 0 1 [(0,.a8 [])],.i .i64 7]) ((1001,.dead) :: (1003,.mem false 0 [(n,.a8 B)]) :: rbM nt ct T1 1005) [(1005,(319,0,none))] rfl ?_
   ⟨T1,x,none,7,nt,ct,l,Nl,ml,0,Or.inr (Or.inr ⟨hid,hG,T1,X,z32,7,Or.inr ⟨hf,T2,X,0,hTR,Or.inr ⟨rfl,T1,k1,n1,L1,0,hres,Or.inr (Or.inl ⟨rfl,hsn,rfl,rfl,rfl,rfl⟩)⟩⟩,Or.inl ⟨by decide,rfl,rfl,rfl,rfl⟩⟩),hnt,hct,(by omega),⟨i4,hx⟩,hNl,hml,by omega,hkp,hlO,rfl,by omega,rfl,rfl⟩ rfl ?_ rfl ?_ rfl
  ·exact fc
  ·repeat' (first | (show zA _;first | exact trivial | refine zA.app ?_ ?_ | refine zA.zd ?_ ?_ | refine zA.cons ?_ ?_) | exact fd | fail)
   all_goals exact ⟨rfl,rfl,trivial⟩
  ·exact fc
 ·dsimp only [zt,zM,zE,ren,zz,zx,zy,look,zG,zX,ev,evL,zV,zcT,zcF,act,zP,zO,Ent.zW]
  repeat (first | (refine zB.intro (fun _=>?_) (fun hn=>absurd rfl hn)) | (refine ky0 ?_) | (refine kn0 ?_) | (refine sd ?_))
  refine ⟨⟨nxT T1 k1,{ X with rk:=kyB (nxN T1 k1),rn:=n1 + 1,kp:=L1 },kyB (nxK T1 k1),0,L1,n4,c4,m1,m1⟩,⟨hn4,hc4,by show n4 <= _;omega,nxT_valid i4 k1,⟨g1,g2,g3,g4,g5,hkN,g7,g8,g9,i2⟩,hL1,Nat.le_refl _,by show m1 <= _;omega,(List.take_of_length_le (l:=L1) (i:=m1) (by omega)).symm,i2,hkK,Or.inr ⟨hf,T2,X,0,hTR,Or.inr ⟨rfl,T1,k1,n1,L1,0,hres,Or.inr (Or.inr ⟨rfl,hsn,rfl,rfl,rfl,rfl⟩)⟩⟩⟩,Le.ghost [.keep 318,.ice 205 16] [] [(204,(204,0,none)),(205,(205,0,none)),(206,(206,0,none)),(208,(208,0,none)),(219,(219,0,none)),(214,(214,0,none)),(213,(319,0,none))] rfl ?_ rfl rfl ?_ rfl ?_ rfl⟩
  ·exact fc
  ·exact fc
  ·exact fc
end Go.Proofs.YtfnmgbillkiabaaGreat
