/- What the functions of the program compute. No condition. -/
import Derived.Test.YtfnmgbillkiabaaGreatHwZa6ToZa6
import Derived.Test.YtfnmgbillkiabaaGreatHwZa4ToZa4
import Derived.Test.YtfnmgbillkiabaaGreatHwRb4ToNm
import Derived.Test.YtfnmgbillkiabaaGreatHx7
import Derived.Test.YtfnmgbillkiabaaGreatHwCh11ToSz
set_option linter.unusedSimpArgs false
set_option linter.unusedVariables false
set_option maxRecDepth 100000
namespace Go.Proofs.YtfnmgbillkiabaaGreat
open Go Go.Sx
def roPost (T:List Te) (x:Se) (h:Hd) (B:List UInt8) (N Nl n:Nat) (v:SV) (M:Mm):Prop:=
 ∃ T' x' p e n' c' le Ne me kq,OpenR T x h B T' x' p e/\T'.length = n'/\n' <= c'/\n' <= N + 101/\((∀ y ∈ T',Valid y.1 y.2)/\x'.OK)/\le.length = Ne/\me <= Ne/\Ne <= Nl + 40/\x'.kp = le.take me/\(∀ y ∈ le,KpOK y) /\
   (p.getD []).length = kq/\kq <= 1024/\v = .tup [.agg (seL x' (.isl 0 me 65 [(Ne * 65,.arr Ne 65 (kpF le))])),.isl 0 kq 1 [(kq,.a8 (p.getD []))],.i .i64 e]/\M = (1001,.dead) :: (1003,.mem false 0 [(n,.a8 B)]) :: rbM n' c' T' 1005
set_option maxHeartbeats 8000000 in
theorem roTail (T:List Te) (N c:Nat) (hT:T.length = N) (hN:N <= 39000) (x:Se) (hx:x.OK) (l:List Kp) (Nl ml:Nat) (hNl:l.length = Nl) (hml:ml <= Nl) (hNl1:Nl <= 90000) (hlO:∀ x ∈ l,KpOK x) (hkp:x.kp = l.take ml)
  (h:Hd) (hh:h.OK) (hG:hdG h) (B:List UInt8) (n:Nat) (hB:B.length = n) (hn:n <= 1000000) (hid:h.ss = x.id)
  (T1:List Te) (n1 c1:Nat) (hn1:T1.length = n1) (hc1:n1 <= c1) (hN1:n1 <= N + 100) (hv1:∀ y ∈ T1,Valid y.1 y.2) (X:Se) (hX:X.OK) (le:List Kp) (Ne me:Nat) (hle:le.length = Ne) (hme:me <= Ne) (hNe:Ne <= Nl + 40) (hkX:X.kp = le.take me) (hleO:∀ y ∈ le,KpOK y)
  (row:List UInt8) (hrow:row.length = 32) (hF:FindR T x h.ra h.n h.pv T1 X row 0) :
  Tail Γ [1000012,1000023,1000036,1000048] Tryz.f17 48 (keysM ((1003,.mem false 0 [(n,.a8 B)]) :: rbM N c T 1001)) [(3,.slx 1003 0 0 n),(4,.ptr 204 0 none),(5,.ptr 205 0 none),(6,.ptr 206 0 none),(8,.ptr 208 0 none),(11,.ptr 219 0 none),(14,.ptr 214 0 none)] [(204,.mem true 0 [(1,.ptr 1000 0 none)]),(205,.mem true 0 (seL X (.isl 0 me 65 [(Ne * 65,.arr Ne 65 (kpF le))]))),(206,.mem true 0 [(32,.a8 h.ss),(1,.bool (h.fi = true)),(32,.a8 h.ag),(32,.a8 h.sg),(32,.a8 h.ba),(1,.u16 h.id),(32,.a8 h.ra),(1,.u16 h.n),(1,.u16 h.pv)]),(208,.mem true 0 zsL),(219,.mem true 0 (seL x (.isl 0 ml 65 [(Nl * 65,.arr Nl 65 (kpF l))]))),(214,.mem true 0 [(32,.a8 row)]),(1003,.mem false 0 [(n,.a8 B)]),(1000,.mem true 0 [(1,.sl 213 0 0 n1 c1)]),(1001,.dead),(213,.mem true (zmE (c1 - n1) 2) [(n1 * 2,.arr n1 2 (rtF T1))])] (roPost T x h B N Nl n):=by
 have hX':=hX
 obtain ⟨g1,g2,g3,g4,g5,g6,g7,g8,g9,_⟩:=hX'
 have hx':=hx
 obtain ⟨h1,h2,h3,h4,h5,h6,h7,h8,h9,_⟩:=hx'
 have hBl:=hdB_le hh
 have hv2:∀ y ∈ (mx2 T1 75 row (hdB h)).1,Valid y.1 y.2:=mx2_valid hv1 _ _ _
 have hl2:=(mx2_len T1 75 row (hdB h)).2
 have hLK:=fn49 T1 n1 c1 hn1 (by omega) hc1 hv1 row hrow h hh hG _ _ rfl rfl
 obtain ⟨T2,hT2⟩:∃ T2,(mx2 T1 75 row (hdB h)).1 = T2:=⟨_,rfl⟩
 obtain ⟨o,ho⟩:∃ o,(mx2 T1 75 row (hdB h)).2 = o:=⟨_,rfl⟩
 rw [hT2] at hv2 hl2
 rw [hT2,ho] at hLK
 have hko:=zk o
 obtain ⟨f1,f2,f3,f4,f5⟩:=hh
 unfold rbM hdV at hLK
 refine Draw.intro [[],[],[],[],[1,2,3],[],[0,1,2,3,4,5],[0,1,2,3,4,5,6],[0,1,2,3,4,5,6,7],[0,1,2,3,4,5,6,7],[0,1,2,3,4,5,6,7,8],[0,1,2,3,4,5,6,7,8,9,10]] [0,1,2,3,5,4,6,7,8,9,10,11] (by kernel_rfl) ?_
 repeat (first | (refine Grow.turn rfl rfl ?_) | (refine sd ?_))
 refine Call.intro hLK [(1000,(1000,0,none)),(1001,(213,0,none)),(1005,(307,0,none))] rfl ?_ rfl ?_ rfl ?_
 ·exact fc
 ·exact fc
 rintro v M' ⟨n2,c2,hn2,hc2,rfl,rfl⟩
 dsimp only [zt,zM,zE,ren,zz,zx,zy,look,zG,zX,ev,evL,zV,zcT,zcF,act,zP,zO,Ent.zW]
 repeat (first | (refine Grow.turn rfl rfl ?_) | (refine sd ?_))
 have hOp:=fnROpenF T2 n2 hn2 (by omega) hv2 (kyB o) B n hko hB hn
 refine Call.intro hOp [(1000,(1000,0,none)),(1001,(307,0,none)),(1003,(1003,0,none))] rfl ?_ rfl ?_ rfl ?_
 ·exact fc
 ·exact fc
 rintro v M' (⟨hq,rfl,rfl⟩ | ⟨q,k,hq,hk,hk1,rfl,rfl⟩)
 ·dsimp only [zt,zM,zE,ren,zz,zx,zy,look,zG,zX,ev,evL,zV,zcT,zcF,act,zP,zO,Ent.zW]
  repeat (first | (refine Grow.turn rfl rfl ?_) | (refine sd ?_))
  repeat (first | (refine zB.intro (fun _=>?_) (fun hn=>absurd rfl hn)) | (refine ky0 ?_) | (refine kn0 ?_) | (refine sd ?_))
  repeat (refine sd ?_)
  refine Ret.intro (.tup [.agg (seL x (.isl 0 ml 65 [(Nl * 65,.arr Nl 65 (kpF l))])),.isl 0 0 1 [(0,.a8 [])],.i .i64 182]) ((1001,.dead) :: (1003,.mem false 0 [(n,.a8 B)]) :: rbM n2 c2 T2 1005) [(1005,(307,0,none))] rfl ?_
   ⟨T2,x,none,182,n2,c2,l,Nl,ml,0,Or.inr (Or.inr ⟨hid,hG,T1,X,row,0,hF,Or.inr ⟨rfl,hT2.symm,by rw [ho,hn2];exact hq.symm,Or.inl ⟨rfl,rfl,rfl⟩⟩⟩),hn2,hc2,(by omega),⟨hv2,hx⟩,hNl,hml,by omega,hkp,hlO,rfl,by omega,rfl,rfl⟩ rfl ?_ rfl ?_ rfl
  ·exact fc
  ·repeat' (first | (show zA _;first | exact trivial | refine zA.app ?_ ?_ | refine zA.zd ?_ ?_ | refine zA.cons ?_ ?_) | exact fd | fail)
   all_goals exact ⟨rfl,rfl,trivial⟩
  ·exact fc
 ·dsimp only [zt,zM,zE,ren,zz,zx,zy,look,zG,zX,ev,evL,zV,zcT,zcF,act,zP,zO,Ent.zW]
  repeat (first | (refine Grow.turn rfl rfl ?_) | (refine sd ?_))
  repeat (first | (refine zB.intro (fun _=>?_) (fun hn=>absurd rfl hn)) | (refine ky0 ?_) | (refine kn0 ?_) | (refine sd ?_))
  refine Ret.intro (.tup [.agg (seL X (.isl 0 me 65 [(Ne * 65,.arr Ne 65 (kpF le))])),.isl 0 k 1 [(k,.a8 q)],.i .i64 0]) ((1001,.dead) :: (1003,.mem false 0 [(n,.a8 B)]) :: rbM n2 c2 T2 1005) [(1005,(307,0,none))] rfl ?_
   ⟨T2,X,some q,0,n2,c2,le,Ne,me,k,Or.inr (Or.inr ⟨hid,hG,T1,X,row,0,hF,Or.inr ⟨rfl,hT2.symm,by rw [ho,hn2];exact hq.symm,Or.inr ⟨by simp,rfl,rfl⟩⟩⟩),hn2,hc2,by omega,⟨hv2,hX⟩,hle,hme,hNe,hkX,hleO,hk,hk1,rfl,rfl⟩ rfl ?_ rfl ?_ rfl
  ·exact fc
  ·exact fc
  ·exact fc
set_option maxHeartbeats 1000000 in
theorem fnRSkipF (T:List Te) (nt ct:Nat) (hT:T.length = nt) (hNt:nt <= 40000) (hNct:nt <= ct) (hTv:∀ x ∈ T,Valid x.1 x.2) (key:List UInt8) (hk:key.length = 32) (n:UInt16) (r:List UInt8) (hr:r.length = 32) (to:UInt16) (l:List Kp) (N m:Nat) (hN:l.length = N) (hm:m <= N) (hN1:N <= 1000000) (hOK:∀ x ∈ l,KpOK x) :
  Sx.Fn Γ.P 45 [.agg [(1,.ptr 1000 0 none)],.agg [(32,.a8 key),(1,.u16 n)],.a8 r,.u16 to,.slx 1003 0 0 m] ([(1003,.mem false 0 [(N * 65,.arr N 65 (kpF l))])] ++ rbM nt ct T 1001)
  (fun v M=>∃ T' k' n' L' e nt' ct',T'.length = nt'/\nt' <= ct'/\SkRes true T key r n to (l.take m) T' k' n' L' e/\((e ≠ 0/\L' = l.take m/\v = .tup [.agg [(32,.a8 k'),(1,.u16 n')],.slx 1003 0 0 m,.i .i64 e]/\M = [(1003,.mem false 0 [(N * 65,.arr N 65 (kpF l))]),(1006,.mem true 0 [(0,.arr 0 65 (kpF []))])] ++ ((1001,.dead) :: rbM nt' ct' T' 1005)) \/
   (e = 0/\∃ m' c,m' <= c/\L'.length = m'/\v = .tup [.agg [(32,.a8 k'),(1,.u16 n')],.sl 1006 0 0 m' c,.i .i64 e] /\
   M = [(1003,.mem false 0 [(N * 65,.arr N 65 (kpF l))]),(1006,.mem true (zmE (c - m') 65) [(m' * 65,.arr m' 65 (kpF L'))])] ++ ((1001,.dead) :: rbM nt' ct' T' 1005)))):=by
 have hlm:(l.take m).length = m:=by rw [zlT];omega
 have hOKm:∀ x ∈ l.take m,KpOK x:=fun x hx=>hOK x (List.mem_of_mem_take hx)
 unfold rbM
 refine fn_of (Γ:=Γ) (fn:=Tryz.f45) rfl rfl rfl rfl ?_
 have ht1:=to.toNat_lt
 have ht2:=n.toNat_lt
 repeat (refine sd ?_)
 refine zB.intro (fun hc=>?_) (fun hc=>?_)
 ·have hc:to < n:=hc
  rw [u16_lt] at hc
  repeat (refine sd ?_)
  refine Ret.ghost [.own 450 [(0,.arr 0 65 (kpF []))]] [] rfl ⟨rfl,rfl,trivial⟩ rfl (.tup [.agg [(32,.a8 key),(1,.u16 n)],.slx 1003 0 0 m,.i .i64 180]) ([(1003,.mem false 0 [(N * 65,.arr N 65 (kpF l))]),(1006,.mem true 0 [(0,.arr 0 65 (kpF []))])] ++ ((1001,.dead) :: rbM nt ct T 1005)) [(1006,(450,0,none)),(1005,(1001,0,none))] rfl ?_ ⟨T,key,n,l.take m,180,nt,ct,hT,hNct,Or.inl ⟨by omega,rfl,rfl,rfl,rfl,rfl⟩,Or.inl ⟨by decide,rfl,rfl,rfl⟩⟩ rfl ?_ rfl ?_ rfl
  ·exact fc
  ·exact fc
  ·repeat' (first | (show zA _;first | exact trivial | refine zA.app ?_ ?_ | refine zA.zd ?_ ?_ | refine zA.cons ?_ ?_) | exact fd | fail)
   all_goals exact fun _ _=>rfl
 have hc:¬ to < n:=hc
 rw [u16_lt] at hc
 repeat (refine sd ?_)
 refine zB.intro (fun hc2=>?_) (fun hc2=>?_)
 ·have hc2:(16:Int) < (to.toNat:Int) - (n.toNat:Int) + m:=hc2
  repeat (refine sd ?_)
  refine Ret.ghost [.own 450 [(0,.arr 0 65 (kpF []))]] [] rfl ⟨rfl,rfl,trivial⟩ rfl (.tup [.agg [(32,.a8 key),(1,.u16 n)],.slx 1003 0 0 m,.i .i64 181]) ([(1003,.mem false 0 [(N * 65,.arr N 65 (kpF l))]),(1006,.mem true 0 [(0,.arr 0 65 (kpF []))])] ++ ((1001,.dead) :: rbM nt ct T 1005)) [(1006,(450,0,none)),(1005,(1001,0,none))] rfl ?_ ⟨T,key,n,l.take m,181,nt,ct,hT,hNct,Or.inr (Or.inl ⟨by omega,by omega,rfl,rfl,rfl,rfl,rfl⟩),Or.inl ⟨by decide,rfl,rfl,rfl⟩⟩ rfl ?_ rfl ?_ rfl
  ·exact fc
  ·exact fc
  ·repeat' (first | (show zA _;first | exact trivial | refine zA.app ?_ ?_ | refine zA.zd ?_ ?_ | refine zA.cons ?_ ?_) | exact fd | fail)
   all_goals exact fun _ _=>rfl
 have hc2:¬ (16:Int) < (to.toNat:Int) - (n.toNat:Int) + m:=hc2
 obtain ⟨d,hd⟩:∃ d,to.toNat - n.toNat = d:=⟨_,rfl⟩
 repeat (refine sd ?_)
 refine fun c hc3=>?_
 have hc3:0 + m <= c:=hc3
 repeat (refine sd ?_)
 refine Loop.intro (σ:=Nat × Nat × Nat × Nat) (fun s=>s.1 <= d/\m + s.1 <= s.2.1/\(∀ j,j < s.1->¬ skX true T key r n (l.take m) j)/\(skA true T key s.1).1.length = s.2.2.1/\s.2.2.1 <= s.2.2.2)
  (fun s=>([(3,.u16 to),(4,.slx 1003 0 0 m),(5,.ptr 205 0 none),(6,.ptr 206 0 none),(7,.ptr 207 0 none),(10,.ptr 210 0 none),(13,.ptr 213 0 none),(14,.sl 214 0 0 (m + s.1) s.2.1)],
   [(1003,.mem false 0 [(N * 65,.arr N 65 (kpF l))]),(205,.mem true 0 [(1,.ptr 1000 0 none)]),(206,.mem true 0 [(32,.a8 key),(1,.u16 n)]),(207,.mem true 0 [(32,.a8 r)]),(210,.mem true 0 [(32,.a8 (List.replicate 32 0)),(1,.u16 0)]),
    (213,.mem true 0 [(32,.a8 (skA true T key s.1).2),(1,.u16 (n + UInt16.ofNat s.1))]),(214,.mem true (zmE (s.2.1 - (m + s.1)) 65) [((m + s.1) * 65,.arr (m + s.1) 65 (kpF (skP true T key r n (l.take m) s.1)))]),(1000,.mem true 0 [(1,.sl 211 0 0 s.2.2.1 s.2.2.2)]),(1001,.dead),(211,.mem true (zmE (s.2.2.2 - s.2.2.1) 2) [(s.2.2.1 * 2,.arr s.2.2.1 2 (rtF (skA true T key s.1).1))])]))
  (fun s=>d - s.1) (0,c,nt,ct) ⟨Nat.zero_le _,by show m + 0 <= c;omega,fun j hj=>absurd hj (Nat.not_lt_zero _),by show (skA true T key 0).1.length = nt;rw [skA_zero'];exact hT,hNct⟩ ?_ ?_
 ·refine Le.intro [(205,(5,0,none)),(206,(6,0,none)),(207,(7,0,none)),(210,(10,0,none)),(213,(13,0,none)),(214,(39,0,none)),(211,(1001,0,none))] rfl ?_ rfl ?_ rfl
  ·exact fc
  ·repeat' (first | (show zA _;first | exact trivial | refine zA.app ?_ ?_ | refine zA.zd ?_ ?_ | refine zA.cons ?_ ?_) | exact fd | fail)
   ·show (skA true T key 0).2 = key;rw [skA_zero']
   ·exact u16_zero n
   ·intro q hq
    show kpF (skP true T key r n (l.take m) 0) q = kpF l q
    rw [skP_zero'];exact kpF_take l hq
   ·intro q hq
    show rtF (skA true T key 0).1 q = _;rw [skA_zero']
 rintro ⟨i,ci,ni,cti⟩ ⟨hi,hci,hX,hni2,hcti⟩
 have hi:i <= d:=hi
 have hci:m + i <= ci:=hci
 have hX:∀ j,j < i->¬ skX true T key r n (l.take m) j:=hX
 have hni2:(skA true T key i).1.length = ni:=hni2
 have hcti:ni <= cti:=hcti
 have htl:=skA_tlen true T key i
 have hval:=skA_valid true hTv key i
 have hni:(n + UInt16.ofNat i).toNat = n.toNat + i:=u16_add (by have:=to.toNat_lt;omega)
 repeat (refine sd ?_)
 refine zB.intro (fun hc4=>?_) (fun hc4=>?_)
 ·have hc4:n + UInt16.ofNat i < to:=hc4
  rw [u16_lt,hni] at hc4
  have hl1:=skK_len true T key i
  have hl2:=skA_klen true T hk (i + 1)
  have hPl:=skP_len true T key r n (l.take m) i
  rw [hlm] at hPl
  have hPo:=skP_ok true T key hr n hOKm i
  repeat (refine sd ?_)
  have hNx:=fnRNextF (skA true T key i).1 ni cti hni2 (by omega) hcti hval (skA true T key i).2 (skA_klen true T hk i) (n + UInt16.ofNat i)
  have eK:kyB (nxK (skA true T key i).1 (skA true T key i).2) = skK true T key i:=(skK_eq true T key i).symm
  have eA:kyB (nxN (skA true T key i).1 (skA true T key i).2) = (skA true T key (i + 1)).2:=by rw [skA_succ];rfl
  have eT:nxT (skA true T key i).1 (skA true T key i).2 = (skA true T key (i + 1)).1:=by rw [skA_succ];rfl
  rw [eK,eA,eT] at hNx
  unfold rbM at hNx
  refine Call.intro hNx [(1000,(1000,0,none)),(1001,(211,0,none)),(1005,(304,0,none))] rfl fc rfl fc rfl ?_
  rintro v M' (⟨he,_⟩ | ⟨hne,n6,c6,hn6,hc6,rfl,rfl⟩)
  ·have:=congrArg UInt16.toNat he
   rw [hni] at this
   have h2:=to.toNat_lt
   have:n.toNat + i = 65535:=this
   omega
  dsimp only [zt,zM,zE,ren,zz,zx,zy,look,zG,zX,ev,evL,zV,zcT,zcF,act,zP,zO,Ent.zW]
  repeat (refine sd ?_)
  refine zB.intro (fun h=>absurd rfl h) (fun _=>?_)
  have hKp:=fn43 (skP true T key r n (l.take m) i) (m + i) (m + i) hPl (Nat.le_refl _) (by omega) hPo r (n + UInt16.ofNat i) hr
  have htk:(skP true T key r n (l.take m) i).take (m + i) = skP true T key r n (l.take m) i:=List.take_of_length_le (by omega)
  rw [htk] at hKp
  repeat (refine sd ?_)
  refine Call.intro hKp [(1003,(214,0,none))] rfl fc rfl fc rfl ?_
  rintro v M' ⟨rfl,rfl⟩
  dsimp only [zt,zM,zE,ren,zz,zx,zy,look,zG,zX,ev,evL,zV,zcT,zcF,act,zP,zO,Ent.zW]
  repeat (refine sd ?_)
  refine zB.intro (fun hx=>?_) (fun hx=>?_)
  ·have hx:0 <= fiI r (n + UInt16.ofNat i) (skP true T key r n (l.take m) i):=hx
   repeat (refine sd ?_)
   refine Ret.ghost [.own 450 [(0,.arr 0 65 (kpF []))]] [] rfl ⟨rfl,rfl,trivial⟩ rfl (.tup [.agg [(32,.a8 key),(1,.u16 n)],.slx 1003 0 0 m,.i .i64 3]) ([(1003,.mem false 0 [(N * 65,.arr N 65 (kpF l))]),(1006,.mem true 0 [(0,.arr 0 65 (kpF []))])] ++ ((1001,.dead) :: rbM n6 c6 (skA true T key (i + 1)).1 1005)) [(1006,(450,0,none)),(1005,(304,0,none))] rfl ?_ ⟨(skA true T key (i + 1)).1,key,n,l.take m,3,n6,c6,hn6,hc6,Or.inr (Or.inr (Or.inl ⟨by omega,by omega,⟨i,by omega,hx,hX,rfl⟩,rfl,rfl,rfl,rfl⟩)),Or.inl ⟨by decide,rfl,rfl,rfl⟩⟩ rfl ?_ rfl ?_ rfl
   ·exact fc
   ·exact fc
   ·repeat' (first | (show zA _;first | exact trivial | refine zA.app ?_ ?_ | refine zA.zd ?_ ?_ | refine zA.cons ?_ ?_) | exact fd | fail)
    all_goals exact fun _ _=>rfl
  have hx:¬ 0 <= fiI r (n + UInt16.ofNat i) (skP true T key r n (l.take m) i):=hx
  repeat (refine sd ?_)
  refine fun c5 hc5=>?_
  have hc5:m + i + 1 <= c5:=hc5
  repeat (refine sd ?_)
  refine ⟨(i + 1,c5,n6,c6),⟨by show i + 1 <= d;omega,by show m + (i + 1) <= c5;omega,fun j hj=>?_,hn6,hc6⟩,by show d - (i + 1) < d - i;omega,Le.intro [(205,(205,0,none)),(206,(206,0,none)),(207,(207,0,none)),(210,(210,0,none)),(213,(213,0,none)),(214,(71,0,none)),(211,(304,0,none))] rfl ?_ rfl ?_ rfl⟩
  ·by_cases hji:j = i
   ·subst hji;exact hx
   ·have hj:j < i + 1:=hj
    exact hX j (by omega)
  ·exact fc
  ·repeat' (first | (show zA _;first | exact trivial | refine zA.app ?_ ?_ | refine zA.zd ?_ ?_ | refine zA.cons ?_ ?_) | exact fd | fail)
   ·exact (u16_succ n i).symm
   ·show ∀ q,q < m + i + 1->kpF (skP true T key r n (l.take m) (i + 1)) q = _
    rw [skP_succ]
    exact appF_kp hPl rfl
 ·have hc4:¬ n + UInt16.ofNat i < to:=hc4
  rw [u16_lt,hni] at hc4
  obtain rfl:i = d:=by omega
  repeat (refine sd ?_)
  have hti:n + UInt16.ofNat i = to:=by apply UInt16.toNat_inj.1;rw [hni];omega
  refine Ret.intro (.tup [.agg [(32,.a8 (skA true T key i).2),(1,.u16 to)],.sl 1006 0 0 (m + i) ci,.i .i64 0]) ([(1003,.mem false 0 [(N * 65,.arr N 65 (kpF l))]),(1006,.mem true (zmE (ci - (m + i)) 65) [((m + i) * 65,.arr (m + i) 65 (kpF (skP true T key r n (l.take m) i)))])] ++ ((1001,.dead) :: rbM ni cti (skA true T key i).1 1005)) [(1006,(214,0,none)),(1005,(211,0,none))] rfl ?_ ⟨(skA true T key i).1,(skA true T key i).2,to,skP true T key r n (l.take m) i,0,ni,cti,hni2,hcti,Or.inr (Or.inr (Or.inr ⟨by omega,by omega,fun j hj=>hX j (by omega),by rw [hd],by rw [hd],rfl,by rw [hd],rfl⟩)),Or.inr ⟨rfl,m + i,ci,hci,by rw [skP_len,hlm],rfl,rfl⟩⟩ rfl ?_ rfl ?_ rfl
  ·exact fc
  ·exact fc
  ·exact fc
end Go.Proofs.YtfnmgbillkiabaaGreat
