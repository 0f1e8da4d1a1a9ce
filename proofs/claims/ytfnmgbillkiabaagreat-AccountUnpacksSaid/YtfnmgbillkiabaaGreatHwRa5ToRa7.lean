/- What the functions of the program compute. No condition. -/
import Derived.Test.YtfnmgbillkiabaaGreatHwRa4ToRa4
set_option linter.unusedSimpArgs false
set_option linter.unusedVariables false
set_option maxRecDepth 100000
namespace Go.Proofs.YtfnmgbillkiabaaGreat
open Go Go.Sx
set_option maxHeartbeats 1000000 in
theorem fnClone (l:List Kp) (N n:Nat) (hN:l.length = N) (hn:n <= N) (hN1:N <= 1000000) :
  Sx.Fn Γ.P 78 [.slx 1003 0 0 n] [(1003,.mem false 0 [(N * 65,.arr N 65 (kpF l))])]
  (fun v M=>∃ c,n <= c/\v = .sl 1006 0 0 n c/\M = [(1003,.mem false 0 [(N * 65,.arr N 65 (kpF l))]),(1006,.mem true (zmE (c - n) 65) [(n * 65,.arr n 65 (kpF (l.take n)))])]):=by
 refine fn_of (Γ:=Γ) (fn:=Tryz.f78) rfl rfl rfl rfl ?_
 repeat (refine sd ?_)
 refine fun p hp=>?_
 repeat (refine sd ?_)
 refine zB.intro (fun hc=>?_) (fun hc=>?_)
 ·have h0:n = 0:=by
   rcases Nat.eq_zero_or_pos n with h | h
   ·exact h
   ·exact absurd hc (hp h)
  subst h0
  repeat (refine sd ?_)
  refine Ret.ghost [.own 450 [(0,.arr 0 65 (kpF []))]] [(2,450)] rfl ⟨rfl,rfl,trivial⟩ rfl (.sl 1006 0 0 0 0) [(1003,.mem false 0 [(N * 65,.arr N 65 (kpF l))]),(1006,.mem true (zmE (0 - 0) 65) [(0 * 65,.arr 0 65 (kpF (l.take 0)))])] [(1006,(450,0,none))] rfl ?_ ⟨0,Nat.le_refl _,rfl,rfl⟩ rfl ?_ rfl ?_ rfl
  ·exact fc
  ·exact fc
  ·exact fc
 ·repeat (refine sd ?_)
  refine fun c hc=>?_
  have hc:0 + n <= c:=hc
  repeat (refine sd ?_)
  refine Ret.intro (.sl 1006 0 0 n c) [(1003,.mem false 0 [(N * 65,.arr N 65 (kpF l))]),(1006,.mem true (zmE (c - n) 65) [(n * 65,.arr n 65 (kpF (l.take n)))])] [(1006,(7,0,none))] rfl ?_ ⟨c,by omega,rfl,rfl⟩ rfl ?_ rfl ?_ rfl
  ·exact fc
  ·exact fc
  ·repeat' (first | (show zA _;first | exact trivial | refine zA.app ?_ ?_ | refine zA.zd ?_ ?_ | refine zA.cons ?_ ?_) | exact fd | fail)
   all_goals exact fun q hq=>(kpF_take l hq)
set_option maxHeartbeats 400000 in
theorem fnOwn (l:List Kp) (N n:Nat) (hN:l.length = N) (hn:n <= N) (hN1:N <= 1000000)
  (a1 a2 a3:List UInt8) (b1:Prop) (a4:List UInt8) (n1 n2:UInt16) (a5:List UInt8) (b2:Prop) (a6:List UInt8) (n3:UInt16) (b3:Prop) (a7 a8 a9:List UInt8) (n4:UInt16)
  (h1:a1.length = 32) (h2:a2.length = 32) (h3:a3.length = 32) (h4:a4.length = 32) (h5:a5.length = 32) (h6:a6.length = 32) (h7:a7.length = 32) (h8:a8.length = 32) (h9:a9.length = 32) :
  Sx.Fn Γ.P 37 [.agg [(32,.a8 a1),(32,.a8 a2),(32,.a8 a3),(1,.bool b1),(32,.a8 a4),(1,.u16 n1),(1,.u16 n2),(32,.a8 a5),(1,.bool b2),(32,.a8 a6),(1,.u16 n3),(1,.bool b3),(32,.a8 a7),(32,.a8 a8),(32,.a8 a9),(1,.u16 n4),(1,.isl 0 n 65 [(N * 65,.arr N 65 (kpF l))])]] []
  (fun v M=>v = .agg [(32,.a8 a1),(32,.a8 a2),(32,.a8 a3),(1,.bool b1),(32,.a8 a4),(1,.u16 n1),(1,.u16 n2),(32,.a8 a5),(1,.bool b2),(32,.a8 a6),(1,.u16 n3),(1,.bool b3),(32,.a8 a7),(32,.a8 a8),(32,.a8 a9),(1,.u16 n4),(1,.isl 0 n 65 [(n * 65,.arr n 65 (kpF (l.take n)))])]/\M = []):=by
 refine fn_of (Γ:=Γ) (fn:=Tryz.f37) rfl rfl rfl rfl ?_
 repeat (refine sd ?_)
 refine Call.name [(2001,[])] rfl fc (CallP.intro (fnClone l N n hN hn hN1) [(1003,(2001,0,none)),(1006,(306,0,none))] rfl fc rfl ?_ rfl ?_)
 ·exact fc
 rintro v M' ⟨c,hc,rfl,rfl⟩
 dsimp only [zt,zM,zE,ren,zz,zx,zy,look,zG,zX,ev,evL,zV,zcT,zcF,act,zP,zO,Ent.zW]
 repeat (refine sd ?_)
 refine Ret.ghost [.keep 306,.ice 2 16] [] rfl ?_ rfl (.agg [(32,.a8 a1),(32,.a8 a2),(32,.a8 a3),(1,.bool b1),(32,.a8 a4),(1,.u16 n1),(1,.u16 n2),(32,.a8 a5),(1,.bool b2),(32,.a8 a6),(1,.u16 n3),(1,.bool b3),(32,.a8 a7),(32,.a8 a8),(32,.a8 a9),(1,.u16 n4),(1,.isl 0 n 65 [(n * 65,.arr n 65 (kpF (l.take n)))])]) [] [] rfl ?_ ⟨rfl,rfl⟩ rfl ?_ rfl ?_ rfl
 ·exact fc
 ·exact fc
 ·exact fc
 ·exact fc
theorem jnR_le34 {L:List (List UInt8)} (h:∀ x ∈ L,x.length <= 32):(jnR L).length <= 34 * L.length:=by
 induction L with
 | nil=>exact Nat.le_refl 0
 | cons x r ih=>
  have h1:=h x (List.mem_cons_self)
  have h2:=ih fun y hy=>h y (List.mem_cons_of_mem _ hy)
  show ([UInt8.ofNat (x.length / 256),UInt8.ofNat x.length] ++ x ++ jnR r).length <= 34 * (r.length + 1)
  simp only [zlA,List.length_cons,List.length_nil]
  omega
theorem hdB_le {h:Hd} (k:h.OK):(hdB h).length <= 400:=by
 have h1:=jnR_le34 (hdP_ok k).2
 have h2:(hdP h).length = 9:=rfl
 rw [hdB_eq,jnB_eq,List.length_cons]
 omega
theorem rw2G {p q:List UInt8} {k:Nat} (hq:q.length = k):rwF [p,q] 1 = [(1,.isl 0 k 1 [(k,.a8 q)])]:=rwS_eq1 hq
theorem mx2_neG (T:List Te) (lab:UInt8) {p q:List UInt8} (hp:p.length <= 1024) (hq:q.length <= 1024):(mx2 T lab p q).2 ≠ 0:=mx2_ne T lab hp hq
theorem fnMixG (T:List Te) (N c:Nat) (hT:T.length = N) (hN:N <= 60000) (hNc:N <= c) (hTv:∀ x ∈ T,Valid x.1 x.2) (lab:UInt8) (p q:List UInt8) (hp:p.length <= 1024) (hq:q.length <= 1024) (T1:List Te) (o:Nat) (e1:(mx2 T lab p q).1 = T1) (e2:(mx2 T lab p q).2 = o) :
  Sx.Fn Γ.P 29 [.agg [(1,.ptr 1000 0 none)],.u8 lab,.slx 1003 0 0 2] (MT N c T 1001 2 [p,q])
  (fun v M=>∃ n' c',T1.length = n'/\n' <= c'/\v = .tup [.a8 (kyB o),.bool (o ≠ 0)]/\M = (1001,.dead) :: MT n' c' T1 1005 2 [p,q]):=by
 subst e1;subst e2
 rw [mx2_eq]
 refine fnMixF T N c hT hN hNc hTv lab [p,q] 2 rfl (by omega) (fun x hx=>?_)
 rcases List.mem_cons.1 hx with rfl | hx
 ·exact hp
 ·rw [List.mem_singleton.1 hx];exact hq
set_option maxHeartbeats 2000000 in
theorem fn40 (T:List Te) (N c:Nat) (hT:T.length = N) (hN:N <= 60000) (hNc:N <= c) (hTv:∀ x ∈ T,Valid x.1 x.2) (row:List UInt8) (hr:row.length = 32) (h:Hd) (hk:h.OK) (T1:List Te) (o:Nat) (e1:(mx2 T 75 row (hdB h)).1 = T1) (e2:(mx2 T 75 row (hdB h)).2 = o) :
  Sx.Fn Γ.P 40 [.agg [(1,.ptr 1000 0 none)],.a8 row,hdV h] (tbM N c T 1001)
  (fun v M=>(¬ hdG h/\v = .tup [.a8 (List.replicate 32 0),.i .i64 141]/\M = (1001,.dead) :: tbM N c T 1005) \/
   (hdG h/\∃ n' c',T1.length = n'/\n' <= c'/\v = .tup [.a8 (kyB o),.i .i64 0]/\M = (1001,.dead) :: tbM n' c' T1 1005)):=by
 have hHb:=fn38 h hk
 have hBl:=hdB_le hk
 have hM:=fnMixG T N c hT hN hNc hTv 75 row (hdB h) (by omega) (by omega) T1 o e1 e2
 have hone:o ≠ 0:=by rw [<- e2];exact mx2_neG T 75 (by omega) (by omega)
 obtain ⟨B,hB⟩:∃ B,hdB h = B:=⟨_,rfl⟩
 rw [hB] at hHb hM hBl
 have hkl:=zk o
 obtain ⟨h1,h2,h3,h4,h5⟩:=hk
 unfold MT rwS at hM
 unfold hdV at hHb
 unfold tbM hdV
 refine fn_cut [4] (Γ:=Γ) (fn:=Tryz.f40) rfl rfl rfl rfl ?_
 repeat (refine sd ?_)
 refine Call.intro hHb [(1005,(305,0,none))] rfl ?_ rfl ?_ rfl ?_
 ·exact fc
 ·exact fc
 rintro v M' (⟨hG,rfl,rfl⟩ | ⟨m,c1,hG,hm,hmc,rfl,rfl⟩)
 ·dsimp only [zt,zM,zE,ren,zz,zx,zy,look,zG,zX,ev,evL,zV,zcT,zcF,act,zP,zO,Ent.zW]
  repeat (first | (refine zB.intro (fun _=>?_) (fun hn=>absurd rfl hn)) | (refine ky0 ?_) | (refine kn0 ?_) | (refine sd ?_))
  refine Ret.intro (.tup [.a8 (List.replicate 32 0),.i .i64 141]) ((1001,.dead) :: tbM N c T 1005) [(1005,(1001,0,none))] rfl ?_ (Or.inl ⟨hG,rfl,rfl⟩) rfl ?_ rfl ?_ rfl
  ·exact fc
  ·exact fc
  ·repeat' (first | (show zA _;first | exact trivial | refine zA.app ?_ ?_ | refine zA.zd ?_ ?_ | refine zA.cons ?_ ?_) | exact fd | fail)
   all_goals exact fun _ _=>rfl
 dsimp only [zt,zM,zE,ren,zz,zx,zy,look,zG,zX,ev,evL,zV,zcT,zcF,act,zP,zO,Ent.zW]
 repeat (first | (refine zB.intro (fun _=>?_) (fun hn=>absurd rfl hn)) | (refine ky0 ?_) | (refine kn0 ?_) | (refine sd ?_))
 refine Cut.intro (σ:=Unit) (fun _=>True) (fun _=>([(3,.ptr 203 0 none),(4,.ptr 204 0 none),(6,.ptr 206 0 none),(7,.i .i64 0),(8,.isl 0 m 1 [(m,.a8 B)])],[(203,.mem true 0 [(1,.ptr 1000 0 none)]),(204,.mem false 1 [(32,.a8 row)]),(206,.mem true 0 [(32,.a8 (List.replicate 32 0))]),
  (1000,.mem true 0 [(1,.sl 1001 0 0 N c),(1,.mp 1002)]),(1001,.mem true (zmE (c - N) 3) [(N * 3,.arr N 3 (ttF T))]),(1002,.map (.si (mpL T)))])) () trivial (Le.ghost [.keep 4,.keep 305] [(8,0)] [(203,(3,0,none)),(204,(4,0,none)),(206,(6,0,none))] rfl ?_ rfl rfl ?_ rfl ?_ rfl) ?_
 ·exact fc
 ·exact fc
 ·exact fc
 rintro - -
 refine Draw.intro [[],[],[],[1,2],[0,1,2,3],[0,1,2,3,4],[0,1,2,3,4,5],[0,1,2,3,4,5],[],[0,1,2,3,4,5,6,8],[0,1,2,3,4,5,6,7,8,9],[]] [0,1,2,3,8,4,5,6,7,9,10] (by kernel_rfl) ?_
 refine ⟨?_,?_⟩
 all_goals
  repeat (refine sd ?_)
  refine Call.name [(0,[]),(0,[]),(2001,[])] rfl fc (CallP.intro hM [(1000,(1000,0,none)),(1001,(1001,0,none)),(1002,(1002,0,none)),(1003,(2001,0,none)),(1005,(315,0,none))] rfl fc rfl ?_ rfl ?_)
  ·repeat' (first | (show zA _;first | exact trivial | refine zA.app ?_ ?_ | refine zA.zd ?_ ?_ | refine zA.cons ?_ ?_) | exact fd | fail)
   ·exact rwS_eq0 hr
   ·exact rw2G hm
  rintro v M' ⟨n',c',hn',hnc',rfl,rfl⟩
  dsimp only [zt,zM,zE,ren,zz,zx,zy,look,zG,zX,ev,evL,zV,zcT,zcF,act,zP,zO,Ent.zW]
  have hn1:¬ ¬ (o ≠ 0):=fun h=>h hone
  repeat (first | (refine zB.intro (fun _=>?_) (fun hn=>absurd rfl hn)) | (refine ky0 ?_) | (refine kn0 ?_) | (refine ky ?_) | (refine kn ?_) | (refine sd ?_))
  refine Ret.intro (.tup [.a8 (kyB o),.i .i64 0]) ((1001,.dead) :: tbM n' c' T1 1005) [(1005,(315,0,none))] rfl ?_ (Or.inr ⟨hG,n',c',hn',hnc',rfl,rfl⟩) rfl ?_ rfl ?_ rfl
  ·exact fc
  ·exact fc
  ·exact fc
structure Se where
 id:List UInt8
 root:List UInt8
 mine:List UInt8
 hs:Bool
 sk:List UInt8
 sn:UInt16
 pv:UInt16
 th:List UInt8
 hr:Bool
 rk:List UInt8
 rn:UInt16
 fi:Bool
 ag:List UInt8
 sg:List UInt8
 ba:List UInt8
 oc:UInt16
 kp:List Kp
structure Se.OK (x:Se):Prop where
 id:x.id.length = 32
 root:x.root.length = 32
 mine:x.mine.length = 32
 sk:x.sk.length = 32
 th:x.th.length = 32
 rk:x.rk.length = 32
 ag:x.ag.length = 32
 sg:x.sg.length = 32
 ba:x.ba.length = 32
 kp:∀ k ∈ x.kp,KpOK k
def seL (x:Se) (k:SV):List (Nat × SV):=[(32,.a8 x.id),(32,.a8 x.root),(32,.a8 x.mine),(1,.bool (x.hs = true)),(32,.a8 x.sk),(1,.u16 x.sn),(1,.u16 x.pv),(32,.a8 x.th),(1,.bool (x.hr = true)),(32,.a8 x.rk),(1,.u16 x.rn),(1,.bool (x.fi = true)),(32,.a8 x.ag),(32,.a8 x.sg),(32,.a8 x.ba),(1,.u16 x.oc),(1,k)]
def tuA (T:List Te) (x:Se):List Te × Nat:=agr T T.length x.mine x.th
def tuT (T:List Te) (x:Se):List Te:=roT (tuA T x).1 x.root (kyB (tuA T x).2)
def tuR (T:List Te) (x:Se):List UInt8:=kyB (roR (tuA T x).1 x.root (kyB (tuA T x).2))
def tuK (T:List Te) (x:Se):List UInt8:=kyB (roC (tuA T x).1 x.root (kyB (tuA T x).2))
attribute [irreducible] tuA
theorem tuA_eq (T:List Te) (x:Se):tuA T x = agr T T.length x.mine x.th:=by unfold tuA;rfl
theorem tuA_info {T:List Te} (hTv:∀ y ∈ T,Valid y.1 y.2) {x:Se} (hm:x.mine.length = 32) (ht:x.th.length = 32):(∀ y ∈ (tuA T x).1,Valid y.1 y.2)/\(tuA T x).1.length <= T.length + 1:=by
 obtain ⟨k,p,q,h1,h2,h3,h4,h5⟩:=agr_mk T T.length hm ht
 rw [tuA_eq,h5]
 exact ⟨mk2_valid hTv k p q,(mk2_len T k p q).2⟩
set_option maxHeartbeats 4000000 in
theorem fn84 (T:List Te) (N c:Nat) (hT:T.length = N) (hN:N <= 40000) (hNc:N <= c) (hTv:∀ x ∈ T,Valid x.1 x.2) (x:Se) (hx:x.OK) (k kc:Nat) (kl:List Kp) :
  Sx.Fn Γ.P 84 [.agg [(1,.ptr 1000 0 none)],.ptr 1007 0 none] ((1007,.mem true 0 (seL x (.isl 0 k 65 [(kc * 65,.arr kc 65 (kpF kl))]))) :: tbM N c T 1001)
  (fun v M=>∃ n' c',(tuT T x).length = n'/\n' <= c'/\v = .tup [.agg [(32,.a8 (tuK T x)),(1,.u16 0)],.i .i64 0]/\M = (1001,.dead) :: (1007,.mem true 0 (seL { x with root:=tuR T x } (.isl 0 k 65 [(kc * 65,.arr kc 65 (kpF kl))]))) :: tbM n' c' (tuT T x) 1005):=by
 have hA:=fnAgreeX T N c hT (by omega) hNc hTv x.mine x.th hx.mine hx.th
 obtain ⟨hAv,hAl⟩:=tuA_info hTv hx.mine hx.th
 have eA:=tuA_eq T x
 rw [hT] at eA
 rw [<- eA] at hA
 unfold tuT tuR tuK
 obtain ⟨A,hAe⟩:∃ A,(tuA T x).1 = A:=⟨_,rfl⟩
 obtain ⟨o,hoe⟩:∃ o,(tuA T x).2 = o:=⟨_,rfl⟩
 rw [hAe,hoe] at hA
 rw [hAe] at hAv hAl
 rw [hAe,hoe]
 have hko:=zk o
 have hkR:=zk (roR A x.root (kyB o))
 have hkC:=zk (roC A x.root (kyB o))
 obtain ⟨h1,h2,h3,h4,h5,h6,h7,h8,h9,_⟩:=hx
 unfold tbM at hA
 unfold tbM seL
 refine fn_cut [1000002,1000005] (Γ:=Γ) (fn:=Tryz.f84) rfl rfl rfl rfl ?_
 repeat (refine sd ?_)
 refine Join.intro (σ:=Nat × Nat) (fun s=>A.length = s.1/\s.1 <= s.2) (fun s=>([(1,.ptr 1007 0 none),(2,.ptr 202 0 none),(4,.ptr 204 0 none),(5,.i .i64 0),(6,.ptr 206 0 none),(7,.tt)],[(202,.mem true 0 [(1,.ptr 1000 0 none)]),(204,.mem true 0 [(32,.a8 (List.replicate 32 0)),(1,.u16 0)]),(206,.mem true 0 [(32,.a8 (kyB o))]),
  (1007,.mem true 0 (seL x (.isl 0 k 65 [(kc * 65,.arr kc 65 (kpF kl))]))),(1000,.mem true 0 [(1,.sl 211 0 0 s.1 s.2),(1,.mp 1002)]),(1001,.dead),(211,.mem true (zmE (s.2 - s.1) 3) [(s.1 * 3,.arr s.1 3 (ttF A))]),(1002,.map (.si (mpL A)))])) ?_ ?_
 ·refine Draw.intro [[],[],[1],[1,2],[1,2,3],[],[5],[5,6],[5,6,7],[0,1,2,3,4,5,6,7,8],[0,1,2,3,4,5,6,7,8,9],[0,1,2,3,4,5,6,7,8,9,10],[0,1,2,3,4,5,6,7,8,9,10],[],[0,1,2,3,4,5,6,7,8,9,10,11,13],[0,1,2,3,4,5,6,7,8,9,10,11,12,13,14],[]] [0,1,2,3,4,5,6,7,8,13,9,10,11,12,14,15] (by kernel_rfl) ?_
  repeat (refine sd ?_)
  refine ⟨?_,?_⟩
  all_goals
   repeat (refine sd ?_)
   refine Call.intro hA [(1000,(1000,0,none)),(1001,(1001,0,none)),(1002,(1002,0,none)),(1005,(305,0,none))] rfl ?_ rfl ?_ rfl ?_
   ·exact fc
   ·exact fc
   rintro v M' ⟨n',c',hn',hnc',rfl,rfl⟩
   dsimp only [zt,zM,zE,ren,zz,zx,zy,look,zG,zX,ev,evL,zV,zcT,zcF,act,zP,zO,Ent.zW]
   repeat (refine sd ?_)
   refine ⟨(n',c'),⟨hn',hnc'⟩,Le.intro [(202,(2,0,none)),(204,(4,0,none)),(206,(6,0,none)),(211,(305,0,none))] rfl ?_ rfl ?_ rfl⟩
   ·exact fc
   ·exact fc
 rintro ⟨n1,c1⟩ ⟨hn1,hc1⟩
 have hn1:A.length = n1:=hn1
 have hc1:n1 <= c1:=hc1
 have hRt:=fnRootF A n1 c1 hn1 (by omega) hc1 hAv x.root (kyB o) h2 hko
 unfold tbM at hRt
 repeat (first | (refine zB.intro (fun _=>?_) (fun hn=>absurd rfl hn)) | (refine ky0 ?_) | (refine kn0 ?_) | (refine sd ?_))
 refine Join.intro (σ:=Nat × Nat) (fun s=>(roT A x.root (kyB o)).length = s.1/\s.1 <= s.2) (fun s=>([(1,.ptr 1007 0 none),(2,.ptr 202 0 none),(4,.ptr 204 0 none),(5,.i .i64 0),(7,.tt),(8,.ptr 208 0 none),(9,.ptr 209 0 none)],[(202,.mem true 0 [(1,.ptr 1000 0 none)]),(204,.mem true 0 [(32,.a8 (List.replicate 32 0)),(1,.u16 0)]),(208,.mem true 0 [(32,.a8 (kyB (roR A x.root (kyB o))))]),(209,.mem true 0 [(32,.a8 (kyB (roC A x.root (kyB o))))]),
  (1007,.mem true 0 (seL x (.isl 0 k 65 [(kc * 65,.arr kc 65 (kpF kl))]))),(1000,.mem true 0 [(1,.sl 212 0 0 s.1 s.2),(1,.mp 1002)]),(1001,.dead),(212,.mem true (zmE (s.2 - s.1) 3) [(s.1 * 3,.arr s.1 3 (ttF (roT A x.root (kyB o))))]),(1002,.map (.si (mpL (roT A x.root (kyB o)))))])) ?_ ?_
 ·refine Draw.intro [[],[],[1],[1,2],[1,2,3],[],[0,1,2,3,4,5],[0,1,2,3,4,5,6],[0,1,2,3,4,5,6,7],[0,1,2,3,4,5,6,7],[0,1,2,3,4,5,6,7],[],[],[0,1,2,3,4,5,6,7,8,11,12],[0,1,2,3,4,5,6,7,8,9,11,12,13],[0,1,2,3,4,5,6,7,8,9,10,11,12,13,14],[6]] [0,1,2,3,4,5,11,12,6,7,8,9,10,13,14,15] (by kernel_rfl) ?_
  repeat (refine sd ?_)
  refine ⟨⟨?_,?_⟩,?_,?_⟩
  all_goals
   repeat (refine sd ?_)
   refine Call.intro hRt [(1000,(1000,0,none)),(1001,(211,0,none)),(1002,(1002,0,none)),(1005,(315,0,none))] rfl ?_ rfl ?_ rfl ?_
   ·exact fc
   ·exact fc
   rintro v M' ⟨n',c',hn',hnc',rfl,rfl⟩
   dsimp only [zt,zM,zE,ren,zz,zx,zy,look,zG,zX,ev,evL,zV,zcT,zcF,act,zP,zO,Ent.zW]
   repeat (refine sd ?_)
   refine ⟨(n',c'),⟨hn',hnc'⟩,Le.intro [(202,(202,0,none)),(204,(204,0,none)),(208,(8,0,none)),(209,(9,0,none)),(212,(315,0,none))] rfl ?_ rfl ?_ rfl⟩
   ·exact fc
   ·exact fc
 rintro ⟨n2,c2⟩ ⟨hn2,hc2⟩
 have hn2:(roT A x.root (kyB o)).length = n2:=hn2
 have hc2:n2 <= c2:=hc2
 repeat (first | (refine zB.intro (fun _=>?_) (fun hn=>absurd rfl hn)) | (refine ky0 ?_) | (refine kn0 ?_) | (refine sd ?_))
 refine Ret.intro (.tup [.agg [(32,.a8 (kyB (roC A x.root (kyB o)))),(1,.u16 0)],.i .i64 0]) ((1001,.dead) :: (1007,.mem true 0 (seL { x with root:=kyB (roR A x.root (kyB o)) } (.isl 0 k 65 [(kc * 65,.arr kc 65 (kpF kl))]))) :: tbM n2 c2 (roT A x.root (kyB o)) 1005) [(1005,(212,0,none))] rfl ?_ ⟨n2,c2,hn2,hc2,rfl,rfl⟩ rfl ?_ rfl ?_ rfl
 ·exact fc
 ·exact fc
 ·exact fc
end Go.Proofs.YtfnmgbillkiabaaGreat
