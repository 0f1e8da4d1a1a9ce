/- What the functions of the program compute. No condition. -/
import Derived.Test.YtfnmgbillkiabaaGreatHwAd1ToRb0
set_option linter.unusedSimpArgs false
set_option linter.unusedVariables false
set_option maxRecDepth 100000
namespace Go.Proofs.YtfnmgbillkiabaaGreat
open Go Go.Sx
def slX (T:List Te) (x:Se) (dr:List UInt8):List Te × Se:=
 if x.hs = true then (T,x) else
  (tuT (mk1 T 1 dr).1 { x with mine:=kyB (mk1 T 1 dr).2 },
   { x with mine:=kyB (mk1 T 1 dr).2,root:=tuR (mk1 T 1 dr).1 { x with mine:=kyB (mk1 T 1 dr).2 },pv:=x.sn,sk:=tuK (mk1 T 1 dr).1 { x with mine:=kyB (mk1 T 1 dr).2 },sn:=0,hs:=true })
theorem slX_yes {T:List Te} {x:Se} {dr:List UInt8} (h:x.hs = true):slX T x dr = (T,x):=if_pos h
theorem slX_no {T:List Te} {x:Se} {dr:List UInt8} (h:¬ x.hs = true):slX T x dr = (tuT (mk1 T 1 dr).1 { x with mine:=kyB (mk1 T 1 dr).2 },
   { x with mine:=kyB (mk1 T 1 dr).2,root:=tuR (mk1 T 1 dr).1 { x with mine:=kyB (mk1 T 1 dr).2 },pv:=x.sn,sk:=tuK (mk1 T 1 dr).1 { x with mine:=kyB (mk1 T 1 dr).2 },sn:=0,hs:=true }):=if_neg h
attribute [irreducible] slX
theorem slX_info {T:List Te} (hTv:∀ y ∈ T,Valid y.1 y.2) {x:Se} (hx:x.OK) (dr:List UInt8):(∀ y ∈ (slX T x dr).1,Valid y.1 y.2)/\(slX T x dr).1.length <= T.length + 4/\(slX T x dr).2.OK:=by
 by_cases h:x.hs = true
 ·rw [slX_yes h];exact ⟨hTv,by show T.length <= _;omega,hx⟩
 ·rw [slX_no h]
  have hv:=mk1_valid hTv 1 dr
  have hl:=(mk1_len T 1 dr).2
  have hm:({ x with mine:=kyB (mk1 T 1 dr).2 }:Se).mine.length = 32:=zk _
  have h3:=tuT_len hv hm hx.th
  exact ⟨tuT_valid hv hm hx.th,by show (tuT _ _).length <= _;omega,⟨hx.id,tuR_length _ _,zk _,tuK_length _ _,hx.th,hx.rk,hx.ag,hx.sg,hx.ba,hx.kp⟩⟩
def slH (x:Se) (pub:List UInt8):Hd:={ ss:=x.id,fi:=x.fi,ag:=if x.fi = true then x.ag else z32,sg:=if x.fi = true then x.sg else z32,ba:=if x.fi = true then x.ba else z32,id:=if x.fi = true then x.oc else 0,ra:=pub,n:=x.sn,pv:=x.pv }
def hd0:Hd:={ ss:=z32,fi:=false,ag:=z32,sg:=z32,ba:=z32,id:=0,ra:=z32,n:=0,pv:=0 }
theorem slH_ok {x:Se} (hx:x.OK) {pub:List UInt8} (hp:pub.length = 32):(slH x pub).OK:=by
 unfold slH
 cases hf:x.fi with
 | true=>exact ⟨hx.id,hx.ag,hx.sg,hx.ba,hp⟩
 | false=>exact ⟨hx.id,zlz,zlz,zlz,hp⟩
theorem slH_good (x:Se) (pub:List UInt8):hdG (slH x pub):=by
 unfold hdG slH
 cases hf:x.fi with
 | true=>exact Or.inl rfl
 | false=>exact Or.inr ⟨rfl,rfl,rfl,rfl⟩
def slP (T:List Te) (x:Se) (dr:List UInt8):List Te × Nat:=mk1 (slX T x dr).1 2 (slX T x dr).2.mine
def slHd (T:List Te) (x:Se) (dr:List UInt8):Hd:=slH (slX T x dr).2 (kyB (slP T x dr).2)
def slL (T:List Te) (x:Se) (dr:List UInt8):List Te × Nat:=mx2 (nxT (slP T x dr).1 (slX T x dr).2.sk) 75 (kyB (nxK (slP T x dr).1 (slX T x dr).2.sk)) (hdB (slHd T x dr))
def slZ (T:List Te) (x:Se) (dr p:List UInt8):List Te × Nat:=mx8 (slL T x dr).1 (kyB (slL T x dr).2) p
def slS (T:List Te) (x:Se) (dr:List UInt8):Se:={ (slX T x dr).2 with sk:=kyB (nxN (slP T x dr).1 (slX T x dr).2.sk),sn:=(slX T x dr).2.sn + 1 }
theorem slP_eq (T:List Te) (x:Se) (dr:List UInt8):slP T x dr = mk1 (slX T x dr).1 2 (slX T x dr).2.mine:=rfl
theorem slHd_eq (T:List Te) (x:Se) (dr:List UInt8):slHd T x dr = slH (slX T x dr).2 (kyB (slP T x dr).2):=rfl
theorem slL_eq (T:List Te) (x:Se) (dr:List UInt8):slL T x dr = mx2 (nxT (slP T x dr).1 (slX T x dr).2.sk) 75 (kyB (nxK (slP T x dr).1 (slX T x dr).2.sk)) (hdB (slHd T x dr)):=rfl
theorem slZ_eq (T:List Te) (x:Se) (dr p:List UInt8):slZ T x dr p = mx8 (slL T x dr).1 (kyB (slL T x dr).2) p:=rfl
theorem slS_eq (T:List Te) (x:Se) (dr:List UInt8):slS T x dr = { (slX T x dr).2 with sk:=kyB (nxN (slP T x dr).1 (slX T x dr).2.sk),sn:=(slX T x dr).2.sn + 1 }:=rfl
attribute [irreducible] slP slHd slL slZ slS
def zhL:List (Nat × SV):=[(32,.a8 (List.replicate 32 0)),(1,.ff),(32,.a8 (List.replicate 32 0)),(32,.a8 (List.replicate 32 0)),(32,.a8 (List.replicate 32 0)),(1,.u16 0),(32,.a8 (List.replicate 32 0)),(1,.u16 0),(1,.u16 0)]
set_option maxHeartbeats 4000000 in
theorem fn51 (T:List Te) (N c:Nat) (hT:T.length = N) (hN:N <= 39000) (hNc:N <= c) (hTv:∀ x ∈ T,Valid x.1 x.2) (x:Se) (hx:x.OK) (k kc:Nat) (kl:List Kp) (dr p:List UInt8) (n:Nat) (hd:dr.length = 32) (hp:p.length = n) (hn:n <= 9223372036854775807) :
  Sx.Fn Γ.P 51 [.agg [(1,.ptr 1000 0 none)],.agg (seL x (.isl 0 k 65 [(kc * 65,.arr kc 65 (kpF kl))])),.a8 dr,.isl 0 n 1 [(n,.a8 p)]] (tbM N c T 1001)
  (fun v M=>(1024 < n/\v = .tup [.agg (seL x (.isl 0 k 65 [(kc * 65,.arr kc 65 (kpF kl))])),hdV hd0,.nsl,.i .i64 5]/\M = (1001,.dead) :: tbM N c T 1005) \/
   (n <= 1024/\¬ x.hs = true/\¬ x.hr = true/\v = .tup [.agg (seL x (.isl 0 k 65 [(kc * 65,.arr kc 65 (kpF kl))])),hdV hd0,.nsl,.i .i64 1]/\M = (1001,.dead) :: tbM N c T 1005) \/
   (n <= 1024/\(x.hs = true \/ x.hr = true)/\(slX T x dr).2.sn = 65535/\∃ n' c',(slP T x dr).1.length = n'/\n' <= c'/\v = .tup [.agg (seL (slX T x dr).2 (.isl 0 k 65 [(kc * 65,.arr kc 65 (kpF kl))])),hdV (slHd T x dr),.nsl,.i .i64 7]/\M = (1001,.dead) :: tbM n' c' (slP T x dr).1 1005) \/
   (n <= 1024/\(x.hs = true \/ x.hr = true)/\(slX T x dr).2.sn ≠ 65535/\∃ n' c' m,(slZ T x dr p).1.length = n'/\n' <= c'/\n / 16 * 16 + 32 = m/\v = .tup [.agg (seL (slS T x dr) (.isl 0 k 65 [(kc * 65,.arr kc 65 (kpF kl))])),hdV (slHd T x dr),.sl 1006 0 0 m m,.i .i64 0]/\M = (1001,.dead) :: (1006,.mem true 0 [(m,.a8 (sefB (slZ T x dr p).2 n))]) :: tbM n' c' (slZ T x dr p).1 1005)):=by
 obtain ⟨hXv,hXl,hXo⟩:=slX_info hTv hx dr
 have hx':=hx
 obtain ⟨h1,h2,h3,h4,h5,h6,h7,h8,h9,_⟩:=hx'
 obtain ⟨A,hA⟩:∃ A,(slX T x dr).1 = A:=⟨_,rfl⟩
 obtain ⟨X,hX⟩:∃ X,(slX T x dr).2 = X:=⟨_,rfl⟩
 rw [hA] at hXv hXl
 rw [hX] at hXo
 rw [hX]
 unfold tbM
 refine fn_cut [1000005,1000011,1000014] (Γ:=Γ) (fn:=Tryz.f51) rfl rfl rfl rfl ?_
 repeat (refine sd ?_)
 refine zB.intro (fun hc=>?_) (fun hc=>?_)
 ·have hc:1024 < (n:Int):=hc
  repeat (refine sd ?_)
  refine Ret.intro (.tup [.agg (seL x (.isl 0 k 65 [(kc * 65,.arr kc 65 (kpF kl))])),hdV hd0,.nsl,.i .i64 5]) ((1001,.dead) :: tbM N c T 1005) [(1005,(1001,0,none))] rfl ?_ (Or.inl ⟨by omega,rfl,rfl⟩) rfl ?_ rfl ?_ rfl
  ·repeat' (first | (show zA _;first | exact trivial | refine zA.app ?_ ?_ | refine zA.zd ?_ ?_ | refine zA.cons ?_ ?_) | exact fd | fail)
   all_goals exact Bool.false_ne_true
  ·repeat' (first | (show zA _;first | exact trivial | refine zA.app ?_ ?_ | refine zA.zd ?_ ?_ | refine zA.cons ?_ ?_) | exact fd | fail)
   all_goals exact Bool.false_ne_true
  ·exact fc
 have hc:¬ 1024 < (n:Int):=hc
 refine Join.intro (σ:=Unit) (fun _=>x.hs = true \/ x.hr = true) (fun _=>([(3,.isl 0 n 1 [(n,.a8 p)]),(4,.ptr 204 0 none),(5,.ptr 205 0 none),(6,.ptr 206 0 none),(8,.ptr 208 0 none),(9,.ptr 209 0 none)],[(204,.mem true 0 [(1,.ptr 1000 0 none)]),(205,.mem true 0 (seL x (.isl 0 k 65 [(kc * 65,.arr kc 65 (kpF kl))]))),(206,.mem true 0 [(32,.a8 dr)]),(208,.mem true 0 zsL),(209,.mem true 0 zhL),
  (1000,.mem true 0 [(1,.sl 1001 0 0 N c),(1,.mp 1002)]),(1001,.mem true (zmE (c - N) 3) [(N * 3,.arr N 3 (ttF T))]),(1002,.map (.si (mpL T)))])) ?_ ?_
 ·repeat (refine sd ?_)
  refine zB.intro (fun hs=>?_) (fun hs=>?_)
  ·have hs:¬ x.hs = true:=hs
   repeat (refine sd ?_)
   refine zB.intro (fun hr=>?_) (fun hr=>?_)
   ·have hr:¬ x.hr = true:=hr
    repeat (refine sd ?_)
    refine Ret.intro (.tup [.agg (seL x (.isl 0 k 65 [(kc * 65,.arr kc 65 (kpF kl))])),hdV hd0,.nsl,.i .i64 1]) ((1001,.dead) :: tbM N c T 1005) [(1005,(1001,0,none))] rfl ?_ (Or.inr (Or.inl ⟨by omega,hs,hr,rfl,rfl⟩)) rfl ?_ rfl ?_ rfl
    ·repeat' (first | (show zA _;first | exact trivial | refine zA.app ?_ ?_ | refine zA.zd ?_ ?_ | refine zA.cons ?_ ?_) | exact fd | fail)
     all_goals exact Bool.false_ne_true
    ·repeat' (first | (show zA _;first | exact trivial | refine zA.app ?_ ?_ | refine zA.zd ?_ ?_ | refine zA.cons ?_ ?_) | exact fd | fail)
     all_goals exact Bool.false_ne_true
    ·exact fc
   ·have hr:¬ ¬ x.hr = true:=hr
    refine ⟨(),Or.inr (Classical.not_not.1 hr),Le.intro [(204,(4,0,none)),(205,(5,0,none)),(206,(6,0,none)),(208,(8,0,none)),(209,(9,0,none))] rfl ?_ rfl ?_ rfl⟩
    ·exact fc
    ·exact fc
  ·have hs:¬ ¬ x.hs = true:=hs
   repeat (first | (refine zB.intro (fun _=>?_) (fun hn=>absurd rfl hn)) | (refine ky0 ?_) | (refine kn0 ?_) | (refine sd ?_))
   refine ⟨(),Or.inl (Classical.not_not.1 hs),Le.intro [(204,(4,0,none)),(205,(5,0,none)),(206,(6,0,none)),(208,(8,0,none)),(209,(9,0,none))] rfl ?_ rfl ?_ rfl⟩
   ·exact fc
   ·exact fc
 rintro - hsr
 have hsr:x.hs = true \/ x.hr = true:=hsr
 refine Join.intro (σ:=Nat × Nat) (fun s=>A.length = s.1/\s.1 <= s.2) (fun s=>([(3,.isl 0 n 1 [(n,.a8 p)]),(4,.ptr 204 0 none),(5,.ptr 205 0 none),(8,.ptr 208 0 none),(9,.ptr 209 0 none)],[(204,.mem true 0 [(1,.ptr 1000 0 none)]),(205,.mem true 0 (seL X (.isl 0 k 65 [(kc * 65,.arr kc 65 (kpF kl))]))),(208,.mem true 0 zsL),(209,.mem true 0 zhL),
  (1000,.mem true 0 [(1,.sl 211 0 0 s.1 s.2),(1,.mp 1002)]),(1001,.dead),(211,.mem true (zmE (s.2 - s.1) 3) [(s.1 * 3,.arr s.1 3 (ttF A))]),(1002,.map (.si (mpL A)))])) ?_ ?_
 ·repeat (refine sd ?_)
  refine zB.intro (fun hs=>?_) (fun hs=>?_)
  ·have hs:¬ x.hs = true:=hs
   have hsl:=slX_no (T:=T) (dr:=dr) hs
   have eA:A = tuT (mk1 T 1 dr).1 { x with mine:=kyB (mk1 T 1 dr).2 }:=by rw [<- hA,hsl]
   have eX:X = { x with mine:=kyB (mk1 T 1 dr).2,root:=tuR (mk1 T 1 dr).1 { x with mine:=kyB (mk1 T 1 dr).2 },pv:=x.sn,sk:=tuK (mk1 T 1 dr).1 { x with mine:=kyB (mk1 T 1 dr).2 },sn:=0,hs:=true }:=by rw [<- hX,hsl]
   obtain ⟨C,hC⟩:∃ C,(mk1 T 1 dr).1 = C:=⟨_,rfl⟩
   obtain ⟨o,ho⟩:∃ o,(mk1 T 1 dr).2 = o:=⟨_,rfl⟩
   rw [hC,ho] at eA eX
   subst eA
   subst eX
   have hvC:∀ x ∈ C,Valid x.1 x.2:=by rw [<- hC];exact mk1_valid hTv _ _
   have hlC:C.length <= N + 1:=by rw [<- hC,<- hT];exact (mk1_len T _ _).2
   have hF:=fnFreshF T N c hT (by omega) hNc hTv dr hd C o hC ho
   have hko:=zk o
   unfold tbM at hF
   repeat (refine sd ?_)
   refine Call.intro hF [(1000,(1000,0,none)),(1001,(1001,0,none)),(1002,(1002,0,none)),(1005,(305,0,none))] rfl ?_ rfl ?_ rfl ?_
   ·exact fc
   ·exact fc
   rintro v M' ⟨n1,c1,hn1,hc1,rfl,rfl⟩
   dsimp only [zt,zM,zE,ren,zz,zx,zy,look,zG,zX,ev,evL,zV,zcT,zcF,act,zP,zO,Ent.zW]
   repeat (refine sd ?_)
   have hTu:=fn84 C n1 c1 hn1 (by omega) hc1 hvC { x with mine:=kyB o } ⟨h1,h2,hko,h4,h5,h6,h7,h8,h9,hx.kp⟩ k kc kl
   unfold tbM seL at hTu
   refine Call.intro hTu [(1000,(1000,0,none)),(1001,(305,0,none)),(1002,(1002,0,none)),(1007,(205,0,none)),(1005,(306,0,none))] rfl ?_ rfl ?_ rfl ?_
   ·exact fc
   ·exact fc
   rintro v M' ⟨n2,c2,hn2,hc2,rfl,rfl⟩
   dsimp only [zt,zM,zE,ren,zz,zx,zy,look,zG,zX,ev,evL,zV,zcT,zcF,act,zP,zO,Ent.zW]
   repeat (first | (refine zB.intro (fun _=>?_) (fun hn=>absurd rfl hn)) | (refine ky0 ?_) | (refine kn0 ?_) | (refine sd ?_))
   refine Draw.intro [[],[0],[0,1],[],[0,1,2],[0,1,2,4],[0,1,2,3,4,5],[0,1,2,3,4,5,6],[0,1,2,3,4,5,6,7],[0,1,2,3,4,5,6,7,8]] [0,1,2,3,4,5,6,7,8,9] (by kernel_rfl) ?_
   repeat (first | (refine Grow.turn rfl rfl ?_) | (refine sd ?_))
   refine ⟨(n2,c2),⟨hn2,hc2⟩,Le.intro [(204,(204,0,none)),(205,(205,0,none)),(208,(208,0,none)),(209,(209,0,none)),(211,(306,0,none))] rfl ?_ rfl ?_ rfl⟩
   ·repeat' (first | (show zA _;first | exact trivial | refine zA.app ?_ ?_ | refine zA.zd ?_ ?_ | refine zA.cons ?_ ?_) | exact fd | fail)
    all_goals exact iff_of_true rfl trivial
   ·exact fc
  ·have hs:¬ ¬ x.hs = true:=hs
   have hs:=Classical.not_not.1 hs
   have hsl:=slX_yes (T:=T) (dr:=dr) hs
   have eA:A = T:=by rw [<- hA,hsl]
   have eX:X = x:=by rw [<- hX,hsl]
   subst eA
   subst eX
   refine ⟨(N,c),⟨hT,hNc⟩,Le.intro [(204,(204,0,none)),(205,(205,0,none)),(208,(208,0,none)),(209,(209,0,none)),(211,(1001,0,none))] rfl ?_ rfl ?_ rfl⟩
   ·exact fc
   ·exact fc
 rintro ⟨n2,c2⟩ ⟨hn2,hc2⟩
 have hn2:A.length = n2:=hn2
 have hc2:n2 <= c2:=hc2
 obtain ⟨B,hB⟩:∃ B,(slP T x dr).1 = B:=⟨_,rfl⟩
 obtain ⟨o1,ho1⟩:∃ o,(slP T x dr).2 = o:=⟨_,rfl⟩
 have hsP:=slP_eq T x dr
 rw [hA,hX] at hsP
 have hvB:∀ x ∈ B,Valid x.1 x.2:=by rw [<- hB,hsP];exact mk1_valid hXv _ _
 have hlB:B.length <= A.length + 1:=by rw [<- hB,hsP];exact (mk1_len A _ _).2
 have hF:=fnPublicF A n2 c2 hn2 (by omega) hc2 hXv X.mine hXo.mine B o1 (by rw [<- hsP];exact hB) (by rw [<- hsP];exact ho1)
 unfold tbM at hF
 have hXo':=hXo
 obtain ⟨g1,g2,g3,g4,g5,g6,g7,g8,g9,_⟩:=hXo'
 have hk1:=zk o1
 obtain ⟨H,hH⟩:∃ H,slHd T x dr = H:=⟨_,rfl⟩
 have eH:=slHd_eq T x dr
 rw [hX,ho1,hH] at eH
 have hHo:H.OK:=by rw [eH];exact slH_ok hXo hk1
 have hHg:hdG H:=by rw [eH];exact slH_good _ _
 refine Draw.intro [[],[0],[],[2],[],[],[5],[4,5,6],[],[8],[8,9],[],[11],[0,1,2,3,4,5,6,7,8,9,10,11,12],[],[0,1,2,3,4,5,6,7,8,9,10,11,12,13,14]] [0,1,2,3,4,5,6,8,9,10,11,12,14,7,13,15] (by kernel_rfl) ?_
 repeat (refine sd ?_)
 refine Call.intro hF [(1000,(1000,0,none)),(1001,(211,0,none)),(1002,(1002,0,none)),(1005,(307,0,none))] rfl ?_ rfl ?_ rfl ?_
 ·exact fc
 ·exact fc
 rintro v M' ⟨n3',c3',hn3',hc3',rfl,rfl⟩
 dsimp only [zt,zM,zE,ren,zz,zx,zy,look,zG,zX,ev,evL,zV,zcT,zcF,act,zP,zO,Ent.zW]
 repeat (refine sd ?_)
 refine Grow.turn rfl rfl ?_
 repeat (refine sd ?_)
 refine Join.intro (σ:=Nat × Nat) (fun s=>B.length = s.1/\s.1 <= s.2) (fun s=>([(3,.isl 0 n 1 [(n,.a8 p)]),(4,.ptr 204 0 none),(5,.ptr 205 0 none),(8,.ptr 208 0 none),(9,.ptr 209 0 none),(14,.ptr 214 0 none)],[(204,.mem true 0 [(1,.ptr 1000 0 none)]),(205,.mem true 0 (seL X (.isl 0 k 65 [(kc * 65,.arr kc 65 (kpF kl))]))),(208,.mem true 0 zsL),(209,.mem true 0 zhL),
  (214,.mem true 0 [(32,.a8 H.ss),(1,.bool (H.fi = true)),(32,.a8 H.ag),(32,.a8 H.sg),(32,.a8 H.ba),(1,.u16 H.id),(32,.a8 H.ra),(1,.u16 H.n),(1,.u16 H.pv)]),
  (1000,.mem true 0 [(1,.sl 212 0 0 s.1 s.2),(1,.mp 1002)]),(1001,.dead),(212,.mem true (zmE (s.2 - s.1) 3) [(s.1 * 3,.arr s.1 3 (ttF B))]),(1002,.map (.si (mpL B)))])) ?_ ?_
 ·repeat (refine sd ?_)
  refine zB.intro (fun hf=>?_) (fun hf=>?_)
  ·have hf:X.fi = true:=hf
   have eH':H = { ss:=X.id,fi:=X.fi,ag:=X.ag,sg:=X.sg,ba:=X.ba,id:=X.oc,ra:=kyB o1,n:=X.sn,pv:=X.pv }:=by rw [eH];unfold slH;simp [hf]
   subst eH'
   refine Draw.intro [[],[0],[],[2],[],[4],[],[6],[0,1],[0,1,8],[0,1,2,3,8,9],[0,1,2,3,8,9,10],[0,1,2,3,4,5,8,9,10,11],[0,1,2,3,4,5,8,9,10,11,12],[0,1,2,3,4,5,6,7,8,9,10,11,12,13],[0,1,2,3,4,5,6,7,8,9,10,11,12,13,14]] [0,1,2,3,4,5,6,7,8,9,10,11,12,13,14,15] (by kernel_rfl) ?_
   repeat (first | (refine Grow.turn rfl rfl ?_) | (refine sd ?_))
   refine ⟨(n3',c3'),⟨hn3',hc3'⟩,Le.intro [(204,(204,0,none)),(205,(205,0,none)),(208,(208,0,none)),(209,(209,0,none)),(214,(14,0,none)),(212,(307,0,none))] rfl ?_ rfl ?_ rfl⟩
   ·exact fc
   ·exact fc
  ·have hf:¬ X.fi = true:=hf
   have eH':H = { ss:=X.id,fi:=X.fi,ag:=z32,sg:=z32,ba:=z32,id:=0,ra:=kyB o1,n:=X.sn,pv:=X.pv }:=by rw [eH];unfold slH;simp [hf]
   subst eH'
   repeat (refine sd ?_)
   refine ⟨(n3',c3'),⟨hn3',hc3'⟩,Le.intro [(204,(204,0,none)),(205,(205,0,none)),(208,(208,0,none)),(209,(209,0,none)),(214,(14,0,none)),(212,(307,0,none))] rfl ?_ rfl ?_ rfl⟩
   ·exact fc
   ·exact fc
 rintro ⟨n3,c3⟩ ⟨hn3,hc3⟩
 have hn3:B.length = n3:=hn3
 have hc3:n3 <= c3:=hc3
 obtain ⟨f1,f2,f3,f4,f5⟩:=hHo
 have hNx:=fnNextF B n3 c3 hn3 (by omega) hc3 hvB X.sk g4 X.sn
 have hkN:=zk (nxN B X.sk)
 have hkK:=zk (nxK B X.sk)
 unfold tbM at hNx
 repeat (refine sd ?_)
 refine Call.intro hNx [(1000,(1000,0,none)),(1001,(212,0,none)),(1002,(1002,0,none)),(1005,(308,0,none))] rfl ?_ rfl ?_ rfl ?_
 ·exact fc
 ·exact fc
 rintro v M' (⟨hsn,rfl,rfl⟩ | ⟨hsn,n4,c4,hn4,hc4,rfl,rfl⟩)
 ·dsimp only [zt,zM,zE,ren,zz,zx,zy,look,zG,zX,ev,evL,zV,zcT,zcF,act,zP,zO,Ent.zW]
  repeat (first | (refine zB.intro (fun _=>?_) (fun hn=>absurd rfl hn)) | (refine ky0 ?_) | (refine kn0 ?_) | (refine sd ?_))
  refine zB.intro (fun _=>?_) (fun h=>absurd (by decide) h)
  refine Draw.intro [[],[],[],[0],[0,1,3],[0,1,3,4],[0,1,2,3,4,5]] [0,1,2,3,4,5,6] (by kernel_rfl) ?_
  repeat (first | (refine Grow.turn rfl rfl ?_) | (refine sd ?_))
  refine Ret.intro (.tup [.agg (seL X (.isl 0 k 65 [(kc * 65,.arr kc 65 (kpF kl))])),hdV H,.nsl,.i .i64 7]) ((1001,.dead) :: tbM n3 c3 B 1005) [(1005,(308,0,none))] rfl ?_ (Or.inr (Or.inr (Or.inl ⟨by omega,hsr,hsn,n3,c3,hB ▸ hn3,hc3,by rw [hH],by rw [hB];rfl⟩))) rfl ?_ rfl ?_ rfl
  ·exact fc
  ·exact fc
  ·exact fc
 dsimp only [zt,zM,zE,ren,zz,zx,zy,look,zG,zX,ev,evL,zV,zcT,zcF,act,zP,zO,Ent.zW]
 repeat (first | (refine zB.intro (fun _=>?_) (fun hn=>absurd rfl hn)) | (refine ky0 ?_) | (refine kn0 ?_) | (refine sd ?_))
 obtain ⟨L,hL⟩:∃ L,(slL T x dr).1 = L:=⟨_,rfl⟩
 obtain ⟨o3,ho3⟩:∃ o,(slL T x dr).2 = o:=⟨_,rfl⟩
 have hsL:=slL_eq T x dr
 rw [hB,hX,hH] at hsL
 have hvN:∀ x ∈ nxT B X.sk,Valid x.1 x.2:=nxT_valid hvB X.sk
 have hlN:=(nxT_len B X.sk).2
 have hBl:=hdB_le ⟨f1,f2,f3,f4,f5⟩
 have hvL:∀ x ∈ L,Valid x.1 x.2:=by rw [<- hL,hsL];exact mx2_valid hvN _ _ _
 have hlL:L.length <= (nxT B X.sk).length + 1:=by rw [<- hL,hsL];exact (mx2_len _ _ _ _).2
 have hLK:=fn40 (nxT B X.sk) n4 c4 hn4 (by omega) hc4 hvN (kyB (nxK B X.sk)) hkK H ⟨f1,f2,f3,f4,f5⟩ L o3 (by rw [<- hsL];exact hL) (by rw [<- hsL];exact ho3)
 have hko3:=zk o3
 unfold tbM hdV at hLK
 refine Call.intro hLK [(1000,(1000,0,none)),(1001,(308,0,none)),(1002,(1002,0,none)),(1005,(309,0,none))] rfl ?_ rfl ?_ rfl ?_
 ·exact fc
 ·exact fc
 rintro v M' (⟨hG,rfl,rfl⟩ | ⟨hG,n5,c5,hn5,hc5,rfl,rfl⟩)
 ·exact absurd hHg hG
 dsimp only [zt,zM,zE,ren,zz,zx,zy,look,zG,zX,ev,evL,zV,zcT,zcF,act,zP,zO,Ent.zW]
 repeat (first | (refine zB.intro (fun _=>?_) (fun hn=>absurd rfl hn)) | (refine ky0 ?_) | (refine kn0 ?_) | (refine sd ?_))
 obtain ⟨Z,hZ⟩:∃ Z,(slZ T x dr p).1 = Z:=⟨_,rfl⟩
 obtain ⟨o5,ho5⟩:∃ o,(slZ T x dr p).2 = o:=⟨_,rfl⟩
 obtain ⟨m,hm⟩:∃ m,n / 16 * 16 + 32 = m:=⟨_,rfl⟩
 have hsZ:=slZ_eq T x dr p
 rw [hL,ho3] at hsZ
 have hSe:=fnSealF L n5 c5 hn5 (by omega) hc5 hvL (kyB o3) p n m hko3 hp (by omega) hm Z o5 (by rw [<- hsZ];exact hZ) (by rw [<- hsZ];exact ho5)
 have hsf:=sefB_length o5 n
 unfold tbM at hSe
 refine Call.intro hSe [(1000,(1000,0,none)),(1001,(309,0,none)),(1002,(1002,0,none)),(1005,(310,0,none)),(1006,(311,0,none))] rfl ?_ rfl ?_ rfl ?_
 ·exact fc
 ·exact fc
 rintro v M' ⟨n6,c6,hn6,hc6,rfl,rfl⟩
 dsimp only [zt,zM,zE,ren,zz,zx,zy,look,zG,zX,ev,evL,zV,zcT,zcF,act,zP,zO,Ent.zW]
 repeat (first | (refine zB.intro (fun _=>?_) (fun hn=>absurd rfl hn)) | (refine ky0 ?_) | (refine kn0 ?_) | (refine sd ?_))
 refine Draw.intro [[],[],[],[0],[0,1,3],[0,1,2,3,4],[0,1,2,3,4,5]] [0,1,2,3,4,5,6] (by kernel_rfl) ?_
 repeat (first | (refine Grow.turn rfl rfl ?_) | (refine sd ?_))
 have hsS:=slS_eq T x dr
 rw [hB,hX] at hsS
 rw [hsS]
 refine Ret.intro (.tup [.agg (seL { X with sk:=kyB (nxN B X.sk),sn:=X.sn + 1 } (.isl 0 k 65 [(kc * 65,.arr kc 65 (kpF kl))])),hdV H,.sl 1006 0 0 m m,.i .i64 0]) ((1001,.dead) :: (1006,.mem true 0 [(m,.a8 (sefB o5 n))]) :: tbM n6 c6 Z 1005) [(1005,(310,0,none)),(1006,(311,0,none))] rfl ?_ (Or.inr (Or.inr (Or.inr ⟨by omega,hsr,hsn,n6,c6,m,hZ ▸ hn6,hc6,hm,by rw [hH],by rw [hZ,ho5];rfl⟩))) rfl ?_ rfl ?_ rfl
 ·exact fc
 ·exact fc
 ·exact fc
end Go.Proofs.YtfnmgbillkiabaaGreat
