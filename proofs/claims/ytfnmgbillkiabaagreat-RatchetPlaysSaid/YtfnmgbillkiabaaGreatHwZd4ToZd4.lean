/- What the functions of the program compute. No condition. -/
import Derived.Test.YtfnmgbillkiabaaGreatHwZd8ToZd7
set_option linter.unusedSimpArgs false
set_option linter.unusedVariables false
set_option maxRecDepth 100000
namespace Go.Proofs.YtfnmgbillkiabaaGreat
open Go Go.Sx
set_option maxHeartbeats 8000000 in
theorem plSeal0 (ops:List Opr) (N i:Nat) (hN:ops.length = N) (hNm:N <= maxLen) (hi:i < N) (hi40:i < 40) (s:Pl) (hI:PlI i s) (p:Opr) (hp:ops.getD i op0 = p) (hpt:p.t.length <= 9223372036854775807) (Q:Post)
  (hq:∀ s' T' M',PlI (i + 1) s'->Le [] (plT ops N i s') (plM s') T' M'->Q .normal T' M') (T0:Tm) (M0:Mm)
  (hle:Le [] [(0,.isl 0 N 6 [(N * 6,.arr N 6 (opF ops))]),(3,.ptr 203 0 none),(4,.ptr 204 0 none),(5,.ptr 205 0 none),(6,.ptr 206 0 none),(7,.sl 207 0 0 s.ns s.cs),(8,.i .i64 ((i:Nat):Int)),(9,.i .i64 0)] [(203,.mem true 0 [(1,.ptr 1000 0 none)]),(204,.mem true 0 [(1,.ptr 1100 0 none)]),(205,.mem true 0 (s.e0.pL ++ s.e1.pL)),(206,.mem true 0 (s.e0.rL ++ s.e1.rL)),(207,.mem true (zmE (s.cs - s.ns) 167) [(s.ns * 167,.arr s.ns 167 (ltF s.S))]),(1000,.mem true 0 [(1,.sl 221 0 0 s.n s.c),(1,.mp 1002)]),(221,.mem true (zmE (s.c - s.n) 3) [(s.n * 3,.arr s.n 3 (ttF s.T))]),(1002,.map (.si (mpL s.T))),(1100,.mem true 0 [(1,.sl 222 0 0 s.n s.d)]),(222,.mem true (zmE (s.d - s.n) 2) [(s.n * 2,.arr s.n 2 (rtF s.T))])] T0 M0):exec Γ [18,20,23,29,30,37] [] (tailF Tryz.f3 29) T0 M0 Q:=by
 have hmx:maxLen = 9223372036854775807:=by decide
 refine Cut.intro (σ:=Unit) (fun _=>True) (fun _=>([(0,.isl 0 N 6 [(N * 6,.arr N 6 (opF ops))]),(3,.ptr 203 0 none),(4,.ptr 204 0 none),(5,.ptr 205 0 none),(6,.ptr 206 0 none),(7,.sl 207 0 0 s.ns s.cs),(8,.i .i64 ((i:Nat):Int)),(9,.i .i64 0)],[(203,.mem true 0 [(1,.ptr 1000 0 none)]),(204,.mem true 0 [(1,.ptr 1100 0 none)]),(205,.mem true 0 [(32,.a8 s.e0.X.id),(32,.a8 s.e0.X.root),(32,.a8 s.e0.X.mine),(1,.bool (s.e0.X.hs = true)),(32,.a8 s.e0.X.sk),(1,.u16 s.e0.X.sn),(1,.u16 s.e0.X.pv),(32,.a8 s.e0.X.th),(1,.bool (s.e0.X.hr = true)),(32,.a8 s.e0.X.rk),(1,.u16 s.e0.X.rn),(1,.bool (s.e0.X.fi = true)),(32,.a8 s.e0.X.ag),(32,.a8 s.e0.X.sg),(32,.a8 s.e0.X.ba),(1,.u16 s.e0.X.oc),(1,.isl 0 s.e0.m 65 [(s.e0.N * 65,.arr s.e0.N 65 (kpF s.e0.l))]),(32,.a8 s.e1.X.id),(32,.a8 s.e1.X.root),(32,.a8 s.e1.X.mine),(1,.bool (s.e1.X.hs = true)),(32,.a8 s.e1.X.sk),(1,.u16 s.e1.X.sn),(1,.u16 s.e1.X.pv),(32,.a8 s.e1.X.th),(1,.bool (s.e1.X.hr = true)),(32,.a8 s.e1.X.rk),(1,.u16 s.e1.X.rn),(1,.bool (s.e1.X.fi = true)),(32,.a8 s.e1.X.ag),(32,.a8 s.e1.X.sg),(32,.a8 s.e1.X.ba),(1,.u16 s.e1.X.oc),(1,.isl 0 s.e1.m 65 [(s.e1.N * 65,.arr s.e1.N 65 (kpF s.e1.l))])]),(206,.mem true 0 [(32,.a8 s.e0.X.id),(32,.a8 s.e0.X.root),(32,.a8 s.e0.X.mine),(1,.bool (s.e0.X.hs = true)),(32,.a8 s.e0.X.sk),(1,.u16 s.e0.X.sn),(1,.u16 s.e0.X.pv),(32,.a8 s.e0.X.th),(1,.bool (s.e0.X.hr = true)),(32,.a8 s.e0.X.rk),(1,.u16 s.e0.X.rn),(1,.bool (s.e0.X.fi = true)),(32,.a8 s.e0.X.ag),(32,.a8 s.e0.X.sg),(32,.a8 s.e0.X.ba),(1,.u16 s.e0.X.oc),(1,.isl 0 s.e0.q 65 [(s.e0.R * 65,.arr s.e0.R 65 (kpF s.e0.r))]),(32,.a8 s.e1.X.id),(32,.a8 s.e1.X.root),(32,.a8 s.e1.X.mine),(1,.bool (s.e1.X.hs = true)),(32,.a8 s.e1.X.sk),(1,.u16 s.e1.X.sn),(1,.u16 s.e1.X.pv),(32,.a8 s.e1.X.th),(1,.bool (s.e1.X.hr = true)),(32,.a8 s.e1.X.rk),(1,.u16 s.e1.X.rn),(1,.bool (s.e1.X.fi = true)),(32,.a8 s.e1.X.ag),(32,.a8 s.e1.X.sg),(32,.a8 s.e1.X.ba),(1,.u16 s.e1.X.oc),(1,.isl 0 s.e1.q 65 [(s.e1.R * 65,.arr s.e1.R 65 (kpF s.e1.r))])]),(207,.mem true (zmE (s.cs - s.ns) 167) [(s.ns * 167,.arr s.ns 167 (ltF s.S))]),(1000,.mem true 0 [(1,.sl 221 0 0 s.n s.c),(1,.mp 1002)]),(221,.mem true (zmE (s.c - s.n) 3) [(s.n * 3,.arr s.n 3 (ttF s.T))]),(1002,.map (.si (mpL s.T))),(1100,.mem true 0 [(1,.sl 222 0 0 s.n s.d)]),(222,.mem true (zmE (s.d - s.n) 2) [(s.n * 2,.arr s.n 2 (rtF s.T))])])) () trivial hle ?_
 rintro - -
 obtain ⟨i1,i2,i3,i4,i5,i6,i7,i8,i9,i10,i11⟩:=hI
 have hEo:s.e0.OK (60 * i + 60):=i6
 obtain ⟨a1,a2,a3,a4,a5,a6,a7,a8,a9,a10,a11⟩:=hEo
 have a1':=a1
 obtain ⟨h1,h2,h3,h4,h5,h6,h7,h8,h9,_⟩:=a1'
 have hOo:=i7
 obtain ⟨b1,b2,b3,b4,b5,b6,b7,b8,b9,b10,b11⟩:=hOo
 obtain ⟨k1,k2,k3,k4,k5,k6,k7,k8,k9,_⟩:=b1
 obtain ⟨dr,hdr⟩:∃ dr,(UInt8.ofNat 50 :: UInt8.ofInt ((i:Nat):Int) :: List.replicate 30 0:List UInt8) = dr:=⟨_,rfl⟩
 have hd:dr.length = 32:=by rw [<- hdr];rfl
 obtain ⟨nt,hnt⟩:∃ nt,p.t.length = nt:=⟨_,rfl⟩
 rw [hnt] at hpt
 have hSe:=fn20 s.T s.n s.c i1 (by omega) i2 i5 s.e0.X a1 s.e0.l s.e0.N s.e0.m a2 a3 (by omega) a6 dr p.t nt hd hnt hpt
 have hSr:=fn21 s.T s.n s.d i1 (by omega) i3 i5 s.e0.X a1 s.e0.q s.e0.R s.e0.r dr p.t nt hd hnt hpt
 unfold tbM seL at hSe
 unfold rbM seL at hSr
 have hlt:(s.e0.l.take s.e0.m).length = s.e0.m:=by rw [zlT];omega
 have hlO:∀ k ∈ s.e0.l.take s.e0.m,KpOK k:=fun k hk=>a5 k (List.mem_of_mem_take hk)
 repeat (refine sd ?_)
 refine Cut.intro (σ:=Unit) (fun _=>True) (fun _=>([(0,.isl 0 N 6 [(N * 6,.arr N 6 (opF ops))]),(3,.ptr 203 0 none),(4,.ptr 204 0 none),(5,.ptr 205 0 none),(6,.ptr 206 0 none),(7,.sl 207 0 0 s.ns s.cs),(8,.i .i64 ((i:Nat):Int)),(9,.i .i64 0),(17,.ptr 217 0 none)],[(203,.mem true 0 [(1,.ptr 1000 0 none)]),(204,.mem true 0 [(1,.ptr 1100 0 none)]),(205,.mem true 0 [(32,.a8 s.e0.X.id),(32,.a8 s.e0.X.root),(32,.a8 s.e0.X.mine),(1,.bool (s.e0.X.hs = true)),(32,.a8 s.e0.X.sk),(1,.u16 s.e0.X.sn),(1,.u16 s.e0.X.pv),(32,.a8 s.e0.X.th),(1,.bool (s.e0.X.hr = true)),(32,.a8 s.e0.X.rk),(1,.u16 s.e0.X.rn),(1,.bool (s.e0.X.fi = true)),(32,.a8 s.e0.X.ag),(32,.a8 s.e0.X.sg),(32,.a8 s.e0.X.ba),(1,.u16 s.e0.X.oc),(1,.isl 0 s.e0.m 65 [(s.e0.N * 65,.arr s.e0.N 65 (kpF s.e0.l))]),(32,.a8 s.e1.X.id),(32,.a8 s.e1.X.root),(32,.a8 s.e1.X.mine),(1,.bool (s.e1.X.hs = true)),(32,.a8 s.e1.X.sk),(1,.u16 s.e1.X.sn),(1,.u16 s.e1.X.pv),(32,.a8 s.e1.X.th),(1,.bool (s.e1.X.hr = true)),(32,.a8 s.e1.X.rk),(1,.u16 s.e1.X.rn),(1,.bool (s.e1.X.fi = true)),(32,.a8 s.e1.X.ag),(32,.a8 s.e1.X.sg),(32,.a8 s.e1.X.ba),(1,.u16 s.e1.X.oc),(1,.isl 0 s.e1.m 65 [(s.e1.N * 65,.arr s.e1.N 65 (kpF s.e1.l))])]),(206,.mem true 0 [(32,.a8 s.e0.X.id),(32,.a8 s.e0.X.root),(32,.a8 s.e0.X.mine),(1,.bool (s.e0.X.hs = true)),(32,.a8 s.e0.X.sk),(1,.u16 s.e0.X.sn),(1,.u16 s.e0.X.pv),(32,.a8 s.e0.X.th),(1,.bool (s.e0.X.hr = true)),(32,.a8 s.e0.X.rk),(1,.u16 s.e0.X.rn),(1,.bool (s.e0.X.fi = true)),(32,.a8 s.e0.X.ag),(32,.a8 s.e0.X.sg),(32,.a8 s.e0.X.ba),(1,.u16 s.e0.X.oc),(1,.isl 0 s.e0.q 65 [(s.e0.R * 65,.arr s.e0.R 65 (kpF s.e0.r))]),(32,.a8 s.e1.X.id),(32,.a8 s.e1.X.root),(32,.a8 s.e1.X.mine),(1,.bool (s.e1.X.hs = true)),(32,.a8 s.e1.X.sk),(1,.u16 s.e1.X.sn),(1,.u16 s.e1.X.pv),(32,.a8 s.e1.X.th),(1,.bool (s.e1.X.hr = true)),(32,.a8 s.e1.X.rk),(1,.u16 s.e1.X.rn),(1,.bool (s.e1.X.fi = true)),(32,.a8 s.e1.X.ag),(32,.a8 s.e1.X.sg),(32,.a8 s.e1.X.ba),(1,.u16 s.e1.X.oc),(1,.isl 0 s.e1.q 65 [(s.e1.R * 65,.arr s.e1.R 65 (kpF s.e1.r))])]),(207,.mem true (zmE (s.cs - s.ns) 167) [(s.ns * 167,.arr s.ns 167 (ltF s.S))]),(1000,.mem true 0 [(1,.sl 221 0 0 s.n s.c),(1,.mp 1002)]),(221,.mem true (zmE (s.c - s.n) 3) [(s.n * 3,.arr s.n 3 (ttF s.T))]),(1002,.map (.si (mpL s.T))),(1100,.mem true 0 [(1,.sl 222 0 0 s.n s.d)]),(222,.mem true (zmE (s.d - s.n) 2) [(s.n * 2,.arr s.n 2 (rtF s.T))]),(217,.mem true 0 [(32,.a8 dr)])])) () trivial (Le.intro [(203,(203,0,none)),(204,(204,0,none)),(205,(205,0,none)),(206,(206,0,none)),(207,(207,0,none)),(221,(221,0,none)),(222,(222,0,none)),(217,(17,0,none))] rfl ?_ rfl ?_ rfl) ?_
 ·exact fc
 ·repeat' (first | (show zA _;first | exact trivial | refine zA.app ?_ ?_ | refine zA.zd ?_ ?_ | refine zA.cons ?_ ?_) | exact fd | fail)
  all_goals first | exact hdr.symm | exact hdr | trace_state
 rintro - -
 refine Draw.intro [[],[],[1],[1,2],[],[],[],[5,6],[5,6,7],[5,6,7,8],[0,1,2,3,4,5,6,7,8,9],[0,1,2,3,4,5,6,7,8,9,10],[0,1,2,3,4,5,6,7,8,9,10,11],[0,1,2,3,4,5,6,7,8,9,10,11],[0,1,2,3,4,5,6,7,8,9,10,11],[0,1,2,3,4,5,6,7,8,9,10,11],[],[],[0,1,2,3,4,5,6,7,8,9,10,11,12,16,17],[0,1,2,3,4,5,6,7,8,9,10,11,12,13,16,17,18],[0,1,2,3,4,5,6,7,8,9,10,11,12,13,14,16,17,18,19],[0,1,2,3,4,5,6,7,8,9,10,11,12,13,14,15,16,17,18,19,20]] [0,1,2,3,4,5,6,7,8,9,16,17,10,11,12,13,14,15,18,19,20,21] (by kernel_rfl) ?_
 repeat (first | (refine Grow.turn rfl rfl ?_) | (refine sdn ?_))
 refine Call.intro hSe [(1000,(1000,0,none)),(1001,(221,0,none)),(1002,(1002,0,none)),(1005,(305,0,none)),(1009,(309,0,none))] rfl ?_ rfl ?_ rfl ?_
 ·repeat' (first | (show zA _;first | exact trivial | refine zA.app ?_ ?_ | refine zA.zd ?_ ?_ | refine zA.cons ?_ ?_) | exact fd | fail)
  all_goals first | (simp only [Ix.val,zQ,Nat.zero_add,zIn,hp,hnt];done) | trace_state
 ·exact fc
 rintro v M' ⟨T1,x1,g,b,e,n1,c1,hsf,hn1,hc1,hv⟩
 obtain ⟨hv1,hl1,hx1,hg,hk1,he,hb⟩:=sealF_info i5 a1 dr p.t hsf
 have hk1:x1.kp = s.e0.l.take s.e0.m:=hk1.trans a6
 have hSm:=fn19 x1 x1 hx1 hx1 (s.e0.l.take s.e0.m) s.e0.r s.e0.m s.e0.m s.e0.R s.e0.q hlt (Nat.le_refl _) (by omega) hlO a7 a8 (by omega) a10
 have hsame:sameP x1 x1/\(s.e0.l.take s.e0.m).take s.e0.m = s.e0.r.take s.e0.q:=⟨sameP_selfP x1,by rw [List.take_take,Nat.min_self,<- a6,a11]⟩
 have hx1':=hx1
 obtain ⟨u1,u2,u3,u4,u5,u6,u7,u8,u9,_⟩:=hx1'
 have hg':=hg
 obtain ⟨w1,w2,w3,w4,w5⟩:=hg'
 rcases hv with ⟨rfl,rfl,rfl⟩ | ⟨C,w,rfl,hC,rfl,rfl⟩
 ·have hne:¬ e = 0:=fun h=>by obtain ⟨_,h⟩:=he.1 h;cases h
  dsimp only [zt,zM,zE,ren,zz,zx,zy,look,zG,zX,ev,evL,zV,zcT,zcF,act,zP,zO,Ent.zW]
  repeat (first | (refine Grow.turn rfl rfl ?_) | (refine sdn ?_))
  refine Draw.intro [[],[],[1],[1,2],[],[],[],[5,6],[5,6,7],[5,6,7,8],[0,1,2,3,4,5,6,7,8,9],[0,1,2,3,4,5,6,7,8,9,10],[0,1,2,3,4,5,6,7,8,9,10,11],[0,1,2,3,4,5,6,7,8,9,10,11],[0,1,2,3,4,5,6,7,8,9,10,11],[0,1,2,3,4,5,6,7,8,9,10,11],[],[],[0,1,2,3,4,5,6,7,8,9,10,11,12,16,17],[0,1,2,3,4,5,6,7,8,9,10,11,12,13,16,17,18],[0,1,2,3,4,5,6,7,8,9,10,11,12,13,14,16,17,18,19],[0,1,2,3,4,5,6,7,8,9,10,11,12,13,14,15,16,17,18,19,20]] [0,1,2,3,4,5,6,7,8,9,16,17,10,11,12,13,14,15,18,19,20,21] (by kernel_rfl) ?_
  repeat (first | (refine Grow.turn rfl rfl ?_) | (refine sdn ?_))
  refine Call.intro hSr [(1000,(1100,0,none)),(1001,(222,0,none)),(1005,(405,0,none)),(1009,(409,0,none))] rfl ?_ rfl ?_ rfl ?_
  ·repeat' (first | (show zA _;first | exact trivial | refine zA.app ?_ ?_ | refine zA.zd ?_ ?_ | refine zA.cons ?_ ?_) | exact fd | fail)
   all_goals first | (simp only [Ix.val,zQ,Nat.zero_add,zIn,hp,hnt];done) | trace_state
  ·exact fc
  rintro v M' ⟨T1',x1',g',b',e',n1',c2,hsf',hn1',hc2,hv'⟩
  rw [hsf] at hsf'
  simp only [zpI] at hsf'
  obtain ⟨rfl,rfl,rfl,rfl,rfl⟩:=hsf'
  obtain rfl:n1 = n1':=hn1.symm.trans hn1'
  rcases hv' with ⟨_,rfl,rfl⟩ | ⟨C',k',hcc,_⟩
  rotate_left
  ·cases hcc
  dsimp only [zt,zM,zE,ren,zz,zx,zy,look,zG,zX,ev,evL,zV,zcT,zcF,act,zP,zO,Ent.zW]
  repeat (first | (refine Grow.turn rfl rfl ?_) | (refine sdn ?_))
  repeat (first | (refine zB.intro (fun h=>False.elim (by revert h;first | (simp ;done) | fail)) (fun _=>?_)) | (refine zB.intro (fun _=>?_) (fun h=>False.elim (by revert h;first | (simp ;done) | fail))) | (refine sd ?_))
  refine Call.intro fnBytesN0 [] rfl ?_ rfl ?_ rfl ?_
  ·exact fc
  ·exact fc
  rintro v M' ⟨rfl,rfl⟩
  dsimp only [zt,zM,zE,ren,zz,zx,zy,look,zG,zX,ev,evL,zV,zcT,zcF,act,zP,zO,Ent.zW]
  repeat (first | (refine zB.intro (fun h=>False.elim (by revert h;first | (simp ;done) | fail)) (fun _=>?_)) | (refine zB.intro (fun _=>?_) (fun h=>False.elim (by revert h;first | (simp ;done) | fail))) | (refine sd ?_))
  refine Call.intro hSm [] rfl ?_ rfl ?_ rfl ?_
  ·exact fc
  ·exact fc
  rintro v M' ⟨rfl,rfl⟩
  dsimp only [zt,zM,zE,ren,zz,zx,zy,look,zG,zX,ev,evL,zV,zcT,zcF,act,zP,zO,Ent.zW]
  first | (refine zB.intro (fun h=>False.elim (by revert h;first | (simp [hsame];done) | fail)) (fun _=>?_)) | (refine zB.intro (fun _=>?_) (fun h=>False.elim (by revert h;first | (simp [hsame];done) | fail)))
  repeat (refine sd ?_)
  first | (refine zB.intro (fun h=>False.elim (by revert h;first | (simp [hne];done) | fail)) (fun _=>?_)) | (refine zB.intro (fun _=>?_) (fun h=>False.elim (by revert h;first | (simp [hne];done) | fail)))
  repeat (refine sd ?_)
  refine hq ⟨T1,n1,c1,c2,⟨x1,s.e0.l.take s.e0.m,s.e0.m,s.e0.m,s.e0.r,s.e0.R,s.e0.q⟩,s.e1,s.S,s.ns,s.cs⟩ _ _ ⟨hn1,hc1,hc2,by show n1 <= _;omega,hv1,⟨hx1,hlt,Nat.le_refl _,by show s.e0.m <= _;omega,hlO,by show x1.kp = _;rw [hk1,List.take_take,Nat.min_self],a7,a8,by show s.e0.R <= _;omega,a10,by show x1.kp = _;rw [hk1,<- a6,a11]⟩,i7.mono (by omega),i8,i9,by show s.ns <= _;omega,i11⟩ (Le.intro [(203,(203,0,none)),(204,(204,0,none)),(205,(205,0,none)),(206,(206,0,none)),(207,(207,0,none)),(221,(305,0,none)),(222,(405,0,none))] rfl ?_ rfl ?_ rfl)
  ·exact fc
  ·exact fc
 ·have h0:e = 0:=he.2 ⟨_,rfl⟩
  subst h0
  have hCb:=hb C rfl
  dsimp only [zt,zM,zE,ren,zz,zx,zy,look,zG,zX,ev,evL,zV,zcT,zcF,act,zP,zO,Ent.zW]
  repeat (first | (refine Grow.turn rfl rfl ?_) | (refine sdn ?_))
  refine Draw.intro [[],[],[1],[1,2],[],[],[],[5,6],[5,6,7],[5,6,7,8],[0,1,2,3,4,5,6,7,8,9],[0,1,2,3,4,5,6,7,8,9,10],[0,1,2,3,4,5,6,7,8,9,10,11],[0,1,2,3,4,5,6,7,8,9,10,11],[0,1,2,3,4,5,6,7,8,9,10,11],[0,1,2,3,4,5,6,7,8,9,10,11],[],[],[0,1,2,3,4,5,6,7,8,9,10,11,12,16,17],[0,1,2,3,4,5,6,7,8,9,10,11,12,13,16,17,18],[0,1,2,3,4,5,6,7,8,9,10,11,12,13,14,16,17,18,19],[0,1,2,3,4,5,6,7,8,9,10,11,12,13,14,15,16,17,18,19,20]] [0,1,2,3,4,5,6,7,8,9,16,17,10,11,12,13,14,15,18,19,20,21] (by kernel_rfl) ?_
  repeat (first | (refine Grow.turn rfl rfl ?_) | (refine sdn ?_))
  refine Call.intro hSr [(1000,(1100,0,none)),(1001,(222,0,none)),(1005,(405,0,none)),(1009,(409,0,none))] rfl ?_ rfl ?_ rfl ?_
  ·repeat' (first | (show zA _;first | exact trivial | refine zA.app ?_ ?_ | refine zA.zd ?_ ?_ | refine zA.cons ?_ ?_) | exact fd | fail)
   all_goals first | (simp only [Ix.val,zQ,Nat.zero_add,zIn,hp,hnt];done) | trace_state
  ·exact fc
  rintro v M' ⟨T1',x1',g',b',e',n1',c2,hsf',hn1',hc2,hv'⟩
  rw [hsf] at hsf'
  simp only [zpI] at hsf'
  obtain ⟨rfl,rfl,rfl,rfl,rfl⟩:=hsf'
  obtain rfl:n1 = n1':=hn1.symm.trans hn1'
  rcases hv' with ⟨hcc,_⟩ | ⟨C',k',hcc,hC',rfl,rfl⟩
  ·cases hcc
  obtain rfl:C = C':=Option.some.inj hcc
  obtain rfl:w = k':=hC.symm.trans hC'
  have hBy:=fnBytesP C C w w hC hC
  dsimp only [zt,zM,zE,ren,zz,zx,zy,look,zG,zX,ev,evL,zV,zcT,zcF,act,zP,zO,Ent.zW]
  repeat (first | (refine Grow.turn rfl rfl ?_) | (refine sdn ?_))
  repeat (first | (refine zB.intro (fun h=>False.elim (by revert h;first | (simp ;done) | fail)) (fun _=>?_)) | (refine zB.intro (fun _=>?_) (fun h=>False.elim (by revert h;first | (simp ;done) | fail))) | (refine sd ?_))
  refine Call.name [(1,[]),(1,[])] rfl ?_ (CallP.intro hBy [] rfl ?_ rfl ?_ rfl ?_)
  ·exact fc
  ·exact fc
  ·exact fc
  rintro v M' ⟨rfl,rfl⟩
  dsimp only [zt,zM,zE,ren,zz,zx,zy,look,zG,zX,ev,evL,zV,zcT,zcF,act,zP,zO,Ent.zW]
  repeat (first | (refine zB.intro (fun h=>False.elim (by revert h;first | (simp ;done) | fail)) (fun _=>?_)) | (refine zB.intro (fun _=>?_) (fun h=>False.elim (by revert h;first | (simp ;done) | fail))) | (refine sd ?_))
  refine Call.intro hSm [] rfl ?_ rfl ?_ rfl ?_
  ·exact fc
  ·exact fc
  rintro v M' ⟨rfl,rfl⟩
  dsimp only [zt,zM,zE,ren,zz,zx,zy,look,zG,zX,ev,evL,zV,zcT,zcF,act,zP,zO,Ent.zW]
  first | (refine zB.intro (fun h=>False.elim (by revert h;first | (simp [hsame];done) | fail)) (fun _=>?_)) | (refine zB.intro (fun _=>?_) (fun h=>False.elim (by revert h;first | (simp [hsame];done) | fail)))
  repeat (refine sd ?_)
  first | (refine zB.intro (fun h=>False.elim (by revert h;first | (simp ;done) | fail)) (fun _=>?_)) | (refine zB.intro (fun _=>?_) (fun h=>False.elim (by revert h;first | (simp ;done) | fail)))
  repeat (refine sd ?_)
  subst hC
  subst hp
  refine plApp ops N i hN hNm hi hi40 ⟨T1,n1,c1,c2,⟨x1,s.e0.l.take s.e0.m,s.e0.m,s.e0.m,s.e0.r,s.e0.R,s.e0.q⟩,s.e1,s.S,s.ns,s.cs⟩ hn1 hc1 hc2 (by show n1 <= _;omega) (60 * (i + 1) + 60) ⟨hx1,hlt,Nat.le_refl _,by show s.e0.m <= _;omega,hlO,by show x1.kp = _;rw [hk1,List.take_take,Nat.min_self],a7,a8,by show s.e0.R <= _;omega,a10,by show x1.kp = _;rw [hk1,<- a6,a11]⟩ (i7.mono (by omega)) (by omega) i8 i9 i10 0 g hg C Q (fun T' M' c' hc' hl=>hq ⟨T1,n1,c1,c2,⟨x1,s.e0.l.take s.e0.m,s.e0.m,s.e0.m,s.e0.r,s.e0.R,s.e0.q⟩,s.e1,s.S ++ [⟨0,g,C,(ops.getD i op0).t⟩],s.ns + 1,c'⟩ _ _ ⟨hn1,hc1,hc2,by show n1 <= _;omega,hv1,⟨hx1,hlt,Nat.le_refl _,by show s.e0.m <= _;omega,hlO,by show x1.kp = _;rw [hk1,List.take_take,Nat.min_self],a7,a8,by show s.e0.R <= _;omega,a10,by show x1.kp = _;rw [hk1,<- a6,a11]⟩,i7.mono (by omega),by show (s.S ++ _).length = s.ns + 1;rw [zlA,i8];rfl,hc',by show s.ns + 1 <= _;omega,?_⟩ hl) _ _ (Le.ghost [] [(20,0)] [(203,(203,0,none)),(204,(204,0,none)),(205,(205,0,none)),(206,(206,0,none)),(207,(207,0,none)),(221,(305,0,none)),(222,(405,0,none)),(219,(19,0,none))] rfl ?_ rfl rfl ?_ rfl ?_ rfl)
  ·intro y hy
   rcases List.mem_append.1 hy with hy | hy
   ·exact i11 y hy
   ·obtain rfl:=List.mem_singleton.1 hy
    exact ⟨hg,hCb.1,hCb.2⟩
  ·exact fc
  ·exact fc
  ·exact fc
end Go.Proofs.YtfnmgbillkiabaaGreat
