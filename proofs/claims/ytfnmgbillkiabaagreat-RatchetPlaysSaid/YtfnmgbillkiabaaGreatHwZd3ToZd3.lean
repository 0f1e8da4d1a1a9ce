/- What the functions of the program compute. No condition. -/
import Derived.Test.YtfnmgbillkiabaaGreatHwZd2ToZd2
import Derived.Test.YtfnmgbillkiabaaGreatHwZa8ToZa8
set_option linter.unusedSimpArgs false
set_option linter.unusedVariables false
set_option maxRecDepth 100000
namespace Go.Proofs.YtfnmgbillkiabaaGreat
open Go Go.Sx
set_option maxHeartbeats 8000000 in
theorem plOpen0 (ops:List Opr) (N i:Nat) (hN:ops.length = N) (hNm:N <= maxLen) (hi:i < N) (hi40:i < 40) (s:Pl) (hI:PlI i s) (p:Opr) (hp:ops.getD i op0 = p) (lt:Lt) (hlt:lt.OK) (Q:Post)
  (hq:∀ s' T' M',PlI (i + 1) s'->Le [] (plT ops N i s') (plM s') T' M'->Q (.exit 1) T' M') (T0:Tm) (M0:Mm)
  (hle:Le [] [(0,.isl 0 N 6 [(N * 6,.arr N 6 (opF ops))]),(3,.ptr 203 0 none),(4,.ptr 204 0 none),(5,.ptr 205 0 none),(6,.ptr 206 0 none),(7,.sl 207 0 0 s.ns s.cs),(8,.i .i64 ((i:Nat):Int)),(9,.i .i64 0),(10,.ptr 210 0 none)] [(203,.mem true 0 [(1,.ptr 1000 0 none)]),(204,.mem true 0 [(1,.ptr 1100 0 none)]),(205,.mem true 0 (s.e0.pL ++ s.e1.pL)),(206,.mem true 0 (s.e0.rL ++ s.e1.rL)),(207,.mem true (zmE (s.cs - s.ns) 167) [(s.ns * 167,.arr s.ns 167 (ltF s.S))]),(1000,.mem true 0 [(1,.sl 221 0 0 s.n s.c),(1,.mp 1002)]),(221,.mem true (zmE (s.c - s.n) 3) [(s.n * 3,.arr s.n 3 (ttF s.T))]),(1002,.map (.si (mpL s.T))),(1100,.mem true 0 [(1,.sl 222 0 0 s.n s.d)]),(222,.mem true (zmE (s.d - s.n) 2) [(s.n * 2,.arr s.n 2 (rtF s.T))]),(210,.mem true 0 (ltR lt))] T0 M0):exec Γ [18,20,23,29,30,37] [] (tailF Tryz.f3 23) T0 M0 Q:=by
 have hmx:maxLen = 9223372036854775807:=by decide
 refine Cut.intro (σ:=Unit) (fun _=>True) (fun _=>([(0,.isl 0 N 6 [(N * 6,.arr N 6 (opF ops))]),(3,.ptr 203 0 none),(4,.ptr 204 0 none),(5,.ptr 205 0 none),(6,.ptr 206 0 none),(7,.sl 207 0 0 s.ns s.cs),(8,.i .i64 ((i:Nat):Int)),(9,.i .i64 0),(10,.ptr 210 0 none)],[(203,.mem true 0 [(1,.ptr 1000 0 none)]),(204,.mem true 0 [(1,.ptr 1100 0 none)]),(205,.mem true 0 [(32,.a8 s.e0.X.id),(32,.a8 s.e0.X.root),(32,.a8 s.e0.X.mine),(1,.bool (s.e0.X.hs = true)),(32,.a8 s.e0.X.sk),(1,.u16 s.e0.X.sn),(1,.u16 s.e0.X.pv),(32,.a8 s.e0.X.th),(1,.bool (s.e0.X.hr = true)),(32,.a8 s.e0.X.rk),(1,.u16 s.e0.X.rn),(1,.bool (s.e0.X.fi = true)),(32,.a8 s.e0.X.ag),(32,.a8 s.e0.X.sg),(32,.a8 s.e0.X.ba),(1,.u16 s.e0.X.oc),(1,.isl 0 s.e0.m 65 [(s.e0.N * 65,.arr s.e0.N 65 (kpF s.e0.l))]),(32,.a8 s.e1.X.id),(32,.a8 s.e1.X.root),(32,.a8 s.e1.X.mine),(1,.bool (s.e1.X.hs = true)),(32,.a8 s.e1.X.sk),(1,.u16 s.e1.X.sn),(1,.u16 s.e1.X.pv),(32,.a8 s.e1.X.th),(1,.bool (s.e1.X.hr = true)),(32,.a8 s.e1.X.rk),(1,.u16 s.e1.X.rn),(1,.bool (s.e1.X.fi = true)),(32,.a8 s.e1.X.ag),(32,.a8 s.e1.X.sg),(32,.a8 s.e1.X.ba),(1,.u16 s.e1.X.oc),(1,.isl 0 s.e1.m 65 [(s.e1.N * 65,.arr s.e1.N 65 (kpF s.e1.l))])]),(206,.mem true 0 [(32,.a8 s.e0.X.id),(32,.a8 s.e0.X.root),(32,.a8 s.e0.X.mine),(1,.bool (s.e0.X.hs = true)),(32,.a8 s.e0.X.sk),(1,.u16 s.e0.X.sn),(1,.u16 s.e0.X.pv),(32,.a8 s.e0.X.th),(1,.bool (s.e0.X.hr = true)),(32,.a8 s.e0.X.rk),(1,.u16 s.e0.X.rn),(1,.bool (s.e0.X.fi = true)),(32,.a8 s.e0.X.ag),(32,.a8 s.e0.X.sg),(32,.a8 s.e0.X.ba),(1,.u16 s.e0.X.oc),(1,.isl 0 s.e0.q 65 [(s.e0.R * 65,.arr s.e0.R 65 (kpF s.e0.r))]),(32,.a8 s.e1.X.id),(32,.a8 s.e1.X.root),(32,.a8 s.e1.X.mine),(1,.bool (s.e1.X.hs = true)),(32,.a8 s.e1.X.sk),(1,.u16 s.e1.X.sn),(1,.u16 s.e1.X.pv),(32,.a8 s.e1.X.th),(1,.bool (s.e1.X.hr = true)),(32,.a8 s.e1.X.rk),(1,.u16 s.e1.X.rn),(1,.bool (s.e1.X.fi = true)),(32,.a8 s.e1.X.ag),(32,.a8 s.e1.X.sg),(32,.a8 s.e1.X.ba),(1,.u16 s.e1.X.oc),(1,.isl 0 s.e1.q 65 [(s.e1.R * 65,.arr s.e1.R 65 (kpF s.e1.r))])]),(207,.mem true (zmE (s.cs - s.ns) 167) [(s.ns * 167,.arr s.ns 167 (ltF s.S))]),(1000,.mem true 0 [(1,.sl 221 0 0 s.n s.c),(1,.mp 1002)]),(221,.mem true (zmE (s.c - s.n) 3) [(s.n * 3,.arr s.n 3 (ttF s.T))]),(1002,.map (.si (mpL s.T))),(1100,.mem true 0 [(1,.sl 222 0 0 s.n s.d)]),(222,.mem true (zmE (s.d - s.n) 2) [(s.n * 2,.arr s.n 2 (rtF s.T))]),(210,.mem true 0 (ltR lt))])) () trivial hle ?_
 rintro - -
 obtain ⟨i1,i2,i3,i4,i5,i6,i7,i8,i9,i10,i11⟩:=hI
 have hEo:s.e0.OK (60 * i + 60):=i6
 obtain ⟨a1,a2,a3,a4,a5,a6,a7,a8,a9,a10,a11⟩:=hEo
 have a1':=a1
 obtain ⟨h1,h2,h3,h4,h5,h6,h7,h8,h9,_⟩:=a1'
 have hOo:=i7
 obtain ⟨b1,b2,b3,b4,b5,b6,b7,b8,b9,b10,b11⟩:=hOo
 obtain ⟨k1,k2,k3,k4,k5,k6,k7,k8,k9,_⟩:=b1
 obtain ⟨l1,l2,l3⟩:=hlt
 have l1':=l1
 obtain ⟨f1,f2,f3,f4,f5⟩:=l1'
 obtain ⟨nb,hnb⟩:∃ nb,lt.b.length = nb:=⟨_,rfl⟩
 rw [hnb] at l2 l3
 have hSp:=fnSpoilt lt.f lt.h l1 lt.b nb hnb (by omega) (by omega) lt.t lt.t.length rfl p.e (p.o = true) p.w p.t p.t.length rfl p.a p.y
 obtain ⟨B,hB⟩:∃ B,spB lt.b p.a p.y = B:=⟨_,rfl⟩
 have hBl:B.length = nb:=by rw [<- hB,spB_length,hnb]
 rw [hB] at hSp
 have hA:=fn15 s.T s.n s.c i1 (by omega) i2 i5 s.e0.X a1 s.e0.l s.e0.N s.e0.m a2 a3 (by omega) a5 a6 lt.h l1 B nb hBl (by omega)
 have hR:=fn17 s.T s.n s.d i1 (by omega) i3 i5 s.e0.X a1 s.e0.r s.e0.R s.e0.q a7 a8 (by omega) a10 a11 lt.h l1 B nb hBl (by omega)
 unfold tbM seL hdV at hA
 unfold rbM seL hdV at hR
 unfold ltL opL at hSp
 refine Draw.intro [[],[],[1],[1,2],[],[4],[],[],[],[7,8],[7,8,9],[6,7,8,9,10],[0,1,2,3,4,5,6,7,8,9,10,11],[0,1,2,3,4,5,6,7,8,9,10,11,12],[0,1,2,3,4,5,6,7,8,9,10,11,12,13],[0,1,2,3,4,5,6,7,8,9,10,11,12,13],[0,1,2,3,4,5,6,7,8,9,10,11,12,13],[],[0,1,2,3,4,5,6,7,8,9,10,11,12,13,14,17],[0,1,2,3,4,5,6,7,8,9,10,11,12,13,14,15,17,18],[0,1,2,3,4,5,6,7,8,9,10,11,12,13,14,15,16,17,18,19]] [0,1,2,3,4,5,6,7,8,9,10,17,11,12,13,14,15,16,18,19,20] (by kernel_rfl) ?_
 repeat (first | (refine Grow.turn rfl rfl ?_) | (refine sdn ?_))
 refine Call.intro hSp [] rfl ?_ rfl ?_ rfl ?_
 ·repeat' (first | (show zA _;first | exact trivial | refine zA.app ?_ ?_ | refine zA.zd ?_ ?_ | refine zA.cons ?_ ?_) | exact fd | fail)
  all_goals first | (simp only [Ix.val,zQ,Nat.zero_add,zIn,hp,hnb];done) | trace_state
 ·exact fc
 rintro v M' ⟨rfl,rfl⟩
 dsimp only [zt,zM,zE,ren,zz,zx,zy,look,zG,zX,ev,evL,zV,zcT,zcF,act,zP,zO,Ent.zW]
 repeat (first | (refine Grow.turn rfl rfl ?_) | (refine sdn ?_))
 refine Call.name [(0,[]),(0,[]),(0,[]),(2006,[])] rfl fc (CallP.intro hA [(1000,(1000,0,none)),(1001,(221,0,none)),(1002,(1002,0,none)),(1003,(2006,0,none)),(1005,(305,0,none))] rfl fc rfl ?_ rfl ?_)
 ·exact fc
 rintro v M' ⟨T2,x2,p2,e2,n2,c2,le,Ne,me,kq,hres,hn2,hc2,hN2',⟨hv2,hx2⟩,hle2,hme,hNe,hkx,hleO,hkq,hkq1,rfl,rfl⟩
 dsimp only [zt,zM,zE,ren,zz,zx,zy,look,zG,zX,ev,evL,zV,zcT,zcF,act,zP,zO,Ent.zW]
 repeat (first | (refine Grow.turn rfl rfl ?_) | (refine sdn ?_))
 refine Draw.intro [[],[],[1],[1,2],[],[4],[],[],[],[7,8],[7,8,9],[6,7,8,9,10],[0,1,2,3,4,5,6,7,8,9,10,11],[0,1,2,3,4,5,6,7,8,9,10,11,12],[0,1,2,3,4,5,6,7,8,9,10,11,12,13],[0,1,2,3,4,5,6,7,8,9,10,11,12,13],[0,1,2,3,4,5,6,7,8,9,10,11,12,13],[],[0,1,2,3,4,5,6,7,8,9,10,11,12,13,14,17],[0,1,2,3,4,5,6,7,8,9,10,11,12,13,14,15,17,18],[0,1,2,3,4,5,6,7,8,9,10,11,12,13,14,15,16,17,18,19]] [0,1,2,3,4,5,6,7,8,9,10,17,11,12,13,14,15,16,18,19,20] (by kernel_rfl) ?_
 repeat (first | (refine Grow.turn rfl rfl ?_) | (refine sdn ?_))
 refine Call.intro hSp [] rfl ?_ rfl ?_ rfl ?_
 ·repeat' (first | (show zA _;first | exact trivial | refine zA.app ?_ ?_ | refine zA.zd ?_ ?_ | refine zA.cons ?_ ?_) | exact fd | fail)
  all_goals first | (simp only [Ix.val,zQ,Nat.zero_add,zIn,hp,hnb];done) | trace_state
 ·exact fc
 rintro v M' ⟨rfl,rfl⟩
 dsimp only [zt,zM,zE,ren,zz,zx,zy,look,zG,zX,ev,evL,zV,zcT,zcF,act,zP,zO,Ent.zW]
 repeat (first | (refine Grow.turn rfl rfl ?_) | (refine sdn ?_))
 refine Call.name [(0,[]),(0,[]),(0,[]),(2007,[])] rfl fc (CallP.intro hR [(1000,(1100,0,none)),(1001,(222,0,none)),(1003,(2007,0,none)),(1005,(306,0,none))] rfl fc rfl ?_ rfl ?_)
 ·exact fc
 rintro v M' ⟨T3,x3,p3,e3,n3,c3,lr,Nr,mr,kr,hres3,hn3,hc3,hN3',⟨hv3,hx3⟩,hlr2,hmr,hNr,hkr,hlrO,hkrq,hkr1,rfl,rfl⟩
 obtain ⟨rfl,rfl,rfl,rfl⟩:=open_det hres hres3
 obtain rfl:kq = kr:=hkq.symm.trans hkrq
 obtain rfl:n2 = n3:=hn2.symm.trans hn3
 have hBy:=fnBytesP (p2.getD []) (p2.getD []) kq kq hkq hkq
 have hSm:=fn19 x2 x2 hx2 hx2 le lr Ne me Nr mr hle2 hme (by omega) hleO hlr2 hmr (by omega) hlrO
 have hsame:sameP x2 x2/\le.take me = lr.take mr:=⟨sameP_selfP x2,by rw [<- hkx,<- hkr]⟩
 have hx2':=hx2
 obtain ⟨u1,u2,u3,u4,u5,u6,u7,u8,u9,_⟩:=hx2'
 dsimp only [zt,zM,zE,ren,zz,zx,zy,look,zG,zX,ev,evL,zV,zcT,zcF,act,zP,zO,Ent.zW]
 repeat (first | (refine Grow.turn rfl rfl ?_) | (refine sdn ?_))
 repeat (first | (refine zB.intro (fun _=>?_) (fun hn=>absurd rfl hn)) | (refine ky0 ?_) | (refine kn0 ?_) | (refine sd ?_))
 refine Call.intro hBy [] rfl ?_ rfl ?_ rfl ?_
 ·exact fc
 ·exact fc
 rintro v M' ⟨rfl,rfl⟩
 dsimp only [zt,zM,zE,ren,zz,zx,zy,look,zG,zX,ev,evL,zV,zcT,zcF,act,zP,zO,Ent.zW]
 repeat (first | (refine zB.intro (fun _=>?_) (fun hn=>absurd rfl hn)) | (refine ky0 ?_) | (refine kn0 ?_) | (refine sd ?_))
 refine Call.intro hSm [] rfl ?_ rfl ?_ rfl ?_
 ·exact fc
 ·exact fc
 rintro v M' ⟨rfl,rfl⟩
 dsimp only [zt,zM,zE,ren,zz,zx,zy,look,zG,zX,ev,evL,zV,zcT,zcF,act,zP,zO,Ent.zW]
 first | (refine zB.intro (fun h=>False.elim (by revert h;first | (simp [hsame];done) | fail)) (fun _=>?_)) | (refine zB.intro (fun _=>?_) (fun h=>False.elim (by revert h;first | (simp [hsame];done) | fail)))
 repeat (refine sd ?_)
 refine hq ⟨T2,n2,c2,c3,⟨x2,le,Ne,me,lr,Nr,mr⟩,s.e1,s.S,s.ns,s.cs⟩ _ _ ⟨hn2,hc2,hc3,by show n2 <= _;omega,hv2,⟨hx2,hle2,hme,by show Ne <= _;omega,hleO,hkx,hlr2,hmr,by show Nr <= _;omega,hlrO,hkr⟩,i7.mono (by omega),i8,i9,by show s.ns <= _;omega,i11⟩ (Le.intro [(203,(203,0,none)),(204,(204,0,none)),(205,(205,0,none)),(206,(206,0,none)),(207,(207,0,none)),(221,(305,0,none)),(222,(306,0,none))] rfl ?_ rfl ?_ rfl)
 ·exact fc
 ·exact fc
end Go.Proofs.YtfnmgbillkiabaaGreat
