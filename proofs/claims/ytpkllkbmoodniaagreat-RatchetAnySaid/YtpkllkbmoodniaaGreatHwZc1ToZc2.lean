/- What the functions of the program compute. No condition. -/
import Derived.Test.YtpkllkbmoodniaaGreatHwZa8ToZa8
import Derived.Test.YtpkllkbmoodniaaGreatHwRb5ToRb6
import Derived.Test.YtpkllkbmoodniaaGreatHwRb8ToRb8
import Derived.Test.YtpkllkbmoodniaaGreatHx7
set_option linter.unusedSimpArgs false
set_option linter.unusedVariables false
namespace Go.Proofs.YtpkllkbmoodniaaGreat
open Go Go.Sx
theorem fnBytesY (x y:List UInt8) (n m:Nat) (hx:x.length = n) (hy:y.length = m):Sx.Fn Γ.P 18 [.isl 0 n 1 [(n,.a8 x)],.isl 0 m 1 [(m,.a8 y)]] [] (fun v M=>v = .bool (x = y)∧M = []):=by
 have h:=fn18 x y
 rw [hx,hy,Nat.mul_one,Nat.mul_one] at h
 exact h
theorem sameP_self' (x:Se):sameP x x:=⟨rfl,rfl,rfl,rfl,rfl,rfl,rfl,rfl,rfl,rfl,rfl,rfl,rfl,rfl,rfl,rfl⟩
set_option maxRecDepth 100000 in
set_option maxHeartbeats 8000000 in
theorem raTail (T:List Te) (n c d:Nat) (hT:T.length = n) (hn:n ≤ 38000) (hc:n ≤ c) (hd:n ≤ d) (hTv:∀ x ∈ T,Valid x.1 x.2) (x:Se) (hx:x.OK) (ml:Nat) (l1 l2:List Kp) (N1 N2:Nat) (hl1:l1.length = N1) (hl2:l2.length = N2) (hm1:ml ≤ N1) (hm2:ml ≤ N2) (hN1:N1 ≤ 1000) (hN2:N2 ≤ 1000)
  (hO1:∀ y ∈ l1,KpOK y) (hO2:∀ y ∈ l2,KpOK y) (hk1:x.kp = l1.take ml) (hk2:x.kp = l2.take ml) (h:Hd) (hh:h.OK) (B:List UInt8) (m:Nat) (hB:B.length = m) (hm:m ≤ 3000) (T0:Tm) (M0:Mm)
  (hle:Le [] [(4,.isl 0 m 1 [(m,.a8 B)]),(8,.ptr 208 0 none),(11,.ptr 211 0 none),(12,.ptr 212 0 none),(13,.ptr 213 0 none),(17,.ptr 217 0 none)] [(208,.mem true 0 [(32,.a8 h.ss),(1,.bool (h.fi = true)),(32,.a8 h.ag),(32,.a8 h.sg),(32,.a8 h.ba),(1,.u16 h.id),(32,.a8 h.ra),(1,.u16 h.n),(1,.u16 h.pv)]),(211,.mem true 0 [(1,.ptr 1000 0 none)]),(212,.mem true 0 [(1,.ptr 1100 0 none)]),(213,.mem true 0 (seL x (.isl 0 ml 65 [(N1 * 65,.arr N1 65 (kpF l1))]))),(217,.mem true 0 (seL x (.isl 0 ml 65 [(N2 * 65,.arr N2 65 (kpF l2))]))),(1000,.mem true 0 [(1,.sl 221 0 0 n c),(1,.mp 1002)]),(221,.mem true (mulE (c - n) 3) [(n * 3,.arr n 3 (ttF T))]),(1002,.map (.si (mpL T))),(1100,.mem true 0 [(1,.sl 222 0 0 n d)]),(222,.mem true (mulE (d - n) 2) [(n * 2,.arr n 2 (rtF T))])] T0 M0):Tail Γ [10] Tryz.f4 10 [] T0 M0 (fun v _=>v = .tt):=by
 refine Cut.intro (σ:=Unit) (fun _=>True) (fun _=>([(4,.isl 0 m 1 [(m,.a8 B)]),(8,.ptr 208 0 none),(11,.ptr 211 0 none),(12,.ptr 212 0 none),(13,.ptr 213 0 none),(17,.ptr 217 0 none)],[(208,.mem true 0 [(32,.a8 h.ss),(1,.bool (h.fi = true)),(32,.a8 h.ag),(32,.a8 h.sg),(32,.a8 h.ba),(1,.u16 h.id),(32,.a8 h.ra),(1,.u16 h.n),(1,.u16 h.pv)]),(211,.mem true 0 [(1,.ptr 1000 0 none)]),(212,.mem true 0 [(1,.ptr 1100 0 none)]),(213,.mem true 0 (seL x (.isl 0 ml 65 [(N1 * 65,.arr N1 65 (kpF l1))]))),(217,.mem true 0 (seL x (.isl 0 ml 65 [(N2 * 65,.arr N2 65 (kpF l2))]))),(1000,.mem true 0 [(1,.sl 221 0 0 n c),(1,.mp 1002)]),(221,.mem true (mulE (c - n) 3) [(n * 3,.arr n 3 (ttF T))]),(1002,.map (.si (mpL T))),(1100,.mem true 0 [(1,.sl 222 0 0 n d)]),(222,.mem true (mulE (d - n) 2) [(n * 2,.arr n 2 (rtF T))])])) () trivial hle ?_
 rintro - -
 have hx':=hx
 obtain ⟨h1,h2,h3,h4,h5,h6,h7,h8,h9,_⟩:=hx'
 have hh':=hh
 obtain ⟨f1,f2,f3,f4,f5⟩:=hh'
 have hA:=fn15 T n c hT (by omega) hc hTv x hx l1 N1 ml hl1 hm1 (by omega) hO1 hk1 h hh B m hB (by omega)
 have hR:=fn17 T n d hT (by omega) hd hTv x hx l2 N2 ml hl2 hm2 (by omega) hO2 hk2 h hh B m hB (by omega)
 unfold tbM seL hdV at hA
 unfold rbM seL hdV at hR
 repeat (refine sd ?_)
 refine Call.name [(0,[]),(0,[]),(0,[]),(2006,[])] rfl fc (CallP.intro hA [(1000,(1000,0,none)),(1001,(221,0,none)),(1002,(1002,0,none)),(1003,(2006,0,none)),(1005,(305,0,none))] rfl fc rfl ?_ rfl ?_)
 ·exact fc
 rintro v M' ⟨T2,x2,p2,e2,n2,c2,le,Ne,me,kq,hres,hn2,hc2,hN2',⟨hv2,hx2⟩,hle2,hme,hNe,hkx,hleO,hkq,hkq1,rfl,rfl⟩
 dsimp only [putT,afterM,newEnt,ren,renA,renS,renL,look,getM,getT,ev,evL,ofVal,cond_true,cond_false,Nat.beq_eq,act,isPar,ownPar,Ent.isOwn]
 repeat (refine sd ?_)
 refine Call.name [(0,[]),(0,[]),(0,[]),(2007,[])] rfl fc (CallP.intro hR [(1000,(1100,0,none)),(1001,(222,0,none)),(1003,(2007,0,none)),(1005,(306,0,none))] rfl fc rfl ?_ rfl ?_)
 ·exact fc
 rintro v M' ⟨T3,x3,p3,e3,n3,c3,lr,Nr,mr,kr,hres3,hn3,hc3,hN3',⟨hv3,hx3⟩,hlr2,hmr,hNr,hkr,hlrO,hkrq,hkr1,rfl,rfl⟩
 obtain ⟨rfl,rfl,rfl,rfl⟩:=open_det hres hres3
 obtain rfl:kq = kr:=hkq.symm.trans hkrq
 have hBy:=fnBytesY (p2.getD []) (p2.getD []) kq kq hkq hkq
 have hSm:=fn19 x2 x2 hx2 hx2 le lr Ne me Nr mr hle2 hme (by omega) hleO hlr2 hmr (by omega) hlrO
 have hsame:sameP x2 x2∧le.take me = lr.take mr:=⟨sameP_self' x2,by rw [← hkx,← hkr]⟩
 obtain ⟨u1,u2,u3,u4,u5,u6,u7,u8,u9,_⟩:=hx2
 dsimp only [putT,afterM,newEnt,ren,renA,renS,renL,look,getM,getT,ev,evL,ofVal,cond_true,cond_false,Nat.beq_eq,act,isPar,ownPar,Ent.isOwn]
 repeat (first | (refine Branch.intro (fun _=>?_) (fun hn=>absurd rfl hn)) | (refine ky0 ?_) | (refine kn0 ?_) | (refine sd ?_))
 refine Call.intro hBy [] rfl ?_ rfl ?_ rfl ?_
 ·exact fc
 ·exact fc
 rintro v M' ⟨rfl,rfl⟩
 dsimp only [putT,afterM,newEnt,ren,renA,renS,renL,look,getM,getT,ev,evL,ofVal,cond_true,cond_false,Nat.beq_eq,act,isPar,ownPar,Ent.isOwn]
 repeat (first | (refine Branch.intro (fun _=>?_) (fun hn=>absurd rfl hn)) | (refine ky0 ?_) | (refine kn0 ?_) | (refine sd ?_))
 refine Call.intro hSm [] rfl ?_ rfl ?_ rfl ?_
 ·exact fc
 ·exact fc
 rintro v M' ⟨rfl,rfl⟩
 dsimp only [putT,afterM,newEnt,ren,renA,renS,renL,look,getM,getT,ev,evL,ofVal,cond_true,cond_false,Nat.beq_eq,act,isPar,ownPar,Ent.isOwn]
 repeat (refine sd ?_)
 refine Ret.intro .tt [] [] rfl ?_ rfl rfl ?_ rfl ?_ rfl
 ·exact fc
 ·repeat' (first | (show AllP _;first | exact trivial | refine AllP.app ?_ ?_ | refine AllP.appd ?_ ?_ | refine AllP.cons ?_ ?_) | exact fd | fail)
  all_goals first | exact hsame | exact iff_of_true trivial hsame | exact iff_of_true hsame trivial | trace_state
 ·exact fc
end Go.Proofs.YtpkllkbmoodniaaGreat
namespace Go.Proofs.YtpkllkbmoodniaaGreat
open Go Go.Sx
set_option maxRecDepth 100000 in
theorem fnRFreeT:Sx.Fn Γ.P 8 [] [] (fun v M=>v = .agg [(1,.ptr 1000 0 none)]∧M = rbM 0 0 [] 1001):=by
 refine fn_of (Γ:=Γ) (fn:=Tryz.f8) rfl rfl rfl rfl ?_
 repeat (refine sd ?_)
 refine Ret.ghost [.own 401 [(0,.arr 0 2 (rtF []))],.leaf 2 0 401] [] rfl ⟨rfl,rfl,trivial⟩ rfl (.agg [(1,.ptr 1000 0 none)]) (rbM 0 0 [] 1001) [(1000,(2,0,none)),(1001,(401,0,none))] rfl ?_ ⟨rfl,rfl⟩ rfl ?_ rfl ?_ rfl
 ·exact fc
 ·exact fc
 ·exact fc
set_option maxRecDepth 100000 in
theorem fnBytes0y:Sx.Fn Γ.P 18 [.nsl,.nsl] [] (fun v M=>v = .tt∧M = []):=by
 refine fn_of (Γ:=Γ) (fn:=Tryz.f18) rfl rfl rfl rfl ?_
 repeat (refine sd ?_)
 refine Ret.intro .tt [] [] rfl ?_ ⟨rfl,rfl⟩ rfl ?_ rfl ?_ rfl
 ·exact fc
 ·exact fc
 ·exact fc
set_option maxRecDepth 100000 in
set_option maxHeartbeats 8000000 in
theorem ratchetAny (x:Se) (hx:x.OK) (l:List Kp) (N:Nat) (hN:l.length = N) (hNm:N ≤ maxLen) (hl:∀ k ∈ l,KpOK k) (hkp:x.kp = l) (dr:List UInt8) (hdr:dr.length = 32) (p:List UInt8) (n:Nat) (hp:p.length = n) (h:Hd) (hh:h.OK) (B:List UInt8) (m:Nat) (hB:B.length = m) :
  Sx.Fn Γ.P 4 [.agg (seL x (.isl 0 N 65 [(N * 65,.arr N 65 (kpF l))])),.a8 dr,.isl 0 n 1 [(n,.a8 p)],hdV h,.isl 0 m 1 [(m,.a8 B)]] [] (fun v _=>v = .tt):=by
 have hmx:maxLen = 9223372036854775807:=by decide
 have hx':=hx
 obtain ⟨h1,h2,h3,h4,h5,h6,h7,h8,h9,_⟩:=hx'
 have hh':=hh
 obtain ⟨f1,f2,f3,f4,f5⟩:=hh'
 have hfr:=fnFreeT
 have hrr:=fnRFreeT
 unfold tbM at hfr
 unfold rbM at hrr
 unfold hdV
 refine fn_cut [10] (Γ:=Γ) (fn:=Tryz.f4) rfl rfl rfl rfl ?_
 repeat (refine sd ?_)
 refine Call.intro fn6 [] rfl trivial rfl trivial rfl ?_
 rintro v M' rfl
 dsimp only [putT,afterM,newEnt,ren,renA,renS,renL,look,getM,getT,ev,evL,ofVal,cond_true,cond_false,Nat.beq_eq,act,isPar,ownPar,Ent.isOwn]
 repeat (first | (refine Branch.intro (fun _=>?_) (fun hn=>absurd rfl hn)) | (refine ky0 ?_) | (refine kn0 ?_) | (refine sd ?_))
 refine Branch.intro (fun hc=>?_) (fun hc=>?_)
 ·repeat (first | (refine Branch.intro (fun _=>?_) (fun hn=>absurd rfl hn)) | (refine ky0 ?_) | (refine kn0 ?_) | (refine sd ?_))
  refine Ret.intro .tt [] [] rfl ?_ rfl rfl ?_ rfl ?_ rfl
  ·exact fc
  ·exact fc
  ·exact fc
 have hc:¬ 60 < (N:Int):=hc
 repeat (refine sd ?_)
 refine Branch.intro (fun hc2=>?_) (fun hc2=>?_)
 ·repeat (first | (refine Branch.intro (fun _=>?_) (fun hn=>absurd rfl hn)) | (refine ky0 ?_) | (refine kn0 ?_) | (refine sd ?_))
  refine Ret.intro .tt [] [] rfl ?_ rfl rfl ?_ rfl ?_ rfl
  ·exact fc
  ·exact fc
  ·exact fc
 have hc2:¬ 3000 < (m:Int):=hc2
 repeat (refine sd ?_)
 refine Branch.intro (fun hc3=>?_) (fun hc3=>?_)
 ·repeat (first | (refine Branch.intro (fun _=>?_) (fun hn=>absurd rfl hn)) | (refine ky0 ?_) | (refine kn0 ?_) | (refine sd ?_))
  refine Ret.intro .tt [] [] rfl ?_ rfl rfl ?_ rfl ?_ rfl
  ·exact fc
  ·exact fc
  ·exact fc
 have hc3:¬ 3000 < (n:Int):=hc3
 have hlt:(l.take N).length = N:=by rw [List.length_take];omega
 have hlO:∀ k ∈ l.take N,KpOK k:=fun k hk=>hl k (List.mem_of_mem_take hk)
 have hkp0:x.kp = l.take N:=by rw [hkp,List.take_of_length_le (by omega)]
 have hSe:=fn20 [] 0 0 rfl (by omega) (Nat.le_refl 0) tb0_valid x hx l N N hN (Nat.le_refl _) (by omega) hkp0 dr p n hdr hp (by omega)
 have hSr:=fn21 [] 0 0 rfl (by omega) (Nat.le_refl 0) tb0_valid x hx N N l dr p n hdr hp (by omega)
 unfold tbM seL at hSe
 unfold rbM seL at hSr
 repeat (refine sd ?_)
 refine Call.intro hfr [(1000,(1000,0,none)),(1001,(1001,0,none)),(1002,(1002,0,none))] rfl ?_ rfl ?_ rfl ?_
 ·exact fc
 ·exact fc
 rintro v M' ⟨rfl,rfl⟩
 dsimp only [putT,afterM,newEnt,ren,renA,renS,renL,look,getM,getT,ev,evL,ofVal,cond_true,cond_false,Nat.beq_eq,act,isPar,ownPar,Ent.isOwn]
 repeat (refine sd ?_)
 refine Call.intro hrr [(1000,(1100,0,none)),(1001,(1101,0,none))] rfl ?_ rfl ?_ rfl ?_
 ·exact fc
 ·exact fc
 rintro v M' ⟨rfl,rfl⟩
 dsimp only [putT,afterM,newEnt,ren,renA,renS,renL,look,getM,getT,ev,evL,ofVal,cond_true,cond_false,Nat.beq_eq,act,isPar,ownPar,Ent.isOwn]
 repeat (refine sd ?_)
 refine Call.intro hSe [(1000,(1000,0,none)),(1001,(1001,0,none)),(1002,(1002,0,none)),(1005,(305,0,none)),(1009,(309,0,none))] rfl ?_ rfl ?_ rfl ?_
 ·exact fc
 ·exact fc
 rintro v M' ⟨T1,x1,g,b,e,n1,c1,hsf,hn1,hc1,hv⟩
 obtain ⟨hv1,hl1,hx1,hg,hk1,he,hb⟩:=sealF_info tb0_valid hx dr p hsf
 have hl1:T1.length ≤ 9:=hl1
 have hk1:x1.kp = l.take N:=hk1.trans hkp0
 have hSm:=fn19 x1 x1 hx1 hx1 (l.take N) l N N N N hlt (Nat.le_refl _) (by omega) hlO hN (Nat.le_refl _) (by omega) hl
 have hsame:sameP x1 x1∧(l.take N).take N = l.take N:=⟨sameP_self' x1,by rw [List.take_take,Nat.min_self]⟩
 have hx1':=hx1
 obtain ⟨u1,u2,u3,u4,u5,u6,u7,u8,u9,_⟩:=hx1'
 have hg':=hg
 obtain ⟨w1,w2,w3,w4,w5⟩:=hg'
 rcases hv with ⟨rfl,rfl,rfl⟩ | ⟨C,k,rfl,hC,rfl,rfl⟩
 ·dsimp only [putT,afterM,newEnt,ren,renA,renS,renL,look,getM,getT,ev,evL,ofVal,cond_true,cond_false,Nat.beq_eq,act,isPar,ownPar,Ent.isOwn]
  repeat (refine sd ?_)
  refine Call.intro hSr [(1000,(1100,0,none)),(1001,(1101,0,none)),(1005,(405,0,none)),(1009,(409,0,none))] rfl ?_ rfl ?_ rfl ?_
  ·exact fc
  ·exact fc
  rintro v M' ⟨T1',x1',g',b',e',n1',c2,hsf',hn1',hc2,hv'⟩
  rw [hsf] at hsf'
  simp only [Prod.mk.injEq] at hsf'
  obtain ⟨rfl,rfl,rfl,rfl,rfl⟩:=hsf'
  obtain rfl:n1 = n1':=hn1.symm.trans hn1'
  rcases hv' with ⟨_,rfl,rfl⟩ | ⟨C',k',hcc,_⟩
  rotate_left
  ·cases hcc
  dsimp only [putT,afterM,newEnt,ren,renA,renS,renL,look,getM,getT,ev,evL,ofVal,cond_true,cond_false,Nat.beq_eq,act,isPar,ownPar,Ent.isOwn]
  repeat (first | (refine Branch.intro (fun h=>False.elim (by revert h;first | (simp ;done) | fail)) (fun _=>?_)) | (refine Branch.intro (fun _=>?_) (fun h=>False.elim (by revert h;first | (simp ;done) | fail))) | (refine sd ?_))
  refine Call.intro fnBytes0y [] rfl ?_ rfl ?_ rfl ?_
  ·exact fc
  ·exact fc
  rintro v M' ⟨rfl,rfl⟩
  dsimp only [putT,afterM,newEnt,ren,renA,renS,renL,look,getM,getT,ev,evL,ofVal,cond_true,cond_false,Nat.beq_eq,act,isPar,ownPar,Ent.isOwn]
  repeat (first | (refine Branch.intro (fun h=>False.elim (by revert h;first | (simp ;done) | fail)) (fun _=>?_)) | (refine Branch.intro (fun _=>?_) (fun h=>False.elim (by revert h;first | (simp ;done) | fail))) | (refine sd ?_))
  refine Call.intro hSm [] rfl ?_ rfl ?_ rfl ?_
  ·exact fc
  ·exact fc
  rintro v M' ⟨rfl,rfl⟩
  dsimp only [putT,afterM,newEnt,ren,renA,renS,renL,look,getM,getT,ev,evL,ofVal,cond_true,cond_false,Nat.beq_eq,act,isPar,ownPar,Ent.isOwn]
  repeat (first | (refine Branch.intro (fun h=>False.elim (by revert h;first | (simp [hsame];done) | fail)) (fun _=>?_)) | (refine Branch.intro (fun _=>?_) (fun h=>False.elim (by revert h;first | (simp [hsame];done) | fail))) | (refine sd ?_))
  refine raTail T1 n1 c1 c2 hn1 (by omega) hc1 hc2 hv1 x1 hx1 N (l.take N) l N N hlt hN (Nat.le_refl _) (Nat.le_refl _) (by omega) (by omega) hlO hl (by rw [hk1,List.take_take,Nat.min_self]) hk1 h hh B m hB (by omega) _ _ (Le.intro [(208,(8,0,none)),(211,(11,0,none)),(212,(12,0,none)),(213,(13,0,none)),(217,(17,0,none)),(221,(305,0,none)),(222,(405,0,none))] rfl ?_ rfl ?_ rfl)
  ·exact fc
  ·exact fc
 ·dsimp only [putT,afterM,newEnt,ren,renA,renS,renL,look,getM,getT,ev,evL,ofVal,cond_true,cond_false,Nat.beq_eq,act,isPar,ownPar,Ent.isOwn]
  repeat (refine sd ?_)
  refine Call.intro hSr [(1000,(1100,0,none)),(1001,(1101,0,none)),(1005,(405,0,none)),(1009,(409,0,none))] rfl ?_ rfl ?_ rfl ?_
  ·exact fc
  ·exact fc
  rintro v M' ⟨T1',x1',g',b',e',n1',c2,hsf',hn1',hc2,hv'⟩
  rw [hsf] at hsf'
  simp only [Prod.mk.injEq] at hsf'
  obtain ⟨rfl,rfl,rfl,rfl,rfl⟩:=hsf'
  obtain rfl:n1 = n1':=hn1.symm.trans hn1'
  rcases hv' with ⟨hcc,_⟩ | ⟨C',k',hcc,hC',rfl,rfl⟩
  ·cases hcc
  obtain rfl:C = C':=Option.some.inj hcc
  obtain rfl:k = k':=hC.symm.trans hC'
  have hBy:=fnBytesY C C k k hC hC
  dsimp only [putT,afterM,newEnt,ren,renA,renS,renL,look,getM,getT,ev,evL,ofVal,cond_true,cond_false,Nat.beq_eq,act,isPar,ownPar,Ent.isOwn]
  repeat (first | (refine Branch.intro (fun h=>False.elim (by revert h;first | (simp ;done) | fail)) (fun _=>?_)) | (refine Branch.intro (fun _=>?_) (fun h=>False.elim (by revert h;first | (simp ;done) | fail))) | (refine sd ?_))
  refine Call.name [(1,[]),(1,[])] rfl ?_ (CallP.intro hBy [] rfl ?_ rfl ?_ rfl ?_)
  ·exact fc
  ·exact fc
  ·exact fc
  rintro v M' ⟨rfl,rfl⟩
  dsimp only [putT,afterM,newEnt,ren,renA,renS,renL,look,getM,getT,ev,evL,ofVal,cond_true,cond_false,Nat.beq_eq,act,isPar,ownPar,Ent.isOwn]
  repeat (first | (refine Branch.intro (fun h=>False.elim (by revert h;first | (simp ;done) | fail)) (fun _=>?_)) | (refine Branch.intro (fun _=>?_) (fun h=>False.elim (by revert h;first | (simp ;done) | fail))) | (refine sd ?_))
  refine Call.intro hSm [] rfl ?_ rfl ?_ rfl ?_
  ·exact fc
  ·exact fc
  rintro v M' ⟨rfl,rfl⟩
  dsimp only [putT,afterM,newEnt,ren,renA,renS,renL,look,getM,getT,ev,evL,ofVal,cond_true,cond_false,Nat.beq_eq,act,isPar,ownPar,Ent.isOwn]
  repeat (first | (refine Branch.intro (fun h=>False.elim (by revert h;first | (simp [hsame];done) | fail)) (fun _=>?_)) | (refine Branch.intro (fun _=>?_) (fun h=>False.elim (by revert h;first | (simp [hsame];done) | fail))) | (refine sd ?_))
  refine raTail T1 n1 c1 c2 hn1 (by omega) hc1 hc2 hv1 x1 hx1 N (l.take N) l N N hlt hN (Nat.le_refl _) (Nat.le_refl _) (by omega) (by omega) hlO hl (by rw [hk1,List.take_take,Nat.min_self]) hk1 h hh B m hB (by omega) _ _ (Le.intro [(208,(8,0,none)),(211,(11,0,none)),(212,(12,0,none)),(213,(13,0,none)),(217,(17,0,none)),(221,(305,0,none)),(222,(405,0,none))] rfl ?_ rfl ?_ rfl)
  ·exact fc
  ·exact fc
theorem se_argA {ls:List (Nat × SV)} (h:catF [cArr8 32,cArr8 32,cArr8 32,cBool,catF [cArr8 32,cU16],cU16,cArr8 32,cBool,catF [cArr8 32,cU16],cBool,cArr8 32,cArr8 32,cArr8 32,cU16,cSl 65 [(32,.a8 (List.replicate 32 0)),(1,.u16 0),(32,.a8 (List.replicate 32 0))] (catF [cArr8 32,cU16,cArr8 32])] ls) :
  ∃ (x:Se) (l:List Kp),x.OK∧l.length ≤ maxLen∧(∀ k ∈ l,KpOK k)∧x.kp = l∧ls = seL x (.isl 0 l.length 65 [(l.length * 65,.arr l.length 65 (kpF l))]):=by
 obtain ⟨_,_,⟨id,a1,rfl⟩,h,rfl⟩:=h
 obtain ⟨_,_,⟨root,a2,rfl⟩,h,rfl⟩:=h
 obtain ⟨_,_,⟨mine,a3,rfl⟩,h,rfl⟩:=h
 obtain ⟨_,_,⟨hs,rfl⟩,h,rfl⟩:=h
 obtain ⟨_,_,⟨_,_,⟨sk,a4,rfl⟩,⟨_,_,⟨sn,rfl⟩,e1,rfl⟩,rfl⟩,h,rfl⟩:=h
 obtain ⟨_,_,⟨pv,rfl⟩,h,rfl⟩:=h
 obtain ⟨_,_,⟨th,a5,rfl⟩,h,rfl⟩:=h
 obtain ⟨_,_,⟨hr,rfl⟩,h,rfl⟩:=h
 obtain ⟨_,_,⟨_,_,⟨rk,a6,rfl⟩,⟨_,_,⟨rn,rfl⟩,e2,rfl⟩,rfl⟩,h,rfl⟩:=h
 obtain ⟨_,_,⟨fi,rfl⟩,h,rfl⟩:=h
 obtain ⟨_,_,⟨ag,a7,rfl⟩,h,rfl⟩:=h
 obtain ⟨_,_,⟨sg,a8,rfl⟩,h,rfl⟩:=h
 obtain ⟨_,_,⟨ba,a9,rfl⟩,h,rfl⟩:=h
 obtain ⟨_,_,⟨oc,rfl⟩,h,rfl⟩:=h
 obtain ⟨_,_,⟨n,L,b1,b2,b3,rfl⟩,h,rfl⟩:=h
 have h:_ = []:=h
 subst h
 have e1:_ = []:=e1
 subst e1
 have e2:_ = []:=e2
 subst e2
 obtain ⟨l,c1,c2,rfl⟩:=rows_list (fun x:Kp=>[(32,SV.a8 x.1),(1,.u16 x.2.1),(32,.a8 x.2.2)]) kp0 KpOK (fun q hq=>by
  obtain ⟨_,_,⟨a,g1,rfl⟩,⟨_,_,⟨m,rfl⟩,⟨_,_,⟨b,g2,rfl⟩,rfl,rfl⟩,rfl⟩,e⟩:=b1 q hq
  exact ⟨(a,m,b),⟨g1,g2⟩,e⟩) b2
 subst c1
 exact ⟨⟨id,root,mine,hs,sk,sn,pv,th,hr,rk,rn,fi,ag,sg,ba,oc,l⟩,l,⟨a1,a2,a3,a4,a5,a6,a7,a8,a9,c2⟩,b3,c2,rfl,rfl⟩
theorem hd_argA {ls:List (Nat × SV)} (h:catF [cArr8 32,cBool,cArr8 32,cArr8 32,cArr8 32,cU16,cArr8 32,cU16,cU16] ls):∃ g:Hd,g.OK∧SV.agg ls = hdV g:=by
 obtain ⟨_,_,⟨ss,a1,rfl⟩,h,rfl⟩:=h
 obtain ⟨_,_,⟨fi,rfl⟩,h,rfl⟩:=h
 obtain ⟨_,_,⟨ag,a2,rfl⟩,h,rfl⟩:=h
 obtain ⟨_,_,⟨sg,a3,rfl⟩,h,rfl⟩:=h
 obtain ⟨_,_,⟨ba,a4,rfl⟩,h,rfl⟩:=h
 obtain ⟨_,_,⟨id,rfl⟩,h,rfl⟩:=h
 obtain ⟨_,_,⟨ra,a5,rfl⟩,h,rfl⟩:=h
 obtain ⟨_,_,⟨n,rfl⟩,h,rfl⟩:=h
 obtain ⟨_,_,⟨pv,rfl⟩,h,rfl⟩:=h
 have h:_ = []:=h
 subst h
 exact ⟨⟨ss,fi,ag,sg,ba,id,ra,n,pv⟩,⟨a1,a2,a3,a4,a5⟩,rfl⟩
theorem allF5 {A B C D E:SV→Prop} {svs:List SV} (h:AllF [A,B,C,D,E] svs):∃ a b c d e,svs = [a,b,c,d,e]∧A a∧B b∧C c∧D d∧E e:=by
 match svs,h with
 | [a,b,c,d,e],⟨h1,h2,h3,h4,h5,_⟩=>exact ⟨a,b,c,d,e,rfl,h1,h2,h3,h4,h5⟩
set_option maxRecDepth 100000 in
theorem ratchetAny_runs (svs:List SV) (h:AllF [isOfStruct (catF [cArr8 32,cArr8 32,cArr8 32,cBool,catF [cArr8 32,cU16],cU16,cArr8 32,cBool,catF [cArr8 32,cU16],cBool,cArr8 32,cArr8 32,cArr8 32,cU16,cSl 65 [(32,.a8 (List.replicate 32 0)),(1,.u16 0),(32,.a8 (List.replicate 32 0))] (catF [cArr8 32,cU16,cArr8 32])]),isArr8 32,isSl8 1,isOfStruct (catF [cArr8 32,cBool,cArr8 32,cArr8 32,cArr8 32,cU16,cArr8 32,cU16,cU16]),isSl8 1] svs):Sx.Fn Γ.P 4 svs [] (fun v _=>v = .tt):=by
 obtain ⟨_,_,_,_,_,rfl,⟨ls,h1,rfl⟩,⟨dr,hdr,rfl⟩,⟨n,p,hp,_,rfl⟩,⟨ls2,h4,rfl⟩,⟨m,B,hB,_,rfl⟩⟩:=allF5 h
 obtain ⟨x,l,hx,hm,hl,hk,rfl⟩:=se_argA h1
 obtain ⟨g,hg,e⟩:=hd_argA h4
 rw [e]
 rw [Nat.mul_one] at hp hB
 rw [Nat.mul_one,Nat.mul_one]
 exact ratchetAny x hx l l.length rfl hm hl hk dr hdr p n hp g hg B m hB
end Go.Proofs.YtpkllkbmoodniaaGreat
