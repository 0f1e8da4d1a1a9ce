/- What the functions of the program compute. No condition. -/
import Derived.Test.YtpkllkbmoodniaaHwRb9ToRb9
import Derived.Test.YtpkllkbmoodniaaHwRb5ToRb5
set_option linter.unusedSimpArgs false
set_option linter.unusedVariables false
namespace Go.Proofs.Ytpkllkbmoodniaa
open Go Go.Sx
theorem hd_ext {g h:Hd}:g = h ↔ g.ss = h.ss∧(g.fi = true ↔ h.fi = true)∧g.ag = h.ag∧g.sg = h.sg∧g.ba = h.ba∧g.id = h.id∧g.ra = h.ra∧g.n = h.n∧g.pv = h.pv:=by
 constructor
 ·rintro rfl;exact ⟨rfl,Iff.rfl,rfl,rfl,rfl,rfl,rfl,rfl,rfl⟩
 ·rintro ⟨a1,a2,a3,a4,a5,a6,a7,a8,a9⟩
  have a2:g.fi = h.fi:=Bool.eq_iff_iff.2 a2
  cases g;cases h;simp_all
set_option maxRecDepth 100000 in
set_option maxHeartbeats 8000000 in
theorem ratchetTurned (text:List UInt8) (m:Nat) (hm:text.length = m) (hm2:m ≤ maxLen) (h0:Hd) (hh0:h0.OK) (at_:Int) (by_:UInt8) :
  Sx.Fn Γ.P 3 [.isl 0 m 1 [(m * 1,.a8 text)],hdV h0,.i .i64 at_,.u8 by_] [] (fun v _=>v = .tt):=by
 have hmx:maxLen = 9223372036854775807:=by decide
 obtain ⟨id,hid⟩:∃ l:List UInt8,l = UInt8.ofNat 1 :: List.replicate 31 0:=⟨_,rfl⟩
 obtain ⟨sh,hsh⟩:∃ l:List UInt8,l = UInt8.ofNat 2 :: List.replicate 31 0:=⟨_,rfl⟩
 obtain ⟨dr,hdr⟩:∃ l:List UInt8,l = UInt8.ofNat 3 :: List.replicate 31 0:=⟨_,rfl⟩
 have hidl:id.length = 32:=by rw [hid];rfl
 have hshl:sh.length = 32:=by rw [hsh];rfl
 have hdrl:dr.length = 32:=by rw [hdr];rfl
 have hfr:=fnFreeT
 unfold tbM at hfr
 obtain ⟨bv,bl,bo⟩:=beg_info (sh:=sh) (dr:=dr) tb0_valid hidl
 obtain ⟨b48,b49,_⟩:=beg_terms [] hshl hdrl
 have bk:K8 (begC [] sh dr).1 0:=begC_k8 (T:=[]) (fun q hq=>absurd (show q < 0 from hq) (Nat.not_lt_zero q)) sh dr
 have hBe:=fn8 [] 0 0 rfl (by omega) (Nat.le_refl 0) tb0_valid id sh dr hidl hshl hdrl
 have hxs:(begS [] id sh dr).hs = true:=rfl
 have hxn:(begS [] id sh dr).sn = 0:=rfl
 have hxi:(begS [] id sh dr).id = id:=rfl
 have hxk:(begS [] id sh dr).kp = []:=rfl
 have hxr:(begS [] id sh dr).sk = kyB (begB [] sh).2:=rfl
 obtain ⟨A,hA⟩:∃ A,(begC [] sh dr).1 = A:=⟨_,rfl⟩
 obtain ⟨x,hx⟩:∃ x,begS [] id sh dr = x:=⟨_,rfl⟩
 rw [hx] at hBe hxs hxn hxi hxk hxr bo
 rw [hA] at hBe bv bl b48 b49 bk
 have bl:A.length ≤ 3:=bl
 obtain ⟨P,hP⟩:∃ P,(mk1 A 2 x.mine).1 = P:=⟨_,rfl⟩
 obtain ⟨oP,hoP⟩:∃ o,(mk1 A 2 x.mine).2 = o:=⟨_,rfl⟩
 have hPn:Num P (2,[x.mine]) oP:=by rw [← hP,← hoP];exact mk1_num A (by decide) (by decide) (by have:=bo.mine;omega)
 have hPe:Ext A P:=by rw [← hP];exact mk1_ext _ _ _
 have hPv:∀ y ∈ P,Valid y.1 y.2:=by rw [← hP];exact mk1_valid bv _ _
 have hPk:K8 P 0:=by rw [← hP];exact k8_mk1 bk (by decide) _
 have hPl:P.length ≤ A.length + 1:=by rw [← hP];exact (mk1_len A _ _).2
 obtain ⟨j1,j2⟩:=join_same hshl (hPe _ _ b48) (hPe _ _ b49)
 have hoPl:=kyB_length oP
 have hyo:=joi_ok P (sh:=sh) hidl hoPl
 have hys:¬ (joiS P id sh (kyB oP)).hs = true:=Bool.false_ne_true
 have hyk:(joiS P id sh (kyB oP)).kp = []:=rfl
 have hyr:(joiS P id sh (kyB oP)).hr = true:=rfl
 have hyn:(joiS P id sh (kyB oP)).rn = 0:=rfl
 have hyi:(joiS P id sh (kyB oP)).id = id:=rfl
 have hyt:(joiS P id sh (kyB oP)).th = kyB oP:=rfl
 have hyq:(joiS P id sh (kyB oP)).rk = kyB (begB P sh).2:=rfl
 rw [j2] at hyq
 obtain ⟨y,hy⟩:∃ y,joiS P id sh (kyB oP) = y:=⟨_,rfl⟩
 rw [hy] at hyo hyk hyr hyn hyi hyt hyq hys
 have hbo:=bo
 obtain ⟨q1,q2,q3,q4,q5,q6,q7,q8,q9,_⟩:=bo
 obtain ⟨f1,f2,f3,f4,f5⟩:=hh0
 unfold tbM at hBe
 unfold hdV
 refine fn_cut [1000015] (Γ:=Γ) (fn:=Try.f3) rfl rfl rfl rfl ?_
 repeat (refine sd ?_)
 refine Call.intro fn6 [] rfl trivial rfl trivial rfl ?_
 rintro v M' rfl
 dsimp only [putT,afterM,newEnt,ren,renA,renS,renL,look,getM,getT,ev,evL,ofVal,cond_true,cond_false,Nat.beq_eq,act,isPar,ownPar,Ent.isOwn]
 repeat (first | (refine Branch.intro (fun _=>?_) (fun hn=>absurd rfl hn)) | (refine Branch.intro (fun hn=>(by with_reducible exact False.elim hn)) (fun _=>?_)) | (refine Branch.intro (fun _=>?_) (fun hn=>(by with_reducible exact absurd trivial hn))) | (refine Branch.intro (fun hn=>(by with_reducible exact absurd trivial hn)) (fun _=>?_)) | (refine Branch.intro (fun hn=>(by with_reducible exact absurd rfl hn)) (fun _=>?_)) | (refine Branch.intro (fun _=>?_) (fun hn=>(by with_reducible exact absurd Iff.rfl hn))) | (refine Branch.intro (fun hn=>(by with_reducible exact absurd Iff.rfl hn)) (fun _=>?_)) | (refine sd ?_))
 refine Branch.intro (fun hc=>?_) (fun hc=>?_)
 ·repeat (first | (refine Branch.intro (fun _=>?_) (fun hn=>absurd rfl hn)) | (refine Branch.intro (fun hn=>(by with_reducible exact False.elim hn)) (fun _=>?_)) | (refine Branch.intro (fun _=>?_) (fun hn=>(by with_reducible exact absurd trivial hn))) | (refine Branch.intro (fun hn=>(by with_reducible exact absurd trivial hn)) (fun _=>?_)) | (refine Branch.intro (fun hn=>(by with_reducible exact absurd rfl hn)) (fun _=>?_)) | (refine Branch.intro (fun _=>?_) (fun hn=>(by with_reducible exact absurd Iff.rfl hn))) | (refine Branch.intro (fun hn=>(by with_reducible exact absurd Iff.rfl hn)) (fun _=>?_)) | (refine sd ?_))
  repeat (refine sd ?_)
  refine Ret.intro .tt [] [] rfl ?_ rfl rfl ?_ rfl ?_ rfl
  ·exact fc
  ·exact fc
  ·exact fc
 have hc:¬ 1024 < (m:Int):=hc
 repeat (refine sd ?_)
 refine Branch.intro (fun hb=>?_) (fun hb=>?_)
 ·repeat (first | (refine Branch.intro (fun _=>?_) (fun hn=>absurd rfl hn)) | (refine Branch.intro (fun hn=>(by with_reducible exact False.elim hn)) (fun _=>?_)) | (refine Branch.intro (fun _=>?_) (fun hn=>(by with_reducible exact absurd trivial hn))) | (refine Branch.intro (fun hn=>(by with_reducible exact absurd trivial hn)) (fun _=>?_)) | (refine Branch.intro (fun hn=>(by with_reducible exact absurd rfl hn)) (fun _=>?_)) | (refine Branch.intro (fun _=>?_) (fun hn=>(by with_reducible exact absurd Iff.rfl hn))) | (refine Branch.intro (fun hn=>(by with_reducible exact absurd Iff.rfl hn)) (fun _=>?_)) | (refine sd ?_))
  repeat (refine sd ?_)
  refine Ret.intro .tt [] [] rfl ?_ rfl rfl ?_ rfl ?_ rfl
  ·exact fc
  ·exact fc
  ·exact fc
 have hb:¬ by_ = 0:=hb
 repeat (refine sd ?_)
 refine Call.intro hfr [(1000,(300,0,none)),(1001,(301,0,none)),(1002,(302,0,none))] rfl fc rfl trivial rfl ?_
 rintro v M' ⟨rfl,rfl⟩
 dsimp only [putT,afterM,newEnt,ren,renA,renS,renL,look,getM,getT,ev,evL,ofVal,cond_true,cond_false,Nat.beq_eq,act,isPar,ownPar,Ent.isOwn]
 repeat (refine sd ?_)
 refine Call.intro hBe [(1000,(300,0,none)),(1001,(301,0,none)),(1002,(302,0,none)),(1005,(305,0,none))] rfl ?_ rfl ?_ rfl ?_
 ·exact fc
 ·exact fc
 rintro v M' ⟨n1,c1,hn1,hc1,rfl,rfl⟩
 dsimp only [putT,afterM,newEnt,ren,renA,renS,renL,look,getM,getT,ev,evL,ofVal,cond_true,cond_false,Nat.beq_eq,act,isPar,ownPar,Ent.isOwn]
 repeat (refine sd ?_)
 have hPu:=fnPublicF A n1 c1 hn1 (by omega) hc1 bv x.mine q3 P oP hP hoP
 unfold tbM at hPu
 refine Draw.intro [[],[],[],[],[],[4],[3,4,5],[0,1,2,3,4,5,6],[],[0,1,2,3,4,5,6,7,8]] [0,1,2,3,4,5,8,6,7,9] (by kernel_rfl) ?_
 repeat (first | (refine Grow.turn rfl rfl ?_) | (refine sd ?_))
 refine Call.intro hPu [(1000,(300,0,none)),(1001,(305,0,none)),(1002,(302,0,none)),(1005,(306,0,none))] rfl ?_ rfl ?_ rfl ?_
 ·exact fc
 ·exact fc
 rintro v M' ⟨n2,c2,hn2,hc2,rfl,rfl⟩
 dsimp only [putT,afterM,newEnt,ren,renA,renS,renL,look,getM,getT,ev,evL,ofVal,cond_true,cond_false,Nat.beq_eq,act,isPar,ownPar,Ent.isOwn]
 repeat (first | (refine Grow.turn rfl rfl ?_) | (refine sd ?_))
 have hJo:=fn9 P n2 c2 hn2 (by omega) hc2 hPv id sh (kyB oP) hidl hshl hoPl
 rw [j2,hy] at hJo
 unfold tbM at hJo
 refine Call.intro hJo [(1000,(300,0,none)),(1001,(306,0,none)),(1002,(302,0,none)),(1005,(307,0,none))] rfl ?_ rfl ?_ rfl ?_
 ·exact fc
 ·exact fc
 rintro v M' ⟨n3,c3,hn3,hc3,rfl,rfl⟩
 have hn3:P.length = n3:=hn3
 have hyo':=hyo
 obtain ⟨r1,r2,r3,r4,r5,r6,r7,r8,r9,_⟩:=hyo'
 dsimp only [putT,afterM,newEnt,ren,renA,renS,renL,look,getM,getT,ev,evL,ofVal,cond_true,cond_false,Nat.beq_eq,act,isPar,ownPar,Ent.isOwn]
 repeat (first | (refine Grow.turn rfl rfl ?_) | (refine sd ?_))
 have hm4:text.length ≤ 1024:=by omega
 obtain ⟨hF,_,_⟩:=seal_next (T:=P) (dr:=z32) (p:=text) hxs (by rw [hxn];decide) q3 hm4 hPn
 obtain ⟨hLet,h8⟩:=let_make (dr:=z32) (p:=text) hxs hxn hbo hPn hPk hm4 hys hyk hyr hyn (by rw [hyi,hxi]) hyt (by rw [hyq,hxr])
 obtain ⟨hZv,hZl⟩:=slZ_info hPv hbo z32 text
 have hSe:=fn11 P n3 c3 hn3 (by omega) hc3 hPv x hbo [] 0 0 rfl (Nat.le_refl 0) (by omega) (by rw [hxk];rfl) z32 text m z32_length hm (by omega)
 rw [hF] at hSe
 obtain ⟨Z,hZ⟩:∃ Z,(slZ P x z32 text).1 = Z:=⟨_,rfl⟩
 obtain ⟨oZ,hoZ⟩:∃ o,(slZ P x z32 text).2 = o:=⟨_,rfl⟩
 obtain ⟨oL,hoL⟩:∃ o,(slL P x z32).2 = o:=⟨_,rfl⟩
 obtain ⟨H,hH⟩:∃ H,slH x (kyB oP) = H:=⟨_,rfl⟩
 obtain ⟨B,hB⟩:∃ B,sefB oZ text.length = B:=⟨_,rfl⟩
 rw [hZ,hoZ,hoL,hH] at hLet
 rw [hZ,hoZ] at h8
 rw [hZ] at hZv hZl
 rw [hZ,hoZ,hH,hB] at hSe
 have hBl:32 ≤ B.length∧B.length ≤ 1056:=by rw [← hB,sefB_length];omega
 unfold tbM seL hdV at hSe
 refine Call.intro hSe [(1000,(300,0,none)),(1001,(307,0,none)),(1002,(302,0,none)),(1005,(308,0,none)),(1009,(309,0,none))] rfl ?_ rfl ?_ rfl ?_
 ·exact fc
 ·exact fc
 rintro v M' ⟨T',x',h',b,e,n4,c4,hF',hn4,hc4,hcase⟩
 simp only [Prod.mk.injEq] at hF'
 obtain ⟨rfl,rfl,rfl,rfl,rfl⟩:=hF'
 rcases hcase with ⟨h0',_,_⟩ | ⟨B2,k,h0',hk,rfl,rfl⟩
 ·cases h0'
 obtain rfl:B = B2:=Option.some.inj h0'
 have hHo:H.OK:=hLet.ok
 obtain ⟨w1,w2,w3,w4,w5⟩:=hHo
 have hkN:=kyB_length (nxN P x.sk)
 have hk0:¬ (k:Int) = 0:=by omega
 dsimp only [putT,afterM,newEnt,ren,renA,renS,renL,look,getM,getT,ev,evL,ofVal,cond_true,cond_false,Nat.beq_eq,act,isPar,ownPar,Ent.isOwn]
 repeat (first | (refine Branch.intro (fun _=>?_) (fun hn=>absurd rfl hn)) | (refine Branch.intro (fun hn=>(by with_reducible exact False.elim hn)) (fun _=>?_)) | (refine Branch.intro (fun _=>?_) (fun hn=>(by with_reducible exact absurd hk0 hn))) | (refine Branch.intro (fun hn=>(by with_reducible exact absurd hn hk0)) (fun _=>?_)) | (refine Branch.intro (fun _=>?_) (fun hn=>(by with_reducible exact absurd trivial hn))) | (refine Branch.intro (fun hn=>(by with_reducible exact absurd trivial hn)) (fun _=>?_)) | (refine Branch.intro (fun hn=>(by with_reducible exact absurd rfl hn)) (fun _=>?_)) | (refine Branch.intro (fun _=>?_) (fun hn=>(by with_reducible exact absurd Iff.rfl hn))) | (refine Branch.intro (fun hn=>(by with_reducible exact absurd Iff.rfl hn)) (fun _=>?_)) | (refine sd ?_))
 have hh1:({ h0 with ss:=H.ss }:Hd).OK:=⟨w1,f2,f3,f4,f5⟩
 have hOp:=fn12 Z n4 c4 hn4 (by omega) hc4 hZv y hyo [] 0 0 rfl (Nat.le_refl 0) (by omega) (fun _ h=>by cases h) (by rw [hyk];rfl) { h0 with ss:=H.ss } hh1 B k hk (by omega)
 unfold tbM seL hdV at hOp
 repeat (refine sd ?_)
 refine Call.intro hOp [(1000,(300,0,none)),(1001,(308,0,none)),(1002,(302,0,none)),(1003,(309,0,none)),(1005,(310,0,none))] rfl ?_ rfl ?_ rfl ?_
 ·exact fc
 ·exact fc
 rintro v M' ⟨T1,x1,q,e,n5,c5,le,Ne,me,kq,hres,hn5,hc5,hN5,hok1,hle,hme,hNe,hkx,hleO,hkq,hkq1,rfl,rfl⟩
 rw [← hB] at hres
 obtain ⟨t1,t2,t3,t4⟩:=hLet.turned (by omega) hh1 hres (by omega)
 obtain ⟨u1,u2,u3,u4,u5,u6,u7,u8,u9,_⟩:=hok1.2
 have hext:=hd_ext (g:={ h0 with ss:=H.ss }) (h:=H)
 dsimp only [putT,afterM,newEnt,ren,renA,renS,renL,look,getM,getT,ev,evL,ofVal,cond_true,cond_false,Nat.beq_eq,act,isPar,ownPar,Ent.isOwn]
 repeat (refine sd ?_)
 refine Join.intro (σ:=List Te × Nat × Nat × Se × List Kp × Nat × Nat) (fun s=>Ext Z s.1∧K8 s.1 oZ∧s.1.length = s.2.1∧s.2.1 ≤ s.2.2.1∧s.2.1 ≤ 1000∧(∀ z ∈ s.1,Valid z.1 z.2)∧s.2.2.2.1.OK)
  (fun s=>([(2,.i .i64 at_),(3,.u8 by_),(9,.ptr 209 0 none),(11,.ptr 211 0 none),(12,.ptr 212 0 none),(13,.sl 213 0 0 k k),(15,.ptr 215 0 none)],[(209,.mem true 0 [(1,.ptr 1000 0 none)]),(211,.mem true 0 (seL y (.isl 0 0 65 [(0 * 65,.arr 0 65 (kpF []))]))),
   (212,.mem true 0 [(32,.a8 H.ss),(1,.bool (H.fi = true)),(32,.a8 H.ag),(32,.a8 H.sg),(32,.a8 H.ba),(1,.u16 H.id),(32,.a8 H.ra),(1,.u16 H.n),(1,.u16 H.pv)]),(213,.mem true 0 [(k,.a8 B)]),
   (215,.mem true 0 (seL s.2.2.2.1 (.isl 0 s.2.2.2.2.2.2 65 [(s.2.2.2.2.2.1 * 65,.arr s.2.2.2.2.2.1 65 (kpF s.2.2.2.2.1))]))),
   (1000,.mem true 0 [(1,.sl 221 0 0 s.2.1 s.2.2.1),(1,.mp 1002)]),(221,.mem true (mulE (s.2.2.1 - s.2.1) 3) [(s.2.1 * 3,.arr s.2.1 3 (ttF s.1))]),(1002,.map (.si (mpL s.1)))])) ?_ ?_
 ·have fin:∀ p:Prop,p→p:=fun _ h=>h
  by_cases he:e = 0
  ·have heq:=hext.1 (t1.1 he)
   have hno:¬ ¬ (e = 0 ↔ (H.ss = H.ss∧(h0.fi = true ↔ H.fi = true)∧h0.ag = H.ag∧h0.sg = H.sg∧h0.ba = H.ba∧h0.id = H.id∧h0.ra = H.ra∧h0.n = H.n∧h0.pv = H.pv)):=fun hn=>hn ⟨fun _=>heq,fun _=>he⟩
   have hne:¬ ¬ e = 0:=fun h=>h he
   repeat (first | (refine Branch.intro (fun _=>?_) (fun hn=>absurd rfl hn)) | (refine Branch.intro (fun hn=>(by with_reducible exact False.elim hn)) (fun _=>?_)) | (refine Branch.intro (fun _=>?_) (fun hn=>(by with_reducible exact absurd hno hn))) | (refine Branch.intro (fun hn=>(by with_reducible exact absurd hn hno)) (fun _=>?_)) | (refine Branch.intro (fun _=>?_) (fun hn=>(by with_reducible exact absurd hne hn))) | (refine Branch.intro (fun hn=>(by with_reducible exact absurd hn hne)) (fun _=>?_)) | (refine Branch.intro (fun _=>?_) (fun hn=>(by with_reducible exact absurd trivial hn))) | (refine Branch.intro (fun hn=>(by with_reducible exact absurd trivial hn)) (fun _=>?_)) | (refine Branch.intro (fun hn=>(by with_reducible exact absurd rfl hn)) (fun _=>?_)) | (refine Branch.intro (fun _=>?_) (fun hn=>(by with_reducible exact absurd Iff.rfl hn))) | (refine Branch.intro (fun hn=>(by with_reducible exact absurd Iff.rfl hn)) (fun _=>?_)) | (refine sd ?_))
   refine ⟨(T1,n5,c5,x1,le,Ne,me),⟨t3,t4 _ h8,hn5,hc5,by show n5 ≤ 1000;omega,hok1.1,hok1.2⟩,Le.intro [(209,(9,0,none)),(211,(11,0,none)),(212,(12,0,none)),(213,(309,0,none)),(215,(15,0,none)),(1000,(300,0,none)),(221,(310,0,none)),(1002,(302,0,none))] rfl ?_ rfl ?_ rfl⟩
   ·exact fc
   ·exact fc
  ·obtain ⟨hq,hxy⟩:=t2 he
   subst hq
   have hkq0:([]:List UInt8).length = kq:=hkq
   subst hkq0
   have hh:¬ (H.ss = H.ss∧(h0.fi = true ↔ H.fi = true)∧h0.ag = H.ag∧h0.sg = H.sg∧h0.ba = H.ba∧h0.id = H.id∧h0.ra = H.ra∧h0.n = H.n∧h0.pv = H.pv):=fun h=>he (t1.2 (hext.2 h))
   have hno:¬ ¬ (e = 0 ↔ (H.ss = H.ss∧(h0.fi = true ↔ H.fi = true)∧h0.ag = H.ag∧h0.sg = H.sg∧h0.ba = H.ba∧h0.id = H.id∧h0.ra = H.ra∧h0.n = H.n∧h0.pv = H.pv)):=fun hn=>hn ⟨fun h=>absurd h he,fun h=>absurd h hh⟩
   have h00:¬ ((([]:List UInt8).length:Nat):Int) > 0:=by simp
   have hsame:¬ ¬ (sameP x1 y∧le.take me = ([]:List Kp).take 0):=fun h=>h ⟨by rw [hxy];exact sameP_refl y,by rw [← hkx,hxy,hyk];rfl⟩
   have hSm:=fn13 x1 y hok1.2 hyo le [] Ne me 0 0 hle hme (by omega) hleO rfl (Nat.le_refl 0) (by omega) (fun _ h=>by cases h)
   unfold seL at hSm
   repeat (first | (refine Branch.intro (fun _=>?_) (fun hn=>absurd rfl hn)) | (refine Branch.intro (fun hn=>(by with_reducible exact False.elim hn)) (fun _=>?_)) | (refine Branch.intro (fun _=>?_) (fun hn=>(by with_reducible exact absurd hno hn))) | (refine Branch.intro (fun hn=>(by with_reducible exact absurd hn hno)) (fun _=>?_)) | (refine Branch.intro (fun _=>?_) (fun hn=>(by with_reducible exact absurd he hn))) | (refine Branch.intro (fun hn=>(by with_reducible exact absurd hn he)) (fun _=>?_)) | (refine Branch.intro (fun _=>?_) (fun hn=>(by with_reducible exact absurd h00 hn))) | (refine Branch.intro (fun hn=>(by with_reducible exact absurd hn h00)) (fun _=>?_)) | (refine Branch.intro (fun _=>?_) (fun hn=>(by with_reducible exact absurd trivial hn))) | (refine Branch.intro (fun hn=>(by with_reducible exact absurd trivial hn)) (fun _=>?_)) | (refine Branch.intro (fun hn=>(by with_reducible exact absurd rfl hn)) (fun _=>?_)) | (refine Branch.intro (fun _=>?_) (fun hn=>(by with_reducible exact absurd Iff.rfl hn))) | (refine Branch.intro (fun hn=>(by with_reducible exact absurd Iff.rfl hn)) (fun _=>?_)) | (refine sd ?_))
   refine Call.intro hSm [] rfl ?_ rfl ?_ rfl ?_
   ·exact fc
   ·exact fc
   rintro v M' ⟨rfl,rfl⟩
   dsimp only [putT,afterM,newEnt,ren,renA,renS,renL,look,getM,getT,ev,evL,ofVal,cond_true,cond_false,Nat.beq_eq,act,isPar,ownPar,Ent.isOwn]
   repeat (first | (refine Branch.intro (fun _=>?_) (fun hn=>absurd rfl hn)) | (refine Branch.intro (fun hn=>(by with_reducible exact False.elim hn)) (fun _=>?_)) | (refine Branch.intro (fun _=>?_) (fun hn=>(by with_reducible exact absurd hsame hn))) | (refine Branch.intro (fun hn=>(by with_reducible exact absurd hn hsame)) (fun _=>?_)) | (refine Branch.intro (fun _=>?_) (fun hn=>(by with_reducible exact absurd trivial hn))) | (refine Branch.intro (fun hn=>(by with_reducible exact absurd trivial hn)) (fun _=>?_)) | (refine Branch.intro (fun hn=>(by with_reducible exact absurd rfl hn)) (fun _=>?_)) | (refine Branch.intro (fun _=>?_) (fun hn=>(by with_reducible exact absurd Iff.rfl hn))) | (refine Branch.intro (fun hn=>(by with_reducible exact absurd Iff.rfl hn)) (fun _=>?_)) | (refine sd ?_))
   refine ⟨(T1,n5,c5,x1,le,Ne,me),⟨t3,t4 _ h8,hn5,hc5,by show n5 ≤ 1000;omega,hok1.1,hok1.2⟩,Le.intro [(209,(9,0,none)),(211,(11,0,none)),(212,(12,0,none)),(213,(309,0,none)),(215,(15,0,none)),(1000,(300,0,none)),(221,(310,0,none)),(1002,(302,0,none))] rfl ?_ rfl ?_ rfl⟩
   ·exact fc
   ·exact fc
 rintro ⟨T1,n5,c5,x1,le,Ne,me⟩ ⟨hE,hK,hn5,hc5,hN5,hv5,hx1⟩
 have hn5:T1.length = n5:=hn5
 have hc5:n5 ≤ c5:=hc5
 have hN5:n5 ≤ 1000:=hN5
 have hE:Ext Z T1:=hE
 have hK:K8 T1 oZ:=hK
 have hv5:∀ z ∈ T1,Valid z.1 z.2:=hv5
 have hx1:x1.OK:=hx1
 obtain ⟨u1,u2,u3,u4,u5,u6,u7,u8,u9,_⟩:=hx1
 have hkk:(UInt64.ofInt (k:Int)).toNat = k:=ofInt_toNat (by omega)
 have hkz:UInt64.ofInt (k:Int) ≠ 0:=fun h=>by have:=congrArg UInt64.toNat h;rw [hkk] at this;have e0:(0:UInt64).toNat = 0:=rfl;omega
 have hat:(UInt64.ofInt at_ % UInt64.ofInt (k:Int)).toNat < k:=by rw [UInt64.toNat_mod,hkk];exact Nat.mod_lt _ (by omega)
 obtain ⟨a,ha⟩:∃ a,(UInt64.ofInt at_ % UInt64.ofInt (k:Int)).toNat = a:=⟨_,rfl⟩
 rw [ha] at hat
 refine Side.intro (AllP.cons (by rw [ha];omega) (AllP.one hkz)) ?_
 rw [ha]
 repeat (refine sdn ?_)
 have hB'l:(B.set a (B.getD a 0 ^^^ by_)).length = k:=by rw [List.length_set];exact hk
 obtain ⟨B',hB'⟩:∃ B',B.set a (B.getD a 0 ^^^ by_) = B':=⟨_,rfl⟩
 have hne:B' ≠ B:=by
  intro e
  have h1:B'.getD a 0 = B.getD a 0 ^^^ by_:=by
   rw [← hB',List.getD_eq_getElem?_getD,List.getElem?_set_self (by omega)];rfl
  rw [e] at h1
  exact hb (by
   have h2:B.getD a 0 ^^^ B.getD a 0 = B.getD a 0 ^^^ (B.getD a 0 ^^^ by_):=congrArg _ h1
   rw [UInt8.xor_self,← UInt8.xor_assoc,UInt8.xor_self,UInt8.zero_xor] at h2
   exact h2.symm)
 rw [hB'] at hB'l
 have hSp:=(hLet.ext hE).1.spoilt (by omega) hK (S:=B') (by rw [hB,hB'l,hk]) (by rw [hB];exact hne)
 have hOp2:=fn12 T1 n5 c5 hn5 (by omega) hc5 hv5 y hyo [] 0 0 rfl (Nat.le_refl 0) (by omega) (fun _ h=>by cases h) (by rw [hyk];rfl) H ⟨w1,w2,w3,w4,w5⟩ B' k hB'l (by omega)
 rw [← hB'] at hOp2
 unfold tbM seL hdV at hOp2
 refine Call.intro hOp2 [(1000,(1000,0,none)),(1001,(221,0,none)),(1002,(1002,0,none)),(1003,(213,0,none)),(1005,(311,0,none))] rfl ?_ rfl ?_ rfl ?_
 ·exact fcn
 ·exact fcn
 rintro v M' ⟨T3,x3,q3,e3,n7,c7,le3,Ne3,me3,kq3,hres3,hn7,hc7,hN7,hok3,hle3,hme3,hNe3,hkx3,hleO3,hkq3,hkq4,rfl,rfl⟩
 rw [hB'] at hres3
 obtain ⟨rfl,rfl,rfl,rfl⟩:=open_det hres3 hSp
 have hkq0:([]:List UInt8).length = kq3:=hkq3
 subst hkq0
 have hSm:=fn13 x3 x3 hok3.2 hok3.2 le3 [] Ne3 me3 0 0 hle3 hme3 (by omega) hleO3 rfl (Nat.le_refl 0) (by omega) (fun _ h=>by cases h)
 have hsame:sameP x3 x3∧le3.take me3 = ([]:List Kp).take 0:=⟨sameP_refl x3,by rw [← hkx3,hyk];rfl⟩
 unfold seL at hSm
 dsimp only [putT,afterM,newEnt,ren,renA,renS,renL,look,getM,getT,ev,evL,ofVal,cond_true,cond_false,Nat.beq_eq,act,isPar,ownPar,Ent.isOwn]
 repeat (first | (refine Branch.intro (fun _=>?_) (fun hn=>absurd rfl hn)) | (refine Branch.intro (fun hn=>(by with_reducible exact False.elim hn)) (fun _=>?_)) | (refine Branch.intro (fun _=>?_) (fun hn=>(by with_reducible exact absurd trivial hn))) | (refine Branch.intro (fun hn=>(by with_reducible exact absurd trivial hn)) (fun _=>?_)) | (refine Branch.intro (fun hn=>(by with_reducible exact absurd rfl hn)) (fun _=>?_)) | (refine Branch.intro (fun _=>?_) (fun hn=>(by with_reducible exact absurd Iff.rfl hn))) | (refine Branch.intro (fun hn=>(by with_reducible exact absurd Iff.rfl hn)) (fun _=>?_)) | (refine sd ?_))
 refine Call.intro hSm [] rfl ?_ rfl ?_ rfl ?_
 ·exact fc
 ·exact fc
 rintro v M' ⟨rfl,rfl⟩
 dsimp only [putT,afterM,newEnt,ren,renA,renS,renL,look,getM,getT,ev,evL,ofVal,cond_true,cond_false,Nat.beq_eq,act,isPar,ownPar,Ent.isOwn]
 repeat (first | (refine Branch.intro (fun _=>?_) (fun hn=>absurd rfl hn)) | (refine Branch.intro (fun hn=>(by with_reducible exact False.elim hn)) (fun _=>?_)) | (refine Branch.intro (fun _=>?_) (fun hn=>(by with_reducible exact absurd trivial hn))) | (refine Branch.intro (fun hn=>(by with_reducible exact absurd trivial hn)) (fun _=>?_)) | (refine Branch.intro (fun hn=>(by with_reducible exact absurd rfl hn)) (fun _=>?_)) | (refine Branch.intro (fun _=>?_) (fun hn=>(by with_reducible exact absurd Iff.rfl hn))) | (refine Branch.intro (fun hn=>(by with_reducible exact absurd Iff.rfl hn)) (fun _=>?_)) | (refine sd ?_))
 refine Ret.intro .tt [] [] rfl ?_ rfl rfl ?_ rfl ?_ rfl
 ·exact fc
 ·repeat' (first | (show AllP _;first | exact trivial | refine AllP.app ?_ ?_ | refine AllP.appd ?_ ?_ | refine AllP.cons ?_ ?_) | with_reducible rfl | with_reducible assumption | omega | (simp only [rng,Ix.val,addQ_eq,addI,sz4,by4,sz5,by5,sz22,by22,sz23,by23,sz24,by24,sz25,by25,sz26,by26,sz27,by27,sz30,by30,sz31,by31,sz33,by33,sz34,by34,sz35,by35,sz36,by36,sz37,by37,sz80,by80,sz89,by89] <;> omega) | (simp only [rng,Ix.val,Int.toNat_natCast,mulE_eq,addQ_eq,addI,Option.getD_none,Option.getD_some,List.length_take,List.length_drop,List.length_append,List.length_set,List.length_replicate,sz4,by4,sz5,by5,sz22,by22,sz23,by23,sz24,by24,sz25,by25,sz26,by26,sz27,by27,sz30,by30,sz31,by31,sz33,by33,sz34,by34,sz35,by35,sz36,by36,sz37,by37,sz80,by80,sz89,by89, *] <;> omega) | (simp only [Ix.val];with_reducible assumption) | exact UInt8.toNat_lt _ | (apply Eq.trans;(with_reducible assumption);exact rfl) | exact rfl | exact fun _ _=>rfl)
  all_goals exact hsame
 ·exact fc
theorem hd_arg {ls:List (Nat × SV)} (h:catF [cArr8 32,cBool,cArr8 32,cArr8 32,cArr8 32,cU16,cArr8 32,cU16,cU16] ls):∃ g:Hd,g.OK∧SV.agg ls = hdV g:=by
 obtain ⟨_,_,⟨ss,a1,rfl⟩,h,rfl⟩:=h
 obtain ⟨_,_,⟨fi,rfl⟩,h,rfl⟩:=h
 obtain ⟨_,_,⟨ag,a2,rfl⟩,h,rfl⟩:=h
 obtain ⟨_,_,⟨sg,a3,rfl⟩,h,rfl⟩:=h
 obtain ⟨_,_,⟨ba,a4,rfl⟩,h,rfl⟩:=h
 obtain ⟨_,_,⟨id,rfl⟩,h,rfl⟩:=h
 obtain ⟨_,_,⟨ra,a5,rfl⟩,h,rfl⟩:=h
 obtain ⟨_,_,⟨n,rfl⟩,h,rfl⟩:=h
 obtain ⟨_,_,⟨pv,rfl⟩,h,rfl⟩:=h
 have h:_ = []:=h
 subst h
 exact ⟨⟨ss,fi,ag,sg,ba,id,ra,n,pv⟩,⟨a1,a2,a3,a4,a5⟩,rfl⟩
theorem allF4 {A B C D:SV→Prop} {svs:List SV} (h:AllF [A,B,C,D] svs):∃ a b c d,svs = [a,b,c,d]∧A a∧B b∧C c∧D d:=by
 match svs,h with
 | [a,b,c,d],⟨h1,h2,h3,h4,_⟩=>exact ⟨a,b,c,d,rfl,h1,h2,h3,h4⟩
set_option maxRecDepth 100000 in
theorem ratchetTurned_runs (svs:List SV) (h:AllF [isSl8 1,isOfStruct (catF [cArr8 32,cBool,cArr8 32,cArr8 32,cArr8 32,cU16,cArr8 32,cU16,cU16]),isInt .i64,isU8] svs):Sx.Fn Γ.P 3 svs [] (fun v _=>v = .tt):=by
 obtain ⟨_,_,_,_,rfl,h1,h2,h3,h4⟩:=allF4 h
 obtain ⟨m,text,hm,hm2,rfl⟩:=h1
 obtain ⟨at_,_,rfl⟩:=h3
 obtain ⟨by_,rfl⟩:=h4
 obtain ⟨ls,h2,rfl⟩:=h2
 obtain ⟨g,hg,e⟩:=hd_arg h2
 rw [e]
 exact ratchetTurned text m (by rw [hm,Nat.mul_one]) hm2 g hg at_ by_
end Go.Proofs.Ytpkllkbmoodniaa
