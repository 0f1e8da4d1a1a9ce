/- What the functions of the program compute. No condition. -/
import Derived.Test.YthhclcodibbncaaHwNmToFr1
import Derived.Test.YthhclcodibbncaaHwFr2ToFr2
import Derived.Test.YthhclcodibbncaaHwSs6ToSs6
set_option linter.unusedSimpArgs false
set_option linter.unusedVariables false
set_option maxRecDepth 100000
namespace Go.Proofs.Ythhclcodibbncaa
open Go Go.Sx
theorem vfy_made {T:List Te} {X Y one two:List UInt8} {o w:Nat} (h6:Num T (6,[X,one]) o) (h5:Num T (5,[Y]) w) (hl:T.length < 4294967296):vfy T T.length (kyB w) two (sgF o) ↔ one = two∧X = Y:=by
 obtain ⟨a1,a2,a3⟩:=h6.getD
 obtain ⟨b1,b2,b3⟩:=h5.getD
 constructor
 ·rintro ⟨q,r,a,f1,f2,f3,f4,f5⟩
  rw [sgF_take,numP_ky a3 a2 hl] at f1
  rw [numP_ky b3 b2 hl] at f4
  obtain rfl:q = o - 1:=by omega
  obtain rfl:r = w - 1:=by omega
  rw [a1] at f3
  rw [b1] at f5
  simp only [Prod.mk.injEq,List.cons.injEq,true_and,and_true] at f3 f5
  exact ⟨f3.2,f3.1.trans f5.symm⟩
 ·rintro ⟨rfl,rfl⟩
  exact ⟨o - 1,w - 1,X,by rw [sgF_take,numP_ky a3 a2 hl];omega,sgF_drop o,a1,by rw [numP_ky b3 b2 hl];omega,b1⟩
theorem mk2_num (T:List Te) {k:Int} (h1:1 ≤ k) (h8:k ≤ 8) {p q:List UInt8} (hp:p.length ≤ 4096) (hq:q.length ≤ 4096):Num (mk2 T k p q).1 (k,[p,q]) (mk2 T k p q).2:=by rw [mk2_eq];exact mkT_num (x:=(k,_)) ⟨joinsB hp hq,h1,h8⟩
theorem fnSameV (x y:List UInt8) (n m:Nat) (hx:x.length = n) (hy:y.length = m):Sx.Fn Γ.P 9 [.isl 0 n 1 [(n,.a8 x)],.isl 0 m 1 [(m,.a8 y)]] [] (fun v M=>v = .bool (x = y)∧M = []):=by
 have h:=fn9 x y
 rw [hx,hy,Nat.mul_one,Nat.mul_one] at h
 exact h
set_option maxHeartbeats 4000000 in
theorem suiteFree (a b one two:List UInt8) (n m:Nat) (ha:a.length = 32) (hb:b.length = 32) (h1:one.length = n) (h2:two.length = m) :
  Sx.Fn Γ.P 3 [.a8 a,.a8 b,.isl 0 n 1 [(n,.a8 one)],.isl 0 m 1 [(m,.a8 two)]] [] (fun v _=>v = .tt):=by
 refine fn_of (Γ:=Γ) (fn:=Try.f3) rfl rfl rfl rfl ?_
 repeat (refine sd ?_)
 refine Call.intro fn4 [] rfl trivial rfl trivial rfl ?_
 rintro v M' rfl
 dsimp only [putT,afterM,newEnt,ren,renA,renS,renL,look,getM,getT,ev,evL,ofVal,cond_true,cond_false,Nat.beq_eq,act,isPar,ownPar,Ent.isOwn]
 repeat (first | (refine Branch.intro (fun _=>?_) (fun hn=>absurd rfl hn)) | (refine Branch.intro (fun hn=>(by with_reducible exact False.elim hn)) (fun _=>?_)) | (refine Branch.intro (fun _=>?_) (fun hn=>(by with_reducible exact absurd trivial hn))) | (refine Branch.intro (fun hn=>(by with_reducible exact absurd trivial hn)) (fun _=>?_)) | (refine Branch.intro (fun hn=>(by with_reducible exact absurd rfl hn)) (fun _=>?_)) | (refine Branch.intro (fun _=>?_) (fun hn=>(by with_reducible exact absurd Iff.rfl hn))) | (refine Branch.intro (fun hn=>(by with_reducible exact absurd Iff.rfl hn)) (fun _=>?_)) | (refine sd ?_))
 refine Branch.intro (fun hc=>?_) (fun hc=>?_)
 ·repeat (first | (refine Branch.intro (fun _=>?_) (fun hn=>absurd rfl hn)) | (refine Branch.intro (fun hn=>(by with_reducible exact False.elim hn)) (fun _=>?_)) | (refine Branch.intro (fun _=>?_) (fun hn=>(by with_reducible exact absurd trivial hn))) | (refine Branch.intro (fun hn=>(by with_reducible exact absurd trivial hn)) (fun _=>?_)) | (refine Branch.intro (fun hn=>(by with_reducible exact absurd rfl hn)) (fun _=>?_)) | (refine Branch.intro (fun _=>?_) (fun hn=>(by with_reducible exact absurd Iff.rfl hn))) | (refine Branch.intro (fun hn=>(by with_reducible exact absurd Iff.rfl hn)) (fun _=>?_)) | (refine sd ?_))
  refine Ret.intro .tt [] [] rfl ?_ rfl rfl ?_ rfl ?_ rfl
  ·exact fc
  ·exact fc
  ·exact fc
 have hc:¬ (n:Int) > 1024:=hc
 repeat (refine sd ?_)
 refine Branch.intro (fun hc2=>?_) (fun hc2=>?_)
 ·repeat (first | (refine Branch.intro (fun _=>?_) (fun hn=>absurd rfl hn)) | (refine Branch.intro (fun hn=>(by with_reducible exact False.elim hn)) (fun _=>?_)) | (refine Branch.intro (fun _=>?_) (fun hn=>(by with_reducible exact absurd trivial hn))) | (refine Branch.intro (fun hn=>(by with_reducible exact absurd trivial hn)) (fun _=>?_)) | (refine Branch.intro (fun hn=>(by with_reducible exact absurd rfl hn)) (fun _=>?_)) | (refine Branch.intro (fun _=>?_) (fun hn=>(by with_reducible exact absurd Iff.rfl hn))) | (refine Branch.intro (fun hn=>(by with_reducible exact absurd Iff.rfl hn)) (fun _=>?_)) | (refine sd ?_))
  refine Ret.intro .tt [] [] rfl ?_ rfl rfl ?_ rfl ?_ rfl
  ·exact fc
  ·exact fc
  ·exact fc
 have hc2:¬ (m:Int) > 1024:=hc2
 obtain ⟨A,hA⟩:∃ A,(mk1 [] 1 a).1 = A:=⟨_,rfl⟩
 obtain ⟨o1,ho1⟩:∃ o,(mk1 [] 1 a).2 = o:=⟨_,rfl⟩
 have hN1:=mk1_num [] (k:=1) (by decide) (by decide) (p:=a) (by omega)
 have hvA:=mk1_valid (T:=[]) tb0_valid 1 a
 have hlA:=(mk1_len [] 1 a).2
 rw [hA,ho1] at hN1
 rw [hA] at hvA hlA
 have hlA:A.length ≤ 1:=hlA
 obtain ⟨B,hB⟩:∃ B,(mk1 A 1 b).1 = B:=⟨_,rfl⟩
 obtain ⟨o2,ho2⟩:∃ o,(mk1 A 1 b).2 = o:=⟨_,rfl⟩
 have hN2:=mk1_num A (k:=1) (by decide) (by decide) (p:=b) (by omega)
 have hvB:=mk1_valid hvA 1 b
 have hlB:=(mk1_len A 1 b).2
 have hxB:=mk1_ext A 1 b
 rw [hB,ho2] at hN2
 rw [hB] at hvB hlB hxB
 have hk1:=kyB_length o1
 have hk2:=kyB_length o2
 have hab:kyB o1 = kyB o2 ↔ a = b:=by
  have g1:=(hxB _ _ hN1).getD
  have g2:=hN2.getD
  constructor
  ·intro h
   have e:=kyG_inj (by omega) (by omega) (by omega) (by omega) h
   have:=(hxB _ _ hN1).det (e ▸ hN2)
   simp only [Prod.mk.injEq,List.cons.injEq,true_and,and_true] at this
   exact this
  ·intro h
   rw [← h] at hN2
   rw [(hxB _ _ hN1).one hN2]
 obtain ⟨C,hC⟩:∃ C,(mx8 B (kyB o1) one).1 = C:=⟨_,rfl⟩
 obtain ⟨o3,ho3⟩:∃ o,(mx8 B (kyB o1) one).2 = o:=⟨_,rfl⟩
 have hN3:=mx8_num B (p:=kyB o1) (q:=one) (by omega) (by omega)
 have hvC:=mx8_valid hvB (kyB o1) one
 have hlC:=(mx8_len B (kyB o1) one).2
 rw [hC,ho3] at hN3
 rw [hC] at hvC hlC
 obtain ⟨D,hD⟩:∃ D,(mk2 C 6 (kyB o1) one).1 = D:=⟨_,rfl⟩
 obtain ⟨o4,ho4⟩:∃ o,(mk2 C 6 (kyB o1) one).2 = o:=⟨_,rfl⟩
 have hN4:=mk2_num C (k:=6) (by decide) (by decide) (p:=kyB o1) (q:=one) (by omega) (by omega)
 have hvD:=mk2_valid hvC 6 (kyB o1) one
 have hlD:=(mk2_len C 6 (kyB o1) one).2
 rw [hD,ho4] at hN4
 rw [hD] at hvD hlD
 obtain ⟨E,hE⟩:∃ E,(mk1 D 5 (kyB o2)).1 = E:=⟨_,rfl⟩
 obtain ⟨o5,ho5⟩:∃ o,(mk1 D 5 (kyB o2)).2 = o:=⟨_,rfl⟩
 have hN5:=mk1_num D (k:=5) (by decide) (by decide) (p:=kyB o2) (by omega)
 have hvE:=mk1_valid hvD 5 (kyB o2)
 have hlE:=(mk1_len D 5 (kyB o2)).2
 have hxE:=mk1_ext D 5 (kyB o2)
 rw [hE,ho5] at hN5
 rw [hE] at hvE hlE hxE
 have hN4:=hxE _ _ hN4
 have hsl:=sgF_length o4
 obtain ⟨s,hs⟩:∃ s,n / 16 * 16 + 32 = s:=⟨_,rfl⟩
 have hSl:(sefB o3 n).length = s:=by rw [sefB_length,hs]
 have hF1:=fnFreshF [] 0 0 rfl (by omega) (Nat.le_refl _) tb0_valid a ha A o1 hA ho1
 unfold tbM at hF1
 repeat (refine sd ?_)
 refine Call.intro fnSuiteF [(1000,(1000,0,none)),(1001,(1001,0,none)),(1002,(1002,0,none))] rfl ?_ rfl ?_ rfl ?_
 ·exact fc
 ·exact fc
 rintro v M' ⟨rfl,rfl⟩
 dsimp only [putT,afterM,newEnt,ren,renA,renS,renL,look,getM,getT,ev,evL,ofVal,cond_true,cond_false,Nat.beq_eq,act,isPar,ownPar,Ent.isOwn]
 repeat (refine sd ?_)
 refine Draw.intro [[],[],[0,1],[],[],[0,1,2,3,4],[],[],[0,1,2,3,4,5,6,7],[0,1,2,3,4,5,6,7,8]] [0,1,3,4,6,7,2,5,8,9] (by kernel_rfl) ?_
 repeat (first | (refine Grow.turn rfl rfl ?_) | (refine sd ?_))
 refine Call.intro hF1 [(1000,(1000,0,none)),(1001,(1001,0,none)),(1002,(1002,0,none)),(1005,(305,0,none))] rfl ?_ rfl ?_ rfl ?_
 ·exact fc
 ·exact fc
 rintro v M' ⟨n1,c1,hn1,hc1,rfl,rfl⟩
 dsimp only [putT,afterM,newEnt,ren,renA,renS,renL,look,getM,getT,ev,evL,ofVal,cond_true,cond_false,Nat.beq_eq,act,isPar,ownPar,Ent.isOwn]
 repeat (first | (refine Grow.turn rfl rfl ?_) | (refine sd ?_))
 have hF2:=fnFreshF A n1 c1 hn1 (by omega) hc1 hvA b hb B o2 hB ho2
 unfold tbM at hF2
 refine Call.intro hF2 [(1000,(1000,0,none)),(1001,(305,0,none)),(1002,(1002,0,none)),(1005,(306,0,none))] rfl ?_ rfl ?_ rfl ?_
 ·exact fc
 ·exact fc
 rintro v M' ⟨n2,c2,hn2,hcc2,rfl,rfl⟩
 dsimp only [putT,afterM,newEnt,ren,renA,renS,renL,look,getM,getT,ev,evL,ofVal,cond_true,cond_false,Nat.beq_eq,act,isPar,ownPar,Ent.isOwn]
 repeat (first | (refine Grow.turn rfl rfl ?_) | (refine sd ?_))
 have hSe:=fnSealF B n2 c2 hn2 (by omega) hcc2 hvB (kyB o1) one n s hk1 h1 (by omega) hs C o3 hC ho3
 unfold tbM at hSe
 refine Call.intro hSe [(1000,(1000,0,none)),(1001,(306,0,none)),(1002,(1002,0,none)),(1005,(307,0,none)),(1006,(406,0,none))] rfl ?_ rfl ?_ rfl ?_
 ·exact fc
 ·exact fc
 rintro v M' ⟨n3,c3,hn3,hc3,rfl,rfl⟩
 dsimp only [putT,afterM,newEnt,ren,renA,renS,renL,look,getM,getT,ev,evL,ofVal,cond_true,cond_false,Nat.beq_eq,act,isPar,ownPar,Ent.isOwn]
 repeat (refine sd ?_)
 have hOp:=fnOpenF C n3 hn3 (by omega) hvC (kyB o2) (sefB o3 n) s hk2 hSl (by omega)
 have hSg:=fnSignF C n3 c3 hn3 (by omega) hc3 hvC (kyB o1) one n hk1 h1 (by omega) D o4 hD ho4
 unfold tbM at hSg
 refine Call.intro hOp [(1003,(406,0,none)),(1000,(1000,0,none)),(1001,(307,0,none)),(1002,(1002,0,none))] rfl ?_ rfl ?_ rfl ?_
 ·exact fc
 ·exact fc
 rintro v M' (⟨ho,rfl,rfl⟩ | ⟨p,k,ho,hp,hk,rfl,rfl⟩)
 ·have hne:¬ a = b:=by
   intro h
   rw [hab.2 h] at hN3
   have:=opn_sealed hN3 (by omega) (by omega)
   rw [hn3,h1,ho] at this
   cases this
  have hne2:¬ kyB o1 = kyB o2:=fun h=>hne (hab.1 h)
  dsimp only [putT,afterM,newEnt,ren,renA,renS,renL,look,getM,getT,ev,evL,ofVal,cond_true,cond_false,Nat.beq_eq,act,isPar,ownPar,Ent.isOwn]
  repeat (first | (refine Branch.intro (fun h=>False.elim (by revert h;first | (simp [hne];done) | fail)) (fun _=>?_)) | (refine Branch.intro (fun _=>?_) (fun h=>False.elim (by revert h;first | (simp [hne];done) | fail))) | (refine Grow.turn rfl rfl ?_) | (refine sd ?_))
  refine Call.intro hSg [(1000,(1000,0,none)),(1001,(307,0,none)),(1002,(1002,0,none)),(1005,(308,0,none))] rfl ?_ rfl ?_ rfl ?_
  ·exact fc
  ·exact fc
  rintro v M' ⟨n4,c4,hn4,hc4,rfl,rfl⟩
  dsimp only [putT,afterM,newEnt,ren,renA,renS,renL,look,getM,getT,ev,evL,ofVal,cond_true,cond_false,Nat.beq_eq,act,isPar,ownPar,Ent.isOwn]
  repeat (refine sd ?_)
  have hSr:=fnSignerF D n4 c4 hn4 (by omega) hc4 hvD (kyB o2) hk2 E o5 hE ho5
  unfold tbM at hSr
  refine Draw.intro [[],[],[],[1,2],[],[],[0,1,2,3,4,5],[],[],[7,8],[0,1,2,3,4,5,6,7,8,9],[0,1,2,3,4,5,6,7,8,9,10],[0,1,2,3,4,5,6,7,8,9,10],[0,1,2,3,4,5,6,7,8,9,10,11,12],[0,1,2,3,4,5,6,7,8,9,10,11,12,13],[0,1,2,3,4,5,6,7,8,9,10,11,12,13,14],[0,1,2,3,4,5,6,7,8,9,10,11,12,13,14,15]] [0,1,2,4,5,7,8,9,3,6,10,11,12,13,14,15,16] (by kernel_rfl) ?_
  repeat (first | (refine Branch.intro (fun h=>False.elim (by revert h;first | (simp [hne];done) | fail)) (fun _=>?_)) | (refine Branch.intro (fun _=>?_) (fun h=>False.elim (by revert h;first | (simp [hne];done) | fail))) | (refine Grow.turn rfl rfl ?_) | (refine sd ?_))
  refine Call.intro hSr [(1000,(1000,0,none)),(1001,(308,0,none)),(1002,(1002,0,none)),(1005,(309,0,none))] rfl ?_ rfl ?_ rfl ?_
  ·exact fc
  ·exact fc
  rintro v M' ⟨n5,c5,hn5,hc5,rfl,rfl⟩
  dsimp only [putT,afterM,newEnt,ren,renA,renS,renL,look,getM,getT,ev,evL,ofVal,cond_true,cond_false,Nat.beq_eq,act,isPar,ownPar,Ent.isOwn]
  have hVf:=fnVerifyF E n5 hn5 (by omega) hvE (kyB o5) two (sgF o4) m (kyB_length _) h2 (by omega) (sgF_length _)
  have hvf:=vfy_made (two:=two) hN4 hN5 (by omega)
  rw [hn5] at hvf
  repeat (first | (refine Branch.intro (fun h=>False.elim (by revert h;first | (simp [hne];done) | fail)) (fun _=>?_)) | (refine Branch.intro (fun _=>?_) (fun h=>False.elim (by revert h;first | (simp [hne];done) | fail))) | (refine Grow.turn rfl rfl ?_) | (refine sd ?_))
  refine Call.intro hVf [(1000,(1000,0,none)),(1001,(309,0,none)),(1002,(1002,0,none))] rfl ?_ rfl ?_ rfl ?_
  ·exact fc
  ·exact fc
  rintro v M' (⟨hv,rfl,rfl⟩ | ⟨hv,rfl,rfl⟩)
  ·exact absurd (hvf.1 hv).2 hne2
  dsimp only [putT,afterM,newEnt,ren,renA,renS,renL,look,getM,getT,ev,evL,ofVal,cond_true,cond_false,Nat.beq_eq,act,isPar,ownPar,Ent.isOwn]
  repeat (first | (refine Branch.intro (fun h=>False.elim (by revert h;first | (simp [hne];done) | fail)) (fun _=>?_)) | (refine Branch.intro (fun _=>?_) (fun h=>False.elim (by revert h;first | (simp [hne];done) | fail))) | (refine Grow.turn rfl rfl ?_) | (refine sd ?_))
  refine Ret.intro .tt [] [] rfl ?_ rfl rfl ?_ rfl ?_ rfl
  ·exact fc
  ·repeat' (first | (show AllP _;first | exact trivial | refine AllP.app ?_ ?_ | refine AllP.appd ?_ ?_ | refine AllP.cons ?_ ?_) | with_reducible rfl | with_reducible assumption | omega | (simp only [rng,Ix.val,addQ_eq,addI,sz3,by3,sz4,by4,sz5,by5,sz22,by22,sz23,by23,sz26,by26,sz27,by27,sz29,by29,sz34,by34,sz35,by35] <;> omega) | (simp only [rng,Ix.val,Int.toNat_natCast,mulE_eq,addQ_eq,addI,Option.getD_none,Option.getD_some,List.length_take,List.length_drop,List.length_append,List.length_set,List.length_replicate,sz3,by3,sz4,by4,sz5,by5,sz22,by22,sz23,by23,sz26,by26,sz27,by27,sz29,by29,sz34,by34,sz35,by35, *] <;> omega) | (simp only [Ix.val];with_reducible assumption) | exact UInt8.toNat_lt _ | (apply Eq.trans;(with_reducible assumption);exact rfl) | exact rfl | exact fun _ _=>rfl)
   all_goals (simp [hne])
  ·exact fc
 ·obtain ⟨q,f1,f2,f3,f4⟩:=opn_some ho
  obtain ⟨g1,g2,g3⟩:=hN3.getD
  rw [show (sefB o3 n).take 32 = kyB o3 from sefB_take _ _,numP_ky g3 (by omega) (by omega)] at f1
  obtain rfl:q = o3 - 1:=by omega
  rw [g1] at f3
  simp only [List.cons.injEq,and_true] at f3
  have heq:a = b:=hab.1 f3.1
  obtain rfl:one = p:=f3.2
  obtain rfl:n = k:=h1.symm.trans hp
  have hB1:=fnSameV one one n n h1 h1
  have hB2:=fnSameV one two n m h1 h2
  dsimp only [putT,afterM,newEnt,ren,renA,renS,renL,look,getM,getT,ev,evL,ofVal,cond_true,cond_false,Nat.beq_eq,act,isPar,ownPar,Ent.isOwn]
  repeat (first | (refine Branch.intro (fun h=>False.elim (by revert h;first | (simp [heq];done) | fail)) (fun _=>?_)) | (refine Branch.intro (fun _=>?_) (fun h=>False.elim (by revert h;first | (simp [heq];done) | fail))) | (refine Grow.turn rfl rfl ?_) | (refine sd ?_))
  refine Call.intro hB1 [] rfl ?_ rfl ?_ rfl ?_
  ·exact fc
  ·exact fc
  rintro v M' ⟨rfl,rfl⟩
  dsimp only [putT,afterM,newEnt,ren,renA,renS,renL,look,getM,getT,ev,evL,ofVal,cond_true,cond_false,Nat.beq_eq,act,isPar,ownPar,Ent.isOwn]
  repeat (first | (refine Branch.intro (fun h=>False.elim (by revert h;first | (simp [heq];done) | fail)) (fun _=>?_)) | (refine Branch.intro (fun _=>?_) (fun h=>False.elim (by revert h;first | (simp [heq];done) | fail))) | (refine Grow.turn rfl rfl ?_) | (refine sd ?_))
  refine Call.intro hSg [(1000,(1000,0,none)),(1001,(307,0,none)),(1002,(1002,0,none)),(1005,(308,0,none))] rfl ?_ rfl ?_ rfl ?_
  ·exact fc
  ·exact fc
  rintro v M' ⟨n4,c4,hn4,hc4,rfl,rfl⟩
  dsimp only [putT,afterM,newEnt,ren,renA,renS,renL,look,getM,getT,ev,evL,ofVal,cond_true,cond_false,Nat.beq_eq,act,isPar,ownPar,Ent.isOwn]
  repeat (refine sd ?_)
  have hSr:=fnSignerF D n4 c4 hn4 (by omega) hc4 hvD (kyB o2) hk2 E o5 hE ho5
  unfold tbM at hSr
  refine Draw.intro [[],[],[],[1,2],[],[],[0,1,2,3,4,5],[],[],[7,8],[0,1,2,3,4,5,6,7,8,9],[0,1,2,3,4,5,6,7,8,9,10],[0,1,2,3,4,5,6,7,8,9,10],[0,1,2,3,4,5,6,7,8,9,10,11,12],[0,1,2,3,4,5,6,7,8,9,10,11,12,13],[0,1,2,3,4,5,6,7,8,9,10,11,12,13,14],[0,1,2,3,4,5,6,7,8,9,10,11,12,13,14,15]] [0,1,2,4,5,7,8,9,3,6,10,11,12,13,14,15,16] (by kernel_rfl) ?_
  repeat (first | (refine Branch.intro (fun h=>False.elim (by revert h;first | (simp [heq];done) | fail)) (fun _=>?_)) | (refine Branch.intro (fun _=>?_) (fun h=>False.elim (by revert h;first | (simp [heq];done) | fail))) | (refine Grow.turn rfl rfl ?_) | (refine sd ?_))
  refine Call.intro hSr [(1000,(1000,0,none)),(1001,(308,0,none)),(1002,(1002,0,none)),(1005,(309,0,none))] rfl ?_ rfl ?_ rfl ?_
  ·exact fc
  ·exact fc
  rintro v M' ⟨n5,c5,hn5,hc5,rfl,rfl⟩
  dsimp only [putT,afterM,newEnt,ren,renA,renS,renL,look,getM,getT,ev,evL,ofVal,cond_true,cond_false,Nat.beq_eq,act,isPar,ownPar,Ent.isOwn]
  have hVf:=fnVerifyF E n5 hn5 (by omega) hvE (kyB o5) two (sgF o4) m (kyB_length _) h2 (by omega) (sgF_length _)
  have hvf:=vfy_made (two:=two) hN4 hN5 (by omega)
  rw [hn5] at hvf
  repeat (first | (refine Branch.intro (fun h=>False.elim (by revert h;first | (simp [heq];done) | fail)) (fun _=>?_)) | (refine Branch.intro (fun _=>?_) (fun h=>False.elim (by revert h;first | (simp [heq];done) | fail))) | (refine Grow.turn rfl rfl ?_) | (refine sd ?_))
  refine Call.intro hVf [(1000,(1000,0,none)),(1001,(309,0,none)),(1002,(1002,0,none))] rfl ?_ rfl ?_ rfl ?_
  ·exact fc
  ·exact fc
  rintro v M' (⟨hv,rfl,rfl⟩ | ⟨hv,rfl,rfl⟩)
  ·have ht:one = two:=(hvf.1 hv).1
   dsimp only [putT,afterM,newEnt,ren,renA,renS,renL,look,getM,getT,ev,evL,ofVal,cond_true,cond_false,Nat.beq_eq,act,isPar,ownPar,Ent.isOwn]
   repeat (first | (refine Branch.intro (fun h=>False.elim (by revert h;first | (simp [heq];done) | fail)) (fun _=>?_)) | (refine Branch.intro (fun _=>?_) (fun h=>False.elim (by revert h;first | (simp [heq];done) | fail))) | (refine Grow.turn rfl rfl ?_) | (refine sd ?_))
   refine Call.intro hB2 [] rfl ?_ rfl ?_ rfl ?_
   ·exact fc
   ·exact fc
   rintro v M' ⟨rfl,rfl⟩
   dsimp only [putT,afterM,newEnt,ren,renA,renS,renL,look,getM,getT,ev,evL,ofVal,cond_true,cond_false,Nat.beq_eq,act,isPar,ownPar,Ent.isOwn]
   repeat (first | (refine Branch.intro (fun h=>False.elim (by revert h;first | (simp [heq];done) | fail)) (fun _=>?_)) | (refine Branch.intro (fun _=>?_) (fun h=>False.elim (by revert h;first | (simp [heq];done) | fail))) | (refine Grow.turn rfl rfl ?_) | (refine sd ?_))
   refine Ret.intro .tt [] [] rfl ?_ rfl rfl ?_ rfl ?_ rfl
   ·exact fc
   ·repeat' (first | (show AllP _;first | exact trivial | refine AllP.app ?_ ?_ | refine AllP.appd ?_ ?_ | refine AllP.cons ?_ ?_) | with_reducible rfl | with_reducible assumption | omega | (simp only [rng,Ix.val,addQ_eq,addI,sz3,by3,sz4,by4,sz5,by5,sz22,by22,sz23,by23,sz26,by26,sz27,by27,sz29,by29,sz34,by34,sz35,by35] <;> omega) | (simp only [rng,Ix.val,Int.toNat_natCast,mulE_eq,addQ_eq,addI,Option.getD_none,Option.getD_some,List.length_take,List.length_drop,List.length_append,List.length_set,List.length_replicate,sz3,by3,sz4,by4,sz5,by5,sz22,by22,sz23,by23,sz26,by26,sz27,by27,sz29,by29,sz34,by34,sz35,by35, *] <;> omega) | (simp only [Ix.val];with_reducible assumption) | exact UInt8.toNat_lt _ | (apply Eq.trans;(with_reducible assumption);exact rfl) | exact rfl | exact fun _ _=>rfl)
    all_goals (simp [heq,ht])
   ·exact fc
  ·have ht:¬ one = two:=fun h=>hv (hvf.2 ⟨h,f3.1⟩)
   dsimp only [putT,afterM,newEnt,ren,renA,renS,renL,look,getM,getT,ev,evL,ofVal,cond_true,cond_false,Nat.beq_eq,act,isPar,ownPar,Ent.isOwn]
   repeat (first | (refine Branch.intro (fun h=>False.elim (by revert h;first | (simp [heq];done) | fail)) (fun _=>?_)) | (refine Branch.intro (fun _=>?_) (fun h=>False.elim (by revert h;first | (simp [heq];done) | fail))) | (refine Grow.turn rfl rfl ?_) | (refine sd ?_))
   refine Call.intro hB2 [] rfl ?_ rfl ?_ rfl ?_
   ·exact fc
   ·exact fc
   rintro v M' ⟨rfl,rfl⟩
   dsimp only [putT,afterM,newEnt,ren,renA,renS,renL,look,getM,getT,ev,evL,ofVal,cond_true,cond_false,Nat.beq_eq,act,isPar,ownPar,Ent.isOwn]
   repeat (first | (refine Branch.intro (fun h=>False.elim (by revert h;first | (simp [heq];done) | fail)) (fun _=>?_)) | (refine Branch.intro (fun _=>?_) (fun h=>False.elim (by revert h;first | (simp [heq];done) | fail))) | (refine Grow.turn rfl rfl ?_) | (refine sd ?_))
   refine Ret.intro .tt [] [] rfl ?_ rfl rfl ?_ rfl ?_ rfl
   ·exact fc
   ·repeat' (first | (show AllP _;first | exact trivial | refine AllP.app ?_ ?_ | refine AllP.appd ?_ ?_ | refine AllP.cons ?_ ?_) | with_reducible rfl | with_reducible assumption | omega | (simp only [rng,Ix.val,addQ_eq,addI,sz3,by3,sz4,by4,sz5,by5,sz22,by22,sz23,by23,sz26,by26,sz27,by27,sz29,by29,sz34,by34,sz35,by35] <;> omega) | (simp only [rng,Ix.val,Int.toNat_natCast,mulE_eq,addQ_eq,addI,Option.getD_none,Option.getD_some,List.length_take,List.length_drop,List.length_append,List.length_set,List.length_replicate,sz3,by3,sz4,by4,sz5,by5,sz22,by22,sz23,by23,sz26,by26,sz27,by27,sz29,by29,sz34,by34,sz35,by35, *] <;> omega) | (simp only [Ix.val];with_reducible assumption) | exact UInt8.toNat_lt _ | (apply Eq.trans;(with_reducible assumption);exact rfl) | exact rfl | exact fun _ _=>rfl)
    all_goals (simp [heq,ht])
   ·exact fc
theorem suiteFree_runs (svs:List SV) (h:AllF [isArr8 32,isArr8 32,isSl8 1,isSl8 1] svs):Sx.Fn Γ.P 3 svs [] (fun v _=>v = .tt):=by
 match svs,h with
 | [_,_,_,_],⟨⟨a,ha,rfl⟩,⟨b,hb,rfl⟩,⟨n,one,h1,_,rfl⟩,⟨m,two,h2,_,rfl⟩,_⟩=>
  rw [Nat.mul_one] at h1 h2 ⊢
  rw [Nat.mul_one]
  exact suiteFree a b one two n m ha hb h1 h2
end Go.Proofs.Ythhclcodibbncaa
