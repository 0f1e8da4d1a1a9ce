/- What the functions of the program compute. No condition. -/
import Derived.Test.YtimbdhpchlakfaaHwNmToAg1
set_option linter.unusedSimpArgs false
set_option linter.unusedVariables false
namespace Go.Proofs.Ytimbdhpchlakfaa
open Go Go.Sx Go.Cu
set_option maxRecDepth 100000 in
set_option maxHeartbeats 4000000 in
theorem suiteAgreesR (P:Prop) (hP:¬ P) (a b o:List UInt8) (ha:a.length = 32) (hb:b.length = 32) (ho:o.length = 32):Sx.Fn Γ.P 3 [.bool P,.a8 a,.a8 b,.a8 o] [] (fun v _=>v = .tt):=by
 have f1:=fnFreshR a ha
 have f2:=fnFreshR b hb
 have f3:=fnFreshR o ho
 have p1:=fnPublicR a ha
 have p2:=fnPublicR b hb
 have l1:=pubB_length a
 have l2:=pubB_length b
 have g1:=fnAgreeR a (pubB b) ha l2
 have g2:=fnAgreeR b (pubB a) hb l1
 have g3:=fnAgreeR o (pubB b) ho l2
 rw [← aggB_two ha hb] at g2
 have k1:=aggB_length a (pubB b)
 have k2:=aggB_length o (pubB b)
 generalize aggB a (pubB b) = K at *
 generalize aggB o (pubB b) = K2 at *
 generalize pubB a = pa at *
 generalize pubB b = pb at *
 refine fn_of (Γ:=Γ) (fn:=Try.f3) rfl rfl rfl rfl ?_
 repeat (refine sd ?_)
 refine Call.intro fn4 [] rfl trivial rfl trivial rfl ?_
 rintro v M' rfl
 dsimp only [putT,afterM,newEnt,ren,renA,renS,renL,look,getM,getT,ev,evL,ofVal,cond_true,cond_false,Nat.beq_eq,act,isPar,ownPar,Ent.isOwn]
 repeat (first | (refine Branch.intro (fun _=>?_) (fun hn=>absurd rfl hn)) | (refine ky0 ?_) | (refine kn0 ?_) | (refine sd ?_))
 refine Call.intro fnSuiteR [] rfl ?_ rfl ?_ rfl ?_
 ·exact fc
 ·exact fc
 rintro v M' ⟨rfl,rfl⟩
 dsimp only [putT,afterM,newEnt,ren,renA,renS,renL,look,getM,getT,ev,evL,ofVal,cond_true,cond_false,Nat.beq_eq,act,isPar,ownPar,Ent.isOwn]
 repeat (refine sd ?_)
 refine Draw.intro [[],[],[0,1],[],[],[0,1,2,3,4],[],[],[0,1,2,3,4,5,6,7],[],[],[],[0,1,2,3,4,5,6,7,8,9,10,11],[0,1,2,3,4,5,6,7,8,9,10,11,12],[0,1,2,3,4,5,6,7,8,9,10,11,12,13]] [0,1,3,4,6,7,9,10,11,2,5,8,12,13,14] (by kernel_rfl) ?_
 repeat (first | (refine Branch.intro (fun h=>False.elim (by revert h;first | (simp [hP];done) | fail)) (fun _=>?_)) | (refine Branch.intro (fun _=>?_) (fun h=>False.elim (by revert h;first | (simp [hP];done) | fail))) | (refine Grow.intro [] rfl rfl ?_) | (refine Grow.turn rfl rfl ?_) | (refine sd ?_))
 refine Call.pure f1 rfl ?_ ?_
 ·exact fc
 intro v hv
 subst hv
 repeat (first | (refine Branch.intro (fun h=>False.elim (by revert h;first | (simp [hP];done) | fail)) (fun _=>?_)) | (refine Branch.intro (fun _=>?_) (fun h=>False.elim (by revert h;first | (simp [hP];done) | fail))) | (refine Grow.intro [] rfl rfl ?_) | (refine Grow.turn rfl rfl ?_) | (refine sd ?_))
 refine Call.pure f2 rfl ?_ ?_
 ·exact fc
 intro v hv
 subst hv
 repeat (first | (refine Branch.intro (fun h=>False.elim (by revert h;first | (simp [hP];done) | fail)) (fun _=>?_)) | (refine Branch.intro (fun _=>?_) (fun h=>False.elim (by revert h;first | (simp [hP];done) | fail))) | (refine Grow.intro [] rfl rfl ?_) | (refine Grow.turn rfl rfl ?_) | (refine sd ?_))
 refine Call.pure f3 rfl ?_ ?_
 ·exact fc
 intro v hv
 subst hv
 repeat (first | (refine Branch.intro (fun h=>False.elim (by revert h;first | (simp [hP];done) | fail)) (fun _=>?_)) | (refine Branch.intro (fun _=>?_) (fun h=>False.elim (by revert h;first | (simp [hP];done) | fail))) | (refine Grow.intro [] rfl rfl ?_) | (refine Grow.turn rfl rfl ?_) | (refine sd ?_))
 refine Draw.intro [[],[],[],[],[2,3],[0,1,2,3,4],[0,1,2,3,4,5],[0,1,2,3,4,5,6],[0,1,2,3,4,5,6],[],[0,1,2,3,4,5,6,7,9],[0,1,2,3,4,5,6,7,8,9,10]] [0,1,2,3,9,4,5,6,7,8,10,11] (by kernel_rfl) ?_
 repeat (first | (refine Branch.intro (fun h=>False.elim (by revert h;first | (simp [hP];done) | fail)) (fun _=>?_)) | (refine Branch.intro (fun _=>?_) (fun h=>False.elim (by revert h;first | (simp [hP];done) | fail))) | (refine Grow.intro [] rfl rfl ?_) | (refine Grow.turn rfl rfl ?_) | (refine sd ?_))
 refine Call.pure p2 rfl ?_ ?_
 ·exact fc
 intro v hv
 subst hv
 repeat (first | (refine Branch.intro (fun h=>False.elim (by revert h;first | (simp [hP];done) | fail)) (fun _=>?_)) | (refine Branch.intro (fun _=>?_) (fun h=>False.elim (by revert h;first | (simp [hP];done) | fail))) | (refine Grow.intro [] rfl rfl ?_) | (refine Grow.turn rfl rfl ?_) | (refine sd ?_))
 refine Call.pure g1 rfl ?_ ?_
 ·exact fc
 intro v hv
 subst hv
 repeat (first | (refine Branch.intro (fun h=>False.elim (by revert h;first | (simp [hP];done) | fail)) (fun _=>?_)) | (refine Branch.intro (fun _=>?_) (fun h=>False.elim (by revert h;first | (simp [hP];done) | fail))) | (refine Grow.intro [] rfl rfl ?_) | (refine Grow.turn rfl rfl ?_) | (refine sd ?_))
 refine Draw.intro [[],[],[],[],[2,3],[0,1,2,3,4],[0,1,2,3,4,5],[0,1,2,3,4,5,6],[0,1,2,3,4,5,6],[],[0,1,2,3,4,5,6,7,9],[0,1,2,3,4,5,6,7,8,9,10]] [0,1,2,3,9,4,5,6,7,8,10,11] (by kernel_rfl) ?_
 repeat (first | (refine Branch.intro (fun h=>False.elim (by revert h;first | (simp [hP];done) | fail)) (fun _=>?_)) | (refine Branch.intro (fun _=>?_) (fun h=>False.elim (by revert h;first | (simp [hP];done) | fail))) | (refine Grow.intro [] rfl rfl ?_) | (refine Grow.turn rfl rfl ?_) | (refine sd ?_))
 refine Call.pure p1 rfl ?_ ?_
 ·exact fc
 intro v hv
 subst hv
 repeat (first | (refine Branch.intro (fun h=>False.elim (by revert h;first | (simp [hP];done) | fail)) (fun _=>?_)) | (refine Branch.intro (fun _=>?_) (fun h=>False.elim (by revert h;first | (simp [hP];done) | fail))) | (refine Grow.intro [] rfl rfl ?_) | (refine Grow.turn rfl rfl ?_) | (refine sd ?_))
 refine Call.pure g2 rfl ?_ ?_
 ·exact fc
 intro v hv
 subst hv
 repeat (first | (refine Branch.intro (fun h=>False.elim (by revert h;first | (simp [hP];done) | fail)) (fun _=>?_)) | (refine Branch.intro (fun _=>?_) (fun h=>False.elim (by revert h;first | (simp [hP];done) | fail))) | (refine Grow.intro [] rfl rfl ?_) | (refine Grow.turn rfl rfl ?_) | (refine sd ?_))
 refine Draw.intro [[],[],[],[],[2,3],[0,1,2,3,4],[0,1,2,3,4,5],[0,1,2,3,4,5,6],[0,1,2,3,4,5,6],[],[0,1,2,3,4,5,6,7,9],[0,1,2,3,4,5,6,7,8,9,10]] [0,1,2,3,9,4,5,6,7,8,10,11] (by kernel_rfl) ?_
 repeat (first | (refine Branch.intro (fun h=>False.elim (by revert h;first | (simp [hP];done) | fail)) (fun _=>?_)) | (refine Branch.intro (fun _=>?_) (fun h=>False.elim (by revert h;first | (simp [hP];done) | fail))) | (refine Grow.intro [] rfl rfl ?_) | (refine Grow.turn rfl rfl ?_) | (refine sd ?_))
 refine Call.pure p2 rfl ?_ ?_
 ·exact fc
 intro v hv
 subst hv
 repeat (first | (refine Branch.intro (fun h=>False.elim (by revert h;first | (simp [hP];done) | fail)) (fun _=>?_)) | (refine Branch.intro (fun _=>?_) (fun h=>False.elim (by revert h;first | (simp [hP];done) | fail))) | (refine Grow.intro [] rfl rfl ?_) | (refine Grow.turn rfl rfl ?_) | (refine sd ?_))
 refine Call.pure g3 rfl ?_ ?_
 ·exact fc
 intro v hv
 subst hv
 repeat (first | (refine Branch.intro (fun h=>False.elim (by revert h;first | (simp [hP];done) | fail)) (fun _=>?_)) | (refine Branch.intro (fun _=>?_) (fun h=>False.elim (by revert h;first | (simp [hP];done) | fail))) | (refine Grow.intro [] rfl rfl ?_) | (refine Grow.turn rfl rfl ?_) | (refine sd ?_))
 refine Draw.intro [[],[0],[0,1],[0,1,2],[0,1,2],[0,1,2,3,4],[0,1,2],[0,1,2],[0,1,2,6,7],[0,1,2,3,4,5,6,7,8],[0,1,2,3,4,5,6,7,8,9],[0,1,2,3,4,5,6,7,8,9,10]] [0,1,2,3,4,5,6,7,8,9,10,11] (by kernel_rfl) ?_
 repeat (first | (refine Branch.intro (fun h=>False.elim (by revert h;first | (simp [hP];done) | fail)) (fun _=>?_)) | (refine Branch.intro (fun _=>?_) (fun h=>False.elim (by revert h;first | (simp [hP];done) | fail))) | (refine Grow.intro [] rfl rfl ?_) | (refine Grow.turn rfl rfl ?_) | (refine sd ?_))
 refine Ret.intro .tt [] [] rfl ?_ rfl rfl ?_ rfl ?_ rfl
 ·exact fc
 ·repeat' (first | (show AllP _;first | exact trivial | refine AllP.app ?_ ?_ | refine AllP.appd ?_ ?_ | refine AllP.cons ?_ ?_) | exact fd | fail)
  all_goals (simp [hP])
 ·exact fc
set_option maxRecDepth 100000 in
set_option maxHeartbeats 4000000 in
theorem suiteAgreesF (P:Prop) (hP:P) (a b o:List UInt8) (ha:a.length = 32) (hb:b.length = 32) (ho:o.length = 32):Sx.Fn Γ.P 3 [.bool P,.a8 a,.a8 b,.a8 o] [] (fun v _=>v = .tt):=by
 obtain ⟨A,hA⟩:∃ A,(mk1 [] 1 a).1 = A:=⟨_,rfl⟩
 obtain ⟨o1,ho1⟩:∃ o,(mk1 [] 1 a).2 = o:=⟨_,rfl⟩
 have hN1:=mk1_num [] (k:=1) (by decide) (by decide) (p:=a) (by omega)
 have hvA:=mk1_valid (T:=[]) tb0_valid 1 a
 have hlA:=(mk1_len [] 1 a).2
 rw [hA,ho1] at hN1
 rw [hA] at hvA hlA
 have hlA:A.length ≤ 1:=hlA
 obtain ⟨B,hB⟩:∃ B,(mk1 A 1 b).1 = B:=⟨_,rfl⟩
 obtain ⟨o2,ho2⟩:∃ o,(mk1 A 1 b).2 = o:=⟨_,rfl⟩
 have hN2:=mk1_num A (k:=1) (by decide) (by decide) (p:=b) (by omega)
 have hvB:=mk1_valid hvA 1 b
 have hlB:=(mk1_len A 1 b).2
 have hxB:=mk1_ext A 1 b
 rw [hB,ho2] at hN2
 rw [hB] at hvB hlB hxB
 obtain ⟨C,hC⟩:∃ C,(mk1 B 1 o).1 = C:=⟨_,rfl⟩
 obtain ⟨o3,ho3⟩:∃ q,(mk1 B 1 o).2 = q:=⟨_,rfl⟩
 have hN3:=mk1_num B (k:=1) (by decide) (by decide) (p:=o) (by omega)
 have hvC:=mk1_valid hvB 1 o
 have hlC:=(mk1_len B 1 o).2
 have hxC:=mk1_ext B 1 o
 rw [hC,ho3] at hN3
 rw [hC] at hvC hlC hxC
 have hk1:=kyB_length o1
 have hk2:=kyB_length o2
 have hk3:=kyB_length o3
 obtain ⟨D,hD⟩:∃ D,(mk1 C 2 (kyB o2)).1 = D:=⟨_,rfl⟩
 obtain ⟨o4,ho4⟩:∃ q,(mk1 C 2 (kyB o2)).2 = q:=⟨_,rfl⟩
 have hN4:=mk1_num C (k:=2) (by decide) (by decide) (p:=kyB o2) (by omega)
 have hvD:=mk1_valid hvC 2 (kyB o2)
 have hlD:=(mk1_len C 2 (kyB o2)).2
 have hxD:=mk1_ext C 2 (kyB o2)
 rw [hD,ho4] at hN4
 rw [hD] at hvD hlD hxD
 obtain ⟨E,hE⟩:∃ E,(mkT D (3,srt (kyB o1) (kyB o2))).1 = E:=⟨_,rfl⟩
 obtain ⟨o5,ho5⟩:∃ q,(mkT D (3,srt (kyB o1) (kyB o2))).2 = q:=⟨_,rfl⟩
 have hs12:=srt_valid (x:=kyB o1) (y:=kyB o2) (by omega) (by omega)
 have hs32:=srt_valid (x:=kyB o3) (y:=kyB o2) (by omega) (by omega)
 have hN5:=mkT_num (T:=D) (x:=(3,srt (kyB o1) (kyB o2))) hs12
 have hvE:=mkT_valid (x:=(3,srt (kyB o1) (kyB o2))) hvD
 have hlE:=(mkT_len D (3,srt (kyB o1) (kyB o2))).2
 have hxE:=Ext.mk D (3,srt (kyB o1) (kyB o2))
 rw [hE,ho5] at hN5
 rw [hE] at hvE hlE hxE
 obtain ⟨Q,hQ⟩:∃ Q,(mk1 E 2 (kyB o1)).1 = Q:=⟨_,rfl⟩
 obtain ⟨o6,ho6⟩:∃ q,(mk1 E 2 (kyB o1)).2 = q:=⟨_,rfl⟩
 have hN6:=mk1_num E (k:=2) (by decide) (by decide) (p:=kyB o1) (by omega)
 have hvQ:=mk1_valid hvE 2 (kyB o1)
 have hlQ:=(mk1_len E 2 (kyB o1)).2
 have hxQ:=mk1_ext E 2 (kyB o1)
 rw [hQ,ho6] at hN6
 rw [hQ] at hvQ hlQ hxQ
 have hG:mkT Q (3,srt (kyB o2) (kyB o1)) = (Q,o5):=by rw [srt_comm];exact mkT_has hs12 (hxQ _ _ hN5)
 have hH:mk1 Q 2 (kyB o2) = (Q,o4):=mk1_has (by decide) (by decide) (by omega) (hxQ _ _ (hxE _ _ hN4))
 obtain ⟨W,hW⟩:∃ W,(mkT Q (3,srt (kyB o3) (kyB o2))).1 = W:=⟨_,rfl⟩
 obtain ⟨o9,ho9⟩:∃ q,(mkT Q (3,srt (kyB o3) (kyB o2))).2 = q:=⟨_,rfl⟩
 have hN9:=mkT_num (T:=Q) (x:=(3,srt (kyB o3) (kyB o2))) hs32
 have hlW:=(mkT_len Q (3,srt (kyB o3) (kyB o2))).2
 have hxW:=Ext.mk Q (3,srt (kyB o3) (kyB o2))
 rw [hW,ho9] at hN9
 rw [hW] at hlW hxW
 have hk5:=kyB_length o5
 have hk9:=kyB_length o9
 have key:kyB o9 = kyB o5 ↔ o = a:=by
  have g5:=(hxW _ _ (hxQ _ _ hN5))
  have g1:=hxC _ _ (hxB _ _ hN1)
  constructor
  ·intro h
   have e:=kyG_inj (by have:=hN9.getD;omega) (by have:=g5.getD;omega) hN9.2 g5.2 h
   have d:=hN9.det (e ▸ g5)
   simp only [Prod.mk.injEq,true_and] at d
   have d2:=srt_inj d
   have e3:=kyG_inj (by have:=hN3.getD;omega) (by have:=g1.getD;omega) hN3.2 g1.2 d2
   have:=hN3.det (e3 ▸ g1)
   simp only [Prod.mk.injEq,List.cons.injEq,true_and,and_true] at this
   exact this
  ·intro h
   rw [h] at hN3
   have e3:=hN3.one g1
   rw [e3] at hN9
   rw [hN9.one g5]
 refine fn_of (Γ:=Γ) (fn:=Try.f3) rfl rfl rfl rfl ?_
 repeat (refine sd ?_)
 refine Call.intro fn4 [] rfl trivial rfl trivial rfl ?_
 rintro v M' rfl
 dsimp only [putT,afterM,newEnt,ren,renA,renS,renL,look,getM,getT,ev,evL,ofVal,cond_true,cond_false,Nat.beq_eq,act,isPar,ownPar,Ent.isOwn]
 repeat (first | (refine Branch.intro (fun _=>?_) (fun hn=>absurd rfl hn)) | (refine ky0 ?_) | (refine kn0 ?_) | (refine sd ?_))
 refine Call.intro fnSuiteF [(1000,(1000,0,none)),(1001,(1001,0,none)),(1002,(1002,0,none))] rfl ?_ rfl ?_ rfl ?_
 ·exact fc
 ·exact fc
 rintro v M' ⟨rfl,rfl⟩
 dsimp only [putT,afterM,newEnt,ren,renA,renS,renL,look,getM,getT,ev,evL,ofVal,cond_true,cond_false,Nat.beq_eq,act,isPar,ownPar,Ent.isOwn]
 repeat (refine sd ?_)
 refine Draw.intro [[],[],[0,1],[],[],[0,1,2,3,4],[],[],[0,1,2,3,4,5,6,7],[],[],[],[0,1,2,3,4,5,6,7,8,9,10,11],[0,1,2,3,4,5,6,7,8,9,10,11,12],[0,1,2,3,4,5,6,7,8,9,10,11,12,13]] [0,1,3,4,6,7,9,10,11,2,5,8,12,13,14] (by kernel_rfl) ?_
 repeat (first | (refine Branch.intro (fun h=>False.elim (by revert h;first | (simp [hP];done) | fail)) (fun _=>?_)) | (refine Branch.intro (fun _=>?_) (fun h=>False.elim (by revert h;first | (simp [hP];done) | fail))) | (refine Grow.intro [] rfl rfl ?_) | (refine Grow.turn rfl rfl ?_) | (refine sd ?_))
 have hF1:=fnFreshF [] 0 0 rfl (by omega) (Nat.le_refl _) tb0_valid a ha A o1 hA ho1
 unfold tbM at hF1
 refine Call.intro hF1 [(1000,(1000,0,none)),(1001,(1001,0,none)),(1002,(1002,0,none)),(1005,(305,0,none))] rfl ?_ rfl ?_ rfl ?_
 ·exact fc
 ·exact fc
 rintro v M' ⟨n1,c1,hn1,hc1,rfl,rfl⟩
 dsimp only [putT,afterM,newEnt,ren,renA,renS,renL,look,getM,getT,ev,evL,ofVal,cond_true,cond_false,Nat.beq_eq,act,isPar,ownPar,Ent.isOwn]
 repeat (first | (refine Branch.intro (fun h=>False.elim (by revert h;first | (simp [hP];done) | fail)) (fun _=>?_)) | (refine Branch.intro (fun _=>?_) (fun h=>False.elim (by revert h;first | (simp [hP];done) | fail))) | (refine Grow.intro [] rfl rfl ?_) | (refine Grow.turn rfl rfl ?_) | (refine sd ?_))
 have hF2:=fnFreshF A n1 c1 hn1 (by omega) hc1 hvA b hb B o2 hB ho2
 unfold tbM at hF2
 refine Call.intro hF2 [(1000,(1000,0,none)),(1001,(305,0,none)),(1002,(1002,0,none)),(1005,(306,0,none))] rfl ?_ rfl ?_ rfl ?_
 ·exact fc
 ·exact fc
 rintro v M' ⟨n2,c2,hn2,hc2,rfl,rfl⟩
 dsimp only [putT,afterM,newEnt,ren,renA,renS,renL,look,getM,getT,ev,evL,ofVal,cond_true,cond_false,Nat.beq_eq,act,isPar,ownPar,Ent.isOwn]
 repeat (first | (refine Branch.intro (fun h=>False.elim (by revert h;first | (simp [hP];done) | fail)) (fun _=>?_)) | (refine Branch.intro (fun _=>?_) (fun h=>False.elim (by revert h;first | (simp [hP];done) | fail))) | (refine Grow.intro [] rfl rfl ?_) | (refine Grow.turn rfl rfl ?_) | (refine sd ?_))
 have hF3:=fnFreshF B n2 c2 hn2 (by omega) hc2 hvB o ho C o3 hC ho3
 unfold tbM at hF3
 refine Call.intro hF3 [(1000,(1000,0,none)),(1001,(306,0,none)),(1002,(1002,0,none)),(1005,(307,0,none))] rfl ?_ rfl ?_ rfl ?_
 ·exact fc
 ·exact fc
 rintro v M' ⟨n3,c3,hn3,hc3,rfl,rfl⟩
 dsimp only [putT,afterM,newEnt,ren,renA,renS,renL,look,getM,getT,ev,evL,ofVal,cond_true,cond_false,Nat.beq_eq,act,isPar,ownPar,Ent.isOwn]
 repeat (first | (refine Branch.intro (fun h=>False.elim (by revert h;first | (simp [hP];done) | fail)) (fun _=>?_)) | (refine Branch.intro (fun _=>?_) (fun h=>False.elim (by revert h;first | (simp [hP];done) | fail))) | (refine Grow.intro [] rfl rfl ?_) | (refine Grow.turn rfl rfl ?_) | (refine sd ?_))
 refine Draw.intro [[],[],[],[],[2,3],[0,1,2,3,4],[0,1,2,3,4,5],[0,1,2,3,4,5,6],[0,1,2,3,4,5,6],[],[0,1,2,3,4,5,6,7,9],[0,1,2,3,4,5,6,7,8,9,10]] [0,1,2,3,9,4,5,6,7,8,10,11] (by kernel_rfl) ?_
 repeat (first | (refine Branch.intro (fun h=>False.elim (by revert h;first | (simp [hP];done) | fail)) (fun _=>?_)) | (refine Branch.intro (fun _=>?_) (fun h=>False.elim (by revert h;first | (simp [hP];done) | fail))) | (refine Grow.intro [] rfl rfl ?_) | (refine Grow.turn rfl rfl ?_) | (refine sd ?_))
 have hF4:=fnPublicF C n3 c3 hn3 (by omega) hc3 hvC (kyB o2) hk2 D o4 hD ho4
 unfold tbM at hF4
 refine Call.intro hF4 [(1000,(1000,0,none)),(1001,(307,0,none)),(1002,(1002,0,none)),(1005,(308,0,none))] rfl ?_ rfl ?_ rfl ?_
 ·exact fc
 ·exact fc
 rintro v M' ⟨n4,c4,hn4,hc4,rfl,rfl⟩
 dsimp only [putT,afterM,newEnt,ren,renA,renS,renL,look,getM,getT,ev,evL,ofVal,cond_true,cond_false,Nat.beq_eq,act,isPar,ownPar,Ent.isOwn]
 repeat (first | (refine Branch.intro (fun h=>False.elim (by revert h;first | (simp [hP];done) | fail)) (fun _=>?_)) | (refine Branch.intro (fun _=>?_) (fun h=>False.elim (by revert h;first | (simp [hP];done) | fail))) | (refine Grow.intro [] rfl rfl ?_) | (refine Grow.turn rfl rfl ?_) | (refine sd ?_))
 have hF5:=fnAgreeX D n4 c4 hn4 (by omega) hc4 hvD (kyB o1) (kyB o4) hk1 (kyB_length _)
 rw [agr_srt hn4 (by omega) hk2 hN4,hE,ho5] at hF5
 unfold tbM at hF5
 refine Call.intro hF5 [(1000,(1000,0,none)),(1001,(308,0,none)),(1002,(1002,0,none)),(1005,(309,0,none))] rfl ?_ rfl ?_ rfl ?_
 ·exact fc
 ·exact fc
 rintro v M' ⟨n5,c5,hn5,hc5,rfl,rfl⟩
 dsimp only [putT,afterM,newEnt,ren,renA,renS,renL,look,getM,getT,ev,evL,ofVal,cond_true,cond_false,Nat.beq_eq,act,isPar,ownPar,Ent.isOwn]
 repeat (first | (refine Branch.intro (fun h=>False.elim (by revert h;first | (simp [hP];done) | fail)) (fun _=>?_)) | (refine Branch.intro (fun _=>?_) (fun h=>False.elim (by revert h;first | (simp [hP];done) | fail))) | (refine Grow.intro [] rfl rfl ?_) | (refine Grow.turn rfl rfl ?_) | (refine sd ?_))
 refine Draw.intro [[],[],[],[],[2,3],[0,1,2,3,4],[0,1,2,3,4,5],[0,1,2,3,4,5,6],[0,1,2,3,4,5,6],[],[0,1,2,3,4,5,6,7,9],[0,1,2,3,4,5,6,7,8,9,10]] [0,1,2,3,9,4,5,6,7,8,10,11] (by kernel_rfl) ?_
 repeat (first | (refine Branch.intro (fun h=>False.elim (by revert h;first | (simp [hP];done) | fail)) (fun _=>?_)) | (refine Branch.intro (fun _=>?_) (fun h=>False.elim (by revert h;first | (simp [hP];done) | fail))) | (refine Grow.intro [] rfl rfl ?_) | (refine Grow.turn rfl rfl ?_) | (refine sd ?_))
 have hF6:=fnPublicF E n5 c5 hn5 (by omega) hc5 hvE (kyB o1) hk1 Q o6 hQ ho6
 unfold tbM at hF6
 refine Call.intro hF6 [(1000,(1000,0,none)),(1001,(309,0,none)),(1002,(1002,0,none)),(1005,(310,0,none))] rfl ?_ rfl ?_ rfl ?_
 ·exact fc
 ·exact fc
 rintro v M' ⟨n6,c6,hn6,hc6,rfl,rfl⟩
 dsimp only [putT,afterM,newEnt,ren,renA,renS,renL,look,getM,getT,ev,evL,ofVal,cond_true,cond_false,Nat.beq_eq,act,isPar,ownPar,Ent.isOwn]
 repeat (first | (refine Branch.intro (fun h=>False.elim (by revert h;first | (simp [hP];done) | fail)) (fun _=>?_)) | (refine Branch.intro (fun _=>?_) (fun h=>False.elim (by revert h;first | (simp [hP];done) | fail))) | (refine Grow.intro [] rfl rfl ?_) | (refine Grow.turn rfl rfl ?_) | (refine sd ?_))
 have hF7:=fnAgreeX Q n6 c6 hn6 (by omega) hc6 hvQ (kyB o2) (kyB o6) hk2 (kyB_length _)
 rw [agr_srt hn6 (by omega) hk1 hN6,hG] at hF7
 dsimp only at hF7
 unfold tbM at hF7
 refine Call.intro hF7 [(1000,(1000,0,none)),(1001,(310,0,none)),(1002,(1002,0,none)),(1005,(311,0,none))] rfl ?_ rfl ?_ rfl ?_
 ·exact fc
 ·exact fc
 rintro v M' ⟨n7,c7,hn7,hc7,rfl,rfl⟩
 dsimp only [putT,afterM,newEnt,ren,renA,renS,renL,look,getM,getT,ev,evL,ofVal,cond_true,cond_false,Nat.beq_eq,act,isPar,ownPar,Ent.isOwn]
 repeat (first | (refine Branch.intro (fun h=>False.elim (by revert h;first | (simp [hP];done) | fail)) (fun _=>?_)) | (refine Branch.intro (fun _=>?_) (fun h=>False.elim (by revert h;first | (simp [hP];done) | fail))) | (refine Grow.intro [] rfl rfl ?_) | (refine Grow.turn rfl rfl ?_) | (refine sd ?_))
 refine Draw.intro [[],[],[],[],[2,3],[0,1,2,3,4],[0,1,2,3,4,5],[0,1,2,3,4,5,6],[0,1,2,3,4,5,6],[],[0,1,2,3,4,5,6,7,9],[0,1,2,3,4,5,6,7,8,9,10]] [0,1,2,3,9,4,5,6,7,8,10,11] (by kernel_rfl) ?_
 repeat (first | (refine Branch.intro (fun h=>False.elim (by revert h;first | (simp [hP];done) | fail)) (fun _=>?_)) | (refine Branch.intro (fun _=>?_) (fun h=>False.elim (by revert h;first | (simp [hP];done) | fail))) | (refine Grow.intro [] rfl rfl ?_) | (refine Grow.turn rfl rfl ?_) | (refine sd ?_))
 have hF8:=fnPublicF Q n7 c7 hn7 (by omega) hc7 hvQ (kyB o2) hk2 Q o4 (by rw [hH]) (by rw [hH])
 unfold tbM at hF8
 refine Call.intro hF8 [(1000,(1000,0,none)),(1001,(311,0,none)),(1002,(1002,0,none)),(1005,(312,0,none))] rfl ?_ rfl ?_ rfl ?_
 ·exact fc
 ·exact fc
 rintro v M' ⟨n8,c8,hn8,hc8,rfl,rfl⟩
 dsimp only [putT,afterM,newEnt,ren,renA,renS,renL,look,getM,getT,ev,evL,ofVal,cond_true,cond_false,Nat.beq_eq,act,isPar,ownPar,Ent.isOwn]
 repeat (first | (refine Branch.intro (fun h=>False.elim (by revert h;first | (simp [hP];done) | fail)) (fun _=>?_)) | (refine Branch.intro (fun _=>?_) (fun h=>False.elim (by revert h;first | (simp [hP];done) | fail))) | (refine Grow.intro [] rfl rfl ?_) | (refine Grow.turn rfl rfl ?_) | (refine sd ?_))
 have hF9:=fnAgreeX Q n8 c8 hn8 (by omega) hc8 hvQ (kyB o3) (kyB o4) hk3 (kyB_length _)
 rw [agr_srt hn8 (by omega) hk2 (hxQ _ _ (hxE _ _ hN4)),hW,ho9] at hF9
 unfold tbM at hF9
 refine Call.intro hF9 [(1000,(1000,0,none)),(1001,(312,0,none)),(1002,(1002,0,none)),(1005,(313,0,none))] rfl ?_ rfl ?_ rfl ?_
 ·exact fc
 ·exact fc
 rintro v M' ⟨n9,c9,hn9,hc9,rfl,rfl⟩
 dsimp only [putT,afterM,newEnt,ren,renA,renS,renL,look,getM,getT,ev,evL,ofVal,cond_true,cond_false,Nat.beq_eq,act,isPar,ownPar,Ent.isOwn]
 repeat (first | (refine Branch.intro (fun h=>False.elim (by revert h;first | (simp [hP];done) | fail)) (fun _=>?_)) | (refine Branch.intro (fun _=>?_) (fun h=>False.elim (by revert h;first | (simp [hP];done) | fail))) | (refine Grow.intro [] rfl rfl ?_) | (refine Grow.turn rfl rfl ?_) | (refine sd ?_))
 refine Draw.intro [[],[0],[0,1],[0,1,2],[0,1,2],[0,1,2,3,4],[0,1,2],[0,1,2],[0,1,2,6,7],[0,1,2,3,4,5,6,7,8],[0,1,2,3,4,5,6,7,8,9],[0,1,2,3,4,5,6,7,8,9,10]] [0,1,2,3,4,5,6,7,8,9,10,11] (by kernel_rfl) ?_
 repeat (first | (refine Branch.intro (fun h=>False.elim (by revert h;first | (simp [hP];done) | fail)) (fun _=>?_)) | (refine Branch.intro (fun _=>?_) (fun h=>False.elim (by revert h;first | (simp [hP];done) | fail))) | (refine Grow.intro [] rfl rfl ?_) | (refine Grow.turn rfl rfl ?_) | (refine sd ?_))
 refine Ret.intro .tt [] [] rfl ?_ rfl rfl ?_ rfl ?_ rfl
 ·exact fc
 ·repeat' (first | (show AllP _;first | exact trivial | refine AllP.app ?_ ?_ | refine AllP.appd ?_ ?_ | refine AllP.cons ?_ ?_) | exact fd | fail)
  all_goals (simp [hP,key])
 ·exact fc
theorem suiteAgrees_runs (svs:List SV) (h:AllF [isBool,isArr8 32,isArr8 32,isArr8 32] svs):Sx.Fn Γ.P 3 svs [] (fun v _=>v = .tt):=by
 match svs,h with
 | [_,_,_,_],⟨⟨p,rfl⟩,⟨a,ha,rfl⟩,⟨b,hb,rfl⟩,⟨o,ho,rfl⟩,_⟩=>
  by_cases hp:p = true
  ·exact suiteAgreesF _ hp a b o ha hb ho
  ·exact suiteAgreesR _ hp a b o ha hb ho
end Go.Proofs.Ytimbdhpchlakfaa
