/- What the functions of the program compute. No condition. -/
import Derived.Test.YtimbdhpchlakfaaHwFe4ToFe5
import Derived.Test.YtimbdhpchlakfaaHx8
set_option linter.unusedSimpArgs false
set_option linter.unusedVariables false
namespace Go.Proofs.Ytimbdhpchlakfaa
open Go Go.Sx Go.Cu
theorem stpL_eq (u:List UInt64) (s:LL):stpL u s = ⟨stpA s,stpZ s,mulL (addL (stpD s) (stpC s)) (addL (stpD s) (stpC s)),mulL u (mulL (subL (stpD s) (stpC s)) (subL (stpD s) (stpC s)))⟩:=by unfold stpL;rfl
set_option maxRecDepth 100000 in
set_option maxHeartbeats 2000000 in
theorem fn28 (ax az bx bz u:List UInt64) (h1:ax.length = 5) (h2:az.length = 5) (h3:bx.length = 5) (h4:bz.length = 5) (hu:u.length = 5) :
  Sx.Fn Γ.P 28 [.agg [(5,.a64 ax),(5,.a64 az)],.agg [(5,.a64 bx),(5,.a64 bz)],.agg [(5,.a64 u)]] []
   (fun v _=>v = .tup [.agg [(5,.a64 (stpL u ⟨ax,az,bx,bz⟩).ax),(5,.a64 (stpL u ⟨ax,az,bx,bz⟩).az)],.agg [(5,.a64 (stpL u ⟨ax,az,bx,bz⟩).bx),(5,.a64 (stpL u ⟨ax,az,bx,bz⟩).bz)]]):=by
 rw [stpL_eq]
 unfold stpZ stpD stpC stpE stpA
 simp only
 have c1:=fn44 ax az h1 h2
 have l1:=(addL_lb ax az).1
 generalize addL ax az = p at *
 have c2:=fn45 ax az h1 h2
 have l2:=(subL_lb ax az).1
 generalize subL ax az = m at *
 have c3:=fn30 p p l1 l1
 have l3:=(mulL_lb p p).1
 generalize mulL p p = pp at *
 have c4:=fn30 m m l2 l2
 have l4:=(mulL_lb m m).1
 generalize mulL m m = mm at *
 have c5:=fn45 pp mm l3 l4
 have l5:=(subL_lb pp mm).1
 generalize subL pp mm = e at *
 have c6:=fn45 bx bz h3 h4
 have l6:=(subL_lb bx bz).1
 generalize subL bx bz = q1 at *
 have c7:=fn30 q1 p l6 l1
 have l7:=(mulL_lb q1 p).1
 generalize mulL q1 p = da at *
 have c8:=fn44 bx bz h3 h4
 have l8:=(addL_lb bx bz).1
 generalize addL bx bz = q2 at *
 have c9:=fn30 q2 m l8 l2
 have l9:=(mulL_lb q2 m).1
 generalize mulL q2 m = cb at *
 have d1:=fn44 da cb l7 l9
 have m1:=(addL_lb da cb).1
 generalize addL da cb = s at *
 have d2:=fn45 da cb l7 l9
 have m2:=(subL_lb da cb).1
 generalize subL da cb = d at *
 have d3:=fn27 a24B rfl
 have m3:=(ofL_val a24B).2.1
 have z:a24B = UInt8.ofNat 65 :: UInt8.ofNat 219 :: UInt8.ofNat 1 :: List.replicate 29 0:=rfl
 generalize ofL a24B = k at *
 rw [z] at d3
 clear z
 have d4:=fn30 pp mm l3 l4
 have m4:=(mulL_lb pp mm).1
 generalize mulL pp mm = r1 at *
 have d5:=fn30 k e m3 l5
 have m5:=(mulL_lb k e).1
 generalize mulL k e = ke at *
 have d6:=fn44 pp ke l3 m5
 have m6:=(addL_lb pp ke).1
 generalize addL pp ke = w at *
 have d7:=fn30 e w l5 m6
 have m7:=(mulL_lb e w).1
 generalize mulL e w = r2 at *
 have d8:=fn30 s s m1 m1
 have m8:=(mulL_lb s s).1
 generalize mulL s s = r3 at *
 have d9:=fn30 d d m2 m2
 have m9:=(mulL_lb d d).1
 generalize mulL d d = dd at *
 have g1:=fn30 u dd hu m9
 have n1:=(mulL_lb u dd).1
 generalize mulL u dd = r4 at *
 refine fn_of (Γ:=Γ) (fn:=Try.f28) rfl rfl rfl rfl ?_
 repeat (refine sd ?_)
 refine Draw.intro [[],[0],[],[2],[0,1,2,3],[],[5],[],[7],[0,1,2,3,4,5,6,7,8],[],[],[0,1,2,3,4,5,6,7,8,9,10,11],[0,1,2,3,4,5,6,7,8,9,10,11,12]] [0,1,2,3,5,6,7,8,10,11,4,9,12,13] (by kernel_rfl) ?_
 repeat (first | (refine Grow.intro [] rfl rfl ?_) | (refine Grow.turn rfl rfl ?_) | (refine Grow.auto rfl rfl ?_) | (refine sd ?_))
 refine Call.pure c1 rfl ?_ ?_
 ·exact fc
 intro v hv
 subst hv
 repeat (first | (refine Grow.intro [] rfl rfl ?_) | (refine Grow.turn rfl rfl ?_) | (refine Grow.auto rfl rfl ?_) | (refine sd ?_))
 refine Call.pure c2 rfl ?_ ?_
 ·exact fc
 intro v hv
 subst hv
 repeat (first | (refine Grow.intro [] rfl rfl ?_) | (refine Grow.turn rfl rfl ?_) | (refine Grow.auto rfl rfl ?_) | (refine sd ?_))
 refine Draw.intro [[],[],[0,1],[],[],[0,1,2,3,4],[],[],[0,1,2,3,4,5,6,7],[0,1,2,3,4,5,6,7,8]] [0,1,3,4,6,7,2,5,8,9] (by kernel_rfl) ?_
 repeat (first | (refine Grow.intro [] rfl rfl ?_) | (refine Grow.turn rfl rfl ?_) | (refine Grow.auto rfl rfl ?_) | (refine sd ?_))
 refine Call.pure c3 rfl ?_ ?_
 ·exact fc
 intro v hv
 subst hv
 repeat (first | (refine Grow.intro [] rfl rfl ?_) | (refine Grow.turn rfl rfl ?_) | (refine Grow.auto rfl rfl ?_) | (refine sd ?_))
 refine Call.pure c4 rfl ?_ ?_
 ·exact fc
 intro v hv
 subst hv
 repeat (first | (refine Grow.intro [] rfl rfl ?_) | (refine Grow.turn rfl rfl ?_) | (refine Grow.auto rfl rfl ?_) | (refine sd ?_))
 refine Call.pure c5 rfl ?_ ?_
 ·exact fc
 intro v hv
 subst hv
 repeat (first | (refine Grow.intro [] rfl rfl ?_) | (refine Grow.turn rfl rfl ?_) | (refine Grow.auto rfl rfl ?_) | (refine sd ?_))
 refine Draw.intro [[],[0],[],[2],[0,1,2,3],[],[0,1,2,3,4,5],[],[7],[],[9],[0,1,2,3,4,5,6,7,8,9,10],[],[0,1,2,3,4,5,6,7,8,9,10,11,12],[],[],[0,1,2,3,4,5,6,7,8,9,10,11,12,13,14,15],[0,1,2,3,4,5,6,7,8,9,10,11,12,13,14,15,16]] [0,1,2,3,5,7,8,9,10,12,14,15,4,6,11,13,16,17] (by kernel_rfl) ?_
 repeat (first | (refine Grow.intro [] rfl rfl ?_) | (refine Grow.turn rfl rfl ?_) | (refine Grow.auto rfl rfl ?_) | (refine sd ?_))
 refine Call.pure c6 rfl ?_ ?_
 ·exact fc
 intro v hv
 subst hv
 repeat (first | (refine Grow.intro [] rfl rfl ?_) | (refine Grow.turn rfl rfl ?_) | (refine Grow.auto rfl rfl ?_) | (refine sd ?_))
 refine Call.pure c7 rfl ?_ ?_
 ·exact fc
 intro v hv
 subst hv
 repeat (first | (refine Grow.intro [] rfl rfl ?_) | (refine Grow.turn rfl rfl ?_) | (refine Grow.auto rfl rfl ?_) | (refine sd ?_))
 refine Call.pure c8 rfl ?_ ?_
 ·exact fc
 intro v hv
 subst hv
 repeat (first | (refine Grow.intro [] rfl rfl ?_) | (refine Grow.turn rfl rfl ?_) | (refine Grow.auto rfl rfl ?_) | (refine sd ?_))
 refine Call.pure c9 rfl ?_ ?_
 ·exact fc
 intro v hv
 subst hv
 repeat (first | (refine Grow.intro [] rfl rfl ?_) | (refine Grow.turn rfl rfl ?_) | (refine Grow.auto rfl rfl ?_) | (refine sd ?_))
 refine Draw.intro [[],[],[0,1],[],[],[0,1,2,3,4],[],[],[0,1,2,3,4,5,6,7],[0,1,2,3,4,5,6,7,8]] [0,1,3,4,6,7,2,5,8,9] (by kernel_rfl) ?_
 repeat (first | (refine Grow.intro [] rfl rfl ?_) | (refine Grow.turn rfl rfl ?_) | (refine Grow.auto rfl rfl ?_) | (refine sd ?_))
 refine Call.pure d1 rfl ?_ ?_
 ·exact fc
 intro v hv
 subst hv
 repeat (first | (refine Grow.intro [] rfl rfl ?_) | (refine Grow.turn rfl rfl ?_) | (refine Grow.auto rfl rfl ?_) | (refine sd ?_))
 refine Call.pure d2 rfl ?_ ?_
 ·exact fc
 intro v hv
 subst hv
 repeat (first | (refine Grow.intro [] rfl rfl ?_) | (refine Grow.turn rfl rfl ?_) | (refine Grow.auto rfl rfl ?_) | (refine sd ?_))
 refine Call.pure d3 rfl ?_ ?_
 ·exact fc
 intro v hv
 subst hv
 repeat (first | (refine Grow.intro [] rfl rfl ?_) | (refine Grow.turn rfl rfl ?_) | (refine Grow.auto rfl rfl ?_) | (refine sd ?_))
 refine Draw.intro [[],[],[0,1],[],[],[],[],[0,1,2,5,6],[0,1,2,4,5,6,7],[0,1,2,3,4,5,6,7,8],[0,1,2,3,4,5,6,7,8,9],[],[],[0,1,2,3,4,5,6,7,8,9,11,12],[],[],[],[0,1,2,3,4,5,6,7,8,9,11,12,13,15,16],[0,1,2,3,4,5,6,7,8,9,11,12,13,14,15,16,17],[0,1,2,3,4,5,6,7,8,9,11,12,13,14,15,16,17,18],[0,1,2,3,4,5,6,7,8,9,10,11,12,13,14,15,16,17,18],[0,1,2,3,4,5,6,7,8,9,10,11,12,13,14,15,16,17,18,19,20]] [0,1,3,4,5,6,11,12,14,15,16,2,7,8,9,10,13,17,18,19,20,21] (by kernel_rfl) ?_
 repeat (first | (refine Grow.intro [] rfl rfl ?_) | (refine Grow.turn rfl rfl ?_) | (refine Grow.auto rfl rfl ?_) | (refine sd ?_))
 refine Call.pure d4 rfl ?_ ?_
 ·exact fc
 intro v hv
 subst hv
 repeat (first | (refine Grow.intro [] rfl rfl ?_) | (refine Grow.turn rfl rfl ?_) | (refine Grow.auto rfl rfl ?_) | (refine sd ?_))
 refine Call.pure d5 rfl ?_ ?_
 ·exact fc
 intro v hv
 subst hv
 repeat (first | (refine Grow.intro [] rfl rfl ?_) | (refine Grow.turn rfl rfl ?_) | (refine Grow.auto rfl rfl ?_) | (refine sd ?_))
 refine Call.pure d6 rfl ?_ ?_
 ·exact fc
 intro v hv
 subst hv
 repeat (first | (refine Grow.intro [] rfl rfl ?_) | (refine Grow.turn rfl rfl ?_) | (refine Grow.auto rfl rfl ?_) | (refine sd ?_))
 refine Call.pure d7 rfl ?_ ?_
 ·exact fc
 intro v hv
 subst hv
 repeat (first | (refine Grow.intro [] rfl rfl ?_) | (refine Grow.turn rfl rfl ?_) | (refine Grow.auto rfl rfl ?_) | (refine sd ?_))
 refine Call.pure d8 rfl ?_ ?_
 ·exact fc
 intro v hv
 subst hv
 repeat (first | (refine Grow.intro [] rfl rfl ?_) | (refine Grow.turn rfl rfl ?_) | (refine Grow.auto rfl rfl ?_) | (refine sd ?_))
 refine Call.pure d9 rfl ?_ ?_
 ·exact fc
 intro v hv
 subst hv
 repeat (first | (refine Grow.intro [] rfl rfl ?_) | (refine Grow.turn rfl rfl ?_) | (refine Grow.auto rfl rfl ?_) | (refine sd ?_))
 refine Call.pure g1 rfl ?_ ?_
 ·exact fc
 intro v hv
 subst hv
 repeat (first | (refine Grow.intro [] rfl rfl ?_) | (refine Grow.turn rfl rfl ?_) | (refine Grow.auto rfl rfl ?_) | (refine sd ?_))
 refine Ret.intro (.tup [.agg [(5,.a64 r1),(5,.a64 r2)],.agg [(5,.a64 r3),(5,.a64 r4)]]) [] [] rfl ?_ rfl rfl ?_ rfl ?_ rfl
 ·exact fc
 ·exact fc
 ·exact fc
end Go.Proofs.Ytimbdhpchlakfaa
