/- What the functions of the program compute. No condition. -/
import Derived.Test.YtfnmgbillkiabaaGreatHwAe1ToAe1
set_option linter.unusedSimpArgs false
set_option linter.unusedVariables false
set_option maxRecDepth 100000
namespace Go.Proofs.YtfnmgbillkiabaaGreat
open Go Go.Sx
theorem fnFree19:Sx.Fn Γ.P 7 [] [] (fun v M=>v = .agg [(1,.ptr 1000 0 none)]/\M = tbM 0 0 [] 1001):=by
 refine fn_of (Γ:=Γ) (fn:=Tryz.f7) rfl rfl rfl rfl ?_
 repeat (refine sd ?_)
 refine Call.intro fnNewT [(1000,(300,0,none)),(1002,(302,0,none))] rfl fc rfl trivial rfl ?_
 rintro v M' ⟨rfl,rfl⟩
 dsimp only [zt,zM,zE,ren,zz,zx,zy,look,zG,zX,ev,evL,zV,zcT,zcF,act,zP,zO,Ent.zW]
 repeat (refine sd ?_)
 refine Ret.ghost [.own 401 [(0,.arr 0 3 (ttF []))],.leaf 300 0 401] [] rfl ⟨rfl,rfl,trivial⟩ rfl (.agg [(1,.ptr 1000 0 none)]) (tbM 0 0 [] 1001) [(1000,(300,0,none)),(1001,(401,0,none)),(1002,(302,0,none))] rfl ?_ ⟨rfl,rfl⟩ rfl ?_ rfl ?_ rfl
 ·exact fc
 ·exact fc
 ·repeat' (first | (show zA _;first | exact trivial | refine zA.app ?_ ?_ | refine zA.zd ?_ ?_ | refine zA.cons ?_ ?_) | exact fd | fail)
  all_goals exact mpL_nil
set_option maxHeartbeats 8000000 in
theorem fn22:Sx.Fn Γ.P 22 [] [] (fun v _=>v = .tt):=by
 have hFr:=fnFree19
 have h1:=exC1
 have ox:=ex_x
 have ox2:=ex_x2
 have oy:=ex_y
 obtain ⟨x1,x2,x3⟩:=ox
 obtain ⟨y1,y2,y3⟩:=oy
 obtain ⟨z1,z2,z3⟩:=ox2
 unfold tbM at hFr h1
 refine fn_cut [3,4,5,6,8,9,10,11,12,13] (Γ:=Γ) (fn:=Tryz.f22) rfl rfl rfl rfl ?_
 repeat (refine sd ?_)
 refine Call.intro hFr [(1000,(300,0,none)),(1001,(301,0,none)),(1002,(302,0,none))] rfl fc rfl trivial rfl ?_
 rintro v M' ⟨rfl,rfl⟩
 dsimp only [zt,zM,zE,ren,zz,zx,zy,look,zG,zX,ev,evL,zV,zcT,zcF,act,zP,zO,Ent.zW]
 repeat (refine sd ?_)
 refine Call.intro h1 [(1000,(300,0,none)),(1001,(301,0,none)),(1002,(302,0,none)),(1005,(305,0,none))] rfl ?_ rfl ?_ rfl ?_
 ·repeat' (first | (show zA _;first | exact trivial | refine zA.app ?_ ?_ | refine zA.zd ?_ ?_ | refine zA.cons ?_ ?_) | exact fd | fail)
  all_goals first | exact kb_e _ | exact (kb_e _).symm | trace_state
 ·repeat' (first | (show zA _;first | exact trivial | refine zA.app ?_ ?_ | refine zA.zd ?_ ?_ | refine zA.cons ?_ ?_) | exact fd | fail)
  all_goals first | exact kb_e _ | exact (kb_e _).symm | trace_state
 rintro v M' ⟨n1,c1,hn1,hc1,rfl,rfl⟩
 have h2:=exC2 n1 c1 hn1 hc1
 unfold tbM at h2
 dsimp only [zt,zM,zE,ren,zz,zx,zy,look,zG,zX,ev,evL,zV,zcT,zcF,act,zP,zO,Ent.zW]
 repeat (refine sd ?_)
 refine Cut.intro (σ:=Unit) (fun _=>True) (fun _=>([(1,.ptr 201 0 none),(2,.ptr 202 0 none)],[(201,.mem true 0 [(1,.ptr 1000 0 none)]),(202,.mem true 0 (acL exX (.isl 0 0 33 [(0 * 33,.arr 0 33 (onF []))]))),
  (1000,.mem true 0 [(1,.sl 1001 0 0 n1 c1),(1,.mp 1002)]),(1001,.mem true (zmE (c1 - n1) 3) [(n1 * 3,.arr n1 3 (ttF ex3.1))]),(1002,.map (.si (mpL ex3.1)))])) () trivial (Le.intro [(201,(1,0,none)),(202,(2,0,none)),(1000,(300,0,none)),(1001,(305,0,none)),(1002,(302,0,none))] rfl ?_ rfl ?_ rfl) ?_
 ·exact fc
 ·exact fc
 rintro - -
 repeat (refine sd ?_)
 refine Call.intro h2 [(1000,(1000,0,none)),(1001,(1001,0,none)),(1002,(1002,0,none)),(1005,(305,0,none))] rfl ?_ rfl ?_ rfl ?_
 ·repeat' (first | (show zA _;first | exact trivial | refine zA.app ?_ ?_ | refine zA.zd ?_ ?_ | refine zA.cons ?_ ?_) | exact fd | fail)
  all_goals first | exact kb_e _ | exact (kb_e _).symm | trace_state
 ·repeat' (first | (show zA _;first | exact trivial | refine zA.app ?_ ?_ | refine zA.zd ?_ ?_ | refine zA.cons ?_ ?_) | exact fd | fail)
  all_goals first | exact kb_e _ | exact (kb_e _).symm | trace_state
 rintro v M' ⟨n2,c2,hn2,hc2,rfl,rfl⟩
 have h3:=exC3 n2 c2 hn2 hc2
 unfold tbM at h3
 dsimp only [zt,zM,zE,ren,zz,zx,zy,look,zG,zX,ev,evL,zV,zcT,zcF,act,zP,zO,Ent.zW]
 repeat (refine sd ?_)
 refine Cut.intro (σ:=Unit) (fun _=>True) (fun _=>([(1,.ptr 201 0 none),(2,.ptr 202 0 none),(3,.ptr 203 0 none)],[(201,.mem true 0 [(1,.ptr 1000 0 none)]),(202,.mem true 0 (acL exX (.isl 0 0 33 [(0 * 33,.arr 0 33 (onF []))]))),(203,.mem true 0 (acL exY (.isl 0 0 33 [(0 * 33,.arr 0 33 (onF []))]))),
  (1000,.mem true 0 [(1,.sl 1001 0 0 n2 c2),(1,.mp 1002)]),(1001,.mem true (zmE (c2 - n2) 3) [(n2 * 3,.arr n2 3 (ttF ex6.1))]),(1002,.map (.si (mpL ex6.1)))])) () trivial (Le.intro [(201,(201,0,none)),(202,(202,0,none)),(203,(3,0,none)),(1001,(305,0,none))] rfl ?_ rfl ?_ rfl) ?_
 ·exact fc
 ·exact fc
 rintro - -
 repeat (refine sd ?_)
 refine Call.name [(0,[]),(0,[]),(2001,[])] rfl fc (CallP.intro h3 [(1000,(1000,0,none)),(1001,(1001,0,none)),(1002,(1002,0,none)),(1004,(2001,0,none)),(1005,(305,0,none))] rfl fc rfl ?_ rfl ?_)
 ·repeat' (first | (show zA _;first | exact trivial | refine zA.app ?_ ?_ | refine zA.zd ?_ ?_ | refine zA.cons ?_ ?_) | exact fd | fail)
  all_goals first | exact exd0 | exact exd1 | trace_state
 rintro v M' ⟨n3,c3,hn3,hc3,rfl,rfl⟩
 have h4:=exC4 n3 c3 hn3 hc3
 unfold tbM at h4
 dsimp only [zt,zM,zE,ren,zz,zx,zy,look,zG,zX,ev,evL,zV,zcT,zcF,act,zP,zO,Ent.zW]
 repeat (refine sd ?_)
 refine Cut.intro (σ:=Unit) (fun _=>True) (fun _=>([(1,.ptr 201 0 none),(2,.ptr 202 0 none),(3,.ptr 203 0 none),(4,.i .i64 0)],[(201,.mem true 0 [(1,.ptr 1000 0 none)]),(202,.mem true 0 (acL exX2 (.isl 0 2 33 [(2 * 33,.arr 2 33 (onF exl))]))),(203,.mem true 0 (acL exY (.isl 0 0 33 [(0 * 33,.arr 0 33 (onF []))]))),
  (1000,.mem true 0 [(1,.sl 1001 0 0 n3 c3),(1,.mp 1002)]),(1001,.mem true (zmE (c3 - n3) 3) [(n3 * 3,.arr n3 3 (ttF exT3))]),(1002,.map (.si (mpL exT3)))])) () trivial (Le.intro [(201,(201,0,none)),(202,(202,0,none)),(203,(203,0,none)),(1001,(305,0,none))] rfl ?_ rfl ?_ rfl) ?_
 ·exact fc
 ·exact fc
 rintro - -
 repeat (refine sd ?_)
 refine Call.intro h4 [(1000,(1000,0,none)),(1001,(1001,0,none)),(1002,(1002,0,none)),(1005,(305,0,none))] rfl ?_ rfl ?_ rfl ?_
 ·exact fc
 ·exact fc
 rintro v M' ⟨n4,c4,hn4,hc4,rfl,rfl⟩
 have h5:=exC5 n4 hn4
 have h6:=exC6 n4 c4 hn4 hc4
 have ob:=ex_b
 obtain ⟨b1,b2,b3,b4⟩:=ob
 obtain ⟨i1,i2,i3⟩:=ex_i
 unfold buR at h5
 unfold tbM buR at h6
 dsimp only [zt,zM,zE,ren,zz,zx,zy,look,zG,zX,ev,evL,zV,zcT,zcF,act,zP,zO,Ent.zW]
 repeat (refine sd ?_)
 refine Cut.intro (σ:=Unit) (fun _=>True) (fun _=>([(1,.ptr 201 0 none),(2,.ptr 202 0 none),(3,.ptr 203 0 none),(4,.i .i64 0),(5,.isl 0 3 162 [(3 * 162,.arr 3 162 (buF exL))])],[(201,.mem true 0 [(1,.ptr 1000 0 none)]),(202,.mem true 0 (acL exX2 (.isl 0 2 33 [(2 * 33,.arr 2 33 (onF exl))]))),(203,.mem true 0 (acL exY (.isl 0 0 33 [(0 * 33,.arr 0 33 (onF []))]))),
  (1000,.mem true 0 [(1,.sl 1001 0 0 n4 c4),(1,.mp 1002)]),(1001,.mem true (zmE (c4 - n4) 3) [(n4 * 3,.arr n4 3 (ttF exT4))]),(1002,.map (.si (mpL exT4)))])) () trivial (Le.intro [(201,(201,0,none)),(202,(202,0,none)),(203,(203,0,none)),(1001,(305,0,none))] rfl ?_ rfl ?_ rfl) ?_
 ·exact fc
 ·exact fc
 rintro - -
 have q2:(exL.getD (addQ 0 (Ix.lit 2).val) bu0).id = 2:=i1
 have q1:exL.getD (addQ 0 (Ix.lit 1).val) bu0 = exb:=i2
 have q3:(exL[addQ 0 (Ix.lit 2).val]?.getD bu0).id = 2:=by rw [<- List.getD_eq_getElem?_getD];exact q2
 refine Draw.intro [[],[0],[0,1],[0,1,2],[0,1,2,3],[0,1,2,3,4],[0,1,2,3,4,5],[0,1,2,3,4,5,6],[0,1,2,3,4,5,6,7],[0,1,2,3,4,5,6,7,8],[0,1,2,3,4,5,6,7,8,9],[0,1,2,3,4,5,6,7,8,9,10],[0,1,2,3,4,5,6,7,8,9,10,11],[0,1,2,3,4,5,6,7,8,9,10,11,12],[0,1,2,3,4,5,6,7,8,9,10,11,12,13],[0,1,2,3,4,5,6,7,8,9,10,11,12,13,14],[0,1,2,3,4,5,6,7,8,9,10,11,12,13,14],[0,1,2,3,4,5,6,7,8,9,10,11,12,13,14,16],[0,1,2,3,4,5,6,7,8,9,10,11,12,13,14,16,17],[0,1,2,3,4,5,6,7,8,9,10,11,12,13,14,15,16,17,18],[0,1,2,3,4,5,6,7,8,9,10,11,12,13,14,15,16,17,18,19],[0,1,2,3,4,5,6,7,8,9,10,11,12,13,14,15,16,17,18,19,20]] [0,1,2,3,4,5,6,7,8,9,10,11,12,13,14,15,16,17,18,19,20,21] (by kernel_rfl) ?_
 repeat (first | (refine Grow.turn rfl rfl ?_) | (refine zB.intro (fun h=>False.elim (by revert h;first | (simp [q2,q3];done) | fail)) (fun _=>?_)) | (refine zB.intro (fun _=>?_) (fun h=>False.elim (by revert h;first | (simp [q2,q3];done) | fail))) | (refine sd ?_))
 refine Call.intro h5 [(1000,(1000,0,none)),(1001,(1001,0,none)),(1002,(1002,0,none))] rfl ?_ rfl ?_ rfl ?_
 ·repeat' (first | (show zA _;first | exact trivial | refine zA.app ?_ ?_ | refine zA.zd ?_ ?_ | refine zA.cons ?_ ?_) | exact fd | fail)
  all_goals first | exact congrArg Bu.dv q1 | exact congrArg Bu.ag q1 | exact congrArg Bu.sg q1 | exact congrArg Bu.id q1 | exact congrArg Bu.on q1 | exact congrArg Bu.si q1 | exact (congrArg Bu.dv q1).symm | exact (congrArg Bu.ag q1).symm | exact (congrArg Bu.sg q1).symm | exact (congrArg Bu.id q1).symm | exact (congrArg Bu.on q1).symm | exact (congrArg Bu.si q1).symm | trace_state
 ·exact fc
 rintro v M' ⟨rfl,rfl⟩
 dsimp only [zt,zM,zE,ren,zz,zx,zy,look,zG,zX,ev,evL,zV,zcT,zcF,act,zP,zO,Ent.zW]
 repeat (first | (refine Grow.turn rfl rfl ?_) | (refine zB.intro (fun h=>False.elim (by revert h;first | (simp [q2,q3];done) | fail)) (fun _=>?_)) | (refine zB.intro (fun _=>?_) (fun h=>False.elim (by revert h;first | (simp [q2,q3];done) | fail))) | (refine sd ?_))
 refine Cut.intro (σ:=Unit) (fun _=>True) (fun _=>([(1,.ptr 201 0 none),(2,.ptr 202 0 none),(3,.ptr 203 0 none),(5,.isl 0 3 162 [(3 * 162,.arr 3 162 (buF exL))])],[(201,.mem true 0 [(1,.ptr 1000 0 none)]),(202,.mem true 0 (acL exX2 (.isl 0 2 33 [(2 * 33,.arr 2 33 (onF exl))]))),(203,.mem true 0 (acL exY (.isl 0 0 33 [(0 * 33,.arr 0 33 (onF []))]))),
  (1000,.mem true 0 [(1,.sl 1001 0 0 n4 c4),(1,.mp 1002)]),(1001,.mem true (zmE (c4 - n4) 3) [(n4 * 3,.arr n4 3 (ttF exT4))]),(1002,.map (.si (mpL exT4)))])) () trivial (Le.intro [(201,(201,0,none)),(202,(202,0,none)),(203,(203,0,none))] rfl ?_ rfl ?_ rfl) ?_
 ·exact fc
 ·exact fc
 rintro - -
 refine Draw.intro [[],[],[],[2],[2,3],[],[],[0,1,2,3,4,5,6],[0,1,2,3,4,5,6,7],[0,1,2,3,4,5,6,7,8],[0,1,2,3,4,5,6,7,8],[],[0,1,2,3,4,5,6,7,8,9,11],[0,1,2,3,4,5,6,7,8,9,10,11,12]] [0,1,2,3,4,5,6,11,7,8,9,10,12,13] (by kernel_rfl) ?_
 repeat (first | (refine Grow.turn rfl rfl ?_) | (refine zB.intro (fun h=>False.elim (by revert h;first | (simp [q1,q2];done) | fail)) (fun _=>?_)) | (refine zB.intro (fun _=>?_) (fun h=>False.elim (by revert h;first | (simp [q1,q2];done) | fail))) | (refine sd ?_))
 refine Call.intro h6 [(1000,(1000,0,none)),(1001,(1001,0,none)),(1002,(1002,0,none)),(1005,(305,0,none))] rfl ?_ rfl ?_ rfl ?_
 ·repeat' (first | (show zA _;first | exact trivial | refine zA.app ?_ ?_ | refine zA.zd ?_ ?_ | refine zA.cons ?_ ?_) | exact fd | fail)
  all_goals first | exact kb_e _ | exact (kb_e _).symm | exact congrArg Bu.dv q1 | exact congrArg Bu.ag q1 | exact congrArg Bu.sg q1 | exact congrArg Bu.id q1 | exact congrArg Bu.on q1 | exact congrArg Bu.si q1 | trace_state
 ·repeat' (first | (show zA _;first | exact trivial | refine zA.app ?_ ?_ | refine zA.zd ?_ ?_ | refine zA.cons ?_ ?_) | exact fd | fail)
  all_goals first | exact kb_e _ | exact (kb_e _).symm | trace_state
 rintro v M' ⟨n5,c5,hn5,hc5,rfl,rfl⟩
 have h7:=exC7 n5 c5 hn5 hc5
 unfold tbM at h7
 dsimp only [zt,zM,zE,ren,zz,zx,zy,look,zG,zX,ev,evL,zV,zcT,zcF,act,zP,zO,Ent.zW]
 repeat (first | (refine Grow.turn rfl rfl ?_) | (refine zB.intro (fun h=>False.elim (by revert h;first | (simp [q1];done) | fail)) (fun _=>?_)) | (refine zB.intro (fun _=>?_) (fun h=>False.elim (by revert h;first | (simp [q1];done) | fail))) | (refine sd ?_))
 refine Cut.intro (σ:=Unit) (fun _=>True) (fun _=>([(1,.ptr 201 0 none),(2,.ptr 202 0 none),(6,.ptr 206 0 none),(7,.i .i64 0)],[(201,.mem true 0 [(1,.ptr 1000 0 none)]),(202,.mem true 0 (acL exX2 (.isl 0 2 33 [(2 * 33,.arr 2 33 (onF exl))]))),(206,.mem true 0 (seL exa (.isl 0 0 65 [(0 * 65,.arr 0 65 (kpF []))]))),
  (1000,.mem true 0 [(1,.sl 1001 0 0 n5 c5),(1,.mp 1002)]),(1001,.mem true (zmE (c5 - n5) 3) [(n5 * 3,.arr n5 3 (ttF exT5))]),(1002,.map (.si (mpL exT5)))])) () trivial (Le.intro [(201,(201,0,none)),(202,(202,0,none)),(206,(6,0,none)),(1001,(305,0,none))] rfl ?_ rfl ?_ rfl) ?_
 ·exact fc
 ·exact fc
 rintro - -
 repeat (first | (refine Grow.turn rfl rfl ?_) | (refine zB.intro (fun h=>False.elim (by revert h;first | (simp [q1,q2];done) | fail)) (fun _=>?_)) | (refine zB.intro (fun _=>?_) (fun h=>False.elim (by revert h;first | (simp [q1,q2];done) | fail))) | (refine sd ?_))
 refine Call.name [(0,[]),(0,[]),(0,[]),(1,[])] rfl fc (CallP.intro h7 [(1000,(1000,0,none)),(1001,(1001,0,none)),(1002,(1002,0,none)),(1005,(305,0,none)),(1009,(309,0,none))] rfl fc rfl ?_ rfl ?_)
 ·repeat' (first | (show zA _;first | exact trivial | refine zA.app ?_ ?_ | refine zA.zd ?_ ?_ | refine zA.cons ?_ ?_) | exact fd | fail)
  all_goals trace_state
 rintro v M' ⟨n6,c6,k,hn6,hc6,hk,rfl,rfl⟩
 have h8:=exC8 n6 c6 hn6 hc6
 unfold tbM at h8
 dsimp only [zt,zM,zE,ren,zz,zx,zy,look,zG,zX,ev,evL,zV,zcT,zcF,act,zP,zO,Ent.zW]
 repeat (first | (refine Grow.turn rfl rfl ?_) | (refine zB.intro (fun h=>False.elim (by revert h;first | (simp [q1];done) | fail)) (fun _=>?_)) | (refine zB.intro (fun _=>?_) (fun h=>False.elim (by revert h;first | (simp [q1];done) | fail))) | (refine sd ?_))
 refine Cut.intro (σ:=Unit) (fun _=>True) (fun _=>([(1,.ptr 201 0 none),(2,.ptr 202 0 none),(6,.ptr 206 0 none),(7,.i .i64 0),(8,.ptr 208 0 none),(9,.sl 309 0 0 k k),(10,.i .i64 0)],[(201,.mem true 0 [(1,.ptr 1000 0 none)]),(202,.mem true 0 (acL exX2 (.isl 0 2 33 [(2 * 33,.arr 2 33 (onF exl))]))),(206,.mem true 0 (seL exQ.2.1 (.isl 0 0 65 [(0 * 65,.arr 0 65 (kpF []))]))),(208,.mem true 0 (hdR exh)),(309,.mem true 0 [(k,.a8 exB)]),(1000,.mem true 0 [(1,.sl 1001 0 0 n6 c6),(1,.mp 1002)]),(1001,.mem true (zmE (c6 - n6) 3) [(n6 * 3,.arr n6 3 (ttF exT6))]),(1002,.map (.si (mpL exT6)))])) () trivial (Le.intro [(201,(201,0,none)),(202,(202,0,none)),(206,(206,0,none)),(208,(8,0,none)),(309,(309,0,none)),(1001,(305,0,none))] rfl ?_ rfl ?_ rfl) ?_
 ·exact fc
 ·exact fc
 rintro - -
 repeat (first | (refine Grow.turn rfl rfl ?_) | (refine zB.intro (fun h=>False.elim (by revert h;first | (simp [q1];done) | fail)) (fun _=>?_)) | (refine zB.intro (fun _=>?_) (fun h=>False.elim (by revert h;first | (simp [q1];done) | fail))) | (refine sd ?_))
 refine Call.intro h8 [(1000,(1000,0,none)),(1001,(1001,0,none)),(1002,(1002,0,none)),(1005,(305,0,none))] rfl ?_ rfl ?_ rfl ?_
 ·repeat' (first | (show zA _;first | exact trivial | refine zA.app ?_ ?_ | refine zA.zd ?_ ?_ | refine zA.cons ?_ ?_) | exact fd | fail)
  all_goals trace_state
 ·repeat' (first | (show zA _;first | exact trivial | refine zA.app ?_ ?_ | refine zA.zd ?_ ?_ | refine zA.cons ?_ ?_) | exact fd | fail)
  all_goals trace_state
 rintro v M' ⟨n7,c7,hn7,hc7,rfl,rfl⟩
 have h9:=exC9 n7 c7 hn7 hc7 k hk
 unfold tbM hdV at h9
 dsimp only [zt,zM,zE,ren,zz,zx,zy,look,zG,zX,ev,evL,zV,zcT,zcF,act,zP,zO,Ent.zW]
 repeat (first | (refine Grow.turn rfl rfl ?_) | (refine zB.intro (fun h=>False.elim (by revert h;first | (simp [q1];done) | fail)) (fun _=>?_)) | (refine zB.intro (fun _=>?_) (fun h=>False.elim (by revert h;first | (simp [q1];done) | fail))) | (refine sd ?_))
 refine Cut.intro (σ:=Unit) (fun _=>True) (fun _=>([(1,.ptr 201 0 none),(2,.ptr 202 0 none),(6,.ptr 206 0 none),(7,.i .i64 0),(8,.ptr 208 0 none),(9,.sl 309 0 0 k k),(10,.i .i64 0),(11,.ptr 211 0 none),(12,.i .i64 0)],[(201,.mem true 0 [(1,.ptr 1000 0 none)]),(202,.mem true 0 (acL exX2 (.isl 0 1 33 [(1 * 33,.arr 1 33 (onF (exl.take 0 ++ exl.drop 1)))]))),(206,.mem true 0 (seL exQ.2.1 (.isl 0 0 65 [(0 * 65,.arr 0 65 (kpF []))]))),(208,.mem true 0 (hdR exh)),(309,.mem true 0 [(k,.a8 exB)]),(211,.mem true 0 (seL exk (.isl 0 0 65 [(0 * 65,.arr 0 65 (kpF []))]))),(1000,.mem true 0 [(1,.sl 1001 0 0 n7 c7),(1,.mp 1002)]),(1001,.mem true (zmE (c7 - n7) 3) [(n7 * 3,.arr n7 3 (ttF exT7))]),(1002,.map (.si (mpL exT7)))])) () trivial (Le.intro [(201,(201,0,none)),(202,(202,0,none)),(206,(206,0,none)),(208,(208,0,none)),(309,(309,0,none)),(211,(11,0,none)),(1001,(305,0,none))] rfl ?_ rfl ?_ rfl) ?_
 ·exact fc
 ·exact fc
 rintro - -
 repeat (first | (refine Grow.turn rfl rfl ?_) | (refine zB.intro (fun h=>False.elim (by revert h;first | (simp [q1];done) | fail)) (fun _=>?_)) | (refine zB.intro (fun _=>?_) (fun h=>False.elim (by revert h;first | (simp [q1];done) | fail))) | (refine sd ?_))
 refine Call.name [(0,[]),(0,[]),(0,[]),(2005,[])] rfl fc (CallP.intro h9 [(1000,(1000,0,none)),(1001,(1001,0,none)),(1002,(1002,0,none)),(1003,(2005,0,none)),(1005,(305,0,none))] rfl fc rfl ?_ rfl ?_)
 ·repeat' (first | (show zA _;first | exact trivial | refine zA.app ?_ ?_ | refine zA.zd ?_ ?_ | refine zA.cons ?_ ?_) | exact fd | fail)
  all_goals trace_state
 rintro v M' ⟨xb,n8,c8,le,Ne,me,hn8,hc8,hxb,rfl,rfl⟩
 have h10:=exC10 n8 c8 hn8 hc8
 unfold tbM hdV at h10
 obtain ⟨u1,u2,u3,u4,u5,u6,u7,u8,u9,u10⟩:=hxb
 dsimp only [zt,zM,zE,ren,zz,zx,zy,look,zG,zX,ev,evL,zV,zcT,zcF,act,zP,zO,Ent.zW]
 repeat (first | (refine Grow.turn rfl rfl ?_) | (refine zB.intro (fun h=>False.elim (by revert h;first | (simp [q1];done) | fail)) (fun _=>?_)) | (refine zB.intro (fun _=>?_) (fun h=>False.elim (by revert h;first | (simp [q1];done) | fail))) | (refine sd ?_))
 refine Cut.intro (σ:=Unit) (fun _=>True) (fun _=>([(1,.ptr 201 0 none),(2,.ptr 202 0 none),(6,.ptr 206 0 none),(7,.i .i64 0),(8,.ptr 208 0 none),(10,.i .i64 0),(12,.i .i64 0),(14,.isl 0 2 1 [(2,.a8 exp)]),(15,.i .i64 0)],[(201,.mem true 0 [(1,.ptr 1000 0 none)]),(202,.mem true 0 (acL exX2 (.isl 0 1 33 [(1 * 33,.arr 1 33 (onF (exl.take 0 ++ exl.drop 1)))]))),(206,.mem true 0 (seL exQ.2.1 (.isl 0 0 65 [(0 * 65,.arr 0 65 (kpF []))]))),(208,.mem true 0 (hdR exh)),(1000,.mem true 0 [(1,.sl 1001 0 0 n8 c8),(1,.mp 1002)]),(1001,.mem true (zmE (c8 - n8) 3) [(n8 * 3,.arr n8 3 (ttF exT7))]),(1002,.map (.si (mpL exT7)))])) () trivial (Le.intro [(201,(201,0,none)),(202,(202,0,none)),(206,(206,0,none)),(208,(208,0,none)),(1001,(305,0,none))] rfl ?_ rfl ?_ rfl) ?_
 ·exact fc
 ·exact fc
 rintro - -
 repeat (first | (refine Grow.turn rfl rfl ?_) | (refine zB.intro (fun h=>False.elim (by revert h;first | (simp [q1];done) | fail)) (fun _=>?_)) | (refine zB.intro (fun _=>?_) (fun h=>False.elim (by revert h;first | (simp [q1];done) | fail))) | (refine sd ?_))
 refine Call.intro h10 [(1000,(1000,0,none)),(1001,(1001,0,none)),(1002,(1002,0,none)),(1005,(305,0,none))] rfl ?_ rfl ?_ rfl ?_
 ·repeat' (first | (show zA _;first | exact trivial | refine zA.app ?_ ?_ | refine zA.zd ?_ ?_ | refine zA.cons ?_ ?_) | exact fd | fail)
  all_goals trace_state
 ·repeat' (first | (show zA _;first | exact trivial | refine zA.app ?_ ?_ | refine zA.zd ?_ ?_ | refine zA.cons ?_ ?_) | exact fd | fail)
  all_goals trace_state
 rintro v M' ⟨rfl,rfl⟩
 dsimp only [zt,zM,zE,ren,zz,zx,zy,look,zG,zX,ev,evL,zV,zcT,zcF,act,zP,zO,Ent.zW]
 repeat (first | (refine Grow.turn rfl rfl ?_) | (refine zB.intro (fun h=>False.elim (by revert h;first | (simp [q1];done) | fail)) (fun _=>?_)) | (refine zB.intro (fun _=>?_) (fun h=>False.elim (by revert h;first | (simp [q1];done) | fail))) | (refine sd ?_))
 refine Cut.intro (σ:=Unit) (fun _=>True) (fun _=>([(6,.ptr 206 0 none),(7,.i .i64 0),(10,.i .i64 0),(12,.i .i64 0),(14,.isl 0 2 1 [(2,.a8 exp)]),(15,.i .i64 0),(18,.i .i64 190)],[(206,.mem true 0 (seL exQ.2.1 (.isl 0 0 65 [(0 * 65,.arr 0 65 (kpF []))])))])) () trivial (Le.intro [(206,(206,0,none))] rfl ?_ rfl ?_ rfl) ?_
 ·exact fc
 ·exact fc
 rintro - -
 have q4:=ex_f
 repeat (first | (refine Grow.turn rfl rfl ?_) | (refine zB.intro (fun h=>False.elim (by revert h;first | (simp [q4];done) | fail)) (fun _=>?_)) | (refine zB.intro (fun _=>?_) (fun h=>False.elim (by revert h;first | (simp [q4];done) | fail))) | (refine sd ?_))
 refine Ret.intro .tt [] [] rfl ?_ rfl rfl ?_ rfl ?_ rfl
 ·repeat' (first | (show zA _;first | exact trivial | refine zA.app ?_ ?_ | refine zA.zd ?_ ?_ | refine zA.cons ?_ ?_) | exact fd | fail)
  all_goals first | exact q4 | trace_state
 ·exact fc
 ·repeat' (first | (show zA _;first | exact trivial | refine zA.app ?_ ?_ | refine zA.zd ?_ ?_ | refine zA.cons ?_ ?_) | exact fd | fail)
  all_goals first | exact q4 | trace_state
end Go.Proofs.YtfnmgbillkiabaaGreat
