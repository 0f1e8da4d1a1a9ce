/- What the functions of the program compute. No condition. -/
import Derived.Test.YtfnmgbillkiabaaGreatHwRa4ToRa4
import Derived.Test.YtfnmgbillkiabaaGreatHwRa8ToRc4
set_option linter.unusedSimpArgs false
set_option linter.unusedVariables false
set_option maxRecDepth 100000
namespace Go.Proofs.YtfnmgbillkiabaaGreat
open Go Go.Sx
set_option maxHeartbeats 4000000 in
theorem fn42 (h:Hd) (hh:h.OK) (m:Nat) (hm:(hdB h).length = m):Sx.Fn Γ.P 42 [hdV h] []
  (fun v M=>(¬ hdG h/\v = .tup [.nsl,.ff]/\M = []) \/ (hdG h/\v = .tup [.isl 0 m 1 [(m,.a8 (hdB h))],.tt]/\M = [])):=by
 have hJ:=(hdP_ok hh).1
 have hAll:=fnAllI (hdP h) 9 m rfl (by omega) (fun y hy=>by have:=(hdP_ok hh).2 y hy;omega) hJ (by rw [<- hdB_eq];exact hm)
 rw [<- hdB_eq] at hAll
 unfold rwS at hAll
 obtain ⟨h1,h2,h3,h4,h5⟩:=hh
 refine fn_cut [6] (Γ:=Γ) (fn:=Tryz.f42) rfl rfl rfl rfl ?_
 repeat (refine sd ?_)
 by_cases c0:h.fi = true
 ·have hG:hdG h:=Or.inl c0
  have hfp:(hdP h).getD 1 [] = [UInt8.ofNat 1]:=by show putB (if h.fi = true then 1 else 0) 1 = _;rw [if_pos c0];rfl
  repeat (first | (refine ky0 ?_) | (refine kn0 ?_) | (refine ky ?_) | (refine kn ?_) | (refine zB.intro (fun hn=>(by with_reducible exact absurd c0 hn)) (fun _=>?_)) | (refine sd ?_))
  refine Cut.intro (σ:=Unit) (fun _=>True) (fun _=>([(1,.iep 0 0 1 [(32,.a8 h.ss),(1,.bool (h.fi = true)),(32,.a8 h.ag),(32,.a8 h.sg),(32,.a8 h.ba),(1,.u16 h.id),(32,.a8 h.ra),(1,.u16 h.n),(1,.u16 h.pv)]),(4,.u8 (UInt8.ofNat 1))],[])) () trivial (Le.ghost [.keep 1] [(1,0)] [] rfl ?_ rfl rfl ?_ rfl ?_ rfl) ?_
  ·exact fc
  ·exact fc
  ·exact fc
  rintro - -
  refine Draw.intro [[],[0],[],[2],[],[4],[],[6],[],[8],[],[10],[10,11],[10,11,12],[],[14],[],[16],[16,17],[10,11,12,13,16,17,18],[],[20],[20,21],[10,11,12,13,16,17,18,19,20,21,22],[0,1,2,3,4,5,6,7,8,9,10,11,12,13,14,15,16,17,18,19,20,21,22,23],[0,1,2,3,4,5,6,7,8,9,10,11,12,13,14,15,16,17,18,19,20,21,22,23,24],[0,1,2,3,4,5,6,7,8,9,10,11,12,13,14,15,16,17,18,19,20,21,22,23,24,25],[0,1,2,3,4,5,6,7,8,9,10,11,12,13,14,15,16,17,18,19,20,21,22,23,24,25,26]] [0,1,2,3,4,5,6,7,8,9,10,11,12,14,15,16,17,18,20,21,22,13,19,23,24,25,26,27] (by kernel_rfl) ?_
  repeat (first | (refine Grow.auto rfl rfl ?_) | (refine sd ?_))
  refine Call.intro (fnNumI h.id) [] rfl ?_ rfl ?_ rfl ?_
  ·exact fc
  ·exact fc
  rintro v M' ⟨rfl,rfl⟩
  dsimp only [zt,zM,zE,ren,zz,zx,zy,look,zG,zX,ev,evL,zV,zcT,zcF,act,zP,zO,Ent.zW]
  repeat (first | (refine Grow.auto rfl rfl ?_) | (refine sd ?_))
  refine Call.intro (fnNumI h.n) [] rfl ?_ rfl ?_ rfl ?_
  ·exact fc
  ·exact fc
  rintro v M' ⟨rfl,rfl⟩
  dsimp only [zt,zM,zE,ren,zz,zx,zy,look,zG,zX,ev,evL,zV,zcT,zcF,act,zP,zO,Ent.zW]
  repeat (first | (refine Grow.auto rfl rfl ?_) | (refine sd ?_))
  refine Call.intro (fnNumI h.pv) [] rfl ?_ rfl ?_ rfl ?_
  ·exact fc
  ·exact fc
  rintro v M' ⟨rfl,rfl⟩
  dsimp only [zt,zM,zE,ren,zz,zx,zy,look,zG,zX,ev,evL,zV,zcT,zcF,act,zP,zO,Ent.zW]
  repeat (first | (refine Grow.auto rfl rfl ?_) | (refine sd ?_))
  refine Call.name [(2001,[])] rfl ?_ (CallP.intro hAll [(1003,(2001,0,none))] rfl ?_ rfl ?_ rfl ?_)
  ·exact fc
  ·exact fc
  ·repeat' (first | (show zA _;first | exact trivial | refine zA.app ?_ ?_ | refine zA.zd ?_ ?_ | refine zA.cons ?_ ?_) | exact fd | fail)
   all_goals first | exact rwK rfl h1 | exact rwK rfl h2 | exact rwK rfl h3 | exact rwK rfl h4 | exact rwK rfl h5 | exact rwK rfl (putB_length _ _) | exact rwK hfp rfl
  rintro v M' ⟨rfl,rfl⟩
  dsimp only [zt,zM,zE,ren,zz,zx,zy,look,zG,zX,ev,evL,zV,zcT,zcF,act,zP,zO,Ent.zW]
  repeat (first | (refine Grow.auto rfl rfl ?_) | (refine sd ?_))
  refine Ret.intro (.tup [.isl 0 m 1 [(m,.a8 (hdB h))],.tt]) [] [] rfl ?_ (Or.inr ⟨hG,rfl,rfl⟩) rfl ?_ rfl ?_ rfl
  ·exact fc
  ·exact fc
  ·exact fc
 have hfp:(hdP h).getD 1 [] = [UInt8.ofNat 0]:=by show putB (if h.fi = true then 1 else 0) 1 = _;rw [if_neg c0];rfl
 have g0:hdG h ↔ (h.ag = List.replicate 32 0/\h.sg = List.replicate 32 0/\h.ba = List.replicate 32 0/\h.id = 0):=⟨fun g=>g.resolve_left c0,Or.inr⟩
 by_cases c1:h.ag = List.replicate 32 0
 rotate_left
 ·repeat (first | (refine ky0 ?_) | (refine kn0 ?_) | (refine ky ?_) | (refine kn ?_) | (refine zB.intro (fun hn=>(by with_reducible exact absurd c0 hn)) (fun _=>?_)) | (refine zB.intro (fun hn=>(by with_reducible exact absurd c1 hn)) (fun _=>?_)) | (refine sd ?_))
  refine Ret.intro (.tup [.nsl,.ff]) [] [] rfl ?_ (Or.inl ⟨fun g=>c1 (g0.1 g).1,rfl,rfl⟩) rfl ?_ rfl ?_ rfl
  ·exact fc
  ·exact fc
  ·exact fc
 by_cases c2:h.sg = List.replicate 32 0
 rotate_left
 ·repeat (first | (refine ky0 ?_) | (refine kn0 ?_) | (refine ky ?_) | (refine kn ?_) | (refine zB.intro (fun hn=>(by with_reducible exact absurd c0 hn)) (fun _=>?_)) | (refine zB.intro (fun hn=>(by with_reducible exact absurd c1 hn)) (fun _=>?_)) | (refine zB.intro (fun hn=>(by with_reducible exact absurd c2 hn)) (fun _=>?_)) | (refine sd ?_))
  refine Ret.intro (.tup [.nsl,.ff]) [] [] rfl ?_ (Or.inl ⟨fun g=>c2 (g0.1 g).2.1,rfl,rfl⟩) rfl ?_ rfl ?_ rfl
  ·exact fc
  ·exact fc
  ·exact fc
 by_cases c3:h.ba = List.replicate 32 0
 rotate_left
 ·repeat (first | (refine ky0 ?_) | (refine kn0 ?_) | (refine ky ?_) | (refine kn ?_) | (refine zB.intro (fun hn=>(by with_reducible exact absurd c0 hn)) (fun _=>?_)) | (refine zB.intro (fun hn=>(by with_reducible exact absurd c1 hn)) (fun _=>?_)) | (refine zB.intro (fun hn=>(by with_reducible exact absurd c2 hn)) (fun _=>?_)) | (refine zB.intro (fun hn=>(by with_reducible exact absurd c3 hn)) (fun _=>?_)) | (refine sd ?_))
  refine Ret.intro (.tup [.nsl,.ff]) [] [] rfl ?_ (Or.inl ⟨fun g=>c3 (g0.1 g).2.2.1,rfl,rfl⟩) rfl ?_ rfl ?_ rfl
  ·exact fc
  ·exact fc
  ·exact fc
 by_cases c4:h.id = 0
 rotate_left
 ·have c5:h.id > 0:=by
   have:h.id.toNat ≠ 0:=fun e=>c4 (UInt16.toNat_inj.1 e)
   show (0:UInt16).toNat < h.id.toNat
   exact Nat.pos_of_ne_zero this
  repeat (first | (refine ky0 ?_) | (refine kn0 ?_) | (refine ky ?_) | (refine kn ?_) | (refine zB.intro (fun hn=>(by with_reducible exact absurd c0 hn)) (fun _=>?_)) | (refine zB.intro (fun hn=>(by with_reducible exact absurd c1 hn)) (fun _=>?_)) | (refine zB.intro (fun hn=>(by with_reducible exact absurd c2 hn)) (fun _=>?_)) | (refine zB.intro (fun hn=>(by with_reducible exact absurd c3 hn)) (fun _=>?_)) | (refine sd ?_))
  refine zB.intro (fun _=>?_) (fun hn=>absurd c5 hn)
  repeat (refine sd ?_)
  refine Ret.intro (.tup [.nsl,.ff]) [] [] rfl ?_ (Or.inl ⟨fun g=>c4 (g0.1 g).2.2.2,rfl,rfl⟩) rfl ?_ rfl ?_ rfl
  ·exact fc
  ·exact fc
  ·exact fc
 have hG:hdG h:=g0.2 ⟨c1,c2,c3,c4⟩
 have c5:¬ h.id > 0:=by rw [c4];decide
 repeat (first | (refine ky0 ?_) | (refine kn0 ?_) | (refine ky ?_) | (refine kn ?_) | (refine zB.intro (fun hn=>(by with_reducible exact absurd c0 hn)) (fun _=>?_)) | (refine zB.intro (fun hn=>(by with_reducible exact absurd c1 hn)) (fun _=>?_)) | (refine zB.intro (fun hn=>(by with_reducible exact absurd c2 hn)) (fun _=>?_)) | (refine zB.intro (fun hn=>(by with_reducible exact absurd c3 hn)) (fun _=>?_)) | (refine sd ?_))
 refine zB.intro (fun hn=>absurd hn c5) (fun _=>?_)
 refine Cut.intro (σ:=Unit) (fun _=>True) (fun _=>([(1,.iep 0 0 1 [(32,.a8 h.ss),(1,.bool (h.fi = true)),(32,.a8 h.ag),(32,.a8 h.sg),(32,.a8 h.ba),(1,.u16 h.id),(32,.a8 h.ra),(1,.u16 h.n),(1,.u16 h.pv)]),(4,.u8 (UInt8.ofNat 0))],[])) () trivial (Le.ghost [.keep 1] [(1,0)] [] rfl ?_ rfl rfl ?_ rfl ?_ rfl) ?_
 ·exact fc
 ·exact fc
 ·exact fc
 rintro - -
 refine Draw.intro [[],[0],[],[2],[],[4],[],[6],[],[8],[],[10],[10,11],[10,11,12],[],[14],[],[16],[16,17],[10,11,12,13,16,17,18],[],[20],[20,21],[10,11,12,13,16,17,18,19,20,21,22],[0,1,2,3,4,5,6,7,8,9,10,11,12,13,14,15,16,17,18,19,20,21,22,23],[0,1,2,3,4,5,6,7,8,9,10,11,12,13,14,15,16,17,18,19,20,21,22,23,24],[0,1,2,3,4,5,6,7,8,9,10,11,12,13,14,15,16,17,18,19,20,21,22,23,24,25],[0,1,2,3,4,5,6,7,8,9,10,11,12,13,14,15,16,17,18,19,20,21,22,23,24,25,26]] [0,1,2,3,4,5,6,7,8,9,10,11,12,14,15,16,17,18,20,21,22,13,19,23,24,25,26,27] (by kernel_rfl) ?_
 repeat (first | (refine Grow.auto rfl rfl ?_) | (refine sd ?_))
 refine Call.intro (fnNumI h.id) [] rfl ?_ rfl ?_ rfl ?_
 ·exact fc
 ·exact fc
 rintro v M' ⟨rfl,rfl⟩
 dsimp only [zt,zM,zE,ren,zz,zx,zy,look,zG,zX,ev,evL,zV,zcT,zcF,act,zP,zO,Ent.zW]
 repeat (first | (refine Grow.auto rfl rfl ?_) | (refine sd ?_))
 refine Call.intro (fnNumI h.n) [] rfl ?_ rfl ?_ rfl ?_
 ·exact fc
 ·exact fc
 rintro v M' ⟨rfl,rfl⟩
 dsimp only [zt,zM,zE,ren,zz,zx,zy,look,zG,zX,ev,evL,zV,zcT,zcF,act,zP,zO,Ent.zW]
 repeat (first | (refine Grow.auto rfl rfl ?_) | (refine sd ?_))
 refine Call.intro (fnNumI h.pv) [] rfl ?_ rfl ?_ rfl ?_
 ·exact fc
 ·exact fc
 rintro v M' ⟨rfl,rfl⟩
 dsimp only [zt,zM,zE,ren,zz,zx,zy,look,zG,zX,ev,evL,zV,zcT,zcF,act,zP,zO,Ent.zW]
 repeat (first | (refine Grow.auto rfl rfl ?_) | (refine sd ?_))
 refine Call.name [(2001,[])] rfl ?_ (CallP.intro hAll [(1003,(2001,0,none))] rfl ?_ rfl ?_ rfl ?_)
 ·exact fc
 ·exact fc
 ·repeat' (first | (show zA _;first | exact trivial | refine zA.app ?_ ?_ | refine zA.zd ?_ ?_ | refine zA.cons ?_ ?_) | exact fd | fail)
  all_goals first | exact rwK rfl h1 | exact rwK rfl h2 | exact rwK rfl h3 | exact rwK rfl h4 | exact rwK rfl h5 | exact rwK rfl (putB_length _ _) | exact rwK hfp rfl
 rintro v M' ⟨rfl,rfl⟩
 dsimp only [zt,zM,zE,ren,zz,zx,zy,look,zG,zX,ev,evL,zV,zcT,zcF,act,zP,zO,Ent.zW]
 repeat (first | (refine Grow.auto rfl rfl ?_) | (refine sd ?_))
 refine Ret.intro (.tup [.isl 0 m 1 [(m,.a8 (hdB h))],.tt]) [] [] rfl ?_ (Or.inr ⟨hG,rfl,rfl⟩) rfl ?_ rfl ?_ rfl
 ·exact fc
 ·exact fc
 ·exact fc
theorem tuK_length (T:List Te) (x:Se):(tuK T x).length = 32:=zk _
theorem tuR_length (T:List Te) (x:Se):(tuR T x).length = 32:=zk _
theorem tuT_valid {T:List Te} (hTv:∀ y ∈ T,Valid y.1 y.2) {x:Se} (hm:x.mine.length = 32) (ht:x.th.length = 32):∀ y ∈ tuT T x,Valid y.1 y.2:=
 roT_valid (tuA_info hTv hm ht).1 _ _
theorem tuT_len {T:List Te} (hTv:∀ y ∈ T,Valid y.1 y.2) {x:Se} (hm:x.mine.length = 32) (ht:x.th.length = 32):(tuT T x).length <= T.length + 3:=by
 have h1:=(tuA_info hTv hm ht).2
 have h2:=(roT_len (tuA T x).1 x.root (kyB (tuA T x).2)).2
 unfold tuT;omega
theorem zlz:z32.length = 32:=List.length_replicate
end Go.Proofs.YtfnmgbillkiabaaGreat
