/- What the functions of the program compute. No condition. -/
import Derived.Test.YtlbmkjckbfeejaaHwSs7ToSs7
set_option linter.unusedSimpArgs false
set_option linter.unusedVariables false
namespace Go.Proofs.Ytlbmkjckbfeejaa
open Go Go.Sx
theorem fnSameB (x y:List UInt8) (n m:Nat) (hx:x.length = n) (hy:y.length = m):Sx.Fn Γ.P 11 [.isl 0 n 1 [(n,.a8 x)],.isl 0 m 1 [(m,.a8 y)]] [] (fun v M=>v = .bool (x = y)∧M = []):=by
 have h:=fn11 x y
 rw [hx,hy,Nat.mul_one,Nat.mul_one] at h
 exact h
set_option maxRecDepth 100000 in
theorem fnBytesM (x y:List UInt8) (n m:Nat) (hx:x.length = n) (hy:y.length = m):Sx.Fn Γ.P 11 [.slx 1003 0 0 n,.isl 0 m 1 [(m,.a8 y)]] [(1003,.mem false 0 [(n,.a8 x)])] (fun v M=>v = .bool (x = y)∧M = [(1003,.mem false 0 [(n,.a8 x)])]):=by
 refine fn_of (Γ:=Γ) (fn:=Try.f11) rfl rfl rfl rfl ?_
 repeat (refine sd ?_)
 have hx':x.take n = x:=List.take_of_length_le (by omega)
 have hy':y.take m = y:=List.take_of_length_le (by omega)
 refine Ret.intro (.bool (x = y)) [(1003,.mem false 0 [(n,.a8 x)])] [] rfl ?_ ⟨rfl,rfl⟩ rfl ?_ rfl ?_ rfl
 ·exact fc
 ·repeat' (first | (show AllP _;first | exact trivial | refine AllP.app ?_ ?_ | refine AllP.appd ?_ ?_ | refine AllP.cons ?_ ?_) | with_reducible rfl | with_reducible assumption | omega | (simp only [rng,Ix.val,addQ_eq,addI,sz3,by3,sz4,by4,sz5,by5,sz22,by22,sz23,by23,sz25,by25,sz26,by26,sz27,by27,sz32,by32,sz33,by33,sz40,by40,sz42,by42,sz51,by51,sz68,by68] <;> omega) | (simp only [rng,Ix.val,Int.toNat_natCast,mulE_eq,addQ_eq,addI,Option.getD_none,Option.getD_some,List.length_take,List.length_drop,List.length_append,List.length_set,List.length_replicate,sz3,by3,sz4,by4,sz5,by5,sz22,by22,sz23,by23,sz25,by25,sz26,by26,sz27,by27,sz32,by32,sz33,by33,sz40,by40,sz42,by42,sz51,by51,sz68,by68, *] <;> omega) | (simp only [Ix.val];with_reducible assumption) | exact UInt8.toNat_lt _ | (apply Eq.trans;(with_reducible assumption);exact rfl) | exact rfl | exact fun _ _=>rfl)
  show x = y ↔ x.take n = y.take m
  rw [hx',hy']
 ·exact fc
set_option maxRecDepth 100000 in
set_option maxHeartbeats 1000000 in
theorem suiteSealsR (P:Prop) (hP:¬ P) (key plain:List UInt8) (n:Nat) (hk:key.length = 32) (hn:plain.length = n) (hn1:n ≤ 1024):Sx.Fn Γ.P 3 [.bool P,.a8 key,.isl 0 n 1 [(n,.a8 plain)]] [] (fun v _=>v = .tt):=by
 obtain ⟨m,hm⟩:∃ m,n / 16 * 16 + 32 = m:=⟨_,rfl⟩
 obtain ⟨B,hB⟩:∃ B,seB key plain = B:=⟨_,rfl⟩
 have hBl:B.length = m:=by rw [← hB,seB_length hn,hm]
 have hS:=fnSealR key plain n hk hn
 have hW:=fnRSealR key plain n hk hn
 have hO:=fnOpenR key plain n m hk hn hn1 hm
 rw [seS_ok (by omega),hB,eq_true hn1] at hS hW
 rw [hB] at hO
 have hE:=fnSameB B B m m hBl hBl
 have hSz:=fn12 (n:Int)
 rw [sizS_ok (by omega) (by omega),show (n:Int) / 16 * 16 + 32 = (m:Int) by omega] at hSz
 refine fn_of (Γ:=Γ) (fn:=Try.f3) rfl rfl rfl rfl ?_
 repeat (refine sd ?_)
 refine Call.intro fn6 [] rfl trivial rfl trivial rfl ?_
 rintro v M' rfl
 dsimp only [putT,afterM,newEnt,ren,renA,renS,renL,look,getM,getT,ev,evL,ofVal,cond_true,cond_false,Nat.beq_eq,act,isPar,ownPar,Ent.isOwn]
 repeat (first | (refine Branch.intro (fun _=>?_) (fun hn=>absurd rfl hn)) | (refine Branch.intro (fun hn=>(by with_reducible exact False.elim hn)) (fun _=>?_)) | (refine Branch.intro (fun _=>?_) (fun hn=>(by with_reducible exact absurd trivial hn))) | (refine Branch.intro (fun hn=>(by with_reducible exact absurd trivial hn)) (fun _=>?_)) | (refine Branch.intro (fun hn=>(by with_reducible exact absurd rfl hn)) (fun _=>?_)) | (refine Branch.intro (fun _=>?_) (fun hn=>(by with_reducible exact absurd Iff.rfl hn))) | (refine Branch.intro (fun hn=>(by with_reducible exact absurd Iff.rfl hn)) (fun _=>?_)) | (refine sd ?_))
 refine Branch.intro (fun hc=>?_) (fun hc=>?_)
 ·repeat (refine sd ?_)
  refine Ret.intro .tt [] [] rfl ?_ rfl rfl ?_ rfl ?_ rfl
  ·exact fc
  ·exact fc
  ·exact fc
 have hc:¬ (n:Int) > 5000:=hc
 repeat (refine sd ?_)
 refine Call.intro fnSuiteR [] rfl ?_ rfl ?_ rfl ?_
 ·exact fc
 ·exact fc
 rintro v M' ⟨rfl,rfl⟩
 dsimp only [putT,afterM,newEnt,ren,renA,renS,renL,look,getM,getT,ev,evL,ofVal,cond_true,cond_false,Nat.beq_eq,act,isPar,ownPar,Ent.isOwn]
 repeat (refine sd ?_)
 refine Call.name [(0,[]),(0,[]),(2001,[])] rfl ?_ (CallP.intro hS [(1003,(2001,0,none)),(1006,(306,0,none))] rfl ?_ rfl ?_ rfl ?_)
 ·exact fc
 ·exact fc
 ·exact fc
 rintro v M' ⟨m1,c1,hm1,hc1,rfl,rfl⟩
 obtain rfl:m = m1:=by rw [← hm1,hBl]
 dsimp only [putT,afterM,newEnt,ren,renA,renS,renL,look,getM,getT,ev,evL,ofVal,cond_true,cond_false,Nat.beq_eq,act,isPar,ownPar,Ent.isOwn]
 repeat (refine sd ?_)
 refine Draw.intro [[],[0],[],[],[0,1,2,3],[0,1,2,3,4],[0,1,2,3,4,5],[0,1,2,3,4,5],[0,1,2,3,4,5,6],[0,1,2,3,4,5,6,7,8]] [0,2,3,1,4,5,6,7,8,9] (by kernel_rfl) ?_
 repeat (refine sd ?_)
 refine Call.intro fnRefR [] rfl ?_ rfl ?_ rfl ?_
 ·exact fc
 ·exact fc
 rintro v M' ⟨rfl,rfl⟩
 dsimp only [putT,afterM,newEnt,ren,renA,renS,renL,look,getM,getT,ev,evL,ofVal,cond_true,cond_false,Nat.beq_eq,act,isPar,ownPar,Ent.isOwn]
 refine Grow.auto rfl rfl ?_
 repeat (refine sd ?_)
 refine Call.name [(0,[]),(0,[]),(2002,[])] rfl ?_ (CallP.intro hW [(1003,(2002,0,none)),(1006,(406,0,none))] rfl ?_ rfl ?_ rfl ?_)
 ·exact fc
 ·exact fc
 ·exact fc
 rintro v M' ⟨m2,c2,hm2,hc2,rfl,rfl⟩
 obtain rfl:m = m2:=by rw [← hm2,hBl]
 dsimp only [putT,afterM,newEnt,ren,renA,renS,renL,look,getM,getT,ev,evL,ofVal,cond_true,cond_false,Nat.beq_eq,act,isPar,ownPar,Ent.isOwn]
 repeat (refine sd ?_)
 repeat (first | (refine Branch.intro (fun _=>?_) (fun hn=>absurd rfl hn)) | (refine Branch.intro (fun hn=>(by with_reducible exact False.elim hn)) (fun _=>?_)) | (refine Branch.intro (fun _=>?_) (fun hn=>(by with_reducible exact absurd trivial hn))) | (refine Branch.intro (fun hn=>(by with_reducible exact absurd trivial hn)) (fun _=>?_)) | (refine Branch.intro (fun hn=>(by with_reducible exact absurd rfl hn)) (fun _=>?_)) | (refine Branch.intro (fun _=>?_) (fun hn=>(by with_reducible exact absurd Iff.rfl hn))) | (refine Branch.intro (fun hn=>(by with_reducible exact absurd Iff.rfl hn)) (fun _=>?_)) | (refine sd ?_))
 refine Call.name [(1,[]),(1,[])] rfl ?_ (CallP.intro hE [] rfl ?_ rfl ?_ rfl ?_)
 ·exact fc
 ·exact fc
 ·exact fc
 rintro v M' ⟨rfl,rfl⟩
 dsimp only [putT,afterM,newEnt,ren,renA,renS,renL,look,getM,getT,ev,evL,ofVal,cond_true,cond_false,Nat.beq_eq,act,isPar,ownPar,Ent.isOwn]
 repeat (first | (refine Branch.intro (fun _=>?_) (fun hn=>absurd rfl hn)) | (refine Branch.intro (fun hn=>(by with_reducible exact False.elim hn)) (fun _=>?_)) | (refine Branch.intro (fun _=>?_) (fun hn=>(by with_reducible exact absurd trivial hn))) | (refine Branch.intro (fun hn=>(by with_reducible exact absurd trivial hn)) (fun _=>?_)) | (refine Branch.intro (fun hn=>(by with_reducible exact absurd rfl hn)) (fun _=>?_)) | (refine Branch.intro (fun _=>?_) (fun hn=>(by with_reducible exact absurd Iff.rfl hn))) | (refine Branch.intro (fun hn=>(by with_reducible exact absurd Iff.rfl hn)) (fun _=>?_)) | (refine sd ?_))
 refine Call.pure hSz rfl ?_ ?_
 ·exact fc
 intro v hv
 subst hv
 repeat (first | (refine Branch.intro (fun _=>?_) (fun hn=>absurd rfl hn)) | (refine Branch.intro (fun hn=>(by with_reducible exact False.elim hn)) (fun _=>?_)) | (refine Branch.intro (fun _=>?_) (fun hn=>(by with_reducible exact absurd trivial hn))) | (refine Branch.intro (fun hn=>(by with_reducible exact absurd trivial hn)) (fun _=>?_)) | (refine Branch.intro (fun hn=>(by with_reducible exact absurd rfl hn)) (fun _=>?_)) | (refine Branch.intro (fun _=>?_) (fun hn=>(by with_reducible exact absurd Iff.rfl hn))) | (refine Branch.intro (fun hn=>(by with_reducible exact absurd Iff.rfl hn)) (fun _=>?_)) | (refine sd ?_))
 refine Call.intro hO [(1003,(306,0,none)),(1006,(506,0,none))] rfl ?_ rfl ?_ rfl ?_
 ·exact fc
 ·exact fc
 rintro v M' ⟨n0,U,sp,hU,hn0,hUl,rfl,rfl⟩
 dsimp only [putT,afterM,newEnt,ren,renA,renS,renL,look,getM,getT,ev,evL,ofVal,cond_true,cond_false,Nat.beq_eq,act,isPar,ownPar,Ent.isOwn]
 repeat (first | (refine Branch.intro (fun _=>?_) (fun hn=>absurd rfl hn)) | (refine Branch.intro (fun hn=>(by with_reducible exact False.elim hn)) (fun _=>?_)) | (refine Branch.intro (fun _=>?_) (fun hn=>(by with_reducible exact absurd trivial hn))) | (refine Branch.intro (fun hn=>(by with_reducible exact absurd trivial hn)) (fun _=>?_)) | (refine Branch.intro (fun hn=>(by with_reducible exact absurd rfl hn)) (fun _=>?_)) | (refine Branch.intro (fun _=>?_) (fun hn=>(by with_reducible exact absurd Iff.rfl hn))) | (refine Branch.intro (fun hn=>(by with_reducible exact absurd Iff.rfl hn)) (fun _=>?_)) | (refine sd ?_))
 refine Call.intro (fnBytesM plain plain n n hn hn) [(1003,(506,0,some 0))] rfl ?_ rfl ?_ rfl ?_
 ·exact fc
 ·have hU2:plain = List.take n (List.drop 0 U):=by rw [List.drop_zero];exact hU.symm
  exact fc
 rintro v M' ⟨rfl,rfl⟩
 dsimp only [putT,afterM,newEnt,ren,renA,renS,renL,look,getM,getT,ev,evL,ofVal,cond_true,cond_false,Nat.beq_eq,act,isPar,ownPar,Ent.isOwn]
 have nf:¬ False:=fun h=>h
 repeat (first | (refine Branch.intro (fun _=>?_) (fun hn=>absurd rfl hn)) | (refine Branch.intro (fun hn=>(by with_reducible exact False.elim hn)) (fun _=>?_)) | (refine Branch.intro (fun _=>?_) (fun hn=>(by with_reducible exact absurd nf hn))) | (refine Branch.intro (fun hn=>(by with_reducible exact absurd hn nf)) (fun _=>?_)) | (refine Branch.intro (fun _=>?_) (fun hn=>(by with_reducible exact absurd trivial hn))) | (refine Branch.intro (fun hn=>(by with_reducible exact absurd trivial hn)) (fun _=>?_)) | (refine Branch.intro (fun hn=>(by with_reducible exact absurd rfl hn)) (fun _=>?_)) | (refine Branch.intro (fun _=>?_) (fun hn=>(by with_reducible exact absurd Iff.rfl hn))) | (refine Branch.intro (fun hn=>(by with_reducible exact absurd Iff.rfl hn)) (fun _=>?_)) | (refine sd ?_))
 refine Ret.intro .tt [] [] rfl ?_ rfl rfl ?_ rfl ?_ rfl
 ·exact fc
 ·exact fc
 ·exact fc
set_option maxRecDepth 100000 in
theorem fnOpen0 (key:List UInt8) (hk:key.length = 32):Sx.Fn Γ.P 13 [.agg [(1,.nilp)],.a8 key,.slx 1003 0 0 0] [(1003,.mem false 0 [(0,.a8 [])])] (fun v M=>v = .tup [.nsl,.ff]∧M = [(1003,.mem false 0 [(0,.a8 [])])]):=by
 have h0:((0:Nat):Int) < 32:=by decide
 refine fn_of (Γ:=Γ) (fn:=Try.f13) rfl rfl rfl rfl ?_
 repeat (first | (refine Branch.intro (fun _=>?_) (fun hn=>absurd rfl hn)) | (refine Branch.intro (fun hn=>(by with_reducible exact False.elim hn)) (fun _=>?_)) | (refine Branch.intro (fun _=>?_) (fun hn=>(by with_reducible exact absurd h0 hn))) | (refine Branch.intro (fun hn=>(by with_reducible exact absurd hn h0)) (fun _=>?_)) | (refine Branch.intro (fun _=>?_) (fun hn=>(by with_reducible exact absurd trivial hn))) | (refine Branch.intro (fun hn=>(by with_reducible exact absurd trivial hn)) (fun _=>?_)) | (refine Branch.intro (fun hn=>(by with_reducible exact absurd rfl hn)) (fun _=>?_)) | (refine Branch.intro (fun _=>?_) (fun hn=>(by with_reducible exact absurd Iff.rfl hn))) | (refine Branch.intro (fun hn=>(by with_reducible exact absurd Iff.rfl hn)) (fun _=>?_)) | (refine sd ?_))
 refine Ret.intro (.tup [.nsl,.ff]) [(1003,.mem false 0 [(0,.a8 [])])] [] rfl ?_ ⟨rfl,rfl⟩ rfl ?_ rfl ?_ rfl
 ·exact fc
 ·exact fc
 ·exact fc
set_option maxRecDepth 100000 in
theorem fnOpenN (key:List UInt8) (hk:key.length = 32):Sx.Fn Γ.P 13 [.agg [(1,.ptr 1000 0 none)],.a8 key,.nsl] [(1000,.dead)] (fun v M=>v = .tup [.nsl,.ff]∧M = [(1000,.dead)]):=by
 have h0:((0:Nat):Int) < 32:=by decide
 have h1:(0:Int) < 32:=by decide
 refine fn_of (Γ:=Γ) (fn:=Try.f13) rfl rfl rfl rfl ?_
 repeat (first | (refine Branch.intro (fun _=>?_) (fun hn=>absurd rfl hn)) | (refine Branch.intro (fun hn=>(by with_reducible exact False.elim hn)) (fun _=>?_)) | (refine Branch.intro (fun _=>?_) (fun hn=>(by with_reducible exact absurd h0 hn))) | (refine Branch.intro (fun hn=>(by with_reducible exact absurd hn h0)) (fun _=>?_)) | (refine Branch.intro (fun _=>?_) (fun hn=>(by with_reducible exact absurd h1 hn))) | (refine Branch.intro (fun hn=>(by with_reducible exact absurd hn h1)) (fun _=>?_)) | (refine Branch.intro (fun _=>?_) (fun hn=>(by with_reducible exact absurd trivial hn))) | (refine Branch.intro (fun hn=>(by with_reducible exact absurd trivial hn)) (fun _=>?_)) | (refine Branch.intro (fun hn=>(by with_reducible exact absurd rfl hn)) (fun _=>?_)) | (refine Branch.intro (fun _=>?_) (fun hn=>(by with_reducible exact absurd Iff.rfl hn))) | (refine Branch.intro (fun hn=>(by with_reducible exact absurd Iff.rfl hn)) (fun _=>?_)) | (refine sd ?_))
 refine Ret.intro (.tup [.nsl,.ff]) [(1000,.dead)] [] rfl ?_ ⟨rfl,rfl⟩ rfl ?_ rfl ?_ rfl
 ·exact fc
 ·exact fc
 ·exact fc
set_option maxRecDepth 100000 in
theorem fnBytesN:Sx.Fn Γ.P 11 [.nsl,.nsl] [] (fun v M=>v = .tt∧M = []):=by
 refine fn_of (Γ:=Γ) (fn:=Try.f11) rfl rfl rfl rfl ?_
 repeat (refine sd ?_)
 refine Ret.intro .tt [] [] rfl ?_ ⟨rfl,rfl⟩ rfl ?_ rfl ?_ rfl
 ·exact fc
 ·exact fc
 ·exact fc
set_option maxRecDepth 100000 in
set_option maxHeartbeats 1000000 in
theorem suiteSealsRB (P:Prop) (hP:¬ P) (key plain:List UInt8) (n:Nat) (hk:key.length = 32) (hn:plain.length = n) (hn1:¬ n ≤ 1024):Sx.Fn Γ.P 3 [.bool P,.a8 key,.isl 0 n 1 [(n,.a8 plain)]] [] (fun v _=>v = .tt):=by
 have hS:=fnSealR key plain n hk hn
 have hW:=fnRSealR key plain n hk hn
 rw [seS_bad (by omega),eq_false hn1] at hS hW
 have hE:=fnSameB [] [] 0 0 rfl rfl
 have hSz:=fn12 (n:Int)
 rw [sizS_bad (by omega)] at hSz
 refine fn_of (Γ:=Γ) (fn:=Try.f3) rfl rfl rfl rfl ?_
 repeat (refine sd ?_)
 refine Call.intro fn6 [] rfl trivial rfl trivial rfl ?_
 rintro v M' rfl
 dsimp only [putT,afterM,newEnt,ren,renA,renS,renL,look,getM,getT,ev,evL,ofVal,cond_true,cond_false,Nat.beq_eq,act,isPar,ownPar,Ent.isOwn]
 repeat (first | (refine Branch.intro (fun _=>?_) (fun hn=>absurd rfl hn)) | (refine Branch.intro (fun hn=>(by with_reducible exact False.elim hn)) (fun _=>?_)) | (refine Branch.intro (fun _=>?_) (fun hn=>(by with_reducible exact absurd trivial hn))) | (refine Branch.intro (fun hn=>(by with_reducible exact absurd trivial hn)) (fun _=>?_)) | (refine Branch.intro (fun hn=>(by with_reducible exact absurd rfl hn)) (fun _=>?_)) | (refine Branch.intro (fun _=>?_) (fun hn=>(by with_reducible exact absurd Iff.rfl hn))) | (refine Branch.intro (fun hn=>(by with_reducible exact absurd Iff.rfl hn)) (fun _=>?_)) | (refine sd ?_))
 refine Branch.intro (fun hc=>?_) (fun hc=>?_)
 ·repeat (refine sd ?_)
  refine Ret.intro .tt [] [] rfl ?_ rfl rfl ?_ rfl ?_ rfl
  ·exact fc
  ·exact fc
  ·exact fc
 have hc:¬ (n:Int) > 5000:=hc
 repeat (refine sd ?_)
 refine Call.intro fnSuiteR [] rfl ?_ rfl ?_ rfl ?_
 ·exact fc
 ·exact fc
 rintro v M' ⟨rfl,rfl⟩
 dsimp only [putT,afterM,newEnt,ren,renA,renS,renL,look,getM,getT,ev,evL,ofVal,cond_true,cond_false,Nat.beq_eq,act,isPar,ownPar,Ent.isOwn]
 repeat (refine sd ?_)
 refine Call.name [(0,[]),(0,[]),(2001,[])] rfl ?_ (CallP.intro hS [(1003,(2001,0,none)),(1006,(306,0,none))] rfl ?_ rfl ?_ rfl ?_)
 ·exact fc
 ·exact fc
 ·exact fc
 rintro v M' ⟨m1,c1,hm1,hc1,rfl,rfl⟩
 obtain rfl:0 = m1:=hm1
 dsimp only [putT,afterM,newEnt,ren,renA,renS,renL,look,getM,getT,ev,evL,ofVal,cond_true,cond_false,Nat.beq_eq,act,isPar,ownPar,Ent.isOwn]
 repeat (refine sd ?_)
 refine Draw.intro [[],[0],[],[],[0,1,2,3],[0,1,2,3,4],[0,1,2,3,4,5],[0,1,2,3,4,5],[0,1,2,3,4,5,6],[0,1,2,3,4,5,6,7,8]] [0,2,3,1,4,5,6,7,8,9] (by kernel_rfl) ?_
 repeat (refine sd ?_)
 refine Call.intro fnRefR [] rfl ?_ rfl ?_ rfl ?_
 ·exact fc
 ·exact fc
 rintro v M' ⟨rfl,rfl⟩
 dsimp only [putT,afterM,newEnt,ren,renA,renS,renL,look,getM,getT,ev,evL,ofVal,cond_true,cond_false,Nat.beq_eq,act,isPar,ownPar,Ent.isOwn]
 refine Grow.auto rfl rfl ?_
 repeat (refine sd ?_)
 refine Call.name [(0,[]),(0,[]),(2002,[])] rfl ?_ (CallP.intro hW [(1003,(2002,0,none)),(1006,(406,0,none))] rfl ?_ rfl ?_ rfl ?_)
 ·exact fc
 ·exact fc
 ·exact fc
 rintro v M' ⟨m2,c2,hm2,hc2,rfl,rfl⟩
 obtain rfl:0 = m2:=hm2
 dsimp only [putT,afterM,newEnt,ren,renA,renS,renL,look,getM,getT,ev,evL,ofVal,cond_true,cond_false,Nat.beq_eq,act,isPar,ownPar,Ent.isOwn]
 repeat (refine sd ?_)
 repeat (first | (refine Branch.intro (fun _=>?_) (fun hn=>absurd rfl hn)) | (refine Branch.intro (fun hn=>(by with_reducible exact False.elim hn)) (fun _=>?_)) | (refine Branch.intro (fun _=>?_) (fun hn=>(by with_reducible exact absurd trivial hn))) | (refine Branch.intro (fun hn=>(by with_reducible exact absurd trivial hn)) (fun _=>?_)) | (refine Branch.intro (fun hn=>(by with_reducible exact absurd rfl hn)) (fun _=>?_)) | (refine Branch.intro (fun _=>?_) (fun hn=>(by with_reducible exact absurd Iff.rfl hn))) | (refine Branch.intro (fun hn=>(by with_reducible exact absurd Iff.rfl hn)) (fun _=>?_)) | (refine sd ?_))
 refine Call.name [(1,[]),(1,[])] rfl ?_ (CallP.intro hE [] rfl ?_ rfl ?_ rfl ?_)
 ·exact fc
 ·exact fc
 ·exact fc
 rintro v M' ⟨rfl,rfl⟩
 dsimp only [putT,afterM,newEnt,ren,renA,renS,renL,look,getM,getT,ev,evL,ofVal,cond_true,cond_false,Nat.beq_eq,act,isPar,ownPar,Ent.isOwn]
 repeat (first | (refine Branch.intro (fun _=>?_) (fun hn=>absurd rfl hn)) | (refine Branch.intro (fun hn=>(by with_reducible exact False.elim hn)) (fun _=>?_)) | (refine Branch.intro (fun _=>?_) (fun hn=>(by with_reducible exact absurd trivial hn))) | (refine Branch.intro (fun hn=>(by with_reducible exact absurd trivial hn)) (fun _=>?_)) | (refine Branch.intro (fun hn=>(by with_reducible exact absurd rfl hn)) (fun _=>?_)) | (refine Branch.intro (fun _=>?_) (fun hn=>(by with_reducible exact absurd Iff.rfl hn))) | (refine Branch.intro (fun hn=>(by with_reducible exact absurd Iff.rfl hn)) (fun _=>?_)) | (refine sd ?_))
 refine Call.pure hSz rfl ?_ ?_
 ·exact fc
 intro v hv
 subst hv
 repeat (first | (refine Branch.intro (fun _=>?_) (fun hn=>absurd rfl hn)) | (refine Branch.intro (fun hn=>(by with_reducible exact False.elim hn)) (fun _=>?_)) | (refine Branch.intro (fun _=>?_) (fun hn=>(by with_reducible exact absurd trivial hn))) | (refine Branch.intro (fun hn=>(by with_reducible exact absurd trivial hn)) (fun _=>?_)) | (refine Branch.intro (fun hn=>(by with_reducible exact absurd rfl hn)) (fun _=>?_)) | (refine Branch.intro (fun _=>?_) (fun hn=>(by with_reducible exact absurd Iff.rfl hn))) | (refine Branch.intro (fun hn=>(by with_reducible exact absurd Iff.rfl hn)) (fun _=>?_)) | (refine sd ?_))
 refine Call.intro (fnOpen0 key hk) [(1003,(306,0,none))] rfl ?_ rfl ?_ rfl ?_
 ·exact fc
 ·exact fc
 rintro v M' ⟨rfl,rfl⟩
 dsimp only [putT,afterM,newEnt,ren,renA,renS,renL,look,getM,getT,ev,evL,ofVal,cond_true,cond_false,Nat.beq_eq,act,isPar,ownPar,Ent.isOwn]
 have nf:¬ False:=fun h=>h
 repeat (first | (refine Branch.intro (fun _=>?_) (fun hn=>absurd rfl hn)) | (refine Branch.intro (fun hn=>(by with_reducible exact False.elim hn)) (fun _=>?_)) | (refine Branch.intro (fun _=>?_) (fun hn=>(by with_reducible exact absurd nf hn))) | (refine Branch.intro (fun hn=>(by with_reducible exact absurd hn nf)) (fun _=>?_)) | (refine Branch.intro (fun _=>?_) (fun hn=>(by with_reducible exact absurd trivial hn))) | (refine Branch.intro (fun hn=>(by with_reducible exact absurd trivial hn)) (fun _=>?_)) | (refine Branch.intro (fun hn=>(by with_reducible exact absurd rfl hn)) (fun _=>?_)) | (refine Branch.intro (fun _=>?_) (fun hn=>(by with_reducible exact absurd Iff.rfl hn))) | (refine Branch.intro (fun hn=>(by with_reducible exact absurd Iff.rfl hn)) (fun _=>?_)) | (refine sd ?_))
 refine Ret.intro .tt [] [] rfl ?_ rfl rfl ?_ rfl ?_ rfl
 ·exact fc
 ·exact fc
 ·exact fc
set_option maxRecDepth 100000 in
set_option maxHeartbeats 1000000 in
theorem suiteSealsFB (P:Prop) (hP:P) (key plain:List UInt8) (n:Nat) (hk:key.length = 32) (hn:plain.length = n) (hn1:¬ n ≤ 1024):Sx.Fn Γ.P 3 [.bool P,.a8 key,.isl 0 n 1 [(n,.a8 plain)]] [] (fun v _=>v = .tt):=by
 have hS:=fnSealFB key plain n hk hn hn1
 have hW:=fnRSealFB key plain n hk hn hn1
 have hSz:=fn12 (n:Int)
 rw [sizS_bad (by omega)] at hSz
 refine fn_of (Γ:=Γ) (fn:=Try.f3) rfl rfl rfl rfl ?_
 repeat (refine sd ?_)
 refine Call.intro fn6 [] rfl trivial rfl trivial rfl ?_
 rintro v M' rfl
 dsimp only [putT,afterM,newEnt,ren,renA,renS,renL,look,getM,getT,ev,evL,ofVal,cond_true,cond_false,Nat.beq_eq,act,isPar,ownPar,Ent.isOwn]
 repeat (first | (refine Branch.intro (fun _=>?_) (fun hn=>absurd rfl hn)) | (refine Branch.intro (fun hn=>(by with_reducible exact False.elim hn)) (fun _=>?_)) | (refine Branch.intro (fun _=>?_) (fun hn=>(by with_reducible exact absurd trivial hn))) | (refine Branch.intro (fun hn=>(by with_reducible exact absurd trivial hn)) (fun _=>?_)) | (refine Branch.intro (fun hn=>(by with_reducible exact absurd rfl hn)) (fun _=>?_)) | (refine Branch.intro (fun _=>?_) (fun hn=>(by with_reducible exact absurd Iff.rfl hn))) | (refine Branch.intro (fun hn=>(by with_reducible exact absurd Iff.rfl hn)) (fun _=>?_)) | (refine sd ?_))
 refine Branch.intro (fun hc=>?_) (fun hc=>?_)
 ·repeat (refine sd ?_)
  refine Ret.intro .tt [] [] rfl ?_ rfl rfl ?_ rfl ?_ rfl
  ·exact fc
  ·exact fc
  ·exact fc
 have hc:¬ (n:Int) > 5000:=hc
 repeat (refine sd ?_)
 refine Call.intro fnSuiteF [(1000,(1000,0,none)),(1001,(1001,0,none)),(1002,(1002,0,none))] rfl ?_ rfl ?_ rfl ?_
 ·exact fc
 ·exact fc
 rintro v M' ⟨rfl,rfl⟩
 dsimp only [putT,afterM,newEnt,ren,renA,renS,renL,look,getM,getT,ev,evL,ofVal,cond_true,cond_false,Nat.beq_eq,act,isPar,ownPar,Ent.isOwn]
 repeat (refine sd ?_)
 refine Call.intro hS [(1000,(1000,0,none))] rfl ?_ rfl ?_ rfl ?_
 ·exact fc
 ·exact fc
 rintro v M' ⟨rfl,rfl⟩
 dsimp only [putT,afterM,newEnt,ren,renA,renS,renL,look,getM,getT,ev,evL,ofVal,cond_true,cond_false,Nat.beq_eq,act,isPar,ownPar,Ent.isOwn]
 repeat (refine sd ?_)
 refine Draw.intro [[],[0],[],[],[0,1,2,3],[0,1,2,3,4],[0,1,2,3,4,5],[0,1,2,3,4,5],[0,1,2,3,4,5,6],[0,1,2,3,4,5,6,7,8]] [0,2,3,1,4,5,6,7,8,9] (by kernel_rfl) ?_
 repeat (refine sd ?_)
 refine Call.intro fnRefF [(1000,(1100,0,none)),(1001,(1101,0,none))] rfl ?_ rfl ?_ rfl ?_
 ·exact fc
 ·exact fc
 rintro v M' ⟨rfl,rfl⟩
 dsimp only [putT,afterM,newEnt,ren,renA,renS,renL,look,getM,getT,ev,evL,ofVal,cond_true,cond_false,Nat.beq_eq,act,isPar,ownPar,Ent.isOwn]
 refine Grow.auto rfl rfl ?_
 repeat (refine sd ?_)
 refine Call.intro hW [(1000,(1100,0,none))] rfl ?_ rfl ?_ rfl ?_
 ·exact fc
 ·exact fc
 rintro v M' ⟨rfl,rfl⟩
 dsimp only [putT,afterM,newEnt,ren,renA,renS,renL,look,getM,getT,ev,evL,ofVal,cond_true,cond_false,Nat.beq_eq,act,isPar,ownPar,Ent.isOwn]
 repeat (refine sd ?_)
 repeat (first | (refine Branch.intro (fun _=>?_) (fun hn=>absurd rfl hn)) | (refine Branch.intro (fun hn=>(by with_reducible exact False.elim hn)) (fun _=>?_)) | (refine Branch.intro (fun _=>?_) (fun hn=>(by with_reducible exact absurd trivial hn))) | (refine Branch.intro (fun hn=>(by with_reducible exact absurd trivial hn)) (fun _=>?_)) | (refine Branch.intro (fun hn=>(by with_reducible exact absurd rfl hn)) (fun _=>?_)) | (refine Branch.intro (fun _=>?_) (fun hn=>(by with_reducible exact absurd Iff.rfl hn))) | (refine Branch.intro (fun hn=>(by with_reducible exact absurd Iff.rfl hn)) (fun _=>?_)) | (refine sd ?_))
 refine Call.intro fnBytesN [] rfl ?_ rfl ?_ rfl ?_
 ·exact fc
 ·exact fc
 rintro v M' ⟨rfl,rfl⟩
 dsimp only [putT,afterM,newEnt,ren,renA,renS,renL,look,getM,getT,ev,evL,ofVal,cond_true,cond_false,Nat.beq_eq,act,isPar,ownPar,Ent.isOwn]
 repeat (first | (refine Branch.intro (fun _=>?_) (fun hn=>absurd rfl hn)) | (refine Branch.intro (fun hn=>(by with_reducible exact False.elim hn)) (fun _=>?_)) | (refine Branch.intro (fun _=>?_) (fun hn=>(by with_reducible exact absurd trivial hn))) | (refine Branch.intro (fun hn=>(by with_reducible exact absurd trivial hn)) (fun _=>?_)) | (refine Branch.intro (fun hn=>(by with_reducible exact absurd rfl hn)) (fun _=>?_)) | (refine Branch.intro (fun _=>?_) (fun hn=>(by with_reducible exact absurd Iff.rfl hn))) | (refine Branch.intro (fun hn=>(by with_reducible exact absurd Iff.rfl hn)) (fun _=>?_)) | (refine sd ?_))
 refine Call.pure hSz rfl ?_ ?_
 ·exact fc
 intro v hv
 subst hv
 repeat (first | (refine Branch.intro (fun _=>?_) (fun hn=>absurd rfl hn)) | (refine Branch.intro (fun hn=>(by with_reducible exact False.elim hn)) (fun _=>?_)) | (refine Branch.intro (fun _=>?_) (fun hn=>(by with_reducible exact absurd trivial hn))) | (refine Branch.intro (fun hn=>(by with_reducible exact absurd trivial hn)) (fun _=>?_)) | (refine Branch.intro (fun hn=>(by with_reducible exact absurd rfl hn)) (fun _=>?_)) | (refine Branch.intro (fun _=>?_) (fun hn=>(by with_reducible exact absurd Iff.rfl hn))) | (refine Branch.intro (fun hn=>(by with_reducible exact absurd Iff.rfl hn)) (fun _=>?_)) | (refine sd ?_))
 refine Call.intro (fnOpenN key hk) [(1000,(1000,0,none))] rfl ?_ rfl ?_ rfl ?_
 ·exact fc
 ·exact fc
 rintro v M' ⟨rfl,rfl⟩
 dsimp only [putT,afterM,newEnt,ren,renA,renS,renL,look,getM,getT,ev,evL,ofVal,cond_true,cond_false,Nat.beq_eq,act,isPar,ownPar,Ent.isOwn]
 have nf:¬ False:=fun h=>h
 repeat (first | (refine Branch.intro (fun _=>?_) (fun hn=>absurd rfl hn)) | (refine Branch.intro (fun hn=>(by with_reducible exact False.elim hn)) (fun _=>?_)) | (refine Branch.intro (fun _=>?_) (fun hn=>(by with_reducible exact absurd nf hn))) | (refine Branch.intro (fun hn=>(by with_reducible exact absurd hn nf)) (fun _=>?_)) | (refine Branch.intro (fun _=>?_) (fun hn=>(by with_reducible exact absurd trivial hn))) | (refine Branch.intro (fun hn=>(by with_reducible exact absurd trivial hn)) (fun _=>?_)) | (refine Branch.intro (fun hn=>(by with_reducible exact absurd rfl hn)) (fun _=>?_)) | (refine Branch.intro (fun _=>?_) (fun hn=>(by with_reducible exact absurd Iff.rfl hn))) | (refine Branch.intro (fun hn=>(by with_reducible exact absurd Iff.rfl hn)) (fun _=>?_)) | (refine sd ?_))
 refine Ret.intro .tt [] [] rfl ?_ rfl rfl ?_ rfl ?_ rfl
 ·exact fc
 ·exact fc
 ·exact fc
set_option maxRecDepth 100000 in
set_option maxHeartbeats 1000000 in
theorem suiteSealsF (P:Prop) (hP:P) (key plain:List UInt8) (n:Nat) (hk:key.length = 32) (hn:plain.length = n) (hn1:n ≤ 1024):Sx.Fn Γ.P 3 [.bool P,.a8 key,.isl 0 n 1 [(n,.a8 plain)]] [] (fun v _=>v = .tt):=by
 obtain ⟨m,hm⟩:∃ m,n / 16 * 16 + 32 = m:=⟨_,rfl⟩
 have hmx:=mx8_nil (key:=key) (plain:=plain) (by omega) (by omega)
 have hS:=fnSealF [] 0 0 rfl (by omega) (Nat.le_refl _) tb0_valid key plain n m hk hn hn1 hm [(8,[key,plain])] 1 (by rw [hmx]) (by rw [hmx])
 have hW:=fnRSealF [] 0 0 rfl (by omega) (Nat.le_refl _) tb0_valid key plain n m hk hn hn1 hm [(8,[key,plain])] 1 (by rw [hmx]) (by rw [hmx])
 have hO:=fnOpenF1 [(8,[key,plain])] 1 rfl (by omega) (t8_valid (by omega) (by omega)) key plain n m 0 hk hn hn1 hm (by omega) rfl
 obtain ⟨B,hB⟩:∃ B,sefB 1 n = B:=⟨_,rfl⟩
 have hBl:B.length = m:=by rw [← hB,sefB_length,hm]
 rw [hB] at hS hW
 rw [show sefB (0 + 1) n = B from hB] at hO
 have hE:=fnSameB B B m m hBl hBl
 have hSz:=fn12 (n:Int)
 rw [sizS_ok (by omega) (by omega),show (n:Int) / 16 * 16 + 32 = (m:Int) by omega] at hSz
 unfold tbM at hS
 unfold rbM at hW
 refine fn_of (Γ:=Γ) (fn:=Try.f3) rfl rfl rfl rfl ?_
 repeat (refine sd ?_)
 refine Call.intro fn6 [] rfl trivial rfl trivial rfl ?_
 rintro v M' rfl
 dsimp only [putT,afterM,newEnt,ren,renA,renS,renL,look,getM,getT,ev,evL,ofVal,cond_true,cond_false,Nat.beq_eq,act,isPar,ownPar,Ent.isOwn]
 repeat (first | (refine Branch.intro (fun _=>?_) (fun hn=>absurd rfl hn)) | (refine Branch.intro (fun hn=>(by with_reducible exact False.elim hn)) (fun _=>?_)) | (refine Branch.intro (fun _=>?_) (fun hn=>(by with_reducible exact absurd trivial hn))) | (refine Branch.intro (fun hn=>(by with_reducible exact absurd trivial hn)) (fun _=>?_)) | (refine Branch.intro (fun hn=>(by with_reducible exact absurd rfl hn)) (fun _=>?_)) | (refine Branch.intro (fun _=>?_) (fun hn=>(by with_reducible exact absurd Iff.rfl hn))) | (refine Branch.intro (fun hn=>(by with_reducible exact absurd Iff.rfl hn)) (fun _=>?_)) | (refine sd ?_))
 refine Branch.intro (fun hc=>?_) (fun hc=>?_)
 ·repeat (refine sd ?_)
  refine Ret.intro .tt [] [] rfl ?_ rfl rfl ?_ rfl ?_ rfl
  ·exact fc
  ·exact fc
  ·exact fc
 have hc:¬ (n:Int) > 5000:=hc
 repeat (refine sd ?_)
 refine Call.intro fnSuiteF [(1000,(1000,0,none)),(1001,(1001,0,none)),(1002,(1002,0,none))] rfl ?_ rfl ?_ rfl ?_
 ·exact fc
 ·exact fc
 rintro v M' ⟨rfl,rfl⟩
 dsimp only [putT,afterM,newEnt,ren,renA,renS,renL,look,getM,getT,ev,evL,ofVal,cond_true,cond_false,Nat.beq_eq,act,isPar,ownPar,Ent.isOwn]
 repeat (refine sd ?_)
 refine Call.intro hS [(1000,(1000,0,none)),(1001,(1001,0,none)),(1002,(1002,0,none)),(1005,(305,0,none)),(1006,(306,0,none))] rfl ?_ rfl ?_ rfl ?_
 ·exact fc
 ·exact fc
 rintro v M' ⟨n1,c1,hn1,hc1,rfl,rfl⟩
 obtain rfl:1 = n1:=hn1
 dsimp only [putT,afterM,newEnt,ren,renA,renS,renL,look,getM,getT,ev,evL,ofVal,cond_true,cond_false,Nat.beq_eq,act,isPar,ownPar,Ent.isOwn]
 repeat (refine sd ?_)
 refine Draw.intro [[],[0],[],[],[0,1,2,3],[0,1,2,3,4],[0,1,2,3,4,5],[0,1,2,3,4,5],[0,1,2,3,4,5,6],[0,1,2,3,4,5,6,7,8]] [0,2,3,1,4,5,6,7,8,9] (by kernel_rfl) ?_
 repeat (refine sd ?_)
 refine Call.intro fnRefF [(1000,(1100,0,none)),(1001,(1101,0,none))] rfl ?_ rfl ?_ rfl ?_
 ·exact fc
 ·exact fc
 rintro v M' ⟨rfl,rfl⟩
 dsimp only [putT,afterM,newEnt,ren,renA,renS,renL,look,getM,getT,ev,evL,ofVal,cond_true,cond_false,Nat.beq_eq,act,isPar,ownPar,Ent.isOwn]
 refine Grow.auto rfl rfl ?_
 repeat (refine sd ?_)
 refine Call.intro hW [(1000,(1100,0,none)),(1001,(1101,0,none)),(1005,(405,0,none)),(1006,(406,0,none))] rfl ?_ rfl ?_ rfl ?_
 ·exact fc
 ·exact fc
 rintro v M' ⟨n2,c2,hn2,hc2,rfl,rfl⟩
 dsimp only [putT,afterM,newEnt,ren,renA,renS,renL,look,getM,getT,ev,evL,ofVal,cond_true,cond_false,Nat.beq_eq,act,isPar,ownPar,Ent.isOwn]
 repeat (refine sd ?_)
 repeat (first | (refine Branch.intro (fun _=>?_) (fun hn=>absurd rfl hn)) | (refine Branch.intro (fun hn=>(by with_reducible exact False.elim hn)) (fun _=>?_)) | (refine Branch.intro (fun _=>?_) (fun hn=>(by with_reducible exact absurd trivial hn))) | (refine Branch.intro (fun hn=>(by with_reducible exact absurd trivial hn)) (fun _=>?_)) | (refine Branch.intro (fun hn=>(by with_reducible exact absurd rfl hn)) (fun _=>?_)) | (refine Branch.intro (fun _=>?_) (fun hn=>(by with_reducible exact absurd Iff.rfl hn))) | (refine Branch.intro (fun hn=>(by with_reducible exact absurd Iff.rfl hn)) (fun _=>?_)) | (refine sd ?_))
 refine Call.name [(1,[]),(1,[])] rfl ?_ (CallP.intro hE [] rfl ?_ rfl ?_ rfl ?_)
 ·exact fc
 ·exact fc
 ·exact fc
 rintro v M' ⟨rfl,rfl⟩
 dsimp only [putT,afterM,newEnt,ren,renA,renS,renL,look,getM,getT,ev,evL,ofVal,cond_true,cond_false,Nat.beq_eq,act,isPar,ownPar,Ent.isOwn]
 repeat (first | (refine Branch.intro (fun _=>?_) (fun hn=>absurd rfl hn)) | (refine Branch.intro (fun hn=>(by with_reducible exact False.elim hn)) (fun _=>?_)) | (refine Branch.intro (fun _=>?_) (fun hn=>(by with_reducible exact absurd trivial hn))) | (refine Branch.intro (fun hn=>(by with_reducible exact absurd trivial hn)) (fun _=>?_)) | (refine Branch.intro (fun hn=>(by with_reducible exact absurd rfl hn)) (fun _=>?_)) | (refine Branch.intro (fun _=>?_) (fun hn=>(by with_reducible exact absurd Iff.rfl hn))) | (refine Branch.intro (fun hn=>(by with_reducible exact absurd Iff.rfl hn)) (fun _=>?_)) | (refine sd ?_))
 refine Call.pure hSz rfl ?_ ?_
 ·exact fc
 intro v hv
 subst hv
 repeat (first | (refine Branch.intro (fun _=>?_) (fun hn=>absurd rfl hn)) | (refine Branch.intro (fun hn=>(by with_reducible exact False.elim hn)) (fun _=>?_)) | (refine Branch.intro (fun _=>?_) (fun hn=>(by with_reducible exact absurd trivial hn))) | (refine Branch.intro (fun hn=>(by with_reducible exact absurd trivial hn)) (fun _=>?_)) | (refine Branch.intro (fun hn=>(by with_reducible exact absurd rfl hn)) (fun _=>?_)) | (refine Branch.intro (fun _=>?_) (fun hn=>(by with_reducible exact absurd Iff.rfl hn))) | (refine Branch.intro (fun hn=>(by with_reducible exact absurd Iff.rfl hn)) (fun _=>?_)) | (refine sd ?_))
 refine Call.intro hO [(1003,(306,0,none)),(1000,(1000,0,none)),(1001,(305,0,none)),(1002,(1002,0,none))] rfl ?_ rfl ?_ rfl ?_
 ·exact fc
 ·exact fc
 rintro v M' ⟨rfl,rfl⟩
 dsimp only [putT,afterM,newEnt,ren,renA,renS,renL,look,getM,getT,ev,evL,ofVal,cond_true,cond_false,Nat.beq_eq,act,isPar,ownPar,Ent.isOwn]
 repeat (first | (refine Branch.intro (fun _=>?_) (fun hn=>absurd rfl hn)) | (refine Branch.intro (fun hn=>(by with_reducible exact False.elim hn)) (fun _=>?_)) | (refine Branch.intro (fun _=>?_) (fun hn=>(by with_reducible exact absurd trivial hn))) | (refine Branch.intro (fun hn=>(by with_reducible exact absurd trivial hn)) (fun _=>?_)) | (refine Branch.intro (fun hn=>(by with_reducible exact absurd rfl hn)) (fun _=>?_)) | (refine Branch.intro (fun _=>?_) (fun hn=>(by with_reducible exact absurd Iff.rfl hn))) | (refine Branch.intro (fun hn=>(by with_reducible exact absurd Iff.rfl hn)) (fun _=>?_)) | (refine sd ?_))
 refine Call.intro (fnSameB plain plain n n hn hn) [] rfl ?_ rfl ?_ rfl ?_
 ·exact fc
 ·exact fc
 rintro v M' ⟨rfl,rfl⟩
 dsimp only [putT,afterM,newEnt,ren,renA,renS,renL,look,getM,getT,ev,evL,ofVal,cond_true,cond_false,Nat.beq_eq,act,isPar,ownPar,Ent.isOwn]
 have nf:¬ False:=fun h=>h
 repeat (first | (refine Branch.intro (fun _=>?_) (fun hn=>absurd rfl hn)) | (refine Branch.intro (fun hn=>(by with_reducible exact False.elim hn)) (fun _=>?_)) | (refine Branch.intro (fun _=>?_) (fun hn=>(by with_reducible exact absurd nf hn))) | (refine Branch.intro (fun hn=>(by with_reducible exact absurd hn nf)) (fun _=>?_)) | (refine Branch.intro (fun _=>?_) (fun hn=>(by with_reducible exact absurd trivial hn))) | (refine Branch.intro (fun hn=>(by with_reducible exact absurd trivial hn)) (fun _=>?_)) | (refine Branch.intro (fun hn=>(by with_reducible exact absurd rfl hn)) (fun _=>?_)) | (refine Branch.intro (fun _=>?_) (fun hn=>(by with_reducible exact absurd Iff.rfl hn))) | (refine Branch.intro (fun hn=>(by with_reducible exact absurd Iff.rfl hn)) (fun _=>?_)) | (refine sd ?_))
 refine Ret.intro .tt [] [] rfl ?_ rfl rfl ?_ rfl ?_ rfl
 ·exact fc
 ·exact fc
 ·exact fc
theorem suiteSeals_runs (svs:List SV) (h:AllF [isBool,isArr8 32,isSl8 1] svs):Sx.Fn Γ.P 3 svs [] (fun v _=>v = .tt):=by
 match svs,h with
 | [_,_,_],⟨⟨b,rfl⟩,⟨key,hk,rfl⟩,⟨n,plain,hn,_,rfl⟩,_⟩=>
  rw [Nat.mul_one] at hn ⊢
  by_cases hb:b = true <;> by_cases ho:n ≤ 1024
  ·exact suiteSealsF _ hb key plain n hk hn ho
  ·exact suiteSealsFB _ hb key plain n hk hn ho
  ·exact suiteSealsR _ hb key plain n hk hn ho
  ·exact suiteSealsRB _ hb key plain n hk hn ho
end Go.Proofs.Ytlbmkjckbfeejaa
