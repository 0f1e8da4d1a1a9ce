/- What the functions of the program compute. No condition. -/
import Derived.Test.YtlbmkjckbfeejaaHwCh4ToOf
set_option linter.unusedSimpArgs false
set_option linter.unusedVariables false
namespace Go.Proofs.Ytlbmkjckbfeejaa
open Go Go.Sx
set_option maxRecDepth 100000 in
set_option maxHeartbeats 1000000 in
theorem fnRMixF0 (T:List Te) (N c:Nat) (hT:T.length = N) (hN:N ≤ 60000) (hNc:N ≤ c) (hTs:∀ x ∈ T,x.2.length ≤ 1000000) (lab:UInt8) :
    Sx.Fn Γ.P 17 [.agg [(1,.ptr 1000 0 none)],.u8 lab,.slx 1003 0 0 0] (M12 N c T 1001 0 [])
    (fun v M=>∃ n' c',(mkT T (7,[[lab]])).1.length = n'∧n' ≤ c'∧v = .tup [.a8 (kyB (mkT T (7,[[lab]])).2),.bool ((mkT T (7,[[lab]])).2 ≠ 0)]∧M = (1001,.dead) :: M12 n' c' (mkT T (7,[[lab]])).1 1005 0 []):=by
  have hMk:=fn26 T N c hT hN hNc hTs 7 [[lab]] 1 rfl (by omega) (fun x h=>by
    rcases List.mem_cons.1 h with rfl | h
    · simp
    · exact absurd h (by simp))
  unfold M12 rwS at hMk
  unfold M12 rwS
  refine fn_of (Γ:=Γ) (fn:=Try.f17) rfl rfl rfl rfl ?_
  repeat (refine sd ?_)
  refine Branch.intro (fun hc=>?_) (fun hc=>?_)
  · exact absurd (show ((0:Nat):Int) > 8 from hc) (by omega)
  repeat (refine sd ?_)
  refine Loop.intro (σ:=Unit) (fun _=>True)
    (fun _=>([(1,.u8 lab),(2,.slx 1003 0 0 0),(3,.ptr 203 0 none),(6,.ptr 206 0 none),(8,.sl 218 0 0 1 1),(9,.i .i64 0)],
      [(1003,.mem false 0 [(0 * 1,.arr 0 1 (rwF []))]),(203,.mem true 0 [(1,.ptr 1000 0 none)]),(206,.mem true 0 [(32,.a8 (List.replicate 32 0))]),(218,.mem true 0 [(1,.isl 0 1 1 [(1,.a8 [lab])])]),
       (1000,.mem true 0 [(1,.sl 1001 0 0 N c)]),(1001,.mem true (mulE (c - N) 2) [(N * 2,.arr N 2 (rtF T))])]))
    (fun _=>0) () trivial ?_ ?_
  · refine Le.ghost [.keep 17,.ice 18 0] [] [(203,(3,0,none)),(206,(6,0,none)),(218,(18,0,none))] rfl ?_ rfl rfl ?_ rfl ?_ rfl
    · exact fc
    · exact fc
    · exact fc
  rintro - -
  refine Branch.intro (fun hc=>absurd hc (by show ¬ (0:Int) < ((0:Nat):Int);omega)) (fun _=>?_)
  repeat (refine sd ?_)
  refine Branch.intro (fun _=>?_) (fun hn=>absurd hn (by simp))
  repeat (refine sd ?_)
  refine Call.intro hMk [(1000,(1000,0,none)),(1001,(1001,0,none)),(1003,(218,0,none)),(1005,(305,0,none))] rfl fc rfl ?_ rfl ?_
  · exact fc
  rintro v M' ⟨n',c',hn',hnc',rfl,rfl⟩
  have hkyl:=kyB_length (mkT T (7,[[lab]])).2
  dsimp only [putT,afterM,newEnt,ren,renA,renS,renL,look,getM,getT,ev,evL,ofVal,cond_true,cond_false,Nat.beq_eq,act,isPar,ownPar,Ent.isOwn]
  repeat (refine sd ?_)
  refine Ret.intro (.tup [.a8 (kyB (mkT T (7,[[lab]])).2),.bool ((mkT T (7,[[lab]])).2 ≠ 0)]) ((1001,.dead) :: M12 n' c' (mkT T (7,[[lab]])).1 1005 0 []) [(1005,(305,0,none))] rfl ?_ ⟨n',c',hn',hnc',rfl,rfl⟩ rfl ?_ rfl ?_ rfl
  · exact fc
  · exact fc
  · exact fc
set_option maxRecDepth 100000 in
set_option maxHeartbeats 1000000 in
theorem fnRMixR0 (lab:UInt8) :
  Sx.Fn Γ.P 17 [.agg [(1,.nilp)],.u8 lab,.slx 1003 0 0 0] [(1003,.mem false 0 (rwS 0 []))]
   (fun v M=>v = .tup [.a8 (hmac [lab] (jnB [])),.tt]∧M = [(1003,.mem false 0 (rwS 0 []))]):=by
 have hJ:Joins []:=joins_of (L:=[]) (n:=0) rfl (by omega) (fun x h=>absurd h (by simp))
 have hJn:=fn35 [] 0 rfl (by omega) (fun x h=>absurd h (by simp))
 unfold rwS at hJn
 unfold rwS
 refine fn_of (Γ:=Γ) (fn:=Try.f17) rfl rfl rfl rfl ?_
 repeat (refine sd ?_)
 refine Branch.intro (fun hc=>?_) (fun hc=>?_)
 ·exact absurd (show ((0:Nat):Int) > 8 from hc) (by omega)
 repeat (refine sd ?_)
 refine Loop.intro (σ:=Unit) (fun _=>True)
  (fun _=>([(1,.u8 lab),(2,.slx 1003 0 0 0),(3,.ptr 203 0 none),(6,.ptr 206 0 none),(8,.sl 218 0 0 1 1),(9,.i .i64 0)],
   [(1003,.mem false 0 [(0 * 1,.arr 0 1 (rwF []))]),(203,.mem true 0 [(1,.nilp)]),(206,.mem true 0 [(32,.a8 (List.replicate 32 0))]),(218,.mem true 0 [(1,.sl 217 0 0 1 1)]),(217,.mem true 0 [(1,.a8 [lab])])]))
  (fun _=>0) () trivial ?_ ?_
 ·refine Le.intro [(203,(3,0,none)),(206,(6,0,none)),(218,(18,0,none)),(217,(17,0,none))] rfl ?_ rfl ?_ rfl
  ·exact fc
  ·exact fc
 rintro - -
 refine Branch.intro (fun hc=>absurd hc (by show ¬ (0:Int) < ((0:Nat):Int);omega)) (fun _=>?_)
 repeat (refine sd ?_)
 refine Branch.intro (fun hn=>absurd trivial hn) (fun _=>?_)
 refine Call.intro hJn [(1003,(1003,0,none)),(1001,(301,0,none))] rfl fc rfl fc rfl ?_
 rintro v M' (⟨hnj,rfl,rfl⟩ | ⟨c1,N1,hj,hjl,hjc,rfl,rfl⟩)
 ·exact absurd hJ hnj
 dsimp only [putT,afterM,newEnt,ren,renA,renS,renL,look,getM,getT,ev,evL,ofVal,cond_true,cond_false,Nat.beq_eq,act,isPar,ownPar,Ent.isOwn]
 repeat (refine sd ?_)
 have hjle:=jnB_le hJ.2
 have hml:=hmac_length [lab] (jnB [])
 refine Call.intro (fn29 [lab] (jnB []) 1 N1 rfl hjl (by omega) (by have:=jnB_le hJ.2;have:=hJ.1;omega)) [(1000,(54,0,none)),(1001,(301,0,none))] rfl fc rfl fc rfl ?_
 rintro v M' ⟨rfl,rfl⟩
 dsimp only [putT,afterM,newEnt,ren,renA,renS,renL,look,getM,getT,ev,evL,ofVal,cond_true,cond_false,Nat.beq_eq,act,isPar,ownPar,Ent.isOwn]
 repeat (refine sd ?_)
 refine Ret.intro (.tup [.a8 (hmac [lab] (jnB [])),.tt]) [(1003,.mem false 0 [(0 * 1,.arr 0 1 (rwF []))])] [] rfl ?_ ⟨rfl,rfl⟩ rfl ?_ rfl ?_ rfl
 ·exact fc
 ·exact fc
 ·exact fc
end Go.Proofs.Ytlbmkjckbfeejaa
namespace Go.Proofs.Ytlbmkjckbfeejaa
open Go Go.Sx
set_option maxRecDepth 100000 in
set_option maxHeartbeats 1000000 in
theorem fnRMixRB (lab:UInt8) (L:List (List UInt8)) (n:Nat) (hn:L.length = n) (hn1:n ≤ 1000000) (hLs:∀ x ∈ L,x.length ≤ 1000000) (hb:n ≤ 8→∃ j,j < n∧1024 < (L.getD j []).length) :
  Sx.Fn Γ.P 17 [.agg [(1,.nilp)],.u8 lab,.slx 1003 0 0 n] [(1003,.mem false 0 (rwS n L))]
   (fun v M=>v = .tup [.a8 (List.replicate 32 0),.ff]∧M = [(1003,.mem false 0 (rwS n L))]):=by
 unfold rwS
 refine fn_of (Γ:=Γ) (fn:=Try.f17) rfl rfl rfl rfl ?_
 repeat (refine sd ?_)
 refine Branch.intro (fun hc=>?_) (fun hc=>?_)
 ·repeat (refine sd ?_)
  refine Ret.intro (.tup [.a8 (List.replicate 32 0),.ff]) [(1003,.mem false 0 [(n * 1,.arr n 1 (rwF L))])] [] rfl ?_ ⟨rfl,rfl⟩ rfl ?_ rfl ?_ rfl
  ·exact fc
  ·exact fc
  ·exact fc
 have hc:¬ (n:Int) > 8:=hc
 obtain ⟨j0,hj0,hj1⟩:=hb (by omega)
 repeat (refine sd ?_)
 refine Loop.intro (σ:=Option (Nat × Nat)) (fun s=>match s with | none=>True | some s=>1 ≤ s.1∧s.1 ≤ j0∧1 + s.1 ≤ s.2)
  (fun s=>match s with
   | none=>([(1,.u8 lab),(2,.slx 1003 0 0 n),(3,.ptr 203 0 none),(6,.ptr 206 0 none),(8,.sl 218 0 0 1 1),(9,.i .i64 0)],
   [(1003,.mem false 0 [(n * 1,.arr n 1 (rwF L))]),(203,.mem true 0 [(1,.nilp)]),(206,.mem true 0 [(32,.a8 (List.replicate 32 0))]),(218,.mem true 0 [(1,.sl 217 0 0 1 1)]),(217,.mem true 0 [(1,.a8 [lab])])])
   | some s=>([(1,.u8 lab),(2,.slx 1003 0 0 n),(3,.ptr 203 0 none),(6,.ptr 206 0 none),(8,.sl 208 0 0 (1 + s.1) s.2),(9,.i .i64 (s.1:Int))],
   [(1003,.mem false 0 [(n * 1,.arr n 1 (rwF L))]),(203,.mem true 0 [(1,.nilp)]),(206,.mem true 0 [(32,.a8 (List.replicate 32 0))]),(208,.mem true (s.2 - (1 + s.1)) [((1 + s.1) * 1,.arr (1 + s.1) 1 (rwF ([lab] :: L.take s.1)))])]))
  (fun s=>match s with | none=>n | some s=>n - s.1) none trivial ?_ ?_
 ·refine Le.intro [(203,(3,0,none)),(206,(6,0,none)),(218,(18,0,none)),(217,(17,0,none))] rfl ?_ rfl ?_ rfl
  ·exact fc
  ·exact fc
 rintro (_ | ⟨i,cc⟩) hi
 ·refine Branch.intro (fun hc=>?_) (fun hc=>?_)
  ·have hm:=hLs _ (getD_mem [] (L:=L) (i:=0) (by omega))
   repeat (refine sdn ?_)
   refine Branch.intro (fun hc2=>?_) (fun hc2=>?_)
   ·repeat (refine sdn ?_)
    refine Ret.intro (.tup [.a8 (List.replicate 32 0),.ff]) [(1003,.mem false 0 [(n * 1,.arr n 1 (rwF L))])] [] rfl ?_ ⟨rfl,rfl⟩ rfl ?_ rfl ?_ rfl
    ·exact fc
    ·exact fc
    ·exact fc
   have hc2:¬ (1024:Int) < ((L.getD (addQ 0 (Int.toNat (0:Int))) []).length:Int):=hc2
   rw [addQ_eq,Nat.zero_add,Int.toNat_zero] at hc2
   have hne:0 ≠ j0:=by rintro rfl;omega
   repeat (refine sdn ?_)
   refine fun c2 hc2=>?_
   have hc2:1 + 1 ≤ c2:=hc2
   repeat (refine sdn ?_)
   refine ⟨some (1,c2),⟨Nat.le_refl _,by show 1 ≤ j0;omega,hc2⟩,by show n - 1 < n;omega,Le.intro [(203,(203,0,none)),(206,(206,0,none)),(208,(38,0,none))] rfl ?_ rfl ?_ rfl⟩
   ·exact fcn
   ·repeat' (first | (show AllP _;first | exact trivial | refine AllP.app ?_ ?_ | refine AllP.appd ?_ ?_ | refine AllP.cons ?_ ?_) | with_reducible rfl | with_reducible assumption | omega | (simp only [Nat.zero_add,Int.toNat_natCast,rng,Ix.val,addQ_eq,addI,sz3,by3,sz5,by5,sz22,by22,sz23,by23,sz31,by31,sz32,by32,sz33,by33,sz40,by40,sz86,by86] <;> omega) | (simp only [Nat.zero_add,Int.toNat_natCast,rng,Ix.val,Int.toNat_natCast,mulE_eq,addQ_eq,addI,Option.getD_none,Option.getD_some,List.length_take,List.length_drop,List.length_append,List.length_set,List.length_replicate,sz3,by3,sz5,by5,sz22,by22,sz23,by23,sz31,by31,sz32,by32,sz33,by33,sz40,by40,sz86,by86, *] <;> omega) | (simp only [Ix.val];with_reducible assumption) | exact UInt8.toNat_lt _ | (apply Eq.trans;(with_reducible assumption);exact rfl) | exact rfl | exact fun _ _=>rfl)
    intro q hq
    have e:L.take 1 = [L.getD 0 []]:=by have:=take_succ_getD [] L 0 (by omega);simpa using this
    have hq:q < 1 + 1:=hq
    rw [show List.take (1,c2).1 L = [L.getD 0 []] from e]
    match q,hq with
    | 0,_=>rfl
    | 1,_=>
     simp only [mulE_eq,dropQ_eq,List.drop_zero,Ix.val,addQ_eq,Nat.zero_add,Int.toNat_natCast,Int.toNat_zero,List.nil_append,List.take_length,Nat.mul_one]
     show [(1,SV.isl 0 (L.getD 0 []).length 1 [((L.getD 0 []).length * 1,SV.a8 (L.getD 0 []))])] = _
     rw [Nat.mul_one]
     rfl
  ·exact absurd hc (by show ¬ ¬ (0:Int) < n;omega)
 ·obtain ⟨hi1,hin,hcc⟩:=hi
  have hi1:1 ≤ i:=hi1
  have hin:i ≤ j0:=hin
  have hcc:1 + i ≤ cc:=hcc
  have hlen:([lab] :: L.take i).length = 1 + i:=by rw [List.length_cons,List.length_take];omega
  refine Branch.intro (fun hc=>?_) (fun hc=>?_)
  ·have hc:(i:Int) < n:=hc
   have hm:=hLs _ (getD_mem [] (L:=L) (i:=i) (by omega))
   repeat (refine sdn ?_)
   refine Branch.intro (fun hc2=>?_) (fun hc2=>?_)
   ·repeat (refine sdn ?_)
    refine Ret.intro (.tup [.a8 (List.replicate 32 0),.ff]) [(1003,.mem false 0 [(n * 1,.arr n 1 (rwF L))])] [] rfl ?_ ⟨rfl,rfl⟩ rfl ?_ rfl ?_ rfl
    ·exact fc
    ·exact fc
    ·exact fc
   have hc2:¬ (1024:Int) < ((L.getD (addQ 0 (Int.toNat (i:Int))) []).length:Int):=hc2
   rw [addQ_eq,Nat.zero_add,Int.toNat_natCast] at hc2
   have hne:i ≠ j0:=by rintro rfl;omega
   repeat (refine sdn ?_)
   refine fun c2 hc2=>?_
   have hc2:1 + i + 1 ≤ c2:=hc2
   repeat (refine sdn ?_)
   refine ⟨some (i + 1,c2),⟨by show 1 ≤ i + 1;omega,by show i + 1 ≤ j0;omega,by show 1 + (i + 1) ≤ c2;omega⟩,by show n - (i + 1) < n - i;omega,Le.intro [(203,(203,0,none)),(206,(206,0,none)),(208,(38,0,none))] rfl ?_ rfl ?_ rfl⟩
   ·exact fcn
   ·repeat' (first | (show AllP _;first | exact trivial | refine AllP.app ?_ ?_ | refine AllP.appd ?_ ?_ | refine AllP.cons ?_ ?_) | with_reducible rfl | with_reducible assumption | omega | (simp only [Nat.zero_add,Int.toNat_natCast,rng,Ix.val,addQ_eq,addI,sz3,by3,sz5,by5,sz22,by22,sz23,by23,sz31,by31,sz32,by32,sz33,by33,sz40,by40,sz86,by86] <;> omega) | (simp only [Nat.zero_add,Int.toNat_natCast,rng,Ix.val,Int.toNat_natCast,mulE_eq,addQ_eq,addI,Option.getD_none,Option.getD_some,List.length_take,List.length_drop,List.length_append,List.length_set,List.length_replicate,sz3,by3,sz5,by5,sz22,by22,sz23,by23,sz31,by31,sz32,by32,sz33,by33,sz40,by40,sz86,by86, *] <;> omega) | (simp only [Ix.val];with_reducible assumption) | exact UInt8.toNat_lt _ | (apply Eq.trans;(with_reducible assumption);exact rfl) | exact rfl | exact fun _ _=>rfl)
    intro q hq
    have hq:q < 1 + i + 1:=by have hq:q < 1 + (i + 1):=hq;omega
    have e:[lab] :: L.take (i + 1) = ([lab] :: L.take i) ++ [L.getD i []]:=by rw [take_succ_getD [] L i (by omega)];rfl
    rw [show [lab] :: List.take (i + 1,c2).1 L = ([lab] :: L.take i) ++ [L.getD i []] from e,rw_next hlen q hq]
    simp only [mulE_eq,dropQ_eq,List.drop_zero,Ix.val,addQ_eq,Nat.zero_add,Int.toNat_natCast,List.nil_append,List.take_length,Nat.mul_one]
    rfl
  ·exact absurd hc (by show ¬ ¬ (i:Int) < n;omega)
set_option maxRecDepth 100000 in
set_option maxHeartbeats 1000000 in
theorem fnRMixFB (lab:UInt8) (L:List (List UInt8)) (n:Nat) (hn:L.length = n) (hn1:n ≤ 1000000) (hLs:∀ x ∈ L,x.length ≤ 1000000) (hb:n ≤ 8→∃ j,j < n∧1024 < (L.getD j []).length) :
  Sx.Fn Γ.P 17 [.agg [(1,.ptr 1000 0 none)],.u8 lab,.slx 1003 0 0 n] [(1003,.mem false 0 (rwS n L)),(1000,.dead)]
   (fun v M=>v = .tup [.a8 (List.replicate 32 0),.ff]∧M = [(1003,.mem false 0 (rwS n L)),(1000,.dead)]):=by
 unfold rwS
 refine fn_of (Γ:=Γ) (fn:=Try.f17) rfl rfl rfl rfl ?_
 repeat (refine sd ?_)
 refine Branch.intro (fun hc=>?_) (fun hc=>?_)
 ·repeat (refine sd ?_)
  refine Ret.intro (.tup [.a8 (List.replicate 32 0),.ff]) [(1003,.mem false 0 [(n * 1,.arr n 1 (rwF L))]),(1000,.dead)] [] rfl ?_ ⟨rfl,rfl⟩ rfl ?_ rfl ?_ rfl
  ·exact fc
  ·exact fc
  ·exact fc
 have hc:¬ (n:Int) > 8:=hc
 obtain ⟨j0,hj0,hj1⟩:=hb (by omega)
 repeat (refine sd ?_)
 refine Loop.intro (σ:=Option (Nat × Nat)) (fun s=>match s with | none=>True | some s=>1 ≤ s.1∧s.1 ≤ j0∧1 + s.1 ≤ s.2)
  (fun s=>match s with
   | none=>([(1,.u8 lab),(2,.slx 1003 0 0 n),(3,.ptr 203 0 none),(6,.ptr 206 0 none),(8,.sl 218 0 0 1 1),(9,.i .i64 0)],
   [(1003,.mem false 0 [(n * 1,.arr n 1 (rwF L))]),(1000,.dead),(203,.mem true 0 [(1,.ptr 1000 0 none)]),(206,.mem true 0 [(32,.a8 (List.replicate 32 0))]),(218,.mem true 0 [(1,.sl 217 0 0 1 1)]),(217,.mem true 0 [(1,.a8 [lab])])])
   | some s=>([(1,.u8 lab),(2,.slx 1003 0 0 n),(3,.ptr 203 0 none),(6,.ptr 206 0 none),(8,.sl 208 0 0 (1 + s.1) s.2),(9,.i .i64 (s.1:Int))],
   [(1003,.mem false 0 [(n * 1,.arr n 1 (rwF L))]),(1000,.dead),(203,.mem true 0 [(1,.ptr 1000 0 none)]),(206,.mem true 0 [(32,.a8 (List.replicate 32 0))]),(208,.mem true (s.2 - (1 + s.1)) [((1 + s.1) * 1,.arr (1 + s.1) 1 (rwF ([lab] :: L.take s.1)))])]))
  (fun s=>match s with | none=>n | some s=>n - s.1) none trivial ?_ ?_
 ·refine Le.intro [(203,(3,0,none)),(206,(6,0,none)),(218,(18,0,none)),(217,(17,0,none))] rfl ?_ rfl ?_ rfl
  ·exact fc
  ·exact fc
 rintro (_ | ⟨i,cc⟩) hi
 ·refine Branch.intro (fun hc=>?_) (fun hc=>?_)
  ·have hm:=hLs _ (getD_mem [] (L:=L) (i:=0) (by omega))
   repeat (refine sdn ?_)
   refine Branch.intro (fun hc2=>?_) (fun hc2=>?_)
   ·repeat (refine sdn ?_)
    refine Ret.intro (.tup [.a8 (List.replicate 32 0),.ff]) [(1003,.mem false 0 [(n * 1,.arr n 1 (rwF L))]),(1000,.dead)] [] rfl ?_ ⟨rfl,rfl⟩ rfl ?_ rfl ?_ rfl
    ·exact fc
    ·exact fc
    ·exact fc
   have hc2:¬ (1024:Int) < ((L.getD (addQ 0 (Int.toNat (0:Int))) []).length:Int):=hc2
   rw [addQ_eq,Nat.zero_add,Int.toNat_zero] at hc2
   have hne:0 ≠ j0:=by rintro rfl;omega
   repeat (refine sdn ?_)
   refine fun c2 hc2=>?_
   have hc2:1 + 1 ≤ c2:=hc2
   repeat (refine sdn ?_)
   refine ⟨some (1,c2),⟨Nat.le_refl _,by show 1 ≤ j0;omega,hc2⟩,by show n - 1 < n;omega,Le.intro [(203,(203,0,none)),(206,(206,0,none)),(208,(38,0,none))] rfl ?_ rfl ?_ rfl⟩
   ·exact fcn
   ·repeat' (first | (show AllP _;first | exact trivial | refine AllP.app ?_ ?_ | refine AllP.appd ?_ ?_ | refine AllP.cons ?_ ?_) | with_reducible rfl | with_reducible assumption | omega | (simp only [Nat.zero_add,Int.toNat_natCast,rng,Ix.val,addQ_eq,addI,sz3,by3,sz5,by5,sz22,by22,sz23,by23,sz31,by31,sz32,by32,sz33,by33,sz40,by40,sz86,by86] <;> omega) | (simp only [Nat.zero_add,Int.toNat_natCast,rng,Ix.val,Int.toNat_natCast,mulE_eq,addQ_eq,addI,Option.getD_none,Option.getD_some,List.length_take,List.length_drop,List.length_append,List.length_set,List.length_replicate,sz3,by3,sz5,by5,sz22,by22,sz23,by23,sz31,by31,sz32,by32,sz33,by33,sz40,by40,sz86,by86, *] <;> omega) | (simp only [Ix.val];with_reducible assumption) | exact UInt8.toNat_lt _ | (apply Eq.trans;(with_reducible assumption);exact rfl) | exact rfl | exact fun _ _=>rfl)
    intro q hq
    have e:L.take 1 = [L.getD 0 []]:=by have:=take_succ_getD [] L 0 (by omega);simpa using this
    have hq:q < 1 + 1:=hq
    rw [show List.take (1,c2).1 L = [L.getD 0 []] from e]
    match q,hq with
    | 0,_=>rfl
    | 1,_=>
     simp only [mulE_eq,dropQ_eq,List.drop_zero,Ix.val,addQ_eq,Nat.zero_add,Int.toNat_natCast,Int.toNat_zero,List.nil_append,List.take_length,Nat.mul_one]
     show [(1,SV.isl 0 (L.getD 0 []).length 1 [((L.getD 0 []).length * 1,SV.a8 (L.getD 0 []))])] = _
     rw [Nat.mul_one]
     rfl
  ·exact absurd hc (by show ¬ ¬ (0:Int) < n;omega)
 ·obtain ⟨hi1,hin,hcc⟩:=hi
  have hi1:1 ≤ i:=hi1
  have hin:i ≤ j0:=hin
  have hcc:1 + i ≤ cc:=hcc
  have hlen:([lab] :: L.take i).length = 1 + i:=by rw [List.length_cons,List.length_take];omega
  refine Branch.intro (fun hc=>?_) (fun hc=>?_)
  ·have hc:(i:Int) < n:=hc
   have hm:=hLs _ (getD_mem [] (L:=L) (i:=i) (by omega))
   repeat (refine sdn ?_)
   refine Branch.intro (fun hc2=>?_) (fun hc2=>?_)
   ·repeat (refine sdn ?_)
    refine Ret.intro (.tup [.a8 (List.replicate 32 0),.ff]) [(1003,.mem false 0 [(n * 1,.arr n 1 (rwF L))]),(1000,.dead)] [] rfl ?_ ⟨rfl,rfl⟩ rfl ?_ rfl ?_ rfl
    ·exact fc
    ·exact fc
    ·exact fc
   have hc2:¬ (1024:Int) < ((L.getD (addQ 0 (Int.toNat (i:Int))) []).length:Int):=hc2
   rw [addQ_eq,Nat.zero_add,Int.toNat_natCast] at hc2
   have hne:i ≠ j0:=by rintro rfl;omega
   repeat (refine sdn ?_)
   refine fun c2 hc2=>?_
   have hc2:1 + i + 1 ≤ c2:=hc2
   repeat (refine sdn ?_)
   refine ⟨some (i + 1,c2),⟨by show 1 ≤ i + 1;omega,by show i + 1 ≤ j0;omega,by show 1 + (i + 1) ≤ c2;omega⟩,by show n - (i + 1) < n - i;omega,Le.intro [(203,(203,0,none)),(206,(206,0,none)),(208,(38,0,none))] rfl ?_ rfl ?_ rfl⟩
   ·exact fcn
   ·repeat' (first | (show AllP _;first | exact trivial | refine AllP.app ?_ ?_ | refine AllP.appd ?_ ?_ | refine AllP.cons ?_ ?_) | with_reducible rfl | with_reducible assumption | omega | (simp only [Nat.zero_add,Int.toNat_natCast,rng,Ix.val,addQ_eq,addI,sz3,by3,sz5,by5,sz22,by22,sz23,by23,sz31,by31,sz32,by32,sz33,by33,sz40,by40,sz86,by86] <;> omega) | (simp only [Nat.zero_add,Int.toNat_natCast,rng,Ix.val,Int.toNat_natCast,mulE_eq,addQ_eq,addI,Option.getD_none,Option.getD_some,List.length_take,List.length_drop,List.length_append,List.length_set,List.length_replicate,sz3,by3,sz5,by5,sz22,by22,sz23,by23,sz31,by31,sz32,by32,sz33,by33,sz40,by40,sz86,by86, *] <;> omega) | (simp only [Ix.val];with_reducible assumption) | exact UInt8.toNat_lt _ | (apply Eq.trans;(with_reducible assumption);exact rfl) | exact rfl | exact fun _ _=>rfl)
    intro q hq
    have hq:q < 1 + i + 1:=by have hq:q < 1 + (i + 1):=hq;omega
    have e:[lab] :: L.take (i + 1) = ([lab] :: L.take i) ++ [L.getD i []]:=by rw [take_succ_getD [] L i (by omega)];rfl
    rw [show [lab] :: List.take (i + 1,c2).1 L = ([lab] :: L.take i) ++ [L.getD i []] from e,rw_next hlen q hq]
    simp only [mulE_eq,dropQ_eq,List.drop_zero,Ix.val,addQ_eq,Nat.zero_add,Int.toNat_natCast,List.nil_append,List.take_length,Nat.mul_one]
    rfl
  ·exact absurd hc (by show ¬ ¬ (i:Int) < n;omega)
end Go.Proofs.Ytlbmkjckbfeejaa
