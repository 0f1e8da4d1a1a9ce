/- What the functions of the program compute. No condition. -/
import Derived.Test.YtlbmkjckbfeejaaHwTm10ToCh1
set_option linter.unusedSimpArgs false
set_option linter.unusedVariables false
namespace Go.Proofs.Ytlbmkjckbfeejaa
open Go Go.Sx
set_option maxRecDepth 100000 in
set_option maxHeartbeats 1000000 in
theorem fnMixF (T:List Te) (N c:Nat) (hT:T.length = N) (hN:N ≤ 60000) (hNc:N ≤ c) (hTv:∀ x ∈ T,Valid x.1 x.2) (lab:UInt8) (L:List (List UInt8)) (n:Nat) (hn:L.length = n) (hn8:n ≤ 8) (hL:∀ x ∈ L,x.length ≤ 1024) :
    Sx.Fn Γ.P 16 [.agg [(1,.ptr 1000 0 none)],.u8 lab,.slx 1003 0 0 n] (MT N c T 1001 n L)
    (fun v M=>∃ n' c',(mkT T (7,[lab] :: L)).1.length = n'∧n' ≤ c'∧v = .tup [.a8 (kyB (mkT T (7,[lab] :: L)).2),.bool ((mkT T (7,[lab] :: L)).2 ≠ 0)]∧M = (1001,.dead) :: MT n' c' (mkT T (7,[lab] :: L)).1 1005 n L):=by
  have hMk:=fn21 T N c hT hN hNc hTv 7 ([lab] :: L) (1 + n) (by simp [hn];omega) (by omega) (fun x h=>by
    rcases List.mem_cons.1 h with rfl | h
    · simp
    · have:=hL x h;omega)
  unfold MT rwS at hMk
  unfold MT rwS rwF
  refine fn_of (Γ:=Γ) (fn:=Try.f16) rfl rfl rfl rfl ?_
  repeat (refine sd ?_)
  refine Branch.intro (fun hc=>?_) (fun hc=>?_)
  · exact absurd (show (n:Int) > 8 from hc) (by omega)
  repeat (refine sd ?_)
  refine Loop.intro (σ:=Nat) (fun s=>s ≤ n)
    (fun s=>([(1,.u8 lab),(2,.slx 1003 0 0 n),(3,.ptr 203 0 none),(6,.ptr 206 0 none),(16,.slx 1003 0 0 n),(17,.i .i64 (n:Int)),(18,.i .i64 (s:Int))],
      [(1003,.mem false 0 [(n * 1,.arr n 1 (rwF L))]),(203,.mem true 0 [(1,.ptr 1000 0 none)]),(206,.mem true 0 [(32,.a8 (List.replicate 32 0))]),
       (1000,.mem true 0 [(1,.sl 1001 0 0 N c),(1,.mp 1002)]),(1001,.mem true (mulE (c - N) 3) [(N * 3,.arr N 3 (ttF T))]),(1002,.map (.si (mpL T)))]))
    (fun s=>n - s) 0 (Nat.zero_le _) ?_ ?_
  · refine Le.intro [(203,(3,0,none)),(206,(6,0,none))] rfl ?_ rfl ?_ rfl
    · exact fc
    · exact fc
  rintro i hi
  have hi:i ≤ n:=hi
  refine Branch.intro (fun hc=>?_) (fun hc=>?_)
  · have hc:(i:Int) < n:=hc
    have hm:=hL _ (getD_mem [] (L:=L) (i:=i) (by omega))
    repeat (refine sdn ?_)
    refine Branch.intro (fun hc2=>?_) (fun _=>?_)
    · have hc2:(1024:Int) < ((L.getD (addQ 0 (Int.toNat (i:Int))) []).length:Int):=hc2
      rw [addQ_eq,Nat.zero_add,Int.toNat_natCast] at hc2
      exact absurd hc2 (by omega)
    repeat (refine sdn ?_)
    refine ⟨i + 1,by show i + 1 ≤ n;omega,by show n - (i + 1) < n - i;omega,Le.intro [(203,(203,0,none)),(206,(206,0,none))] rfl ?_ rfl ?_ rfl⟩
    · exact fcn
    · exact fcn
  repeat (refine sd ?_)
  refine Branch.intro (fun _=>?_) (fun hn=>?_)
  · repeat (refine sd ?_)
    refine Draw.intro [[],[0],[],[2],[2,3],[],[2,3,4,5],[0,1,2,3,4,5,6],[0,1,2,3,4,5,6,7],[0,1,2,3,4,5,6,7],[0,1,2,3,4,5,6,7,8,9],[0,1,2,3,4,5,6,7,8,9,10]] [0,1,2,3,4,5,6,7,8,9,10,11] (by kernel_rfl) ?_
    repeat (refine sd ?_)
    refine fun c2 hc2=>?_
    repeat (refine sd ?_)
    refine Grow.intro [(36,.mem true (c2 - (1 + n)) [(1 + n,.arr (1 + n) 1 (appF 1 (rowF [[(1,.isl 0 1 1 [(1,.a8 [lab])])]]) (shiftF 0 (rwF L))))]),(34,.dead),(33,.dead)] rfl rfl ?_
    repeat (refine sd ?_)
    have hc2:1 + n ≤ c2:=hc2
    have hrow:∀ q,q < 1 + n→rwF ([lab] :: L) q = appF 1 (rowF [[(1,.isl 0 1 1 [(1,.a8 [lab])])]]) (shiftF 0 (rwF L)) q:=by
      intro q hq
      match q with
      | 0=>rfl
      | q + 1=>rw [appF_ge (by omega),shiftF_eq,show 0 + (q + 1 - 1) = q by omega];rfl
    refine Call.intro hMk [(1000,(1000,0,none)),(1001,(1001,0,none)),(1002,(1002,0,none)),(1003,(36,0,none)),(1005,(305,0,none))] rfl fc rfl ?_ rfl ?_
    · exact fc
    rintro v M' ⟨n',c',hn',hnc',rfl,rfl⟩
    have hkyl:=kyB_length (mkT T (7,[lab] :: L)).2
    dsimp only [putT,afterM,newEnt,ren,renA,renS,renL,look,getM,getT,ev,evL,ofVal,cond_true,cond_false,Nat.beq_eq,act,isPar,ownPar,Ent.isOwn]
    repeat (refine sd ?_)
    refine Ret.intro (.tup [.a8 (kyB (mkT T (7,[lab] :: L)).2),.bool ((mkT T (7,[lab] :: L)).2 ≠ 0)]) ((1001,.dead) :: MT n' c' (mkT T (7,[lab] :: L)).1 1005 n L) [(1005,(305,0,none))] rfl ?_ ⟨n',c',hn',hnc',rfl,rfl⟩ rfl ?_ rfl ?_ rfl
    · exact fc
    · exact fc
    · exact fc
  · exact absurd hn (by simp)
end Go.Proofs.Ytlbmkjckbfeejaa
namespace Go.Proofs.Ytlbmkjckbfeejaa
open Go Go.Sx
theorem rw_next {x:List UInt8} {A:List (List UInt8)} {k:Nat} (hk:A.length = k):∀ q,q < k + 1→rwF (A ++ [x]) q = appF k (rwF A) (rowF [[(1,.isl 0 x.length 1 [(x.length * 1,.a8 x)])]]) q:=by
 subst hk
 intro q hq
 rcases Nat.lt_or_ge q A.length with h | h
 ·rw [appF_lt h];unfold rwF;rw [getD_app_lt [] h]
 ·obtain rfl:q = A.length:=by omega
  rw [appF_ge h];unfold rwF;rw [getD_app_at,Nat.sub_self];rfl
set_option maxRecDepth 100000 in
set_option maxHeartbeats 1000000 in
theorem fnRMixF (T:List Te) (N c:Nat) (hT:T.length = N) (hN:N ≤ 60000) (hNc:N ≤ c) (hTs:∀ x ∈ T,x.2.length ≤ 1000000) (lab:UInt8) (L:List (List UInt8)) (n:Nat) (hn:L.length = n) (hn1:1 ≤ n) (hn8:n ≤ 8) (hL:∀ x ∈ L,x.length ≤ 1024) :
    Sx.Fn Γ.P 17 [.agg [(1,.ptr 1000 0 none)],.u8 lab,.slx 1003 0 0 n] (M12 N c T 1001 n L)
    (fun v M=>∃ n' c',(mkT T (7,[lab] :: L)).1.length = n'∧n' ≤ c'∧v = .tup [.a8 (kyB (mkT T (7,[lab] :: L)).2),.bool ((mkT T (7,[lab] :: L)).2 ≠ 0)]∧M = (1001,.dead) :: M12 n' c' (mkT T (7,[lab] :: L)).1 1005 n L):=by
  have hMk:=fn26 T N c hT hN hNc hTs 7 ([lab] :: L) (1 + n) (by simp [hn];omega) (by omega) (fun x h=>by
    rcases List.mem_cons.1 h with rfl | h
    · simp
    · have:=hL x h;omega)
  unfold M12 rwS at hMk
  unfold M12 rwS
  refine fn_of (Γ:=Γ) (fn:=Try.f17) rfl rfl rfl rfl ?_
  repeat (refine sd ?_)
  refine Branch.intro (fun hc=>?_) (fun hc=>?_)
  · exact absurd (show (n:Int) > 8 from hc) (by omega)
  repeat (refine sd ?_)
  refine Loop.intro (σ:=Option (Nat × Nat)) (fun s=>match s with | none=>True | some s=>1 ≤ s.1∧s.1 ≤ n∧1 + s.1 ≤ s.2)
    (fun s=>match s with
      | none=>([(1,.u8 lab),(2,.slx 1003 0 0 n),(3,.ptr 203 0 none),(6,.ptr 206 0 none),(8,.sl 218 0 0 1 1),(9,.i .i64 0)],
      [(1003,.mem false 0 [(n * 1,.arr n 1 (rwF L))]),(203,.mem true 0 [(1,.ptr 1000 0 none)]),(206,.mem true 0 [(32,.a8 (List.replicate 32 0))]),(218,.mem true 0 [(1,.sl 217 0 0 1 1)]),(217,.mem true 0 [(1,.a8 [lab])]),
       (1000,.mem true 0 [(1,.sl 1001 0 0 N c)]),(1001,.mem true (mulE (c - N) 2) [(N * 2,.arr N 2 (rtF T))])])
      | some s=>([(1,.u8 lab),(2,.slx 1003 0 0 n),(3,.ptr 203 0 none),(6,.ptr 206 0 none),(8,.sl 208 0 0 (1 + s.1) s.2),(9,.i .i64 (s.1:Int))],
      [(1003,.mem false 0 [(n * 1,.arr n 1 (rwF L))]),(203,.mem true 0 [(1,.ptr 1000 0 none)]),(206,.mem true 0 [(32,.a8 (List.replicate 32 0))]),(208,.mem true (s.2 - (1 + s.1)) [((1 + s.1) * 1,.arr (1 + s.1) 1 (rwF ([lab] :: L.take s.1)))]),
       (1000,.mem true 0 [(1,.sl 1001 0 0 N c)]),(1001,.mem true (mulE (c - N) 2) [(N * 2,.arr N 2 (rtF T))])]))
    (fun s=>match s with | none=>n | some s=>n - s.1) none trivial ?_ ?_
  · refine Le.intro [(203,(3,0,none)),(206,(6,0,none)),(218,(18,0,none)),(217,(17,0,none))] rfl ?_ rfl ?_ rfl
    · exact fc
    · exact fc
  rintro (_ | ⟨i,cc⟩) hi
  · refine Branch.intro (fun hc=>?_) (fun hc=>?_)
    · have hm:=hL _ (getD_mem [] (L:=L) (i:=0) (by omega))
      repeat (refine sdn ?_)
      refine Branch.intro (fun hc2=>?_) (fun _=>?_)
      · have hc2:(1024:Int) < ((L.getD (addQ 0 (Int.toNat (0:Int))) []).length:Int):=hc2
        rw [addQ_eq,Nat.zero_add,Int.toNat_zero] at hc2
        exact absurd hc2 (by omega)
      repeat (refine sdn ?_)
      refine fun c2 hc2=>?_
      have hc2:1 + 1 ≤ c2:=hc2
      repeat (refine sdn ?_)
      refine ⟨some (1,c2),⟨Nat.le_refl _,hn1,hc2⟩,by show n - 1 < n;omega,Le.intro [(203,(203,0,none)),(206,(206,0,none)),(208,(38,0,none))] rfl ?_ rfl ?_ rfl⟩
      · exact fcn
      · repeat' (first | (show AllP _;first | exact trivial | refine AllP.app ?_ ?_ | refine AllP.appd ?_ ?_ | refine AllP.cons ?_ ?_) | with_reducible rfl | with_reducible assumption | omega | (simp only [Nat.zero_add,Int.toNat_natCast,rng,Ix.val,addQ_eq,addI,sz3,by3,sz5,by5,sz22,by22,sz23,by23,sz31,by31,sz32,by32,sz33,by33,sz40,by40,sz84,by84,sz85,by85,sz86,by86,sz87,by87,sz88,by88] <;> omega) | (simp only [Nat.zero_add,Int.toNat_natCast,rng,Ix.val,Int.toNat_natCast,mulE_eq,addQ_eq,addI,Option.getD_none,Option.getD_some,List.length_take,List.length_drop,List.length_append,List.length_set,List.length_replicate,sz3,by3,sz5,by5,sz22,by22,sz23,by23,sz31,by31,sz32,by32,sz33,by33,sz40,by40,sz84,by84,sz85,by85,sz86,by86,sz87,by87,sz88,by88, *] <;> omega) | (simp only [Ix.val];with_reducible assumption) | exact UInt8.toNat_lt _ | (apply Eq.trans;(with_reducible assumption);exact rfl) | exact rfl | exact fun _ _=>rfl)
        intro q hq
        have e:L.take 1 = [L.getD 0 []]:=by have:=take_succ_getD [] L 0 (by omega);simpa using this
        have hq:q < 1 + 1:=hq
        rw [show List.take (1,c2).1 L = [L.getD 0 []] from e]
        match q,hq with
        | 0,_=>rfl
        | 1,_=>
          simp only [mulE_eq,dropQ_eq,List.drop_zero,Ix.val,addQ_eq,Nat.zero_add,Int.toNat_natCast,Int.toNat_zero,List.nil_append,List.take_length,Nat.mul_one]
          show [(1,SV.isl 0 (L.getD 0 []).length 1 [((L.getD 0 []).length * 1,SV.a8 (L.getD 0 []))])] = _
          rw [Nat.mul_one]
          rfl
    · exact absurd hc (by show ¬ ¬ (0:Int) < n;omega)
  · obtain ⟨hi1,hin,hcc⟩:=hi
    have hi1:1 ≤ i:=hi1
    have hin:i ≤ n:=hin
    have hcc:1 + i ≤ cc:=hcc
    have hlen:([lab] :: L.take i).length = 1 + i:=by rw [List.length_cons,List.length_take];omega
    refine Branch.intro (fun hc=>?_) (fun hc=>?_)
    · have hc:(i:Int) < n:=hc
      have hm:=hL _ (getD_mem [] (L:=L) (i:=i) (by omega))
      repeat (refine sdn ?_)
      refine Branch.intro (fun hc2=>?_) (fun _=>?_)
      · have hc2:(1024:Int) < ((L.getD (addQ 0 (Int.toNat (i:Int))) []).length:Int):=hc2
        rw [addQ_eq,Nat.zero_add,Int.toNat_natCast] at hc2
        exact absurd hc2 (by omega)
      repeat (refine sdn ?_)
      refine fun c2 hc2=>?_
      have hc2:1 + i + 1 ≤ c2:=hc2
      repeat (refine sdn ?_)
      refine ⟨some (i + 1,c2),⟨by show 1 ≤ i + 1;omega,by show i + 1 ≤ n;omega,by show 1 + (i + 1) ≤ c2;omega⟩,by show n - (i + 1) < n - i;omega,Le.intro [(203,(203,0,none)),(206,(206,0,none)),(208,(38,0,none))] rfl ?_ rfl ?_ rfl⟩
      · exact fcn
      · repeat' (first | (show AllP _;first | exact trivial | refine AllP.app ?_ ?_ | refine AllP.appd ?_ ?_ | refine AllP.cons ?_ ?_) | with_reducible rfl | with_reducible assumption | omega | (simp only [Nat.zero_add,Int.toNat_natCast,rng,Ix.val,addQ_eq,addI,sz3,by3,sz5,by5,sz22,by22,sz23,by23,sz31,by31,sz32,by32,sz33,by33,sz40,by40,sz84,by84,sz85,by85,sz86,by86,sz87,by87,sz88,by88] <;> omega) | (simp only [Nat.zero_add,Int.toNat_natCast,rng,Ix.val,Int.toNat_natCast,mulE_eq,addQ_eq,addI,Option.getD_none,Option.getD_some,List.length_take,List.length_drop,List.length_append,List.length_set,List.length_replicate,sz3,by3,sz5,by5,sz22,by22,sz23,by23,sz31,by31,sz32,by32,sz33,by33,sz40,by40,sz84,by84,sz85,by85,sz86,by86,sz87,by87,sz88,by88, *] <;> omega) | (simp only [Ix.val];with_reducible assumption) | exact UInt8.toNat_lt _ | (apply Eq.trans;(with_reducible assumption);exact rfl) | exact rfl | exact fun _ _=>rfl)
        intro q hq
        have hq:q < 1 + i + 1:=by have hq:q < 1 + (i + 1):=hq;omega
        have e:[lab] :: L.take (i + 1) = ([lab] :: L.take i) ++ [L.getD i []]:=by rw [take_succ_getD [] L i (by omega)];rfl
        rw [show [lab] :: List.take (i + 1,c2).1 L = ([lab] :: L.take i) ++ [L.getD i []] from e,rw_next hlen q hq]
        simp only [mulE_eq,dropQ_eq,List.drop_zero,Ix.val,addQ_eq,Nat.zero_add,Int.toNat_natCast,List.nil_append,List.take_length,Nat.mul_one]
        rfl
    · have hc:¬ (i:Int) < n:=hc
      obtain rfl:i = n:=by omega
      have htk:L.take i = L:=List.take_of_length_le (by omega)
      have hrow:∀ q,q < 1 + i→rwF ([lab] :: L) q = rwF ([lab] :: L.take i) q:=by rw [htk];exact fun _ _=>rfl
      repeat (refine sd ?_)
      refine Branch.intro (fun _=>?_) (fun hn=>absurd hn (by simp))
      repeat (refine sd ?_)
      refine Call.intro hMk [(1000,(1000,0,none)),(1001,(1001,0,none)),(1003,(208,0,none)),(1005,(305,0,none))] rfl fc rfl ?_ rfl ?_
      · repeat' (first | (show AllP _;first | exact trivial | refine AllP.app ?_ ?_ | refine AllP.appd ?_ ?_ | refine AllP.cons ?_ ?_) | with_reducible rfl | with_reducible assumption | omega | (simp only [rng,Ix.val,addQ_eq,addI,sz3,by3,sz5,by5,sz22,by22,sz23,by23,sz31,by31,sz32,by32,sz33,by33,sz40,by40,sz84,by84,sz85,by85,sz86,by86,sz87,by87,sz88,by88] <;> omega) | (simp only [rng,Ix.val,Int.toNat_natCast,mulE_eq,addQ_eq,addI,Option.getD_none,Option.getD_some,List.length_take,List.length_drop,List.length_append,List.length_set,List.length_replicate,sz3,by3,sz5,by5,sz22,by22,sz23,by23,sz31,by31,sz32,by32,sz33,by33,sz40,by40,sz84,by84,sz85,by85,sz86,by86,sz87,by87,sz88,by88, *] <;> omega) | (simp only [Ix.val];with_reducible assumption) | exact UInt8.toNat_lt _ | (apply Eq.trans;(with_reducible assumption);exact rfl) | exact rfl | exact fun _ _=>rfl)
        all_goals exact hrow
      rintro v M' ⟨n',c',hn',hnc',rfl,rfl⟩
      have hkyl:=kyB_length (mkT T (7,[lab] :: L)).2
      dsimp only [putT,afterM,newEnt,ren,renA,renS,renL,look,getM,getT,ev,evL,ofVal,cond_true,cond_false,Nat.beq_eq,act,isPar,ownPar,Ent.isOwn]
      repeat (refine sd ?_)
      refine Ret.intro (.tup [.a8 (kyB (mkT T (7,[lab] :: L)).2),.bool ((mkT T (7,[lab] :: L)).2 ≠ 0)]) ((1001,.dead) :: M12 n' c' (mkT T (7,[lab] :: L)).1 1005 i L) [(1005,(305,0,none))] rfl ?_ ⟨n',c',hn',hnc',rfl,rfl⟩ rfl ?_ rfl ?_ rfl
      · exact fc
      · exact fc
      · exact fc
end Go.Proofs.Ytlbmkjckbfeejaa
