/- What the functions of the program compute. No condition. -/
import Derived.Test.YtimbdhpchlakfaaHwTm6ToTm9
set_option linter.unusedSimpArgs false
set_option linter.unusedVariables false
namespace Go.Proofs.Ytimbdhpchlakfaa
open Go Go.Sx
def nwF (q:Nat) (L:List (List UInt8)) (j:Nat):List (Nat × SV):=[(1,.isl 0 (inL (L.getD j []) q 0).length 1 [((inL (L.getD j []) q 0).length * 1,.ai (toI (inL (L.getD j []) q 0)))])]
def nmS (q:Nat) (L:List (List UInt8)):SV:=.isl 0 L.length 1 [(L.length * 1,.arr L.length 1 (nwF q L))]
def ttF (T:List Te) (q:Nat):List (Nat × SV):=[(1,.i .i64 (T.getD q te0).1),(1,prS (T.getD q te0).2),(1,nmS q (T.getD q te0).2)]
def MT (n c:Nat) (T:List Te) (a m:Nat) (L:List (List UInt8)):Mm:=[(1000,.mem true 0 [(1,.sl a 0 0 n c),(1,.mp 1002)]),(a,.mem true (mulE (c - n) 3) [(n * 3,.arr n 3 (ttF T))]),(1002,.map (.si (mpL T))),(1003,.mem false 0 (rwS m L))]
theorem ttF_lt {T:List Te} {x:Te} {q:Nat} (h:q < T.length):ttF (T ++ [x]) q = ttF T q:=by
 unfold ttF;rw [getD_app_lt te0 h]
theorem ttF_at (T:List Te) (x:Te):ttF (T ++ [x]) T.length = [(1,.i .i64 x.1),(1,prS x.2),(1,nmS T.length x.2)]:=by
 unfold ttF;rw [getD_app_at]
set_option maxRecDepth 100000 in
set_option maxHeartbeats 1000000 in
theorem fn18 (T:List Te) (n c:Nat) (hT:T.length = n) (hn:n ≤ 60000) (hnc:n ≤ c) (hTv:∀ x ∈ T,Valid x.1 x.2) (k:Int) (L:List (List UInt8)) (m:Nat) (hL:L.length = m) (hm1:m ≤ 1000000) (hLs:∀ x ∈ L,x.length ≤ 1000000) :
  Sx.Fn Γ.P 18 [.ptr 1000 0 none,.i .i64 k,.slx 1003 0 0 m] (MT n c T 1001 m L)
  (fun v M=>∃ n' c',(mkT T (k,L)).1.length = n'∧n' ≤ c'∧v = .tup [.a8 (kyB (mkT T (k,L)).2),.bool ((mkT T (k,L)).2 ≠ 0)]∧M = (1001,.dead) :: MT n' c' (mkT T (k,L)).1 1005 m L):=by
 have hJ:=fn33 L m hL hm1 hLs
 have hky:=keyT_eq (k,L)
 unfold rwS rwF at hJ
 unfold MT rwS rwF
 refine fn_of (Γ:=Γ) (fn:=Try.f18) rfl rfl rfl rfl ?_
 repeat (refine sd ?_)
 refine Call.intro hJ [(1003,(1003,0,none)),(1001,(300,0,none))] rfl fc rfl fc rfl ?_
 rintro v M' (⟨hnj,rfl,rfl⟩ | ⟨c1,N1,hj,hjl,hjc,rfl,rfl⟩)
 ·have hmk:mkT T (k,L) = (T,0):=mkT_no fun h=>hnj h.1
  dsimp only [putT,afterM,newEnt,ren,renA,renS,renL,look,getM,getT,ev,evL,ofVal,cond_true,cond_false,Nat.beq_eq,act,isPar,ownPar,Ent.isOwn]
  repeat (refine sd ?_)
  refine Ret.intro (.tup [.a8 (List.replicate 32 0),.bool ((mkT T (k,L)).2 ≠ 0)]) [(1001,.dead),(1000,.mem true 0 [(1,.sl 1005 0 0 n c),(1,.mp 1002)]),(1005,.mem true (mulE (c - n) 3) [(n * 3,.arr n 3 (ttF T))]),(1002,.map (.si (mpL T))),(1003,.mem false 0 [(m * 1,.arr m 1 (rwF L))])] [(1005,(1001,0,none))] rfl ?_ ⟨n,c,by rw [hmk];exact hT,hnc,by rw [hmk];rfl,by rw [hmk];rfl⟩ rfl ?_ rfl ?_ rfl
  ·exact fc
  ·exact fc
  ·exact fc
 dsimp only [putT,afterM,newEnt,ren,renA,renS,renL,look,getM,getT,ev,evL,ofVal,cond_true,cond_false,Nat.beq_eq,act,isPar,ownPar,Ent.isOwn]
 repeat (refine sd ?_)
 refine Branch.intro (fun h1=>?_) (fun h1=>?_)
 ·have h1:k < 1:=h1
  have hmk:mkT T (k,L) = (T,0):=mkT_no fun h=>by have:=h.2.1;simp only at this;omega
  repeat (refine sd ?_)
  refine Ret.intro (.tup [.a8 (List.replicate 32 0),.bool ((mkT T (k,L)).2 ≠ 0)]) [(1001,.dead),(1000,.mem true 0 [(1,.sl 1005 0 0 n c),(1,.mp 1002)]),(1005,.mem true (mulE (c - n) 3) [(n * 3,.arr n 3 (ttF T))]),(1002,.map (.si (mpL T))),(1003,.mem false 0 [(m * 1,.arr m 1 (rwF L))])] [(1005,(1001,0,none))] rfl ?_ ⟨n,c,by rw [hmk];exact hT,hnc,by rw [hmk];rfl,by rw [hmk];rfl⟩ rfl ?_ rfl ?_ rfl
  ·exact fc
  ·exact fc
  ·exact fc
 have h1:¬ k < 1:=h1
 refine Branch.intro (fun h2=>?_) (fun h2=>?_)
 ·have h2:k > 8:=h2
  have hmk:mkT T (k,L) = (T,0):=mkT_no fun h=>by have:=h.2.2;simp only at this;omega
  repeat (refine sd ?_)
  refine Ret.intro (.tup [.a8 (List.replicate 32 0),.bool ((mkT T (k,L)).2 ≠ 0)]) [(1001,.dead),(1000,.mem true 0 [(1,.sl 1005 0 0 n c),(1,.mp 1002)]),(1005,.mem true (mulE (c - n) 3) [(n * 3,.arr n 3 (ttF T))]),(1002,.map (.si (mpL T))),(1003,.mem false 0 [(m * 1,.arr m 1 (rwF L))])] [(1005,(1001,0,none))] rfl ?_ ⟨n,c,by rw [hmk];exact hT,hnc,by rw [hmk];rfl,by rw [hmk];rfl⟩ rfl ?_ rfl ?_ rfl
  ·exact fc
  ·exact fc
  ·exact fc
 have h2:¬ k > 8:=h2
 have hV:Valid k L:=⟨hj,by omega,by omega⟩
 have hjle:=jnB_le hj.2
 have hj64:=hj.1
 have hky2:keyT (k,L) = jnB L ++ [UInt8.ofInt k]:=hky
 have hkl:(keyT (k,L)).length = N1 + 1:=by rw [hky,List.length_append,hjl];rfl
 repeat (refine sd ?_)
 refine fun c2 hc2=>?_
 have hc2:N1 + 1 ≤ c2:=hc2
 repeat (refine sd ?_)
 refine Draw.intro [[],[0],[0,1],[0,1,2],[],[4],[0,1,2,3,4,5],[0,1,2,3,4,5,6],[0,1,2,3,4,5,6,7],[0,1,2,3,4,5,6,7],[0,1,2,3,4,5,6,7,8],[0,1,2,3,4,5,6,7,8,9,10]] [0,1,2,3,4,5,6,7,8,9,10,11] (by kernel_rfl) ?_
 repeat (refine sd ?_)
 have hq:List.take (N1 + 1) (List.drop 0 (dropQ (addI none 0) (jnB L) ++ List.take 1 (List.drop 0 (UInt8.ofInt k :: List.replicate 0 0)))) = keyT (k,L):=by
  rw [hky,dropQ_eq]
  exact List.take_of_length_le (by rw [← hkl,hky];exact Nat.le_refl _)
 refine Branch.intro (fun hs=>?_) (fun hs=>?_)
 ·have hs:(mpGet (mpL T) (List.take (N1 + 1) (List.drop 0 (dropQ (addI none 0) (jnB L) ++ List.take 1 (List.drop 0 (UInt8.ofInt k :: List.replicate 0 0)))))).isSome = true:=hs
  rw [hq] at hs
  obtain ⟨i,hi⟩:∃ i,fdT (k,L) T = i + 1:=by
   cases hf:fdT (k,L) T with
   | zero=>rw [mpL_none hV hTv hf] at hs;cases hs
   | succ i=>exact ⟨i,rfl⟩
  have hmk:mkT T (k,L) = (T,i + 1):=mkT_old hV hi
  have hg:=mpL_some hV hTv hi
  have hil:=fdT_le (k,L) T
  have hN:=fn34 (i + 1) (by omega)
  have hnl:=nameB_length (i + 1)
  repeat (refine sd ?_)
  refine Call.intro hN [] rfl ?_ rfl trivial rfl ?_
  ·show ((i + 1:Nat):Int) = (mpGet (mpL T) (List.take (N1 + 1) (List.drop 0 (dropQ (addI none 0) (jnB L) ++ List.take 1 (List.drop 0 (UInt8.ofInt k :: List.replicate 0 0)))))).getD 0
   rw [hq,hg];rfl
  rintro v M' ⟨rfl,rfl⟩
  dsimp only [putT,afterM,newEnt,ren,renA,renS,renL,look,getM,getT,ev,evL,ofVal,cond_true,cond_false,Nat.beq_eq,act,isPar,ownPar,Ent.isOwn]
  repeat (refine sd ?_)
  refine Ret.intro (.tup [.a8 (nameB (i + 1)),.bool ((mkT T (k,L)).2 ≠ 0)]) [(1001,.dead),(1000,.mem true 0 [(1,.sl 1005 0 0 n c),(1,.mp 1002)]),(1005,.mem true (mulE (c - n) 3) [(n * 3,.arr n 3 (ttF T))]),(1002,.map (.si (mpL T))),(1003,.mem false 0 [(m * 1,.arr m 1 (rwF L))])] [(1005,(1001,0,none))] rfl ?_ ⟨n,c,by rw [hmk];exact hT,hnc,by rw [hmk];rfl,by rw [hmk];rfl⟩ rfl ?_ rfl ?_ rfl
  ·exact fc
  ·exact fc
  ·exact fc
 have hs:¬ (mpGet (mpL T) (List.take (N1 + 1) (List.drop 0 (dropQ (addI none 0) (jnB L) ++ List.take 1 (List.drop 0 (UInt8.ofInt k :: List.replicate 0 0)))))).isSome = true:=hs
 rw [hq] at hs
 have hi:fdT (k,L) T = 0:=by
  cases hf:fdT (k,L) T with
  | zero=>rfl
  | succ i=>rw [mpL_some hV hTv hf] at hs;exact absurd rfl hs
 have hg:=mpL_none hV hTv hi
 have hmk:mkT T (k,L) = (T ++ [(k,L)],n + 1):=by
  rw [mkT_new hV hi,hT]
 repeat (refine sd ?_)
 refine Branch.intro (fun h=>absurd h (by omega)) (fun _=>?_)
 repeat (refine sd ?_)
 refine Loop.intro (σ:=Nat × Nat × Nat) (fun s=>s.1 ≤ m∧s.1 ≤ s.2.1∧s.1 ≤ s.2.2)
  (fun s=>([(0,.ptr 1000 0 none),(6,.ptr 6 0 none),(8,.sl 208 0 0 (N1 + 1) c2),(12,.ptr 12 0 none),(58,.slx 1003 0 0 m),(59,.i .i64 (m:Int)),(60,.i .i64 (s.1:Int))],[(1000,.mem true 0 [(1,.sl 1001 0 0 n c),(1,.mp 1002)]),(1001,.mem true (mulE (c - n) 3) [(n * 3,.arr n 3 (ttF T))]),(1002,.map (.si (mpL T))),(1003,.mem false 0 [(m * 1,.arr m 1 (rwF L))]),(6,.mem true 0 [(32,.a8 (List.replicate 32 0))]),
   (208,.mem true (c2 - (N1 + 1)) [(N1 + 1,.a8 (keyT (k,L)))]),(12,.mem true 0 [(1,.i .i64 k),(1,.sl 206 0 0 s.1 s.2.1),(1,.sl 207 0 0 s.1 s.2.2)]),(206,.mem true (s.2.1 - s.1) [(s.1 * 1,.arr s.1 1 (rwF L))]),(207,.mem true (s.2.2 - s.1) [(s.1 * 1,.arr s.1 1 (nwF n L))])]))
  (fun s=>m - s.1) (0,0,0) ⟨Nat.zero_le _,Nat.le_refl _,Nat.le_refl _⟩ ?_ ?_
 ·refine Le.ghost [.own 206 [(0,.arr 0 1 (rwF L))],.own 207 [(0,.arr 0 1 (nwF n L))],.leaf 12 1 206,.leaf 12 2 207] [] [(208,(35,0,none))] rfl ⟨⟨rfl,rfl,trivial⟩,⟨rfl,rfl,trivial⟩⟩ rfl rfl ?_ rfl ?_ rfl
  ·exact fc
  ·repeat' (first | (show AllP _;first | exact trivial | refine AllP.app ?_ ?_ | refine AllP.appd ?_ ?_ | refine AllP.cons ?_ ?_) | exact fd | fail)
   all_goals (rw [hky];exact rfl)
 rintro ⟨i2,ca,cb⟩ ⟨hi2,hca,hcb⟩
 have hi2:i2 ≤ m:=hi2
 have hca:i2 ≤ ca:=hca
 have hcb:i2 ≤ cb:=hcb
 repeat (refine sd ?_)
 refine Branch.intro (fun hc=>?_) (fun hc=>?_)
 ·have hc:(i2:Int) < m:=hc
  have hll:=hLs _ (getD_mem [] (L:=L) (i:=i2) (by omega))
  repeat (refine sdn ?_)
  refine Draw.intro [[],[0],[],[],[2,3],[2,3,4],[0,1,2,3,4,5],[0,1,2,3,4,5,6],[0,1,2,3,4,5,6,7]] [0,1,2,3,4,5,6,7,8] (by kernel_rfl) ?_
  repeat (refine sdn ?_)
  refine fun c3 hc3=>?_
  repeat (refine sdn ?_)
  refine Grow.intro [(68,.mem true (c3 - (0 + (L.getD i2 []).length)) [(0 + (L.getD i2 []).length,.a8 ([] ++ (L.getD i2 []).take (L.getD i2 []).length))]),(66,.dead)] rfl rfl ?_
  repeat (refine sdn ?_)
  refine fun c4 hc4=>?_
  repeat (refine sdn ?_)
  have hI:=fn35 (L.getD i2 []) (L.getD i2 []).length rfl n (by omega) hll
  refine Draw.intro [[],[0],[],[],[3],[3,4],[3,4,5],[3,4,5,6],[2,3,4,5,6,7],[2,3,4,5,6,7,8],[0,1,2,3,4,5,6,7,8,9],[0,1,2,3,4,5,6,7,8,9,10],[0,1,2,3,4,5,6,7,8,9,10,11]] [0,1,2,3,4,5,6,7,8,9,10,11,12] (by kernel_rfl) ?_
  repeat (refine sdn ?_)
  refine Call.name [(2001,[]),(0,[])] rfl trivial (CallP.intro hI [(1003,(2001,0,none)),(1001,(301,0,none))] rfl fcn rfl fcn rfl ?_)
  rintro v M' ⟨l,cl,rfl,hlc,rfl,rfl⟩
  dsimp only [putT,afterM,newEnt,ren,renA,renS,renL,look,getM,getT,ev,evL,ofVal,cond_true,cond_false,Nat.beq_eq,act,isPar,ownPar,Ent.isOwn]
  have htl:=toI_len (inL (L.getD i2 []) n 0)
  refine Grow.intro [(301,.mem true (cl - (toI (inL (L.getD i2 []) n 0)).length) [((toI (inL (L.getD i2 []) n 0)).length,.ai (toI (inL (L.getD i2 []) n 0)))]),(2001,.mem false 1 [((L.getD i2 []).length * 1,.a8 (L.getD i2 []))])] rfl rfl ?_
  repeat (refine sdn ?_)
  refine fun c5 hc5=>?_
  repeat (refine sdn ?_)
  have hc4:i2 + 1 ≤ c4:=hc4
  have hc5:i2 + 1 ≤ c5:=hc5
  refine ⟨(i2 + 1,c4,c5),⟨by show i2 + 1 ≤ m;omega,hc4,hc5⟩,by show m - (i2 + 1) < m - i2;omega,Le.intro [(206,(70,0,none)),(207,(82,0,none))] rfl ?_ rfl ?_ rfl⟩
  ·exact fcn
  ·repeat' (first | (show AllP _;first | exact trivial | refine AllP.app ?_ ?_ | refine AllP.appd ?_ ?_ | refine AllP.cons ?_ ?_) | exact fdn | fail)
   ·refine appF_row (fun q _=>by rw [shiftF_eq,Nat.zero_add]) ?_
    simp only [mulE_eq,dropQ_eq,List.drop_zero,Ix.val,addQ_eq,Nat.zero_add,Int.toNat_natCast,List.nil_append,List.take_length,Nat.mul_one,rwF]
   ·refine appF_row (fun q _=>by rw [shiftF_eq,Nat.zero_add]) ?_
    simp only [mulE_eq,dropQ_eq,List.drop_zero,Ix.val,addQ_eq,Nat.zero_add,Int.toNat_natCast,List.nil_append,List.take_length,Nat.mul_one,nwF,toI_len]
    exact rfl
 have hc:¬ (i2:Int) < m:=hc
 obtain rfl:i2 = m:=by omega
 repeat (refine sdn ?_)
 refine Draw.intro [[],[],[1],[1,2],[1,2,3],[],[5],[1,2,3,4,5,6],[0,1,2,3,4,5,6,7],[0,1,2,3,4,5,6,7,8],[0,1,2,3,4,5,6,7,8,9]] [0,1,2,3,4,5,6,7,8,9,10] (by kernel_rfl) ?_
 repeat (refine sdn ?_)
 refine fun c6 hc6=>?_
 repeat (refine sdn ?_)
 have hc6:n + 1 ≤ c6:=hc6
 have hq2:List.take (N1 + 1) (List.drop 0 (keyT (k,L))) = keyT (k,L):=List.take_of_length_le (by rw [← hkl];exact Nat.le_refl _)
 refine Draw.intro [[],[0],[0,1],[0,1,2],[],[4],[],[6],[6,7],[6,7,8],[6,7,8,9],[0,1,2,3,4,5,6,7,8,9,10]] [0,1,2,3,4,5,6,7,8,9,10,11] (by kernel_rfl) ?_
 repeat (refine Side.intro (by repeat' (first | (show AllP _;first | exact trivial | refine AllP.app ?_ ?_ | refine AllP.appd ?_ ?_ | refine AllP.cons ?_ ?_) | with_reducible rfl | with_reducible assumption | omega | (simp only [hq2,hg,rng,Ix.val,addQ_eq,addI,szs] <;> omega) | (simp only [hq2,hg,rng,Ix.val,Int.toNat_natCast,mulE_eq,addQ_eq,addI,Option.getD_none,Option.getD_some,List.length_take,List.length_drop,List.length_append,List.length_set,List.length_replicate,szs, *] <;> omega) | (simp only [Ix.val];with_reducible assumption) | exact UInt8.toNat_lt _ | (apply Eq.trans;(with_reducible assumption);exact rfl) | exact rfl | exact fun _ _=>rfl)) ?_)
 have hN:=fn34 (n + 1) (by omega)
 have hnl:=nameB_length (n + 1)
 refine Call.intro hN [] rfl fc rfl trivial rfl ?_
 rintro v M' ⟨rfl,rfl⟩
 dsimp only [putT,afterM,newEnt,ren,renA,renS,renL,look,getM,getT,ev,evL,ofVal,cond_true,cond_false,Nat.beq_eq,act,isPar,ownPar,Ent.isOwn]
 repeat (refine sd ?_)
 have happ:=mpL_app T (k,L)
 rw [hT] at happ
 refine Ret.intro (.tup [.a8 (nameB (n + 1)),.bool ((mkT T (k,L)).2 ≠ 0)]) [(1001,.dead),(1000,.mem true 0 [(1,.sl 1005 0 0 (n + 1) c6),(1,.mp 1002)]),(1005,.mem true (mulE (c6 - (n + 1)) 3) [((n + 1) * 3,.arr (n + 1) 3 (ttF (T ++ [(k,L)])))]),(1002,.map (.si (mpL (T ++ [(k,L)])))),(1003,.mem false 0 [(i2 * 1,.arr i2 1 (rwF L))])] [(1005,(92,0,none))] rfl ?_ ⟨n + 1,c6,by rw [hmk];simp [hT],hc6,by rw [hmk];rfl,by rw [hmk];rfl⟩ rfl ?_ rfl ?_ rfl
 ·exact fc
 ·exact fc
 ·repeat' (first | (show AllP _;first | exact trivial | refine AllP.app ?_ ?_ | refine AllP.appd ?_ ?_ | refine AllP.cons ?_ ?_) | exact fd | fail)
  ·refine appF_row (fun q hq=>ttF_lt (by omega)) ?_
   subst hT
   subst hL
   exact ttF_at T (k,L)
  ·rw [hq2];exact happ
end Go.Proofs.Ytimbdhpchlakfaa
namespace Go.Proofs.Ytimbdhpchlakfaa
open Go Go.Sx
theorem mkT_ne {T:List Te} {x:Te} (h:Valid x.1 x.2):(mkT T x).2 ≠ 0:=by
 cases hf:fdT x T with
 | zero=>rw [mkT_new h hf];simp
 | succ i=>rw [mkT_old h hf];simp
def tbM (N c:Nat) (T:List Te) (a:Nat):Mm:=[(1000,.mem true 0 [(1,.sl a 0 0 N c),(1,.mp 1002)]),(a,.mem true (mulE (c - N) 3) [(N * 3,.arr N 3 (ttF T))]),(1002,.map (.si (mpL T)))]
theorem tb0_valid:∀ x ∈ ([]:List Te),Valid x.1 x.2:=fun _ h=>by cases h
set_option maxRecDepth 100000 in
theorem fnNewT:Sx.Fn Γ.P 26 [] [] (fun v M=>v = .ptr 1000 0 none∧M = [(1000,.mem true 0 [(1,.nsl),(1,.mp 1002)]),(1002,.map (.si []))]):=by
 refine fn_of (Γ:=Γ) (fn:=Try.f26) rfl rfl rfl rfl ?_
 repeat (refine sd ?_)
 refine Ret.intro (.ptr 1000 0 none) [(1000,.mem true 0 [(1,.nsl),(1,.mp 1002)]),(1002,.map (.si []))] [(1000,(3,0,none)),(1002,(1,0,none))] rfl ?_ ⟨rfl,rfl⟩ rfl ?_ rfl ?_ rfl
 ·exact fc
 ·exact fc
 ·exact fc
set_option maxRecDepth 100000 in
theorem fn13:Sx.Fn Γ.P 13 [] [] (fun v M=>v = .agg [(1,.ptr 1000 0 none)]∧M = [(1000,.mem true 0 [(1,.nsl),(1,.mp 1002)]),(1002,.map (.si []))]):=by
 refine fn_of (Γ:=Γ) (fn:=Try.f13) rfl rfl rfl rfl ?_
 repeat (refine sd ?_)
 refine Call.intro fnNewT [(1000,(300,0,none)),(1002,(302,0,none))] rfl fc rfl trivial rfl ?_
 rintro v M' ⟨rfl,rfl⟩
 dsimp only [putT,afterM,newEnt,ren,renA,renS,renL,look,getM,getT,ev,evL,ofVal,cond_true,cond_false,Nat.beq_eq,act,isPar,ownPar,Ent.isOwn]
 repeat (refine sd ?_)
 refine Ret.intro (.agg [(1,.ptr 1000 0 none)]) [(1000,.mem true 0 [(1,.nsl),(1,.mp 1002)]),(1002,.map (.si []))] [(1000,(300,0,none)),(1002,(302,0,none))] rfl ?_ ⟨rfl,rfl⟩ rfl ?_ rfl ?_ rfl
 ·exact fc
 ·exact fc
 ·exact fc
set_option maxRecDepth 100000 in
theorem fn14:Sx.Fn Γ.P 14 [] [] (fun v M=>v = .agg [(1,.nilp)]∧M = []):=by
 refine fn_of (Γ:=Γ) (fn:=Try.f14) rfl rfl rfl rfl ?_
 repeat (refine sd ?_)
 refine Ret.intro (.agg [(1,.nilp)]) [] [] rfl ?_ ⟨rfl,rfl⟩ rfl ?_ rfl ?_ rfl
 ·exact fc
 ·exact fc
 ·exact fc
set_option maxRecDepth 100000 in
theorem fnSuiteF:Sx.Fn Γ.P 5 [.tt] [] (fun v M=>v = .agg [(1,.ptr 1000 0 none)]∧M = tbM 0 0 [] 1001):=by
 refine fn_of (Γ:=Γ) (fn:=Try.f5) rfl rfl rfl rfl ?_
 repeat (refine sd ?_)
 refine Call.intro fn13 [(1000,(300,0,none)),(1002,(302,0,none))] rfl fc rfl trivial rfl ?_
 rintro v M' ⟨rfl,rfl⟩
 dsimp only [putT,afterM,newEnt,ren,renA,renS,renL,look,getM,getT,ev,evL,ofVal,cond_true,cond_false,Nat.beq_eq,act,isPar,ownPar,Ent.isOwn]
 repeat (refine sd ?_)
 refine Ret.ghost [.own 401 [(0,.arr 0 3 (ttF []))],.leaf 300 0 401] [] rfl ⟨rfl,rfl,trivial⟩ rfl (.agg [(1,.ptr 1000 0 none)]) (tbM 0 0 [] 1001) [(1000,(300,0,none)),(1001,(401,0,none)),(1002,(302,0,none))] rfl ?_ ⟨rfl,rfl⟩ rfl ?_ rfl ?_ rfl
 ·exact fc
 ·exact fc
 ·repeat' (first | (show AllP _;first | exact trivial | refine AllP.app ?_ ?_ | refine AllP.appd ?_ ?_ | refine AllP.cons ?_ ?_) | exact fd | fail)
  all_goals exact mpL_nil
set_option maxRecDepth 100000 in
theorem fnSuiteR:Sx.Fn Γ.P 5 [.ff] [] (fun v M=>v = .agg [(1,.nilp)]∧M = []):=by
 refine fn_of (Γ:=Γ) (fn:=Try.f5) rfl rfl rfl rfl ?_
 repeat (refine sd ?_)
 refine Call.intro fn14 [] rfl fc rfl trivial rfl ?_
 rintro v M' ⟨rfl,rfl⟩
 dsimp only [putT,afterM,newEnt,ren,renA,renS,renL,look,getM,getT,ev,evL,ofVal,cond_true,cond_false,Nat.beq_eq,act,isPar,ownPar,Ent.isOwn]
 repeat (refine sd ?_)
 refine Ret.intro (.agg [(1,.nilp)]) [] [] rfl ?_ ⟨rfl,rfl⟩ rfl ?_ rfl ?_ rfl
 ·exact fc
 ·exact fc
 ·exact fc
end Go.Proofs.Ytimbdhpchlakfaa
