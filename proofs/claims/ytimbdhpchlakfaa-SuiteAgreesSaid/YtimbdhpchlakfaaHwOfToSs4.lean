/- What the functions of the program compute. No condition. -/
import Derived.Test.YtimbdhpchlakfaaHwTm10ToTb
import Derived.Test.YtimbdhpchlakfaaHwCbcSToTm2
set_option linter.unusedSimpArgs false
set_option linter.unusedVariables false
namespace Go.Proofs.Ytimbdhpchlakfaa
open Go Go.Sx
theorem numP_name {z most:Nat} (h1:1 ≤ z) (h2:z ≤ most) (h3:most < 4294967296):numP (nameB z) most 0 = z:=by
 have hn:nmK (nameB z) 0 = z:=by
  rw [nameB_eq]
  show (((UInt8.ofNat (z / 256 ^ 3)).toNat * 256 + (UInt8.ofNat (z / 256 ^ 2)).toNat) * 256 + (UInt8.ofNat (z / 256 ^ 1)).toNat) * 256 + (UInt8.ofNat (z / 256 ^ 0)).toNat = z
  simp only [UInt8.toNat_ofNat',Nat.reducePow,Nat.div_one]
  omega
 rw [numP_eq,hn,if_pos]
 exact ⟨by rw [nameB_length];omega,h1,h2,List.take_of_length_le (by rw [List.drop_zero,nameB_length];omega)⟩
set_option maxRecDepth 100000 in
set_option maxHeartbeats 1000000 in
theorem fn17 (T:List Te) (n:Nat) (hT:T.length = n) (hn:n ≤ 60000) (hTv:∀ x ∈ T,Valid x.1 x.2) (k:List UInt8) (hk:k.length = 32) :
  Sx.Fn Γ.P 17 [.ptr 1000 0 none,.a8 k] [(1000,.mem false 0 [(1,.slx 1001 0 0 n),(1,.mp 1002)]),(1001,.mem false 0 [(n * 3,.arr n 3 (ttF T))]),(1002,.dead)]
  (fun v M=>(numP k n 0 = 0∧v = .tup [.i .i64 0,.nsl,.ff]∧M = [(1000,.mem false 0 [(1,.slx 1001 0 0 n),(1,.mp 1002)]),(1001,.mem false 0 [(n * 3,.arr n 3 (ttF T))]),(1002,.dead)]) ∨ ∃ q L m c,numP k n 0 = q + 1∧q < n∧(T.getD q te0).2 = L∧L.length = m∧m ≤ c∧v = .tup [.i .i64 (T.getD q te0).1,.sl 1005 0 0 m c,.tt]∧M = [(1000,.mem false 0 [(1,.slx 1001 0 0 n),(1,.mp 1002)]),(1001,.mem false 0 [(n * 3,.arr n 3 (ttF T))]),(1002,.dead),(1005,.mem true (c - m) [(m * 1,.arr m 1 (rwF L))])]):=by
 have hN:=fn32 k 32 32 0 hk rfl (Nat.le_refl _) n (by omega)
 have hle:=numP_le k n 0
 refine fn_of (Γ:=Γ) (fn:=Try.f17) rfl rfl rfl rfl ?_
 repeat (refine sd ?_)
 refine Draw.intro [[],[],[1],[1,2],[1,2,3],[1,2,3,4],[0,1,2,3,4,5],[0,1,2,3,4,5,6]] [0,1,2,3,4,5,6,7] (by kernel_rfl) ?_
 repeat (refine sd ?_)
 refine Call.intro hN [(1003,(3,0,none))] rfl fc rfl fc rfl ?_
 rintro v M' ⟨rfl,rfl⟩
 dsimp only [putT,afterM,newEnt,ren,renA,renS,renL,look,getM,getT,ev,evL,ofVal,cond_true,cond_false,Nat.beq_eq,act,isPar,ownPar,Ent.isOwn]
 repeat (refine sd ?_)
 refine Branch.intro (fun hz=>?_) (fun hz=>?_)
 ·have hz:numP k n 0 = 0:=by have h:((numP k n 0:Nat):Int) = 0:=hz;omega
  repeat (refine sd ?_)
  refine Ret.intro (.tup [.i .i64 0,.nsl,.ff]) [(1000,.mem false 0 [(1,.slx 1001 0 0 n),(1,.mp 1002)]),(1001,.mem false 0 [(n * 3,.arr n 3 (ttF T))]),(1002,.dead)] [] rfl ?_ (Or.inl ⟨hz,rfl,rfl⟩) rfl ?_ rfl ?_ rfl
  ·exact fc
  ·exact fc
  ·exact fc
 obtain ⟨q,hq⟩:∃ q,numP k n 0 = q + 1:=⟨numP k n 0 - 1,by have h:¬ ((numP k n 0:Nat):Int) = 0:=hz;omega⟩
 have hV:=hTv _ (getD_mem te0 (L:=T) (i:=q) (by omega))
 obtain ⟨x,hx⟩:∃ x,T.getD q te0 = x:=⟨_,rfl⟩
 rw [hx] at hV
 obtain ⟨L,hL⟩:∃ L,x.2 = L:=⟨_,rfl⟩
 have hLs:=hV.1
 rw [hL] at hLs
 obtain ⟨m,hm⟩:∃ m,L.length = m:=⟨_,rfl⟩
 have hm64:m ≤ 64:=by rw [← hm];exact hLs.1
 have eq1:((q + 1:Nat):Int) - 1 = (q:Int):=by omega
 have eq2:(((q + 1:Nat):Int) - 1).toNat = q:=by omega
 rw [hq]
 rw [hq] at hle
 clear hN hz
 repeat (refine Side.intro (by repeat' (first | (show AllP _;first | exact trivial | refine AllP.app ?_ ?_ | refine AllP.appd ?_ ?_ | refine AllP.cons ?_ ?_) | with_reducible rfl | with_reducible assumption | omega | (simp only [eq2,Int.toNat_natCast,Nat.zero_add,hx,hL,hm,rng,Ix.val,addQ_eq,addI,szs] <;> omega) | (simp only [eq2,Int.toNat_natCast,Nat.zero_add,hx,hL,hm,rng,Ix.val,Int.toNat_natCast,mulE_eq,addQ_eq,addI,Option.getD_none,Option.getD_some,List.length_take,List.length_drop,List.length_append,List.length_set,List.length_replicate,szs, *] <;> omega) | (simp only [Ix.val];with_reducible assumption) | exact UInt8.toNat_lt _ | (apply Eq.trans;(with_reducible assumption);exact rfl) | exact rfl | exact fun _ _=>rfl)) ?_)
 refine Loop.intro (σ:=Nat × Nat) (fun s=>s.1 ≤ m∧s.1 ≤ s.2)
  (fun s=>([(8,.ptr 8 0 none),(9,.sl 204 0 0 s.1 s.2),(30,.isl 0 m 1 [(m * 1,.arr m 1 (rwF L))]),(31,.i .i64 (m:Int)),(32,.i .i64 (s.1:Int))],
   [(1000,.mem false 0 [(1,.slx 1001 0 0 n),(1,.mp 1002)]),(1001,.mem false 0 [(n * 3,.arr n 3 (ttF T))]),(1002,.dead),(8,.mem true 0 [(1,.i .i64 x.1),(1,.isl 0 m 1 [(m * 1,.arr m 1 (rwF L))]),(1,.isl 0 m 1 [(m * 1,.arr m 1 (nwF q L))])]),(204,.mem true (s.2 - s.1) [(s.1 * 1,.arr s.1 1 (rwF L))])]))
  (fun s=>m - s.1) (0,0) ⟨Nat.zero_le _,Nat.le_refl _⟩ ?_ ?_
 ·refine Le.ghost [.own 204 [(0,.arr 0 1 (rwF L))]] [(9,204)] [] rfl ⟨rfl,rfl,trivial⟩ rfl rfl ?_ rfl ?_ rfl
  ·repeat' (first | (show AllP _;first | exact trivial | refine AllP.app ?_ ?_ | refine AllP.appd ?_ ?_ | refine AllP.cons ?_ ?_) | with_reducible rfl | with_reducible assumption | omega | (simp only [eq2,Int.toNat_natCast,hx,hL,hm,rng,Ix.val,addQ_eq,addI,szs] <;> omega) | (simp only [eq2,Int.toNat_natCast,hx,hL,hm,rng,Ix.val,Int.toNat_natCast,mulE_eq,addQ_eq,addI,Option.getD_none,Option.getD_some,List.length_take,List.length_drop,List.length_append,List.length_set,List.length_replicate,szs, *] <;> omega) | (simp only [Ix.val];with_reducible assumption) | exact UInt8.toNat_lt _ | (apply Eq.trans;(with_reducible assumption);exact rfl) | exact rfl | exact fun _ _=>rfl)
   all_goals (rw [eq2,hx,hL])
  ·repeat' (first | (show AllP _;first | exact trivial | refine AllP.app ?_ ?_ | refine AllP.appd ?_ ?_ | refine AllP.cons ?_ ?_) | with_reducible rfl | with_reducible assumption | omega | (simp only [eq2,Int.toNat_natCast,hx,hL,hm,rng,Ix.val,addQ_eq,addI,szs] <;> omega) | (simp only [eq2,Int.toNat_natCast,hx,hL,hm,rng,Ix.val,Int.toNat_natCast,mulE_eq,addQ_eq,addI,Option.getD_none,Option.getD_some,List.length_take,List.length_drop,List.length_append,List.length_set,List.length_replicate,szs, *] <;> omega) | (simp only [Ix.val];with_reducible assumption) | exact UInt8.toNat_lt _ | (apply Eq.trans;(with_reducible assumption);exact rfl) | exact rfl | exact fun _ _=>rfl)
   all_goals (rw [eq2,hx,hL])
 rintro ⟨i,c⟩ ⟨hi,hic⟩
 have hi:i ≤ m:=hi
 have hic:i ≤ c:=hic
 refine Branch.intro (fun hc=>?_) (fun hc=>?_)
 ·have hc:(i:Int) < m:=hc
  have hll:=hLs.2 _ (getD_mem [] (L:=L) (i:=i) (by omega))
  unfold rwF
  repeat (refine sdn ?_)
  refine fun c3 hc3=>?_
  have hc3:(L.getD i []).length ≤ c3:=by have h:0 + (L.getD i []).length ≤ c3:=hc3;omega
  repeat (refine sdn ?_)
  refine fun c4 hc4=>?_
  have hc4:i + 1 ≤ c4:=hc4
  repeat (refine sdn ?_)
  refine ⟨(i + 1,c4),⟨by show i + 1 ≤ m;omega,hc4⟩,by show m - (i + 1) < m - i;omega,Le.intro [(204,(41,0,none))] rfl ?_ rfl ?_ rfl⟩
  ·exact fcn
  ·repeat' (first | (show AllP _;first | exact trivial | refine AllP.app ?_ ?_ | refine AllP.appd ?_ ?_ | refine AllP.cons ?_ ?_) | exact fdn | fail)
   refine appF_row (fun q _=>by rw [shiftF_eq,Nat.zero_add]) ?_
   simp only [mulE_eq,dropQ_eq,List.drop_zero,Ix.val,addQ_eq,Nat.zero_add,Int.toNat_natCast,List.replicate_zero,List.nil_append,List.take_length,Nat.mul_one,rwF]
 have hc:¬ (i:Int) < m:=hc
 obtain rfl:i = m:=by omega
 repeat (refine sd ?_)
 refine Ret.intro (.tup [.i .i64 (T.getD q te0).1,.sl 1005 0 0 i c,.tt]) [(1000,.mem false 0 [(1,.slx 1001 0 0 n),(1,.mp 1002)]),(1001,.mem false 0 [(n * 3,.arr n 3 (ttF T))]),(1002,.dead),(1005,.mem true (c - i) [(i * 1,.arr i 1 (rwF L))])] [(1005,(204,0,none))] rfl ?_ (Or.inr ⟨q,L,i,c,rfl,by omega,by rw [hx,hL],hm,hic,rfl,rfl⟩) rfl ?_ rfl ?_ rfl
 ·exact fc
 ·repeat' (first | (show AllP _;first | exact trivial | refine AllP.app ?_ ?_ | refine AllP.appd ?_ ?_ | refine AllP.cons ?_ ?_) | exact fd | fail)
  all_goals (rw [hx];exact rfl)
 ·exact fc
end Go.Proofs.Ytimbdhpchlakfaa
namespace Go.Proofs.Ytimbdhpchlakfaa
open Go Go.Sx
end Go.Proofs.Ytimbdhpchlakfaa
namespace Go.Proofs.Ytimbdhpchlakfaa
open Go Go.Sx
def mx8 (T:List Te) (key plain:List UInt8):List Te × Nat:=mkT T (8,[key,plain])
theorem mx8_eq (T:List Te) (key plain:List UInt8):mx8 T key plain = mkT T (8,[key,plain]):=rfl
attribute [irreducible] mx8
theorem joinsS {p q:List UInt8} (hp:p.length ≤ 1024) (hq:q.length ≤ 1024):Joins [p,q]:=by
 refine ⟨by simp,fun x hx=>?_⟩
 rcases List.mem_cons.1 hx with rfl | hx
 ·omega
 ·rw [List.mem_singleton.1 hx];omega
theorem mx8_ne (T:List Te) {key plain:List UInt8} (hk:key.length ≤ 1024) (hp:plain.length ≤ 1024):(mx8 T key plain).2 ≠ 0:=by
 rw [mx8_eq];exact mkT_ne (x:=(8,_)) ⟨joinsS hk hp,by show (1:Int) ≤ 8;decide,by show (8:Int) ≤ 8;decide⟩
theorem rwS_eq0 {p q:List UInt8} {k:Nat} (hp:p.length = k):rwF [p,q] 0 = [(1,.isl 0 k 1 [(k,.a8 p)])]:=by
 show [(1,SV.isl 0 p.length 1 [(p.length * 1,SV.a8 p)])] = _
 rw [hp,Nat.mul_one]
theorem rwS_eq1 {p q:List UInt8} {k:Nat} (hq:q.length = k):rwF [p,q] 1 = [(1,.isl 0 k 1 [(k,.a8 q)])]:=by
 show [(1,SV.isl 0 q.length 1 [(q.length * 1,SV.a8 q)])] = _
 rw [hq,Nat.mul_one]
@[irreducible] def sefB (o n:Nat):List UInt8:=kyB o ++ List.replicate (n / 16 * 16) 0
theorem sefB_eq (o n:Nat):sefB o n = kyB o ++ List.replicate (n / 16 * 16) 0:=by unfold sefB;rfl
theorem sefB_length (o n:Nat):(sefB o n).length = n / 16 * 16 + 32:=by rw [sefB_eq,List.length_append,kyB_length,List.length_replicate];omega
theorem sefB_take (o n:Nat):(sefB o n).take 32 = kyB o:=by rw [sefB_eq];exact List.take_left' (kyB_length o)
theorem sefB_zero {o n i:Nat} (h:32 ≤ i):(sefB o n).getD i 0 = 0:=by
 rw [sefB_eq,List.getD_eq_getElem?_getD,List.getElem?_append_right (by rw [kyB_length];exact h),List.getElem?_replicate]
 split <;> rfl
theorem sefB_cp {o n m:Nat} (hm:n / 16 * 16 + 32 = m) {k:List UInt8} (hk:k = kyB o):sefB o n = List.take 0 (List.replicate m (0:UInt8)) ++ List.take (min k.length m) k ++ List.drop (0 + min k.length m) (List.replicate m 0):=by
 have hl:=kyB_length o
 subst hk
 rw [hl,List.take_zero,List.nil_append,Nat.min_eq_left (by omega),Nat.zero_add,List.drop_replicate,List.take_of_length_le (by omega),sefB_eq]
 congr 2
 omega
theorem ky32 {o:Nat}:List.take 32 (List.drop ((none:Option Nat).getD 0) (kyB o)) = kyB o:=by
 rw [Option.getD_none,List.drop_zero,List.take_of_length_le (by rw [kyB_length];exact Nat.le_refl _)]
theorem fnMake8 (T:List Te) (N c:Nat) (hT:T.length = N) (hN:N ≤ 60000) (hNc:N ≤ c) (hTv:∀ x ∈ T,Valid x.1 x.2) (p q:List UInt8) (hp:p.length ≤ 1024) (hq:q.length ≤ 1024) (T1:List Te) (o:Nat) (e1:(mx8 T p q).1 = T1) (e2:(mx8 T p q).2 = o) :
  Sx.Fn Γ.P 18 [.ptr 1000 0 none,.i .i64 8,.slx 1003 0 0 2] (MT N c T 1001 2 [p,q])
  (fun v M=>∃ n' c',T1.length = n'∧n' ≤ c'∧v = .tup [.a8 (kyB o),.bool (o ≠ 0)]∧M = (1001,.dead) :: MT n' c' T1 1005 2 [p,q]):=by
 subst e1;subst e2
 rw [mx8_eq]
 refine fn18 T N c hT hN hNc hTv 8 [p,q] 2 rfl (by omega) (fun x hx=>?_)
 rcases List.mem_cons.1 hx with rfl | hx
 ·omega
 ·rw [List.mem_singleton.1 hx];omega
set_option maxRecDepth 100000 in
set_option maxHeartbeats 1000000 in
theorem fnSealF (T:List Te) (N c:Nat) (hT:T.length = N) (hN:N ≤ 60000) (hNc:N ≤ c) (hTv:∀ x ∈ T,Valid x.1 x.2) (key plain:List UInt8) (n m:Nat) (hk:key.length = 32) (hn:plain.length = n) (hn1:n ≤ 1024) (hm:n / 16 * 16 + 32 = m) (T1:List Te) (o:Nat) (e1:(mx8 T key plain).1 = T1) (e2:(mx8 T key plain).2 = o) :
  Sx.Fn Γ.P 10 [.agg [(1,.ptr 1000 0 none)],.a8 key,.isl 0 n 1 [(n,.a8 plain)]] (tbM N c T 1001)
  (fun v M=>∃ n' c',T1.length = n'∧n' ≤ c'∧v = .tup [.sl 1006 0 0 m m,.tt]∧M = (1001,.dead) :: (1006,.mem true 0 [(m,.a8 (sefB o n))]) :: tbM n' c' T1 1005):=by
 have hM:=fnMake8 T N c hT hN hNc hTv key plain (by omega) (by omega) T1 o e1 e2
 have hone:o ≠ 0:=by rw [← e2];exact mx8_ne T (by omega) (by omega)
 have hkl:=kyB_length o
 have hSz:=fn12 (n:Int)
 rw [sizS_ok (by omega) (by omega),show (n:Int) / 16 * 16 + 32 = (m:Int) by omega] at hSz
 unfold MT at hM
 unfold tbM
 refine fn_cut [4] (Γ:=Γ) (fn:=Try.f10) rfl rfl rfl rfl ?_
 repeat (refine sd ?_)
 refine Branch.intro (fun hc=>?_) (fun hc=>?_)
 ·have hc:(n:Int) > 1024:=hc
  exact absurd hc (by omega)
 repeat (refine sd ?_)
 refine Branch.intro (fun _=>?_) (fun hn=>absurd hn (by simp))
 refine Cut.intro (σ:=Unit) (fun _=>True) (fun _=>([(2,.isl 0 n 1 [(n,.a8 plain)]),(3,.ptr 203 0 none),(4,.ptr 204 0 none)],[(203,.mem true 0 [(1,.ptr 1000 0 none)]),(204,.mem false 1 [(32,.a8 key)]),
  (1000,.mem true 0 [(1,.sl 1001 0 0 N c),(1,.mp 1002)]),(1001,.mem true (mulE (c - N) 3) [(N * 3,.arr N 3 (ttF T))]),(1002,.map (.si (mpL T)))])) () trivial (Le.ghost [.keep 4] [] [(203,(3,0,none)),(204,(4,0,none))] rfl ?_ rfl rfl ?_ rfl ?_ rfl) ?_
 ·exact fc
 ·exact fc
 ·exact fc
 rintro - -
 refine Draw.intro [[],[0],[],[],[2,3],[0,1,2,3,4],[0,1,2,3,4,5],[0,1,2,3,4,5,6],[0,1,2,3,4,5,6],[],[0,1,2,3,4,5,6,7,9],[0,1,2,3,4,5,6,7,8,9,10],[]] [0,1,2,3,4,9,5,6,7,8,10,11] (by kernel_rfl) ?_
 refine ⟨?_,?_⟩
 all_goals
  repeat (refine sd ?_)
  refine Call.name [(0,[]),(0,[]),(2001,[])] rfl fc (CallP.intro hM [(1000,(1000,0,none)),(1001,(1001,0,none)),(1002,(1002,0,none)),(1003,(2001,0,none)),(1005,(305,0,none))] rfl fc rfl ?_ rfl ?_)
  ·repeat' (first | (show AllP _;first | exact trivial | refine AllP.app ?_ ?_ | refine AllP.appd ?_ ?_ | refine AllP.cons ?_ ?_) | exact fd | fail)
   ·exact rwS_eq0 hk
   ·exact rwS_eq1 hn
  rintro v M' ⟨n',c',hn',hnc',rfl,rfl⟩
  dsimp only [putT,afterM,newEnt,ren,renA,renS,renL,look,getM,getT,ev,evL,ofVal,cond_true,cond_false,Nat.beq_eq,act,isPar,ownPar,Ent.isOwn]
  repeat (refine sd ?_)
  have hn1:¬ ¬ (o ≠ 0):=fun h=>h hone
  repeat (first | (refine Branch.intro (fun _=>?_) (fun hn=>absurd rfl hn)) | (refine ky0 ?_) | (refine kn0 ?_) | (refine ky ?_) | (refine kn ?_) | (refine sd ?_))
  repeat (refine sd ?_)
  refine Call.pure hSz rfl fc ?_
  intro v hv
  subst hv
  repeat (refine sd ?_)
  refine Ret.intro (.tup [.sl 1006 0 0 m m,.tt]) ((1001,.dead) :: (1006,.mem true 0 [(m,.a8 (sefB o n))]) :: tbM n' c' T1 1005) [(1005,(305,0,none)),(1006,(36,0,none))] rfl ?_ ⟨n',c',hn',hnc',rfl,rfl⟩ rfl ?_ rfl ?_ rfl
  ·exact fc
  ·exact fc
  ·repeat' (first | (show AllP _;first | exact trivial | refine AllP.app ?_ ?_ | refine AllP.appd ?_ ?_ | refine AllP.cons ?_ ?_) | exact fd | fail)
   exact sefB_cp hm ky32
end Go.Proofs.Ytimbdhpchlakfaa
