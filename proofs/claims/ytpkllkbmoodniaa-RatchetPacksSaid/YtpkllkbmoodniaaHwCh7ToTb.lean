/- What the functions of the program compute. No condition. -/
import Derived.Test.YtpkllkbmoodniaaHwCh2ToCh6
import Derived.Test.YtpkllkbmoodniaaHwTm10ToCh1
set_option linter.unusedSimpArgs false
set_option linter.unusedVariables false
namespace Go.Proofs.Ytpkllkbmoodniaa
open Go Go.Sx
theorem fiI_cases (r:List UInt8) (k:UInt16) (L:List Kp):(fiI r k L = -1∧fiN r k L = L.length) ∨ (∃ i,i < L.length∧fiI r k L = (i:Int)∧fiN r k L = i):=by
 unfold fiI
 by_cases h:fiN r k L < L.length
 ·rw [if_pos h];exact Or.inr ⟨_,h,rfl,rfl⟩
 ·rw [if_neg h];have:=fiN_le r k L;exact Or.inl ⟨rfl,by omega⟩
theorem kpF_erase {l:List Kp} {n i q:Nat} (hn:n ≤ l.length) (hq:q < n - 1):kpF ((l.take n).eraseIdx i) q = if q < i then kpF l q else kpF l (q + 1):=by
 unfold kpF
 simp only [List.getD_eq_getElem?_getD,List.getElem?_eraseIdx,List.getElem?_take]
 by_cases h:q < i
 ·rw [if_pos h,if_pos (by omega),if_pos h]
 ·rw [if_neg h,if_pos (by omega),if_neg h]
set_option maxRecDepth 100000 in
set_option maxHeartbeats 1000000 in
theorem fn105 (l:List Kp) (N n:Nat) (hN:l.length = N) (hn:n ≤ N) (hN1:N ≤ 1000000) (hOK:∀ x ∈ l,KpOK x) (x:Kp) (hx:KpOK x):Sx.Fn Γ.P 105 [.slx 1003 0 0 n,.agg (rowK x)] [(1003,.mem false 0 [(N * 65,.arr N 65 (kpF l))])]
  (fun v M=>(0 ≤ fiI x.1 x.2.1 (l.take n)∧v = .tup [.nsl,.i .i64 3]∧M = [(1003,.mem false 0 [(N * 65,.arr N 65 (kpF l))])]) ∨
   (fiI x.1 x.2.1 (l.take n) = -1∧16 ≤ n∧v = .tup [.nsl,.i .i64 4]∧M = [(1003,.mem false 0 [(N * 65,.arr N 65 (kpF l))])]) ∨
   (fiI x.1 x.2.1 (l.take n) = -1∧n < 16∧∃ c,n + 1 ≤ c∧v = .tup [.sl 1005 0 0 (n + 1) c,.i .i64 0]∧M = [(1003,.mem false 0 [(N * 65,.arr N 65 (kpF l))]),(1005,.mem true (mulE (c - (n + 1)) 65) [((n + 1) * 65,.arr (n + 1) 65 (kpF (l.take n ++ [x])))])])):=by
 have hF:=fn104 l N n hN hn hN1 hOK x.1 x.2.1 hx.1
 obtain ⟨hx1,hx2⟩:=hx
 unfold kpF at hF
 unfold kpF rowK
 refine fn_of (Γ:=Γ) (fn:=Try.f105) rfl rfl rfl rfl ?_
 repeat (refine sd ?_)
 refine Call.intro hF [(1003,(1003,0,none))] rfl fc rfl fc rfl ?_
 rintro v M' ⟨rfl,rfl⟩
 dsimp only [putT,afterM,newEnt,ren,renA,renS,renL,look,getM,getT,ev,evL,ofVal,cond_true,cond_false,Nat.beq_eq,act,isPar,ownPar,Ent.isOwn]
 repeat (refine sd ?_)
 refine Branch.intro (fun hc=>?_) (fun hc=>?_)
 ·have hc:(fiI x.1 x.2.1 (l.take n)) ≥ 0:=hc
  repeat (refine sd ?_)
  refine Ret.intro (.tup [.nsl,.i .i64 3]) [(1003,.mem false 0 [(N * 65,.arr N 65 (kpF l))])] [] rfl trivial (Or.inl ⟨hc,rfl,rfl⟩) rfl ?_ rfl ?_ rfl
  ·exact fc
  ·exact fc
 have hc:¬ (fiI x.1 x.2.1 (l.take n)) ≥ 0:=hc
 have hc2:fiI x.1 x.2.1 (l.take n) = -1:=by
  rcases fiI_cases x.1 x.2.1 (l.take n) with h | ⟨i,_,h,_⟩
  ·exact h.1
  ·omega
 repeat (refine sd ?_)
 refine Branch.intro (fun hc3=>?_) (fun hc3=>?_)
 ·have hc3:(n:Int) ≥ 16:=hc3
  repeat (refine sd ?_)
  refine Ret.intro (.tup [.nsl,.i .i64 4]) [(1003,.mem false 0 [(N * 65,.arr N 65 (kpF l))])] [] rfl trivial (Or.inr (Or.inl ⟨hc2,by omega,rfl,rfl⟩)) rfl ?_ rfl ?_ rfl
  ·exact fc
  ·exact fc
 have hc3:¬ (n:Int) ≥ 16:=hc3
 refine Draw.intro [[],[],[1],[],[3],[0,1,2,3,4],[],[6],[0,1,2,3,4,5,6,7],[0,1,2,3,4,5,6,7,8],[0,1,2,3,4,5,6,7,8,9]] [0,1,2,3,4,5,6,7,8,9,10] (by kernel_rfl) ?_
 repeat (refine sd ?_)
 refine Branch.intro (fun _=>?_) (fun h=>absurd (show 0 < 1 by omega) h)
 refine fun c hc=>?_
 have hc:n + 1 ≤ c:=hc
 repeat (refine sd ?_)
 refine Ret.intro (.tup [.sl 1005 0 0 (n + 1) c,.i .i64 0]) [(1003,.mem false 0 [(N * 65,.arr N 65 (kpF l))]),(1005,.mem true (mulE (c - (n + 1)) 65) [((n + 1) * 65,.arr (n + 1) 65 (kpF (l.take n ++ [x])))])] [(1005,(24,0,none))] rfl ?_ (Or.inr (Or.inr ⟨hc2,by omega,c,hc,rfl,rfl⟩)) rfl ?_ rfl ?_ rfl
 ·exact fc
 ·exact fc
 ·repeat' (first | (show AllP _;first | exact trivial | refine AllP.app ?_ ?_ | refine AllP.appd ?_ ?_ | refine AllP.cons ?_ ?_) | with_reducible rfl | with_reducible assumption | omega | (simp only [rng,Ix.val,addQ_eq,addI,sz5,by5,sz23,by23,sz24,by24,sz25,by25,sz35,by35,sz88,by88,sz89,by89] <;> omega) | (simp only [rng,Ix.val,Int.toNat_natCast,mulE_eq,addQ_eq,addI,Option.getD_none,Option.getD_some,List.length_take,List.length_drop,List.length_append,List.length_set,List.length_replicate,sz5,by5,sz23,by23,sz24,by24,sz25,by25,sz35,by35,sz88,by88,sz89,by89, *] <;> omega) | (simp only [Ix.val];with_reducible assumption) | exact UInt8.toNat_lt _ | (apply Eq.trans;(with_reducible assumption);exact rfl) | exact rfl | exact fun _ _=>rfl)
  intro q hq
  have hq:q < n + 1:=hq
  rw [appF_kp (G:=rowF [rowK x]) (k:=n) (by rw [List.length_take];omega) rfl q hq]
  rcases Nat.lt_or_ge q n with h | h
  ·rw [appF_lt h,kpF_take l h];exact (appF_lt h).symm
  ·rw [appF_ge h];exact (appF_ge h).symm
set_option maxRecDepth 100000 in
set_option maxHeartbeats 1000000 in
theorem fn67 (l:List Kp) (N n:Nat) (hN:l.length = N) (hn:n ≤ N) (hN1:N ≤ 1000000) (hOK:∀ x ∈ l,KpOK x) (r:List UInt8) (k:UInt16) (hr:r.length = 32):Sx.Fn Γ.P 67 [.slx 1003 0 0 n,.a8 r,.u16 k] [(1003,.mem false 0 [(N * 65,.arr N 65 (kpF l))])]
  (fun v M=>(fiI r k (l.take n) = -1∧∃ c,n ≤ c∧v = .tup [.sl 1005 0 0 n c,.a8 (List.replicate 32 0),.ff]∧M = [(1003,.mem false 0 [(N * 65,.arr N 65 (kpF l))]),(1005,.mem true (mulE (c - n) 65) [(n * 65,.arr n 65 (kpF l))])]) ∨
   (∃ i,i < n∧fiI r k (l.take n) = (i:Int)∧i + 1 = n∧v = .tup [.sl 1003 0 0 i i,.a8 (l.getD i kp0).2.2,.tt]∧M = [(1003,.mem false 0 [(N * 65,.arr N 65 (kpF l))]),(1005,.mem true 0 [(0,.arr 0 65 (kpF []))])]) ∨
   (∃ i,i < n∧fiI r k (l.take n) = (i:Int)∧i + 1 < n∧∃ c,n - 1 ≤ c∧v = .tup [.sl 1005 0 0 (n - 1) c,.a8 (l.getD i kp0).2.2,.tt]∧M = [(1003,.mem false 0 [(N * 65,.arr N 65 (kpF l))]),(1005,.mem true (mulE (c - (n - 1)) 65) [((n - 1) * 65,.arr (n - 1) 65 (kpF ((l.take n).eraseIdx i)))])])):=by
 have hF:=fn104 l N n hN hn hN1 hOK r k hr
 unfold kpF at hF
 unfold kpF
 refine fn_of (Γ:=Γ) (fn:=Try.f67) rfl rfl rfl rfl ?_
 repeat (refine sd ?_)
 refine Call.intro hF [(1003,(1003,0,none))] rfl fc rfl fc rfl ?_
 rintro v M' ⟨rfl,rfl⟩
 dsimp only [putT,afterM,newEnt,ren,renA,renS,renL,look,getM,getT,ev,evL,ofVal,cond_true,cond_false,Nat.beq_eq,act,isPar,ownPar,Ent.isOwn]
 repeat (refine sd ?_)
 refine Branch.intro (fun hc=>?_) (fun hc=>?_)
 ·have hc:(fiI r k (l.take n)) < 0:=hc
  have hc2:fiI r k (l.take n) = -1:=by
   rcases fiI_cases r k (l.take n) with h | ⟨i,_,h,_⟩
   ·exact h.1
   ·omega
  repeat (refine sd ?_)
  refine fun c hc=>?_
  have hc:0 + n ≤ c:=hc
  repeat (refine sd ?_)
  refine Ret.intro (.tup [.sl 1005 0 0 n c,.a8 (List.replicate 32 0),.ff]) [(1003,.mem false 0 [(N * 65,.arr N 65 (kpF l))]),(1005,.mem true (mulE (c - n) 65) [(n * 65,.arr n 65 (kpF l))])] [(1005,(18,0,none))] rfl ?_ (Or.inl ⟨hc2,c,by omega,rfl,rfl⟩) rfl ?_ rfl ?_ rfl
  ·exact fc
  ·exact fc
  ·exact fc
 have hc:¬ (fiI r k (l.take n)) < 0:=hc
 obtain ⟨i,hi,hv,_⟩:∃ i,i < (l.take n).length∧fiI r k (l.take n) = (i:Int)∧fiN r k (l.take n) = i:=by
  rcases fiI_cases r k (l.take n) with h | h
  ·omega
  ·exact h
 rw [List.length_take] at hi
 rw [hv]
 refine Draw.intro [[],[],[],[0,1,2],[],[],[5],[4,5,6],[0,1,2,3,4,5,6,7],[],[],[9,10],[9,10,11],[9,10,11,12],[0,1,2,3,4,5,6,7,8],[0,1,2,3,4,5,6,7,8,9,10,11,12,13,14],[0,1,2,3,4,5,6,7,8,9,10,11,12,13,14,15]] [0,1,2,3,4,5,6,7,9,10,11,12,13,8,14,15,16] (by kernel_rfl) ?_
 repeat (refine sdn ?_)
 have hin:i < n:=by omega
 obtain ⟨hx1,hx2⟩:=hOK _ (getD_mem kp0 (L:=l) (i:=i) (by omega))
 refine Branch.intro (fun hm=>?_) (fun hm=>?_)
 ·have hm:0 < n - (Int.toNat ((i:Int) + 1)):=hm
  refine fun c hc=>?_
  repeat (refine sdn ?_)
  refine Grow.auto rfl rfl ?_
  repeat (refine sdn ?_)
  refine Ret.intro (.tup [.sl 1005 0 0 (n - 1) c,.a8 (l.getD i kp0).2.2,.tt]) [(1003,.mem false 0 [(N * 65,.arr N 65 (kpF l))]),(1005,.mem true (mulE (c - (n - 1)) 65) [((n - 1) * 65,.arr (n - 1) 65 (kpF ((l.take n).eraseIdx i)))])] [(1005,(28,0,none))] rfl ?_ (Or.inr (Or.inr ⟨i,hin,rfl,by omega,c,?_,rfl,rfl⟩)) rfl ?_ rfl ?_ rfl
  ·exact fcn
  ·have hc:Int.toNat (i:Int) + (n - Int.toNat ((i:Int) + 1)) ≤ c:=hc
   omega
  ·exact fcn
  ·repeat' (first | (show AllP _;first | exact trivial | refine AllP.app ?_ ?_ | refine AllP.appd ?_ ?_ | refine AllP.cons ?_ ?_) | with_reducible rfl | with_reducible assumption | omega | (simp only [Nat.zero_add,Int.toNat_natCast,rng,Ix.val,addQ_eq,addI,sz5,by5,sz23,by23,sz24,by24,sz25,by25,sz35,by35,sz88,by88,sz89,by89] <;> omega) | (simp only [Nat.zero_add,Int.toNat_natCast,rng,Ix.val,Int.toNat_natCast,mulE_eq,addQ_eq,addI,Option.getD_none,Option.getD_some,List.length_take,List.length_drop,List.length_append,List.length_set,List.length_replicate,sz5,by5,sz23,by23,sz24,by24,sz25,by25,sz35,by35,sz88,by88,sz89,by89, *] <;> omega) | (simp only [Ix.val];with_reducible assumption) | exact UInt8.toNat_lt _ | (apply Eq.trans;(with_reducible assumption);exact rfl) | exact rfl | exact fun _ _=>rfl)
   intro q hq
   have hq:q < n - 1:=hq
   show _ = appF (Int.toNat (i:Int)) (kpF l) (shiftF ((Int.toNat ((i:Int) + 1) * 65 + 0) / 65) (kpF l)) q
   rw [Int.toNat_natCast,show (Int.toNat ((i:Int) + 1) * 65 + 0) / 65 = i + 1 by omega]
   rcases Nat.lt_or_ge q i with h | h
   ·rw [appF_lt h,kpF_erase (by omega) hq,if_pos h]
   ·rw [appF_ge h,kpF_erase (by omega) hq,if_neg (by omega),shiftF_eq,show i + 1 + (q - i) = q + 1 by omega]
 ·have hm:¬ 0 < n - (Int.toNat ((i:Int) + 1)):=hm
  repeat (refine sdn ?_)
  refine Grow.auto rfl rfl ?_
  repeat (refine sdn ?_)
  refine Ret.ghost [.own 450 [(0,.arr 0 65 (kpF []))]] [] rfl ⟨rfl,rfl,trivial⟩ rfl (.tup [.sl 1003 0 0 i i,.a8 (l.getD i kp0).2.2,.tt]) [(1003,.mem false 0 [(N * 65,.arr N 65 (kpF l))]),(1005,.mem true 0 [(0,.arr 0 65 (kpF []))])] [(1005,(450,0,none))] rfl ?_ (Or.inr (Or.inl ⟨i,hin,rfl,by omega,rfl,rfl⟩)) rfl ?_ rfl ?_ rfl
  ·exact fcn
  ·exact fcn
  ·exact fcn
end Go.Proofs.Ytpkllkbmoodniaa
namespace Go.Proofs.Ytpkllkbmoodniaa
open Go Go.Sx
theorem mkT_ne {T:List Te} {x:Te} (h:Valid x.1 x.2):(mkT T x).2 ≠ 0:=by
 cases hf:fdT x T with
 | zero=>rw [mkT_new h hf];simp
 | succ i=>rw [mkT_old h hf];simp
def tbM (N c:Nat) (T:List Te) (a:Nat):Mm:=[(1000,.mem true 0 [(1,.sl a 0 0 N c),(1,.mp 1002)]),(a,.mem true (mulE (c - N) 3) [(N * 3,.arr N 3 (ttF T))]),(1002,.map (.si (mpL T)))]
theorem tb0_valid:∀ x ∈ ([]:List Te),Valid x.1 x.2:=fun _ h=>by cases h
set_option maxRecDepth 100000 in
theorem fnNewT:Sx.Fn Γ.P 26 [] [] (fun v M=>v = .ptr 1000 0 none∧M = [(1000,.mem true 0 [(1,.nsl),(1,.mp 1002)]),(1002,.map (.si []))]):=by
 refine fn_of (Γ:=Γ) (fn:=Try.f26) rfl rfl rfl rfl ?_
 repeat (refine sd ?_)
 refine Ret.intro (.ptr 1000 0 none) [(1000,.mem true 0 [(1,.nsl),(1,.mp 1002)]),(1002,.map (.si []))] [(1000,(3,0,none)),(1002,(1,0,none))] rfl ?_ ⟨rfl,rfl⟩ rfl ?_ rfl ?_ rfl
 ·exact fc
 ·exact fc
 ·exact fc
end Go.Proofs.Ytpkllkbmoodniaa
