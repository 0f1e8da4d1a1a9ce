/- What the functions of the program compute. No condition. -/
import Derived.Test.YtimbdhpchlakfaaHwCu12ToFe1
set_option linter.unusedSimpArgs false
set_option linter.unusedVariables false
namespace Go.Proofs.Ytimbdhpchlakfaa
open Go Go.Sx Go.Cu
def wF (t:List W2) (q:Nat):List (Nat × SV):=[(1,.u64 (t.getD q (0,0)).1),(1,.u64 (t.getD q (0,0)).2)]
theorem wF_set {U:List W2} {j:Nat} {w:W2} (hj:j < U.length) (q:Nat):wF (U.set j w) q = if q = j then [(1,.u64 w.1),(1,.u64 w.2)] else wF U q:=by
 unfold wF
 split
 ·rename_i h
  subst h
  rw [List.getD_eq_getElem?_getD,List.getElem?_set_self hj];rfl
 ·rename_i h
  rw [List.getD_eq_getElem?_getD,List.getElem?_set_ne (fun e=>h e.symm),← List.getD_eq_getElem?_getD]
set_option maxRecDepth 100000 in
set_option maxHeartbeats 1000000 in
theorem fn30 (a b:List UInt64) (ha:a.length = 5) (hb:b.length = 5):Sx.Fn Γ.P 30 [.agg [(5,.a64 a)],.agg [(5,.a64 b)]] [] (fun v _=>v = .agg [(5,.a64 (mulL a b))]):=by
 have hMore:=fun w x y=>fn47 w x y
 refine fn_of (Γ:=Γ) (fn:=Try.f30) rfl rfl rfl rfl ?_
 repeat (refine sd ?_)
 refine Loop.intro (σ:=Nat) (fun i=>i ≤ 5) (fun i=>([(2,.ptr 2 0 none),(3,.ptr 3 0 none),(4,.ptr 4 0 none),(5,.ptr 5 0 none),(17,.a64 a),(18,.i .i64 i)],
  [(2,.mem true 0 [(5,.a64 a)]),(3,.mem true 0 [(5,.a64 b)]),(4,.mem true 0 [(5,.a64 (List.replicate 5 0))]),(5,.mem true 0 [(10,.arr 5 2 (wF (muS a b i)))])])) (fun i=>5 - i) 0 (Nat.zero_le _) ?_ ?_
 ·refine Le.intro [] rfl ?_ rfl ?_ rfl
  ·exact fc
  ·exact fc
 rintro i hi
 have hl:=muS_length a b i
 have hn:muS a b (i + 1) = muR a b i (muS a b i) 5:=rfl
 refine Branch.intro (fun hc=>?_) (fun hc=>?_)
 ·have hc:(i:Int) < 5:=hc
  obtain ⟨T,hT⟩:∃ t,muS a b i = t:=⟨_,rfl⟩
  rw [hT] at hl hn ⊢
  repeat (refine sdn ?_)
  refine Loop.intro (σ:=Nat) (fun k=>k ≤ 5) (fun k=>([(2,.ptr 2 0 none),(3,.ptr 3 0 none),(4,.ptr 4 0 none),(5,.ptr 5 0 none),(6,.i .i64 i),(7,.u64 (a.getD i 0)),(17,.a64 a),(18,.i .i64 i),(23,.a64 b),(24,.i .i64 k)],
   [(2,.mem true 0 [(5,.a64 a)]),(3,.mem true 0 [(5,.a64 b)]),(4,.mem true 0 [(5,.a64 (List.replicate 5 0))]),(5,.mem true 0 [(10,.arr 5 2 (wF (muR a b i T k)))])])) (fun k=>5 - k) 0 (Nat.zero_le _) ?_ ?_
  ·refine Le.intro [] rfl ?_ rfl ?_ rfl
   ·exact fcn
   ·exact fcn
  rintro k hk
  have hlR:=muR_length (a:=a) (b:=b) (i:=i) (t:=T) k
  have hnR:muR a b i T (k + 1) = muA a b i k (muR a b i T k):=rfl
  refine Branch.intro (fun hc=>?_) (fun hc=>?_)
  ·have hc:(k:Int) < 5:=hc
   obtain ⟨U,hU⟩:∃ t,muR a b i T k = t:=⟨_,rfl⟩
   rw [hU] at hlR hnR ⊢
   repeat (refine sdn ?_)
   refine Branch.intro (fun h5=>?_) (fun h5=>?_)
   ·have h5:(i:Int) + k ≥ 5:=h5
    have e0:((i:Int) + k - 5).toNat = i + k - 5:=by omega
    have hA:muA a b i k U = U.set (i + k - 5) (moreW (U.getD (i + k - 5) (0,0)) (a.getD i 0) (UInt64.ofNat 19 * b.getD k 0)):=if_pos (by omega)
    repeat (refine Side.intro (by repeat' (first | (show AllP _;first | exact trivial | refine AllP.app ?_ ?_ | refine AllP.appd ?_ ?_ | refine AllP.cons ?_ ?_) | with_reducible rfl | with_reducible assumption | omega | (simp only [Nat.zero_add,Int.toNat_natCast,e0,rng,Ix.val,addQ_eq,addI,szs] <;> omega) | (simp only [Nat.zero_add,Int.toNat_natCast,e0,rng,Ix.val,Int.toNat_natCast,mulE_eq,addQ_eq,addI,Option.getD_none,Option.getD_some,List.length_take,List.length_drop,List.length_append,List.length_set,List.length_replicate,szs, *] <;> omega) | (simp only [Ix.val];with_reducible assumption) | exact UInt8.toNat_lt _ | (apply Eq.trans;(with_reducible assumption);exact rfl) | exact rfl | exact fun _ _=>rfl)) ?_)
    refine Call.pure (hMore (U.getD (i + k - 5) (0,0)) (a.getD i 0) (UInt64.ofNat 19 * b.getD k 0)) rfl ?_ ?_
    ·repeat' (first | (show AllP _;first | exact trivial | refine AllP.app ?_ ?_ | refine AllP.appd ?_ ?_ | refine AllP.cons ?_ ?_) | with_reducible rfl | with_reducible assumption | omega | (simp only [Nat.zero_add,Int.toNat_natCast,e0,rng,Ix.val,addQ_eq,addI,szs] <;> omega) | (simp only [Nat.zero_add,Int.toNat_natCast,e0,rng,Ix.val,Int.toNat_natCast,mulE_eq,addQ_eq,addI,Option.getD_none,Option.getD_some,List.length_take,List.length_drop,List.length_append,List.length_set,List.length_replicate,szs, *] <;> omega) | (simp only [Ix.val];with_reducible assumption) | exact UInt8.toNat_lt _ | (apply Eq.trans;(with_reducible assumption);exact rfl) | exact rfl | exact fun _ _=>rfl)
    intro v hv
    subst hv
    repeat (refine Side.intro (by repeat' (first | (show AllP _;first | exact trivial | refine AllP.app ?_ ?_ | refine AllP.appd ?_ ?_ | refine AllP.cons ?_ ?_) | with_reducible rfl | with_reducible assumption | omega | (simp only [Nat.zero_add,Int.toNat_natCast,e0,rng,Ix.val,addQ_eq,addI,szs] <;> omega) | (simp only [Nat.zero_add,Int.toNat_natCast,e0,rng,Ix.val,Int.toNat_natCast,mulE_eq,addQ_eq,addI,Option.getD_none,Option.getD_some,List.length_take,List.length_drop,List.length_append,List.length_set,List.length_replicate,szs, *] <;> omega) | (simp only [Ix.val];with_reducible assumption) | exact UInt8.toNat_lt _ | (apply Eq.trans;(with_reducible assumption);exact rfl) | exact rfl | exact fun _ _=>rfl)) ?_)
    refine ⟨k + 1,by omega,by omega,Le.intro [] rfl ?_ rfl ?_ rfl⟩
    ·exact fcn
    ·repeat' (first | (show AllP _;first | exact trivial | refine AllP.app ?_ ?_ | refine AllP.appd ?_ ?_ | refine AllP.cons ?_ ?_) | exact fdn | fail)
     all_goals (intro q hq;rw [hnR,hA,wF_set (by omega),← e0];rfl)
   ·have h5:¬ (i:Int) + k ≥ 5:=h5
    have e0:((i:Int) + k).toNat = i + k:=by omega
    have hA:muA a b i k U = U.set (i + k) (moreW (U.getD (i + k) (0,0)) (a.getD i 0) (b.getD k 0)):=if_neg (by omega)
    repeat (refine Side.intro (by repeat' (first | (show AllP _;first | exact trivial | refine AllP.app ?_ ?_ | refine AllP.appd ?_ ?_ | refine AllP.cons ?_ ?_) | with_reducible rfl | with_reducible assumption | omega | (simp only [Nat.zero_add,Int.toNat_natCast,e0,rng,Ix.val,addQ_eq,addI,szs] <;> omega) | (simp only [Nat.zero_add,Int.toNat_natCast,e0,rng,Ix.val,Int.toNat_natCast,mulE_eq,addQ_eq,addI,Option.getD_none,Option.getD_some,List.length_take,List.length_drop,List.length_append,List.length_set,List.length_replicate,szs, *] <;> omega) | (simp only [Ix.val];with_reducible assumption) | exact UInt8.toNat_lt _ | (apply Eq.trans;(with_reducible assumption);exact rfl) | exact rfl | exact fun _ _=>rfl)) ?_)
    refine Call.pure (hMore (U.getD (i + k) (0,0)) (a.getD i 0) (b.getD k 0)) rfl ?_ ?_
    ·repeat' (first | (show AllP _;first | exact trivial | refine AllP.app ?_ ?_ | refine AllP.appd ?_ ?_ | refine AllP.cons ?_ ?_) | with_reducible rfl | with_reducible assumption | omega | (simp only [Nat.zero_add,Int.toNat_natCast,e0,rng,Ix.val,addQ_eq,addI,szs] <;> omega) | (simp only [Nat.zero_add,Int.toNat_natCast,e0,rng,Ix.val,Int.toNat_natCast,mulE_eq,addQ_eq,addI,Option.getD_none,Option.getD_some,List.length_take,List.length_drop,List.length_append,List.length_set,List.length_replicate,szs, *] <;> omega) | (simp only [Ix.val];with_reducible assumption) | exact UInt8.toNat_lt _ | (apply Eq.trans;(with_reducible assumption);exact rfl) | exact rfl | exact fun _ _=>rfl)
    intro v hv
    subst hv
    repeat (refine Side.intro (by repeat' (first | (show AllP _;first | exact trivial | refine AllP.app ?_ ?_ | refine AllP.appd ?_ ?_ | refine AllP.cons ?_ ?_) | with_reducible rfl | with_reducible assumption | omega | (simp only [Nat.zero_add,Int.toNat_natCast,e0,rng,Ix.val,addQ_eq,addI,szs] <;> omega) | (simp only [Nat.zero_add,Int.toNat_natCast,e0,rng,Ix.val,Int.toNat_natCast,mulE_eq,addQ_eq,addI,Option.getD_none,Option.getD_some,List.length_take,List.length_drop,List.length_append,List.length_set,List.length_replicate,szs, *] <;> omega) | (simp only [Ix.val];with_reducible assumption) | exact UInt8.toNat_lt _ | (apply Eq.trans;(with_reducible assumption);exact rfl) | exact rfl | exact fun _ _=>rfl)) ?_)
    refine ⟨k + 1,by omega,by omega,Le.intro [] rfl ?_ rfl ?_ rfl⟩
    ·exact fcn
    ·repeat' (first | (show AllP _;first | exact trivial | refine AllP.app ?_ ?_ | refine AllP.appd ?_ ?_ | refine AllP.cons ?_ ?_) | exact fdn | fail)
     all_goals (intro q hq;rw [hnR,hA,wF_set (by omega),← e0];rfl)
  ·obtain rfl:k = 5:=by have hc:¬ (k:Int) < 5:=hc;omega
   repeat (refine sd ?_)
   rw [← hn]
   refine ⟨i + 1,by omega,by omega,Le.intro [] rfl ?_ rfl ?_ rfl⟩
   ·exact fcn
   ·exact fcn
 ·obtain rfl:i = 5:=by have hc:¬ (i:Int) < 5:=hc;omega
  have hE:mulL a b = carL ((cyS (muS a b 5) 5).1.set 0 ((cyS (muS a b 5) 5).1.getD 0 0 + (cyS (muS a b 5) 5).2 * UInt64.ofNat 19)):=rfl
  rw [hE]
  clear hn hE
  generalize muS a b 5 = T at *
  have z0:(UInt64.ofNat 0).toNat ≤ 1:=by decide
  repeat (refine sd ?_)
  refine Loop.intro (σ:=Nat) (fun i=>i ≤ 5) (fun i=>([(4,.ptr 4 0 none),(5,.ptr 5 0 none),(10,.ptr 10 0 none),(11,.u64 (cyS T i).2),(61,.i .i64 i)],
   [(4,.mem true 0 [(5,.a64 (List.replicate 5 0))]),(5,.mem true 0 [(10,.arr 5 2 (wF T))]),(10,.mem true 0 [(5,.a64 (cyS T i).1)])])) (fun i=>5 - i) 0 (Nat.zero_le _) ?_ ?_
  ·have z1:(cyS T 0).1 = List.replicate 5 0:=rfl
   have z2:(cyS T 0).2 = UInt64.ofNat 0:=rfl
   refine Le.intro [] rfl ?_ rfl ?_ rfl
   ·exact fc
   ·exact fc
  rintro i hi
  have hlc:=cyS_length T i
  refine Branch.intro (fun hc=>?_) (fun hc=>?_)
  ·have hc:(i:Int) < 5:=hc
   have hn1:(cyS T (i + 1)).1 = (cyS T i).1.set i (addS (T.getD i (0,0)).2 (cyS T i).2 0 &&& UInt64.ofNat 2251799813685247):=rfl
   have hn2:(cyS T (i + 1)).2 = shl64 ((T.getD i (0,0)).1 + addC (T.getD i (0,0)).2 (cyS T i).2 0) 13 ||| shr64 (addS (T.getD i (0,0)).2 (cyS T i).2 0) 51:=rfl
   generalize (cyS T i).1 = X at *
   generalize (cyS T i).2 = C at *
   repeat (refine sdn ?_)
   refine ⟨i + 1,by omega,by omega,Le.intro [] rfl ?_ rfl ?_ rfl⟩
   ·repeat' (first | (show AllP _;first | exact trivial | refine AllP.app ?_ ?_ | refine AllP.appd ?_ ?_ | refine AllP.cons ?_ ?_) | exact fdn | fail)
    all_goals trace_state
   ·repeat' (first | (show AllP _;first | exact trivial | refine AllP.app ?_ ?_ | refine AllP.appd ?_ ?_ | refine AllP.cons ?_ ?_) | exact fdn | fail)
    all_goals trace_state
  obtain rfl:i = 5:=by have hc:¬ (i:Int) < 5:=hc;omega
  generalize (cyS T 5).1 = X at *
  generalize (cyS T 5).2 = C at *
  have hC:=fn46 (X.set 0 (X.getD 0 0 + C * UInt64.ofNat 19)) (by rw [List.length_set];exact hlc)
  have hlR:=(carL_lb (X.set 0 (X.getD 0 0 + C * UInt64.ofNat 19))).1
  generalize carL (X.set 0 (X.getD 0 0 + C * UInt64.ofNat 19)) = R at *
  repeat (refine sd ?_)
  refine Call.pure hC rfl ?_ ?_
  ·exact fc
  intro v hv
  subst hv
  repeat (refine sd ?_)
  refine Ret.intro (.agg [(5,.a64 R)]) [] [] rfl ?_ rfl rfl ?_ rfl ?_ rfl
  ·exact fc
  ·exact fc
  ·exact fc
end Go.Proofs.Ytimbdhpchlakfaa
namespace Go.Proofs.Ytimbdhpchlakfaa
open Go Go.Sx Go.Cu
theorem pbit_int {k i:Nat} (hk:1 ≤ k):((((((k:Int) - 1) / 2 ^ i).toNat &&& 1:Nat):Int) = 0 ∨ 10 < (i:Int)) ↔ pbit k i:=by
 have e:(((k:Int) - 1) / 2 ^ i).toNat = (k - 1) / 2 ^ i:=by
  have h1:((k:Int) - 1) = ((k - 1:Nat):Int):=by omega
  have h2:((2:Int) ^ i) = ((2 ^ i:Nat):Int):=by rw [Int.natCast_pow];rfl
  rw [h1,h2,← Int.natCast_ediv,Int.toNat_natCast]
 rw [e,show (1:Nat) = 2 ^ 1 - 1 from rfl,Nat.and_two_pow_sub_one_eq_mod]
 unfold pbit
 generalize (k - 1) / 2 ^ i = w
 omega
set_option maxRecDepth 100000 in
theorem fn59 (k i:Nat) (hk:1 ≤ k) (hk2:k ≤ 1000) (hi:i ≤ 1000):Sx.Fn Γ.P 59 [.i .i64 i,.ptr 1000 0 none] [(1000,.mem true 0 [(1,.i .i64 k)])]
  (fun v M=>v = .bool (pbit k i)∧M = [(1000,.mem true 0 [(1,.i .i64 k)])]):=by
 have hb:=pbit_int (k:=k) (i:=i) hk
 have h0:0 ≤ ((k:Int) - 1) / 2 ^ i:=Int.ediv_nonneg (by omega) (Int.pow_nonneg (by omega))
 have h1:((k:Int) - 1) / 2 ^ i ≤ (k:Int) - 1:=by
  have h2:((2:Int) ^ i) = ((2 ^ i:Nat):Int):=by rw [Int.natCast_pow];rfl
  have h1:((k:Int) - 1) = ((k - 1:Nat):Int):=by omega
  have:=Nat.div_le_self (k - 1) (2 ^ i)
  rw [h1,h2,← Int.natCast_ediv];omega
 refine fn_of (Γ:=Γ) (fn:=Try.f59) rfl rfl rfl rfl ?_
 repeat (refine sd ?_)
 refine Branch.intro (fun h=>?_) (fun h=>?_)
 ·repeat (refine sd ?_)
  refine Ret.intro (.bool (pbit k i)) [(1000,.mem true 0 [(1,.i .i64 k)])] [] rfl ?_ ⟨rfl,rfl⟩ rfl ?_ rfl ?_ rfl
  ·exact fc
  ·repeat' (first | (show AllP _;first | exact trivial | refine AllP.app ?_ ?_ | refine AllP.appd ?_ ?_ | refine AllP.cons ?_ ?_) | exact fd | fail)
   all_goals (rw [Int.toNat_natCast] at h;exact hb.1 (Or.inl h))
  ·exact fc
 ·repeat (refine sd ?_)
  refine Ret.intro (.bool (pbit k i)) [(1000,.mem true 0 [(1,.i .i64 k)])] [] rfl ?_ ⟨rfl,rfl⟩ rfl ?_ rfl ?_ rfl
  ·exact fc
  ·repeat' (first | (show AllP _;first | exact trivial | refine AllP.app ?_ ?_ | refine AllP.appd ?_ ?_ | refine AllP.cons ?_ ?_) | exact fd | fail)
   all_goals (rw [Int.toNat_natCast] at h;exact ⟨fun hp=>(hb.2 hp).resolve_left h,fun h10=>hb.1 (Or.inr h10)⟩)
  ·exact fc
set_option maxRecDepth 100000 in
theorem fn49 (a:List UInt64) (n k:Nat) (ha:a.length = 5) (hn:n ≤ 1000) (hk:1 ≤ k) (hk2:k ≤ 1000):Sx.Fn Γ.P 49 [.agg [(5,.a64 a)],.i .i64 n,.i .i64 k] []
  (fun v _=>v = .agg [(5,.a64 (pwS a n k n))]):=by
 have hM:=fun (x y:List UInt64) (hx:x.length = 5) (hy:y.length = 5)=>fn30 x y hx hy
 have hml:=fun x y=>(mulL_lb x y).1
 refine fn_of (Γ:=Γ) (fn:=Try.f49) rfl rfl rfl rfl ?_
 repeat (refine sd ?_)
 refine Loop.intro (σ:=Nat) (fun j=>j ≤ n) (fun j=>([(3,.ptr 3 0 none),(5,.ptr 5 0 none),(6,.ptr 6 0 none),(7,.fn 59 [(5,0)]),(8,.ptr 8 0 none),(9,.i .i64 ((n:Int) - 1 - j))],
  [(3,.mem true 0 [(5,.a64 a)]),(5,.mem true 0 [(1,.i .i64 k)]),(6,.mem true 0 [(5,.a64 (List.replicate 5 0))]),(8,.mem true 0 [(5,.a64 (pwS a n k j))])])) (fun j=>n - j) 0 (Nat.zero_le _) ?_ ?_
 ·refine Le.intro [] rfl ?_ rfl ?_ rfl
  ·exact fc
  ·exact fc
 rintro j hj
 have hl:=(pwS_lb a n k j).1
 have hn1:pwS a n k (j + 1) = if pbit k (n - 1 - j) then mulL (mulL (pwS a n k j) (pwS a n k j)) a else mulL (pwS a n k j) (pwS a n k j):=rfl
 obtain ⟨X,hX⟩:∃ x,pwS a n k j = x:=⟨_,rfl⟩
 refine Branch.intro (fun hc=>?_) (fun hc=>?_)
 ·have hc:(n:Int) - 1 - j ≥ 0:=hc
  rw [hX] at hl hn1 ⊢
  have hll:=hml X X
  repeat (refine sd ?_)
  refine Call.pure (hM X X hl hl) rfl ?_ ?_
  ·exact fc
  intro v hv
  subst hv
  repeat (refine sd ?_)
  refine Call.intro (fn59 k (n - 1 - j) hk hk2 (by omega)) [(1000,(5,0,none))] rfl ?_ rfl ?_ rfl ?_
  ·exact fc
  ·exact fc
  rintro v M' ⟨rfl,rfl⟩
  repeat (refine sd ?_)
  refine Branch.intro (fun hp=>?_) (fun hp=>?_)
  ·have hp:pbit k (n - 1 - j):=hp
   rw [if_pos hp] at hn1
   repeat (refine sd ?_)
   refine Call.pure (hM (mulL X X) a hll ha) rfl ?_ ?_
   ·exact fc
   intro v hv
   subst hv
   repeat (refine sd ?_)
   refine ⟨j + 1,by omega,by omega,Le.intro [] rfl ?_ rfl ?_ rfl⟩
   ·exact fc
   ·exact fc
  ·have hp:¬ pbit k (n - 1 - j):=hp
   rw [if_neg hp] at hn1
   repeat (refine sd ?_)
   refine ⟨j + 1,by omega,by omega,Le.intro [] rfl ?_ rfl ?_ rfl⟩
   ·exact fc
   ·exact fc
 ·obtain rfl:j = n:=by have hc:¬ (n:Int) - 1 - j ≥ 0:=hc;omega
  rw [hX]
  rw [hX] at hl
  repeat (refine sd ?_)
  refine Ret.intro (.agg [(5,.a64 X)]) [] [] rfl ?_ rfl rfl ?_ rfl ?_ rfl
  ·exact fc
  ·exact fc
  ·exact fc
set_option maxRecDepth 100000 in
theorem fn31 (a:List UInt64) (ha:a.length = 5):Sx.Fn Γ.P 31 [.agg [(5,.a64 a)]] [] (fun v _=>v = .agg [(5,.a64 (invL a))]):=by
 have hP:=fn49 a 255 21 ha (by omega) (by omega) (by omega)
 have hl:=(invL_lb a).1
 have e:invL a = pwS a 255 21 255:=rfl
 rw [← e] at hP
 generalize invL a = X at hP hl
 refine fn_of (Γ:=Γ) (fn:=Try.f31) rfl rfl rfl rfl ?_
 repeat (refine sd ?_)
 refine Call.pure hP rfl ?_ ?_
 ·exact fc
 intro v hv
 subst hv
 repeat (refine sd ?_)
 refine Ret.intro (.agg [(5,.a64 X)]) [] [] rfl ?_ rfl rfl ?_ rfl ?_ rfl
 ·exact fc
 ·exact fc
 ·exact fc
end Go.Proofs.Ytimbdhpchlakfaa
