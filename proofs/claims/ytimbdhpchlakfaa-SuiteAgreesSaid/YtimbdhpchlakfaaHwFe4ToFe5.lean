/- What the functions of the program compute. No condition. -/
import Derived.Test.YtimbdhpchlakfaaHwCu12ToFe1
import Derived.Test.YtimbdhpchlakfaaHwFe2ToFe3
import Derived.Test.YtimbdhpchlakfaaHx7
set_option linter.unusedSimpArgs false
set_option linter.unusedVariables false
namespace Go.Proofs.Ytimbdhpchlakfaa
open Go Go.Sx Go.Cu
set_option maxRecDepth 100000 in
theorem fn27 (b:List UInt8) (hb:b.length = 32):Sx.Fn Γ.P 27 [.a8 b] [] (fun v _=>v = .agg [(5,.a64 (ofL b))]):=by
 refine fn_of (Γ:=Γ) (fn:=Try.f27) rfl rfl rfl rfl ?_
 repeat (refine sd ?_)
 refine Loop.intro (σ:=Nat) (fun i=>i ≤ 32) (fun i=>([(1,.ptr 1 0 none),(2,.ptr 2 0 none),(3,.ptr 3 0 none),(6,.a8 b),(7,.i .i64 i)],
  [(1,.mem true 0 [(32,.a8 b)]),(2,.mem true 0 [(5,.a64 (List.replicate 5 0))]),(3,.mem true 0 [(4,.a64 (Cu.owS b i))])])) (fun i=>32 - i) 0 (Nat.zero_le _) ?_ ?_
 ·refine Le.intro [] rfl ?_ rfl ?_ rfl
  ·exact fc
  ·exact fc
 rintro i hi
 have hl:=Cu.owS_length b i
 have hn:Cu.owS b (i + 1) = (Cu.owS b i).set (i / 8) ((Cu.owS b i).getD (i / 8) 0 ||| shl64 (b.getD i 0).toUInt64 (i % 8 * 8)):=rfl
 have hE:ofL b = ofW (Cu.owS b 32):=rfl
 refine Branch.intro (fun hc=>?_) (fun hc=>?_)
 ·have hc:(i:Int) < 32:=hc
  have e0:((i:Int) / 8).toNat = i / 8:=by omega
  have e1:((i:Int) % 8 * 8).toNat = i % 8 * 8:=by omega
  obtain ⟨X,hX⟩:∃ x,Cu.owS b i = x:=⟨_,rfl⟩
  rw [hX] at hl hn ⊢
  repeat (refine sd ?_)
  refine Draw.intro [[],[0],[0,1],[0,1,2],[],[4],[],[6],[6,7],[4,5,6,7,8],[0,1,2,3,4,5,6,7,8,9],[0,1,2,3,4,5,6,7,8,9,10],[0,1,2,3,4,5,6,7,8,9,10,11]] [0,1,2,3,4,5,6,7,8,9,10,11,12] (by kernel_rfl) ?_
  repeat (refine Side.intro (by repeat' (first | (show AllP _;first | exact trivial | refine AllP.app ?_ ?_ | refine AllP.appd ?_ ?_ | refine AllP.cons ?_ ?_) | with_reducible rfl | with_reducible assumption | omega | (simp only [Nat.zero_add,Int.toNat_natCast,e0,e1,rng,Ix.val,addQ_eq,addI,szs] <;> omega) | (simp only [Nat.zero_add,Int.toNat_natCast,e0,e1,rng,Ix.val,Int.toNat_natCast,mulE_eq,addQ_eq,addI,Option.getD_none,Option.getD_some,List.length_take,List.length_drop,List.length_append,List.length_set,List.length_replicate,szs, *] <;> omega) | (simp only [Ix.val];with_reducible assumption) | exact UInt8.toNat_lt _ | (apply Eq.trans;(with_reducible assumption);exact rfl) | exact rfl | exact fun _ _=>rfl)) ?_)
  refine ⟨i + 1,by omega,by omega,Le.intro [] rfl ?_ rfl ?_ rfl⟩
  ·repeat' (first | (show AllP _;first | exact trivial | refine AllP.app ?_ ?_ | refine AllP.appd ?_ ?_ | refine AllP.cons ?_ ?_) | with_reducible rfl | with_reducible assumption | omega | (simp only [Nat.zero_add,Int.toNat_natCast,e0,e1,rng,Ix.val,addQ_eq,addI,szs] <;> omega) | (simp only [Nat.zero_add,Int.toNat_natCast,e0,e1,rng,Ix.val,Int.toNat_natCast,mulE_eq,addQ_eq,addI,Option.getD_none,Option.getD_some,List.length_take,List.length_drop,List.length_append,List.length_set,List.length_replicate,szs, *] <;> omega) | (simp only [Ix.val];with_reducible assumption) | exact UInt8.toNat_lt _ | (apply Eq.trans;(with_reducible assumption);exact rfl) | exact rfl | exact fun _ _=>rfl)
  ·repeat' (first | (show AllP _;first | exact trivial | refine AllP.app ?_ ?_ | refine AllP.appd ?_ ?_ | refine AllP.cons ?_ ?_) | with_reducible rfl | with_reducible assumption | omega | (simp only [Nat.zero_add,Int.toNat_natCast,e0,e1,rng,Ix.val,addQ_eq,addI,szs] <;> omega) | (simp only [Nat.zero_add,Int.toNat_natCast,e0,e1,rng,Ix.val,Int.toNat_natCast,mulE_eq,addQ_eq,addI,Option.getD_none,Option.getD_some,List.length_take,List.length_drop,List.length_append,List.length_set,List.length_replicate,szs, *] <;> omega) | (simp only [Ix.val];with_reducible assumption) | exact UInt8.toNat_lt _ | (apply Eq.trans;(with_reducible assumption);exact rfl) | exact rfl | exact fun _ _=>rfl)
 ·obtain rfl:i = 32:=by have hc:¬ (i:Int) < 32:=hc;omega
  obtain ⟨X,hX⟩:∃ x,Cu.owS b 32 = x:=⟨_,rfl⟩
  rw [hX] at hl hE ⊢
  obtain ⟨Y,hY⟩:∃ y,ofW X = y:=⟨_,rfl⟩
  rw [hE,hY]
  repeat (refine sd ?_)
  refine Ret.intro (.agg [(5,.a64 Y)]) [] [] rfl ?_ rfl rfl ?_ rfl ?_ rfl
  ·exact fc
  ·repeat' (first | (show AllP _;first | exact trivial | refine AllP.app ?_ ?_ | refine AllP.appd ?_ ?_ | refine AllP.cons ?_ ?_) | exact fd | fail)
   all_goals (rw [← hY];rfl)
  ·exact fc
set_option maxRecDepth 100000 in
theorem fn29 (l:List UInt64) (hl:l.length = 5):Sx.Fn Γ.P 29 [.agg [(5,.a64 l)]] [] (fun v _=>v = .a8 (bytL l)):=by
 have hC1:=fn46 l hl
 have hl1:=(carL_lb l).1
 have hC2:=fn46 (carL l) hl1
 have hl2:=(carL_lb (carL l)).1
 have hE:bytL l = Cu.byS (wdL (nmL (carL (carL l)))) 32:=rfl
 rw [hE]
 have hN:nmL (carL (carL l)) = (nmS (frL (carL (carL l))) 4).set 4 ((nmS (frL (carL (carL l))) 4).getD 4 0 &&& UInt64.ofNat 2251799813685247):=rfl
 have hF:frL (carL (carL l)) = (carL (carL l)).set 0 ((carL (carL l)).getD 0 0 + UInt64.ofNat 19 * qS (carL (carL l)) 5):=rfl
 generalize nmL (carL (carL l)) = W at hN ⊢
 generalize frL (carL (carL l)) = B at hN hF
 generalize carL (carL l) = A at hC2 hl2 hF
 generalize carL l = A1 at hC1 hC2 hl1
 refine fn_of (Γ:=Γ) (fn:=Try.f29) rfl rfl rfl rfl ?_
 repeat (refine sd ?_)
 refine Call.pure hC1 rfl ?_ ?_
 ·exact fc
 intro v hv
 subst hv
 repeat (refine sd ?_)
 refine Call.pure hC2 rfl ?_ ?_
 ·exact fc
 intro v hv
 subst hv
 repeat (refine sd ?_)
 refine Loop.intro (σ:=Nat) (fun i=>i ≤ 5) (fun i=>([(1,.ptr 1 0 none),(2,.ptr 2 0 none),(3,.u64 (qS A i)),(15,.a64 A),(16,.i .i64 i)],
  [(1,.mem true 0 [(5,.a64 A)]),(2,.mem true 0 [(32,.a8 (List.replicate 32 0))])])) (fun i=>5 - i) 0 (Nat.zero_le _) ?_ ?_
 ·refine Le.intro [] rfl ?_ rfl ?_ rfl
  ·exact fc
  ·exact fc
 rintro i hi
 refine Branch.intro (fun hc=>?_) (fun hc=>?_)
 ·have hc:(i:Int) < 5:=hc
  have hn:qS A (i + 1) = shr64 (A.getD i 0 + qS A i) 51:=rfl
  repeat (refine sdn ?_)
  refine ⟨i + 1,by omega,by omega,Le.intro [] rfl ?_ rfl ?_ rfl⟩
  ·exact fcn
  ·exact fcn
 obtain rfl:i = 5:=by have hc:¬ (i:Int) < 5:=hc;omega
 have hlB:B.length = 5:=by rw [hF,List.length_set];exact hl2
 generalize qS A 5 = Q at hF
 repeat (refine sd ?_)
 refine Loop.intro (σ:=Nat) (fun i=>i ≤ 4) (fun i=>([(1,.ptr 1 0 none),(2,.ptr 2 0 none),(32,.i .i64 i)],
  [(1,.mem true 0 [(5,.a64 (nmS B i))]),(2,.mem true 0 [(32,.a8 (List.replicate 32 0))])])) (fun i=>4 - i) 0 (Nat.zero_le _) ?_ ?_
 ·have e:nmS B 0 = A.set 0 (A.getD 0 0 + UInt64.ofNat 19 * Q):=hF
  refine Le.intro [] rfl ?_ rfl ?_ rfl
  ·exact fc
  ·exact fc
 rintro i hi
 have hln:=nmS_length B hlB i
 refine Branch.intro (fun hc=>?_) (fun hc=>?_)
 ·have hc:(i:Int) < 4:=hc
  have e0:((i:Int) + 1).toNat = i + 1:=by omega
  have hn:nmS B (i + 1) = ((nmS B i).set (i + 1) ((nmS B i).getD (i + 1) 0 + shr64 ((nmS B i).getD i 0) 51)).set i (((nmS B i).set (i + 1) ((nmS B i).getD (i + 1) 0 + shr64 ((nmS B i).getD i 0) 51)).getD i 0 &&& UInt64.ofNat 2251799813685247):=rfl
  obtain ⟨X,hX⟩:∃ x,nmS B i = x:=⟨_,rfl⟩
  rw [hX] at hln hn ⊢
  repeat (refine sd ?_)
  refine Draw.intro [[],[0],[],[0,1,2],[0,1,2,3],[],[],[5,6],[5,6,7],[5,6,7,8],[0,1,2,3,4,5,6,7,8,9],[],[0,1,2,3,4,5,6,7,8,9,10,11],[0,1,2,3,4,5,6,7,8,9,10,11,12]] [0,1,2,3,4,5,6,7,8,9,10,11,12,13] (by kernel_rfl) ?_
  repeat (refine Side.intro (by repeat' (first | (show AllP _;first | exact trivial | refine AllP.app ?_ ?_ | refine AllP.appd ?_ ?_ | refine AllP.cons ?_ ?_) | with_reducible rfl | with_reducible assumption | omega | (simp only [Nat.zero_add,Int.toNat_natCast,e0,rng,Ix.val,addQ_eq,addI,szs] <;> omega) | (simp only [Nat.zero_add,Int.toNat_natCast,e0,rng,Ix.val,Int.toNat_natCast,mulE_eq,addQ_eq,addI,Option.getD_none,Option.getD_some,List.length_take,List.length_drop,List.length_append,List.length_set,List.length_replicate,szs, *] <;> omega) | (simp only [Ix.val];with_reducible assumption) | exact UInt8.toNat_lt _ | (apply Eq.trans;(with_reducible assumption);exact rfl) | exact rfl | exact fun _ _=>rfl)) ?_)
  refine ⟨i + 1,by omega,by omega,Le.intro [] rfl ?_ rfl ?_ rfl⟩
  ·repeat' (first | (show AllP _;first | exact trivial | refine AllP.app ?_ ?_ | refine AllP.appd ?_ ?_ | refine AllP.cons ?_ ?_) | with_reducible rfl | with_reducible assumption | omega | (simp only [Nat.zero_add,Int.toNat_natCast,e0,rng,Ix.val,addQ_eq,addI,szs] <;> omega) | (simp only [Nat.zero_add,Int.toNat_natCast,e0,rng,Ix.val,Int.toNat_natCast,mulE_eq,addQ_eq,addI,Option.getD_none,Option.getD_some,List.length_take,List.length_drop,List.length_append,List.length_set,List.length_replicate,szs, *] <;> omega) | (simp only [Ix.val];with_reducible assumption) | exact UInt8.toNat_lt _ | (apply Eq.trans;(with_reducible assumption);exact rfl) | exact rfl | exact fun _ _=>rfl)
  ·repeat' (first | (show AllP _;first | exact trivial | refine AllP.app ?_ ?_ | refine AllP.appd ?_ ?_ | refine AllP.cons ?_ ?_) | with_reducible rfl | with_reducible assumption | omega | (simp only [Nat.zero_add,Int.toNat_natCast,e0,rng,Ix.val,addQ_eq,addI,szs] <;> omega) | (simp only [Nat.zero_add,Int.toNat_natCast,e0,rng,Ix.val,Int.toNat_natCast,mulE_eq,addQ_eq,addI,Option.getD_none,Option.getD_some,List.length_take,List.length_drop,List.length_append,List.length_set,List.length_replicate,szs, *] <;> omega) | (simp only [Ix.val];with_reducible assumption) | exact UInt8.toNat_lt _ | (apply Eq.trans;(with_reducible assumption);exact rfl) | exact rfl | exact fun _ _=>rfl)
 obtain rfl:i = 4:=by have hc:¬ (i:Int) < 4:=hc;omega
 obtain ⟨X,hX⟩:∃ x,nmS B 4 = x:=⟨_,rfl⟩
 rw [hX] at hln hN ⊢
 have hlW:W.length = 5:=by rw [hN,List.length_set];exact hln
 have hw:wdL W = [W.getD 0 0 ||| shl64 (W.getD 1 0) 51,shr64 (W.getD 1 0) 13 ||| shl64 (W.getD 2 0) 38,shr64 (W.getD 2 0) 26 ||| shl64 (W.getD 3 0) 25,shr64 (W.getD 3 0) 39 ||| shl64 (W.getD 4 0) 12]:=rfl
 obtain ⟨T,hT⟩:∃ t,wdL W = t:=⟨_,rfl⟩
 have hlT:T.length = 4:=by rw [← hT];rfl
 rw [hT] at hw ⊢
 repeat (refine sd ?_)
 refine Loop.intro (σ:=Nat) (fun i=>i ≤ 32) (fun i=>([(2,.ptr 2 0 none),(8,.ptr 8 0 none),(9,.ptr 9 0 none),(92,.i .i64 i)],
  [(2,.mem true 0 [(32,.a8 (List.replicate 32 0))]),(8,.mem true 0 [(4,.a64 T)]),(9,.mem true 0 [(32,.a8 (Cu.byS T i))])])) (fun i=>32 - i) 0 (Nat.zero_le _) ?_ ?_
 ·have e:Cu.byS T 0 = List.replicate 32 0:=rfl
  refine Le.intro [] rfl ?_ rfl ?_ rfl
  ·exact fc
  ·repeat' (first | (show AllP _;first | exact trivial | refine AllP.app ?_ ?_ | refine AllP.appd ?_ ?_ | refine AllP.cons ?_ ?_) | exact fd | fail)
   all_goals (rw [hw,hN];rfl)
 rintro i hi
 have hlb:=Cu.byS_length T i
 refine Branch.intro (fun hc=>?_) (fun hc=>?_)
 ·have hc:(i:Int) < 32:=hc
  have e0:((i:Int) / 8).toNat = i / 8:=by omega
  have e1:((i:Int) % 8 * 8).toNat = i % 8 * 8:=by omega
  have hn:Cu.byS T (i + 1) = (Cu.byS T i).set i (shr64 (T.getD (i / 8) 0) (i % 8 * 8)).toUInt8:=rfl
  obtain ⟨X,hX⟩:∃ x,Cu.byS T i = x:=⟨_,rfl⟩
  rw [hX] at hlb hn ⊢
  repeat (refine Side.intro (by repeat' (first | (show AllP _;first | exact trivial | refine AllP.app ?_ ?_ | refine AllP.appd ?_ ?_ | refine AllP.cons ?_ ?_) | with_reducible rfl | with_reducible assumption | omega | (simp only [Nat.zero_add,Int.toNat_natCast,e0,e1,rng,Ix.val,addQ_eq,addI,szs] <;> omega) | (simp only [Nat.zero_add,Int.toNat_natCast,e0,e1,rng,Ix.val,Int.toNat_natCast,mulE_eq,addQ_eq,addI,Option.getD_none,Option.getD_some,List.length_take,List.length_drop,List.length_append,List.length_set,List.length_replicate,szs, *] <;> omega) | (simp only [Ix.val];with_reducible assumption) | exact UInt8.toNat_lt _ | (apply Eq.trans;(with_reducible assumption);exact rfl) | exact rfl | exact fun _ _=>rfl)) ?_)
  refine ⟨i + 1,by omega,by omega,Le.intro [] rfl ?_ rfl ?_ rfl⟩
  ·repeat' (first | (show AllP _;first | exact trivial | refine AllP.app ?_ ?_ | refine AllP.appd ?_ ?_ | refine AllP.cons ?_ ?_) | with_reducible rfl | with_reducible assumption | omega | (simp only [Nat.zero_add,Int.toNat_natCast,e0,e1,rng,Ix.val,addQ_eq,addI,szs] <;> omega) | (simp only [Nat.zero_add,Int.toNat_natCast,e0,e1,rng,Ix.val,Int.toNat_natCast,mulE_eq,addQ_eq,addI,Option.getD_none,Option.getD_some,List.length_take,List.length_drop,List.length_append,List.length_set,List.length_replicate,szs, *] <;> omega) | (simp only [Ix.val];with_reducible assumption) | exact UInt8.toNat_lt _ | (apply Eq.trans;(with_reducible assumption);exact rfl) | exact rfl | exact fun _ _=>rfl)
  ·repeat' (first | (show AllP _;first | exact trivial | refine AllP.app ?_ ?_ | refine AllP.appd ?_ ?_ | refine AllP.cons ?_ ?_) | with_reducible rfl | with_reducible assumption | omega | (simp only [Nat.zero_add,Int.toNat_natCast,e0,e1,rng,Ix.val,addQ_eq,addI,szs] <;> omega) | (simp only [Nat.zero_add,Int.toNat_natCast,e0,e1,rng,Ix.val,Int.toNat_natCast,mulE_eq,addQ_eq,addI,Option.getD_none,Option.getD_some,List.length_take,List.length_drop,List.length_append,List.length_set,List.length_replicate,szs, *] <;> omega) | (simp only [Ix.val];with_reducible assumption) | exact UInt8.toNat_lt _ | (apply Eq.trans;(with_reducible assumption);exact rfl) | exact rfl | exact fun _ _=>rfl)
 obtain rfl:i = 32:=by have hc:¬ (i:Int) < 32:=hc;omega
 obtain ⟨X,hX⟩:∃ x,Cu.byS T 32 = x:=⟨_,rfl⟩
 rw [hX] at hlb ⊢
 repeat (refine sd ?_)
 refine Ret.intro (.a8 X) [] [] rfl ?_ rfl rfl ?_ rfl ?_ rfl
 ·exact fc
 ·exact fc
 ·exact fc
end Go.Proofs.Ytimbdhpchlakfaa
namespace Go.Cu
open Go Go.Sx
def r0 (a:F):F:=pw a ((P25519 + 3) / 8)
def j0:F:=pw 2 ((P25519 - 1) / 4)
def isSq (a:F):Prop:=a = 0 ∨ pw a ((P25519 - 1) / 2) = 1
instance (a:F):Decidable (isSq a):=by unfold isSq;exact inferInstance
def rootT (a:F):F:=if r0 a * r0 a = a then r0 a else r0 a * j0
def evenF (r:F):F:=if r.val % 2 = 1 then 0 - r else r
def rootF (a:F):F:=evenF (rootT a)
def lowB (b:List UInt8):List UInt8:=b.set 31 (b.getD 31 0 &&& UInt8.ofNat 127)
def xxF (y:F):F:=(y * y - 1) * inv (dF * (y * y) + 1)
def oddB (b:List UInt8):Prop:=128 ≤ (b.getD 31 0).toNat
instance (b:List UInt8):Decidable (oddB b):=by unfold oddB;exact inferInstance
def okD (b:List UInt8):Prop:=leB (ofF (lowB b)) = lowB b∧isSq (xxF (ofF (lowB b)))∧¬ (oddB b∧rootF (xxF (ofF (lowB b))) = 0)
instance (b:List UInt8):Decidable (okD b):=by unfold okD;exact inferInstance
end Go.Cu
namespace Go.Proofs.Ytimbdhpchlakfaa
open Go Go.Sx Go.Cu
set_option maxRecDepth 100000 in
theorem fnBytesF (l:List UInt64) (hl:l.length = 5):Sx.Fn Γ.P 29 [.agg [(5,.a64 l)]] [] (fun v _=>v = .a8 (leB (fv l))):=by
 have h:=fn29 l hl
 rw [bytL_eq] at h
 exact h
end Go.Proofs.Ytimbdhpchlakfaa
