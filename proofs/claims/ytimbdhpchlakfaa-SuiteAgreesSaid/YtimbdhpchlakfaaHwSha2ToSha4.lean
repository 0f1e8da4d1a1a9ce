/- What the functions of the program compute. No condition. -/
import Derived.Test.YtimbdhpchlakfaaHwCbc2ToSha1
set_option linter.unusedSimpArgs false
set_option linter.unusedVariables false
namespace Go.Proofs.Ytimbdhpchlakfaa
open Go Go.Sx
def rr32 (x:UInt32) (n:Nat):UInt32:=shl32 x (32 - n) ||| shr32 x n
theorem cnt32:∀ n:Nat,n < 32→0 < n→(UInt64.ofInt (-(n:Int)) &&& 31).toNat = 32 - n∧((32:UInt64) - (UInt64.ofInt (-(n:Int)) &&& 31)).toNat = n:=by decide
set_option maxRecDepth 100000 in
theorem fn62 (x:UInt32) (n:Nat) (h:n < 32) (h0:0 < n):Sx.Fn Γ.P 62 [.u32 x,.i .i64 (-(n:Int))] [] (fun v _=>v = .u32 (rr32 x n)):=by
 refine fn_of (Γ:=Γ) (fn:=Try.f62) rfl rfl rfl rfl ?_
 refine Ret.intro (.u32 (rr32 x n)) [] [] rfl trivial rfl rfl ?_ rfl trivial rfl
 obtain ⟨e1,e2⟩:=cnt32 n h h0
 show rr32 x n = shl32 x (UInt64.ofInt (-(n:Int)) &&& 31).toNat ||| shr32 x ((32:UInt64) - (UInt64.ofInt (-(n:Int)) &&& 31)).toNat
 rw [e1,e2];rfl
end Go.Proofs.Ytimbdhpchlakfaa
namespace Go.Proofs.Ytimbdhpchlakfaa
open Go Go.Sx
def wS32 (b:List UInt8):Nat→List UInt32
 | 0=>List.replicate 64 0
 | i + 1=>(wS32 b i).set i (shl32 (b.getD (4 * i) 0).toUInt32 24 ||| shl32 (b.getD (4 * i + 1) 0).toUInt32 16 ||| shl32 (b.getD (4 * i + 2) 0).toUInt32 8 ||| (b.getD (4 * i + 3) 0).toUInt32)
def wN32 (w:List UInt32) (i:Nat):UInt32:=
 w.getD (i - 16) 0 + w.getD (i - 7) 0 + (rr32 (w.getD (i - 15) 0) 7 ^^^ rr32 (w.getD (i - 15) 0) 18 ^^^ shr32 (w.getD (i - 15) 0) 3) + (rr32 (w.getD (i - 2) 0) 17 ^^^ rr32 (w.getD (i - 2) 0) 19 ^^^ shr32 (w.getD (i - 2) 0) 10)
def wE32 (w:List UInt32):Nat→List UInt32
 | 0=>w
 | k + 1=>(wE32 w k).set (16 + k) (wN32 (wE32 w k) (16 + k))
def one32 (v:List UInt32) (k w:UInt32):UInt32:=
 v.getD 7 0 + (rr32 (v.getD 4 0) 6 ^^^ rr32 (v.getD 4 0) 11 ^^^ rr32 (v.getD 4 0) 25) + (v.getD 4 0 &&& v.getD 5 0 ^^^ ~~~(v.getD 4 0) &&& v.getD 6 0) + k + w
def two32 (v:List UInt32):UInt32:=
 (rr32 (v.getD 0 0) 2 ^^^ rr32 (v.getD 0 0) 13 ^^^ rr32 (v.getD 0 0) 22) + (v.getD 0 0 &&& v.getD 1 0 ^^^ v.getD 0 0 &&& v.getD 2 0 ^^^ v.getD 1 0 &&& v.getD 2 0)
def rd32 (v:List UInt32) (k w:UInt32):List UInt32:=
 [one32 v k w + two32 v,v.getD 0 0,v.getD 1 0,v.getD 2 0,v.getD 3 0 + one32 v k w,v.getD 4 0,v.getD 5 0,v.getD 6 0]
def rds32 (w v:List UInt32):Nat→List UInt32
 | 0=>v
 | i + 1=>rd32 (rds32 w v i) (K32.getD i 0) (w.getD i 0)
def hA32 (h v:List UInt32):Nat→List UInt32
 | 0=>h
 | i + 1=>(hA32 h v i).set i ((hA32 h v i).getD i 0 + v.getD i 0)
def wAll32 (b:List UInt8):List UInt32:=wE32 (wS32 b 16) 48
def blk32 (h:List UInt32) (b:List UInt8):List UInt32:=hA32 h (rds32 (wAll32 b) h 64) 8
theorem wS32_length (b:List UInt8):∀ i,(wS32 b i).length = 64
 | 0=>List.length_replicate
 | i + 1=>by simp only [wS32,List.length_set,wS32_length b i]
theorem wE32_length {w:List UInt32} (h:w.length = 64):∀ i,(wE32 w i).length = 64
 | 0=>h
 | i + 1=>by simp only [wE32,List.length_set,wE32_length h i]
theorem rds32_length {w v:List UInt32} (h:v.length = 8):∀ i,(rds32 w v i).length = 8
 | 0=>h
 | i + 1=>rfl
theorem hA32_length {h v:List UInt32} (hh:h.length = 8):∀ i,(hA32 h v i).length = 8
 | 0=>hh
 | i + 1=>by simp only [hA32,List.length_set,hA32_length hh i]
theorem blk32_length {h:List UInt32} (hh:h.length = 8) (b:List UInt8):(blk32 h b).length = 8:=hA32_length hh 8
set_option maxRecDepth 100000 in
set_option maxHeartbeats 2000000 in
theorem fn57 (h:List UInt32) (b:List UInt8) (hh:h.length = 8) (hb:b.length = 64):Sx.Fn Γ.P 57 [.ptr 1000 0 none,.slx 1001 0 0 64] [(1000,.mem true 0 [(8,.a32 h)]),(1001,.mem false 0 [(64,.a8 b)])]
  (fun v M=>v = .tup []∧M = [(1000,.mem true 0 [(8,.a32 (blk32 h b))]),(1001,.mem false 0 [(64,.a8 b)])]):=by
 have hK:=K32_eq
 have hKl:=K32_length
 refine fn_of (Γ:=Γ) (fn:=Try.f57) rfl rfl rfl rfl ?_
 repeat (refine sd ?_)
 refine Loop.intro (σ:=Nat) (fun i=>i ≤ 16)
  (fun i=>([(0,.ptr 1000 0 none),(1,.slx 1001 0 0 64),(4,.ptr 4 0 none),(5,.ptr 5 0 none),(18,.i .i64 i)],
   [(1000,.mem true 0 [(8,.a32 h)]),(1001,.mem false 0 [(64,.a8 b)]),(4,.mem true 0 [(64,.a32 K32)]),(5,.mem true 0 [(64,.a32 (wS32 b i))])])) (fun i=>16 - i) 0 (Nat.zero_le _) ?_ ?_
 ·refine Le.intro [] rfl fc rfl ?_ rfl
  exact fc
 rintro i hi
 have hl:=wS32_length b i
 refine Branch.intro (fun hc=>?_) (fun hc=>?_)
 ·have hc:(i:Int) < 16:=hc
  have e0:(4 * (i:Int)).toNat = 4 * i:=by omega
  have e1:(4 * (i:Int) + 1).toNat = 4 * i + 1:=by omega
  have e2:(4 * (i:Int) + 2).toNat = 4 * i + 2:=by omega
  have e3:(4 * (i:Int) + 3).toNat = 4 * i + 3:=by omega
  refine Draw.intro [[],[],[],[2],[1,2,3],[1,2,3,4],[1,2,3,4,5],[1,2,3,4,5,6],[],[],[9],[9,10],[8,9,10,11],[8,9,10,11,12],[8,9,10,11,12,13],[8,9,10,11,12,13,14],[1,2,3,4,5,6,7,8,9,10,11,12,13,14,15],[],[],[18],[18,19],[17,18,19,20],[17,18,19,20,21],[17,18,19,20,21,22],[17,18,19,20,21,22,23],[1,2,3,4,5,6,7,8,9,10,11,12,13,14,15,16,17,18,19,20,21,22,23,24],[],[],[27],[27,28],[26,27,28,29],[26,27,28,29,30],[26,27,28,29,30,31],[1,2,3,4,5,6,7,8,9,10,11,12,13,14,15,16,17,18,19,20,21,22,23,24,25,26,27,28,29,30,31,32],[0,1,2,3,4,5,6,7,8,9,10,11,12,13,14,15,16,17,18,19,20,21,22,23,24,25,26,27,28,29,30,31,32,33],[0,1,2,3,4,5,6,7,8,9,10,11,12,13,14,15,16,17,18,19,20,21,22,23,24,25,26,27,28,29,30,31,32,33,34]] [0,1,2,3,4,5,6,7,8,9,10,11,12,13,14,15,16,17,18,19,20,21,22,23,24,25,26,27,28,29,30,31,32,33,34,35] (by kernel_rfl) ?_
  repeat (refine Side.intro (by repeat' (first | (show AllP _;first | exact trivial | refine AllP.app ?_ ?_ | refine AllP.appd ?_ ?_ | refine AllP.cons ?_ ?_) | with_reducible rfl | with_reducible assumption | omega | (simp only [Nat.zero_add,e0,e1,e2,e3,rng,Ix.val,addQ_eq,addI,szs] <;> omega) | (simp only [Nat.zero_add,e0,e1,e2,e3,rng,Ix.val,Int.toNat_natCast,mulE_eq,addQ_eq,addI,Option.getD_none,Option.getD_some,List.length_take,List.length_drop,List.length_append,List.length_set,List.length_replicate,szs, *] <;> omega) | (simp only [Ix.val];with_reducible assumption) | exact UInt8.toNat_lt _ | (apply Eq.trans;(with_reducible assumption);exact rfl) | exact rfl | exact fun _ _=>rfl)) ?_)
  refine ⟨i + 1,by omega,by omega,Le.intro [] rfl fc rfl ?_ rfl⟩
  exact fc
 ·obtain rfl:i = 16:=by have hc:¬ (i:Int) < 16:=hc;omega
  obtain ⟨W0,hW0⟩:∃ x,wS32 b 16 = x:=⟨_,rfl⟩
  rw [hW0] at hl
  refine Loop.intro (σ:=Nat) (fun k=>k ≤ 48)
   (fun k=>([(0,.ptr 1000 0 none),(4,.ptr 4 0 none),(5,.ptr 5 0 none),(7,.i .i64 ((k:Int) + 16))],
    [(1000,.mem true 0 [(8,.a32 h)]),(1001,.mem false 0 [(64,.a8 b)]),(4,.mem true 0 [(64,.a32 K32)]),(5,.mem true 0 [(64,.a32 (wE32 W0 k))])])) (fun k=>48 - k) 0 (Nat.zero_le _) ?_ ?_
  ·refine Le.intro [] rfl fc rfl ?_ rfl
   have e0:wE32 W0 0 = wS32 b 16:=hW0.symm
   exact fc
  rintro k hk
  have hl:=wE32_length hl k
  refine Branch.intro (fun hc=>?_) (fun hc=>?_)
  ·have hc:(k:Int) + 16 < 64:=hc
   have e0:((k:Int) + 16).toNat = 16 + k:=by omega
   have e1:((k:Int) + 16 - 16).toNat = 16 + k - 16:=by omega
   have e2:((k:Int) + 16 - 7).toNat = 16 + k - 7:=by omega
   have e3:((k:Int) + 16 - 15).toNat = 16 + k - 15:=by omega
   have e4:((k:Int) + 16 - 2).toNat = 16 + k - 2:=by omega
   refine Draw.intro [[],[0],[0,1],[0,1,2],[],[4],[4,5],[4,5,6],[0,1,2,3],[0,1,2,3,4,5,6,7,8]] [0,1,2,3,4,5,6,7,8,9] (by kernel_rfl) ?_
   repeat (refine Side.intro (by repeat' (first | (show AllP _;first | exact trivial | refine AllP.app ?_ ?_ | refine AllP.appd ?_ ?_ | refine AllP.cons ?_ ?_) | with_reducible rfl | with_reducible assumption | omega | (simp only [Nat.zero_add,e0,e1,e2,e3,e4,rng,Ix.val,addQ_eq,addI,szs] <;> omega) | (simp only [Nat.zero_add,e0,e1,e2,e3,e4,rng,Ix.val,Int.toNat_natCast,mulE_eq,addQ_eq,addI,Option.getD_none,Option.getD_some,List.length_take,List.length_drop,List.length_append,List.length_set,List.length_replicate,szs, *] <;> omega) | (simp only [Ix.val];with_reducible assumption) | exact UInt8.toNat_lt _ | (apply Eq.trans;(with_reducible assumption);exact rfl) | exact rfl | exact fun _ _=>rfl)) ?_)
   refine Draw.intro [[],[],[1],[1,2],[1,2,3],[],[5],[5,6],[5,6,7],[1,2,3,4,5,6,7,8],[],[10],[],[10,11,12],[10,11,12,13],[],[15],[10,11,12,13,14,15,16],[1,2,3,4,5,6,7,8,9,10,11,12,13,14,15,16,17],[],[10,11,12,13,19],[],[10,11,12,13,19,20,21],[10,11,12,13,19,20,21,22],[],[24],[10,11,12,13,19,20,21,22,23,24,25],[1,2,3,4,5,6,7,8,9,10,11,12,13,14,15,16,17,18,19,20,21,22,23,24,25,26],[0,1,2,3,4,5,6,7,8,9,10,11,12,13,14,15,16,17,18,19,20,21,22,23,24,25,26,27],[0,1,2,3,4,5,6,7,8,9,10,11,12,13,14,15,16,17,18,19,20,21,22,23,24,25,26,27,28]] [0,1,2,3,4,5,6,7,8,9,10,12,15,16,19,21,24,25,11,13,14,17,18,20,22,23,26,27,28,29] (by kernel_rfl) ?_
   repeat (refine Side.intro (by repeat' (first | (show AllP _;first | exact trivial | refine AllP.app ?_ ?_ | refine AllP.appd ?_ ?_ | refine AllP.cons ?_ ?_) | with_reducible rfl | with_reducible assumption | omega | (simp only [Nat.zero_add,e0,e1,e2,e3,e4,rng,Ix.val,addQ_eq,addI,szs] <;> omega) | (simp only [Nat.zero_add,e0,e1,e2,e3,e4,rng,Ix.val,Int.toNat_natCast,mulE_eq,addQ_eq,addI,Option.getD_none,Option.getD_some,List.length_take,List.length_drop,List.length_append,List.length_set,List.length_replicate,szs, *] <;> omega) | (simp only [Ix.val];with_reducible assumption) | exact UInt8.toNat_lt _ | (apply Eq.trans;(with_reducible assumption);exact rfl) | exact rfl | exact fun _ _=>rfl)) ?_)
   refine Call.pure (fn62 ((wE32 W0 k).getD (16 + k - 15) 0) 7 (by decide) (by decide)) rfl (by repeat' (first | (show AllP _;first | exact trivial | refine AllP.app ?_ ?_ | refine AllP.appd ?_ ?_ | refine AllP.cons ?_ ?_) | with_reducible rfl | with_reducible assumption | omega | (simp only [e3,rng,Ix.val,addQ_eq,addI,szs] <;> omega) | (simp only [e3,rng,Ix.val,Int.toNat_natCast,mulE_eq,addQ_eq,addI,Option.getD_none,Option.getD_some,List.length_take,List.length_drop,List.length_append,List.length_set,List.length_replicate,szs, *] <;> omega) | (simp only [Ix.val];with_reducible assumption) | exact UInt8.toNat_lt _ | (apply Eq.trans;(with_reducible assumption);exact rfl) | exact rfl | exact fun _ _=>rfl)) ?_
   intro v hv
   subst hv
   refine Grow.intro [] rfl rfl ?_
   refine Call.pure (fn62 ((wE32 W0 k).getD (16 + k - 15) 0) 18 (by decide) (by decide)) rfl (by repeat' (first | (show AllP _;first | exact trivial | refine AllP.app ?_ ?_ | refine AllP.appd ?_ ?_ | refine AllP.cons ?_ ?_) | with_reducible rfl | with_reducible assumption | omega | (simp only [e3,rng,Ix.val,addQ_eq,addI,szs] <;> omega) | (simp only [e3,rng,Ix.val,Int.toNat_natCast,mulE_eq,addQ_eq,addI,Option.getD_none,Option.getD_some,List.length_take,List.length_drop,List.length_append,List.length_set,List.length_replicate,szs, *] <;> omega) | (simp only [Ix.val];with_reducible assumption) | exact UInt8.toNat_lt _ | (apply Eq.trans;(with_reducible assumption);exact rfl) | exact rfl | exact fun _ _=>rfl)) ?_
   intro v hv
   subst hv
   refine Grow.intro [] rfl rfl ?_
   refine Call.pure (fn62 ((wE32 W0 k).getD (16 + k - 2) 0) 17 (by decide) (by decide)) rfl (by repeat' (first | (show AllP _;first | exact trivial | refine AllP.app ?_ ?_ | refine AllP.appd ?_ ?_ | refine AllP.cons ?_ ?_) | with_reducible rfl | with_reducible assumption | omega | (simp only [e4,rng,Ix.val,addQ_eq,addI,szs] <;> omega) | (simp only [e4,rng,Ix.val,Int.toNat_natCast,mulE_eq,addQ_eq,addI,Option.getD_none,Option.getD_some,List.length_take,List.length_drop,List.length_append,List.length_set,List.length_replicate,szs, *] <;> omega) | (simp only [Ix.val];with_reducible assumption) | exact UInt8.toNat_lt _ | (apply Eq.trans;(with_reducible assumption);exact rfl) | exact rfl | exact fun _ _=>rfl)) ?_
   intro v hv
   subst hv
   refine Grow.intro [] rfl rfl ?_
   refine Call.pure (fn62 ((wE32 W0 k).getD (16 + k - 2) 0) 19 (by decide) (by decide)) rfl (by repeat' (first | (show AllP _;first | exact trivial | refine AllP.app ?_ ?_ | refine AllP.appd ?_ ?_ | refine AllP.cons ?_ ?_) | with_reducible rfl | with_reducible assumption | omega | (simp only [e4,rng,Ix.val,addQ_eq,addI,szs] <;> omega) | (simp only [e4,rng,Ix.val,Int.toNat_natCast,mulE_eq,addQ_eq,addI,Option.getD_none,Option.getD_some,List.length_take,List.length_drop,List.length_append,List.length_set,List.length_replicate,szs, *] <;> omega) | (simp only [Ix.val];with_reducible assumption) | exact UInt8.toNat_lt _ | (apply Eq.trans;(with_reducible assumption);exact rfl) | exact rfl | exact fun _ _=>rfl)) ?_
   intro v hv
   subst hv
   refine Grow.intro [] rfl rfl ?_
   repeat (refine Side.intro (by repeat' (first | (show AllP _;first | exact trivial | refine AllP.app ?_ ?_ | refine AllP.appd ?_ ?_ | refine AllP.cons ?_ ?_) | with_reducible rfl | with_reducible assumption | omega | (simp only [Nat.zero_add,e0,e1,e2,e3,e4,rng,Ix.val,addQ_eq,addI,szs] <;> omega) | (simp only [Nat.zero_add,e0,e1,e2,e3,e4,rng,Ix.val,Int.toNat_natCast,mulE_eq,addQ_eq,addI,Option.getD_none,Option.getD_some,List.length_take,List.length_drop,List.length_append,List.length_set,List.length_replicate,szs, *] <;> omega) | (simp only [Ix.val];with_reducible assumption) | exact UInt8.toNat_lt _ | (apply Eq.trans;(with_reducible assumption);exact rfl) | exact rfl | exact fun _ _=>rfl)) ?_)
   refine ⟨k + 1,by omega,by omega,Le.intro [] rfl fc rfl ?_ rfl⟩
   repeat' (first | (show AllP _;first | exact trivial | refine AllP.app ?_ ?_ | refine AllP.appd ?_ ?_ | refine AllP.cons ?_ ?_) | exact fd | fail)
   simp only [Nat.zero_add,e0,e1,e2,e3,e4,addQ_eq,Ix.val,Int.toNat_natCast,wE32,wN32]
  ·obtain rfl:k = 48:=by have hc:¬ (k:Int) + 16 < 64:=hc;omega
   obtain ⟨W,hW⟩:∃ x,wE32 W0 48 = x:=⟨_,rfl⟩
   rw [hW] at hl
   have hWa:wAll32 b = W:=by unfold wAll32;rw [hW0,hW]
   repeat (refine sd ?_)
   refine Loop.intro (σ:=Nat) (fun i=>i ≤ 64)
    (fun i=>([(0,.ptr 1000 0 none),(4,.ptr 4 0 none),(5,.ptr 5 0 none),(10,.ptr 10 0 none),(101,.i .i64 i)],
     [(1000,.mem true 0 [(8,.a32 h)]),(1001,.mem false 0 [(64,.a8 b)]),(4,.mem true 0 [(64,.a32 K32)]),(5,.mem true 0 [(64,.a32 W)]),(10,.mem true 0 [(8,.a32 (rds32 W h i))])])) (fun i=>64 - i) 0 (Nat.zero_le _) ?_ ?_
   ·refine Le.intro [] rfl fc rfl ?_ rfl
    have e0:rds32 W h 0 = h:=rfl
    have hW':=hW.symm
    exact fc
   rintro i hi
   have hvl:=rds32_length (w:=W) hh i
   obtain ⟨V,hV⟩:∃ x,rds32 W h i = x:=⟨_,rfl⟩
   rw [hV] at hvl
   have hnext:rds32 W h (i + 1) = rd32 V (K32.getD i 0) (W.getD i 0):=by rw [← hV];rfl
   refine Branch.intro (fun hc=>?_) (fun hc=>?_)
   ·have hc:(i:Int) < 64:=hc
    refine Draw.intro [[],[0],[],[2],[0,1],[0,1,2,3,4]] [0,1,2,3,4,5] (by kernel_rfl) ?_
    repeat (refine sd ?_)
    refine Draw.intro [[],[0],[],[2],[],[2,3,4],[2,3,4,5],[],[2,3,4,5,7],[2,3,4,5,6,7,8],[0,1,2,3,4,5,6,7,8,9],[],[],[12],[11,12,13],[],[15],[],[17],[15,16,17,18],[11,12,13,14,15,16,17,18,19],[0,1,2,3,4,5,6,7,8,9,10,11,12,13,14,15,16,17,18,19,20],[],[22],[22,23],[0,1,2,3,4,5,6,7,8,9,10,11,12,13,14,15,16,17,18,19,20,21,22,23,24],[],[26],[26,27],[0,1,2,3,4,5,6,7,8,9,10,11,12,13,14,15,16,17,18,19,20,21,22,23,24,25,26,27,28],[0,1,2,3,4,5,6,7,8,9,10,11,12,13,14,15,16,17,18,19,20,21,22,23,24,25,26,27,28,29]] [0,1,2,4,7,11,12,13,14,15,16,17,18,19,20,22,23,24,26,27,28,3,5,6,8,9,10,21,25,29,30] (by kernel_rfl) ?_
    repeat (refine sd ?_)
    refine Call.pure (fn62 ((rds32 W h i).getD 4 0) 6 (by decide) (by decide)) rfl fc ?_
    intro v hv
    subst hv
    refine Grow.intro [] rfl rfl ?_
    refine Call.pure (fn62 ((rds32 W h i).getD 4 0) 11 (by decide) (by decide)) rfl fc ?_
    intro v hv
    subst hv
    refine Grow.intro [] rfl rfl ?_
    refine Call.pure (fn62 ((rds32 W h i).getD 4 0) 25 (by decide) (by decide)) rfl fc ?_
    intro v hv
    subst hv
    refine Grow.intro [] rfl rfl ?_
    repeat (refine sd ?_)
    refine Draw.intro [[],[0],[],[0,1,2],[0,1,2,3],[],[0,1,2,3,5],[0,1,2,3,4,5,6],[],[],[9],[8,9,10],[],[],[13],[12,13,14],[8,9,10,11,12,13,14,15],[],[17],[],[19],[17,18,19,20],[8,9,10,11,12,13,14,15,16,17,18,19,20,21],[0,1,2,3,4,5,6,7,8,9,10,11,12,13,14,15,16,17,18,19,20,21,22],[0,1,2,3,4,5,6,7,8,9,10,11,12,13,14,15,16,17,18,19,20,21,22,23]] [0,2,5,8,9,10,11,12,13,14,15,16,17,18,19,20,21,22,1,3,4,6,7,23,24] (by kernel_rfl) ?_
    repeat (refine sd ?_)
    refine Call.pure (fn62 ((rds32 W h i).getD 0 0) 2 (by decide) (by decide)) rfl fc ?_
    intro v hv
    subst hv
    refine Grow.intro [] rfl rfl ?_
    refine Call.pure (fn62 ((rds32 W h i).getD 0 0) 13 (by decide) (by decide)) rfl fc ?_
    intro v hv
    subst hv
    refine Grow.intro [] rfl rfl ?_
    refine Call.pure (fn62 ((rds32 W h i).getD 0 0) 22 (by decide) (by decide)) rfl fc ?_
    intro v hv
    subst hv
    refine Grow.intro [] rfl rfl ?_
    repeat (refine sd ?_)
    refine ⟨i + 1,by omega,by omega,Le.intro [] rfl fc rfl ?_ rfl⟩
    exact fc
   ·obtain rfl:i = 64:=by have hc:¬ (i:Int) < 64:=hc;omega
    have hV':=hV.symm
    have hblk:blk32 h b = hA32 h V 8:=by unfold blk32;rw [hWa,hV]
    clear hV
    refine Loop.intro (σ:=Nat) (fun j=>j ≤ 8)
     (fun j=>([(0,.ptr 1000 0 none),(10,.ptr 10 0 none),(181,.i .i64 j)],
      [(1000,.mem true 0 [(8,.a32 (hA32 h V j))]),(1001,.mem false 0 [(64,.a8 b)]),(10,.mem true 0 [(8,.a32 V)])])) (fun j=>8 - j) 0 (Nat.zero_le _) ?_ ?_
    ·refine Le.intro [] rfl fc rfl ?_ rfl
     have e0:hA32 h V 0 = h:=rfl
     exact fc
    rintro j hj
    have hAl:=hA32_length (v:=V) hh j
    refine Branch.intro (fun hc=>?_) (fun hc=>?_)
    ·have hc:(j:Int) < 8:=hc
     refine Draw.intro [[],[],[0],[0,1,2],[0,1,2,3],[],[5],[5,6],[0,1,2,3,4,5,6,7],[0],[0,1,2,3,4,5,6,7,8,9],[0,1,2,3,4,5,6,7,8,9,10]] [0,1,2,3,4,5,6,7,8,9,10,11] (by kernel_rfl) ?_
     repeat (refine sd ?_)
     refine ⟨j + 1,by omega,by omega,Le.intro [] rfl fc rfl ?_ rfl⟩
     exact fc
    ·obtain rfl:j = 8:=by have hc:¬ (j:Int) < 8:=hc;omega
     repeat (refine sd ?_)
     rw [hblk]
     refine Ret.intro (.tup []) [(1000,.mem true 0 [(8,.a32 (hA32 h V 8))]),(1001,.mem false 0 [(64,.a8 b)])] [] rfl trivial ⟨rfl,rfl⟩ rfl trivial rfl ?_ rfl
     exact fc
end Go.Proofs.Ytimbdhpchlakfaa
namespace Go.Proofs.Ytimbdhpchlakfaa
open Go Go.Sx
end Go.Proofs.Ytimbdhpchlakfaa
