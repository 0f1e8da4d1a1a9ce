/- What the functions of the program compute. No condition. -/
import Derived.Test.YtlbmkjckbfeejaaHwRef6ToRef6
set_option linter.unusedSimpArgs false
set_option linter.unusedVariables false
namespace Go.Proofs.Ytlbmkjckbfeejaa
open Go Go.Sx
def rIn (bl:List UInt8) (W:List (List Nat)):Nat→List Nat
 | 0=>List.replicate 16 0
 | i + 1=>(rIn bl W i).set (i / 4 + i % 4 * 4) ((bl.getD i 0).toNat ^^^ (W.getD (i / 4) []).getD (i % 4) 0)
def rS (b t:List Nat) (r:Nat):Nat→List Nat
 | 0=>t
 | k + 1=>(rS b t r k).set (k + r * 4) (sN (b.getD ((k + r) % 4 + r * 4) 0))
def rSs (b:List Nat):Nat→List Nat
 | 0=>List.replicate 16 0
 | r + 1=>rS b (rSs b r) r 4
def rMix (t:List Nat) (rd k r:Nat):Nat:=
 if rd < 14 then rTimes 2 (t.getD (k + r * 4) 0) ^^^ rTimes 3 (t.getD (k + (r + 1) % 4 * 4) 0) ^^^ t.getD (k + (r + 2) % 4 * 4) 0 ^^^ t.getD (k + (r + 3) % 4 * 4) 0
 else t.getD (k + r * 4) 0
def rC (W:List (List Nat)) (t:List Nat) (rd:Nat) (b:List Nat) (k:Nat):Nat→List Nat
 | 0=>b
 | r + 1=>(rC W t rd b k r).set (k + r * 4) (rMix t rd k r ^^^ (W.getD (4 * rd + k) []).getD r 0)
def rCs (W:List (List Nat)) (t:List Nat) (rd:Nat) (b:List Nat):Nat→List Nat
 | 0=>b
 | k + 1=>rC W t rd (rCs W t rd b k) k 4
def rRound (W:List (List Nat)) (b:List Nat) (rd:Nat):List Nat:=rCs W (rSs b 4) rd b 4
def rLock (bl:List UInt8) (W:List (List Nat)):Nat→List Nat
 | 0=>rIn bl W 16
 | n + 1=>rRound W (rLock bl W n) (n + 1)
def rOut (b:List Nat):Nat→List UInt8
 | 0=>List.replicate 16 0
 | i + 1=>(rOut b i).set i (UInt8.ofNat (b.getD (i / 4 + i % 4 * 4) 0))
def B16 (l:List Nat):Prop:=l.length = 16∧∀ j,l.getD j 0 < 256
theorem B16.zero:B16 (List.replicate 16 0):=⟨rfl,fun j=>by
 rw [List.getD_eq_getElem?_getD,List.getElem?_replicate];split <;> exact Nat.zero_lt_succ _⟩
theorem B16.set {l:List Nat} (h:B16 l) (i:Nat) {x:Nat} (hx:x < 256):B16 (l.set i x):=⟨by rw [List.length_set];exact h.1,fun j=>by
 rw [List.getD_eq_getElem?_getD,List.getElem?_set]
 split
 ·split
  ·exact hx
  ·exact Nat.zero_lt_succ _
 ·rw [← List.getD_eq_getElem?_getD];exact h.2 j⟩
structure OkW (W:List (List Nat)):Prop where
 ok:∀ q,q < 60→W4 (W.getD q [])
theorem OkW.lt {W:List (List Nat)} (h:OkW W) {q:Nat} (hq:q < 60) (j:Nat):(W.getD q []).getD j 0 < 256:=(h.ok q hq).lt j
theorem rIn_ok (bl:List UInt8) {W:List (List Nat)} (hW:OkW W):∀ i,i ≤ 16→B16 (rIn bl W i)
 | 0,_=>B16.zero
 | i + 1,h=>(rIn_ok bl hW i (by omega)).set _ (xor_lt8 (UInt8.toNat_lt _) (hW.lt (by omega) _))
theorem rS_ok (b:List Nat) {t:List Nat} (ht:B16 t) (r:Nat):∀ k,B16 (rS b t r k)
 | 0=>ht
 | k + 1=>(rS_ok b ht r k).set _ (sN_lt _)
theorem rSs_ok (b:List Nat):∀ r,B16 (rSs b r)
 | 0=>B16.zero
 | r + 1=>rS_ok b (rSs_ok b r) r 4
theorem rMix_lt {t:List Nat} (ht:B16 t) (rd k r:Nat):rMix t rd k r < 256:=by
 unfold rMix
 split
 ·exact xor_lt8 (xor_lt8 (xor_lt8 (rTimes_lt (by decide) _) (rTimes_lt (by decide) _)) (ht.2 _)) (ht.2 _)
 ·exact ht.2 _
theorem rC_ok {W:List (List Nat)} (hW:OkW W) {t b:List Nat} (ht:B16 t) (hb:B16 b) {rd k:Nat} (h:4 * rd + k < 60):∀ r,B16 (rC W t rd b k r)
 | 0=>hb
 | r + 1=>(rC_ok hW ht hb h r).set _ (xor_lt8 (rMix_lt ht _ _ _) (hW.lt h _))
theorem rCs_ok {W:List (List Nat)} (hW:OkW W) {t b:List Nat} (ht:B16 t) (hb:B16 b) {rd:Nat} (h:rd ≤ 14):∀ k,k ≤ 4→B16 (rCs W t rd b k)
 | 0,_=>hb
 | k + 1,hk=>rC_ok hW ht (rCs_ok hW ht hb h k (by omega)) (by omega) 4
theorem rLock_ok (bl:List UInt8) {W:List (List Nat)} (hW:OkW W):∀ n,n ≤ 14→B16 (rLock bl W n)
 | 0,_=>rIn_ok bl hW 16 (Nat.le_refl _)
 | n + 1,h=>rCs_ok hW (rSs_ok _ 4) (rLock_ok bl hW n (by omega)) (by omega) 4 (Nat.le_refl _)
theorem rOut_length (b:List Nat):∀ i,(rOut b i).length = 16
 | 0=>rfl
 | i + 1=>by simp only [rOut,List.length_set,rOut_length b i]
theorem ofInt8' (i:Nat):UInt8.ofInt (i:Int) = UInt8.ofNat i:=ofInt8 i
theorem toNat_cast (i:Nat):((i:Int)).toNat = i:=Int.toNat_natCast i
set_option maxRecDepth 100000 in
set_option maxHeartbeats 8000000 in
theorem fn49 (W:List (List Nat)) (bl:List UInt8) (hW:OkW W) (hb:bl.length = 16):Sx.Fn Γ.P 49 [.agg [(1,.sl 1000 0 0 256 256),(1,.slx 1001 0 0 60)],.a8 bl]
  [(1000,.mem false 0 [(256,.ai (zs natS))]),(1001,.mem false 0 (rowsW W 60))]
  (fun v M=>v = .a8 (rOut (rLock bl W 14) 16)∧M = [(1000,.mem false 0 [(256,.ai (zs natS))]),(1001,.mem false 0 (rowsW W 60))]):=by
 refine fn_of (Γ:=Γ) (fn:=Try.f49) rfl rfl rfl rfl ?_
 repeat (refine sd ?_)
 refine Loop.intro (σ:=Nat) (fun i=>i ≤ 16)
  (fun i=>([(2,.ptr 2 0 none),(3,.ptr 3 0 none),(4,.ptr 4 0 none),(5,.ptr 5 0 none),(6,.i .i64 i)],
   [(1000,.mem false 0 [(256,.ai (zs natS))]),(1001,.mem false 0 (rowsW W 60)),(2,.mem true 0 [(1,.sl 1000 0 0 256 256),(1,.slx 1001 0 0 60)]),(3,.mem true 0 [(16,.a8 bl)]),(4,.mem true 0 [(16,.a8 (List.replicate 16 0))]),(5,.mem true 0 [(16,.ai (zs (rIn bl W i)))])])) (fun i=>16 - i) 0 (Nat.zero_le _) ?_ ?_
 ·refine Le.intro [] rfl fc rfl ?_ rfl
  exact fc
 rintro i hi
 have hI:=rIn_ok bl hW i hi
 have hIl:=hI.1
 refine Branch.intro (fun h=>?_) (fun h=>?_)
 ·have h:(i:Int) < 16:=h
  have em:((i:Int) % 4).toNat = i % 4:=by omega
  have ed:((i:Int) / 4).toNat = i / 4:=by omega
  have hw:=hW.lt (q:=i / 4) (by omega) (i % 4)
  have hbt:=UInt8.toNat_lt (bl.getD i 0)
  have hx:=xor_lt8 hbt hw
  have hzl:=zs_length (rIn bl W i)
  refine Draw.intro [[],[0],[],[2],[],[4],[4,5],[4,5,6],[],[8],[],[10],[8,9,10,11],[8,9,10,11,12],[],[14],[8,9,10,11,12,13,14,15],[8,9,10,11,12,13,14,15,16],[4,5,6,7,8,9,10,11,12,13,14,15,16,17],[0,1],[0,1,2,3,4,5,6,7,8,9,10,11,12,13,14,15,16,17,18,19],[0,1,2,3,4,5,6,7,8,9,10,11,12,13,14,15,16,17,18,19,20]] [0,1,2,3,4,5,6,7,8,9,10,11,12,13,14,15,16,17,18,19,20,21] (by kernel_rfl) ?_
  repeat (refine Side.intro (by repeat' (first | (show AllP _;first | exact trivial | refine AllP.app ?_ ?_ | refine AllP.appd ?_ ?_ | refine AllP.cons ?_ ?_) | with_reducible rfl | with_reducible assumption | omega | (simp only [Nat.zero_add,em,ed,zs_getD,toNat_cast,rng,Ix.val,addQ_eq,addI,sz3,by3,sz5,by5,sz51,by51,sz70,by70,sz73,by73,sz91,by91,sz92,by92,sz116,by116,sz117,by117] <;> omega) | (simp only [Nat.zero_add,em,ed,zs_getD,toNat_cast,rng,Ix.val,Int.toNat_natCast,mulE_eq,addQ_eq,addI,Option.getD_none,Option.getD_some,List.length_take,List.length_drop,List.length_append,List.length_set,List.length_replicate,sz3,by3,sz5,by5,sz51,by51,sz70,by70,sz73,by73,sz91,by91,sz92,by92,sz116,by116,sz117,by117, *] <;> omega) | (simp only [Ix.val];with_reducible assumption) | exact UInt8.toNat_lt _ | (apply Eq.trans;(with_reducible assumption);exact rfl) | exact rfl | exact fun _ _=>rfl)) ?_)
  refine ⟨i + 1,by omega,by omega,Le.intro [] rfl fc rfl ?_ rfl⟩
  repeat' (first | (show AllP _;first | exact trivial | refine AllP.app ?_ ?_ | refine AllP.appd ?_ ?_ | refine AllP.cons ?_ ?_) | with_reducible rfl | with_reducible assumption | omega | (simp only [rng,Ix.val,addQ_eq,addI,sz3,by3,sz5,by5,sz51,by51,sz70,by70,sz73,by73,sz91,by91,sz92,by92,sz116,by116,sz117,by117] <;> omega) | (simp only [rng,Ix.val,Int.toNat_natCast,mulE_eq,addQ_eq,addI,Option.getD_none,Option.getD_some,List.length_take,List.length_drop,List.length_append,List.length_set,List.length_replicate,sz3,by3,sz5,by5,sz51,by51,sz70,by70,sz73,by73,sz91,by91,sz92,by92,sz116,by116,sz117,by117, *] <;> omega) | (simp only [Ix.val];with_reducible assumption) | exact UInt8.toNat_lt _ | (apply Eq.trans;(with_reducible assumption);exact rfl) | exact rfl | exact fun _ _=>rfl)
  simp only [Nat.zero_add,em,ed,zs_getD,toNat_cast,addQ_eq,Ix.val,zs_set,sz116,rIn]
 ·obtain rfl:i = 16:=by have h:¬ (i:Int) < 16:=h;omega
  refine Loop.intro (σ:=Nat) (fun n=>n ≤ 14)
   (fun n=>([(2,.ptr 2 0 none),(4,.ptr 4 0 none),(5,.ptr 5 0 none),(7,.i .i64 ((n:Int) + 1))],
    [(1000,.mem false 0 [(256,.ai (zs natS))]),(1001,.mem false 0 (rowsW W 60)),(2,.mem true 0 [(1,.sl 1000 0 0 256 256),(1,.slx 1001 0 0 60)]),(4,.mem true 0 [(16,.a8 (List.replicate 16 0))]),(5,.mem true 0 [(16,.ai (zs (rLock bl W n)))])])) (fun n=>14 - n) 0 (Nat.zero_le _) ?_ ?_
  ·refine Le.intro [] rfl fc rfl ?_ rfl
   have e0:rLock bl W 0 = rIn bl W 16:=rfl
   exact fc
  rintro n hn
  have hL:=rLock_ok bl hW n hn
  refine Branch.intro (fun h=>?_) (fun h=>?_)
  ·have h:(n:Int) + 1 ≤ 14:=h
   obtain ⟨B,hB⟩:∃ x,rLock bl W n = x:=⟨_,rfl⟩
   have hnext:rLock bl W (n + 1) = rRound W (rLock bl W n) (n + 1):=rfl
   have hst:∀ x,rLock bl W n = x→zs (rLock bl W n) = zs x:=fun x e=>congrArg zs e
   rw [hB] at hL hnext
   have hBl:=hL.1
   have hBz:=zs_length B
   refine Loop.intro (σ:=Nat) (fun r=>r ≤ 4)
    (fun r=>([(2,.ptr 2 0 none),(4,.ptr 4 0 none),(5,.ptr 5 0 none),(7,.i .i64 ((n:Int) + 1)),(8,.ptr 8 0 none),(9,.i .i64 r)],
     [(1000,.mem false 0 [(256,.ai (zs natS))]),(1001,.mem false 0 (rowsW W 60)),(2,.mem true 0 [(1,.sl 1000 0 0 256 256),(1,.slx 1001 0 0 60)]),(4,.mem true 0 [(16,.a8 (List.replicate 16 0))]),(5,.mem true 0 [(16,.ai (zs B))]),(8,.mem true 0 [(16,.ai (zs (rSs B r)))])])) (fun r=>4 - r) 0 (Nat.zero_le _) ?_ ?_
   ·refine Le.intro [] rfl fc rfl ?_ rfl
    exact fc
   rintro r hr
   refine Branch.intro (fun h'=>?_) (fun h'=>?_)
   ·have h':(r:Int) < 4:=h'
    refine Loop.intro (σ:=Nat) (fun k=>k ≤ 4)
     (fun k=>([(2,.ptr 2 0 none),(4,.ptr 4 0 none),(5,.ptr 5 0 none),(7,.i .i64 ((n:Int) + 1)),(8,.ptr 8 0 none),(9,.i .i64 r),(10,.i .i64 k)],
      [(1000,.mem false 0 [(256,.ai (zs natS))]),(1001,.mem false 0 (rowsW W 60)),(2,.mem true 0 [(1,.sl 1000 0 0 256 256),(1,.slx 1001 0 0 60)]),(4,.mem true 0 [(16,.a8 (List.replicate 16 0))]),(5,.mem true 0 [(16,.ai (zs B))]),(8,.mem true 0 [(16,.ai (zs (rS B (rSs B r) r k)))])])) (fun k=>4 - k) 0 (Nat.zero_le _) ?_ ?_
    ·refine Le.intro [] rfl fc rfl ?_ rfl
     have e0:rS B (rSs B r) r 0 = rSs B r:=rfl
     exact fc
    rintro k hk
    have hS:=rS_ok B (rSs_ok B r) r k
    have hSl:=hS.1
    have hSz:=zs_length (rS B (rSs B r) r k)
    refine Branch.intro (fun hk'=>?_) (fun hk'=>?_)
    ·have hk':(k:Int) < 4:=hk'
     have em:(((k:Int) + r) % 4).toNat = (k + r) % 4:=by omega
     have hx:=hL.2 ((k + r) % 4 + r * 4)
     have hx0:=sN_lt (B.getD ((k + r) % 4 + r * 4) 0)
     have hx1:natS.getD (B.getD ((k + r) % 4 + r * 4) 0) 0 < 256:=hx0
     refine Draw.intro [[],[],[],[2],[],[],[],[5,6],[5,6,7],[4],[4,5,6,7,8,9],[4,5,6,7,8,9,10],[2,3,4,5,6,7,8,9,10,11],[2,3,4,5,6,7,8,9,10,11,12],[0],[0,1,2,3,4,5,6,7,8,9,10,11,12,13,14],[0,1,2,3,4,5,6,7,8,9,10,11,12,13,14,15]] [0,1,2,3,4,5,6,7,8,9,10,11,12,13,14,15,16] (by kernel_rfl) ?_
     repeat (refine Side.intro (by repeat' (first | (show AllP _;first | exact trivial | refine AllP.app ?_ ?_ | refine AllP.appd ?_ ?_ | refine AllP.cons ?_ ?_) | with_reducible rfl | with_reducible assumption | omega | (simp only [Nat.zero_add,em,zs_getD,toNat_cast,sz116,rng,Ix.val,addQ_eq,addI,sz3,by3,sz5,by5,sz51,by51,sz70,by70,sz73,by73,sz91,by91,sz92,by92,sz116,by116,sz117,by117] <;> omega) | (simp only [Nat.zero_add,em,zs_getD,toNat_cast,sz116,rng,Ix.val,Int.toNat_natCast,mulE_eq,addQ_eq,addI,Option.getD_none,Option.getD_some,List.length_take,List.length_drop,List.length_append,List.length_set,List.length_replicate,sz3,by3,sz5,by5,sz51,by51,sz70,by70,sz73,by73,sz91,by91,sz92,by92,sz116,by116,sz117,by117, *] <;> omega) | (simp only [Ix.val];with_reducible assumption) | exact UInt8.toNat_lt _ | (apply Eq.trans;(with_reducible assumption);exact rfl) | exact rfl | exact fun _ _=>rfl)) ?_)
     refine ⟨k + 1,by omega,by omega,Le.intro [] rfl fc rfl ?_ rfl⟩
     repeat' (first | (show AllP _;first | exact trivial | refine AllP.app ?_ ?_ | refine AllP.appd ?_ ?_ | refine AllP.cons ?_ ?_) | with_reducible rfl | with_reducible assumption | omega | (simp only [rng,Ix.val,addQ_eq,addI,sz3,by3,sz5,by5,sz51,by51,sz70,by70,sz73,by73,sz91,by91,sz92,by92,sz116,by116,sz117,by117] <;> omega) | (simp only [rng,Ix.val,Int.toNat_natCast,mulE_eq,addQ_eq,addI,Option.getD_none,Option.getD_some,List.length_take,List.length_drop,List.length_append,List.length_set,List.length_replicate,sz3,by3,sz5,by5,sz51,by51,sz70,by70,sz73,by73,sz91,by91,sz92,by92,sz116,by116,sz117,by117, *] <;> omega) | (simp only [Ix.val];with_reducible assumption) | exact UInt8.toNat_lt _ | (apply Eq.trans;(with_reducible assumption);exact rfl) | exact rfl | exact fun _ _=>rfl)
     simp only [Nat.zero_add,em,zs_getD,toNat_cast,addQ_eq,Ix.val,zs_set,sz116,rS,sN]
    ·obtain rfl:k = 4:=by have hk':¬ (k:Int) < 4:=hk';omega
     repeat (refine sd ?_)
     refine ⟨r + 1,by omega,by omega,Le.intro [] rfl fc rfl ?_ rfl⟩
     have e0:rSs B (r + 1) = rS B (rSs B r) r 4:=rfl
     exact fc
   ·obtain rfl:r = 4:=by have h':¬ (r:Int) < 4:=h';omega
    have hT:=rSs_ok B 4
    obtain ⟨Tt,hTe⟩:∃ x,rSs B 4 = x:=⟨_,rfl⟩
    rw [hTe] at hT
    have hTl:=hT.1
    have hTz:=zs_length Tt
    have hnext2:rLock bl W (n + 1) = rCs W Tt (n + 1) B 4:=by rw [hnext,← hTe];rfl
    refine Loop.intro (σ:=Nat) (fun k=>k ≤ 4)
     (fun k=>([(2,.ptr 2 0 none),(4,.ptr 4 0 none),(5,.ptr 5 0 none),(7,.i .i64 ((n:Int) + 1)),(8,.ptr 8 0 none),(11,.i .i64 k)],
      [(1000,.mem false 0 [(256,.ai (zs natS))]),(1001,.mem false 0 (rowsW W 60)),(2,.mem true 0 [(1,.sl 1000 0 0 256 256),(1,.slx 1001 0 0 60)]),(4,.mem true 0 [(16,.a8 (List.replicate 16 0))]),(5,.mem true 0 [(16,.ai (zs (rCs W Tt (n + 1) B k)))]),(8,.mem true 0 [(16,.ai (zs Tt))])])) (fun k=>4 - k) 0 (Nat.zero_le _) ?_ ?_
    ·refine Le.intro [] rfl fc rfl ?_ rfl
     have e0:rCs W Tt (n + 1) B 0 = B:=rfl
     repeat' (first | (show AllP _;first | exact trivial | refine AllP.app ?_ ?_ | refine AllP.appd ?_ ?_ | refine AllP.cons ?_ ?_) | with_reducible rfl | with_reducible assumption | omega | (simp only [rng,Ix.val,addQ_eq,addI,sz3,by3,sz5,by5,sz51,by51,sz70,by70,sz73,by73,sz91,by91,sz92,by92,sz116,by116,sz117,by117] <;> omega) | (simp only [rng,Ix.val,Int.toNat_natCast,mulE_eq,addQ_eq,addI,Option.getD_none,Option.getD_some,List.length_take,List.length_drop,List.length_append,List.length_set,List.length_replicate,sz3,by3,sz5,by5,sz51,by51,sz70,by70,sz73,by73,sz91,by91,sz92,by92,sz116,by116,sz117,by117, *] <;> omega) | (simp only [Ix.val];with_reducible assumption) | exact UInt8.toNat_lt _ | (apply Eq.trans;(with_reducible assumption);exact rfl) | exact rfl | exact fun _ _=>rfl)
     all_goals exact congrArg zs hTe.symm
    rintro k hk
    refine Branch.intro (fun hk'=>?_) (fun hk'=>?_)
    ·have hk':(k:Int) < 4:=hk'
     refine Loop.intro (σ:=Nat) (fun r=>r ≤ 4)
      (fun r=>([(2,.ptr 2 0 none),(4,.ptr 4 0 none),(5,.ptr 5 0 none),(7,.i .i64 ((n:Int) + 1)),(8,.ptr 8 0 none),(11,.i .i64 k),(12,.i .i64 r)],
       [(1000,.mem false 0 [(256,.ai (zs natS))]),(1001,.mem false 0 (rowsW W 60)),(2,.mem true 0 [(1,.sl 1000 0 0 256 256),(1,.slx 1001 0 0 60)]),(4,.mem true 0 [(16,.a8 (List.replicate 16 0))]),(5,.mem true 0 [(16,.ai (zs (rC W Tt (n + 1) (rCs W Tt (n + 1) B k) k r)))]),(8,.mem true 0 [(16,.ai (zs Tt))])])) (fun r=>4 - r) 0 (Nat.zero_le _) ?_ ?_
     ·refine Le.intro [] rfl fc rfl ?_ rfl
      have e0:rC W Tt (n + 1) (rCs W Tt (n + 1) B k) k 0 = rCs W Tt (n + 1) B k:=rfl
      exact fc
     rintro r hr
     have hC:=rC_ok hW hT (rCs_ok hW hT hL (rd:=n + 1) (by omega) k hk) (rd:=n + 1) (k:=k) (by omega) r
     have hCl:=hC.1
     have hCz:=zs_length (rC W Tt (n + 1) (rCs W Tt (n + 1) B k) k r)
     refine Branch.intro (fun hr'=>?_) (fun hr'=>?_)
     ·have hr':(r:Int) < 4:=hr'
      have hm:=rMix_lt hT (n + 1) k r
      have hw:=hW.lt (q:=4 * (n + 1) + k) (by omega) r
      have hx:=xor_lt8 hm hw
      have eq:(4 * ((n:Int) + 1) + k).toNat = 4 * (n + 1) + k:=by omega
      have t0:=hT.2 (k + r * 4)
      repeat (refine Side.intro (by repeat' (first | (show AllP _;first | exact trivial | refine AllP.app ?_ ?_ | refine AllP.appd ?_ ?_ | refine AllP.cons ?_ ?_) | with_reducible rfl | with_reducible assumption | omega | (simp only [Nat.zero_add,zs_getD,toNat_cast,sz116,rng,Ix.val,addQ_eq,addI,sz3,by3,sz5,by5,sz51,by51,sz70,by70,sz73,by73,sz91,by91,sz92,by92,sz116,by116,sz117,by117] <;> omega) | (simp only [Nat.zero_add,zs_getD,toNat_cast,sz116,rng,Ix.val,Int.toNat_natCast,mulE_eq,addQ_eq,addI,Option.getD_none,Option.getD_some,List.length_take,List.length_drop,List.length_append,List.length_set,List.length_replicate,sz3,by3,sz5,by5,sz51,by51,sz70,by70,sz73,by73,sz91,by91,sz92,by92,sz116,by116,sz117,by117, *] <;> omega) | (simp only [Ix.val];with_reducible assumption) | exact UInt8.toNat_lt _ | (apply Eq.trans;(with_reducible assumption);exact rfl) | exact rfl | exact fun _ _=>rfl)) ?_)
      refine Branch.intro (fun h14=>?_) (fun h14=>?_)
      ·have h14:(n:Int) + 1 < 14:=h14
       have e1:(((r:Int) + 1) % 4).toNat = (r + 1) % 4:=by omega
       have e2:(((r:Int) + 2) % 4).toNat = (r + 2) % 4:=by omega
       have e3:(((r:Int) + 3) % 4).toNat = (r + 3) % 4:=by omega
       have t1:=hT.2 (k + (r + 1) % 4 * 4)
       have t2:=hT.2 (k + (r + 2) % 4 * 4)
       have t3:=hT.2 (k + (r + 3) % 4 * 4)
       have m0:=rTimes_lt (by decide:2 < 256) (Tt.getD (k + r * 4) 0)
       have m1:=rTimes_lt (by decide:3 < 256) (Tt.getD (k + (r + 1) % 4 * 4) 0)
       have x0:=xor_lt8 m0 m1
       have x1:=xor_lt8 x0 t2
       have x2:=xor_lt8 x1 t3
       have hmix:rMix Tt (n + 1) k r = rTimes 2 (Tt.getD (k + r * 4) 0) ^^^ rTimes 3 (Tt.getD (k + (r + 1) % 4 * 4) 0) ^^^ Tt.getD (k + (r + 2) % 4 * 4) 0 ^^^ Tt.getD (k + (r + 3) % 4 * 4) 0:=if_pos (by omega)
       refine Draw.intro [[],[],[0],[0,1,2],[0,1,2,3],[0,1,2,3,4],[],[6],[6,7],[],[6,7,8],[6,7,8,9,10],[6,7,8,9,10,11],[0,1,2,3,4,5,6,7,8,9,10,11,12],[0,1,2,3,4,5,6,7,8,9,10,11,12,13],[],[15],[15,16],[],[15,16,17],[15,16,17,18,19],[15,16,17,18,19,20],[0,1,2,3,4,5,6,7,8,9,10,11,12,13,14,15,16,17,18,19,20,21],[],[23],[23,24],[],[23,24,25],[23,24,25,26,27],[23,24,25,26,27,28],[0,1,2,3,4,5,6,7,8,9,10,11,12,13,14,15,16,17,18,19,20,21,22,23,24,25,26,27,28,29],[0,1,2,3,4,5,6,7,8,9,10,11,12,13,14,15,16,17,18,19,20,21,22,23,24,25,26,27,28,29,30]] [0,1,2,3,4,6,7,8,9,10,11,12,15,16,17,18,19,20,21,23,24,25,26,27,28,29,5,13,14,22,30,31] (by kernel_rfl) ?_
       repeat (refine Side.intro (by repeat' (first | (show AllP _;first | exact trivial | refine AllP.app ?_ ?_ | refine AllP.appd ?_ ?_ | refine AllP.cons ?_ ?_) | with_reducible rfl | with_reducible assumption | omega | (simp only [Nat.zero_add,e1,e2,e3,zs_getD,toNat_cast,sz116,rng,Ix.val,addQ_eq,addI,sz3,by3,sz5,by5,sz51,by51,sz70,by70,sz73,by73,sz91,by91,sz92,by92,sz116,by116,sz117,by117] <;> omega) | (simp only [Nat.zero_add,e1,e2,e3,zs_getD,toNat_cast,sz116,rng,Ix.val,Int.toNat_natCast,mulE_eq,addQ_eq,addI,Option.getD_none,Option.getD_some,List.length_take,List.length_drop,List.length_append,List.length_set,List.length_replicate,sz3,by3,sz5,by5,sz51,by51,sz70,by70,sz73,by73,sz91,by91,sz92,by92,sz116,by116,sz117,by117, *] <;> omega) | (simp only [Ix.val];with_reducible assumption) | exact UInt8.toNat_lt _ | (apply Eq.trans;(with_reducible assumption);exact rfl) | exact rfl | exact fun _ _=>rfl)) ?_)
       refine Call.pure (fn62 2 (Tt.getD (k + r * 4) 0) (by decide) t0) rfl (by repeat' (first | (show AllP _;first | exact trivial | refine AllP.app ?_ ?_ | refine AllP.appd ?_ ?_ | refine AllP.cons ?_ ?_) | with_reducible rfl | with_reducible assumption | omega | (simp only [zs_getD,toNat_cast,sz116,rng,Ix.val,addQ_eq,addI,sz3,by3,sz5,by5,sz51,by51,sz70,by70,sz73,by73,sz91,by91,sz92,by92,sz116,by116,sz117,by117] <;> omega) | (simp only [zs_getD,toNat_cast,sz116,rng,Ix.val,Int.toNat_natCast,mulE_eq,addQ_eq,addI,Option.getD_none,Option.getD_some,List.length_take,List.length_drop,List.length_append,List.length_set,List.length_replicate,sz3,by3,sz5,by5,sz51,by51,sz70,by70,sz73,by73,sz91,by91,sz92,by92,sz116,by116,sz117,by117, *] <;> omega) | (simp only [Ix.val];with_reducible assumption) | exact UInt8.toNat_lt _ | (apply Eq.trans;(with_reducible assumption);exact rfl) | exact rfl | exact fun _ _=>rfl)) ?_
       intro v hv
       subst hv
       refine Grow.intro [] rfl rfl ?_
       refine Call.pure (fn62 3 (Tt.getD (k + (r + 1) % 4 * 4) 0) (by decide) t1) rfl (by repeat' (first | (show AllP _;first | exact trivial | refine AllP.app ?_ ?_ | refine AllP.appd ?_ ?_ | refine AllP.cons ?_ ?_) | with_reducible rfl | with_reducible assumption | omega | (simp only [zs_getD,toNat_cast,sz116,e1,rng,Ix.val,addQ_eq,addI,sz3,by3,sz5,by5,sz51,by51,sz70,by70,sz73,by73,sz91,by91,sz92,by92,sz116,by116,sz117,by117] <;> omega) | (simp only [zs_getD,toNat_cast,sz116,e1,rng,Ix.val,Int.toNat_natCast,mulE_eq,addQ_eq,addI,Option.getD_none,Option.getD_some,List.length_take,List.length_drop,List.length_append,List.length_set,List.length_replicate,sz3,by3,sz5,by5,sz51,by51,sz70,by70,sz73,by73,sz91,by91,sz92,by92,sz116,by116,sz117,by117, *] <;> omega) | (simp only [Ix.val];with_reducible assumption) | exact UInt8.toNat_lt _ | (apply Eq.trans;(with_reducible assumption);exact rfl) | exact rfl | exact fun _ _=>rfl)) ?_
       intro v hv
       subst hv
       refine Grow.intro [] rfl rfl ?_
       repeat (refine Side.intro (by repeat' (first | (show AllP _;first | exact trivial | refine AllP.app ?_ ?_ | refine AllP.appd ?_ ?_ | refine AllP.cons ?_ ?_) | with_reducible rfl | with_reducible assumption | omega | (simp only [Nat.zero_add,e1,e2,e3,zs_getD,toNat_cast,sz116,rng,Ix.val,addQ_eq,addI,sz3,by3,sz5,by5,sz51,by51,sz70,by70,sz73,by73,sz91,by91,sz92,by92,sz116,by116,sz117,by117] <;> omega) | (simp only [Nat.zero_add,e1,e2,e3,zs_getD,toNat_cast,sz116,rng,Ix.val,Int.toNat_natCast,mulE_eq,addQ_eq,addI,Option.getD_none,Option.getD_some,List.length_take,List.length_drop,List.length_append,List.length_set,List.length_replicate,sz3,by3,sz5,by5,sz51,by51,sz70,by70,sz73,by73,sz91,by91,sz92,by92,sz116,by116,sz117,by117, *] <;> omega) | (simp only [Ix.val];with_reducible assumption) | exact UInt8.toNat_lt _ | (apply Eq.trans;(with_reducible assumption);exact rfl) | exact rfl | exact fun _ _=>rfl)) ?_)
       refine Draw.intro [[],[],[],[],[3],[],[5],[],[5,6,7],[3,4,5,6,7,8],[3,4,5,6,7,8,9],[],[3,4,5,6,7,8,9,10,11],[3,4,5,6,7,8,9,10,11,12],[2,3,4,5,6,7,8,9,10,11,12,13],[0],[0,1,2,3,4,5,6,7,8,9,10,11,12,13,14,15],[0,1,2,3,4,5,6,7,8,9,10,11,12,13,14,15,16]] [0,1,2,3,4,5,6,7,8,9,10,11,12,13,14,15,16,17] (by kernel_rfl) ?_
       repeat (refine Side.intro (by repeat' (first | (show AllP _;first | exact trivial | refine AllP.app ?_ ?_ | refine AllP.appd ?_ ?_ | refine AllP.cons ?_ ?_) | with_reducible rfl | with_reducible assumption | omega | (simp only [Nat.zero_add,e1,e2,e3,eq,zs_getD,toNat_cast,sz116,rng,Ix.val,addQ_eq,addI,sz3,by3,sz5,by5,sz51,by51,sz70,by70,sz73,by73,sz91,by91,sz92,by92,sz116,by116,sz117,by117] <;> omega) | (simp only [Nat.zero_add,e1,e2,e3,eq,zs_getD,toNat_cast,sz116,rng,Ix.val,Int.toNat_natCast,mulE_eq,addQ_eq,addI,Option.getD_none,Option.getD_some,List.length_take,List.length_drop,List.length_append,List.length_set,List.length_replicate,sz3,by3,sz5,by5,sz51,by51,sz70,by70,sz73,by73,sz91,by91,sz92,by92,sz116,by116,sz117,by117, *] <;> omega) | (simp only [Ix.val];with_reducible assumption) | exact UInt8.toNat_lt _ | (apply Eq.trans;(with_reducible assumption);exact rfl) | exact rfl | exact fun _ _=>rfl)) ?_)
       refine ⟨r + 1,by omega,by omega,Le.intro [] rfl fc rfl ?_ rfl⟩
       repeat' (first | (show AllP _;first | exact trivial | refine AllP.app ?_ ?_ | refine AllP.appd ?_ ?_ | refine AllP.cons ?_ ?_) | with_reducible rfl | with_reducible assumption | omega | (simp only [rng,Ix.val,addQ_eq,addI,sz3,by3,sz5,by5,sz51,by51,sz70,by70,sz73,by73,sz91,by91,sz92,by92,sz116,by116,sz117,by117] <;> omega) | (simp only [rng,Ix.val,Int.toNat_natCast,mulE_eq,addQ_eq,addI,Option.getD_none,Option.getD_some,List.length_take,List.length_drop,List.length_append,List.length_set,List.length_replicate,sz3,by3,sz5,by5,sz51,by51,sz70,by70,sz73,by73,sz91,by91,sz92,by92,sz116,by116,sz117,by117, *] <;> omega) | (simp only [Ix.val];with_reducible assumption) | exact UInt8.toNat_lt _ | (apply Eq.trans;(with_reducible assumption);exact rfl) | exact rfl | exact fun _ _=>rfl)
       simp only [Nat.zero_add,e1,e2,e3,eq,zs_getD,toNat_cast,addQ_eq,Ix.val,zs_set,sz116,rC,hmix]
      ·have h14:¬ (n:Int) + 1 < 14:=h14
       have hmix:rMix Tt (n + 1) k r = Tt.getD (k + r * 4) 0:=if_neg (by omega)
       rw [hmix] at hx
       refine Draw.intro [[],[],[],[],[3],[],[5],[],[5,6,7],[3,4,5,6,7,8],[3,4,5,6,7,8,9],[],[3,4,5,6,7,8,9,10,11],[3,4,5,6,7,8,9,10,11,12],[2,3,4,5,6,7,8,9,10,11,12,13],[0],[0,1,2,3,4,5,6,7,8,9,10,11,12,13,14,15],[0,1,2,3,4,5,6,7,8,9,10,11,12,13,14,15,16]] [0,1,2,3,4,5,6,7,8,9,10,11,12,13,14,15,16,17] (by kernel_rfl) ?_
       repeat (refine Side.intro (by repeat' (first | (show AllP _;first | exact trivial | refine AllP.app ?_ ?_ | refine AllP.appd ?_ ?_ | refine AllP.cons ?_ ?_) | with_reducible rfl | with_reducible assumption | omega | (simp only [Nat.zero_add,eq,zs_getD,toNat_cast,sz116,rng,Ix.val,addQ_eq,addI,sz3,by3,sz5,by5,sz51,by51,sz70,by70,sz73,by73,sz91,by91,sz92,by92,sz116,by116,sz117,by117] <;> omega) | (simp only [Nat.zero_add,eq,zs_getD,toNat_cast,sz116,rng,Ix.val,Int.toNat_natCast,mulE_eq,addQ_eq,addI,Option.getD_none,Option.getD_some,List.length_take,List.length_drop,List.length_append,List.length_set,List.length_replicate,sz3,by3,sz5,by5,sz51,by51,sz70,by70,sz73,by73,sz91,by91,sz92,by92,sz116,by116,sz117,by117, *] <;> omega) | (simp only [Ix.val];with_reducible assumption) | exact UInt8.toNat_lt _ | (apply Eq.trans;(with_reducible assumption);exact rfl) | exact rfl | exact fun _ _=>rfl)) ?_)
       refine ⟨r + 1,by omega,by omega,Le.intro [] rfl fc rfl ?_ rfl⟩
       repeat' (first | (show AllP _;first | exact trivial | refine AllP.app ?_ ?_ | refine AllP.appd ?_ ?_ | refine AllP.cons ?_ ?_) | with_reducible rfl | with_reducible assumption | omega | (simp only [rng,Ix.val,addQ_eq,addI,sz3,by3,sz5,by5,sz51,by51,sz70,by70,sz73,by73,sz91,by91,sz92,by92,sz116,by116,sz117,by117] <;> omega) | (simp only [rng,Ix.val,Int.toNat_natCast,mulE_eq,addQ_eq,addI,Option.getD_none,Option.getD_some,List.length_take,List.length_drop,List.length_append,List.length_set,List.length_replicate,sz3,by3,sz5,by5,sz51,by51,sz70,by70,sz73,by73,sz91,by91,sz92,by92,sz116,by116,sz117,by117, *] <;> omega) | (simp only [Ix.val];with_reducible assumption) | exact UInt8.toNat_lt _ | (apply Eq.trans;(with_reducible assumption);exact rfl) | exact rfl | exact fun _ _=>rfl)
       simp only [Nat.zero_add,eq,zs_getD,toNat_cast,addQ_eq,Ix.val,zs_set,sz116,rC,hmix]
     ·obtain rfl:r = 4:=by have hr':¬ (r:Int) < 4:=hr';omega
      repeat (refine sd ?_)
      refine ⟨k + 1,by omega,by omega,Le.intro [] rfl fc rfl ?_ rfl⟩
      have e0:rCs W Tt (n + 1) B (k + 1) = rC W Tt (n + 1) (rCs W Tt (n + 1) B k) k 4:=rfl
      exact fc
    ·obtain rfl:k = 4:=by have hk':¬ (k:Int) < 4:=hk';omega
     repeat (refine sd ?_)
     have hz:=congrArg zs hnext2
     refine ⟨n + 1,by omega,by omega,Le.intro [] rfl fc rfl ?_ rfl⟩
     exact fc
  ·obtain rfl:n = 14:=by have h:¬ (n:Int) + 1 ≤ 14:=h;omega
   obtain ⟨L,hLe⟩:∃ x,rLock bl W 14 = x:=⟨_,rfl⟩
   have hLe2:zs (rLock bl W 14) = zs L:=congrArg zs hLe
   rw [hLe] at hL
   have hLl:=hL.1
   have hLz:=zs_length L
   repeat (refine sd ?_)
   refine Loop.intro (σ:=Nat) (fun i=>i ≤ 16)
    (fun i=>([(4,.ptr 4 0 none),(5,.ptr 5 0 none),(14,.ptr 14 0 none),(15,.i .i64 i)],
     [(1000,.mem false 0 [(256,.ai (zs natS))]),(1001,.mem false 0 (rowsW W 60)),(4,.mem true 0 [(16,.a8 (List.replicate 16 0))]),(5,.mem true 0 [(16,.ai (zs L))]),(14,.mem true 0 [(16,.a8 (rOut L i))])])) (fun i=>16 - i) 0 (Nat.zero_le _) ?_ ?_
   ·refine Le.intro [] rfl fc rfl ?_ rfl
    exact ⟨rfl,rfl,rfl,rfl,rfl,fun _ _=>rfl,rfl,rfl,rfl,rfl,rfl,hLe2.symm,rfl,rfl,rfl⟩
   rintro i hi
   have hO:=rOut_length L i
   refine Branch.intro (fun h=>?_) (fun h=>?_)
   ·have h:(i:Int) < 16:=h
    have em:((i:Int) % 4).toNat = i % 4:=by omega
    have ed:((i:Int) / 4).toNat = i / 4:=by omega
    repeat (refine Side.intro (by repeat' (first | (show AllP _;first | exact trivial | refine AllP.app ?_ ?_ | refine AllP.appd ?_ ?_ | refine AllP.cons ?_ ?_) | with_reducible rfl | with_reducible assumption | omega | (simp only [Nat.zero_add,em,ed,zs_getD,toNat_cast,sz116,rng,Ix.val,addQ_eq,addI,sz3,by3,sz5,by5,sz51,by51,sz70,by70,sz73,by73,sz91,by91,sz92,by92,sz116,by116,sz117,by117] <;> omega) | (simp only [Nat.zero_add,em,ed,zs_getD,toNat_cast,sz116,rng,Ix.val,Int.toNat_natCast,mulE_eq,addQ_eq,addI,Option.getD_none,Option.getD_some,List.length_take,List.length_drop,List.length_append,List.length_set,List.length_replicate,sz3,by3,sz5,by5,sz51,by51,sz70,by70,sz73,by73,sz91,by91,sz92,by92,sz116,by116,sz117,by117, *] <;> omega) | (simp only [Ix.val];with_reducible assumption) | exact UInt8.toNat_lt _ | (apply Eq.trans;(with_reducible assumption);exact rfl) | exact rfl | exact fun _ _=>rfl)) ?_)
    refine ⟨i + 1,by omega,by omega,Le.intro [] rfl fc rfl ?_ rfl⟩
    repeat' (first | (show AllP _;first | exact trivial | refine AllP.app ?_ ?_ | refine AllP.appd ?_ ?_ | refine AllP.cons ?_ ?_) | with_reducible rfl | with_reducible assumption | omega | (simp only [rng,Ix.val,addQ_eq,addI,sz3,by3,sz5,by5,sz51,by51,sz70,by70,sz73,by73,sz91,by91,sz92,by92,sz116,by116,sz117,by117] <;> omega) | (simp only [rng,Ix.val,Int.toNat_natCast,mulE_eq,addQ_eq,addI,Option.getD_none,Option.getD_some,List.length_take,List.length_drop,List.length_append,List.length_set,List.length_replicate,sz3,by3,sz5,by5,sz51,by51,sz70,by70,sz73,by73,sz91,by91,sz92,by92,sz116,by116,sz117,by117, *] <;> omega) | (simp only [Ix.val];with_reducible assumption) | exact UInt8.toNat_lt _ | (apply Eq.trans;(with_reducible assumption);exact rfl) | exact rfl | exact fun _ _=>rfl)
    simp only [Nat.zero_add,em,ed,zs_getD,toNat_cast,addQ_eq,Ix.val,sz116,rOut,ofInt8']
   ·obtain rfl:i = 16:=by have h:¬ (i:Int) < 16:=h;omega
    repeat (refine sd ?_)
    subst hLe
    exact Ret.intro (.a8 (rOut (rLock bl W 14) 16)) [(1000,.mem false 0 [(256,.ai (zs natS))]),(1001,.mem false 0 (rowsW W 60))] [] rfl trivial ⟨rfl,rfl⟩ rfl rfl rfl ⟨rfl,rfl,rfl,rfl,rfl,fun _ _=>rfl⟩ rfl
end Go.Proofs.Ytlbmkjckbfeejaa
