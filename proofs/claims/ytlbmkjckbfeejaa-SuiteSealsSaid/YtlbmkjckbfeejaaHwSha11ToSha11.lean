/- What the functions of the program compute. No condition. -/
import Derived.Test.YtlbmkjckbfeejaaHwSha9ToSha10
set_option linter.unusedSimpArgs false
set_option linter.unusedVariables false
namespace Go.Proofs.Ytlbmkjckbfeejaa
open Go Go.Sx
set_option maxRecDepth 100000 in
set_option maxHeartbeats 4000000 in
theorem fnHash32 (b:List UInt8) (m:Nat) (hb:b.length = m) (hmax:m ≤ 100000000):Sx.Fn Γ.P 63 [.slx 1000 0 0 m,.u64 32] [(1000,.mem false 0 [(m,.a8 b)])]
  (fun v M=>∃ c,32 ≤ c∧v = .sl 1001 0 0 32 c∧M = [(1000,.mem false 0 [(m,.a8 b)]),(1001,.mem true (c - 32) [(32,.a8 (hashR C32 F32 b (zeroN (m % 64))))])]):=by
 have hS:=S32_eq
 have hC:=C32_eq
 have hFl:=F32_length
 have hKl:=R32_length
 have hSl:=S32_length
 have cs:C32.s = S32:=by rw [hC]
 have ck:C32.k = R32:=by rw [hC]
 have csz:C32.sz = 32:=by rw [hC]
 have cm:C32.mask = (UInt64.ofNat 4294967295):=by rw [hC]
 have cn:C32.n = 64:=by rw [hC]
 have cw:C32.wd = 4:=by rw [hC]
 clear hC
 have hw4:(32 / UInt64.ofNat 8:UInt64).toNat = 4:=by decide
 have hn8:UInt64.ofNat 8 ≠ 0:=by decide
 refine fn_of (Γ:=Γ) (fn:=Try.f63) rfl rfl rfl rfl ?_
 refine Call.intro fn70 [(1001,(1001,0,none))] rfl trivial rfl trivial rfl ?_
 rintro v M' ⟨rfl,rfl⟩
 refine Call.intro fn71 [(1001,(1002,0,none))] rfl trivial rfl trivial rfl ?_
 rintro v M' ⟨rfl,rfl⟩
 repeat (refine sd ?_)
 refine Branch.intro (fun _=>?_) (fun hn=>absurd rfl hn)
 refine Call.intro fn72 [(1001,(1003,0,none))] rfl trivial rfl trivial rfl ?_
 rintro v M' ⟨rfl,rfl⟩
 refine Call.intro fn73 [(1001,(1004,0,none))] rfl trivial rfl trivial rfl ?_
 rintro v M' ⟨rfl,rfl⟩
 repeat (refine Side.intro (by repeat' (first | (show AllP _;first | exact trivial | refine AllP.app ?_ ?_ | refine AllP.appd ?_ ?_ | refine AllP.cons ?_ ?_) | with_reducible rfl | with_reducible assumption | omega | (simp only [hw4,rng,Ix.val,addQ_eq,addI,sz4,by4,sz5,by5,sz23,by23,sz95,by95,sz98,by98,sz127,by127,sz129,by129] <;> omega) | (simp only [hw4,rng,Ix.val,Int.toNat_natCast,mulE_eq,addQ_eq,addI,Option.getD_none,Option.getD_some,List.length_take,List.length_drop,List.length_append,List.length_set,List.length_replicate,sz4,by4,sz5,by5,sz23,by23,sz95,by95,sz98,by98,sz127,by127,sz129,by129, *] <;> omega) | (simp only [Ix.val];with_reducible assumption) | exact UInt8.toNat_lt _ | (apply Eq.trans;(with_reducible assumption);exact rfl) | exact rfl | exact fun _ _=>rfl)) ?_)
 intro c1 hc1
 repeat (refine Side.intro (by repeat' (first | (show AllP _;first | exact trivial | refine AllP.app ?_ ?_ | refine AllP.appd ?_ ?_ | refine AllP.cons ?_ ?_) | with_reducible rfl | with_reducible assumption | omega | (simp only [hw4,rng,Ix.val,addQ_eq,addI,sz4,by4,sz5,by5,sz23,by23,sz95,by95,sz98,by98,sz127,by127,sz129,by129] <;> omega) | (simp only [hw4,rng,Ix.val,Int.toNat_natCast,mulE_eq,addQ_eq,addI,Option.getD_none,Option.getD_some,List.length_take,List.length_drop,List.length_append,List.length_set,List.length_replicate,sz4,by4,sz5,by5,sz23,by23,sz95,by95,sz98,by98,sz127,by127,sz129,by129, *] <;> omega) | (simp only [Ix.val];with_reducible assumption) | exact UInt8.toNat_lt _ | (apply Eq.trans;(with_reducible assumption);exact rfl) | exact rfl | exact fun _ _=>rfl)) ?_)
 intro c2 hc2
 repeat (refine Side.intro (by repeat' (first | (show AllP _;first | exact trivial | refine AllP.app ?_ ?_ | refine AllP.appd ?_ ?_ | refine AllP.cons ?_ ?_) | with_reducible rfl | with_reducible assumption | omega | (simp only [hw4,rng,Ix.val,addQ_eq,addI,sz4,by4,sz5,by5,sz23,by23,sz95,by95,sz98,by98,sz127,by127,sz129,by129] <;> omega) | (simp only [hw4,rng,Ix.val,Int.toNat_natCast,mulE_eq,addQ_eq,addI,Option.getD_none,Option.getD_some,List.length_take,List.length_drop,List.length_append,List.length_set,List.length_replicate,sz4,by4,sz5,by5,sz23,by23,sz95,by95,sz98,by98,sz127,by127,sz129,by129, *] <;> omega) | (simp only [Ix.val];with_reducible assumption) | exact UInt8.toNat_lt _ | (apply Eq.trans;(with_reducible assumption);exact rfl) | exact rfl | exact fun _ _=>rfl)) ?_)
 have ht0:List.take m (List.drop 0 b) = b:=by rw [List.drop_zero,List.take_of_length_le (by omega)]
 obtain ⟨Z,hZ⟩:∃ x,zeroN (m % 64) = x:=⟨_,rfl⟩
 have hz:Z = (119 - m % 64) % 64:=by rw [← hZ];rfl
 refine Loop.intro (σ:=Nat × Nat) (fun s=>s.1 ≤ Z∧m + 1 + s.1 ≤ s.2)
  (fun s=>([(0,.slx 1000 0 0 m),(1,.u64 32),(5,.u64 (UInt64.ofNat 4294967295)),(6,.sl 300 0 0 8 8),(7,.sl 301 0 0 64 64),(8,.sl 302 0 0 12 12),(9,.i .i64 4),(10,.i .i64 64),(11,.sl 200 0 0 (m + 1 + s.1) s.2)],
   [(1000,.mem false 0 [(m,.a8 b)]),(300,.mem true 0 [(8,.a64 F32)]),(301,.mem true 0 [(64,.a64 R32)]),(302,.mem true 0 [(12,.a64 S32)]),(200,.mem true (s.2 - (m + 1 + s.1)) [(m + 1 + s.1,.a8 (padT b s.1))])])) (fun s=>Z - s.1) (0,c2) ⟨Nat.zero_le _,by have:0 + m + 1 ≤ c2:=hc2;show m + 1 + 0 ≤ c2;omega⟩ ?_ ?_
 ·refine Le.intro [(300,(1003,0,none)),(301,(1004,0,none)),(302,(33,0,none)),(200,(44,0,none))] rfl ?_ rfl ?_ rfl
  ·exact fc
  ·repeat' (first | (show AllP _;first | exact trivial | refine AllP.app ?_ ?_ | refine AllP.appd ?_ ?_ | refine AllP.cons ?_ ?_) | with_reducible rfl | with_reducible assumption | omega | (simp only [rng,Ix.val,addQ_eq,addI,sz4,by4,sz5,by5,sz23,by23,sz95,by95,sz98,by98,sz127,by127,sz129,by129] <;> omega) | (simp only [rng,Ix.val,Int.toNat_natCast,mulE_eq,addQ_eq,addI,Option.getD_none,Option.getD_some,List.length_take,List.length_drop,List.length_append,List.length_set,List.length_replicate,sz4,by4,sz5,by5,sz23,by23,sz95,by95,sz98,by98,sz127,by127,sz129,by129, *] <;> omega) | (simp only [Ix.val];with_reducible assumption) | exact UInt8.toNat_lt _ | (apply Eq.trans;(with_reducible assumption);exact rfl) | exact rfl | exact fun _ _=>rfl)
   all_goals first | exact hS | (show padT b 0 = [] ++ List.take m (List.drop 0 b) ++ [128];rw [ht0];simp [padT])
 clear hS
 rintro ⟨j,c⟩ ⟨hj,hc⟩
 have hj:j ≤ Z:=hj
 have hc:m + 1 + j ≤ c:=hc
 have hpl:=padT_length b j
 rw [hb] at hpl
 repeat (refine sd ?_)
 refine Branch.intro (fun hb1=>?_) (fun hb1=>?_)
 ·have hb1:¬ ((m + 1 + j:Nat):Int) % 64 = 64 - 2 * 4:=hb1
  have hlt:j < Z:=by omega
  repeat (refine sd ?_)
  intro c' hc'
  repeat (refine sd ?_)
  have hp1:=padT_succ b j
  refine ⟨(j + 1,c'),⟨hlt,by show m + 1 + (j + 1) ≤ c';have:m + 1 + j + 1 ≤ c':=hc';omega⟩,by show Z - (j + 1) < Z - j;omega,Le.intro [(200,(56,0,none))] rfl ?_ rfl ?_ rfl⟩
  ·exact fc
  ·exact fc
 have hb1:¬ ¬ ((m + 1 + j:Nat):Int) % 64 = 64 - 2 * 4:=hb1
 obtain rfl:j = Z:=by omega
 obtain ⟨T0,hT0⟩:∃ x,padT b j = x:=⟨_,rfl⟩
 rw [hT0] at hpl
 obtain ⟨L0,hL0⟩:∃ x,m + 1 + j = x:=⟨_,rfl⟩
 rw [hL0] at hpl hc
 obtain ⟨n,hn⟩:∃ x,UInt64.ofInt (m:Int) = x:=⟨_,rfl⟩
 have hall0:allR 4 b j = lenR 8 T0 n 8:=by unfold allR;rw [hT0,hb,hn]
 repeat (refine sd ?_)
 refine Loop.intro (σ:=Nat × Nat) (fun s=>s.1 ≤ 8∧L0 + s.1 ≤ s.2)
  (fun s=>([(0,.slx 1000 0 0 m),(1,.u64 32),(5,.u64 (UInt64.ofNat 4294967295)),(6,.sl 300 0 0 8 8),(7,.sl 301 0 0 64 64),(8,.sl 302 0 0 12 12),(9,.i .i64 4),(10,.i .i64 64),(11,.sl 200 0 0 (L0 + s.1) s.2),(12,.i .i64 (7 - (s.1:Int)))],
   [(1000,.mem false 0 [(m,.a8 b)]),(300,.mem true 0 [(8,.a64 F32)]),(301,.mem true 0 [(64,.a64 R32)]),(302,.mem true 0 [(12,.a64 S32)]),(200,.mem true (s.2 - (L0 + s.1)) [(L0 + s.1,.a8 (lenR 8 T0 n s.1))])])) (fun s=>8 - s.1) (0,c) ⟨Nat.zero_le _,hc⟩ ?_ ?_
 ·have hT0':=hT0.symm
  have hL0':=hL0.symm
  clear hT0 hL0
  refine Le.intro [] rfl ?_ rfl ?_ rfl
  ·exact fc
  ·have e0:lenR 8 T0 n 0 = T0:=rfl
   repeat' (first | (show AllP _;first | exact trivial | refine AllP.app ?_ ?_ | refine AllP.appd ?_ ?_ | refine AllP.cons ?_ ?_) | with_reducible rfl | with_reducible assumption | omega | (simp only [rng,Ix.val,addQ_eq,addI,sz4,by4,sz5,by5,sz23,by23,sz95,by95,sz98,by98,sz127,by127,sz129,by129] <;> omega) | (simp only [rng,Ix.val,Int.toNat_natCast,mulE_eq,addQ_eq,addI,Option.getD_none,Option.getD_some,List.length_take,List.length_drop,List.length_append,List.length_set,List.length_replicate,sz4,by4,sz5,by5,sz23,by23,sz95,by95,sz98,by98,sz127,by127,sz129,by129, *] <;> omega) | (simp only [Ix.val];with_reducible assumption) | exact UInt8.toNat_lt _ | (apply Eq.trans;(with_reducible assumption);exact rfl) | exact rfl | exact fun _ _=>rfl)
   all_goals exact hT0'
 rintro ⟨k,c⟩ ⟨hk,hc⟩
 have hk:k ≤ 8:=hk
 have hc:L0 + k ≤ c:=hc
 have hll:=lenR_length 8 T0 n k
 rw [hpl] at hll
 refine Branch.intro (fun hb2=>?_) (fun hb2=>?_)
 ·have hb2:(7 - (k:Int)) ≥ 0:=hb2
  refine Branch.intro (fun hb8=>?_) (fun hb8=>?_)
  ·have hb8:(7 - (k:Int)) < 8:=hb8
   repeat (refine sd ?_)
   intro c' hc'
   repeat (refine sd ?_)
   have e7:(UInt64.ofInt (8 * (7 - (k:Int)))).toNat = 8 * (8 - 1 - k):=by
    rw [show (8 * (7 - (k:Int))) = ((8 * (8 - 1 - k):Nat):Int) by omega];exact u64_small _ (by omega)
   refine ⟨(k + 1,c'),⟨by show k + 1 ≤ 8;omega,by show L0 + (k + 1) ≤ c';have:L0 + k + 1 ≤ c':=hc';omega⟩,by show 8 - (k + 1) < 8 - k;omega,Le.intro [(200,(78,0,none))] rfl ?_ rfl ?_ rfl⟩
   ·exact fc
   ·repeat' (first | (show AllP _;first | exact trivial | refine AllP.app ?_ ?_ | refine AllP.appd ?_ ?_ | refine AllP.cons ?_ ?_) | with_reducible rfl | with_reducible assumption | omega | (simp only [rng,Ix.val,addQ_eq,addI,sz4,by4,sz5,by5,sz23,by23,sz95,by95,sz98,by98,sz127,by127,sz129,by129] <;> omega) | (simp only [rng,Ix.val,Int.toNat_natCast,mulE_eq,addQ_eq,addI,Option.getD_none,Option.getD_some,List.length_take,List.length_drop,List.length_append,List.length_set,List.length_replicate,sz4,by4,sz5,by5,sz23,by23,sz95,by95,sz98,by98,sz127,by127,sz129,by129, *] <;> omega) | (simp only [Ix.val];with_reducible assumption) | exact UInt8.toNat_lt _ | (apply Eq.trans;(with_reducible assumption);exact rfl) | exact rfl | exact fun _ _=>rfl)
    all_goals (show lenR 8 T0 n (k + 1) = lenR 8 T0 n k ++ [(shr64 (shl64 (UInt64.ofInt (m:Int)) 3) (UInt64.ofInt (8 * (7 - (k:Int)))).toNat).toUInt8])
    all_goals rw [e7,hn]
    all_goals simp only [lenR]
    all_goals rw [if_pos (by omega)]
  ·have hb8:¬ (7 - (k:Int)) < 8:=hb8
   repeat (refine sd ?_)
   intro c' hc'
   repeat (refine sd ?_)
   refine ⟨(k + 1,c'),⟨by show k + 1 ≤ 8;omega,by show L0 + (k + 1) ≤ c';have:L0 + k + 1 ≤ c':=hc';omega⟩,by show 8 - (k + 1) < 8 - k;omega,Le.intro [(200,(78,0,none))] rfl ?_ rfl ?_ rfl⟩
   ·exact fc
   ·repeat' (first | (show AllP _;first | exact trivial | refine AllP.app ?_ ?_ | refine AllP.appd ?_ ?_ | refine AllP.cons ?_ ?_) | with_reducible rfl | with_reducible assumption | omega | (simp only [rng,Ix.val,addQ_eq,addI,sz4,by4,sz5,by5,sz23,by23,sz95,by95,sz98,by98,sz127,by127,sz129,by129] <;> omega) | (simp only [rng,Ix.val,Int.toNat_natCast,mulE_eq,addQ_eq,addI,Option.getD_none,Option.getD_some,List.length_take,List.length_drop,List.length_append,List.length_set,List.length_replicate,sz4,by4,sz5,by5,sz23,by23,sz95,by95,sz98,by98,sz127,by127,sz129,by129, *] <;> omega) | (simp only [Ix.val];with_reducible assumption) | exact UInt8.toNat_lt _ | (apply Eq.trans;(with_reducible assumption);exact rfl) | exact rfl | exact fun _ _=>rfl)
    all_goals (show lenR 8 T0 n (k + 1) = lenR 8 T0 n k ++ [0])
    all_goals simp only [lenR]
    all_goals rw [if_neg (by omega)]
 obtain rfl:k = 8:=by have hb2:¬ (7 - (k:Int)) ≥ 0:=hb2;omega
 obtain ⟨T,hT⟩:∃ x,lenR 8 T0 n 8 = x:=⟨_,rfl⟩
 obtain ⟨L,hL⟩:∃ x,L0 + 8 = x:=⟨_,rfl⟩
 rw [hT,hL] at hll
 rw [hL] at hc
 rw [hT] at hall0
 have hL2:L % 64 = 0:=by omega
 have hsum:hashR C32 F32 b j = outR 4 (blksR C32 F32 T (L / 64)) 8:=by unfold hashR;rw [cw,hall0,hll]
 rw [hZ,hsum]
 clear hall0 hsum
 refine Loop.intro (σ:=Nat) (fun q=>q ≤ L / 64)
  (fun q=>([(0,.slx 1000 0 0 m),(1,.u64 32),(5,.u64 (UInt64.ofNat 4294967295)),(6,.sl 300 0 0 8 8),(7,.sl 301 0 0 64 64),(8,.sl 302 0 0 12 12),(9,.i .i64 4),(10,.i .i64 64),(11,.sl 200 0 0 L c),(14,.i .i64 (64 * q:Nat))],
   [(1000,.mem false 0 [(m,.a8 b)]),(300,.mem true 0 [(8,.a64 (blksR C32 F32 T q))]),(301,.mem true 0 [(64,.a64 R32)]),(302,.mem true 0 [(12,.a64 S32)]),(200,.mem true (c - L) [(L,.a8 T)])])) (fun q=>L / 64 - q) 0 (Nat.zero_le _) ?_ ?_
 ·have hT':=hT.symm
  have hL':=hL.symm
  clear hT hL
  refine Le.intro [] rfl ?_ rfl ?_ rfl
  ·exact fc
  ·have e0:blksR C32 F32 T 0 = F32:=rfl
   repeat' (first | (show AllP _;first | exact trivial | refine AllP.app ?_ ?_ | refine AllP.appd ?_ ?_ | refine AllP.cons ?_ ?_) | with_reducible rfl | with_reducible assumption | omega | (simp only [rng,Ix.val,addQ_eq,addI,sz4,by4,sz5,by5,sz23,by23,sz95,by95,sz98,by98,sz127,by127,sz129,by129] <;> omega) | (simp only [rng,Ix.val,Int.toNat_natCast,mulE_eq,addQ_eq,addI,Option.getD_none,Option.getD_some,List.length_take,List.length_drop,List.length_append,List.length_set,List.length_replicate,sz4,by4,sz5,by5,sz23,by23,sz95,by95,sz98,by98,sz127,by127,sz129,by129, *] <;> omega) | (simp only [Ix.val];with_reducible assumption) | exact UInt8.toNat_lt _ | (apply Eq.trans;(with_reducible assumption);exact rfl) | exact rfl | exact fun _ _=>rfl)
   all_goals exact hT'
 rintro q hq
 have hbl:=blksR_length C32 T hFl q
 refine Branch.intro (fun hb3=>?_) (fun hb3=>?_)
 ·have hb3:((64 * q:Nat):Int) < (L:Int):=hb3
  obtain ⟨H,hH⟩:∃ x,blksR C32 F32 T q = x:=⟨_,rfl⟩
  have hnext:blksR C32 F32 T (q + 1) = blkR C32 (blksR C32 F32 T q) T (64 * q):=by
   simp only [blksR,cw]
  rw [hH] at hbl hnext
  have hblk:blkR C32 H T (64 * q) = hR C32 H (rdsR C32 (wRs C32 T (64 * q) 64) H 64) 8:=by unfold blkR;rw [cn]
  rw [hblk] at hnext
  obtain ⟨A,hA⟩:∃ x,64 * q = x:=⟨_,rfl⟩
  have hAL:A + 64 ≤ L:=by omega
  rw [hA] at hnext
  repeat (refine sd ?_)
  refine Loop.intro (σ:=Nat) (fun i=>i ≤ 64)
   (fun i=>([(0,.slx 1000 0 0 m),(1,.u64 32),(5,.u64 (UInt64.ofNat 4294967295)),(6,.sl 300 0 0 8 8),(7,.sl 301 0 0 64 64),(8,.sl 302 0 0 12 12),(9,.i .i64 4),(10,.i .i64 64),(11,.sl 200 0 0 L c),(14,.i .i64 (A:Nat)),(15,.sl 201 0 0 64 64),(16,.i .i64 i)],
    [(1000,.mem false 0 [(m,.a8 b)]),(300,.mem true 0 [(8,.a64 H)]),(301,.mem true 0 [(64,.a64 R32)]),(302,.mem true 0 [(12,.a64 S32)]),(200,.mem true (c - L) [(L,.a8 T)]),(201,.mem true 0 [(64,.a64 (wRs C32 T A i))])])) (fun i=>64 - i) 0 (Nat.zero_le _) ?_ ?_
  ·have hH':=hH.symm
   have hA':=hA.symm
   clear hA hH
   refine Le.intro [(201,(88,0,none))] rfl ?_ rfl ?_ rfl
   ·exact fc
   ·have e0:wRs C32 T A 0 = List.replicate 64 0:=by simp only [wRs,cn]
    repeat' (first | (show AllP _;first | exact trivial | refine AllP.app ?_ ?_ | refine AllP.appd ?_ ?_ | refine AllP.cons ?_ ?_) | with_reducible rfl | with_reducible assumption | omega | (simp only [rng,Ix.val,addQ_eq,addI,sz4,by4,sz5,by5,sz23,by23,sz95,by95,sz98,by98,sz127,by127,sz129,by129] <;> omega) | (simp only [rng,Ix.val,Int.toNat_natCast,mulE_eq,addQ_eq,addI,Option.getD_none,Option.getD_some,List.length_take,List.length_drop,List.length_append,List.length_set,List.length_replicate,sz4,by4,sz5,by5,sz23,by23,sz95,by95,sz98,by98,sz127,by127,sz129,by129, *] <;> omega) | (simp only [Ix.val];with_reducible assumption) | exact UInt8.toNat_lt _ | (apply Eq.trans;(with_reducible assumption);exact rfl) | exact rfl | exact fun _ _=>rfl)
    all_goals first | exact hH' | exact e0
  rintro i hi
  have hwl:=wRs_length C32 T A i
  rw [cn] at hwl
  refine Branch.intro (fun hb4=>?_) (fun hb4=>?_)
  ·have hb4:(i:Int) < 64:=hb4
   obtain ⟨W,hW⟩:∃ x,wRs C32 T A i = x:=⟨_,rfl⟩
   rw [hW] at hwl
   refine Branch.intro (fun h16=>?_) (fun h16=>?_)
   ·have h16:(i:Int) ≥ 16:=h16
    have hwn:wRs C32 T A (i + 1) = W.set i (wN C32 W i):=by
     simp only [wRs];rw [if_pos (by omega),hW]
    have e1:((i:Int) - 16).toNat = i - 16:=by omega
    have e2:((i:Int) - 15).toNat = i - 15:=by omega
    have e3:((i:Int) - 7).toNat = i - 7:=by omega
    have e4:((i:Int) - 2).toNat = i - 2:=by omega
    refine Draw.intro [[],[],[],[],[3],[2,3,4],[2,3,4,5],[],[],[8],[7,8,9],[7,8,9,10],[],[12],[12,13],[],[15],[15,16],[],[18],[18,19],[],[7,8,9,10,11,12,13,14,15,16,17,18,19,20,21],[2,3,4,5,6,7,8,9,10,11,12,13,14,15,16,17,18,19,20,21,22],[],[],[25],[24,25,26],[24,25,26,27],[2,3,4,5,6,7,8,9,10,11,12,13,14,15,16,17,18,19,20,21,22,23,24,25,26,27,28],[],[],[31],[30,31,32],[30,31,32,33],[],[35],[35,36],[],[38],[38,39],[],[41],[41,42],[],[7,8,9,10,11,12,13,14,15,16,17,18,19,20,21,22,30,31,32,33,34,35,36,37,38,39,40,41,42,43,44],[2,3,4,5,6,7,8,9,10,11,12,13,14,15,16,17,18,19,20,21,22,23,24,25,26,27,28,29,30,31,32,33,34,35,36,37,38,39,40,41,42,43,44,45],[],[2,3,4,5,6,7,8,9,10,11,12,13,14,15,16,17,18,19,20,21,22,23,24,25,26,27,28,29,30,31,32,33,34,35,36,37,38,39,40,41,42,43,44,45,46,47],[0,1,2,3,4,5,6,7,8,9,10,11,12,13,14,15,16,17,18,19,20,21,22,23,24,25,26,27,28,29,30,31,32,33,34,35,36,37,38,39,40,41,42,43,44,45,46,47,48],[0,1,2,3,4,5,6,7,8,9,10,11,12,13,14,15,16,17,18,19,20,21,22,23,24,25,26,27,28,29,30,31,32,33,34,35,36,37,38,39,40,41,42,43,44,45,46,47,48,49]] [0,1,2,3,4,5,6,7,8,9,10,11,12,13,14,15,16,17,18,19,20,21,24,25,26,27,28,30,31,32,33,34,35,36,37,38,39,40,41,42,43,44,47,22,23,29,45,46,48,49,50] (by kernel_rfl) ?_
    repeat (refine Side.intro (by repeat' (first | (show AllP _;first | exact trivial | refine AllP.app ?_ ?_ | refine AllP.appd ?_ ?_ | refine AllP.cons ?_ ?_) | with_reducible rfl | with_reducible assumption | omega | (simp only [Nat.zero_add,e1,e2,e3,e4,rng,Ix.val,addQ_eq,addI,sz4,by4,sz5,by5,sz23,by23,sz95,by95,sz98,by98,sz127,by127,sz129,by129] <;> omega) | (simp only [Nat.zero_add,e1,e2,e3,e4,rng,Ix.val,Int.toNat_natCast,mulE_eq,addQ_eq,addI,Option.getD_none,Option.getD_some,List.length_take,List.length_drop,List.length_append,List.length_set,List.length_replicate,sz4,by4,sz5,by5,sz23,by23,sz95,by95,sz98,by98,sz127,by127,sz129,by129, *] <;> omega) | (simp only [Ix.val];with_reducible assumption) | exact UInt8.toNat_lt _ | (apply Eq.trans;(with_reducible assumption);exact rfl) | exact rfl | exact fun _ _=>rfl)) ?_)
    refine Call.pure (fnThS ((wRs C32 T A i).getD (i - 15) 0) (S32.getD 6 0) (S32.getD 7 0) (S32.getD 8 0) 32) rfl (by repeat' (first | (show AllP _;first | exact trivial | refine AllP.app ?_ ?_ | refine AllP.appd ?_ ?_ | refine AllP.cons ?_ ?_) | with_reducible rfl | with_reducible assumption | omega | (simp only [Nat.zero_add,e2,rng,Ix.val,addQ_eq,addI,sz4,by4,sz5,by5,sz23,by23,sz95,by95,sz98,by98,sz127,by127,sz129,by129] <;> omega) | (simp only [Nat.zero_add,e2,rng,Ix.val,Int.toNat_natCast,mulE_eq,addQ_eq,addI,Option.getD_none,Option.getD_some,List.length_take,List.length_drop,List.length_append,List.length_set,List.length_replicate,sz4,by4,sz5,by5,sz23,by23,sz95,by95,sz98,by98,sz127,by127,sz129,by129, *] <;> omega) | (simp only [Ix.val];with_reducible assumption) | exact UInt8.toNat_lt _ | (apply Eq.trans;(with_reducible assumption);exact rfl) | exact rfl | exact fun _ _=>rfl)) ?_
    intro v hv
    subst hv
    refine Grow.intro [] rfl rfl ?_
    refine Call.pure (fnThS ((wRs C32 T A i).getD (i - 2) 0) (S32.getD 9 0) (S32.getD 10 0) (S32.getD 11 0) 32) rfl (by repeat' (first | (show AllP _;first | exact trivial | refine AllP.app ?_ ?_ | refine AllP.appd ?_ ?_ | refine AllP.cons ?_ ?_) | with_reducible rfl | with_reducible assumption | omega | (simp only [Nat.zero_add,e4,rng,Ix.val,addQ_eq,addI,sz4,by4,sz5,by5,sz23,by23,sz95,by95,sz98,by98,sz127,by127,sz129,by129] <;> omega) | (simp only [Nat.zero_add,e4,rng,Ix.val,Int.toNat_natCast,mulE_eq,addQ_eq,addI,Option.getD_none,Option.getD_some,List.length_take,List.length_drop,List.length_append,List.length_set,List.length_replicate,sz4,by4,sz5,by5,sz23,by23,sz95,by95,sz98,by98,sz127,by127,sz129,by129, *] <;> omega) | (simp only [Ix.val];with_reducible assumption) | exact UInt8.toNat_lt _ | (apply Eq.trans;(with_reducible assumption);exact rfl) | exact rfl | exact fun _ _=>rfl)) ?_
    intro v hv
    subst hv
    refine Grow.intro [] rfl rfl ?_
    repeat (refine Side.intro (by repeat' (first | (show AllP _;first | exact trivial | refine AllP.app ?_ ?_ | refine AllP.appd ?_ ?_ | refine AllP.cons ?_ ?_) | with_reducible rfl | with_reducible assumption | omega | (simp only [Nat.zero_add,e1,e2,e3,e4,rng,Ix.val,addQ_eq,addI,sz4,by4,sz5,by5,sz23,by23,sz95,by95,sz98,by98,sz127,by127,sz129,by129] <;> omega) | (simp only [Nat.zero_add,e1,e2,e3,e4,rng,Ix.val,Int.toNat_natCast,mulE_eq,addQ_eq,addI,Option.getD_none,Option.getD_some,List.length_take,List.length_drop,List.length_append,List.length_set,List.length_replicate,sz4,by4,sz5,by5,sz23,by23,sz95,by95,sz98,by98,sz127,by127,sz129,by129, *] <;> omega) | (simp only [Ix.val];with_reducible assumption) | exact UInt8.toNat_lt _ | (apply Eq.trans;(with_reducible assumption);exact rfl) | exact rfl | exact fun _ _=>rfl)) ?_)
    refine ⟨i + 1,by omega,by omega,Le.intro [] rfl fc rfl ?_ rfl⟩
    repeat' (first | (show AllP _;first | exact trivial | refine AllP.app ?_ ?_ | refine AllP.appd ?_ ?_ | refine AllP.cons ?_ ?_) | with_reducible rfl | with_reducible assumption | omega | (simp only [rng,Ix.val,addQ_eq,addI,sz4,by4,sz5,by5,sz23,by23,sz95,by95,sz98,by98,sz127,by127,sz129,by129] <;> omega) | (simp only [rng,Ix.val,Int.toNat_natCast,mulE_eq,addQ_eq,addI,Option.getD_none,Option.getD_some,List.length_take,List.length_drop,List.length_append,List.length_set,List.length_replicate,sz4,by4,sz5,by5,sz23,by23,sz95,by95,sz98,by98,sz127,by127,sz129,by129, *] <;> omega) | (simp only [Ix.val];with_reducible assumption) | exact UInt8.toNat_lt _ | (apply Eq.trans;(with_reducible assumption);exact rfl) | exact rfl | exact fun _ _=>rfl)
    simp only [Nat.zero_add,e1,e2,e3,e4,addQ_eq,Ix.val,Int.toNat_natCast]
    rw [hwn,← hW]
    unfold wN
    rw [cs,csz,cm]
    try rfl
   ·have h16:¬ (i:Int) ≥ 16:=h16
    have hwn:wRs C32 T A (i + 1) = wR C32 T A W i 4:=by
     simp only [wRs];rw [if_neg (by omega),hW,cw]
    refine Loop.intro (σ:=Nat) (fun j=>j ≤ 4)
     (fun j=>([(0,.slx 1000 0 0 m),(1,.u64 32),(5,.u64 (UInt64.ofNat 4294967295)),(6,.sl 300 0 0 8 8),(7,.sl 301 0 0 64 64),(8,.sl 302 0 0 12 12),(9,.i .i64 4),(10,.i .i64 64),(11,.sl 200 0 0 L c),(14,.i .i64 (A:Nat)),(15,.sl 201 0 0 64 64),(16,.i .i64 i),(17,.i .i64 j)],
      [(1000,.mem false 0 [(m,.a8 b)]),(300,.mem true 0 [(8,.a64 H)]),(301,.mem true 0 [(64,.a64 R32)]),(302,.mem true 0 [(12,.a64 S32)]),(200,.mem true (c - L) [(L,.a8 T)]),(201,.mem true 0 [(64,.a64 (wR C32 T A W i j))])])) (fun j=>4 - j) 0 (Nat.zero_le _) ?_ ?_
    ·have hW':=hW.symm
     clear hW
     refine Le.intro [] rfl ?_ rfl ?_ rfl
     ·exact fc
     ·have e0:wR C32 T A W i 0 = W:=rfl
      repeat' (first | (show AllP _;first | exact trivial | refine AllP.app ?_ ?_ | refine AllP.appd ?_ ?_ | refine AllP.cons ?_ ?_) | with_reducible rfl | with_reducible assumption | omega | (simp only [rng,Ix.val,addQ_eq,addI,sz4,by4,sz5,by5,sz23,by23,sz95,by95,sz98,by98,sz127,by127,sz129,by129] <;> omega) | (simp only [rng,Ix.val,Int.toNat_natCast,mulE_eq,addQ_eq,addI,Option.getD_none,Option.getD_some,List.length_take,List.length_drop,List.length_append,List.length_set,List.length_replicate,sz4,by4,sz5,by5,sz23,by23,sz95,by95,sz98,by98,sz127,by127,sz129,by129, *] <;> omega) | (simp only [Ix.val];with_reducible assumption) | exact UInt8.toNat_lt _ | (apply Eq.trans;(with_reducible assumption);exact rfl) | exact rfl | exact fun _ _=>rfl)
      all_goals exact e0.trans hW'
    rintro j2 hj2
    have hwl2:=wR_length C32 T A W i j2
    rw [hwl] at hwl2
    refine Branch.intro (fun hb5=>?_) (fun hb5=>?_)
    ·have hb5:(j2:Int) < 4:=hb5
     have e5:((A:Int) + 4 * i + j2).toNat = A + 4 * i + j2:=by omega
     refine Draw.intro [[],[],[],[],[2,3],[2,3,4],[2,3,4,5],[],[],[],[],[9,10],[8,9,10,11],[],[8,9,10,11,12,13],[7,8,9,10,11,12,13,14],[7,8,9,10,11,12,13,14,15],[7,8,9,10,11,12,13,14,15,16],[2,3,4,5,6,7,8,9,10,11,12,13,14,15,16,17],[0,1,2,3,4,5,6,7,8,9,10,11,12,13,14,15,16,17,18],[0,1,2,3,4,5,6,7,8,9,10,11,12,13,14,15,16,17,18,19]] [0,1,2,3,4,5,6,7,8,9,10,11,12,13,14,15,16,17,18,19,20] (by kernel_rfl) ?_
     repeat (refine Side.intro (by repeat' (first | (show AllP _;first | exact trivial | refine AllP.app ?_ ?_ | refine AllP.appd ?_ ?_ | refine AllP.cons ?_ ?_) | with_reducible rfl | with_reducible assumption | omega | (simp only [Nat.zero_add,e5,hw4,rng,Ix.val,addQ_eq,addI,sz4,by4,sz5,by5,sz23,by23,sz95,by95,sz98,by98,sz127,by127,sz129,by129] <;> omega) | (simp only [Nat.zero_add,e5,hw4,rng,Ix.val,Int.toNat_natCast,mulE_eq,addQ_eq,addI,Option.getD_none,Option.getD_some,List.length_take,List.length_drop,List.length_append,List.length_set,List.length_replicate,sz4,by4,sz5,by5,sz23,by23,sz95,by95,sz98,by98,sz127,by127,sz129,by129, *] <;> omega) | (simp only [Ix.val];with_reducible assumption) | exact UInt8.toNat_lt _ | (apply Eq.trans;(with_reducible assumption);exact rfl) | exact rfl | exact fun _ _=>rfl)) ?_)
     refine ⟨j2 + 1,by omega,by omega,Le.intro [] rfl fc rfl ?_ rfl⟩
     repeat' (first | (show AllP _;first | exact trivial | refine AllP.app ?_ ?_ | refine AllP.appd ?_ ?_ | refine AllP.cons ?_ ?_) | with_reducible rfl | with_reducible assumption | omega | (simp only [rng,Ix.val,addQ_eq,addI,sz4,by4,sz5,by5,sz23,by23,sz95,by95,sz98,by98,sz127,by127,sz129,by129] <;> omega) | (simp only [rng,Ix.val,Int.toNat_natCast,mulE_eq,addQ_eq,addI,Option.getD_none,Option.getD_some,List.length_take,List.length_drop,List.length_append,List.length_set,List.length_replicate,sz4,by4,sz5,by5,sz23,by23,sz95,by95,sz98,by98,sz127,by127,sz129,by129, *] <;> omega) | (simp only [Ix.val];with_reducible assumption) | exact UInt8.toNat_lt _ | (apply Eq.trans;(with_reducible assumption);exact rfl) | exact rfl | exact fun _ _=>rfl)
     all_goals simp only [Nat.zero_add,e5,addQ_eq,Ix.val,Int.toNat_natCast,wR,cw]
     all_goals try rfl
    ·obtain rfl:j2 = 4:=by have hb5:¬ (j2:Int) < 4:=hb5;omega
     repeat (refine sd ?_)
     refine ⟨i + 1,by omega,by omega,Le.intro [] rfl fc rfl ?_ rfl⟩
     repeat' (first | (show AllP _;first | exact trivial | refine AllP.app ?_ ?_ | refine AllP.appd ?_ ?_ | refine AllP.cons ?_ ?_) | with_reducible rfl | with_reducible assumption | omega | (simp only [rng,Ix.val,addQ_eq,addI,sz4,by4,sz5,by5,sz23,by23,sz95,by95,sz98,by98,sz127,by127,sz129,by129] <;> omega) | (simp only [rng,Ix.val,Int.toNat_natCast,mulE_eq,addQ_eq,addI,Option.getD_none,Option.getD_some,List.length_take,List.length_drop,List.length_append,List.length_set,List.length_replicate,sz4,by4,sz5,by5,sz23,by23,sz95,by95,sz98,by98,sz127,by127,sz129,by129, *] <;> omega) | (simp only [Ix.val];with_reducible assumption) | exact UInt8.toNat_lt _ | (apply Eq.trans;(with_reducible assumption);exact rfl) | exact rfl | exact fun _ _=>rfl)
     all_goals exact hwn
  ·obtain rfl:i = 64:=by have hb4:¬ (i:Int) < 64:=hb4;omega
   obtain ⟨W,hW⟩:∃ x,wRs C32 T A 64 = x:=⟨_,rfl⟩
   rw [hW] at hwl hnext
   repeat (refine sd ?_)
   intro c3 hc3
   repeat (refine sd ?_)
   have htH:List.take 8 (List.drop 0 H) = H:=by rw [List.drop_zero,List.take_of_length_le (by omega)]
   refine Loop.intro (σ:=Nat × Nat) (fun s=>s.1 ≤ 64∧8 ≤ s.2)
    (fun s=>([(0,.slx 1000 0 0 m),(1,.u64 32),(5,.u64 (UInt64.ofNat 4294967295)),(6,.sl 300 0 0 8 8),(7,.sl 301 0 0 64 64),(8,.sl 302 0 0 12 12),(9,.i .i64 4),(10,.i .i64 64),(11,.sl 200 0 0 L c),(14,.i .i64 (A:Nat)),(15,.sl 201 0 0 64 64),(18,.sl 202 0 0 8 s.2),(19,.i .i64 s.1)],
     [(1000,.mem false 0 [(m,.a8 b)]),(300,.mem true 0 [(8,.a64 H)]),(301,.mem true 0 [(64,.a64 R32)]),(302,.mem true 0 [(12,.a64 S32)]),(200,.mem true (c - L) [(L,.a8 T)]),(201,.mem true 0 [(64,.a64 W)]),(202,.mem true (s.2 - 8) [(8,.a64 (rdsR C32 W H s.1))])])) (fun s=>64 - s.1) (0,c3) ⟨Nat.zero_le _,hc3⟩ ?_ ?_
   ·have hW':=hW.symm
    clear hW
    refine Le.intro [(202,(174,0,none))] rfl ?_ rfl ?_ rfl
    ·exact fc
    ·have e0:rdsR C32 W H 0 = H:=rfl
     repeat' (first | (show AllP _;first | exact trivial | refine AllP.app ?_ ?_ | refine AllP.appd ?_ ?_ | refine AllP.cons ?_ ?_) | with_reducible rfl | with_reducible assumption | omega | (simp only [rng,Ix.val,addQ_eq,addI,sz4,by4,sz5,by5,sz23,by23,sz95,by95,sz98,by98,sz127,by127,sz129,by129] <;> omega) | (simp only [rng,Ix.val,Int.toNat_natCast,mulE_eq,addQ_eq,addI,Option.getD_none,Option.getD_some,List.length_take,List.length_drop,List.length_append,List.length_set,List.length_replicate,sz4,by4,sz5,by5,sz23,by23,sz95,by95,sz98,by98,sz127,by127,sz129,by129, *] <;> omega) | (simp only [Ix.val];with_reducible assumption) | exact UInt8.toNat_lt _ | (apply Eq.trans;(with_reducible assumption);exact rfl) | exact rfl | exact fun _ _=>rfl)
     all_goals first | exact hW' | (show rdsR C32 W H 0 = [] ++ List.take 8 (List.drop 0 H);rw [htH,e0];rfl)
   rintro ⟨i,cv⟩ ⟨hi,hcv⟩
   have hi:i ≤ 64:=hi
   have hcv:8 ≤ cv:=hcv
   have hvl:=rdsR_length C32 W hbl i
   refine Branch.intro (fun hb6=>?_) (fun hb6=>?_)
   ·have hb6:(i:Int) < 64:=hb6
    obtain ⟨V,hV⟩:∃ x,rdsR C32 W H i = x:=⟨_,rfl⟩
    have hrn:rdsR C32 W H (i + 1) = rdR C32 V (R32.getD i 0) (W.getD i 0):=by
     simp only [rdsR];rw [hV,ck]
    rw [hV] at hvl
    refine Draw.intro [[],[0],[0,1],[],[3],[3,4],[],[6],[6,7],[],[9],[9,10],[],[12],[12,13],[],[3,4,5,6,7,8,9,10,11,12,13,14,15],[0,1,2,3,4,5,6,7,8,9,10,11,12,13,14,15,16],[],[18],[18,19],[],[21],[21,22],[18,19,20,21,22,23],[],[],[26],[26,27],[25,26,27,28],[],[30],[30,31],[25,26,27,28,29,30,31,32],[18,19,20,21,22,23,24,25,26,27,28,29,30,31,32,33],[0,1,2,3,4,5,6,7,8,9,10,11,12,13,14,15,16,17,18,19,20,21,22,23,24,25,26,27,28,29,30,31,32,33,34],[],[],[36,37],[36,37,38],[0,1,2,3,4,5,6,7,8,9,10,11,12,13,14,15,16,17,18,19,20,21,22,23,24,25,26,27,28,29,30,31,32,33,34,35,36,37,38,39],[],[],[41,42],[41,42,43],[0,1,2,3,4,5,6,7,8,9,10,11,12,13,14,15,16,17,18,19,20,21,22,23,24,25,26,27,28,29,30,31,32,33,34,35,36,37,38,39,40,41,42,43,44],[0,1,2,3,4,5,6,7,8,9,10,11,12,13,14,15,16,17,18,19,20,21,22,23,24,25,26,27,28,29,30,31,32,33,34,35,36,37,38,39,40,41,42,43,44,45]] [0,1,2,3,4,5,6,7,8,9,10,11,12,13,14,15,18,19,20,21,22,23,24,25,26,27,28,29,30,31,32,33,34,36,37,38,39,41,42,43,44,16,17,35,40,45,46] (by kernel_rfl) ?_
    repeat (refine Side.intro (by repeat' (first | (show AllP _;first | exact trivial | refine AllP.app ?_ ?_ | refine AllP.appd ?_ ?_ | refine AllP.cons ?_ ?_) | with_reducible rfl | with_reducible assumption | omega | (simp only [Nat.zero_add,hV,rng,Ix.val,addQ_eq,addI,sz4,by4,sz5,by5,sz23,by23,sz95,by95,sz98,by98,sz127,by127,sz129,by129] <;> omega) | (simp only [Nat.zero_add,hV,rng,Ix.val,Int.toNat_natCast,mulE_eq,addQ_eq,addI,Option.getD_none,Option.getD_some,List.length_take,List.length_drop,List.length_append,List.length_set,List.length_replicate,sz4,by4,sz5,by5,sz23,by23,sz95,by95,sz98,by98,sz127,by127,sz129,by129, *] <;> omega) | (simp only [Ix.val];with_reducible assumption) | exact UInt8.toNat_lt _ | (apply Eq.trans;(with_reducible assumption);exact rfl) | exact rfl | exact fun _ _=>rfl)) ?_)
    refine Call.pure (fnThT ((rdsR C32 W H i).getD 4 0) (S32.getD 3 0) (S32.getD 4 0) (S32.getD 5 0) 32) rfl fc ?_
    intro v hv
    subst hv
    refine Grow.intro [] rfl rfl ?_
    repeat (refine Side.intro (by repeat' (first | (show AllP _;first | exact trivial | refine AllP.app ?_ ?_ | refine AllP.appd ?_ ?_ | refine AllP.cons ?_ ?_) | with_reducible rfl | with_reducible assumption | omega | (simp only [Nat.zero_add,hV,rng,Ix.val,addQ_eq,addI,sz4,by4,sz5,by5,sz23,by23,sz95,by95,sz98,by98,sz127,by127,sz129,by129] <;> omega) | (simp only [Nat.zero_add,hV,rng,Ix.val,Int.toNat_natCast,mulE_eq,addQ_eq,addI,Option.getD_none,Option.getD_some,List.length_take,List.length_drop,List.length_append,List.length_set,List.length_replicate,sz4,by4,sz5,by5,sz23,by23,sz95,by95,sz98,by98,sz127,by127,sz129,by129, *] <;> omega) | (simp only [Ix.val];with_reducible assumption) | exact UInt8.toNat_lt _ | (apply Eq.trans;(with_reducible assumption);exact rfl) | exact rfl | exact fun _ _=>rfl)) ?_)
    refine Draw.intro [[],[0],[0,1],[],[3],[3,4],[],[6],[6,7],[],[9],[9,10],[],[0,1,2,3,4,5,6,7,8,9,10,11,12],[],[14],[14,15],[],[17],[17,18],[14,15,16,17,18,19],[],[21],[21,22],[],[24],[24,25],[21,22,23,24,25,26],[14,15,16,17,18,19,20,21,22,23,24,25,26,27],[],[29],[29,30],[],[32],[32,33],[29,30,31,32,33,34],[14,15,16,17,18,19,20,21,22,23,24,25,26,27,28,29,30,31,32,33,34,35],[0,1,2,3,4,5,6,7,8,9,10,11,12,13,14,15,16,17,18,19,20,21,22,23,24,25,26,27,28,29,30,31,32,33,34,35,36],[0,1,2,3,4,5,6,7,8,9,10,11,12,13,14,15,16,17,18,19,20,21,22,23,24,25,26,27,28,29,30,31,32,33,34,35,36,37]] [0,1,2,3,4,5,6,7,8,9,10,11,12,14,15,16,17,18,19,20,21,22,23,24,25,26,27,28,29,30,31,32,33,34,35,36,13,37,38] (by kernel_rfl) ?_
    repeat (refine Side.intro (by repeat' (first | (show AllP _;first | exact trivial | refine AllP.app ?_ ?_ | refine AllP.appd ?_ ?_ | refine AllP.cons ?_ ?_) | with_reducible rfl | with_reducible assumption | omega | (simp only [Nat.zero_add,hV,rng,Ix.val,addQ_eq,addI,sz4,by4,sz5,by5,sz23,by23,sz95,by95,sz98,by98,sz127,by127,sz129,by129] <;> omega) | (simp only [Nat.zero_add,hV,rng,Ix.val,Int.toNat_natCast,mulE_eq,addQ_eq,addI,Option.getD_none,Option.getD_some,List.length_take,List.length_drop,List.length_append,List.length_set,List.length_replicate,sz4,by4,sz5,by5,sz23,by23,sz95,by95,sz98,by98,sz127,by127,sz129,by129, *] <;> omega) | (simp only [Ix.val];with_reducible assumption) | exact UInt8.toNat_lt _ | (apply Eq.trans;(with_reducible assumption);exact rfl) | exact rfl | exact fun _ _=>rfl)) ?_)
    refine Call.pure (fnThT ((rdsR C32 W H i).getD 0 0) (S32.getD 0 0) (S32.getD 1 0) (S32.getD 2 0) 32) rfl fc ?_
    intro v hv
    subst hv
    refine Grow.intro [] rfl rfl ?_
    repeat (refine Side.intro (by repeat' (first | (show AllP _;first | exact trivial | refine AllP.app ?_ ?_ | refine AllP.appd ?_ ?_ | refine AllP.cons ?_ ?_) | with_reducible rfl | with_reducible assumption | omega | (simp only [Nat.zero_add,hV,rng,Ix.val,addQ_eq,addI,sz4,by4,sz5,by5,sz23,by23,sz95,by95,sz98,by98,sz127,by127,sz129,by129] <;> omega) | (simp only [Nat.zero_add,hV,rng,Ix.val,Int.toNat_natCast,mulE_eq,addQ_eq,addI,Option.getD_none,Option.getD_some,List.length_take,List.length_drop,List.length_append,List.length_set,List.length_replicate,sz4,by4,sz5,by5,sz23,by23,sz95,by95,sz98,by98,sz127,by127,sz129,by129, *] <;> omega) | (simp only [Ix.val];with_reducible assumption) | exact UInt8.toNat_lt _ | (apply Eq.trans;(with_reducible assumption);exact rfl) | exact rfl | exact fun _ _=>rfl)) ?_)
    refine Draw.intro [[],[],[0,1],[],[0,1,2,3],[],[5],[5,6],[],[8],[8,9],[],[11],[11,12],[],[14],[14,15],[],[14,15,16,17],[],[14,15,16,17,18,19],[],[21],[21,22],[],[24],[24,25],[],[27],[27,28],[0,1,2,3,4,5,6,7,8,9,10,11,12,13,14,15,16,17,18,19,20,21,22,23,24,25,26,27,28,29],[0,1,2,3,4,5,6,7,8,9,10,11,12,13,14,15,16,17,18,19,20,21,22,23,24,25,26,27,28,29,30]] [0,1,2,3,4,5,6,7,8,9,10,11,12,13,14,15,16,17,18,19,20,21,22,23,24,25,26,27,28,29,30,31] (by kernel_rfl) ?_
    repeat (refine Side.intro (by repeat' (first | (show AllP _;first | exact trivial | refine AllP.app ?_ ?_ | refine AllP.appd ?_ ?_ | refine AllP.cons ?_ ?_) | with_reducible rfl | with_reducible assumption | omega | (simp only [Nat.zero_add,hV,rng,Ix.val,addQ_eq,addI,sz4,by4,sz5,by5,sz23,by23,sz95,by95,sz98,by98,sz127,by127,sz129,by129] <;> omega) | (simp only [Nat.zero_add,hV,rng,Ix.val,Int.toNat_natCast,mulE_eq,addQ_eq,addI,Option.getD_none,Option.getD_some,List.length_take,List.length_drop,List.length_append,List.length_set,List.length_replicate,sz4,by4,sz5,by5,sz23,by23,sz95,by95,sz98,by98,sz127,by127,sz129,by129, *] <;> omega) | (simp only [Ix.val];with_reducible assumption) | exact UInt8.toNat_lt _ | (apply Eq.trans;(with_reducible assumption);exact rfl) | exact rfl | exact fun _ _=>rfl)) ?_)
    refine ⟨(i + 1,8),⟨by show i + 1 ≤ 64;omega,Nat.le_refl _⟩,by show 64 - (i + 1) < 64 - i;omega,Le.intro [(202,(295,0,none))] rfl ?_ rfl ?_ rfl⟩
    ·exact fc
    ·have hrn2:=hrn
     rw [← hV] at hrn2
     unfold rdR oneR twoR at hrn2
     rw [cs,csz,cm] at hrn2
     repeat' (first | (show AllP _;first | exact trivial | refine AllP.app ?_ ?_ | refine AllP.appd ?_ ?_ | refine AllP.cons ?_ ?_) | with_reducible rfl | with_reducible assumption | omega | (simp only [rng,Ix.val,addQ_eq,addI,sz4,by4,sz5,by5,sz23,by23,sz95,by95,sz98,by98,sz127,by127,sz129,by129] <;> omega) | (simp only [rng,Ix.val,Int.toNat_natCast,mulE_eq,addQ_eq,addI,Option.getD_none,Option.getD_some,List.length_take,List.length_drop,List.length_append,List.length_set,List.length_replicate,sz4,by4,sz5,by5,sz23,by23,sz95,by95,sz98,by98,sz127,by127,sz129,by129, *] <;> omega) | (simp only [Ix.val];with_reducible assumption) | exact UInt8.toNat_lt _ | (apply Eq.trans;(with_reducible assumption);exact rfl) | exact rfl | exact fun _ _=>rfl)
     all_goals exact hrn2
   ·obtain rfl:i = 64:=by have hb6:¬ (i:Int) < 64:=hb6;omega
    obtain ⟨V,hV⟩:∃ x,rdsR C32 W H 64 = x:=⟨_,rfl⟩
    rw [hV] at hvl hnext
    refine Loop.intro (σ:=Nat) (fun i=>i ≤ 8)
     (fun i=>([(0,.slx 1000 0 0 m),(1,.u64 32),(5,.u64 (UInt64.ofNat 4294967295)),(6,.sl 300 0 0 8 8),(7,.sl 301 0 0 64 64),(8,.sl 302 0 0 12 12),(9,.i .i64 4),(10,.i .i64 64),(11,.sl 200 0 0 L c),(14,.i .i64 (A:Nat)),(18,.sl 202 0 0 8 cv),(22,.i .i64 i)],
      [(1000,.mem false 0 [(m,.a8 b)]),(300,.mem true 0 [(8,.a64 (hR C32 H V i))]),(301,.mem true 0 [(64,.a64 R32)]),(302,.mem true 0 [(12,.a64 S32)]),(200,.mem true (c - L) [(L,.a8 T)]),(202,.mem true (cv - 8) [(8,.a64 V)])])) (fun i=>8 - i) 0 (Nat.zero_le _) ?_ ?_
    ·have hV':=hV.symm
     clear hV
     refine Le.intro [] rfl ?_ rfl ?_ rfl
     ·exact fc
     ·have e0:hR C32 H V 0 = H:=rfl
      exact fc
    rintro i hi
    have hhl:=hR_length C32 V hbl i
    refine Branch.intro (fun hb7=>?_) (fun hb7=>?_)
    ·have hb7:(i:Int) < 8:=hb7
     refine Draw.intro [[],[],[],[],[2,3],[2,3,4],[],[],[6,7],[6,7,8],[2,3,4,5,6,7,8,9],[],[2,3,4,5,6,7,8,9,10,11],[0,1,2,3,4,5,6,7,8,9,10,11,12],[0,1,2,3,4,5,6,7,8,9,10,11,12,13]] [0,1,2,3,4,5,6,7,8,9,10,11,12,13,14] (by kernel_rfl) ?_
     repeat (refine Side.intro (by repeat' (first | (show AllP _;first | exact trivial | refine AllP.app ?_ ?_ | refine AllP.appd ?_ ?_ | refine AllP.cons ?_ ?_) | with_reducible rfl | with_reducible assumption | omega | (simp only [Nat.zero_add,rng,Ix.val,addQ_eq,addI,sz4,by4,sz5,by5,sz23,by23,sz95,by95,sz98,by98,sz127,by127,sz129,by129] <;> omega) | (simp only [Nat.zero_add,rng,Ix.val,Int.toNat_natCast,mulE_eq,addQ_eq,addI,Option.getD_none,Option.getD_some,List.length_take,List.length_drop,List.length_append,List.length_set,List.length_replicate,sz4,by4,sz5,by5,sz23,by23,sz95,by95,sz98,by98,sz127,by127,sz129,by129, *] <;> omega) | (simp only [Ix.val];with_reducible assumption) | exact UInt8.toNat_lt _ | (apply Eq.trans;(with_reducible assumption);exact rfl) | exact rfl | exact fun _ _=>rfl)) ?_)
     refine ⟨i + 1,by omega,by omega,Le.intro [] rfl fc rfl ?_ rfl⟩
     repeat' (first | (show AllP _;first | exact trivial | refine AllP.app ?_ ?_ | refine AllP.appd ?_ ?_ | refine AllP.cons ?_ ?_) | with_reducible rfl | with_reducible assumption | omega | (simp only [rng,Ix.val,addQ_eq,addI,sz4,by4,sz5,by5,sz23,by23,sz95,by95,sz98,by98,sz127,by127,sz129,by129] <;> omega) | (simp only [rng,Ix.val,Int.toNat_natCast,mulE_eq,addQ_eq,addI,Option.getD_none,Option.getD_some,List.length_take,List.length_drop,List.length_append,List.length_set,List.length_replicate,sz4,by4,sz5,by5,sz23,by23,sz95,by95,sz98,by98,sz127,by127,sz129,by129, *] <;> omega) | (simp only [Ix.val];with_reducible assumption) | exact UInt8.toNat_lt _ | (apply Eq.trans;(with_reducible assumption);exact rfl) | exact rfl | exact fun _ _=>rfl)
     all_goals simp only [Nat.zero_add,addQ_eq,Ix.val,Int.toNat_natCast,hR,cm]
     all_goals try rfl
    ·obtain rfl:i = 8:=by have hb7:¬ (i:Int) < 8:=hb7;omega
     repeat (refine sd ?_)
     refine ⟨q + 1,by omega,by omega,Le.intro [] rfl ?_ rfl ?_ rfl⟩
     ·exact fc
     ·repeat' (first | (show AllP _;first | exact trivial | refine AllP.app ?_ ?_ | refine AllP.appd ?_ ?_ | refine AllP.cons ?_ ?_) | with_reducible rfl | with_reducible assumption | omega | (simp only [rng,Ix.val,addQ_eq,addI,sz4,by4,sz5,by5,sz23,by23,sz95,by95,sz98,by98,sz127,by127,sz129,by129] <;> omega) | (simp only [rng,Ix.val,Int.toNat_natCast,mulE_eq,addQ_eq,addI,Option.getD_none,Option.getD_some,List.length_take,List.length_drop,List.length_append,List.length_set,List.length_replicate,sz4,by4,sz5,by5,sz23,by23,sz95,by95,sz98,by98,sz127,by127,sz129,by129, *] <;> omega) | (simp only [Ix.val];with_reducible assumption) | exact UInt8.toNat_lt _ | (apply Eq.trans;(with_reducible assumption);exact rfl) | exact rfl | exact fun _ _=>rfl)
      all_goals exact hnext
 ·obtain rfl:q = L / 64:=by have hb3:¬ ((64 * q:Nat):Int) < (L:Int):=hb3;omega
  obtain ⟨H,hH⟩:∃ x,blksR C32 F32 T (L / 64) = x:=⟨_,rfl⟩
  rw [hH] at hbl ⊢
  repeat (refine sd ?_)
  refine Loop.intro (σ:=Nat × Nat) (fun s=>s.1 ≤ 8∧4 * s.1 ≤ s.2)
   (fun s=>([(0,.slx 1000 0 0 m),(1,.u64 32),(5,.u64 (UInt64.ofNat 4294967295)),(6,.sl 300 0 0 8 8),(7,.sl 301 0 0 64 64),(8,.sl 302 0 0 12 12),(9,.i .i64 4),(10,.i .i64 64),(23,.sl 203 0 0 (4 * s.1) s.2),(24,.i .i64 s.1)],
    [(1000,.mem false 0 [(m,.a8 b)]),(300,.mem true 0 [(8,.a64 H)]),(301,.mem true 0 [(64,.a64 R32)]),(302,.mem true 0 [(12,.a64 S32)]),(203,.mem true (s.2 - 4 * s.1) [(4 * s.1,.a8 (outR 4 H s.1))])])) (fun s=>8 - s.1) (0,0) ⟨Nat.zero_le _,Nat.zero_le _⟩ ?_ ?_
  ·have hH':=hH.symm
   clear hH
   refine Le.ghost [.own 203 [(0,.a8 [])]] [(23,203)] [] rfl ⟨rfl,rfl,trivial⟩ rfl rfl ?_ rfl ?_ rfl
   ·exact fc
   ·exact fc
  rintro ⟨i,co⟩ ⟨hi,hco⟩
  have hi:i ≤ 8:=hi
  have hco:4 * i ≤ co:=hco
  have hol:=outR_length 4 H i
  refine Branch.intro (fun hb7=>?_) (fun hb7=>?_)
  ·have hb7:(i:Int) < 8:=hb7
   repeat (refine sd ?_)
   refine Loop.intro (σ:=Nat × Nat) (fun s=>s.1 ≤ 4∧4 * i + s.1 ≤ s.2)
    (fun s=>([(0,.slx 1000 0 0 m),(1,.u64 32),(5,.u64 (UInt64.ofNat 4294967295)),(6,.sl 300 0 0 8 8),(7,.sl 301 0 0 64 64),(8,.sl 302 0 0 12 12),(9,.i .i64 4),(10,.i .i64 64),(23,.sl 203 0 0 (4 * i + s.1) s.2),(24,.i .i64 i),(25,.i .i64 (3 - (s.1:Int)))],
     [(1000,.mem false 0 [(m,.a8 b)]),(300,.mem true 0 [(8,.a64 H)]),(301,.mem true 0 [(64,.a64 R32)]),(302,.mem true 0 [(12,.a64 S32)]),(203,.mem true (s.2 - (4 * i + s.1)) [(4 * i + s.1,.a8 (oR 4 (H.getD i 0) (outR 4 H i) s.1))])])) (fun s=>4 - s.1) (0,co) ⟨Nat.zero_le _,hco⟩ ?_ ?_
   ·refine Le.intro [] rfl ?_ rfl ?_ rfl
    ·exact fc
    ·have e0:oR 4 (H.getD i 0) (outR 4 H i) 0 = outR 4 H i:=rfl
     exact fc
   rintro ⟨j2,co⟩ ⟨hj2,hco⟩
   have hj2:j2 ≤ 4:=hj2
   have hco:4 * i + j2 ≤ co:=hco
   have hol2:=oR_length 4 (H.getD i 0) (outR 4 H i) j2
   rw [hol] at hol2
   refine Branch.intro (fun hb8=>?_) (fun hb8=>?_)
   ·have hb8:(3 - (j2:Int)) ≥ 0:=hb8
    repeat (refine sd ?_)
    intro c' hc'
    repeat (refine sd ?_)
    have e7:(UInt64.ofInt (8 * (3 - (j2:Int)))).toNat = 8 * (4 - 1 - j2):=by
     rw [show (8 * (3 - (j2:Int))) = ((8 * (4 - 1 - j2):Nat):Int) by omega];exact u64_small _ (by omega)
    refine ⟨(j2 + 1,c'),⟨by show j2 + 1 ≤ 4;omega,by show 4 * i + (j2 + 1) ≤ c';have:4 * i + j2 + 1 ≤ c':=hc';omega⟩,by show 4 - (j2 + 1) < 4 - j2;omega,Le.intro [(203,(335,0,none))] rfl ?_ rfl ?_ rfl⟩
    ·exact fc
    ·repeat' (first | (show AllP _;first | exact trivial | refine AllP.app ?_ ?_ | refine AllP.appd ?_ ?_ | refine AllP.cons ?_ ?_) | with_reducible rfl | with_reducible assumption | omega | (simp only [rng,Ix.val,addQ_eq,addI,sz4,by4,sz5,by5,sz23,by23,sz95,by95,sz98,by98,sz127,by127,sz129,by129] <;> omega) | (simp only [rng,Ix.val,Int.toNat_natCast,mulE_eq,addQ_eq,addI,Option.getD_none,Option.getD_some,List.length_take,List.length_drop,List.length_append,List.length_set,List.length_replicate,sz4,by4,sz5,by5,sz23,by23,sz95,by95,sz98,by98,sz127,by127,sz129,by129, *] <;> omega) | (simp only [Ix.val];with_reducible assumption) | exact UInt8.toNat_lt _ | (apply Eq.trans;(with_reducible assumption);exact rfl) | exact rfl | exact fun _ _=>rfl)
     all_goals (show oR 4 (H.getD i 0) (outR 4 H i) (j2 + 1) = oR 4 (H.getD i 0) (outR 4 H i) j2 ++ [(shr64 (H.getD i 0) (UInt64.ofInt (8 * (3 - (j2:Int)))).toNat).toUInt8])
     all_goals rw [e7]
     all_goals rfl
   ·obtain rfl:j2 = 4:=by have hb8:¬ (3 - (j2:Int)) ≥ 0:=hb8;omega
    repeat (refine sd ?_)
    have e1:4 * (i + 1) = 4 * i + 4:=by omega
    refine ⟨(i + 1,co),⟨by show i + 1 ≤ 8;omega,by show 4 * (i + 1) ≤ co;omega⟩,by show 8 - (i + 1) < 8 - i;omega,Le.intro [] rfl ?_ rfl ?_ rfl⟩
    ·exact fc
    ·have e2:outR 4 H (i + 1) = oR 4 (H.getD i 0) (outR 4 H i) 4:=rfl
     exact fc
  ·obtain rfl:i = 8:=by have hb7:¬ (i:Int) < 8:=hb7;omega
   obtain ⟨O,hO⟩:∃ x,outR 4 H 8 = x:=⟨_,rfl⟩
   rw [hO] at hol ⊢
   have hO':=hO.symm
   clear hO
   repeat (refine sd ?_)
   refine Ret.intro (.sl 1001 0 0 32 co) [(1000,.mem false 0 [(m,.a8 b)]),(1001,.mem true (co - 32) [(32,.a8 O)])] [(1001,(203,0,none))] rfl ?_ ⟨co,hco,rfl,rfl⟩ rfl ?_ rfl ?_ rfl
   ·exact fc
   ·exact fc
   ·exact fc
end Go.Proofs.Ytlbmkjckbfeejaa
