/- What the functions of the program compute. No condition. -/
import Derived.Test.YtimbdhpchlakfaaHwSha2ToSha4
set_option linter.unusedSimpArgs false
set_option linter.unusedVariables false
namespace Go.Proofs.Ytimbdhpchlakfaa
open Go Go.Sx
@[irreducible] def H32:List UInt32:=[UInt32.ofNat 1779033703,UInt32.ofNat 3144134277,UInt32.ofNat 1013904242,UInt32.ofNat 2773480762,UInt32.ofNat 1359893119,UInt32.ofNat 2600822924,UInt32.ofNat 528734635,UInt32.ofNat 1541459225]
theorem H32_eq:H32 = [UInt32.ofNat 1779033703,UInt32.ofNat 3144134277,UInt32.ofNat 1013904242,UInt32.ofNat 2773480762,UInt32.ofNat 1359893119,UInt32.ofNat 2600822924,UInt32.ofNat 528734635,UInt32.ofNat 1541459225]:=by unfold H32;rfl
theorem H32_length:H32.length = 8:=by rw [H32_eq];rfl
def blks32 (h:List UInt32) (b:List UInt8):Nat→List UInt32
 | 0=>h
 | q + 1=>blk32 (blks32 h b q) ((b.drop (64 * q)).take 64)
theorem blks32_length {h:List UInt32} (hh:h.length = 8) (b:List UInt8):∀ q,(blks32 h b q).length = 8
 | 0=>hh
 | q + 1=>blk32_length (blks32_length hh b q) _
def hashE (h:List UInt32) (r:SV) (n:UInt64):Ent:=.mem true 0 [(8,.a32 h),(1,r),(1,.u64 n)]
set_option maxRecDepth 100000 in
theorem fn40:Sx.Fn Γ.P 40 [] [] (fun v M=>v = .ptr 1001 0 none∧M = [(1001,hashE H32 .nsl 0)]):=by
 have hH:=H32_eq
 refine fn_of (Γ:=Γ) (fn:=Try.f40) rfl rfl rfl rfl ?_
 repeat (refine sd ?_)
 refine Ret.intro (.ptr 1001 0 none) [(1001,hashE H32 .nsl 0)] [(1001,(3,0,none))] rfl trivial ⟨rfl,rfl⟩ rfl ?_ rfl ?_ rfl
 ·exact fc
 ·exact fc
def putPost (h:List UInt32) (R b:List UInt8) (n:UInt64) (m:Nat) (old:Mm) (v:SV) (M:Mm):Prop:=
 ∃ c,R.length + m ≤ c∧v = .tup [] ∧
  M = [(1000,hashE (blks32 h (R ++ b) ((R.length + m) / 64)) (.sl 1005 0 (64 * ((R.length + m) / 64)) (R.length + m - 64 * ((R.length + m) / 64)) (c - 64 * ((R.length + m) / 64))) (n + UInt64.ofInt (m:Int)))] ++ old ++
   [(1002,.mem false 0 [(m,.a8 b)]),(1005,.mem true (c - (R.length + m)) [(R.length + m,.a8 (R ++ b))])]
set_option maxRecDepth 100000 in
set_option maxHeartbeats 1000000 in
theorem fnPutB (h:List UInt32) (l b R:List UInt8) (n:UInt64) (i r c0 sp m:Nat) (hh:h.length = 8) (hl:l.length = i + r) (hR:l.drop i = R) (hc0:c0 = r + sp) (hb:b.length = m) (hmax:r + m ≤ 100000000) :
  Sx.Fn Γ.P 41 [.ptr 1000 0 none,.slx 1002 0 0 m] [(1000,hashE h (.sl 1001 0 i r c0) n),(1001,.mem true sp [(i + r,.a8 l)]),(1002,.mem false 0 [(m,.a8 b)])] (putPost h R b n m [(1001,.dead)]):=by
 have hRl:R.length = r:=by rw [← hR,List.length_drop];omega
 refine fn_of (Γ:=Γ) (fn:=Try.f41) rfl rfl rfl rfl ?_
 obtain ⟨N,hN⟩:∃ x,R.length + m = x:=⟨_,rfl⟩
 obtain ⟨A,hA⟩:∃ x,R ++ b = x:=⟨_,rfl⟩
 have hAl:A.length = N:=by rw [← hA,List.length_append,hb,hN]
 have hA2:A = dropQ i l ++ List.take m (List.drop 0 b):=by rw [dropQ_eq,hR,List.drop_zero,List.take_of_length_le (by omega),hA]
 repeat (refine sd ?_)
 intro c hc
 have hc:R.length + m ≤ c:=by have:r + m ≤ c:=hc;omega
 repeat (refine sd ?_)
 refine Loop.intro (σ:=Nat) (fun q=>q ≤ N / 64)
  (fun q=>([(0,.ptr 1000 0 none)],
   [(1000,hashE (blks32 h A q) (.sl 200 0 (64 * q) (N - 64 * q) (c - 64 * q)) (n + UInt64.ofInt (m:Int))),(1001,.dead),(1002,.mem false 0 [(m,.a8 b)]),(200,.mem true (c - N) [(N,.a8 A)])])) (fun q=>N / 64 - q) 0 (Nat.zero_le _) ?_ ?_
 ·refine Le.intro [(200,(20,0,none))] rfl ?_ rfl ?_ rfl
  ·exact fc
  ·repeat' (first | (show AllP _;first | exact trivial | refine AllP.app ?_ ?_ | refine AllP.appd ?_ ?_ | refine AllP.cons ?_ ?_) | exact fd | fail)
   all_goals exact hA2
 rintro q hq
 have hbl:=blks32_length hh A q
 refine Branch.intro (fun hc1=>?_) (fun hc1=>?_)
 ·have hc1:((N - 64 * q:Nat):Int) ≥ 64:=hc1
  refine Draw.intro [[],[0],[0,1],[],[3],[3,4],[3,4,5],[3,4,5,6],[0,1,2,3,4,5,6,7]] [0,1,2,3,4,5,6,7,8] (by kernel_rfl) ?_
  repeat (refine sd ?_)
  have hB:=fn57 (blks32 h A q) ((A.drop (64 * q)).take 64) hbl (by simp only [List.length_take,List.length_drop];omega)
  refine Call.intro hB [(1000,(1000,0,none)),(1001,(200,0,some (64 * q)))] rfl ?_ rfl ?_ rfl ?_
  ·exact fc
  ·exact fc
  rintro v M' ⟨rfl,rfl⟩
  repeat (refine sd ?_)
  refine ⟨q + 1,by omega,by omega,Le.intro [] rfl fc rfl ?_ rfl⟩
  have e1:64 * q + 64 = 64 * (q + 1):=by omega
  have e2:N - 64 * q - 64 = N - 64 * (q + 1):=by omega
  have e3:c - 64 * q - 64 = c - 64 * (q + 1):=by omega
  exact fc
 ·obtain rfl:q = N / 64:=by have hc1:¬ ((N - 64 * q:Nat):Int) ≥ 64:=hc1;omega
  subst hA
  subst hN
  refine Ret.intro (.tup []) ([(1000,hashE (blks32 h (R ++ b) ((R.length + m) / 64)) (.sl 1005 0 (64 * ((R.length + m) / 64)) (R.length + m - 64 * ((R.length + m) / 64)) (c - 64 * ((R.length + m) / 64))) (n + UInt64.ofInt (m:Int)))] ++ [(1001,.dead)] ++
    [(1002,.mem false 0 [(m,.a8 b)]),(1005,.mem true (c - (R.length + m)) [(R.length + m,.a8 (R ++ b))])]) [(1005,(200,0,none))] rfl ?_ ⟨c,hc,rfl,rfl⟩ rfl ?_ rfl ?_ rfl
  ·exact fc
  ·exact fc
  ·exact fc
set_option maxRecDepth 100000 in
set_option maxHeartbeats 1000000 in
theorem fnPutA (h:List UInt32) (b:List UInt8) (n:UInt64) (m:Nat) (hh:h.length = 8) (hb:b.length = m) (hmax:m ≤ 100000000) :
  Sx.Fn Γ.P 41 [.ptr 1000 0 none,.slx 1002 0 0 m] [(1000,hashE h .nsl n),(1002,.mem false 0 [(m,.a8 b)])] (putPost h [] b n m []):=by
 refine fn_of (Γ:=Γ) (fn:=Try.f41) rfl rfl rfl rfl ?_
 obtain ⟨R,hR⟩:∃ x:List UInt8,[] = x:=⟨_,rfl⟩
 have hRl:R.length = 0:=by rw [← hR];rfl
 rw [hR]
 obtain ⟨N,hN⟩:∃ x,R.length + m = x:=⟨_,rfl⟩
 obtain ⟨A,hA⟩:∃ x,R ++ b = x:=⟨_,rfl⟩
 have hAl:A.length = N:=by rw [← hA,List.length_append,hb,hN]
 have hA2:A = [] ++ List.take m (List.drop 0 b):=by rw [List.drop_zero,List.take_of_length_le (by omega),hR,hA]
 repeat (refine sd ?_)
 intro c hc
 have hc:R.length + m ≤ c:=by have:0 + m ≤ c:=hc;omega
 repeat (refine sd ?_)
 refine Loop.intro (σ:=Nat) (fun q=>q ≤ N / 64)
  (fun q=>([(0,.ptr 1000 0 none)],
   [(1000,hashE (blks32 h A q) (.sl 200 0 (64 * q) (N - 64 * q) (c - 64 * q)) (n + UInt64.ofInt (m:Int))),(1002,.mem false 0 [(m,.a8 b)]),(200,.mem true (c - N) [(N,.a8 A)])])) (fun q=>N / 64 - q) 0 (Nat.zero_le _) ?_ ?_
 ·refine Le.intro [(200,(20,0,none))] rfl ?_ rfl ?_ rfl
  ·exact fc
  ·repeat' (first | (show AllP _;first | exact trivial | refine AllP.app ?_ ?_ | refine AllP.appd ?_ ?_ | refine AllP.cons ?_ ?_) | exact fd | fail)
   all_goals exact hA2
 rintro q hq
 have hbl:=blks32_length hh A q
 refine Branch.intro (fun hc1=>?_) (fun hc1=>?_)
 ·have hc1:((N - 64 * q:Nat):Int) ≥ 64:=hc1
  refine Draw.intro [[],[0],[0,1],[],[3],[3,4],[3,4,5],[3,4,5,6],[0,1,2,3,4,5,6,7]] [0,1,2,3,4,5,6,7,8] (by kernel_rfl) ?_
  repeat (refine sd ?_)
  have hB:=fn57 (blks32 h A q) ((A.drop (64 * q)).take 64) hbl (by simp only [List.length_take,List.length_drop];omega)
  refine Call.intro hB [(1000,(1000,0,none)),(1001,(200,0,some (64 * q)))] rfl ?_ rfl ?_ rfl ?_
  ·exact fc
  ·exact fc
  rintro v M' ⟨rfl,rfl⟩
  repeat (refine sd ?_)
  refine ⟨q + 1,by omega,by omega,Le.intro [] rfl fc rfl ?_ rfl⟩
  have e1:64 * q + 64 = 64 * (q + 1):=by omega
  have e2:N - 64 * q - 64 = N - 64 * (q + 1):=by omega
  have e3:c - 64 * q - 64 = c - 64 * (q + 1):=by omega
  exact fc
 ·obtain rfl:q = N / 64:=by have hc1:¬ ((N - 64 * q:Nat):Int) ≥ 64:=hc1;omega
  subst hA
  subst hN
  refine Ret.intro (.tup []) ([(1000,hashE (blks32 h (R ++ b) ((R.length + m) / 64)) (.sl 1005 0 (64 * ((R.length + m) / 64)) (R.length + m - 64 * ((R.length + m) / 64)) (c - 64 * ((R.length + m) / 64))) (n + UInt64.ofInt (m:Int)))] ++ [] ++
    [(1002,.mem false 0 [(m,.a8 b)]),(1005,.mem true (c - (R.length + m)) [(R.length + m,.a8 (R ++ b))])]) [(1005,(200,0,none))] rfl ?_ ⟨c,hc,rfl,rfl⟩ rfl ?_ rfl ?_ rfl
  ·exact fc
  ·exact fc
  ·exact fc
end Go.Proofs.Ytimbdhpchlakfaa
namespace Go.Proofs.Ytimbdhpchlakfaa
open Go Go.Sx
def zeroN (r:Nat):Nat:=(119 - r) % 64
def padT (R:List UInt8) (j:Nat):List UInt8:=R ++ [128] ++ List.replicate j 0
def lenT (t:List UInt8) (n:UInt64):Nat→List UInt8
 | 0=>t
 | k + 1=>lenT t n k ++ [(shr64 (shl64 n 3) (8 * (7 - k))).toUInt8]
def outW (w:List UInt32):Nat→List UInt8
 | 0=>List.replicate 32 0
 | i + 1=>(outW w i).set i (shr32 (w.getD (i / 4) 0) (24 - i % 4 * 8)).toUInt8
def tail32 (R:List UInt8) (n:UInt64):List UInt8:=lenT (padT R (zeroN R.length)) n 8
def sum32 (h:List UInt32) (R:List UInt8) (n:UInt64):List UInt8:=outW (blks32 h (tail32 R n) ((tail32 R n).length / 64)) 32
theorem padT_length (R:List UInt8) (j:Nat):(padT R j).length = R.length + 1 + j:=by simp [padT];omega
theorem padT_succ (R:List UInt8) (j:Nat):padT R (j + 1) = padT R j ++ [0]:=by
 unfold padT;rw [List.replicate_succ',List.append_assoc,List.append_assoc,List.append_assoc]
theorem lenT_length (t:List UInt8) (n:UInt64):∀ k,(lenT t n k).length = t.length + k
 | 0=>rfl
 | k + 1=>by simp only [lenT,List.length_append,lenT_length t n k,List.length_cons,List.length_nil];omega
theorem outW_length (w:List UInt32):∀ i,(outW w i).length = 32
 | 0=>List.length_replicate
 | i + 1=>by simp only [outW,List.length_set,outW_length w i]
theorem sum32_length (h:List UInt32) (R:List UInt8) (n:UInt64):(sum32 h R n).length = 32:=outW_length _ _
set_option maxRecDepth 100000 in
set_option maxHeartbeats 1000000 in
theorem fn42 (h:List UInt32) (l R:List UInt8) (n:UInt64) (t i r:Nat) (hh:h.length = 8) (hl:l.length = t) (hi:i + r ≤ t) (hR:(l.drop i).take r = R) (hr:r < 64) :
  Sx.Fn Γ.P 42 [.ptr 1000 0 none] [(1000,.mem false 0 [(8,.a32 h),(1,.slx 1001 0 i r),(1,.u64 n)]),(1001,.mem false 0 [(t,.a8 l)])]
   (fun v M=>v = .a8 (sum32 h R n)∧M = [(1000,.mem false 0 [(8,.a32 h),(1,.slx 1001 0 i r),(1,.u64 n)]),(1001,.mem false 0 [(t,.a8 l)])]):=by
 have hRl:R.length = r:=by rw [← hR,List.length_take,List.length_drop];omega
 refine fn_of (Γ:=Γ) (fn:=Try.f42) rfl rfl rfl rfl ?_
 repeat (refine sd ?_)
 refine Draw.intro [[],[],[1],[1,2],[1,2,3],[0,1,2,3,4],[],[0,1,2,3,4,5,6],[0,1,2,3,4,5,6,7]] [0,1,2,3,4,6,5,7,8] (by kernel_rfl) ?_
 repeat (refine sd ?_)
 intro c1 hc1
 repeat (refine sd ?_)
 refine Grow.intro [(17,.mem true (mulE (c1 - ((Ix.lit 0).val + r)) 1) [(mulE ((Ix.lit 0).val + r) 1,.a8 (dropQ 0 [] ++ List.take r (List.drop i l)))]),(12,.dead)] rfl rfl ?_
 repeat (refine sd ?_)
 intro c2 hc2
 repeat (refine sd ?_)
 refine Loop.intro (σ:=Nat × Nat) (fun s=>s.1 ≤ zeroN r∧r + 1 + s.1 ≤ s.2)
  (fun s=>([(0,.ptr 1000 0 none),(2,.ptr 2 0 none),(3,.ptr 3 0 none),(4,.sl 200 0 0 (r + 1 + s.1) s.2)],
   [(1000,.mem false 0 [(8,.a32 h),(1,.slx 1001 0 i r),(1,.u64 n)]),(1001,.mem false 0 [(t,.a8 l)]),(2,.mem true 0 [(32,.a8 (List.replicate 32 0))]),(3,.mem true 0 [(8,.a32 h)]),(200,.mem true (s.2 - (r + 1 + s.1)) [(r + 1 + s.1,.a8 (padT R s.1))])])) (fun s=>zeroN r - s.1) (0,c2) ⟨Nat.zero_le _,by have:(Ix.lit 0).val + r + 1 ≤ c2:=hc2;show r + 1 + 0 ≤ c2;have e:(Ix.lit 0).val = 0:=rfl;omega⟩ ?_ ?_
 ·refine Le.intro [(200,(19,0,none))] rfl ?_ rfl ?_ rfl
  ·exact fc
  ·repeat' (first | (show AllP _;first | exact trivial | refine AllP.app ?_ ?_ | refine AllP.appd ?_ ?_ | refine AllP.cons ?_ ?_) | exact fd | fail)
   all_goals (show padT R 0 = [] ++ (List.take r (List.drop i l)) ++ List.take 1 (List.drop 0 [128]);rw [hR];simp [padT])
 rintro ⟨j,c⟩ ⟨hj,hc⟩
 have hj:j ≤ zeroN r:=hj
 have hc:r + 1 + j ≤ c:=hc
 have hpl:=padT_length R j
 rw [hRl] at hpl
 have hz:zeroN r = (119 - r) % 64:=rfl
 repeat (refine sd ?_)
 refine Branch.intro (fun hb1=>?_) (fun hb1=>?_)
 ·have hb1:¬ ((r + 1 + j:Nat):Int) % 64 = 56:=hb1
  have hlt:j < zeroN r:=by omega
  repeat (refine sd ?_)
  intro c' hc'
  repeat (refine sd ?_)
  have hp1:=padT_succ R j
  refine ⟨(j + 1,c'),⟨hlt,by show r + 1 + (j + 1) ≤ c';have:r + 1 + j + 1 ≤ c':=hc';omega⟩,by show zeroN r - (j + 1) < zeroN r - j;omega,Le.intro [(200,(26,0,none))] rfl ?_ rfl ?_ rfl⟩
  ·exact fc
  ·exact fc
 ·have hb1:¬ ¬ ((r + 1 + j:Nat):Int) % 64 = 56:=hb1
  obtain rfl:j = zeroN r:=by omega
  obtain ⟨T0,hT0⟩:∃ x,padT R (zeroN r) = x:=⟨_,rfl⟩
  rw [hT0] at hpl
  obtain ⟨L0,hL0⟩:∃ x,r + 1 + zeroN r = x:=⟨_,rfl⟩
  rw [hL0] at hpl hc
  have hL1:L0 = 56 ∨ L0 = 120:=by omega
  have hT0':=hT0.symm
  have hL0':=hL0.symm
  have htail:tail32 R n = lenT T0 n 8:=by unfold tail32;rw [hRl,hT0]
  refine Loop.intro (σ:=Nat × Nat) (fun s=>s.1 ≤ 8∧L0 + s.1 ≤ s.2)
   (fun s=>([(0,.ptr 1000 0 none),(2,.ptr 2 0 none),(3,.ptr 3 0 none),(4,.sl 200 0 0 (L0 + s.1) s.2),(5,.i .i64 (7 - (s.1:Int)))],
    [(1000,.mem false 0 [(8,.a32 h),(1,.slx 1001 0 i r),(1,.u64 n)]),(1001,.mem false 0 [(t,.a8 l)]),(2,.mem true 0 [(32,.a8 (List.replicate 32 0))]),(3,.mem true 0 [(8,.a32 h)]),(200,.mem true (s.2 - (L0 + s.1)) [(L0 + s.1,.a8 (lenT T0 n s.1))])])) (fun s=>8 - s.1) (0,c) ⟨Nat.zero_le _,hc⟩ ?_ ?_
  ·clear hT0 hL0
   refine Le.intro [] rfl ?_ rfl ?_ rfl
   ·exact fc
   ·have e0:lenT T0 n 0 = T0:=rfl
    repeat' (first | (show AllP _;first | exact trivial | refine AllP.app ?_ ?_ | refine AllP.appd ?_ ?_ | refine AllP.cons ?_ ?_) | exact fd | fail)
    all_goals exact hT0'
  clear hT0' hL0'
  rintro ⟨k,c⟩ ⟨hk,hc⟩
  have hk:k ≤ 8:=hk
  have hc:L0 + k ≤ c:=hc
  have hll:=lenT_length T0 n k
  rw [hpl] at hll
  refine Branch.intro (fun hb2=>?_) (fun hb2=>?_)
  ·have hb2:(7 - (k:Int)) ≥ 0:=hb2
   repeat (refine sd ?_)
   intro c' hc'
   repeat (refine sd ?_)
   have e7:(8 * (7 - (k:Int))).toNat = 8 * (7 - k):=by omega
   refine ⟨(k + 1,c'),⟨by show k + 1 ≤ 8;omega,by show L0 + (k + 1) ≤ c';have:L0 + k + 1 ≤ c':=hc';omega⟩,by show 8 - (k + 1) < 8 - k;omega,Le.intro [(200,(42,0,none))] rfl ?_ rfl ?_ rfl⟩
   ·exact fc
   ·repeat' (first | (show AllP _;first | exact trivial | refine AllP.app ?_ ?_ | refine AllP.appd ?_ ?_ | refine AllP.cons ?_ ?_) | exact fd | fail)
    show lenT T0 n (k + 1) = lenT T0 n k ++ [(shr64 (shl64 n 3) (8 * (7 - (k:Int))).toNat).toUInt8]
    rw [e7]
    rfl
  ·obtain rfl:k = 8:=by have hb2:¬ (7 - (k:Int)) ≥ 0:=hb2;omega
   obtain ⟨T,hT⟩:∃ x,lenT T0 n 8 = x:=⟨_,rfl⟩
   obtain ⟨L,hL⟩:∃ x,L0 + 8 = x:=⟨_,rfl⟩
   rw [hT,hL] at hll
   rw [hL] at hc
   rw [hT] at htail
   have hT':=hT.symm
   have hsum:sum32 h R n = outW (blks32 h T (L / 64)) 32:=by unfold sum32;rw [htail,hll]
   refine Loop.intro (σ:=Nat) (fun q=>q ≤ L / 64)
    (fun q=>([(2,.ptr 2 0 none),(3,.ptr 3 0 none),(4,.sl 200 0 (64 * q) (L - 64 * q) (c - 64 * q))],
     [(1000,.mem false 0 [(8,.a32 h),(1,.slx 1001 0 i r),(1,.u64 n)]),(1001,.mem false 0 [(t,.a8 l)]),(2,.mem true 0 [(32,.a8 (List.replicate 32 0))]),(3,.mem true 0 [(8,.a32 (blks32 h T q))]),(200,.mem true (c - L) [(L,.a8 T)])])) (fun q=>L / 64 - q) 0 (Nat.zero_le _) ?_ ?_
   ·clear hT
    refine Le.intro [] rfl ?_ rfl ?_ rfl
    ·exact fc
    ·have e0:blks32 h T 0 = h:=rfl
     repeat' (first | (show AllP _;first | exact trivial | refine AllP.app ?_ ?_ | refine AllP.appd ?_ ?_ | refine AllP.cons ?_ ?_) | exact fd | fail)
     all_goals exact hT'
   clear hT'
   rintro q hq
   have hbl:=blks32_length hh T q
   refine Branch.intro (fun hb3=>?_) (fun hb3=>?_)
   ·have hb3:((L - 64 * q:Nat):Int) > 0:=hb3
    have hq64:64 * q + 64 ≤ L:=by omega
    repeat (refine sd ?_)
    have hB:=fn57 (blks32 h T q) ((T.drop (64 * q)).take 64) hbl (by simp only [List.length_take,List.length_drop];omega)
    refine Call.intro hB [(1000,(3,0,none)),(1001,(200,0,some (64 * q)))] rfl ?_ rfl ?_ rfl ?_
    ·exact fc
    ·exact fc
    rintro v M' ⟨rfl,rfl⟩
    repeat (refine sd ?_)
    have e1:64 * q + 64 = 64 * (q + 1):=by omega
    have e2:L - 64 * q - 64 = L - 64 * (q + 1):=by omega
    have e3:c - 64 * q - 64 = c - 64 * (q + 1):=by omega
    refine ⟨q + 1,by omega,by omega,Le.intro [] rfl ?_ rfl ?_ rfl⟩
    ·exact fc
    ·exact fc
   ·obtain rfl:q = L / 64:=by have hb3:¬ ((L - 64 * q:Nat):Int) > 0:=hb3;omega
    obtain ⟨W,hW⟩:∃ x,blks32 h T (L / 64) = x:=⟨_,rfl⟩
    rw [hW] at hbl hsum
    have hW':=hW.symm
    repeat (refine sd ?_)
    refine Loop.intro (σ:=Nat) (fun j=>j ≤ 32)
     (fun j=>([(2,.ptr 2 0 none),(3,.ptr 3 0 none),(6,.ptr 6 0 none),(51,.i .i64 j)],
      [(1000,.mem false 0 [(8,.a32 h),(1,.slx 1001 0 i r),(1,.u64 n)]),(1001,.mem false 0 [(t,.a8 l)]),(2,.mem true 0 [(32,.a8 (List.replicate 32 0))]),(3,.mem true 0 [(8,.a32 W)]),(6,.mem true 0 [(32,.a8 (outW W j))])])) (fun j=>32 - j) 0 (Nat.zero_le _) ?_ ?_
    ·clear hW
     refine Le.intro [] rfl ?_ rfl ?_ rfl
     ·exact fc
     ·exact fc
    clear hW'
    rintro j hj
    have hol:=outW_length W j
    refine Branch.intro (fun hb4=>?_) (fun hb4=>?_)
    ·have hb4:(j:Int) < 32:=hb4
     have ed:((j:Int) / 4).toNat = j / 4:=by omega
     have es:(24 - (j:Int) % 4 * 8).toNat = 24 - j % 4 * 8:=by omega
     repeat (refine sd ?_)
     refine ⟨j + 1,by omega,by omega,Le.intro [] rfl fc rfl ?_ rfl⟩
     repeat' (first | (show AllP _;first | exact trivial | refine AllP.app ?_ ?_ | refine AllP.appd ?_ ?_ | refine AllP.cons ?_ ?_) | exact fd | fail)
     all_goals simp only [ed,es,Nat.zero_add,addQ_eq,Ix.val,Int.toNat_natCast,outW]
    ·obtain rfl:j = 32:=by have hb4:¬ (j:Int) < 32:=hb4;omega
     repeat (refine sd ?_)
     rw [hsum]
     refine Ret.intro (.a8 (outW W 32)) [(1000,.mem false 0 [(8,.a32 h),(1,.slx 1001 0 i r),(1,.u64 n)]),(1001,.mem false 0 [(t,.a8 l)])] [] rfl ?_ ⟨rfl,rfl⟩ rfl ?_ rfl ?_ rfl
     ·exact fc
     ·exact fc
     ·exact fc
end Go.Proofs.Ytimbdhpchlakfaa
namespace Go.Proofs.Ytimbdhpchlakfaa
open Go Go.Sx
@[irreducible] def sha256 (b:List UInt8):List UInt8:=sum32 (blks32 H32 b (b.length / 64)) (b.drop (64 * (b.length / 64))) (0 + UInt64.ofInt (b.length:Int))
theorem sha256_eq (b:List UInt8):sha256 b = sum32 (blks32 H32 b (b.length / 64)) (b.drop (64 * (b.length / 64))) (0 + UInt64.ofInt (b.length:Int)):=by unfold sha256;rfl
theorem sha256_length (b:List UInt8):(sha256 b).length = 32:=by rw [sha256_eq];exact sum32_length _ _ _
theorem fnPut0 (h:List UInt32) (b:List UInt8) (n:UInt64) (m:Nat) (hh:h.length = 8) (hb:b.length = m) (hmax:m ≤ 100000000) :
  Sx.Fn Γ.P 41 [.ptr 1000 0 none,.slx 1002 0 0 m] [(1000,hashE h .nsl n),(1002,.mem false 0 [(m,.a8 b)])]
   (fun v M=>∃ c,m ≤ c∧v = .tup []∧M = [(1000,hashE (blks32 h b (m / 64)) (.sl 1005 0 (64 * (m / 64)) (m - 64 * (m / 64)) (c - 64 * (m / 64))) (n + UInt64.ofInt (m:Int))),
    (1002,.mem false 0 [(m,.a8 b)]),(1005,.mem true (c - m) [(m,.a8 b)])]):=by
 refine Fn.mono (fnPutA h b n m hh hb hmax) ?_
 rintro v M ⟨c,hc,hv,hM⟩
 have hz:([]:List UInt8).length + m = m:=Nat.zero_add m
 rw [hz,List.nil_append] at hM
 rw [hz] at hc
 exact ⟨c,hc,hv,hM⟩
set_option maxRecDepth 100000 in
set_option maxHeartbeats 400000 in
theorem fn39 (b:List UInt8) (m:Nat) (hb:b.length = m) (hmax:m ≤ 100000000):Sx.Fn Γ.P 39 [.slx 1002 0 0 m] [(1002,.mem false 0 [(m,.a8 b)])]
  (fun v M=>v = .a8 (sha256 b)∧M = [(1002,.mem false 0 [(m,.a8 b)])]):=by
 refine fn_of (Γ:=Γ) (fn:=Try.f39) rfl rfl rfl rfl ?_
 have hP:=fnPut0 H32 b 0 m H32_length hb hmax
 have hS:=fn42 (blks32 H32 b (m / 64)) b (b.drop (64 * (m / 64))) (0 + UInt64.ofInt (m:Int)) m (64 * (m / 64)) (m - 64 * (m / 64)) (blks32_length H32_length _ _) hb (by omega) (by rw [List.take_of_length_le (by rw [List.length_drop];omega)]) (by omega)
 repeat (refine sd ?_)
 refine Call.intro fn40 [(1001,(1001,0,none))] rfl trivial rfl trivial rfl ?_
 rintro v M' ⟨rfl,rfl⟩
 repeat (refine sd ?_)
 refine Call.intro hP [(1000,(1001,0,none)),(1002,(1002,0,none)),(1005,(1005,0,none))] rfl fc rfl fc rfl ?_
 rintro v M' ⟨c,hc,rfl,rfl⟩
 repeat (refine sd ?_)
 have hsl:=sum32_length (blks32 H32 b (m / 64)) (b.drop (64 * (m / 64))) (0 + UInt64.ofInt (m:Int))
 refine Call.intro hS [(1000,(1001,0,none)),(1001,(1005,0,none))] rfl ?_ rfl ?_ rfl ?_
 ·exact fc
 ·exact fc
 rintro v M' ⟨rfl,rfl⟩
 repeat (refine sd ?_)
 refine Ret.intro (.a8 (sha256 b)) [(1002,.mem false 0 [(m,.a8 b)])] [] rfl ?_ ⟨rfl,rfl⟩ rfl ?_ rfl ?_ rfl
 ·exact fc
 ·have hs:sha256 b = sum32 (blks32 H32 b (m / 64)) (b.drop (64 * (m / 64))) (0 + UInt64.ofInt (m:Int)):=by rw [sha256_eq,hb]
  exact fc
 ·exact fc
end Go.Proofs.Ytimbdhpchlakfaa
namespace Go.Proofs.Ytimbdhpchlakfaa
open Go Go.Sx
end Go.Proofs.Ytimbdhpchlakfaa
