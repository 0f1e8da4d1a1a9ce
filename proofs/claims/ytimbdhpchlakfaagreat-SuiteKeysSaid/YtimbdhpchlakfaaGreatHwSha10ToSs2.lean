/- Walks. -/
import Derived.Test.YtimbdhpchlakfaaGreatHwCbc4ToSha9
import Derived.Test.YtimbdhpchlakfaaGreatHwRa2ToCbc2
import Derived.Test.YtimbdhpchlakfaaGreatHwTm6ToRa1
import Derived.Test.YtimbdhpchlakfaaGreatHwFe5ToTm5
set_option linter.unusedSimpArgs false
set_option linter.unusedVariables false
set_option maxHeartbeats 4000000
open UInt64 (ofInt ofNat)
open List (take replicate drop_zero take_of_length_le length_set getD_eq_getElem?_getD length_replicate nil_append drop_append)
open Nat (zero_le zero_add le_refl)
open Option (getD_none getD_some)
open UInt8 (toNat_lt)
set_option maxRecDepth 100000
namespace Go.Proofs.YtimbdhpchlakfaaGreat
open Go Go.Sx
structure Cf where
 sz:UInt64
 mask:UInt64
 s:List UInt64
 k:List UInt64
 n:Nat
 wd:Nat
def wR (c:Cf) (all:List UInt8) (at_:Nat) (w:List UInt64) (i:Nat):Nat->List UInt64
 | 0=>w
 | j + 1=>(wR c all at_ w i j).set i ((wR c all at_ w i j).getD i 0 * 256 + (all.getD (at_ + c.wd * i + j) 0).toUInt64)
def wN (c:Cf) (w:List UInt64) (i:Nat):UInt64:=
 (w.getD (i - 16) 0 + thS (w.getD (i - 15) 0) (c.s.getD 6 0) (c.s.getD 7 0) (c.s.getD 8 0) c.sz + w.getD (i - 7) 0 + thS (w.getD (i - 2) 0) (c.s.getD 9 0) (c.s.getD 10 0) (c.s.getD 11 0) c.sz) &&& c.mask
def wRs (c:Cf) (all:List UInt8) (at_:Nat):Nat->List UInt64
 | 0=>replicate c.n 0
 | i + 1=>if 16 <= i then (wRs c all at_ i).set i (wN c (wRs c all at_ i) i) else wR c all at_ (wRs c all at_ i) i c.wd
def aRN (c:Cf) (v:List UInt64) (k w:UInt64):UInt64:=
 v.getD 7 0 + thT (v.getD 4 0) (c.s.getD 3 0) (c.s.getD 4 0) (c.s.getD 5 0) c.sz + (v.getD 4 0 &&& v.getD 5 0 ^^^ (c.mask ^^^ v.getD 4 0) &&& v.getD 6 0) + k + w
def aR3 (c:Cf) (v:List UInt64):UInt64:=
 thT (v.getD 0 0) (c.s.getD 0 0) (c.s.getD 1 0) (c.s.getD 2 0) c.sz + (v.getD 0 0 &&& v.getD 1 0 ^^^ v.getD 0 0 &&& v.getD 2 0 ^^^ v.getD 1 0 &&& v.getD 2 0)
def rdR (c:Cf) (v:List UInt64) (k w:UInt64):List UInt64:=
 [(aRN c v k w + aR3 c v) &&& c.mask,v.getD 0 0,v.getD 1 0,v.getD 2 0,(v.getD 3 0 + aRN c v k w) &&& c.mask,v.getD 4 0,v.getD 5 0,v.getD 6 0]
def u2 (c:Cf) (w v:List UInt64):Nat->List UInt64
 | 0=>v
 | i + 1=>rdR c (u2 c w v i) (c.k.getD i 0) (w.getD i 0)
def hR (c:Cf) (h v:List UInt64):Nat->List UInt64
 | 0=>h
 | i + 1=>(hR c h v i).set i (((hR c h v i).getD i 0 + v.getD i 0) &&& c.mask)
def aNT (c:Cf) (h:List UInt64) (all:List UInt8) (at_:Nat):List UInt64:=hR c h (u2 c (wRs c all at_ c.n) h c.n) 8
def mA (c:Cf) (h:List UInt64) (all:List UInt8):Nat->List UInt64
 | 0=>h
 | q + 1=>aNT c (mA c h all q) all (16 * c.wd * q)
def rW (wd2:Nat) (t:List UInt8) (n:UInt64):Nat->List UInt8
 | 0=>t
 | k + 1=>rW wd2 t n k ++ [if wd2 - 1 - k < 8 then (aG (aV n 3) (8 * (wd2 - 1 - k))).toUInt8 else 0]
def oR (wd:Nat) (x:UInt64) (out:List UInt8):Nat->List UInt8
 | 0=>out
 | j + 1=>oR wd x out j ++ [(aG x (8 * (wd - 1 - j))).toUInt8]
def uN (wd:Nat) (h:List UInt64):Nat->List UInt8
 | 0=>[]
 | i + 1=>oR wd (h.getD i 0) (uN wd h i) wd
def aNV (wd:Nat) (b:List UInt8) (z:Nat):List UInt8:=rW (2 * wd) (pL b z) (ofInt (b.length:Int)) (2 * wd)
def tV (c:Cf) (h:List UInt64) (b:List UInt8) (z:Nat):List UInt8:=uN c.wd (mA c h (aNV c.wd b z) ((aNV c.wd b z).length / (16 * c.wd))) 8
theorem nB (c:Cf) (all:List UInt8) (a:Nat) (w:List UInt64) (i:Nat):∀ j,(wR c all a w i j).length = w.length
 | 0=>rfl
 | j + 1=>by simp only [wR,length_set,nB c all a w i j]
theorem kR (c:Cf) (all:List UInt8) (a:Nat):∀ i,(wRs c all a i).length = c.n
 | 0=>length_replicate
 | i + 1=>by
  simp only [wRs]
  split
  ·rw [length_set,kR c all a i]
  ·rw [nB,kR c all a i]
theorem u1 (c:Cf) (w:List UInt64) {v:List UInt64} (h:v.length = 8):∀ i,(u2 c w v i).length = 8
 | 0=>h
 | i + 1=>rfl
theorem oT (c:Cf) {h:List UInt64} (v:List UInt64) (hh:h.length = 8):∀ i,(hR c h v i).length = 8
 | 0=>hh
 | i + 1=>by simp only [hR,length_set,oT c v hh i]
theorem mY (c:Cf) {h:List UInt64} (all:List UInt8) (hh:h.length = 8):∀ q,(mA c h all q).length = 8
 | 0=>hh
 | q + 1=>oT c _ (mY c all hh q) 8
theorem oD (wd2:Nat) (t:List UInt8) (n:UInt64):∀ k,(rW wd2 t n k).length = t.length + k
 | 0=>rfl
 | k + 1=>by simp only [rW,zlA,oD wd2 t n k,List.length_cons,List.length_nil];omega
theorem nj (wd:Nat) (x:UInt64) (out:List UInt8):∀ j,(oR wd x out j).length = out.length + j
 | 0=>rfl
 | j + 1=>by simp only [oR,zlA,nj wd x out j,List.length_cons,List.length_nil];omega
theorem jP (wd:Nat) (h:List UInt64):∀ i,(uN wd h i).length = wd * i
 | 0=>rfl
 | i + 1=>by simp only [uN,nj,jP wd h i,Nat.mul_succ]
theorem sI (i:Nat) (h:i < 100000):(ofInt (i:Int)).toNat = i:=by
 simp [ofInt]
 omega
@[irreducible] def C64:Cf:=⟨64,ofNat 18446744073709551615,S64,R64,80,8⟩
theorem iR:C64 = ⟨64,ofNat 18446744073709551615,S64,R64,80,8⟩:=by unfold C64;rfl
theorem aH0 (b:List UInt8) (m:Nat) (hb:b.length = m) (hmax:m <= 100000000):Sx.Fn Γ.P 158 [.slx 1000 0 0 m,.u64 64] [(1000,.mem false 0 [(m,.a8 b)])]
  (fun v M=>∃ c,64 <= c/\v = .sl 1001 0 0 64 c/\M = [(1000,.mem false 0 [(m,.a8 b)]),(1001,.mem true (c - 64) [(64,.a8 (tV C64 F64 b (av (m % 128))))])]):=by
 have hS:=aFP
 have hC:=iR
 have hFl:=aAR
 have hKl:=aAN
 have hSl:=aAM
 have cs:C64.s = S64:=by rw [hC]
 have ck:C64.k = R64:=by rw [hC]
 have csz:C64.sz = 64:=by rw [hC]
 have cm:C64.mask = (ofNat 18446744073709551615):=by rw [hC]
 have cn:C64.n = 80:=by rw [hC]
 have cw:C64.wd = 8:=by rw [hC]
 clear hC
 have hw4:(64 / ofNat 8:UInt64).toNat = 8:=by decide
 have hn8:ofNat 8 ≠ 0:=by decide
 refine aF (Γ:=Γ) (fn:=Tryz.f158) rfl rfl rfl rfl ?_
 refine Call.intro aTU [(1001,(1001,0,none))] rfl trivial rfl trivial rfl ?_
 rintro _ _ ⟨rfl,rfl⟩
 refine Call.intro aTT [(1001,(1002,0,none))] rfl trivial rfl trivial rfl ?_
 rintro _ _ ⟨rfl,rfl⟩
 repeat refine sd ?_
 refine zB.intro (fun hn=>absurd hn (by decide)) (fun _=>?_)
 repeat refine sdL ?_
 intro c1 hc1
 repeat refine sdL ?_
 intro c2 hc2
 repeat refine sdL ?_
 have ht0:take m (List.drop 0 b) = b:=by rw [drop_zero,take_of_length_le (by omega)]
 obtain ⟨Z,hZ⟩:∃ x,av (m % 128) = x:=⟨_,rfl⟩
 have hz:Z = (239 - m % 128) % 128:=by rw [<- hZ];rfl
 refine ac.intro (σ:=Nat × Nat) (fun s=>s.1 <= Z/\m + 1 + s.1 <= s.2)
  (fun s=>([(0,.slx 1000 0 0 m),(1,.u64 64),(5,.u64 (ofNat 18446744073709551615)),(6,.sl 300 0 0 8 8),(7,.sl 301 0 0 80 80),(8,.sl 302 0 0 12 12),(9,.i .i64 8),(10,.i .i64 128),(11,.sl 200 0 0 (m + 1 + s.1) s.2)],
   [(1000,.mem false 0 [(m,.a8 b)]),(300,.mem true 0 [(8,.a64 F64)]),(301,.mem true 0 [(80,.a64 R64)]),(302,.mem true 0 [(12,.a64 S64)]),(200,.mem true (s.2 - (m + 1 + s.1)) [(m + 1 + s.1,.a8 (pL b s.1))])])) (fun s=>Z - s.1) (0,c2) ⟨zero_le _,by have:0 + m + 1 <= c2:=hc2;show m + 1 + 0 <= c2;omega⟩ ?_ ?_
 ·refine Le.intro [(300,(1001,0,none)),(301,(1002,0,none)),(302,(28,0,none)),(200,(44,0,none))] rfl ?_ rfl ?_ rfl
  ·exact fc
  ·repeat' first|exact trivial|refine zA.app ?_ ?_|refine zA.zd ?_ ?_|refine zA.cons ?_ ?_|exact fc|fail
   all_goals first | exact hS | (show pL b 0 = [] ++ take m (List.drop 0 b) ++ [128];rw [ht0];simp [pL])
 clear hS
 rintro ⟨j,c⟩ ⟨hj,hc⟩
 have hj:j <= Z:=hj
 have hc:m + 1 + j <= c:=hc
 have hpl:=gG b j
 rw [hb] at hpl
 repeat refine sd ?_
 refine zB.intro (fun hb1=>?_) (fun hb1=>?_)
 ·have hb1:¬ ((m + 1 + j:Nat):Int) % 128 = 128 - 2 * 8:=hb1
  have hlt:j < Z:=by omega
  repeat refine sd ?_
  intro c' hc'
  repeat refine sd ?_
  have hp1:=nd b j
  refine ⟨(j + 1,c'),⟨hlt,by show m + 1 + (j + 1) <= c';have:m + 1 + j + 1 <= c':=hc';omega⟩,by show Z - (j + 1) < Z - j;omega,Le.intro [(200,(56,0,none))] rfl fc rfl fc rfl⟩
 have hb1:¬ ¬ ((m + 1 + j:Nat):Int) % 128 = 128 - 2 * 8:=hb1
 obtain rfl:j = Z:=by omega
 obtain ⟨T0,hT0⟩:∃ x,pL b j = x:=⟨_,rfl⟩
 rw [hT0] at hpl
 obtain ⟨L0,hL0⟩:∃ x,m + 1 + j = x:=⟨_,rfl⟩
 rw [hL0] at hpl hc
 obtain ⟨n,hn⟩:∃ x,ofInt (m:Int) = x:=⟨_,rfl⟩
 have hall0:aNV 8 b j = rW 16 T0 n 16:=by unfold aNV;rw [hT0,hb,hn]
 repeat refine sd ?_
 refine ac.intro (σ:=Nat × Nat) (fun s=>s.1 <= 16/\L0 + s.1 <= s.2)
  (fun s=>([(0,.slx 1000 0 0 m),(1,.u64 64),(5,.u64 (ofNat 18446744073709551615)),(6,.sl 300 0 0 8 8),(7,.sl 301 0 0 80 80),(8,.sl 302 0 0 12 12),(9,.i .i64 8),(10,.i .i64 128),(11,.sl 200 0 0 (L0 + s.1) s.2),(12,.i .i64 (15 - (s.1:Int)))],
   [(1000,.mem false 0 [(m,.a8 b)]),(300,.mem true 0 [(8,.a64 F64)]),(301,.mem true 0 [(80,.a64 R64)]),(302,.mem true 0 [(12,.a64 S64)]),(200,.mem true (s.2 - (L0 + s.1)) [(L0 + s.1,.a8 (rW 16 T0 n s.1))])])) (fun s=>16 - s.1) (0,c) ⟨zero_le _,hc⟩ ?_ ?_
 ·have hT0':=hT0.symm
  have hL0':=hL0.symm
  clear hT0 hL0
  refine Le.intro [] rfl ?_ rfl ?_ rfl
  ·exact fc
  ·have e0:rW 16 T0 n 0 = T0:=rfl
   repeat' first|exact trivial|refine zA.app ?_ ?_|refine zA.zd ?_ ?_|refine zA.cons ?_ ?_|exact fc|fail
   all_goals exact hT0'
 rintro ⟨k,c⟩ ⟨hk,hc⟩
 have hk:k <= 16:=hk
 have hc:L0 + k <= c:=hc
 have hll:=oD 16 T0 n k
 rw [hpl] at hll
 refine zB.intro (fun hb2=>?_) (fun hb2=>?_)
 ·have hb2:(15 - (k:Int)) ≥ 0:=hb2
  refine zB.intro (fun hb8=>?_) (fun hb8=>?_)
  ·have hb8:(15 - (k:Int)) < 8:=hb8
   repeat refine sd ?_
   intro c' hc'
   repeat refine sd ?_
   have e7:(ofInt (8 * (15 - (k:Int)))).toNat = 8 * (16 - 1 - k):=by
    rw [show (8 * (15 - (k:Int))) = ((8 * (16 - 1 - k):Nat):Int) by omega];exact sI _ (by omega)
   refine ⟨(k + 1,c'),⟨by show k + 1 <= 16;omega,by show L0 + (k + 1) <= c';have:L0 + k + 1 <= c':=hc';omega⟩,by show 16 - (k + 1) < 16 - k;omega,Le.intro [(200,(78,0,none))] rfl ?_ rfl ?_ rfl⟩
   ·exact fc
   ·repeat' first|exact trivial|refine zA.app ?_ ?_|refine zA.zd ?_ ?_|refine zA.cons ?_ ?_|exact fc|fail
    all_goals (show rW 16 T0 n (k + 1) = rW 16 T0 n k ++ [(aG (aV (ofInt (m:Int)) 3) (ofInt (8 * (15 - (k:Int)))).toNat).toUInt8])
    all_goals rw [e7,hn]
    all_goals simp only [rW]
    all_goals rw [if_pos (by omega)]
  ·have hb8:¬ (15 - (k:Int)) < 8:=hb8
   repeat refine sd ?_
   intro c' hc'
   repeat refine sd ?_
   refine ⟨(k + 1,c'),⟨by show k + 1 <= 16;omega,by show L0 + (k + 1) <= c';have:L0 + k + 1 <= c':=hc';omega⟩,by show 16 - (k + 1) < 16 - k;omega,Le.intro [(200,(78,0,none))] rfl ?_ rfl ?_ rfl⟩
   ·exact fc
   ·repeat' first|exact trivial|refine zA.app ?_ ?_|refine zA.zd ?_ ?_|refine zA.cons ?_ ?_|exact fc|fail
    all_goals (show rW 16 T0 n (k + 1) = rW 16 T0 n k ++ [0])
    all_goals simp only [rW]
    all_goals rw [if_neg (by omega)]
 obtain rfl:k = 16:=by have hb2:¬ (15 - (k:Int)) ≥ 0:=hb2;omega
 obtain ⟨T,hT⟩:∃ x,rW 16 T0 n 16 = x:=⟨_,rfl⟩
 obtain ⟨L,hL⟩:∃ x,L0 + 16 = x:=⟨_,rfl⟩
 rw [hT,hL] at hll
 rw [hL] at hc
 rw [hT] at hall0
 have hL2:L % 128 = 0:=by omega
 have hsum:tV C64 F64 b j = uN 8 (mA C64 F64 T (L / 128)) 8:=by unfold tV;rw [cw,hall0,hll]
 rw [hZ,hsum]
 clear hall0 hsum
 refine ac.intro (σ:=Nat) (fun q=>q <= L / 128)
  (fun q=>([(0,.slx 1000 0 0 m),(1,.u64 64),(5,.u64 (ofNat 18446744073709551615)),(6,.sl 300 0 0 8 8),(7,.sl 301 0 0 80 80),(8,.sl 302 0 0 12 12),(9,.i .i64 8),(10,.i .i64 128),(11,.sl 200 0 0 L c),(14,.i .i64 (128 * q:Nat))],
   [(1000,.mem false 0 [(m,.a8 b)]),(300,.mem true 0 [(8,.a64 (mA C64 F64 T q))]),(301,.mem true 0 [(80,.a64 R64)]),(302,.mem true 0 [(12,.a64 S64)]),(200,.mem true (c - L) [(L,.a8 T)])])) (fun q=>L / 128 - q) 0 (zero_le _) ?_ ?_
 ·have hT':=hT.symm
  have hL':=hL.symm
  clear hT hL
  refine Le.intro [] rfl ?_ rfl ?_ rfl
  ·exact fc
  ·have e0:mA C64 F64 T 0 = F64:=rfl
   repeat' first|exact trivial|refine zA.app ?_ ?_|refine zA.zd ?_ ?_|refine zA.cons ?_ ?_|exact fc|fail
   all_goals exact hT'
 rintro q hq
 have hbl:=mY C64 T hFl q
 refine zB.intro (fun hb3=>?_) (fun hb3=>?_)
 ·have hb3:((128 * q:Nat):Int) < (L:Int):=hb3
  obtain ⟨H,hH⟩:∃ x,mA C64 F64 T q = x:=⟨_,rfl⟩
  have hnext:mA C64 F64 T (q + 1) = aNT C64 (mA C64 F64 T q) T (128 * q):=by
   simp only [mA,cw]
  rw [hH] at hbl hnext
  have hblk:aNT C64 H T (128 * q) = hR C64 H (u2 C64 (wRs C64 T (128 * q) 80) H 80) 8:=by unfold aNT;rw [cn]
  rw [hblk] at hnext
  obtain ⟨A,hA⟩:∃ x,128 * q = x:=⟨_,rfl⟩
  have hAL:A + 128 <= L:=by omega
  rw [hA] at hnext
  repeat refine sd ?_
  refine ac.intro (σ:=Nat) (fun i=>i <= 80)
   (fun i=>([(0,.slx 1000 0 0 m),(1,.u64 64),(5,.u64 (ofNat 18446744073709551615)),(6,.sl 300 0 0 8 8),(7,.sl 301 0 0 80 80),(8,.sl 302 0 0 12 12),(9,.i .i64 8),(10,.i .i64 128),(11,.sl 200 0 0 L c),(14,.i .i64 (A:Nat)),(15,.sl 201 0 0 80 80),(16,.i .i64 i)],
    [(1000,.mem false 0 [(m,.a8 b)]),(300,.mem true 0 [(8,.a64 H)]),(301,.mem true 0 [(80,.a64 R64)]),(302,.mem true 0 [(12,.a64 S64)]),(200,.mem true (c - L) [(L,.a8 T)]),(201,.mem true 0 [(80,.a64 (wRs C64 T A i))])])) (fun i=>80 - i) 0 (zero_le _) ?_ ?_
  ·have hH':=hH.symm
   have hA':=hA.symm
   clear hA hH
   refine Le.intro [(201,(88,0,none))] rfl ?_ rfl ?_ rfl
   ·exact fc
   ·have e0:wRs C64 T A 0 = replicate 80 0:=by simp only [wRs,cn]
    repeat' first|exact trivial|refine zA.app ?_ ?_|refine zA.zd ?_ ?_|refine zA.cons ?_ ?_|exact fc|fail
    all_goals first | exact hH' | exact e0
  rintro i hi
  have hwl:=kR C64 T A i
  rw [cn] at hwl
  refine zB.intro (fun hb4=>?_) (fun hb4=>?_)
  ·have hb4:(i:Int) < 80:=hb4
   obtain ⟨W,hW⟩:∃ x,wRs C64 T A i = x:=⟨_,rfl⟩
   rw [hW] at hwl
   refine zB.intro (fun h16=>?_) (fun h16=>?_)
   ·have h16:(i:Int) ≥ 16:=h16
    have hwn:wRs C64 T A (i + 1) = W.set i (wN C64 W i):=by
     simp only [wRs];rw [if_pos (by omega),hW]
    have e1:((i:Int) - 16).toNat = i - 16:=by omega
    have e2:((i:Int) - 15).toNat = i - 15:=by omega
    have e3:((i:Int) - 7).toNat = i - 7:=by omega
    have e4:((i:Int) - 2).toNat = i - 2:=by omega
    refine aI.intro [[],[],[],[],[3],[2,3,4],[2,3,4,5],[],[],[8],[7,8,9],[7,8,9,10],[],[12],[12,13],[],[15],[15,16],[],[18],[18,19],[],[7,8,9,10,11,12,13,14,15,16,17,18,19,20,21],[2,3,4,5,6,7,8,9,10,11,12,13,14,15,16,17,18,19,20,21,22],[],[],[25],[24,25,26],[24,25,26,27],[2,3,4,5,6,7,8,9,10,11,12,13,14,15,16,17,18,19,20,21,22,23,24,25,26,27,28],[],[],[31],[30,31,32],[30,31,32,33],[],[35],[35,36],[],[38],[38,39],[],[41],[41,42],[],[7,8,9,10,11,12,13,14,15,16,17,18,19,20,21,22,30,31,32,33,34,35,36,37,38,39,40,41,42,43,44],[2,3,4,5,6,7,8,9,10,11,12,13,14,15,16,17,18,19,20,21,22,23,24,25,26,27,28,29,30,31,32,33,34,35,36,37,38,39,40,41,42,43,44,45],[],[2,3,4,5,6,7,8,9,10,11,12,13,14,15,16,17,18,19,20,21,22,23,24,25,26,27,28,29,30,31,32,33,34,35,36,37,38,39,40,41,42,43,44,45,46,47],[0,1,2,3,4,5,6,7,8,9,10,11,12,13,14,15,16,17,18,19,20,21,22,23,24,25,26,27,28,29,30,31,32,33,34,35,36,37,38,39,40,41,42,43,44,45,46,47,48],[0,1,2,3,4,5,6,7,8,9,10,11,12,13,14,15,16,17,18,19,20,21,22,23,24,25,26,27,28,29,30,31,32,33,34,35,36,37,38,39,40,41,42,43,44,45,46,47,48,49]] [0,1,2,3,4,5,6,7,8,9,10,11,12,13,14,15,16,17,18,19,20,21,24,25,26,27,28,30,31,32,33,34,35,36,37,38,39,40,41,42,43,44,47,22,23,29,45,46,48,49,50] (by kernel_rfl) ?_
    repeat refine sdM ?_
    refine Call.pure (aPZ ((wRs C64 T A i).getD (i - 15) 0) (S64.getD 6 0) (S64.getD 7 0) (S64.getD 8 0) 64) rfl (by repeat' (first | (show zA _;first | exact trivial|refine zA.app ?_ ?_|refine zA.zd ?_ ?_|refine zA.cons ?_ ?_) | with_reducible rfl | with_reducible assumption | omega | (simp only [zero_add,e2,rng,Ix.val,zQ,addI,szs] <;> omega) | (simp only [zero_add,e2,rng,Ix.val,zIn,zme,zQ,addI,getD_none,getD_some,zlT,zlD,zlA,length_set,length_replicate,szs, *] <;> omega) | (simp only [Ix.val];with_reducible assumption) | exact toNat_lt _ | (apply Eq.trans;(with_reducible assumption);exact rfl) | exact rfl | exact fun _ _=>rfl)) ?_
    rintro _ rfl
    refine dC.intro [] rfl rfl ?_
    refine Call.pure (aPZ ((wRs C64 T A i).getD (i - 2) 0) (S64.getD 9 0) (S64.getD 10 0) (S64.getD 11 0) 64) rfl fcH ?_
    rintro _ rfl
    refine dC.intro [] rfl rfl ?_
    repeat refine sdM ?_
    refine ⟨i + 1,by omega,by omega,Le.intro [] rfl fc rfl ?_ rfl⟩
    repeat' first|exact trivial|refine zA.app ?_ ?_|refine zA.zd ?_ ?_|refine zA.cons ?_ ?_|exact fc|fail
    simp only [zero_add,e1,e2,e3,e4,zQ,Ix.val,zIn]
    rw [hwn,<- hW]
    unfold wN
    rw [cs,csz,cm]
    try rfl
   ·have h16:¬ (i:Int) ≥ 16:=h16
    have hwn:wRs C64 T A (i + 1) = wR C64 T A W i 8:=by
     simp only [wRs];rw [if_neg (by omega),hW,cw]
    refine ac.intro (σ:=Nat) (fun j=>j <= 8)
     (fun j=>([(0,.slx 1000 0 0 m),(1,.u64 64),(5,.u64 (ofNat 18446744073709551615)),(6,.sl 300 0 0 8 8),(7,.sl 301 0 0 80 80),(8,.sl 302 0 0 12 12),(9,.i .i64 8),(10,.i .i64 128),(11,.sl 200 0 0 L c),(14,.i .i64 (A:Nat)),(15,.sl 201 0 0 80 80),(16,.i .i64 i),(17,.i .i64 j)],
      [(1000,.mem false 0 [(m,.a8 b)]),(300,.mem true 0 [(8,.a64 H)]),(301,.mem true 0 [(80,.a64 R64)]),(302,.mem true 0 [(12,.a64 S64)]),(200,.mem true (c - L) [(L,.a8 T)]),(201,.mem true 0 [(80,.a64 (wR C64 T A W i j))])])) (fun j=>8 - j) 0 (zero_le _) ?_ ?_
    ·have hW':=hW.symm
     clear hW
     refine Le.intro [] rfl ?_ rfl ?_ rfl
     ·exact fc
     ·have e0:wR C64 T A W i 0 = W:=rfl
      repeat' first|exact trivial|refine zA.app ?_ ?_|refine zA.zd ?_ ?_|refine zA.cons ?_ ?_|exact fc|fail
      all_goals exact e0.trans hW'
    rintro j2 hj2
    have hwl2:=nB C64 T A W i j2
    rw [hwl] at hwl2
    refine zB.intro (fun hb5=>?_) (fun hb5=>?_)
    ·have hb5:(j2:Int) < 8:=hb5
     have e5:((A:Int) + 8 * i + j2).toNat = A + 8 * i + j2:=by omega
     refine aI.intro [[],[],[],[],[2,3],[2,3,4],[2,3,4,5],[],[],[],[],[9,10],[8,9,10,11],[],[8,9,10,11,12,13],[7,8,9,10,11,12,13,14],[7,8,9,10,11,12,13,14,15],[7,8,9,10,11,12,13,14,15,16],[2,3,4,5,6,7,8,9,10,11,12,13,14,15,16,17],aNM,aOK] aRL (by kernel_rfl) ?_
     repeat (refine d0.intro (by repeat' (first | (show zA _;first | exact trivial|refine zA.app ?_ ?_|refine zA.zd ?_ ?_|refine zA.cons ?_ ?_) | with_reducible rfl | with_reducible assumption | omega | (simp only [zero_add,e5,hw4,rng,Ix.val,zQ,addI,szs] <;> omega) | (simp only [zero_add,e5,hw4,rng,Ix.val,zIn,zme,zQ,addI,getD_none,getD_some,zlT,zlD,zlA,length_set,length_replicate,szs, *] <;> omega) | (simp only [Ix.val];with_reducible assumption) | exact toNat_lt _ | (apply Eq.trans;(with_reducible assumption);exact rfl) | exact rfl | exact fun _ _=>rfl)) ?_)
     refine ⟨j2 + 1,by omega,by omega,Le.intro [] rfl fc rfl ?_ rfl⟩
     repeat' first|exact trivial|refine zA.app ?_ ?_|refine zA.zd ?_ ?_|refine zA.cons ?_ ?_|exact fc|fail
     all_goals simp only [zero_add,e5,zQ,Ix.val,zIn,wR,cw]
     all_goals try rfl
    ·obtain rfl:j2 = 8:=by have hb5:¬ (j2:Int) < 8:=hb5;omega
     repeat refine sd ?_
     refine ⟨i + 1,by omega,by omega,Le.intro [] rfl fc rfl ?_ rfl⟩
     repeat' first|exact trivial|refine zA.app ?_ ?_|refine zA.zd ?_ ?_|refine zA.cons ?_ ?_|exact fc|fail
     all_goals exact hwn
  ·obtain rfl:i = 80:=by have hb4:¬ (i:Int) < 80:=hb4;omega
   obtain ⟨W,hW⟩:∃ x,wRs C64 T A 80 = x:=⟨_,rfl⟩
   rw [hW] at hwl hnext
   repeat refine sd ?_
   intro c3 hc3
   repeat refine sd ?_
   have htH:take 8 (List.drop 0 H) = H:=by rw [drop_zero,take_of_length_le (by omega)]
   refine ac.intro (σ:=Nat × Nat) (fun s=>s.1 <= 80/\8 <= s.2)
    (fun s=>([(0,.slx 1000 0 0 m),(1,.u64 64),(5,.u64 (ofNat 18446744073709551615)),(6,.sl 300 0 0 8 8),(7,.sl 301 0 0 80 80),(8,.sl 302 0 0 12 12),(9,.i .i64 8),(10,.i .i64 128),(11,.sl 200 0 0 L c),(14,.i .i64 (A:Nat)),(15,.sl 201 0 0 80 80),(18,.sl 202 0 0 8 s.2),(19,.i .i64 s.1)],
     [(1000,.mem false 0 [(m,.a8 b)]),(300,.mem true 0 [(8,.a64 H)]),(301,.mem true 0 [(80,.a64 R64)]),(302,.mem true 0 [(12,.a64 S64)]),(200,.mem true (c - L) [(L,.a8 T)]),(201,.mem true 0 [(80,.a64 W)]),(202,.mem true (s.2 - 8) [(8,.a64 (u2 C64 W H s.1))])])) (fun s=>80 - s.1) (0,c3) ⟨zero_le _,hc3⟩ ?_ ?_
   ·have hW':=hW.symm
    clear hW
    refine Le.intro [(202,(174,0,none))] rfl ?_ rfl ?_ rfl
    ·exact fc
    ·have e0:u2 C64 W H 0 = H:=rfl
     repeat' first|exact trivial|refine zA.app ?_ ?_|refine zA.zd ?_ ?_|refine zA.cons ?_ ?_|exact fc|fail
     all_goals first | exact hW' | (show u2 C64 W H 0 = [] ++ take 8 (List.drop 0 H);rw [htH,e0];rfl)
   rintro ⟨i,cv⟩ ⟨hi,hcv⟩
   have hi:i <= 80:=hi
   have hcv:8 <= cv:=hcv
   have hvl:=u1 C64 W hbl i
   refine zB.intro (fun hb6=>?_) (fun hb6=>?_)
   ·have hb6:(i:Int) < 80:=hb6
    obtain ⟨V,hV⟩:∃ x,u2 C64 W H i = x:=⟨_,rfl⟩
    have hrn:u2 C64 W H (i + 1) = rdR C64 V (R64.getD i 0) (W.getD i 0):=by
     simp only [u2];rw [hV,ck]
    rw [hV] at hvl
    refine aI.intro [[],[0],[0,1],[],[3],[3,4],[],[6],[6,7],[],[9],[9,10],[],[12],[12,13],[],[3,4,5,6,7,8,9,10,11,12,13,14,15],uL,[],[18],[18,19],[],[21],[21,22],[18,19,20,21,22,23],[],[],[26],[26,27],[25,26,27,28],[],[30],[30,31],[25,26,27,28,29,30,31,32],[18,19,20,21,22,23,24,25,26,27,28,29,30,31,32,33],[0,1,2,3,4,5,6,7,8,9,10,11,12,13,14,15,16,17,18,19,20,21,22,23,24,25,26,27,28,29,30,31,32,33,34],[],[],[36,37],[36,37,38],[0,1,2,3,4,5,6,7,8,9,10,11,12,13,14,15,16,17,18,19,20,21,22,23,24,25,26,27,28,29,30,31,32,33,34,35,36,37,38,39],[],[],[41,42],[41,42,43],[0,1,2,3,4,5,6,7,8,9,10,11,12,13,14,15,16,17,18,19,20,21,22,23,24,25,26,27,28,29,30,31,32,33,34,35,36,37,38,39,40,41,42,43,44],[0,1,2,3,4,5,6,7,8,9,10,11,12,13,14,15,16,17,18,19,20,21,22,23,24,25,26,27,28,29,30,31,32,33,34,35,36,37,38,39,40,41,42,43,44,45]] [0,1,2,3,4,5,6,7,8,9,10,11,12,13,14,15,18,19,20,21,22,23,24,25,26,27,28,29,30,31,32,33,34,36,37,38,39,41,42,43,44,16,17,35,40,45,46] (by kernel_rfl) ?_
    repeat refine sdN ?_
    refine Call.pure (aPY ((u2 C64 W H i).getD 4 0) (S64.getD 3 0) (S64.getD 4 0) (S64.getD 5 0) 64) rfl fc ?_
    rintro _ rfl
    refine dC.intro [] rfl rfl ?_
    repeat refine sdN ?_
    refine aI.intro [[],[0],[0,1],[],[3],[3,4],[],[6],[6,7],[],[9],[9,10],[],nb,[],[14],[14,15],[],[17],[17,18],[14,15,16,17,18,19],[],[21],[21,22],[],[24],[24,25],[21,22,23,24,25,26],[14,15,16,17,18,19,20,21,22,23,24,25,26,27],[],[29],[29,30],[],[32],[32,33],[29,30,31,32,33,34],[14,15,16,17,18,19,20,21,22,23,24,25,26,27,28,29,30,31,32,33,34,35],[0,1,2,3,4,5,6,7,8,9,10,11,12,13,14,15,16,17,18,19,20,21,22,23,24,25,26,27,28,29,30,31,32,33,34,35,36],[0,1,2,3,4,5,6,7,8,9,10,11,12,13,14,15,16,17,18,19,20,21,22,23,24,25,26,27,28,29,30,31,32,33,34,35,36,37]] [0,1,2,3,4,5,6,7,8,9,10,11,12,14,15,16,17,18,19,20,21,22,23,24,25,26,27,28,29,30,31,32,33,34,35,36,13,37,38] (by kernel_rfl) ?_
    repeat refine sdN ?_
    refine Call.pure (aPY ((u2 C64 W H i).getD 0 0) (S64.getD 0 0) (S64.getD 1 0) (S64.getD 2 0) 64) rfl fc ?_
    rintro _ rfl
    refine dC.intro [] rfl rfl ?_
    repeat refine sdN ?_
    refine aI.intro [[],[],[0,1],[],r_4,[],[5],[5,6],[],[8],[8,9],[],[11],[11,12],[],[14],[14,15],[],[14,15,16,17],[],[14,15,16,17,18,19],[],[21],[21,22],[],[24],[24,25],[],[27],[27,28],aNL,aSJ] aRJ (by kernel_rfl) ?_
    repeat refine sdN ?_
    refine ⟨(i + 1,8),⟨by show i + 1 <= 80;omega,le_refl _⟩,by show 80 - (i + 1) < 80 - i;omega,Le.intro [(202,(295,0,none))] rfl ?_ rfl ?_ rfl⟩
    ·exact fc
    ·have hrn2:=hrn
     rw [<- hV] at hrn2
     unfold rdR aRN aR3 at hrn2
     rw [cs,csz,cm] at hrn2
     repeat' first|exact trivial|refine zA.app ?_ ?_|refine zA.zd ?_ ?_|refine zA.cons ?_ ?_|exact fc|fail
     all_goals exact hrn2
   ·obtain rfl:i = 80:=by have hb6:¬ (i:Int) < 80:=hb6;omega
    obtain ⟨V,hV⟩:∃ x,u2 C64 W H 80 = x:=⟨_,rfl⟩
    rw [hV] at hvl hnext
    refine ac.intro (σ:=Nat) (fun i=>i <= 8)
     (fun i=>([(0,.slx 1000 0 0 m),(1,.u64 64),(5,.u64 (ofNat 18446744073709551615)),(6,.sl 300 0 0 8 8),(7,.sl 301 0 0 80 80),(8,.sl 302 0 0 12 12),(9,.i .i64 8),(10,.i .i64 128),(11,.sl 200 0 0 L c),(14,.i .i64 (A:Nat)),(18,.sl 202 0 0 8 cv),(22,.i .i64 i)],
      [(1000,.mem false 0 [(m,.a8 b)]),(300,.mem true 0 [(8,.a64 (hR C64 H V i))]),(301,.mem true 0 [(80,.a64 R64)]),(302,.mem true 0 [(12,.a64 S64)]),(200,.mem true (c - L) [(L,.a8 T)]),(202,.mem true (cv - 8) [(8,.a64 V)])])) (fun i=>8 - i) 0 (zero_le _) ?_ ?_
    ·have hV':=hV.symm
     clear hV
     refine Le.intro [] rfl ?_ rfl ?_ rfl
     ·exact fc
     ·have e0:hR C64 H V 0 = H:=rfl
      exact fc
    rintro i hi
    have hhl:=oT C64 V hbl i
    refine zB.intro (fun hb7=>?_) (fun hb7=>?_)
    ·have hb7:(i:Int) < 8:=hb7
     refine aI.intro [[],[],[],[],[2,3],[2,3,4],[],[],[6,7],[6,7,8],[2,3,4,5,6,7,8,9],[],[2,3,4,5,6,7,8,9,10,11],nb,sj] uM (by kernel_rfl) ?_
     repeat refine sdn ?_
     refine ⟨i + 1,by omega,by omega,Le.intro [] rfl fc rfl ?_ rfl⟩
     repeat' first|exact trivial|refine zA.app ?_ ?_|refine zA.zd ?_ ?_|refine zA.cons ?_ ?_|exact fc|fail
     all_goals simp only [zero_add,zQ,Ix.val,zIn,hR,cm]
     all_goals try rfl
    ·obtain rfl:i = 8:=by have hb7:¬ (i:Int) < 8:=hb7;omega
     repeat refine sd ?_
     refine ⟨q + 1,by omega,by omega,Le.intro [] rfl ?_ rfl ?_ rfl⟩
     ·exact fc
     ·repeat' first|exact trivial|refine zA.app ?_ ?_|refine zA.zd ?_ ?_|refine zA.cons ?_ ?_|exact fc|fail
      all_goals exact hnext
 ·obtain rfl:q = L / 128:=by have hb3:¬ ((128 * q:Nat):Int) < (L:Int):=hb3;omega
  obtain ⟨H,hH⟩:∃ x,mA C64 F64 T (L / 128) = x:=⟨_,rfl⟩
  rw [hH] at hbl ⊢
  repeat refine sd ?_
  refine ac.intro (σ:=Nat × Nat) (fun s=>s.1 <= 8/\8 * s.1 <= s.2)
   (fun s=>([(0,.slx 1000 0 0 m),(1,.u64 64),(5,.u64 (ofNat 18446744073709551615)),(6,.sl 300 0 0 8 8),(7,.sl 301 0 0 80 80),(8,.sl 302 0 0 12 12),(9,.i .i64 8),(10,.i .i64 128),(23,.sl 203 0 0 (8 * s.1) s.2),(24,.i .i64 s.1)],
    [(1000,.mem false 0 [(m,.a8 b)]),(300,.mem true 0 [(8,.a64 H)]),(301,.mem true 0 [(80,.a64 R64)]),(302,.mem true 0 [(12,.a64 S64)]),(203,.mem true (s.2 - 8 * s.1) [(8 * s.1,.a8 (uN 8 H s.1))])])) (fun s=>8 - s.1) (0,0) ⟨zero_le _,zero_le _⟩ ?_ ?_
  ·have hH':=hH.symm
   clear hH
   refine Le.ghost [.own 203 [(0,.a8 [])]] [(23,203)] [] rfl ⟨rfl,rfl,trivial⟩ rfl rfl fc rfl fc rfl
  rintro ⟨i,co⟩ ⟨hi,hco⟩
  have hi:i <= 8:=hi
  have hco:8 * i <= co:=hco
  have hol:=jP 8 H i
  refine zB.intro (fun hb7=>?_) (fun hb7=>?_)
  ·have hb7:(i:Int) < 8:=hb7
   repeat refine sd ?_
   refine ac.intro (σ:=Nat × Nat) (fun s=>s.1 <= 8/\8 * i + s.1 <= s.2)
    (fun s=>([(0,.slx 1000 0 0 m),(1,.u64 64),(5,.u64 (ofNat 18446744073709551615)),(6,.sl 300 0 0 8 8),(7,.sl 301 0 0 80 80),(8,.sl 302 0 0 12 12),(9,.i .i64 8),(10,.i .i64 128),(23,.sl 203 0 0 (8 * i + s.1) s.2),(24,.i .i64 i),(25,.i .i64 (7 - (s.1:Int)))],
     [(1000,.mem false 0 [(m,.a8 b)]),(300,.mem true 0 [(8,.a64 H)]),(301,.mem true 0 [(80,.a64 R64)]),(302,.mem true 0 [(12,.a64 S64)]),(203,.mem true (s.2 - (8 * i + s.1)) [(8 * i + s.1,.a8 (oR 8 (H.getD i 0) (uN 8 H i) s.1))])])) (fun s=>8 - s.1) (0,co) ⟨zero_le _,hco⟩ ?_ ?_
   ·refine Le.intro [] rfl ?_ rfl ?_ rfl
    ·exact fc
    ·have e0:oR 8 (H.getD i 0) (uN 8 H i) 0 = uN 8 H i:=rfl
     exact fc
   rintro ⟨j2,co⟩ ⟨hj2,hco⟩
   have hj2:j2 <= 8:=hj2
   have hco:8 * i + j2 <= co:=hco
   have hol2:=nj 8 (H.getD i 0) (uN 8 H i) j2
   rw [hol] at hol2
   refine zB.intro (fun hb8=>?_) (fun hb8=>?_)
   ·have hb8:(7 - (j2:Int)) ≥ 0:=hb8
    repeat refine sd ?_
    intro c' hc'
    repeat refine sd ?_
    have e7:(ofInt (8 * (7 - (j2:Int)))).toNat = 8 * (8 - 1 - j2):=by
     rw [show (8 * (7 - (j2:Int))) = ((8 * (8 - 1 - j2):Nat):Int) by omega];exact sI _ (by omega)
    refine ⟨(j2 + 1,c'),⟨by show j2 + 1 <= 8;omega,by show 8 * i + (j2 + 1) <= c';have:8 * i + j2 + 1 <= c':=hc';omega⟩,by show 8 - (j2 + 1) < 8 - j2;omega,Le.intro [(203,(335,0,none))] rfl ?_ rfl ?_ rfl⟩
    ·exact fc
    ·repeat' first|exact trivial|refine zA.app ?_ ?_|refine zA.zd ?_ ?_|refine zA.cons ?_ ?_|exact fc|fail
     all_goals (show oR 8 (H.getD i 0) (uN 8 H i) (j2 + 1) = oR 8 (H.getD i 0) (uN 8 H i) j2 ++ [(aG (H.getD i 0) (ofInt (8 * (7 - (j2:Int)))).toNat).toUInt8])
     all_goals rw [e7]
     all_goals rfl
   ·obtain rfl:j2 = 8:=by have hb8:¬ (7 - (j2:Int)) ≥ 0:=hb8;omega
    repeat refine sd ?_
    have e1:8 * (i + 1) = 8 * i + 8:=by omega
    refine ⟨(i + 1,co),⟨by show i + 1 <= 8;omega,by show 8 * (i + 1) <= co;omega⟩,by show 8 - (i + 1) < 8 - i;omega,Le.intro [] rfl ?_ rfl ?_ rfl⟩
    ·exact fc
    ·have e2:uN 8 H (i + 1) = oR 8 (H.getD i 0) (uN 8 H i) 8:=rfl
     exact fc
  ·obtain rfl:i = 8:=by have hb7:¬ (i:Int) < 8:=hb7;omega
   obtain ⟨O,hO⟩:∃ x,uN 8 H 8 = x:=⟨_,rfl⟩
   rw [hO] at hol ⊢
   have hO':=hO.symm
   clear hO
   repeat refine sd ?_
   refine Ret.intro (.sl 1001 0 0 64 co) [(1000,.mem false 0 [(m,.a8 b)]),(1001,.mem true (co - 64) [(64,.a8 O)])] [(1001,(203,0,none))] rfl fc ⟨co,hco,rfl,rfl⟩ rfl fc rfl fc rfl
@[irreducible] def sm (b:List UInt8):List UInt8:=tV C64 F64 b (av (b.length % 128))
theorem rN (b:List UInt8):sm b = tV C64 F64 b (av (b.length % 128)):=by unfold sm;rfl
theorem sk (b:List UInt8):(sm b).length = 64:=by
 rw [rN];unfold tV;rw [jP,iR];rfl
theorem aIH {n:Nat} {x old:List UInt8} (hx:x.length = n) (ho:old.length = n) :
  x = take ((none:Option Nat).getD 0) old ++ take (min (take n (List.drop (addI none 0) x)).length n) (take n (List.drop (addI none 0) x)) ++
   List.drop ((none:Option Nat).getD 0 + min (take n (List.drop (addI none 0) x)).length n) old:=by
 have e:take n (List.drop (addI none 0) x) = x:=by
  rw [pF,getD_none,zero_add,drop_zero,take_of_length_le (by omega)]
 rw [e,hx,Nat.min_self,getD_none,List.take_zero,nil_append,take_of_length_le (by omega),List.drop_of_length_le (by omega),List.append_nil]
theorem aT5 (b:List UInt8) (m:Nat) (hb:b.length = m) (hmax:m <= 100000000):Sx.Fn Γ.P 115 [.slx 1000 0 0 m] [(1000,.mem false 0 [(m,.a8 b)])]
  (fun v M=>v = .a8 (sm b)/\M = [(1000,.mem false 0 [(m,.a8 b)])]):=by
 have hH:=aH0 b m hb hmax
 have hl:=sk b
 rw [show tV C64 F64 b (av (m % 128)) = sm b by rw [rN,hb]] at hH
 refine aF (Γ:=Γ) (fn:=Tryz.f115) rfl rfl rfl rfl ?_
 repeat refine sd ?_
 refine aI.intro [[],[],[1],[0,1,2]] r_4 (by kernel_rfl) ?_
 repeat refine sd ?_
 refine Call.intro hH [(1000,(1000,0,none)),(1001,(1001,0,none))] rfl fc rfl fc rfl ?_
 rintro v M' ⟨c,hc,rfl,rfl⟩
 refine dC.intro [(1001,.mem true (c - 64) [(64,.a8 (sm b))])] rfl rfl ?_
 repeat refine sd ?_
 refine Ret.intro (.a8 (sm b)) [(1000,.mem false 0 [(m,.a8 b)])] [] rfl ?_ ⟨rfl,rfl⟩ rfl ?_ rfl ?_ rfl
 ·exact fc
 ·repeat' first|exact trivial|refine zA.app ?_ ?_|refine zA.zd ?_ ?_|refine zA.cons ?_ ?_|exact fc|fail
  exact aIH hl length_replicate
 ·exact fc
theorem xN (w:Nat) (n:UInt64) (t:List UInt8):∀ k,rW w t n k = t ++ rW w [] n k
 | 0=>by simp [rW]
 | k + 1=>by simp only [rW];rw [xN w n t k,List.append_assoc]
theorem xM (n:UInt64) (t:List UInt8):∀ k,pM t n k = t ++ pM [] n k
 | 0=>by simp [pM]
 | k + 1=>by simp only [pM];rw [xM n t k,List.append_assoc]
theorem aPE (n:UInt64):rW 16 [] n 16 = replicate 8 0 ++ pM [] n 8:=by kernel_rfl
theorem aNE:F64 = H64:=by rw [aFT,aFS]
theorem aND:R64 = K64:=by rw [aFQ,aFR]
theorem aC3 (x:UInt64):x &&& ofNat 18446744073709551615 = x:=by
 apply UInt64.toNat_inj.1
 rw [UInt64.toNat_and,UInt64.toNat_ofNat']
 exact Nat.and_two_pow_sub_one_of_lt_two_pow x.toNat_lt
theorem yP (x:UInt64):ofNat 18446744073709551615 ^^^ x = ~~~x:=by
 rw [show ofNat 18446744073709551615 = (-1:UInt64) by decide]
 exact UInt64.neg_one_xor
theorem aFY (x n:UInt64) (h:(64 - n).toNat = 64 - n.toNat):tn x n 64 = qA x n.toNat:=by
 unfold tn qA
 rw [if_neg (by decide),h,UInt64.or_comm]
theorem s64:S64.getD 0 0 = 28/\S64.getD 1 0 = 34/\S64.getD 2 0 = 39/\S64.getD 3 0 = 14/\S64.getD 4 0 = 18/\S64.getD 5 0 = 41/\S64.getD 6 0 = 1/\S64.getD 7 0 = 8/\S64.getD 8 0 = 7/\S64.getD 9 0 = 19/\S64.getD 10 0 = 61/\S64.getD 11 0 = 6:=by
 rw [aFP];decide
theorem aKN (w:List UInt64) (i:Nat):wN C64 w i = aN1 w i:=by
 obtain ⟨_,_,_,_,_,_,h6,h7,h8,h9,h10,h11⟩:=s64
 unfold wN aN1 thS
 rw [iR]
 simp only [h6,h7,h8,h9,h10,h11,aC3]
 rw [aFY _ 1 (by decide),aFY _ 8 (by decide),aFY _ 19 (by decide),aFY _ 61 (by decide)]
 show w.getD (i - 16) 0 + (qA (w.getD (i - 15) 0) 1 ^^^ qA (w.getD (i - 15) 0) 8 ^^^ aG (w.getD (i - 15) 0) 7) + w.getD (i - 7) 0 + (qA (w.getD (i - 2) 0) 19 ^^^ qA (w.getD (i - 2) 0) 61 ^^^ aG (w.getD (i - 2) 0) 6) = _
 congr 1
 rw [UInt64.add_assoc,UInt64.add_comm (qA _ _ ^^^ _ ^^^ _),<- UInt64.add_assoc]
theorem aK6 (v:List UInt64) (k w:UInt64):rdR C64 v k w = aRI v k w:=by
 obtain ⟨h0,h1,h2,h3,h4,h5,_⟩:=s64
 unfold rdR aRI aRN aR3 aLC aN2 thT
 rw [iR]
 simp only [h0,h1,h2,h3,h4,h5,aC3,yP]
 rw [aFY _ 28 (by decide),aFY _ 34 (by decide),aFY _ 39 (by decide),aFY _ 14 (by decide),aFY _ 18 (by decide),aFY _ 41 (by decide)]
 rfl
theorem w9 (w v:List UInt64):∀ i,u2 C64 w v i = jK w v i
 | 0=>rfl
 | i + 1=>by
  simp only [u2,jK]
  rw [w9 w v i,aK6,<- aND,iR]
theorem aDV (h v:List UInt64):∀ i,hR C64 h v i = aDW h v i
 | 0=>rfl
 | i + 1=>by
  simp only [hR,aDW]
  rw [aDV h v i]
  rw [show C64.mask = ofNat 18446744073709551615 by rw [iR],aC3]
theorem aQ1 (x:UInt64) (c:UInt8):x * 256 + c.toUInt64 = aV x 8 ||| c.toUInt64:=by
 have hc:=c.toNat_lt
 apply UInt64.toNat_inj.1
 unfold aV
 rw [UInt64.toNat_or,UInt64.toNat_add,UInt64.toNat_mul,UInt64.toNat_ofNat',UInt8.toNat_toUInt64]
 have e1:x.toNat * (256:UInt64).toNat % 2 ^ 64 = (x.toNat % 2 ^ 56) <<< 8:=by
  rw [show (256:UInt64).toNat = 2 ^ 8 from rfl,Nat.shiftLeft_eq,show (2:Nat) ^ 64 = 2 ^ 56 * 2 ^ 8 by decide,Nat.mul_mod_mul_right]
 have e2:x.toNat <<< 8 % 2 ^ 64 = (x.toNat % 2 ^ 56) <<< 8:=by
  rw [Nat.shiftLeft_eq,Nat.shiftLeft_eq,show (2:Nat) ^ 64 = 2 ^ 56 * 2 ^ 8 by decide,Nat.mul_mod_mul_right]
 rw [e1,e2,<- Nat.shiftLeft_add_eq_or_of_lt hc]
 apply Nat.mod_eq_of_lt
 have h3:x.toNat % 2 ^ 56 < 2 ^ 56:=Nat.mod_lt _ (by decide)
 rw [Nat.shiftLeft_eq]
 omega
theorem aGC {b:List UInt8} {a n j:Nat} (h:j < n):((b.drop a).take n).getD j 0 = b.getD (a + j) 0:=by
 rw [getD_eq_getElem?_getD,List.getElem?_take,if_pos h,List.getElem?_drop,getD_eq_getElem?_getD]
theorem aKL (all:List UInt8) (a:Nat):∀ i,i <= 16->∀ j,j <= 8->8 * i + j <= 128->wR C64 all a (wRs C64 all a i) i j = uI ((all.drop a).take 128) (8 * i + j):=by
 have hwd:C64.wd = 8:=by rw [iR]
 have hn:C64.n = 80:=by rw [iR]
 have step:∀ i,i < 16->wRs C64 all a i = uI ((all.drop a).take 128) (8 * i)->∀ j,j <= 8->wR C64 all a (wRs C64 all a i) i j = uI ((all.drop a).take 128) (8 * i + j):=by
  intro i hi h0 j
  induction j with
  | zero=>intro _;exact h0
  | succ j ih=>
   intro hj
   have ih:=ih (by omega)
   show (wR C64 all a (wRs C64 all a i) i j).set i ((wR C64 all a (wRs C64 all a i) i j).getD i 0 * 256 + (all.getD (a + C64.wd * i + j) 0).toUInt64) =
    (uI ((all.drop a).take 128) (8 * i + j)).set ((8 * i + j) / 8) (aV ((uI ((all.drop a).take 128) (8 * i + j)).getD ((8 * i + j) / 8) 0) 8 ||| (((all.drop a).take 128).getD (8 * i + j) 0).toUInt64)
   rw [ih,aQ1,aGC (by omega),show (8 * i + j) / 8 = i by omega,hwd,Nat.add_assoc]
 have all0:∀ i,i <= 16->wRs C64 all a i = uI ((all.drop a).take 128) (8 * i):=by
  intro i
  induction i with
  | zero=>intro _;show replicate C64.n 0 = _;rw [hn];rfl
  | succ i ih=>
   intro hi
   have h0:=ih (by omega)
   simp only [wRs]
   rw [if_neg (by omega),hwd,step i (by omega) h0 8 (le_refl _)]
   rfl
 intro i hi j hj h
 rcases Nat.lt_or_ge i 16 with hlt | hge
 ·exact step i hlt (all0 i hi) j hj
 ·have e1:i = 16:=by omega
  have e2:j = 0:=by omega
  subst e1;subst e2
  exact all0 16 hi
theorem aA6 (all:List UInt8) (a:Nat):∀ k,k <= 64->wRs C64 all a (16 + k) = uJ (uI ((all.drop a).take 128) 128) k
 | 0,_=>aKL all a 16 (le_refl _) 0 (zero_le _) (le_refl _)
 | k + 1,h=>by
  have ih:=aA6 all a k (by omega)
  show (if 16 <= 16 + k then (wRs C64 all a (16 + k)).set (16 + k) (wN C64 (wRs C64 all a (16 + k)) (16 + k)) else _) = (uJ _ k).set (16 + k) (aN1 (uJ _ k) (16 + k))
  rw [if_pos (by omega),ih,aKN]
theorem aIL (h:List UInt64) (all:List UInt8) (a:Nat):aNT C64 h all a = rp h ((all.drop a).take 128):=by
 unfold aNT rp wj
 rw [aDV,w9,show C64.n = 16 + 64 by rw [iR],aA6 all a 64 (le_refl _)]
theorem tx (h:List UInt64) (all:List UInt8):∀ q,mA C64 h all q = an h all q
 | 0=>rfl
 | q + 1=>by
  simp only [mA,an]
  rw [tx h all q,aIL,show 16 * C64.wd * q = 128 * q by rw [show C64.wd = 8 by rw [iR]]]
theorem mB {h:List UInt64} {A T:List UInt8} {p:Nat} (hA:A.length = 128 * p):∀ q,an h (A ++ T) (p + q) = an (an h A p) T q
 | 0=>by
  have:∀ k,k <= p->an h (A ++ T) k = an h A k:=by
   intro k
   induction k with
   | zero=>intro _;rfl
   | succ k ih=>
    intro hk
    simp only [an]
    rw [ih (by omega),List.drop_append_of_le_length (by omega),List.take_append_of_le_length (by rw [zlD];omega)]
  exact this p (le_refl _)
 | q + 1=>by
  show rp (an h (A ++ T) (p + q)) (((A ++ T).drop (128 * (p + q))).take 128) = rp (an (an h A p) T q) ((T.drop (128 * q)).take 128)
  rw [mB hA q,drop_append,List.drop_of_length_le (by omega),nil_append,hA,show 128 * (p + q) - 128 * p = 128 * q by omega]
theorem wJ {h:List UInt64} {b:List UInt8} {p:Nat} (hp:128 * p <= b.length):an h (b.take (128 * p)) p = an h b p:=by
 have:=mB (h:=h) (A:=b.take (128 * p)) (T:=b.drop (128 * p)) (p:=p) (by rw [zlT];omega) 0
 rw [List.take_append_drop] at this
 exact this.symm
theorem yx (a0 a1 a2 a3 a4 a5 a6 a7:UInt64):uN 8 [a0,a1,a2,a3,a4,a5,a6,a7] 8 = gv [a0,a1,a2,a3,a4,a5,a6,a7] 64:=by kernel_rfl
theorem aVX {α:Type} {l:List α} (h:l.length = 8):∃ a0 a1 a2 a3 a4 a5 a6 a7,l = [a0,a1,a2,a3,a4,a5,a6,a7]:=by
 match l,h with
 | [a0,a1,a2,a3,a4,a5,a6,a7],_=>exact ⟨a0,a1,a2,a3,a4,a5,a6,a7,rfl⟩
theorem aUU (b:List UInt8):aNV 8 b (av (b.length % 128)) = b.take (128 * (b.length / 128)) ++ fV (b.drop (128 * (b.length / 128))) (ofInt (b.length:Int)):=by
 unfold aNV fV pL
 rw [xN,xM,aPE,show (b.drop (128 * (b.length / 128))).length = b.length % 128 by rw [zlD];omega]
 conv=>lhs;rw [<- List.take_append_drop (128 * (b.length / 128)) b]
 simp only [List.append_assoc,zlA,zlT,zlD]
 rw [show min (128 * (b.length / 128)) b.length + (b.length - 128 * (b.length / 128)) = b.length by omega]
theorem aL1 (b:List UInt8):sm b = cG b:=by
 rw [rN,nN]
 unfold tV
 have hwd:C64.wd = 8:=by rw [iR]
 rw [hwd,aNE,tx,aUU]
 have hp:128 * (b.length / 128) <= b.length:=by omega
 have hA:(b.take (128 * (b.length / 128))).length = 128 * (b.length / 128):=by rw [zlT];omega
 have hT:=qy (b.drop (128 * (b.length / 128))) (ofInt (b.length:Int))
 generalize fV (b.drop (128 * (b.length / 128))) (ofInt (b.length:Int)) = T at hT ⊢
 rw [zlA,hA,show (128 * (b.length / 128) + T.length) / (16 * 8) = b.length / 128 + T.length / 128 by omega,mB hA,wJ hp]
 have hl:=ct (ct qm b (b.length / 128)) T (T.length / 128)
 obtain ⟨a0,a1,a2,a3,a4,a5,a6,a7,he⟩:=aVX hl
 rw [he]
 exact yx _ _ _ _ _ _ _ _
def up (l:List UInt32):List UInt64:=l.map UInt32.toUInt64
theorem mC {h:List UInt32} {A T:List UInt8} {p:Nat} (hA:A.length = 64 * p):∀ q,aX h (A ++ T) (p + q) = aX (aX h A p) T q
 | 0=>by
  have:∀ k,k <= p->aX h (A ++ T) k = aX h A k:=by
   intro k
   induction k with
   | zero=>intro _;rfl
   | succ k ih=>
    intro hk
    simp only [aX]
    rw [ih (by omega),List.drop_append_of_le_length (by omega),List.take_append_of_le_length (by rw [zlD];omega)]
  exact this p (le_refl _)
 | q + 1=>by
  show wM (aX h (A ++ T) (p + q)) (((A ++ T).drop (64 * (p + q))).take 64) = wM (aX (aX h A p) T q) ((T.drop (64 * q)).take 64)
  rw [mC hA q,drop_append,List.drop_of_length_le (by omega),nil_append,hA,show 64 * (p + q) - 64 * p = 64 * q by omega]
theorem wL {h:List UInt32} {b:List UInt8} {p:Nat} (hp:64 * p <= b.length):aX h (b.take (64 * p)) p = aX h b p:=by
 have:=mC (h:=h) (A:=b.take (64 * p)) (T:=b.drop (64 * p)) (p:=p) (by rw [zlT];omega) 0
 rw [List.take_append_drop] at this
 exact this.symm
@[irreducible] def hw (A:List UInt8):List UInt32:=aX H32 A (A.length / 64)
theorem aDT (A:List UInt8):hw A = aX H32 A (A.length / 64):=by unfold hw;rfl
theorem tS (A:List UInt8):(hw A).length = 8:=by rw [aDT];exact bn iq _ _
theorem rQ (a b:Nat):ofInt (a:Int) + ofInt (b:Int) = ofInt ((a + b:Nat):Int):=by
 rw [Int.natCast_add,UInt64.ofInt_add]
theorem aPQ {A b:List UInt8} {N m:Nat} (hA:A.length = N) (hb:b.length = m):aX (hw A) (A.drop (64 * (N / 64)) ++ b) ((N % 64 + m) / 64) = hw (A ++ b):=by
 rw [aDT,aDT,zlA,hA,hb]
 have h1:(A.take (64 * (N / 64))).length = 64 * (N / 64):=by rw [zlT];omega
 have h2:=mC (h:=H32) (A:=A.take (64 * (N / 64))) (T:=A.drop (64 * (N / 64)) ++ b) h1 ((N % 64 + m) / 64)
 rw [<- List.append_assoc,List.take_append_drop,wL (by omega)] at h2
 rw [<- h2]
 congr 1
 omega
structure yM (A:List UInt8) (N i c sp:Nat) (L:List UInt8):Prop where
 len:A.length = N
 ll:L.length = i + N % 64
 drop:L.drop i = A.drop (64 * (N / 64))
 cap:c = N % 64 + sp
theorem xm (b:List UInt8) (m:Nat) (hb:b.length = m) (hmax:m <= 100000000) :
  Sx.Fn Γ.P 109 [.ptr 1000 0 none,.slx 1002 0 0 m] [(1000,jb H32 .nsl 0),(1002,.mem false 0 [(m,.a8 b)])]
   (fun v M=>∃ i c sp L,yM b m i c sp L/\v = .tup []/\M = [(1000,jb (hw b) (.sl 1005 0 i (m % 64) c) (ofInt (m:Int))),(1002,.mem false 0 [(m,.a8 b)]),(1005,.mem true sp [(i + m % 64,.a8 L)])]):=by
 refine Fn.mono (aJ2 H32 b 0 m iq hb hmax) ?_
 rintro v M ⟨c,hc,hv,hM⟩
 refine ⟨64 * (m / 64),c - 64 * (m / 64),c - m,b,⟨hb,by omega,rfl,by omega⟩,hv,?_⟩
 rw [hM,aDT,hb,show m - 64 * (m / 64) = m % 64 by omega,show 64 * (m / 64) + m % 64 = m by omega]
 rw [UInt64.zero_add]
theorem xn (A b:List UInt8) (N m i c sp:Nat) (L:List UInt8) (h:yM A N i c sp L) (hb:b.length = m) (hmax:m <= 99999900) :
  Sx.Fn Γ.P 109 [.ptr 1000 0 none,.slx 1002 0 0 m] [(1000,jb (hw A) (.sl 1001 0 i (N % 64) c) (ofInt (N:Int))),(1001,.mem true sp [(i + N % 64,.a8 L)]),(1002,.mem false 0 [(m,.a8 b)])]
   (fun v M=>∃ i' c' sp' L',yM (A ++ b) (N + m) i' c' sp' L'/\v = .tup [] /\
    M = [(1000,jb (hw (A ++ b)) (.sl 1005 0 i' ((N + m) % 64) c') (ofInt ((N + m:Nat):Int))),(1001,.dead),(1002,.mem false 0 [(m,.a8 b)]),(1005,.mem true sp' [(i' + (N + m) % 64,.a8 L')])]):=by
 obtain ⟨h1,h2,h3,h4⟩:=h
 refine Fn.mono (aP2 (hw A) L b (L.drop i) (ofInt (N:Int)) i (N % 64) c sp m (tS A) h2 rfl h4 hb (by omega)) ?_
 rintro v M ⟨c',hc,hv,hM⟩
 have hl:(L.drop i).length = N % 64:=by rw [zlD];omega
 rw [hl] at hM hc
 rw [h3] at hM
 refine ⟨64 * ((N % 64 + m) / 64),c' - 64 * ((N % 64 + m) / 64),c' - (N % 64 + m),A.drop (64 * (N / 64)) ++ b,⟨by rw [zlA,h1,hb],?_,?_,by omega⟩,hv,?_⟩
 ·rw [zlA,zlD,h1,hb];omega
 ·rw [drop_append,drop_append,List.drop_drop,zlD,h1]
  rw [show 64 * (N / 64) + 64 * ((N % 64 + m) / 64) = 64 * ((N + m) / 64) by omega,show 64 * ((N % 64 + m) / 64) - (N - 64 * (N / 64)) = 64 * ((N + m) / 64) - N by omega]
 ·rw [hM,aPQ h1 hb,rQ,show N % 64 + m - 64 * ((N % 64 + m) / 64) = (N + m) % 64 by omega,show 64 * ((N % 64 + m) / 64) + (N + m) % 64 = N % 64 + m by omega]
  rfl
theorem xj (A:List UInt8) (N i c sp:Nat) (L:List UInt8) (h:yM A N i c sp L) :
  Sx.Fn Γ.P 110 [.ptr 1000 0 none] [(1000,.mem false 0 [(8,.a32 (hw A)),(1,.slx 1001 0 i (N % 64)),(1,.u64 (ofInt (N:Int)))]),(1001,.mem false 0 [(i + N % 64,.a8 L)])]
   (fun v M=>v = .a8 (dy A)/\M = [(1000,.mem false 0 [(8,.a32 (hw A)),(1,.slx 1001 0 i (N % 64)),(1,.u64 (ofInt (N:Int)))]),(1001,.mem false 0 [(i + N % 64,.a8 L)])]):=by
 obtain ⟨h1,h2,h3,h4⟩:=h
 have e:(L.drop i).take (N % 64) = A.drop (64 * (N / 64)):=by
  rw [h3,take_of_length_le]
  rw [zlD,h1];omega
 refine Fn.mono (aQH (hw A) L (A.drop (64 * (N / 64))) (ofInt (N:Int)) (i + N % 64) i (N % 64) (tS A) h2 (le_refl _) e (by omega)) ?_
 rintro v M ⟨hv,hM⟩
 refine ⟨?_,hM⟩
 rw [hv,nO,h1,<- h1,<- aDT,h1,UInt64.zero_add]
def aJW (key:List UInt8):List UInt8:=if 64 < key.length then dy key else key
def yv (kb:List UInt8):List UInt8:=kb ++ replicate (64 - kb.length) 0
@[irreducible] def pX (key text:List UInt8):List UInt8:=
 dy ((yv (aJW key)).map (· ^^^ 92) ++ dy ((yv (aJW key)).map (· ^^^ 54) ++ text))
theorem aDU (key text:List UInt8):pX key text = dy ((yv (aJW key)).map (· ^^^ 92) ++ dy ((yv (aJW key)).map (· ^^^ 54) ++ text)):=by unfold pX;rfl
theorem dL (key text:List UInt8):(pX key text).length = 32:=by rw [aDU];exact cV _
theorem vo (key:List UInt8):(aJW key).length <= 64:=by
 unfold aJW;split
 ·rw [cV];omega
 ·omega
theorem nf {kb:List UInt8} (h:kb.length <= 64):(yv kb).length = 64:=by unfold yv;rw [zlA,length_replicate];omega
def xoS (p:List UInt8) (c:UInt8):Nat->List UInt8
 | 0=>p
 | i + 1=>(xoS p c i).set i ((xoS p c i).getD i 0 ^^^ c)
theorem eU (p:List UInt8) (c:UInt8):∀ i,(xoS p c i).length = p.length
 | 0=>rfl
 | i + 1=>by simp only [xoS,length_set,eU p c i]
theorem aA1 (p:List UInt8) (c:UInt8):∀ i,i <= p.length->∀ j,(xoS p c i)[j]? = if j < i then (p[j]?).map (· ^^^ c) else p[j]?
 | 0,_,j=>by rw [if_neg (by omega)];rfl
 | i + 1,h,j=>by
  have ih:=aA1 p c i (by omega)
  simp only [xoS]
  by_cases hj:i = j
  ·subst hj
   rw [List.getElem?_set_self (by rw [eU];omega),if_pos (by omega),getD_eq_getElem?_getD,ih i,if_neg (by omega),List.getElem?_eq_getElem (by omega)]
   rfl
  ·rw [List.getElem?_set_ne hj,ih j]
   by_cases h1:j < i
   ·rw [if_pos h1,if_pos (by omega)]
   ·rw [if_neg h1,if_neg (by omega)]
theorem qu (p:List UInt8) (c:UInt8):xoS p c p.length = p.map (· ^^^ c):=by
 apply List.ext_getElem?
 intro j
 rw [aA1 p c p.length (le_refl _),List.getElem?_map]
 split
 ·rfl
 ·rw [List.getElem?_eq_none (by omega)];rfl
theorem rl {kb:List UInt8} (h:kb.length <= 64):yv kb = take ((none:Option Nat).getD 0) (replicate 64 0) ++ take (min (take kb.length (List.drop 0 kb)).length 64) (take kb.length (List.drop 0 kb)) ++
  List.drop ((none:Option Nat).getD 0 + min (take kb.length (List.drop 0 kb)).length 64) (replicate 64 0):=by
 rw [drop_zero,List.take_length,Nat.min_eq_left h,List.take_length,getD_none,List.take_zero,nil_append,zero_add,List.drop_replicate]
 rfl
theorem aRU (key text:List UInt8) (n m:Nat) (hk:key.length = n) (ht:text.length = m) (hn:n <= 50000000) (hm:m <= 50000000) :
  Sx.Fn Γ.P 52 [.slx 1000 0 0 n,.slx 1001 0 0 m] [(1000,.mem false 0 [(n,.a8 key)]),(1001,.mem false 0 [(m,.a8 text)])]
   (fun v M=>v = .a8 (pX key text)/\M = [(1000,.mem false 0 [(n,.a8 key)]),(1001,.mem false 0 [(m,.a8 text)])]):=by
 refine ci [4] (Γ:=Γ) (fn:=Tryz.f52) rfl rfl rfl rfl ?_
 have hS:=aT8 key n hk (by omega)
 have hsl:=cV key
 have hH:=aDU key text
 have hHl:=dL key text
 have hkb:=vo key
 repeat refine sd ?_
 refine zB.intro (fun hc=>?_) (fun hc=>?_)
 ·have hc:(n:Int) > 64:=hc
  have hkk:aJW key = dy key:=if_pos (by omega)
  rw [hkk] at hH hkb
  clear hkk
  generalize dy key = kb at hS hsl hH hkb
  repeat refine sd ?_
  refine Call.intro hS [(1002,(1000,0,none))] rfl fc rfl fc rfl ?_
  rintro _ _ ⟨rfl,rfl⟩
  repeat refine sd ?_
  refine Cut.intro (σ:=Unit) (fun _=>True) (fun _=>([(0,.slx 400 0 0 kb.length),(1,.slx 1001 0 0 m),(4,.ptr 4 0 none)],
   [(1000,.mem false 0 [(n,.a8 key)]),(1001,.mem false 0 [(m,.a8 text)]),(400,.mem false 0 [(kb.length,.a8 kb)]),(4,.mem true 0 [(32,.a8 (replicate 32 0))])])) () trivial ?_ ?_
  ·refine Le.intro [(400,(5,0,none))] rfl fc rfl fc rfl
  rintro _ _
  obtain ⟨P,hP⟩:∃ x,x = yv kb:=⟨_,rfl⟩
  have hPl:P.length = 64:=by rw [hP,nf hkb]
  repeat refine sd ?_
  refine ac.intro (σ:=Nat) (fun i=>i <= 64)
   (fun i=>([(1,.slx 1001 0 0 m),(4,.ptr 4 0 none),(6,.ptr 6 0 none),(7,.ptr 7 0 none),(23,.i .i64 i)],
    [(1000,.mem false 0 [(n,.a8 key)]),(1001,.mem false 0 [(m,.a8 text)]),(4,.mem true 0 [(32,.a8 (replicate 32 0))]),(6,.mem true 0 [(64,.a8 (xoS P 54 i))]),(7,.mem true 0 [(64,.a8 (xoS P 92 i))])])) (fun i=>64 - i) 0 (zero_le _) ?_ ?_
  ·have hz1:xoS P 54 0 = yv kb:=hP
   have hz2:xoS P 92 0 = yv kb:=hP
   refine Le.intro [] rfl ?_ rfl ?_ rfl
   ·exact fc
   ·repeat' first|exact trivial|refine zA.app ?_ ?_|refine zA.zd ?_ ?_|refine zA.cons ?_ ?_|exact fc|fail
    ·exact hz1.trans (rl hkb)
    ·exact hz2.trans (rl hkb)
  rintro i hi
  have hx1:=eU P 54 i
  have hx2:=eU P 92 i
  refine zB.intro (fun hc=>?_) (fun hc=>?_)
  ·have hc:(i:Int) < 64:=hc
   have hy1:xoS P 54 (i + 1) = (xoS P 54 i).set i ((xoS P 54 i).getD i 0 ^^^ 54):=rfl
   have hy2:xoS P 92 (i + 1) = (xoS P 92 i).set i ((xoS P 92 i).getD i 0 ^^^ 92):=rfl
   generalize xoS P 54 i = X1 at *
   generalize xoS P 92 i = X2 at *
   repeat refine sdn ?_
   refine ⟨i + 1,by omega,by omega,Le.intro [] rfl ?_ rfl ?_ rfl⟩
   ·exact fc
   ·exact fcn
  ·have h64:i = 64:=by have hc:¬ (i:Int) < 64:=hc;omega
   have hm1:=qu P 54
   have hm2:=qu P 92
   rw [hPl,<- h64] at hm1 hm2
   rw [<- hP,<- hm1,<- hm2] at hH
   rw [hPl] at hx1 hx2
   generalize xoS P 54 i = X1 at *
   generalize xoS P 92 i = X2 at *
   clear hm1 hm2 h64 hc
   have hN1:=xm X1 64 hx1 (by omega)
   have hN2:=xm X2 64 hx2 (by omega)
   refine Call.intro aD8 [(1001,(501,0,none))] rfl trivial rfl trivial rfl ?_
   rintro _ _ ⟨rfl,rfl⟩
   repeat refine sd ?_
   refine Call.intro hN1 [(1000,(501,0,none)),(1002,(6,0,none)),(1005,(502,0,none))] rfl fc rfl fc rfl ?_
   rintro v M' ⟨j1,c1,p1,L1,ok1,rfl,rfl⟩
   have hC1:=xn X1 text 64 m j1 c1 p1 L1 ok1 ht (by omega)
   repeat refine sd ?_
   refine Call.intro hC1 [(1000,(501,0,none)),(1001,(502,0,none)),(1002,(1001,0,none)),(1005,(503,0,none))] rfl fc rfl fc rfl ?_
   rintro v M' ⟨j2,c2,p2,L2,ok2,rfl,rfl⟩
   have hS2:=xj (X1 ++ text) (64 + m) j2 c2 p2 L2 ok2
   have hs2:=cV (X1 ++ text)
   generalize dy (X1 ++ text) = in2 at hS2 hs2 hH
   repeat refine sd ?_
   refine Call.intro hS2 [(1000,(501,0,none)),(1001,(503,0,none))] rfl fc rfl fc rfl ?_
   rintro _ _ ⟨rfl,rfl⟩
   repeat refine sd ?_
   refine Call.intro aD8 [(1001,(511,0,none))] rfl trivial rfl trivial rfl ?_
   rintro _ _ ⟨rfl,rfl⟩
   repeat refine sd ?_
   refine Call.intro hN2 [(1000,(511,0,none)),(1002,(7,0,none)),(1005,(512,0,none))] rfl fc rfl fc rfl ?_
   rintro v M' ⟨j3,c3,p3,L3,ok3,rfl,rfl⟩
   have hC3:=xn X2 in2 64 32 j3 c3 p3 L3 ok3 hs2 (by omega)
   repeat refine sd ?_
   refine Call.intro hC3 [(1000,(511,0,none)),(1001,(512,0,none)),(1002,(10,0,none)),(1005,(513,0,none))] rfl fc rfl fc rfl ?_
   rintro v M' ⟨j4,c4,p4,L4,ok4,rfl,rfl⟩
   have hS4:=xj (X2 ++ in2) (64 + 32) j4 c4 p4 L4 ok4
   rw [<- hH] at hS4
   generalize pX key text = out at hS4 hHl
   repeat refine sd ?_
   refine Call.intro hS4 [(1000,(511,0,none)),(1001,(513,0,none))] rfl fc rfl fc rfl ?_
   rintro _ _ ⟨rfl,rfl⟩
   repeat refine sd ?_
   refine Ret.intro (.a8 out) [(1000,.mem false 0 [(n,.a8 key)]),(1001,.mem false 0 [(m,.a8 text)])] [] rfl fc ⟨rfl,rfl⟩ rfl fc rfl fc rfl
 ·have hc:¬ (n:Int) > 64:=hc
  have hkk:aJW key = key:=if_neg (by omega)
  rw [hkk] at hH hkb
  clear hkk
  refine Cut.intro (σ:=Unit) (fun _=>True) (fun _=>([(0,.slx 400 0 0 key.length),(1,.slx 1001 0 0 m),(4,.ptr 4 0 none)],
   [(1000,.mem false 0 [(n,.a8 key)]),(1001,.mem false 0 [(m,.a8 text)]),(400,.mem false 0 [(key.length,.a8 key)]),(4,.mem true 0 [(32,.a8 (replicate 32 0))])])) () trivial ?_ ?_
  ·refine Le.intro [(400,(1000,0,none))] rfl fc rfl fc rfl
  rintro _ _
  obtain ⟨P,hP⟩:∃ x,x = yv key:=⟨_,rfl⟩
  have hPl:P.length = 64:=by rw [hP,nf hkb]
  repeat refine sd ?_
  refine ac.intro (σ:=Nat) (fun i=>i <= 64)
   (fun i=>([(1,.slx 1001 0 0 m),(4,.ptr 4 0 none),(6,.ptr 6 0 none),(7,.ptr 7 0 none),(23,.i .i64 i)],
    [(1000,.mem false 0 [(n,.a8 key)]),(1001,.mem false 0 [(m,.a8 text)]),(4,.mem true 0 [(32,.a8 (replicate 32 0))]),(6,.mem true 0 [(64,.a8 (xoS P 54 i))]),(7,.mem true 0 [(64,.a8 (xoS P 92 i))])])) (fun i=>64 - i) 0 (zero_le _) ?_ ?_
  ·have hz1:xoS P 54 0 = yv key:=hP
   have hz2:xoS P 92 0 = yv key:=hP
   refine Le.intro [] rfl ?_ rfl ?_ rfl
   ·exact fc
   ·repeat' first|exact trivial|refine zA.app ?_ ?_|refine zA.zd ?_ ?_|refine zA.cons ?_ ?_|exact fc|fail
    ·exact hz1.trans (rl hkb)
    ·exact hz2.trans (rl hkb)
  rintro i hi
  have hx1:=eU P 54 i
  have hx2:=eU P 92 i
  refine zB.intro (fun hc=>?_) (fun hc=>?_)
  ·have hc:(i:Int) < 64:=hc
   have hy1:xoS P 54 (i + 1) = (xoS P 54 i).set i ((xoS P 54 i).getD i 0 ^^^ 54):=rfl
   have hy2:xoS P 92 (i + 1) = (xoS P 92 i).set i ((xoS P 92 i).getD i 0 ^^^ 92):=rfl
   generalize xoS P 54 i = X1 at *
   generalize xoS P 92 i = X2 at *
   repeat refine sdn ?_
   refine ⟨i + 1,by omega,by omega,Le.intro [] rfl ?_ rfl ?_ rfl⟩
   ·exact fc
   ·exact fcn
  ·have h64:i = 64:=by have hc:¬ (i:Int) < 64:=hc;omega
   have hm1:=qu P 54
   have hm2:=qu P 92
   rw [hPl,<- h64] at hm1 hm2
   rw [<- hP,<- hm1,<- hm2] at hH
   rw [hPl] at hx1 hx2
   generalize xoS P 54 i = X1 at *
   generalize xoS P 92 i = X2 at *
   clear hm1 hm2 h64 hc
   have hN1:=xm X1 64 hx1 (by omega)
   have hN2:=xm X2 64 hx2 (by omega)
   refine Call.intro aD8 [(1001,(501,0,none))] rfl trivial rfl trivial rfl ?_
   rintro _ _ ⟨rfl,rfl⟩
   repeat refine sd ?_
   refine Call.intro hN1 [(1000,(501,0,none)),(1002,(6,0,none)),(1005,(502,0,none))] rfl fc rfl fc rfl ?_
   rintro v M' ⟨j1,c1,p1,L1,ok1,rfl,rfl⟩
   have hC1:=xn X1 text 64 m j1 c1 p1 L1 ok1 ht (by omega)
   repeat refine sd ?_
   refine Call.intro hC1 [(1000,(501,0,none)),(1001,(502,0,none)),(1002,(1001,0,none)),(1005,(503,0,none))] rfl fc rfl fc rfl ?_
   rintro v M' ⟨j2,c2,p2,L2,ok2,rfl,rfl⟩
   have hS2:=xj (X1 ++ text) (64 + m) j2 c2 p2 L2 ok2
   have hs2:=cV (X1 ++ text)
   generalize dy (X1 ++ text) = in2 at hS2 hs2 hH
   repeat refine sd ?_
   refine Call.intro hS2 [(1000,(501,0,none)),(1001,(503,0,none))] rfl fc rfl fc rfl ?_
   rintro _ _ ⟨rfl,rfl⟩
   repeat refine sd ?_
   refine Call.intro aD8 [(1001,(511,0,none))] rfl trivial rfl trivial rfl ?_
   rintro _ _ ⟨rfl,rfl⟩
   repeat refine sd ?_
   refine Call.intro hN2 [(1000,(511,0,none)),(1002,(7,0,none)),(1005,(512,0,none))] rfl fc rfl fc rfl ?_
   rintro v M' ⟨j3,c3,p3,L3,ok3,rfl,rfl⟩
   have hC3:=xn X2 in2 64 32 j3 c3 p3 L3 ok3 hs2 (by omega)
   repeat refine sd ?_
   refine Call.intro hC3 [(1000,(511,0,none)),(1001,(512,0,none)),(1002,(10,0,none)),(1005,(513,0,none))] rfl fc rfl fc rfl ?_
   rintro v M' ⟨j4,c4,p4,L4,ok4,rfl,rfl⟩
   have hS4:=xj (X2 ++ in2) (64 + 32) j4 c4 p4 L4 ok4
   rw [<- hH] at hS4
   generalize pX key text = out at hS4 hHl
   repeat refine sd ?_
   refine Call.intro hS4 [(1000,(511,0,none)),(1001,(513,0,none))] rfl fc rfl fc rfl ?_
   rintro _ _ ⟨rfl,rfl⟩
   repeat refine sd ?_
   refine Ret.intro (.a8 out) [(1000,.mem false 0 [(n,.a8 key)]),(1001,.mem false 0 [(m,.a8 text)])] [] rfl fc ⟨rfl,rfl⟩ rfl fc rfl fc rfl
def hkT (p info:List UInt8):Nat->List UInt8
 | 0=>[]
 | k + 1=>pX p (hkT p info k ++ info ++ [UInt8.ofNat (k + 1)])
def hkO (p info:List UInt8):Nat->List UInt8
 | 0=>[]
 | k + 1=>hkO p info k ++ hkT p info (k + 1)
theorem lK (p info:List UInt8):∀ k,(hkT p info (k + 1)).length = 32:=fun k=>dL _ _
theorem aPR (p info:List UInt8):∀ k,(hkT p info k).length <= 32
 | 0=>by simp [hkT]
 | k + 1=>by rw [lK];omega
theorem lQ (p info:List UInt8):∀ k,(hkO p info k).length = 32 * k
 | 0=>rfl
 | k + 1=>by simp only [hkO,zlA,lQ p info k,lK];omega
theorem u9 (k:Nat):UInt8.ofNat (k + 1) + UInt8.ofNat 1 = UInt8.ofNat (k + 1 + 1):=(UInt8.ofNat_add _ _).symm
theorem aUA (salt from_ info:List UInt8) (a b c n:Nat) (ha:salt.length = a) (hb:from_.length = b) (hc:info.length = c) (la:a <= 1000000) (lb:b <= 1000000) (lc:c <= 1000000) (hn:n <= 8160) :
  Sx.Fn Γ.P 104 [.slx 1000 0 0 a,.slx 1001 0 0 b,.slx 1002 0 0 c,.i .i64 n] [(1000,.mem false 0 [(a,.a8 salt)]),(1001,.mem false 0 [(b,.a8 from_)]),(1002,.mem false 0 [(c,.a8 info)])]
   (fun v M=>∃ sp,v = .tup [.sl 1004 0 0 n n,.tt]/\M = [(1000,.mem false 0 [(a,.a8 salt)]),(1001,.mem false 0 [(b,.a8 from_)]),(1002,.mem false 0 [(c,.a8 info)]),
    (1004,.mem true sp [(32 * ((n + 31) / 32),.a8 (hkO (pX salt from_) info ((n + 31) / 32)))])]):=by
 have hP:=aRU salt from_ a b ha hb (by omega) (by omega)
 have hpl:=dL salt from_
 generalize pX salt from_ = p at hP hpl
 refine aF (Γ:=Γ) (fn:=Tryz.f104) rfl rfl rfl rfl ?_
 refine zB.intro (fun h=>absurd h (by omega)) (fun _=>?_)
 refine zB.intro (fun h=>absurd h (by omega)) (fun _=>?_)
 refine Call.intro hP [(1000,(1000,0,none)),(1001,(1001,0,none))] rfl fc rfl fc rfl ?_
 rintro _ _ ⟨rfl,rfl⟩
 repeat refine sd ?_
 refine ac.intro (σ:=Nat × Nat) (fun s=>s.1 <= (n + 31) / 32/\32 * s.1 <= s.2)
  (fun s=>([(2,.slx 1002 0 0 c),(3,.i .i64 n),(10,.ptr 10 0 none),(11,.sl 204 0 0 (32 * s.1) s.2),(12,.sl 203 0 0 (hkT p info s.1).length (hkT p info s.1).length),(13,.u8 (UInt8.ofNat (s.1 + 1)))],
   [(1000,.mem false 0 [(a,.a8 salt)]),(1001,.mem false 0 [(b,.a8 from_)]),(1002,.mem false 0 [(c,.a8 info)]),(10,.mem true 0 [(32,.a8 p)]),
    (203,.mem true 0 [((hkT p info s.1).length,.a8 (hkT p info s.1))]),(204,.mem true (s.2 - 32 * s.1) [(32 * s.1,.a8 (hkO p info s.1))])])) (fun s=>(n + 31) / 32 - s.1) (0,n + 32) ⟨zero_le _,zero_le _⟩ ?_ ?_
 ·refine Le.ghost [.own 203 [(0,.a8 [])]] [(12,203)] [(204,(27,0,none))] rfl ⟨rfl,rfl,trivial⟩ rfl rfl fc rfl fc rfl
 rintro ⟨k,cc⟩ ⟨hk,hcc⟩
 have hk:k <= (n + 31) / 32:=hk
 have hcc:32 * k <= cc:=hcc
 have htl:=aPR p info k
 have hol:=lQ p info k
 refine zB.intro (fun hq=>?_) (fun hq=>?_)
 ·have hq:((32 * k:Nat):Int) < n:=hq
  have hs1:hkT p info (k + 1) = pX p (hkT p info k ++ info ++ [UInt8.ofNat (k + 1)]):=rfl
  have hs2:hkO p info (k + 1) = hkO p info k ++ hkT p info (k + 1):=rfl
  have htl1:=lK p info k
  have hi8:=u9 k
  have hHt:=aRU p (hkT p info k ++ info ++ [UInt8.ofNat (k + 1)]) 32 ((hkT p info k).length + c + 1) hpl (by rw [zlA,zlA,hc];rfl) (by omega) (by omega)
  rw [<- hs1] at hHt
  generalize hT1:hkT p info (k + 1) = T1 at *
  generalize hTl:(hkT p info k).length = tl at *
  generalize hkT p info k = T0 at *
  generalize hX:T0 ++ info ++ [UInt8.ofNat (k + 1)] = X at hHt
  have hX2:X = [] ++ take tl (List.drop 0 T0) ++ take c (List.drop 0 info) ++ take 1 (List.drop 0 [UInt8.ofNat (k + 1)]):=by
   rw [drop_zero,drop_zero,drop_zero,take_of_length_le (by omega),take_of_length_le (by omega),nil_append,<- hX];rfl
  clear hs1 hX
  repeat refine sd ?_
  refine fun c1 hc1=>?_
  refine fun c2 hc2=>?_
  refine fun c3 hc3=>?_
  have hc3:tl + c + 1 <= c3:=by have:0 + tl + c + 1 <= c3:=hc3;omega
  repeat refine sd ?_
  refine Call.intro hHt [(1000,(10,0,none)),(1001,(41,0,none))] rfl ?_ rfl ?_ rfl ?_
  ·exact fc
  ·repeat' first|exact trivial|refine zA.app ?_ ?_|refine zA.zd ?_ ?_|refine zA.cons ?_ ?_|exact fc|fail
   all_goals exact hX2
  rintro _ _ ⟨rfl,rfl⟩
  repeat refine sd ?_
  refine fun c4 hc4=>?_
  have hc4:32 * k + 32 <= c4:=hc4
  repeat refine sd ?_
  have hT2:take 32 T1 = T1:=take_of_length_le (by omega)
  refine ⟨(k + 1,c4),⟨by omega,by show 32 * (k + 1) <= c4;omega⟩,by show (n + 31) / 32 - (k + 1) < (n + 31) / 32 - k;omega,Le.intro [(203,(15,0,none)),(204,(48,0,none))] rfl ?_ rfl ?_ rfl⟩
  ·exact fc
  ·repeat' (first | (show zA _;first | exact trivial|refine zA.app ?_ ?_|refine zA.zd ?_ ?_|refine zA.cons ?_ ?_) | with_reducible rfl | with_reducible assumption | omega | (simp only [bv,drop_zero,rng,Ix.val,zQ,addI,szs] <;> omega) | (simp only [bv,drop_zero,rng,Ix.val,zIn,zme,zQ,addI,getD_none,getD_some,zlT,zlD,zlA,length_set,length_replicate,szs, *] <;> omega) | (simp only [Ix.val];with_reducible assumption) | exact toNat_lt _ | (apply Eq.trans;(with_reducible assumption);exact rfl) | exact rfl | exact fun _ _=>rfl)
 ·have hq:¬ ((32 * k:Nat):Int) < n:=hq
  have hkk:k = (n + 31) / 32:=by omega
  subst hkk
  repeat refine sd ?_
  refine Ret.intro (.tup [.sl 1004 0 0 n n,.tt]) [(1000,.mem false 0 [(a,.a8 salt)]),(1001,.mem false 0 [(b,.a8 from_)]),(1002,.mem false 0 [(c,.a8 info)]),
    (1004,.mem true (cc - 32 * ((n + 31) / 32)) [(32 * ((n + 31) / 32),.a8 (hkO p info ((n + 31) / 32)))])] [(1004,(204,0,none))] rfl fc ⟨_,rfl,rfl⟩ rfl fc rfl fc rfl
def orS (a b:List UInt8):Nat->UInt8
 | 0=>0
 | i + 1=>orS a b i ||| (a.getD i 0 ^^^ b.getD i 0)
theorem aG0 {x y:UInt8}:x ||| y = 0 ↔ x = 0/\y = 0:=by
 constructor
 ·intro h
  have h1:(x ||| y).toNat = 0:=by rw [h];rfl
  rw [UInt8.toNat_or] at h1
  have h2:x.toNat = 0:=by
   have:x.toNat <= x.toNat ||| y.toNat:=Nat.left_le_or;omega
  have h3:y.toNat = 0:=by
   have:y.toNat <= x.toNat ||| y.toNat:=Nat.right_le_or;omega
  exact ⟨UInt8.toNat_inj.1 h2,UInt8.toNat_inj.1 h3⟩
 ·rintro ⟨rfl,rfl⟩;rfl
theorem aA0 {x y:UInt8}:x ^^^ y = 0 ↔ x = y:=UInt8.xor_eq_zero_iff
theorem xD (a b:List UInt8):∀ i,orS a b i = 0 ↔ ∀ j,j < i->a.getD j 0 = b.getD j 0
 | 0=>⟨fun _ j h=>absurd h (Nat.not_lt_zero _),fun _=>rfl⟩
 | i + 1=>by
  simp only [orS]
  rw [aG0,xD a b i,aA0]
  constructor
  ·rintro ⟨h1,h2⟩ j hj
   rcases Nat.lt_or_ge j i with h | h
   ·exact h1 j h
   ·obtain rfl:j = i:=by omega
    exact h2
  ·exact fun h=>⟨fun j hj=>h j (by omega),h i (by omega)⟩
theorem aOX {a b:List UInt8} {n:Nat} (ha:a.length = n) (hb:b.length = n):orS a b n = 0 ↔ a = b:=by
 rw [xD]
 constructor
 ·intro h
  apply List.ext_getElem (by omega)
  intro i h1 h2
  have:=h i (by omega)
  rwa [getD_eq_getElem?_getD,getD_eq_getElem?_getD,List.getElem?_eq_getElem h1,List.getElem?_eq_getElem h2] at this
 ·intro h j _;rw [h]
theorem aWN (a b:List UInt8) (n m:Nat) (ha:a.length = n) (hb:b.length = m) (hmax:n <= 9223372036854775807):Sx.Fn Γ.P 53 [.slx 1000 0 0 n,.slx 1001 0 0 m] [(1000,.mem false 0 [(n,.a8 a)]),(1001,.mem false 0 [(m,.a8 b)])]
  (fun v M=>v = .bool (a = b)/\M = [(1000,.mem false 0 [(n,.a8 a)]),(1001,.mem false 0 [(m,.a8 b)])]):=by
 refine aF (Γ:=Γ) (fn:=Tryz.f53) rfl rfl rfl rfl ?_
 refine zB.intro (fun h=>?_) (fun h=>?_)
 ·have h:¬ (n:Int) = m:=h
  refine Ret.intro (.bool (a = b)) [(1000,.mem false 0 [(n,.a8 a)]),(1001,.mem false 0 [(m,.a8 b)])] [] rfl trivial ⟨rfl,rfl⟩ rfl ?_ rfl ?_ rfl
  ·show ¬ a = b
   intro e
   rw [e] at ha
   omega
  ·exact fc
 ·have h:¬ ¬ (n:Int) = m:=h
  obtain rfl:n = m:=by omega
  repeat refine sd ?_
  refine ac.intro (σ:=Nat) (fun i=>i <= n)
   (fun i=>([(0,.slx 1000 0 0 n),(1,.slx 1001 0 0 n),(5,.u8 (orS a b i)),(13,.i .i64 n),(14,.i .i64 i)],[(1000,.mem false 0 [(n,.a8 a)]),(1001,.mem false 0 [(n,.a8 b)])])) (fun i=>n - i) 0 (zero_le _) ?_ ?_
  ·have hz:orS a b 0 = 0:=rfl
   refine Le.intro [] rfl fc rfl fc rfl
  rintro i hi
  refine zB.intro (fun hc=>?_) (fun hc=>?_)
  ·have hc:(i:Int) < n:=hc
   have hs:orS a b (i + 1) = orS a b i ||| (a.getD i 0 ^^^ b.getD i 0):=rfl
   refine aI.intro [[],[],[],[1,2],[1,2,3],[],[],[5,6],[5,6,7],[1,2,3,4,5,6,7,8],fi,fy] mR (by kernel_rfl) ?_
   repeat refine sdn ?_
   refine ⟨i + 1,by omega,by omega,Le.intro [] rfl ?_ rfl ?_ rfl⟩
   ·exact fcn
   ·exact fc
  ·obtain rfl:i = n:=by have hc:¬ (i:Int) < n:=hc;omega
   have he:=aOX ha hb
   repeat refine sd ?_
   refine Ret.intro (.bool (a = b)) [(1000,.mem false 0 [(i,.a8 a)]),(1001,.mem false 0 [(i,.a8 b)])] [] rfl trivial ⟨rfl,rfl⟩ rfl ?_ rfl ?_ rfl
   ·exact he.symm
   ·exact fc
def r1 (a b:Nat):Nat->Nat
 | 0=>0
 | i + 1=>if b / 2 ^ i &&& 1 = 1 then r1 a b i ^^^ a * 2 ^ i else r1 a b i
def r2 (p:Nat):Nat->Nat
 | 0=>p
 | k + 1=>if r2 p k / 2 ^ (14 - k) &&& 1 = 1 then r2 p k ^^^ 283 * 2 ^ (6 - k) else r2 p k
def W4 (l:List Nat):Prop:=∃ a b c d,l = [a,b,c,d]/\a < 256/\b < 256/\c < 256/\d < 256
theorem W4.lt {t:List Nat} (h:W4 t):∀ j,t.getD j 0 < 256:=by
 obtain ⟨a,b,c,d,rfl,h1,h2,h3,h4⟩:=h
 intro j
 match j with
 | 0=>exact h1
 | 1=>exact h2
 | 2=>exact h3
 | 3=>exact h4
 | _ + 4=>exact Nat.zero_lt_succ _
theorem W4.length {t:List Nat} (h:W4 t):t.length = 4:=by
 obtain ⟨a,b,c,d,rfl,_⟩:=h;rfl
def B16 (l:List Nat):Prop:=l.length = 16/\∀ j,l.getD j 0 < 256
theorem B16.zero:B16 (replicate 16 0):=⟨rfl,fun j=>by
 rw [getD_eq_getElem?_getD,List.getElem?_replicate];split <;> exact Nat.zero_lt_succ _⟩
theorem B16.set {l:List Nat} (h:B16 l) (i:Nat) {x:Nat} (hx:x < 256):B16 (l.set i x):=⟨by rw [length_set];exact h.1,fun j=>by
 rw [getD_eq_getElem?_getD,List.getElem?_set]
 split
 ·split
  ·exact hx
  ·exact Nat.zero_lt_succ _
 ·rw [<- getD_eq_getElem?_getD];exact h.2 j⟩
structure OkW (W:List (List Nat)):Prop where
 ok:∀ q,q < 60->W4 (W.getD q [])
theorem OkW.lt {W:List (List Nat)} (h:OkW W) {q:Nat} (hq:q < 60) (j:Nat):(W.getD q []).getD j 0 < 256:=(h.ok q hq).lt j
def tr (b:List UInt8):List Nat:=[(b.getD 0 0).toNat,(b.getD 4 0).toNat,(b.getD 8 0).toNat,(b.getD 12 0).toNat,(b.getD 1 0).toNat,(b.getD 5 0).toNat,(b.getD 9 0).toNat,(b.getD 13 0).toNat,(b.getD 2 0).toNat,(b.getD 6 0).toNat,(b.getD 10 0).toNat,(b.getD 14 0).toNat,(b.getD 3 0).toNat,(b.getD 7 0).toNat,(b.getD 11 0).toNat,(b.getD 15 0).toNat]
def aKZ:List UInt8:=[UInt8.ofNat 115,UInt8.ofNat 101,UInt8.ofNat 97,UInt8.ofNat 108]
@[irreducible] def kyO (key:List UInt8):List UInt8:=hkO (pX [] key) aKZ 3
theorem iZ (key:List UInt8):(kyO key).length = 96:=by unfold kyO;rw [lQ]
@[irreducible] def kyA (key:List UInt8):List UInt8:=(kyO key).take 32
@[irreducible] def kyS (key:List UInt8):List UInt8:=((kyO key).drop 32).take 32
@[irreducible] def kyG (key:List UInt8):List UInt8:=((kyO key).drop 64).take 16
theorem kv (key:List UInt8):(kyA key).length = 32:=by unfold kyA;rw [zlT,iZ];rfl
theorem ku (key:List UInt8):(kyS key).length = 32:=by unfold kyS;rw [zlT,zlD,iZ];rfl
theorem ia (key:List UInt8):(kyG key).length = 16:=by unfold kyG;rw [zlT,zlD,iZ];rfl
theorem aPI (key:List UInt8):kyA key = (kyO key).take 32:=by unfold kyA;rfl
theorem aPG (key:List UInt8):kyS key = ((kyO key).drop 32).take 32:=by unfold kyS;rfl
theorem aPH (key:List UInt8):kyG key = ((kyO key).drop 64).take 16:=by unfold kyG;rfl
theorem aEY {X r:List UInt8} {m:Nat} (h:X.length = m) (hr:r.length = m):X = take ((none:Option Nat).getD 0) r ++ take (min X.length m) X ++ List.drop ((none:Option Nat).getD 0 + min X.length m) r:=by
 rw [getD_none,List.take_zero,nil_append,h,Nat.min_self,zero_add,List.drop_of_length_le (by omega),List.append_nil,take_of_length_le (by omega)]
theorem aVD (key:List UInt8) (hk:key.length = 32):Sx.Fn Γ.P 50 [.a8 key] [] (fun v M=>v = .tup [.a8 (kyA key),.a8 (kyS key),.a8 (kyG key)]/\M = []):=by
 have hH:=aUA [] key aKZ 0 32 4 80 rfl hk rfl (by omega) (by omega) (by omega) (by omega)
 have eO:kyO key = hkO (pX [] key) aKZ ((80 + 31) / 32):=by unfold kyO;rfl
 have hl:=iZ key
 rw [<- eO] at hH
 refine aF (Γ:=Γ) (fn:=Tryz.f50) rfl rfl rfl rfl ?_
 repeat refine sd ?_
 refine Call.name [(2001,[(0,.a8 [])]),(0,[]),(0,[]),(0,[])] rfl ?_ (cz.intro hH [(1000,(2001,0,none)),(1001,(1,0,none)),(1002,(9,0,none)),(1004,(304,0,none))] rfl ?_ rfl ?_ rfl ?_)
 ·exact ⟨rfl,rfl,trivial⟩
 ·exact fc
 ·exact fc
 rintro v M' ⟨sp,rfl,rfl⟩
 dsimp only [zt,zM,zE,ren,zz,zx,zy,aS,zG,zX,ev,evL,zV,zcT,zcF,act,zP,zO,Ent.zW]
 repeat refine sd ?_
 refine aI.intro [[],[],[1],[0,1,2]] r_4 (by kernel_rfl) ?_
 repeat refine sd ?_
 refine aI.intro [[],[],[1],[0,1,2]] r_4 (by kernel_rfl) ?_
 repeat refine sd ?_
 refine aI.intro [[],[],[1],[0,1,2]] r_4 (by kernel_rfl) ?_
 repeat refine sd ?_
 refine Ret.intro (.tup [.a8 (kyA key),.a8 (kyS key),.a8 (kyG key)]) [] [] rfl ?_ ⟨rfl,rfl⟩ rfl ?_ rfl ?_ rfl
 ·exact fc
 ·have lA:=kv key
  have lS:=ku key
  have lG:=ia key
  rw [aPI] at lA ⊢
  rw [aPG] at lS ⊢
  rw [aPH] at lG ⊢
  repeat' first|exact trivial|refine zA.app ?_ ?_|refine zA.zd ?_ ?_|refine zA.cons ?_ ?_|exact fc|fail
  ·exact aEY lA rfl
  ·exact aEY lS rfl
  ·exact aEY lG rfl
 ·exact fc
@[irreducible] def seB (key plain:List UInt8):List UInt8:=bp (kyA key) (kyG key) plain ++ (pX (kyS key) (bp (kyA key) (kyG key) plain)).take 16
@[irreducible] def seS (key plain:List UInt8):List UInt8:=if plain.length <= 1024 then seB key plain else []
theorem aIZ {key plain:List UInt8} (h:plain.length <= 1024):seS key plain = seB key plain:=by unfold seS;exact if_pos h
theorem aK0 {key plain:List UInt8} (h:¬ plain.length <= 1024):seS key plain = []:=by unfold seS;exact if_neg h
theorem aB2 (key plain:List UInt8):seB key plain = bp (kyA key) (kyG key) plain ++ (pX (kyS key) (bp (kyA key) (kyG key) plain)).take 16:=by unfold seB;rfl
theorem jg {key bg plain:List UInt8} {n:Nat} (hb:bg.length = 16) (hn:plain.length = n):(bp key bg plain).length = n / 16 * 16 + 16:=by
 rw [jA key hb,hn];omega
theorem pz {key plain:List UInt8} {n:Nat} (hn:plain.length = n):(seB key plain).length = n / 16 * 16 + 32:=by
 rw [aB2,zlA,jg (ia key) hn,zlT,dL];omega
theorem aME (key plain:List UInt8) (n:Nat) (hk:key.length = 32) (hn:plain.length = n) :
  Sx.Fn Γ.P 28 [.agg [(1,.nilp)],.a8 key,.slx 1003 0 0 n] [(1003,.mem false 0 [(n,.a8 plain)])]
  (fun v M=>∃ m c,(seS key plain).length = m/\m <= c/\v = .tup [.sl 1006 0 0 m c,.bool (n <= 1024)]/\M = [(1003,.mem false 0 [(n,.a8 plain)]),(1006,.mem true (c - m) [(m,.a8 (seS key plain))])]):=by
 refine aF (Γ:=Γ) (fn:=Tryz.f28) rfl rfl rfl rfl ?_
 repeat refine sd ?_
 refine zB.intro (fun hc=>?_) (fun hc=>?_)
 ·have hc:(n:Int) > 1024:=hc
  have e:seS key plain = []:=aK0 (by omega)
  repeat refine sd ?_
  refine Ret.ghost [.own 450 [(0,.a8 [])]] [(6,450)] rfl ⟨rfl,rfl,trivial⟩ rfl (.tup [.sl 1006 0 0 0 0,.bool (n <= 1024)]) [(1003,.mem false 0 [(n,.a8 plain)]),(1006,.mem true (0 - 0) [(0,.a8 (seS key plain))])] [(1006,(450,0,none))] rfl fc ⟨0,0,by rw [e];rfl,le_refl _,rfl,rfl⟩ rfl fc rfl fc rfl
 have hc:¬ (n:Int) > 1024:=hc
 have e:=aIZ (key:=key) (show plain.length <= 1024 by omega)
 have hkl:=kv key
 have hgl:=ia key
 have hsl:=ku key
 have hL:=aWO (kyA key) (kyG key) plain n hkl hgl hn (by omega)
 obtain ⟨X,hX⟩:∃ X,bp (kyA key) (kyG key) plain = X:=⟨_,rfl⟩
 obtain ⟨N,hN⟩:∃ N,n / 16 * 16 + 16 = N:=⟨_,rfl⟩
 have hXl:X.length = N:=by rw [<- hX,<- hN,jg hgl hn]
 have eB:seS key plain = X ++ (pX (kyS key) X).take 16:=by rw [e,aB2,hX]
 rw [hX,hN] at hL
 have hml:=dL (kyS key) X
 repeat refine sd ?_
 refine zB.intro (fun hn=>absurd trivial hn) (fun _=>?_)
 repeat refine sd ?_
 refine Call.intro (aVD key hk) [] rfl fc rfl trivial rfl ?_
 rintro _ _ ⟨rfl,rfl⟩
 dsimp only [zt,zM,zE,ren,zz,zx,zy,aS,zG,zX,ev,evL,zV,zcT,zcF,act,zP,zO,Ent.zW]
 repeat refine sd ?_
 refine Call.intro hL [(1000,(1003,0,none)),(1001,(301,0,none))] rfl fc rfl fc rfl ?_
 rintro v M' ⟨c,hcc,rfl,rfl⟩
 dsimp only [zt,zM,zE,ren,zz,zx,zy,aS,zG,zX,ev,evL,zV,zcT,zcF,act,zP,zO,Ent.zW]
 repeat refine sd ?_
 refine Call.intro (aRU (kyS key) X 32 N hsl hXl (by omega) (by omega)) [(1000,(12,0,none)),(1001,(301,0,none))] rfl fc rfl fc rfl ?_
 rintro _ _ ⟨rfl,rfl⟩
 dsimp only [zt,zM,zE,ren,zz,zx,zy,aS,zG,zX,ev,evL,zV,zcT,zcF,act,zP,zO,Ent.zW]
 repeat refine sd ?_
 refine fun c2 hc2=>?_
 have hc2:N + 16 <= c2:=hc2
 repeat refine sd ?_
 refine Ret.intro (.tup [.sl 1006 0 0 (N + 16) c2,.bool (n <= 1024)]) [(1003,.mem false 0 [(n,.a8 plain)]),(1006,.mem true (c2 - (N + 16)) [(N + 16,.a8 (seS key plain))])] [(1006,(56,0,none))] rfl ?_ ⟨N + 16,c2,by rw [eB,zlA,hXl,zlT,hml];rfl,hc2,rfl,rfl⟩ rfl ?_ rfl ?_ rfl
 ·exact fc
 ·exact fc
 ·rw [eB]
  exact fc
end Go.Proofs.YtimbdhpchlakfaaGreat
