/- Walks. -/
import Derived.Test.YtllmefnbacjjcaaGreatHwSha4ToSha8
set_option linter.unusedSimpArgs false
set_option linter.unusedVariables false
set_option maxHeartbeats 4000000
open UInt64 (ofNat ofInt)
open List (take drop length_set)
open Nat (zero_le zero_add)
open Option (getD_none)
set_option maxRecDepth 100000
namespace Go.Proofs.YtllmefnbacjjcaaGreat
open Go Go.Sx
@[irreducible] def F64:List UInt64:=[ofNat 7640891576956012808,ofNat 13503953896175478587,ofNat 4354685564936845355,ofNat 11912009170470909681,ofNat 5840696475078001361,ofNat 11170449401992604703,ofNat 2270897969802886507,ofNat 6620516959819538809]
theorem aI9:F64=[ofNat 7640891576956012808,ofNat 13503953896175478587,ofNat 4354685564936845355,ofNat 11912009170470909681,ofNat 5840696475078001361,ofNat 11170449401992604703,ofNat 2270897969802886507,ofNat 6620516959819538809]:=by unfold F64;rfl
theorem aDD:F64.length=8:=by rw[aI9];rfl
abbrev kq2:List UInt64:=[ofNat 4794697086780616226,ofNat 8158064640168781261,ofNat 13096744586834688815,ofNat 16840607885511220156,ofNat 4131703408338449720,ofNat 6480981068601479193,ofNat 10538285296894168987,ofNat 12329834152419229976,ofNat 15566598209576043074,ofNat 1334009975649890238,ofNat 2608012711638119052,ofNat 6128411473006802146,ofNat 8268148722764581231,ofNat 9286055187155687089,ofNat 11230858885718282805,ofNat 13951009754708518548,ofNat 16472876342353939154,ofNat 17275323862435702243,ofNat 1135362057144423861,ofNat 2597628984639134821,ofNat 3308224258029322869,ofNat 5365058923640841347,ofNat 6679025012923562964,ofNat 8573033837759648693,ofNat 10970295158949994411,ofNat 12119686244451234320,ofNat 12683024718118986047,ofNat 13788192230050041572,ofNat 14330467153632333762,ofNat 15395433587784984357,ofNat 489312712824947311,ofNat 1452737877330783856,ofNat 2861767655752347644,ofNat 3322285676063803686,ofNat 5560940570517711597,ofNat 5996557281743188959,ofNat 7280758554555802590,ofNat 8532644243296465576,ofNat 9350256976987008742,ofNat 10552545826968843579,ofNat 11727347734174303076,ofNat 12113106623233404929,ofNat 14000437183269869457,ofNat 14369950271660146224,ofNat 15101387698204529176,ofNat 15463397548674623760,ofNat 17586052441742319658,ofNat 1182934255886127544,ofNat 1847814050463011016,ofNat 2177327727835720531,ofNat 2830643537854262169,ofNat 3796741975233480872,ofNat 4115178125766777443,ofNat 5681478168544905931,ofNat 6601373596472566643,ofNat 7507060721942968483,ofNat 8399075790359081724,ofNat 8693463985226723168,ofNat 9568029438360202098,ofNat 10144078919501101548,ofNat 10430055236837252648,ofNat 11840083180663258601,ofNat 13761210420658862357,ofNat 14299343276471374635,ofNat 14566680578165727644,ofNat 15097957966210449927,ofNat 16922976911328602910,ofNat 17689382322260857208,ofNat 500013540394364858,ofNat 748580250866718886,ofNat 1242879168328830382,ofNat 1977374033974150939,ofNat 2944078676154940804,ofNat 3659926193048069267,ofNat 4368137639120453308,ofNat 4836135668995329356,ofNat 5532061633213252278,ofNat 6448918945643986474,ofNat 6902733635092675308,ofNat 7801388544844847127]
@[irreducible] def R64:List UInt64:=kq2
theorem aI6:R64=kq2:=by unfold R64;rfl
theorem aC9:R64.length=80:=by rw[aI6];rfl
@[irreducible] def S64:List UInt64:=[ofNat 28,ofNat 34,ofNat 39,ofNat 14,ofNat 18,ofNat 41,ofNat 1,ofNat 8,ofNat 7,ofNat 19,ofNat 61,ofNat 6]
theorem aI5:S64=[ofNat 28,ofNat 34,ofNat 39,ofNat 14,ofNat 18,ofNat 41,ofNat 1,ofNat 8,ofNat 7,ofNat 19,ofNat 61,ofNat 6]:=by unfold S64;rfl
theorem aC8:S64.length=12:=by rw[aI5];rfl
def tn (x n sz:UInt64):UInt64:=
 if sz=32 then(aF x n.toNat|||aQ x (32-n).toNat)&&&ofNat 4294967295 else aF x n.toNat|||aQ x (64-n).toNat
def thS (x a b c sz:UInt64):UInt64:=tn x a sz^^^tn x b sz^^^aF x c.toNat
def thT (x a b c sz:UInt64):UInt64:=tn x a sz^^^tn x b sz^^^tn x c sz
theorem aHJ (x n sz:UInt64):Sx.Fn Γ.P 138 [.u64 x,.u64 n,.u64 sz] [] (λv _=>v= .u64 (tn x n sz)):=by
 refine aG (Γ:=Γ) (fn:=Tryz.f138) rfl rfl rfl rfl ?_
 refine zB.i ?_ ?_<;>intro h
 ·refine Ret.i (.u64 (tn x n sz)) [] [] rfl trivial rfl rfl ?_ rfl trivial rfl
  exact if_pos h
 refine Ret.i (.u64 (tn x n sz)) [] [] rfl trivial rfl rfl ?_ rfl trivial rfl
 exact if_neg h
theorem aUL (x a b c sz:UInt64):Sx.Fn Γ.P 128 [.u64 x,.u64 a,.u64 b,.u64 c,.u64 sz,.tt] [] (λv _=>v= .u64 (thS x a b c sz)):=by
 refine aG (Γ:=Γ) (fn:=Tryz.f128) rfl rfl rfl rfl ?_
 refine Call.pure (aHJ x a sz) rfl fc ?_
 rintro _ rfl
 refine Call.pure (aHJ x b sz) rfl fc ?_
 rintro _ rfl
 exact Ret.i (.u64 (thS x a b c sz)) [] [] rfl trivial rfl rfl rfl rfl trivial rfl
theorem aUK (x a b c sz:UInt64):Sx.Fn Γ.P 128 [.u64 x,.u64 a,.u64 b,.u64 c,.u64 sz,.ff] [] (λv _=>v= .u64 (thT x a b c sz)):=by
 refine aG (Γ:=Γ) (fn:=Tryz.f128) rfl rfl rfl rfl ?_
 refine Call.pure (aHJ x a sz) rfl fc ?_
 rintro _ rfl
 refine Call.pure (aHJ x b sz) rfl fc ?_
 rintro _ rfl
 refine Call.pure (aHJ x c sz) rfl fc ?_
 rintro _ rfl
 exact Ret.i (.u64 (thT x a b c sz)) [] [] rfl trivial rfl rfl rfl rfl trivial rfl
theorem aYO:Sx.Fn Γ.P 124 [] [] (λv M=>v= .sl 1001 0 0 8 8/\M=[(1001,.mem true 0 [(8,.a64 F64)])]):=by
 have hH:=aI9
 refine aG (Γ:=Γ) (fn:=Tryz.f124) rfl rfl rfl rfl ?_
 refine gB ?_
 refine Ret.i (.sl 1001 0 0 8 8) [(1001,.mem true 0 [(8,.a64 F64)])] [(1001,(1,0,none))] rfl trivial ⟨rfl,rfl⟩ rfl ?_ rfl ?_ rfl
 ·exact fc
 exact⟨rfl,rfl,hH⟩
theorem aYN:Sx.Fn Γ.P 125 [] [] (λv M=>v= .sl 1001 0 0 80 80/\M=[(1001,.mem true 0 [(80,.a64 R64)])]):=by
 have hH:=aI6
 refine aG (Γ:=Γ) (fn:=Tryz.f125) rfl rfl rfl rfl ?_
 refine gB ?_
 refine Ret.i (.sl 1001 0 0 80 80) [(1001,.mem true 0 [(80,.a64 R64)])] [(1001,(1,0,none))] rfl trivial ⟨rfl,rfl⟩ rfl ?_ rfl ?_ rfl
 ·exact fc
 exact⟨rfl,rfl,hH⟩
structure Cf where
 sz:UInt64
 mask:UInt64
 s:List UInt64
 k:List UInt64
 n:Nat
 wd:Nat
def wR (c:Cf) (all:List UInt8) (at_:Nat) (w:List UInt64) (i:Nat):Nat->List UInt64
 |0=>w
 |j+1=>(wR c all at_ w i j).set i ((wR c all at_ w i j).getD i 0*256+(all.getD (at_+c.wd*i+j) 0).toUInt64)
def wN (c:Cf) (w:List UInt64) (i:Nat):UInt64:=
 (w.getD (i-16) 0+thS (w.getD (i-15) 0) (c.s.getD 6 0) (c.s.getD 7 0) (c.s.getD 8 0) c.sz+w.getD (i-7) 0+thS (w.getD (i-2) 0) (c.s.getD 9 0) (c.s.getD 10 0) (c.s.getD 11 0) c.sz)&&&c.mask
def wRs (c:Cf) (all:List UInt8) (at_:Nat):Nat->List UInt64
 |0=>List.replicate c.n 0
 |i+1=>if 16<=i then(wRs c all at_ i).set i (wN c (wRs c all at_ i) i)else wR c all at_ (wRs c all at_ i) i c.wd
def aV4 (c:Cf) (v:List UInt64) (k w:UInt64):UInt64:=
 v.getD 7 0+thT (v.getD 4 0) (c.s.getD 3 0) (c.s.getD 4 0) (c.s.getD 5 0) c.sz+(v.getD 4 0&&&v.getD 5 0^^^(c.mask^^^v.getD 4 0)&&&v.getD 6 0)+k+w
def aWP (c:Cf) (v:List UInt64):UInt64:=
 thT (v.getD 0 0) (c.s.getD 0 0) (c.s.getD 1 0) (c.s.getD 2 0) c.sz+(v.getD 0 0&&&v.getD 1 0^^^v.getD 0 0&&&v.getD 2 0^^^v.getD 1 0&&&v.getD 2 0)
def rdR (c:Cf) (v:List UInt64) (k w:UInt64):List UInt64:=
 [(aV4 c v k w+aWP c v)&&&c.mask,v.getD 0 0,v.getD 1 0,v.getD 2 0,(v.getD 3 0+aV4 c v k w)&&&c.mask,v.getD 4 0,v.getD 5 0,v.getD 6 0]
def xI (c:Cf) (w v:List UInt64):Nat->List UInt64
 |0=>v
 |i+1=>rdR c (xI c w v i) (c.k.getD i 0) (w.getD i 0)
def hR (c:Cf) (h v:List UInt64):Nat->List UInt64
 |0=>h
 |i+1=>(hR c h v i).set i (((hR c h v i).getD i 0+v.getD i 0)&&&c.mask)
def aSG (c:Cf) (h:List UInt64) (all:List UInt8) (at_:Nat):List UInt64:=hR c h (xI c (wRs c all at_ c.n) h c.n) 8
def nG (c:Cf) (h:List UInt64) (all:List UInt8):Nat->List UInt64
 |0=>h
 |q+1=>aSG c (nG c h all q) all (16*c.wd*q)
def tJ (wd2:Nat) (t:List UInt8) (n:UInt64):Nat->List UInt8
 |0=>t
 |k+1=>tJ wd2 t n k++[if wd2-1-k<8 then(aF (aQ n 3) (8*(wd2-1-k))).toUInt8 else 0]
def oR (wd:Nat) (x:UInt64) (out:List UInt8):Nat->List UInt8
 |0=>out
 |j+1=>oR wd x out j++[(aF x (8*(wd-1-j))).toUInt8]
def wH (wd:Nat) (h:List UInt64):Nat->List UInt8
 |0=>[]
 |i+1=>oR wd (h.getD i 0) (wH wd h i) wd
def aSI (wd:Nat) (b:List UInt8) (z:Nat):List UInt8:=tJ (2*wd) (qi b z) (ofInt (b.length:Int)) (2*wd)
def vK (c:Cf) (h:List UInt64) (b:List UInt8) (z:Nat):List UInt8:=wH c.wd (nG c h (aSI c.wd b z) ((aSI c.wd b z).length/(16*c.wd))) 8
theorem oW (c:Cf) (all:List UInt8) (a:Nat) (w:List UInt64) (i:Nat):∀j,(wR c all a w i j).length=w.length
 |0=>rfl
 |j+1=>by simp only[wR,length_set,oW c all a w i j]
theorem mG (c:Cf) (all:List UInt8) (a:Nat):∀i,(wRs c all a i).length=c.n
 |0=>List.length_replicate
 |i+1=>by
  simp only[wRs]
  split
  ·rw[length_set,mG c all a i]
  rw[oW,mG c all a i]
theorem xH (c:Cf) (w:List UInt64) {v:List UInt64} (h:v.length=8):∀i,(xI c w v i).length=8
 |0=>h
 |i+1=>rfl
theorem qE (c:Cf) {h:List UInt64} (v:List UInt64) (hh:h.length=8):∀i,(hR c h v i).length=8
 |0=>hh
 |i+1=>by simp only[hR,length_set,qE c v hh i]
theorem np (c:Cf) {h:List UInt64} (all:List UInt8) (hh:h.length=8):∀q,(nG c h all q).length=8
 |0=>hh
 |q+1=>qE c _ (np c all hh q) 8
theorem pu (wd2:Nat) (t:List UInt8) (n:UInt64):∀k,(tJ wd2 t n k).length=t.length+k
 |0=>rfl
 |k+1=>by simp only[tJ,zlA,pu wd2 t n k,List.length_cons,List.length_nil];omega
theorem pR (wd:Nat) (x:UInt64) (out:List UInt8):∀j,(oR wd x out j).length=out.length+j
 |0=>rfl
 |j+1=>by simp only[oR,zlA,pR wd x out j,List.length_cons,List.length_nil];omega
theorem j6 (wd:Nat) (h:List UInt64):∀i,(wH wd h i).length=wd*i
 |0=>rfl
 |i+1=>by simp only[wH,pR,j6 wd h i,Nat.mul_succ]
theorem uE (i:Nat) (h:i<100000):(ofInt (i:Int)).toNat=i:=by
 simp[ofInt]
 omega
@[irreducible] def C64:Cf:=⟨64,ofNat 18446744073709551615,S64,R64,80,8⟩
theorem jG:C64=⟨64,ofNat 18446744073709551615,S64,R64,80,8⟩:=by unfold C64;rfl
theorem aL1 (b:List UInt8) (m:Nat) (hb:b.length=m) (hmax:m<=100000000):Sx.Fn Γ.P 105 [.slx 1000 0 0 m,.u64 64] [(1000,.mem false 0 [(m,.a8 b)])]
  (λv M=>∃c,64<=c/\v= .sl 1001 0 0 64 c/\M=[(1000,.mem false 0 [(m,.a8 b)]),(1001,.mem true (c-64) [(64,.a8 (vK C64 F64 b (aw (m%128))))])]):=by
 have hS:=aI5
 have hC:=jG
 have hFl:=aDD
 have hKl:=aC9
 have hSl:=aC8
 have cs:C64.s=S64:=by rw[hC]
 have ck:C64.k=R64:=by rw[hC]
 have csz:C64.sz=64:=by rw[hC]
 have cm:C64.mask=(ofNat 18446744073709551615):=by rw[hC]
 have cn:C64.n=80:=by rw[hC]
 have cw:C64.wd=8:=by rw[hC]
 clear hC
 have hw4:(64/ofNat 8:UInt64).toNat=8:=by decide
 have hn8:ofNat 8≠0:=by decide
 refine aG (Γ:=Γ) (fn:=Tryz.f105) rfl rfl rfl rfl ?_
 refine Call.i aYO [(1001,(1001,0,none))] rfl trivial rfl trivial rfl ?_
 rintro _ _ ⟨rfl,rfl⟩
 refine Call.i aYN [(1001,(1002,0,none))] rfl trivial rfl trivial rfl ?_
 rintro _ _ ⟨rfl,rfl⟩
 refine gB ?_
 refine zB.i (λhn=>absurd hn (by decide)) (λ_=>?_)
 repeat refine sdN ?_
 intro c1 hc1
 repeat refine sdN ?_
 intro c2 hc2
 repeat refine sdN ?_
 have ht0:take m (drop 0 b)=b:=by rw[List.drop_zero,List.take_of_length_le (by omega)]
 obtain⟨Z,hZ⟩:∃x,aw (m%128)=x:=⟨_,rfl⟩
 have hz:Z=(239-m%128)%128:=by rw[<-hZ];rfl
 refine aY.i (σ:=Nat×Nat) (λs=>s.1<=Z/\m+1+s.1<=s.2)
  (λs=>([(0,.slx 1000 0 0 m),(1,.u64 64),(5,.u64 (ofNat 18446744073709551615)),(6,.sl 300 0 0 8 8),(7,.sl 301 0 0 80 80),(8,.sl 302 0 0 12 12),(9,.i .i64 8),(10,.i .i64 128),(11,.sl 200 0 0 (m+1+s.1) s.2)],
   [(1000,.mem false 0 [(m,.a8 b)]),(300,.mem true 0 [(8,.a64 F64)]),(301,.mem true 0 [(80,.a64 R64)]),(302,.mem true 0 [(12,.a64 S64)]),(200,.mem true (s.2-(m+1+s.1)) [(m+1+s.1,.a8 (qi b s.1))])])) (λs=>Z-s.1) (0,c2) ⟨zero_le _,by have:0+m+1<=c2:=hc2;show m+1+0<=c2;omega⟩ ?_ ?_
 ·refine Le.i [(300,(1001,0,none)),(301,(1002,0,none)),(302,(28,0,none)),(200,(44,0,none))] rfl ?_ rfl ?_ rfl
  ·exact fc
  repeat' first|exact trivial|refine zA.app ?_ ?_|refine zA.zd ?_ ?_|refine zA.cons ?_ ?_|exact fc|fail
  all_goals first|exact hS|(show qi b 0=[]++take m (drop 0 b)++[128];rw[ht0];simp[qi])
 clear hS
 rintro⟨j,c⟩ ⟨hj,hc⟩
 have hj:j<=Z:=hj
 have hc:m+1+j<=c:=hc
 have hpl:=iB b j
 rw[hb]at hpl
 refine gB ?_
 refine zB.i ?_ ?_<;>intro hb1
 ·have hb1:¬((m+1+j:Nat):Int)%128=128-2*8:=hb1
  have hlt:j<Z:=by omega
  refine gB ?_
  intro c' hc'
  refine gB ?_
  have hp1:=pL b j
  refine⟨(j+1,c'),⟨hlt,by show m+1+(j+1)<=c';have:m+1+j+1<=c':=hc';omega⟩,by show Z-(j+1)<Z-j;omega,Le.i [(200,(56,0,none))] rfl fc rfl fc rfl⟩
 have hb1:¬¬((m+1+j:Nat):Int)%128=128-2*8:=hb1
 obtain rfl:j=Z:=by omega
 obtain⟨T0,hT0⟩:∃x,qi b j=x:=⟨_,rfl⟩
 rw[hT0]at hpl
 obtain⟨L0,hL0⟩:∃x,m+1+j=x:=⟨_,rfl⟩
 rw[hL0]at hpl hc
 obtain⟨n,hn⟩:∃x,ofInt (m:Int)=x:=⟨_,rfl⟩
 have hall0:aSI 8 b j=tJ 16 T0 n 16:=by unfold aSI;rw[hT0,hb,hn]
 refine gB ?_
 refine aY.i (σ:=Nat×Nat) (λs=>s.1<=16/\L0+s.1<=s.2)
  (λs=>([(0,.slx 1000 0 0 m),(1,.u64 64),(5,.u64 (ofNat 18446744073709551615)),(6,.sl 300 0 0 8 8),(7,.sl 301 0 0 80 80),(8,.sl 302 0 0 12 12),(9,.i .i64 8),(10,.i .i64 128),(11,.sl 200 0 0 (L0+s.1) s.2),(12,.i .i64 (15-(s.1:Int)))],
   [(1000,.mem false 0 [(m,.a8 b)]),(300,.mem true 0 [(8,.a64 F64)]),(301,.mem true 0 [(80,.a64 R64)]),(302,.mem true 0 [(12,.a64 S64)]),(200,.mem true (s.2-(L0+s.1)) [(L0+s.1,.a8 (tJ 16 T0 n s.1))])])) (λs=>16-s.1) (0,c) ⟨zero_le _,hc⟩ ?_ ?_
 ·have hT0':=hT0.symm
  have hL0':=hL0.symm
  clear hT0 hL0
  refine Le.i [] rfl ?_ rfl ?_ rfl
  ·exact fc
  have e0:tJ 16 T0 n 0=T0:=rfl
  repeat' first|exact trivial|refine zA.app ?_ ?_|refine zA.zd ?_ ?_|refine zA.cons ?_ ?_|exact fc|fail
  all_goals exact hT0'
 rintro⟨k,c⟩ ⟨hk,hc⟩
 have hk:k<=16:=hk
 have hc:L0+k<=c:=hc
 have hll:=pu 16 T0 n k
 rw[hpl]at hll
 refine zB.i ?_ ?_<;>intro hb2
 ·have hb2:(15-(k:Int))≥0:=hb2
  refine zB.i ?_ ?_<;>intro hb8
  ·have hb8:(15-(k:Int))<8:=hb8
   refine gB ?_
   intro c' hc'
   refine gB ?_
   have e7:(ofInt (8*(15-(k:Int)))).toNat=8*(16-1-k):=by
    rw[show(8*(15-(k:Int)))=((8*(16-1-k):Nat):Int) by omega];exact uE _ (by omega)
   refine⟨(k+1,c'),⟨by show k+1<=16;omega,by show L0+(k+1)<=c';have:L0+k+1<=c':=hc';omega⟩,by show 16-(k+1)<16-k;omega,Le.i [(200,(78,0,none))] rfl ?_ rfl ?_ rfl⟩
   ·exact fc
   repeat' first|exact trivial|refine zA.app ?_ ?_|refine zA.zd ?_ ?_|refine zA.cons ?_ ?_|exact fc|fail
   all_goals(show tJ 16 T0 n (k+1)=tJ 16 T0 n k++[(aF (aQ (ofInt (m:Int)) 3) (ofInt (8*(15-(k:Int)))).toNat).toUInt8])
   all_goals rw[e7,hn]
   all_goals simp only[tJ]
   all_goals rw[if_pos (by omega)]
  have hb8:¬(15-(k:Int))<8:=hb8
  refine gB ?_
  intro c' hc'
  refine gB ?_
  refine⟨(k+1,c'),⟨by show k+1<=16;omega,by show L0+(k+1)<=c';have:L0+k+1<=c':=hc';omega⟩,by show 16-(k+1)<16-k;omega,Le.i [(200,(78,0,none))] rfl ?_ rfl ?_ rfl⟩
  ·exact fc
  repeat' first|exact trivial|refine zA.app ?_ ?_|refine zA.zd ?_ ?_|refine zA.cons ?_ ?_|exact fc|fail
  all_goals(show tJ 16 T0 n (k+1)=tJ 16 T0 n k++[0])
  all_goals simp only[tJ]
  all_goals rw[if_neg (by omega)]
 obtain rfl:k=16:=by have hb2:¬(15-(k:Int))≥0:=hb2;omega
 obtain⟨T,hT⟩:∃x,tJ 16 T0 n 16=x:=⟨_,rfl⟩
 obtain⟨L,hL⟩:∃x,L0+16=x:=⟨_,rfl⟩
 rw[hT,hL]at hll
 rw[hL]at hc
 rw[hT]at hall0
 have hL2:L%128=0:=by omega
 have hsum:vK C64 F64 b j=wH 8 (nG C64 F64 T (L/128)) 8:=by unfold vK;rw[cw,hall0,hll]
 rw[hZ,hsum]
 clear hall0 hsum
 refine aY.i (σ:=Nat) (λq=>q<=L/128)
  (λq=>([(0,.slx 1000 0 0 m),(1,.u64 64),(5,.u64 (ofNat 18446744073709551615)),(6,.sl 300 0 0 8 8),(7,.sl 301 0 0 80 80),(8,.sl 302 0 0 12 12),(9,.i .i64 8),(10,.i .i64 128),(11,.sl 200 0 0 L c),(14,.i .i64 (128*q:Nat))],
   [(1000,.mem false 0 [(m,.a8 b)]),(300,.mem true 0 [(8,.a64 (nG C64 F64 T q))]),(301,.mem true 0 [(80,.a64 R64)]),(302,.mem true 0 [(12,.a64 S64)]),(200,.mem true (c-L) [(L,.a8 T)])])) (λq=>L/128-q) 0 (zero_le _) ?_ ?_
 ·have hT':=hT.symm
  have hL':=hL.symm
  clear hT hL
  refine Le.i [] rfl ?_ rfl ?_ rfl
  ·exact fc
  have e0:nG C64 F64 T 0=F64:=rfl
  repeat' first|exact trivial|refine zA.app ?_ ?_|refine zA.zd ?_ ?_|refine zA.cons ?_ ?_|exact fc|fail
  all_goals exact hT'
 rintro q hq
 have hbl:=np C64 T hFl q
 refine zB.i ?_ ?_<;>intro hb3
 ·have hb3:((128*q:Nat):Int)<(L:Int):=hb3
  obtain⟨H,hH⟩:∃x,nG C64 F64 T q=x:=⟨_,rfl⟩
  have hnext:nG C64 F64 T (q+1)=aSG C64 (nG C64 F64 T q) T (128*q):=by
   simp only[nG,cw]
  rw[hH]at hbl hnext
  have hblk:aSG C64 H T (128*q)=hR C64 H (xI C64 (wRs C64 T (128*q) 80) H 80) 8:=by unfold aSG;rw[cn]
  rw[hblk]at hnext
  obtain⟨A,hA⟩:∃x,128*q=x:=⟨_,rfl⟩
  have hAL:A+128<=L:=by omega
  rw[hA]at hnext
  refine gB ?_
  refine aY.i (σ:=Nat) (λi=>i<=80)
   (λi=>([(0,.slx 1000 0 0 m),(1,.u64 64),(5,.u64 (ofNat 18446744073709551615)),(6,.sl 300 0 0 8 8),(7,.sl 301 0 0 80 80),(8,.sl 302 0 0 12 12),(9,.i .i64 8),(10,.i .i64 128),(11,.sl 200 0 0 L c),(14,.i .i64 (A:Nat)),(15,.sl 201 0 0 80 80),(16,.i .i64 i)],
    [(1000,.mem false 0 [(m,.a8 b)]),(300,.mem true 0 [(8,.a64 H)]),(301,.mem true 0 [(80,.a64 R64)]),(302,.mem true 0 [(12,.a64 S64)]),(200,.mem true (c-L) [(L,.a8 T)]),(201,.mem true 0 [(80,.a64 (wRs C64 T A i))])])) (λi=>80-i) 0 (zero_le _) ?_ ?_
  ·have hH':=hH.symm
   have hA':=hA.symm
   clear hA hH
   refine Le.i [(201,(88,0,none))] rfl ?_ rfl ?_ rfl
   ·exact fc
   have e0:wRs C64 T A 0=List.replicate 80 0:=by simp only[wRs,cn]
   repeat' first|exact trivial|refine zA.app ?_ ?_|refine zA.zd ?_ ?_|refine zA.cons ?_ ?_|exact fc|fail
   all_goals first|exact hH'|exact e0
  rintro i hi
  have hwl:=mG C64 T A i
  rw[cn]at hwl
  refine zB.i ?_ ?_<;>intro hb4
  ·have hb4:(i:Int)<80:=hb4
   obtain⟨W,hW⟩:∃x,wRs C64 T A i=x:=⟨_,rfl⟩
   rw[hW]at hwl
   refine zB.i ?_ ?_<;>intro h16
   ·have h16:(i:Int)≥16:=h16
    have hwn:wRs C64 T A (i+1)=W.set i (wN C64 W i):=by
     simp only[wRs];rw[if_pos (by omega),hW]
    have e1:((i:Int)-16).toNat=i-16:=by omega
    have e2:((i:Int)-15).toNat=i-15:=by omega
    have e3:((i:Int)-7).toNat=i-7:=by omega
    have e4:((i:Int)-2).toNat=i-2:=by omega
    refine aH.i [[],[],[],[],[3],[2,3,4],[2,3,4,5],[],[],[8],[7,8,9],[7,8,9,10],[],[12],[12,13],[],[15],[15,16],[],[18],[18,19],[],[7,8,9,10,11,12,13,14,15,16,17,18,19,20,21],[2,3,4,5,6,7,8,9,10,11,12,13,14,15,16,17,18,19,20,21,22],[],[],[25],[24,25,26],[24,25,26,27],[2,3,4,5,6,7,8,9,10,11,12,13,14,15,16,17,18,19,20,21,22,23,24,25,26,27,28],[],[],[31],[30,31,32],[30,31,32,33],[],[35],[35,36],[],[38],[38,39],[],[41],[41,42],[],[7,8,9,10,11,12,13,14,15,16,17,18,19,20,21,22,30,31,32,33,34,35,36,37,38,39,40,41,42,43,44],[2,3,4,5,6,7,8,9,10,11,12,13,14,15,16,17,18,19,20,21,22,23,24,25,26,27,28,29,30,31,32,33,34,35,36,37,38,39,40,41,42,43,44,45],[],[2,3,4,5,6,7,8,9,10,11,12,13,14,15,16,17,18,19,20,21,22,23,24,25,26,27,28,29,30,31,32,33,34,35,36,37,38,39,40,41,42,43,44,45,46,47],[0,1,2,3,4,5,6,7,8,9,10,11,12,13,14,15,16,17,18,19,20,21,22,23,24,25,26,27,28,29,30,31,32,33,34,35,36,37,38,39,40,41,42,43,44,45,46,47,48],[0,1,2,3,4,5,6,7,8,9,10,11,12,13,14,15,16,17,18,19,20,21,22,23,24,25,26,27,28,29,30,31,32,33,34,35,36,37,38,39,40,41,42,43,44,45,46,47,48,49]] [0,1,2,3,4,5,6,7,8,9,10,11,12,13,14,15,16,17,18,19,20,21,24,25,26,27,28,30,31,32,33,34,35,36,37,38,39,40,41,42,43,44,47,22,23,29,45,46,48,49,50] (by kernel_rfl) ?_
    repeat refine sdO ?_
    refine Call.pure (aUL ((wRs C64 T A i).getD (i-15) 0) (S64.getD 6 0) (S64.getD 7 0) (S64.getD 8 0) 64) rfl (by repeat' (first|(show zA _;first|exact trivial|refine zA.app ?_ ?_|refine zA.zd ?_ ?_|refine zA.cons ?_ ?_)|with_reducible rfl|with_reducible assumption|omega |(simp only[zero_add,e2,rng,Ix.val,zQ,addI,szs]<;>omega)|(simp only[zero_add,e2,rng,Ix.val,zIn,zme,zQ,addI,getD_none,Option.getD_some,zlT,zlD,zlA,length_set,List.length_replicate,szs, *]<;>omega)|(simp only[Ix.val];with_reducible assumption)|exact UInt8.toNat_lt _|(apply Eq.trans;(with_reducible assumption);exact rfl)|exact rfl|exactλ_ _=>rfl)) ?_
    rintro _ rfl
    refine cL.i [] rfl rfl ?_
    refine Call.pure (aUL ((wRs C64 T A i).getD (i-2) 0) (S64.getD 9 0) (S64.getD 10 0) (S64.getD 11 0) 64) rfl fcG ?_
    rintro _ rfl
    refine cL.i [] rfl rfl ?_
    repeat refine sdO ?_
    refine⟨i+1,by omega,by omega,Le.i [] rfl fc rfl ?_ rfl⟩
    repeat' first|exact trivial|refine zA.app ?_ ?_|refine zA.zd ?_ ?_|refine zA.cons ?_ ?_|exact fc|fail
    simp only[zero_add,e1,e2,e3,e4,zQ,Ix.val,zIn]
    rw[hwn,<-hW]
    unfold wN
    rw[cs,csz,cm]
    try rfl
   have h16:¬(i:Int)≥16:=h16
   have hwn:wRs C64 T A (i+1)=wR C64 T A W i 8:=by
    simp only[wRs];rw[if_neg (by omega),hW,cw]
   refine aY.i (σ:=Nat) (λj=>j<=8)
    (λj=>([(0,.slx 1000 0 0 m),(1,.u64 64),(5,.u64 (ofNat 18446744073709551615)),(6,.sl 300 0 0 8 8),(7,.sl 301 0 0 80 80),(8,.sl 302 0 0 12 12),(9,.i .i64 8),(10,.i .i64 128),(11,.sl 200 0 0 L c),(14,.i .i64 (A:Nat)),(15,.sl 201 0 0 80 80),(16,.i .i64 i),(17,.i .i64 j)],
     [(1000,.mem false 0 [(m,.a8 b)]),(300,.mem true 0 [(8,.a64 H)]),(301,.mem true 0 [(80,.a64 R64)]),(302,.mem true 0 [(12,.a64 S64)]),(200,.mem true (c-L) [(L,.a8 T)]),(201,.mem true 0 [(80,.a64 (wR C64 T A W i j))])])) (λj=>8-j) 0 (zero_le _) ?_ ?_
   ·have hW':=hW.symm
    clear hW
    refine Le.i [] rfl ?_ rfl ?_ rfl
    ·exact fc
    have e0:wR C64 T A W i 0=W:=rfl
    repeat' first|exact trivial|refine zA.app ?_ ?_|refine zA.zd ?_ ?_|refine zA.cons ?_ ?_|exact fc|fail
    all_goals exact e0.trans hW'
   rintro j2 hj2
   have hwl2:=oW C64 T A W i j2
   rw[hwl]at hwl2
   refine zB.i ?_ ?_<;>intro hb5
   ·have hb5:(j2:Int)<8:=hb5
    have e5:((A:Int)+8*i+j2).toNat=A+8*i+j2:=by omega
    refine aH.i [[],[],[],[],[2,3],[2,3,4],[2,3,4,5],[],[],[],[],[9,10],[8,9,10,11],[],[8,9,10,11,12,13],[7,8,9,10,11,12,13,14],[7,8,9,10,11,12,13,14,15],[7,8,9,10,11,12,13,14,15,16],[2,3,4,5,6,7,8,9,10,11,12,13,14,15,16,17],uf,aJG] aJF (by kernel_rfl) ?_
    repeat(refine fg.i (by repeat' (first|(show zA _;first|exact trivial|refine zA.app ?_ ?_|refine zA.zd ?_ ?_|refine zA.cons ?_ ?_)|with_reducible rfl|with_reducible assumption|omega |(simp only[zero_add,e5,hw4,rng,Ix.val,zQ,addI,szs]<;>omega)|(simp only[zero_add,e5,hw4,rng,Ix.val,zIn,zme,zQ,addI,getD_none,Option.getD_some,zlT,zlD,zlA,length_set,List.length_replicate,szs, *]<;>omega)|(simp only[Ix.val];with_reducible assumption)|exact UInt8.toNat_lt _|(apply Eq.trans;(with_reducible assumption);exact rfl)|exact rfl|exactλ_ _=>rfl)) ?_)
    refine⟨j2+1,by omega,by omega,Le.i [] rfl fc rfl ?_ rfl⟩
    repeat' first|exact trivial|refine zA.app ?_ ?_|refine zA.zd ?_ ?_|refine zA.cons ?_ ?_|exact fc|fail
    all_goals simp only[zero_add,e5,zQ,Ix.val,zIn,wR,cw]
    all_goals try rfl
   obtain rfl:j2=8:=by have hb5:¬(j2:Int)<8:=hb5;omega
   refine gB ?_
   refine⟨i+1,by omega,by omega,Le.i [] rfl fc rfl ?_ rfl⟩
   repeat' first|exact trivial|refine zA.app ?_ ?_|refine zA.zd ?_ ?_|refine zA.cons ?_ ?_|exact fc|fail
   all_goals exact hwn
  obtain rfl:i=80:=by have hb4:¬(i:Int)<80:=hb4;omega
  obtain⟨W,hW⟩:∃x,wRs C64 T A 80=x:=⟨_,rfl⟩
  rw[hW]at hwl hnext
  refine gB ?_
  intro c3 hc3
  refine gB ?_
  have htH:take 8 (drop 0 H)=H:=by rw[List.drop_zero,List.take_of_length_le (by omega)]
  refine aY.i (σ:=Nat×Nat) (λs=>s.1<=80/\8<=s.2)
   (λs=>([(0,.slx 1000 0 0 m),(1,.u64 64),(5,.u64 (ofNat 18446744073709551615)),(6,.sl 300 0 0 8 8),(7,.sl 301 0 0 80 80),(8,.sl 302 0 0 12 12),(9,.i .i64 8),(10,.i .i64 128),(11,.sl 200 0 0 L c),(14,.i .i64 (A:Nat)),(15,.sl 201 0 0 80 80),(18,.sl 202 0 0 8 s.2),(19,.i .i64 s.1)],
    [(1000,.mem false 0 [(m,.a8 b)]),(300,.mem true 0 [(8,.a64 H)]),(301,.mem true 0 [(80,.a64 R64)]),(302,.mem true 0 [(12,.a64 S64)]),(200,.mem true (c-L) [(L,.a8 T)]),(201,.mem true 0 [(80,.a64 W)]),(202,.mem true (s.2-8) [(8,.a64 (xI C64 W H s.1))])])) (λs=>80-s.1) (0,c3) ⟨zero_le _,hc3⟩ ?_ ?_
  ·have hW':=hW.symm
   clear hW
   refine Le.i [(202,(174,0,none))] rfl ?_ rfl ?_ rfl
   ·exact fc
   have e0:xI C64 W H 0=H:=rfl
   repeat' first|exact trivial|refine zA.app ?_ ?_|refine zA.zd ?_ ?_|refine zA.cons ?_ ?_|exact fc|fail
   all_goals first|exact hW'|(show xI C64 W H 0=[]++take 8 (drop 0 H);rw[htH,e0];rfl)
  rintro⟨i,cv⟩ ⟨hi,hcv⟩
  have hi:i<=80:=hi
  have hcv:8<=cv:=hcv
  have hvl:=xH C64 W hbl i
  refine zB.i ?_ ?_<;>intro hb6
  ·have hb6:(i:Int)<80:=hb6
   obtain⟨V,hV⟩:∃x,xI C64 W H i=x:=⟨_,rfl⟩
   have hrn:xI C64 W H (i+1)=rdR C64 V (R64.getD i 0) (W.getD i 0):=by
    simp only[xI];rw[hV,ck]
   rw[hV]at hvl
   refine aH.i [[],[0],[0,1],[],[3],[3,4],[],[6],[6,7],[],[9],[9,10],[],[12],[12,13],[],[3,4,5,6,7,8,9,10,11,12,13,14,15],wG,[],[18],[18,19],[],[21],[21,22],[18,19,20,21,22,23],[],[],[26],[26,27],[25,26,27,28],[],[30],[30,31],[25,26,27,28,29,30,31,32],[18,19,20,21,22,23,24,25,26,27,28,29,30,31,32,33],[0,1,2,3,4,5,6,7,8,9,10,11,12,13,14,15,16,17,18,19,20,21,22,23,24,25,26,27,28,29,30,31,32,33,34],[],[],[36,37],[36,37,38],[0,1,2,3,4,5,6,7,8,9,10,11,12,13,14,15,16,17,18,19,20,21,22,23,24,25,26,27,28,29,30,31,32,33,34,35,36,37,38,39],[],[],[41,42],[41,42,43],[0,1,2,3,4,5,6,7,8,9,10,11,12,13,14,15,16,17,18,19,20,21,22,23,24,25,26,27,28,29,30,31,32,33,34,35,36,37,38,39,40,41,42,43,44],[0,1,2,3,4,5,6,7,8,9,10,11,12,13,14,15,16,17,18,19,20,21,22,23,24,25,26,27,28,29,30,31,32,33,34,35,36,37,38,39,40,41,42,43,44,45]] [0,1,2,3,4,5,6,7,8,9,10,11,12,13,14,15,18,19,20,21,22,23,24,25,26,27,28,29,30,31,32,33,34,36,37,38,39,41,42,43,44,16,17,35,40,45,46] (by kernel_rfl) ?_
   repeat refine sdP ?_
   refine Call.pure (aUK ((xI C64 W H i).getD 4 0) (S64.getD 3 0) (S64.getD 4 0) (S64.getD 5 0) 64) rfl fc ?_
   rintro _ rfl
   refine cL.i [] rfl rfl ?_
   repeat refine sdP ?_
   refine aH.i [[],[0],[0,1],[],[3],[3,4],[],[6],[6,7],[],[9],[9,10],[],jO,[],[14],[14,15],[],[17],[17,18],[14,15,16,17,18,19],[],[21],[21,22],[],[24],[24,25],[21,22,23,24,25,26],[14,15,16,17,18,19,20,21,22,23,24,25,26,27],[],[29],[29,30],[],[32],[32,33],[29,30,31,32,33,34],[14,15,16,17,18,19,20,21,22,23,24,25,26,27,28,29,30,31,32,33,34,35],[0,1,2,3,4,5,6,7,8,9,10,11,12,13,14,15,16,17,18,19,20,21,22,23,24,25,26,27,28,29,30,31,32,33,34,35,36],[0,1,2,3,4,5,6,7,8,9,10,11,12,13,14,15,16,17,18,19,20,21,22,23,24,25,26,27,28,29,30,31,32,33,34,35,36,37]] [0,1,2,3,4,5,6,7,8,9,10,11,12,14,15,16,17,18,19,20,21,22,23,24,25,26,27,28,29,30,31,32,33,34,35,36,13,37,38] (by kernel_rfl) ?_
   repeat refine sdP ?_
   refine Call.pure (aUK ((xI C64 W H i).getD 0 0) (S64.getD 0 0) (S64.getD 1 0) (S64.getD 2 0) 64) rfl fc ?_
   rintro _ rfl
   refine cL.i [] rfl rfl ?_
   repeat refine sdP ?_
   refine aH.i [[],[],[0,1],[],r_4,[],[5],[5,6],[],[8],[8,9],[],[11],[11,12],[],[14],[14,15],[],[14,15,16,17],[],[14,15,16,17,18,19],[],[21],[21,22],[],[24],[24,25],[],[27],[27,28],aS2,aZS] aZR (by kernel_rfl) ?_
   repeat refine sdP ?_
   refine⟨(i+1,8),⟨by show i+1<=80;omega,Nat.le_refl _⟩,by show 80-(i+1)<80-i;omega,Le.i [(202,(295,0,none))] rfl ?_ rfl ?_ rfl⟩
   ·exact fc
   have hrn2:=hrn
   rw[<-hV]at hrn2
   unfold rdR aV4 aWP at hrn2
   rw[cs,csz,cm]at hrn2
   repeat' first|exact trivial|refine zA.app ?_ ?_|refine zA.zd ?_ ?_|refine zA.cons ?_ ?_|exact fc|fail
   all_goals exact hrn2
  obtain rfl:i=80:=by have hb6:¬(i:Int)<80:=hb6;omega
  obtain⟨V,hV⟩:∃x,xI C64 W H 80=x:=⟨_,rfl⟩
  rw[hV]at hvl hnext
  refine aY.i (σ:=Nat) (λi=>i<=8)
   (λi=>([(0,.slx 1000 0 0 m),(1,.u64 64),(5,.u64 (ofNat 18446744073709551615)),(6,.sl 300 0 0 8 8),(7,.sl 301 0 0 80 80),(8,.sl 302 0 0 12 12),(9,.i .i64 8),(10,.i .i64 128),(11,.sl 200 0 0 L c),(14,.i .i64 (A:Nat)),(18,.sl 202 0 0 8 cv),(22,.i .i64 i)],
    [(1000,.mem false 0 [(m,.a8 b)]),(300,.mem true 0 [(8,.a64 (hR C64 H V i))]),(301,.mem true 0 [(80,.a64 R64)]),(302,.mem true 0 [(12,.a64 S64)]),(200,.mem true (c-L) [(L,.a8 T)]),(202,.mem true (cv-8) [(8,.a64 V)])])) (λi=>8-i) 0 (zero_le _) ?_ ?_
  ·have hV':=hV.symm
   clear hV
   refine Le.i [] rfl ?_ rfl ?_ rfl
   ·exact fc
   have e0:hR C64 H V 0=H:=rfl
   exact fc
  rintro i hi
  have hhl:=qE C64 V hbl i
  refine zB.i ?_ ?_<;>intro hb7
  ·have hb7:(i:Int)<8:=hb7
   refine aH.i [[],[],[],[],[2,3],[2,3,4],[],[],[6,7],[6,7,8],[2,3,4,5,6,7,8,9],[],[2,3,4,5,6,7,8,9,10,11],jO,oB] nw (by kernel_rfl) ?_
   refine gC ?_
   refine⟨i+1,by omega,by omega,Le.i [] rfl fc rfl ?_ rfl⟩
   repeat' first|exact trivial|refine zA.app ?_ ?_|refine zA.zd ?_ ?_|refine zA.cons ?_ ?_|exact fc|fail
   all_goals simp only[zero_add,zQ,Ix.val,zIn,hR,cm]
   all_goals try rfl
  obtain rfl:i=8:=by have hb7:¬(i:Int)<8:=hb7;omega
  refine gB ?_
  refine⟨q+1,by omega,by omega,Le.i [] rfl ?_ rfl ?_ rfl⟩
  ·exact fc
  repeat' first|exact trivial|refine zA.app ?_ ?_|refine zA.zd ?_ ?_|refine zA.cons ?_ ?_|exact fc|fail
  all_goals exact hnext
 obtain rfl:q=L/128:=by have hb3:¬((128*q:Nat):Int)<(L:Int):=hb3;omega
 obtain⟨H,hH⟩:∃x,nG C64 F64 T (L/128)=x:=⟨_,rfl⟩
 rw[hH]at hbl⊢
 refine gB ?_
 refine aY.i (σ:=Nat×Nat) (λs=>s.1<=8/\8*s.1<=s.2)
  (λs=>([(0,.slx 1000 0 0 m),(1,.u64 64),(5,.u64 (ofNat 18446744073709551615)),(6,.sl 300 0 0 8 8),(7,.sl 301 0 0 80 80),(8,.sl 302 0 0 12 12),(9,.i .i64 8),(10,.i .i64 128),(23,.sl 203 0 0 (8*s.1) s.2),(24,.i .i64 s.1)],
   [(1000,.mem false 0 [(m,.a8 b)]),(300,.mem true 0 [(8,.a64 H)]),(301,.mem true 0 [(80,.a64 R64)]),(302,.mem true 0 [(12,.a64 S64)]),(203,.mem true (s.2-8*s.1) [(8*s.1,.a8 (wH 8 H s.1))])])) (λs=>8-s.1) (0,0) ⟨zero_le _,zero_le _⟩ ?_ ?_
 ·have hH':=hH.symm
  clear hH
  refine Le.ghost [.own 203 [(0,.a8 [])]] [(23,203)] [] rfl ⟨rfl,rfl,trivial⟩ rfl rfl fc rfl fc rfl
 rintro⟨i,co⟩ ⟨hi,hco⟩
 have hi:i<=8:=hi
 have hco:8*i<=co:=hco
 have hol:=j6 8 H i
 refine zB.i ?_ ?_<;>intro hb7
 ·have hb7:(i:Int)<8:=hb7
  refine gB ?_
  refine aY.i (σ:=Nat×Nat) (λs=>s.1<=8/\8*i+s.1<=s.2)
   (λs=>([(0,.slx 1000 0 0 m),(1,.u64 64),(5,.u64 (ofNat 18446744073709551615)),(6,.sl 300 0 0 8 8),(7,.sl 301 0 0 80 80),(8,.sl 302 0 0 12 12),(9,.i .i64 8),(10,.i .i64 128),(23,.sl 203 0 0 (8*i+s.1) s.2),(24,.i .i64 i),(25,.i .i64 (7-(s.1:Int)))],
    [(1000,.mem false 0 [(m,.a8 b)]),(300,.mem true 0 [(8,.a64 H)]),(301,.mem true 0 [(80,.a64 R64)]),(302,.mem true 0 [(12,.a64 S64)]),(203,.mem true (s.2-(8*i+s.1)) [(8*i+s.1,.a8 (oR 8 (H.getD i 0) (wH 8 H i) s.1))])])) (λs=>8-s.1) (0,co) ⟨zero_le _,hco⟩ ?_ ?_
  ·refine Le.i [] rfl ?_ rfl ?_ rfl
   ·exact fc
   have e0:oR 8 (H.getD i 0) (wH 8 H i) 0=wH 8 H i:=rfl
   exact fc
  rintro⟨j2,co⟩ ⟨hj2,hco⟩
  have hj2:j2<=8:=hj2
  have hco:8*i+j2<=co:=hco
  have hol2:=pR 8 (H.getD i 0) (wH 8 H i) j2
  rw[hol]at hol2
  refine zB.i ?_ ?_<;>intro hb8
  ·have hb8:(7-(j2:Int))≥0:=hb8
   refine gB ?_
   intro c' hc'
   refine gB ?_
   have e7:(ofInt (8*(7-(j2:Int)))).toNat=8*(8-1-j2):=by
    rw[show(8*(7-(j2:Int)))=((8*(8-1-j2):Nat):Int) by omega];exact uE _ (by omega)
   refine⟨(j2+1,c'),⟨by show j2+1<=8;omega,by show 8*i+(j2+1)<=c';have:8*i+j2+1<=c':=hc';omega⟩,by show 8-(j2+1)<8-j2;omega,Le.i [(203,(335,0,none))] rfl ?_ rfl ?_ rfl⟩
   ·exact fc
   repeat' first|exact trivial|refine zA.app ?_ ?_|refine zA.zd ?_ ?_|refine zA.cons ?_ ?_|exact fc|fail
   all_goals(show oR 8 (H.getD i 0) (wH 8 H i) (j2+1)=oR 8 (H.getD i 0) (wH 8 H i) j2++[(aF (H.getD i 0) (ofInt (8*(7-(j2:Int)))).toNat).toUInt8])
   all_goals rw[e7]
   all_goals rfl
  obtain rfl:j2=8:=by have hb8:¬(7-(j2:Int))≥0:=hb8;omega
  refine gB ?_
  have e1:8*(i+1)=8*i+8:=by omega
  refine⟨(i+1,co),⟨by show i+1<=8;omega,by show 8*(i+1)<=co;omega⟩,by show 8-(i+1)<8-i;omega,Le.i [] rfl ?_ rfl ?_ rfl⟩
  ·exact fc
  have e2:wH 8 H (i+1)=oR 8 (H.getD i 0) (wH 8 H i) 8:=rfl
  exact fc
 obtain rfl:i=8:=by have hb7:¬(i:Int)<8:=hb7;omega
 obtain⟨O,hO⟩:∃x,wH 8 H 8=x:=⟨_,rfl⟩
 rw[hO]at hol⊢
 have hO':=hO.symm
 clear hO
 refine gB ?_
 refine Ret.i (.sl 1001 0 0 64 co) [(1000,.mem false 0 [(m,.a8 b)]),(1001,.mem true (co-64) [(64,.a8 O)])] [(1001,(203,0,none))] rfl fc ⟨co,hco,rfl,rfl⟩ rfl fc rfl fc rfl
@[irreducible] def uh (b:List UInt8):List UInt8:=vK C64 F64 b (aw (b.length%128))
theorem sj (b:List UInt8):uh b=vK C64 F64 b (aw (b.length%128)):=by unfold uh;rfl
theorem ug (b:List UInt8):(uh b).length=64:=by
 rw[sj];unfold vK;rw[j6,jG];rfl
theorem aMI {n:Nat} {x old:List UInt8} (hx:x.length=n) (ho:old.length=n):
  x=take ((none:Option Nat).getD 0) old++take (min (take n (drop (addI none 0) x)).length n) (take n (drop (addI none 0) x))++
   drop ((none:Option Nat).getD 0+min (take n (drop (addI none 0) x)).length n) old:=by
 have e:take n (drop (addI none 0) x)=x:=by
  rw[qc,getD_none,zero_add,List.drop_zero,List.take_of_length_le (by omega)]
 rw[e,hx,Nat.min_self,getD_none,List.take_zero,List.nil_append,List.take_of_length_le (by omega),List.drop_of_length_le (by omega),List.append_nil]
theorem aYD (b:List UInt8) (m:Nat) (hb:b.length=m) (hmax:m<=100000000):Sx.Fn Γ.P 82 [.slx 1000 0 0 m] [(1000,.mem false 0 [(m,.a8 b)])]
  (λv M=>v= .a8 (uh b)/\M=[(1000,.mem false 0 [(m,.a8 b)])]):=by
 have hH:=aL1 b m hb hmax
 have hl:=ug b
 rw[show vK C64 F64 b (aw (m%128))=uh b by rw[sj,hb]]at hH
 refine aG (Γ:=Γ) (fn:=Tryz.f82) rfl rfl rfl rfl ?_
 refine gB ?_
 refine aH.i [[],[],[1],[0,1,2]] r_4 (by kernel_rfl) ?_
 refine gB ?_
 refine Call.i hH [(1000,(1000,0,none)),(1001,(1001,0,none))] rfl fc rfl fc rfl ?_
 rintro v M' ⟨c,hc,rfl,rfl⟩
 refine cL.i [(1001,.mem true (c-64) [(64,.a8 (uh b))])] rfl rfl ?_
 refine gB ?_
 refine Ret.i (.a8 (uh b)) [(1000,.mem false 0 [(m,.a8 b)])] [] rfl ?_ ⟨rfl,rfl⟩ rfl ?_ rfl ?_ rfl
 ·exact fc
 ·repeat' first|exact trivial|refine zA.app ?_ ?_|refine zA.zd ?_ ?_|refine zA.cons ?_ ?_|exact fc|fail
  exact aMI hl List.length_replicate
 exact fc
end Go.Proofs.YtllmefnbacjjcaaGreat
