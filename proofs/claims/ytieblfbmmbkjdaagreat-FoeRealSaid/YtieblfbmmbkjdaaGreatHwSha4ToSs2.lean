/- Walks. -/
import Derived.Test.YtieblfbmmbkjdaaGreatHwAes6ToSha3
import Derived.Test.YtieblfbmmbkjdaaGreatHwTabToCu6
import Derived.Test.YtieblfbmmbkjdaaGreatHwFe4ToAes5
set_option linter.unusedSimpArgs false
set_option linter.unusedVariables false
set_option maxHeartbeats 4000000
open UInt64 (ofInt)
open List (replicate take take_of_length_le length_set drop_zero length_replicate getD_eq_getElem?_getD nil_append)
open UInt32 (ofNat)
open Nat (zero_le zero_add le_refl)
open Option (getD_none)
set_option maxRecDepth 100000
namespace Go.Proofs.YtieblfbmmbkjdaaGreat
open Go Go.Sx
def wC (b:List UInt8):Nat->List UInt64
 |0=>replicate 80 0
 |i+1=>(wC b i).set (i/8) (aQ ((wC b i).getD (i/8) 0) 8|||(b.getD i 0).toUInt64)
def aSR (w:List UInt64) (i:Nat):UInt64:=
 w.getD (i-16) 0+w.getD (i-7) 0+(rT (w.getD (i-15) 0) 1^^^rT (w.getD (i-15) 0) 8^^^aF (w.getD (i-15) 0) 7)+(rT (w.getD (i-2) 0) 19^^^rT (w.getD (i-2) 0) 61^^^aF (w.getD (i-2) 0) 6)
def wD (w:List UInt64):Nat->List UInt64
 |0=>w
 |k+1=>(wD w k).set (16+k) (aSR (wD w k) (16+k))
def aPZ (v:List UInt64) (k w:UInt64):UInt64:=
 v.getD 7 0+(rT (v.getD 4 0) 14^^^rT (v.getD 4 0) 18^^^rT (v.getD 4 0) 41)+(v.getD 4 0&&&v.getD 5 0^^^ ~~~(v.getD 4 0)&&&v.getD 6 0)+k+w
def aSS (v:List UInt64):UInt64:=
 (rT (v.getD 0 0) 28^^^rT (v.getD 0 0) 34^^^rT (v.getD 0 0) 39)+(v.getD 0 0&&&v.getD 1 0^^^v.getD 0 0&&&v.getD 2 0^^^v.getD 1 0&&&v.getD 2 0)
def aV2 (v:List UInt64) (k w:UInt64):List UInt64:=
 [aPZ v k w+aSS v,v.getD 0 0,v.getD 1 0,v.getD 2 0,v.getD 3 0+aPZ v k w,v.getD 4 0,v.getD 5 0,v.getD 6 0]
def jw (w v:List UInt64):Nat->List UInt64
 |0=>v
 |i+1=>aV2 (jw w v i) (K64.getD i 0) (w.getD i 0)
def aHA (h v:List UInt64):Nat->List UInt64
 |0=>h
 |i+1=>(aHA h v i).set i ((aHA h v i).getD i 0+v.getD i 0)
def yc (b:List UInt8):List UInt64:=wD (wC b 128) 64
def tc (h:List UInt64) (b:List UInt8):List UInt64:=aHA h (jw (yc b) h 80) 8
theorem oU (b:List UInt8):∀i,(wC b i).length=80
 |0=>length_replicate
 |i+1=>by simp only[wC,length_set,oU b i]
theorem oX {w:List UInt64} (h:w.length=80):∀i,(wD w i).length=80
 |0=>h
 |i+1=>by simp only[wD,length_set,oX h i]
theorem ub {w v:List UInt64} (h:v.length=8):∀i,(jw w v i).length=8
 |0=>h
 |i+1=>rfl
theorem kN {h v:List UInt64} (hh:h.length=8):∀i,(aHA h v i).length=8
 |0=>hh
 |i+1=>by simp only[aHA,length_set,kN hh i]
theorem vm {h:List UInt64} (hh:h.length=8) (b:List UInt8):(tc h b).length=8:=kN hh 8
theorem aWB (h:List UInt64) (b:List UInt8) (hh:h.length=8) (hb:b.length=128):Sx.Fn Γ.P 87 [.ptr 1000 0 none,.slx 1001 0 0 128] [(1000,.mem true 0 [(8,.a64 h)]),(1001,.mem false 0 [(128,.a8 b)])]
  (λv M=>v= .tup []/\M=[(1000,.mem true 0 [(8,.a64 (tc h b))]),(1001,.mem false 0 [(128,.a8 b)])]):=by
 have hK:=aI7
 have hKl:=aDB
 refine aG (Γ:=Γ) (fn:=Tryz.f87) rfl rfl rfl rfl ?_
 refine gB ?_
 refine aY.i (σ:=Nat) (λi=>i<=128)
  (λi=>([(0,.ptr 1000 0 none),(1,.slx 1001 0 0 128),(4,.ptr 4 0 none),(5,.ptr 5 0 none),(18,.i .i64 i)],
   [(1000,.mem true 0 [(8,.a64 h)]),(1001,.mem false 0 [(128,.a8 b)]),(4,.mem true 0 [(80,.a64 K64)]),(5,.mem true 0 [(80,.a64 (wC b i))])])) (λi=>128-i) 0 (zero_le _) ?_ ?_
 ·refine Le.i [] rfl fc rfl ?_ rfl
  exact fc
 rintro i hi
 have hl:=oU b i
 refine zB.i ?_ ?_<;>intro hc
 ·have hc:(i:Int)<128:=hc
  have e0:((i:Int)/8).toNat=i/8:=by omega
  refine aH.i [[],[0],[],[2],[2,3],[2,3,4],[2,3,4,5],[],[],[7,8],[7,8,9],[7,8,9,10],[2,3,4,5,6,7,8,9,10,11],jO,oB] nw (by kernel_rfl) ?_
  repeat refine sdH ?_
  refine⟨i+1,by omega,by omega,Le.i [] rfl fc rfl ?_ rfl⟩
  repeat' first|exact trivial|refine zA.app ?_ ?_|refine zA.zd ?_ ?_|refine zA.cons ?_ ?_|exact fc|fail
  all_goals simp only[zero_add,e0,zQ,Ix.val,zIn,wC]
 obtain rfl:i=128:=by have hc:¬(i:Int)<128:=hc;omega
 obtain⟨W0,hW0⟩:∃x,wC b 128=x:=⟨_,rfl⟩
 rw[hW0]at hl
 refine aY.i (σ:=Nat) (λk=>k<=64)
  (λk=>([(0,.ptr 1000 0 none),(4,.ptr 4 0 none),(5,.ptr 5 0 none),(7,.i .i64 ((k:Int)+16))],
   [(1000,.mem true 0 [(8,.a64 h)]),(1001,.mem false 0 [(128,.a8 b)]),(4,.mem true 0 [(80,.a64 K64)]),(5,.mem true 0 [(80,.a64 (wD W0 k))])])) (λk=>64-k) 0 (zero_le _) ?_ ?_
 ·refine Le.i [] rfl fc rfl ?_ rfl
  have e0:wD W0 0=wC b 128:=hW0.symm
  exact fc
 rintro k hk
 have hl:=oX hl k
 refine zB.i ?_ ?_<;>intro hc
 ·have hc:(k:Int)+16<80:=hc
  have e0:((k:Int)+16).toNat=16+k:=by omega
  have e1:((k:Int)+16-16).toNat=16+k-16:=by omega
  have e2:((k:Int)+16-7).toNat=16+k-7:=by omega
  have e3:((k:Int)+16-15).toNat=16+k-15:=by omega
  have e4:((k:Int)+16-2).toNat=16+k-2:=by omega
  refine aH.i [[],[0],[0,1],[0,1,2],[],[4],[4,5],[4,5,6],r_4,r_9] ek (by kernel_rfl) ?_
  repeat refine sdE ?_
  refine aH.i [[],[],[1],[1,2],[1,2,3],[],[5],[5,6],[5,6,7],[1,2,3,4,5,6,7,8],[],[10],[],[10,11,12],[10,11,12,13],[],[15],[10,11,12,13,14,15,16],[1,2,3,4,5,6,7,8,9,10,11,12,13,14,15,16,17],[],[10,11,12,13,19],[],[10,11,12,13,19,20,21],[10,11,12,13,19,20,21,22],[],[24],[10,11,12,13,19,20,21,22,23,24,25],[1,2,3,4,5,6,7,8,9,10,11,12,13,14,15,16,17,18,19,20,21,22,23,24,25,26],aW3,aS3] [0,1,2,3,4,5,6,7,8,9,10,12,15,16,19,21,24,25,11,13,14,17,18,20,22,23,26,27,28,29] (by kernel_rfl) ?_
  repeat refine sdE ?_
  refine Call.pure (ip ((wD W0 k).getD (16+k-15) 0) 1 (by decide) (by decide)) rfl fcF ?_
  rintro _ rfl
  refine cL.i [] rfl rfl ?_
  refine Call.pure (ip ((wD W0 k).getD (16+k-15) 0) 8 (by decide) (by decide)) rfl fcF ?_
  rintro _ rfl
  refine cL.i [] rfl rfl ?_
  refine Call.pure (ip ((wD W0 k).getD (16+k-2) 0) 19 (by decide) (by decide)) rfl fcG ?_
  rintro _ rfl
  refine cL.i [] rfl rfl ?_
  refine Call.pure (ip ((wD W0 k).getD (16+k-2) 0) 61 (by decide) (by decide)) rfl fcG ?_
  rintro _ rfl
  refine cL.i [] rfl rfl ?_
  repeat refine sdE ?_
  refine⟨k+1,by omega,by omega,Le.i [] rfl fc rfl ?_ rfl⟩
  repeat' first|exact trivial|refine zA.app ?_ ?_|refine zA.zd ?_ ?_|refine zA.cons ?_ ?_|exact fc|fail
  simp only[zero_add,e0,e1,e2,e3,e4,zQ,Ix.val,zIn,wD,aSR]
 obtain rfl:k=64:=by have hc:¬(k:Int)+16<80:=hc;omega
 obtain⟨W,hW⟩:∃x,wD W0 64=x:=⟨_,rfl⟩
 rw[hW]at hl
 have hWa:yc b=W:=by unfold yc;rw[hW0,hW]
 refine gB ?_
 refine aY.i (σ:=Nat) (λi=>i<=80)
  (λi=>([(0,.ptr 1000 0 none),(4,.ptr 4 0 none),(5,.ptr 5 0 none),(10,.ptr 10 0 none),(80,.i .i64 i)],
   [(1000,.mem true 0 [(8,.a64 h)]),(1001,.mem false 0 [(128,.a8 b)]),(4,.mem true 0 [(80,.a64 K64)]),(5,.mem true 0 [(80,.a64 W)]),(10,.mem true 0 [(8,.a64 (jw W h i))])])) (λi=>80-i) 0 (zero_le _) ?_ ?_
 ·refine Le.i [] rfl fc rfl ?_ rfl
  have e0:jw W h 0=h:=rfl
  have hW':=hW.symm
  exact fc
 rintro i hi
 have hvl:=ub (w:=W) hh i
 obtain⟨V,hV⟩:∃x,jw W h i=x:=⟨_,rfl⟩
 rw[hV]at hvl
 have hnext:jw W h (i+1)=aV2 V (K64.getD i 0) (W.getD i 0):=by rw[<-hV];rfl
 refine zB.i ?_ ?_<;>intro hc
 ·have hc:(i:Int)<80:=hc
  refine aH.i [[],[0],[],[2],[0,1],r_5] r_6 (by kernel_rfl) ?_
  refine gB ?_
  refine aH.i [[],[0],[],[2],[],[2,3,4],[2,3,4,5],[],[2,3,4,5,7],[2,3,4,5,6,7,8],ek,[],[],[12],[11,12,13],[],[15],[],[17],[15,16,17,18],[11,12,13,14,15,16,17,18,19],aJF,[],[22],[22,23],aW4,[],[26],[26,27],aS3,aS2] [0,1,2,4,7,11,12,13,14,15,16,17,18,19,20,22,23,24,26,27,28,3,5,6,8,9,10,21,25,29,30] (by kernel_rfl) ?_
  refine gB ?_
  refine Call.pure (ip ((jw W h i).getD 4 0) 14 (by decide) (by decide)) rfl fc ?_
  rintro _ rfl
  refine cL.i [] rfl rfl ?_
  refine Call.pure (ip ((jw W h i).getD 4 0) 18 (by decide) (by decide)) rfl fc ?_
  rintro _ rfl
  refine cL.i [] rfl rfl ?_
  refine Call.pure (ip ((jw W h i).getD 4 0) 41 (by decide) (by decide)) rfl fc ?_
  rintro _ rfl
  refine cL.i [] rfl rfl ?_
  refine gB ?_
  refine aH.i [[],[0],[],[0,1,2],r_4,[],[0,1,2,3,5],r_7,[],[],[9],[8,9,10],[],[],[13],[12,13,14],[8,9,10,11,12,13,14,15],[],[17],[],[19],[17,18,19,20],[8,9,10,11,12,13,14,15,16,17,18,19,20,21],aZT,aW5] [0,2,5,8,9,10,11,12,13,14,15,16,17,18,19,20,21,22,1,3,4,6,7,23,24] (by kernel_rfl) ?_
  refine gB ?_
  refine Call.pure (ip ((jw W h i).getD 0 0) 28 (by decide) (by decide)) rfl fc ?_
  rintro _ rfl
  refine cL.i [] rfl rfl ?_
  refine Call.pure (ip ((jw W h i).getD 0 0) 34 (by decide) (by decide)) rfl fc ?_
  rintro _ rfl
  refine cL.i [] rfl rfl ?_
  refine Call.pure (ip ((jw W h i).getD 0 0) 39 (by decide) (by decide)) rfl fc ?_
  rintro _ rfl
  refine cL.i [] rfl rfl ?_
  refine gB ?_
  refine⟨i+1,by omega,by omega,Le.i [] rfl fc rfl ?_ rfl⟩
  exact fc
 obtain rfl:i=80:=by have hc:¬(i:Int)<80:=hc;omega
 have hV':=hV.symm
 have hblk:tc h b=aHA h V 8:=by unfold tc;rw[hWa,hV]
 clear hV
 refine aY.i (σ:=Nat) (λj=>j<=8)
  (λj=>([(0,.ptr 1000 0 none),(10,.ptr 10 0 none),(160,.i .i64 j)],
   [(1000,.mem true 0 [(8,.a64 (aHA h V j))]),(1001,.mem false 0 [(128,.a8 b)]),(10,.mem true 0 [(8,.a64 V)])])) (λj=>8-j) 0 (zero_le _) ?_ ?_
 ·refine Le.i [] rfl fc rfl ?_ rfl
  have e0:aHA h V 0=h:=rfl
  exact fc
 rintro j hj
 have hAl:=kN (v:=V) hh j
 refine zB.i ?_ ?_<;>intro hc
 ·have hc:(j:Int)<8:=hc
  refine aH.i [[],[],[0],[0,1,2],r_4,[],[5],[5,6],r_8,[0],ek,fe] kX (by kernel_rfl) ?_
  refine gB ?_
  refine⟨j+1,by omega,by omega,Le.i [] rfl fc rfl ?_ rfl⟩
  exact fc
 obtain rfl:j=8:=by have hc:¬(j:Int)<8:=hc;omega
 refine gB ?_
 rw[hblk]
 refine Ret.i (.tup []) [(1000,.mem true 0 [(8,.a64 (aHA h V 8))]),(1001,.mem false 0 [(128,.a8 b)])] [] rfl trivial ⟨rfl,rfl⟩ rfl trivial rfl ?_ rfl
 exact fc
@[irreducible] def H32:List UInt32:=[ofNat 1779033703,ofNat 3144134277,ofNat 1013904242,ofNat 2773480762,ofNat 1359893119,ofNat 2600822924,ofNat 528734635,ofNat 1541459225]
theorem aOS:H32=[ofNat 1779033703,ofNat 3144134277,ofNat 1013904242,ofNat 2773480762,ofNat 1359893119,ofNat 2600822924,ofNat 528734635,ofNat 1541459225]:=by unfold H32;rfl
theorem jb:H32.length=8:=by rw[aOS];rfl
def ab (h:List UInt32) (b:List UInt8):Nat->List UInt32
 |0=>h
 |q+1=>yL (ab h b q) ((b.drop (64*q)).take 64)
theorem br {h:List UInt32} (hh:h.length=8) (b:List UInt8):∀q,(ab h b q).length=8
 |0=>hh
 |q+1=>vn (br hh b q) _
def kM (h:List UInt32) (r:SV) (n:UInt64):Ent:=.mem true 0 [(8,.a32 h),(1,r),(1,.u64 n)]
theorem aSF:Sx.Fn Γ.P 68 [] [] (λv M=>v= .ptr 1001 0 none/\M=[(1001,kM H32 .nsl 0)]):=by
 have hH:=aOS
 refine aG (Γ:=Γ) (fn:=Tryz.f68) rfl rfl rfl rfl ?_
 refine gB ?_
 refine Ret.i (.ptr 1001 0 none) [(1001,kM H32 .nsl 0)] [(1001,(3,0,none))] rfl trivial ⟨rfl,rfl⟩ rfl fc rfl fc rfl
def aFF (h:List UInt32) (R b:List UInt8) (n:UInt64) (m:Nat) (old:Mm) (v:SV) (M:Mm):Prop:=
 ∃c,R.length+m<=c/\v= .tup []/\
  M=[(1000,kM (ab h (R++b) ((R.length+m)/64)) (.sl 1005 0 (64*((R.length+m)/64)) (R.length+m-64*((R.length+m)/64)) (c-64*((R.length+m)/64))) (n+ofInt (m:Int)))]++old++
   [(1002,.mem false 0 [(m,.a8 b)]),(1005,.mem true (c-(R.length+m)) [(R.length+m,.a8 (R++b))])]
theorem aUM (h:List UInt32) (l b R:List UInt8) (n:UInt64) (i r c0 sp m:Nat) (hh:h.length=8) (hl:l.length=i+r) (hR:l.drop i=R) (hc0:c0=r+sp) (hb:b.length=m) (hmax:r+m<=100000000):
  Sx.Fn Γ.P 69 [.ptr 1000 0 none,.slx 1002 0 0 m] [(1000,kM h (.sl 1001 0 i r c0) n),(1001,.mem true sp [(i+r,.a8 l)]),(1002,.mem false 0 [(m,.a8 b)])] (aFF h R b n m [(1001,.dead)]):=by
 have hRl:R.length=r:=by rw[<-hR,zlD];omega
 refine aG (Γ:=Γ) (fn:=Tryz.f69) rfl rfl rfl rfl ?_
 obtain⟨N,hN⟩:∃x,R.length+m=x:=⟨_,rfl⟩
 obtain⟨A,hA⟩:∃x,R++b=x:=⟨_,rfl⟩
 have hAl:A.length=N:=by rw[<-hA,zlA,hb,hN]
 have hA2:A=kR i l++take m (List.drop 0 b):=by rw[bq,hR,drop_zero,take_of_length_le (by omega),hA]
 refine gB ?_
 intro c hc
 have hc:R.length+m<=c:=by have:r+m<=c:=hc;omega
 refine gB ?_
 refine aY.i (σ:=Nat) (λq=>q<=N/64)
  (λq=>([(0,.ptr 1000 0 none)],
   [(1000,kM (ab h A q) (.sl 200 0 (64*q) (N-64*q) (c-64*q)) (n+ofInt (m:Int))),(1001,.dead),(1002,.mem false 0 [(m,.a8 b)]),(200,.mem true (c-N) [(N,.a8 A)])])) (λq=>N/64-q) 0 (zero_le _) ?_ ?_
 ·refine Le.i [(200,(20,0,none))] rfl ?_ rfl ?_ rfl
  ·exact fc
  repeat' first|exact trivial|refine zA.app ?_ ?_|refine zA.zd ?_ ?_|refine zA.cons ?_ ?_|exact fc|fail
  all_goals exact hA2
 rintro q hq
 have hbl:=br hh A q
 refine zB.i ?_ ?_<;>intro hc1
 ·have hc1:((N-64*q:Nat):Int)≥64:=hc1
  refine aH.i [[],[0],[0,1],[],[3],[3,4],[3,4,5],[3,4,5,6],r_8] r_9 (by kernel_rfl) ?_
  refine gB ?_
  have hB:=aa7 (ab h A q) ((A.drop (64*q)).take 64) hbl (by simp only[zlT,zlD];omega)
  refine Call.i hB [(1000,(1000,0,none)),(1001,(200,0,some (64*q)))] rfl fc rfl fc rfl ?_
  rintro _ _ ⟨rfl,rfl⟩
  refine gB ?_
  refine⟨q+1,by omega,by omega,Le.i [] rfl fc rfl ?_ rfl⟩
  have e1:64*q+64=64*(q+1):=by omega
  have e2:N-64*q-64=N-64*(q+1):=by omega
  have e3:c-64*q-64=c-64*(q+1):=by omega
  exact fc
 obtain rfl:q=N/64:=by have hc1:¬((N-64*q:Nat):Int)≥64:=hc1;omega
 subst hA
 subst hN
 refine Ret.i (.tup []) ([(1000,kM (ab h (R++b) ((R.length+m)/64)) (.sl 1005 0 (64*((R.length+m)/64)) (R.length+m-64*((R.length+m)/64)) (c-64*((R.length+m)/64))) (n+ofInt (m:Int)))]++[(1001,.dead)]++
   [(1002,.mem false 0 [(m,.a8 b)]),(1005,.mem true (c-(R.length+m)) [(R.length+m,.a8 (R++b))])]) [(1005,(200,0,none))] rfl fc ⟨c,hc,rfl,rfl⟩ rfl fc rfl fc rfl
theorem aUN (h:List UInt32) (b:List UInt8) (n:UInt64) (m:Nat) (hh:h.length=8) (hb:b.length=m) (hmax:m<=100000000):
  Sx.Fn Γ.P 69 [.ptr 1000 0 none,.slx 1002 0 0 m] [(1000,kM h .nsl n),(1002,.mem false 0 [(m,.a8 b)])] (aFF h [] b n m []):=by
 refine aG (Γ:=Γ) (fn:=Tryz.f69) rfl rfl rfl rfl ?_
 obtain⟨R,hR⟩:∃x:List UInt8,[]=x:=⟨_,rfl⟩
 have hRl:R.length=0:=by rw[<-hR];rfl
 rw[hR]
 obtain⟨N,hN⟩:∃x,R.length+m=x:=⟨_,rfl⟩
 obtain⟨A,hA⟩:∃x,R++b=x:=⟨_,rfl⟩
 have hAl:A.length=N:=by rw[<-hA,zlA,hb,hN]
 have hA2:A=[]++take m (List.drop 0 b):=by rw[drop_zero,take_of_length_le (by omega),hR,hA]
 refine gB ?_
 intro c hc
 have hc:R.length+m<=c:=by have:0+m<=c:=hc;omega
 refine gB ?_
 refine aY.i (σ:=Nat) (λq=>q<=N/64)
  (λq=>([(0,.ptr 1000 0 none)],
   [(1000,kM (ab h A q) (.sl 200 0 (64*q) (N-64*q) (c-64*q)) (n+ofInt (m:Int))),(1002,.mem false 0 [(m,.a8 b)]),(200,.mem true (c-N) [(N,.a8 A)])])) (λq=>N/64-q) 0 (zero_le _) ?_ ?_
 ·refine Le.i [(200,(20,0,none))] rfl ?_ rfl ?_ rfl
  ·exact fc
  repeat' first|exact trivial|refine zA.app ?_ ?_|refine zA.zd ?_ ?_|refine zA.cons ?_ ?_|exact fc|fail
  all_goals exact hA2
 rintro q hq
 have hbl:=br hh A q
 refine zB.i ?_ ?_<;>intro hc1
 ·have hc1:((N-64*q:Nat):Int)≥64:=hc1
  refine aH.i [[],[0],[0,1],[],[3],[3,4],[3,4,5],[3,4,5,6],r_8] r_9 (by kernel_rfl) ?_
  refine gB ?_
  have hB:=aa7 (ab h A q) ((A.drop (64*q)).take 64) hbl (by simp only[zlT,zlD];omega)
  refine Call.i hB [(1000,(1000,0,none)),(1001,(200,0,some (64*q)))] rfl fc rfl fc rfl ?_
  rintro _ _ ⟨rfl,rfl⟩
  refine gB ?_
  refine⟨q+1,by omega,by omega,Le.i [] rfl fc rfl ?_ rfl⟩
  have e1:64*q+64=64*(q+1):=by omega
  have e2:N-64*q-64=N-64*(q+1):=by omega
  have e3:c-64*q-64=c-64*(q+1):=by omega
  exact fc
 obtain rfl:q=N/64:=by have hc1:¬((N-64*q:Nat):Int)≥64:=hc1;omega
 subst hA
 subst hN
 refine Ret.i (.tup []) ([(1000,kM (ab h (R++b) ((R.length+m)/64)) (.sl 1005 0 (64*((R.length+m)/64)) (R.length+m-64*((R.length+m)/64)) (c-64*((R.length+m)/64))) (n+ofInt (m:Int)))]++[]++
   [(1002,.mem false 0 [(m,.a8 b)]),(1005,.mem true (c-(R.length+m)) [(R.length+m,.a8 (R++b))])]) [(1005,(200,0,none))] rfl fc ⟨c,hc,rfl,rfl⟩ rfl fc rfl fc rfl
def oP (r:Nat):Nat:=(119-r)%64
def qi (R:List UInt8) (j:Nat):List UInt8:=R++[128]++replicate j 0
def qk (t:List UInt8) (n:UInt64):Nat->List UInt8
 |0=>t
 |k+1=>qk t n k++[(aF (aQ n 3) (8*(7-k))).toUInt8]
def aNJ (w:List UInt32):Nat->List UInt8
 |0=>replicate 32 0
 |i+1=>(aNJ w i).set i (uL (w.getD (i/4) 0) (24-i%4*8)).toUInt8
def yj (R:List UInt8) (n:UInt64):List UInt8:=qk (qi R (oP R.length)) n 8
def wh (h:List UInt32) (R:List UInt8) (n:UInt64):List UInt8:=aNJ (ab h (yj R n) ((yj R n).length/64)) 32
theorem iB (R:List UInt8) (j:Nat):(qi R j).length=R.length+1+j:=by simp[qi];omega
theorem pL (R:List UInt8) (j:Nat):qi R (j+1)=qi R j++[0]:=by
 unfold qi;rw[List.replicate_succ',List.append_assoc,List.append_assoc,List.append_assoc]
theorem iL (t:List UInt8) (n:UInt64):∀k,(qk t n k).length=t.length+k
 |0=>rfl
 |k+1=>by simp only[qk,zlA,iL t n k,List.length_cons,List.length_nil];omega
theorem j5 (w:List UInt32):∀i,(aNJ w i).length=32
 |0=>length_replicate
 |i+1=>by simp only[aNJ,length_set,j5 w i]
theorem nT (h:List UInt32) (R:List UInt8) (n:UInt64):(wh h R n).length=32:=j5 _ _
theorem acM (h:List UInt32) (l R:List UInt8) (n:UInt64) (t i r:Nat) (hh:h.length=8) (hl:l.length=t) (hi:i+r<=t) (hR:(l.drop i).take r=R) (hr:r<64):
  Sx.Fn Γ.P 70 [.ptr 1000 0 none] [(1000,.mem false 0 [(8,.a32 h),(1,.slx 1001 0 i r),(1,.u64 n)]),(1001,.mem false 0 [(t,.a8 l)])]
   (λv M=>v= .a8 (wh h R n)/\M=[(1000,.mem false 0 [(8,.a32 h),(1,.slx 1001 0 i r),(1,.u64 n)]),(1001,.mem false 0 [(t,.a8 l)])]):=by
 have hRl:R.length=r:=by rw[<-hR,zlT,zlD];omega
 refine aG (Γ:=Γ) (fn:=Tryz.f70) rfl rfl rfl rfl ?_
 refine gB ?_
 refine aH.i [[],[],[1],[1,2],[1,2,3],r_5,[],r_7,r_8] [0,1,2,3,4,6,5,7,8] (by kernel_rfl) ?_
 refine gB ?_
 intro c1 hc1
 refine gB ?_
 refine cL.i [(17,.mem true (zmE (c1-((Ix.lit 0).val+r)) 1) [(zmE ((Ix.lit 0).val+r) 1,.a8 (kR 0 []++take r (List.drop i l)))]),(12,.dead)] rfl rfl ?_
 refine gB ?_
 intro c2 hc2
 refine gB ?_
 refine aY.i (σ:=Nat×Nat) (λs=>s.1<=oP r/\r+1+s.1<=s.2)
  (λs=>([(0,.ptr 1000 0 none),(2,.ptr 2 0 none),(3,.ptr 3 0 none),(4,.sl 200 0 0 (r+1+s.1) s.2)],
   [(1000,.mem false 0 [(8,.a32 h),(1,.slx 1001 0 i r),(1,.u64 n)]),(1001,.mem false 0 [(t,.a8 l)]),(2,.mem true 0 [(32,.a8 (replicate 32 0))]),(3,.mem true 0 [(8,.a32 h)]),(200,.mem true (s.2-(r+1+s.1)) [(r+1+s.1,.a8 (qi R s.1))])])) (λs=>oP r-s.1) (0,c2) ⟨zero_le _,by have:(Ix.lit 0).val+r+1<=c2:=hc2;show r+1+0<=c2;have e:(Ix.lit 0).val=0:=rfl;omega⟩ ?_ ?_
 ·refine Le.i [(200,(19,0,none))] rfl ?_ rfl ?_ rfl
  ·exact fc
  repeat' first|exact trivial|refine zA.app ?_ ?_|refine zA.zd ?_ ?_|refine zA.cons ?_ ?_|exact fc|fail
  all_goals(show qi R 0=[]++(take r (List.drop i l))++take 1 (List.drop 0 [128]);rw[hR];simp[qi])
 rintro⟨j,c⟩ ⟨hj,hc⟩
 have hj:j<=oP r:=hj
 have hc:r+1+j<=c:=hc
 have hpl:=iB R j
 rw[hRl]at hpl
 have hz:oP r=(119-r)%64:=rfl
 refine gB ?_
 refine zB.i ?_ ?_<;>intro hb1
 ·have hb1:¬((r+1+j:Nat):Int)%64=56:=hb1
  have hlt:j<oP r:=by omega
  refine gB ?_
  intro c' hc'
  refine gB ?_
  have hp1:=pL R j
  refine⟨(j+1,c'),⟨hlt,by show r+1+(j+1)<=c';have:r+1+j+1<=c':=hc';omega⟩,by show oP r-(j+1)<oP r-j;omega,Le.i [(200,(26,0,none))] rfl fc rfl fc rfl⟩
 have hb1:¬¬((r+1+j:Nat):Int)%64=56:=hb1
 obtain rfl:j=oP r:=by omega
 obtain⟨T0,hT0⟩:∃x,qi R (oP r)=x:=⟨_,rfl⟩
 rw[hT0]at hpl
 obtain⟨L0,hL0⟩:∃x,r+1+oP r=x:=⟨_,rfl⟩
 rw[hL0]at hpl hc
 have hL1:L0=56\/L0=120:=by omega
 have hT0':=hT0.symm
 have hL0':=hL0.symm
 have htail:yj R n=qk T0 n 8:=by unfold yj;rw[hRl,hT0]
 refine aY.i (σ:=Nat×Nat) (λs=>s.1<=8/\L0+s.1<=s.2)
  (λs=>([(0,.ptr 1000 0 none),(2,.ptr 2 0 none),(3,.ptr 3 0 none),(4,.sl 200 0 0 (L0+s.1) s.2),(5,.i .i64 (7-(s.1:Int)))],
   [(1000,.mem false 0 [(8,.a32 h),(1,.slx 1001 0 i r),(1,.u64 n)]),(1001,.mem false 0 [(t,.a8 l)]),(2,.mem true 0 [(32,.a8 (replicate 32 0))]),(3,.mem true 0 [(8,.a32 h)]),(200,.mem true (s.2-(L0+s.1)) [(L0+s.1,.a8 (qk T0 n s.1))])])) (λs=>8-s.1) (0,c) ⟨zero_le _,hc⟩ ?_ ?_
 ·clear hT0 hL0
  refine Le.i [] rfl ?_ rfl ?_ rfl
  ·exact fc
  have e0:qk T0 n 0=T0:=rfl
  repeat' first|exact trivial|refine zA.app ?_ ?_|refine zA.zd ?_ ?_|refine zA.cons ?_ ?_|exact fc|fail
  all_goals exact hT0'
 clear hT0' hL0'
 rintro⟨k,c⟩ ⟨hk,hc⟩
 have hk:k<=8:=hk
 have hc:L0+k<=c:=hc
 have hll:=iL T0 n k
 rw[hpl]at hll
 refine zB.i ?_ ?_<;>intro hb2
 ·have hb2:(7-(k:Int))≥0:=hb2
  refine gB ?_
  intro c' hc'
  refine gB ?_
  have e7:(8*(7-(k:Int))).toNat=8*(7-k):=by omega
  refine⟨(k+1,c'),⟨by show k+1<=8;omega,by show L0+(k+1)<=c';have:L0+k+1<=c':=hc';omega⟩,by show 8-(k+1)<8-k;omega,Le.i [(200,(42,0,none))] rfl ?_ rfl ?_ rfl⟩
  ·exact fc
  repeat' first|exact trivial|refine zA.app ?_ ?_|refine zA.zd ?_ ?_|refine zA.cons ?_ ?_|exact fc|fail
  show qk T0 n (k+1)=qk T0 n k++[(aF (aQ n 3) (8*(7-(k:Int))).toNat).toUInt8]
  rw[e7]
  rfl
 obtain rfl:k=8:=by have hb2:¬(7-(k:Int))≥0:=hb2;omega
 obtain⟨T,hT⟩:∃x,qk T0 n 8=x:=⟨_,rfl⟩
 obtain⟨L,hL⟩:∃x,L0+8=x:=⟨_,rfl⟩
 rw[hT,hL]at hll
 rw[hL]at hc
 rw[hT]at htail
 have hT':=hT.symm
 have hsum:wh h R n=aNJ (ab h T (L/64)) 32:=by unfold wh;rw[htail,hll]
 refine aY.i (σ:=Nat) (λq=>q<=L/64)
  (λq=>([(2,.ptr 2 0 none),(3,.ptr 3 0 none),(4,.sl 200 0 (64*q) (L-64*q) (c-64*q))],
   [(1000,.mem false 0 [(8,.a32 h),(1,.slx 1001 0 i r),(1,.u64 n)]),(1001,.mem false 0 [(t,.a8 l)]),(2,.mem true 0 [(32,.a8 (replicate 32 0))]),(3,.mem true 0 [(8,.a32 (ab h T q))]),(200,.mem true (c-L) [(L,.a8 T)])])) (λq=>L/64-q) 0 (zero_le _) ?_ ?_
 ·clear hT
  refine Le.i [] rfl ?_ rfl ?_ rfl
  ·exact fc
  have e0:ab h T 0=h:=rfl
  repeat' first|exact trivial|refine zA.app ?_ ?_|refine zA.zd ?_ ?_|refine zA.cons ?_ ?_|exact fc|fail
  all_goals exact hT'
 clear hT'
 rintro q hq
 have hbl:=br hh T q
 refine zB.i ?_ ?_<;>intro hb3
 ·have hb3:((L-64*q:Nat):Int)>0:=hb3
  have hq64:64*q+64<=L:=by omega
  refine gB ?_
  have hB:=aa7 (ab h T q) ((T.drop (64*q)).take 64) hbl (by simp only[zlT,zlD];omega)
  refine Call.i hB [(1000,(3,0,none)),(1001,(200,0,some (64*q)))] rfl fc rfl fc rfl ?_
  rintro _ _ ⟨rfl,rfl⟩
  refine gB ?_
  have e1:64*q+64=64*(q+1):=by omega
  have e2:L-64*q-64=L-64*(q+1):=by omega
  have e3:c-64*q-64=c-64*(q+1):=by omega
  refine⟨q+1,by omega,by omega,Le.i [] rfl fc rfl fc rfl⟩
 obtain rfl:q=L/64:=by have hb3:¬((L-64*q:Nat):Int)>0:=hb3;omega
 obtain⟨W,hW⟩:∃x,ab h T (L/64)=x:=⟨_,rfl⟩
 rw[hW]at hbl hsum
 have hW':=hW.symm
 refine gB ?_
 refine aY.i (σ:=Nat) (λj=>j<=32)
  (λj=>([(2,.ptr 2 0 none),(3,.ptr 3 0 none),(6,.ptr 6 0 none),(51,.i .i64 j)],
   [(1000,.mem false 0 [(8,.a32 h),(1,.slx 1001 0 i r),(1,.u64 n)]),(1001,.mem false 0 [(t,.a8 l)]),(2,.mem true 0 [(32,.a8 (replicate 32 0))]),(3,.mem true 0 [(8,.a32 W)]),(6,.mem true 0 [(32,.a8 (aNJ W j))])])) (λj=>32-j) 0 (zero_le _) ?_ ?_
 ·clear hW
  refine Le.i [] rfl fc rfl fc rfl
 clear hW'
 rintro j hj
 have hol:=j5 W j
 refine zB.i ?_ ?_<;>intro hb4
 ·have hb4:(j:Int)<32:=hb4
  have ed:((j:Int)/4).toNat=j/4:=by omega
  have es:(24-(j:Int)%4*8).toNat=24-j%4*8:=by omega
  refine gB ?_
  refine⟨j+1,by omega,by omega,Le.i [] rfl fc rfl ?_ rfl⟩
  repeat' first|exact trivial|refine zA.app ?_ ?_|refine zA.zd ?_ ?_|refine zA.cons ?_ ?_|exact fc|fail
  all_goals simp only[ed,es,zero_add,zQ,Ix.val,zIn,aNJ]
 obtain rfl:j=32:=by have hb4:¬(j:Int)<32:=hb4;omega
 refine gB ?_
 rw[hsum]
 refine Ret.i (.a8 (aNJ W 32)) [(1000,.mem false 0 [(8,.a32 h),(1,.slx 1001 0 i r),(1,.u64 n)]),(1001,.mem false 0 [(t,.a8 l)])] [] rfl fc ⟨rfl,rfl⟩ rfl fc rfl fc rfl
@[irreducible] def ej (b:List UInt8):List UInt8:=wh (ab H32 b (b.length/64)) (b.drop (64*(b.length/64))) (0+ofInt (b.length:Int))
theorem oq (b:List UInt8):ej b=wh (ab H32 b (b.length/64)) (b.drop (64*(b.length/64))) (0+ofInt (b.length:Int)):=by unfold ej;rfl
theorem cr (b:List UInt8):(ej b).length=32:=by rw[oq];exact nT _ _ _
theorem aN6 (h:List UInt32) (b:List UInt8) (n:UInt64) (m:Nat) (hh:h.length=8) (hb:b.length=m) (hmax:m<=100000000):
  Sx.Fn Γ.P 69 [.ptr 1000 0 none,.slx 1002 0 0 m] [(1000,kM h .nsl n),(1002,.mem false 0 [(m,.a8 b)])]
   (λv M=>∃c,m<=c/\v= .tup []/\M=[(1000,kM (ab h b (m/64)) (.sl 1005 0 (64*(m/64)) (m-64*(m/64)) (c-64*(m/64))) (n+ofInt (m:Int))),
    (1002,.mem false 0 [(m,.a8 b)]),(1005,.mem true (c-m) [(m,.a8 b)])]):=by
 refine Fn.mono (aUN h b n m hh hb hmax) ?_
 rintro v M ⟨c,hc,hv,hM⟩
 have hz:([]:List UInt8).length+m=m:=zero_add m
 rw[hz,nil_append]at hM
 rw[hz]at hc
 exact⟨c,hc,hv,hM⟩
theorem ru (b:List UInt8) (m:Nat) (hb:b.length=m) (hmax:m<=100000000):Sx.Fn Γ.P 67 [.slx 1002 0 0 m] [(1002,.mem false 0 [(m,.a8 b)])]
  (λv M=>v= .a8 (ej b)/\M=[(1002,.mem false 0 [(m,.a8 b)])]):=by
 refine aG (Γ:=Γ) (fn:=Tryz.f67) rfl rfl rfl rfl ?_
 have hP:=aN6 H32 b 0 m jb hb hmax
 have hS:=acM (ab H32 b (m/64)) b (b.drop (64*(m/64))) (0+ofInt (m:Int)) m (64*(m/64)) (m-64*(m/64)) (br jb _ _) hb (by omega) (by rw[take_of_length_le (by rw[zlD];omega)]) (by omega)
 refine gB ?_
 refine Call.i aSF [(1001,(1001,0,none))] rfl trivial rfl trivial rfl ?_
 rintro _ _ ⟨rfl,rfl⟩
 refine gB ?_
 refine Call.i hP [(1000,(1001,0,none)),(1002,(1002,0,none)),(1005,(1005,0,none))] rfl fc rfl fc rfl ?_
 rintro v M' ⟨c,hc,rfl,rfl⟩
 refine gB ?_
 have hsl:=nT (ab H32 b (m/64)) (b.drop (64*(m/64))) (0+ofInt (m:Int))
 refine Call.i hS [(1000,(1001,0,none)),(1001,(1005,0,none))] rfl fc rfl fc rfl ?_
 rintro _ _ ⟨rfl,rfl⟩
 refine gB ?_
 refine Ret.i (.a8 (ej b)) [(1002,.mem false 0 [(m,.a8 b)])] [] rfl ?_ ⟨rfl,rfl⟩ rfl ?_ rfl ?_ rfl
 ·exact fc
 ·have hs:ej b=wh (ab H32 b (m/64)) (b.drop (64*(m/64))) (0+ofInt (m:Int)):=by rw[oq,hb]
  exact fc
 exact fc
@[irreducible] def H64:List UInt64:=[UInt64.ofNat 7640891576956012808,UInt64.ofNat 13503953896175478587,UInt64.ofNat 4354685564936845355,UInt64.ofNat 11912009170470909681,UInt64.ofNat 5840696475078001361,UInt64.ofNat 11170449401992604703,UInt64.ofNat 2270897969802886507,UInt64.ofNat 6620516959819538809]
theorem aI8:H64=[UInt64.ofNat 7640891576956012808,UInt64.ofNat 13503953896175478587,UInt64.ofNat 4354685564936845355,UInt64.ofNat 11912009170470909681,UInt64.ofNat 5840696475078001361,UInt64.ofNat 11170449401992604703,UInt64.ofNat 2270897969802886507,UInt64.ofNat 6620516959819538809]:=by unfold H64;rfl
theorem sJ:H64.length=8:=by rw[aI8];rfl
def ao (h:List UInt64) (b:List UInt8):Nat->List UInt64
 |0=>h
 |q+1=>tc (ao h b q) ((b.drop (128*q)).take 128)
theorem dE {h:List UInt64} (hh:h.length=8) (b:List UInt8):∀q,(ao h b q).length=8
 |0=>hh
 |q+1=>vm (dE hh b q) _
def aw (r:Nat):Nat:=(239-r)%128
def il (w:List UInt64):Nat->List UInt8
 |0=>replicate 64 0
 |i+1=>(il w i).set i (aF (w.getD (i/8) 0) (56-i%8*8)).toUInt8
def gR (R:List UInt8) (n:UInt64):List UInt8:=qk (qi R (aw R.length)++replicate 8 0) n 8
theorem iC (w:List UInt64):∀i,(il w i).length=64
 |0=>length_replicate
 |i+1=>by simp only[il,length_set,iC w i]
@[irreducible] def ae (b:List UInt8):List UInt8:=
 il (ao (ao H64 b (b.length/128)) (gR (b.drop (128*(b.length/128))) (ofInt (b.length:Int))) ((gR (b.drop (128*(b.length/128))) (ofInt (b.length:Int))).length/128)) 64
theorem lw (b:List UInt8):ae b=
 il (ao (ao H64 b (b.length/128)) (gR (b.drop (128*(b.length/128))) (ofInt (b.length:Int))) ((gR (b.drop (128*(b.length/128))) (ofInt (b.length:Int))).length/128)) 64:=by unfold ae;rfl
theorem aW (b:List UInt8):(ae b).length=64:=by rw[lw];exact iC _ _
theorem aUT (b:List UInt8) (m:Nat) (hb:b.length=m) (hmax:m<=100000000):Sx.Fn Γ.P 58 [.slx 1002 0 0 m] [(1002,.mem false 0 [(m,.a8 b)])]
  (λv M=>v= .a8 (ae b)/\M=[(1002,.mem false 0 [(m,.a8 b)])]):=by
 have hH:=aI8
 refine aG (Γ:=Γ) (fn:=Tryz.f58) rfl rfl rfl rfl ?_
 obtain⟨n,hn⟩:∃x,ofInt (m:Int)=x:=⟨_,rfl⟩
 refine gB ?_
 refine aY.i (σ:=Nat) (λq=>q<=m/128)
  (λq=>([(0,.slx 1002 0 (128*q) (m-128*q)),(2,.ptr 2 0 none),(3,.ptr 3 0 none),(4,.u64 n)],
   [(1002,.mem false 0 [(m,.a8 b)]),(2,.mem true 0 [(64,.a8 (replicate 64 0))]),(3,.mem true 0 [(8,.a64 (ao H64 b q))])])) (λq=>m/128-q) 0 (zero_le _) ?_ ?_
 ·have hn':=hn.symm
  clear hn
  refine Le.i [] rfl ?_ rfl ?_ rfl
  ·exact fc
  have e0:ao H64 b 0=H64:=rfl
  repeat' first|exact trivial|refine zA.app ?_ ?_|refine zA.zd ?_ ?_|refine zA.cons ?_ ?_|exact fc|fail
  all_goals exact hH
 rintro q hq
 have hbl:=dE sJ b q
 refine zB.i ?_ ?_<;>intro hb1
 ·have hb1:((m-128*q:Nat):Int)≥128:=hb1
  refine gB ?_
  have hB:=aWB (ao H64 b q) ((b.drop (128*q)).take 128) hbl (by simp only[zlT,zlD];omega)
  refine Call.i hB [(1000,(3,0,none)),(1001,(1002,0,some (128*q)))] rfl fc rfl fc rfl ?_
  rintro _ _ ⟨rfl,rfl⟩
  refine gB ?_
  have e1:128*q+128=128*(q+1):=by omega
  have e2:m-128*q-128=m-128*(q+1):=by omega
  refine⟨q+1,by omega,by omega,Le.i [] rfl fc rfl fc rfl⟩
 obtain rfl:q=m/128:=by have hb1:¬((m-128*q:Nat):Int)≥128:=hb1;omega
 obtain⟨h,hh⟩:∃x,ao H64 b (m/128)=x:=⟨_,rfl⟩
 rw[hh]at hbl
 obtain⟨i,hi⟩:∃x,128*(m/128)=x:=⟨_,rfl⟩
 obtain⟨r,hr⟩:∃x,m-i=x:=⟨_,rfl⟩
 obtain⟨R,hR⟩:∃x,b.drop i=x:=⟨_,rfl⟩
 have hRl:R.length=r:=by rw[<-hR,zlD];omega
 have hr128:r<128:=by omega
 have htk:take r (List.drop i b)=R:=by rw[hR,take_of_length_le (by omega)]
 have hsum0:ae b=il (ao h (gR R n) ((gR R n).length/128)) 64:=by
  rw[lw,hb,hi,hR,hn,hh]
 refine gB ?_
 intro c1 hc1
 refine gB ?_
 intro c2 hc2
 refine gB ?_
 refine aY.i (σ:=Nat×Nat) (λs=>s.1<=aw r/\r+1+s.1<=s.2)
  (λs=>([(2,.ptr 2 0 none),(3,.ptr 3 0 none),(4,.u64 n),(5,.sl 200 0 0 (r+1+s.1) s.2)],
   [(1002,.mem false 0 [(m,.a8 b)]),(2,.mem true 0 [(64,.a8 (replicate 64 0))]),(3,.mem true 0 [(8,.a64 h)]),(200,.mem true (s.2-(r+1+s.1)) [(r+1+s.1,.a8 (qi R s.1))])])) (λs=>aw r-s.1) (0,c2) ⟨zero_le _,by have:(Ix.lit 0).val+(m-128*(m/128))+1<=c2:=hc2;show r+1+0<=c2;have e:(Ix.lit 0).val=0:=rfl;omega⟩ ?_ ?_
 ·refine Le.i [(200,(25,0,none))] rfl ?_ rfl ?_ rfl
  ·exact fc
  have hh':=hh.symm
  clear hh hR
  repeat' first|exact trivial|refine zA.app ?_ ?_|refine zA.zd ?_ ?_|refine zA.cons ?_ ?_|exact fc|fail
  all_goals(show qi R 0=[]++take (m-128*(m/128)) (List.drop (128*(m/128)) b)++[128];rw[hi,hr,htk];simp[qi])
 rintro⟨j,c⟩ ⟨hj,hc⟩
 have hj:j<=aw r:=hj
 have hc:r+1+j<=c:=hc
 have hpl:=iB R j
 rw[hRl]at hpl
 have hz:aw r=(239-r)%128:=rfl
 refine gB ?_
 refine zB.i ?_ ?_<;>intro hb1
 ·have hb1:¬((r+1+j:Nat):Int)%128=112:=hb1
  have hlt:j<aw r:=by omega
  refine gB ?_
  intro c' hc'
  refine gB ?_
  have hp1:=pL R j
  refine⟨(j+1,c'),⟨hlt,by show r+1+(j+1)<=c';have:r+1+j+1<=c':=hc';omega⟩,by show aw r-(j+1)<aw r-j;omega,Le.i [(200,(32,0,none))] rfl fc rfl fc rfl⟩
 have hb1:¬¬((r+1+j:Nat):Int)%128=112:=hb1
 obtain rfl:j=aw r:=by omega
 obtain⟨T0,hT0⟩:∃x,qi R (aw r)=x:=⟨_,rfl⟩
 rw[hT0]at hpl
 obtain⟨L0,hL0⟩:∃x,r+1+aw r=x:=⟨_,rfl⟩
 rw[hL0]at hpl hc
 have hL1:L0=112\/L0=240:=by omega
 have hT0':T0++replicate 8 0=qi R (aw r)++replicate 8 0:=by rw[hT0]
 have htail:gR R n=qk (T0++replicate 8 0) n 8:=by unfold gR;rw[hRl,hT0]
 obtain⟨T1,hT1⟩:∃x,T0++replicate 8 0=x:=⟨_,rfl⟩
 rw[hT1]at htail hT0'
 have hT1l:T1.length=L0+8:=by rw[<-hT1,zlA,hpl,length_replicate]
 clear hT0 hT1
 refine gB ?_
 intro c3 hc3
 refine gB ?_
 refine aY.i (σ:=Nat×Nat) (λs=>s.1<=8/\L0+8+s.1<=s.2)
  (λs=>([(2,.ptr 2 0 none),(3,.ptr 3 0 none),(4,.u64 n),(5,.sl 200 0 0 (L0+8+s.1) s.2),(6,.i .i64 (7-(s.1:Int)))],
   [(1002,.mem false 0 [(m,.a8 b)]),(2,.mem true 0 [(64,.a8 (replicate 64 0))]),(3,.mem true 0 [(8,.a64 h)]),(200,.mem true (s.2-(L0+8+s.1)) [(L0+8+s.1,.a8 (qk T1 n s.1))])])) (λs=>8-s.1) (0,c3) ⟨zero_le _,by have:r+1+aw r+Int.toNat 8<=c3:=hc3;show L0+8+0<=c3;have e:Int.toNat 8=8:=rfl;omega⟩ ?_ ?_
 ·have hL0':=hL0.symm
  clear hL0
  refine Le.i [(200,(34,0,none))] rfl ?_ rfl ?_ rfl
  ·exact fc
  have e0:qk T1 n 0=T1:=rfl
  repeat' first|exact trivial|refine zA.app ?_ ?_|refine zA.zd ?_ ?_|refine zA.cons ?_ ?_|exact fc|fail
  all_goals exact hT0'
 rintro⟨k,c⟩ ⟨hk,hc⟩
 have hk:k<=8:=hk
 have hc:L0+8+k<=c:=hc
 have hll:=iL T1 n k
 rw[hT1l]at hll
 refine zB.i ?_ ?_<;>intro hb2
 ·have hb2:(7-(k:Int))≥0:=hb2
  refine gB ?_
  intro c' hc'
  refine gB ?_
  have e7:(8*(7-(k:Int))).toNat=8*(7-k):=by omega
  refine⟨(k+1,c'),⟨by show k+1<=8;omega,by show L0+8+(k+1)<=c';have:L0+8+k+1<=c':=hc';omega⟩,by show 8-(k+1)<8-k;omega,Le.i [(200,(47,0,none))] rfl ?_ rfl ?_ rfl⟩
  ·exact fc
  repeat' first|exact trivial|refine zA.app ?_ ?_|refine zA.zd ?_ ?_|refine zA.cons ?_ ?_|exact fc|fail
  show qk T1 n (k+1)=qk T1 n k++[(aF (aQ n 3) (8*(7-(k:Int))).toNat).toUInt8]
  rw[e7]
  rfl
 obtain rfl:k=8:=by have hb2:¬(7-(k:Int))≥0:=hb2;omega
 obtain⟨T,hT⟩:∃x,qk T1 n 8=x:=⟨_,rfl⟩
 obtain⟨L,hL⟩:∃x,L0+8+8=x:=⟨_,rfl⟩
 rw[hT,hL]at hll
 rw[hL]at hc
 rw[hT]at htail
 have hT':=hT.symm
 have hsum:ae b=il (ao h T (L/128)) 64:=by rw[hsum0,htail,hll]
 clear hsum0
 refine aY.i (σ:=Nat) (λq=>q<=L/128)
  (λq=>([(2,.ptr 2 0 none),(3,.ptr 3 0 none),(5,.sl 200 0 (128*q) (L-128*q) (c-128*q))],
   [(1002,.mem false 0 [(m,.a8 b)]),(2,.mem true 0 [(64,.a8 (replicate 64 0))]),(3,.mem true 0 [(8,.a64 (ao h T q))]),(200,.mem true (c-L) [(L,.a8 T)])])) (λq=>L/128-q) 0 (zero_le _) ?_ ?_
 ·clear hT
  refine Le.i [] rfl ?_ rfl ?_ rfl
  ·exact fc
  have e0:ao h T 0=h:=rfl
  repeat' first|exact trivial|refine zA.app ?_ ?_|refine zA.zd ?_ ?_|refine zA.cons ?_ ?_|exact fc|fail
  all_goals exact hT'
 clear hT'
 rintro q hq
 have hbl2:=dE hbl T q
 refine zB.i ?_ ?_<;>intro hb3
 ·have hb3:((L-128*q:Nat):Int)>0:=hb3
  have hq64:128*q+128<=L:=by omega
  refine gB ?_
  have hB:=aWB (ao h T q) ((T.drop (128*q)).take 128) hbl2 (by simp only[zlT,zlD];omega)
  refine Call.i hB [(1000,(3,0,none)),(1001,(200,0,some (128*q)))] rfl fc rfl fc rfl ?_
  rintro _ _ ⟨rfl,rfl⟩
  refine gB ?_
  have e1:128*q+128=128*(q+1):=by omega
  have e2:L-128*q-128=L-128*(q+1):=by omega
  have e3:c-128*q-128=c-128*(q+1):=by omega
  refine⟨q+1,by omega,by omega,Le.i [] rfl fc rfl fc rfl⟩
 obtain rfl:q=L/128:=by have hb3:¬((L-128*q:Nat):Int)>0:=hb3;omega
 obtain⟨W,hW⟩:∃x,ao h T (L/128)=x:=⟨_,rfl⟩
 rw[hW]at hbl2 hsum
 have hW':=hW.symm
 refine gB ?_
 refine aY.i (σ:=Nat) (λj=>j<=64)
  (λj=>([(2,.ptr 2 0 none),(3,.ptr 3 0 none),(7,.ptr 7 0 none),(56,.i .i64 j)],
   [(1002,.mem false 0 [(m,.a8 b)]),(2,.mem true 0 [(64,.a8 (replicate 64 0))]),(3,.mem true 0 [(8,.a64 W)]),(7,.mem true 0 [(64,.a8 (il W j))])])) (λj=>64-j) 0 (zero_le _) ?_ ?_
 ·clear hW
  refine Le.i [] rfl fc rfl fc rfl
 clear hW'
 rintro j hj
 have hol:=iC W j
 refine zB.i ?_ ?_<;>intro hb4
 ·have hb4:(j:Int)<64:=hb4
  have ed:((j:Int)/8).toNat=j/8:=by omega
  have es:(56-(j:Int)%8*8).toNat=56-j%8*8:=by omega
  refine gB ?_
  refine⟨j+1,by omega,by omega,Le.i [] rfl fc rfl ?_ rfl⟩
  repeat' first|exact trivial|refine zA.app ?_ ?_|refine zA.zd ?_ ?_|refine zA.cons ?_ ?_|exact fc|fail
  all_goals simp only[ed,es,zero_add,zQ,Ix.val,zIn,il]
 obtain rfl:j=64:=by have hb4:¬(j:Int)<64:=hb4;omega
 refine gB ?_
 rw[hsum]
 refine Ret.i (.a8 (il W 64)) [(1002,.mem false 0 [(m,.a8 b)])] [] rfl fc ⟨rfl,rfl⟩ rfl fc rfl fc rfl
structure Cf where
 sz:UInt64
 mask:UInt64
 s:List UInt64
 k:List UInt64
 n:Nat
 wd:Nat
def hR (c:Cf) (h v:List UInt64):Nat->List UInt64
 |0=>h
 |i+1=>(hR c h v i).set i (((hR c h v i).getD i 0+v.getD i 0)&&&c.mask)
def up (l:List UInt32):List UInt64:=l.map UInt32.toUInt64
theorem nI {h:List UInt32} {A T:List UInt8} {p:Nat} (hA:A.length=64*p):∀q,ab h (A++T) (p+q)=ab (ab h A p) T q
 |0=>by
  have:∀k,k<=p->ab h (A++T) k=ab h A k:=by
   intro k
   induction k with
   |zero=>intro _;rfl
   |succ k ih=>
    intro hk
    simp only[ab]
    rw[ih (by omega),List.drop_append_of_le_length (by omega),List.take_append_of_le_length (by rw[zlD];omega)]
  exact this p (le_refl _)
 |q+1=>by
  show yL (ab h (A++T) (p+q)) (((A++T).drop (64*(p+q))).take 64)=yL (ab (ab h A p) T q) ((T.drop (64*q)).take 64)
  rw[nI hA q,List.drop_append,List.drop_of_length_le (by omega),nil_append,hA,show 64*(p+q)-64*p=64*q by omega]
theorem yK {h:List UInt32} {b:List UInt8} {p:Nat} (hp:64*p<=b.length):ab h (b.take (64*p)) p=ab h b p:=by
 have:=nI (h:=h) (A:=b.take (64*p)) (T:=b.drop (64*p)) (p:=p) (by rw[zlT];omega) 0
 rw[List.take_append_drop]at this
 exact this.symm
@[irreducible] def hw (A:List UInt8):List UInt32:=ab H32 A (A.length/64)
theorem aG6 (A:List UInt8):hw A=ab H32 A (A.length/64):=by unfold hw;rfl
theorem vE (A:List UInt8):(hw A).length=8:=by rw[aG6];exact br jb _ _
theorem sn (a b:Nat):ofInt (a:Int)+ofInt (b:Int)=ofInt ((a+b:Nat):Int):=by
 rw[Int.natCast_add,UInt64.ofInt_add]
theorem aUD {A b:List UInt8} {N m:Nat} (hA:A.length=N) (hb:b.length=m):ab (hw A) (A.drop (64*(N/64))++b) ((N%64+m)/64)=hw (A++b):=by
 rw[aG6,aG6,zlA,hA,hb]
 have h1:(A.take (64*(N/64))).length=64*(N/64):=by rw[zlT];omega
 have h2:=nI (h:=H32) (A:=A.take (64*(N/64))) (T:=A.drop (64*(N/64))++b) h1 ((N%64+m)/64)
 rw[<-List.append_assoc,List.take_append_drop,yK (by omega)]at h2
 rw[<-h2]
 congr 1
 omega
structure aAY (A:List UInt8) (N i c sp:Nat) (L:List UInt8):Prop where
 len:A.length=N
 ll:L.length=i+N%64
 drop:L.drop i=A.drop (64*(N/64))
 cap:c=N%64+sp
theorem aAH (b:List UInt8) (m:Nat) (hb:b.length=m) (hmax:m<=100000000):
  Sx.Fn Γ.P 69 [.ptr 1000 0 none,.slx 1002 0 0 m] [(1000,kM H32 .nsl 0),(1002,.mem false 0 [(m,.a8 b)])]
   (λv M=>∃i c sp L,aAY b m i c sp L/\v= .tup []/\M=[(1000,kM (hw b) (.sl 1005 0 i (m%64) c) (ofInt (m:Int))),(1002,.mem false 0 [(m,.a8 b)]),(1005,.mem true sp [(i+m%64,.a8 L)])]):=by
 refine Fn.mono (aN6 H32 b 0 m jb hb hmax) ?_
 rintro v M ⟨c,hc,hv,hM⟩
 refine⟨64*(m/64),c-64*(m/64),c-m,b,⟨hb,by omega,rfl,by omega⟩,hv,?_⟩
 rw[hM,aG6,hb,show m-64*(m/64)=m%64 by omega,show 64*(m/64)+m%64=m by omega]
 rw[UInt64.zero_add]
theorem aAI (A b:List UInt8) (N m i c sp:Nat) (L:List UInt8) (h:aAY A N i c sp L) (hb:b.length=m) (hmax:m<=99999900):
  Sx.Fn Γ.P 69 [.ptr 1000 0 none,.slx 1002 0 0 m] [(1000,kM (hw A) (.sl 1001 0 i (N%64) c) (ofInt (N:Int))),(1001,.mem true sp [(i+N%64,.a8 L)]),(1002,.mem false 0 [(m,.a8 b)])]
   (λv M=>∃i' c' sp' L',aAY (A++b) (N+m) i' c' sp' L'/\v= .tup []/\
    M=[(1000,kM (hw (A++b)) (.sl 1005 0 i' ((N+m)%64) c') (ofInt ((N+m:Nat):Int))),(1001,.dead),(1002,.mem false 0 [(m,.a8 b)]),(1005,.mem true sp' [(i'+(N+m)%64,.a8 L')])]):=by
 obtain⟨h1,h2,h3,h4⟩:=h
 refine Fn.mono (aUM (hw A) L b (L.drop i) (ofInt (N:Int)) i (N%64) c sp m (vE A) h2 rfl h4 hb (by omega)) ?_
 rintro v M ⟨c',hc,hv,hM⟩
 have hl:(L.drop i).length=N%64:=by rw[zlD];omega
 rw[hl]at hM hc
 rw[h3]at hM
 refine⟨64*((N%64+m)/64),c'-64*((N%64+m)/64),c'-(N%64+m),A.drop (64*(N/64))++b,⟨by rw[zlA,h1,hb],?_,?_,by omega⟩,hv,?_⟩
 ·rw[zlA,zlD,h1,hb];omega
 ·rw[List.drop_append,List.drop_append,List.drop_drop,zlD,h1]
  rw[show 64*(N/64)+64*((N%64+m)/64)=64*((N+m)/64) by omega,show 64*((N%64+m)/64)-(N-64*(N/64))=64*((N+m)/64)-N by omega]
 rw[hM,aUD h1 hb,sn,show N%64+m-64*((N%64+m)/64)=(N+m)%64 by omega,show 64*((N%64+m)/64)+(N+m)%64=N%64+m by omega]
 rfl
theorem aAG (A:List UInt8) (N i c sp:Nat) (L:List UInt8) (h:aAY A N i c sp L):
  Sx.Fn Γ.P 70 [.ptr 1000 0 none] [(1000,.mem false 0 [(8,.a32 (hw A)),(1,.slx 1001 0 i (N%64)),(1,.u64 (ofInt (N:Int)))]),(1001,.mem false 0 [(i+N%64,.a8 L)])]
   (λv M=>v= .a8 (ej A)/\M=[(1000,.mem false 0 [(8,.a32 (hw A)),(1,.slx 1001 0 i (N%64)),(1,.u64 (ofInt (N:Int)))]),(1001,.mem false 0 [(i+N%64,.a8 L)])]):=by
 obtain⟨h1,h2,h3,h4⟩:=h
 have e:(L.drop i).take (N%64)=A.drop (64*(N/64)):=by
  rw[h3,take_of_length_le]
  rw[zlD,h1];omega
 refine Fn.mono (acM (hw A) L (A.drop (64*(N/64))) (ofInt (N:Int)) (i+N%64) i (N%64) (vE A) h2 (le_refl _) e (by omega)) ?_
 rintro v M ⟨hv,hM⟩
 refine⟨?_,hM⟩
 rw[hv,oq,h1,<-h1,<-aG6,h1,UInt64.zero_add]
def aNY (key:List UInt8):List UInt8:=if 64<key.length then ej key else key
def aBX (kb:List UInt8):List UInt8:=kb++replicate (64-kb.length) 0
@[irreducible] def q7 (key text:List UInt8):List UInt8:=
 ej ((aBX (aNY key)).map (·^^^92)++ej ((aBX (aNY key)).map (·^^^54)++text))
theorem aG7 (key text:List UInt8):q7 key text=ej ((aBX (aNY key)).map (·^^^92)++ej ((aBX (aNY key)).map (·^^^54)++text)):=by unfold q7;rfl
theorem dR (key text:List UInt8):(q7 key text).length=32:=by rw[aG7];exact cr _
theorem xq (key:List UInt8):(aNY key).length<=64:=by
 unfold aNY;split
 ·rw[cr];omega
 omega
theorem pN {kb:List UInt8} (h:kb.length<=64):(aBX kb).length=64:=by unfold aBX;rw[zlA,length_replicate];omega
def xoS (p:List UInt8) (c:UInt8):Nat->List UInt8
 |0=>p
 |i+1=>(xoS p c i).set i ((xoS p c i).getD i 0^^^c)
theorem fF (p:List UInt8) (c:UInt8):∀i,(xoS p c i).length=p.length
 |0=>rfl
 |i+1=>by simp only[xoS,length_set,fF p c i]
theorem aDM (p:List UInt8) (c:UInt8):∀i,i<=p.length->∀j,(xoS p c i)[j]? =if j<i then(p[j]?).map (·^^^c)else p[j]?
 |0,_,j=>by rw[if_neg (by omega)];rfl
 |i+1,h,j=>by
  have ih:=aDM p c i (by omega)
  simp only[xoS]
  by_cases hj:i=j
  ·subst hj
   rw[List.getElem?_set_self (by rw[fF];omega),if_pos (by omega),getD_eq_getElem?_getD,ih i,if_neg (by omega),List.getElem?_eq_getElem (by omega)]
   rfl
  rw[List.getElem?_set_ne hj,ih j]
  by_cases h1:j<i
  ·rw[if_pos h1,if_pos (by omega)]
  rw[if_neg h1,if_neg (by omega)]
theorem sM (p:List UInt8) (c:UInt8):xoS p c p.length=p.map (·^^^c):=by
 apply List.ext_getElem?
 intro j
 rw[aDM p c p.length (le_refl _),List.getElem?_map]
 split
 ·rfl
 rw[List.getElem?_eq_none (by omega)];rfl
theorem tW {kb:List UInt8} (h:kb.length<=64):aBX kb=take ((none:Option Nat).getD 0) (replicate 64 0)++take (min (take kb.length (List.drop 0 kb)).length 64) (take kb.length (List.drop 0 kb))++
  List.drop ((none:Option Nat).getD 0+min (take kb.length (List.drop 0 kb)).length 64) (replicate 64 0):=by
 rw[drop_zero,List.take_length,Nat.min_eq_left h,List.take_length,getD_none,List.take_zero,nil_append,zero_add,List.drop_replicate]
 rfl
theorem aaE (key text:List UInt8) (n m:Nat) (hk:key.length=n) (ht:text.length=m) (hn:n<=50000000) (hm:m<=50000000):
  Sx.Fn Γ.P 39 [.slx 1000 0 0 n,.slx 1001 0 0 m] [(1000,.mem false 0 [(n,.a8 key)]),(1001,.mem false 0 [(m,.a8 text)])]
   (λv M=>v= .a8 (q7 key text)/\M=[(1000,.mem false 0 [(n,.a8 key)]),(1001,.mem false 0 [(m,.a8 text)])]):=by
 refine cV [4] (Γ:=Γ) (fn:=Tryz.f39) rfl rfl rfl rfl ?_
 have hS:=ru key n hk (by omega)
 have hsl:=cr key
 have hH:=aG7 key text
 have hHl:=dR key text
 have hkb:=xq key
 refine gB ?_
 refine zB.i ?_ ?_<;>intro hc
 ·have hc:(n:Int)>64:=hc
  have hkk:aNY key=ej key:=if_pos (by omega)
  rw[hkk]at hH hkb
  clear hkk
  generalize ej key=kb at hS hsl hH hkb
  refine gB ?_
  refine Call.i hS [(1002,(1000,0,none))] rfl fc rfl fc rfl ?_
  rintro _ _ ⟨rfl,rfl⟩
  refine gB ?_
  refine Cut.i (σ:=Unit) (λ_=>True) (λ_=>([(0,.slx 400 0 0 kb.length),(1,.slx 1001 0 0 m),(4,.ptr 4 0 none)],
   [(1000,.mem false 0 [(n,.a8 key)]),(1001,.mem false 0 [(m,.a8 text)]),(400,.mem false 0 [(kb.length,.a8 kb)]),(4,.mem true 0 [(32,.a8 (replicate 32 0))])])) () trivial ?_ ?_
  ·refine Le.i [(400,(5,0,none))] rfl fc rfl fc rfl
  rintro _ _
  obtain⟨P,hP⟩:∃x,x=aBX kb:=⟨_,rfl⟩
  have hPl:P.length=64:=by rw[hP,pN hkb]
  refine gB ?_
  refine aY.i (σ:=Nat) (λi=>i<=64)
   (λi=>([(1,.slx 1001 0 0 m),(4,.ptr 4 0 none),(6,.ptr 6 0 none),(7,.ptr 7 0 none),(23,.i .i64 i)],
    [(1000,.mem false 0 [(n,.a8 key)]),(1001,.mem false 0 [(m,.a8 text)]),(4,.mem true 0 [(32,.a8 (replicate 32 0))]),(6,.mem true 0 [(64,.a8 (xoS P 54 i))]),(7,.mem true 0 [(64,.a8 (xoS P 92 i))])])) (λi=>64-i) 0 (zero_le _) ?_ ?_
  ·have hz1:xoS P 54 0=aBX kb:=hP
   have hz2:xoS P 92 0=aBX kb:=hP
   refine Le.i [] rfl ?_ rfl ?_ rfl
   ·exact fc
   repeat' first|exact trivial|refine zA.app ?_ ?_|refine zA.zd ?_ ?_|refine zA.cons ?_ ?_|exact fc|fail
   ·exact hz1.trans (tW hkb)
   exact hz2.trans (tW hkb)
  rintro i hi
  have hx1:=fF P 54 i
  have hx2:=fF P 92 i
  refine zB.i ?_ ?_<;>intro hc
  ·have hc:(i:Int)<64:=hc
   have hy1:xoS P 54 (i+1)=(xoS P 54 i).set i ((xoS P 54 i).getD i 0^^^54):=rfl
   have hy2:xoS P 92 (i+1)=(xoS P 92 i).set i ((xoS P 92 i).getD i 0^^^92):=rfl
   generalize xoS P 54 i=X1 at *
   generalize xoS P 92 i=X2 at *
   refine gC ?_
   refine⟨i+1,by omega,by omega,Le.i [] rfl fc rfl fcn rfl⟩
  have h64:i=64:=by have hc:¬(i:Int)<64:=hc;omega
  have hm1:=sM P 54
  have hm2:=sM P 92
  rw[hPl,<-h64]at hm1 hm2
  rw[<-hP,<-hm1,<-hm2]at hH
  rw[hPl]at hx1 hx2
  generalize xoS P 54 i=X1 at *
  generalize xoS P 92 i=X2 at *
  clear hm1 hm2 h64 hc
  have hN1:=aAH X1 64 hx1 (by omega)
  have hN2:=aAH X2 64 hx2 (by omega)
  refine Call.i aSF [(1001,(501,0,none))] rfl trivial rfl trivial rfl ?_
  rintro _ _ ⟨rfl,rfl⟩
  refine gB ?_
  refine Call.i hN1 [(1000,(501,0,none)),(1002,(6,0,none)),(1005,(502,0,none))] rfl fc rfl fc rfl ?_
  rintro v M' ⟨j1,c1,p1,L1,ok1,rfl,rfl⟩
  have hC1:=aAI X1 text 64 m j1 c1 p1 L1 ok1 ht (by omega)
  refine gB ?_
  refine Call.i hC1 [(1000,(501,0,none)),(1001,(502,0,none)),(1002,(1001,0,none)),(1005,(503,0,none))] rfl fc rfl fc rfl ?_
  rintro v M' ⟨j2,c2,p2,L2,ok2,rfl,rfl⟩
  have hS2:=aAG (X1++text) (64+m) j2 c2 p2 L2 ok2
  have hs2:=cr (X1++text)
  generalize ej (X1++text)=in2 at hS2 hs2 hH
  refine gB ?_
  refine Call.i hS2 [(1000,(501,0,none)),(1001,(503,0,none))] rfl fc rfl fc rfl ?_
  rintro _ _ ⟨rfl,rfl⟩
  refine gB ?_
  refine Call.i aSF [(1001,(511,0,none))] rfl trivial rfl trivial rfl ?_
  rintro _ _ ⟨rfl,rfl⟩
  refine gB ?_
  refine Call.i hN2 [(1000,(511,0,none)),(1002,(7,0,none)),(1005,(512,0,none))] rfl fc rfl fc rfl ?_
  rintro v M' ⟨j3,c3,p3,L3,ok3,rfl,rfl⟩
  have hC3:=aAI X2 in2 64 32 j3 c3 p3 L3 ok3 hs2 (by omega)
  refine gB ?_
  refine Call.i hC3 [(1000,(511,0,none)),(1001,(512,0,none)),(1002,(10,0,none)),(1005,(513,0,none))] rfl fc rfl fc rfl ?_
  rintro v M' ⟨j4,c4,p4,L4,ok4,rfl,rfl⟩
  have hS4:=aAG (X2++in2) (64+32) j4 c4 p4 L4 ok4
  rw[<-hH]at hS4
  generalize q7 key text=out at hS4 hHl
  refine gB ?_
  refine Call.i hS4 [(1000,(511,0,none)),(1001,(513,0,none))] rfl fc rfl fc rfl ?_
  rintro _ _ ⟨rfl,rfl⟩
  refine gB ?_
  refine Ret.i (.a8 out) [(1000,.mem false 0 [(n,.a8 key)]),(1001,.mem false 0 [(m,.a8 text)])] [] rfl fc ⟨rfl,rfl⟩ rfl fc rfl fc rfl
 have hc:¬(n:Int)>64:=hc
 have hkk:aNY key=key:=if_neg (by omega)
 rw[hkk]at hH hkb
 clear hkk
 refine Cut.i (σ:=Unit) (λ_=>True) (λ_=>([(0,.slx 400 0 0 key.length),(1,.slx 1001 0 0 m),(4,.ptr 4 0 none)],
  [(1000,.mem false 0 [(n,.a8 key)]),(1001,.mem false 0 [(m,.a8 text)]),(400,.mem false 0 [(key.length,.a8 key)]),(4,.mem true 0 [(32,.a8 (replicate 32 0))])])) () trivial ?_ ?_
 ·refine Le.i [(400,(1000,0,none))] rfl fc rfl fc rfl
 rintro _ _
 obtain⟨P,hP⟩:∃x,x=aBX key:=⟨_,rfl⟩
 have hPl:P.length=64:=by rw[hP,pN hkb]
 refine gB ?_
 refine aY.i (σ:=Nat) (λi=>i<=64)
  (λi=>([(1,.slx 1001 0 0 m),(4,.ptr 4 0 none),(6,.ptr 6 0 none),(7,.ptr 7 0 none),(23,.i .i64 i)],
   [(1000,.mem false 0 [(n,.a8 key)]),(1001,.mem false 0 [(m,.a8 text)]),(4,.mem true 0 [(32,.a8 (replicate 32 0))]),(6,.mem true 0 [(64,.a8 (xoS P 54 i))]),(7,.mem true 0 [(64,.a8 (xoS P 92 i))])])) (λi=>64-i) 0 (zero_le _) ?_ ?_
 ·have hz1:xoS P 54 0=aBX key:=hP
  have hz2:xoS P 92 0=aBX key:=hP
  refine Le.i [] rfl ?_ rfl ?_ rfl
  ·exact fc
  repeat' first|exact trivial|refine zA.app ?_ ?_|refine zA.zd ?_ ?_|refine zA.cons ?_ ?_|exact fc|fail
  ·exact hz1.trans (tW hkb)
  exact hz2.trans (tW hkb)
 rintro i hi
 have hx1:=fF P 54 i
 have hx2:=fF P 92 i
 refine zB.i ?_ ?_<;>intro hc
 ·have hc:(i:Int)<64:=hc
  have hy1:xoS P 54 (i+1)=(xoS P 54 i).set i ((xoS P 54 i).getD i 0^^^54):=rfl
  have hy2:xoS P 92 (i+1)=(xoS P 92 i).set i ((xoS P 92 i).getD i 0^^^92):=rfl
  generalize xoS P 54 i=X1 at *
  generalize xoS P 92 i=X2 at *
  refine gC ?_
  refine⟨i+1,by omega,by omega,Le.i [] rfl fc rfl fcn rfl⟩
 have h64:i=64:=by have hc:¬(i:Int)<64:=hc;omega
 have hm1:=sM P 54
 have hm2:=sM P 92
 rw[hPl,<-h64]at hm1 hm2
 rw[<-hP,<-hm1,<-hm2]at hH
 rw[hPl]at hx1 hx2
 generalize xoS P 54 i=X1 at *
 generalize xoS P 92 i=X2 at *
 clear hm1 hm2 h64 hc
 have hN1:=aAH X1 64 hx1 (by omega)
 have hN2:=aAH X2 64 hx2 (by omega)
 refine Call.i aSF [(1001,(501,0,none))] rfl trivial rfl trivial rfl ?_
 rintro _ _ ⟨rfl,rfl⟩
 refine gB ?_
 refine Call.i hN1 [(1000,(501,0,none)),(1002,(6,0,none)),(1005,(502,0,none))] rfl fc rfl fc rfl ?_
 rintro v M' ⟨j1,c1,p1,L1,ok1,rfl,rfl⟩
 have hC1:=aAI X1 text 64 m j1 c1 p1 L1 ok1 ht (by omega)
 refine gB ?_
 refine Call.i hC1 [(1000,(501,0,none)),(1001,(502,0,none)),(1002,(1001,0,none)),(1005,(503,0,none))] rfl fc rfl fc rfl ?_
 rintro v M' ⟨j2,c2,p2,L2,ok2,rfl,rfl⟩
 have hS2:=aAG (X1++text) (64+m) j2 c2 p2 L2 ok2
 have hs2:=cr (X1++text)
 generalize ej (X1++text)=in2 at hS2 hs2 hH
 refine gB ?_
 refine Call.i hS2 [(1000,(501,0,none)),(1001,(503,0,none))] rfl fc rfl fc rfl ?_
 rintro _ _ ⟨rfl,rfl⟩
 refine gB ?_
 refine Call.i aSF [(1001,(511,0,none))] rfl trivial rfl trivial rfl ?_
 rintro _ _ ⟨rfl,rfl⟩
 refine gB ?_
 refine Call.i hN2 [(1000,(511,0,none)),(1002,(7,0,none)),(1005,(512,0,none))] rfl fc rfl fc rfl ?_
 rintro v M' ⟨j3,c3,p3,L3,ok3,rfl,rfl⟩
 have hC3:=aAI X2 in2 64 32 j3 c3 p3 L3 ok3 hs2 (by omega)
 refine gB ?_
 refine Call.i hC3 [(1000,(511,0,none)),(1001,(512,0,none)),(1002,(10,0,none)),(1005,(513,0,none))] rfl fc rfl fc rfl ?_
 rintro v M' ⟨j4,c4,p4,L4,ok4,rfl,rfl⟩
 have hS4:=aAG (X2++in2) (64+32) j4 c4 p4 L4 ok4
 rw[<-hH]at hS4
 generalize q7 key text=out at hS4 hHl
 refine gB ?_
 refine Call.i hS4 [(1000,(511,0,none)),(1001,(513,0,none))] rfl fc rfl fc rfl ?_
 rintro _ _ ⟨rfl,rfl⟩
 refine gB ?_
 refine Ret.i (.a8 out) [(1000,.mem false 0 [(n,.a8 key)]),(1001,.mem false 0 [(m,.a8 text)])] [] rfl fc ⟨rfl,rfl⟩ rfl fc rfl fc rfl
def hkT (p info:List UInt8):Nat->List UInt8
 |0=>[]
 |k+1=>q7 p (hkT p info k++info++[UInt8.ofNat (k+1)])
def hkO (p info:List UInt8):Nat->List UInt8
 |0=>[]
 |k+1=>hkO p info k++hkT p info (k+1)
theorem mz (p info:List UInt8):∀k,(hkT p info (k+1)).length=32:=λk=>dR _ _
theorem aUE (p info:List UInt8):∀k,(hkT p info k).length<=32
 |0=>by simp[hkT]
 |k+1=>by rw[mz];omega
theorem nA (p info:List UInt8):∀k,(hkO p info k).length=32*k
 |0=>rfl
 |k+1=>by simp only[hkO,zlA,nA p info k,mz];omega
theorem xO (k:Nat):UInt8.ofNat (k+1)+UInt8.ofNat 1=UInt8.ofNat (k+1+1):=(UInt8.ofNat_add _ _).symm
theorem aYC (salt from_ info:List UInt8) (a b c n:Nat) (ha:salt.length=a) (hb:from_.length=b) (hc:info.length=c) (la:a<=1000000) (lb:b<=1000000) (lc:c<=1000000) (hn:n<=8160):
  Sx.Fn Γ.P 97 [.slx 1000 0 0 a,.slx 1001 0 0 b,.slx 1002 0 0 c,.i .i64 n] [(1000,.mem false 0 [(a,.a8 salt)]),(1001,.mem false 0 [(b,.a8 from_)]),(1002,.mem false 0 [(c,.a8 info)])]
   (λv M=>∃sp,v= .tup [.sl 1004 0 0 n n,.tt]/\M=[(1000,.mem false 0 [(a,.a8 salt)]),(1001,.mem false 0 [(b,.a8 from_)]),(1002,.mem false 0 [(c,.a8 info)]),
    (1004,.mem true sp [(32*((n+31)/32),.a8 (hkO (q7 salt from_) info ((n+31)/32)))])]):=by
 have hP:=aaE salt from_ a b ha hb (by omega) (by omega)
 have hpl:=dR salt from_
 generalize q7 salt from_=p at hP hpl
 refine aG (Γ:=Γ) (fn:=Tryz.f97) rfl rfl rfl rfl ?_
 refine zB.i (λh=>absurd h (by omega)) (λ_=>?_)
 refine zB.i (λh=>absurd h (by omega)) (λ_=>?_)
 refine Call.i hP [(1000,(1000,0,none)),(1001,(1001,0,none))] rfl fc rfl fc rfl ?_
 rintro _ _ ⟨rfl,rfl⟩
 refine gB ?_
 refine aY.i (σ:=Nat×Nat) (λs=>s.1<=(n+31)/32/\32*s.1<=s.2)
  (λs=>([(2,.slx 1002 0 0 c),(3,.i .i64 n),(10,.ptr 10 0 none),(11,.sl 204 0 0 (32*s.1) s.2),(12,.sl 203 0 0 (hkT p info s.1).length (hkT p info s.1).length),(13,.u8 (UInt8.ofNat (s.1+1)))],
   [(1000,.mem false 0 [(a,.a8 salt)]),(1001,.mem false 0 [(b,.a8 from_)]),(1002,.mem false 0 [(c,.a8 info)]),(10,.mem true 0 [(32,.a8 p)]),
    (203,.mem true 0 [((hkT p info s.1).length,.a8 (hkT p info s.1))]),(204,.mem true (s.2-32*s.1) [(32*s.1,.a8 (hkO p info s.1))])])) (λs=>(n+31)/32-s.1) (0,n+32) ⟨zero_le _,zero_le _⟩ ?_ ?_
 ·refine Le.ghost [.own 203 [(0,.a8 [])]] [(12,203)] [(204,(27,0,none))] rfl ⟨rfl,rfl,trivial⟩ rfl rfl fc rfl fc rfl
 rintro⟨k,cc⟩ ⟨hk,hcc⟩
 have hk:k<=(n+31)/32:=hk
 have hcc:32*k<=cc:=hcc
 have htl:=aUE p info k
 have hol:=nA p info k
 refine zB.i ?_ ?_<;>intro hq
 ·have hq:((32*k:Nat):Int)<n:=hq
  have hs1:hkT p info (k+1)=q7 p (hkT p info k++info++[UInt8.ofNat (k+1)]):=rfl
  have hs2:hkO p info (k+1)=hkO p info k++hkT p info (k+1):=rfl
  have htl1:=mz p info k
  have hi8:=xO k
  have hHt:=aaE p (hkT p info k++info++[UInt8.ofNat (k+1)]) 32 ((hkT p info k).length+c+1) hpl (by rw[zlA,zlA,hc];rfl) (by omega) (by omega)
  rw[<-hs1]at hHt
  generalize hT1:hkT p info (k+1)=T1 at *
  generalize hTl:(hkT p info k).length=tl at *
  generalize hkT p info k=T0 at *
  generalize hX:T0++info++[UInt8.ofNat (k+1)]=X at hHt
  have hX2:X=[]++take tl (List.drop 0 T0)++take c (List.drop 0 info)++take 1 (List.drop 0 [UInt8.ofNat (k+1)]):=by
   rw[drop_zero,drop_zero,drop_zero,take_of_length_le (by omega),take_of_length_le (by omega),nil_append,<-hX];rfl
  clear hs1 hX
  refine gB ?_
  refineλc1 hc1=>?_
  refineλc2 hc2=>?_
  refineλc3 hc3=>?_
  have hc3:tl+c+1<=c3:=by have:0+tl+c+1<=c3:=hc3;omega
  refine gB ?_
  refine Call.i hHt [(1000,(10,0,none)),(1001,(41,0,none))] rfl ?_ rfl ?_ rfl ?_
  ·exact fc
  ·repeat' first|exact trivial|refine zA.app ?_ ?_|refine zA.zd ?_ ?_|refine zA.cons ?_ ?_|exact fc|fail
   all_goals exact hX2
  rintro _ _ ⟨rfl,rfl⟩
  refine gB ?_
  refineλc4 hc4=>?_
  have hc4:32*k+32<=c4:=hc4
  refine gB ?_
  have hT2:take 32 T1=T1:=take_of_length_le (by omega)
  refine⟨(k+1,c4),⟨by omega,by show 32*(k+1)<=c4;omega⟩,by show(n+31)/32-(k+1)<(n+31)/32-k;omega,Le.i [(203,(15,0,none)),(204,(48,0,none))] rfl ?_ rfl ?_ rfl⟩
  ·exact fc
  repeat' (first|(show zA _;first|exact trivial|refine zA.app ?_ ?_|refine zA.zd ?_ ?_|refine zA.cons ?_ ?_)|with_reducible rfl|with_reducible assumption|omega |(simp only[bq,drop_zero,rng,Ix.val,zQ,addI,szs]<;>omega)|(simp only[bq,drop_zero,rng,Ix.val,zIn,zme,zQ,addI,getD_none,Option.getD_some,zlT,zlD,zlA,length_set,length_replicate,szs, *]<;>omega)|(simp only[Ix.val];with_reducible assumption)|exact UInt8.toNat_lt _|(apply Eq.trans;(with_reducible assumption);exact rfl)|exact rfl|exactλ_ _=>rfl)
 have hq:¬((32*k:Nat):Int)<n:=hq
 have hkk:k=(n+31)/32:=by omega
 subst hkk
 refine gB ?_
 refine Ret.i (.tup [.sl 1004 0 0 n n,.tt]) [(1000,.mem false 0 [(a,.a8 salt)]),(1001,.mem false 0 [(b,.a8 from_)]),(1002,.mem false 0 [(c,.a8 info)]),
   (1004,.mem true (cc-32*((n+31)/32)) [(32*((n+31)/32),.a8 (hkO p info ((n+31)/32)))])] [(1004,(204,0,none))] rfl fc ⟨_,rfl,rfl⟩ rfl fc rfl fc rfl
def orS (a b:List UInt8):Nat->UInt8
 |0=>0
 |i+1=>orS a b i|||(a.getD i 0^^^b.getD i 0)
theorem aKR {x y:UInt8}:x|||y=0↔x=0/\y=0:=by
 constructor
 ·intro h
  have h1:(x|||y).toNat=0:=by rw[h];rfl
  rw[UInt8.toNat_or]at h1
  have h2:x.toNat=0:=by
   have:x.toNat<=x.toNat|||y.toNat:=Nat.left_le_or;omega
  have h3:y.toNat=0:=by
   have:y.toNat<=x.toNat|||y.toNat:=Nat.right_le_or;omega
  exact⟨UInt8.toNat_inj.1 h2,UInt8.toNat_inj.1 h3⟩
 rintro⟨rfl,rfl⟩;rfl
theorem aDL {x y:UInt8}:x^^^y=0↔x=y:=UInt8.xor_eq_zero_iff
theorem zZ (a b:List UInt8):∀i,orS a b i=0↔∀j,j<i->a.getD j 0=b.getD j 0
 |0=>⟨λ_ j h=>absurd h (Nat.not_lt_zero _),λ_=>rfl⟩
 |i+1=>by
  simp only[orS]
  rw[aKR,zZ a b i,aDL]
  constructor
  ·rintro⟨h1,h2⟩ j hj
   rcases Nat.lt_or_ge j i with h|h
   ·exact h1 j h
   obtain rfl:j=i:=by omega
   exact h2
  exactλh=>⟨λj hj=>h j (by omega),h i (by omega)⟩
theorem aTG {a b:List UInt8} {n:Nat} (ha:a.length=n) (hb:b.length=n):orS a b n=0↔a=b:=by
 rw[zZ]
 constructor
 ·intro h
  apply List.ext_getElem (by omega)
  intro i h1 h2
  have:=h i (by omega)
  rwa [getD_eq_getElem?_getD,getD_eq_getElem?_getD,List.getElem?_eq_getElem h1,List.getElem?_eq_getElem h2]at this
 intro h j _;rw[h]
theorem aUR (a b:List UInt8) (n m:Nat) (ha:a.length=n) (hb:b.length=m) (hmax:n<=9223372036854775807):Sx.Fn Γ.P 78 [.slx 1000 0 0 n,.slx 1001 0 0 m] [(1000,.mem false 0 [(n,.a8 a)]),(1001,.mem false 0 [(m,.a8 b)])]
  (λv M=>v= .bool (a=b)/\M=[(1000,.mem false 0 [(n,.a8 a)]),(1001,.mem false 0 [(m,.a8 b)])]):=by
 refine aG (Γ:=Γ) (fn:=Tryz.f78) rfl rfl rfl rfl ?_
 refine zB.i ?_ ?_<;>intro h
 ·have h:¬(n:Int)=m:=h
  refine Ret.i (.bool (a=b)) [(1000,.mem false 0 [(n,.a8 a)]),(1001,.mem false 0 [(m,.a8 b)])] [] rfl trivial ⟨rfl,rfl⟩ rfl ?_ rfl ?_ rfl
  ·show¬a=b
   intro e
   rw[e]at ha
   omega
  exact fc
 have h:¬¬(n:Int)=m:=h
 obtain rfl:n=m:=by omega
 refine gB ?_
 refine aY.i (σ:=Nat) (λi=>i<=n)
  (λi=>([(0,.slx 1000 0 0 n),(1,.slx 1001 0 0 n),(5,.u8 (orS a b i)),(13,.i .i64 n),(14,.i .i64 i)],[(1000,.mem false 0 [(n,.a8 a)]),(1001,.mem false 0 [(n,.a8 b)])])) (λi=>n-i) 0 (zero_le _) ?_ ?_
 ·have hz:orS a b 0=0:=rfl
  refine Le.i [] rfl fc rfl fc rfl
 rintro i hi
 refine zB.i ?_ ?_<;>intro hc
 ·have hc:(i:Int)<n:=hc
  have hs:orS a b (i+1)=orS a b i|||(a.getD i 0^^^b.getD i 0):=rfl
  refine aH.i [[],[],[],[1,2],[1,2,3],[],[],[5,6],[5,6,7],[1,2,3,4,5,6,7,8],ek,fe] kX (by kernel_rfl) ?_
  refine gC ?_
  refine⟨i+1,by omega,by omega,Le.i [] rfl fcn rfl fc rfl⟩
 obtain rfl:i=n:=by have hc:¬(i:Int)<n:=hc;omega
 have he:=aTG ha hb
 refine gB ?_
 refine Ret.i (.bool (a=b)) [(1000,.mem false 0 [(i,.a8 a)]),(1001,.mem false 0 [(i,.a8 b)])] [] rfl trivial ⟨rfl,rfl⟩ rfl ?_ rfl ?_ rfl
 ·exact he.symm
 exact fc
def r1 (a b:Nat):Nat->Nat
 |0=>0
 |i+1=>if b/2^i&&&1=1 then r1 a b i^^^a*2^i else r1 a b i
def r2 (p:Nat):Nat->Nat
 |0=>p
 |k+1=>if r2 p k/2^(14-k)&&&1=1 then r2 p k^^^283*2^(6-k)else r2 p k
def zs (l:List Nat):List Int:=l.map Int.ofNat
def W4 (l:List Nat):Prop:=∃a b c d,l=[a,b,c,d]/\a<256/\b<256/\c<256/\d<256
theorem W4.lt {t:List Nat} (h:W4 t):∀j,t.getD j 0<256:=by
 obtain⟨a,b,c,d,rfl,h1,h2,h3,h4⟩:=h
 intro j
 match j with
 |0=>exact h1
 |1=>exact h2
 |2=>exact h3
 |3=>exact h4
 |_+4=>exact Nat.zero_lt_succ _
theorem W4.length {t:List Nat} (h:W4 t):t.length=4:=by
 obtain⟨a,b,c,d,rfl,_⟩:=h;rfl
def B16 (l:List Nat):Prop:=l.length=16/\∀j,l.getD j 0<256
theorem B16.zero:B16 (replicate 16 0):=⟨rfl,λj=>by
 rw[getD_eq_getElem?_getD,List.getElem?_replicate];split <;>exact Nat.zero_lt_succ _⟩
theorem B16.set {l:List Nat} (h:B16 l) (i:Nat) {x:Nat} (hx:x<256):B16 (l.set i x):=⟨by rw[length_set];exact h.1,λj=>by
 rw[getD_eq_getElem?_getD,List.getElem?_set]
 split
 ·split
  ·exact hx
  exact Nat.zero_lt_succ _
 rw[<-getD_eq_getElem?_getD];exact h.2 j⟩
structure OkW (W:List (List Nat)):Prop where
 ok:∀q,q<60->W4 (W.getD q [])
theorem OkW.lt {W:List (List Nat)} (h:OkW W) {q:Nat} (hq:q<60) (j:Nat):(W.getD q []).getD j 0<256:=(h.ok q hq).lt j
def tr (b:List UInt8):List Nat:=[(b.getD 0 0).toNat,(b.getD 4 0).toNat,(b.getD 8 0).toNat,(b.getD 12 0).toNat,(b.getD 1 0).toNat,(b.getD 5 0).toNat,(b.getD 9 0).toNat,(b.getD 13 0).toNat,(b.getD 2 0).toNat,(b.getD 6 0).toNat,(b.getD 10 0).toNat,(b.getD 14 0).toNat,(b.getD 3 0).toNat,(b.getD 7 0).toNat,(b.getD 11 0).toNat,(b.getD 15 0).toNat]
theorem wR {x:List UInt8} {A:List (List UInt8)} {k:Nat} (hk:A.length=k):∀q,q<k+1->rwF (A++[x]) q=aDH k (rwF A) (aM9 [[(1,.isl 0 x.length 1 [(x.length*1,.a8 x)])]]) q:=by
 subst hk
 intro q hq
 rcases Nat.lt_or_ge q A.length with h|h
 ·rw[aIY h];unfold rwF;rw[xz [] h]
 obtain rfl:q=A.length:=by omega
 rw[aIZ h];unfold rwF;rw[x5,Nat.sub_self];rfl
def aPG:List UInt8:=[UInt8.ofNat 115,UInt8.ofNat 101,UInt8.ofNat 97,UInt8.ofNat 108]
@[irreducible] def kyO (key:List UInt8):List UInt8:=hkO (q7 [] key) aPG 3
theorem jU (key:List UInt8):(kyO key).length=96:=by unfold kyO;rw[nA]
@[irreducible] def kyA (key:List UInt8):List UInt8:=(kyO key).take 32
@[irreducible] def kyS (key:List UInt8):List UInt8:=((kyO key).drop 32).take 32
@[irreducible] def kyG (key:List UInt8):List UInt8:=((kyO key).drop 64).take 16
theorem ms (key:List UInt8):(kyA key).length=32:=by unfold kyA;rw[zlT,jU];rfl
theorem mr (key:List UInt8):(kyS key).length=32:=by unfold kyS;rw[zlT,zlD,jU];rfl
theorem jV (key:List UInt8):(kyG key).length=16:=by unfold kyG;rw[zlT,zlD,jU];rfl
theorem aT4 (key:List UInt8):kyA key=(kyO key).take 32:=by unfold kyA;rfl
theorem aT2 (key:List UInt8):kyS key=((kyO key).drop 32).take 32:=by unfold kyS;rfl
theorem aT3 (key:List UInt8):kyG key=((kyO key).drop 64).take 16:=by unfold kyG;rfl
theorem aIE {X r:List UInt8} {m:Nat} (h:X.length=m) (hr:r.length=m):X=take ((none:Option Nat).getD 0) r++take (min X.length m) X++List.drop ((none:Option Nat).getD 0+min X.length m) r:=by
 rw[getD_none,List.take_zero,nil_append,h,Nat.min_self,zero_add,List.drop_of_length_le (by omega),List.append_nil,take_of_length_le (by omega)]
theorem aZ7 (key:List UInt8) (hk:key.length=32):Sx.Fn Γ.P 76 [.a8 key] [] (λv M=>v= .tup [.a8 (kyA key),.a8 (kyS key),.a8 (kyG key)]/\M=[]):=by
 have hH:=aYC [] key aPG 0 32 4 80 rfl hk rfl (by omega) (by omega) (by omega) (by omega)
 have eO:kyO key=hkO (q7 [] key) aPG ((80+31)/32):=by unfold kyO;rfl
 have hl:=jU key
 rw[<-eO]at hH
 refine aG (Γ:=Γ) (fn:=Tryz.f76) rfl rfl rfl rfl ?_
 refine gB ?_
 refine Call.name [(2001,[(0,.a8 [])]),(0,[]),(0,[]),(0,[])] rfl ?_ (kW.i hH [(1000,(2001,0,none)),(1001,(1,0,none)),(1002,(9,0,none)),(1004,(304,0,none))] rfl ?_ rfl ?_ rfl ?_)
 ·exact⟨rfl,rfl,trivial⟩
 ·exact fc
 ·exact fc
 rintro v M' ⟨sp,rfl,rfl⟩
 refine gN ?_
 refine gB ?_
 refine aH.i [[],[],[1],[0,1,2]] r_4 (by kernel_rfl) ?_
 refine gB ?_
 refine aH.i [[],[],[1],[0,1,2]] r_4 (by kernel_rfl) ?_
 refine gB ?_
 refine aH.i [[],[],[1],[0,1,2]] r_4 (by kernel_rfl) ?_
 refine gB ?_
 refine Ret.i (.tup [.a8 (kyA key),.a8 (kyS key),.a8 (kyG key)]) [] [] rfl ?_ ⟨rfl,rfl⟩ rfl ?_ rfl ?_ rfl
 ·exact fc
 ·have lA:=ms key
  have lS:=mr key
  have lG:=jV key
  rw[aT4]at lA⊢
  rw[aT2]at lS⊢
  rw[aT3]at lG⊢
  repeat' first|exact trivial|refine zA.app ?_ ?_|refine zA.zd ?_ ?_|refine zA.cons ?_ ?_|exact fc|fail
  ·exact aIE lA rfl
  ·exact aIE lS rfl
  exact aIE lG rfl
 exact fc
@[irreducible] def seB (key plain:List UInt8):List UInt8:=bu (kyA key) (kyG key) plain++(q7 (kyS key) (bu (kyA key) (kyG key) plain)).take 16
@[irreducible] def seS (key plain:List UInt8):List UInt8:=if plain.length<=1024 then seB key plain else[]
theorem aM8 {key plain:List UInt8} (h:plain.length<=1024):seS key plain=seB key plain:=by unfold seS;exact if_pos h
theorem aPH {key plain:List UInt8} (h:¬plain.length<=1024):seS key plain=[]:=by unfold seS;exact if_neg h
theorem aEU (key plain:List UInt8):seB key plain=bu (kyA key) (kyG key) plain++(q7 (kyS key) (bu (kyA key) (kyG key) plain)).take 16:=by unfold seB;rfl
theorem kS {key bg plain:List UInt8} {n:Nat} (hb:bg.length=16) (hn:plain.length=n):(bu key bg plain).length=n/16*16+16:=by
 rw[jm key hb,hn];omega
theorem rP {key plain:List UInt8} {n:Nat} (hn:plain.length=n):(seB key plain).length=n/16*16+32:=by
 rw[aEU,zlA,kS (jV key) hn,zlT,dR];omega
theorem aQ8 (key plain:List UInt8) (n:Nat) (hk:key.length=32) (hn:plain.length=n):
  Sx.Fn Γ.P 44 [.agg [(1,.nilp)],.a8 key,.slx 1003 0 0 n] [(1003,.mem false 0 [(n,.a8 plain)])]
  (λv M=>∃m c,(seS key plain).length=m/\m<=c/\v= .tup [.sl 1006 0 0 m c,.bool (n<=1024)]/\M=[(1003,.mem false 0 [(n,.a8 plain)]),(1006,.mem true (c-m) [(m,.a8 (seS key plain))])]):=by
 refine aG (Γ:=Γ) (fn:=Tryz.f44) rfl rfl rfl rfl ?_
 refine gB ?_
 refine zB.i ?_ ?_<;>intro hc
 ·have hc:(n:Int)>1024:=hc
  have e:seS key plain=[]:=aPH (by omega)
  refine gB ?_
  refine Ret.ghost [.own 450 [(0,.a8 [])]] [(6,450)] rfl ⟨rfl,rfl,trivial⟩ rfl (.tup [.sl 1006 0 0 0 0,.bool (n<=1024)]) [(1003,.mem false 0 [(n,.a8 plain)]),(1006,.mem true (0-0) [(0,.a8 (seS key plain))])] [(1006,(450,0,none))] rfl fc ⟨0,0,by rw[e];rfl,le_refl _,rfl,rfl⟩ rfl fc rfl fc rfl
 have hc:¬(n:Int)>1024:=hc
 have e:=aM8 (key:=key) (show plain.length<=1024 by omega)
 have hkl:=ms key
 have hgl:=jV key
 have hsl:=mr key
 have hL:=abD (kyA key) (kyG key) plain n hkl hgl hn (by omega)
 obtain⟨X,hX⟩:∃X,bu (kyA key) (kyG key) plain=X:=⟨_,rfl⟩
 obtain⟨N,hN⟩:∃N,n/16*16+16=N:=⟨_,rfl⟩
 have hXl:X.length=N:=by rw[<-hX,<-hN,kS hgl hn]
 have eB:seS key plain=X++(q7 (kyS key) X).take 16:=by rw[e,aEU,hX]
 rw[hX,hN]at hL
 have hml:=dR (kyS key) X
 refine gB ?_
 refine zB.i (λhn=>absurd trivial hn) (λ_=>?_)
 refine gB ?_
 refine Call.i (aZ7 key hk) [] rfl fc rfl trivial rfl ?_
 rintro _ _ ⟨rfl,rfl⟩
 refine gN ?_
 refine gB ?_
 refine Call.i hL [(1000,(1003,0,none)),(1001,(301,0,none))] rfl fc rfl fc rfl ?_
 rintro v M' ⟨c,hcc,rfl,rfl⟩
 refine gN ?_
 refine gB ?_
 refine Call.i (aaE (kyS key) X 32 N hsl hXl (by omega) (by omega)) [(1000,(12,0,none)),(1001,(301,0,none))] rfl fc rfl fc rfl ?_
 rintro _ _ ⟨rfl,rfl⟩
 refine gN ?_
 refine gB ?_
 refineλc2 hc2=>?_
 have hc2:N+16<=c2:=hc2
 refine gB ?_
 refine Ret.i (.tup [.sl 1006 0 0 (N+16) c2,.bool (n<=1024)]) [(1003,.mem false 0 [(n,.a8 plain)]),(1006,.mem true (c2-(N+16)) [(N+16,.a8 (seS key plain))])] [(1006,(56,0,none))] rfl ?_ ⟨N+16,c2,by rw[eB,zlA,hXl,zlT,hml];rfl,hc2,rfl,rfl⟩ rfl ?_ rfl ?_ rfl
 ·exact fc
 ·exact fc
 rw[eB]
 exact fc
end Go.Proofs.YtieblfbmmbkjdaaGreat
