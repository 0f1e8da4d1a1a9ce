/- Walks. -/
import Derived.Test.YtllmefnbacjjcaaGreatHwCbc2ToSha3
set_option linter.unusedSimpArgs false
set_option linter.unusedVariables false
set_option maxHeartbeats 4000000
open UInt32 (ofNat)
open UInt64 (ofInt)
open List (replicate take drop length_replicate length_set)
open Nat (zero_le zero_add)
set_option maxRecDepth 100000
namespace Go.Proofs.YtllmefnbacjjcaaGreat
open Go Go.Sx
def wC (b:List UInt8):Nat->List UInt64
 |0=>replicate 80 0
 |i+1=>(wC b i).set (i/8) (aQ ((wC b i).getD (i/8) 0) 8|||(b.getD i 0).toUInt64)
def aSR (w:List UInt64) (i:Nat):UInt64:=
 w.getD (i-16) 0+w.getD (i-7) 0+(rT (w.getD (i-15) 0) 1^^^rT (w.getD (i-15) 0) 8^^^aF (w.getD (i-15) 0) 7)+(rT (w.getD (i-2) 0) 19^^^rT (w.getD (i-2) 0) 61^^^aF (w.getD (i-2) 0) 6)
def wD (w:List UInt64):Nat->List UInt64
 |0=>w
 |k+1=>(wD w k).set (16+k) (aSR (wD w k) (16+k))
def aPZ (v:List UInt64) (k w:UInt64):UInt64:=
 v.getD 7 0+(rT (v.getD 4 0) 14^^^rT (v.getD 4 0) 18^^^rT (v.getD 4 0) 41)+(v.getD 4 0&&&v.getD 5 0^^^ ~~~(v.getD 4 0)&&&v.getD 6 0)+k+w
def aSS (v:List UInt64):UInt64:=
 (rT (v.getD 0 0) 28^^^rT (v.getD 0 0) 34^^^rT (v.getD 0 0) 39)+(v.getD 0 0&&&v.getD 1 0^^^v.getD 0 0&&&v.getD 2 0^^^v.getD 1 0&&&v.getD 2 0)
def aV2 (v:List UInt64) (k w:UInt64):List UInt64:=
 [aPZ v k w+aSS v,v.getD 0 0,v.getD 1 0,v.getD 2 0,v.getD 3 0+aPZ v k w,v.getD 4 0,v.getD 5 0,v.getD 6 0]
def jw (w v:List UInt64):Nat->List UInt64
 |0=>v
 |i+1=>aV2 (jw w v i) (K64.getD i 0) (w.getD i 0)
def aHA (h v:List UInt64):Nat->List UInt64
 |0=>h
 |i+1=>(aHA h v i).set i ((aHA h v i).getD i 0+v.getD i 0)
def yc (b:List UInt8):List UInt64:=wD (wC b 128) 64
def tc (h:List UInt64) (b:List UInt8):List UInt64:=aHA h (jw (yc b) h 80) 8
theorem oU (b:List UInt8):∀i,(wC b i).length=80
 |0=>length_replicate
 |i+1=>by simp only[wC,length_set,oU b i]
theorem oX {w:List UInt64} (h:w.length=80):∀i,(wD w i).length=80
 |0=>h
 |i+1=>by simp only[wD,length_set,oX h i]
theorem ub {w v:List UInt64} (h:v.length=8):∀i,(jw w v i).length=8
 |0=>h
 |i+1=>rfl
theorem kN {h v:List UInt64} (hh:h.length=8):∀i,(aHA h v i).length=8
 |0=>hh
 |i+1=>by simp only[aHA,length_set,kN hh i]
theorem vm {h:List UInt64} (hh:h.length=8) (b:List UInt8):(tc h b).length=8:=kN hh 8
theorem aZ2 (h:List UInt64) (b:List UInt8) (hh:h.length=8) (hb:b.length=128):Sx.Fn Γ.P 98 [.ptr 1000 0 none,.slx 1001 0 0 128] [(1000,.mem true 0 [(8,.a64 h)]),(1001,.mem false 0 [(128,.a8 b)])]
  (λv M=>v= .tup []/\M=[(1000,.mem true 0 [(8,.a64 (tc h b))]),(1001,.mem false 0 [(128,.a8 b)])]):=by
 have hK:=aI7
 have hKl:=aDB
 refine aG (Γ:=Γ) (fn:=Tryz.f98) rfl rfl rfl rfl ?_
 refine gB ?_
 refine aY.i (σ:=Nat) (λi=>i<=128)
  (λi=>([(0,.ptr 1000 0 none),(1,.slx 1001 0 0 128),(4,.ptr 4 0 none),(5,.ptr 5 0 none),(18,.i .i64 i)],
   [(1000,.mem true 0 [(8,.a64 h)]),(1001,.mem false 0 [(128,.a8 b)]),(4,.mem true 0 [(80,.a64 K64)]),(5,.mem true 0 [(80,.a64 (wC b i))])])) (λi=>128-i) 0 (zero_le _) ?_ ?_
 ·refine Le.i [] rfl fc rfl ?_ rfl
  exact fc
 rintro i hi
 have hl:=oU b i
 refine zB.i ?_ ?_<;>intro hc
 ·have hc:(i:Int)<128:=hc
  have e0:((i:Int)/8).toNat=i/8:=by omega
  refine aH.i [[],[0],[],[2],[2,3],[2,3,4],[2,3,4,5],[],[],[7,8],[7,8,9],[7,8,9,10],[2,3,4,5,6,7,8,9,10,11],jO,oB] nw (by kernel_rfl) ?_
  repeat refine sdH ?_
  refine⟨i+1,by omega,by omega,Le.i [] rfl fc rfl ?_ rfl⟩
  repeat' first|exact trivial|refine zA.app ?_ ?_|refine zA.zd ?_ ?_|refine zA.cons ?_ ?_|exact fc|fail
  all_goals simp only[zero_add,e0,zQ,Ix.val,zIn,wC]
 obtain rfl:i=128:=by have hc:¬(i:Int)<128:=hc;omega
 obtain⟨W0,hW0⟩:∃x,wC b 128=x:=⟨_,rfl⟩
 rw[hW0]at hl
 refine aY.i (σ:=Nat) (λk=>k<=64)
  (λk=>([(0,.ptr 1000 0 none),(4,.ptr 4 0 none),(5,.ptr 5 0 none),(7,.i .i64 ((k:Int)+16))],
   [(1000,.mem true 0 [(8,.a64 h)]),(1001,.mem false 0 [(128,.a8 b)]),(4,.mem true 0 [(80,.a64 K64)]),(5,.mem true 0 [(80,.a64 (wD W0 k))])])) (λk=>64-k) 0 (zero_le _) ?_ ?_
 ·refine Le.i [] rfl fc rfl ?_ rfl
  have e0:wD W0 0=wC b 128:=hW0.symm
  exact fc
 rintro k hk
 have hl:=oX hl k
 refine zB.i ?_ ?_<;>intro hc
 ·have hc:(k:Int)+16<80:=hc
  have e0:((k:Int)+16).toNat=16+k:=by omega
  have e1:((k:Int)+16-16).toNat=16+k-16:=by omega
  have e2:((k:Int)+16-7).toNat=16+k-7:=by omega
  have e3:((k:Int)+16-15).toNat=16+k-15:=by omega
  have e4:((k:Int)+16-2).toNat=16+k-2:=by omega
  refine aH.i [[],[0],[0,1],[0,1,2],[],[4],[4,5],[4,5,6],r_4,r_9] ek (by kernel_rfl) ?_
  repeat refine sdE ?_
  refine aH.i [[],[],[1],[1,2],[1,2,3],[],[5],[5,6],[5,6,7],[1,2,3,4,5,6,7,8],[],[10],[],[10,11,12],[10,11,12,13],[],[15],[10,11,12,13,14,15,16],[1,2,3,4,5,6,7,8,9,10,11,12,13,14,15,16,17],[],[10,11,12,13,19],[],[10,11,12,13,19,20,21],[10,11,12,13,19,20,21,22],[],[24],[10,11,12,13,19,20,21,22,23,24,25],[1,2,3,4,5,6,7,8,9,10,11,12,13,14,15,16,17,18,19,20,21,22,23,24,25,26],aW3,aS3] [0,1,2,3,4,5,6,7,8,9,10,12,15,16,19,21,24,25,11,13,14,17,18,20,22,23,26,27,28,29] (by kernel_rfl) ?_
  repeat refine sdE ?_
  refine Call.pure (rB ((wD W0 k).getD (16+k-15) 0) 1 (by decide) (by decide)) rfl fcF ?_
  rintro _ rfl
  refine cL.i [] rfl rfl ?_
  refine Call.pure (rB ((wD W0 k).getD (16+k-15) 0) 8 (by decide) (by decide)) rfl fcF ?_
  rintro _ rfl
  refine cL.i [] rfl rfl ?_
  refine Call.pure (rB ((wD W0 k).getD (16+k-2) 0) 19 (by decide) (by decide)) rfl fcG ?_
  rintro _ rfl
  refine cL.i [] rfl rfl ?_
  refine Call.pure (rB ((wD W0 k).getD (16+k-2) 0) 61 (by decide) (by decide)) rfl fcG ?_
  rintro _ rfl
  refine cL.i [] rfl rfl ?_
  repeat refine sdE ?_
  refine⟨k+1,by omega,by omega,Le.i [] rfl fc rfl ?_ rfl⟩
  repeat' first|exact trivial|refine zA.app ?_ ?_|refine zA.zd ?_ ?_|refine zA.cons ?_ ?_|exact fc|fail
  simp only[zero_add,e0,e1,e2,e3,e4,zQ,Ix.val,zIn,wD,aSR]
 obtain rfl:k=64:=by have hc:¬(k:Int)+16<80:=hc;omega
 obtain⟨W,hW⟩:∃x,wD W0 64=x:=⟨_,rfl⟩
 rw[hW]at hl
 have hWa:yc b=W:=by unfold yc;rw[hW0,hW]
 refine gB ?_
 refine aY.i (σ:=Nat) (λi=>i<=80)
  (λi=>([(0,.ptr 1000 0 none),(4,.ptr 4 0 none),(5,.ptr 5 0 none),(10,.ptr 10 0 none),(80,.i .i64 i)],
   [(1000,.mem true 0 [(8,.a64 h)]),(1001,.mem false 0 [(128,.a8 b)]),(4,.mem true 0 [(80,.a64 K64)]),(5,.mem true 0 [(80,.a64 W)]),(10,.mem true 0 [(8,.a64 (jw W h i))])])) (λi=>80-i) 0 (zero_le _) ?_ ?_
 ·refine Le.i [] rfl fc rfl ?_ rfl
  have e0:jw W h 0=h:=rfl
  have hW':=hW.symm
  exact fc
 rintro i hi
 have hvl:=ub (w:=W) hh i
 obtain⟨V,hV⟩:∃x,jw W h i=x:=⟨_,rfl⟩
 rw[hV]at hvl
 have hnext:jw W h (i+1)=aV2 V (K64.getD i 0) (W.getD i 0):=by rw[<-hV];rfl
 refine zB.i ?_ ?_<;>intro hc
 ·have hc:(i:Int)<80:=hc
  refine aH.i [[],[0],[],[2],[0,1],r_5] r_6 (by kernel_rfl) ?_
  refine gB ?_
  refine aH.i [[],[0],[],[2],[],[2,3,4],[2,3,4,5],[],[2,3,4,5,7],[2,3,4,5,6,7,8],ek,[],[],[12],[11,12,13],[],[15],[],[17],[15,16,17,18],[11,12,13,14,15,16,17,18,19],aJF,[],[22],[22,23],aW4,[],[26],[26,27],aS3,aS2] [0,1,2,4,7,11,12,13,14,15,16,17,18,19,20,22,23,24,26,27,28,3,5,6,8,9,10,21,25,29,30] (by kernel_rfl) ?_
  refine gB ?_
  refine Call.pure (rB ((jw W h i).getD 4 0) 14 (by decide) (by decide)) rfl fc ?_
  rintro _ rfl
  refine cL.i [] rfl rfl ?_
  refine Call.pure (rB ((jw W h i).getD 4 0) 18 (by decide) (by decide)) rfl fc ?_
  rintro _ rfl
  refine cL.i [] rfl rfl ?_
  refine Call.pure (rB ((jw W h i).getD 4 0) 41 (by decide) (by decide)) rfl fc ?_
  rintro _ rfl
  refine cL.i [] rfl rfl ?_
  refine gB ?_
  refine aH.i [[],[0],[],[0,1,2],r_4,[],[0,1,2,3,5],r_7,[],[],[9],[8,9,10],[],[],[13],[12,13,14],[8,9,10,11,12,13,14,15],[],[17],[],[19],[17,18,19,20],[8,9,10,11,12,13,14,15,16,17,18,19,20,21],aZT,aW5] [0,2,5,8,9,10,11,12,13,14,15,16,17,18,19,20,21,22,1,3,4,6,7,23,24] (by kernel_rfl) ?_
  refine gB ?_
  refine Call.pure (rB ((jw W h i).getD 0 0) 28 (by decide) (by decide)) rfl fc ?_
  rintro _ rfl
  refine cL.i [] rfl rfl ?_
  refine Call.pure (rB ((jw W h i).getD 0 0) 34 (by decide) (by decide)) rfl fc ?_
  rintro _ rfl
  refine cL.i [] rfl rfl ?_
  refine Call.pure (rB ((jw W h i).getD 0 0) 39 (by decide) (by decide)) rfl fc ?_
  rintro _ rfl
  refine cL.i [] rfl rfl ?_
  refine gB ?_
  refine⟨i+1,by omega,by omega,Le.i [] rfl fc rfl ?_ rfl⟩
  exact fc
 obtain rfl:i=80:=by have hc:¬(i:Int)<80:=hc;omega
 have hV':=hV.symm
 have hblk:tc h b=aHA h V 8:=by unfold tc;rw[hWa,hV]
 clear hV
 refine aY.i (σ:=Nat) (λj=>j<=8)
  (λj=>([(0,.ptr 1000 0 none),(10,.ptr 10 0 none),(160,.i .i64 j)],
   [(1000,.mem true 0 [(8,.a64 (aHA h V j))]),(1001,.mem false 0 [(128,.a8 b)]),(10,.mem true 0 [(8,.a64 V)])])) (λj=>8-j) 0 (zero_le _) ?_ ?_
 ·refine Le.i [] rfl fc rfl ?_ rfl
  have e0:aHA h V 0=h:=rfl
  exact fc
 rintro j hj
 have hAl:=kN (v:=V) hh j
 refine zB.i ?_ ?_<;>intro hc
 ·have hc:(j:Int)<8:=hc
  refine aH.i [[],[],[0],[0,1,2],r_4,[],[5],[5,6],r_8,[0],ek,fe] kX (by kernel_rfl) ?_
  refine gB ?_
  refine⟨j+1,by omega,by omega,Le.i [] rfl fc rfl ?_ rfl⟩
  exact fc
 obtain rfl:j=8:=by have hc:¬(j:Int)<8:=hc;omega
 refine gB ?_
 rw[hblk]
 refine Ret.i (.tup []) [(1000,.mem true 0 [(8,.a64 (aHA h V 8))]),(1001,.mem false 0 [(128,.a8 b)])] [] rfl trivial ⟨rfl,rfl⟩ rfl trivial rfl ?_ rfl
 exact fc
@[irreducible] def H32:List UInt32:=[ofNat 1779033703,ofNat 3144134277,ofNat 1013904242,ofNat 2773480762,ofNat 1359893119,ofNat 2600822924,ofNat 528734635,ofNat 1541459225]
theorem aOS:H32=[ofNat 1779033703,ofNat 3144134277,ofNat 1013904242,ofNat 2773480762,ofNat 1359893119,ofNat 2600822924,ofNat 528734635,ofNat 1541459225]:=by unfold H32;rfl
theorem jb:H32.length=8:=by rw[aOS];rfl
def ab (h:List UInt32) (b:List UInt8):Nat->List UInt32
 |0=>h
 |q+1=>yL (ab h b q) ((b.drop (64*q)).take 64)
theorem br {h:List UInt32} (hh:h.length=8) (b:List UInt8):∀q,(ab h b q).length=8
 |0=>hh
 |q+1=>vn (br hh b q) _
def kM (h:List UInt32) (r:SV) (n:UInt64):Ent:=.mem true 0 [(8,.a32 h),(1,r),(1,.u64 n)]
theorem aUT:Sx.Fn Γ.P 58 [] [] (λv M=>v= .ptr 1001 0 none/\M=[(1001,kM H32 .nsl 0)]):=by
 have hH:=aOS
 refine aG (Γ:=Γ) (fn:=Tryz.f58) rfl rfl rfl rfl ?_
 refine gB ?_
 refine Ret.i (.ptr 1001 0 none) [(1001,kM H32 .nsl 0)] [(1001,(3,0,none))] rfl trivial ⟨rfl,rfl⟩ rfl fc rfl fc rfl
def aFF (h:List UInt32) (R b:List UInt8) (n:UInt64) (m:Nat) (old:Mm) (v:SV) (M:Mm):Prop:=
 ∃c,R.length+m<=c/\v= .tup []/\
  M=[(1000,kM (ab h (R++b) ((R.length+m)/64)) (.sl 1005 0 (64*((R.length+m)/64)) (R.length+m-64*((R.length+m)/64)) (c-64*((R.length+m)/64))) (n+ofInt (m:Int)))]++old++
   [(1002,.mem false 0 [(m,.a8 b)]),(1005,.mem true (c-(R.length+m)) [(R.length+m,.a8 (R++b))])]
theorem aUM (h:List UInt32) (l b R:List UInt8) (n:UInt64) (i r c0 sp m:Nat) (hh:h.length=8) (hl:l.length=i+r) (hR:l.drop i=R) (hc0:c0=r+sp) (hb:b.length=m) (hmax:r+m<=100000000):
  Sx.Fn Γ.P 59 [.ptr 1000 0 none,.slx 1002 0 0 m] [(1000,kM h (.sl 1001 0 i r c0) n),(1001,.mem true sp [(i+r,.a8 l)]),(1002,.mem false 0 [(m,.a8 b)])] (aFF h R b n m [(1001,.dead)]):=by
 have hRl:R.length=r:=by rw[<-hR,zlD];omega
 refine aG (Γ:=Γ) (fn:=Tryz.f59) rfl rfl rfl rfl ?_
 obtain⟨N,hN⟩:∃x,R.length+m=x:=⟨_,rfl⟩
 obtain⟨A,hA⟩:∃x,R++b=x:=⟨_,rfl⟩
 have hAl:A.length=N:=by rw[<-hA,zlA,hb,hN]
 have hA2:A=kR i l++take m (drop 0 b):=by rw[bq,hR,List.drop_zero,List.take_of_length_le (by omega),hA]
 refine gB ?_
 intro c hc
 have hc:R.length+m<=c:=by have:r+m<=c:=hc;omega
 refine gB ?_
 refine aY.i (σ:=Nat) (λq=>q<=N/64)
  (λq=>([(0,.ptr 1000 0 none)],
   [(1000,kM (ab h A q) (.sl 200 0 (64*q) (N-64*q) (c-64*q)) (n+ofInt (m:Int))),(1001,.dead),(1002,.mem false 0 [(m,.a8 b)]),(200,.mem true (c-N) [(N,.a8 A)])])) (λq=>N/64-q) 0 (zero_le _) ?_ ?_
 ·refine Le.i [(200,(20,0,none))] rfl ?_ rfl ?_ rfl
  ·exact fc
  repeat' first|exact trivial|refine zA.app ?_ ?_|refine zA.zd ?_ ?_|refine zA.cons ?_ ?_|exact fc|fail
  all_goals exact hA2
 rintro q hq
 have hbl:=br hh A q
 refine zB.i ?_ ?_<;>intro hc1
 ·have hc1:((N-64*q:Nat):Int)≥64:=hc1
  refine aH.i [[],[0],[0,1],[],[3],[3,4],[3,4,5],[3,4,5,6],r_8] r_9 (by kernel_rfl) ?_
  refine gB ?_
  have hB:=aYC (ab h A q) ((A.drop (64*q)).take 64) hbl (by simp only[zlT,zlD];omega)
  refine Call.i hB [(1000,(1000,0,none)),(1001,(200,0,some (64*q)))] rfl fc rfl fc rfl ?_
  rintro _ _ ⟨rfl,rfl⟩
  refine gB ?_
  refine⟨q+1,by omega,by omega,Le.i [] rfl fc rfl ?_ rfl⟩
  have e1:64*q+64=64*(q+1):=by omega
  have e2:N-64*q-64=N-64*(q+1):=by omega
  have e3:c-64*q-64=c-64*(q+1):=by omega
  exact fc
 obtain rfl:q=N/64:=by have hc1:¬((N-64*q:Nat):Int)≥64:=hc1;omega
 subst hA
 subst hN
 refine Ret.i (.tup []) ([(1000,kM (ab h (R++b) ((R.length+m)/64)) (.sl 1005 0 (64*((R.length+m)/64)) (R.length+m-64*((R.length+m)/64)) (c-64*((R.length+m)/64))) (n+ofInt (m:Int)))]++[(1001,.dead)]++
   [(1002,.mem false 0 [(m,.a8 b)]),(1005,.mem true (c-(R.length+m)) [(R.length+m,.a8 (R++b))])]) [(1005,(200,0,none))] rfl fc ⟨c,hc,rfl,rfl⟩ rfl fc rfl fc rfl
theorem aUN (h:List UInt32) (b:List UInt8) (n:UInt64) (m:Nat) (hh:h.length=8) (hb:b.length=m) (hmax:m<=100000000):
  Sx.Fn Γ.P 59 [.ptr 1000 0 none,.slx 1002 0 0 m] [(1000,kM h .nsl n),(1002,.mem false 0 [(m,.a8 b)])] (aFF h [] b n m []):=by
 refine aG (Γ:=Γ) (fn:=Tryz.f59) rfl rfl rfl rfl ?_
 obtain⟨R,hR⟩:∃x:List UInt8,[]=x:=⟨_,rfl⟩
 have hRl:R.length=0:=by rw[<-hR];rfl
 rw[hR]
 obtain⟨N,hN⟩:∃x,R.length+m=x:=⟨_,rfl⟩
 obtain⟨A,hA⟩:∃x,R++b=x:=⟨_,rfl⟩
 have hAl:A.length=N:=by rw[<-hA,zlA,hb,hN]
 have hA2:A=[]++take m (drop 0 b):=by rw[List.drop_zero,List.take_of_length_le (by omega),hR,hA]
 refine gB ?_
 intro c hc
 have hc:R.length+m<=c:=by have:0+m<=c:=hc;omega
 refine gB ?_
 refine aY.i (σ:=Nat) (λq=>q<=N/64)
  (λq=>([(0,.ptr 1000 0 none)],
   [(1000,kM (ab h A q) (.sl 200 0 (64*q) (N-64*q) (c-64*q)) (n+ofInt (m:Int))),(1002,.mem false 0 [(m,.a8 b)]),(200,.mem true (c-N) [(N,.a8 A)])])) (λq=>N/64-q) 0 (zero_le _) ?_ ?_
 ·refine Le.i [(200,(20,0,none))] rfl ?_ rfl ?_ rfl
  ·exact fc
  repeat' first|exact trivial|refine zA.app ?_ ?_|refine zA.zd ?_ ?_|refine zA.cons ?_ ?_|exact fc|fail
  all_goals exact hA2
 rintro q hq
 have hbl:=br hh A q
 refine zB.i ?_ ?_<;>intro hc1
 ·have hc1:((N-64*q:Nat):Int)≥64:=hc1
  refine aH.i [[],[0],[0,1],[],[3],[3,4],[3,4,5],[3,4,5,6],r_8] r_9 (by kernel_rfl) ?_
  refine gB ?_
  have hB:=aYC (ab h A q) ((A.drop (64*q)).take 64) hbl (by simp only[zlT,zlD];omega)
  refine Call.i hB [(1000,(1000,0,none)),(1001,(200,0,some (64*q)))] rfl fc rfl fc rfl ?_
  rintro _ _ ⟨rfl,rfl⟩
  refine gB ?_
  refine⟨q+1,by omega,by omega,Le.i [] rfl fc rfl ?_ rfl⟩
  have e1:64*q+64=64*(q+1):=by omega
  have e2:N-64*q-64=N-64*(q+1):=by omega
  have e3:c-64*q-64=c-64*(q+1):=by omega
  exact fc
 obtain rfl:q=N/64:=by have hc1:¬((N-64*q:Nat):Int)≥64:=hc1;omega
 subst hA
 subst hN
 refine Ret.i (.tup []) ([(1000,kM (ab h (R++b) ((R.length+m)/64)) (.sl 1005 0 (64*((R.length+m)/64)) (R.length+m-64*((R.length+m)/64)) (c-64*((R.length+m)/64))) (n+ofInt (m:Int)))]++[]++
   [(1002,.mem false 0 [(m,.a8 b)]),(1005,.mem true (c-(R.length+m)) [(R.length+m,.a8 (R++b))])]) [(1005,(200,0,none))] rfl fc ⟨c,hc,rfl,rfl⟩ rfl fc rfl fc rfl
def oP (r:Nat):Nat:=(119-r)%64
def qi (R:List UInt8) (j:Nat):List UInt8:=R++[128]++replicate j 0
def qk (t:List UInt8) (n:UInt64):Nat->List UInt8
 |0=>t
 |k+1=>qk t n k++[(aF (aQ n 3) (8*(7-k))).toUInt8]
def aNJ (w:List UInt32):Nat->List UInt8
 |0=>replicate 32 0
 |i+1=>(aNJ w i).set i (uL (w.getD (i/4) 0) (24-i%4*8)).toUInt8
def yj (R:List UInt8) (n:UInt64):List UInt8:=qk (qi R (oP R.length)) n 8
def wh (h:List UInt32) (R:List UInt8) (n:UInt64):List UInt8:=aNJ (ab h (yj R n) ((yj R n).length/64)) 32
theorem iB (R:List UInt8) (j:Nat):(qi R j).length=R.length+1+j:=by simp[qi];omega
theorem pL (R:List UInt8) (j:Nat):qi R (j+1)=qi R j++[0]:=by
 unfold qi;rw[List.replicate_succ',List.append_assoc,List.append_assoc,List.append_assoc]
theorem iL (t:List UInt8) (n:UInt64):∀k,(qk t n k).length=t.length+k
 |0=>rfl
 |k+1=>by simp only[qk,zlA,iL t n k,List.length_cons,List.length_nil];omega
theorem j5 (w:List UInt32):∀i,(aNJ w i).length=32
 |0=>length_replicate
 |i+1=>by simp only[aNJ,length_set,j5 w i]
theorem nT (h:List UInt32) (R:List UInt8) (n:UInt64):(wh h R n).length=32:=j5 _ _
theorem aaA (h:List UInt32) (l R:List UInt8) (n:UInt64) (t i r:Nat) (hh:h.length=8) (hl:l.length=t) (hi:i+r<=t) (hR:(l.drop i).take r=R) (hr:r<64):
  Sx.Fn Γ.P 60 [.ptr 1000 0 none] [(1000,.mem false 0 [(8,.a32 h),(1,.slx 1001 0 i r),(1,.u64 n)]),(1001,.mem false 0 [(t,.a8 l)])]
   (λv M=>v= .a8 (wh h R n)/\M=[(1000,.mem false 0 [(8,.a32 h),(1,.slx 1001 0 i r),(1,.u64 n)]),(1001,.mem false 0 [(t,.a8 l)])]):=by
 have hRl:R.length=r:=by rw[<-hR,zlT,zlD];omega
 refine aG (Γ:=Γ) (fn:=Tryz.f60) rfl rfl rfl rfl ?_
 refine gB ?_
 refine aH.i [[],[],[1],[1,2],[1,2,3],r_5,[],r_7,r_8] [0,1,2,3,4,6,5,7,8] (by kernel_rfl) ?_
 refine gB ?_
 intro c1 hc1
 refine gB ?_
 refine cL.i [(17,.mem true (zmE (c1-((Ix.lit 0).val+r)) 1) [(zmE ((Ix.lit 0).val+r) 1,.a8 (kR 0 []++take r (drop i l)))]),(12,.dead)] rfl rfl ?_
 refine gB ?_
 intro c2 hc2
 refine gB ?_
 refine aY.i (σ:=Nat×Nat) (λs=>s.1<=oP r/\r+1+s.1<=s.2)
  (λs=>([(0,.ptr 1000 0 none),(2,.ptr 2 0 none),(3,.ptr 3 0 none),(4,.sl 200 0 0 (r+1+s.1) s.2)],
   [(1000,.mem false 0 [(8,.a32 h),(1,.slx 1001 0 i r),(1,.u64 n)]),(1001,.mem false 0 [(t,.a8 l)]),(2,.mem true 0 [(32,.a8 (replicate 32 0))]),(3,.mem true 0 [(8,.a32 h)]),(200,.mem true (s.2-(r+1+s.1)) [(r+1+s.1,.a8 (qi R s.1))])])) (λs=>oP r-s.1) (0,c2) ⟨zero_le _,by have:(Ix.lit 0).val+r+1<=c2:=hc2;show r+1+0<=c2;have e:(Ix.lit 0).val=0:=rfl;omega⟩ ?_ ?_
 ·refine Le.i [(200,(19,0,none))] rfl ?_ rfl ?_ rfl
  ·exact fc
  repeat' first|exact trivial|refine zA.app ?_ ?_|refine zA.zd ?_ ?_|refine zA.cons ?_ ?_|exact fc|fail
  all_goals(show qi R 0=[]++(take r (drop i l))++take 1 (drop 0 [128]);rw[hR];simp[qi])
 rintro⟨j,c⟩ ⟨hj,hc⟩
 have hj:j<=oP r:=hj
 have hc:r+1+j<=c:=hc
 have hpl:=iB R j
 rw[hRl]at hpl
 have hz:oP r=(119-r)%64:=rfl
 refine gB ?_
 refine zB.i ?_ ?_<;>intro hb1
 ·have hb1:¬((r+1+j:Nat):Int)%64=56:=hb1
  have hlt:j<oP r:=by omega
  refine gB ?_
  intro c' hc'
  refine gB ?_
  have hp1:=pL R j
  refine⟨(j+1,c'),⟨hlt,by show r+1+(j+1)<=c';have:r+1+j+1<=c':=hc';omega⟩,by show oP r-(j+1)<oP r-j;omega,Le.i [(200,(26,0,none))] rfl fc rfl fc rfl⟩
 have hb1:¬¬((r+1+j:Nat):Int)%64=56:=hb1
 obtain rfl:j=oP r:=by omega
 obtain⟨T0,hT0⟩:∃x,qi R (oP r)=x:=⟨_,rfl⟩
 rw[hT0]at hpl
 obtain⟨L0,hL0⟩:∃x,r+1+oP r=x:=⟨_,rfl⟩
 rw[hL0]at hpl hc
 have hL1:L0=56\/L0=120:=by omega
 have hT0':=hT0.symm
 have hL0':=hL0.symm
 have htail:yj R n=qk T0 n 8:=by unfold yj;rw[hRl,hT0]
 refine aY.i (σ:=Nat×Nat) (λs=>s.1<=8/\L0+s.1<=s.2)
  (λs=>([(0,.ptr 1000 0 none),(2,.ptr 2 0 none),(3,.ptr 3 0 none),(4,.sl 200 0 0 (L0+s.1) s.2),(5,.i .i64 (7-(s.1:Int)))],
   [(1000,.mem false 0 [(8,.a32 h),(1,.slx 1001 0 i r),(1,.u64 n)]),(1001,.mem false 0 [(t,.a8 l)]),(2,.mem true 0 [(32,.a8 (replicate 32 0))]),(3,.mem true 0 [(8,.a32 h)]),(200,.mem true (s.2-(L0+s.1)) [(L0+s.1,.a8 (qk T0 n s.1))])])) (λs=>8-s.1) (0,c) ⟨zero_le _,hc⟩ ?_ ?_
 ·clear hT0 hL0
  refine Le.i [] rfl ?_ rfl ?_ rfl
  ·exact fc
  have e0:qk T0 n 0=T0:=rfl
  repeat' first|exact trivial|refine zA.app ?_ ?_|refine zA.zd ?_ ?_|refine zA.cons ?_ ?_|exact fc|fail
  all_goals exact hT0'
 clear hT0' hL0'
 rintro⟨k,c⟩ ⟨hk,hc⟩
 have hk:k<=8:=hk
 have hc:L0+k<=c:=hc
 have hll:=iL T0 n k
 rw[hpl]at hll
 refine zB.i ?_ ?_<;>intro hb2
 ·have hb2:(7-(k:Int))≥0:=hb2
  refine gB ?_
  intro c' hc'
  refine gB ?_
  have e7:(8*(7-(k:Int))).toNat=8*(7-k):=by omega
  refine⟨(k+1,c'),⟨by show k+1<=8;omega,by show L0+(k+1)<=c';have:L0+k+1<=c':=hc';omega⟩,by show 8-(k+1)<8-k;omega,Le.i [(200,(42,0,none))] rfl ?_ rfl ?_ rfl⟩
  ·exact fc
  repeat' first|exact trivial|refine zA.app ?_ ?_|refine zA.zd ?_ ?_|refine zA.cons ?_ ?_|exact fc|fail
  show qk T0 n (k+1)=qk T0 n k++[(aF (aQ n 3) (8*(7-(k:Int))).toNat).toUInt8]
  rw[e7]
  rfl
 obtain rfl:k=8:=by have hb2:¬(7-(k:Int))≥0:=hb2;omega
 obtain⟨T,hT⟩:∃x,qk T0 n 8=x:=⟨_,rfl⟩
 obtain⟨L,hL⟩:∃x,L0+8=x:=⟨_,rfl⟩
 rw[hT,hL]at hll
 rw[hL]at hc
 rw[hT]at htail
 have hT':=hT.symm
 have hsum:wh h R n=aNJ (ab h T (L/64)) 32:=by unfold wh;rw[htail,hll]
 refine aY.i (σ:=Nat) (λq=>q<=L/64)
  (λq=>([(2,.ptr 2 0 none),(3,.ptr 3 0 none),(4,.sl 200 0 (64*q) (L-64*q) (c-64*q))],
   [(1000,.mem false 0 [(8,.a32 h),(1,.slx 1001 0 i r),(1,.u64 n)]),(1001,.mem false 0 [(t,.a8 l)]),(2,.mem true 0 [(32,.a8 (replicate 32 0))]),(3,.mem true 0 [(8,.a32 (ab h T q))]),(200,.mem true (c-L) [(L,.a8 T)])])) (λq=>L/64-q) 0 (zero_le _) ?_ ?_
 ·clear hT
  refine Le.i [] rfl ?_ rfl ?_ rfl
  ·exact fc
  have e0:ab h T 0=h:=rfl
  repeat' first|exact trivial|refine zA.app ?_ ?_|refine zA.zd ?_ ?_|refine zA.cons ?_ ?_|exact fc|fail
  all_goals exact hT'
 clear hT'
 rintro q hq
 have hbl:=br hh T q
 refine zB.i ?_ ?_<;>intro hb3
 ·have hb3:((L-64*q:Nat):Int)>0:=hb3
  have hq64:64*q+64<=L:=by omega
  refine gB ?_
  have hB:=aYC (ab h T q) ((T.drop (64*q)).take 64) hbl (by simp only[zlT,zlD];omega)
  refine Call.i hB [(1000,(3,0,none)),(1001,(200,0,some (64*q)))] rfl fc rfl fc rfl ?_
  rintro _ _ ⟨rfl,rfl⟩
  refine gB ?_
  have e1:64*q+64=64*(q+1):=by omega
  have e2:L-64*q-64=L-64*(q+1):=by omega
  have e3:c-64*q-64=c-64*(q+1):=by omega
  refine⟨q+1,by omega,by omega,Le.i [] rfl fc rfl fc rfl⟩
 obtain rfl:q=L/64:=by have hb3:¬((L-64*q:Nat):Int)>0:=hb3;omega
 obtain⟨W,hW⟩:∃x,ab h T (L/64)=x:=⟨_,rfl⟩
 rw[hW]at hbl hsum
 have hW':=hW.symm
 refine gB ?_
 refine aY.i (σ:=Nat) (λj=>j<=32)
  (λj=>([(2,.ptr 2 0 none),(3,.ptr 3 0 none),(6,.ptr 6 0 none),(51,.i .i64 j)],
   [(1000,.mem false 0 [(8,.a32 h),(1,.slx 1001 0 i r),(1,.u64 n)]),(1001,.mem false 0 [(t,.a8 l)]),(2,.mem true 0 [(32,.a8 (replicate 32 0))]),(3,.mem true 0 [(8,.a32 W)]),(6,.mem true 0 [(32,.a8 (aNJ W j))])])) (λj=>32-j) 0 (zero_le _) ?_ ?_
 ·clear hW
  refine Le.i [] rfl fc rfl fc rfl
 clear hW'
 rintro j hj
 have hol:=j5 W j
 refine zB.i ?_ ?_<;>intro hb4
 ·have hb4:(j:Int)<32:=hb4
  have ed:((j:Int)/4).toNat=j/4:=by omega
  have es:(24-(j:Int)%4*8).toNat=24-j%4*8:=by omega
  refine gB ?_
  refine⟨j+1,by omega,by omega,Le.i [] rfl fc rfl ?_ rfl⟩
  repeat' first|exact trivial|refine zA.app ?_ ?_|refine zA.zd ?_ ?_|refine zA.cons ?_ ?_|exact fc|fail
  all_goals simp only[ed,es,zero_add,zQ,Ix.val,zIn,aNJ]
 obtain rfl:j=32:=by have hb4:¬(j:Int)<32:=hb4;omega
 refine gB ?_
 rw[hsum]
 refine Ret.i (.a8 (aNJ W 32)) [(1000,.mem false 0 [(8,.a32 h),(1,.slx 1001 0 i r),(1,.u64 n)]),(1001,.mem false 0 [(t,.a8 l)])] [] rfl fc ⟨rfl,rfl⟩ rfl fc rfl fc rfl
@[irreducible] def ej (b:List UInt8):List UInt8:=wh (ab H32 b (b.length/64)) (b.drop (64*(b.length/64))) (0+ofInt (b.length:Int))
theorem oq (b:List UInt8):ej b=wh (ab H32 b (b.length/64)) (b.drop (64*(b.length/64))) (0+ofInt (b.length:Int)):=by unfold ej;rfl
theorem cr (b:List UInt8):(ej b).length=32:=by rw[oq];exact nT _ _ _
theorem aN6 (h:List UInt32) (b:List UInt8) (n:UInt64) (m:Nat) (hh:h.length=8) (hb:b.length=m) (hmax:m<=100000000):
  Sx.Fn Γ.P 59 [.ptr 1000 0 none,.slx 1002 0 0 m] [(1000,kM h .nsl n),(1002,.mem false 0 [(m,.a8 b)])]
   (λv M=>∃c,m<=c/\v= .tup []/\M=[(1000,kM (ab h b (m/64)) (.sl 1005 0 (64*(m/64)) (m-64*(m/64)) (c-64*(m/64))) (n+ofInt (m:Int))),
    (1002,.mem false 0 [(m,.a8 b)]),(1005,.mem true (c-m) [(m,.a8 b)])]):=by
 refine Fn.mono (aUN h b n m hh hb hmax) ?_
 rintro v M ⟨c,hc,hv,hM⟩
 have hz:([]:List UInt8).length+m=m:=zero_add m
 rw[hz,List.nil_append]at hM
 rw[hz]at hc
 exact⟨c,hc,hv,hM⟩
theorem abI (b:List UInt8) (m:Nat) (hb:b.length=m) (hmax:m<=100000000):Sx.Fn Γ.P 57 [.slx 1002 0 0 m] [(1002,.mem false 0 [(m,.a8 b)])]
  (λv M=>v= .a8 (ej b)/\M=[(1002,.mem false 0 [(m,.a8 b)])]):=by
 refine aG (Γ:=Γ) (fn:=Tryz.f57) rfl rfl rfl rfl ?_
 have hP:=aN6 H32 b 0 m jb hb hmax
 have hS:=aaA (ab H32 b (m/64)) b (b.drop (64*(m/64))) (0+ofInt (m:Int)) m (64*(m/64)) (m-64*(m/64)) (br jb _ _) hb (by omega) (by rw[List.take_of_length_le (by rw[zlD];omega)]) (by omega)
 refine gB ?_
 refine Call.i aUT [(1001,(1001,0,none))] rfl trivial rfl trivial rfl ?_
 rintro _ _ ⟨rfl,rfl⟩
 refine gB ?_
 refine Call.i hP [(1000,(1001,0,none)),(1002,(1002,0,none)),(1005,(1005,0,none))] rfl fc rfl fc rfl ?_
 rintro v M' ⟨c,hc,rfl,rfl⟩
 refine gB ?_
 have hsl:=nT (ab H32 b (m/64)) (b.drop (64*(m/64))) (0+ofInt (m:Int))
 refine Call.i hS [(1000,(1001,0,none)),(1001,(1005,0,none))] rfl fc rfl fc rfl ?_
 rintro _ _ ⟨rfl,rfl⟩
 refine gB ?_
 refine Ret.i (.a8 (ej b)) [(1002,.mem false 0 [(m,.a8 b)])] [] rfl ?_ ⟨rfl,rfl⟩ rfl ?_ rfl ?_ rfl
 ·exact fc
 ·have hs:ej b=wh (ab H32 b (m/64)) (b.drop (64*(m/64))) (0+ofInt (m:Int)):=by rw[oq,hb]
  exact fc
 exact fc
@[irreducible] def H64:List UInt64:=[UInt64.ofNat 7640891576956012808,UInt64.ofNat 13503953896175478587,UInt64.ofNat 4354685564936845355,UInt64.ofNat 11912009170470909681,UInt64.ofNat 5840696475078001361,UInt64.ofNat 11170449401992604703,UInt64.ofNat 2270897969802886507,UInt64.ofNat 6620516959819538809]
theorem aI8:H64=[UInt64.ofNat 7640891576956012808,UInt64.ofNat 13503953896175478587,UInt64.ofNat 4354685564936845355,UInt64.ofNat 11912009170470909681,UInt64.ofNat 5840696475078001361,UInt64.ofNat 11170449401992604703,UInt64.ofNat 2270897969802886507,UInt64.ofNat 6620516959819538809]:=by unfold H64;rfl
theorem sJ:H64.length=8:=by rw[aI8];rfl
def ao (h:List UInt64) (b:List UInt8):Nat->List UInt64
 |0=>h
 |q+1=>tc (ao h b q) ((b.drop (128*q)).take 128)
theorem dE {h:List UInt64} (hh:h.length=8) (b:List UInt8):∀q,(ao h b q).length=8
 |0=>hh
 |q+1=>vm (dE hh b q) _
def aw (r:Nat):Nat:=(239-r)%128
def il (w:List UInt64):Nat->List UInt8
 |0=>replicate 64 0
 |i+1=>(il w i).set i (aF (w.getD (i/8) 0) (56-i%8*8)).toUInt8
def gR (R:List UInt8) (n:UInt64):List UInt8:=qk (qi R (aw R.length)++replicate 8 0) n 8
theorem sP (R:List UInt8) (n:UInt64):(gR R n).length=R.length+1+aw R.length+16:=by
 unfold gR;rw[iL,zlA,iB,length_replicate]
theorem iC (w:List UInt64):∀i,(il w i).length=64
 |0=>length_replicate
 |i+1=>by simp only[il,length_set,iC w i]
@[irreducible] def ae (b:List UInt8):List UInt8:=
 il (ao (ao H64 b (b.length/128)) (gR (b.drop (128*(b.length/128))) (ofInt (b.length:Int))) ((gR (b.drop (128*(b.length/128))) (ofInt (b.length:Int))).length/128)) 64
theorem oo (b:List UInt8):ae b=
 il (ao (ao H64 b (b.length/128)) (gR (b.drop (128*(b.length/128))) (ofInt (b.length:Int))) ((gR (b.drop (128*(b.length/128))) (ofInt (b.length:Int))).length/128)) 64:=by unfold ae;rfl
theorem aW (b:List UInt8):(ae b).length=64:=by rw[oo];exact iC _ _
theorem aZ9 (b:List UInt8) (m:Nat) (hb:b.length=m) (hmax:m<=100000000):Sx.Fn Γ.P 62 [.slx 1002 0 0 m] [(1002,.mem false 0 [(m,.a8 b)])]
  (λv M=>v= .a8 (ae b)/\M=[(1002,.mem false 0 [(m,.a8 b)])]):=by
 have hH:=aI8
 refine aG (Γ:=Γ) (fn:=Tryz.f62) rfl rfl rfl rfl ?_
 obtain⟨n,hn⟩:∃x,ofInt (m:Int)=x:=⟨_,rfl⟩
 refine gB ?_
 refine aY.i (σ:=Nat) (λq=>q<=m/128)
  (λq=>([(0,.slx 1002 0 (128*q) (m-128*q)),(2,.ptr 2 0 none),(3,.ptr 3 0 none),(4,.u64 n)],
   [(1002,.mem false 0 [(m,.a8 b)]),(2,.mem true 0 [(64,.a8 (replicate 64 0))]),(3,.mem true 0 [(8,.a64 (ao H64 b q))])])) (λq=>m/128-q) 0 (zero_le _) ?_ ?_
 ·have hn':=hn.symm
  clear hn
  refine Le.i [] rfl ?_ rfl ?_ rfl
  ·exact fc
  have e0:ao H64 b 0=H64:=rfl
  repeat' first|exact trivial|refine zA.app ?_ ?_|refine zA.zd ?_ ?_|refine zA.cons ?_ ?_|exact fc|fail
  all_goals exact hH
 rintro q hq
 have hbl:=dE sJ b q
 refine zB.i ?_ ?_<;>intro hb1
 ·have hb1:((m-128*q:Nat):Int)≥128:=hb1
  refine gB ?_
  have hB:=aZ2 (ao H64 b q) ((b.drop (128*q)).take 128) hbl (by simp only[zlT,zlD];omega)
  refine Call.i hB [(1000,(3,0,none)),(1001,(1002,0,some (128*q)))] rfl fc rfl fc rfl ?_
  rintro _ _ ⟨rfl,rfl⟩
  refine gB ?_
  have e1:128*q+128=128*(q+1):=by omega
  have e2:m-128*q-128=m-128*(q+1):=by omega
  refine⟨q+1,by omega,by omega,Le.i [] rfl fc rfl fc rfl⟩
 obtain rfl:q=m/128:=by have hb1:¬((m-128*q:Nat):Int)≥128:=hb1;omega
 obtain⟨h,hh⟩:∃x,ao H64 b (m/128)=x:=⟨_,rfl⟩
 rw[hh]at hbl
 obtain⟨i,hi⟩:∃x,128*(m/128)=x:=⟨_,rfl⟩
 obtain⟨r,hr⟩:∃x,m-i=x:=⟨_,rfl⟩
 obtain⟨R,hR⟩:∃x,b.drop i=x:=⟨_,rfl⟩
 have hRl:R.length=r:=by rw[<-hR,zlD];omega
 have hr128:r<128:=by omega
 have htk:take r (drop i b)=R:=by rw[hR,List.take_of_length_le (by omega)]
 have hsum0:ae b=il (ao h (gR R n) ((gR R n).length/128)) 64:=by
  rw[oo,hb,hi,hR,hn,hh]
 refine gB ?_
 intro c1 hc1
 refine gB ?_
 intro c2 hc2
 refine gB ?_
 refine aY.i (σ:=Nat×Nat) (λs=>s.1<=aw r/\r+1+s.1<=s.2)
  (λs=>([(2,.ptr 2 0 none),(3,.ptr 3 0 none),(4,.u64 n),(5,.sl 200 0 0 (r+1+s.1) s.2)],
   [(1002,.mem false 0 [(m,.a8 b)]),(2,.mem true 0 [(64,.a8 (replicate 64 0))]),(3,.mem true 0 [(8,.a64 h)]),(200,.mem true (s.2-(r+1+s.1)) [(r+1+s.1,.a8 (qi R s.1))])])) (λs=>aw r-s.1) (0,c2) ⟨zero_le _,by have:(Ix.lit 0).val+(m-128*(m/128))+1<=c2:=hc2;show r+1+0<=c2;have e:(Ix.lit 0).val=0:=rfl;omega⟩ ?_ ?_
 ·refine Le.i [(200,(25,0,none))] rfl ?_ rfl ?_ rfl
  ·exact fc
  have hh':=hh.symm
  clear hh hR
  repeat' first|exact trivial|refine zA.app ?_ ?_|refine zA.zd ?_ ?_|refine zA.cons ?_ ?_|exact fc|fail
  all_goals(show qi R 0=[]++take (m-128*(m/128)) (drop (128*(m/128)) b)++[128];rw[hi,hr,htk];simp[qi])
 rintro⟨j,c⟩ ⟨hj,hc⟩
 have hj:j<=aw r:=hj
 have hc:r+1+j<=c:=hc
 have hpl:=iB R j
 rw[hRl]at hpl
 have hz:aw r=(239-r)%128:=rfl
 refine gB ?_
 refine zB.i ?_ ?_<;>intro hb1
 ·have hb1:¬((r+1+j:Nat):Int)%128=112:=hb1
  have hlt:j<aw r:=by omega
  refine gB ?_
  intro c' hc'
  refine gB ?_
  have hp1:=pL R j
  refine⟨(j+1,c'),⟨hlt,by show r+1+(j+1)<=c';have:r+1+j+1<=c':=hc';omega⟩,by show aw r-(j+1)<aw r-j;omega,Le.i [(200,(32,0,none))] rfl fc rfl fc rfl⟩
 have hb1:¬¬((r+1+j:Nat):Int)%128=112:=hb1
 obtain rfl:j=aw r:=by omega
 obtain⟨T0,hT0⟩:∃x,qi R (aw r)=x:=⟨_,rfl⟩
 rw[hT0]at hpl
 obtain⟨L0,hL0⟩:∃x,r+1+aw r=x:=⟨_,rfl⟩
 rw[hL0]at hpl hc
 have hL1:L0=112\/L0=240:=by omega
 have hT0':T0++replicate 8 0=qi R (aw r)++replicate 8 0:=by rw[hT0]
 have htail:gR R n=qk (T0++replicate 8 0) n 8:=by unfold gR;rw[hRl,hT0]
 obtain⟨T1,hT1⟩:∃x,T0++replicate 8 0=x:=⟨_,rfl⟩
 rw[hT1]at htail hT0'
 have hT1l:T1.length=L0+8:=by rw[<-hT1,zlA,hpl,length_replicate]
 clear hT0 hT1
 refine gB ?_
 intro c3 hc3
 refine gB ?_
 refine aY.i (σ:=Nat×Nat) (λs=>s.1<=8/\L0+8+s.1<=s.2)
  (λs=>([(2,.ptr 2 0 none),(3,.ptr 3 0 none),(4,.u64 n),(5,.sl 200 0 0 (L0+8+s.1) s.2),(6,.i .i64 (7-(s.1:Int)))],
   [(1002,.mem false 0 [(m,.a8 b)]),(2,.mem true 0 [(64,.a8 (replicate 64 0))]),(3,.mem true 0 [(8,.a64 h)]),(200,.mem true (s.2-(L0+8+s.1)) [(L0+8+s.1,.a8 (qk T1 n s.1))])])) (λs=>8-s.1) (0,c3) ⟨zero_le _,by have:r+1+aw r+Int.toNat 8<=c3:=hc3;show L0+8+0<=c3;have e:Int.toNat 8=8:=rfl;omega⟩ ?_ ?_
 ·have hL0':=hL0.symm
  clear hL0
  refine Le.i [(200,(34,0,none))] rfl ?_ rfl ?_ rfl
  ·exact fc
  have e0:qk T1 n 0=T1:=rfl
  repeat' first|exact trivial|refine zA.app ?_ ?_|refine zA.zd ?_ ?_|refine zA.cons ?_ ?_|exact fc|fail
  all_goals exact hT0'
 rintro⟨k,c⟩ ⟨hk,hc⟩
 have hk:k<=8:=hk
 have hc:L0+8+k<=c:=hc
 have hll:=iL T1 n k
 rw[hT1l]at hll
 refine zB.i ?_ ?_<;>intro hb2
 ·have hb2:(7-(k:Int))≥0:=hb2
  refine gB ?_
  intro c' hc'
  refine gB ?_
  have e7:(8*(7-(k:Int))).toNat=8*(7-k):=by omega
  refine⟨(k+1,c'),⟨by show k+1<=8;omega,by show L0+8+(k+1)<=c';have:L0+8+k+1<=c':=hc';omega⟩,by show 8-(k+1)<8-k;omega,Le.i [(200,(47,0,none))] rfl ?_ rfl ?_ rfl⟩
  ·exact fc
  repeat' first|exact trivial|refine zA.app ?_ ?_|refine zA.zd ?_ ?_|refine zA.cons ?_ ?_|exact fc|fail
  show qk T1 n (k+1)=qk T1 n k++[(aF (aQ n 3) (8*(7-(k:Int))).toNat).toUInt8]
  rw[e7]
  rfl
 obtain rfl:k=8:=by have hb2:¬(7-(k:Int))≥0:=hb2;omega
 obtain⟨T,hT⟩:∃x,qk T1 n 8=x:=⟨_,rfl⟩
 obtain⟨L,hL⟩:∃x,L0+8+8=x:=⟨_,rfl⟩
 rw[hT,hL]at hll
 rw[hL]at hc
 rw[hT]at htail
 have hT':=hT.symm
 have hsum:ae b=il (ao h T (L/128)) 64:=by rw[hsum0,htail,hll]
 clear hsum0
 refine aY.i (σ:=Nat) (λq=>q<=L/128)
  (λq=>([(2,.ptr 2 0 none),(3,.ptr 3 0 none),(5,.sl 200 0 (128*q) (L-128*q) (c-128*q))],
   [(1002,.mem false 0 [(m,.a8 b)]),(2,.mem true 0 [(64,.a8 (replicate 64 0))]),(3,.mem true 0 [(8,.a64 (ao h T q))]),(200,.mem true (c-L) [(L,.a8 T)])])) (λq=>L/128-q) 0 (zero_le _) ?_ ?_
 ·clear hT
  refine Le.i [] rfl ?_ rfl ?_ rfl
  ·exact fc
  have e0:ao h T 0=h:=rfl
  repeat' first|exact trivial|refine zA.app ?_ ?_|refine zA.zd ?_ ?_|refine zA.cons ?_ ?_|exact fc|fail
  all_goals exact hT'
 clear hT'
 rintro q hq
 have hbl2:=dE hbl T q
 refine zB.i ?_ ?_<;>intro hb3
 ·have hb3:((L-128*q:Nat):Int)>0:=hb3
  have hq64:128*q+128<=L:=by omega
  refine gB ?_
  have hB:=aZ2 (ao h T q) ((T.drop (128*q)).take 128) hbl2 (by simp only[zlT,zlD];omega)
  refine Call.i hB [(1000,(3,0,none)),(1001,(200,0,some (128*q)))] rfl fc rfl fc rfl ?_
  rintro _ _ ⟨rfl,rfl⟩
  refine gB ?_
  have e1:128*q+128=128*(q+1):=by omega
  have e2:L-128*q-128=L-128*(q+1):=by omega
  have e3:c-128*q-128=c-128*(q+1):=by omega
  refine⟨q+1,by omega,by omega,Le.i [] rfl fc rfl fc rfl⟩
 obtain rfl:q=L/128:=by have hb3:¬((L-128*q:Nat):Int)>0:=hb3;omega
 obtain⟨W,hW⟩:∃x,ao h T (L/128)=x:=⟨_,rfl⟩
 rw[hW]at hbl2 hsum
 have hW':=hW.symm
 refine gB ?_
 refine aY.i (σ:=Nat) (λj=>j<=64)
  (λj=>([(2,.ptr 2 0 none),(3,.ptr 3 0 none),(7,.ptr 7 0 none),(56,.i .i64 j)],
   [(1002,.mem false 0 [(m,.a8 b)]),(2,.mem true 0 [(64,.a8 (replicate 64 0))]),(3,.mem true 0 [(8,.a64 W)]),(7,.mem true 0 [(64,.a8 (il W j))])])) (λj=>64-j) 0 (zero_le _) ?_ ?_
 ·clear hW
  refine Le.i [] rfl fc rfl fc rfl
 clear hW'
 rintro j hj
 have hol:=iC W j
 refine zB.i ?_ ?_<;>intro hb4
 ·have hb4:(j:Int)<64:=hb4
  have ed:((j:Int)/8).toNat=j/8:=by omega
  have es:(56-(j:Int)%8*8).toNat=56-j%8*8:=by omega
  refine gB ?_
  refine⟨j+1,by omega,by omega,Le.i [] rfl fc rfl ?_ rfl⟩
  repeat' first|exact trivial|refine zA.app ?_ ?_|refine zA.zd ?_ ?_|refine zA.cons ?_ ?_|exact fc|fail
  all_goals simp only[ed,es,zero_add,zQ,Ix.val,zIn,il]
 obtain rfl:j=64:=by have hb4:¬(j:Int)<64:=hb4;omega
 refine gB ?_
 rw[hsum]
 refine Ret.i (.a8 (il W 64)) [(1002,.mem false 0 [(m,.a8 b)])] [] rfl fc ⟨rfl,rfl⟩ rfl fc rfl fc rfl
end Go.Proofs.YtllmefnbacjjcaaGreat
