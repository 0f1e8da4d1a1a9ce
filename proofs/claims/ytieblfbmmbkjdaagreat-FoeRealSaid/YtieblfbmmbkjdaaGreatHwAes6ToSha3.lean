/- Walks. -/
import Derived.Test.YtieblfbmmbkjdaaGreatHwFe4ToAes5
import Derived.Test.YtieblfbmmbkjdaaGreatHx8
import Derived.Test.YtieblfbmmbkjdaaGreatHwTabToCu6
set_option linter.unusedSimpArgs false
set_option linter.unusedVariables false
set_option maxHeartbeats 4000000
open UInt64 (ofNat ofInt)
open List (replicate length_set take drop length_replicate)
open Nat (zero_le zero_add beq le_refl)
open UInt8 (xor_zero xor_self toNat_xor toNat_ofNat' ofNat_toNat toNat)
open Option (getD_some)
set_option maxRecDepth 100000
namespace Go.Proofs.YtieblfbmmbkjdaaGreat
open Go Go.Sx
def aR9 (x:UInt8) (k:Nat):UInt8:=qh x k|||mD x (8-k)
theorem qJ (x:UInt8) (k:Nat) (hk:k<8):Sx.Fn Γ.P 113 [.u8 x,.i .i64 k] [] (λv _=>v= .u8 (aR9 x k)):=by
 refine aG (Γ:=Γ) (fn:=Tryz.f113) rfl rfl rfl rfl ?_
 refine Ret.i (.u8 (aR9 x k)) [] [] rfl trivial rfl rfl ?_ rfl trivial rfl
 have:k=0\/k=1\/k=2\/k=3\/k=4\/k=5\/k=6\/k=7:=by omega
 rcases this with rfl|rfl|rfl|rfl|rfl|rfl|rfl|rfl
 all_goals rfl
theorem aNK (i:Nat):UInt8.ofInt (i:Int)=UInt8.ofNat i:=by
 apply UInt8.toNat_inj.1
 simp[UInt8.ofInt]
 try omega
def aaX (q:UInt8):UInt8:=q^^^aR9 q 1^^^aR9 q 2^^^aR9 q 3^^^aR9 q 4^^^99
def kc:Nat->UInt8×UInt8×List UInt8
 |0=>(1,1,replicate 256 0)
 |n+1=>let s:=kc n;(s.1^^^dbl s.1,aL s.2.1 246,s.2.2.set s.1.toNat (aaX s.2.1))
def tabS:List UInt8:=(kc 255).2.2.set 0 99
def qZ:Nat->List UInt8
 |0=>replicate 256 0
 |i+1=>(qZ i).set (tabS.getD i 0).toNat (UInt8.ofNat i)
def tabB:List UInt8:=qZ 256
theorem nS:∀n,(kc n).2.2.length=256
 |0=>length_replicate
 |n+1=>by simp only[kc,length_set,nS n]
theorem oh:tabS.length=256:=by unfold tabS;rw[length_set,nS]
theorem lk:∀n,(qZ n).length=256
 |0=>length_replicate
 |n+1=>by simp only[qZ,length_set,lk n]
def bi (s bk ks:List UInt8):Ent:=.mem true 0 [(256,.a8 s),(256,.a8 bk),(240,.a8 ks)]
theorem aUZ (ks:List UInt8):Sx.Fn Γ.P 109 [.ptr 1000 0 none] [(1000,bi (replicate 256 0) (replicate 256 0) ks)]
  (λv M=>v= .tup []/\M=[(1000,bi tabS tabB ks)]):=by
 refine aG (Γ:=Γ) (fn:=Tryz.f109) rfl rfl rfl rfl ?_
 refine aY.i (σ:=Nat) (λn=>n<=255)
  (λn=>([(0,.ptr 1000 0 none),(2,.u8 (kc n).1),(3,.u8 (kc n).2.1),(6,.i .i64 n)],[(1000,bi (kc n).2.2 (replicate 256 0) ks)])) (λn=>255-n) 0 (zero_le _) ?_ ?_
 ·exact Le.i [] rfl fc rfl fc rfl
 intro n hn
 refine zB.i ?_ ?_<;>intro h
 ·refine aH.i [[],[],[],[],[3],[2,3,4],[],[3,4,6],[2,3,4,5,6,7],[],[3,4,6,7,9],[2,3,4,5,6,7,8,9,10],[],[3,4,6,7,9,10,12],[2,3,4,5,6,7,8,9,10,11,12,13],[2,3,4,5,6,7,8,9,10,11,12,13,14],[0],[0,16],aBU,uf] [0,1,2,3,6,9,12,16,17,4,5,7,8,10,11,13,14,15,18,19] (by kernel_rfl) ?_
  refine Call.pure (qJ (kc n).2.1 1 (by omega)) rfl fc ?_
  rintro _ rfl
  refine cL.i [] rfl rfl ?_
  refine Call.pure (qJ (kc n).2.1 2 (by omega)) rfl fc ?_
  rintro _ rfl
  refine cL.i [] rfl rfl ?_
  refine Call.pure (qJ (kc n).2.1 3 (by omega)) rfl fc ?_
  rintro _ rfl
  refine cL.i [] rfl rfl ?_
  refine Call.pure (qJ (kc n).2.1 4 (by omega)) rfl fc ?_
  rintro _ rfl
  refine cL.i [] rfl rfl ?_
  refine gB ?_
  refine Call.pure (aUY (kc n).1) rfl fc ?_
  rintro _ rfl
  refine Call.pure (aYR (kc n).2.1 246) rfl fc ?_
  rintro _ rfl
  refine gB ?_
  exact⟨n+1,by omega,by omega,Le.i [] rfl fc rfl fc rfl⟩
 have:n=255:=by omega
 subst this
 have htab:tabS=(kc 255).2.2.set 0 (UInt8.ofNat 99):=rfl
 refine aY.i (σ:=Nat) (λi=>i<=256)
  (λi=>([(0,.ptr 1000 0 none),(41,.a8 tabS),(42,.i .i64 i)],[(1000,bi tabS (qZ i) ks)])) (λi=>256-i) 0 (zero_le _) ?_ ?_
 ·exact Le.i [] rfl fc rfl fc rfl
 intro i hi
 have hts:=oh
 refine zB.i ?_ ?_<;>intro h
 ·refine gB ?_
  have hv:qZ (i+1)=(qZ i).set (tabS.getD (i:Int).toNat 0).toNat (UInt8.ofInt (i:Int)):=by rw[aNK];rfl
  exact⟨i+1,by omega,by omega,Le.i [] rfl fc rfl fc rfl⟩
 have:i=256:=by omega
 subst this
 exact Ret.i (.tup []) [(1000,bi tabS tabB ks)] [] rfl trivial ⟨rfl,rfl⟩ rfl trivial rfl fc rfl
def aM2 (x:UInt8):UInt8:=tabS.getD x.toNat 0
def dH (w:List UInt8) (i:Nat):List UInt8:=(w.drop (4*i)).take 4
def tOf (i:Nat) (t:List UInt8) (rnd:UInt8):List UInt8:=
 if i%8=0 then[aM2 (t.getD 1 0)^^^rnd,aM2 (t.getD 2 0),aM2 (t.getD 3 0),aM2 (t.getD 0 0)]
 else if i%8=4 then[aM2 (t.getD 0 0),aM2 (t.getD 1 0),aM2 (t.getD 2 0),aM2 (t.getD 3 0)]else t
def wK (i:Nat) (t w:List UInt8):Nat->List UInt8
 |0=>w
 |k+1=>(wK i t w k).set (4*i+k) ((wK i t w k).getD (4*(i-8)+k) 0^^^t.getD k 0)
def wGo (key:List UInt8):Nat->List UInt8×UInt8
 |0=>(replicate 240 0,1)
 |i+1=>let s:=wGo key i
  if i<8 then(s.1.take (4*i)++(key.drop (4*i)).take 4++s.1.drop (4*i+4),s.2)
  else(wK i (tOf i (dH s.1 (i-1)) s.2) s.1 4,if i%8=0 then dbl s.2 else s.2)
def aKM (w:List UInt8):Nat->List UInt8
 |0=>replicate 240 0
 |i+1=>(aKM w i).take (4*i)++dH w i++(aKM w i).drop (4*i+4)
def d0 (key:List UInt8):List UInt8:=aKM (wGo key 60).1 60
theorem lj (i:Nat) (t w:List UInt8):∀k,(wK i t w k).length=w.length
 |0=>rfl
 |k+1=>by simp only[wK,length_set,lj i t w k]
theorem gM {key:List UInt8} (hk:key.length=32):∀i,i<=60->(wGo key i).1.length=240
 |0,_=>length_replicate
 |i+1,h=>by
  have ih:=gM hk i (by omega)
  simp only[wGo]
  split
  ·simp only[zlA,zlT,zlD,ih,hk];omega
  rw[lj,ih]
theorem jx {w:List UInt8} (hw:w.length=240):∀j,j<=60->(aKM w j).length=240
 |0,_=>length_replicate
 |j+1,h=>by
  have ih:=jx hw j (by omega)
  simp only[aKM,dH,zlA,zlT,zlD,ih,hw];omega
theorem aKK (w:List UInt8) (hw:w.length=240) (j:Nat) (h:j<60):aKM w (j+1)=
  (aKM w j).take (((j:Int)%4*4).toNat*1+((j:Int)/4).toNat*16)++
   ((w.drop ((j:Int).toNat*4)).take 4).take (min ((w.drop ((j:Int).toNat*4)).take 4).length (16-((j:Int)%4*4).toNat))++
   (aKM w j).drop (((j:Int)%4*4).toNat*1+((j:Int)/4).toNat*16+min ((w.drop ((j:Int).toNat*4)).take 4).length (16-((j:Int)%4*4).toNat)):=by
 rw[show((j:Int)%4*4).toNat*1+((j:Int)/4).toNat*16=4*j by omega,show(j:Int).toNat*4=4*j by omega]
 have e:min ((w.drop (4*j)).take 4).length (16-((j:Int)%4*4).toNat)=4:=by
  simp only[zlT,zlD,hw];omega
 rw[e,List.take_take,Nat.min_self]
 rfl
theorem wU (i:Nat) (t w:List UInt8) (k:Nat) (h:8<=i):wK i t w (k+1)=
  (wK i t w k).set ((k:Int).toNat+(i:Int).toNat*4) ((wK i t w k).getD ((k:Int).toNat+((i:Int)-8).toNat*4) 0^^^t.getD (k:Int).toNat 0):=by
 rw[show(k:Int).toNat+(i:Int).toNat*4=4*i+k by omega,show(k:Int).toNat+((i:Int)-8).toNat*4=4*(i-8)+k by omega];rfl
theorem aMH (w key:List UInt8) (hk:key.length=32) (i:Nat) (h:i<8):
  w.take ((i:Int).toNat*4)++((key.drop ((4*(i:Int)).toNat*1+0)).take (32-(4*(i:Int)).toNat)).take (min ((key.drop ((4*(i:Int)).toNat*1+0)).take (32-(4*(i:Int)).toNat)).length 4)++
   w.drop ((i:Int).toNat*4+min ((key.drop ((4*(i:Int)).toNat*1+0)).take (32-(4*(i:Int)).toNat)).length 4)
  =w.take (4*i)++(key.drop (4*i)).take 4++w.drop (4*i+4):=by
 rw[show(i:Int).toNat*4=4*i by omega,show(4*(i:Int)).toNat*1+0=4*i by omega,show(4*(i:Int)).toNat=4*i by omega]
 have e:min ((key.drop (4*i)).take (32-4*i)).length 4=4:=by
  simp only[zlT,zlD,hk];omega
 rw[e,List.take_take,show min 4 (32-4*i)=4 by omega]
theorem aZ2 (key:List UInt8) (hk:key.length=32):Sx.Fn Γ.P 98 [.a8 key] []
  (λv M=>v= .ptr 1001 0 none/\M=[(1001,bi tabS tabB (d0 key))]):=by
 refine aG (Γ:=Γ) (fn:=Tryz.f98) rfl rfl rfl rfl ?_
 refine gB ?_
 refine Call.i (aUZ (replicate 240 0)) [(1000,(11,0,none))] rfl fc rfl fc rfl ?_
 rintro _ _ ⟨rfl,rfl⟩
 refine aY.i (σ:=Nat) (λi=>i<=60)
  (λi=>([(1,.ptr 1 0 none),(3,.ptr 11 0 none),(4,.ptr 4 0 none),(5,.u8 (wGo key i).2),(14,.i .i64 i)],
   [(1,.mem true 0 [(32,.a8 key)]),(11,bi tabS tabB (replicate 240 0)),(4,.mem true 0 [(240,.a8 (wGo key i).1)])])) (λi=>60-i) 0 (zero_le _) ?_ ?_
 ·exact Le.i [] rfl fc rfl fc rfl
 intro i hi
 refine zB.i ?_ ?_<;>intro h
 ·refine zB.i ?_ ?_<;>intro h8
  ·have hwl:=gM hk i (by omega)
   refine aH.i [[],[0],[0,1],[],[3],[3,4],r_6] r_7 (by kernel_rfl) ?_
   refine gB ?_
   have hw:=aMH (wGo key i).1 key hk i (by omega)
   have hw2:(wGo key (i+1)).1=(wGo key i).1.take (4*i)++(key.drop (4*i)).take 4++(wGo key i).1.drop (4*i+4):=by
    show(if i<8 then _ else _:List UInt8×UInt8).1=_
    rw[if_pos (by omega)]
   have hw3:(wGo key (i+1)).2=(wGo key i).2:=by
    show(if i<8 then _ else _:List UInt8×UInt8).2=_
    rw[if_pos (by omega)]
   rw[<-hw2]at hw
   refine⟨i+1,by omega,by omega,Le.i [] rfl fc rfl ⟨rfl,rfl,rfl,rfl,rfl,rfl,rfl,rfl,rfl,rfl,rfl,rfl,?_⟩ rfl⟩
   exact hw.symm
  have hwl:=gM hk i (by omega)
  have htl:((wGo key i).1.drop (4*(i-1))).take 4=dH (wGo key i).1 (i-1):=rfl
  refine gB ?_
  have hw2:(wGo key (i+1)).1=wK i (tOf i (dH (wGo key i).1 (i-1)) (wGo key i).2) (wGo key i).1 4:=by
   show(if i<8 then _ else _:List UInt8×UInt8).1=_
   rw[if_neg (by omega)]
  have hw3:(wGo key (i+1)).2=if i%8=0 then dbl (wGo key i).2 else(wGo key i).2:=by
   show(if i<8 then _ else _:List UInt8×UInt8).2=_
   rw[if_neg (by omega)]
  have ht:((wGo key i).1.drop (((i:Int)-1).toNat*4)).take 4=dH (wGo key i).1 (i-1):=by
   rw[show((i:Int)-1).toNat*4=4*(i-1) by omega];rfl
  refine zB.i ?_ ?_<;>intro h0
  ·refine aH.i [[],[],[1],[0],[0,3],r_5,r_6,[],r_8,[],[],[10],[9],[9,12],[9,10,11,12,13],[9,10,11,12,13,14],[],[],[17],[16],[16,19],[16,17,18,19,20],[16,17,18,19,20,21],[],[],[24],[23],[23,26],[23,24,25,26,27],[23,24,25,26,27,28],aS2,aZS] aZR (by kernel_rfl) ?_
   refine gB ?_
   refine Call.pure (aUY (wGo key i).2) rfl fc ?_
   rintro _ rfl
   have hT:tOf i (dH (wGo key i).1 (i-1)) (wGo key i).2=[tabS.getD ((((wGo key i).1.drop (((i:Int)-1).toNat*4)).take 4).getD 1 0).toNat 0^^^(wGo key i).2,tabS.getD ((((wGo key i).1.drop (((i:Int)-1).toNat*4)).take 4).getD 2 0).toNat 0,tabS.getD ((((wGo key i).1.drop (((i:Int)-1).toNat*4)).take 4).getD 3 0).toNat 0,tabS.getD ((((wGo key i).1.drop (((i:Int)-1).toNat*4)).take 4).getD 0 0).toNat 0]:=by
    unfold tOf
    rw[if_pos (show i%8=0 by omega),ht]
    try rfl
   have hR:(if i%8=0 then dbl (wGo key i).2 else(wGo key i).2)=dbl (wGo key i).2:=by rw[if_pos (show i%8=0 by omega)]
   refine aY.i (σ:=Nat) (λk=>k<=4)
    (λk=>([(1,.ptr 1 0 none),(3,.ptr 11 0 none),(4,.ptr 4 0 none),(5,.u8 (if i%8=0 then dbl (wGo key i).2 else(wGo key i).2)),(6,.i .i64 i),(7,.ptr 7 0 none),(14,.i .i64 i),(98,.i .i64 k)],
     [(1,.mem true 0 [(32,.a8 key)]),(11,bi tabS tabB (replicate 240 0)),(4,.mem true 0 [(240,.a8 (wK i (tOf i (dH (wGo key i).1 (i-1)) (wGo key i).2) (wGo key i).1 k))]),(7,.mem true 0 [(4,.a8 (tOf i (dH (wGo key i).1 (i-1)) (wGo key i).2))])])) (λi=>4-i) 0 (zero_le _) ?_ ?_
   ·exact Le.i [] rfl ⟨hR,rfl,rfl,rfl⟩ rfl ⟨rfl,rfl,rfl,rfl,rfl,rfl,rfl,rfl,rfl,rfl,rfl,rfl,rfl,rfl,rfl,hT⟩ rfl
   intro k hk4
   refine zB.i ?_ ?_<;>intro hk5
   ·refine aH.i [[],[],[],[2],[],[2,3],[2,3,4,5],[2,3,4,5,6],[],[8],[8,9],[2,3,4,5,6,7,8,9,10],[0],jO,oB] nw (by kernel_rfl) ?_
    refine gB ?_
    have hv:=wU i (tOf i (dH (wGo key i).1 (i-1)) (wGo key i).2) (wGo key i).1 k (by omega)
    exact⟨k+1,by omega,by omega,Le.i [] rfl fc rfl ⟨rfl,rfl,rfl,rfl,rfl,rfl,rfl,rfl,rfl,rfl,rfl,rfl,hv,rfl,rfl,rfl⟩ rfl⟩
   have:k=4:=by omega
   subst this
   refine gB ?_
   refine⟨i+1,by omega,by omega,Le.i [] rfl fc rfl fc rfl⟩
  refine gB ?_
  refine zB.i ?_ ?_<;>intro h4
  ·refine aH.i [[],[],[1],[0],[0,3],r_5,r_6,[],[],[8],[7],[7,10],[7,8,9,10,11],[7,8,9,10,11,12],[],[],[15],[14],[14,17],[14,15,16,17,18],[14,15,16,17,18,19],[],[],[22],[21],[21,24],[21,22,23,24,25],[21,22,23,24,25,26],aW3,aS3] aS2 (by kernel_rfl) ?_
   refine gB ?_
   have hT:tOf i (dH (wGo key i).1 (i-1)) (wGo key i).2=[tabS.getD ((((wGo key i).1.drop (((i:Int)-1).toNat*4)).take 4).getD 0 0).toNat 0,tabS.getD ((((wGo key i).1.drop (((i:Int)-1).toNat*4)).take 4).getD 1 0).toNat 0,tabS.getD ((((wGo key i).1.drop (((i:Int)-1).toNat*4)).take 4).getD 2 0).toNat 0,tabS.getD ((((wGo key i).1.drop (((i:Int)-1).toNat*4)).take 4).getD 3 0).toNat 0]:=by
    unfold tOf
    rw[if_neg (show¬i%8=0 by omega),if_pos (show i%8=4 by omega),ht]
    try rfl
   have hR:(if i%8=0 then dbl (wGo key i).2 else(wGo key i).2)=(wGo key i).2:=by rw[if_neg (show¬i%8=0 by omega)]
   refine aY.i (σ:=Nat) (λk=>k<=4)
    (λk=>([(1,.ptr 1 0 none),(3,.ptr 11 0 none),(4,.ptr 4 0 none),(5,.u8 (if i%8=0 then dbl (wGo key i).2 else(wGo key i).2)),(6,.i .i64 i),(7,.ptr 7 0 none),(14,.i .i64 i),(98,.i .i64 k)],
     [(1,.mem true 0 [(32,.a8 key)]),(11,bi tabS tabB (replicate 240 0)),(4,.mem true 0 [(240,.a8 (wK i (tOf i (dH (wGo key i).1 (i-1)) (wGo key i).2) (wGo key i).1 k))]),(7,.mem true 0 [(4,.a8 (tOf i (dH (wGo key i).1 (i-1)) (wGo key i).2))])])) (λi=>4-i) 0 (zero_le _) ?_ ?_
   ·exact Le.i [] rfl ⟨hR,rfl,rfl,rfl⟩ rfl ⟨rfl,rfl,rfl,rfl,rfl,rfl,rfl,rfl,rfl,rfl,rfl,rfl,rfl,rfl,rfl,hT⟩ rfl
   intro k hk4
   refine zB.i ?_ ?_<;>intro hk5
   ·refine aH.i [[],[],[],[2],[],[2,3],[2,3,4,5],[2,3,4,5,6],[],[8],[8,9],[2,3,4,5,6,7,8,9,10],[0],jO,oB] nw (by kernel_rfl) ?_
    refine gB ?_
    have hv:=wU i (tOf i (dH (wGo key i).1 (i-1)) (wGo key i).2) (wGo key i).1 k (by omega)
    exact⟨k+1,by omega,by omega,Le.i [] rfl fc rfl ⟨rfl,rfl,rfl,rfl,rfl,rfl,rfl,rfl,rfl,rfl,rfl,rfl,hv,rfl,rfl,rfl⟩ rfl⟩
   have:k=4:=by omega
   subst this
   refine gB ?_
   refine⟨i+1,by omega,by omega,Le.i [] rfl fc rfl fc rfl⟩
  skip
  have hT:tOf i (dH (wGo key i).1 (i-1)) (wGo key i).2=(((wGo key i).1.drop (((i:Int)-1).toNat*4)).take 4):=by
   unfold tOf
   rw[if_neg (show¬i%8=0 by omega),if_neg (show¬i%8=4 by omega),ht]
   try rfl
  have hR:(if i%8=0 then dbl (wGo key i).2 else(wGo key i).2)=(wGo key i).2:=by rw[if_neg (show¬i%8=0 by omega)]
  refine aY.i (σ:=Nat) (λk=>k<=4)
   (λk=>([(1,.ptr 1 0 none),(3,.ptr 11 0 none),(4,.ptr 4 0 none),(5,.u8 (if i%8=0 then dbl (wGo key i).2 else(wGo key i).2)),(6,.i .i64 i),(7,.ptr 7 0 none),(14,.i .i64 i),(98,.i .i64 k)],
    [(1,.mem true 0 [(32,.a8 key)]),(11,bi tabS tabB (replicate 240 0)),(4,.mem true 0 [(240,.a8 (wK i (tOf i (dH (wGo key i).1 (i-1)) (wGo key i).2) (wGo key i).1 k))]),(7,.mem true 0 [(4,.a8 (tOf i (dH (wGo key i).1 (i-1)) (wGo key i).2))])])) (λi=>4-i) 0 (zero_le _) ?_ ?_
  ·exact Le.i [] rfl ⟨hR,rfl,rfl,rfl⟩ rfl ⟨rfl,rfl,rfl,rfl,rfl,rfl,rfl,rfl,rfl,rfl,rfl,rfl,rfl,rfl,rfl,hT⟩ rfl
  intro k hk4
  refine zB.i ?_ ?_<;>intro hk5
  ·refine aH.i [[],[],[],[2],[],[2,3],[2,3,4,5],[2,3,4,5,6],[],[8],[8,9],[2,3,4,5,6,7,8,9,10],[0],jO,oB] nw (by kernel_rfl) ?_
   refine gB ?_
   have hv:=wU i (tOf i (dH (wGo key i).1 (i-1)) (wGo key i).2) (wGo key i).1 k (by omega)
   exact⟨k+1,by omega,by omega,Le.i [] rfl fc rfl ⟨rfl,rfl,rfl,rfl,rfl,rfl,rfl,rfl,rfl,rfl,rfl,rfl,hv,rfl,rfl,rfl⟩ rfl⟩
  have:k=4:=by omega
  subst this
  refine gB ?_
  refine⟨i+1,by omega,by omega,Le.i [] rfl fc rfl fc rfl⟩
 have:i=60:=by omega
 subst this
 refine aY.i (σ:=Nat) (λj=>j<=60)
  (λj=>([(3,.ptr 11 0 none),(4,.ptr 4 0 none),(117,.i .i64 j)],
   [(11,bi tabS tabB (aKM (wGo key 60).1 j)),(4,.mem true 0 [(240,.a8 (wGo key 60).1)])])) (λj=>60-j) 0 (zero_le _) ?_ ?_
 ·exact Le.i [] rfl fc rfl fc rfl
 intro j hj
 have hwl:=gM hk 60 (by omega)
 have hpl:=jx hwl j hj
 refine zB.i ?_ ?_<;>intro h2
 ·refine aH.i [[],[],[1],[0],[0,3],r_5,[],[6],[6,7],r_9,[],[10],[10,11],jO] oB (by kernel_rfl) ?_
  refine gB ?_
  have hv:=aKK (wGo key 60).1 hwl j (by omega)
  exact⟨j+1,by omega,by omega,Le.i [] rfl fc rfl ⟨rfl,rfl,rfl,rfl,rfl,rfl,hv,rfl,rfl,rfl⟩ rfl⟩
 have:j=60:=by omega
 subst this
 refine gB ?_
 exact Ret.i (.ptr 1001 0 none) [(1001,bi tabS tabB (d0 key))] [(1001,(11,0,none))] rfl trivial ⟨rfl,rfl⟩ rfl trivial rfl fc rfl
theorem dA {key:List UInt8} (hk:key.length=32):(d0 key).length=240:=jx (gM hk 60 (by omega)) 60 (by omega)
def natS:List Nat:=[99,124,119,123,242,107,111,197,48,1,103,43,254,215,171,118,202,130,201,125,250,89,71,
240,173,212,162,175,156,164,114,192,183,253,147,38,54,63,247,204,52,165,229,241,113,216,
49,21,4,199,35,195,24,150,5,154,7,18,128,226,235,39,178,117,9,131,44,26,27,110,90,
160,82,59,214,179,41,227,47,132,83,209,0,237,32,252,177,91,106,203,190,57,74,76,88,
207,208,239,170,251,67,77,51,133,69,249,2,127,80,60,159,168,81,163,64,143,146,157,56,
245,188,182,218,33,16,255,243,210,205,12,19,236,95,151,68,23,196,167,126,61,100,93,25,
115,96,129,79,220,34,42,144,136,70,238,184,20,222,94,11,219,224,50,58,10,73,6,36,92,
194,211,172,98,145,149,228,121,231,200,55,109,141,213,78,169,108,86,244,234,101,122,174,
8,186,120,37,46,28,166,180,198,232,221,116,31,75,189,139,138,112,62,181,102,72,3,246,
14,97,53,87,185,134,193,29,158,225,248,152,17,105,217,142,148,155,30,135,233,206,85,40,
223,140,161,137,13,191,230,66,104,65,153,45,15,176,84,187,22]
def natB:List Nat:=[82,9,106,213,48,54,165,56,191,64,163,158,129,243,215,251,124,227,57,130,155,47,255,135,
52,142,67,68,196,222,233,203,84,123,148,50,166,194,35,61,238,76,149,11,66,250,195,78,
8,46,161,102,40,217,36,178,118,91,162,73,109,139,209,37,114,248,246,100,134,104,152,22,
212,164,92,204,93,101,182,146,108,112,72,80,253,237,185,218,94,21,70,87,167,141,157,
132,144,216,171,0,140,188,211,10,247,228,88,5,184,179,69,6,208,44,30,143,202,63,15,2,
193,175,189,3,1,19,138,107,58,145,17,65,79,103,220,234,151,242,207,206,240,180,230,115,
150,172,116,34,231,173,53,133,226,249,55,232,28,117,223,110,71,241,26,113,29,41,197,
137,111,183,98,14,170,24,190,27,252,86,62,75,198,210,121,32,154,219,192,254,120,205,90,
244,31,221,168,51,136,7,199,49,177,18,16,89,39,128,236,95,96,81,127,169,25,181,74,13,
45,229,122,159,147,201,156,239,160,224,59,77,174,42,245,176,200,235,187,60,131,83,153,
97,23,43,4,126,186,119,214,38,225,105,20,99,85,33,12,125]
set_option maxRecDepth 1000000 in
theorem aJX:tabS.map toNat=natS:=by kernel_rfl
set_option maxRecDepth 1000000 in
theorem aJY:tabB.map toNat=natB:=by kernel_rfl
set_option maxRecDepth 1000000 in
theorem aXK:(List.range 256).all (λi=>beq (natB.getD (natS.getD i 0) 0) i)=true:=by kernel_rfl
theorem aAE (l:List UInt8) (i:Nat):(l.map toNat).getD i 0=(l.getD i 0).toNat:=by
 simp only[List.getD_eq_getElem?_getD,List.getElem?_map]
 cases l[i]? <;>rfl
theorem aVS (x:UInt8):tabB.getD (tabS.getD x.toNat 0).toNat 0=x:=by
 apply UInt8.toNat_inj.1
 rw[<-aAE,<-aAE,aJX,aJY]
 exact Nat.eq_of_beq_eq_true (List.all_eq_true.1 aXK x.toNat (List.mem_range.2 x.toNat_lt))
theorem aK9 {l:List UInt8} (h:l.length=16):∃a0 a1 a2 a3 a4 a5 a6 a7 a8 a9 a10 a11 a12 a13 a14 a15,l=[a0,a1,a2,a3,a4,a5,a6,a7,a8,a9,a10,a11,a12,a13,a14,a15]:=by
 match l,h with
 |[a0,a1,a2,a3,a4,a5,a6,a7,a8,a9,a10,a11,a12,a13,a14,a15],_=>exact⟨a0,a1,a2,a3,a4,a5,a6,a7,a8,a9,a10,a11,a12,a13,a14,a15,rfl⟩
theorem uA {b:List UInt8} (h:b.length=16):jq tabB (wE tabS b 16) 16=b:=by
 obtain⟨a0,a1,a2,a3,a4,a5,a6,a7,a8,a9,a10,a11,a12,a13,a14,a15,rfl⟩:=aK9 h
 have:jq tabB (wE tabS [a0,a1,a2,a3,a4,a5,a6,a7,a8,a9,a10,a11,a12,a13,a14,a15] 16) 16=
  [a0,a1,a2,a3,a4,a5,a6,a7,a8,a9,a10,a11,a12,a13,a14,a15].map (λx=>tabB.getD (tabS.getD x.toNat 0).toNat 0):=by kernel_rfl
 rw[this,List.map_congr_left (g:=id) (λx _=>aVS x),List.map_id]
theorem yW {k b:List UInt8} (hk:k.length=16) (h:b.length=16):dX k 16 (dX k 16 b)=b:=by
 obtain⟨a0,a1,a2,a3,a4,a5,a6,a7,a8,a9,a10,a11,a12,a13,a14,a15,rfl⟩:=aK9 h
 obtain⟨k0,k1,k2,k3,k4,k5,k6,k7,k8,k9,k10,k11,k12,k13,k14,k15,rfl⟩:=aK9 hk
 have:dX [k0,k1,k2,k3,k4,k5,k6,k7,k8,k9,k10,k11,k12,k13,k14,k15] 16 (dX [k0,k1,k2,k3,k4,k5,k6,k7,k8,k9,k10,k11,k12,k13,k14,k15] 16 [a0,a1,a2,a3,a4,a5,a6,a7,a8,a9,a10,a11,a12,a13,a14,a15])=[a0^^^k0^^^k0,a1^^^k1^^^k1,a2^^^k2^^^k2,a3^^^k3^^^k3,a4^^^k4^^^k4,a5^^^k5^^^k5,a6^^^k6^^^k6,a7^^^k7^^^k7,a8^^^k8^^^k8,a9^^^k9^^^k9,a10^^^k10^^^k10,a11^^^k11^^^k11,a12^^^k12^^^k12,a13^^^k13^^^k13,a14^^^k14^^^k14,a15^^^k15^^^k15]:=by kernel_rfl
 rw[this]
 simp only[UInt8.xor_assoc,xor_self,xor_zero]
theorem aJ4 (a b:UInt8):qh (a^^^b) 1=qh a 1^^^qh b 1:=by
 unfold qh
 rw[toNat_xor,Nat.shiftLeft_xor_distrib]
 apply UInt8.toNat_inj.1
 rw[toNat_xor,toNat_ofNat',toNat_ofNat',toNat_ofNat',Nat.xor_mod_two_pow]
theorem we {n:Nat} (h:n<256):n<128↔n.testBit 7=false:=by
 rw[Nat.testBit_eq_decide_div_mod_eq,decide_eq_false_iff_not];omega
theorem aRL (a b:UInt8):dbl (a^^^b)=dbl a^^^dbl b:=by
 have ha:=we a.toNat_lt
 have hb:=we b.toNat_lt
 have hab:=we (a^^^b).toNat_lt
 rw[toNat_xor,Nat.testBit_xor]at hab
 unfold dbl
 rw[aJ4,toNat_xor]
 cases h1:a.toNat.testBit 7<;>cases h2:b.toNat.testBit 7<;>simp only[h1,h2,Bool.xor_self,Bool.xor_false,Bool.false_xor,iff_true,iff_false,Bool.true_eq_false]at ha hb hab<;>simp only[ha,hb,hab,if_true,if_false]
 ·ac_rfl
 ·ac_rfl
 rw[show qh a 1^^^27^^^(qh b 1^^^27)=qh a 1^^^qh b 1^^^(27^^^27) by ac_rfl,xor_self,xor_zero]
theorem aEC:∀(n:Nat) (a b m p q:UInt8),tms n (a^^^b) m (p^^^q)=tms n a m p^^^tms n b m q
 |0,_,_,_,_,_=>rfl
 |n+1,a,b,m,p,q=>by
  simp only[tms]
  rw[aRL,<-aEC n]
  congr 1
  split
  ·ac_rfl
  rfl
theorem aED (a b m:UInt8):aL (a^^^b) m=aL a m^^^aL b m:=by
 unfold aL
 rw[<-aEC,xor_self]
def col (m0 m1 m2 m3 x0 x1 x2 x3:UInt8):UInt8:=0^^^aL x0 m0^^^aL x1 m1^^^aL x2 m2^^^aL x3 m3
theorem zi (a0 a1 a2 a3 a4 a5 a6 a7 a8 a9 a10 a11 a12 a13 a14 a15 m0 m1 m2 m3:UInt8):xV [a0,a1,a2,a3,a4,a5,a6,a7,a8,a9,a10,a11,a12,a13,a14,a15] [m0,m1,m2,m3] 16=
 [col m0 m1 m2 m3 a0 a1 a2 a3,col m0 m1 m2 m3 a1 a2 a3 a0,col m0 m1 m2 m3 a2 a3 a0 a1,col m0 m1 m2 m3 a3 a0 a1 a2,col m0 m1 m2 m3 a4 a5 a6 a7,col m0 m1 m2 m3 a5 a6 a7 a4,col m0 m1 m2 m3 a6 a7 a4 a5,col m0 m1 m2 m3 a7 a4 a5 a6,col m0 m1 m2 m3 a8 a9 a10 a11,col m0 m1 m2 m3 a9 a10 a11 a8,col m0 m1 m2 m3 a10 a11 a8 a9,col m0 m1 m2 m3 a11 a8 a9 a10,col m0 m1 m2 m3 a12 a13 a14 a15,col m0 m1 m2 m3 a13 a14 a15 a12,col m0 m1 m2 m3 a14 a15 a12 a13,col m0 m1 m2 m3 a15 a12 a13 a14]:=by kernel_rfl
theorem aDI (a:UInt8):0^^^a=a:=UInt8.zero_xor
set_option maxRecDepth 1000000 in
theorem aQA:(List.range 256).all (λi=>beq (aL (aL (UInt8.ofNat i) 2) 14^^^aL (aL (UInt8.ofNat i) 1) 11^^^aL (aL (UInt8.ofNat i) 1) 13^^^aL (aL (UInt8.ofNat i) 3) 9).toNat i)=true:=by kernel_rfl
theorem aLM (x:UInt8):aL (aL x 2) 14^^^aL (aL x 1) 11^^^aL (aL x 1) 13^^^aL (aL x 3) 9=x:=by
 have:=Nat.eq_of_beq_eq_true (List.all_eq_true.1 aQA x.toNat (List.mem_range.2 x.toNat_lt))
 rw[ofNat_toNat]at this
 exact UInt8.toNat_inj.1 this
set_option maxRecDepth 1000000 in
theorem aP9:(List.range 256).all (λi=>beq (aL (aL (UInt8.ofNat i) 3) 14^^^aL (aL (UInt8.ofNat i) 2) 11^^^aL (aL (UInt8.ofNat i) 1) 13^^^aL (aL (UInt8.ofNat i) 1) 9).toNat 0)=true:=by kernel_rfl
theorem aLL (x:UInt8):aL (aL x 3) 14^^^aL (aL x 2) 11^^^aL (aL x 1) 13^^^aL (aL x 1) 9=0:=by
 have:=Nat.eq_of_beq_eq_true (List.all_eq_true.1 aP9 x.toNat (List.mem_range.2 x.toNat_lt))
 rw[ofNat_toNat]at this
 exact UInt8.toNat_inj.1 this
set_option maxRecDepth 1000000 in
theorem aP8:(List.range 256).all (λi=>beq (aL (aL (UInt8.ofNat i) 1) 14^^^aL (aL (UInt8.ofNat i) 3) 11^^^aL (aL (UInt8.ofNat i) 2) 13^^^aL (aL (UInt8.ofNat i) 1) 9).toNat 0)=true:=by kernel_rfl
theorem aLK (x:UInt8):aL (aL x 1) 14^^^aL (aL x 3) 11^^^aL (aL x 2) 13^^^aL (aL x 1) 9=0:=by
 have:=Nat.eq_of_beq_eq_true (List.all_eq_true.1 aP8 x.toNat (List.mem_range.2 x.toNat_lt))
 rw[ofNat_toNat]at this
 exact UInt8.toNat_inj.1 this
set_option maxRecDepth 1000000 in
theorem aP7:(List.range 256).all (λi=>beq (aL (aL (UInt8.ofNat i) 1) 14^^^aL (aL (UInt8.ofNat i) 1) 11^^^aL (aL (UInt8.ofNat i) 3) 13^^^aL (aL (UInt8.ofNat i) 2) 9).toNat 0)=true:=by kernel_rfl
theorem aLJ (x:UInt8):aL (aL x 1) 14^^^aL (aL x 1) 11^^^aL (aL x 3) 13^^^aL (aL x 2) 9=0:=by
 have:=Nat.eq_of_beq_eq_true (List.all_eq_true.1 aP7 x.toNat (List.mem_range.2 x.toNat_lt))
 rw[ofNat_toNat]at this
 exact UInt8.toNat_inj.1 this
theorem aVG (x0 x1 x2 x3:UInt8):col 14 11 13 9 (col 2 3 1 1 x0 x1 x2 x3) (col 2 3 1 1 x1 x2 x3 x0) (col 2 3 1 1 x2 x3 x0 x1) (col 2 3 1 1 x3 x0 x1 x2)=x0:=by
 unfold col
 simp only[aDI,aED]
 have e:∀a b c d e f g h i j k l m n o p:UInt8,a^^^b^^^c^^^d^^^(e^^^f^^^g^^^h)^^^(i^^^j^^^k^^^l)^^^(m^^^n^^^o^^^p)=
   (a^^^h^^^k^^^n)^^^(b^^^e^^^l^^^o)^^^(c^^^f^^^i^^^p)^^^(d^^^g^^^j^^^m):=by intros;ac_rfl
 rw[e,aLM,aLL,aLK,aLJ,xor_zero,xor_zero,xor_zero]
theorem aTZ {b:List UInt8} (h:b.length=16):xV (xV b [2,3,1,1] 16) [14,11,13,9] 16=b:=by
 obtain⟨a0,a1,a2,a3,a4,a5,a6,a7,a8,a9,a10,a11,a12,a13,a14,a15,rfl⟩:=aK9 h
 rw[zi,zi]
 simp only[aVG]
theorem aJQ {ks b:List UInt8} (hk:ks.length=240) (hb:b.length=16) {r:Nat} (hr:r<=14):jq tabB (fM ks r (kj tabS ks r b)) 16=b:=by
 have hs:=fN tabS b 16
 have hkr:=be hk hr
 unfold fM kj
 split
 ·rw[yW hkr (dQ _ _ _),aTZ hs,uA hb]
 rw[yW hkr hs,uA hb]
theorem uD {ks b:List UInt8} (hk:ks.length=240) (hb:b.length=16):∀n,n<=14->js tabB ks (bQ tabS ks b 14) n=bQ tabS ks b (14-n)
 |0,_=>rfl
 |n+1,h=>by
  have ih:=uD hk hb n (by omega)
  simp only[js]
  rw[ih,show 14-n=(14-(n+1))+1 by omega]
  exact aJQ hk (iJ _ _ hb _) (by omega)
theorem wZ {ks b:List UInt8} (hk:ks.length=240) (hb:b.length=16):jr tabB ks (bQ tabS ks b 14)=b:=by
 unfold jr
 rw[uD hk hb 14 (le_refl _)]
 exact yW (be hk (zero_le _)) hb
theorem qn {ks b:List UInt8} (hb:b.length=16):(jr tabB ks b).length=16:=by
 unfold jr;rw[bL,oa _ _ hb]
def qL (text:List UInt8):UInt8:=UInt8.ofNat (16-text.length%16)
def qx (text:List UInt8) (k:Nat):UInt8:=if k<text.length then text.getD k 0 else qL text
def xKc (last text:List UInt8) (i:Nat):Nat->List UInt8
 |0=>last
 |j+1=>(xKc last text i j).set j ((xKc last text i j).getD j 0^^^qx text (16*i+j))
@[irreducible] def aJJ (key b:List UInt8):List UInt8:=bQ tabS (d0 key) b 14
theorem qN (key:List UInt8) {b:List UInt8} (hb:b.length=16):(aJJ key b).length=16:=by unfold aJJ;exact iJ tabS (d0 key) hb 14
def bK (key bg text:List UInt8):Nat->List UInt8×List UInt8
 |0=>(bg,[])
 |i+1=>let s:=bK key bg text i
  let l:=aJJ key (xKc s.1 text i 16)
  (l,s.2++l)
def bu (key bg text:List UInt8):List UInt8:=(bK key bg text (text.length/16+1)).2
theorem gL (last text:List UInt8) (i:Nat):∀j,(xKc last text i j).length=last.length
 |0=>rfl
 |j+1=>by simp only[xKc,length_set,gL last text i j]
theorem dD (key:List UInt8) {bg:List UInt8} (hb:bg.length=16) (text:List UInt8):∀i,(bK key bg text i).1.length=16
 |0=>hb
 |i+1=>by
  simp only[bK]
  exact qN key (by rw[gL];exact dD key hb text i)
theorem fC (key:List UInt8) {bg:List UInt8} (hb:bg.length=16) (text:List UInt8):∀i,(bK key bg text i).2.length=16*i
 |0=>rfl
 |i+1=>by
  have h1:=fC key hb text i
  have h2:=dD key hb text (i+1)
  have e:(bK key bg text (i+1)).2=(bK key bg text i).2++(bK key bg text (i+1)).1:=rfl
  rw[e,zlA,h1,h2]
  omega
theorem aXW (key b:List UInt8) (hk:key.length=32) (hb:b.length=16):
  Sx.Fn Γ.P 99 [.ptr 1000 0 none,.a8 b] [(1000,cK tabS tabB (d0 key))] (λv M=>v= .a8 (aJJ key b)/\M=[(1000,cK tabS tabB (d0 key))]):=by
 unfold aJJ
 exact aE0 tabS tabB (d0 key) b oh (lk 256) (dA hk) hb
theorem abD (key bg text:List UInt8) (n:Nat) (hk:key.length=32) (hb:bg.length=16) (hn:text.length=n) (hmax:n<=4096):
  Sx.Fn Γ.P 77 [.a8 key,.a8 bg,.slx 1000 0 0 n] [(1000,.mem false 0 [(n,.a8 text)])] (λv M=>∃c,n/16*16+16<=c/\v= .sl 1001 0 0 (n/16*16+16) c/\M=[(1000,.mem false 0 [(n,.a8 text)]),(1001,.mem true (c-(n/16*16+16)) [(n/16*16+16,.a8 (bu key bg text))])]):=by
 have hfill:qL text=UInt8.ofInt (16-(n:Int)%16):=by
  unfold qL
  rw[show(16-(n:Int)%16)=((16-text.length%16:Nat):Int) by omega,aNK]
 refine aG (Γ:=Γ) (fn:=Tryz.f77) rfl rfl rfl rfl ?_
 refine gB ?_
 refine aH.i [[],[0],[],[],[0,1,3],r_5] [0,2,3,1,4,5] (by kernel_rfl) ?_
 refine gB ?_
 refine Call.i (aZ2 key hk) [(1001,(1001,0,none))] rfl fc rfl trivial rfl ?_
 rintro _ _ ⟨rfl,rfl⟩
 refine cL.i [(1001,bi tabS tabB (d0 key))] rfl rfl ?_
 refine gB ?_
 refine aY.i (σ:=Nat×Nat) (λs=>s.1<=n/16+1/\16*s.1<=s.2)
  (λs=>([(2,.slx 1000 0 0 n),(7,.ptr 1001 0 none),(8,.ptr 8 0 none),(9,.sl 1005 0 0 (16*s.1) s.2),(10,.u8 (qL text)),(11,.i .i64 (16*s.1:Nat))],
   [(1000,.mem false 0 [(n,.a8 text)]),(8,.mem true 0 [(16,.a8 (bK key bg text s.1).1)]),(1001,bi tabS tabB (d0 key)),(1005,.mem true (s.2-16*s.1) [(16*s.1,.a8 (bK key bg text s.1).2)])])) (λs=>n/16+1-s.1) (0,n/16*16+16) ?_ ?_ ?_
 ·exact⟨zero_le _,zero_le _⟩
 ·refine Le.i [(1005,(22,0,none))] rfl fc rfl fc rfl
 rintro⟨i,c⟩ ⟨hi,hc⟩
 simp only at hi hc⊢
 have hl1:=dD key hb text i
 have hl2:=fC key hb text i
 refine zB.i ?_ ?_<;>intro h
 ·refine gB ?_
  refine aY.i (σ:=Nat) (λj=>j<=16)
   (λj=>([(7,.ptr 1001 0 none),(8,.ptr 8 0 none),(9,.sl 1005 0 0 (16*i) c),(10,.u8 (qL text)),(11,.i .i64 (16*i:Nat)),(2,.slx 1000 0 0 n),(12,.slx 1000 0 (16*i) (min 16 (n-16*i))),(44,.i .i64 j)],
    [(1000,.mem false 0 [(n,.a8 text)]),(8,.mem true 0 [(16,.a8 (xKc (bK key bg text i).1 text i j))]),(1001,bi tabS tabB (d0 key)),(1005,.mem true (c-16*i) [(16*i,.a8 (bK key bg text i).2)])])) (λj=>16-j) 0 (zero_le _) ?_ ?_
  ·have e1:min 16 (n-16*i)=(if(n:Int)<↑(16*i)+16 then(n:Int)else↑(16*i)+16).toNat-(↑(16*i):Int).toNat:=by split <;>omega
   exact Le.i [] rfl fc rfl fc rfl
  rintro j hj
  simp only at hj⊢
  have hxl:(xKc (bK key bg text i).1 text i j).length=16:=by rw[gL,hl1]
  refine zB.i ?_ ?_<;>intro h2
  ·refine gB ?_
   refine zB.i ?_ ?_<;>intro h3
   ·refine aH.i [[],[0],[0,1],[],[],[3,4],[3,4,5],r_7,r_8,r_9] ek (by kernel_rfl) ?_
    refine gB ?_
    have e:xKc (bK key bg text i).1 text i (j+1)=(xKc (bK key bg text i).1 text i j).set j ((xKc (bK key bg text i).1 text i j).getD j 0^^^text.getD (fL (16*i) j) 0):=by
     simp only[xKc,qx,zQ];rw[if_pos (by omega)]
    exact⟨j+1,by omega,by omega,Le.i [] rfl fc rfl fc rfl⟩
   refine gB ?_
   have e:xKc (bK key bg text i).1 text i (j+1)=(xKc (bK key bg text i).1 text i j).set j ((xKc (bK key bg text i).1 text i j).getD j 0^^^qL text):=by
    simp only[xKc,qx];rw[if_neg (by omega)]
   exact⟨j+1,by omega,by omega,Le.i [] rfl fc rfl fc rfl⟩
  obtain rfl:j=16:=by omega
  refine gB ?_
  have hel:=qN key hxl
  have hkl:=dA hk
  refine Call.i (aXW key _ hk hxl) [(1000,(1001,0,none))] rfl fc rfl fc rfl ?_
  rintro _ _ ⟨rfl,rfl⟩
  refine gB ?_
  refineλc' hc'=>?_
  refine gB ?_
  have hc2:16*(i+1)<=c':=hc'
  refine⟨(i+1,c'),⟨by simp only;omega,hc2⟩,by simp only;omega,Le.i [(1005,(72,0,none))] rfl ?_ rfl ?_ rfl⟩
  ·exact fc
  have e1:(bK key bg text (i+1)).1=aJJ key (xKc (bK key bg text i).1 text i 16):=rfl
  have e2:(bK key bg text (i+1)).2=kR 0 (bK key bg text i).2++take 16 (drop ((none:Option Nat).getD 0) (aJJ key (xKc (bK key bg text i).1 text i 16))):=by
   rw[Option.getD_none,List.drop_zero,List.take_of_length_le (by rw[hel];exact le_refl _)];rfl
  exact fc
 obtain rfl:i=n/16+1:=by omega
 refine Ret.i (.sl 1001 0 0 (n/16*16+16) c) [(1000,.mem false 0 [(n,.a8 text)]),(1001,.mem true (c-(n/16*16+16)) [(n/16*16+16,.a8 (bu key bg text))])] [(1001,(1005,0,none))] rfl ?_ ⟨c,by omega,rfl,rfl⟩ rfl ?_ rfl ?_ rfl
 ·exact fc
 ·exact fc
 have e:bu key bg text=(bK key bg text (n/16+1)).2:=by unfold bu;rw[hn]
 exact fc
@[irreducible] def yC (key b:List UInt8):List UInt8:=jr tabB (d0 key) b
theorem yB (key:List UInt8) {b:List UInt8} (hb:b.length=16):(yC key b).length=16:=by unfold yC;exact qn hb
theorem aO2 (key b:List UInt8) (hk:key.length=32) (hb:b.length=16):
  Sx.Fn Γ.P 100 [.ptr 1000 0 none,.a8 b] [(1000,cK tabS tabB (d0 key))] (λv M=>v= .a8 (yC key b)/\M=[(1000,cK tabS tabB (d0 key))]):=by
 unfold yC
 exact aBY tabS tabB (d0 key) b (dA hk) hb
def fW (b:List UInt8) (i:Nat):List UInt8:=(b.drop (16*i)).take 16
def aFM (out x bg:List UInt8):Nat->List UInt8
 |0=>out
 |j+1=>aFM out x bg j++[x.getD j 0^^^bg.getD j 0]
def unC (key bg b:List UInt8):Nat->List UInt8×List UInt8
 |0=>(bg,[])
 |i+1=>let s:=unC key bg b i
  (fW b i,aFM s.2 (yC key (fW b i)) s.1 16)
def iV (key bg b:List UInt8):List UInt8:=(unC key bg b (b.length/16)).2
def aa (key bg b:List UInt8):Nat:=((iV key bg b).getD (b.length-1) 0).toNat
def bl (key bg b:List UInt8):Option (List UInt8):=
 if b.length=0\/¬b.length%16=0 then none
 else if aa key bg b<1\/16<aa key bg b then none
 else if∀k,k<aa key bg b->((iV key bg b).getD (b.length-aa key bg b+k) 0).toNat=aa key bg b then some ((iV key bg b).take (b.length-aa key bg b))
 else none
theorem j7 (out x bg:List UInt8):∀j,(aFM out x bg j).length=out.length+j
 |0=>rfl
 |j+1=>by simp only[aFM,zlA,j7 out x bg j,List.length_cons,List.length_nil];omega
theorem jD {b:List UInt8} {i:Nat} (h:16*i+16<=b.length):(fW b i).length=16:=by
 simp only[fW,zlT,zlD];omega
theorem wb (key:List UInt8) {bg:List UInt8} (hb:bg.length=16) (b:List UInt8):∀i,16*i<=b.length->(unC key bg b i).1.length=16
 |0,_=>hb
 |i+1,h=>by
  simp only[unC]
  exact jD (by omega)
theorem ob (key:List UInt8) {bg:List UInt8} (hb:bg.length=16) (b:List UInt8):∀i,(unC key bg b i).2.length=16*i
 |0=>rfl
 |i+1=>by
  have h1:=ob key hb b i
  simp only[unC,j7,h1]
  omega
theorem aVN {b:List UInt8} {i:Nat} (h:16*i+16<=b.length):fW b i=
  take ((none:Option Nat).getD 0) (replicate 16 0)++
   take (min (take ((((16*i:Nat):Int)+16).toNat-((16*i:Nat):Int).toNat) (drop (((16*i:Nat):Int).toNat*1+0) b)).length 16)
    (take ((((16*i:Nat):Int)+16).toNat-((16*i:Nat):Int).toNat) (drop (((16*i:Nat):Int).toNat*1+0) b))++
   drop ((none:Option Nat).getD 0+min (take ((((16*i:Nat):Int)+16).toNat-((16*i:Nat):Int).toNat) (drop (((16*i:Nat):Int).toNat*1+0) b)).length 16) (replicate 16 0):=by
 rw[show(((16*i:Nat):Int)+16).toNat-((16*i:Nat):Int).toNat=16 by omega,show((16*i:Nat):Int).toNat*1+0=16*i by omega]
 have hl:=jD h
 show fW b i=_++take (min (fW b i).length 16) (fW b i)++drop (_+min (fW b i).length 16) _
 rw[hl,List.take_of_length_le (l:=fW b i) (by omega)]
 simp
def aD2 (key bg b:List UInt8) (n:Nat) (v:SV) (M:Mm):Prop:=
 (bl key bg b=none/\v= .tup [.nsl,.ff]/\M=[(1000,.mem false 0 [(n,.a8 b)])])\/
 ∃m s sp,bl key bg b=some s/\s.length=m/\(iV key bg b).take m=s/\m<=n/\(iV key bg b).length=n/\v= .tup [.sl 1001 0 0 m m,.tt]/\M=[(1000,.mem false 0 [(n,.a8 b)]),(1001,.mem true sp [(n,.a8 (iV key bg b))])]
theorem acH (key bg b:List UInt8) (n:Nat) (hk:key.length=32) (hb:bg.length=16) (hn:b.length=n) (hmax:n<=8192):
  Sx.Fn Γ.P 79 [.a8 key,.a8 bg,.slx 1000 0 0 n] [(1000,.mem false 0 [(n,.a8 b)])] (aD2 key bg b n):=by
 have bad:bl key bg b=none->aD2 key bg b n (.tup [.nsl,.ff]) [(1000,.mem false 0 [(n,.a8 b)])]:=λh=>Or.inl ⟨h,rfl,rfl⟩
 refine aG (Γ:=Γ) (fn:=Tryz.f79) rfl rfl rfl rfl ?_
 refine gB ?_
 refine zB.i ?_ ?_<;>intro h0
 ·refine Ret.i (.tup [.nsl,.ff]) [(1000,.mem false 0 [(n,.a8 b)])] [] rfl trivial (bad ?_) rfl fc rfl fc rfl
  unfold bl;rw[if_pos (by omega)]
 refine gB ?_
 refine zB.i ?_ ?_<;>intro h1
 ·refine Ret.i (.tup [.nsl,.ff]) [(1000,.mem false 0 [(n,.a8 b)])] [] rfl trivial (bad ?_) rfl fc rfl fc rfl
  unfold bl;rw[if_pos (by omega)]
 refine gB ?_
 refine Call.i (aZ2 key hk) [(1001,(1001,0,none))] rfl fc rfl trivial rfl ?_
 rintro _ _ ⟨rfl,rfl⟩
 refine gB ?_
 have hkl:=dA hk
 refine aY.i (σ:=Nat×Nat) (λs=>16*s.1<=n/\16*s.1<=s.2)
  (λs=>([(2,.slx 1000 0 0 n),(4,.ptr 4 0 none),(8,.ptr 1001 0 none),(9,.sl 1005 0 0 (16*s.1) s.2),(10,.i .i64 (16*s.1:Nat))],
   [(1000,.mem false 0 [(n,.a8 b)]),(4,.mem true 0 [(16,.a8 (unC key bg b s.1).1)]),(1001,bi tabS tabB (d0 key)),(1005,.mem true (s.2-16*s.1) [(16*s.1,.a8 (unC key bg b s.1).2)])])) (λs=>n-16*s.1) (0,n) ?_ ?_ ?_
 ·exact⟨zero_le _,zero_le _⟩
 ·exact Le.i [(1005,(31,0,none))] rfl fc rfl fc rfl
 rintro⟨i,c⟩ ⟨hi,hc⟩
 simp only at hi hc⊢
 have hl1:=wb key hb b i (by omega)
 have hl2:=ob key hb b i
 refine zB.i ?_ ?_<;>intro h
 ·refine gB ?_
  refine aH.i [[],[],[],[],[3],[],[5],[1,2,3,4,5,6],r_8] r_9 (by kernel_rfl) ?_
  refine gB ?_
  have h16:16*i+16<=b.length:=by omega
  have hbk:=jD h16
  have hbe:=aVN h16
  refine Call.i (aO2 key (fW b i) hk hbk) [(1000,(1001,0,none))] rfl fc rfl fc rfl ?_
  rintro _ _ ⟨rfl,rfl⟩
  have hdl:=yB key hbk
  refine gB ?_
  refine aY.i (σ:=Nat×Nat) (λs=>s.1<=16/\16*i+s.1<=s.2)
   (λs=>([(2,.slx 1000 0 0 n),(4,.ptr 4 0 none),(8,.ptr 1001 0 none),(10,.i .i64 (16*i:Nat)),(11,.ptr 11 0 none),(12,.ptr 12 0 none),(50,.i .i64 s.1),(9,.sl 1006 0 0 (16*i+s.1) s.2)],
    [(1000,.mem false 0 [(n,.a8 b)]),(4,.mem true 0 [(16,.a8 (unC key bg b i).1)]),(11,.mem true 0 [(16,.a8 (fW b i))]),(12,.mem true 0 [(16,.a8 (yC key (fW b i)))]),(1001,bi tabS tabB (d0 key)),
     (1006,.mem true (s.2-(16*i+s.1)) [(16*i+s.1,.a8 (aFM (unC key bg b i).2 (yC key (fW b i)) (unC key bg b i).1 s.1))])])) (λs=>16-s.1) (0,c) ?_ ?_ ?_
  ·exact⟨zero_le _,hc⟩
  ·have e0:aFM (unC key bg b i).2 (yC key (fW b i)) (unC key bg b i).1 0=(unC key bg b i).2:=rfl
   exact Le.i [(1006,(1005,0,none))] rfl fc rfl fc rfl
  rintro⟨j,c1⟩ ⟨hj,hc1⟩
  simp only at hj hc1⊢
  have hol:=j7 (unC key bg b i).2 (yC key (fW b i)) (unC key bg b i).1 j
  refine zB.i ?_ ?_<;>intro h2
  ·refine gB ?_
   refine aH.i [[],[],[1],[1,2],[],[4],[4,5],[1,2,3,4,5,6],[1,2,3,4,5,6,7],r_9,ek] fe (by kernel_rfl) ?_
   refine gB ?_
   refineλc' hc'=>?_
   refine gB ?_
   have hc2:16*i+(j+1)<=c':=hc'
   refine⟨(j+1,c'),⟨by simp only;omega,hc2⟩,by simp only;omega,Le.i [(1006,(62,0,none))] rfl fc rfl ?_ rfl⟩
   have e:aFM (unC key bg b i).2 (yC key (fW b i)) (unC key bg b i).1 (j+1)=kR 0 (aFM (unC key bg b i).2 (yC key (fW b i)) (unC key bg b i).1 j)++take 1 (drop 0 (((yC key (fW b i)).getD j 0^^^(unC key bg b i).1.getD j 0)::replicate 0 0)):=rfl
   exact fc
  obtain rfl:j=16:=by omega
  refine gB ?_
  have hc2:16*(i+1)<=c1:=by omega
  refine⟨(i+1,c1),⟨by simp only;omega,hc2⟩,by simp only;omega,Le.i [(1005,(1006,0,none))] rfl fc rfl ?_ rfl⟩
  have e1:(unC key bg b (i+1)).1=fW b i:=rfl
  have e2:(unC key bg b (i+1)).2=aFM (unC key bg b i).2 (yC key (fW b i)) (unC key bg b i).1 16:=rfl
  exact fc
 have hin:n=16*i:=by omega
 have hout:iV key bg b=(unC key bg b i).2:=by unfold iV;rw[show b.length/16=i by omega]
 have heF:((aa key bg b:Nat):Int)=(((unC key bg b i).2.getD (0+(((16*i:Nat):Int)-1).toNat) 0).toNat:Int):=by
  unfold aa;rw[hout,show b.length-1=0+(((16*i:Nat):Int)-1).toNat by omega]
 have hc0:¬(b.length=0\/¬b.length%16=0):=by omega
 have no2:aa key bg b<1\/16<aa key bg b->bl key bg b=none:=λh=>by
  unfold bl;rw[if_neg hc0,if_pos h]
 refine gB ?_
 refine zB.i ?_ ?_<;>intro hf1
 ·have hf2:((aa key bg b:Nat):Int)<1:=by rw[heF,zero_add];exact hf1
  refine Ret.i (.tup [.nsl,.ff]) [(1000,.mem false 0 [(n,.a8 b)])] [] rfl trivial (bad (no2 (by omega))) rfl fc rfl fc rfl
 have hf2:¬((aa key bg b:Nat):Int)<1:=by rw[heF,zero_add];exact hf1
 refine zB.i ?_ ?_<;>intro hg1
 ·have hg2:16<((aa key bg b:Nat):Int):=by rw[heF,zero_add];exact hg1
  refine Ret.i (.tup [.nsl,.ff]) [(1000,.mem false 0 [(n,.a8 b)])] [] rfl trivial (bad (no2 (by omega))) rfl fc rfl fc rfl
 have hg2:¬16<((aa key bg b:Nat):Int):=by rw[heF,zero_add];exact hg1
 have hc1:¬(aa key bg b<1\/16<aa key bg b):=by omega
 have hi1:1<=i:=by omega
 refine gB ?_
 refine aY.i (σ:=Nat) (λk=>k<=aa key bg b/\∀k',k'<k->((iV key bg b).getD (n-aa key bg b+k') 0).toNat=aa key bg b)
  (λk=>([(9,.sl 1005 0 0 n c),(14,.i .i64 (aa key bg b:Nat)),(83,.sl 1005 0 (n-aa key bg b) (aa key bg b) (c-(n-aa key bg b))),(84,.i .i64 (aa key bg b:Nat)),(85,.i .i64 k)],
   [(1000,.mem false 0 [(n,.a8 b)]),(1005,.mem true (c-n) [(n,.a8 (iV key bg b))])])) (λk=>aa key bg b-k) 0 ?_ ?_ ?_
 ·exact⟨zero_le _,λ_ h=>absurd h (Nat.not_lt_zero _)⟩
 ·exact Le.i [] rfl fc rfl fc rfl
 rintro k ⟨hk1,hk2⟩
 have hol:(iV key bg b).length=n:=by rw[hout,hl2];omega
 refine zB.i ?_ ?_<;>intro h2
 ·refine gB ?_
  refine zB.i ?_ ?_<;>intro h3
  ·have h3':¬(((iV key bg b).getD (n-aa key bg b+k) 0).toNat:Int)=(aa key bg b:Int):=by
    rw[<-zQ];exact h3
   refine Ret.i (.tup [.nsl,.ff]) [(1000,.mem false 0 [(n,.a8 b)])] [] rfl trivial (bad ?_) rfl fc rfl fc rfl
   unfold bl
   rw[if_neg hc0,if_neg hc1,if_neg]
   intro hall
   have:=hall k (by omega)
   rw[hn]at this
   exact h3' (by omega)
  have h3':¬¬(((iV key bg b).getD (n-aa key bg b+k) 0).toNat:Int)=(aa key bg b:Int):=by
   rw[<-zQ];exact h3
  refine gB ?_
  refine⟨k+1,⟨by omega,λk' hk'=>?_⟩,by omega,Le.i [] rfl fc rfl fc rfl⟩
  by_cases he:k'=k
  ·subst he;omega
  exact hk2 k' (by omega)
 have hkF:k=aa key bg b:=by omega
 subst hkF
 refine gB ?_
 refine Ret.i (.tup [.sl 1001 0 0 (n-aa key bg b) (n-aa key bg b),.tt]) [(1000,.mem false 0 [(n,.a8 b)]),(1001,.mem true (c-n) [(n,.a8 (iV key bg b))])] [(1001,(1005,0,none))] rfl trivial (Or.inr ⟨n-aa key bg b,(iV key bg b).take (n-aa key bg b),c-n,?_,by rw[zlT,hol];omega,rfl,by omega,hol,rfl,rfl⟩) rfl fc rfl fc rfl
 unfold bl
 rw[if_neg hc0,if_neg hc1,if_pos,hn]
 rw[hn]
 exact hk2
theorem aIB {key b:List UInt8} (hk:key.length=32) (hb:b.length=16):yC key (aJJ key b)=b:=by
 unfold yC aJJ;exact wZ (dA hk) hb
def fS (text:List UInt8) (m:Nat):List UInt8:=(List.range m).map (qx text)
theorem uk (text:List UInt8) (m:Nat):fS text (m+1)=fS text m++[qx text m]:=by simp[fS,List.range_succ]
theorem pM (text:List UInt8) {m k:Nat} (h:k<m):(fS text m).getD k 0=qx text k:=by
 simp[fS,List.getD_eq_getElem?_getD,List.getElem?_range h]
theorem aDN {last:List UInt8} (hl:last.length=16) (text:List UInt8) (i:Nat):∀(m j:Nat),j<16->m<=16->
  (xKc last text i m).getD j 0=if j<m then last.getD j 0^^^qx text (16*i+j)else last.getD j 0
 |0,j,_,_=>by rw[if_neg (by omega)];rfl
 |m+1,j,hj,hm=>by
  have ih:=aDN hl text i m
  have hlen:(xKc last text i m).length=16:=by rw[gL,hl]
  simp only[xKc]
  rw[List.getD_eq_getElem?_getD,List.getElem?_set]
  by_cases h:m=j
  ·subst h
   rw[if_pos rfl,if_pos (by omega),if_pos (by omega),getD_some,ih m hj (by omega),if_neg (by omega)]
  rw[if_neg h,<-List.getD_eq_getElem?_getD,ih j hj (by omega)]
  by_cases h2:j<m
  ·rw[if_pos h2,if_pos (by omega)]
  rw[if_neg h2,if_neg (by omega)]
theorem aJK (a b:UInt8):a^^^b^^^a=b:=by
 rw[show a^^^b^^^a=b^^^(a^^^a) by ac_rfl,xor_self,xor_zero]
theorem zS {last:List UInt8} (hl:last.length=16) (text:List UInt8) (i:Nat):∀j,j<=16->aFM (fS text (16*i)) (xKc last text i 16) last j=fS text (16*i+j)
 |0,_=>rfl
 |j+1,h=>by
  simp only[aFM]
  rw[zS hl text i j (by omega),aDN hl text i 16 j (by omega) (le_refl _),if_pos (by omega),aJK,<-uk]
  rfl
theorem sF (key bg text:List UInt8):∀(d k:Nat),∃r,(bK key bg text (k+d)).2=(bK key bg text k).2++r
 |0,k=>⟨[],by simp⟩
 |d+1,k=>by
  obtain⟨r,hr⟩:=sF key bg text d k
  refine⟨r++(bK key bg text (k+d+1)).1,?_⟩
  have e:(bK key bg text (k+(d+1))).2=(bK key bg text (k+d)).2++(bK key bg text (k+d+1)).1:=rfl
  rw[e,hr,List.append_assoc]
theorem aCR {key bg:List UInt8} (hb:bg.length=16) (text:List UInt8) {i L:Nat} (h:i<L):fW (bK key bg text L).2 i=(bK key bg text (i+1)).1:=by
 obtain⟨r,hr⟩:=sF key bg text (L-(i+1)) (i+1)
 rw[show i+1+(L-(i+1))=L by omega]at hr
 have e:(bK key bg text (i+1)).2=(bK key bg text i).2++(bK key bg text (i+1)).1:=rfl
 have h1:=dD key hb text (i+1)
 have h2:=fC key hb text i
 unfold fW
 rw[hr,e,List.append_assoc,<-h2,List.drop_left,<-h1,List.take_left]
theorem yf {key bg:List UInt8} (hk:key.length=32) (hb:bg.length=16) (text:List UInt8) {L:Nat}:∀i,i<=L->
  unC key bg (bK key bg text L).2 i=((bK key bg text i).1,fS text (16*i))
 |0,_=>rfl
 |i+1,h=>by
  have ih:=yf hk hb text (L:=L) i (by omega)
  have hl:=dD key hb text i
  simp only[unC,ih]
  rw[aCR hb text (by omega)]
  have e:(bK key bg text (i+1)).1=aJJ key (xKc (bK key bg text i).1 text i 16):=rfl
  rw[e,aIB hk (by rw[gL,hl]),zS hl text i 16 (le_refl _)]
  rfl
theorem jm (key:List UInt8) {bg:List UInt8} (hb:bg.length=16) (text:List UInt8):(bu key bg text).length=16*(text.length/16+1):=fC key hb text _
theorem aKP (text:List UInt8) {m:Nat} (h:text.length<=m):(fS text m).take text.length=text:=by
 apply List.ext_getElem?
 intro k
 rw[List.getElem?_take]
 by_cases hk:k<text.length
 ·rw[if_pos hk]
  simp only[fS,List.getElem?_map,List.getElem?_range (show k<m by omega),Option.map_some,qx,if_pos hk,List.getElem?_eq_getElem hk,List.getD_eq_getElem?_getD,getD_some]
 rw[if_neg hk,List.getElem?_eq_none (by omega)]
theorem aMJ {key bg:List UInt8} (hk:key.length=32) (hb:bg.length=16) (text:List UInt8):bl key bg (bu key bg text)=some text:=by
 have hlen:=jm key hb text
 have hout:iV key bg (bu key bg text)=fS text (16*(text.length/16+1)):=by
  unfold iV
  rw[hlen,show 16*(text.length/16+1)/16=text.length/16+1 by omega]
  unfold bu
  rw[yf hk hb text _ (le_refl _)]
 have hpad:∀k,text.length<=k->(qx text k).toNat=16-text.length%16:=λk h=>by
  unfold qx qL
  rw[if_neg (by omega),toNat_ofNat']
  omega
 have hfill:aa key bg (bu key bg text)=16-text.length%16:=by
  unfold aa
  rw[hout,hlen,pM _ (by omega),hpad _ (by omega)]
 unfold bl
 rw[if_neg (by omega),if_neg (by omega),if_pos,hout,hlen,hfill,show 16*(text.length/16+1)-(16-text.length%16)=text.length by omega,aKP _ (by omega)]
 intro k hk'
 rw[hfill]at hk'⊢
 rw[hout,hlen,pM _ (by omega),hpad _ (by omega)]
abbrev kq0:List UInt32:=[UInt32.ofNat 1116352408,UInt32.ofNat 1899447441,UInt32.ofNat 3049323471,UInt32.ofNat 3921009573,UInt32.ofNat 961987163,UInt32.ofNat 1508970993,UInt32.ofNat 2453635748,UInt32.ofNat 2870763221,UInt32.ofNat 3624381080,UInt32.ofNat 310598401,UInt32.ofNat 607225278,UInt32.ofNat 1426881987,UInt32.ofNat 1925078388,UInt32.ofNat 2162078206,UInt32.ofNat 2614888103,UInt32.ofNat 3248222580,UInt32.ofNat 3835390401,UInt32.ofNat 4022224774,UInt32.ofNat 264347078,UInt32.ofNat 604807628,UInt32.ofNat 770255983,UInt32.ofNat 1249150122,UInt32.ofNat 1555081692,UInt32.ofNat 1996064986,UInt32.ofNat 2554220882,UInt32.ofNat 2821834349,UInt32.ofNat 2952996808,UInt32.ofNat 3210313671,UInt32.ofNat 3336571891,UInt32.ofNat 3584528711,UInt32.ofNat 113926993,UInt32.ofNat 338241895,UInt32.ofNat 666307205,UInt32.ofNat 773529912,UInt32.ofNat 1294757372,UInt32.ofNat 1396182291,UInt32.ofNat 1695183700,UInt32.ofNat 1986661051,UInt32.ofNat 2177026350,UInt32.ofNat 2456956037,UInt32.ofNat 2730485921,UInt32.ofNat 2820302411,UInt32.ofNat 3259730800,UInt32.ofNat 3345764771,UInt32.ofNat 3516065817,UInt32.ofNat 3600352804,UInt32.ofNat 4094571909,UInt32.ofNat 275423344,UInt32.ofNat 430227734,UInt32.ofNat 506948616,UInt32.ofNat 659060556,UInt32.ofNat 883997877,UInt32.ofNat 958139571,UInt32.ofNat 1322822218,UInt32.ofNat 1537002063,UInt32.ofNat 1747873779,UInt32.ofNat 1955562222,UInt32.ofNat 2024104815,UInt32.ofNat 2227730452,UInt32.ofNat 2361852424,UInt32.ofNat 2428436474,UInt32.ofNat 2756734187,UInt32.ofNat 3204031479,UInt32.ofNat 3329325298]
@[irreducible] def K32:List UInt32:=kq0
theorem aOQ:K32=kq0:=by unfold K32;rfl
theorem aDC:K32.length=64:=by rw[aOQ];rfl
abbrev kq1:List UInt64:=[ofNat 4794697086780616226,ofNat 8158064640168781261,ofNat 13096744586834688815,ofNat 16840607885511220156,ofNat 4131703408338449720,ofNat 6480981068601479193,ofNat 10538285296894168987,ofNat 12329834152419229976,ofNat 15566598209576043074,ofNat 1334009975649890238,ofNat 2608012711638119052,ofNat 6128411473006802146,ofNat 8268148722764581231,ofNat 9286055187155687089,ofNat 11230858885718282805,ofNat 13951009754708518548,ofNat 16472876342353939154,ofNat 17275323862435702243,ofNat 1135362057144423861,ofNat 2597628984639134821,ofNat 3308224258029322869,ofNat 5365058923640841347,ofNat 6679025012923562964,ofNat 8573033837759648693,ofNat 10970295158949994411,ofNat 12119686244451234320,ofNat 12683024718118986047,ofNat 13788192230050041572,ofNat 14330467153632333762,ofNat 15395433587784984357,ofNat 489312712824947311,ofNat 1452737877330783856,ofNat 2861767655752347644,ofNat 3322285676063803686,ofNat 5560940570517711597,ofNat 5996557281743188959,ofNat 7280758554555802590,ofNat 8532644243296465576,ofNat 9350256976987008742,ofNat 10552545826968843579,ofNat 11727347734174303076,ofNat 12113106623233404929,ofNat 14000437183269869457,ofNat 14369950271660146224,ofNat 15101387698204529176,ofNat 15463397548674623760,ofNat 17586052441742319658,ofNat 1182934255886127544,ofNat 1847814050463011016,ofNat 2177327727835720531,ofNat 2830643537854262169,ofNat 3796741975233480872,ofNat 4115178125766777443,ofNat 5681478168544905931,ofNat 6601373596472566643,ofNat 7507060721942968483,ofNat 8399075790359081724,ofNat 8693463985226723168,ofNat 9568029438360202098,ofNat 10144078919501101548,ofNat 10430055236837252648,ofNat 11840083180663258601,ofNat 13761210420658862357,ofNat 14299343276471374635,ofNat 14566680578165727644,ofNat 15097957966210449927,ofNat 16922976911328602910,ofNat 17689382322260857208,ofNat 500013540394364858,ofNat 748580250866718886,ofNat 1242879168328830382,ofNat 1977374033974150939,ofNat 2944078676154940804,ofNat 3659926193048069267,ofNat 4368137639120453308,ofNat 4836135668995329356,ofNat 5532061633213252278,ofNat 6448918945643986474,ofNat 6902733635092675308,ofNat 7801388544844847127]
@[irreducible] def K64:List UInt64:=kq1
theorem aI7:K64=kq1:=by unfold K64;rfl
theorem aDB:K64.length=80:=by rw[aI7];rfl
def aBO (x:UInt32) (n:Nat):UInt32:=uM x (32-n)|||uL x n
def rT (x:UInt64) (n:Nat):UInt64:=aQ x (64-n)|||aF x n
theorem aZA:∀n:Nat,n<32->0<n->(ofInt (-(n:Int))&&&31).toNat=32-n/\((32:UInt64)-(ofInt (-(n:Int))&&&31)).toNat=n:=by decide
theorem aY9:∀n:Nat,n<64->0<n->(ofInt (-(n:Int))&&&63).toNat=64-n/\((64:UInt64)-(ofInt (-(n:Int))&&&63)).toNat=n:=by decide
theorem aRD (x:UInt32) (n:Nat) (h:n<32) (h0:0<n):Sx.Fn Γ.P 108 [.u32 x,.i .i64 (-(n:Int))] [] (λv _=>v= .u32 (aBO x n)):=by
 refine aG (Γ:=Γ) (fn:=Tryz.f108) rfl rfl rfl rfl ?_
 refine Ret.i (.u32 (aBO x n)) [] [] rfl trivial rfl rfl ?_ rfl trivial rfl
 obtain⟨e1,e2⟩:=aZA n h h0
 show aBO x n=uM x (ofInt (-(n:Int))&&&31).toNat|||uL x ((32:UInt64)-(ofInt (-(n:Int))&&&31)).toNat
 rw[e1,e2];rfl
theorem ip (x:UInt64) (n:Nat) (h:n<64) (h0:0<n):Sx.Fn Γ.P 105 [.u64 x,.i .i64 (-(n:Int))] [] (λv _=>v= .u64 (rT x n)):=by
 refine aG (Γ:=Γ) (fn:=Tryz.f105) rfl rfl rfl rfl ?_
 refine Ret.i (.u64 (rT x n)) [] [] rfl trivial rfl rfl ?_ rfl trivial rfl
 obtain⟨e1,e2⟩:=aY9 n h h0
 show rT x n=aQ x (ofInt (-(n:Int))&&&63).toNat|||aF x ((64:UInt64)-(ofInt (-(n:Int))&&&63)).toNat
 rw[e1,e2];rfl
def aOY (b:List UInt8):Nat->List UInt32
 |0=>replicate 64 0
 |i+1=>(aOY b i).set i (uM (b.getD (4*i) 0).toUInt32 24|||uM (b.getD (4*i+1) 0).toUInt32 16|||uM (b.getD (4*i+2) 0).toUInt32 8|||(b.getD (4*i+3) 0).toUInt32)
def aZO (w:List UInt32) (i:Nat):UInt32:=
 w.getD (i-16) 0+w.getD (i-7) 0+(aBO (w.getD (i-15) 0) 7^^^aBO (w.getD (i-15) 0) 18^^^uL (w.getD (i-15) 0) 3)+(aBO (w.getD (i-2) 0) 17^^^aBO (w.getD (i-2) 0) 19^^^uL (w.getD (i-2) 0) 10)
def aA3 (w:List UInt32):Nat->List UInt32
 |0=>w
 |k+1=>(aA3 w k).set (16+k) (aZO (aA3 w k) (16+k))
def aTJ (v:List UInt32) (k w:UInt32):UInt32:=
 v.getD 7 0+(aBO (v.getD 4 0) 6^^^aBO (v.getD 4 0) 11^^^aBO (v.getD 4 0) 25)+(v.getD 4 0&&&v.getD 5 0^^^ ~~~(v.getD 4 0)&&&v.getD 6 0)+k+w
def aWQ (v:List UInt32):UInt32:=
 (aBO (v.getD 0 0) 2^^^aBO (v.getD 0 0) 13^^^aBO (v.getD 0 0) 22)+(v.getD 0 0&&&v.getD 1 0^^^v.getD 0 0&&&v.getD 2 0^^^v.getD 1 0&&&v.getD 2 0)
def aZQ (v:List UInt32) (k w:UInt32):List UInt32:=
 [aTJ v k w+aWQ v,v.getD 0 0,v.getD 1 0,v.getD 2 0,v.getD 3 0+aTJ v k w,v.getD 4 0,v.getD 5 0,v.getD 6 0]
def mV (w v:List UInt32):Nat->List UInt32
 |0=>v
 |i+1=>aZQ (mV w v i) (K32.getD i 0) (w.getD i 0)
def aLG (h v:List UInt32):Nat->List UInt32
 |0=>h
 |i+1=>(aLG h v i).set i ((aLG h v i).getD i 0+v.getD i 0)
def aDU (b:List UInt8):List UInt32:=aA3 (aOY b 16) 48
def yL (h:List UInt32) (b:List UInt8):List UInt32:=aLG h (mV (aDU b) h 64) 8
theorem oV (b:List UInt8):∀i,(aOY b i).length=64
 |0=>length_replicate
 |i+1=>by simp only[aOY,length_set,oV b i]
theorem oY {w:List UInt32} (h:w.length=64):∀i,(aA3 w i).length=64
 |0=>h
 |i+1=>by simp only[aA3,length_set,oY h i]
theorem uc {w v:List UInt32} (h:v.length=8):∀i,(mV w v i).length=8
 |0=>h
 |i+1=>rfl
theorem kO {h v:List UInt32} (hh:h.length=8):∀i,(aLG h v i).length=8
 |0=>hh
 |i+1=>by simp only[aLG,length_set,kO hh i]
theorem vn {h:List UInt32} (hh:h.length=8) (b:List UInt8):(yL h b).length=8:=kO hh 8
theorem aa7 (h:List UInt32) (b:List UInt8) (hh:h.length=8) (hb:b.length=64):Sx.Fn Γ.P 93 [.ptr 1000 0 none,.slx 1001 0 0 64] [(1000,.mem true 0 [(8,.a32 h)]),(1001,.mem false 0 [(64,.a8 b)])]
  (λv M=>v= .tup []/\M=[(1000,.mem true 0 [(8,.a32 (yL h b))]),(1001,.mem false 0 [(64,.a8 b)])]):=by
 have hK:=aOQ
 have hKl:=aDC
 refine aG (Γ:=Γ) (fn:=Tryz.f93) rfl rfl rfl rfl ?_
 refine gB ?_
 refine aY.i (σ:=Nat) (λi=>i<=16)
  (λi=>([(0,.ptr 1000 0 none),(1,.slx 1001 0 0 64),(4,.ptr 4 0 none),(5,.ptr 5 0 none),(18,.i .i64 i)],
   [(1000,.mem true 0 [(8,.a32 h)]),(1001,.mem false 0 [(64,.a8 b)]),(4,.mem true 0 [(64,.a32 K32)]),(5,.mem true 0 [(64,.a32 (aOY b i))])])) (λi=>16-i) 0 (zero_le _) ?_ ?_
 ·refine Le.i [] rfl fc rfl ?_ rfl
  exact fc
 rintro i hi
 have hl:=oV b i
 refine zB.i ?_ ?_<;>intro hc
 ·have hc:(i:Int)<16:=hc
  have e0:(4*(i:Int)).toNat=4*i:=by omega
  have e1:(4*(i:Int)+1).toNat=4*i+1:=by omega
  have e2:(4*(i:Int)+2).toNat=4*i+2:=by omega
  have e3:(4*(i:Int)+3).toNat=4*i+3:=by omega
  refine aH.i [[],[],[],[2],[1,2,3],[1,2,3,4],[1,2,3,4,5],[1,2,3,4,5,6],[],[],[9],[9,10],[8,9,10,11],[8,9,10,11,12],[8,9,10,11,12,13],[8,9,10,11,12,13,14],[1,2,3,4,5,6,7,8,9,10,11,12,13,14,15],[],[],[18],[18,19],[17,18,19,20],[17,18,19,20,21],[17,18,19,20,21,22],[17,18,19,20,21,22,23],[1,2,3,4,5,6,7,8,9,10,11,12,13,14,15,16,17,18,19,20,21,22,23,24],[],[],[27],[27,28],[26,27,28,29],[26,27,28,29,30],[26,27,28,29,30,31],[1,2,3,4,5,6,7,8,9,10,11,12,13,14,15,16,17,18,19,20,21,22,23,24,25,26,27,28,29,30,31,32],aaY,[0,1,2,3,4,5,6,7,8,9,10,11,12,13,14,15,16,17,18,19,20,21,22,23,24,25,26,27,28,29,30,31,32,33,34]] [0,1,2,3,4,5,6,7,8,9,10,11,12,13,14,15,16,17,18,19,20,21,22,23,24,25,26,27,28,29,30,31,32,33,34,35] (by kernel_rfl) ?_
  repeat(refine fg.i (by repeat' (first|(show zA _;first|exact trivial|refine zA.app ?_ ?_|refine zA.zd ?_ ?_|refine zA.cons ?_ ?_)|with_reducible rfl|with_reducible assumption|omega |(simp only[zero_add,e0,e1,e2,e3,rng,Ix.val,zQ,addI,szs]<;>omega)|(simp only[zero_add,e0,e1,e2,e3,rng,Ix.val,zIn,zme,zQ,addI,Option.getD_none,getD_some,zlT,zlD,zlA,length_set,length_replicate,szs, *]<;>omega)|(simp only[Ix.val];with_reducible assumption)|exact UInt8.toNat_lt _|(apply Eq.trans;(with_reducible assumption);exact rfl)|exact rfl|exactλ_ _=>rfl)) ?_)
  refine⟨i+1,by omega,by omega,Le.i [] rfl fc rfl ?_ rfl⟩
  exact fc
 obtain rfl:i=16:=by have hc:¬(i:Int)<16:=hc;omega
 obtain⟨W0,hW0⟩:∃x,aOY b 16=x:=⟨_,rfl⟩
 rw[hW0]at hl
 refine aY.i (σ:=Nat) (λk=>k<=48)
  (λk=>([(0,.ptr 1000 0 none),(4,.ptr 4 0 none),(5,.ptr 5 0 none),(7,.i .i64 ((k:Int)+16))],
   [(1000,.mem true 0 [(8,.a32 h)]),(1001,.mem false 0 [(64,.a8 b)]),(4,.mem true 0 [(64,.a32 K32)]),(5,.mem true 0 [(64,.a32 (aA3 W0 k))])])) (λk=>48-k) 0 (zero_le _) ?_ ?_
 ·refine Le.i [] rfl fc rfl ?_ rfl
  have e0:aA3 W0 0=aOY b 16:=hW0.symm
  exact fc
 rintro k hk
 have hl:=oY hl k
 refine zB.i ?_ ?_<;>intro hc
 ·have hc:(k:Int)+16<64:=hc
  have e0:((k:Int)+16).toNat=16+k:=by omega
  have e1:((k:Int)+16-16).toNat=16+k-16:=by omega
  have e2:((k:Int)+16-7).toNat=16+k-7:=by omega
  have e3:((k:Int)+16-15).toNat=16+k-15:=by omega
  have e4:((k:Int)+16-2).toNat=16+k-2:=by omega
  refine aH.i [[],[0],[0,1],[0,1,2],[],[4],[4,5],[4,5,6],r_4,r_9] ek (by kernel_rfl) ?_
  repeat refine sdE ?_
  refine aH.i [[],[],[1],[1,2],[1,2,3],[],[5],[5,6],[5,6,7],[1,2,3,4,5,6,7,8],[],[10],[],[10,11,12],[10,11,12,13],[],[15],[10,11,12,13,14,15,16],[1,2,3,4,5,6,7,8,9,10,11,12,13,14,15,16,17],[],[10,11,12,13,19],[],[10,11,12,13,19,20,21],[10,11,12,13,19,20,21,22],[],[24],[10,11,12,13,19,20,21,22,23,24,25],[1,2,3,4,5,6,7,8,9,10,11,12,13,14,15,16,17,18,19,20,21,22,23,24,25,26],aW3,aS3] [0,1,2,3,4,5,6,7,8,9,10,12,15,16,19,21,24,25,11,13,14,17,18,20,22,23,26,27,28,29] (by kernel_rfl) ?_
  repeat refine sdE ?_
  refine Call.pure (aRD ((aA3 W0 k).getD (16+k-15) 0) 7 (by decide) (by decide)) rfl fcF ?_
  rintro _ rfl
  refine cL.i [] rfl rfl ?_
  refine Call.pure (aRD ((aA3 W0 k).getD (16+k-15) 0) 18 (by decide) (by decide)) rfl fcF ?_
  rintro _ rfl
  refine cL.i [] rfl rfl ?_
  refine Call.pure (aRD ((aA3 W0 k).getD (16+k-2) 0) 17 (by decide) (by decide)) rfl fcG ?_
  rintro _ rfl
  refine cL.i [] rfl rfl ?_
  refine Call.pure (aRD ((aA3 W0 k).getD (16+k-2) 0) 19 (by decide) (by decide)) rfl fcG ?_
  rintro _ rfl
  refine cL.i [] rfl rfl ?_
  repeat refine sdE ?_
  refine⟨k+1,by omega,by omega,Le.i [] rfl fc rfl ?_ rfl⟩
  repeat' first|exact trivial|refine zA.app ?_ ?_|refine zA.zd ?_ ?_|refine zA.cons ?_ ?_|exact fc|fail
  simp only[zero_add,e0,e1,e2,e3,e4,zQ,Ix.val,zIn,aA3,aZO]
 obtain rfl:k=48:=by have hc:¬(k:Int)+16<64:=hc;omega
 obtain⟨W,hW⟩:∃x,aA3 W0 48=x:=⟨_,rfl⟩
 rw[hW]at hl
 have hWa:aDU b=W:=by unfold aDU;rw[hW0,hW]
 refine gB ?_
 refine aY.i (σ:=Nat) (λi=>i<=64)
  (λi=>([(0,.ptr 1000 0 none),(4,.ptr 4 0 none),(5,.ptr 5 0 none),(10,.ptr 10 0 none),(101,.i .i64 i)],
   [(1000,.mem true 0 [(8,.a32 h)]),(1001,.mem false 0 [(64,.a8 b)]),(4,.mem true 0 [(64,.a32 K32)]),(5,.mem true 0 [(64,.a32 W)]),(10,.mem true 0 [(8,.a32 (mV W h i))])])) (λi=>64-i) 0 (zero_le _) ?_ ?_
 ·refine Le.i [] rfl fc rfl ?_ rfl
  have e0:mV W h 0=h:=rfl
  have hW':=hW.symm
  exact fc
 rintro i hi
 have hvl:=uc (w:=W) hh i
 obtain⟨V,hV⟩:∃x,mV W h i=x:=⟨_,rfl⟩
 rw[hV]at hvl
 have hnext:mV W h (i+1)=aZQ V (K32.getD i 0) (W.getD i 0):=by rw[<-hV];rfl
 refine zB.i ?_ ?_<;>intro hc
 ·have hc:(i:Int)<64:=hc
  refine aH.i [[],[0],[],[2],[0,1],r_5] r_6 (by kernel_rfl) ?_
  refine gB ?_
  refine aH.i [[],[0],[],[2],[],[2,3,4],[2,3,4,5],[],[2,3,4,5,7],[2,3,4,5,6,7,8],ek,[],[],[12],[11,12,13],[],[15],[],[17],[15,16,17,18],[11,12,13,14,15,16,17,18,19],aJF,[],[22],[22,23],aW4,[],[26],[26,27],aS3,aS2] [0,1,2,4,7,11,12,13,14,15,16,17,18,19,20,22,23,24,26,27,28,3,5,6,8,9,10,21,25,29,30] (by kernel_rfl) ?_
  refine gB ?_
  refine Call.pure (aRD ((mV W h i).getD 4 0) 6 (by decide) (by decide)) rfl fc ?_
  rintro _ rfl
  refine cL.i [] rfl rfl ?_
  refine Call.pure (aRD ((mV W h i).getD 4 0) 11 (by decide) (by decide)) rfl fc ?_
  rintro _ rfl
  refine cL.i [] rfl rfl ?_
  refine Call.pure (aRD ((mV W h i).getD 4 0) 25 (by decide) (by decide)) rfl fc ?_
  rintro _ rfl
  refine cL.i [] rfl rfl ?_
  refine gB ?_
  refine aH.i [[],[0],[],[0,1,2],r_4,[],[0,1,2,3,5],r_7,[],[],[9],[8,9,10],[],[],[13],[12,13,14],[8,9,10,11,12,13,14,15],[],[17],[],[19],[17,18,19,20],[8,9,10,11,12,13,14,15,16,17,18,19,20,21],aZT,aW5] [0,2,5,8,9,10,11,12,13,14,15,16,17,18,19,20,21,22,1,3,4,6,7,23,24] (by kernel_rfl) ?_
  refine gB ?_
  refine Call.pure (aRD ((mV W h i).getD 0 0) 2 (by decide) (by decide)) rfl fc ?_
  rintro _ rfl
  refine cL.i [] rfl rfl ?_
  refine Call.pure (aRD ((mV W h i).getD 0 0) 13 (by decide) (by decide)) rfl fc ?_
  rintro _ rfl
  refine cL.i [] rfl rfl ?_
  refine Call.pure (aRD ((mV W h i).getD 0 0) 22 (by decide) (by decide)) rfl fc ?_
  rintro _ rfl
  refine cL.i [] rfl rfl ?_
  refine gB ?_
  refine⟨i+1,by omega,by omega,Le.i [] rfl fc rfl ?_ rfl⟩
  exact fc
 obtain rfl:i=64:=by have hc:¬(i:Int)<64:=hc;omega
 have hV':=hV.symm
 have hblk:yL h b=aLG h V 8:=by unfold yL;rw[hWa,hV]
 clear hV
 refine aY.i (σ:=Nat) (λj=>j<=8)
  (λj=>([(0,.ptr 1000 0 none),(10,.ptr 10 0 none),(181,.i .i64 j)],
   [(1000,.mem true 0 [(8,.a32 (aLG h V j))]),(1001,.mem false 0 [(64,.a8 b)]),(10,.mem true 0 [(8,.a32 V)])])) (λj=>8-j) 0 (zero_le _) ?_ ?_
 ·refine Le.i [] rfl fc rfl ?_ rfl
  have e0:aLG h V 0=h:=rfl
  exact fc
 rintro j hj
 have hAl:=kO (v:=V) hh j
 refine zB.i ?_ ?_<;>intro hc
 ·have hc:(j:Int)<8:=hc
  refine aH.i [[],[],[0],[0,1,2],r_4,[],[5],[5,6],r_8,[0],ek,fe] kX (by kernel_rfl) ?_
  refine gB ?_
  refine⟨j+1,by omega,by omega,Le.i [] rfl fc rfl ?_ rfl⟩
  exact fc
 obtain rfl:j=8:=by have hc:¬(j:Int)<8:=hc;omega
 refine gB ?_
 rw[hblk]
 refine Ret.i (.tup []) [(1000,.mem true 0 [(8,.a32 (aLG h V 8))]),(1001,.mem false 0 [(64,.a8 b)])] [] rfl trivial ⟨rfl,rfl⟩ rfl trivial rfl ?_ rfl
 exact fc
end Go.Proofs.YtieblfbmmbkjdaaGreat
