/- Walks. -/
import Derived.Test.YtllmefnbacjjcaaGreatHwSha9ToSha13
import Derived.Test.YtllmefnbacjjcaaGreatHwAes5ToCbc1
import Derived.Test.YtllmefnbacjjcaaGreatHwCbc2ToSha3
import Derived.Test.YtllmefnbacjjcaaGreatHwTm10ToAes4
import Derived.Test.YtllmefnbacjjcaaGreatHwFe4ToTm2
set_option linter.unusedSimpArgs false
set_option linter.unusedVariables false
set_option maxHeartbeats 4000000
open UInt64 (ofInt)
open UInt8 (ofNat)
open List (take replicate getD_eq_getElem?_getD drop_zero take_of_length_le nil_append drop_append)
open Nat (le_refl zero_le)
open Option (getD_none)
set_option maxRecDepth 100000
namespace Go.Proofs.YtllmefnbacjjcaaGreat
open Go Go.Sx
theorem zm (w:Nat) (n:UInt64) (t:List UInt8):∀k,tJ w t n k=t++tJ w [] n k
 |0=>by simp[tJ]
 |k+1=>by simp only[tJ];rw[zm w n t k,List.append_assoc]
theorem zj (n:UInt64) (t:List UInt8):∀k,qk t n k=t++qk [] n k
 |0=>by simp[qk]
 |k+1=>by simp only[qk];rw[zj n t k,List.append_assoc]
theorem aT1 (n:UInt64):tJ 16 [] n 16=replicate 8 0++qk [] n 8:=by kernel_rfl
theorem aR5:F64=H64:=by rw[aI9,aI8]
theorem aR4:R64=K64:=by rw[aI6,aI7]
theorem aGE (x:UInt64):x&&&UInt64.ofNat 18446744073709551615=x:=by
 apply UInt64.toNat_inj.1
 rw[UInt64.toNat_and,UInt64.toNat_ofNat']
 exact Nat.and_two_pow_sub_one_of_lt_two_pow x.toNat_lt
theorem aA1 (x:UInt64):UInt64.ofNat 18446744073709551615^^^x= ~~~x:=by
 rw[show UInt64.ofNat 18446744073709551615=(-1:UInt64) by decide]
 exact UInt64.neg_one_xor
theorem aJE (x n:UInt64) (h:(64-n).toNat=64-n.toNat):tn x n 64=rT x n.toNat:=by
 unfold tn rT
 rw[if_neg (by decide),h,UInt64.or_comm]
theorem s64:S64.getD 0 0=28/\S64.getD 1 0=34/\S64.getD 2 0=39/\S64.getD 3 0=14/\S64.getD 4 0=18/\S64.getD 5 0=41/\S64.getD 6 0=1/\S64.getD 7 0=8/\S64.getD 8 0=7/\S64.getD 9 0=19/\S64.getD 10 0=61/\S64.getD 11 0=6:=by
 rw[aI5];decide
theorem aOZ (w:List UInt64) (i:Nat):wN C64 w i=aSR w i:=by
 obtain⟨_,_,_,_,_,_,h6,h7,h8,h9,h10,h11⟩:=s64
 unfold wN aSR thS
 rw[jG]
 simp only[h6,h7,h8,h9,h10,h11,aGE]
 rw[aJE _ 1 (by decide),aJE _ 8 (by decide),aJE _ 19 (by decide),aJE _ 61 (by decide)]
 show w.getD (i-16) 0+(rT (w.getD (i-15) 0) 1^^^rT (w.getD (i-15) 0) 8^^^aF (w.getD (i-15) 0) 7)+w.getD (i-7) 0+(rT (w.getD (i-2) 0) 19^^^rT (w.getD (i-2) 0) 61^^^aF (w.getD (i-2) 0) 6)=_
 congr 1
 rw[UInt64.add_assoc,UInt64.add_comm (rT _ _^^^_^^^_),<-UInt64.add_assoc]
theorem aPS (v:List UInt64) (k w:UInt64):rdR C64 v k w=aV2 v k w:=by
 obtain⟨h0,h1,h2,h3,h4,h5,_⟩:=s64
 unfold rdR aV2 aV4 aWP aPZ aSS thT
 rw[jG]
 simp only[h0,h1,h2,h3,h4,h5,aGE,aA1]
 rw[aJE _ 28 (by decide),aJE _ 34 (by decide),aJE _ 39 (by decide),aJE _ 14 (by decide),aJE _ 18 (by decide),aJE _ 41 (by decide)]
 rfl
theorem zI (w v:List UInt64):∀i,xI C64 w v i=jw w v i
 |0=>rfl
 |i+1=>by
  simp only[xI,jw]
  rw[zI w v i,aPS,<-aR4,jG]
theorem aG9 (h v:List UInt64):∀i,hR C64 h v i=aHA h v i
 |0=>rfl
 |i+1=>by
  simp only[hR,aHA]
  rw[aG9 h v i]
  rw[show C64.mask=UInt64.ofNat 18446744073709551615 by rw[jG],aGE]
theorem aVI (x:UInt64) (c:UInt8):x*256+c.toUInt64=aQ x 8|||c.toUInt64:=by
 have hc:=c.toNat_lt
 apply UInt64.toNat_inj.1
 unfold aQ
 rw[UInt64.toNat_or,UInt64.toNat_add,UInt64.toNat_mul,UInt64.toNat_ofNat',UInt8.toNat_toUInt64]
 have e1:x.toNat*(256:UInt64).toNat%2^64=(x.toNat%2^56)<<<8:=by
  rw[show(256:UInt64).toNat=2^8 from rfl,Nat.shiftLeft_eq,show(2:Nat)^64=2^56*2^8 by decide,Nat.mul_mod_mul_right]
 have e2:x.toNat<<<8%2^64=(x.toNat%2^56)<<<8:=by
  rw[Nat.shiftLeft_eq,Nat.shiftLeft_eq,show(2:Nat)^64=2^56*2^8 by decide,Nat.mul_mod_mul_right]
 rw[e1,e2,<-Nat.shiftLeft_add_eq_or_of_lt hc]
 apply Nat.mod_eq_of_lt
 have h3:x.toNat%2^56<2^56:=Nat.mod_lt _ (by decide)
 rw[Nat.shiftLeft_eq]
 omega
theorem aJW {b:List UInt8} {a n j:Nat} (h:j<n):((b.drop a).take n).getD j 0=b.getD (a+j) 0:=by
 rw[getD_eq_getElem?_getD,List.getElem?_take,if_pos h,List.getElem?_drop,getD_eq_getElem?_getD]
theorem aOX (all:List UInt8) (a:Nat):∀i,i<=16->∀j,j<=8->8*i+j<=128->wR C64 all a (wRs C64 all a i) i j=wC ((all.drop a).take 128) (8*i+j):=by
 have hwd:C64.wd=8:=by rw[jG]
 have hn:C64.n=80:=by rw[jG]
 have step:∀i,i<16->wRs C64 all a i=wC ((all.drop a).take 128) (8*i)->∀j,j<=8->wR C64 all a (wRs C64 all a i) i j=wC ((all.drop a).take 128) (8*i+j):=by
  intro i hi h0 j
  induction j with
  |zero=>intro _;exact h0
  |succ j ih=>
   intro hj
   have ih:=ih (by omega)
   show(wR C64 all a (wRs C64 all a i) i j).set i ((wR C64 all a (wRs C64 all a i) i j).getD i 0*256+(all.getD (a+C64.wd*i+j) 0).toUInt64)=
    (wC ((all.drop a).take 128) (8*i+j)).set ((8*i+j)/8) (aQ ((wC ((all.drop a).take 128) (8*i+j)).getD ((8*i+j)/8) 0) 8|||(((all.drop a).take 128).getD (8*i+j) 0).toUInt64)
   rw[ih,aVI,aJW (by omega),show(8*i+j)/8=i by omega,hwd,Nat.add_assoc]
 have all0:∀i,i<=16->wRs C64 all a i=wC ((all.drop a).take 128) (8*i):=by
  intro i
  induction i with
  |zero=>intro _;show replicate C64.n 0=_;rw[hn];rfl
  |succ i ih=>
   intro hi
   have h0:=ih (by omega)
   simp only[wRs]
   rw[if_neg (by omega),hwd,step i (by omega) h0 8 (le_refl _)]
   rfl
 intro i hi j hj h
 rcases Nat.lt_or_ge i 16 with hlt|hge
 ·exact step i hlt (all0 i hi) j hj
 have e1:i=16:=by omega
 have e2:j=0:=by omega
 subst e1;subst e2
 exact all0 16 hi
theorem aDT (all:List UInt8) (a:Nat):∀k,k<=64->wRs C64 all a (16+k)=wD (wC ((all.drop a).take 128) 128) k
 |0,_=>aOX all a 16 (le_refl _) 0 (zero_le _) (le_refl _)
 |k+1,h=>by
  have ih:=aDT all a k (by omega)
  show(if 16<=16+k then(wRs C64 all a (16+k)).set (16+k) (wN C64 (wRs C64 all a (16+k)) (16+k))else _)=(wD _ k).set (16+k) (aSR (wD _ k) (16+k))
  rw[if_pos (by omega),ih,aOZ]
theorem aMO (h:List UInt64) (all:List UInt8) (a:Nat):aSG C64 h all a=tc h ((all.drop a).take 128):=by
 unfold aSG tc yc
 rw[aG9,zI,show C64.n=16+64 by rw[jG],aDT all a 64 (le_refl _)]
theorem vl (h:List UInt64) (all:List UInt8):∀q,nG C64 h all q=ao h all q
 |0=>rfl
 |q+1=>by
  simp only[nG,ao]
  rw[vl h all q,aMO,show 16*C64.wd*q=128*q by rw[show C64.wd=8 by rw[jG]]]
theorem nH {h:List UInt64} {A T:List UInt8} {p:Nat} (hA:A.length=128*p):∀q,ao h (A++T) (p+q)=ao (ao h A p) T q
 |0=>by
  have:∀k,k<=p->ao h (A++T) k=ao h A k:=by
   intro k
   induction k with
   |zero=>intro _;rfl
   |succ k ih=>
    intro hk
    simp only[ao]
    rw[ih (by omega),List.drop_append_of_le_length (by omega),List.take_append_of_le_length (by rw[zlD];omega)]
  exact this p (le_refl _)
 |q+1=>by
  show tc (ao h (A++T) (p+q)) (((A++T).drop (128*(p+q))).take 128)=tc (ao (ao h A p) T q) ((T.drop (128*q)).take 128)
  rw[nH hA q,drop_append,List.drop_of_length_le (by omega),nil_append,hA,show 128*(p+q)-128*p=128*q by omega]
theorem yJ {h:List UInt64} {b:List UInt8} {p:Nat} (hp:128*p<=b.length):ao h (b.take (128*p)) p=ao h b p:=by
 have:=nH (h:=h) (A:=b.take (128*p)) (T:=b.drop (128*p)) (p:=p) (by rw[zlT];omega) 0
 rw[List.take_append_drop]at this
 exact this.symm
theorem aBY (a0 a1 a2 a3 a4 a5 a6 a7:UInt64):wH 8 [a0,a1,a2,a3,a4,a5,a6,a7] 8=il [a0,a1,a2,a3,a4,a5,a6,a7] 64:=by kernel_rfl
theorem aa3 {α:Type} {l:List α} (h:l.length=8):∃a0 a1 a2 a3 a4 a5 a6 a7,l=[a0,a1,a2,a3,a4,a5,a6,a7]:=by
 match l,h with
 |[a0,a1,a2,a3,a4,a5,a6,a7],_=>exact⟨a0,a1,a2,a3,a4,a5,a6,a7,rfl⟩
theorem aZJ (b:List UInt8):aSI 8 b (aw (b.length%128))=b.take (128*(b.length/128))++gR (b.drop (128*(b.length/128))) (ofInt (b.length:Int)):=by
 unfold aSI gR qi
 rw[zm,zj,aT1,show(b.drop (128*(b.length/128))).length=b.length%128 by rw[zlD];omega]
 conv=>lhs;rw[<-List.take_append_drop (128*(b.length/128)) b]
 simp only[List.append_assoc,zlA,zlT,zlD]
 rw[show min (128*(b.length/128)) b.length+(b.length-128*(b.length/128))=b.length by omega]
theorem xc (b:List UInt8):uh b=ae b:=by
 rw[sj,oo]
 unfold vK
 have hwd:C64.wd=8:=by rw[jG]
 rw[hwd,aR5,vl,aZJ]
 have hp:128*(b.length/128)<=b.length:=by omega
 have hA:(b.take (128*(b.length/128))).length=128*(b.length/128):=by rw[zlT];omega
 have hT:=sP (b.drop (128*(b.length/128))) (ofInt (b.length:Int))
 generalize gR (b.drop (128*(b.length/128))) (ofInt (b.length:Int))=T at hT⊢
 rw[zlA,hA,show(128*(b.length/128)+T.length)/(16*8)=b.length/128+T.length/128 by omega,nH hA,yJ hp]
 have hl:=dE (dE sJ b (b.length/128)) T (T.length/128)
 obtain⟨a0,a1,a2,a3,a4,a5,a6,a7,he⟩:=aa3 hl
 rw[he]
 exact aBY _ _ _ _ _ _ _ _
def up (l:List UInt32):List UInt64:=l.map UInt32.toUInt64
theorem nI {h:List UInt32} {A T:List UInt8} {p:Nat} (hA:A.length=64*p):∀q,ab h (A++T) (p+q)=ab (ab h A p) T q
 |0=>by
  have:∀k,k<=p->ab h (A++T) k=ab h A k:=by
   intro k
   induction k with
   |zero=>intro _;rfl
   |succ k ih=>
    intro hk
    simp only[ab]
    rw[ih (by omega),List.drop_append_of_le_length (by omega),List.take_append_of_le_length (by rw[zlD];omega)]
  exact this p (le_refl _)
 |q+1=>by
  show yL (ab h (A++T) (p+q)) (((A++T).drop (64*(p+q))).take 64)=yL (ab (ab h A p) T q) ((T.drop (64*q)).take 64)
  rw[nI hA q,drop_append,List.drop_of_length_le (by omega),nil_append,hA,show 64*(p+q)-64*p=64*q by omega]
theorem yK {h:List UInt32} {b:List UInt8} {p:Nat} (hp:64*p<=b.length):ab h (b.take (64*p)) p=ab h b p:=by
 have:=nI (h:=h) (A:=b.take (64*p)) (T:=b.drop (64*p)) (p:=p) (by rw[zlT];omega) 0
 rw[List.take_append_drop]at this
 exact this.symm
@[irreducible] def hw (A:List UInt8):List UInt32:=ab H32 A (A.length/64)
theorem aG6 (A:List UInt8):hw A=ab H32 A (A.length/64):=by unfold hw;rfl
theorem vE (A:List UInt8):(hw A).length=8:=by rw[aG6];exact br jb _ _
theorem sn (a b:Nat):ofInt (a:Int)+ofInt (b:Int)=ofInt ((a+b:Nat):Int):=by
 rw[Int.natCast_add,UInt64.ofInt_add]
theorem aUD {A b:List UInt8} {N m:Nat} (hA:A.length=N) (hb:b.length=m):ab (hw A) (A.drop (64*(N/64))++b) ((N%64+m)/64)=hw (A++b):=by
 rw[aG6,aG6,zlA,hA,hb]
 have h1:(A.take (64*(N/64))).length=64*(N/64):=by rw[zlT];omega
 have h2:=nI (h:=H32) (A:=A.take (64*(N/64))) (T:=A.drop (64*(N/64))++b) h1 ((N%64+m)/64)
 rw[<-List.append_assoc,List.take_append_drop,yK (by omega)]at h2
 rw[<-h2]
 congr 1
 omega
structure aAY (A:List UInt8) (N i c sp:Nat) (L:List UInt8):Prop where
 len:A.length=N
 ll:L.length=i+N%64
 drop:L.drop i=A.drop (64*(N/64))
 cap:c=N%64+sp
theorem aAH (b:List UInt8) (m:Nat) (hb:b.length=m) (hmax:m<=100000000):
  Sx.Fn Γ.P 59 [.ptr 1000 0 none,.slx 1002 0 0 m] [(1000,kM H32 .nsl 0),(1002,.mem false 0 [(m,.a8 b)])]
   (λv M=>∃i c sp L,aAY b m i c sp L/\v= .tup []/\M=[(1000,kM (hw b) (.sl 1005 0 i (m%64) c) (ofInt (m:Int))),(1002,.mem false 0 [(m,.a8 b)]),(1005,.mem true sp [(i+m%64,.a8 L)])]):=by
 refine Fn.mono (aN6 H32 b 0 m jb hb hmax) ?_
 rintro v M ⟨c,hc,hv,hM⟩
 refine⟨64*(m/64),c-64*(m/64),c-m,b,⟨hb,by omega,rfl,by omega⟩,hv,?_⟩
 rw[hM,aG6,hb,show m-64*(m/64)=m%64 by omega,show 64*(m/64)+m%64=m by omega]
 rw[UInt64.zero_add]
theorem aAI (A b:List UInt8) (N m i c sp:Nat) (L:List UInt8) (h:aAY A N i c sp L) (hb:b.length=m) (hmax:m<=99999900):
  Sx.Fn Γ.P 59 [.ptr 1000 0 none,.slx 1002 0 0 m] [(1000,kM (hw A) (.sl 1001 0 i (N%64) c) (ofInt (N:Int))),(1001,.mem true sp [(i+N%64,.a8 L)]),(1002,.mem false 0 [(m,.a8 b)])]
   (λv M=>∃i' c' sp' L',aAY (A++b) (N+m) i' c' sp' L'/\v= .tup []/\
    M=[(1000,kM (hw (A++b)) (.sl 1005 0 i' ((N+m)%64) c') (ofInt ((N+m:Nat):Int))),(1001,.dead),(1002,.mem false 0 [(m,.a8 b)]),(1005,.mem true sp' [(i'+(N+m)%64,.a8 L')])]):=by
 obtain⟨h1,h2,h3,h4⟩:=h
 refine Fn.mono (aUM (hw A) L b (L.drop i) (ofInt (N:Int)) i (N%64) c sp m (vE A) h2 rfl h4 hb (by omega)) ?_
 rintro v M ⟨c',hc,hv,hM⟩
 have hl:(L.drop i).length=N%64:=by rw[zlD];omega
 rw[hl]at hM hc
 rw[h3]at hM
 refine⟨64*((N%64+m)/64),c'-64*((N%64+m)/64),c'-(N%64+m),A.drop (64*(N/64))++b,⟨by rw[zlA,h1,hb],?_,?_,by omega⟩,hv,?_⟩
 ·rw[zlA,zlD,h1,hb];omega
 ·rw[drop_append,drop_append,List.drop_drop,zlD,h1]
  rw[show 64*(N/64)+64*((N%64+m)/64)=64*((N+m)/64) by omega,show 64*((N%64+m)/64)-(N-64*(N/64))=64*((N+m)/64)-N by omega]
 rw[hM,aUD h1 hb,sn,show N%64+m-64*((N%64+m)/64)=(N+m)%64 by omega,show 64*((N%64+m)/64)+(N+m)%64=N%64+m by omega]
 rfl
theorem aAG (A:List UInt8) (N i c sp:Nat) (L:List UInt8) (h:aAY A N i c sp L):
  Sx.Fn Γ.P 60 [.ptr 1000 0 none] [(1000,.mem false 0 [(8,.a32 (hw A)),(1,.slx 1001 0 i (N%64)),(1,.u64 (ofInt (N:Int)))]),(1001,.mem false 0 [(i+N%64,.a8 L)])]
   (λv M=>v= .a8 (ej A)/\M=[(1000,.mem false 0 [(8,.a32 (hw A)),(1,.slx 1001 0 i (N%64)),(1,.u64 (ofInt (N:Int)))]),(1001,.mem false 0 [(i+N%64,.a8 L)])]):=by
 obtain⟨h1,h2,h3,h4⟩:=h
 have e:(L.drop i).take (N%64)=A.drop (64*(N/64)):=by
  rw[h3,take_of_length_le]
  rw[zlD,h1];omega
 refine Fn.mono (aaA (hw A) L (A.drop (64*(N/64))) (ofInt (N:Int)) (i+N%64) i (N%64) (vE A) h2 (le_refl _) e (by omega)) ?_
 rintro v M ⟨hv,hM⟩
 refine⟨?_,hM⟩
 rw[hv,oq,h1,<-h1,<-aG6,h1,UInt64.zero_add]
def aNY (key:List UInt8):List UInt8:=if 64<key.length then ej key else key
def aBX (kb:List UInt8):List UInt8:=kb++replicate (64-kb.length) 0
@[irreducible] def q7 (key text:List UInt8):List UInt8:=
 ej ((aBX (aNY key)).map (·^^^92)++ej ((aBX (aNY key)).map (·^^^54)++text))
theorem aG7 (key text:List UInt8):q7 key text=ej ((aBX (aNY key)).map (·^^^92)++ej ((aBX (aNY key)).map (·^^^54)++text)):=by unfold q7;rfl
theorem dR (key text:List UInt8):(q7 key text).length=32:=by rw[aG7];exact cr _
theorem xq (key:List UInt8):(aNY key).length<=64:=by
 unfold aNY;split
 ·rw[cr];omega
 omega
theorem pN {kb:List UInt8} (h:kb.length<=64):(aBX kb).length=64:=by unfold aBX;rw[zlA,List.length_replicate];omega
def xoS (p:List UInt8) (c:UInt8):Nat->List UInt8
 |0=>p
 |i+1=>(xoS p c i).set i ((xoS p c i).getD i 0^^^c)
theorem fF (p:List UInt8) (c:UInt8):∀i,(xoS p c i).length=p.length
 |0=>rfl
 |i+1=>by simp only[xoS,List.length_set,fF p c i]
theorem aDM (p:List UInt8) (c:UInt8):∀i,i<=p.length->∀j,(xoS p c i)[j]? =if j<i then(p[j]?).map (·^^^c)else p[j]?
 |0,_,j=>by rw[if_neg (by omega)];rfl
 |i+1,h,j=>by
  have ih:=aDM p c i (by omega)
  simp only[xoS]
  by_cases hj:i=j
  ·subst hj
   rw[List.getElem?_set_self (by rw[fF];omega),if_pos (by omega),getD_eq_getElem?_getD,ih i,if_neg (by omega),List.getElem?_eq_getElem (by omega)]
   rfl
  rw[List.getElem?_set_ne hj,ih j]
  by_cases h1:j<i
  ·rw[if_pos h1,if_pos (by omega)]
  rw[if_neg h1,if_neg (by omega)]
theorem sM (p:List UInt8) (c:UInt8):xoS p c p.length=p.map (·^^^c):=by
 apply List.ext_getElem?
 intro j
 rw[aDM p c p.length (le_refl _),List.getElem?_map]
 split
 ·rfl
 rw[List.getElem?_eq_none (by omega)];rfl
theorem tW {kb:List UInt8} (h:kb.length<=64):aBX kb=take ((none:Option Nat).getD 0) (replicate 64 0)++take (min (take kb.length (List.drop 0 kb)).length 64) (take kb.length (List.drop 0 kb))++
  List.drop ((none:Option Nat).getD 0+min (take kb.length (List.drop 0 kb)).length 64) (replicate 64 0):=by
 rw[drop_zero,List.take_length,Nat.min_eq_left h,List.take_length,getD_none,List.take_zero,nil_append,Nat.zero_add,List.drop_replicate]
 rfl
theorem aWE (key text:List UInt8) (n m:Nat) (hk:key.length=n) (ht:text.length=m) (hn:n<=50000000) (hm:m<=50000000):
  Sx.Fn Γ.P 28 [.slx 1000 0 0 n,.slx 1001 0 0 m] [(1000,.mem false 0 [(n,.a8 key)]),(1001,.mem false 0 [(m,.a8 text)])]
   (λv M=>v= .a8 (q7 key text)/\M=[(1000,.mem false 0 [(n,.a8 key)]),(1001,.mem false 0 [(m,.a8 text)])]):=by
 refine cV [4] (Γ:=Γ) (fn:=Tryz.f28) rfl rfl rfl rfl ?_
 have hS:=abI key n hk (by omega)
 have hsl:=cr key
 have hH:=aG7 key text
 have hHl:=dR key text
 have hkb:=xq key
 refine gB ?_
 refine zB.i ?_ ?_<;>intro hc
 ·have hc:(n:Int)>64:=hc
  have hkk:aNY key=ej key:=if_pos (by omega)
  rw[hkk]at hH hkb
  clear hkk
  generalize ej key=kb at hS hsl hH hkb
  refine gB ?_
  refine Call.i hS [(1002,(1000,0,none))] rfl fc rfl fc rfl ?_
  rintro _ _ ⟨rfl,rfl⟩
  refine gB ?_
  refine Cut.i (σ:=Unit) (λ_=>True) (λ_=>([(0,.slx 400 0 0 kb.length),(1,.slx 1001 0 0 m),(4,.ptr 4 0 none)],
   [(1000,.mem false 0 [(n,.a8 key)]),(1001,.mem false 0 [(m,.a8 text)]),(400,.mem false 0 [(kb.length,.a8 kb)]),(4,.mem true 0 [(32,.a8 (replicate 32 0))])])) () trivial ?_ ?_
  ·refine Le.i [(400,(5,0,none))] rfl fc rfl fc rfl
  rintro _ _
  obtain⟨P,hP⟩:∃x,x=aBX kb:=⟨_,rfl⟩
  have hPl:P.length=64:=by rw[hP,pN hkb]
  refine gB ?_
  refine aY.i (σ:=Nat) (λi=>i<=64)
   (λi=>([(1,.slx 1001 0 0 m),(4,.ptr 4 0 none),(6,.ptr 6 0 none),(7,.ptr 7 0 none),(23,.i .i64 i)],
    [(1000,.mem false 0 [(n,.a8 key)]),(1001,.mem false 0 [(m,.a8 text)]),(4,.mem true 0 [(32,.a8 (replicate 32 0))]),(6,.mem true 0 [(64,.a8 (xoS P 54 i))]),(7,.mem true 0 [(64,.a8 (xoS P 92 i))])])) (λi=>64-i) 0 (zero_le _) ?_ ?_
  ·have hz1:xoS P 54 0=aBX kb:=hP
   have hz2:xoS P 92 0=aBX kb:=hP
   refine Le.i [] rfl ?_ rfl ?_ rfl
   ·exact fc
   repeat' first|exact trivial|refine zA.app ?_ ?_|refine zA.zd ?_ ?_|refine zA.cons ?_ ?_|exact fc|fail
   ·exact hz1.trans (tW hkb)
   exact hz2.trans (tW hkb)
  rintro i hi
  have hx1:=fF P 54 i
  have hx2:=fF P 92 i
  refine zB.i ?_ ?_<;>intro hc
  ·have hc:(i:Int)<64:=hc
   have hy1:xoS P 54 (i+1)=(xoS P 54 i).set i ((xoS P 54 i).getD i 0^^^54):=rfl
   have hy2:xoS P 92 (i+1)=(xoS P 92 i).set i ((xoS P 92 i).getD i 0^^^92):=rfl
   generalize xoS P 54 i=X1 at *
   generalize xoS P 92 i=X2 at *
   refine gC ?_
   refine⟨i+1,by omega,by omega,Le.i [] rfl fc rfl fcn rfl⟩
  have h64:i=64:=by have hc:¬(i:Int)<64:=hc;omega
  have hm1:=sM P 54
  have hm2:=sM P 92
  rw[hPl,<-h64]at hm1 hm2
  rw[<-hP,<-hm1,<-hm2]at hH
  rw[hPl]at hx1 hx2
  generalize xoS P 54 i=X1 at *
  generalize xoS P 92 i=X2 at *
  clear hm1 hm2 h64 hc
  have hN1:=aAH X1 64 hx1 (by omega)
  have hN2:=aAH X2 64 hx2 (by omega)
  refine Call.i aUT [(1001,(501,0,none))] rfl trivial rfl trivial rfl ?_
  rintro _ _ ⟨rfl,rfl⟩
  refine gB ?_
  refine Call.i hN1 [(1000,(501,0,none)),(1002,(6,0,none)),(1005,(502,0,none))] rfl fc rfl fc rfl ?_
  rintro v M' ⟨j1,c1,p1,L1,ok1,rfl,rfl⟩
  have hC1:=aAI X1 text 64 m j1 c1 p1 L1 ok1 ht (by omega)
  refine gB ?_
  refine Call.i hC1 [(1000,(501,0,none)),(1001,(502,0,none)),(1002,(1001,0,none)),(1005,(503,0,none))] rfl fc rfl fc rfl ?_
  rintro v M' ⟨j2,c2,p2,L2,ok2,rfl,rfl⟩
  have hS2:=aAG (X1++text) (64+m) j2 c2 p2 L2 ok2
  have hs2:=cr (X1++text)
  generalize ej (X1++text)=in2 at hS2 hs2 hH
  refine gB ?_
  refine Call.i hS2 [(1000,(501,0,none)),(1001,(503,0,none))] rfl fc rfl fc rfl ?_
  rintro _ _ ⟨rfl,rfl⟩
  refine gB ?_
  refine Call.i aUT [(1001,(511,0,none))] rfl trivial rfl trivial rfl ?_
  rintro _ _ ⟨rfl,rfl⟩
  refine gB ?_
  refine Call.i hN2 [(1000,(511,0,none)),(1002,(7,0,none)),(1005,(512,0,none))] rfl fc rfl fc rfl ?_
  rintro v M' ⟨j3,c3,p3,L3,ok3,rfl,rfl⟩
  have hC3:=aAI X2 in2 64 32 j3 c3 p3 L3 ok3 hs2 (by omega)
  refine gB ?_
  refine Call.i hC3 [(1000,(511,0,none)),(1001,(512,0,none)),(1002,(10,0,none)),(1005,(513,0,none))] rfl fc rfl fc rfl ?_
  rintro v M' ⟨j4,c4,p4,L4,ok4,rfl,rfl⟩
  have hS4:=aAG (X2++in2) (64+32) j4 c4 p4 L4 ok4
  rw[<-hH]at hS4
  generalize q7 key text=out at hS4 hHl
  refine gB ?_
  refine Call.i hS4 [(1000,(511,0,none)),(1001,(513,0,none))] rfl fc rfl fc rfl ?_
  rintro _ _ ⟨rfl,rfl⟩
  refine gB ?_
  refine Ret.i (.a8 out) [(1000,.mem false 0 [(n,.a8 key)]),(1001,.mem false 0 [(m,.a8 text)])] [] rfl fc ⟨rfl,rfl⟩ rfl fc rfl fc rfl
 have hc:¬(n:Int)>64:=hc
 have hkk:aNY key=key:=if_neg (by omega)
 rw[hkk]at hH hkb
 clear hkk
 refine Cut.i (σ:=Unit) (λ_=>True) (λ_=>([(0,.slx 400 0 0 key.length),(1,.slx 1001 0 0 m),(4,.ptr 4 0 none)],
  [(1000,.mem false 0 [(n,.a8 key)]),(1001,.mem false 0 [(m,.a8 text)]),(400,.mem false 0 [(key.length,.a8 key)]),(4,.mem true 0 [(32,.a8 (replicate 32 0))])])) () trivial ?_ ?_
 ·refine Le.i [(400,(1000,0,none))] rfl fc rfl fc rfl
 rintro _ _
 obtain⟨P,hP⟩:∃x,x=aBX key:=⟨_,rfl⟩
 have hPl:P.length=64:=by rw[hP,pN hkb]
 refine gB ?_
 refine aY.i (σ:=Nat) (λi=>i<=64)
  (λi=>([(1,.slx 1001 0 0 m),(4,.ptr 4 0 none),(6,.ptr 6 0 none),(7,.ptr 7 0 none),(23,.i .i64 i)],
   [(1000,.mem false 0 [(n,.a8 key)]),(1001,.mem false 0 [(m,.a8 text)]),(4,.mem true 0 [(32,.a8 (replicate 32 0))]),(6,.mem true 0 [(64,.a8 (xoS P 54 i))]),(7,.mem true 0 [(64,.a8 (xoS P 92 i))])])) (λi=>64-i) 0 (zero_le _) ?_ ?_
 ·have hz1:xoS P 54 0=aBX key:=hP
  have hz2:xoS P 92 0=aBX key:=hP
  refine Le.i [] rfl ?_ rfl ?_ rfl
  ·exact fc
  repeat' first|exact trivial|refine zA.app ?_ ?_|refine zA.zd ?_ ?_|refine zA.cons ?_ ?_|exact fc|fail
  ·exact hz1.trans (tW hkb)
  exact hz2.trans (tW hkb)
 rintro i hi
 have hx1:=fF P 54 i
 have hx2:=fF P 92 i
 refine zB.i ?_ ?_<;>intro hc
 ·have hc:(i:Int)<64:=hc
  have hy1:xoS P 54 (i+1)=(xoS P 54 i).set i ((xoS P 54 i).getD i 0^^^54):=rfl
  have hy2:xoS P 92 (i+1)=(xoS P 92 i).set i ((xoS P 92 i).getD i 0^^^92):=rfl
  generalize xoS P 54 i=X1 at *
  generalize xoS P 92 i=X2 at *
  refine gC ?_
  refine⟨i+1,by omega,by omega,Le.i [] rfl fc rfl fcn rfl⟩
 have h64:i=64:=by have hc:¬(i:Int)<64:=hc;omega
 have hm1:=sM P 54
 have hm2:=sM P 92
 rw[hPl,<-h64]at hm1 hm2
 rw[<-hP,<-hm1,<-hm2]at hH
 rw[hPl]at hx1 hx2
 generalize xoS P 54 i=X1 at *
 generalize xoS P 92 i=X2 at *
 clear hm1 hm2 h64 hc
 have hN1:=aAH X1 64 hx1 (by omega)
 have hN2:=aAH X2 64 hx2 (by omega)
 refine Call.i aUT [(1001,(501,0,none))] rfl trivial rfl trivial rfl ?_
 rintro _ _ ⟨rfl,rfl⟩
 refine gB ?_
 refine Call.i hN1 [(1000,(501,0,none)),(1002,(6,0,none)),(1005,(502,0,none))] rfl fc rfl fc rfl ?_
 rintro v M' ⟨j1,c1,p1,L1,ok1,rfl,rfl⟩
 have hC1:=aAI X1 text 64 m j1 c1 p1 L1 ok1 ht (by omega)
 refine gB ?_
 refine Call.i hC1 [(1000,(501,0,none)),(1001,(502,0,none)),(1002,(1001,0,none)),(1005,(503,0,none))] rfl fc rfl fc rfl ?_
 rintro v M' ⟨j2,c2,p2,L2,ok2,rfl,rfl⟩
 have hS2:=aAG (X1++text) (64+m) j2 c2 p2 L2 ok2
 have hs2:=cr (X1++text)
 generalize ej (X1++text)=in2 at hS2 hs2 hH
 refine gB ?_
 refine Call.i hS2 [(1000,(501,0,none)),(1001,(503,0,none))] rfl fc rfl fc rfl ?_
 rintro _ _ ⟨rfl,rfl⟩
 refine gB ?_
 refine Call.i aUT [(1001,(511,0,none))] rfl trivial rfl trivial rfl ?_
 rintro _ _ ⟨rfl,rfl⟩
 refine gB ?_
 refine Call.i hN2 [(1000,(511,0,none)),(1002,(7,0,none)),(1005,(512,0,none))] rfl fc rfl fc rfl ?_
 rintro v M' ⟨j3,c3,p3,L3,ok3,rfl,rfl⟩
 have hC3:=aAI X2 in2 64 32 j3 c3 p3 L3 ok3 hs2 (by omega)
 refine gB ?_
 refine Call.i hC3 [(1000,(511,0,none)),(1001,(512,0,none)),(1002,(10,0,none)),(1005,(513,0,none))] rfl fc rfl fc rfl ?_
 rintro v M' ⟨j4,c4,p4,L4,ok4,rfl,rfl⟩
 have hS4:=aAG (X2++in2) (64+32) j4 c4 p4 L4 ok4
 rw[<-hH]at hS4
 generalize q7 key text=out at hS4 hHl
 refine gB ?_
 refine Call.i hS4 [(1000,(511,0,none)),(1001,(513,0,none))] rfl fc rfl fc rfl ?_
 rintro _ _ ⟨rfl,rfl⟩
 refine gB ?_
 refine Ret.i (.a8 out) [(1000,.mem false 0 [(n,.a8 key)]),(1001,.mem false 0 [(m,.a8 text)])] [] rfl fc ⟨rfl,rfl⟩ rfl fc rfl fc rfl
def hkT (p info:List UInt8):Nat->List UInt8
 |0=>[]
 |k+1=>q7 p (hkT p info k++info++[ofNat (k+1)])
def hkO (p info:List UInt8):Nat->List UInt8
 |0=>[]
 |k+1=>hkO p info k++hkT p info (k+1)
theorem mz (p info:List UInt8):∀k,(hkT p info (k+1)).length=32:=λk=>dR _ _
theorem aUE (p info:List UInt8):∀k,(hkT p info k).length<=32
 |0=>by simp[hkT]
 |k+1=>by rw[mz];omega
theorem nA (p info:List UInt8):∀k,(hkO p info k).length=32*k
 |0=>rfl
 |k+1=>by simp only[hkO,zlA,nA p info k,mz];omega
theorem xO (k:Nat):ofNat (k+1)+ofNat 1=ofNat (k+1+1):=(UInt8.ofNat_add _ _).symm
theorem abK (salt from_ info:List UInt8) (a b c n:Nat) (ha:salt.length=a) (hb:from_.length=b) (hc:info.length=c) (la:a<=1000000) (lb:b<=1000000) (lc:c<=1000000) (hn:n<=8160):
  Sx.Fn Γ.P 54 [.slx 1000 0 0 a,.slx 1001 0 0 b,.slx 1002 0 0 c,.i .i64 n] [(1000,.mem false 0 [(a,.a8 salt)]),(1001,.mem false 0 [(b,.a8 from_)]),(1002,.mem false 0 [(c,.a8 info)])]
   (λv M=>∃sp,v= .tup [.sl 1004 0 0 n n,.tt]/\M=[(1000,.mem false 0 [(a,.a8 salt)]),(1001,.mem false 0 [(b,.a8 from_)]),(1002,.mem false 0 [(c,.a8 info)]),
    (1004,.mem true sp [(32*((n+31)/32),.a8 (hkO (q7 salt from_) info ((n+31)/32)))])]):=by
 have hP:=aWE salt from_ a b ha hb (by omega) (by omega)
 have hpl:=dR salt from_
 generalize q7 salt from_=p at hP hpl
 refine aG (Γ:=Γ) (fn:=Tryz.f54) rfl rfl rfl rfl ?_
 refine zB.i (λh=>absurd h (by omega)) (λ_=>?_)
 refine zB.i (λh=>absurd h (by omega)) (λ_=>?_)
 refine Call.i hP [(1000,(1000,0,none)),(1001,(1001,0,none))] rfl fc rfl fc rfl ?_
 rintro _ _ ⟨rfl,rfl⟩
 refine gB ?_
 refine aY.i (σ:=Nat×Nat) (λs=>s.1<=(n+31)/32/\32*s.1<=s.2)
  (λs=>([(2,.slx 1002 0 0 c),(3,.i .i64 n),(10,.ptr 10 0 none),(11,.sl 204 0 0 (32*s.1) s.2),(12,.sl 203 0 0 (hkT p info s.1).length (hkT p info s.1).length),(13,.u8 (ofNat (s.1+1)))],
   [(1000,.mem false 0 [(a,.a8 salt)]),(1001,.mem false 0 [(b,.a8 from_)]),(1002,.mem false 0 [(c,.a8 info)]),(10,.mem true 0 [(32,.a8 p)]),
    (203,.mem true 0 [((hkT p info s.1).length,.a8 (hkT p info s.1))]),(204,.mem true (s.2-32*s.1) [(32*s.1,.a8 (hkO p info s.1))])])) (λs=>(n+31)/32-s.1) (0,n+32) ⟨zero_le _,zero_le _⟩ ?_ ?_
 ·refine Le.ghost [.own 203 [(0,.a8 [])]] [(12,203)] [(204,(27,0,none))] rfl ⟨rfl,rfl,trivial⟩ rfl rfl fc rfl fc rfl
 rintro⟨k,cc⟩ ⟨hk,hcc⟩
 have hk:k<=(n+31)/32:=hk
 have hcc:32*k<=cc:=hcc
 have htl:=aUE p info k
 have hol:=nA p info k
 refine zB.i ?_ ?_<;>intro hq
 ·have hq:((32*k:Nat):Int)<n:=hq
  have hs1:hkT p info (k+1)=q7 p (hkT p info k++info++[ofNat (k+1)]):=rfl
  have hs2:hkO p info (k+1)=hkO p info k++hkT p info (k+1):=rfl
  have htl1:=mz p info k
  have hi8:=xO k
  have hHt:=aWE p (hkT p info k++info++[ofNat (k+1)]) 32 ((hkT p info k).length+c+1) hpl (by rw[zlA,zlA,hc];rfl) (by omega) (by omega)
  rw[<-hs1]at hHt
  generalize hT1:hkT p info (k+1)=T1 at *
  generalize hTl:(hkT p info k).length=tl at *
  generalize hkT p info k=T0 at *
  generalize hX:T0++info++[ofNat (k+1)]=X at hHt
  have hX2:X=[]++take tl (List.drop 0 T0)++take c (List.drop 0 info)++take 1 (List.drop 0 [ofNat (k+1)]):=by
   rw[drop_zero,drop_zero,drop_zero,take_of_length_le (by omega),take_of_length_le (by omega),nil_append,<-hX];rfl
  clear hs1 hX
  refine gB ?_
  refineλc1 hc1=>?_
  refineλc2 hc2=>?_
  refineλc3 hc3=>?_
  have hc3:tl+c+1<=c3:=by have:0+tl+c+1<=c3:=hc3;omega
  refine gB ?_
  refine Call.i hHt [(1000,(10,0,none)),(1001,(41,0,none))] rfl ?_ rfl ?_ rfl ?_
  ·exact fc
  ·repeat' first|exact trivial|refine zA.app ?_ ?_|refine zA.zd ?_ ?_|refine zA.cons ?_ ?_|exact fc|fail
   all_goals exact hX2
  rintro _ _ ⟨rfl,rfl⟩
  refine gB ?_
  refineλc4 hc4=>?_
  have hc4:32*k+32<=c4:=hc4
  refine gB ?_
  have hT2:take 32 T1=T1:=take_of_length_le (by omega)
  refine⟨(k+1,c4),⟨by omega,by show 32*(k+1)<=c4;omega⟩,by show(n+31)/32-(k+1)<(n+31)/32-k;omega,Le.i [(203,(15,0,none)),(204,(48,0,none))] rfl ?_ rfl ?_ rfl⟩
  ·exact fc
  repeat' (first|(show zA _;first|exact trivial|refine zA.app ?_ ?_|refine zA.zd ?_ ?_|refine zA.cons ?_ ?_)|with_reducible rfl|with_reducible assumption|omega |(simp only[bq,drop_zero,rng,Ix.val,zQ,addI,szs]<;>omega)|(simp only[bq,drop_zero,rng,Ix.val,zIn,zme,zQ,addI,getD_none,Option.getD_some,zlT,zlD,zlA,List.length_set,List.length_replicate,szs, *]<;>omega)|(simp only[Ix.val];with_reducible assumption)|exact UInt8.toNat_lt _|(apply Eq.trans;(with_reducible assumption);exact rfl)|exact rfl|exactλ_ _=>rfl)
 have hq:¬((32*k:Nat):Int)<n:=hq
 have hkk:k=(n+31)/32:=by omega
 subst hkk
 refine gB ?_
 refine Ret.i (.tup [.sl 1004 0 0 n n,.tt]) [(1000,.mem false 0 [(a,.a8 salt)]),(1001,.mem false 0 [(b,.a8 from_)]),(1002,.mem false 0 [(c,.a8 info)]),
   (1004,.mem true (cc-32*((n+31)/32)) [(32*((n+31)/32),.a8 (hkO p info ((n+31)/32)))])] [(1004,(204,0,none))] rfl fc ⟨_,rfl,rfl⟩ rfl fc rfl fc rfl
def orS (a b:List UInt8):Nat->UInt8
 |0=>0
 |i+1=>orS a b i|||(a.getD i 0^^^b.getD i 0)
theorem aKR {x y:UInt8}:x|||y=0↔x=0/\y=0:=by
 constructor
 ·intro h
  have h1:(x|||y).toNat=0:=by rw[h];rfl
  rw[UInt8.toNat_or]at h1
  have h2:x.toNat=0:=by
   have:x.toNat<=x.toNat|||y.toNat:=Nat.left_le_or;omega
  have h3:y.toNat=0:=by
   have:y.toNat<=x.toNat|||y.toNat:=Nat.right_le_or;omega
  exact⟨UInt8.toNat_inj.1 h2,UInt8.toNat_inj.1 h3⟩
 rintro⟨rfl,rfl⟩;rfl
theorem aDL {x y:UInt8}:x^^^y=0↔x=y:=UInt8.xor_eq_zero_iff
theorem zZ (a b:List UInt8):∀i,orS a b i=0↔∀j,j<i->a.getD j 0=b.getD j 0
 |0=>⟨λ_ j h=>absurd h (Nat.not_lt_zero _),λ_=>rfl⟩
 |i+1=>by
  simp only[orS]
  rw[aKR,zZ a b i,aDL]
  constructor
  ·rintro⟨h1,h2⟩ j hj
   rcases Nat.lt_or_ge j i with h|h
   ·exact h1 j h
   obtain rfl:j=i:=by omega
   exact h2
  exactλh=>⟨λj hj=>h j (by omega),h i (by omega)⟩
theorem aTG {a b:List UInt8} {n:Nat} (ha:a.length=n) (hb:b.length=n):orS a b n=0↔a=b:=by
 rw[zZ]
 constructor
 ·intro h
  apply List.ext_getElem (by omega)
  intro i h1 h2
  have:=h i (by omega)
  rwa [getD_eq_getElem?_getD,getD_eq_getElem?_getD,List.getElem?_eq_getElem h1,List.getElem?_eq_getElem h2]at this
 intro h j _;rw[h]
theorem abV (a b:List UInt8) (n m:Nat) (ha:a.length=n) (hb:b.length=m) (hmax:n<=9223372036854775807):Sx.Fn Γ.P 29 [.slx 1000 0 0 n,.slx 1001 0 0 m] [(1000,.mem false 0 [(n,.a8 a)]),(1001,.mem false 0 [(m,.a8 b)])]
  (λv M=>v= .bool (a=b)/\M=[(1000,.mem false 0 [(n,.a8 a)]),(1001,.mem false 0 [(m,.a8 b)])]):=by
 refine aG (Γ:=Γ) (fn:=Tryz.f29) rfl rfl rfl rfl ?_
 refine zB.i ?_ ?_<;>intro h
 ·have h:¬(n:Int)=m:=h
  refine Ret.i (.bool (a=b)) [(1000,.mem false 0 [(n,.a8 a)]),(1001,.mem false 0 [(m,.a8 b)])] [] rfl trivial ⟨rfl,rfl⟩ rfl ?_ rfl ?_ rfl
  ·show¬a=b
   intro e
   rw[e]at ha
   omega
  exact fc
 have h:¬¬(n:Int)=m:=h
 obtain rfl:n=m:=by omega
 refine gB ?_
 refine aY.i (σ:=Nat) (λi=>i<=n)
  (λi=>([(0,.slx 1000 0 0 n),(1,.slx 1001 0 0 n),(5,.u8 (orS a b i)),(13,.i .i64 n),(14,.i .i64 i)],[(1000,.mem false 0 [(n,.a8 a)]),(1001,.mem false 0 [(n,.a8 b)])])) (λi=>n-i) 0 (zero_le _) ?_ ?_
 ·have hz:orS a b 0=0:=rfl
  refine Le.i [] rfl fc rfl fc rfl
 rintro i hi
 refine zB.i ?_ ?_<;>intro hc
 ·have hc:(i:Int)<n:=hc
  have hs:orS a b (i+1)=orS a b i|||(a.getD i 0^^^b.getD i 0):=rfl
  refine aH.i [[],[],[],[1,2],[1,2,3],[],[],[5,6],[5,6,7],[1,2,3,4,5,6,7,8],ek,fe] kX (by kernel_rfl) ?_
  refine gC ?_
  refine⟨i+1,by omega,by omega,Le.i [] rfl fcn rfl fc rfl⟩
 obtain rfl:i=n:=by have hc:¬(i:Int)<n:=hc;omega
 have he:=aTG ha hb
 refine gB ?_
 refine Ret.i (.bool (a=b)) [(1000,.mem false 0 [(i,.a8 a)]),(1001,.mem false 0 [(i,.a8 b)])] [] rfl trivial ⟨rfl,rfl⟩ rfl ?_ rfl ?_ rfl
 ·exact he.symm
 exact fc
def r1 (a b:Nat):Nat->Nat
 |0=>0
 |i+1=>if b/2^i&&&1=1 then r1 a b i^^^a*2^i else r1 a b i
def r2 (p:Nat):Nat->Nat
 |0=>p
 |k+1=>if r2 p k/2^(14-k)&&&1=1 then r2 p k^^^283*2^(6-k)else r2 p k
def W4 (l:List Nat):Prop:=∃a b c d,l=[a,b,c,d]/\a<256/\b<256/\c<256/\d<256
theorem W4.lt {t:List Nat} (h:W4 t):∀j,t.getD j 0<256:=by
 obtain⟨a,b,c,d,rfl,h1,h2,h3,h4⟩:=h
 intro j
 match j with
 |0=>exact h1
 |1=>exact h2
 |2=>exact h3
 |3=>exact h4
 |_+4=>exact Nat.zero_lt_succ _
theorem W4.length {t:List Nat} (h:W4 t):t.length=4:=by
 obtain⟨a,b,c,d,rfl,_⟩:=h;rfl
def B16 (l:List Nat):Prop:=l.length=16/\∀j,l.getD j 0<256
theorem B16.zero:B16 (replicate 16 0):=⟨rfl,λj=>by
 rw[getD_eq_getElem?_getD,List.getElem?_replicate];split <;>exact Nat.zero_lt_succ _⟩
theorem B16.set {l:List Nat} (h:B16 l) (i:Nat) {x:Nat} (hx:x<256):B16 (l.set i x):=⟨by rw[List.length_set];exact h.1,λj=>by
 rw[getD_eq_getElem?_getD,List.getElem?_set]
 split
 ·split
  ·exact hx
  exact Nat.zero_lt_succ _
 rw[<-getD_eq_getElem?_getD];exact h.2 j⟩
structure OkW (W:List (List Nat)):Prop where
 ok:∀q,q<60->W4 (W.getD q [])
theorem OkW.lt {W:List (List Nat)} (h:OkW W) {q:Nat} (hq:q<60) (j:Nat):(W.getD q []).getD j 0<256:=(h.ok q hq).lt j
def tr (b:List UInt8):List Nat:=[(b.getD 0 0).toNat,(b.getD 4 0).toNat,(b.getD 8 0).toNat,(b.getD 12 0).toNat,(b.getD 1 0).toNat,(b.getD 5 0).toNat,(b.getD 9 0).toNat,(b.getD 13 0).toNat,(b.getD 2 0).toNat,(b.getD 6 0).toNat,(b.getD 10 0).toNat,(b.getD 14 0).toNat,(b.getD 3 0).toNat,(b.getD 7 0).toNat,(b.getD 11 0).toNat,(b.getD 15 0).toNat]
def aPG:List UInt8:=[ofNat 115,ofNat 101,ofNat 97,ofNat 108]
@[irreducible] def kyO (key:List UInt8):List UInt8:=hkO (q7 [] key) aPG 3
theorem jU (key:List UInt8):(kyO key).length=96:=by unfold kyO;rw[nA]
@[irreducible] def kyA (key:List UInt8):List UInt8:=(kyO key).take 32
@[irreducible] def kyS (key:List UInt8):List UInt8:=((kyO key).drop 32).take 32
@[irreducible] def kyG (key:List UInt8):List UInt8:=((kyO key).drop 64).take 16
theorem ms (key:List UInt8):(kyA key).length=32:=by unfold kyA;rw[zlT,jU];rfl
theorem mr (key:List UInt8):(kyS key).length=32:=by unfold kyS;rw[zlT,zlD,jU];rfl
theorem jV (key:List UInt8):(kyG key).length=16:=by unfold kyG;rw[zlT,zlD,jU];rfl
theorem aT4 (key:List UInt8):kyA key=(kyO key).take 32:=by unfold kyA;rfl
theorem aT2 (key:List UInt8):kyS key=((kyO key).drop 32).take 32:=by unfold kyS;rfl
theorem aT3 (key:List UInt8):kyG key=((kyO key).drop 64).take 16:=by unfold kyG;rfl
theorem aIE {X r:List UInt8} {m:Nat} (h:X.length=m) (hr:r.length=m):X=take ((none:Option Nat).getD 0) r++take (min X.length m) X++List.drop ((none:Option Nat).getD 0+min X.length m) r:=by
 rw[getD_none,List.take_zero,nil_append,h,Nat.min_self,Nat.zero_add,List.drop_of_length_le (by omega),List.append_nil,take_of_length_le (by omega)]
theorem aaI (key:List UInt8) (hk:key.length=32):Sx.Fn Γ.P 26 [.a8 key] [] (λv M=>v= .tup [.a8 (kyA key),.a8 (kyS key),.a8 (kyG key)]/\M=[]):=by
 have hH:=abK [] key aPG 0 32 4 80 rfl hk rfl (by omega) (by omega) (by omega) (by omega)
 have eO:kyO key=hkO (q7 [] key) aPG ((80+31)/32):=by unfold kyO;rfl
 have hl:=jU key
 rw[<-eO]at hH
 refine aG (Γ:=Γ) (fn:=Tryz.f26) rfl rfl rfl rfl ?_
 refine gB ?_
 refine Call.name [(2001,[(0,.a8 [])]),(0,[]),(0,[]),(0,[])] rfl ?_ (kW.i hH [(1000,(2001,0,none)),(1001,(1,0,none)),(1002,(9,0,none)),(1004,(304,0,none))] rfl ?_ rfl ?_ rfl ?_)
 ·exact⟨rfl,rfl,trivial⟩
 ·exact fc
 ·exact fc
 rintro v M' ⟨sp,rfl,rfl⟩
 refine gN ?_
 refine gB ?_
 refine aH.i [[],[],[1],[0,1,2]] r_4 (by kernel_rfl) ?_
 refine gB ?_
 refine aH.i [[],[],[1],[0,1,2]] r_4 (by kernel_rfl) ?_
 refine gB ?_
 refine aH.i [[],[],[1],[0,1,2]] r_4 (by kernel_rfl) ?_
 refine gB ?_
 refine Ret.i (.tup [.a8 (kyA key),.a8 (kyS key),.a8 (kyG key)]) [] [] rfl ?_ ⟨rfl,rfl⟩ rfl ?_ rfl ?_ rfl
 ·exact fc
 ·have lA:=ms key
  have lS:=mr key
  have lG:=jV key
  rw[aT4]at lA⊢
  rw[aT2]at lS⊢
  rw[aT3]at lG⊢
  repeat' first|exact trivial|refine zA.app ?_ ?_|refine zA.zd ?_ ?_|refine zA.cons ?_ ?_|exact fc|fail
  ·exact aIE lA rfl
  ·exact aIE lS rfl
  exact aIE lG rfl
 exact fc
@[irreducible] def seB (key plain:List UInt8):List UInt8:=bu (kyA key) (kyG key) plain++(q7 (kyS key) (bu (kyA key) (kyG key) plain)).take 16
@[irreducible] def seS (key plain:List UInt8):List UInt8:=if plain.length<=1024 then seB key plain else[]
theorem aM8 {key plain:List UInt8} (h:plain.length<=1024):seS key plain=seB key plain:=by unfold seS;exact if_pos h
theorem aPH {key plain:List UInt8} (h:¬plain.length<=1024):seS key plain=[]:=by unfold seS;exact if_neg h
theorem aEU (key plain:List UInt8):seB key plain=bu (kyA key) (kyG key) plain++(q7 (kyS key) (bu (kyA key) (kyG key) plain)).take 16:=by unfold seB;rfl
theorem kS {key bg plain:List UInt8} {n:Nat} (hb:bg.length=16) (hn:plain.length=n):(bu key bg plain).length=n/16*16+16:=by
 rw[jm key hb,hn];omega
theorem rP {key plain:List UInt8} {n:Nat} (hn:plain.length=n):(seB key plain).length=n/16*16+32:=by
 rw[aEU,zlA,kS (jV key) hn,zlT,dR];omega
theorem aQ8 (key plain:List UInt8) (n:Nat) (hk:key.length=32) (hn:plain.length=n):
  Sx.Fn Γ.P 12 [.agg [(1,.nilp)],.a8 key,.slx 1003 0 0 n] [(1003,.mem false 0 [(n,.a8 plain)])]
  (λv M=>∃m c,(seS key plain).length=m/\m<=c/\v= .tup [.sl 1006 0 0 m c,.bool (n<=1024)]/\M=[(1003,.mem false 0 [(n,.a8 plain)]),(1006,.mem true (c-m) [(m,.a8 (seS key plain))])]):=by
 refine aG (Γ:=Γ) (fn:=Tryz.f12) rfl rfl rfl rfl ?_
 refine gB ?_
 refine zB.i ?_ ?_<;>intro hc
 ·have hc:(n:Int)>1024:=hc
  have e:seS key plain=[]:=aPH (by omega)
  refine gB ?_
  refine Ret.ghost [.own 450 [(0,.a8 [])]] [(6,450)] rfl ⟨rfl,rfl,trivial⟩ rfl (.tup [.sl 1006 0 0 0 0,.bool (n<=1024)]) [(1003,.mem false 0 [(n,.a8 plain)]),(1006,.mem true (0-0) [(0,.a8 (seS key plain))])] [(1006,(450,0,none))] rfl fc ⟨0,0,by rw[e];rfl,le_refl _,rfl,rfl⟩ rfl fc rfl fc rfl
 have hc:¬(n:Int)>1024:=hc
 have e:=aM8 (key:=key) (show plain.length<=1024 by omega)
 have hkl:=ms key
 have hgl:=jV key
 have hsl:=mr key
 have hL:=abW (kyA key) (kyG key) plain n hkl hgl hn (by omega)
 obtain⟨X,hX⟩:∃X,bu (kyA key) (kyG key) plain=X:=⟨_,rfl⟩
 obtain⟨N,hN⟩:∃N,n/16*16+16=N:=⟨_,rfl⟩
 have hXl:X.length=N:=by rw[<-hX,<-hN,kS hgl hn]
 have eB:seS key plain=X++(q7 (kyS key) X).take 16:=by rw[e,aEU,hX]
 rw[hX,hN]at hL
 have hml:=dR (kyS key) X
 refine gB ?_
 refine zB.i (λhn=>absurd trivial hn) (λ_=>?_)
 refine gB ?_
 refine Call.i (aaI key hk) [] rfl fc rfl trivial rfl ?_
 rintro _ _ ⟨rfl,rfl⟩
 refine gN ?_
 refine gB ?_
 refine Call.i hL [(1000,(1003,0,none)),(1001,(301,0,none))] rfl fc rfl fc rfl ?_
 rintro v M' ⟨c,hcc,rfl,rfl⟩
 refine gN ?_
 refine gB ?_
 refine Call.i (aWE (kyS key) X 32 N hsl hXl (by omega) (by omega)) [(1000,(12,0,none)),(1001,(301,0,none))] rfl fc rfl fc rfl ?_
 rintro _ _ ⟨rfl,rfl⟩
 refine gN ?_
 refine gB ?_
 refineλc2 hc2=>?_
 have hc2:N+16<=c2:=hc2
 refine gB ?_
 refine Ret.i (.tup [.sl 1006 0 0 (N+16) c2,.bool (n<=1024)]) [(1003,.mem false 0 [(n,.a8 plain)]),(1006,.mem true (c2-(N+16)) [(N+16,.a8 (seS key plain))])] [(1006,(56,0,none))] rfl ?_ ⟨N+16,c2,by rw[eB,zlA,hXl,zlT,hml];rfl,hc2,rfl,rfl⟩ rfl ?_ rfl ?_ rfl
 ·exact fc
 ·exact fc
 rw[eB]
 exact fc
theorem aU5 {A B X:List UInt8} {n:Nat} (h:X=A++B) (hA:A.length=n):X.take n=A/\X.drop n=B:=by
 subst h;subst hA;exact⟨List.take_left' rfl,List.drop_left' rfl⟩
theorem aRA (key plain:List UInt8) (n m:Nat) (hk:key.length=32) (hn:plain.length=n) (hn1:n<=1024) (hm:n/16*16+32=m):
  Sx.Fn Γ.P 13 [.agg [(1,.nilp)],.a8 key,.slx 1003 0 0 m] [(1003,.mem false 0 [(m,.a8 (seB key plain))])]
  (λv M=>∃n0 U sp,U.take n=plain/\n<=n0/\U.length=n0/\v= .tup [.sl 1006 0 0 n n,.tt]/\M=[(1003,.mem false 0 [(m,.a8 (seB key plain))]),(1006,.mem true sp [(n0,.a8 U)])]):=by
 have hkl:=ms key
 have hgl:=jV key
 have hsl:=mr key
 obtain⟨N,hN⟩:∃N,n/16*16+16=N:=⟨_,rfl⟩
 have hNm:N+16=m:=by omega
 have hBl:=rP (key:=key) hn
 have hX:=aEU key plain
 have hXl:=kS (key:=kyA key) (plain:=plain) hgl hn
 have hb:=aMJ hkl hgl plain
 obtain⟨X,hXe⟩:∃X,bu (kyA key) (kyG key) plain=X:=⟨_,rfl⟩
 rw[hXe]at hX hXl hb
 rw[hN]at hXl
 rw[hm]at hBl
 obtain⟨S,hS⟩:∃S,seB key plain=S:=⟨_,rfl⟩
 rw[hS]at hX hBl⊢
 obtain⟨hT,hD⟩:=aU5 hX hXl
 have hml:=dR (kyS key) X
 have hU:=abU (kyA key) (kyG key) X N hkl hgl hXl (by omega)
 unfold aD2 at hU
 rw[hb]at hU
 have hM:=aWE (kyS key) X 32 N hsl hXl (by omega) (by omega)
 have hSz:=aUV 1024
 rw[mO (by omega) (by omega),show(1024:Int)/16*16+32=1056 by rfl]at hSz
 have hSa:=abV ((q7 (kyS key) X).take 16) ((q7 (kyS key) X).take 16) 16 16 (by rw[zlT,hml];rfl) (by rw[zlT,hml];rfl) (by omega)
 refine aG (Γ:=Γ) (fn:=Tryz.f13) rfl rfl rfl rfl ?_
 refine gB ?_
 refine zB.i (λhc=>?_) (λ_=>?_)
 ·have hc:(m:Int)<32:=hc
  exact absurd hc (by omega)
 refine gB ?_
 refine Call.pure hSz rfl fc ?_
 rintro _ rfl
 refine gB ?_
 refine zB.i (λhc=>?_) (λ_=>?_)
 ·have hc:(m:Int)>1056:=hc
  exact absurd hc (by omega)
 refine gB ?_
 refine zB.i (λhn=>absurd trivial hn) (λ_=>?_)
 refine gB ?_
 refine Call.i (aaI key hk) [] rfl fc rfl trivial rfl ?_
 rintro _ _ ⟨rfl,rfl⟩
 refine gN ?_
 refine gB ?_
 refine aH.i [[],[],[1],[1,2],[],[4],[4,5],r_7,[],[],[9],[9,10],[8,9,10,11],r_8,oB] nw (by kernel_rfl) ?_
 refine gB ?_
 have eT:X=take N (List.drop 0 S):=by rw[drop_zero,hT]
 have eQ:(q7 (kyS key) X).take 16=take 16 (List.drop 0 (q7 (kyS key) X)):=by rw[drop_zero]
 have eD:(q7 (kyS key) X).take 16=take 16 (List.drop N S):=by
  rw[hD];rw[take_of_length_le (l:=(q7 (kyS key) X).take 16)];rw[zlT,hml];exact le_refl _
 refine Call.i hM [(1000,(15,0,none)),(1001,(1003,0,some 0))] rfl fc rfl fc rfl ?_
 rintro _ _ ⟨rfl,rfl⟩
 refine gN ?_
 refine gB ?_
 refine Call.i hSa [(1000,(19,0,some 0)),(1001,(1003,0,some N))] rfl fc rfl fc rfl ?_
 rintro _ _ ⟨rfl,rfl⟩
 refine gN ?_
 refine gB ?_
 refine zB.i (λhc=>absurd rfl hc) (λ_=>?_)
 refine gB ?_
 refine Call.i hU [(1000,(1003,0,some 0)),(1001,(301,0,none))] rfl fc rfl fc rfl ?_
 rintro v M' (⟨hc,_⟩|⟨n1,s,sp,h1,h2,h3,h4,h5,rfl,rfl⟩)
 ·cases hc
 cases h1
 rw[hn]at h2
 subst h2
 refine gN ?_
 refine gB ?_
 refine Ret.i (.tup [.sl 1006 0 0 n n,.tt]) [(1003,.mem false 0 [(m,.a8 S)]),(1006,.mem true sp [(N,.a8 (iV (kyA key) (kyG key) X))])] [(1006,(301,0,none))] rfl fc ⟨N,_,sp,h3,h4,h5,rfl,rfl⟩ rfl fc rfl fc rfl
end Go.Proofs.YtllmefnbacjjcaaGreat
