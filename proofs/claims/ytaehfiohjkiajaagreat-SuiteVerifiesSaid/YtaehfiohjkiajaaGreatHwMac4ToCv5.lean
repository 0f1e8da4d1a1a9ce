/- Walks. -/
import Derived.Test.YtaehfiohjkiajaaGreatHwSha8ToMac3
import Derived.Test.YtaehfiohjkiajaaGreatHwOfToCbc1
import Derived.Test.YtaehfiohjkiajaaGreatHwCbc2ToSha7
import Derived.Test.YtaehfiohjkiajaaGreatHwTm2ToTb
import Derived.Test.YtaehfiohjkiajaaGreatHwCu10ToTm1
import Derived.Test.YtaehfiohjkiajaaGreatHx7
set_option linter.unusedSimpArgs false
set_option linter.unusedVariables false
set_option maxHeartbeats 4000000
open UInt8 (ofNat ofNat_toNat)
open List (replicate take drop drop_zero take_of_length_le length_replicate)
open Nat (zero_le)
set_option maxRecDepth 100000
namespace Go.Proofs.YtaehfiohjkiajaaGreat
open Go Go.Sx
def hkT (p info:List UInt8):Nat->List UInt8
 |0=>[]
 |k+1=>q7 p (hkT p info k++info++[ofNat (k+1)])
def hkO (p info:List UInt8):Nat->List UInt8
 |0=>[]
 |k+1=>hkO p info k++hkT p info (k+1)
theorem mz (p info:List UInt8):∀k,(hkT p info (k+1)).length=32:=λk=>dR _ _
theorem aUE (p info:List UInt8):∀k,(hkT p info k).length<=32
 |0=>by simp[hkT]
 |k+1=>by rw[mz];omega
theorem nA (p info:List UInt8):∀k,(hkO p info k).length=32*k
 |0=>rfl
 |k+1=>by simp only[hkO,zlA,nA p info k,mz];omega
theorem xO (k:Nat):ofNat (k+1)+ofNat 1=ofNat (k+1+1):=(UInt8.ofNat_add _ _).symm
theorem aSF (salt from_ info:List UInt8) (a b c n:Nat) (ha:salt.length=a) (hb:from_.length=b) (hc:info.length=c) (la:a<=1000000) (lb:b<=1000000) (lc:c<=1000000) (hn:n<=8160):
  Sx.Fn Γ.P 68 [.slx 1000 0 0 a,.slx 1001 0 0 b,.slx 1002 0 0 c,.i .i64 n] [(1000,.mem false 0 [(a,.a8 salt)]),(1001,.mem false 0 [(b,.a8 from_)]),(1002,.mem false 0 [(c,.a8 info)])]
   (λv M=>∃sp,v= .tup [.sl 1004 0 0 n n,.tt]/\M=[(1000,.mem false 0 [(a,.a8 salt)]),(1001,.mem false 0 [(b,.a8 from_)]),(1002,.mem false 0 [(c,.a8 info)]),
    (1004,.mem true sp [(32*((n+31)/32),.a8 (hkO (q7 salt from_) info ((n+31)/32)))])]):=by
 have hP:=aYI salt from_ a b ha hb (by omega) (by omega);have hpl:=dR salt from_;generalize q7 salt from_=p at hP hpl;refine aG (Γ:=Γ) (fn:=Tryz.f68) rfl rfl rfl rfl ?_;refine zB.i (λh=>absurd h (by omega)) (λ_=>?_);refine zB.i (λh=>absurd h (by omega)) (λ_=>?_);refine Call.i hP [(1000,(1000,0,none)),(1001,(1001,0,none))] rfl fc rfl fc rfl ?_;rintro _ _ ⟨rfl,rfl⟩;refine gB ?_
 refine aY.i (σ:=Nat×Nat) (λs=>s.1<=(n+31)/32/\32*s.1<=s.2)
  (λs=>([(2,.slx 1002 0 0 c),(3,.i .i64 n),(10,.ptr 10 0 none),(11,.sl 204 0 0 (32*s.1) s.2),(12,.sl 203 0 0 (hkT p info s.1).length (hkT p info s.1).length),(13,.u8 (ofNat (s.1+1)))],
   [(1000,.mem false 0 [(a,.a8 salt)]),(1001,.mem false 0 [(b,.a8 from_)]),(1002,.mem false 0 [(c,.a8 info)]),(10,.mem true 0 [(32,.a8 p)]),
    (203,.mem true 0 [((hkT p info s.1).length,.a8 (hkT p info s.1))]),(204,.mem true (s.2-32*s.1) [(32*s.1,.a8 (hkO p info s.1))])])) (λs=>(n+31)/32-s.1) (0,n+32) ⟨zero_le _,zero_le _⟩ ?_ ?_
 .refine Le.ghost [.own 203 [(0,.a8 [])]] [(12,203)] [(204,(27,0,none))] rfl ⟨rfl,rfl,trivial⟩ rfl rfl fc rfl fc rfl
 rintro⟨k,cc⟩ ⟨hk,hcc⟩;have hk:k<=(n+31)/32:=hk;have hcc:32*k<=cc:=hcc;have htl:=aUE p info k;have hol:=nA p info k;refine zB.i ?_ ?_<;>intro hq
 .have hq:((32*k:Nat):Int)<n:=hq
  have hs1:hkT p info (k+1)=q7 p (hkT p info k++info++[ofNat (k+1)]):=rfl;have hs2:hkO p info (k+1)=hkO p info k++hkT p info (k+1):=rfl;have htl1:=mz p info k;have hi8:=xO k;have hHt:=aYI p (hkT p info k++info++[ofNat (k+1)]) 32 ((hkT p info k).length+c+1) hpl (by rw[zlA,zlA,hc];rfl) (by omega) (by omega);rw[<-hs1]at hHt;generalize hT1:hkT p info (k+1)=T1 at *;generalize hTl:(hkT p info k).length=tl at *;generalize hkT p info k=T0 at *;generalize hX:T0++info++[ofNat (k+1)]=X at hHt;have hX2:X=[]++take tl (drop 0 T0)++take c (drop 0 info)++take 1 (drop 0 [ofNat (k+1)]):=by
   rw[drop_zero,drop_zero,drop_zero,take_of_length_le (by omega),take_of_length_le (by omega),List.nil_append,<-hX];rfl
  clear hs1 hX;refine gB ?_;refineλc1 hc1=>?_;refineλc2 hc2=>?_;refineλc3 hc3=>?_;have hc3:tl+c+1<=c3:=by have:0+tl+c+1<=c3:=hc3;omega
  refine gB ?_;refine Call.i hHt [(1000,(10,0,none)),(1001,(41,0,none))] rfl ?_ rfl ?_ rfl ?_
  .exact fc
  .repeat' first|exact trivial|refine zA.app ?_ ?_|refine zA.zd ?_ ?_|refine zA.cons ?_ ?_|exact fc|fail
   all_goals exact hX2
  rintro _ _ ⟨rfl,rfl⟩;refine gB ?_;refineλc4 hc4=>?_;have hc4:32*k+32<=c4:=hc4;refine gB ?_;have hT2:take 32 T1=T1:=take_of_length_le (by omega);refine⟨(k+1,c4),⟨by omega,by show 32*(k+1)<=c4;omega⟩,by show(n+31)/32-(k+1)<(n+31)/32-k;omega,Le.i [(203,(15,0,none)),(204,(48,0,none))] rfl ?_ rfl ?_ rfl⟩
  .exact fc
  repeat' (first|(show zA _;first|exact trivial|refine zA.app ?_ ?_|refine zA.zd ?_ ?_|refine zA.cons ?_ ?_)|with_reducible rfl|with_reducible assumption|omega |(simp only[bq,drop_zero,rng,Ix.val,zQ,addI,szs]<;>omega)|(simp only[bq,drop_zero,rng,Ix.val,zIn,zme,zQ,addI,Option.getD_none,Option.getD_some,zlT,zlD,zlA,List.length_set,length_replicate,szs, *]<;>omega)|(simp only[Ix.val];with_reducible assumption)|exact UInt8.toNat_lt _|(apply Eq.trans;(with_reducible assumption);exact rfl)|exact rfl|exactλ_ _=>rfl)
 have hq:¬((32*k:Nat):Int)<n:=hq;have hkk:k=(n+31)/32:=by omega
 subst hkk;refine gB ?_
 refine Ret.i (.tup [.sl 1004 0 0 n n,.tt]) [(1000,.mem false 0 [(a,.a8 salt)]),(1001,.mem false 0 [(b,.a8 from_)]),(1002,.mem false 0 [(c,.a8 info)]),
   (1004,.mem true (cc-32*((n+31)/32)) [(32*((n+31)/32),.a8 (hkO p info ((n+31)/32)))])] [(1004,(204,0,none))] rfl fc ⟨_,rfl,rfl⟩ rfl fc rfl fc rfl
end Go.Proofs.YtaehfiohjkiajaaGreat
namespace Go.Proofs.YtaehfiohjkiajaaGreat
open Go Go.Sx
def orS (a b:List UInt8):Nat->UInt8
 |0=>0
 |i+1=>orS a b i|||(a.getD i 0^^^b.getD i 0)
theorem aKR {x y:UInt8}:x|||y=0↔x=0/\y=0:=by
 constructor
 .intro h
  have h1:(x|||y).toNat=0:=by rw[h];rfl
  rw[UInt8.toNat_or]at h1;have h2:x.toNat=0:=by
   have:x.toNat<=x.toNat|||y.toNat:=Nat.left_le_or;omega
  have h3:y.toNat=0:=by
   have:y.toNat<=x.toNat|||y.toNat:=Nat.right_le_or;omega
  exact⟨UInt8.toNat_inj.1 h2,UInt8.toNat_inj.1 h3⟩
 rintro⟨rfl,rfl⟩;rfl
theorem aDL {x y:UInt8}:x^^^y=0↔x=y:=UInt8.xor_eq_zero_iff
theorem zZ (a b:List UInt8):∀i,orS a b i=0↔∀j,j<i->a.getD j 0=b.getD j 0
 |0=>⟨λ_ j h=>absurd h (Nat.not_lt_zero _),λ_=>rfl⟩
 |i+1=>by
  simp only[orS];rw[aKR,zZ a b i,aDL];constructor
  .rintro⟨h1,h2⟩ j hj
   rcases Nat.lt_or_ge j i with h|h
   .exact h1 j h
   obtain rfl:j=i:=by omega
   exact h2
  exactλh=>⟨λj hj=>h j (by omega),h i (by omega)⟩
theorem aTG {a b:List UInt8} {n:Nat} (ha:a.length=n) (hb:b.length=n):orS a b n=0↔a=b:=by
 rw[zZ];constructor
 .intro h
  apply List.ext_getElem (by omega);intro i h1 h2;have:=h i (by omega)
  rwa [List.getD_eq_getElem?_getD,List.getD_eq_getElem?_getD,List.getElem?_eq_getElem h1,List.getElem?_eq_getElem h2]at this
 intro h j _;rw[h]
theorem aaG (a b:List UInt8) (n m:Nat) (ha:a.length=n) (hb:b.length=m) (hmax:n<=9223372036854775807):Sx.Fn Γ.P 35 [.slx 1000 0 0 n,.slx 1001 0 0 m] [(1000,.mem false 0 [(n,.a8 a)]),(1001,.mem false 0 [(m,.a8 b)])]
  (λv M=>v= .bool (a=b)/\M=[(1000,.mem false 0 [(n,.a8 a)]),(1001,.mem false 0 [(m,.a8 b)])]):=by
 refine aG (Γ:=Γ) (fn:=Tryz.f35) rfl rfl rfl rfl ?_;refine zB.i ?_ ?_<;>intro h
 .have h:¬(n:Int)=m:=h
  refine Ret.i (.bool (a=b)) [(1000,.mem false 0 [(n,.a8 a)]),(1001,.mem false 0 [(m,.a8 b)])] [] rfl trivial ⟨rfl,rfl⟩ rfl ?_ rfl ?_ rfl
  .show¬a=b
   intro e;rw[e]at ha;omega
  exact fc
 have h:¬¬(n:Int)=m:=h;obtain rfl:n=m:=by omega
 refine gB ?_
 refine aY.i (σ:=Nat) (λi=>i<=n)
  (λi=>([(0,.slx 1000 0 0 n),(1,.slx 1001 0 0 n),(5,.u8 (orS a b i)),(13,.i .i64 n),(14,.i .i64 i)],[(1000,.mem false 0 [(n,.a8 a)]),(1001,.mem false 0 [(n,.a8 b)])])) (λi=>n-i) 0 (zero_le _) ?_ ?_
 .have hz:orS a b 0=0:=rfl
  refine Le.i [] rfl fc rfl fc rfl
 rintro i hi;refine zB.i ?_ ?_<;>intro hc
 .have hc:(i:Int)<n:=hc
  have hs:orS a b (i+1)=orS a b i|||(a.getD i 0^^^b.getD i 0):=rfl
  refine aH.i [[],[],[],[1,2],[1,2,3],[],[],[5,6],[5,6,7],[1,2,3,4,5,6,7,8],ek,fe] kX (by kernel_rfl) ?_;refine gC ?_;refine⟨i+1,by omega,by omega,Le.i [] rfl fcn rfl fc rfl⟩
 obtain rfl:i=n:=by have hc:¬(i:Int)<n:=hc;omega
 have he:=aTG ha hb;refine gB ?_;refine Ret.i (.bool (a=b)) [(1000,.mem false 0 [(i,.a8 a)]),(1001,.mem false 0 [(i,.a8 b)])] [] rfl trivial ⟨rfl,rfl⟩ rfl ?_ rfl ?_ rfl
 .exact he.symm
 exact fc
end Go.Proofs.YtaehfiohjkiajaaGreat
namespace Go.Proofs.YtaehfiohjkiajaaGreat
open Go Go.Sx
def r1 (a b:Nat):Nat->Nat
 |0=>0
 |i+1=>if b/2^i&&&1=1 then r1 a b i^^^a*2^i else r1 a b i
def r2 (p:Nat):Nat->Nat
 |0=>p
 |k+1=>if r2 p k/2^(14-k)&&&1=1 then r2 p k^^^283*2^(6-k)else r2 p k
end Go.Proofs.YtaehfiohjkiajaaGreat
namespace Go.Proofs.YtaehfiohjkiajaaGreat
open Go Go.Sx
def W4 (l:List Nat):Prop:=∃a b c d,l=[a,b,c,d]/\a<256/\b<256/\c<256/\d<256
theorem W4.lt {t:List Nat} (h:W4 t):∀j,t.getD j 0<256:=by
 obtain⟨a,b,c,d,rfl,h1,h2,h3,h4⟩:=h;intro j
 match j with
 |0=>exact h1
 |1=>exact h2
 |2=>exact h3
 |3=>exact h4
 |_+4=>exact Nat.zero_lt_succ _
theorem W4.length {t:List Nat} (h:W4 t):t.length=4:=by
 obtain⟨a,b,c,d,rfl,_⟩:=h;rfl
end Go.Proofs.YtaehfiohjkiajaaGreat
namespace Go.Proofs.YtaehfiohjkiajaaGreat
open Go Go.Sx
def B16 (l:List Nat):Prop:=l.length=16/\∀j,l.getD j 0<256
theorem B16.zero:B16 (replicate 16 0):=⟨rfl,λj=>by
 rw[List.getD_eq_getElem?_getD,List.getElem?_replicate];split <;>exact Nat.zero_lt_succ _⟩
theorem B16.set {l:List Nat} (h:B16 l) (i:Nat) {x:Nat} (hx:x<256):B16 (l.set i x):=⟨by rw[List.length_set];exact h.1,λj=>by
 rw[List.getD_eq_getElem?_getD,List.getElem?_set];split
 .split
  .exact hx
  exact Nat.zero_lt_succ _
 rw[<-List.getD_eq_getElem?_getD];exact h.2 j⟩
structure OkW (W:List (List Nat)):Prop where
 ok:∀q,q<60->W4 (W.getD q [])
theorem OkW.lt {W:List (List Nat)} (h:OkW W) {q:Nat} (hq:q<60) (j:Nat):(W.getD q []).getD j 0<256:=(h.ok q hq).lt j
end Go.Proofs.YtaehfiohjkiajaaGreat
namespace Go.Proofs.YtaehfiohjkiajaaGreat
open Go Go.Sx
def tr (b:List UInt8):List Nat:=[(b.getD 0 0).toNat,(b.getD 4 0).toNat,(b.getD 8 0).toNat,(b.getD 12 0).toNat,(b.getD 1 0).toNat,(b.getD 5 0).toNat,(b.getD 9 0).toNat,(b.getD 13 0).toNat,(b.getD 2 0).toNat,(b.getD 6 0).toNat,(b.getD 10 0).toNat,(b.getD 14 0).toNat,(b.getD 3 0).toNat,(b.getD 7 0).toNat,(b.getD 11 0).toNat,(b.getD 15 0).toNat]
end Go.Proofs.YtaehfiohjkiajaaGreat
namespace Go.Proofs.YtaehfiohjkiajaaGreat
open Go Go.Sx
def aPG:List UInt8:=[ofNat 115,ofNat 101,ofNat 97,ofNat 108]
@[irreducible] def kyO (key:List UInt8):List UInt8:=hkO (q7 [] key) aPG 3
theorem jU (key:List UInt8):(kyO key).length=96:=by unfold kyO;rw[nA]
@[irreducible] def kyA (key:List UInt8):List UInt8:=(kyO key).take 32
@[irreducible] def kyS (key:List UInt8):List UInt8:=((kyO key).drop 32).take 32
@[irreducible] def kyG (key:List UInt8):List UInt8:=((kyO key).drop 64).take 16
theorem ms (key:List UInt8):(kyA key).length=32:=by unfold kyA;rw[zlT,jU];rfl
theorem mr (key:List UInt8):(kyS key).length=32:=by unfold kyS;rw[zlT,zlD,jU];rfl
theorem jV (key:List UInt8):(kyG key).length=16:=by unfold kyG;rw[zlT,zlD,jU];rfl
theorem aT4 (key:List UInt8):kyA key=(kyO key).take 32:=by unfold kyA;rfl
theorem aT2 (key:List UInt8):kyS key=((kyO key).drop 32).take 32:=by unfold kyS;rfl
theorem aT3 (key:List UInt8):kyG key=((kyO key).drop 64).take 16:=by unfold kyG;rfl
theorem aIE {X r:List UInt8} {m:Nat} (h:X.length=m) (hr:r.length=m):X=take ((none:Option Nat).getD 0) r++take (min X.length m) X++drop ((none:Option Nat).getD 0+min X.length m) r:=by
 rw[Option.getD_none,List.take_zero,List.nil_append,h,Nat.min_self,Nat.zero_add,List.drop_of_length_le (by omega),List.append_nil,take_of_length_le (by omega)]
theorem acI (key:List UInt8) (hk:key.length=32):Sx.Fn Γ.P 32 [.a8 key] [] (λv M=>v= .tup [.a8 (kyA key),.a8 (kyS key),.a8 (kyG key)]/\M=[]):=by
 have hH:=aSF [] key aPG 0 32 4 80 rfl hk rfl (by omega) (by omega) (by omega) (by omega);have eO:kyO key=hkO (q7 [] key) aPG ((80+31)/32):=by unfold kyO;rfl
 have hl:=jU key;rw[<-eO]at hH;refine aG (Γ:=Γ) (fn:=Tryz.f32) rfl rfl rfl rfl ?_;refine gB ?_;refine Call.name [(2001,[(0,.a8 [])]),(0,[]),(0,[]),(0,[])] rfl ?_ (kW.i hH [(1000,(2001,0,none)),(1001,(1,0,none)),(1002,(9,0,none)),(1004,(304,0,none))] rfl ?_ rfl ?_ rfl ?_)
 .exact⟨rfl,rfl,trivial⟩
 .exact fc
 .exact fc
 rintro v M' ⟨sp,rfl,rfl⟩;refine gN ?_;refine gB ?_;refine aH.i [[],[],[1],[0,1,2]] r_4 (by kernel_rfl) ?_;refine gB ?_;refine aH.i [[],[],[1],[0,1,2]] r_4 (by kernel_rfl) ?_;refine gB ?_;refine aH.i [[],[],[1],[0,1,2]] r_4 (by kernel_rfl) ?_;refine gB ?_;refine Ret.i (.tup [.a8 (kyA key),.a8 (kyS key),.a8 (kyG key)]) [] [] rfl ?_ ⟨rfl,rfl⟩ rfl ?_ rfl ?_ rfl
 .exact fc
 .have lA:=ms key
  have lS:=mr key;have lG:=jV key;rw[aT4]at lA⊢;rw[aT2]at lS⊢;rw[aT3]at lG⊢
  repeat' first|exact trivial|refine zA.app ?_ ?_|refine zA.zd ?_ ?_|refine zA.cons ?_ ?_|exact fc|fail
  .exact aIE lA rfl
  .exact aIE lS rfl
  exact aIE lG rfl
 exact fc
end Go.Proofs.YtaehfiohjkiajaaGreat
namespace Go.Proofs.YtaehfiohjkiajaaGreat
open Go Go.Sx
@[irreducible] def seB (key plain:List UInt8):List UInt8:=bu (kyA key) (kyG key) plain++(q7 (kyS key) (bu (kyA key) (kyG key) plain)).take 16
@[irreducible] def seS (key plain:List UInt8):List UInt8:=if plain.length<=1024 then seB key plain else[]
theorem aM8 {key plain:List UInt8} (h:plain.length<=1024):seS key plain=seB key plain:=by unfold seS;exact if_pos h
theorem aPH {key plain:List UInt8} (h:¬plain.length<=1024):seS key plain=[]:=by unfold seS;exact if_neg h
theorem aEU (key plain:List UInt8):seB key plain=bu (kyA key) (kyG key) plain++(q7 (kyS key) (bu (kyA key) (kyG key) plain)).take 16:=by unfold seB;rfl
theorem kS {key bg plain:List UInt8} {n:Nat} (hb:bg.length=16) (hn:plain.length=n):(bu key bg plain).length=n/16*16+16:=by
 rw[jm key hb,hn];omega
theorem rP {key plain:List UInt8} {n:Nat} (hn:plain.length=n):(seB key plain).length=n/16*16+32:=by
 rw[aEU,zlA,kS (jV key) hn,zlT,dR];omega
theorem aQ8 (key plain:List UInt8) (n:Nat) (hk:key.length=32) (hn:plain.length=n):
  Sx.Fn Γ.P 14 [.agg [(1,.nilp)],.a8 key,.slx 1003 0 0 n] [(1003,.mem false 0 [(n,.a8 plain)])]
  (λv M=>∃m c,(seS key plain).length=m/\m<=c/\v= .tup [.sl 1006 0 0 m c,.bool (n<=1024)]/\M=[(1003,.mem false 0 [(n,.a8 plain)]),(1006,.mem true (c-m) [(m,.a8 (seS key plain))])]):=by
 refine aG (Γ:=Γ) (fn:=Tryz.f14) rfl rfl rfl rfl ?_;refine gB ?_;refine zB.i ?_ ?_<;>intro hc
 .have hc:(n:Int)>1024:=hc
  have e:seS key plain=[]:=aPH (by omega);refine gB ?_;refine Ret.ghost [.own 450 [(0,.a8 [])]] [(6,450)] rfl ⟨rfl,rfl,trivial⟩ rfl (.tup [.sl 1006 0 0 0 0,.bool (n<=1024)]) [(1003,.mem false 0 [(n,.a8 plain)]),(1006,.mem true (0-0) [(0,.a8 (seS key plain))])] [(1006,(450,0,none))] rfl fc ⟨0,0,by rw[e];rfl,Nat.le_refl _,rfl,rfl⟩ rfl fc rfl fc rfl
 have hc:¬(n:Int)>1024:=hc;have e:=aM8 (key:=key) (show plain.length<=1024 by omega);have hkl:=ms key;have hgl:=jV key;have hsl:=mr key;have hL:=aaH (kyA key) (kyG key) plain n hkl hgl hn (by omega);obtain⟨X,hX⟩:∃X,bu (kyA key) (kyG key) plain=X:=⟨_,rfl⟩;obtain⟨N,hN⟩:∃N,n/16*16+16=N:=⟨_,rfl⟩;have hXl:X.length=N:=by rw[<-hX,<-hN,kS hgl hn]
 have eB:seS key plain=X++(q7 (kyS key) X).take 16:=by rw[e,aEU,hX]
 rw[hX,hN]at hL;have hml:=dR (kyS key) X;refine gB ?_;refine zB.i (λhn=>absurd trivial hn) (λ_=>?_);refine gB ?_;refine Call.i (acI key hk) [] rfl fc rfl trivial rfl ?_;rintro _ _ ⟨rfl,rfl⟩;refine gN ?_;refine gB ?_;refine Call.i hL [(1000,(1003,0,none)),(1001,(301,0,none))] rfl fc rfl fc rfl ?_;rintro v M' ⟨c,hcc,rfl,rfl⟩;refine gN ?_;refine gB ?_;refine Call.i (aYI (kyS key) X 32 N hsl hXl (by omega) (by omega)) [(1000,(12,0,none)),(1001,(301,0,none))] rfl fc rfl fc rfl ?_;rintro _ _ ⟨rfl,rfl⟩;refine gN ?_;refine gB ?_;refineλc2 hc2=>?_;have hc2:N+16<=c2:=hc2;refine gB ?_;refine Ret.i (.tup [.sl 1006 0 0 (N+16) c2,.bool (n<=1024)]) [(1003,.mem false 0 [(n,.a8 plain)]),(1006,.mem true (c2-(N+16)) [(N+16,.a8 (seS key plain))])] [(1006,(56,0,none))] rfl ?_ ⟨N+16,c2,by rw[eB,zlA,hXl,zlT,hml];rfl,hc2,rfl,rfl⟩ rfl ?_ rfl ?_ rfl
 .exact fc
 .exact fc
 rw[eB];exact fc
end Go.Proofs.YtaehfiohjkiajaaGreat
namespace Go.Proofs.YtaehfiohjkiajaaGreat
open Go Go.Sx
theorem aU5 {A B X:List UInt8} {n:Nat} (h:X=A++B) (hA:A.length=n):X.take n=A/\X.drop n=B:=by
 subst h;subst hA;exact⟨List.take_left' rfl,List.drop_left' rfl⟩
theorem aRA (key plain:List UInt8) (n m:Nat) (hk:key.length=32) (hn:plain.length=n) (hn1:n<=1024) (hm:n/16*16+32=m):
  Sx.Fn Γ.P 15 [.agg [(1,.nilp)],.a8 key,.slx 1003 0 0 m] [(1003,.mem false 0 [(m,.a8 (seB key plain))])]
  (λv M=>∃n0 U sp,U.take n=plain/\n<=n0/\U.length=n0/\v= .tup [.sl 1006 0 0 n n,.tt]/\M=[(1003,.mem false 0 [(m,.a8 (seB key plain))]),(1006,.mem true sp [(n0,.a8 U)])]):=by
 have hkl:=ms key;have hgl:=jV key;have hsl:=mr key;obtain⟨N,hN⟩:∃N,n/16*16+16=N:=⟨_,rfl⟩;have hNm:N+16=m:=by omega
 have hBl:=rP (key:=key) hn;have hX:=aEU key plain;have hXl:=kS (key:=kyA key) (plain:=plain) hgl hn;have hb:=aMJ hkl hgl plain;obtain⟨X,hXe⟩:∃X,bu (kyA key) (kyG key) plain=X:=⟨_,rfl⟩;rw[hXe]at hX hXl hb;rw[hN]at hXl;rw[hm]at hBl;obtain⟨S,hS⟩:∃S,seB key plain=S:=⟨_,rfl⟩;rw[hS]at hX hBl⊢;obtain⟨hT,hD⟩:=aU5 hX hXl;have hml:=dR (kyS key) X;have hU:=aaF (kyA key) (kyG key) X N hkl hgl hXl (by omega);unfold aD2 at hU;rw[hb]at hU;have hM:=aYI (kyS key) X 32 N hsl hXl (by omega) (by omega);have hSz:=ab1 1024;rw[mO (by omega) (by omega),show(1024:Int)/16*16+32=1056 by rfl]at hSz;have hSa:=aaG ((q7 (kyS key) X).take 16) ((q7 (kyS key) X).take 16) 16 16 (by rw[zlT,hml];rfl) (by rw[zlT,hml];rfl) (by omega);refine aG (Γ:=Γ) (fn:=Tryz.f15) rfl rfl rfl rfl ?_;refine gB ?_;refine zB.i (λhc=>?_) (λ_=>?_)
 .have hc:(m:Int)<32:=hc
  exact absurd hc (by omega)
 refine gB ?_;refine Call.pure hSz rfl fc ?_;rintro _ rfl;refine gB ?_;refine zB.i (λhc=>?_) (λ_=>?_)
 .have hc:(m:Int)>1056:=hc
  exact absurd hc (by omega)
 refine gB ?_;refine zB.i (λhn=>absurd trivial hn) (λ_=>?_);refine gB ?_;refine Call.i (acI key hk) [] rfl fc rfl trivial rfl ?_;rintro _ _ ⟨rfl,rfl⟩;refine gN ?_;refine gB ?_;refine aH.i [[],[],[1],[1,2],[],[4],[4,5],r_7,[],[],[9],[9,10],[8,9,10,11],r_8,oB] nw (by kernel_rfl) ?_;refine gB ?_;have eT:X=take N (drop 0 S):=by rw[drop_zero,hT]
 have eQ:(q7 (kyS key) X).take 16=take 16 (drop 0 (q7 (kyS key) X)):=by rw[drop_zero]
 have eD:(q7 (kyS key) X).take 16=take 16 (drop N S):=by
  rw[hD];rw[take_of_length_le (l:=(q7 (kyS key) X).take 16)];rw[zlT,hml];exact Nat.le_refl _
 refine Call.i hM [(1000,(15,0,none)),(1001,(1003,0,some 0))] rfl fc rfl fc rfl ?_;rintro _ _ ⟨rfl,rfl⟩;refine gN ?_;refine gB ?_;refine Call.i hSa [(1000,(19,0,some 0)),(1001,(1003,0,some N))] rfl fc rfl fc rfl ?_;rintro _ _ ⟨rfl,rfl⟩;refine gN ?_;refine gB ?_;refine zB.i (λhc=>absurd rfl hc) (λ_=>?_);refine gB ?_;refine Call.i hU [(1000,(1003,0,some 0)),(1001,(301,0,none))] rfl fc rfl fc rfl ?_;rintro v M' (⟨hc,_⟩|⟨n1,s,sp,h1,h2,h3,h4,h5,rfl,rfl⟩)
 .cases hc
 cases h1;rw[hn]at h2;subst h2;refine gN ?_;refine gB ?_;refine Ret.i (.tup [.sl 1006 0 0 n n,.tt]) [(1003,.mem false 0 [(m,.a8 S)]),(1006,.mem true sp [(N,.a8 (iV (kyA key) (kyG key) X))])] [(1006,(301,0,none))] rfl fc ⟨N,_,sp,h3,h4,h5,rfl,rfl⟩ rfl fc rfl fc rfl
end Go.Proofs.YtaehfiohjkiajaaGreat
namespace Go.Proofs.YtaehfiohjkiajaaGreat
open Go Go.Sx
theorem zu (q:Nat):kyB (q+1)=kC (q+1):=rfl
theorem aWR {S:List UInt8} {o n m:Nat} (hS:S=aDE o n) (hm:n/16*16+32=m):kyB o=take 0 (replicate 32 (0:UInt8))++take (min S.length 32) S++drop (0+min S.length 32) (replicate 32 0):=by
 have h:=oy o n;have hk:=zk o;subst hS;rw[h,hm,Nat.min_eq_right (by omega),List.take_zero,List.nil_append,aET,Nat.zero_add,List.drop_replicate,Nat.sub_self,List.replicate_zero,List.append_nil]
theorem aLX (T:List Te) (N:Nat) (hT:T.length=N) (hN:N<=60000) (hTv:∀x∈T,bP x.1 x.2) (key plain:List UInt8) (n m q:Nat) (hk:key.length=32) (hn:plain.length=n) (hn1:n<=1024) (hm:n/16*16+32=m) (hq:q<N) (hx:T.getD q te0=(8,[key,plain])):
  Sx.Fn Γ.P 15 [.agg [(1,.ptr 1000 0 none)],.a8 key,.slx 1003 0 0 m] [(1003,.mem false 0 [(m,.a8 (aDE (q+1) n))]),(1000,.mem false 0 [(1,.slx 1001 0 0 N),(1,.mp 1002)]),(1001,.mem false 0 [(N*3,.arr N 3 (ttF T))]),(1002,.dead)]
  (λv M=>v= .tup [.isl 0 n 1 [(n,.a8 plain)],.tt]/\M=[(1003,.mem false 0 [(m,.a8 (aDE (q+1) n))]),(1000,.mem false 0 [(1,.slx 1001 0 0 N),(1,.mp 1002)]),(1001,.mem false 0 [(N*3,.arr N 3 (ttF T))]),(1002,.dead)]):=by
 obtain⟨S,hS⟩:∃S,aDE (q+1) n=S:=⟨_,rfl⟩;have hSl:S.length=m:=by rw[<-hS,oy,hm]
 have hSz0:∀i,S.getD (32+i) 0=0:=λi=>by rw[<-hS];exact aES (by omega)
 have hnum:=uo (z:=q+1) (most:=N) (by omega) (by omega) (by omega);have hOf:=abW T N hT hN hTv (kyB (q+1)) (zk _);rw[zu,hnum]at hOf;have eK:=aWR (S:=S) (o:=q+1) hS.symm hm;rw[zu]at eK;have eD:take m (drop 0 S)=S:=by rw[drop_zero,take_of_length_le (by omega)]
 have hSz:=ab1 (n:Int);rw[mO (by omega) (by omega),show(n:Int)/16*16+32=(m:Int) by omega]at hSz;have hSx:=ab1 1024;rw[mO (by omega) (by omega),show(1024:Int)/16*16+32=1056 by rfl]at hSx;rw[hS];refine aG (Γ:=Γ) (fn:=Tryz.f15) rfl rfl rfl rfl ?_;refine gB ?_;refine zB.i (λhc=>?_) (λ_=>?_)
 .have hc:(m:Int)<32:=hc
  exact absurd hc (by omega)
 refine gB ?_;refine Call.pure hSx rfl fc ?_;rintro _ rfl;refine gB ?_;refine zB.i (λhc=>?_) (λ_=>?_)
 .have hc:(m:Int)>1056:=hc
  exact absurd hc (by omega)
 refine gB ?_;refine zB.i (λ_=>?_) (λhn=>absurd hn (by simp));refine gB ?_;refine Call.i hOf [(1000,(1000,0,none)),(1001,(1001,0,none)),(1002,(1002,0,none)),(1005,(305,0,none))] rfl ?_ rfl ?_ rfl ?_
 .repeat' first|exact trivial|refine zA.app ?_ ?_|refine zA.zd ?_ ?_|refine zA.cons ?_ ?_|exact fc|fail
  all_goals(rw[eD];exact eK)
 .exact fc
 rintro v M' (⟨hz,_,_⟩|⟨q1,L,k,c,h1,h2,h3,h4,h5,rfl,rfl⟩)
 .cases hz
 cases h1;rw[hx]at h3;obtain rfl:[key,plain]=L:=h3;obtain rfl:2=k:=h4;refine gN ?_;rw[hx];refine gB ?_;have eT:take 32 key=key:=take_of_length_le (by omega);refine aH.i [[],[0],[0,1],[0,1,2],r_4,r_5,r_6,r_7,r_8,r_9,ek,fe,r_8,[0,1,2,3,4,5,6,7,12],oB,nw,na,wG,aBU,wG,[0,1,2,3,4,5,6,7,8,9,10,11,12,13,14,15,16,19],[0,1,2,3,4,5,6,7,8,9,10,11,12,13,14,15,16,19,20],[0,1,2,3,4,5,6,7,8,9,10,11,12,13,14,15,16,19,20,21],[0,1,2,3,4,5,6,7,8,9,10,11,12,13,14,15,16,19,20,21,22],aW5,aW4] aaZ (by kernel_rfl) ?_
 repeat(first|refine sd ?_|(refine zB.i (λh=>False.elim (by revert h;first|(simp;done)|(simp;rw[eT];rfl))) (λ_=>?_)))
 refine Call.pure hSz rfl ?_ ?_
 .repeat' first|exact trivial|refine zA.app ?_ ?_|refine zA.zd ?_ ?_|refine zA.cons ?_ ?_|exact fc|fail
  all_goals(show(n:Int)=((plain.length:Nat):Int);rw[hn])
 rintro _ rfl;refine cL.auto rfl rfl ?_
 repeat(first|refine sd ?_|(refine zB.i (λh=>False.elim (by revert h;first|(simp;done)|(simp;rw[eT];rfl))) (λ_=>?_)))
 refine aY.i (σ:=Nat) (λi=>i<=m-32)
  (λi=>([(10,.sl 305 0 0 2 c),(70,.slx 1003 0 32 (m-32)),(71,.i .i64 ((m-32:Nat):Int)),(72,.i .i64 (i:Int))],
   [(1003,.mem false 0 [(m,.a8 S)]),(1000,.mem false 0 [(1,.slx 1001 0 0 N),(1,.mp 1002)]),(1001,.mem false 0 [(N*3,.arr N 3 (ttF T))]),(1002,.dead),(305,.mem true (c-2) [(2*1,.arr 2 1 (rwF [key,plain]))])]))
  (λi=>m-32-i) 0 (zero_le _) ?_ ?_
 .refine Le.i [] rfl fc rfl fc rfl
 rintro i hi;have hi:i<=m-32:=hi;refine zB.i ?_ ?_<;>intro hc
 .have hc:(i:Int)<((m-32:Nat):Int):=hc
  have hz:=hSz0 i;refine gC ?_;refine zB.i (λh=>absurd (show S.getD (fL 32 (i:Int).toNat) 0=ofNat 0 by rw[zQ,zIn];exact hz) h) (λ_=>?_);refine gC ?_;refine⟨i+1,by show i+1<=m-32;omega,by show m-32-(i+1)<m-32-i;omega,Le.i [] rfl fc rfl fc rfl⟩
 refine gB ?_;refine Ret.i (.tup [.isl 0 n 1 [(n,.a8 plain)],.tt]) [(1003,.mem false 0 [(m,.a8 S)]),(1000,.mem false 0 [(1,.slx 1001 0 0 N),(1,.mp 1002)]),(1001,.mem false 0 [(N*3,.arr N 3 (ttF T))]),(1002,.dead)] [] rfl ?_ ⟨rfl,rfl⟩ rfl ?_ rfl ?_ rfl
 .exact fc
 .repeat' first|exact trivial|refine zA.app ?_ ?_|refine zA.zd ?_ ?_|refine zA.cons ?_ ?_|exact fc|fail
  .exact hn.symm
  show n=plain.length*1;omega
 exact fc
end Go.Proofs.YtaehfiohjkiajaaGreat
namespace Go.Proofs.YtaehfiohjkiajaaGreat
open Go Go.Sx
theorem aLR:Sx.Fn Γ.P 13 [.agg [(1,.ptr 1000 0 none)]] [(1000,.dead)] (λv M=>v= .ptr 1000 0 none/\M=[(1000,.dead)]):=by
 refine aG (Γ:=Γ) (fn:=Tryz.f13) rfl rfl rfl rfl ?_;refine gB ?_;refine Ret.i (.ptr 1000 0 none) [(1000,.dead)] [] rfl fc ⟨rfl,rfl⟩ rfl fc rfl fc rfl
theorem aLQ:Sx.Fn Γ.P 13 [.agg [(1,.nilp)]] [] (λv M=>v= .nilp/\M=[]):=by
 refine aG (Γ:=Γ) (fn:=Tryz.f13) rfl rfl rfl rfl ?_;refine gB ?_;refine Ret.i .nilp [] [] rfl fc ⟨rfl,rfl⟩ rfl fc rfl fc rfl
def textB:List UInt8:=[ofNat 116,ofNat 101,ofNat 120,ofNat 116]
theorem aQB {key plain:List UInt8} (hk:key.length<=1024) (hp:plain.length<=1024):mx8 [] key plain=([(8,[key,plain])],1):=by
 rw[aF0,kE (x:=(8,_)) ⟨z6 hk hp,by show(1:Int)<=8;decide,by show(8:Int)<=8;decide⟩ rfl];rfl
theorem aJZ {key plain:List UInt8} (hk:key.length<=1024) (hp:plain.length<=1024):∀x∈([(8,[key,plain])]:List Te),bP x.1 x.2:=by
 intro x hx;rw[List.mem_singleton.1 hx];exact⟨z6 hk hp,by show(1:Int)<=8;decide,by show(8:Int)<=8;decide⟩
theorem fn4:Sx.Fn Γ.P 4 [] [] (λv _=>v= .tt):=by
 obtain⟨key,hkey⟩:∃key:List UInt8,(ofNat 1::replicate 31 0:List UInt8)=key:=⟨_,rfl⟩;have hk:key.length=32:=by rw[<-hkey];rfl
 have htl:textB.length=4:=rfl;have hSR:=aQ8 key textB 4 hk htl;have hOR:=aRA key textB 4 32 hk htl (by omega) (by omega);have eR:seS key textB=seB key textB:=aM8 (by rw[htl];omega);have eRl:(seB key textB).length=32:=rP htl;have hmx:=aQB (key:=key) (plain:=textB) (by omega) (by rw[htl];omega);have hSF:=aQ9 [] 0 0 rfl (by omega) (Nat.le_refl _) ib key textB 4 32 hk htl (by omega) (by omega) [(8,[key,textB])] 1 (by rw[hmx]) (by rw[hmx]);have hOF:=aLX [(8,[key,textB])] 1 rfl (by omega) (aJZ (by omega) (by rw[htl];omega)) key textB 4 32 0 hk htl (by omega) (by omega) (by omega) rfl;have hSz:=ab1 16;rw[mO (by omega) (by omega),show(16:Int)/16*16+32=48 by rfl]at hSz;rw[eR]at hSR;unfold tbM at hSF;unfold textB at hSR hOR hSF hOF;refine aG (Γ:=Γ) (fn:=Tryz.f4) rfl rfl rfl rfl ?_;refine gB ?_;refine aY.i (σ:=Nat) (λi=>i<=2) (λi=>([(1,.i .i64 (i:Int))],[])) (λi=>2-i) 0 (zero_le _) ?_ ?_
 .refine Le.i [] rfl fc rfl fc rfl
 rintro i hi;have hi:i<=2:=hi;refine gB ?_;refine zB.i ?_ ?_<;>intro hc
 .have hc:(i:Int)<2:=hc
  obtain rfl|rfl:i=0\/i=1:=by omega
  .refine gB ?_
   refine Call.i tN [] rfl fc rfl trivial rfl ?_;rintro _ _ ⟨rfl,rfl⟩;refine gN ?_;refine gB ?_;refine Call.i aLQ [] rfl fc rfl trivial rfl ?_;rintro _ _ ⟨rfl,rfl⟩;refine gN ?_;refine gB ?_;refine zB.i (λh=>False.elim (by revert h;simp)) (λ_=>?_);refine gB ?_;refine Call.i hSR [(1003,(23,0,none)),(1006,(306,0,none))] rfl fc rfl fc rfl ?_;rintro v M' ⟨m,c,hm,hmc,rfl,rfl⟩;have hm2:32=m:=by rw[<-hm];exact eRl.symm
   subst hm2;refine gN ?_;refine gB ?_;refine Call.i hOR [(1003,(306,0,none)),(1006,(406,0,none))] rfl fc rfl fc rfl ?_;rintro v M' ⟨n0,U,sp,hU,hn0,hUl,rfl,rfl⟩;refine gN ?_;refine gB ?_
   repeat(first|refine sd ?_|(refine zB.i (λh=>False.elim (by revert h;first|(simp;done)|(simp;exact hU))) (λ_=>?_)))
   refine⟨0+1,by omega,by omega,Le.i [] rfl fc rfl fc rfl⟩
  refine gB ?_;refine Call.i tO [(1000,(1000,0,none)),(1001,(1001,0,none)),(1002,(1002,0,none))] rfl fc rfl fc rfl ?_;rintro _ _ ⟨rfl,rfl⟩;refine gN ?_;refine gB ?_;refine Call.i aLR [(1000,(1000,0,none))] rfl fc rfl trivial rfl ?_;rintro _ _ ⟨rfl,rfl⟩;refine gN ?_;refine gB ?_;refine zB.i (λh=>False.elim (by revert h;simp)) (λ_=>?_);refine gB ?_;refine Call.name [(0,[]),(0,[]),(1,[])] rfl fc (kW.i hSF [(1000,(1000,0,none)),(1001,(1001,0,none)),(1002,(1002,0,none)),(1005,(305,0,none)),(1006,(306,0,none))] rfl fc rfl fc rfl ?_);rintro v M' ⟨n',c',hn',hnc',rfl,rfl⟩;obtain rfl:1=n':=hn';refine gN ?_;refine gB ?_;refine Call.i hOF [(1003,(306,0,none)),(1000,(1000,0,none)),(1001,(305,0,none)),(1002,(1002,0,none))] rfl fc rfl fc rfl ?_;rintro _ _ ⟨rfl,rfl⟩;refine gN ?_;refine gB ?_
  repeat(first|refine sd ?_|(refine zB.i (λh=>False.elim (by revert h;simp)) (λ_=>?_)))
  refine⟨1+1,by omega,by omega,Le.i [] rfl fc rfl fc rfl⟩
 refine gB ?_;refine Call.pure hSz rfl fc ?_;rintro _ rfl;refine gB ?_;refine Ret.i .tt [] [] rfl fc rfl rfl fc rfl fc rfl
end Go.Proofs.YtaehfiohjkiajaaGreat
namespace Go.Proofs.YtaehfiohjkiajaaGreat
open Go Go.Sx
theorem aHR {x:Te}:∀{T r:List Te} {i:Nat},fdT x T=i+1->fdT x (T++r)=i+1
 |[],_,_,h=>by simp[fdT]at h
 |y::t,r,i,h=>by
  by_cases hy:y=x
  .simp only[fdT,if_pos hy,List.cons_append]at h⊢;exact h
  simp only[fdT,if_neg hy,List.cons_append]at h⊢;cases hf:fdT x t with
  |zero=>rw[hf]at h;cases h
  |succ j=>rw[hf]at h;rw[aHR hf];exact h
theorem aAK {x:Te}:∀{T:List Te} {i:Nat},fdT x T=i+1->T.getD i te0=x
 |[],_,h=>by simp[fdT]at h
 |y::t,i,h=>by
  by_cases hy:y=x
  .simp only[fdT,if_pos hy]at h
   obtain rfl:i=0:=by omega
   exact hy
  simp only[fdT,if_neg hy]at h;cases hf:fdT x t with
  |zero=>rw[hf]at h;cases h
  |succ j=>
   rw[hf]at h;have h:j+2=i+1:=h;obtain rfl:i=j+1:=by omega
   exact(aAK hf:t.getD j te0=x)
def Num (T:List Te) (x:Te) (o:Nat):Prop:=fdT x T=o/\o≠0
def Ext (A B:List Te):Prop:=∀y o,Num A y o->Num B y o
theorem Ext.refl (A:List Te):Ext A A:=λ_ _ h=>h
theorem Ext.trans {A B C:List Te} (h:Ext A B) (k:Ext B C):Ext A C:=λy o n=>k y o (h y o n)
theorem Ext.mk (T:List Te) (x:Te):Ext T (mkT T x).1:=by
 rintro y o ⟨h,h0⟩;obtain⟨i,rfl⟩:∃i,o=i+1:=⟨o-1,by omega⟩;by_cases hV:bP x.1 x.2
 .cases hf:fdT x T with
  |zero=>rw[kE hV hf];exact⟨aHR h,h0⟩
  |succ j=>rw[mf hV hf];exact⟨h,h0⟩
 rw[rm hV];exact⟨h,h0⟩
theorem Num.getD {T:List Te} {x:Te} {o:Nat} (h:Num T x o):T.getD (o-1) te0=x/\o<=T.length/\1<=o:=by
 obtain⟨h,h0⟩:=h;obtain⟨i,rfl⟩:∃i,o=i+1:=⟨o-1,by omega⟩;exact⟨aAK h,by rw[<-h];exact aHP x T,by omega⟩
theorem Num.one {T:List Te} {x:Te} {o p:Nat} (h:Num T x o) (k:Num T x p):o=p:=by rw[<-h.1,<-k.1]
theorem v1 {k:Int} (h1:1<=k) (h8:k<=8) {p:List UInt8} (hp:p.length<=4096):bP k [p]:=⟨aT7 hp,h1,h8⟩
theorem v8 {p q:List UInt8} (hp:p.length<=1024) (hq:q.length<=1024):bP 8 [p,q]:=⟨z6 hp hq,by decide,by decide⟩
end Go.Proofs.YtaehfiohjkiajaaGreat
namespace Go.Proofs.YtaehfiohjkiajaaGreat
open Go Go.Sx Go.Cu
structure PL where
 x:List UInt64
 y:List UInt64
 z:List UInt64
 t:List UInt64
def PL.L (p:PL):Prop:=p.x.length=5/\p.y.length=5/\p.z.length=5/\p.t.length=5
def PL.B (p:PL):Prop:=Lb p.x/\Lb p.y/\Lb p.z/\Lb p.t
theorem PL.B.len {p:PL} (h:p.B):p.L:=⟨h.1.1,h.2.1.1,h.2.2.1.1,h.2.2.2.1⟩
def PR (p:PL) (P:Pt):Prop:=p.B/\Rep (fv p.x) (fv p.y) (fv p.z) P/\fv p.t=P.x*P.y*fv p.z
def PS (p:PL) (s:Prop) (P:Pt):Prop:=p.L/\(s->PR p P)/\(¬s->P= .O)
theorem PR.ps {p:PL} {P:Pt} (h:PR p P):PS p True P:=⟨h.1.len,λ_=>h,λh=>absurd trivial h⟩
def ptV (p:PL) (s:Prop):SV:=.agg [(5,.a64 p.x),(5,.a64 p.y),(5,.a64 p.z),(5,.a64 p.t),(1,.bool s)]
def aV5:List UInt8:=ofNat 1::replicate 31 0
def wI:List UInt64:=ofL aV5
theorem j8:Lb wI:=aTH
theorem j9:fv wI=1:=aTI
def aD7:List UInt64:=ofL (ofNat 2::replicate 31 0)
theorem sO:Lb aD7:=(pQ _).2
theorem aD6:fv aD7 = 2:=by decide +kernel
def aWF:List UInt8:=[ofNat 163,ofNat 120,ofNat 89,ofNat 19,ofNat 202,ofNat 77,ofNat 235,ofNat 117,ofNat 171,ofNat 216,ofNat 65,ofNat 65,ofNat 77,ofNat 10,ofNat 112,ofNat 0,ofNat 152,ofNat 232,ofNat 121,ofNat 119,ofNat 121,ofNat 64,ofNat 199,ofNat 140,ofNat 115,ofNat 254,ofNat 111,ofNat 43,ofNat 238,ofNat 108,ofNat 3,ofNat 82]
def aOA:List UInt64:=ofL aWF
theorem tR:Lb aOA:=(pQ _).2
theorem aHS:fv aOA = dF:=by decide +kernel
theorem ab7:PR ⟨replicate 5 0,wI,wI,replicate 5 0⟩ .O:=by
 refine⟨⟨wM,j8,j8,wM⟩,?_,?_⟩
 .show Rep (fv (replicate 5 0)) (fv wI) (fv wI) .O
  rw[wO,j9];exact aPR
 show fv (replicate 5 0)=Pt.O.x*Pt.O.y*fv wI;rw [wO,j9];decide +kernel
theorem aWA:Sx.Fn Γ.P 94 [] [] (λv _=>v= .agg [(5,.a64 wI)]):=by
 have c:=aa8 aV5 rfl;have e:ofL aV5=wI:=rfl;have l:=j8.1;rw[e]at c;generalize wI=R at *;unfold aV5 at c;refine aG (Γ:=Γ) (fn:=Tryz.f94) rfl rfl rfl rfl ?_;refine gB ?_;refine Call.pure c rfl fc ?_;rintro _ rfl;refine gA ?_;refine Ret.i (.agg [(5,.a64 R)]) [] [] rfl fc rfl rfl fc rfl fc rfl
theorem aLS:Sx.Fn Γ.P 99 [.i .i64 2] [] (λv _=>v= .agg [(5,.a64 aD7)]):=by
 have c:=aa8 (ofNat 2::replicate 31 0) rfl;have e:ofL (ofNat 2::replicate 31 0)=aD7:=rfl;have l:=sO.1;rw[e]at c;generalize aD7=R at *;refine aG (Γ:=Γ) (fn:=Tryz.f99) rfl rfl rfl rfl ?_;refine gB ?_;refine Call.pure c rfl fc ?_;rintro _ rfl;refine gA ?_;refine Ret.i (.agg [(5,.a64 R)]) [] [] rfl fc rfl rfl fc rfl fc rfl
theorem aZ3:Sx.Fn Γ.P 96 [] [] (λv _=>v= .agg [(5,.a64 aOA)]):=by
 have c:=aa8 aWF rfl;have e:ofL aWF=aOA:=rfl;have l:=tR.1;rw[e]at c;generalize aOA=R at *;unfold aWF at c;refine aG (Γ:=Γ) (fn:=Tryz.f96) rfl rfl rfl rfl ?_;refine gB ?_;refine Call.pure c rfl fc ?_;rintro _ rfl;refine gA ?_;refine Ret.i (.agg [(5,.a64 R)]) [] [] rfl fc rfl rfl fc rfl fc rfl
theorem aUR (p:PL) (s:Prop) (P:Pt) (h:PS p s P):Sx.Fn Γ.P 78 [ptV p s] [] (λv _=>∃o:PL,PR o P/\v=ptV o True):=by
 obtain⟨⟨l1,l2,l3,l4⟩,h1,h2⟩:=h;have c:=aWA;have l:=j8.1;have hO:=ab7;unfold ptV;refine aG (Γ:=Γ) (fn:=Tryz.f78) rfl rfl rfl rfl ?_;refine gB ?_;refine zB.i ?_ ?_<;>intro hs
 .have hs:¬s:=hs
  rw[h2 hs];generalize wI=one at *;refine gB ?_;refine Call.pure c rfl fc ?_;rintro _ rfl;refine gA ?_;refine Call.pure c rfl fc ?_;rintro _ rfl;refine gA ?_;refine Ret.i (.agg [(5,.a64 (replicate 5 0)),(5,.a64 one),(5,.a64 one),(5,.a64 (replicate 5 0)),(1,.bool True)]) [] [] rfl fc ⟨_,hO,rfl⟩ rfl fc rfl fc rfl
 have hs:¬¬s:=hs;have hs:=Classical.not_not.1 hs;have hp:=h1 hs;refine gB ?_;refine Ret.i (.agg [(5,.a64 p.x),(5,.a64 p.y),(5,.a64 p.z),(5,.a64 p.t),(1,.bool True)]) [] [] rfl fc ⟨p,hp,rfl⟩ rfl fc rfl fc rfl
end Go.Proofs.YtaehfiohjkiajaaGreat
namespace Go.Proofs.YtaehfiohjkiajaaGreat
open Go Go.Sx Go.Cu
def aNH (p q:PL):List UInt64:=cd (tj p.y p.x) (tj q.y q.x)
def aNG (p q:PL):List UInt64:=cd (wJ p.y p.x) (wJ q.y q.x)
def aNF (p q:PL):List UInt64:=cd (cd p.t aD7) (cd aOA q.t)
def aNE (p q:PL):List UInt64:=cd (cd p.z aD7) q.z
def aW9 (p q:PL):PL:=
  ⟨cd (tj (aNG p q) (aNH p q)) (tj (aNE p q) (aNF p q)),cd (wJ (aNE p q) (aNF p q)) (wJ (aNG p q) (aNH p q)),
   cd (tj (aNE p q) (aNF p q)) (wJ (aNE p q) (aNF p q)),cd (tj (aNG p q) (aNH p q)) (wJ (aNG p q) (aNH p q))⟩
theorem aTA {p q:PL} {P Q:Pt} (hp:PR p P) (hq:PR q Q):PR (aW9 p q) (P.add Q):=by
 obtain⟨⟨p1,p2,p3,p4⟩,pr,pt⟩:=hp;obtain⟨⟨q1,q2,q3,q4⟩,qr,qt⟩:=hq;have bA:Lb (aNH p q):=aP _ _;have bB:Lb (aNG p q):=aP _ _;have bC:Lb (aNF p q):=aP _ _;have bD:Lb (aNE p q):=aP _ _;have vA:fv (aNH p q)=(fv p.y-fv p.x)*(fv q.y-fv q.x):=by unfold aNH;rw[ak (dL _ _) (dL _ _),ic p2 p1,ic q2 q1]
 have vB:fv (aNG p q)=(fv p.y+fv p.x)*(fv q.y+fv q.x):=by unfold aNG;rw[ak (ei _ _) (ei _ _),kV p2 p1,kV q2 q1]
 have vC:fv (aNF p q)=fv p.t*2*(dF*fv q.t):=by unfold aNF;rw[ak (aP _ _) (aP _ _),ak p4 sO,ak tR q4,aD6,aHS]
 have vD:fv (aNE p q)=fv p.z*2*fv q.z:=by unfold aNE;rw[ak (aP _ _) q3,ak p3 sO,aD6]
 obtain⟨r1,r2⟩:=aPQ pr qr pt qt vA vB vC vD (e:=_) (f:=_) (g:=_) (h0:=_) rfl rfl rfl rfl;unfold aW9;refine⟨⟨aP _ _,aP _ _,aP _ _,aP _ _⟩,?_,?_⟩
 .simp only
  rw[ak (dL _ _) (dL _ _),ak (ei _ _) (ei _ _),ak (dL _ _) (ei _ _),ic bB bA,ic bD bC,kV bD bC,kV bB bA];exact r1
 simp only;rw[ak (dL _ _) (ei _ _),ak (dL _ _) (ei _ _),ic bB bA,ic bD bC,kV bD bC,kV bB bA];exact r2
theorem abK (p q:PL) (s r:Prop) (P Q:Pt) (h:PS p s P) (k:PS q r Q):Sx.Fn Γ.P 54 [ptV p s,ptV q r] [] (λv _=>∃o:PL,PR o (P.add Q)/\v=ptV o True):=by
  have cp:=aUR p s P h;have cq:=aUR q r Q k;obtain⟨⟨p1,p2,p3,p4⟩,_,_⟩:=h;obtain⟨⟨q1,q2,q3,q4⟩,_,_⟩:=k;have c2:=aLS;have cf:=aZ3;have l2:=sO.1;have lf:=tR.1;unfold ptV at *;refine cV [2] (Γ:=Γ) (fn:=Tryz.f54) rfl rfl rfl rfl ?_;refine gB ?_;refine aH.i [[],[0],[],[0,1,2],r_4,r_5] [0,2,1,3,4,5] (by kernel_rfl) ?_;refine gA ?_;refine Call.pure cp rfl fc ?_;rintro v ⟨a,ha,rfl⟩;refine gA ?_;refine Call.pure cq rfl fc ?_;rintro v ⟨b,hb,rfl⟩;obtain⟨a1,a2,a3,a4⟩:=ha.1.len;obtain⟨b1,b2,b3,b4⟩:=hb.1.len;refine gA ?_;have hR:=aTA ha hb;clear ha hb cp cq
  refine Cut.i (σ:=Unit) (λ_=>True) (λ_=>([(2,.ptr 2 0 none),(3,.ptr 3 0 none),(4,.ptr 4 0 none)],
    [(2,.mem true 0 [(5,.a64 a.x),(5,.a64 a.y),(5,.a64 a.z),(5,.a64 a.t),(1,.bool True)]),(3,.mem true 0 [(5,.a64 b.x),(5,.a64 b.y),(5,.a64 b.z),(5,.a64 b.t),(1,.bool True)]),
     (4,.mem true 0 [(5,.a64 (replicate 5 0)),(5,.a64 (replicate 5 0)),(5,.a64 (replicate 5 0)),(5,.a64 (replicate 5 0)),(1,.ff)])])) () trivial (Le.i [] rfl fc rfl fc rfl) ?_
  rintro - -;unfold aW9 aNH aNG aNF aNE at hR;have d1:=aa7 a.y a.x a2 a1;have m1:=(dL a.y a.x).1;generalize tj a.y a.x=v1 at *;have d2:=aa7 b.y b.x b2 b1;have m2:=(dL b.y b.x).1;generalize tj b.y b.x=v2 at *;have d3:=abC v1 v2 m1 m2;have m3:=(aP v1 v2).1;generalize cd v1 v2=A at *;have d4:=aUQ a.y a.x a2 a1;have m4:=(ei a.y a.x).1;generalize wJ a.y a.x=v4 at *;have d5:=aUQ b.y b.x b2 b1;have m5:=(ei b.y b.x).1;generalize wJ b.y b.x=v5 at *;have d6:=abC v4 v5 m4 m5;have m6:=(aP v4 v5).1;generalize cd v4 v5=B at *;generalize aD7=two at *;generalize aOA=fac at *;have d7:=abC a.t two a4 l2;have m7:=(aP a.t two).1;generalize cd a.t two=v7 at *;have d8:=abC fac b.t lf b4;have m8:=(aP fac b.t).1;generalize cd fac b.t=v8 at *;have d9:=abC v7 v8 m7 m8;have m9:=(aP v7 v8).1;generalize cd v7 v8=C at *;have e1:=abC a.z two a3 l2;have n1:=(aP a.z two).1;generalize cd a.z two=w1 at *;have e2:=abC w1 b.z n1 b3;have n2:=(aP w1 b.z).1;generalize cd w1 b.z=D at *;have e3:=aa7 B A m6 m3;have n3:=(dL B A).1;generalize tj B A=E at *;have e4:=aa7 D C n2 m9;have n4:=(dL D C).1;generalize tj D C=G1 at *;have e5:=aUQ D C n2 m9;have n5:=(ei D C).1;generalize wJ D C=G2 at *;have e6:=aUQ B A m6 m3;have n6:=(ei B A).1;generalize wJ B A=H at *;have e7:=abC E G1 n3 n4;have n7:=(aP E G1).1;generalize cd E G1=X at *;have e8:=abC G2 H n5 n6;have n8:=(aP G2 H).1;generalize cd G2 H=Y at *;have e9:=abC G1 G2 n4 n5;have n9:=(aP G1 G2).1;generalize cd G1 G2=Z at *;have f1:=abC E H n3 n6;have k1:=(aP E H).1;generalize cd E H=W at *;refine aH.i [[],[0],[],[2],r_4,[],[5],[],[7],r_9,ek,[],kX] [0,1,2,3,5,6,7,8,11,4,9,10,12] (by kernel_rfl) ?_;refine gA ?_;refine Call.pure d1 rfl fc ?_;rintro _ rfl;refine gA ?_;refine Call.pure d2 rfl fc ?_;rintro _ rfl;refine gA ?_;refine Call.pure d3 rfl fc ?_;rintro _ rfl;refine gA ?_;refine aH.i [[],[0],[],[2],r_4,[],[5],[],[7],r_9,ek,[],kX] [0,1,2,3,5,6,7,8,11,4,9,10,12] (by kernel_rfl) ?_;refine gA ?_;refine Call.pure d4 rfl fc ?_;rintro _ rfl;refine gA ?_;refine Call.pure d5 rfl fc ?_;rintro _ rfl;refine gA ?_;refine Call.pure d6 rfl fc ?_;rintro _ rfl;refine gA ?_;refine aH.i [[],[0],[],[0,1,2],r_4,[],[5],r_7,r_8,[],ek] [0,1,5,6,9,2,3,4,7,8,10] (by kernel_rfl) ?_;refine gA ?_;refine Call.pure c2 rfl fc ?_;rintro _ rfl;refine gA ?_;refine Call.pure d7 rfl fc ?_;rintro _ rfl;refine gA ?_;refine Call.pure cf rfl fc ?_;rintro _ rfl;refine gA ?_;refine Call.pure d8 rfl fc ?_;rintro _ rfl;refine gA ?_;refine Call.pure d9 rfl fc ?_;rintro _ rfl;refine gA ?_;refine aH.i [[],[0],[],[0,1,2],[],[4],r_6,[],r_8] [0,1,4,5,7,2,3,6,8] (by kernel_rfl) ?_;refine gA ?_;refine Call.pure c2 rfl fc ?_;rintro _ rfl;refine gA ?_;refine Call.pure e1 rfl fc ?_;rintro _ rfl;refine gA ?_;refine Call.pure e2 rfl fc ?_;rintro _ rfl;refine gA ?_;refine aH.i [[],[],[0,1],[],[],r_5,[],[],r_8,[],[],fe,[],[],[],[],na,wG,aBU,uf] [0,1,3,4,6,7,9,10,12,13,14,15,2,5,8,11,16,17,18,19] (by kernel_rfl) ?_;refine gA ?_;refine Call.pure e3 rfl fc ?_;rintro _ rfl;refine gA ?_;refine Call.pure e4 rfl fc ?_;rintro _ rfl;refine gA ?_;refine Call.pure e5 rfl fc ?_;rintro _ rfl;refine gA ?_;refine Call.pure e6 rfl fc ?_;rintro _ rfl;refine gA ?_;refine aH.i [[],[],[0,1],[],[],r_5,[],[],r_8,[],[],fe,kX,jO] [0,1,3,4,6,7,9,10,2,5,8,11,12,13] (by kernel_rfl) ?_;refine gA ?_;refine Call.pure e7 rfl fc ?_;rintro _ rfl;refine gA ?_;refine Call.pure e8 rfl fc ?_;rintro _ rfl;refine gA ?_;refine Call.pure e9 rfl fc ?_;rintro _ rfl;refine gA ?_;refine Call.pure f1 rfl fc ?_;rintro _ rfl;refine gA ?_;refine Ret.i (.agg [(5,.a64 X),(5,.a64 Y),(5,.a64 Z),(5,.a64 W),(1,.bool True)]) [] [] rfl fc ⟨_,hR,rfl⟩ rfl fc rfl fc rfl
theorem aXJ {p:PL} {P:Pt} (h:PR p P):PR ⟨rk p.x,p.y,p.z,rk p.t⟩ P.ng:=by
 obtain⟨⟨p1,p2,p3,p4⟩,pr,pt⟩:=h;refine⟨⟨iq _,p2,p3,iq _⟩,?_,?_⟩
 .simp only
  rw[pf p1];exact aS0 pr
 simp only;rw[pf p4,pt];show _=(0-P.x)*P.y*fv p.z;exact gr
theorem aaB (p:PL) (s:Prop) (P:Pt) (h:PS p s P):Sx.Fn Γ.P 55 [ptV p s] [] (λv _=>∃o:PL,PR o P.ng/\v=ptV o True):=by
 have cp:=aUR p s P h;obtain⟨⟨p1,p2,p3,p4⟩,_,_⟩:=h;unfold ptV at *;refine aG (Γ:=Γ) (fn:=Tryz.f55) rfl rfl rfl rfl ?_;refine gB ?_;refine Call.pure cp rfl fc ?_;rintro v ⟨a,ha,rfl⟩;obtain⟨a1,a2,a3,a4⟩:=ha.1.len;have hR:=aXJ ha;have d1:=aZ2 a.x a1;have m1:=(iq a.x).1;generalize rk a.x=v1 at *;have d2:=aZ2 a.t a4;have m2:=(iq a.t).1;generalize rk a.t=v2 at *;refine gA ?_;refine aH.i [[],[0],[0,1],[],[3],[],[5],[],[7],[0,1,2,7,8],ek,fe] [0,1,3,4,5,6,7,8,2,9,10,11] (by kernel_rfl) ?_;refine gA ?_;refine Call.pure d1 rfl fc ?_;rintro _ rfl;refine gA ?_;refine Call.pure d2 rfl fc ?_;rintro _ rfl;refine gA ?_;refine Ret.i (.agg [(5,.a64 v1),(5,.a64 a.y),(5,.a64 a.z),(5,.a64 v2),(1,.bool True)]) [] [] rfl fc ⟨_,hR,rfl⟩ rfl fc rfl fc rfl
end Go.Proofs.YtaehfiohjkiajaaGreat
namespace Go.Proofs.YtaehfiohjkiajaaGreat
open Go Go.Sx Go.Cu
theorem aXB:∀x y:UInt8,x.toNat<128->x|||qh (y&&&ofNat 1) 7=if y&&&ofNat 1=ofNat 1 then x+ofNat 128 else x:=by
 intro x y hx;have h1:∀ z:Fin 256,ofNat z.val &&& ofNat 1 = ofNat 1 \/ ofNat z.val &&& ofNat 1 = ofNat 0:=by decide +kernel
 have h2:=h1 ⟨y.toNat,y.toNat_lt⟩;rw[ofNat_toNat]at h2;have h3:∀ z:Fin 256,z.val < 128->ofNat z.val ||| qh (ofNat 1) 7 = ofNat z.val + ofNat 128:=by decide +kernel
 have h4:∀ z:Fin 256,ofNat z.val ||| qh (ofNat 0) 7 = ofNat z.val:=by decide +kernel
 rcases h2 with h|h
 .rw[h,if_pos rfl]
  have:=h3 ⟨x.toNat,x.toNat_lt⟩ hx;rw[ofNat_toNat]at this;exact this
 rw[h,if_neg (by decide)];have:=h4 ⟨x.toNat,x.toNat_lt⟩;rw[ofNat_toNat]at this;exact this
theorem aU7 (x y:F):(leB y).set 31 ((leB y).getD 31 0|||qh ((leB x).getD 0 0&&&ofNat 1) 7)=if x.val%2=1 then(leB y).set 31 ((leB y).getD 31 0+ofNat 128)else leB y:=by
 rw[aXB _ _ (aNX y)];by_cases h:x.val%2=1
 .rw[if_pos h,if_pos ((zK x).2 h)]
 rw[if_neg h,if_neg (λe=>h ((zK x).1 e)),sQ (by rw[aj];omega)]
theorem aUU (p:PL) (s:Prop) (P:Pt) (h:PS p s P):Sx.Fn Γ.P 41 [ptV p s] [] (λv _=>v= .a8 (rD P)):=by
 have cp:=aUR p s P h;obtain⟨⟨p1,p2,p3,p4⟩,_,_⟩:=h;unfold ptV at *;refine aG (Γ:=Γ) (fn:=Tryz.f41) rfl rfl rfl rfl ?_;refine gB ?_;refine Call.pure cp rfl fc ?_;rintro v ⟨a,ha,rfl⟩;obtain⟨a1,a2,a3,a4⟩:=ha.1.len;have cI:=acH a.z a3;have bI:=xu a.z;have vI:=aG4 ha.1.2.2.1;generalize aN2 a.z=i at *;have cx:=abC a.x i a1 bI.1;have lx:=(aP a.x i).1;have cX:=fB (cd a.x i) lx;have cy:=abC a.y i a2 bI.1;have ly:=(aP a.y i).1;have cY:=fB (cd a.y i) ly;have vX:fv (cd a.x i)=P.x:=by rw[ak ha.1.1 bI,vI];exact aPP ha.2.1
 have vY:fv (cd a.y i)=P.y:=by rw[ak ha.1.2.1 bI,vI];exact aPO ha.2.1
 rw[vX]at cX;rw[vY]at cY;generalize cd a.x i=X at *;generalize cd a.y i=Y at *;have hE:rD P=(leB P.y).set 31 ((leB P.y).getD 31 0|||qh ((leB P.x).getD 0 0&&&ofNat 1) 7):=(aU7 P.x P.y).symm;rw[hE];have lBx:=aj P.x;have lBy:=aj P.y;generalize leB P.x=bx at *;generalize leB P.y=bb at *;have lI:=bI.1;refine gA ?_;refine Call.pure cI rfl fc ?_;rintro _ rfl;refine gA ?_;refine aH.i [[],[0],[],[0,1,2],r_4,[],[5],[],r_8,r_9,[],[],kX,jO] [0,1,2,5,6,7,10,11,3,4,8,9,12,13] (by kernel_rfl) ?_;refine gA ?_;refine Call.pure cx rfl fc ?_;rintro _ rfl;refine gA ?_;refine Call.pure cX rfl fc ?_;rintro _ rfl;refine gA ?_;refine Call.pure cy rfl fc ?_;rintro _ rfl;refine gA ?_;refine Call.pure cY rfl fc ?_;rintro _ rfl;refine gA ?_;refine Ret.i (.a8 (bb.set 31 (bb.getD 31 0|||qh (bx.getD 0 0&&&ofNat 1) 7))) [] [] rfl fc rfl rfl fc rfl fc rfl
end Go.Proofs.YtaehfiohjkiajaaGreat
namespace Go.Proofs.YtaehfiohjkiajaaGreat
open Go Go.Sx Go.Cu
theorem aP2 (b:List UInt8):mD (b.getD 31 0) 7=ofNat 1↔tk b:=by
 have h:∀ z:Fin 256,mD (ofNat z.val) 7 = ofNat 1 ↔ 128 <= z.val:=by decide +kernel
 have h2:=h ⟨(b.getD 31 0).toNat,(b.getD 31 0).toNat_lt⟩;rw[ofNat_toNat]at h2;exact h2
theorem zp:leB 0 = replicate 32 0:=by decide +kernel
theorem aOI {b:List UInt8} (h:okD b) {x y:List UInt64} (bx:Lb x) (by_:Lb y) (vx:fv x=aIA b) (vy:fv y=nF b):PR ⟨x,y,wI,cd x y⟩ (vg b):=by
 refine⟨⟨bx,by_,j8,aP _ _⟩,⟨?_,?_,?_⟩,?_⟩
 .simp only;rw[j9];exact aFP
 .simp only;rw[j9,vx,aAN h];exact gr
 .simp only;rw[j9,vy,aAM h];exact gr
 simp only;rw[ak bx by_,j9,vx,vy,aAN h,aAM h];exact gr
def pt0:SV:=.agg [(5,.a64 (replicate 5 0)),(5,.a64 (replicate 5 0)),(5,.a64 (replicate 5 0)),(5,.a64 (replicate 5 0)),(1,.ff)]
def aWI (b:List UInt8) (v:SV):Prop:=(okD b/\∃o:PL,PR o (vg b)/\v= .tup [ptV o True,.tt])\/(¬okD b/\v= .tup [pt0,.ff])
theorem aME (b:List UInt8) (y x:List UInt64) (u:UInt8) (hy:Lb y) (vy:fv y=nF b) (hx:Lb x) (hr:fv x=dn (xxF (nF b))) (hsq:mv (xxF (nF b))) (heq:leB (ofF (kF b))=kF b) (hu:u=ofNat 1↔tk b)
  (hno:¬(tk b/\dn (xxF (nF b))=0)) (T:Tm) (M:Mm)
  (hle:Le [] [(2,.ptr 2 0 none),(4,.u8 u),(5,.ptr 5 0 none),(8,.ptr 8 0 none)]
   [(2,.mem true 0 [(5,.a64 (replicate 5 0)),(5,.a64 (replicate 5 0)),(5,.a64 (replicate 5 0)),(5,.a64 (replicate 5 0)),(1,.ff)]),(5,.mem true 0 [(5,.a64 y)]),(8,.mem true 0 [(5,.a64 x)])] T M):
  aSJ Γ [11] Tryz.f52 11 [] T M (λv _=>aWI b v):=by
 have ok:okD b:=⟨heq,hsq,hno⟩;have cO:=aWA;have lO:=j8.1;have lx:=hx.1;have ly:=hy.1;have cN:=aZ2 x lx;have bN:=iq x;have lN:=bN.1;have vN:=pf hx;have cM1:=abC (rk x) y lN ly;have lM1:=(aP (rk x) y).1;have cM2:=abC x y lx ly;have lM2:=(aP x y).1;have r1:tk b->PR ⟨rk x,y,wI,cd (rk x) y⟩ (vg b):=λho=>aOI ok bN hy (by rw[vN,hr];unfold aIA;rw[if_pos ho];rfl) vy;have r2:¬tk b->PR ⟨x,y,wI,cd x y⟩ (vg b):=λho=>aOI ok hx hy (by rw[hr];unfold aIA;rw[if_neg ho];rfl) vy;generalize cd (rk x) y=t1 at *;generalize cd x y=t2 at *;generalize rk x=n at *;generalize wI=one at *
 refine Cut.i (σ:=Unit) (λ_=>True) (λ_=>([(2,.ptr 2 0 none),(4,.u8 u),(5,.ptr 5 0 none),(8,.ptr 8 0 none)],
   [(2,.mem true 0 [(5,.a64 (replicate 5 0)),(5,.a64 (replicate 5 0)),(5,.a64 (replicate 5 0)),(5,.a64 (replicate 5 0)),(1,.ff)]),(5,.mem true 0 [(5,.a64 y)]),(8,.mem true 0 [(5,.a64 x)])])) () trivial hle ?_
 rintro - -;refine gB ?_;refine zB.i ?_ ?_<;>intro h
 .have h:u=ofNat 1:=h
  have hR:=r1 (hu.1 h);refine gB ?_;refine Call.pure cN rfl fc ?_;rintro _ rfl;refine gA ?_;refine aH.i [[],[],[],[],[],[2,3,4],r_6,r_7,r_8] [0,1,3,4,2,5,6,7,8] (by kernel_rfl) ?_;refine gA ?_;refine Call.pure cO rfl fc ?_;rintro _ rfl;refine gA ?_;refine Call.pure cM1 rfl fc ?_;rintro _ rfl;refine gA ?_;refine Ret.i (.tup [.agg [(5,.a64 n),(5,.a64 y),(5,.a64 one),(5,.a64 t1),(1,.bool True)],.tt]) [] [] rfl fc (Or.inl ⟨ok,_,hR,rfl⟩) rfl fc rfl fc rfl
 have h:¬u=ofNat 1:=h;have hR:=r2 (λe=>h (hu.2 e));refine aH.i [[],[],[],[],[],[2,3,4],r_6,r_7,r_8] [0,1,3,4,2,5,6,7,8] (by kernel_rfl) ?_;refine gA ?_;refine Call.pure cO rfl fc ?_;rintro _ rfl;refine gA ?_;refine Call.pure cM2 rfl fc ?_;rintro _ rfl;refine gA ?_;refine Ret.i (.tup [.agg [(5,.a64 x),(5,.a64 y),(5,.a64 one),(5,.a64 t2),(1,.bool True)],.tt]) [] [] rfl fc (Or.inl ⟨ok,_,hR,rfl⟩) rfl fc rfl fc rfl
theorem aYG (b:List UInt8) (hb:b.length=32):Sx.Fn Γ.P 52 [.a8 b] [] (λv _=>aWI b v):=by
 have hL:kF b=b.set 31 (b.getD 31 0&&&ofNat 127):=rfl;have lL:=pl b;rw[hb]at lL;have hu:=aP2 b;have hdef:okD b↔(leB (ofF (kF b))=kF b/\mv (xxF (nF b))/\¬(tk b/\dn (xxF (nF b))=0)):=Iff.rfl;have tl:=aME b;have vY0:ofF (kF b)=nF b:=rfl;have cO:=aWA;have cF:=aZ3;have cOf:=aa8 (kF b) lL;have bY:=(pQ (kF b)).2;have vY:=aTL (kF b);rw[vY0]at vY hdef tl;generalize nF b=Y at *;generalize kF b=L at *;generalize ofL L=y at *;have lY:=bY.1;have cB:=fB y lY;rw[vY]at cB;have lB:=aj Y;have c1:=abC y y lY lY;have b1:=aP y y;have v1:=ak bY bY;generalize cd y y=yy at *;have l1:=b1.1;have bO:=j8;have vO:=j9;have bF:=tR;have vF:=aHS;generalize wI=one at *;generalize aOA=fac at *;have lO:=bO.1;have lF:=bF.1;have c2:=aa7 yy one l1 lO;have b2:=dL yy one;have v2:=ic b1 bO;generalize tj yy one=s at *;have l2:=b2.1;have c3:=abC fac yy lF l1;have b3:=aP fac yy;have v3:=ak bF b1;generalize cd fac yy=m at *;have l3:=b3.1;have c4:=aUQ m one l3 lO;have b4:=ei m one;have v4:=kV b3 bO;generalize wJ m one=d at *;have l4:=b4.1;have c5:=acH d l4;have b5:=xu d;have v5:=aG4 b4;generalize aN2 d=i at *;have l5:=b5.1;have c6:=abC s i l2 l5;have b6:=aP s i;have v6:=ak b2 b5;generalize cd s i=xx at *;have l6:=b6.1;have vX:fv xx=xxF Y:=by
  rw[v6,v2,v5,v4,v3,v1,vO,vF,vY];rfl
 have c7:=aYC xx b6;unfold aPN at c7;rw[vX]at c7;refine cV [11] (Γ:=Γ) (fn:=Tryz.f52) rfl rfl rfl rfl ?_;refine gB ?_;refine Call.pure cOf rfl fc ?_;rintro _ rfl;refine gA ?_;refine aH.i [[],[0],[],[0,1,2]] [0,2,1,3] (by kernel_rfl) ?_;refine gA ?_;refine Call.pure cB rfl fc ?_;rintro _ rfl;refine gA ?_;refine zB.i ?_ ?_<;>intro h
 .have h:¬leB Y=L:=by rw[hL];exact h
  refine gB ?_;refine Ret.i (.tup [pt0,.ff]) [] [] rfl fc (Or.inr ⟨(λe=>h (hdef.1 e).1),rfl⟩) rfl fc rfl fc rfl
 have h:leB Y=L:=by rw[hL];exact Classical.not_not.1 h
 refine gB ?_;refine Call.pure c1 rfl fc ?_;rintro _ rfl;refine gA ?_;refine aH.i [[],[],[0,1],[0,1,2],[],r_5,r_6,r_7,r_8,r_9,[],fe] [0,4,10,1,2,3,5,6,7,8,9,11] (by kernel_rfl) ?_;refine gA ?_;refine Call.pure cO rfl fc ?_;rintro _ rfl;refine gA ?_;refine Call.pure c2 rfl fc ?_;rintro _ rfl;refine gA ?_;refine Call.pure cF rfl fc ?_;rintro _ rfl;refine gA ?_;refine Call.pure c3 rfl fc ?_;rintro _ rfl;refine gA ?_;refine Call.pure cO rfl fc ?_;rintro _ rfl;refine gA ?_;refine Call.pure c4 rfl fc ?_;rintro _ rfl;refine gA ?_;refine Call.pure c5 rfl fc ?_;rintro _ rfl;refine gA ?_;refine Call.pure c6 rfl fc ?_;rintro _ rfl;refine gA ?_;refine Call.pure c7 rfl fc ?_;rintro v (⟨hsq,x,bx,vx,rfl⟩|⟨hsq,rfl⟩)
 .have lx:=bx.1
  have cX:=fB x lx;rw[vx]at cX;have lX:=aj (dn (xxF Y));by_cases ho:mD (b.getD 31 0) 7=ofNat 1
  .repeat(first|refine sd ?_|(refine zB.i (λ_=>?_) (λhn=>absurd ho hn)))
   refine Call.pure cX rfl fc ?_;rintro _ rfl
   repeat(first|refine sd ?_|(refine zB.i (λ_=>?_) (λhn=>absurd ho hn)))
   refine zB.i ?_ ?_<;>intro hz
   .have hz:leB (dn (xxF Y))=replicate 32 0:=hz
    have hz0:dn (xxF Y)=0:=xl (by rw[hz,zp]);refine gB ?_;refine Ret.i (.tup [pt0,.ff]) [] [] rfl fc (Or.inr ⟨(λe=>(hdef.1 e).2.2 ⟨hu.1 ho,hz0⟩),rfl⟩) rfl fc rfl fc rfl
   have hz:¬leB (dn (xxF Y))=replicate 32 0:=hz;refine tl y x (mD (b.getD 31 0) 7) bY vY bx vx hsq h hu (λe=>hz (by rw[e.2,zp])) _ _ (Le.i [] rfl fc rfl fc rfl)
  repeat(first|refine sd ?_|(refine zB.i (λhn=>absurd hn ho) (λ_=>?_)))
  refine tl y x (mD (b.getD 31 0) 7) bY vY bx vx hsq h hu (λe=>ho (hu.2 e.1)) _ _ (Le.i [] rfl fc rfl fc rfl)
 refine gB ?_;refine Ret.i (.tup [pt0,.ff]) [] [] rfl fc (Or.inr ⟨(λe=>hsq (hdef.1 e).2.1),rfl⟩) rfl fc rfl fc rfl
theorem aaD:Sx.Fn Γ.P 43 [] [] (λv _=>∃o:PL,PR o basP/\v=ptV o True):=by
 have cD:=aYG basB rfl;have hok:=aOO;unfold aWI at cD;rw[aIV]at cD;have e32:(replicate 32 (ofNat 102)).set 0 (ofNat 88)=basB:=rfl;generalize basB=B at *;refine aG (Γ:=Γ) (fn:=Tryz.f43) rfl rfl rfl rfl ?_;refine gB ?_
 refine aY.i (σ:=Nat) (λi=>i<=32) (λi=>([(0,.ptr 0 0 none),(1,.ptr 1 0 none),(5,.i .i64 i)],
  [(0,.mem true 0 [(5,.a64 (replicate 5 0)),(5,.a64 (replicate 5 0)),(5,.a64 (replicate 5 0)),(5,.a64 (replicate 5 0)),(1,.ff)]),(1,.mem true 0 [(32,.a8 (replicate i (ofNat 102)++replicate (32-i) 0))])])) (λi=>32-i) 0 (zero_le _) ?_ ?_
 .refine Le.i [] rfl fc rfl fc rfl
 rintro i hi;refine zB.i ?_ ?_<;>intro hc
 .have hc:(i:Int)<32:=hc
  have hn:replicate (i+1) (ofNat 102)++replicate (32-(i+1)) 0=(replicate i (ofNat 102)++replicate (32-i) 0).set i (ofNat 102):=by
   have e1:replicate (i+1) (ofNat 102)=replicate i (ofNat 102)++[ofNat 102]:=List.replicate_succ';have e2:replicate (32-i) (0:UInt8)=0::replicate (32-(i+1)) 0:=by rw[show 32-i=32-(i+1)+1 by omega];rfl
   rw[e1,e2,List.append_assoc,List.set_append_right _ _ (by rw[length_replicate];omega),length_replicate,Nat.sub_self];rfl
  have hl:(replicate i (ofNat 102)++replicate (32-i) 0).length=32:=by rw[zlA,length_replicate,length_replicate];omega
  generalize replicate i (ofNat 102)++replicate (32-i) 0=X at *;refine gC ?_;refine⟨i+1,by omega,by omega,Le.i [] rfl fcn rfl fcn rfl⟩
 obtain rfl:i=32:=by have hc:¬(i:Int)<32:=hc;omega
 have hX:(replicate 32 (ofNat 102)++replicate (32-32) 0).set 0 (ofNat 88)=B:=e32;have hl:(replicate 32 (ofNat 102)++replicate (32-32) 0).length=32:=rfl;generalize replicate 32 (ofNat 102)++replicate (32-32) 0=X at *;have lB:B.length=32:=by rw[<-hX,List.length_set];exact hl
 refine gB ?_;refine Call.pure cD rfl ?_ ?_
 .repeat' first|exact trivial|refine zA.app ?_ ?_|refine zA.zd ?_ ?_|refine zA.cons ?_ ?_|exact fc|fail
  all_goals exact hX.symm
 rintro v (⟨_,o,ho,rfl⟩|⟨hno,rfl⟩)
 .obtain⟨o1,o2,o3,o4⟩:=ho.1.len
  unfold ptV;refine gA ?_;refine Ret.i (.agg [(5,.a64 o.x),(5,.a64 o.y),(5,.a64 o.z),(5,.a64 o.t),(1,.bool True)]) [] [] rfl fc ⟨o,ho,rfl⟩ rfl fc rfl fc rfl
 exact absurd hok hno
end Go.Proofs.YtaehfiohjkiajaaGreat
namespace Go.Proofs.YtaehfiohjkiajaaGreat
open Go Go.Sx Go.Cu
def cmI (n:List UInt8) (P:Pt) (s:Nat×PL×Prop):Prop:=s.1<=256/\PS s.2.1 s.2.2 (P.mul (lv n/2^(256-s.1)))
def cmT (s:Nat×PL×Prop):Tm:=[(2,.ptr 2 0 none),(3,.ptr 3 0 none),(4,.ptr 4 0 none),(5,.ptr 5 0 none),(6,.i .i64 (255-(s.1:Int)))]
def cmM (n:List UInt8) (p:PL) (r:Prop) (s:Nat×PL×Prop):Mm:=[(2,.mem true 0 [(32,.a8 n)]),(3,.mem true 0 [(5,.a64 p.x),(5,.a64 p.y),(5,.a64 p.z),(5,.a64 p.t),(1,.bool r)]),
 (4,.mem true 0 [(5,.a64 (replicate 5 0)),(5,.a64 (replicate 5 0)),(5,.a64 (replicate 5 0)),(5,.a64 (replicate 5 0)),(1,.ff)]),
 (5,.mem true 0 [(5,.a64 s.2.1.x),(5,.a64 s.2.1.y),(5,.a64 s.2.1.z),(5,.a64 s.2.1.t),(1,.bool s.2.2)])]
theorem abQ (n:List UInt8) (hn:n.length=32) (p:PL) (r:Prop) (P:Pt) (hp:PS p r P):Sx.Fn Γ.P 42 [.a8 n,ptV p r] [] (λv _=>∃(o:PL) (s:Prop),PS o s (P.mul (lv n))/\v=ptV o s):=by
 obtain⟨⟨p1,p2,p3,p4⟩,_,_⟩:=id hp;have hlt:=aGL n;rw[hn]at hlt;have hbd:(Tryz.f42).body=some (.seq _ (.scope _)):=rfl;show Sx.Fn Γ.P 42 [.a8 n,.agg [(5,.a64 p.x),(5,.a64 p.y),(5,.a64 p.z),(5,.a64 p.t),(1,.bool r)]] [] _;refine aLP [3,1000008] (Γ:=Γ) (fn:=Tryz.f42) rfl hbd rfl rfl ?_;clear hbd;refine gB ?_;refine qd.i [0] (λ_ s=>cmI n P s) (λ_ s=>(cmT s,cmM n p r s)) (λ_ s=>256-s.1) rfl ?_ ⟨?_,trivial⟩
 .refine gB ?_
  refine Cut.i (σ:=Nat×PL×Prop) (cmI n P) (λs=>(cmT s,cmM n p r s)) (0,⟨replicate 5 0,replicate 5 0,replicate 5 0,replicate 5 0⟩,False)
   ⟨zero_le _,⟨rfl,rfl,rfl,rfl⟩,False.elim,λ_=>by show P.mul (lv n/2^256)= .O;rw[Nat.div_eq_of_lt hlt];rfl⟩ (Le.i [] rfl ?_ rfl ?_ rfl) ?_
  .exact fc
  .repeat' first|exact trivial|refine zA.app ?_ ?_|refine zA.zd ?_ ?_|refine zA.cons ?_ ?_|exact fc|fail
   all_goals exact id
  rintro⟨k,a,q⟩ hI;have hk:k<=256:=hI.1;have hS:PS a q (P.mul (lv n/2^(256-k))):=hI.2;unfold cmT cmM;obtain⟨⟨a1,a2,a3,a4⟩,_,_⟩:=hI.2;have hAA:=abK a a q q _ _ hS hS;rw[Pt.mul_dbl]at hAA;refine gB ?_;refine zB.i ?_ ?_<;>intro hc
  .have hc:255-(k:Int)<0:=hc
   obtain rfl:k=256:=by omega
   have e:lv n/2^(256-256)=lv n:=by rw[Nat.sub_self,Nat.pow_zero,Nat.div_one]
   rw[e]at hS;refine gB ?_;refine Ret.i (ptV a q) [] [] rfl fc ⟨a,q,hS,rfl⟩ rfl fc rfl fc rfl
  have hc:¬255-(k:Int)<0:=hc;obtain⟨i,hi⟩:∃i,i=255-k:=⟨_,rfl⟩;have g1:256-k=i+1:=by omega
  have g2:256-(k+1)=i:=by omega
  have e0:((255-(k:Int))/8).toNat=i/8:=by omega
  have e1:((255-(k:Int))%8).toNat=i%8:=by omega
  have hbit:aVP n i=mD (n.getD (i/8) 0) (i%8)&&&ofNat 1:=rfl;have hbv:=tf n i;have htop:=Pt.mul_top P (lv n) i;rw[g1]at hAA;clear hS;unfold ptV at hAA;refine gB ?_;refine Call.pure hAA rfl fc ?_;rintro v ⟨o,ho,rfl⟩;obtain⟨o1,o2,o3,o4⟩:=ho.1.len;refine gB ?_
  refine aOR.i (σ:=PL) (λo=>PR o (P.mul (lv n/2^i))) (λo=>([(2,.ptr 2 0 none),(3,.ptr 3 0 none),(4,.ptr 4 0 none),(5,.ptr 5 0 none),(6,.i .i64 (255-(k:Int)))],
   [(2,.mem true 0 [(32,.a8 n)]),(3,.mem true 0 [(5,.a64 p.x),(5,.a64 p.y),(5,.a64 p.z),(5,.a64 p.t),(1,.bool r)]),
   (4,.mem true 0 [(5,.a64 (replicate 5 0)),(5,.a64 (replicate 5 0)),(5,.a64 (replicate 5 0)),(5,.a64 (replicate 5 0)),(1,.ff)]),
   (5,.mem true 0 [(5,.a64 o.x),(5,.a64 o.y),(5,.a64 o.z),(5,.a64 o.t),(1,.bool True)])])) ?_ ?_
  .repeat refine sdI ?_
   refine zB.i ?_ ?_<;>intro hb
   .have hb:mD (n.getD ((255-(k:Int))/8).toNat 0) ((255-(k:Int))%8).toNat&&&ofNat 1=ofNat 1:=hb
    rw[e0,e1,<-hbit]at hb;rw[hb]at hbv;have hb1:lv n/2^i%2=1:=hbv.symm;rw[if_pos hb1]at htop;have hAP:=abK o p True r _ _ ho.ps hp;rw[<-htop]at hAP;unfold ptV at hAP;refine gB ?_;refine Call.pure hAP rfl fc ?_;rintro v ⟨w,hw,rfl⟩;obtain⟨w1,w2,w3,w4⟩:=hw.1.len;refine gB ?_;refine⟨w,hw,Le.i [] rfl fc rfl fc rfl⟩
   have hb:¬mD (n.getD ((255-(k:Int))/8).toNat 0) ((255-(k:Int))%8).toNat&&&ofNat 1=ofNat 1:=hb;rw[e0,e1,<-hbit]at hb;have hb1:¬lv n/2^i%2=1:=λe=>hb (UInt8.toNat_inj.1 (hbv.trans e));rw[if_neg hb1]at htop;rw[<-htop]at ho;refine gB ?_;refine⟨o,ho,Le.i [] rfl fc rfl fc rfl⟩
  clear ho o1 o2 o3 o4 htop hAA;rintro w hw;obtain⟨w1,w2,w3,w4⟩:=hw.1.len;refine gB ?_;refine⟨rfl,(k+1,w,True),⟨by show k+1<=256;omega,by show PS w True (P.mul (lv n/2^(256-(k+1))));rw[g2];exact hw.ps⟩,trivial,Le.i [] rfl fc rfl fc rfl⟩
 rintro⟨k,a,q⟩ hI;have⟨k1,k2,k3,k4⟩:=hI.2.1;refine Cut.i (σ:=Unit) (λ_=>True) (λ_=>(cmT (k,a,q),cmM n p r (k,a,q))) () trivial (Le.i [] rfl fc rfl fc rfl) ?_;rintro - -;have hk:k<=256:=hI.1;have hS:PS a q (P.mul (lv n/2^(256-k))):=hI.2;unfold cmT cmM;obtain⟨⟨a1,a2,a3,a4⟩,_,_⟩:=hI.2;have hAA:=abK a a q q _ _ hS hS;rw[Pt.mul_dbl]at hAA;refine gB ?_;refine zB.i ?_ ?_<;>intro hc
 .have hc:255-(k:Int)<0:=hc
  obtain rfl:k=256:=by omega
  have e:lv n/2^(256-256)=lv n:=by rw[Nat.sub_self,Nat.pow_zero,Nat.div_one]
  rw[e]at hS;refine gB ?_;refine Ret.i (ptV a q) [] [] rfl fc ⟨a,q,hS,rfl⟩ rfl fc rfl fc rfl
 have hc:¬255-(k:Int)<0:=hc;obtain⟨i,hi⟩:∃i,i=255-k:=⟨_,rfl⟩;have g1:256-k=i+1:=by omega
 have g2:256-(k+1)=i:=by omega
 have e0:((255-(k:Int))/8).toNat=i/8:=by omega
 have e1:((255-(k:Int))%8).toNat=i%8:=by omega
 have hbit:aVP n i=mD (n.getD (i/8) 0) (i%8)&&&ofNat 1:=rfl;have hbv:=tf n i;have htop:=Pt.mul_top P (lv n) i;rw[g1]at hAA;clear hS;unfold ptV at hAA;refine gB ?_;refine Call.pure hAA rfl fc ?_;rintro v ⟨o,ho,rfl⟩;obtain⟨o1,o2,o3,o4⟩:=ho.1.len;refine gB ?_
 refine aOR.i (σ:=PL) (λo=>PR o (P.mul (lv n/2^i))) (λo=>([(2,.ptr 2 0 none),(3,.ptr 3 0 none),(4,.ptr 4 0 none),(5,.ptr 5 0 none),(6,.i .i64 (255-(k:Int)))],
  [(2,.mem true 0 [(32,.a8 n)]),(3,.mem true 0 [(5,.a64 p.x),(5,.a64 p.y),(5,.a64 p.z),(5,.a64 p.t),(1,.bool r)]),
  (4,.mem true 0 [(5,.a64 (replicate 5 0)),(5,.a64 (replicate 5 0)),(5,.a64 (replicate 5 0)),(5,.a64 (replicate 5 0)),(1,.ff)]),
  (5,.mem true 0 [(5,.a64 o.x),(5,.a64 o.y),(5,.a64 o.z),(5,.a64 o.t),(1,.bool True)])])) ?_ ?_
 .repeat refine sdI ?_
  refine zB.i ?_ ?_<;>intro hb
  .have hb:mD (n.getD ((255-(k:Int))/8).toNat 0) ((255-(k:Int))%8).toNat&&&ofNat 1=ofNat 1:=hb
   rw[e0,e1,<-hbit]at hb;rw[hb]at hbv;have hb1:lv n/2^i%2=1:=hbv.symm;rw[if_pos hb1]at htop;have hAP:=abK o p True r _ _ ho.ps hp;rw[<-htop]at hAP;unfold ptV at hAP;refine gB ?_;refine Call.pure hAP rfl fc ?_;rintro v ⟨w,hw,rfl⟩;obtain⟨w1,w2,w3,w4⟩:=hw.1.len;refine gB ?_;refine⟨w,hw,Le.i [] rfl fc rfl fc rfl⟩
  have hb:¬mD (n.getD ((255-(k:Int))/8).toNat 0) ((255-(k:Int))%8).toNat&&&ofNat 1=ofNat 1:=hb;rw[e0,e1,<-hbit]at hb;have hb1:¬lv n/2^i%2=1:=λe=>hb (UInt8.toNat_inj.1 (hbv.trans e));rw[if_neg hb1]at htop;rw[<-htop]at ho;refine gB ?_;refine⟨o,ho,Le.i [] rfl fc rfl fc rfl⟩
 clear ho o1 o2 o3 o4 htop hAA;rintro w hw;obtain⟨w1,w2,w3,w4⟩:=hw.1.len;refine gB ?_;refine⟨rfl,(k+1,w,True),⟨by show k+1<=256;omega,by show PS w True (P.mul (lv n/2^(256-(k+1))));rw[g2];exact hw.ps⟩,(by show 256-(k+1)<256-k;omega),Le.i [] rfl fc rfl fc rfl⟩
end Go.Proofs.YtaehfiohjkiajaaGreat
