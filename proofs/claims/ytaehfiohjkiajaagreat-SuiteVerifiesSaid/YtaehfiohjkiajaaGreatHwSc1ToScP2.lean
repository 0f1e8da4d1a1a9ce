/- Walks. -/
import Derived.Test.YtaehfiohjkiajaaGreatHwTabToCu9
import Derived.Test.YtaehfiohjkiajaaGreatHx8
set_option linter.unusedSimpArgs false
set_option linter.unusedVariables false
set_option maxHeartbeats 4000000
open List (replicate getD_eq_getElem?_getD length_set length_replicate)
open Int (mul_assoc mul_comm add_mul pow_succ zero_mul sub_mul lt_or_le)
open Nat (zero_le le_refl zero_add)
open UInt64 (ofNat)
open UInt8 (ofInt)
set_option maxRecDepth 100000
namespace Go.Proofs.YtaehfiohjkiajaaGreat
open Go Go.Sx
def qj:List UInt64:=[6346243789798364141,1503914060200516822,0,1152921504606846976]
theorem acD:Sx.Fn Γ.P 126 [] [] (λv _=>v= .a64 qj):=by
 refine aG (Γ:=Γ) (fn:=Tryz.f126) rfl rfl rfl rfl ?_;refine gB ?_;refine Ret.i (.a64 qj) [] [] rfl trivial rfl rfl ?_ rfl trivial rfl;rfl
def ah (a b:List UInt64):Nat->List UInt64×UInt64
 |0=>(a,0)
 |i+1=>((ah a b i).1.set i (aJ0 ((ah a b i).1.getD i 0) (b.getD i 0) (ah a b i).2),aEF ((ah a b i).1.getD i 0) (b.getD i 0) (ah a b i).2)
theorem du {a b:List UInt64} (h:a.length=4):∀i,(ah a b i).1.length=4
 |0=>h
 |i+1=>by simp only[ah,length_set,du h i]
theorem aO8 (x y c:UInt64):(aEF x y c).toNat<=1:=by unfold aEF;split <;>decide
theorem oF (a b:List UInt64):∀i,(ah a b i).2.toNat<=1
 |0=>by show(0:UInt64).toNat<=1;decide
 |i+1=>aO8 _ _ _
theorem aYN (a b:List UInt64) (ha:a.length=4) (hb:b.length=4):Sx.Fn Γ.P 125 [.a64 a,.a64 b] [] (λv _=>v= .tup [.a64 (ah a b 4).1,.bool ((ah a b 4).2=1)]):=by
 refine aG (Γ:=Γ) (fn:=Tryz.f125) rfl rfl rfl rfl ?_;refine gB ?_
 refine aY.i (σ:=Nat) (λi=>i<=4)
  (λi=>([(2,.ptr 2 0 none),(3,.ptr 3 0 none),(4,.ptr 4 0 none),(6,.u64 (ah a b i).2),(8,.i .i64 i)],
   [(2,.mem true 0 [(4,.a64 (ah a b i).1)]),(3,.mem true 0 [(4,.a64 b)]),(4,.mem true 0 [(4,.a64 (replicate 4 0))])])) (λi=>4-i) 0 (zero_le _) ?_ ?_
 .refine Le.i [] rfl fc rfl ?_ rfl
  exact fc
 rintro i hi;have hl:=du (b:=b) ha i;have hc1:=oF a b i;obtain⟨X,hX⟩:∃x,(ah a b i).1=x:=⟨_,rfl⟩;obtain⟨C,hC⟩:∃x,(ah a b i).2=x:=⟨_,rfl⟩;have hn1:(ah a b (i+1)).1=X.set i (aJ0 (X.getD i 0) (b.getD i 0) C):=by rw[<-hX,<-hC];rfl
 have hn2:(ah a b (i+1)).2=aEF (X.getD i 0) (b.getD i 0) C:=by rw[<-hX,<-hC];rfl
 refine zB.i ?_ ?_<;>intro hc
 .have hc:(i:Int)<4:=hc
  rw[hX,hC];rw[hX]at hl;rw[hC]at hc1;refine aH.i [[],[],[1],[1,2],[],[4],[4,5],[],[1,2,3,4,5,6,7],[1,2,3,4,5,6,7,8],[1,2,3,4,5,6,7,8,9],[1,2,3,4,5,6,7,8,9],fe,[0,1,2,3,4,5,6,7,8,9,10,12],oB] nw (by kernel_rfl) ?_;refine gB ?_;refine gB ?_;refine⟨i+1,by omega,by omega,Le.i [] rfl fc rfl ?_ rfl⟩;exact fc
 obtain rfl:i=4:=by have hc:¬(i:Int)<4:=hc;omega
 refine gB ?_;refine Ret.i (.tup [.a64 (ah a b 4).1,.bool ((ah a b 4).2=1)]) [] [] rfl ?_ rfl rfl ?_ rfl trivial rfl
 .exact fc
 repeat' first|exact trivial|refine zA.app ?_ ?_|refine zA.zd ?_ ?_|refine zA.cons ?_ ?_|exact fc|fail
 exact Iff.rfl
def xN (a:List UInt64):Nat->List UInt8
 |0=>replicate 32 0
 |i+1=>(xN a i).set i (aF (a.getD (i/8) 0) (i%8*8)).toUInt8
theorem iD (a:List UInt64):∀i,(xN a i).length=32
 |0=>length_replicate
 |i+1=>by simp only[xN,length_set,iD a i]
theorem abA (a:List UInt64) (ha:a.length=4):Sx.Fn Γ.P 85 [.a64 a] [] (λv _=>v= .a8 (xN a 32)):=by
 refine aG (Γ:=Γ) (fn:=Tryz.f85) rfl rfl rfl rfl ?_;refine gB ?_
 refine aY.i (σ:=Nat) (λi=>i<=32)
  (λi=>([(1,.ptr 1 0 none),(2,.ptr 2 0 none),(3,.ptr 3 0 none),(5,.i .i64 i)],
   [(1,.mem true 0 [(4,.a64 a)]),(2,.mem true 0 [(32,.a8 (replicate 32 0))]),(3,.mem true 0 [(32,.a8 (xN a i))])])) (λi=>32-i) 0 (zero_le _) ?_ ?_
 .refine Le.i [] rfl fc rfl ?_ rfl
  exact fc
 rintro i hi;have hl:=iD a i;have hn:xN a (i+1)=(xN a i).set i (aF (a.getD (i/8) 0) (i%8*8)).toUInt8:=rfl;refine zB.i ?_ ?_<;>intro hc
 .have hc:(i:Int)<32:=hc
  have e1:((i:Int)/8).toNat=i/8:=by omega
  have e2:((i:Int)%8*8).toNat=i%8*8:=by omega
  repeat refine sdJ ?_
  refine⟨i+1,by omega,by omega,Le.i [] rfl fc rfl ?_ rfl⟩
  repeat' (first|exact trivial|refine zA.app ?_ ?_|refine zA.zd ?_ ?_|refine zA.cons ?_ ?_|exact fcJ|fail)
 obtain rfl:i=32:=by have hc:¬(i:Int)<32:=hc;omega
 refine gB ?_;refine Ret.i (.a8 (xN a 32)) [] [] rfl fc rfl rfl fc rfl trivial rfl
def muT (x y:UInt64):UInt64:=aF x 32*(y&&&ofNat 4294967295)+aF ((x&&&ofNat 4294967295)*(y&&&ofNat 4294967295)) 32
def muH (x y:UInt64):UInt64:=aF x 32*aF y 32+aF (muT x y) 32+aF ((muT x y&&&ofNat 4294967295)+(x&&&ofNat 4294967295)*aF y 32) 32
theorem aZ6 (x y:UInt64):Sx.Fn Γ.P 83 [.u64 x,.u64 y] [] (λv _=>v= .tup [.u64 (muH x y),.u64 (x*y)]):=by
 refine aG (Γ:=Γ) (fn:=Tryz.f83) rfl rfl rfl rfl ?_;refine gB ?_;refine Ret.i (.tup [.u64 (muH x y),.u64 (x*y)]) [] [] rfl trivial rfl rfl ?_ rfl trivial rfl;exact fc
def dv (l:List Int):Nat->Int
 |0=>0
 |n+1=>dv l n+l.getD n 0*65536^n
def Dig (l:List Int):Prop:=∀i,0<=l.getD i 0/\l.getD i 0<65536
theorem aE {α:Type} {l:List α} {i:Nat} {x d:α} (h:i<l.length):(l.set i x).getD i d=x:=by
 rw[getD_eq_getElem?_getD,List.getElem?_set_self h];rfl
theorem aA {α:Type} {l:List α} {i j:Nat} {x d:α} (h:i≠j):(l.set i x).getD j d=l.getD j d:=by
 rw[getD_eq_getElem?_getD,List.getElem?_set_ne h,<-getD_eq_getElem?_getD]
theorem cG {α:Type} {l:List α} {i:Nat} {d:α} (h:l.length<=i):l.getD i d=d:=by
 rw[getD_eq_getElem?_getD,List.getElem?_eq_none h];rfl
theorem Dig.set {l:List Int} (h:Dig l) {i:Nat} {x:Int} (h0:0<=x) (h1:x<65536):Dig (l.set i x):=by
 intro j;by_cases hj:i=j
 .subst hj
  rcases Nat.lt_or_ge i l.length with hl|hl
  .rw[aE hl];exact⟨h0,h1⟩
  rw[List.set_eq_of_length_le hl];exact h i
 rw[aA hj];exact h j
theorem Dig.rep (n:Nat):Dig (replicate n 0):=by
 intro j;rw[getD_eq_getElem?_getD,List.getElem?_replicate];split <;>decide
theorem fr {l m:List Int}:∀{n:Nat},(∀i,i<n->l.getD i 0=m.getD i 0)->dv l n=dv m n
 |0,_=>rfl
 |n+1,h=>by simp only[dv];rw[fr λi hi=>h i (by omega),h n (by omega)]
theorem aH4 {l:List Int} {i n:Nat} {x:Int} (h:n<=i):dv (l.set i x) n=dv l n:=
 fr λj hj=>aA (by omega)
theorem ar {l:List Int} {i:Nat} {x:Int} (h:i<l.length):dv (l.set i x) (i+1)=dv l i+x*65536^i:=by
 simp only[dv];rw[aH4 (le_refl _),aE h]
theorem pI (n:Nat):(0:Int)<65536^n:=Int.pow_pos (by decide)
theorem aJ {l:List Int} (h:Dig l):∀n,0<=dv l n/\dv l n<65536^n
 |0=>⟨Int.le_refl _,by show(0:Int)<1;decide⟩
 |n+1=>by
  obtain⟨h1,h2⟩:=aJ h n;obtain⟨h3,h4⟩:=h n;have hp:=pI n;have h5:0<=l.getD n 0*65536^n:=Int.mul_nonneg h3 (by omega);have h6:l.getD n 0*65536^n<=65535*65536^n:=Int.mul_le_mul_of_nonneg_right (by omega) (by omega);simp only[dv];rw[pow_succ];omega
theorem tT {l:List Int} {a:Nat}:∀{b:Nat},a<=b->(∀i,a<=i->i<b->l.getD i 0=0)->dv l b=dv l a
 |0,h,_=>by
  obtain rfl:a=0:=by omega
  rfl
 |b+1,h,hz=>by
  by_cases hab:a=b+1
  .rw[hab]
  simp only[dv];rw[tT (by omega) λi h1 h2=>hz i h1 (by omega),hz b (by omega) (by omega)];omega
theorem aOF {l m:List Int} (hl:Dig l) (hm:Dig m):∀{n:Nat},dv l n=dv m n->∀i,i<n->l.getD i 0=m.getD i 0
 |0,_,_,h=>absurd h (Nat.not_lt_zero _)
 |n+1,h,i,hi=>by
  have hp:=pI n;obtain⟨a1,a2⟩:=aJ hl n;obtain⟨b1,b2⟩:=aJ hm n;simp only[dv]at h;have e:l.getD n 0=m.getD n 0:=by
   have h1:(dv l n+l.getD n 0*65536^n)/65536^n=l.getD n 0:=by
    rw[Int.add_mul_ediv_right _ _ (by omega),Int.ediv_eq_zero_of_lt a1 a2,Int.zero_add]
   have h2:(dv m n+m.getD n 0*65536^n)/65536^n=m.getD n 0:=by
    rw[Int.add_mul_ediv_right _ _ (by omega),Int.ediv_eq_zero_of_lt b1 b2,Int.zero_add]
   rw[<-h1,<-h2,h]
  rw[e]at h;have h':dv l n=dv m n:=by omega
  rcases Nat.lt_or_ge i n with h1|h1
  .exact aOF hl hm h' i h1
  obtain rfl:i=n:=by omega
  exact e
theorem aMB {a b:List Int} (ha:Dig a) (hb:Dig b) {n i:Nat} (hi:i<n) (hd:a.getD i 0<b.getD i 0) (hs:∀j,i<j->j<n->a.getD j 0=b.getD j 0):dv a n<dv b n:=by
 induction n with
 |zero=>omega
 |succ n ih=>
  simp only[dv];by_cases h:i=n
  .subst h
   obtain⟨a1,a2⟩:=aJ ha i;obtain⟨b1,b2⟩:=aJ hb i;have hp:=pI i;have:(a.getD i 0+1)*65536^i<=b.getD i 0*65536^i:=Int.mul_le_mul_of_nonneg_right (by omega) (by omega);rw[add_mul]at this;omega
  have h1:=ih (by omega) λj h2 h3=>hs j h2 (by omega);rw[hs n (by omega) (by omega)];omega
def dbS (l:List Int):Nat->List Int×Int
 |0=>(l,0)
 |i+1=>((dbS l i).1.set i (((dbS l i).2+2*(dbS l i).1.getD i 0)%65536),((dbS l i).2+2*(dbS l i).1.getD i 0)/65536)
theorem gn (l:List Int):∀i,(dbS l i).1.length=l.length
 |0=>rfl
 |i+1=>by simp only[dbS,length_set,gn l i]
theorem aID (l:List Int):∀i j,i<=j->(dbS l i).1.getD j 0=l.getD j 0
 |0,_,_=>rfl
 |i+1,j,h=>by simp only[dbS];rw[aA (by omega),aID l i j (by omega)]
theorem tV {l:List Int} (h:Dig l):∀i,Dig (dbS l i).1/\0<=(dbS l i).2/\(dbS l i).2<=1
 |0=>⟨h,Int.le_refl _,by show(0:Int)<=1;decide⟩
 |i+1=>by
  obtain⟨h1,h2,h3⟩:=tV h i;obtain⟨h4,h5⟩:=h1 i;refine⟨h1.set ?_ ?_,?_,?_⟩
  .omega
  .omega
  .show 0<=((dbS l i).2+2*(dbS l i).1.getD i 0)/65536;omega
  show((dbS l i).2+2*(dbS l i).1.getD i 0)/65536<=1;omega
theorem aIC (l:List Int):∀i,i<=l.length->dv (dbS l i).1 i+(dbS l i).2*65536^i=2*dv l i
 |0,_=>by simp only[dbS,dv];omega
 |i+1,hi=>by
  have ih:=aIC l i (by omega);have hs:=aID l i i (le_refl _);have hl:=gn l i;simp only[dbS];rw[ar (by omega)];simp only[dv];rw[hs];have e:((dbS l i).2+2*l.getD i 0)%65536+65536*(((dbS l i).2+2*l.getD i 0)/65536)=(dbS l i).2+2*l.getD i 0:=Int.emod_add_mul_ediv _ _;rw[pow_succ];generalize ((dbS l i).2+2*l.getD i 0)%65536=m at *;generalize ((dbS l i).2+2*l.getD i 0)/65536=q at *;generalize (65536:Int)^i=p at *;have e2:m*p+q*(p*65536)=((dbS l i).2+2*l.getD i 0)*p:=by rw[<-e,add_mul,mul_comm p,<-mul_assoc,mul_comm q]
  rw[add_mul,mul_assoc 2]at e2;omega
def ordB:List Int:=[0xd3ed,0x5cf5,0x631a,0x5812,0x9cd6,0xa2f7,0xf9de,0x14de,0,0,0,0,0,0,0,0x1000,0]
def ma:Nat->List Int
 |0=>ordB
 |k+1=>(dbS (ma k) 17).1
def Lz:Int:=7237005577332262213973186563042994240857116359379907606001950938285454250989
theorem fT:∀k,(ma k).length=17
 |0=>rfl
 |k+1=>by simp only[ma,gn,fT k]
theorem aKQ:Dig ordB:=by
 intro i;rcases Nat.lt_or_ge i 17 with h|h
 .have:∀i,i<17->0<=ordB.getD i 0/\ordB.getD i 0<65536:=by decide
  exact this i h
 rw[cG (by exact h)];decide
theorem jP:∀k,Dig (ma k)
 |0=>aKQ
 |k+1=>(tV (jP k) 17).1
theorem zY:∀k,k<=15->dv (ma k) 17=Lz*2^k
 | 0,_=>by decide +kernel
 |k+1,h=>by
  have ih:=zY k (by omega);have hv:=aIC (ma k) 17 (by rw[fT];omega);obtain⟨hd,hc0,hc1⟩:=tV (jP k) 17;obtain⟨hb0,hb1⟩:=aJ hd 17;rw[ih]at hv;have hp:(2:Int)^k<=2^14:=by
   have:(2:Nat)^k<=2^14:=Nat.pow_le_pow_right (by decide) (by omega)
   exact_mod_cast this
  have hL:Lz*2^k<=Lz*2^14:=Int.mul_le_mul_of_nonneg_left hp (by decide);have hbig:2 * (Lz * 2 ^ 14) < 65536 ^ 17:=by decide +kernel
  have hc:(dbS (ma k) 17).2=0:=by
   rcases lt_or_le (dbS (ma k) 17).2 1 with h1|h1
   .omega
   have:(dbS (ma k) 17).2=1:=by omega
   rw[this]at hv;omega
  rw[hc,zero_mul,Int.add_zero]at hv;show dv (dbS (ma k) 17).1 17=_;rw[hv,pow_succ];generalize (2:Int)^k=q;rw[mul_comm q 2,<-mul_assoc,<-mul_assoc,mul_comm 2 Lz]
theorem acC (n:Nat) (hn:n<=15):Sx.Fn Γ.P 128 [.i .i64 n] [] (λv M=>v= .sl 1001 0 0 17 17/\M=[(1001,.mem true 0 [(17,.ai (ma n))])]):=by
 refine aG (Γ:=Γ) (fn:=Tryz.f128) rfl rfl rfl rfl ?_;refine gB ?_
 refine aY.i (σ:=Nat) (λj=>j<=n)
  (λj=>([(0,.i .i64 ((n:Int)-j)),(3,.sl 6 0 0 17 17)],[(6,.mem true 0 [(17,.ai (ma j))])])) (λj=>n-j) 0 (zero_le _) ?_ ?_
 .refine Le.i [] rfl fc rfl ?_ rfl
  exact fc
 rintro j hj;refine zB.i ?_ ?_<;>intro hc
 .have hc:(n:Int)-j>0:=hc
  have hD:=jP j;have hlD:=fT j;have hn1:ma (j+1)=(dbS (ma j) 17).1:=rfl;generalize ma j=l at hD hlD hn1;refine gB ?_
  refine aY.i (σ:=Nat) (λi=>i<=17)
   (λi=>([(0,.i .i64 ((n:Int)-j)),(3,.sl 6 0 0 17 17),(4,.i .i64 (dbS l i).2),(5,.i .i64 i)],[(6,.mem true 0 [(17,.ai (dbS l i).1)])])) (λi=>17-i) 0 (zero_le _) ?_ ?_
  .refine Le.i [] rfl fc rfl ?_ rfl
   exact fc
  rintro i hi;refine zB.i ?_ ?_<;>intro hc
  .have hc:(i:Int)<17:=hc
   obtain⟨hd,hc0,hc1⟩:=tV hD i;have hdi:=hd i;have hdl:=gn l i;have hx1:(dbS l (i+1)).1=(dbS l i).1.set i (((dbS l i).2+2*(dbS l i).1.getD i 0)%65536):=rfl;have hx2:(dbS l (i+1)).2=((dbS l i).2+2*(dbS l i).1.getD i 0)/65536:=rfl;generalize (dbS l i).1=X at hd hdi hdl hx1 hx2;generalize (dbS l i).2=C at hc0 hc1 hx1 hx2;refine gC ?_;refine⟨i+1,by omega,by omega,Le.i [] rfl fcn rfl fcn rfl⟩
  obtain rfl:i=17:=by have hc:¬(i:Int)<17:=hc;omega
  have hlD2:=gn l 17;have hn2:=hn1.symm;refine gB ?_;refine⟨j+1,by omega,by omega,Le.i [] rfl fc rfl ?_ rfl⟩;exact fc
 obtain rfl:j=n:=by have hc:¬(n:Int)-j>0:=hc;omega
 have hlD:=fT j;refine gB ?_;refine Ret.i (.sl 1001 0 0 17 17) [(1001,.mem true 0 [(17,.ai (ma j))])] [(1001,(6,0,none))] rfl fc ⟨rfl,rfl⟩ rfl fc rfl fc rfl
theorem aL5 (a b:List Int) (ha:Dig a) (hb:Dig b) (hla:a.length=17) (hlb:b.length=17):
  Sx.Fn Γ.P 129 [.slx 1000 0 0 17,.slx 1001 0 0 17] [(1000,.mem false 0 [(17,.ai a)]),(1001,.mem false 0 [(17,.ai b)])]
   (λv M=>v= .bool (dv a 17<dv b 17)/\M=[(1000,.mem false 0 [(17,.ai a)]),(1001,.mem false 0 [(17,.ai b)])]):=by
 refine aG (Γ:=Γ) (fn:=Tryz.f129) rfl rfl rfl rfl ?_;refine gB ?_
 refine aY.i (σ:=Nat) (λk=>k<=17/\∀j,17-k<=j->j<17->a.getD j 0=b.getD j 0)
  (λk=>([(0,.slx 1000 0 0 17),(1,.slx 1001 0 0 17),(5,.i .i64 (16-(k:Int)))],[(1000,.mem false 0 [(17,.ai a)]),(1001,.mem false 0 [(17,.ai b)])])) (λk=>17-k) 0 ⟨zero_le _,λj h1 h2=>by omega⟩ ?_ ?_
 .refine Le.i [] rfl fc rfl ?_ rfl
  exact fc
 rintro k ⟨hk,hs⟩;refine zB.i ?_ ?_<;>intro hc
 .have hc:(16-(k:Int))≥0:=hc
  have e0:(16-(k:Int)).toNat=16-k:=by omega
  refine aH.i [[],[],[0,1],[0,1,2],[],[],[4,5],[4,5,6],r_8] r_9 (by kernel_rfl) ?_
  repeat refine sdF ?_
  refine zB.i ?_ ?_<;>intro hd
  .have hd:¬a.getD (fL 0 (16-(k:Int)).toNat) 0=b.getD (fL 0 (16-(k:Int)).toNat) 0:=hd
   rw[zQ,zero_add,e0]at hd;refine aH.i [[],[],[0,1],[0,1,2],[],[],[4,5],[4,5,6],r_8,r_9] ek (by kernel_rfl) ?_
   repeat refine sdF ?_
   refine Ret.i (.bool (dv a 17<dv b 17)) [(1000,.mem false 0 [(17,.ai a)]),(1001,.mem false 0 [(17,.ai b)])] [] rfl trivial ⟨rfl,rfl⟩ rfl ?_ rfl ?_ rfl
   .show dv a 17<dv b 17↔a.getD (fL 0 (16-(k:Int)).toNat) 0<b.getD (fL 0 (16-(k:Int)).toNat) 0
    rw[zQ,zero_add,e0];have h1:∀j,16-k<j->j<17->a.getD j 0=b.getD j 0:=λj h1 h2=>hs j (by omega) h2;constructor
    .intro h
     rcases lt_or_le (a.getD (16-k) 0) (b.getD (16-k) 0)with h2|h2
     .exact h2
     have:=aMB hb ha (n:=17) (i:=16-k) (by omega) (by omega) λj h3 h4=>(h1 j h3 h4).symm;omega
    intro h;exact aMB ha hb (by omega) h h1
   exact fc
  have hd:¬¬a.getD (fL 0 (16-(k:Int)).toNat) 0=b.getD (fL 0 (16-(k:Int)).toNat) 0:=hd;rw[zQ,zero_add,e0]at hd;refine gB ?_;refine⟨k+1,⟨by omega,λj h1 h2=>?_⟩,by omega,Le.i [] rfl fc rfl ?_ rfl⟩
  .by_cases hj:j=16-k
   .subst hj;omega
   exact hs j (by omega) h2
  exact fc
 have hc:¬(16-(k:Int))≥0:=hc;have e:dv a 17=dv b 17:=fr λi hi=>hs i (by omega) hi;refine gB ?_;refine Ret.i (.bool (dv a 17<dv b 17)) [(1000,.mem false 0 [(17,.ai a)]),(1001,.mem false 0 [(17,.ai b)])] [] rfl trivial ⟨rfl,rfl⟩ rfl ?_ rfl ?_ rfl
 .show¬dv a 17<dv b 17
  omega
 exact fc
def dgS (b:List UInt8):Nat->List Int
 |0=>[]
 |i+1=>if i%2=0 then dgS b i++[((b.getD i 0).toNat:Int)]else(dgS b i).set (i/2) ((dgS b i).getD (i/2) 0+256*((b.getD i 0).toNat:Int))
theorem bV (b:List UInt8):∀i,(dgS b i).length=(i+1)/2
 |0=>rfl
 |i+1=>by
  simp only[dgS];split
  .rw[zlA,bV b i,List.length_singleton];omega
  rw[length_set,bV b i];omega
theorem dC (b:List UInt8):∀i,Dig (dgS b i)/\(i%2=1->(dgS b i).getD (i/2) 0<256)
 |0=>⟨λj=>by show 0<=([]:List Int).getD j 0/\([]:List Int).getD j 0<65536;rw[cG (by simp)];decide,λh=>by omega⟩
 |i+1=>by
  obtain⟨h1,h2⟩:=dC b i;have hl:=bV b i;have hb:=(b.getD i 0).toNat_lt;simp only[dgS];split
  .rename_i he
   have e:∀j,(dgS b i++[((b.getD i 0).toNat:Int)]).getD j 0=if j=i/2 then((b.getD i 0).toNat:Int)else(dgS b i).getD j 0:=by
    intro j;rcases Nat.lt_trichotomy j (i/2)with h|h|h
    .rw[if_neg (by omega),getD_eq_getElem?_getD,List.getElem?_append_left (by omega),<-getD_eq_getElem?_getD]
    .rw[if_pos h,getD_eq_getElem?_getD,List.getElem?_append_right (by omega),show j-(dgS b i).length=0 by omega];rfl
    rw[if_neg (by omega),cG (by rw[zlA,List.length_singleton];omega),cG (by omega)]
   refine⟨λj=>?_,λ_=>?_⟩
   .rw[e]
    split
    .omega
    exact h1 j
   rw[e,if_pos (by omega)];omega
  rename_i he;obtain⟨h3,h4⟩:=h1 (i/2);have h5:=h2 (by omega);exact⟨h1.set (by omega) (by omega),λh=>by omega⟩
theorem aZ5 (b:List UInt8) (n:Nat) (hb:b.length=n) (hmax:n<=100000):Sx.Fn Γ.P 88 [.slx 1000 0 0 n] [(1000,.mem false 0 [(n,.a8 b)])]
  (λv M=>∃c,(n+1)/2<=c/\v= .sl 1001 0 0 ((n+1)/2) c/\M=[(1000,.mem false 0 [(n,.a8 b)]),(1001,.mem true (c-(n+1)/2) [((n+1)/2,.ai (dgS b n))])]):=by
 refine aG (Γ:=Γ) (fn:=Tryz.f88) rfl rfl rfl rfl ?_;refine gB ?_
 refine aY.i (σ:=Nat×Nat) (λs=>s.1<=n/\(s.1+1)/2<=s.2)
  (λs=>([(0,.slx 1000 0 0 n),(3,.sl 203 0 0 ((s.1+1)/2) s.2),(4,.i .i64 s.1)],[(1000,.mem false 0 [(n,.a8 b)]),(203,.mem true (s.2-(s.1+1)/2) [((s.1+1)/2,.ai (dgS b s.1))])])) (λs=>n-s.1) (0,0) ⟨zero_le _,le_refl _⟩ ?_ ?_
 .refine Le.ghost [.own 203 [(0,.ai [])]] [(3,203)] [] rfl ⟨rfl,rfl,trivial⟩ rfl rfl fc rfl fc rfl
 rintro⟨i,c⟩ ⟨hi,hc0⟩;have hi:i<=n:=hi;have hc0:(i+1)/2<=c:=hc0;refine zB.i ?_ ?_<;>intro hc
 .have hc:(i:Int)<n:=hc
  have hl:=bV b i;have hbi:=(b.getD i 0).toNat_lt;refine gB ?_;refine zB.i ?_ ?_<;>intro he
  .have he:(i:Int)%2=0:=he
   have hx:dgS b (i+1)=dgS b i++[((b.getD i 0).toNat:Int)]:=if_pos (by omega);refine gC ?_;refineλc' hc'=>?_;have hc':(i+1)/2+1<=c':=hc';refine gB ?_;refine⟨(i+1,c'),⟨by omega,by show(i+1+1)/2<=c';omega⟩,by show n-(i+1)<n-i;omega,Le.i [(203,(21,0,none))] rfl fc rfl fcn rfl⟩
  have he:¬(i:Int)%2=0:=he;obtain⟨hD,hlt⟩:=dC b i;have hDi:=hD (i/2);have hlt:=hlt (by omega);have e0:((i:Int)/2).toNat=i/2:=by omega
  have hx:dgS b (i+1)=(dgS b i).set (i/2) ((dgS b i).getD (i/2) 0+256*((b.getD i 0).toNat:Int)):=if_neg (by omega);refine aH.i [[],[],[1],[],[],[4],[3,4,5],[3,4,5,6],[],[],[8,9],[8,9,10],[8,9,10,11],[8,9,10,11,12],[3,4,5,6,7,8,9,10,11,12,13],nw,na] wG (by kernel_rfl) ?_
  repeat refine sdF ?_
  refine⟨(i+1,c),⟨by omega,by show(i+1+1)/2<=c;omega⟩,by show n-(i+1)<n-i;omega,Le.i [] rfl fc rfl fcF rfl⟩
 obtain rfl:i=n:=by have hc:¬(i:Int)<n:=hc;omega
 have hl:=bV b i;refine gB ?_;refine Ret.i (.sl 1001 0 0 ((i+1)/2) c) [(1000,.mem false 0 [(i,.a8 b)]),(1001,.mem true (c-(i+1)/2) [((i+1)/2,.ai (dgS b i))])] [(1001,(203,0,none))] rfl fc ⟨c,hc0,rfl,rfl⟩ rfl fc rfl fc rfl
def byS (d:List Int):Nat->List UInt8
 |0=>replicate 32 0
 |i+1=>((byS d i).set (2*i) (ofInt (d.getD i 0%256))).set (2*i+1) (ofInt (d.getD i 0/256))
theorem byS_length (d:List Int):∀i,(byS d i).length=32
 |0=>length_replicate
 |i+1=>by simp only[byS,length_set,byS_length d i]
theorem aZ4 (d:List Int) (hd:Dig d) (hl:d.length=17):Sx.Fn Γ.P 89 [.slx 1000 0 0 16] [(1000,.mem false 0 [(17,.ai d)])]
  (λv M=>v= .a8 (byS d 16)/\M=[(1000,.mem false 0 [(17,.ai d)])]):=by
 refine aG (Γ:=Γ) (fn:=Tryz.f89) rfl rfl rfl rfl ?_;refine gB ?_
 refine aY.i (σ:=Nat) (λi=>i<=16)
  (λi=>([(0,.slx 1000 0 0 16),(2,.ptr 2 0 none),(3,.ptr 3 0 none),(4,.i .i64 i)],[(1000,.mem false 0 [(17,.ai d)]),(2,.mem true 0 [(32,.a8 (replicate 32 0))]),(3,.mem true 0 [(32,.a8 (byS d i))])])) (λi=>16-i) 0 (zero_le _) ?_ ?_
 .refine Le.i [] rfl fc rfl ?_ rfl
  exact fc
 rintro i hi;have hll:=byS_length d i;refine zB.i ?_ ?_<;>intro hc
 .have hc:(i:Int)<16:=hc
  have hdi:=hd i;have hx:byS d (i+1)=((byS d i).set (2*i) (ofInt (d.getD i 0%256))).set (2*i+1) (ofInt (d.getD i 0/256)):=rfl;have e0:(2*(i:Int)).toNat=2*i:=by omega
  have e1:(2*(i:Int)+1).toNat=2*i+1:=by omega
  repeat refine sdI ?_
  refine⟨i+1,by omega,by omega,Le.i [] rfl fcI rfl fcI rfl⟩
 have h16:i=16:=by have hc:¬(i:Int)<16:=hc;omega
 obtain⟨R,hR⟩:∃x,byS d i=x:=⟨_,rfl⟩;have hR16:byS d 16=R:=by rw[<-hR,h16]
 rw[hR,hR16];rw[hR]at hll;clear hR hR16;refine gB ?_;refine Ret.i (.a8 R) [(1000,.mem false 0 [(17,.ai d)])] [] rfl fc ⟨rfl,rfl⟩ rfl fc rfl fc rfl
def sbS (r l:List Int):Nat->List Int×Int
 |0=>(r,0)
 |i+1=>if(sbS r l i).1.getD i 0-l.getD i 0-(sbS r l i).2<0 then((sbS r l i).1.set i ((sbS r l i).1.getD i 0-l.getD i 0-(sbS r l i).2+65536),1)
  else((sbS r l i).1.set i ((sbS r l i).1.getD i 0-l.getD i 0-(sbS r l i).2),0)
theorem bT (r l:List Int):∀i,(sbS r l i).1.length=r.length
 |0=>rfl
 |i+1=>by simp only[sbS];split <;>simp only[length_set,bT r l i]
theorem aEV (r l:List Int):∀i j,i<=j->(sbS r l i).1.getD j 0=r.getD j 0
 |0,_,_=>rfl
 |i+1,j,h=>by simp only[sbS];split <;>(show(List.set _ _ _).getD j 0=_;rw[aA (by omega),aEV r l i j (by omega)])
theorem mR {r l:List Int} (hr:Dig r) (hl:Dig l):∀i,Dig (sbS r l i).1/\0<=(sbS r l i).2/\(sbS r l i).2<=1
 |0=>⟨hr,Int.le_refl _,by show(0:Int)<=1;decide⟩
 |i+1=>by
  obtain⟨h1,h2,h3⟩:=mR hr hl i;have a:=h1 i;have b:=hl i;simp only[sbS];split
  .exact⟨h1.set (by omega) (by omega),by show(0:Int)<=1;decide,by show(1:Int)<=1;decide⟩
  exact⟨h1.set (by omega) (by omega),by show(0:Int)<=0;decide,by show(0:Int)<=1;decide⟩
theorem wy (r l:List Int):∀i,i<=r.length->dv (sbS r l i).1 i-(sbS r l i).2*65536^i=dv r i-dv l i
 |0,_=>by simp only[sbS,dv];omega
 |i+1,hi=>by
  have ih:=wy r l i (by omega);have hs:=aEV r l i i (le_refl _);have hl:=bT r l i;simp only[sbS];rw[hs];generalize hB:(sbS r l i).2=B at ih;split
  .show dv (List.set _ _ _) (i+1)-1*65536^(i+1)=_
   rw[ar (by omega)];simp only[dv];rw[pow_succ];generalize (65536:Int)^i=p at *;have:(r.getD i 0-l.getD i 0-B+65536)*p=r.getD i 0*p-l.getD i 0*p-B*p+65536*p:=by rw[add_mul,sub_mul,sub_mul]
   omega
  show dv (List.set _ _ _) (i+1)-0*65536^(i+1)=_;rw[ar (by omega)];simp only[dv];generalize (65536:Int)^i=p at *;have:(r.getD i 0-l.getD i 0-B)*p=r.getD i 0*p-l.getD i 0*p-B*p:=by rw[sub_mul,sub_mul]
  omega
def shS (r:List Int) (x:Int):Nat->List Int
 |0=>(replicate 17 0).set 0 x
 |k+1=>(shS r x k).set (k+1) (r.getD k 0)
theorem gW (r:List Int) (x:Int):∀k,(shS r x k).length=17
 |0=>by simp[shS]
 |k+1=>by simp only[shS,length_set,gW r x k]
theorem ou {r:List Int} {x:Int} (hr:Dig r) (h0:0<=x) (h1:x<65536):∀k,Dig (shS r x k)
 |0=>(Dig.rep 17).set h0 h1
 |k+1=>(ou hr h0 h1 k).set (hr k).1 (hr k).2
theorem aEO (r:List Int) (x:Int):∀k,k<=16->dv (shS r x k) (k+1)=x+65536*dv r k
 |0,_=>by
  show dv (List.set _ _ _) 1=_;rw[ar (by simp)];simp only[dv];omega
 |k+1,h=>by
  have ih:=aEO r x k (by omega);simp only[shS];rw[ar (by rw[gW];omega),ih];simp only[dv];rw[pow_succ,Int.mul_add];generalize (65536:Int)^k=p;have:r.getD k 0*(p*65536)=65536*(r.getD k 0*p):=by rw[<-mul_assoc,mul_comm]
  omega
def rdS (r:List Int):Nat->List Int
 |0=>r
 |k+1=>if dv (rdS r k) 17<dv (ma (15-k)) 17 then rdS r k else(sbS (rdS r k) (ma (15-k)) 17).1
theorem jN {r:List Int} (h:r.length=17):∀k,(rdS r k).length=17
 |0=>h
 |k+1=>by simp only[rdS];split <;>simp only[bT,jN h k]
theorem mW {r:List Int} (h:Dig r):∀k,Dig (rdS r k)
 |0=>h
 |k+1=>by
  simp only[rdS];split
  .exact mW h k
  exact(mR (mW h k) (jP _) 17).1
theorem aOP:0<Lz:=by decide
theorem aE9 {r:List Int} (hd:Dig r) (hl:r.length=17) (hb:dv r 17<Lz*2^16):∀k,k<=16->dv (rdS r k) 17<Lz*2^(16-k)/\dv (rdS r k) 17%Lz=dv r 17%Lz
 |0,_=>⟨hb,rfl⟩
 |k+1,hk=>by
  obtain⟨h1,h2⟩:=aE9 hd hl hb k (by omega);have ho:=zY (15-k) (by omega);have e:Lz*2^(16-k)=2*(Lz*2^(15-k)):=by
   rw[show 16-k=15-k+1 by omega,pow_succ];generalize (2:Int)^(15-k)=q;rw[mul_comm q 2,<-mul_assoc,<-mul_assoc,mul_comm 2 Lz]
  simp only[rdS];rw[show 16-(k+1)=15-k by omega];split
  .rename_i h
   rw[ho]at h;exact⟨h,h2⟩
  rename_i h;have hv:=wy (rdS r k) (ma (15-k)) 17 (by rw[jN hl];omega);obtain⟨s1,s2,s3⟩:=mR (mW hd k) (jP (15-k)) 17;obtain⟨b1,b2⟩:=aJ s1 17;rw[ho]at h hv;have hc:(sbS (rdS r k) (ma (15-k)) 17).2=0:=by
   rcases lt_or_le (sbS (rdS r k) (ma (15-k)) 17).2 1 with h3|h3
   .omega
   have h4:(sbS (rdS r k) (ma (15-k)) 17).2=1:=by omega
   rw[h4]at hv;omega
  rw[hc]at hv;have hv:dv (sbS (rdS r k) (ma (15-k)) 17).1 17=dv (rdS r k) 17-Lz*2^(15-k):=by omega
  refine⟨by omega,?_⟩;rw[hv,<-h2,Int.sub_mul_emod_self_left]
def moS (d:List Int) (n:Nat):Nat->List Int
 |0=>replicate 17 0
 |k+1=>rdS (shS (moS d n k) (d.getD (n-1-k) 0) 16) 16
def tov (d:List Int) (n:Nat):Nat->Int
 |0=>0
 |k+1=>tov d n k*65536+d.getD (n-1-k) 0
theorem me (d:List Int) (n:Nat):∀k,(moS d n k).length=17
 |0=>length_replicate
 |k+1=>jN (gW _ _ _) 16
theorem iH {d:List Int} (h:Dig d) (n:Nat):∀k,Dig (moS d n k)
 |0=>Dig.rep 17
 |k+1=>mW (ou (iH h n k) (h _).1 (h _).2 16) 16
theorem vf (n:Nat):∀k,dv (replicate n 0) k=0
 |0=>rfl
 |k+1=>by
  simp only[dv];rw[vf n k,getD_eq_getElem?_getD,List.getElem?_replicate];split <;>simp
theorem aF4 {d:List Int} (h:Dig d) (n:Nat):∀k,dv (moS d n k) 17=tov d n k%Lz
 |0=>by rw[show moS d n 0=replicate 17 0 from rfl,vf];rfl
 |k+1=>by
  have ih:=aF4 h n k;have hD:=iH h n k;obtain⟨x0,x1⟩:=h (n-1-k);have hm0:=Int.emod_nonneg (tov d n k) (show Lz≠0 by decide);have hm1:=Int.emod_lt_of_pos (tov d n k) aOP;have h16:(moS d n k).getD 16 0=0:=by
   obtain⟨b1,b2⟩:=aJ hD 16;obtain⟨c1,c2⟩:=hD 16;have:dv (moS d n k) 17=dv (moS d n k) 16+(moS d n k).getD 16 0*65536^16:=rfl;have hL:Lz<65536^16:=by decide
   rcases lt_or_le 0 ((moS d n k).getD 16 0)with h3|h3
   .have:1*65536^16<=(moS d n k).getD 16 0*65536^16:=Int.mul_le_mul_of_nonneg_right (by omega) (by decide)
    omega
   omega
  have e17:dv (moS d n k) 16=tov d n k%Lz:=by
   rw[<-ih];show _=dv (moS d n k) 16+(moS d n k).getD 16 0*65536^16;rw[h16];omega
  have hs:=aEO (moS d n k) (d.getD (n-1-k) 0) 16 (by omega);rw[e17]at hs;have hs:dv (shS (moS d n k) (d.getD (n-1-k) 0) 16) 17=d.getD (n-1-k) 0+65536*(tov d n k%Lz):=hs;have hb:dv (shS (moS d n k) (d.getD (n-1-k) 0) 16) 17<Lz*2^16:=by rw[hs];omega
  obtain⟨r1,r2⟩:=aE9 (ou hD x0 x1 16) (gW _ _ _) hb 16 (by omega);have r0:=(aJ (mW (ou hD x0 x1 16) 16) 17).1;show dv (rdS (shS (moS d n k) (d.getD (n-1-k) 0) 16) 16) 17=(tov d n k*65536+d.getD (n-1-k) 0)%Lz;rw[<-Int.emod_eq_of_lt r0 (by simpa using r1),r2,hs];rw[Int.add_comm (tov d n k*65536),mul_comm (tov d n k)];rw[Int.add_emod,Int.mul_emod,Int.emod_emod,<-Int.mul_emod,<-Int.add_emod]
theorem acG (d:List Int) (n:Nat) (hd:Dig d) (hl:d.length=n) (hmax:n<=100000):Sx.Fn Γ.P 90 [.slx 1000 0 0 n] [(1000,.mem false 0 [(n,.ai d)])]
  (λv M=>v= .sl 1001 0 0 16 17/\M=[(1000,.mem false 0 [(n,.ai d)]),(1001,.mem true 0 [(17,.ai (moS d n n))])]):=by
 refine aG (Γ:=Γ) (fn:=Tryz.f90) rfl rfl rfl rfl ?_;refine gB ?_
 refine aY.i (σ:=Nat) (λk=>k<=n)
  (λk=>([(0,.slx 1000 0 0 n),(3,.sl 300 0 0 17 17),(4,.i .i64 ((n:Int)-1-k))],[(1000,.mem false 0 [(n,.ai d)]),(300,.mem true 0 [(17,.ai (moS d n k))])])) (λk=>n-k) 0 (zero_le _) ?_ ?_
 .refine Le.i [(300,(12,0,none))] rfl fc rfl ?_ rfl
  exact fc
 rintro k hk;have hml:=me d n k;have hmd:=iH hd n k;refine zB.i ?_ ?_<;>intro hc
 .have hc:(n:Int)-1-k≥0:=hc
  have e0:((n:Int)-1-k).toNat=n-1-k:=by omega
  have hx:=hd (n-1-k);have hn:moS d n (k+1)=rdS (shS (moS d n k) (d.getD (n-1-k) 0) 16) 16:=rfl;generalize moS d n k=r at hml hmd hn;generalize hX:d.getD (n-1-k) 0=x at hx hn
  repeat refine sdF ?_
  refine aY.i (σ:=Nat) (λj=>j<=16)
   (λj=>([(0,.slx 1000 0 0 n),(3,.sl 300 0 0 17 17),(4,.i .i64 ((n:Int)-1-k)),(5,.sl 20 0 0 17 17),(6,.i .i64 ((j:Int)+1))],
    [(1000,.mem false 0 [(n,.ai d)]),(300,.mem true 0 [(17,.ai r)]),(20,.mem true 0 [(17,.ai (shS r x j))])])) (λj=>16-j) 0 (zero_le _) ?_ ?_
  .have hsh:shS r x 0=(replicate 17 0).set 0 x:=rfl
   refine Le.i [] rfl fc rfl fcF rfl
  rintro j hj;have hsl:=gW r x j;refine zB.i ?_ ?_<;>intro hc
  .have hc:(j:Int)+1<17:=hc
   have e1:((j:Int)+1).toNat=j+1:=by omega
   have e2:((j:Int)+1-1).toNat=j:=by omega
   have hrj:=hmd j;have hsh:shS r x (j+1)=(shS r x j).set (j+1) (r.getD j 0):=rfl
   repeat refine sdJ ?_
   refine⟨j+1,by omega,by omega,Le.i [] rfl fc rfl fcJ rfl⟩
  have h16:j=16:=by have hc:¬(j:Int)+1<17:=hc;omega
  have hsd:=ou hmd hx.1 hx.2 j;obtain⟨s,hs⟩:∃y,shS r x j=y:=⟨_,rfl⟩;have hn:moS d n (k+1)=rdS (shS r x j) 16:=by rw[hn,h16]
  rw[hs]at hn;rw[hs]at hsl hsd;rw[hs];clear hs h16;refine gB ?_
  refine aY.i (σ:=Nat) (λq=>q<=16)
   (λq=>([(0,.slx 1000 0 0 n),(3,.sl 302 0 0 17 17),(4,.i .i64 ((n:Int)-1-k)),(7,.i .i64 (15-(q:Int)))],
    [(1000,.mem false 0 [(n,.ai d)]),(302,.mem true 0 [(17,.ai (rdS s q))])])) (λq=>16-q) 0 (zero_le _) ?_ ?_
  .have hrs:rdS s 0=s:=rfl
   refine Le.i [(302,(20,0,none))] rfl fc rfl fc rfl
  rintro q hq;have hrl:=jN hsl q;have hrd:=mW hsd q;refine zB.i ?_ ?_<;>intro hc
  .have hc:(15-(q:Int))≥0:=hc
   have hrs:rdS s (q+1)=if dv (rdS s q) 17<dv (ma (15-q)) 17 then rdS s q else(sbS (rdS s q) (ma (15-q)) 17).1:=rfl
   have hO:=acC (15-q) (by omega);have hol:=fT (15-q);have hod:=jP (15-q);have hB:=aL5 (rdS s q) (ma (15-q)) hrd hod hrl hol;generalize ma (15-q)=l at hrs hO hol hod hB;generalize rdS s q=y at hrl hrd hrs hB;refine gB ?_;refine Call.i hO [(1001,(301,0,none))] rfl fc rfl trivial rfl ?_;rintro _ _ ⟨rfl,rfl⟩;refine gB ?_;refine Call.i hB [(1000,(302,0,none)),(1001,(301,0,none))] rfl fc rfl fc rfl ?_;rintro _ _ ⟨rfl,rfl⟩;refine gB ?_;refine zB.i ?_ ?_<;>intro hb
   .rw[if_neg hb]at hrs
    refine gB ?_
    refine aY.i (σ:=Nat) (λi=>i<=17)
     (λi=>([(0,.slx 1000 0 0 n),(3,.sl 302 0 0 17 17),(4,.i .i64 ((n:Int)-1-k)),(7,.i .i64 (15-(q:Int))),(8,.sl 301 0 0 17 17),(9,.i .i64 (sbS y l i).2),(10,.i .i64 i)],
      [(1000,.mem false 0 [(n,.ai d)]),(302,.mem true 0 [(17,.ai (sbS y l i).1)]),(301,.mem true 0 [(17,.ai l)])])) (λi=>17-i) 0 (zero_le _) ?_ ?_
    .have hz1:(sbS y l 0).1=y:=rfl
     have hz2:(sbS y l 0).2=0:=rfl;refine Le.i [] rfl fc rfl fc rfl
    rintro i hi;obtain⟨b1,b2,b3⟩:=mR hrd hod i;have hyl:=bT y l i;refine zB.i ?_ ?_<;>intro hc
    .have hc:(i:Int)<17:=hc
     have hbi:=b1 i;have hli:=hod i;have hy1:sbS y l (i+1)=if(sbS y l i).1.getD i 0-l.getD i 0-(sbS y l i).2<0 then((sbS y l i).1.set i ((sbS y l i).1.getD i 0-l.getD i 0-(sbS y l i).2+65536),1)else((sbS y l i).1.set i ((sbS y l i).1.getD i 0-l.getD i 0-(sbS y l i).2),0):=rfl
     generalize (sbS y l i).1=Y at *;generalize (sbS y l i).2=B at *;refine aH.i [[],[],[0,1],[0,1,2],[],[],[4,5],[4,5,6],r_8,[],ek,fe] kX (by kernel_rfl) ?_;refine gC ?_;refine zB.i ?_ ?_<;>intro hv
     .have hv:Y.getD (fL 0 (i:Int).toNat) 0-l.getD (fL 0 (i:Int).toNat) 0-B<0:=hv
      rw[zQ,zero_add,zIn]at hv;rw[if_pos hv]at hy1;have hy2:(sbS y l (i+1)).1=Y.set i (Y.getD i 0-l.getD i 0-B+65536):=by rw[hy1]
      have hy3:(sbS y l (i+1)).2=1:=by rw[hy1]
      clear hy1;refine gC ?_;refine⟨i+1,by omega,by omega,Le.i [] rfl fcn rfl fcn rfl⟩
     have hv:¬Y.getD (fL 0 (i:Int).toNat) 0-l.getD (fL 0 (i:Int).toNat) 0-B<0:=hv;rw[zQ,zero_add,zIn]at hv;rw[if_neg hv]at hy1;have hy2:(sbS y l (i+1)).1=Y.set i (Y.getD i 0-l.getD i 0-B):=by rw[hy1]
     have hy3:(sbS y l (i+1)).2=0:=by rw[hy1]
     clear hy1;refine gC ?_;refine⟨i+1,by omega,by omega,Le.i [] rfl fcn rfl fcn rfl⟩
    have h17:i=17:=by have hc:¬(i:Int)<17:=hc;omega
    rw[<-h17]at hrs;obtain⟨Y,hY⟩:∃z,(sbS y l i).1=z:=⟨_,rfl⟩;rw[hY]at hrs hyl;rw[hY];clear hY h17;refine gB ?_;refine⟨q+1,by omega,by omega,Le.i [] rfl fc rfl fc rfl⟩
   rw[if_pos (Decidable.of_not_not hb)]at hrs;refine gB ?_;refine⟨q+1,by omega,by omega,Le.i [] rfl fc rfl fc rfl⟩
  have h16:q=16:=by have hc:¬(15-(q:Int))≥0:=hc;omega
  have hn:moS d n (k+1)=rdS s q:=by rw[hn,h16]
  obtain⟨Y,hY⟩:∃z,rdS s q=z:=⟨_,rfl⟩;rw[hY]at hn hrl;rw[hY];clear hY h16;refine gB ?_;refine⟨k+1,by omega,by omega,Le.i [(300,(302,0,none))] rfl fc rfl fc rfl⟩
 have hkn:k=n:=by have hc:¬(n:Int)-1-k≥0:=hc;omega
 have hmm:moS d n n=moS d n k:=by rw[hkn]
 rw[hmm];generalize moS d n k=Y at *;refine gB ?_;refine Ret.i (.sl 1001 0 0 16 17) [(1000,.mem false 0 [(n,.ai d)]),(1001,.mem true 0 [(17,.ai Y)])] [(1001,(300,0,none))] rfl fc ⟨rfl,rfl⟩ rfl fc rfl fc rfl
theorem aOE {l:List Int} {i:Nat} {x:Int} (hi:i<l.length):∀{n:Nat},i<n->dv (l.set i x) n=dv l n+(x-l.getD i 0)*65536^i
 |0,h=>absurd h (Nat.not_lt_zero _)
 |n+1,h=>by
  by_cases hn:i=n
  .subst hn
   rw[ar hi];simp only[dv];rw[sub_mul];omega
  simp only[dv];rw[aOE hi (n:=n) (by omega),aA hn];omega
def zcS (z:List Int):Nat->List Int
 |0=>replicate 33 0
 |i+1=>(zcS z i).set i (z.getD i 0)
theorem jH (z:List Int):∀i,(zcS z i).length=33
 |0=>length_replicate
 |i+1=>by simp only[zcS,length_set,jH z i]
theorem aDK {z:List Int} (h:Dig z):∀i,Dig (zcS z i)
 |0=>Dig.rep 33
 |i+1=>(aDK h i).set (h i).1 (h i).2
theorem wQ (z:List Int):∀i j,i<=33->(zcS z i).getD j 0=if j<i then z.getD j 0 else 0
 |0,j,_=>by
  rw[if_neg (by omega)];show(replicate 33 (0:Int)).getD j 0=0;rw[getD_eq_getElem?_getD,List.getElem?_replicate];split <;>rfl
 |i+1,j,h=>by
  simp only[zcS];by_cases hj:i=j
  .subst hj
   rw[aE (by rw[jH];omega),if_pos (by omega)]
  rw[aA hj,wQ z i j (by omega)];by_cases h1:j<i
  .rw[if_pos h1,if_pos (by omega)]
  rw[if_neg h1,if_neg (by omega)]
theorem aOT {z:List Int}:dv (zcS z 16) 33=dv z 16:=by
 rw[tT (a:=16) (b:=33) (by omega) λi h1 h2=>by rw[wQ z 16 i (by omega),if_neg (by omega)]];exact fr λi hi=>by rw[wQ z 16 i (by omega),if_pos hi]
def mlP (x y:List Int) (i k:Nat):Int:=if k<16 then x.getD i 0*y.getD k 0 else 0
def mlS (x y d:List Int) (i:Nat):Nat->List Int×Int
 |0=>(d,0)
 |k+1=>((mlS x y d i k).1.set (i+k) (((mlS x y d i k).2+(mlS x y d i k).1.getD (i+k) 0+mlP x y i k)%65536),((mlS x y d i k).2+(mlS x y d i k).1.getD (i+k) 0+mlP x y i k)/65536)
theorem jT (x y d:List Int) (i:Nat):∀k,(mlS x y d i k).1.length=d.length
 |0=>rfl
 |k+1=>by simp only[mlS,length_set,jT x y d i k]
theorem ur {a b:Int} (a0:0<=a) (a1:a<65536) (b0:0<=b) (b1:b<65536):0<=a*b/\a*b<=4294836225:=by
 refine⟨Int.mul_nonneg a0 b0,?_⟩;have h1:a*b<=65535*b:=Int.mul_le_mul_of_nonneg_right (by omega) b0;omega
theorem aF8 {x y:List Int} (hx:Dig x) (hy:Dig y) (i k:Nat):0<=mlP x y i k/\mlP x y i k<=4294836225:=by
 unfold mlP;split
 .exact ur (hx i).1 (hx i).2 (hy k).1 (hy k).2
 decide
theorem tF {x y d:List Int} (hx:Dig x) (hy:Dig y) (hd:Dig d) (i:Nat):∀k,Dig (mlS x y d i k).1/\0<=(mlS x y d i k).2/\(mlS x y d i k).2<65536
 |0=>⟨hd,Int.le_refl _,by show(0:Int)<65536;decide⟩
 |k+1=>by
  obtain⟨h1,h2,h3⟩:=tF hx hy hd i k;have h4:=h1 (i+k);have h5:=aF8 hx hy i k;have e1:(mlS x y d i (k+1)).1=(mlS x y d i k).1.set (i+k) (((mlS x y d i k).2+(mlS x y d i k).1.getD (i+k) 0+mlP x y i k)%65536):=rfl;have e2:(mlS x y d i (k+1)).2=((mlS x y d i k).2+(mlS x y d i k).1.getD (i+k) 0+mlP x y i k)/65536:=rfl;rw[e1,e2];exact⟨h1.set (by omega) (by omega),by omega,by omega⟩
theorem xU {x y d:List Int} (hl:d.length=33) {i:Nat} (hi:i<16):∀k,k<=17->dv (mlS x y d i k).1 33+(mlS x y d i k).2*65536^(i+k)=dv d 33+x.getD i 0*dv y (min k 16)*65536^i
 |0,_=>by
  show dv d 33+0*65536^(i+0)=dv d 33+x.getD i 0*0*65536^i;rw[Int.mul_zero,zero_mul,zero_mul]
 |k+1,hk=>by
  have ih:=xU (x:=x) (y:=y) hl hi k (by omega);have e1:(mlS x y d i (k+1)).1=(mlS x y d i k).1.set (i+k) (((mlS x y d i k).2+(mlS x y d i k).1.getD (i+k) 0+mlP x y i k)%65536):=rfl;have e2:(mlS x y d i (k+1)).2=((mlS x y d i k).2+(mlS x y d i k).1.getD (i+k) 0+mlP x y i k)/65536:=rfl;rw[e1,e2,aOE (by rw[jT];omega) (by omega)];have es:((mlS x y d i k).2+(mlS x y d i k).1.getD (i+k) 0+mlP x y i k)%65536+65536*(((mlS x y d i k).2+(mlS x y d i k).1.getD (i+k) 0+mlP x y i k)/65536)=(mlS x y d i k).2+(mlS x y d i k).1.getD (i+k) 0+mlP x y i k:=Int.emod_add_mul_ediv _ _;generalize ((mlS x y d i k).2+(mlS x y d i k).1.getD (i+k) 0+mlP x y i k)%65536=m at *;generalize ((mlS x y d i k).2+(mlS x y d i k).1.getD (i+k) 0+mlP x y i k)/65536=q at *;have ep:mlP x y i k*65536^k+x.getD i 0*dv y (min k 16)=x.getD i 0*dv y (min (k+1) 16):=by
   unfold mlP;split
   .rw[show min k 16=k by omega,show min (k+1) 16=k+1 by omega]
    simp only[dv];rw[Int.mul_add,<-mul_assoc,Int.add_comm]
   rw[show min k 16=16 by omega,show min (k+1) 16=16 by omega,zero_mul,Int.zero_add]
  rw[<-ep,add_mul];rw[show i+(k+1)=i+k+1 by omega,pow_succ];have e3:mlP x y i k*65536^k*65536^i=mlP x y i k*65536^(i+k):=by rw[mul_assoc,<-Int.pow_add,Nat.add_comm k i]
  rw[e3];generalize (65536:Int)^(i+k)=p at *;have e4:m*p+q*(p*65536)=(mlS x y d i k).2*p+(mlS x y d i k).1.getD (i+k) 0*p+mlP x y i k*p:=by
   rw[<-add_mul,<-add_mul,<-es,add_mul,mul_comm p,<-mul_assoc,mul_comm q]
  rw[sub_mul];omega
def mrS (x y z:List Int):Nat->List Int
 |0=>zcS z 16
 |i+1=>(mlS x y (mrS x y z i) i 17).1
theorem jS (x y z:List Int):∀i,(mrS x y z i).length=33
 |0=>jH z 16
 |i+1=>by simp only[mrS,jT,jS x y z i]
theorem kD {x y z:List Int} (hx:Dig x) (hy:Dig y) (hz:Dig z):∀i,Dig (mrS x y z i)
 |0=>aDK hz 16
 |i+1=>(tF hx hy (kD hx hy hz i) i 17).1
theorem aKY {X Y Z A:Int} (hX:X<A) (hX0:0<=X) (hY:Y<65536^16) (hY0:0<=Y) (hZ:Z<65536^16):Z+X*Y<A*65536^16:=by
 have h1:X*Y<=X*(65536^16-1):=Int.mul_le_mul_of_nonneg_left (by omega) hX0;have h2:(X+1)*(65536^16)<=A*65536^16:=Int.mul_le_mul_of_nonneg_right (by omega) (by decide);rw[Int.mul_sub]at h1;rw[add_mul]at h2;generalize (65536:Int)^16=B at *;omega
theorem ph {x y z:List Int} (hx:Dig x) (hy:Dig y) (hz:Dig z):∀i,i<=16->dv (mrS x y z i) 33=dv z 16+dv x i*dv y 16
 |0,_=>by
  show dv (zcS z 16) 33=dv z 16+0*dv y 16;rw[aOT,zero_mul,Int.add_zero]
 |i+1,hi=>by
  have ih:=ph hx hy hz i (by omega);have hv:=xU (x:=x) (y:=y) (d:=mrS x y z i) (jS x y z i) (i:=i) (by omega) 17 (le_refl _);obtain⟨h1,h2,h3⟩:=tF hx hy (kD hx hy hz i) i 17;have b:=(aJ h1 33).1;have ex:dv x (i+1)=dv x i+x.getD i 0*65536^i:=rfl;have bx:=aJ hx (i+1);have bd:=aKY bx.2 bx.1 (aJ hy 16).2 (aJ hy 16).1 (aJ hz 16).2;rw[show min 17 16=16 from rfl,ih]at hv;have e5:x.getD i 0*dv y 16*65536^i=x.getD i 0*65536^i*dv y 16:=by rw[mul_assoc,mul_comm (dv y 16),<-mul_assoc]
  rw[e5,Int.add_assoc,<-add_mul,<-ex]at hv;rw[<-Int.pow_add,show i+1+16=i+17 by omega]at bd;have hp:=pI (i+17);have hc:(mlS x y (mrS x y z i) i 17).2=0:=by
   rcases lt_or_le 0 (mlS x y (mrS x y z i) i 17).2 with h4|h4
   .have:1*65536^(i+17)<=(mlS x y (mrS x y z i) i 17).2*65536^(i+17):=Int.mul_le_mul_of_nonneg_right (by omega) (by omega)
    omega
   omega
  rw[hc,zero_mul,Int.add_zero]at hv;exact hv
theorem aF7 {x y z:List Int} (hx:Dig x) (hy:Dig y) (hz:Dig z) {i:Nat} (hi:i<16):(mlS x y (mrS x y z i) i 17).2=0:=by
 have h1:=ph hx hy hz (i+1) (by omega);have ih:=ph hx hy hz i (by omega);have hv:=xU (x:=x) (y:=y) (d:=mrS x y z i) (jS x y z i) (i:=i) hi 17 (le_refl _);have ex:dv x (i+1)=dv x i+x.getD i 0*65536^i:=rfl;rw[show min 17 16=16 from rfl,ih]at hv;have e5:x.getD i 0*dv y 16*65536^i=x.getD i 0*65536^i*dv y 16:=by rw[mul_assoc,mul_comm (dv y 16),<-mul_assoc]
 rw[e5,Int.add_assoc,<-add_mul,<-ex,<-h1]at hv;have hv:dv (mrS x y z (i+1)) 33+(mlS x y (mrS x y z i) i 17).2*65536^(i+17)=dv (mrS x y z (i+1)) 33:=hv;have hp:=pI (i+17);have h0:(mlS x y (mrS x y z i) i 17).2*65536^(i+17)=0:=by omega
 rcases Int.mul_eq_zero.1 h0 with h|h
 .exact h
 omega
theorem aM1 (d:List Int) (n:Nat):∀k,k<=n->tov d n k*65536^(n-k)+dv d (n-k)=dv d n
 |0,_=>by simp only[tov,zero_mul,Int.zero_add,Nat.sub_zero]
 |k+1,h=>by
  have ih:=aM1 d n k (by omega);rw[show n-k=n-(k+1)+1 by omega]at ih;rw[<-ih];simp only[tov,dv];rw[show n-1-k=n-(k+1) by omega,pow_succ];generalize (65536:Int)^(n-(k+1))=p;rw[add_mul];have:tov d n k*65536*p=tov d n k*(p*65536):=by rw[mul_assoc,mul_comm 65536]
  omega
theorem aQJ {d:List Int} (h:Dig d) (n:Nat):dv (moS d n n) 17=dv d n%Lz:=by
 have:=aM1 d n n (le_refl _);rw[Nat.sub_self,Int.pow_zero,Int.mul_one]at this;rw[aF4 h n n,<-this];simp only[dv,Int.add_zero]
def vq (b:List UInt8) (i:Nat):UInt64:=aF (b.getD (i/8) 0).toUInt64 (i%8)&&&1
def am (b:List UInt8) (n:Nat):Nat->List UInt64
 |0=>[]
 |k+1=>am b n k++[vq b (8*n-1-k)]
theorem lh (b:List UInt8) (n:Nat):∀k,(am b n k).length=k
 |0=>rfl
 |k+1=>by simp only[am,zlA,lh b n k,List.length_singleton]
structure th (b1 o1 b2 o2 n:Nat) (b:List UInt8) (x:Option Addr) (c:Nat) (W:World):Prop where
 cell:W.cell? ⟨b1,o1,none⟩=some (.slice x n c)
 bytes:∀j,j<n->W.cell? ⟨b2,o2+j,none⟩=some (w8 (b.getD j 0))
def aa4 (b1 o1 b2 o2 n k o:Nat):Prop:=(k=b1/\o=o1)\/(k=b2/\o2<=o/\o<o2+n)
def Kp (b1 o1 b2 o2 n:Nat) (A B:World):Prop:=∀k o v,aa4 b1 o1 b2 o2 n k o->A.cell? ⟨k,o,none⟩=some v->B.cell? ⟨k,o,none⟩=some v
section
variable {b1 o1 b2 o2 n:Nat} {b:List UInt8} {x:Option Addr} {c:Nat}
theorem th.kept {A B:World} (h:th b1 o1 b2 o2 n b x c A) (hk:Kp b1 o1 b2 o2 n A B):th b1 o1 b2 o2 n b x c B:=
 ⟨hk _ _ _ (Or.inl ⟨rfl,rfl⟩) h.cell,λj hj=>hk _ _ _ (Or.inr ⟨rfl,by omega,by omega⟩) (h.bytes j hj)⟩
def aOC (b1 o1 b2 o2:Nat):Env:=⟨λa=>a=1\/a=2,λa=>if a=1 then(b1,o1)else(b2,o2),λ_ _ _=>False⟩
def aNP (n:Nat) (b:List UInt8):Mm:=[(1,.mem false 0 [(1,.slx 2 0 0 n)]),(2,.mem false 0 [(n,.a8 b)])]
theorem gj {W:World} {k o:Nat} {v:Value} (h:W.cell? ⟨k,o,none⟩=some v):k<W.heap.size:=by
 unfold World.cell? at h;simp only at h;cases hb:W.heap[k]? with
 |none=>rw[hb]at h;cases h
 |some _=>exact(Array.getElem?_eq_some_iff.1 hb).1
theorem th.conc {W:World} (h:th b1 o1 b2 o2 n b x c W) (hb:b.length=n) (hnc:n<=c) (hx:c≠0->x=some ⟨b2,o2,none⟩):zF (aOC b1 o1 b2 o2) (aNP n b) W:=by
 have g1:zG (aNP n b) 1=some (.mem false 0 [(1,.slx 2 0 0 n)]):=rfl;have g2:zG (aNP n b) 2=some (.mem false 0 [(n,.a8 b)]):=rfl;have gx:∀{a e},zG (aNP n b) a=some e->(a=1/\e= .mem false 0 [(1,.slx 2 0 0 n)])\/(a=2/\e= .mem false 0 [(n,.a8 b)]):=by
  intro a e he;by_cases h1:a=1
  .subst h1;rw[g1]at he;exact Or.inl ⟨rfl,(Option.some.inj he).symm⟩
  by_cases h2:a=2
  .subst h2;rw[g2]at he;exact Or.inr ⟨rfl,(Option.some.inj he).symm⟩
  unfold aNP at he;rw[zg h1,zg h2]at he;simp[zG]at he
 refine⟨λa ha=>?_,λa e he=>?_,λa e he=>?_,λa a' e e' he he' hab ho=>?_,λ_ _ _ h=>h.elim,λk o hi=>?_⟩
 .rcases ha with rfl|rfl
  .exact⟨_,g1⟩
  exact⟨_,g2⟩
 .rcases gx he with h|h
  .exact Or.inl h.1
  exact Or.inr h.1
 .rcases gx he with⟨rfl,rfl⟩|⟨rfl,rfl⟩
  .refine⟨[.slice x n c],⟨[.slice x n c],[],rfl,rfl,⟨_,⟨Or.inr rfl,c,x,hnc,rfl,λhc=>?_⟩,rfl⟩,rfl⟩,⟨λ_=>gj h.cell,λ_ h=>absurd rfl h⟩,λj v hj=>?_,λh=>by cases h⟩
   .rw[hx hc];rfl
   cases j with
   |zero=>
    simp only[List.getElem?_cons_zero,zoI]at hj;rw[<-hj];exact h.cell
   |succ j=>simp at hj
  refine⟨b.map w8,⟨b.map w8,[],by simp,by simp[hb],rfl,rfl⟩,⟨λhn=>?_,λ_ h=>absurd rfl h⟩,λj v hj=>?_,λh=>by cases h⟩
  .have hn0:0<n:=by
    simp only[zL,Bool.false_eq_true,if_false,Nat.add_zero]at hn;omega
   exact gj (h.bytes 0 hn0)
  have hj2:=(List.getElem?_eq_some_iff.1 hj).1;rw[List.length_map,hb]at hj2;have:=h.bytes j hj2;rw[List.getElem?_map,List.getElem?_eq_getElem (by omega)]at hj;simp only[Option.map_some,zoI]at hj;rw[getD_eq_getElem?_getD,List.getElem?_eq_getElem (by omega),Option.getD_some,hj]at this;exact this
 .rcases gx he with⟨rfl,rfl⟩|⟨rfl,rfl⟩<;>cases ho
 obtain⟨_,_,_,h1,_⟩:=hi;exact h1.elim
end
theorem xC {P:Program} {a:Act} {o:Oper} {W:World} {l:Nat} {t u:Operand} {x:Value} {ats:Array TypeId} {nx:Next} (ho:o.op= .call {callee:=.value t,args:=#[u],argTypes:=ats}) (ht:a.eval t= .func (.yield l) #[] #[]) (hu:a.eval u=x)
  (hy:(Instr.yield l #[x]).run P W= .ok nx W):(execOp a.eval o).run P W= .ok nx W:=by
 have e1:(#[u]:Array Operand).map a.eval= #[x]:=by simp[hu]
 simp only[execOp,ho,resolve,ht,e1,Deferred.ofValue,Sem.run_bind,Sem.run_pure,Result.andThen_ok,invoke]
 simpa using hy
def aY5:Env:=⟨λ_=>False,λ_=>(0,0),λ_ _ _=>False⟩
theorem aH0 (w:World):zF aY5 [] w:=by
 refine⟨λ_ h=>h.elim,λa e h=>by simp[zG]at h,λa e h=>by simp[zG]at h,λa b e e' h=>by simp[zG]at h,λ_ _ _ h=>h.elim,λk o h=>?_⟩;obtain⟨_,_,_,h1,_⟩:=h;exact h1.elim
def mu3 (a:Act) (_:World):Nat:=
 match a.tmps.getD 3 undef with
 | .int _ z=>(z+1).toNat
 |_=>0
theorem aNN {N:Nat} {ρ:Env} {T:Tm} {M:Mm} {a:Act} {w:World} (hc:aZ N ρ T M a w) {z:Int} (h:zX T 3= .i .i64 z) (w':World):mu3 a w'=(z+1).toNat:=by
 have h1:=hc.tm 3;rw[h]at h1;have h1:a.tmps.getD 3 undef= .int .i64 z:=h1;unfold mu3;rw[h1]
def dT (l:Nat) (z:Int):Tm:=[(0,.raw (.func (.yield l) #[] #[])),(1,.ptr 1 0 none),(3,.i .i64 z)]
theorem aMF {l:Nat} {z:Int} {T:Tm} {N:Nat} {ρ:Env} {M:Mm} {a:Act} {w:World} (hc:aZ N ρ T M a w) (h0:zX T 0= .raw (.func (.yield l) #[] #[])) (h1:zX T 1= .ptr 1 0 none) (h3:zX T 3= .i .i64 z):aZ N ρ (dT l z) M a w:=
 hc.sub (aZP h0 h1 h3)
theorem aCM {m b1 o1 b2 o2 n c:Nat} {b:List UInt8} {x:Option Addr} (hb:b.length=n) (hmax:n<=1000000) (hnc:n<=c) (hx:c≠0->x=some ⟨b2,o2,none⟩) {w0:World} (h0:th b1 o1 b2 o2 n b x c w0):
  SeqStopsK Fence.wide m Γ.P 141 #[.pointer (some ⟨b1,o1,none⟩)] (λy:UInt64=>#[w64 y]) (Kp b1 o1 b2 o2 n) (λxs=>xs=am b n (8*n)) (λ_=>True) (8*n) w0:=by
 intro l J Jx W hW hJ hJx hY hJ0;have hWr:th b1 o1 b2 o2 n b x c W:=by
  have hk:∀{k o v},w0.cell? ⟨k,o,none⟩=some v->W.cell? ⟨k,o,none⟩=some v:=λ{k o v} h=>by
   rw[World.cell?_of_block (hW.block k (gj h))];exact h
  exact⟨hk h0.cell,λj hj=>hk (h0.bytes j hj)⟩
 rw[show(#[.func (.yield l) #[] #[]]++ #[.pointer (some ⟨b1,o1,none⟩)]:Array Value)=[.func (.yield l) #[] #[],.pointer (some ⟨b1,o1,none⟩)].toArray by simp];refine callsIn_of_wp (fn:=Tryz.f141) rfl rfl trivial ?_ rfl;have hc0:=hWr.conc hb hnc hx;have start:aZ 25 (aOC b1 o1 b2 o2) (bG 0 [.raw (.func (.yield l) #[] #[]),.ptr 1 0 none]) (aNP n b) {tmps:=[.func (.yield l) #[] #[],.pointer (some ⟨b1,o1,none⟩)].toArray++Array.replicate (25-[Value.func (.yield l) #[] #[],.pointer (some ⟨b1,o1,none⟩)].toArray.size) undef,defers:=[]} W:=
  sA hc0 ⟨_,_,rfl,⟨rfl,trivial⟩,_,_,rfl,⟨Or.inl rfl,rfl⟩,rfl⟩ (by simp)
 refine wpIn_seq ?_;refine wpIn_region_lit (dO (Γ:=Γ) (K:=λT=>zX T 0= .raw (.func (.yield l) #[] #[])/\zX T 1= .ptr 1 0 none/\zX T 3= .i .i64 (8*(n:Int)-1)) (λ_=>trivial) 5 rfl ?_ start ?_)
 .refine gB ?_
  exact⟨rfl,rfl,rfl⟩
 rintro T1 a1 ⟨g0,g1,g3⟩ hc1;show(Code.block 0 _).wpIn _ _ _ _ _ _;refine wpIn_block ?_;refine wpIn_loop (λa W=>∃k:Nat,k<=8*n/\aZ 25 (aOC b1 o1 b2 o2) (dT l (8*(n:Int)-1-k)) (aNP n b) a W/\th b1 o1 b2 o2 n b x c W/\J (am b n k) W) mu3 ?_ ?_
 .exact⟨0,zero_le _,aMF hc1 g0 g1 (by rw[g3];congr 1;omega),hWr,hJ0⟩
 rintro a W1 ⟨k,hk,hc,hr,hj⟩;have hmu:=aNN hc (z:=8*(n:Int)-1-k) rfl W1;refine wpIn_seq (wpIn_seq ?_);refine wpIn_region_lit (dO (Γ:=Γ) (K:=λT=>zX T 0= .raw (.func (.yield l) #[] #[])/\zX T 1= .ptr 1 0 none/\zX T 3= .i .i64 (8*(n:Int)-1-k)/\zX T 9= .bool (0<=8*(n:Int)-1-k)) (λ_=>trivial) 2 rfl ?_ hc ?_)
 .refine gB ?_
  exact⟨rfl,rfl,rfl,rfl⟩
 rintro T2 a2 ⟨g0,g1,g3,g9⟩ hc2;show(Code.cond _ _ _).wpIn _ _ _ _ _ _;have h9:=zev hc2 (.tmp 9);have h9:zRT (aOC b1 o1 b2 o2) (zX T2 9) (a2.eval (.tmp 9)):=h9;rw[g9]at h9;obtain⟨bb,hbb,hbi⟩:=h9;by_cases hlt:k<8*n
 .have:bb=true:=hbi.2 (by omega)
  subst this;refine wpIn_cond_true hbb (wpIn_skip ?_);show(Code.seq _ _).wpIn _ _ _ _ _ _;obtain⟨fn,tmps,assign,body,hy,hR⟩:=hY (am b n k) (vq b (8*n-1-k)) W1 hj (by rw[lh];exact hlt);have e1:(8*(n:Int)-1-k).toNat=8*n-1-k:=by omega
  refine wpIn_seq (wpIn_block (wpIn_seq ?_));refine wpIn_region_lit (dO (Γ:=Γ) (K:=λT=>zX T 0= .raw (.func (.yield l) #[] #[])/\zX T 1= .ptr 1 0 none/\zX T 3= .i .i64 (8*(n:Int)-1-k)/\zX T 12= .raw (.func (.yield l) #[] #[])/\zX T 22= .u64 (vq b (8*n-1-k))) (λ_=>trivial) 11 rfl ?_ (aMF hc2 g0 g1 g3) ?_)
  .have e2:((8*(n:Int)-1-k)/8).toNat=(8*n-1-k)/8:=by omega
   have e3:((8*(n:Int)-1-k)%8).toNat=(8*n-1-k)%8:=by omega
   repeat(refine fg.i (by repeat' (first|(show zA _;first|exact trivial|refine zA.app ?_ ?_|refine zA.zd ?_ ?_|refine zA.cons ?_ ?_)|with_reducible rfl|with_reducible assumption|omega |(simp only[zero_add,e2,e3,rng,Ix.val,zQ,addI,szs]<;>omega)|(simp only[zero_add,e2,e3,rng,Ix.val,zIn,zme,zQ,addI,Option.getD_none,Option.getD_some,zlT,zlD,zlA,length_set,length_replicate,szs, *]<;>omega)|(simp only[Ix.val];with_reducible assumption)|exact UInt8.toNat_lt _|(apply Eq.trans;(with_reducible assumption);exact rfl)|exact rfl|exactλ_ _=>rfl)) ?_)
   refine⟨rfl,rfl,rfl,rfl,?_⟩;show SV.u64 (aF (b.getD (fL 0 ((8*(n:Int)-1-k)/8).toNat) 0).toUInt64 ((8*(n:Int)-1-k)%8).toNat&&&ofNat 1)=SV.u64 (vq b (8*n-1-k));rw[zQ,zero_add,e2,e3];rfl
  rintro T3 a3 ⟨g0,g1,g3,g12,g22⟩ hc3;have h12:=zev hc3 (.tmp 12);have h12:zRT (aOC b1 o1 b2 o2) (zX T3 12) (a3.eval (.tmp 12)):=h12;rw[g12]at h12;have h22:=zev hc3 (.tmp 22);have h22:zRT (aOC b1 o1 b2 o2) (zX T3 22) (a3.eval (.tmp 22)):=h22;rw[g22]at h22;refine wpListIn_plain rfl λK hK=>?_;refine⟨λ_ _=>trivial,?_⟩;rw[Oper.semAt_eq _ _ _ (by intro c h;cases h),xC (l:=l) rfl h12.1 h22 hy];refine⟨λh=>by simp[Fence.wide]at h,hR.mono ?_⟩;rintro e W' (⟨rfl,hJ',hk'⟩|⟨rfl,hJx'⟩)
  .-- the round goes on
   have hr':=hr.kept hk';have hc4:aZ 25 (aOC b1 o1 b2 o2) ((23,.tt)::T3) (aNP n b) (a3.put (some 23) (.bool true)) W':=(hc3.world (hr'.conc hb hnc hx)).put (by decide) (zR rfl);refine hK _ _ (dO (Γ:=Γ) (K:=λT=>zX T 0= .raw (.func (.yield l) #[] #[])/\zX T 1= .ptr 1 0 none/\zX T 3= .i .i64 (8*(n:Int)-1-k)/\zX T 24= .ff) (λ_=>trivial) 1 rfl ?_ hc4 ?_)
   .refine⟨?_,?_,?_,rfl⟩
    .exact g0
    .exact g1
    exact g3
   rintro T5 a5 ⟨g0,g1,g3,g24⟩ hc5;show(Code.cond _ _ _).wpIn _ _ _ _ _ _;have h24:=zev hc5 (.tmp 24);have h24:zRT (aOC b1 o1 b2 o2) (zX T5 24) (a5.eval (.tmp 24)):=h24;rw[g24]at h24;refine wpIn_cond_false h24 (wpIn_skip ?_);show(Code.region _ _ _).wpIn _ _ _ _ _ _;refine wpIn_region_lit (dO (Γ:=Γ) (K:=λT=>zX T 0= .raw (.func (.yield l) #[] #[])/\zX T 1= .ptr 1 0 none/\zX T 3= .i .i64 (8*(n:Int)-1-(k+1:Nat))) (λ_=>trivial) 3 rfl ?_ (aMF hc5 g0 g1 g3) ?_)
   .refine gB ?_
    refine⟨rfl,rfl,?_⟩;show SV.i .i64 (8*(n:Int)-1-k-1)=_;congr 1;omega
   rintro T6 a6 ⟨g0,g1,g3⟩ hc6;have hmu6:=aNN hc6 g3 W';refine⟨⟨k+1,by omega,aMF hc6 g0 g1 g3,hr',hJ'⟩,?_⟩;rw[hmu,hmu6];omega
  -- it is told to stop
  have hcx:=hc3.put (d:=23) (by decide) (v:=.ff) (x:=.bool false) (zR rfl);have hcy:aZ 25 aY5 [(23,.ff)] [] (a3.put (some 23) (.bool false)) W':=by
   refine⟨aH0 W',hcx.sz,hcx.defers,λd=>?_⟩;by_cases hd:d=23
   .subst hd
    have:=hcx.tm 23;rw[aK]at this;rw[aK];exact this
   rw[aS hd];exact zR trivial
  refine hK _ _ (dO (Γ:=Γ) (K:=λT=>zX T 24= .tt) (λ_=>trivial) 1 rfl ?_ hcy ?_)
  .exact rfl
  rintro T5 a5 g24 hc5;show(Code.cond _ _ _).wpIn _ _ _ _ _ _;have h24:=zev hc5 (.tmp 24);have h24:zRT aY5 (zX T5 24) (a5.eval (.tmp 24)):=h24;rw[g24]at h24;refine wpIn_cond_true h24 (wpIn_ret ?_);exact⟨hc5.defers,_,results_none rfl _ _ _,⟨_,rfl⟩,Or.inr ⟨_,trivial,hJx'⟩⟩
 have:bb=false:=by
  cases bb with
  |false=>rfl
  |true=>have:=hbi.1 rfl;omega
 subst this;obtain rfl:k=8*n:=by omega
 refine wpIn_cond_false hbb (wpIn_exit ?_);exact⟨hc2.defers,_,results_none rfl _ _ _,⟨_,rfl⟩,Or.inl ⟨_,rfl,hj⟩⟩
def shW (r:List UInt64) (x:UInt64):List UInt64:=
 [aQ (r.getD 0 0) 1|||x,aQ (r.getD 1 0) 1|||aF (r.getD 0 0) 63,aQ (r.getD 2 0) 1|||aF (r.getD 1 0) 63,aQ (r.getD 3 0) 1|||aF (r.getD 2 0) 63]
def stW (r:List UInt64) (x:UInt64):List UInt64:=if(ah (shW r x) qj 4).2=1 then shW r x else(ah (shW r x) qj 4).1
def mdL (l:List UInt64):List UInt64:=l.foldl stW (replicate 4 0)
theorem tG (l:List UInt64) (x:UInt64):mdL (l++[x])=stW (mdL l) x:=by unfold mdL;rw[List.foldl_append];simp only[List.foldl_cons,List.foldl_nil]
theorem aBC (r:List UInt64) (x:UInt64):(stW r x).length=4:=by
 unfold stW;split
 .rfl
 exact du rfl 4
theorem cU (l:List UInt64):(mdL l).length=4:=by
 rcases List.eq_nil_or_concat l with rfl|⟨l',x,rfl⟩
 .rfl
 rw[List.concat_eq_append,tG];exact aBC _ _
def mI (b:List UInt8) (n:Nat) (r:List UInt64):Mm:=[(1000,.mem false 0 [(n,.a8 b)]),(2,.mem true 0 [(4,.a64 (replicate 4 0))]),(3,.mem true 0 [(4,.a64 r)]),(1001,.mem false 0 [(1,.slx 1000 0 0 n)])]
theorem aBP (b:List UInt8) (n:Nat) (r:List UInt64) (hr:r.length=4) (x:UInt64) (K:Tm->Mm->Prop)
  (hK:∀T M,Le [1000,2,3,1001] [] (mI b n (stW r x)) T M->K T M):
  ∃c,c=(match Tryz.f82.body with
   |some (.seq _ (.seq _ (.seq (.seq _ (.block _ (.rangeFunc _ _ _ (.block _ c)))) _)))=>c
   |_=>.skip)/\mE Γ [] [1000,2,3,1001] c [(2,.ptr 2 0 none),(3,.ptr 3 0 none),(4,.u64 x)] (mI b n r) (λe T M=>e= .normal/\K T M):=by
 refine⟨_,rfl,?_⟩;have hO:=acD;have hL:=aYN (shW r x) qj rfl rfl;have hll:=du (a:=shW r x) (b:=qj) rfl 4;have hs:stW r x=if(ah (shW r x) qj 4).2=1 then shW r x else(ah (shW r x) qj 4).1:=rfl
 have hsl:(shW r x).length=4:=rfl;have hsh:shW r x=[aQ (r.getD 0 0) 1|||x,aQ (r.getD 1 0) 1|||aF (r.getD 0 0) 63,aQ (r.getD 2 0) 1|||aF (r.getD 1 0) 63,aQ (r.getD 3 0) 1|||aF (r.getD 2 0) 63]:=rfl;generalize ah (shW r x) qj 4=L at hL hll hs;unfold mI at hK⊢;refine gB ?_;refine aH.i [[],[],[0,1],[0,1,2],r_4,r_4,[],[0,1,2,3,4,6],r_8] [0,6,1,2,3,4,5,7,8] (by kernel_rfl) ?_;refine gB ?_;refine Call.pure hO rfl trivial ?_;rintro _ rfl;refine cL.i [] rfl rfl ?_;refine gB ?_;refine Call.pure hL rfl fc ?_;rintro _ rfl;refine cL.i [] rfl rfl ?_;refine gB ?_;refine zB.i ?_ ?_<;>intro h
 .have h:¬L.2=1:=h
  rw[if_neg h]at hs;refine gB ?_;refine⟨rfl,hK _ _ ?_⟩;refine Le.i [] rfl fc rfl fc rfl
 have h:¬¬L.2=1:=h;rw[if_pos (Decidable.of_not_not h)]at hs;refine⟨rfl,hK _ _ ?_⟩;refine Le.i [] rfl fc rfl fc rfl
def nv (f:Nat->Nat) (B:Nat):Nat->Nat
 |0=>0
 |n+1=>nv f B n+f n*B^n
theorem aKS {f:Nat->Nat} {B:Nat} (hB:0<B):∀{n:Nat},(∀i,i<n->f i<B)->nv f B n<B^n
 |0,_=>by simp[nv]
 |n+1,h=>by
  have ih:=aKS hB (n:=n) λi hi=>h i (by omega);have h1:=h n (by omega);have h2:f n*B^n<=(B-1)*B^n:=Nat.mul_le_mul_right _ (by omega);simp only[nv];rw[Nat.pow_succ,Nat.mul_comm (B^n) B];have h3:(B-1)*B^n+B^n=B*B^n:=by
   rw[show(B-1)*B^n+B^n=(B-1+1)*B^n by rw[Nat.add_mul,Nat.one_mul],show B-1+1=B by omega]
  omega
theorem za {f:Nat->Nat} {B:Nat} (hB:0<B) {q:Nat}:∀{n:Nat},(∀i,i<n->f i<B)->q<n->nv f B n/B^q%B=f q
 |0,_,h=>absurd h (Nat.not_lt_zero _)
 |n+1,h,hq=>by
  have hp:0<B^q:=Nat.pow_pos hB;simp only[nv];by_cases hqn:q=n
  .subst hqn
   rw[Nat.add_mul_div_right _ _ hp,Nat.div_eq_of_lt (aKS hB λi hi=>h i (by omega)),zero_add,Nat.mod_eq_of_lt (h q (by omega))]
  have ih:=za hB (q:=q) (n:=n) (λi hi=>h i (by omega)) (by omega);have e:f n*B^n=B*(f n*B^(n-q-1))*B^q:=by
   rw[show n=n-q-1+1+q by omega,Nat.pow_add,Nat.pow_succ,show n-q-1+1+q-q-1=n-q-1 by omega];rw[<-Nat.mul_assoc,<-Nat.mul_assoc,Nat.mul_comm (f (n-q-1+1+q)*B^(n-q-1)) B]
  rw[e,Nat.add_mul_div_right _ _ hp,Nat.add_mul_mod_self_left];exact ih
theorem so {f g:Nat->Nat} {B:Nat}:∀{n:Nat},(∀i,i<n->f i=g i)->nv f B n=nv g B n
 |0,_=>rfl
 |n+1,h=>by simp only[nv];rw[so λi hi=>h i (by omega),h n (by omega)]
theorem dt {f:Nat->Nat} {B W:Nat} (hB:0<B):∀{n:Nat},(∀i,i<n->f i=W/B^i%B)->nv f B n=W%B^n
 |0,_=>by simp[nv,Nat.mod_one]
 |n+1,h=>by
  simp only[nv];rw[dt hB λi hi=>h i (by omega),h n (by omega)];rw[Nat.pow_succ,Nat.mod_mul,Nat.mul_comm (W/B^n%B)]
def by_ (b:List UInt8) (i:Nat):Nat:=(b.getD i 0).toNat
def wd_ (l:List UInt64) (i:Nat):Nat:=(l.getD i 0).toNat
def bv (b:List UInt8) (n:Nat):Nat:=nv (by_ b) 256 n
def wv (l:List UInt64) (n:Nat):Nat:=nv (wd_ l) 18446744073709551616 n
theorem aVJ (b:List UInt8) (i:Nat):by_ b i<256:=UInt8.toNat_lt _
theorem aSL (l:List UInt64) (i:Nat):wd_ l i<18446744073709551616:=UInt64.toNat_lt _
theorem aZC (b:List UInt8) (n:Nat):bv b n<256^n:=aKS (by decide) λi _=>aVJ b i
theorem wS (l:List UInt64) (n:Nat):wv l n<18446744073709551616^n:=aKS (by decide) λi _=>aSL l i
theorem ta (b:List UInt8) {n q:Nat} (h:q<n):bv b n/256^q%256=by_ b q:=za (by decide) (λi _=>aVJ b i) h
theorem ya (l:List UInt64) {n q:Nat} (h:q<n):wv l n/18446744073709551616^q%18446744073709551616=wd_ l q:=za (by decide) (λi _=>aSL l i) h
theorem vi {a b:List UInt8} {n:Nat} (ha:a.length=n) (hb:b.length=n) (h:∀i,i<n->by_ a i=by_ b i):a=b:=by
 apply List.ext_getElem (by omega);intro i h1 h2;have:=h i (by omega);unfold by_ at this;rw[getD_eq_getElem?_getD,getD_eq_getElem?_getD,List.getElem?_eq_getElem h1,List.getElem?_eq_getElem h2]at this;exact UInt8.toNat_inj.1 this
theorem aO7 (x y c:UInt64) (hc:c.toNat<=1):(aJ0 x y c).toNat+y.toNat+c.toNat=x.toNat+(aEF x y c).toNat*18446744073709551616:=by
 have hx:=x.toNat_lt;have hy:=y.toNat_lt;unfold aJ0 aEF;rw[UInt64.toNat_ofNat'];split
 .show _=x.toNat+1*18446744073709551616
  rw[Nat.mod_eq_of_lt (by omega)];omega
 show _=x.toNat+0*18446744073709551616;rw[show x.toNat+18446744073709551616-y.toNat-c.toNat=(x.toNat-y.toNat-c.toNat)+18446744073709551616 by omega,show(2:Nat)^64=18446744073709551616 by decide,Nat.add_mod_right,Nat.mod_eq_of_lt (by omega)];omega
theorem uz (a b:List UInt64):∀i j,i<=j->(ah a b i).1.getD j 0=a.getD j 0
 |0,_,_=>rfl
 |i+1,j,h=>by simp only[ah];rw[aA (by omega),uz a b i j (by omega)]
theorem tu {l:List UInt64} {i n:Nat} {x:UInt64} (h:n<=i):wv (l.set i x) n=wv l n:=
 so λj hj=>by unfold wd_;rw[aA (by omega)]
theorem pq {a b:List UInt64} (ha:a.length=4):∀i,i<=4->wv (ah a b i).1 i+wv b i=wv a i+(ah a b i).2.toNat*18446744073709551616^i
 |0,_=>by
  show 0+0=0+(0:UInt64).toNat*_;simp
 |i+1,hi=>by
  have ih:=pq (b:=b) ha i (by omega);have ho:=uz a b i i (le_refl _);have hl:=du (b:=b) ha i;have hs:=aO7 ((ah a b i).1.getD i 0) (b.getD i 0) (ah a b i).2 (oF a b i);have e1:wv (ah a b (i+1)).1 (i+1)=wv (ah a b i).1 i+(aJ0 ((ah a b i).1.getD i 0) (b.getD i 0) (ah a b i).2).toNat*18446744073709551616^i:=by
   show nv _ _ (i+1)=_;simp only[nv];congr 1
   .exact tu (le_refl _)
   congr 1
   show((ah a b i).1.set i _|>.getD i 0).toNat=_;rw[aE (by omega)]
  have e2:(ah a b (i+1)).2=aEF ((ah a b i).1.getD i 0) (b.getD i 0) (ah a b i).2:=rfl;rw[e1,e2];rw[ho]at hs⊢;show _+nv (wd_ b) _ (i+1)=nv (wd_ a) _ (i+1)+_;simp only[nv];have eb:nv (wd_ b) 18446744073709551616 i=wv b i:=rfl;have ea:nv (wd_ a) 18446744073709551616 i=wv a i:=rfl;have da:wd_ a i=(a.getD i 0).toNat:=rfl;have db:wd_ b i=(b.getD i 0).toNat:=rfl;rw[eb,ea,da,db,Nat.pow_succ];generalize (18446744073709551616:Nat)^i=p at *;generalize (aJ0 (a.getD i 0) (b.getD i 0) (ah a b i).2).toNat=s at *;generalize (aEF (a.getD i 0) (b.getD i 0) (ah a b i).2).toNat=d at *;generalize (ah a b i).2.toNat=c at *;generalize (a.getD i 0).toNat=x at *;generalize (b.getD i 0).toNat=y at *;have h5:(s+y+c)*p=(x+d*18446744073709551616)*p:=by rw[hs]
  rw[Nat.add_mul,Nat.add_mul,Nat.add_mul]at h5;have h6:d*(p*18446744073709551616)=d*18446744073709551616*p:=by rw[Nat.mul_comm p,Nat.mul_assoc]
  omega
def Ln:Nat:=7237005577332262213973186563042994240857116359379907606001950938285454250989
theorem aFN:wv qj 4 = Ln:=by decide +kernel
theorem tI {a:List UInt64} (ha:a.length=4):(ah a qj 4).2=1↔wv a 4<Ln:=by
 have hv:=pq (b:=qj) ha 4 (le_refl _);have h1:=wS (ah a qj 4).1 4;have h2:=wS a 4;have hc:=oF a qj 4;rw[aFN]at hv;have hL:Ln<18446744073709551616^4:=by decide
 constructor
 .intro h
  rw[h,show(1:UInt64).toNat=1 from rfl,Nat.one_mul]at hv;omega
 intro h;have:(ah a qj 4).2.toNat=1:=by
  rcases Nat.eq_zero_or_pos (ah a qj 4).2.toNat with h3|h3
  .rw[h3,Nat.zero_mul]at hv;omega
  omega
 exact UInt64.toNat_inj.1 this
theorem aQX {a:List UInt64} (ha:a.length=4) (h:¬wv a 4<Ln):wv (ah a qj 4).1 4=wv a 4-Ln:=by
 have hv:=pq (b:=qj) ha 4 (le_refl _);have hn:¬(ah a qj 4).2=1:=λh1=>h ((tI ha).1 h1);have hc:=oF a qj 4;have h0:(ah a qj 4).2.toNat=0:=by
  rcases Nat.eq_zero_or_pos (ah a qj 4).2.toNat with h3|h3
  .exact h3
  exact absurd (UInt64.toNat_inj.1 (by rw[show(1:UInt64).toNat=1 from rfl];omega)) hn
 rw[h0,Nat.zero_mul,aFN]at hv;omega
end Go.Proofs.YtaehfiohjkiajaaGreat
