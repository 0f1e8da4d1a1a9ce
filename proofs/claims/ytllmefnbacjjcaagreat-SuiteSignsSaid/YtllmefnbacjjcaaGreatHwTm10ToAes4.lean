/- Walks. -/
import Derived.Test.YtllmefnbacjjcaaGreatHwTm3ToTm9
import Derived.Test.YtllmefnbacjjcaaGreatHwFe4ToTm2
import Derived.Test.YtllmefnbacjjcaaGreatHwTabToCu5
set_option linter.unusedSimpArgs false
set_option linter.unusedVariables false
set_option maxHeartbeats 4000000
open List (replicate take drop drop_zero nil_append length_set)
open Nat (zero_add le_refl zero_le mul_one)
open UInt8 (ofInt ofNat)
set_option maxRecDepth 100000
namespace Go.Proofs.YtllmefnbacjjcaaGreat
open Go Go.Sx
def nwF (q:Nat) (L:List (List UInt8)) (j:Nat):List (Nat×SV):=[(1,.isl 0 (inL (L.getD j []) q 0).length 1 [((inL (L.getD j []) q 0).length*1,.ai (toI (inL (L.getD j []) q 0)))])]
def nmS (q:Nat) (L:List (List UInt8)):SV:=.isl 0 L.length 1 [(L.length*1,.arr L.length 1 (nwF q L))]
def ttF (T:List Te) (q:Nat):List (Nat×SV):=[(1,.i .i64 (T.getD q te0).1),(1,prS (T.getD q te0).2),(1,nmS q (T.getD q te0).2)]
def MT (n c:Nat) (T:List Te) (a m:Nat) (L:List (List UInt8)):Mm:=[(1000,.mem true 0 [(1,.sl a 0 0 n c),(1,.mp 1002)]),(a,.mem true (zmE (c-n) 3) [(n*3,.arr n 3 (ttF T))]),(1002,.map (.si (mpL T))),(1003,.mem false 0 (rwS m L))]
theorem aST {T:List Te} {x:Te} {q:Nat} (h:q<T.length):ttF (T++[x]) q=ttF T q:=by
 unfold ttF;rw[xz te0 h]
theorem aSU (T:List Te) (x:Te):ttF (T++[x]) T.length=[(1,.i .i64 x.1),(1,prS x.2),(1,nmS T.length x.2)]:=by
 unfold ttF;rw[x5]
theorem aaJ (T:List Te) (n c:Nat) (hT:T.length=n) (hn:n<=60000) (hnc:n<=c) (hTv:∀x∈T,bP x.1 x.2) (k:Int) (L:List (List UInt8)) (m:Nat) (hL:L.length=m) (hm1:m<=1000000) (hLs:∀x∈L,x.length<=1000000):
  Sx.Fn Γ.P 25 [.ptr 1000 0 none,.i .i64 k,.slx 1003 0 0 m] (MT n c T 1001 m L)
  (λv M=>∃n' c',(mkT T (k,L)).1.length=n'/\n'<=c'/\v= .tup [.a8 (kyB (mkT T (k,L)).2),.bool ((mkT T (k,L)).2≠0)]/\M=(1001,.dead)::MT n' c' (mkT T (k,L)).1 1005 m L):=by
 have hJ:=abM L m hL hm1 hLs
 have hky:=xo (k,L)
 unfold rwS rwF at hJ
 unfold MT rwS rwF
 refine aG (Γ:=Γ) (fn:=Tryz.f25) rfl rfl rfl rfl ?_
 refine gB ?_
 refine Call.i hJ [(1003,(1003,0,none)),(1001,(300,0,none))] rfl fc rfl fc rfl ?_
 rintro v M' (⟨hnj,rfl,rfl⟩|⟨c1,N1,hj,hjl,hjc,rfl,rfl⟩)
 ·have hmk:mkT T (k,L)=(T,0):=rm λh=>hnj h.1
  refine gN ?_
  refine gB ?_
  refine Ret.i (.tup [.a8 (replicate 32 0),.bool ((mkT T (k,L)).2≠0)]) [(1001,.dead),(1000,.mem true 0 [(1,.sl 1005 0 0 n c),(1,.mp 1002)]),(1005,.mem true (zmE (c-n) 3) [(n*3,.arr n 3 (ttF T))]),(1002,.map (.si (mpL T))),(1003,.mem false 0 [(m*1,.arr m 1 (rwF L))])] [(1005,(1001,0,none))] rfl fc ⟨n,c,by rw[hmk];exact hT,hnc,by rw[hmk];rfl,by rw[hmk];rfl⟩ rfl fc rfl fc rfl
 refine gN ?_
 refine gB ?_
 refine zB.i ?_ ?_<;>intro h1
 ·have h1:k<1:=h1
  have hmk:mkT T (k,L)=(T,0):=rm λh=>by have:=h.2.1;simp only at this;omega
  refine gB ?_
  refine Ret.i (.tup [.a8 (replicate 32 0),.bool ((mkT T (k,L)).2≠0)]) [(1001,.dead),(1000,.mem true 0 [(1,.sl 1005 0 0 n c),(1,.mp 1002)]),(1005,.mem true (zmE (c-n) 3) [(n*3,.arr n 3 (ttF T))]),(1002,.map (.si (mpL T))),(1003,.mem false 0 [(m*1,.arr m 1 (rwF L))])] [(1005,(1001,0,none))] rfl fc ⟨n,c,by rw[hmk];exact hT,hnc,by rw[hmk];rfl,by rw[hmk];rfl⟩ rfl fc rfl fc rfl
 have h1:¬k<1:=h1
 refine zB.i ?_ ?_<;>intro h2
 ·have h2:k>8:=h2
  have hmk:mkT T (k,L)=(T,0):=rm λh=>by have:=h.2.2;simp only at this;omega
  refine gB ?_
  refine Ret.i (.tup [.a8 (replicate 32 0),.bool ((mkT T (k,L)).2≠0)]) [(1001,.dead),(1000,.mem true 0 [(1,.sl 1005 0 0 n c),(1,.mp 1002)]),(1005,.mem true (zmE (c-n) 3) [(n*3,.arr n 3 (ttF T))]),(1002,.map (.si (mpL T))),(1003,.mem false 0 [(m*1,.arr m 1 (rwF L))])] [(1005,(1001,0,none))] rfl fc ⟨n,c,by rw[hmk];exact hT,hnc,by rw[hmk];rfl,by rw[hmk];rfl⟩ rfl fc rfl fc rfl
 have h2:¬k>8:=h2
 have hV:bP k L:=⟨hj,by omega,by omega⟩
 have hjle:=aT9 hj.2
 have hj64:=hj.1
 have hky2:ql (k,L)=jnB L++[ofInt k]:=hky
 have hkl:(ql (k,L)).length=N1+1:=by rw[hky,zlA,hjl];rfl
 refine gB ?_
 refineλc2 hc2=>?_
 have hc2:N1+1<=c2:=hc2
 refine gB ?_
 refine aH.i [[],[0],[0,1],[0,1,2],[],[4],r_6,r_7,r_8,r_8,r_9,fe] kX (by kernel_rfl) ?_
 refine gB ?_
 have hq:take (N1+1) (drop 0 (kR (addI none 0) (jnB L)++take 1 (drop 0 (ofInt k::replicate 0 0))))=ql (k,L):=by
  rw[hky,bq]
  exact List.take_of_length_le (by rw[<-hkl,hky];exact le_refl _)
 refine zB.i ?_ ?_<;>intro hs
 ·have hs:(gg (mpL T) (take (N1+1) (drop 0 (kR (addI none 0) (jnB L)++take 1 (drop 0 (ofInt k::replicate 0 0)))))).isSome=true:=hs
  rw[hq]at hs
  obtain⟨i,hi⟩:∃i,fdT (k,L) T=i+1:=by
   cases hf:fdT (k,L) T with
   |zero=>rw[zf hV hTv hf]at hs;cases hs
   |succ i=>exact⟨i,rfl⟩
  have hmk:mkT T (k,L)=(T,i+1):=mf hV hi
  have hg:=ze hV hTv hi
  have hil:=aHP (k,L) T
  have hN:=aYG (i+1) (by omega)
  have hnl:=bc (i+1)
  refine gB ?_
  refine Call.i hN [] rfl ?_ rfl trivial rfl ?_
  ·show((i+1:Nat):Int)=(gg (mpL T) (take (N1+1) (drop 0 (kR (addI none 0) (jnB L)++take 1 (drop 0 (ofInt k::replicate 0 0)))))).getD 0
   rw[hq,hg];rfl
  rintro _ _ ⟨rfl,rfl⟩
  refine gN ?_
  refine gB ?_
  refine Ret.i (.tup [.a8 (kC (i+1)),.bool ((mkT T (k,L)).2≠0)]) [(1001,.dead),(1000,.mem true 0 [(1,.sl 1005 0 0 n c),(1,.mp 1002)]),(1005,.mem true (zmE (c-n) 3) [(n*3,.arr n 3 (ttF T))]),(1002,.map (.si (mpL T))),(1003,.mem false 0 [(m*1,.arr m 1 (rwF L))])] [(1005,(1001,0,none))] rfl fc ⟨n,c,by rw[hmk];exact hT,hnc,by rw[hmk];rfl,by rw[hmk];rfl⟩ rfl fc rfl fc rfl
 have hs:¬(gg (mpL T) (take (N1+1) (drop 0 (kR (addI none 0) (jnB L)++take 1 (drop 0 (ofInt k::replicate 0 0)))))).isSome=true:=hs
 rw[hq]at hs
 have hi:fdT (k,L) T=0:=by
  cases hf:fdT (k,L) T with
  |zero=>rfl
  |succ i=>rw[ze hV hTv hf]at hs;exact absurd rfl hs
 have hg:=zf hV hTv hi
 have hmk:mkT T (k,L)=(T++[(k,L)],n+1):=by
  rw[kE hV hi,hT]
 refine gB ?_
 refine zB.i (λh=>absurd h (by omega)) (λ_=>?_)
 refine gB ?_
 refine aY.i (σ:=Nat×Nat×Nat) (λs=>s.1<=m/\s.1<=s.2.1/\s.1<=s.2.2)
  (λs=>([(0,.ptr 1000 0 none),(6,.ptr 6 0 none),(8,.sl 208 0 0 (N1+1) c2),(12,.ptr 12 0 none),(58,.slx 1003 0 0 m),(59,.i .i64 (m:Int)),(60,.i .i64 (s.1:Int))],[(1000,.mem true 0 [(1,.sl 1001 0 0 n c),(1,.mp 1002)]),(1001,.mem true (zmE (c-n) 3) [(n*3,.arr n 3 (ttF T))]),(1002,.map (.si (mpL T))),(1003,.mem false 0 [(m*1,.arr m 1 (rwF L))]),(6,.mem true 0 [(32,.a8 (replicate 32 0))]),
   (208,.mem true (c2-(N1+1)) [(N1+1,.a8 (ql (k,L)))]),(12,.mem true 0 [(1,.i .i64 k),(1,.sl 206 0 0 s.1 s.2.1),(1,.sl 207 0 0 s.1 s.2.2)]),(206,.mem true (s.2.1-s.1) [(s.1*1,.arr s.1 1 (rwF L))]),(207,.mem true (s.2.2-s.1) [(s.1*1,.arr s.1 1 (nwF n L))])]))
  (λs=>m-s.1) (0,0,0) ⟨zero_le _,le_refl _,le_refl _⟩ ?_ ?_
 ·refine Le.ghost [.own 206 [(0,.arr 0 1 (rwF L))],.own 207 [(0,.arr 0 1 (nwF n L))],.leaf 12 1 206,.leaf 12 2 207] [] [(208,(35,0,none))] rfl ⟨⟨rfl,rfl,trivial⟩,⟨rfl,rfl,trivial⟩⟩ rfl rfl ?_ rfl ?_ rfl
  ·exact fc
  repeat' first|exact trivial|refine zA.app ?_ ?_|refine zA.zd ?_ ?_|refine zA.cons ?_ ?_|exact fc|fail
  all_goals(rw[hky];exact rfl)
 rintro⟨i2,ca,cb⟩ ⟨hi2,hca,hcb⟩
 have hi2:i2<=m:=hi2
 have hca:i2<=ca:=hca
 have hcb:i2<=cb:=hcb
 refine gB ?_
 refine zB.i ?_ ?_<;>intro hc
 ·have hc:(i2:Int)<m:=hc
  have hll:=hLs _ (fq [] (L:=L) (i:=i2) (by omega))
  refine gC ?_
  refine aH.i [[],[0],[],[],[2,3],[2,3,4],r_6,r_7,r_8] r_9 (by kernel_rfl) ?_
  refine gC ?_
  refineλc3 hc3=>?_
  refine gC ?_
  refine cL.i [(68,.mem true (c3-(0+(L.getD i2 []).length)) [(0+(L.getD i2 []).length,.a8 ([]++(L.getD i2 []).take (L.getD i2 []).length))]),(66,.dead)] rfl rfl ?_
  refine gC ?_
  refineλc4 hc4=>?_
  refine gC ?_
  have hI:=abL (L.getD i2 []) (L.getD i2 []).length rfl n (by omega) hll
  refine aH.i [[],[0],[],[],[3],[3,4],[3,4,5],[3,4,5,6],[2,3,4,5,6,7],[2,3,4,5,6,7,8],ek,fe,kX] jO (by kernel_rfl) ?_
  refine gC ?_
  refine Call.name [(2001,[]),(0,[])] rfl trivial (kW.i hI [(1003,(2001,0,none)),(1001,(301,0,none))] rfl fcn rfl fcn rfl ?_)
  rintro v M' ⟨l,cl,rfl,hlc,rfl,rfl⟩
  refine gN ?_
  have htl:=aEB (inL (L.getD i2 []) n 0)
  refine cL.i [(301,.mem true (cl-(toI (inL (L.getD i2 []) n 0)).length) [((toI (inL (L.getD i2 []) n 0)).length,.ai (toI (inL (L.getD i2 []) n 0)))]),(2001,.mem false 1 [((L.getD i2 []).length*1,.a8 (L.getD i2 []))])] rfl rfl ?_
  refine gC ?_
  refineλc5 hc5=>?_
  refine gC ?_
  have hc4:i2+1<=c4:=hc4
  have hc5:i2+1<=c5:=hc5
  refine⟨(i2+1,c4,c5),⟨by show i2+1<=m;omega,hc4,hc5⟩,by show m-(i2+1)<m-i2;omega,Le.i [(206,(70,0,none)),(207,(82,0,none))] rfl ?_ rfl ?_ rfl⟩
  ·exact fcn
  repeat' first|exact trivial|refine zA.app ?_ ?_|refine zA.zd ?_ ?_|refine zA.cons ?_ ?_|exact fcn|fail
  ·refine oK (λq _=>by rw[ke,zero_add]) ?_
   simp only[zme,bq,drop_zero,Ix.val,zQ,zero_add,zIn,nil_append,List.take_length,mul_one,rwF]
  refine oK (λq _=>by rw[ke,zero_add]) ?_
  simp only[zme,bq,drop_zero,Ix.val,zQ,zero_add,zIn,nil_append,List.take_length,mul_one,nwF,aEB]
  exact rfl
 have hc:¬(i2:Int)<m:=hc
 obtain rfl:i2=m:=by omega
 refine gC ?_
 refine aH.i [[],[],[1],[1,2],[1,2,3],[],[5],[1,2,3,4,5,6],r_8,r_9,ek] fe (by kernel_rfl) ?_
 refine gC ?_
 refineλc6 hc6=>?_
 refine gC ?_
 have hc6:n+1<=c6:=hc6
 have hq2:take (N1+1) (drop 0 (ql (k,L)))=ql (k,L):=List.take_of_length_le (by rw[<-hkl];exact le_refl _)
 refine aH.i [[],[0],[0,1],[0,1,2],[],[4],[],[6],[6,7],[6,7,8],[6,7,8,9],fe] kX (by kernel_rfl) ?_
 repeat(refine fg.i (by repeat' (first|(show zA _;first|exact trivial|refine zA.app ?_ ?_|refine zA.zd ?_ ?_|refine zA.cons ?_ ?_)|with_reducible rfl|with_reducible assumption|omega |(simp only[hq2,hg,rng,Ix.val,zQ,addI,szs]<;>omega)|(simp only[hq2,hg,rng,Ix.val,zIn,zme,zQ,addI,Option.getD_none,Option.getD_some,zlT,zlD,zlA,length_set,List.length_replicate,szs, *]<;>omega)|(simp only[Ix.val];with_reducible assumption)|exact UInt8.toNat_lt _|(apply Eq.trans;(with_reducible assumption);exact rfl)|exact rfl|exactλ_ _=>rfl)) ?_)
 have hN:=aYG (n+1) (by omega)
 have hnl:=bc (n+1)
 refine Call.i hN [] rfl fc rfl trivial rfl ?_
 rintro _ _ ⟨rfl,rfl⟩
 refine gN ?_
 refine gB ?_
 have happ:=aQH T (k,L)
 rw[hT]at happ
 refine Ret.i (.tup [.a8 (kC (n+1)),.bool ((mkT T (k,L)).2≠0)]) [(1001,.dead),(1000,.mem true 0 [(1,.sl 1005 0 0 (n+1) c6),(1,.mp 1002)]),(1005,.mem true (zmE (c6-(n+1)) 3) [((n+1)*3,.arr (n+1) 3 (ttF (T++[(k,L)])))]),(1002,.map (.si (mpL (T++[(k,L)])))),(1003,.mem false 0 [(i2*1,.arr i2 1 (rwF L))])] [(1005,(92,0,none))] rfl ?_ ⟨n+1,c6,by rw[hmk];simp[hT],hc6,by rw[hmk];rfl,by rw[hmk];rfl⟩ rfl ?_ rfl ?_ rfl
 ·exact fc
 ·exact fc
 repeat' first|exact trivial|refine zA.app ?_ ?_|refine zA.zd ?_ ?_|refine zA.cons ?_ ?_|exact fc|fail
 ·refine oK (λq hq=>aST (by omega)) ?_
  subst hT
  subst hL
  exact aSU T (k,L)
 rw[hq2];exact happ
theorem aTY {T:List Te} {x:Te} (h:bP x.1 x.2):(mkT T x).2≠0:=by
 cases hf:fdT x T with
 |zero=>rw[kE h hf];simp
 |succ i=>rw[mf h hf];simp
def tbM (N c:Nat) (T:List Te) (a:Nat):Mm:=[(1000,.mem true 0 [(1,.sl a 0 0 N c),(1,.mp 1002)]),(a,.mem true (zmE (c-N) 3) [(N*3,.arr N 3 (ttF T))]),(1002,.map (.si (mpL T)))]
def rbM (N c:Nat) (T:List Te) (a:Nat):Mm:=[(1000,.mem true 0 [(1,.sl a 0 0 N c)]),(a,.mem true (zmE (c-N) 2) [(N*2,.arr N 2 (rtF T))])]
theorem ib:∀x∈([]:List Te),bP x.1 x.2:=λ_ h=>by cases h
theorem aUO:Sx.Fn Γ.P 32 [] [] (λv M=>v= .ptr 1000 0 none/\M=[(1000,.mem true 0 [(1,.nsl),(1,.mp 1002)]),(1002,.map (.si []))]):=by
 refine aG (Γ:=Γ) (fn:=Tryz.f32) rfl rfl rfl rfl ?_
 refine gB ?_
 refine Ret.i (.ptr 1000 0 none) [(1000,.mem true 0 [(1,.nsl),(1,.mp 1002)]),(1002,.map (.si []))] [(1000,(3,0,none)),(1002,(1,0,none))] rfl fc ⟨rfl,rfl⟩ rfl fc rfl fc rfl
theorem ab2:Sx.Fn Γ.P 15 [] [] (λv M=>v= .agg [(1,.ptr 1000 0 none)]/\M=[(1000,.mem true 0 [(1,.nsl),(1,.mp 1002)]),(1002,.map (.si []))]):=by
 refine aG (Γ:=Γ) (fn:=Tryz.f15) rfl rfl rfl rfl ?_
 refine gB ?_
 refine Call.i aUO [(1000,(300,0,none)),(1002,(302,0,none))] rfl fc rfl trivial rfl ?_
 rintro _ _ ⟨rfl,rfl⟩
 refine gN ?_
 refine gB ?_
 refine Ret.i (.agg [(1,.ptr 1000 0 none)]) [(1000,.mem true 0 [(1,.nsl),(1,.mp 1002)]),(1002,.map (.si []))] [(1000,(300,0,none)),(1002,(302,0,none))] rfl fc ⟨rfl,rfl⟩ rfl fc rfl fc rfl
theorem ab1:Sx.Fn Γ.P 16 [] [] (λv M=>v= .agg [(1,.nilp)]/\M=[]):=by
 refine aG (Γ:=Γ) (fn:=Tryz.f16) rfl rfl rfl rfl ?_
 refine gB ?_
 refine Ret.i (.agg [(1,.nilp)]) [] [] rfl fc ⟨rfl,rfl⟩ rfl fc rfl fc rfl
theorem ab0:Sx.Fn Γ.P 17 [] [] (λv M=>v= .agg [(1,.ptr 1000 0 none)]/\M=[(1000,.mem true 0 [(1,.nsl)])]):=by
 refine aG (Γ:=Γ) (fn:=Tryz.f17) rfl rfl rfl rfl ?_
 refine gB ?_
 refine Ret.i (.agg [(1,.ptr 1000 0 none)]) [(1000,.mem true 0 [(1,.nsl)])] [(1000,(2,0,none))] rfl fc ⟨rfl,rfl⟩ rfl fc rfl fc rfl
theorem tO:Sx.Fn Γ.P 5 [.tt] [] (λv M=>v= .agg [(1,.ptr 1000 0 none)]/\M=tbM 0 0 [] 1001):=by
 refine aG (Γ:=Γ) (fn:=Tryz.f5) rfl rfl rfl rfl ?_
 refine gB ?_
 refine Call.i ab2 [(1000,(300,0,none)),(1002,(302,0,none))] rfl fc rfl trivial rfl ?_
 rintro _ _ ⟨rfl,rfl⟩
 refine gN ?_
 refine gB ?_
 refine Ret.ghost [.own 401 [(0,.arr 0 3 (ttF []))],.leaf 300 0 401] [] rfl ⟨rfl,rfl,trivial⟩ rfl (.agg [(1,.ptr 1000 0 none)]) (tbM 0 0 [] 1001) [(1000,(300,0,none)),(1001,(401,0,none)),(1002,(302,0,none))] rfl ?_ ⟨rfl,rfl⟩ rfl ?_ rfl ?_ rfl
 ·exact fc
 ·exact fc
 repeat' first|exact trivial|refine zA.app ?_ ?_|refine zA.zd ?_ ?_|refine zA.cons ?_ ?_|exact fc|fail
 all_goals exact aQG
theorem tN:Sx.Fn Γ.P 5 [.ff] [] (λv M=>v= .agg [(1,.nilp)]/\M=[]):=by
 refine aG (Γ:=Γ) (fn:=Tryz.f5) rfl rfl rfl rfl ?_
 refine gB ?_
 refine Call.i ab1 [] rfl fc rfl trivial rfl ?_
 rintro _ _ ⟨rfl,rfl⟩
 refine gN ?_
 refine gB ?_
 refine Ret.i (.agg [(1,.nilp)]) [] [] rfl fc ⟨rfl,rfl⟩ rfl fc rfl fc rfl
theorem aN5:Sx.Fn Γ.P 6 [.tt] [] (λv M=>v= .agg [(1,.ptr 1000 0 none)]/\M=rbM 0 0 [] 1001):=by
 refine aG (Γ:=Γ) (fn:=Tryz.f6) rfl rfl rfl rfl ?_
 refine gB ?_
 refine Call.i ab0 [(1000,(300,0,none))] rfl fc rfl trivial rfl ?_
 rintro _ _ ⟨rfl,rfl⟩
 refine gN ?_
 refine gB ?_
 refine Ret.ghost [.own 401 [(0,.arr 0 2 (rtF []))],.leaf 300 0 401] [] rfl ⟨rfl,rfl,trivial⟩ rfl (.agg [(1,.ptr 1000 0 none)]) (rbM 0 0 [] 1001) [(1000,(300,0,none)),(1001,(401,0,none))] rfl fc ⟨rfl,rfl⟩ rfl fc rfl fc rfl
theorem aN4:Sx.Fn Γ.P 6 [.ff] [] (λv M=>v= .agg [(1,.nilp)]/\M=[]):=by
 refine aG (Γ:=Γ) (fn:=Tryz.f6) rfl rfl rfl rfl ?_
 refine gB ?_
 refine Ret.i (.agg [(1,.nilp)]) [] [] rfl fc ⟨rfl,rfl⟩ rfl fc rfl fc rfl
theorem uo {z most:Nat} (h1:1<=z) (h2:z<=most) (h3:most<4294967296):iW (kC z) most 0=z:=by
 have hn:nmK (kC z) 0=z:=by
  rw[oD]
  show(((ofNat (z/256^3)).toNat*256+(ofNat (z/256^2)).toNat)*256+(ofNat (z/256^1)).toNat)*256+(ofNat (z/256^0)).toNat=z
  simp only[UInt8.toNat_ofNat',Nat.reducePow,Nat.div_one]
  omega
 rw[sr,hn,if_pos]
 exact⟨by rw[bc];omega,h1,h2,List.take_of_length_le (by rw[drop_zero,bc];omega)⟩
theorem aYJ (T:List Te) (n:Nat) (hT:T.length=n) (hn:n<=60000) (hTv:∀x∈T,bP x.1 x.2) (k:List UInt8) (hk:k.length=32):
  Sx.Fn Γ.P 21 [.ptr 1000 0 none,.a8 k] [(1000,.mem false 0 [(1,.slx 1001 0 0 n),(1,.mp 1002)]),(1001,.mem false 0 [(n*3,.arr n 3 (ttF T))]),(1002,.dead)]
  (λv M=>(iW k n 0=0/\v= .tup [.i .i64 0,.nsl,.ff]/\M=[(1000,.mem false 0 [(1,.slx 1001 0 0 n),(1,.mp 1002)]),(1001,.mem false 0 [(n*3,.arr n 3 (ttF T))]),(1002,.dead)])\/∃q L m c,iW k n 0=q+1/\q<n/\(T.getD q te0).2=L/\L.length=m/\m<=c/\v= .tup [.i .i64 (T.getD q te0).1,.sl 1005 0 0 m c,.tt]/\M=[(1000,.mem false 0 [(1,.slx 1001 0 0 n),(1,.mp 1002)]),(1001,.mem false 0 [(n*3,.arr n 3 (ttF T))]),(1002,.dead),(1005,.mem true (c-m) [(m*1,.arr m 1 (rwF L))])]):=by
 have hN:=aaD k 32 32 0 hk rfl (le_refl _) n (by omega)
 have hle:=aFW k n 0
 refine aG (Γ:=Γ) (fn:=Tryz.f21) rfl rfl rfl rfl ?_
 refine gB ?_
 refine aH.i [[],[],[1],[1,2],[1,2,3],[1,2,3,4],r_6,r_7] r_8 (by kernel_rfl) ?_
 refine gB ?_
 refine Call.i hN [(1003,(3,0,none))] rfl fc rfl fc rfl ?_
 rintro _ _ ⟨rfl,rfl⟩
 refine gN ?_
 refine gB ?_
 refine zB.i ?_ ?_<;>intro hz
 ·have hz:iW k n 0=0:=by have h:((iW k n 0:Nat):Int)=0:=hz;omega
  refine gB ?_
  refine Ret.i (.tup [.i .i64 0,.nsl,.ff]) [(1000,.mem false 0 [(1,.slx 1001 0 0 n),(1,.mp 1002)]),(1001,.mem false 0 [(n*3,.arr n 3 (ttF T))]),(1002,.dead)] [] rfl fc (Or.inl ⟨hz,rfl,rfl⟩) rfl fc rfl fc rfl
 obtain⟨q,hq⟩:∃q,iW k n 0=q+1:=⟨iW k n 0-1,by have h:¬((iW k n 0:Nat):Int)=0:=hz;omega⟩
 have hV:=hTv _ (fq te0 (L:=T) (i:=q) (by omega))
 obtain⟨x,hx⟩:∃x,T.getD q te0=x:=⟨_,rfl⟩
 rw[hx]at hV
 obtain⟨L,hL⟩:∃L,x.2=L:=⟨_,rfl⟩
 have hLs:=hV.1
 rw[hL]at hLs
 obtain⟨m,hm⟩:∃m,L.length=m:=⟨_,rfl⟩
 have hm64:m<=64:=by rw[<-hm];exact hLs.1
 have eq1:((q+1:Nat):Int)-1=(q:Int):=by omega
 have eq2:(((q+1:Nat):Int)-1).toNat=q:=by omega
 rw[hq]
 rw[hq]at hle
 clear hN hz
 repeat refine sdQ ?_
 refine aY.i (σ:=Nat×Nat) (λs=>s.1<=m/\s.1<=s.2)
  (λs=>([(8,.ptr 8 0 none),(9,.sl 204 0 0 s.1 s.2),(30,.isl 0 m 1 [(m*1,.arr m 1 (rwF L))]),(31,.i .i64 (m:Int)),(32,.i .i64 (s.1:Int))],
   [(1000,.mem false 0 [(1,.slx 1001 0 0 n),(1,.mp 1002)]),(1001,.mem false 0 [(n*3,.arr n 3 (ttF T))]),(1002,.dead),(8,.mem true 0 [(1,.i .i64 x.1),(1,.isl 0 m 1 [(m*1,.arr m 1 (rwF L))]),(1,.isl 0 m 1 [(m*1,.arr m 1 (nwF q L))])]),(204,.mem true (s.2-s.1) [(s.1*1,.arr s.1 1 (rwF L))])]))
  (λs=>m-s.1) (0,0) ⟨zero_le _,le_refl _⟩ ?_ ?_
 ·refine Le.ghost [.own 204 [(0,.arr 0 1 (rwF L))]] [(9,204)] [] rfl ⟨rfl,rfl,trivial⟩ rfl rfl ?_ rfl ?_ rfl
  ·repeat' (first|exact trivial|refine zA.app ?_ ?_|refine zA.zd ?_ ?_|refine zA.cons ?_ ?_|exact fcQ|fail)
   all_goals(rw[eq2,hx,hL])
  repeat' (first|exact trivial|refine zA.app ?_ ?_|refine zA.zd ?_ ?_|refine zA.cons ?_ ?_|exact fcQ|fail)
  all_goals(rw[eq2,hx,hL])
 rintro⟨i,c⟩ ⟨hi,hic⟩
 have hi:i<=m:=hi
 have hic:i<=c:=hic
 refine zB.i ?_ ?_<;>intro hc
 ·have hc:(i:Int)<m:=hc
  have hll:=hLs.2 _ (fq [] (L:=L) (i:=i) (by omega))
  unfold rwF
  refine gC ?_
  refineλc3 hc3=>?_
  have hc3:(L.getD i []).length<=c3:=by have h:0+(L.getD i []).length<=c3:=hc3;omega
  refine gC ?_
  refineλc4 hc4=>?_
  have hc4:i+1<=c4:=hc4
  refine gC ?_
  refine⟨(i+1,c4),⟨by show i+1<=m;omega,hc4⟩,by show m-(i+1)<m-i;omega,Le.i [(204,(41,0,none))] rfl ?_ rfl ?_ rfl⟩
  ·exact fcn
  repeat' first|exact trivial|refine zA.app ?_ ?_|refine zA.zd ?_ ?_|refine zA.cons ?_ ?_|exact fcn|fail
  refine oK (λq _=>by rw[ke,zero_add]) ?_
  simp only[zme,bq,drop_zero,Ix.val,zQ,zero_add,zIn,List.replicate_zero,nil_append,List.take_length,mul_one,rwF]
 have hc:¬(i:Int)<m:=hc
 obtain rfl:i=m:=by omega
 refine gB ?_
 refine Ret.i (.tup [.i .i64 (T.getD q te0).1,.sl 1005 0 0 i c,.tt]) [(1000,.mem false 0 [(1,.slx 1001 0 0 n),(1,.mp 1002)]),(1001,.mem false 0 [(n*3,.arr n 3 (ttF T))]),(1002,.dead),(1005,.mem true (c-i) [(i*1,.arr i 1 (rwF L))])] [(1005,(204,0,none))] rfl ?_ (Or.inr ⟨q,L,i,c,rfl,by omega,by rw[hx,hL],hm,hic,rfl,rfl⟩) rfl ?_ rfl ?_ rfl
 ·exact fc
 ·repeat' first|exact trivial|refine zA.app ?_ ?_|refine zA.zd ?_ ?_|refine zA.cons ?_ ?_|exact fc|fail
  all_goals(rw[hx];exact rfl)
 exact fc
theorem aWS {S:List UInt8} {n:Nat} (hn:S.length=n) (h:32<=n):S.take 32=take 0 (replicate 32 (0:UInt8))++take (min S.length 32) S++drop (0+min S.length 32) (replicate 32 0):=by
 rw[hn,Nat.min_eq_right h,List.take_zero,nil_append,zero_add,List.drop_replicate,Nat.sub_self,List.replicate_zero,List.append_nil]
def mx8 (T:List Te) (key plain:List UInt8):List Te×Nat:=mkT T (8,[key,plain])
theorem aF0 (T:List Te) (key plain:List UInt8):mx8 T key plain=mkT T (8,[key,plain]):=rfl
attribute [irreducible] mx8
theorem z6 {p q:List UInt8} (hp:p.length<=1024) (hq:q.length<=1024):wA [p,q]:=by
 refine⟨by simp,λx hx=>?_⟩
 rcases List.mem_cons.1 hx with rfl|hx
 ·omega
 rw[List.mem_singleton.1 hx];omega
theorem aTU (T:List Te) {key plain:List UInt8} (hk:key.length<=1024) (hp:plain.length<=1024):(mx8 T key plain).2≠0:=by
 rw[aF0];exact aTY (x:=(8,_)) ⟨z6 hk hp,by show(1:Int)<=8;decide,by show(8:Int)<=8;decide⟩
theorem xB {p q:List UInt8} {k:Nat} (hp:p.length=k):rwF [p,q] 0=[(1,.isl 0 k 1 [(k,.a8 p)])]:=by
 show[(1,SV.isl 0 p.length 1 [(p.length*1,SV.a8 p)])]=_
 rw[hp,mul_one]
theorem xA {p q:List UInt8} {k:Nat} (hq:q.length=k):rwF [p,q] 1=[(1,.isl 0 k 1 [(k,.a8 q)])]:=by
 show[(1,SV.isl 0 q.length 1 [(q.length*1,SV.a8 q)])]=_
 rw[hq,mul_one]
@[irreducible] def aDE (o n:Nat):List UInt8:=kyB o++replicate (n/16*16) 0
theorem sS (o n:Nat):aDE o n=kyB o++replicate (n/16*16) 0:=by unfold aDE;rfl
theorem oy (o n:Nat):(aDE o n).length=n/16*16+32:=by rw[sS,zlA,zk,List.length_replicate];omega
theorem aET (o n:Nat):(aDE o n).take 32=kyB o:=by rw[sS];exact List.take_left' (zk o)
theorem aES {o n i:Nat} (h:32<=i):(aDE o n).getD i 0=0:=by
 rw[sS,List.getD_eq_getElem?_getD,List.getElem?_append_right (by rw[zk];exact h),List.getElem?_replicate]
 split <;>rfl
theorem aPF {o n m:Nat} (hm:n/16*16+32=m) {k:List UInt8} (hk:k=kyB o):aDE o n=take 0 (replicate m (0:UInt8))++take (min k.length m) k++drop (0+min k.length m) (replicate m 0):=by
 have hl:=zk o
 subst hk
 rw[hl,List.take_zero,nil_append,Nat.min_eq_left (by omega),zero_add,List.drop_replicate,List.take_of_length_le (by omega),sS]
 congr 2
 omega
theorem aX0 {o:Nat}:take 32 (drop ((none:Option Nat).getD 0) (kyB o))=kyB o:=by
 rw[Option.getD_none,drop_zero,List.take_of_length_le (by rw[zk];exact le_refl _)]
theorem aRB (T:List Te) (N c:Nat) (hT:T.length=N) (hN:N<=60000) (hNc:N<=c) (hTv:∀x∈T,bP x.1 x.2) (p q:List UInt8) (hp:p.length<=1024) (hq:q.length<=1024) (T1:List Te) (o:Nat) (e1:(mx8 T p q).1=T1) (e2:(mx8 T p q).2=o):
  Sx.Fn Γ.P 25 [.ptr 1000 0 none,.i .i64 8,.slx 1003 0 0 2] (MT N c T 1001 2 [p,q])
  (λv M=>∃n' c',T1.length=n'/\n'<=c'/\v= .tup [.a8 (kyB o),.bool (o≠0)]/\M=(1001,.dead)::MT n' c' T1 1005 2 [p,q]):=by
 subst e1;subst e2
 rw[aF0]
 refine aaJ T N c hT hN hNc hTv 8 [p,q] 2 rfl (by omega) (λx hx=>?_)
 rcases List.mem_cons.1 hx with rfl|hx
 ·omega
 rw[List.mem_singleton.1 hx];omega
theorem aQ9 (T:List Te) (N c:Nat) (hT:T.length=N) (hN:N<=60000) (hNc:N<=c) (hTv:∀x∈T,bP x.1 x.2) (key plain:List UInt8) (n m:Nat) (hk:key.length=32) (hn:plain.length=n) (hn1:n<=1024) (hm:n/16*16+32=m) (T1:List Te) (o:Nat) (e1:(mx8 T key plain).1=T1) (e2:(mx8 T key plain).2=o):
  Sx.Fn Γ.P 12 [.agg [(1,.ptr 1000 0 none)],.a8 key,.isl 0 n 1 [(n,.a8 plain)]] (tbM N c T 1001)
  (λv M=>∃n' c',T1.length=n'/\n'<=c'/\v= .tup [.sl 1006 0 0 m m,.tt]/\M=(1001,.dead)::(1006,.mem true 0 [(m,.a8 (aDE o n))])::tbM n' c' T1 1005):=by
 have hM:=aRB T N c hT hN hNc hTv key plain (by omega) (by omega) T1 o e1 e2
 have hone:o≠0:=by rw[<-e2];exact aTU T (by omega) (by omega)
 have hkl:=zk o
 have hSz:=aUV (n:Int)
 rw[mO (by omega) (by omega),show(n:Int)/16*16+32=(m:Int) by omega]at hSz
 unfold MT at hM
 unfold tbM
 refine cV [4] (Γ:=Γ) (fn:=Tryz.f12) rfl rfl rfl rfl ?_
 refine gB ?_
 refine zB.i ?_ ?_<;>intro hc
 ·have hc:(n:Int)>1024:=hc
  exact absurd hc (by omega)
 refine gB ?_
 refine zB.i (λ_=>?_) (λhn=>absurd hn (by simp))
 refine Cut.i (σ:=Unit) (λ_=>True) (λ_=>([(2,.isl 0 n 1 [(n,.a8 plain)]),(3,.ptr 203 0 none),(4,.ptr 204 0 none)],[(203,.mem true 0 [(1,.ptr 1000 0 none)]),(204,.mem false 1 [(32,.a8 key)]),
  (1000,.mem true 0 [(1,.sl 1001 0 0 N c),(1,.mp 1002)]),(1001,.mem true (zmE (c-N) 3) [(N*3,.arr N 3 (ttF T))]),(1002,.map (.si (mpL T)))])) () trivial (Le.ghost [.keep 4] [] [(203,(3,0,none)),(204,(4,0,none))] rfl fc rfl rfl fc rfl fc rfl) ?_
 rintro - -
 refine aH.i [[],[0],[],[],[2,3],r_5,r_6,r_7,r_7,[],[0,1,2,3,4,5,6,7,9],fe,[]] [0,1,2,3,4,9,5,6,7,8,10,11] (by kernel_rfl) ?_
 refine⟨?_,?_⟩
 all_goals
  refine gB ?_
  refine Call.name [(0,[]),(0,[]),(2001,[])] rfl fc (kW.i hM [(1000,(1000,0,none)),(1001,(1001,0,none)),(1002,(1002,0,none)),(1003,(2001,0,none)),(1005,(305,0,none))] rfl fc rfl ?_ rfl ?_)
  ·repeat' first|exact trivial|refine zA.app ?_ ?_|refine zA.zd ?_ ?_|refine zA.cons ?_ ?_|exact fc|fail
   ·exact xB hk
   exact xA hn
  rintro v M' ⟨n',c',hn',hnc',rfl,rfl⟩
  refine gN ?_
  refine gB ?_
  have hn1:¬¬(o≠0):=λh=>h hone
  repeat(first|(refine zB.i (λ_=>?_) (λhn=>absurd rfl hn))|refine ky0 ?_|refine kn0 ?_|refine ky ?_|refine kn ?_|refine sd ?_)
  refine gB ?_
  refine Call.pure hSz rfl fc ?_
  rintro _ rfl
  refine gB ?_
  refine Ret.i (.tup [.sl 1006 0 0 m m,.tt]) ((1001,.dead)::(1006,.mem true 0 [(m,.a8 (aDE o n))])::tbM n' c' T1 1005) [(1005,(305,0,none)),(1006,(36,0,none))] rfl ?_ ⟨n',c',hn',hnc',rfl,rfl⟩ rfl ?_ rfl ?_ rfl
  ·exact fc
  ·exact fc
  repeat' first|exact trivial|refine zA.app ?_ ?_|refine zA.zd ?_ ?_|refine zA.cons ?_ ?_|exact fc|fail
  exact aPF hm aX0
def mk1 (T:List Te) (k:Int) (p:List UInt8):List Te×Nat:=mkT T (k,[p])
def mk2 (T:List Te) (k:Int) (p q:List UInt8):List Te×Nat:=mkT T (k,[p,q])
theorem rn (T:List Te) (k:Int) (p:List UInt8):mk1 T k p=mkT T (k,[p]):=rfl
theorem uv (T:List Te) (k:Int) (p q:List UInt8):mk2 T k p q=mkT T (k,[p,q]):=rfl
attribute [irreducible] mk1 mk2
theorem aT7 {p:List UInt8} (hp:p.length<=4096):wA [p]:=⟨by simp,λx hx=>by rw[List.mem_singleton.1 hx];exact hp⟩
theorem aT6 {p q:List UInt8} (hp:p.length<=4096) (hq:q.length<=4096):wA [p,q]:=by
 refine⟨by simp,λx hx=>?_⟩
 rcases List.mem_cons.1 hx with rfl|hx
 ·exact hp
 rw[List.mem_singleton.1 hx];exact hq
theorem aGC {T:List Te} (h:∀x∈T,bP x.1 x.2) (k:Int) (p:List UInt8):∀x∈(mk1 T k p).1,bP x.1 x.2:=by rw[rn];exact uu h
theorem aGB {T:List Te} (h:∀x∈T,bP x.1 x.2) (k:Int) (p q:List UInt8):∀x∈(mk2 T k p q).1,bP x.1 x.2:=by rw[uv];exact uu h
theorem aQN (T:List Te) (k:Int) (p:List UInt8):T.length<=(mk1 T k p).1.length/\(mk1 T k p).1.length<=T.length+1:=by rw[rn];exact aGA T _
theorem aQL (T:List Te) (k:Int) (p q:List UInt8):T.length<=(mk2 T k p q).1.length/\(mk2 T k p q).1.length<=T.length+1:=by rw[uv];exact aGA T _
theorem aSX {p:List UInt8} {k:Nat} (hp:p.length=k):rwF [p] 0=[(1,.isl 0 k 1 [(k,.a8 p)])]:=by
 show[(1,SV.isl 0 p.length 1 [(p.length*1,SV.a8 p)])]=_
 rw[hp,mul_one]
theorem aaL (T:List Te) (N c:Nat) (hT:T.length=N) (hN:N<=60000) (hNc:N<=c) (hTv:∀x∈T,bP x.1 x.2) (k:Int) (L:List (List UInt8)) (m:Nat) (hL:L.length=m) (hm:m<=64) (hLs:∀x∈L,x.length<=4096) (T1:List Te) (o:Nat) (e1:(mkT T (k,L)).1=T1) (e2:(mkT T (k,L)).2=o):
  Sx.Fn Γ.P 19 [.agg [(1,.ptr 1000 0 none)],.i .i64 k,.slx 1003 0 0 m] (MT N c T 1001 m L)
  (λv M=>∃n' c',T1.length=n'/\n'<=c'/\v= .a8 (kyB o)/\M=(1001,.dead)::MT n' c' T1 1005 m L):=by
 have hM:=aaJ T N c hT hN hNc hTv k L m hL (by omega) (λx hx=>by have:=hLs x hx;omega)
 rw[e1,e2]at hM
 have hkl:=zk o
 unfold MT rwS at hM
 unfold MT rwS
 refine aG (Γ:=Γ) (fn:=Tryz.f19) rfl rfl rfl rfl ?_
 refine gB ?_
 refine Call.i hM [(1000,(1000,0,none)),(1001,(1001,0,none)),(1002,(1002,0,none)),(1003,(1003,0,none)),(1005,(305,0,none))] rfl fc rfl fc rfl ?_
 rintro v M' ⟨n',c',hn',hnc',rfl,rfl⟩
 refine gN ?_
 refine gB ?_
 refine Ret.i (.a8 (kyB o)) ((1001,.dead)::MT n' c' T1 1005 m L) [(1005,(305,0,none))] rfl fc ⟨n',c',hn',hnc',rfl,rfl⟩ rfl fc rfl fc rfl
def dbl (b:UInt8):UInt8:=if b.toNat<128 then qh b 1 else qh b 1^^^27
theorem aWA (b:UInt8):Sx.Fn Γ.P 94 [.u8 b] [] (λv _=>v= .u8 (dbl b)):=by
 refine aG (Γ:=Γ) (fn:=Tryz.f94) rfl rfl rfl rfl ?_
 refine zB.i ?_ ?_<;>intro h
 ·refine Ret.i (.u8 (dbl b)) [] [] rfl trivial rfl rfl ?_ rfl trivial rfl
  show dbl b=qh b 1
  exact if_pos h
 refine Ret.i (.u8 (dbl b)) [] [] rfl trivial rfl rfl ?_ rfl trivial rfl
 show dbl b=qh b 1^^^27
 exact if_neg h
def tms:Nat->UInt8->UInt8->UInt8->UInt8
 |0,_,_,p=>p
 |n+1,a,b,p=>tms n (dbl a) (mD b 1) (if b&&&1=1 then p^^^a else p)
theorem yh:∀(n:Nat) (a p:UInt8),tms n a 0 p=p
 |0,_,_=>rfl
 |n+1,a,p=>by
  show tms n (dbl a) 0 p=p
  exact yh n _ _
theorem yr (b:UInt8):(mD b 1).toNat=b.toNat/2:=by
 have:=b.toNat_lt
 unfold mD
 rw[UInt8.toNat_ofNat',Nat.shiftRight_eq_div_pow]
 omega
def aL (a b:UInt8):UInt8:=tms 8 a b 0
theorem aUX (a b:UInt8):Sx.Fn Γ.P 118 [.u8 a,.u8 b] [] (λv _=>v= .u8 (aL a b)):=by
 refine aG (Γ:=Γ) (fn:=Tryz.f118) rfl rfl rfl rfl ?_
 refine aY.i (σ:=UInt8×UInt8×UInt8) (λs=>∃n,s.2.1.toNat<2^n/\tms n s.1 s.2.1 s.2.2=tms 8 a b 0)
  (λs=>([(0,.u8 s.1),(1,.u8 s.2.1),(5,.u8 s.2.2)],[])) (λs=>s.2.1.toNat) (a,b,0) ?_ ?_ ?_
 ·exact⟨8,b.toNat_lt,rfl⟩
 ·exact Le.i [] rfl ⟨rfl,rfl,rfl⟩ rfl trivial rfl
 rintro⟨x,y,z⟩ ⟨n,hn,ht⟩
 have step:0<y.toNat->∃n,(mD y 1).toNat<2^n/\tms n (dbl x) (mD y 1) (if y&&&1=1 then z^^^x else z)=tms 8 a b 0:=by
  intro h
  match n,hn,ht with
  |0,hn,_=>exact absurd hn (by simp only[Nat.pow_zero];omega)
  |n+1,hn,ht=>
   refine⟨n,?_,ht⟩
   rw[yr]
   have:y.toNat<2^(n+1):=hn
   rw[Nat.pow_succ]at this
   omega
 have less:0<y.toNat->(mD y 1).toNat<y.toNat:=λh=>by rw[yr];omega
 refine zB.i ?_ ?_<;>intro h
 ·refine zB.i ?_ ?_<;>intro h2
  ·refine Call.pure (aWA x) rfl rfl ?_
   rintro _ rfl
   have st:=step h
   rw[if_pos (show y&&&1=1 from h2)]at st
   exact⟨(dbl x,mD y 1,z^^^x),st,less h,Le.i [] rfl ⟨rfl,rfl,rfl⟩ rfl trivial rfl⟩
  refine Call.pure (aWA x) rfl rfl ?_
  rintro _ rfl
  have st:=step h
  rw[if_neg (show¬(y&&&1=1)from h2)]at st
  exact⟨(dbl x,mD y 1,z),st,less h,Le.i [] rfl ⟨rfl,rfl,rfl⟩ rfl trivial rfl⟩
 have hy:y=0:=UInt8.toNat_inj.1 (by
  have h:¬(0<y.toNat):=h
  show y.toNat=0
  omega)
 subst hy
 have ht:tms n x 0 z=tms 8 a b 0:=ht
 rw[yh]at ht
 refine Ret.i (.u8 z) [] [] rfl trivial ?_ rfl rfl rfl trivial rfl
 rw[ht];rfl
def dX (k:List UInt8):Nat->List UInt8->List UInt8
 |0,b=>b
 |n+1,b=>(dX k n b).set n ((dX k n b).getD n 0^^^k.getD n 0)
theorem bL (k:List UInt8):∀(n:Nat) (b:List UInt8),(dX k n b).length=b.length
 |0,_=>rfl
 |n+1,b=>by simp only[dX,length_set,bL k n b]
theorem aUQ (b k:List UInt8) (hb:b.length=16) (hk:k.length=16):Sx.Fn Γ.P 95 [.a8 b,.a8 k] [] (λv _=>v= .a8 (dX k 16 b)):=by
 have hl:∀n,(dX k n b).length=16:=λn=>by rw[bL,hb]
 refine aG (Γ:=Γ) (fn:=Tryz.f95) rfl rfl rfl rfl ?_
 refine fg.i ⟨hk,hb⟩ ?_
 refine aY.i (σ:=Nat) (λi=>i<=16)
  (λi=>([(2,.ptr 2 0 none),(3,.ptr 3 0 none),(4,.ptr 4 0 none),(6,.i .i64 i)],
   [(2,.mem true 0 [(16,.a8 (dX k i b))]),(3,.mem true 0 [(16,.a8 k)]),(4,.mem true 0 [(16,.a8 (replicate 16 0))])])) (λi=>16-i) 0 (zero_le _) ?_ ?_
 ·exact Le.i [] rfl rfl rfl ⟨rfl,rfl,rfl,rfl,rfl,rfl,rfl,rfl,rfl⟩ rfl
 intro i hi
 refine zB.i ?_ ?_<;>intro h
 ·refine aH.i [[],[0],[0,1],[],[3],[3,4],r_6,r_7,r_8] r_9 (by kernel_rfl) ?_
  refine fg.i ⟨by omega,Int.natCast_nonneg _⟩ ?_
  refine fg.i (show(i:Int).toNat<16 by omega) ?_
  refine fg.i ⟨by omega,Int.natCast_nonneg _⟩ ?_
  refine fg.i (show(i:Int).toNat<16 by omega) ?_
  refine fg.i ⟨by omega,Int.natCast_nonneg _⟩ ?_
  refine fg.i (show(i:Int).toNat<16 by omega) ?_
  refine fg.i (show rng .i64 ((i:Int)+1) by unfold rng;exact⟨by omega,by omega⟩) ?_
  refine⟨i+1,by omega,by omega,Le.i [] rfl rfl rfl ⟨rfl,rfl,?_,rfl,rfl,rfl,rfl,rfl,rfl⟩ rfl⟩
  rw[zIn];rfl
 have hi:i=16:=by omega
 subst hi
 refine fg.i (hl 16) ?_
 exact Ret.i (.a8 (dX k 16 b)) [] [] rfl trivial rfl rfl rfl rfl trivial rfl
def aSB (b m:List UInt8) (i:Nat) (out:List UInt8):Nat->List UInt8
 |0=>out
 |k+1=>(aSB b m i out k).set i ((aSB b m i out k).getD i 0^^^aL (b.getD (i/4*4+(i+k)%4) 0) (m.getD k 0))
def xV (b m:List UInt8):Nat->List UInt8
 |0=>replicate 16 0
 |i+1=>aSB b m i (xV b m i) 4
theorem pj (b m:List UInt8) (i:Nat) (out:List UInt8):∀k,(aSB b m i out k).length=out.length
 |0=>rfl
 |k+1=>by simp only[aSB,length_set,pj b m i out k]
theorem dQ (b m:List UInt8):∀i,(xV b m i).length=16
 |0=>rfl
 |i+1=>by simp only[xV,pj,dQ b m i]
theorem aZ3 (b m:List UInt8) (hb:b.length=16) (hm:m.length=4):Sx.Fn Γ.P 96 [.a8 b,.a8 m] [] (λv _=>v= .a8 (xV b m 16)):=by
 refine aG (Γ:=Γ) (fn:=Tryz.f96) rfl rfl rfl rfl ?_
 refine sd ?_
 refine aY.i (σ:=Nat) (λi=>i<=16)
  (λi=>([(2,.ptr 2 0 none),(3,.ptr 3 0 none),(4,.ptr 4 0 none),(5,.ptr 5 0 none),(8,.i .i64 i)],
   [(2,.mem true 0 [(16,.a8 b)]),(3,.mem true 0 [(4,.a8 m)]),(4,.mem true 0 [(16,.a8 (replicate 16 0))]),(5,.mem true 0 [(16,.a8 (xV b m i))])])) (λi=>16-i) 0 (zero_le _) ?_ ?_
 ·exact Le.i [] rfl fc rfl fc rfl
 intro i hi
 refine zB.i ?_ ?_<;>intro h
 ·refine aY.i (σ:=Nat) (λk=>k<=4)
   (λk=>([(2,.ptr 2 0 none),(3,.ptr 3 0 none),(4,.ptr 4 0 none),(5,.ptr 5 0 none),(8,.i .i64 i),(6,.i .i64 i),(11,.i .i64 k)],
    [(2,.mem true 0 [(16,.a8 b)]),(3,.mem true 0 [(4,.a8 m)]),(4,.mem true 0 [(16,.a8 (replicate 16 0))]),(5,.mem true 0 [(16,.a8 (aSB b m i (xV b m i) k))])])) (λi=>4-i) 0 (zero_le _) ?_ ?_
  ·exact Le.i [] rfl fc rfl fc rfl
  intro k hk
  refine zB.i (λh'=>?_) (λh'=>?_)
  ·refine aH.i [[],[0],[0,1],[],[3],[3,4],[],[],[6,7],[6,7,8],[3,4,5,6,7,8,9],[3,4,5,6,7,8,9,10],[3,4,5,6,7,8,9,10,11],[],[13],[13,14],[3,4,5,6,7,8,9,10,11,12,13,14,15],wG,aBU,uf] aJG (by kernel_rfl) ?_
   refine gB ?_
   refine Call.pure (aUX (b.getD (i/4*4+(i+k)%4) 0) (m.getD k 0)) rfl ?_ ?_
   ·refine⟨?_,?_⟩
    ·show b.getD (i/4*4+(i+k)%4) 0=b.getD ((i:Int)/4*4+((i:Int)+k)%4).toNat 0
     congr 1
    show m.getD k 0=m.getD (k:Int).toNat 0
    rfl
   rintro _ rfl
   refine cL.i [] rfl rfl ?_
   refine gB ?_
   exact⟨k+1,by omega,by omega,Le.i [] rfl fc rfl fc rfl⟩
  have:k=4:=by omega
  subst this
  refine sd ?_
  exact⟨i+1,by omega,by omega,Le.i [] rfl fc rfl fc rfl⟩
 have:i=16:=by omega
 subst this
 have:=dQ b m 16
 refine sd ?_
 exact Ret.i (.a8 (xV b m 16)) [] [] rfl trivial rfl rfl rfl rfl trivial rfl
def cK (s bk ks:List UInt8):Ent:=.mem false 0 [(256,.a8 s),(256,.a8 bk),(240,.a8 ks)]
def fA (ks:List UInt8) (r:Nat):List UInt8:=(ks.drop (16*r)).take 16
def wE (s b:List UInt8):Nat->List UInt8
 |0=>replicate 16 0
 |i+1=>(wE s b i).set i (s.getD (b.getD ((i+i%4*4)%16) 0).toNat 0)
def kj (s ks:List UInt8) (r:Nat) (b:List UInt8):List UInt8:=
 dX (fA ks r) 16 (if r<14 then xV (wE s b 16) [2,3,1,1] 16 else wE s b 16)
def bQ (s ks b:List UInt8):Nat->List UInt8
 |0=>dX (fA ks 0) 16 b
 |n+1=>kj s ks (n+1) (bQ s ks b n)
theorem fN (s b:List UInt8):∀i,(wE s b i).length=16
 |0=>rfl
 |i+1=>by simp only[wE,length_set,fN s b i]
theorem be {ks:List UInt8} (h:ks.length=240) {r:Nat} (hr:r<=14):(fA ks r).length=16:=by
 simp only[fA,zlT,zlD];omega
theorem sZ (s ks:List UInt8) (r:Nat) (b:List UInt8):(kj s ks r b).length=16:=by
 unfold kj
 rw[bL]
 split
 ·exact dQ _ _ _
 exact fN _ _ _
theorem iJ (s ks:List UInt8) {b:List UInt8} (hb:b.length=16):∀n,(bQ s ks b n).length=16
 |0=>by simp only[bQ,bL,hb]
 |n+1=>sZ _ _ _ _
theorem abJ (s bk ks b:List UInt8) (hs:s.length=256) (hbk:bk.length=256) (hk:ks.length=240) (hb:b.length=16):
  Sx.Fn Γ.P 56 [.ptr 1000 0 none,.a8 b] [(1000,cK s bk ks)] (λv M=>v= .a8 (bQ s ks b 14)/\M=[(1000,cK s bk ks)]):=by
 refine aG (Γ:=Γ) (fn:=Tryz.f56) rfl rfl rfl rfl ?_
 refine sd ?_
 refine aH.i [[],[],[1],[1,2],[1,2,3],[1,2,3,4],r_6,[],r_8] [0,1,2,3,4,5,7,6,8] (by kernel_rfl) ?_
 refine Call.pure (aUQ b (fA ks 0) hb (be hk (by omega))) rfl fc ?_
 rintro _ rfl
 refine cL.i [] rfl rfl ?_
 have hl:=iJ s ks hb
 have h0:(dX (fA ks 0) 16 b).length=16:=hl 0
 refine gB ?_
 refine aY.i (σ:=Nat) (λn=>n<=14)
  (λn=>([(0,.ptr 1000 0 none),(3,.ptr 3 0 none),(4,.ptr 4 0 none),(5,.ptr 5 0 none),(6,.i .i64 ((n:Int)+1))],
   [(1000,cK s bk ks),(3,.mem true 0 [(16,.a8 b)]),(4,.mem true 0 [(16,.a8 (replicate 16 0))]),(5,.mem true 0 [(16,.a8 (bQ s ks b n))])])) (λn=>14-n) 0 (zero_le _) ?_ ?_
 ·exact Le.i [] rfl fc rfl fc rfl
 intro n hn
 refine zB.i ?_ ?_<;>intro h
 ·refine aY.i (σ:=Nat) (λi=>i<=16)
   (λi=>([(0,.ptr 1000 0 none),(3,.ptr 3 0 none),(4,.ptr 4 0 none),(5,.ptr 5 0 none),(6,.i .i64 ((n:Int)+1)),(7,.ptr 7 0 none),(20,.i .i64 i)],
   [(1000,cK s bk ks),(3,.mem true 0 [(16,.a8 b)]),(4,.mem true 0 [(16,.a8 (replicate 16 0))]),(5,.mem true 0 [(16,.a8 (bQ s ks b n))]),(7,.mem true 0 [(16,.a8 (wE s (bQ s ks b n) i))])])) (λi=>16-i) 0 (zero_le _) ?_ ?_
  ·exact Le.i [] rfl fc rfl fc rfl
  intro i hi
  refine zB.i (λh'=>?_) (λh'=>?_)
  ·refine aH.i [[],[],[],[],[3],[3,4],[2,3,4,5],[2,3,4,5,6],[2,3,4,5,6,7],[2,3,4,5,6,7,8],[1],[1,10],[1,2,3,4,5,6,7,8,9,10,11],[1,2,3,4,5,6,7,8,9,10,11,12],oB,nw] na (by kernel_rfl) ?_
   refine gB ?_
   have hv:wE s (bQ s ks b n) (i+1)=(wE s (bQ s ks b n) i).set (i:Int).toNat (s.getD ((bQ s ks b n).getD (((i:Int)+(i:Int)%4*4)%16).toNat 0).toNat 0):=by
    rw[show(((i:Int)+(i:Int)%4*4)%16).toNat=(i+i%4*4)%16 by omega];rfl
   exact⟨i+1,by omega,by omega,Le.i [] rfl fc rfl fc rfl⟩
  have:i=16:=by omega
  subst this
  have hkey:fA ks (n+1)=(ks.drop (((n:Int)+1).toNat*16)).take 16:=by
   rw[show((n:Int)+1).toNat*16=16*(n+1) by omega];rfl
  have hround:∀t,bQ s ks b (n+1)=dX (fA ks (n+1)) 16 t->(dX (fA ks (n+1)) 16 t).length=16:=λt e=>by rw[<-e];exact hl _
  refine zB.i ?_ ?_<;>intro h2
  ·refine gB ?_
   refine Call.pure (aZ3 (wE s (bQ s ks b n) 16) [2,3,1,1] (fN _ _ _) rfl) rfl fc ?_
   rintro _ rfl
   have hm:=dQ (wE s (bQ s ks b n) 16) [2,3,1,1] 16
   have hstep:bQ s ks b (n+1)=dX (fA ks (n+1)) 16 (xV (wE s (bQ s ks b n) 16) [2,3,1,1] 16):=by
    show kj _ _ _ _=_
    unfold kj
    rw[if_pos (by omega)]
   have hlen:=hround _ hstep
   refine gB ?_
   refine aH.i [[],[],[],[1],[1,3],[1,2,3,4],[1,2,3,4,5],r_7,r_8] r_9 (by kernel_rfl) ?_
   refine gB ?_
   refine Call.pure (aUQ (xV (wE s (bQ s ks b n) 16) [2,3,1,1] 16) (fA ks (n+1)) hm (be hk (by omega))) rfl fc ?_
   rintro _ rfl
   refine gB ?_
   exact⟨n+1,by omega,by omega,Le.i [] rfl fc rfl fc rfl⟩
  have hm:=fN s (bQ s ks b n) 16
  have hstep:bQ s ks b (n+1)=dX (fA ks (n+1)) 16 (wE s (bQ s ks b n) 16):=by
   show kj _ _ _ _=_
   unfold kj
   rw[if_neg (by omega)]
  have hlen:=hround _ hstep
  refine aH.i [[],[],[],[1],[1,3],[1,2,3,4],[1,2,3,4,5],r_7,r_8] r_9 (by kernel_rfl) ?_
  refine gB ?_
  refine Call.pure (aUQ (wE s (bQ s ks b n) 16) (fA ks (n+1)) hm (be hk (by omega))) rfl fc ?_
  rintro _ rfl
  refine gB ?_
  exact⟨n+1,by omega,by omega,Le.i [] rfl fc rfl fc rfl⟩
 have:n=14:=by omega
 subst this
 have hl14:=hl 14
 refine gB ?_
 exact Ret.i (.a8 (bQ s ks b 14)) [(1000,cK s bk ks)] [] rfl trivial ⟨rfl,rfl⟩ rfl rfl rfl fc rfl
end Go.Proofs.YtllmefnbacjjcaaGreat
