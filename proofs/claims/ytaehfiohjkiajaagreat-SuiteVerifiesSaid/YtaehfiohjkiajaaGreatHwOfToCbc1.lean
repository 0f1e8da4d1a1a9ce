/- Walks. -/
import Derived.Test.YtaehfiohjkiajaaGreatHwTm2ToTb
import Derived.Test.YtaehfiohjkiajaaGreatHwCu10ToTm1
import Derived.Test.YtaehfiohjkiajaaGreatHwTabToCu9
import Derived.Test.YtaehfiohjkiajaaGreatHx7
set_option linter.unusedSimpArgs false
set_option linter.unusedVariables false
set_option maxHeartbeats 4000000
open List (replicate length_set take length_replicate drop_zero drop)
open UInt8 (ofNat toNat_ofNat' xor_zero ofInt toNat_xor ofNat_toNat toNat xor_self)
open Nat (zero_le le_refl beq mul_one)
set_option maxRecDepth 100000
namespace Go.Proofs.YtaehfiohjkiajaaGreat
open Go Go.Sx
theorem uo {z most:Nat} (h1:1<=z) (h2:z<=most) (h3:most<4294967296):iW (kC z) most 0=z:=by
 have hn:nmK (kC z) 0=z:=by
  rw[oD];show(((ofNat (z/256^3)).toNat*256+(ofNat (z/256^2)).toNat)*256+(ofNat (z/256^1)).toNat)*256+(ofNat (z/256^0)).toNat=z;simp only[toNat_ofNat',Nat.reducePow,Nat.div_one];omega
 rw[sr,hn,if_pos];exact⟨by rw[bc];omega,h1,h2,List.take_of_length_le (by rw[drop_zero,bc];omega)⟩
theorem aYB {k:List UInt8} (hk:k.length=32) (most:Nat):inL k most 0=if iW k most 0=0 then[]else[iW k most 0]:=by
 by_cases hz:iW k most 0=0
 .rw[if_pos hz,aAA (by omega) hz,aQ2 (by omega)]
 rw[if_neg hz,aLF (by omega) hz,aQ2 (by omega)]
theorem abW (T:List Te) (n:Nat) (hT:T.length=n) (hn:n<=60000) (hTv:∀x∈T,bP x.1 x.2) (k:List UInt8) (hk:k.length=32):
  Sx.Fn Γ.P 27 [.ptr 1000 0 none,.a8 k] [(1000,.mem false 0 [(1,.slx 1001 0 0 n),(1,.mp 1002)]),(1001,.mem false 0 [(n*3,.arr n 3 (ttF T))]),(1002,.dead)]
  (λv M=>(iW k n 0=0/\v= .tup [.i .i64 0,.nsl,.ff]/\M=[(1000,.mem false 0 [(1,.slx 1001 0 0 n),(1,.mp 1002)]),(1001,.mem false 0 [(n*3,.arr n 3 (ttF T))]),(1002,.dead)])\/∃q L m c,iW k n 0=q+1/\q<n/\(T.getD q te0).2=L/\L.length=m/\m<=c/\v= .tup [.i .i64 (T.getD q te0).1,.sl 1005 0 0 m c,.tt]/\M=[(1000,.mem false 0 [(1,.slx 1001 0 0 n),(1,.mp 1002)]),(1001,.mem false 0 [(n*3,.arr n 3 (ttF T))]),(1002,.dead),(1005,.mem true (c-m) [(m*1,.arr m 1 (rwF L))])]):=by
 have hN:=abJ k 32 32 0 hk rfl (le_refl _) n (by omega);have hle:=aFW k n 0;refine aG (Γ:=Γ) (fn:=Tryz.f27) rfl rfl rfl rfl ?_;refine gB ?_;refine aH.i [[],[],[1],[1,2],[1,2,3],[1,2,3,4],r_6,r_7] r_8 (by kernel_rfl) ?_;refine gB ?_;refine Call.i hN [(1003,(3,0,none))] rfl fc rfl fc rfl ?_;rintro _ _ ⟨rfl,rfl⟩;refine gN ?_;refine gB ?_;refine zB.i ?_ ?_<;>intro hz
 .have hz:iW k n 0=0:=by have h:((iW k n 0:Nat):Int)=0:=hz;omega
  refine gB ?_;refine Ret.i (.tup [.i .i64 0,.nsl,.ff]) [(1000,.mem false 0 [(1,.slx 1001 0 0 n),(1,.mp 1002)]),(1001,.mem false 0 [(n*3,.arr n 3 (ttF T))]),(1002,.dead)] [] rfl fc (Or.inl ⟨hz,rfl,rfl⟩) rfl fc rfl fc rfl
 obtain⟨q,hq⟩:∃q,iW k n 0=q+1:=⟨iW k n 0-1,by have h:¬((iW k n 0:Nat):Int)=0:=hz;omega⟩;have hV:=hTv _ (fq te0 (L:=T) (i:=q) (by omega));obtain⟨x,hx⟩:∃x,T.getD q te0=x:=⟨_,rfl⟩;rw[hx]at hV;obtain⟨L,hL⟩:∃L,x.2=L:=⟨_,rfl⟩;have hLs:=hV.1;rw[hL]at hLs;obtain⟨m,hm⟩:∃m,L.length=m:=⟨_,rfl⟩;have hm64:m<=64:=by rw[<-hm];exact hLs.1
 have eq1:((q+1:Nat):Int)-1=(q:Int):=by omega
 have eq2:(((q+1:Nat):Int)-1).toNat=q:=by omega
 rw[hq];rw[hq]at hle;clear hN hz
 repeat refine sdK ?_
 refine aY.i (σ:=Nat×Nat) (λs=>s.1<=m/\s.1<=s.2)
  (λs=>([(8,.ptr 8 0 none),(9,.sl 204 0 0 s.1 s.2),(30,.isl 0 m 1 [(m*1,.arr m 1 (rwF L))]),(31,.i .i64 (m:Int)),(32,.i .i64 (s.1:Int))],
   [(1000,.mem false 0 [(1,.slx 1001 0 0 n),(1,.mp 1002)]),(1001,.mem false 0 [(n*3,.arr n 3 (ttF T))]),(1002,.dead),(8,.mem true 0 [(1,.i .i64 x.1),(1,.isl 0 m 1 [(m*1,.arr m 1 (rwF L))]),(1,.isl 0 m 1 [(m*1,.arr m 1 (nwF q L))])]),(204,.mem true (s.2-s.1) [(s.1*1,.arr s.1 1 (rwF L))])]))
  (λs=>m-s.1) (0,0) ⟨zero_le _,le_refl _⟩ ?_ ?_
 .refine Le.ghost [.own 204 [(0,.arr 0 1 (rwF L))]] [(9,204)] [] rfl ⟨rfl,rfl,trivial⟩ rfl rfl ?_ rfl ?_ rfl
  .repeat' (first|exact trivial|refine zA.app ?_ ?_|refine zA.zd ?_ ?_|refine zA.cons ?_ ?_|exact fcK|fail)
   all_goals(rw[eq2,hx,hL])
  repeat' (first|exact trivial|refine zA.app ?_ ?_|refine zA.zd ?_ ?_|refine zA.cons ?_ ?_|exact fcK|fail)
  all_goals(rw[eq2,hx,hL])
 rintro⟨i,c⟩ ⟨hi,hic⟩;have hi:i<=m:=hi;have hic:i<=c:=hic;refine zB.i ?_ ?_<;>intro hc
 .have hc:(i:Int)<m:=hc
  have hll:=hLs.2 _ (fq [] (L:=L) (i:=i) (by omega));unfold rwF;refine gC ?_;refineλc3 hc3=>?_;have hc3:(L.getD i []).length<=c3:=by have h:0+(L.getD i []).length<=c3:=hc3;omega
  refine gC ?_;refineλc4 hc4=>?_;have hc4:i+1<=c4:=hc4;refine gC ?_;refine⟨(i+1,c4),⟨by show i+1<=m;omega,hc4⟩,by show m-(i+1)<m-i;omega,Le.i [(204,(41,0,none))] rfl ?_ rfl ?_ rfl⟩
  .exact fcn
  repeat' first|exact trivial|refine zA.app ?_ ?_|refine zA.zd ?_ ?_|refine zA.cons ?_ ?_|exact fcn|fail
  refine oK (λq _=>by rw[ke,Nat.zero_add]) ?_;simp only[zme,bq,drop_zero,Ix.val,zQ,Nat.zero_add,zIn,List.replicate_zero,List.nil_append,List.take_length,mul_one,rwF]
 have hc:¬(i:Int)<m:=hc;obtain rfl:i=m:=by omega
 refine gB ?_;refine Ret.i (.tup [.i .i64 (T.getD q te0).1,.sl 1005 0 0 i c,.tt]) [(1000,.mem false 0 [(1,.slx 1001 0 0 n),(1,.mp 1002)]),(1001,.mem false 0 [(n*3,.arr n 3 (ttF T))]),(1002,.dead),(1005,.mem true (c-i) [(i*1,.arr i 1 (rwF L))])] [(1005,(204,0,none))] rfl ?_ (Or.inr ⟨q,L,i,c,rfl,by omega,by rw[hx,hL],hm,hic,rfl,rfl⟩) rfl ?_ rfl ?_ rfl
 .exact fc
 .repeat' first|exact trivial|refine zA.app ?_ ?_|refine zA.zd ?_ ?_|refine zA.cons ?_ ?_|exact fc|fail
  all_goals(rw[hx];exact rfl)
 exact fc
theorem abV (T:List Te) (n:Nat) (hT:T.length=n) (hn:n<=60000) (k:List UInt8) (hk:k.length=32):
  Sx.Fn Γ.P 29 [.ptr 1000 0 none,.a8 k] [(1000,.mem false 0 [(1,.slx 1001 0 0 n)]),(1001,.mem false 0 [(n*2,.arr n 2 (rtF T))])]
  (λv M=>(iW k n 0=0/\v= .tup [.agg [(1,.i .i64 0),(1,.nsl)],.ff]/\M=[(1000,.mem false 0 [(1,.slx 1001 0 0 n)]),(1001,.mem false 0 [(n*2,.arr n 2 (rtF T))])])\/∃q,iW k n 0=q+1/\q<n/\v= .tup [.agg [(1,.i .i64 (T.getD q te0).1),(1,prS (T.getD q te0).2)],.tt]/\M=[(1000,.mem false 0 [(1,.slx 1001 0 0 n)]),(1001,.mem false 0 [(n*2,.arr n 2 (rtF T))])]):=by
 have hI:=aWD k 32 hk n (by omega) (by decide);have hle:=aFW k n 0;have hkey:=aYB hk n;refine aG (Γ:=Γ) (fn:=Tryz.f29) rfl rfl rfl rfl ?_;refine gB ?_;refine aH.i [[],[],[1],[1,2],[1,2,3],[1,2,3,4],r_6,r_7] r_8 (by kernel_rfl) ?_;refine gB ?_;refine Call.i hI [(1003,(3,0,none)),(1001,(301,0,none))] rfl fc rfl fc rfl ?_;rintro v M' ⟨l,cl,hl,hlc,rfl,rfl⟩;refine gN ?_;by_cases hz:iW k n 0=0
 .rw[if_pos hz]at hkey
  rw[hkey]at hl;obtain rfl:l=[]:=hl;refine gB ?_;refine zB.i (λ_=>?_) (λhc=>absurd rfl hc);refine gB ?_;refine Ret.i (.tup [.agg [(1,.i .i64 0),(1,.nsl)],.ff]) [(1000,.mem false 0 [(1,.slx 1001 0 0 n)]),(1001,.mem false 0 [(n*2,.arr n 2 (rtF T))])] [] rfl fc (Or.inl ⟨hz,rfl,rfl⟩) rfl fc rfl fc rfl
 obtain⟨q,hq⟩:∃q,iW k n 0=q+1:=⟨iW k n 0-1,by omega⟩;rw[if_neg hz,hq]at hkey;rw[hkey]at hl;obtain rfl:l=[((q+1:Nat):Int)]:=hl;obtain⟨x,hx⟩:∃x,T.getD q te0=x:=⟨_,rfl⟩;have eq2:(((q+1:Nat):Int)-1).toNat=q:=by omega
 have eqg:([((q+1:Nat):Int)]:List Int).getD 0 0=((q+1:Nat):Int):=rfl;rw[hq]at hle⊢;clear hI hkey;refine gB ?_;refine zB.i (λhc=>absurd hc (by simp)) (λ_=>?_);refine aH.i [[],[0],[0,1],[0,1,2],[],[4],[4,5],[4,5,6],r_8,r_9,ek,fe] kX (by kernel_rfl) ?_
 repeat refine sdL ?_
 refine Ret.i (.tup [.agg [(1,.i .i64 (T.getD q te0).1),(1,prS (T.getD q te0).2)],.tt]) [(1000,.mem false 0 [(1,.slx 1001 0 0 n)]),(1001,.mem false 0 [(n*2,.arr n 2 (rtF T))])] [] rfl fc (Or.inr ⟨q,rfl,by omega,rfl,rfl⟩) rfl fcL rfl fc rfl
theorem aWS {S:List UInt8} {n:Nat} (hn:S.length=n) (h:32<=n):S.take 32=take 0 (replicate 32 (0:UInt8))++take (min S.length 32) S++drop (0+min S.length 32) (replicate 32 0):=by
 rw[hn,Nat.min_eq_right h,List.take_zero,List.nil_append,Nat.zero_add,List.drop_replicate,Nat.sub_self,List.replicate_zero,List.append_nil]
def mx8 (T:List Te) (key plain:List UInt8):List Te×Nat:=mkT T (8,[key,plain])
theorem aF0 (T:List Te) (key plain:List UInt8):mx8 T key plain=mkT T (8,[key,plain]):=rfl
attribute [irreducible] mx8
theorem z6 {p q:List UInt8} (hp:p.length<=1024) (hq:q.length<=1024):wA [p,q]:=by
 refine⟨by simp,λx hx=>?_⟩;rcases List.mem_cons.1 hx with rfl|hx
 .omega
 rw[List.mem_singleton.1 hx];omega
theorem aTU (T:List Te) {key plain:List UInt8} (hk:key.length<=1024) (hp:plain.length<=1024):(mx8 T key plain).2≠0:=by
 rw[aF0];exact aTY (x:=(8,_)) ⟨z6 hk hp,by show(1:Int)<=8;decide,by show(8:Int)<=8;decide⟩
theorem xB {p q:List UInt8} {k:Nat} (hp:p.length=k):rwF [p,q] 0=[(1,.isl 0 k 1 [(k,.a8 p)])]:=by
 show[(1,SV.isl 0 p.length 1 [(p.length*1,SV.a8 p)])]=_;rw[hp,mul_one]
theorem xA {p q:List UInt8} {k:Nat} (hq:q.length=k):rwF [p,q] 1=[(1,.isl 0 k 1 [(k,.a8 q)])]:=by
 show[(1,SV.isl 0 q.length 1 [(q.length*1,SV.a8 q)])]=_;rw[hq,mul_one]
@[irreducible] def aDE (o n:Nat):List UInt8:=kyB o++replicate (n/16*16) 0
theorem sS (o n:Nat):aDE o n=kyB o++replicate (n/16*16) 0:=by unfold aDE;rfl
theorem oy (o n:Nat):(aDE o n).length=n/16*16+32:=by rw[sS,zlA,zk,length_replicate];omega
theorem aET (o n:Nat):(aDE o n).take 32=kyB o:=by rw[sS];exact List.take_left' (zk o)
theorem aES {o n i:Nat} (h:32<=i):(aDE o n).getD i 0=0:=by
 rw[sS,List.getD_eq_getElem?_getD,List.getElem?_append_right (by rw[zk];exact h),List.getElem?_replicate];split <;>rfl
theorem aPF {o n m:Nat} (hm:n/16*16+32=m) {k:List UInt8} (hk:k=kyB o):aDE o n=take 0 (replicate m (0:UInt8))++take (min k.length m) k++drop (0+min k.length m) (replicate m 0):=by
 have hl:=zk o;subst hk;rw[hl,List.take_zero,List.nil_append,Nat.min_eq_left (by omega),Nat.zero_add,List.drop_replicate,List.take_of_length_le (by omega),sS];congr 2;omega
theorem aX0 {o:Nat}:take 32 (drop ((none:Option Nat).getD 0) (kyB o))=kyB o:=by
 rw[Option.getD_none,drop_zero,List.take_of_length_le (by rw[zk];exact le_refl _)]
theorem aRB (T:List Te) (N c:Nat) (hT:T.length=N) (hN:N<=60000) (hNc:N<=c) (hTv:∀x∈T,bP x.1 x.2) (p q:List UInt8) (hp:p.length<=1024) (hq:q.length<=1024) (T1:List Te) (o:Nat) (e1:(mx8 T p q).1=T1) (e2:(mx8 T p q).2=o):
  Sx.Fn Γ.P 31 [.ptr 1000 0 none,.i .i64 8,.slx 1003 0 0 2] (MT N c T 1001 2 [p,q])
  (λv M=>∃n' c',T1.length=n'/\n'<=c'/\v= .tup [.a8 (kyB o),.bool (o≠0)]/\M=(1001,.dead)::MT n' c' T1 1005 2 [p,q]):=by
 subst e1;subst e2;rw[aF0];refine abT T N c hT hN hNc hTv 8 [p,q] 2 rfl (by omega) (λx hx=>?_);rcases List.mem_cons.1 hx with rfl|hx
 .omega
 rw[List.mem_singleton.1 hx];omega
theorem aQ9 (T:List Te) (N c:Nat) (hT:T.length=N) (hN:N<=60000) (hNc:N<=c) (hTv:∀x∈T,bP x.1 x.2) (key plain:List UInt8) (n m:Nat) (hk:key.length=32) (hn:plain.length=n) (hn1:n<=1024) (hm:n/16*16+32=m) (T1:List Te) (o:Nat) (e1:(mx8 T key plain).1=T1) (e2:(mx8 T key plain).2=o):
  Sx.Fn Γ.P 14 [.agg [(1,.ptr 1000 0 none)],.a8 key,.isl 0 n 1 [(n,.a8 plain)]] (tbM N c T 1001)
  (λv M=>∃n' c',T1.length=n'/\n'<=c'/\v= .tup [.sl 1006 0 0 m m,.tt]/\M=(1001,.dead)::(1006,.mem true 0 [(m,.a8 (aDE o n))])::tbM n' c' T1 1005):=by
 have hM:=aRB T N c hT hN hNc hTv key plain (by omega) (by omega) T1 o e1 e2;have hone:o≠0:=by rw[<-e2];exact aTU T (by omega) (by omega)
 have hkl:=zk o;have hSz:=ab1 (n:Int);rw[mO (by omega) (by omega),show(n:Int)/16*16+32=(m:Int) by omega]at hSz;unfold MT at hM;unfold tbM;refine cV [4] (Γ:=Γ) (fn:=Tryz.f14) rfl rfl rfl rfl ?_;refine gB ?_;refine zB.i ?_ ?_<;>intro hc
 .have hc:(n:Int)>1024:=hc
  exact absurd hc (by omega)
 refine gB ?_;refine zB.i (λ_=>?_) (λhn=>absurd hn (by simp))
 refine Cut.i (σ:=Unit) (λ_=>True) (λ_=>([(2,.isl 0 n 1 [(n,.a8 plain)]),(3,.ptr 203 0 none),(4,.ptr 204 0 none)],[(203,.mem true 0 [(1,.ptr 1000 0 none)]),(204,.mem false 1 [(32,.a8 key)]),
  (1000,.mem true 0 [(1,.sl 1001 0 0 N c),(1,.mp 1002)]),(1001,.mem true (zmE (c-N) 3) [(N*3,.arr N 3 (ttF T))]),(1002,.map (.si (mpL T)))])) () trivial (Le.ghost [.keep 4] [] [(203,(3,0,none)),(204,(4,0,none))] rfl fc rfl rfl fc rfl fc rfl) ?_
 rintro - -;refine aH.i [[],[0],[],[],[2,3],r_5,r_6,r_7,r_7,[],[0,1,2,3,4,5,6,7,9],fe,[]] [0,1,2,3,4,9,5,6,7,8,10,11] (by kernel_rfl) ?_;refine⟨?_,?_⟩
 all_goals
  refine gB ?_;refine Call.name [(0,[]),(0,[]),(2001,[])] rfl fc (kW.i hM [(1000,(1000,0,none)),(1001,(1001,0,none)),(1002,(1002,0,none)),(1003,(2001,0,none)),(1005,(305,0,none))] rfl fc rfl ?_ rfl ?_)
  .repeat' first|exact trivial|refine zA.app ?_ ?_|refine zA.zd ?_ ?_|refine zA.cons ?_ ?_|exact fc|fail
   .exact xB hk
   exact xA hn
  rintro v M' ⟨n',c',hn',hnc',rfl,rfl⟩;refine gN ?_;refine gB ?_;have hn1:¬¬(o≠0):=λh=>h hone
  repeat(first|(refine zB.i (λ_=>?_) (λhn=>absurd rfl hn))|refine ky0 ?_|refine kn0 ?_|refine ky ?_|refine kn ?_|refine sd ?_)
  refine gB ?_;refine Call.pure hSz rfl fc ?_;rintro _ rfl;refine gB ?_;refine Ret.i (.tup [.sl 1006 0 0 m m,.tt]) ((1001,.dead)::(1006,.mem true 0 [(m,.a8 (aDE o n))])::tbM n' c' T1 1005) [(1005,(305,0,none)),(1006,(36,0,none))] rfl ?_ ⟨n',c',hn',hnc',rfl,rfl⟩ rfl ?_ rfl ?_ rfl
  .exact fc
  .exact fc
  repeat' first|exact trivial|refine zA.app ?_ ?_|refine zA.zd ?_ ?_|refine zA.cons ?_ ?_|exact fc|fail
  exact aPF hm aX0
def mk1 (T:List Te) (k:Int) (p:List UInt8):List Te×Nat:=mkT T (k,[p])
def mk2 (T:List Te) (k:Int) (p q:List UInt8):List Te×Nat:=mkT T (k,[p,q])
theorem rn (T:List Te) (k:Int) (p:List UInt8):mk1 T k p=mkT T (k,[p]):=rfl
theorem uv (T:List Te) (k:Int) (p q:List UInt8):mk2 T k p q=mkT T (k,[p,q]):=rfl
attribute [irreducible] mk1 mk2
theorem aT7 {p:List UInt8} (hp:p.length<=4096):wA [p]:=⟨by simp,λx hx=>by rw[List.mem_singleton.1 hx];exact hp⟩
theorem aGC {T:List Te} (h:∀x∈T,bP x.1 x.2) (k:Int) (p:List UInt8):∀x∈(mk1 T k p).1,bP x.1 x.2:=by rw[rn];exact uu h
theorem aGB {T:List Te} (h:∀x∈T,bP x.1 x.2) (k:Int) (p q:List UInt8):∀x∈(mk2 T k p q).1,bP x.1 x.2:=by rw[uv];exact uu h
theorem aQN (T:List Te) (k:Int) (p:List UInt8):T.length<=(mk1 T k p).1.length/\(mk1 T k p).1.length<=T.length+1:=by rw[rn];exact aGA T _
theorem aQL (T:List Te) (k:Int) (p q:List UInt8):T.length<=(mk2 T k p q).1.length/\(mk2 T k p q).1.length<=T.length+1:=by rw[uv];exact aGA T _
theorem aSX {p:List UInt8} {k:Nat} (hp:p.length=k):rwF [p] 0=[(1,.isl 0 k 1 [(k,.a8 p)])]:=by
 show[(1,SV.isl 0 p.length 1 [(p.length*1,SV.a8 p)])]=_;rw[hp,mul_one]
theorem aYJ (T:List Te) (N c:Nat) (hT:T.length=N) (hN:N<=60000) (hNc:N<=c) (hTv:∀x∈T,bP x.1 x.2) (k:Int) (L:List (List UInt8)) (m:Nat) (hL:L.length=m) (hm:m<=64) (hLs:∀x∈L,x.length<=4096) (T1:List Te) (o:Nat) (e1:(mkT T (k,L)).1=T1) (e2:(mkT T (k,L)).2=o):
  Sx.Fn Γ.P 21 [.agg [(1,.ptr 1000 0 none)],.i .i64 k,.slx 1003 0 0 m] (MT N c T 1001 m L)
  (λv M=>∃n' c',T1.length=n'/\n'<=c'/\v= .a8 (kyB o)/\M=(1001,.dead)::MT n' c' T1 1005 m L):=by
 have hM:=abT T N c hT hN hNc hTv k L m hL (by omega) (λx hx=>by have:=hLs x hx;omega);rw[e1,e2]at hM;have hkl:=zk o;unfold MT rwS at hM;unfold MT rwS;refine aG (Γ:=Γ) (fn:=Tryz.f21) rfl rfl rfl rfl ?_;refine gB ?_;refine Call.i hM [(1000,(1000,0,none)),(1001,(1001,0,none)),(1002,(1002,0,none)),(1003,(1003,0,none)),(1005,(305,0,none))] rfl fc rfl fc rfl ?_;rintro v M' ⟨n',c',hn',hnc',rfl,rfl⟩;refine gN ?_;refine gB ?_;refine Ret.i (.a8 (kyB o)) ((1001,.dead)::MT n' c' T1 1005 m L) [(1005,(305,0,none))] rfl fc ⟨n',c',hn',hnc',rfl,rfl⟩ rfl fc rfl fc rfl
def dbl (b:UInt8):UInt8:=if b.toNat<128 then qh b 1 else qh b 1^^^27
theorem aU3 (b:UInt8):Sx.Fn Γ.P 116 [.u8 b] [] (λv _=>v= .u8 (dbl b)):=by
 refine aG (Γ:=Γ) (fn:=Tryz.f116) rfl rfl rfl rfl ?_;refine zB.i ?_ ?_<;>intro h
 .refine Ret.i (.u8 (dbl b)) [] [] rfl trivial rfl rfl ?_ rfl trivial rfl
  show dbl b=qh b 1;exact if_pos h
 refine Ret.i (.u8 (dbl b)) [] [] rfl trivial rfl rfl ?_ rfl trivial rfl;show dbl b=qh b 1^^^27;exact if_neg h
def tms:Nat->UInt8->UInt8->UInt8->UInt8
 |0,_,_,p=>p
 |n+1,a,b,p=>tms n (dbl a) (mD b 1) (if b&&&1=1 then p^^^a else p)
theorem yh:∀(n:Nat) (a p:UInt8),tms n a 0 p=p
 |0,_,_=>rfl
 |n+1,a,p=>by
  show tms n (dbl a) 0 p=p;exact yh n _ _
theorem yr (b:UInt8):(mD b 1).toNat=b.toNat/2:=by
 have:=b.toNat_lt;unfold mD;rw[toNat_ofNat',Nat.shiftRight_eq_div_pow];omega
def aL (a b:UInt8):UInt8:=tms 8 a b 0
theorem aYL (a b:UInt8):Sx.Fn Γ.P 137 [.u8 a,.u8 b] [] (λv _=>v= .u8 (aL a b)):=by
 refine aG (Γ:=Γ) (fn:=Tryz.f137) rfl rfl rfl rfl ?_
 refine aY.i (σ:=UInt8×UInt8×UInt8) (λs=>∃n,s.2.1.toNat<2^n/\tms n s.1 s.2.1 s.2.2=tms 8 a b 0)
  (λs=>([(0,.u8 s.1),(1,.u8 s.2.1),(5,.u8 s.2.2)],[])) (λs=>s.2.1.toNat) (a,b,0) ?_ ?_ ?_
 .exact⟨8,b.toNat_lt,rfl⟩
 .exact Le.i [] rfl ⟨rfl,rfl,rfl⟩ rfl trivial rfl
 rintro⟨x,y,z⟩ ⟨n,hn,ht⟩;have step:0<y.toNat->∃n,(mD y 1).toNat<2^n/\tms n (dbl x) (mD y 1) (if y&&&1=1 then z^^^x else z)=tms 8 a b 0:=by
  intro h
  match n,hn,ht with
  |0,hn,_=>exact absurd hn (by simp only[Nat.pow_zero];omega)
  |n+1,hn,ht=>
   refine⟨n,?_,ht⟩;rw[yr];have:y.toNat<2^(n+1):=hn;rw[Nat.pow_succ]at this;omega
 have less:0<y.toNat->(mD y 1).toNat<y.toNat:=λh=>by rw[yr];omega
 refine zB.i ?_ ?_<;>intro h
 .refine zB.i ?_ ?_<;>intro h2
  .refine Call.pure (aU3 x) rfl rfl ?_
   rintro _ rfl;have st:=step h;rw[if_pos (show y&&&1=1 from h2)]at st;exact⟨(dbl x,mD y 1,z^^^x),st,less h,Le.i [] rfl ⟨rfl,rfl,rfl⟩ rfl trivial rfl⟩
  refine Call.pure (aU3 x) rfl rfl ?_;rintro _ rfl;have st:=step h;rw[if_neg (show¬(y&&&1=1)from h2)]at st;exact⟨(dbl x,mD y 1,z),st,less h,Le.i [] rfl ⟨rfl,rfl,rfl⟩ rfl trivial rfl⟩
 have hy:y=0:=UInt8.toNat_inj.1 (by
  have h:¬(0<y.toNat):=h;show y.toNat=0;omega)
 subst hy;have ht:tms n x 0 z=tms 8 a b 0:=ht;rw[yh]at ht;refine Ret.i (.u8 z) [] [] rfl trivial ?_ rfl rfl rfl trivial rfl;rw[ht];rfl
def dX (k:List UInt8):Nat->List UInt8->List UInt8
 |0,b=>b
 |n+1,b=>(dX k n b).set n ((dX k n b).getD n 0^^^k.getD n 0)
theorem bL (k:List UInt8):∀(n:Nat) (b:List UInt8),(dX k n b).length=b.length
 |0,_=>rfl
 |n+1,b=>by simp only[dX,length_set,bL k n b]
theorem aL6 (b k:List UInt8) (hb:b.length=16) (hk:k.length=16):Sx.Fn Γ.P 117 [.a8 b,.a8 k] [] (λv _=>v= .a8 (dX k 16 b)):=by
 have hl:∀n,(dX k n b).length=16:=λn=>by rw[bL,hb]
 refine aG (Γ:=Γ) (fn:=Tryz.f117) rfl rfl rfl rfl ?_;refine fg.i ⟨hk,hb⟩ ?_
 refine aY.i (σ:=Nat) (λi=>i<=16)
  (λi=>([(2,.ptr 2 0 none),(3,.ptr 3 0 none),(4,.ptr 4 0 none),(6,.i .i64 i)],
   [(2,.mem true 0 [(16,.a8 (dX k i b))]),(3,.mem true 0 [(16,.a8 k)]),(4,.mem true 0 [(16,.a8 (replicate 16 0))])])) (λi=>16-i) 0 (zero_le _) ?_ ?_
 .exact Le.i [] rfl rfl rfl ⟨rfl,rfl,rfl,rfl,rfl,rfl,rfl,rfl,rfl⟩ rfl
 intro i hi;refine zB.i ?_ ?_<;>intro h
 .refine aH.i [[],[0],[0,1],[],[3],[3,4],r_6,r_7,r_8] r_9 (by kernel_rfl) ?_
  refine fg.i ⟨by omega,Int.natCast_nonneg _⟩ ?_;refine fg.i (show(i:Int).toNat<16 by omega) ?_;refine fg.i ⟨by omega,Int.natCast_nonneg _⟩ ?_;refine fg.i (show(i:Int).toNat<16 by omega) ?_;refine fg.i ⟨by omega,Int.natCast_nonneg _⟩ ?_;refine fg.i (show(i:Int).toNat<16 by omega) ?_;refine fg.i (show rng .i64 ((i:Int)+1) by unfold rng;exact⟨by omega,by omega⟩) ?_;refine⟨i+1,by omega,by omega,Le.i [] rfl rfl rfl ⟨rfl,rfl,?_,rfl,rfl,rfl,rfl,rfl,rfl⟩ rfl⟩;rw[zIn];rfl
 have hi:i=16:=by omega
 subst hi;refine fg.i (hl 16) ?_;exact Ret.i (.a8 (dX k 16 b)) [] [] rfl trivial rfl rfl rfl rfl trivial rfl
def aSB (b m:List UInt8) (i:Nat) (out:List UInt8):Nat->List UInt8
 |0=>out
 |k+1=>(aSB b m i out k).set i ((aSB b m i out k).getD i 0^^^aL (b.getD (i/4*4+(i+k)%4) 0) (m.getD k 0))
def xV (b m:List UInt8):Nat->List UInt8
 |0=>replicate 16 0
 |i+1=>aSB b m i (xV b m i) 4
theorem pj (b m:List UInt8) (i:Nat) (out:List UInt8):∀k,(aSB b m i out k).length=out.length
 |0=>rfl
 |k+1=>by simp only[aSB,length_set,pj b m i out k]
theorem dQ (b m:List UInt8):∀i,(xV b m i).length=16
 |0=>rfl
 |i+1=>by simp only[xV,pj,dQ b m i]
theorem aUX (b m:List UInt8) (hb:b.length=16) (hm:m.length=4):Sx.Fn Γ.P 118 [.a8 b,.a8 m] [] (λv _=>v= .a8 (xV b m 16)):=by
 refine aG (Γ:=Γ) (fn:=Tryz.f118) rfl rfl rfl rfl ?_;refine sd ?_
 refine aY.i (σ:=Nat) (λi=>i<=16)
  (λi=>([(2,.ptr 2 0 none),(3,.ptr 3 0 none),(4,.ptr 4 0 none),(5,.ptr 5 0 none),(8,.i .i64 i)],
   [(2,.mem true 0 [(16,.a8 b)]),(3,.mem true 0 [(4,.a8 m)]),(4,.mem true 0 [(16,.a8 (replicate 16 0))]),(5,.mem true 0 [(16,.a8 (xV b m i))])])) (λi=>16-i) 0 (zero_le _) ?_ ?_
 .exact Le.i [] rfl fc rfl fc rfl
 intro i hi;refine zB.i ?_ ?_<;>intro h
 .refine aY.i (σ:=Nat) (λk=>k<=4)
   (λk=>([(2,.ptr 2 0 none),(3,.ptr 3 0 none),(4,.ptr 4 0 none),(5,.ptr 5 0 none),(8,.i .i64 i),(6,.i .i64 i),(11,.i .i64 k)],
    [(2,.mem true 0 [(16,.a8 b)]),(3,.mem true 0 [(4,.a8 m)]),(4,.mem true 0 [(16,.a8 (replicate 16 0))]),(5,.mem true 0 [(16,.a8 (aSB b m i (xV b m i) k))])])) (λi=>4-i) 0 (zero_le _) ?_ ?_
  .exact Le.i [] rfl fc rfl fc rfl
  intro k hk;refine zB.i (λh'=>?_) (λh'=>?_)
  .refine aH.i [[],[0],[0,1],[],[3],[3,4],[],[],[6,7],[6,7,8],[3,4,5,6,7,8,9],[3,4,5,6,7,8,9,10],[3,4,5,6,7,8,9,10,11],[],[13],[13,14],[3,4,5,6,7,8,9,10,11,12,13,14,15],wG,aBU,uf] aJG (by kernel_rfl) ?_
   refine gB ?_;refine Call.pure (aYL (b.getD (i/4*4+(i+k)%4) 0) (m.getD k 0)) rfl ?_ ?_
   .refine⟨?_,?_⟩
    .show b.getD (i/4*4+(i+k)%4) 0=b.getD ((i:Int)/4*4+((i:Int)+k)%4).toNat 0
     congr 1
    show m.getD k 0=m.getD (k:Int).toNat 0;rfl
   rintro _ rfl;refine cL.i [] rfl rfl ?_;refine gB ?_;exact⟨k+1,by omega,by omega,Le.i [] rfl fc rfl fc rfl⟩
  have:k=4:=by omega
  subst this;refine sd ?_;exact⟨i+1,by omega,by omega,Le.i [] rfl fc rfl fc rfl⟩
 have:i=16:=by omega
 subst this;have:=dQ b m 16;refine sd ?_;exact Ret.i (.a8 (xV b m 16)) [] [] rfl trivial rfl rfl rfl rfl trivial rfl
def cK (s bk ks:List UInt8):Ent:=.mem false 0 [(256,.a8 s),(256,.a8 bk),(240,.a8 ks)]
def fA (ks:List UInt8) (r:Nat):List UInt8:=(ks.drop (16*r)).take 16
def wE (s b:List UInt8):Nat->List UInt8
 |0=>replicate 16 0
 |i+1=>(wE s b i).set i (s.getD (b.getD ((i+i%4*4)%16) 0).toNat 0)
def kj (s ks:List UInt8) (r:Nat) (b:List UInt8):List UInt8:=
 dX (fA ks r) 16 (if r<14 then xV (wE s b 16) [2,3,1,1] 16 else wE s b 16)
def bQ (s ks b:List UInt8):Nat->List UInt8
 |0=>dX (fA ks 0) 16 b
 |n+1=>kj s ks (n+1) (bQ s ks b n)
theorem fN (s b:List UInt8):∀i,(wE s b i).length=16
 |0=>rfl
 |i+1=>by simp only[wE,length_set,fN s b i]
theorem be {ks:List UInt8} (h:ks.length=240) {r:Nat} (hr:r<=14):(fA ks r).length=16:=by
 simp only[fA,zlT,zlD];omega
theorem sZ (s ks:List UInt8) (r:Nat) (b:List UInt8):(kj s ks r b).length=16:=by
 unfold kj;rw[bL];split
 .exact dQ _ _ _
 exact fN _ _ _
theorem iJ (s ks:List UInt8) {b:List UInt8} (hb:b.length=16):∀n,(bQ s ks b n).length=16
 |0=>by simp only[bQ,bL,hb]
 |n+1=>sZ _ _ _ _
theorem acM (s bk ks b:List UInt8) (hs:s.length=256) (hbk:bk.length=256) (hk:ks.length=240) (hb:b.length=16):
  Sx.Fn Γ.P 70 [.ptr 1000 0 none,.a8 b] [(1000,cK s bk ks)] (λv M=>v= .a8 (bQ s ks b 14)/\M=[(1000,cK s bk ks)]):=by
 refine aG (Γ:=Γ) (fn:=Tryz.f70) rfl rfl rfl rfl ?_;refine sd ?_;refine aH.i [[],[],[1],[1,2],[1,2,3],[1,2,3,4],r_6,[],r_8] [0,1,2,3,4,5,7,6,8] (by kernel_rfl) ?_;refine Call.pure (aL6 b (fA ks 0) hb (be hk (by omega))) rfl fc ?_;rintro _ rfl;refine cL.i [] rfl rfl ?_;have hl:=iJ s ks hb;have h0:(dX (fA ks 0) 16 b).length=16:=hl 0;refine gB ?_
 refine aY.i (σ:=Nat) (λn=>n<=14)
  (λn=>([(0,.ptr 1000 0 none),(3,.ptr 3 0 none),(4,.ptr 4 0 none),(5,.ptr 5 0 none),(6,.i .i64 ((n:Int)+1))],
   [(1000,cK s bk ks),(3,.mem true 0 [(16,.a8 b)]),(4,.mem true 0 [(16,.a8 (replicate 16 0))]),(5,.mem true 0 [(16,.a8 (bQ s ks b n))])])) (λn=>14-n) 0 (zero_le _) ?_ ?_
 .exact Le.i [] rfl fc rfl fc rfl
 intro n hn;refine zB.i ?_ ?_<;>intro h
 .refine aY.i (σ:=Nat) (λi=>i<=16)
   (λi=>([(0,.ptr 1000 0 none),(3,.ptr 3 0 none),(4,.ptr 4 0 none),(5,.ptr 5 0 none),(6,.i .i64 ((n:Int)+1)),(7,.ptr 7 0 none),(20,.i .i64 i)],
   [(1000,cK s bk ks),(3,.mem true 0 [(16,.a8 b)]),(4,.mem true 0 [(16,.a8 (replicate 16 0))]),(5,.mem true 0 [(16,.a8 (bQ s ks b n))]),(7,.mem true 0 [(16,.a8 (wE s (bQ s ks b n) i))])])) (λi=>16-i) 0 (zero_le _) ?_ ?_
  .exact Le.i [] rfl fc rfl fc rfl
  intro i hi;refine zB.i (λh'=>?_) (λh'=>?_)
  .refine aH.i [[],[],[],[],[3],[3,4],[2,3,4,5],[2,3,4,5,6],[2,3,4,5,6,7],[2,3,4,5,6,7,8],[1],[1,10],[1,2,3,4,5,6,7,8,9,10,11],[1,2,3,4,5,6,7,8,9,10,11,12],oB,nw] na (by kernel_rfl) ?_
   refine gB ?_;have hv:wE s (bQ s ks b n) (i+1)=(wE s (bQ s ks b n) i).set (i:Int).toNat (s.getD ((bQ s ks b n).getD (((i:Int)+(i:Int)%4*4)%16).toNat 0).toNat 0):=by
    rw[show(((i:Int)+(i:Int)%4*4)%16).toNat=(i+i%4*4)%16 by omega];rfl
   exact⟨i+1,by omega,by omega,Le.i [] rfl fc rfl fc rfl⟩
  have:i=16:=by omega
  subst this;have hkey:fA ks (n+1)=(ks.drop (((n:Int)+1).toNat*16)).take 16:=by
   rw[show((n:Int)+1).toNat*16=16*(n+1) by omega];rfl
  have hround:∀t,bQ s ks b (n+1)=dX (fA ks (n+1)) 16 t->(dX (fA ks (n+1)) 16 t).length=16:=λt e=>by rw[<-e];exact hl _
  refine zB.i ?_ ?_<;>intro h2
  .refine gB ?_
   refine Call.pure (aUX (wE s (bQ s ks b n) 16) [2,3,1,1] (fN _ _ _) rfl) rfl fc ?_;rintro _ rfl;have hm:=dQ (wE s (bQ s ks b n) 16) [2,3,1,1] 16;have hstep:bQ s ks b (n+1)=dX (fA ks (n+1)) 16 (xV (wE s (bQ s ks b n) 16) [2,3,1,1] 16):=by
    show kj _ _ _ _=_;unfold kj;rw[if_pos (by omega)]
   have hlen:=hround _ hstep;refine gB ?_;refine aH.i [[],[],[],[1],[1,3],[1,2,3,4],[1,2,3,4,5],r_7,r_8] r_9 (by kernel_rfl) ?_;refine gB ?_;refine Call.pure (aL6 (xV (wE s (bQ s ks b n) 16) [2,3,1,1] 16) (fA ks (n+1)) hm (be hk (by omega))) rfl fc ?_;rintro _ rfl;refine gB ?_;exact⟨n+1,by omega,by omega,Le.i [] rfl fc rfl fc rfl⟩
  have hm:=fN s (bQ s ks b n) 16;have hstep:bQ s ks b (n+1)=dX (fA ks (n+1)) 16 (wE s (bQ s ks b n) 16):=by
   show kj _ _ _ _=_;unfold kj;rw[if_neg (by omega)]
  have hlen:=hround _ hstep;refine aH.i [[],[],[],[1],[1,3],[1,2,3,4],[1,2,3,4,5],r_7,r_8] r_9 (by kernel_rfl) ?_;refine gB ?_;refine Call.pure (aL6 (wE s (bQ s ks b n) 16) (fA ks (n+1)) hm (be hk (by omega))) rfl fc ?_;rintro _ rfl;refine gB ?_;exact⟨n+1,by omega,by omega,Le.i [] rfl fc rfl fc rfl⟩
 have:n=14:=by omega
 subst this;have hl14:=hl 14;refine gB ?_;exact Ret.i (.a8 (bQ s ks b 14)) [(1000,cK s bk ks)] [] rfl trivial ⟨rfl,rfl⟩ rfl rfl rfl fc rfl
def jq (bk b:List UInt8):Nat->List UInt8
 |0=>replicate 16 0
 |i+1=>(jq bk b i).set ((i+i%4*4)%16) (bk.getD (b.getD i 0).toNat 0)
def fM (ks:List UInt8) (r:Nat) (b:List UInt8):List UInt8:=
 if r<14 then xV (dX (fA ks r) 16 b) [14,11,13,9] 16 else dX (fA ks r) 16 b
def js (bk ks b:List UInt8):Nat->List UInt8
 |0=>b
 |n+1=>jq bk (fM ks (14-n) (js bk ks b n)) 16
def jr (bk ks b:List UInt8):List UInt8:=dX (fA ks 0) 16 (js bk ks b 14)
theorem fk (bk b:List UInt8):∀i,(jq bk b i).length=16
 |0=>rfl
 |i+1=>by simp only[jq,length_set,fk bk b i]
theorem uB (ks:List UInt8) (r:Nat) {b:List UInt8} (hb:b.length=16):(fM ks r b).length=16:=by
 unfold fM;split
 .exact dQ _ _ _
 rw[bL,hb]
theorem oa (bk ks:List UInt8) {b:List UInt8} (hb:b.length=16):∀n,(js bk ks b n).length=16
 |0=>hb
 |n+1=>fk _ _ _
theorem aUS (s bk ks b:List UInt8) (hk:ks.length=240) (hb:b.length=16):
  Sx.Fn Γ.P 75 [.ptr 1000 0 none,.a8 b] [(1000,cK s bk ks)] (λv M=>v= .a8 (jr bk ks b)/\M=[(1000,cK s bk ks)]):=by
 refine aG (Γ:=Γ) (fn:=Tryz.f75) rfl rfl rfl rfl ?_;refine gB ?_;have hl:=oa bk ks hb
 refine aY.i (σ:=Nat) (λn=>n<=14)
  (λn=>([(0,.ptr 1000 0 none),(3,.ptr 3 0 none),(4,.ptr 4 0 none),(5,.ptr 5 0 none),(6,.i .i64 (14-(n:Int)))],
   [(1000,cK s bk ks),(3,.mem true 0 [(16,.a8 b)]),(4,.mem true 0 [(16,.a8 (replicate 16 0))]),(5,.mem true 0 [(16,.a8 (js bk ks b n))])])) (λn=>14-n) 0 (zero_le _) ?_ ?_
 .exact Le.i [] rfl fc rfl fc rfl
 intro n hn;have hln:=hl n;refine zB.i ?_ ?_<;>intro h
 .refine aH.i [[],[],[],[1],[1,3],[1,2,3,4],[1,2,3,4,5],r_7,r_8] r_9 (by kernel_rfl) ?_
  refine gB ?_;have hkey:fA ks (14-n)=(ks.drop ((14-(n:Int)).toNat*16)).take 16:=by
   rw[show(14-(n:Int)).toNat*16=16*(14-n) by omega];rfl
  refine Call.pure (aL6 (js bk ks b n) (fA ks (14-n)) hln (be hk (by omega))) rfl fc ?_;rintro _ rfl;have ha:(dX (fA ks (14-n)) 16 (js bk ks b n)).length=16:=by rw[bL,hln]
  refine gB ?_;have hum:=uB ks (14-n) hln;refine zB.i ?_ ?_<;>intro h2
  .refine gB ?_
   refine Call.pure (aUX (dX (fA ks (14-n)) 16 (js bk ks b n)) [14,11,13,9] ha rfl) rfl fc ?_;rintro _ rfl;have hx:xV (dX (fA ks (14-n)) 16 (js bk ks b n)) [14,11,13,9] 16=fM ks (14-n) (js bk ks b n):=by
    unfold fM;rw[if_pos (by omega)]
   rw[hx];refine gB ?_
   refine aY.i (σ:=Nat) (λi=>i<=16)
    (λi=>([(0,.ptr 1000 0 none),(3,.ptr 3 0 none),(4,.ptr 4 0 none),(5,.ptr 5 0 none),(6,.i .i64 (14-(n:Int))),(7,.ptr 7 0 none),(27,.i .i64 i)],
    [(1000,cK s bk ks),(3,.mem true 0 [(16,.a8 b)]),(4,.mem true 0 [(16,.a8 (replicate 16 0))]),(5,.mem true 0 [(16,.a8 (fM ks (14-n) (js bk ks b n)))]),(7,.mem true 0 [(16,.a8 (jq bk (fM ks (14-n) (js bk ks b n)) i))])])) (λi=>16-i) 0 (zero_le _) ?_ ?_
   .exact Le.i [] rfl fc rfl fc rfl
   intro i hi;refine zB.i (λh'=>?_) (λh'=>?_)
   .refine aH.i [[],[],[1],[1,2],r_4,r_5,[],[],[7],[7,8],[6],[6,10],[6,7,8,9,10,11],[6,7,8,9,10,11,12],oB,nw] na (by kernel_rfl) ?_
    refine gB ?_;have hv:jq bk (fM ks (14-n) (js bk ks b n)) (i+1)=(jq bk (fM ks (14-n) (js bk ks b n)) i).set (((i:Int)+(i:Int)%4*4)%16).toNat (bk.getD ((fM ks (14-n) (js bk ks b n)).getD (i:Int).toNat 0).toNat 0):=by
     rw[show(((i:Int)+(i:Int)%4*4)%16).toNat=(i+i%4*4)%16 by omega];rfl
    exact⟨i+1,by omega,by omega,Le.i [] rfl fc rfl fc rfl⟩
   have:i=16:=by omega
   subst this;have hu:=fk bk (fM ks (14-n) (js bk ks b n)) 16;refine gB ?_;have hst:js bk ks b (n+1)=jq bk (fM ks (14-n) (js bk ks b n)) 16:=rfl;exact⟨n+1,by omega,by omega,Le.i [] rfl fc rfl fc rfl⟩
  have hx:dX (fA ks (14-n)) 16 (js bk ks b n)=fM ks (14-n) (js bk ks b n):=by
   unfold fM;rw[if_neg (by omega)]
  rw[hx]
  refine aY.i (σ:=Nat) (λi=>i<=16)
   (λi=>([(0,.ptr 1000 0 none),(3,.ptr 3 0 none),(4,.ptr 4 0 none),(5,.ptr 5 0 none),(6,.i .i64 (14-(n:Int))),(7,.ptr 7 0 none),(27,.i .i64 i)],
   [(1000,cK s bk ks),(3,.mem true 0 [(16,.a8 b)]),(4,.mem true 0 [(16,.a8 (replicate 16 0))]),(5,.mem true 0 [(16,.a8 (fM ks (14-n) (js bk ks b n)))]),(7,.mem true 0 [(16,.a8 (jq bk (fM ks (14-n) (js bk ks b n)) i))])])) (λi=>16-i) 0 (zero_le _) ?_ ?_
  .exact Le.i [] rfl fc rfl fc rfl
  intro i hi;refine zB.i (λh'=>?_) (λh'=>?_)
  .refine aH.i [[],[],[1],[1,2],r_4,r_5,[],[],[7],[7,8],[6],[6,10],[6,7,8,9,10,11],[6,7,8,9,10,11,12],oB,nw] na (by kernel_rfl) ?_
   refine gB ?_;have hv:jq bk (fM ks (14-n) (js bk ks b n)) (i+1)=(jq bk (fM ks (14-n) (js bk ks b n)) i).set (((i:Int)+(i:Int)%4*4)%16).toNat (bk.getD ((fM ks (14-n) (js bk ks b n)).getD (i:Int).toNat 0).toNat 0):=by
    rw[show(((i:Int)+(i:Int)%4*4)%16).toNat=(i+i%4*4)%16 by omega];rfl
   exact⟨i+1,by omega,by omega,Le.i [] rfl fc rfl fc rfl⟩
  have:i=16:=by omega
  subst this;have hu:=fk bk (fM ks (14-n) (js bk ks b n)) 16;refine gB ?_;have hst:js bk ks b (n+1)=jq bk (fM ks (14-n) (js bk ks b n)) 16:=rfl;exact⟨n+1,by omega,by omega,Le.i [] rfl fc rfl fc rfl⟩
 have:n=14:=by omega
 subst this;refine aH.i [[],[],[1],[1,2],[1,2,3],[1,2,3,4],r_6,r_7] r_8 (by kernel_rfl) ?_;refine gB ?_;refine Call.pure (aL6 (js bk ks b 14) (fA ks 0) (hl 14) (be hk (by omega))) rfl fc ?_;rintro _ rfl;have ha:(dX (fA ks 0) 16 (js bk ks b 14)).length=16:=by rw[bL,hl 14]
 refine gB ?_;exact Ret.i (.a8 (jr bk ks b)) [(1000,cK s bk ks)] [] rfl trivial ⟨rfl,rfl⟩ rfl rfl rfl fc rfl
def aR9 (x:UInt8) (k:Nat):UInt8:=qh x k|||mD x (8-k)
theorem aYM (x:UInt8) (k:Nat) (hk:k<8):Sx.Fn Γ.P 136 [.u8 x,.i .i64 k] [] (λv _=>v= .u8 (aR9 x k)):=by
 refine aG (Γ:=Γ) (fn:=Tryz.f136) rfl rfl rfl rfl ?_;refine Ret.i (.u8 (aR9 x k)) [] [] rfl trivial rfl rfl ?_ rfl trivial rfl;have:k=0\/k=1\/k=2\/k=3\/k=4\/k=5\/k=6\/k=7:=by omega
 rcases this with rfl|rfl|rfl|rfl|rfl|rfl|rfl|rfl
 all_goals rfl
theorem aNK (i:Nat):ofInt (i:Int)=ofNat i:=by
 apply UInt8.toNat_inj.1;simp[ofInt]
 try omega
def aaX (q:UInt8):UInt8:=q^^^aR9 q 1^^^aR9 q 2^^^aR9 q 3^^^aR9 q 4^^^99
def kc:Nat->UInt8×UInt8×List UInt8
 |0=>(1,1,replicate 256 0)
 |n+1=>let s:=kc n;(s.1^^^dbl s.1,aL s.2.1 246,s.2.2.set s.1.toNat (aaX s.2.1))
def tabS:List UInt8:=(kc 255).2.2.set 0 99
def qZ:Nat->List UInt8
 |0=>replicate 256 0
 |i+1=>(qZ i).set (tabS.getD i 0).toNat (ofNat i)
def tabB:List UInt8:=qZ 256
theorem nS:∀n,(kc n).2.2.length=256
 |0=>length_replicate
 |n+1=>by simp only[kc,length_set,nS n]
theorem oh:tabS.length=256:=by unfold tabS;rw[length_set,nS]
theorem lk:∀n,(qZ n).length=256
 |0=>length_replicate
 |n+1=>by simp only[qZ,length_set,lk n]
def bi (s bk ks:List UInt8):Ent:=.mem true 0 [(256,.a8 s),(256,.a8 bk),(240,.a8 ks)]
theorem aYQ (ks:List UInt8):Sx.Fn Γ.P 115 [.ptr 1000 0 none] [(1000,bi (replicate 256 0) (replicate 256 0) ks)]
  (λv M=>v= .tup []/\M=[(1000,bi tabS tabB ks)]):=by
 refine aG (Γ:=Γ) (fn:=Tryz.f115) rfl rfl rfl rfl ?_
 refine aY.i (σ:=Nat) (λn=>n<=255)
  (λn=>([(0,.ptr 1000 0 none),(2,.u8 (kc n).1),(3,.u8 (kc n).2.1),(6,.i .i64 n)],[(1000,bi (kc n).2.2 (replicate 256 0) ks)])) (λn=>255-n) 0 (zero_le _) ?_ ?_
 .exact Le.i [] rfl fc rfl fc rfl
 intro n hn;refine zB.i ?_ ?_<;>intro h
 .refine aH.i [[],[],[],[],[3],[2,3,4],[],[3,4,6],[2,3,4,5,6,7],[],[3,4,6,7,9],[2,3,4,5,6,7,8,9,10],[],[3,4,6,7,9,10,12],[2,3,4,5,6,7,8,9,10,11,12,13],[2,3,4,5,6,7,8,9,10,11,12,13,14],[0],[0,16],aBU,uf] [0,1,2,3,6,9,12,16,17,4,5,7,8,10,11,13,14,15,18,19] (by kernel_rfl) ?_
  refine Call.pure (aYM (kc n).2.1 1 (by omega)) rfl fc ?_;rintro _ rfl;refine cL.i [] rfl rfl ?_;refine Call.pure (aYM (kc n).2.1 2 (by omega)) rfl fc ?_;rintro _ rfl;refine cL.i [] rfl rfl ?_;refine Call.pure (aYM (kc n).2.1 3 (by omega)) rfl fc ?_;rintro _ rfl;refine cL.i [] rfl rfl ?_;refine Call.pure (aYM (kc n).2.1 4 (by omega)) rfl fc ?_;rintro _ rfl;refine cL.i [] rfl rfl ?_;refine gB ?_;refine Call.pure (aU3 (kc n).1) rfl fc ?_;rintro _ rfl;refine Call.pure (aYL (kc n).2.1 246) rfl fc ?_;rintro _ rfl;refine gB ?_;exact⟨n+1,by omega,by omega,Le.i [] rfl fc rfl fc rfl⟩
 have:n=255:=by omega
 subst this;have htab:tabS=(kc 255).2.2.set 0 (ofNat 99):=rfl
 refine aY.i (σ:=Nat) (λi=>i<=256)
  (λi=>([(0,.ptr 1000 0 none),(41,.a8 tabS),(42,.i .i64 i)],[(1000,bi tabS (qZ i) ks)])) (λi=>256-i) 0 (zero_le _) ?_ ?_
 .exact Le.i [] rfl fc rfl fc rfl
 intro i hi;have hts:=oh;refine zB.i ?_ ?_<;>intro h
 .refine gB ?_
  have hv:qZ (i+1)=(qZ i).set (tabS.getD (i:Int).toNat 0).toNat (ofInt (i:Int)):=by rw[aNK];rfl
  exact⟨i+1,by omega,by omega,Le.i [] rfl fc rfl fc rfl⟩
 have:i=256:=by omega
 subst this;exact Ret.i (.tup []) [(1000,bi tabS tabB ks)] [] rfl trivial ⟨rfl,rfl⟩ rfl trivial rfl fc rfl
def aM2 (x:UInt8):UInt8:=tabS.getD x.toNat 0
def dH (w:List UInt8) (i:Nat):List UInt8:=(w.drop (4*i)).take 4
def tOf (i:Nat) (t:List UInt8) (rnd:UInt8):List UInt8:=
 if i%8=0 then[aM2 (t.getD 1 0)^^^rnd,aM2 (t.getD 2 0),aM2 (t.getD 3 0),aM2 (t.getD 0 0)]
 else if i%8=4 then[aM2 (t.getD 0 0),aM2 (t.getD 1 0),aM2 (t.getD 2 0),aM2 (t.getD 3 0)]else t
def wK (i:Nat) (t w:List UInt8):Nat->List UInt8
 |0=>w
 |k+1=>(wK i t w k).set (4*i+k) ((wK i t w k).getD (4*(i-8)+k) 0^^^t.getD k 0)
def wGo (key:List UInt8):Nat->List UInt8×UInt8
 |0=>(replicate 240 0,1)
 |i+1=>let s:=wGo key i
  if i<8 then(s.1.take (4*i)++(key.drop (4*i)).take 4++s.1.drop (4*i+4),s.2)
  else(wK i (tOf i (dH s.1 (i-1)) s.2) s.1 4,if i%8=0 then dbl s.2 else s.2)
def aKM (w:List UInt8):Nat->List UInt8
 |0=>replicate 240 0
 |i+1=>(aKM w i).take (4*i)++dH w i++(aKM w i).drop (4*i+4)
def d0 (key:List UInt8):List UInt8:=aKM (wGo key 60).1 60
theorem t9 (i:Nat) (t w:List UInt8):∀k,(wK i t w k).length=w.length
 |0=>rfl
 |k+1=>by simp only[wK,length_set,t9 i t w k]
theorem gM {key:List UInt8} (hk:key.length=32):∀i,i<=60->(wGo key i).1.length=240
 |0,_=>length_replicate
 |i+1,h=>by
  have ih:=gM hk i (by omega);simp only[wGo];split
  .simp only[zlA,zlT,zlD,ih,hk];omega
  rw[t9,ih]
theorem jx {w:List UInt8} (hw:w.length=240):∀j,j<=60->(aKM w j).length=240
 |0,_=>length_replicate
 |j+1,h=>by
  have ih:=jx hw j (by omega);simp only[aKM,dH,zlA,zlT,zlD,ih,hw];omega
theorem aKK (w:List UInt8) (hw:w.length=240) (j:Nat) (h:j<60):aKM w (j+1)=
  (aKM w j).take (((j:Int)%4*4).toNat*1+((j:Int)/4).toNat*16)++
   ((w.drop ((j:Int).toNat*4)).take 4).take (min ((w.drop ((j:Int).toNat*4)).take 4).length (16-((j:Int)%4*4).toNat))++
   (aKM w j).drop (((j:Int)%4*4).toNat*1+((j:Int)/4).toNat*16+min ((w.drop ((j:Int).toNat*4)).take 4).length (16-((j:Int)%4*4).toNat)):=by
 rw[show((j:Int)%4*4).toNat*1+((j:Int)/4).toNat*16=4*j by omega,show(j:Int).toNat*4=4*j by omega];have e:min ((w.drop (4*j)).take 4).length (16-((j:Int)%4*4).toNat)=4:=by
  simp only[zlT,zlD,hw];omega
 rw[e,List.take_take,Nat.min_self];rfl
theorem wU (i:Nat) (t w:List UInt8) (k:Nat) (h:8<=i):wK i t w (k+1)=
  (wK i t w k).set ((k:Int).toNat+(i:Int).toNat*4) ((wK i t w k).getD ((k:Int).toNat+((i:Int)-8).toNat*4) 0^^^t.getD (k:Int).toNat 0):=by
 rw[show(k:Int).toNat+(i:Int).toNat*4=4*i+k by omega,show(k:Int).toNat+((i:Int)-8).toNat*4=4*(i-8)+k by omega];rfl
theorem aMH (w key:List UInt8) (hk:key.length=32) (i:Nat) (h:i<8):
  w.take ((i:Int).toNat*4)++((key.drop ((4*(i:Int)).toNat*1+0)).take (32-(4*(i:Int)).toNat)).take (min ((key.drop ((4*(i:Int)).toNat*1+0)).take (32-(4*(i:Int)).toNat)).length 4)++
   w.drop ((i:Int).toNat*4+min ((key.drop ((4*(i:Int)).toNat*1+0)).take (32-(4*(i:Int)).toNat)).length 4)
  =w.take (4*i)++(key.drop (4*i)).take 4++w.drop (4*i+4):=by
 rw[show(i:Int).toNat*4=4*i by omega,show(4*(i:Int)).toNat*1+0=4*i by omega,show(4*(i:Int)).toNat=4*i by omega];have e:min ((key.drop (4*i)).take (32-4*i)).length 4=4:=by
  simp only[zlT,zlD,hk];omega
 rw[e,List.take_take,show min 4 (32-4*i)=4 by omega]
theorem abE (key:List UInt8) (hk:key.length=32):Sx.Fn Γ.P 69 [.a8 key] []
  (λv M=>v= .ptr 1001 0 none/\M=[(1001,bi tabS tabB (d0 key))]):=by
 refine aG (Γ:=Γ) (fn:=Tryz.f69) rfl rfl rfl rfl ?_;refine gB ?_;refine Call.i (aYQ (replicate 240 0)) [(1000,(11,0,none))] rfl fc rfl fc rfl ?_;rintro _ _ ⟨rfl,rfl⟩
 refine aY.i (σ:=Nat) (λi=>i<=60)
  (λi=>([(1,.ptr 1 0 none),(3,.ptr 11 0 none),(4,.ptr 4 0 none),(5,.u8 (wGo key i).2),(14,.i .i64 i)],
   [(1,.mem true 0 [(32,.a8 key)]),(11,bi tabS tabB (replicate 240 0)),(4,.mem true 0 [(240,.a8 (wGo key i).1)])])) (λi=>60-i) 0 (zero_le _) ?_ ?_
 .exact Le.i [] rfl fc rfl fc rfl
 intro i hi;refine zB.i ?_ ?_<;>intro h
 .refine zB.i ?_ ?_<;>intro h8
  .have hwl:=gM hk i (by omega)
   refine aH.i [[],[0],[0,1],[],[3],[3,4],r_6] r_7 (by kernel_rfl) ?_;refine gB ?_;have hw:=aMH (wGo key i).1 key hk i (by omega);have hw2:(wGo key (i+1)).1=(wGo key i).1.take (4*i)++(key.drop (4*i)).take 4++(wGo key i).1.drop (4*i+4):=by
    show(if i<8 then _ else _:List UInt8×UInt8).1=_;rw[if_pos (by omega)]
   have hw3:(wGo key (i+1)).2=(wGo key i).2:=by
    show(if i<8 then _ else _:List UInt8×UInt8).2=_;rw[if_pos (by omega)]
   rw[<-hw2]at hw;refine⟨i+1,by omega,by omega,Le.i [] rfl fc rfl ⟨rfl,rfl,rfl,rfl,rfl,rfl,rfl,rfl,rfl,rfl,rfl,rfl,?_⟩ rfl⟩;exact hw.symm
  have hwl:=gM hk i (by omega);have htl:((wGo key i).1.drop (4*(i-1))).take 4=dH (wGo key i).1 (i-1):=rfl;refine gB ?_;have hw2:(wGo key (i+1)).1=wK i (tOf i (dH (wGo key i).1 (i-1)) (wGo key i).2) (wGo key i).1 4:=by
   show(if i<8 then _ else _:List UInt8×UInt8).1=_;rw[if_neg (by omega)]
  have hw3:(wGo key (i+1)).2=if i%8=0 then dbl (wGo key i).2 else(wGo key i).2:=by
   show(if i<8 then _ else _:List UInt8×UInt8).2=_;rw[if_neg (by omega)]
  have ht:((wGo key i).1.drop (((i:Int)-1).toNat*4)).take 4=dH (wGo key i).1 (i-1):=by
   rw[show((i:Int)-1).toNat*4=4*(i-1) by omega];rfl
  refine zB.i ?_ ?_<;>intro h0
  .refine aH.i [[],[],[1],[0],[0,3],r_5,r_6,[],r_8,[],[],[10],[9],[9,12],[9,10,11,12,13],[9,10,11,12,13,14],[],[],[17],[16],[16,19],[16,17,18,19,20],[16,17,18,19,20,21],[],[],[24],[23],[23,26],[23,24,25,26,27],[23,24,25,26,27,28],aS2,aZS] aZR (by kernel_rfl) ?_
   refine gB ?_;refine Call.pure (aU3 (wGo key i).2) rfl fc ?_;rintro _ rfl;have hT:tOf i (dH (wGo key i).1 (i-1)) (wGo key i).2=[tabS.getD ((((wGo key i).1.drop (((i:Int)-1).toNat*4)).take 4).getD 1 0).toNat 0^^^(wGo key i).2,tabS.getD ((((wGo key i).1.drop (((i:Int)-1).toNat*4)).take 4).getD 2 0).toNat 0,tabS.getD ((((wGo key i).1.drop (((i:Int)-1).toNat*4)).take 4).getD 3 0).toNat 0,tabS.getD ((((wGo key i).1.drop (((i:Int)-1).toNat*4)).take 4).getD 0 0).toNat 0]:=by
    unfold tOf;rw[if_pos (show i%8=0 by omega),ht]
    try rfl
   have hR:(if i%8=0 then dbl (wGo key i).2 else(wGo key i).2)=dbl (wGo key i).2:=by rw[if_pos (show i%8=0 by omega)]
   refine aY.i (σ:=Nat) (λk=>k<=4)
    (λk=>([(1,.ptr 1 0 none),(3,.ptr 11 0 none),(4,.ptr 4 0 none),(5,.u8 (if i%8=0 then dbl (wGo key i).2 else(wGo key i).2)),(6,.i .i64 i),(7,.ptr 7 0 none),(14,.i .i64 i),(98,.i .i64 k)],
     [(1,.mem true 0 [(32,.a8 key)]),(11,bi tabS tabB (replicate 240 0)),(4,.mem true 0 [(240,.a8 (wK i (tOf i (dH (wGo key i).1 (i-1)) (wGo key i).2) (wGo key i).1 k))]),(7,.mem true 0 [(4,.a8 (tOf i (dH (wGo key i).1 (i-1)) (wGo key i).2))])])) (λi=>4-i) 0 (zero_le _) ?_ ?_
   .exact Le.i [] rfl ⟨hR,rfl,rfl,rfl⟩ rfl ⟨rfl,rfl,rfl,rfl,rfl,rfl,rfl,rfl,rfl,rfl,rfl,rfl,rfl,rfl,rfl,hT⟩ rfl
   intro k hk4;refine zB.i ?_ ?_<;>intro hk5
   .refine aH.i [[],[],[],[2],[],[2,3],[2,3,4,5],[2,3,4,5,6],[],[8],[8,9],[2,3,4,5,6,7,8,9,10],[0],jO,oB] nw (by kernel_rfl) ?_
    refine gB ?_;have hv:=wU i (tOf i (dH (wGo key i).1 (i-1)) (wGo key i).2) (wGo key i).1 k (by omega);exact⟨k+1,by omega,by omega,Le.i [] rfl fc rfl ⟨rfl,rfl,rfl,rfl,rfl,rfl,rfl,rfl,rfl,rfl,rfl,rfl,hv,rfl,rfl,rfl⟩ rfl⟩
   have:k=4:=by omega
   subst this;refine gB ?_;refine⟨i+1,by omega,by omega,Le.i [] rfl fc rfl fc rfl⟩
  refine gB ?_;refine zB.i ?_ ?_<;>intro h4
  .refine aH.i [[],[],[1],[0],[0,3],r_5,r_6,[],[],[8],[7],[7,10],[7,8,9,10,11],[7,8,9,10,11,12],[],[],[15],[14],[14,17],[14,15,16,17,18],[14,15,16,17,18,19],[],[],[22],[21],[21,24],[21,22,23,24,25],[21,22,23,24,25,26],aW3,aS3] aS2 (by kernel_rfl) ?_
   refine gB ?_;have hT:tOf i (dH (wGo key i).1 (i-1)) (wGo key i).2=[tabS.getD ((((wGo key i).1.drop (((i:Int)-1).toNat*4)).take 4).getD 0 0).toNat 0,tabS.getD ((((wGo key i).1.drop (((i:Int)-1).toNat*4)).take 4).getD 1 0).toNat 0,tabS.getD ((((wGo key i).1.drop (((i:Int)-1).toNat*4)).take 4).getD 2 0).toNat 0,tabS.getD ((((wGo key i).1.drop (((i:Int)-1).toNat*4)).take 4).getD 3 0).toNat 0]:=by
    unfold tOf;rw[if_neg (show¬i%8=0 by omega),if_pos (show i%8=4 by omega),ht]
    try rfl
   have hR:(if i%8=0 then dbl (wGo key i).2 else(wGo key i).2)=(wGo key i).2:=by rw[if_neg (show¬i%8=0 by omega)]
   refine aY.i (σ:=Nat) (λk=>k<=4)
    (λk=>([(1,.ptr 1 0 none),(3,.ptr 11 0 none),(4,.ptr 4 0 none),(5,.u8 (if i%8=0 then dbl (wGo key i).2 else(wGo key i).2)),(6,.i .i64 i),(7,.ptr 7 0 none),(14,.i .i64 i),(98,.i .i64 k)],
     [(1,.mem true 0 [(32,.a8 key)]),(11,bi tabS tabB (replicate 240 0)),(4,.mem true 0 [(240,.a8 (wK i (tOf i (dH (wGo key i).1 (i-1)) (wGo key i).2) (wGo key i).1 k))]),(7,.mem true 0 [(4,.a8 (tOf i (dH (wGo key i).1 (i-1)) (wGo key i).2))])])) (λi=>4-i) 0 (zero_le _) ?_ ?_
   .exact Le.i [] rfl ⟨hR,rfl,rfl,rfl⟩ rfl ⟨rfl,rfl,rfl,rfl,rfl,rfl,rfl,rfl,rfl,rfl,rfl,rfl,rfl,rfl,rfl,hT⟩ rfl
   intro k hk4;refine zB.i ?_ ?_<;>intro hk5
   .refine aH.i [[],[],[],[2],[],[2,3],[2,3,4,5],[2,3,4,5,6],[],[8],[8,9],[2,3,4,5,6,7,8,9,10],[0],jO,oB] nw (by kernel_rfl) ?_
    refine gB ?_;have hv:=wU i (tOf i (dH (wGo key i).1 (i-1)) (wGo key i).2) (wGo key i).1 k (by omega);exact⟨k+1,by omega,by omega,Le.i [] rfl fc rfl ⟨rfl,rfl,rfl,rfl,rfl,rfl,rfl,rfl,rfl,rfl,rfl,rfl,hv,rfl,rfl,rfl⟩ rfl⟩
   have:k=4:=by omega
   subst this;refine gB ?_;refine⟨i+1,by omega,by omega,Le.i [] rfl fc rfl fc rfl⟩
  skip
  have hT:tOf i (dH (wGo key i).1 (i-1)) (wGo key i).2=(((wGo key i).1.drop (((i:Int)-1).toNat*4)).take 4):=by
   unfold tOf;rw[if_neg (show¬i%8=0 by omega),if_neg (show¬i%8=4 by omega),ht]
   try rfl
  have hR:(if i%8=0 then dbl (wGo key i).2 else(wGo key i).2)=(wGo key i).2:=by rw[if_neg (show¬i%8=0 by omega)]
  refine aY.i (σ:=Nat) (λk=>k<=4)
   (λk=>([(1,.ptr 1 0 none),(3,.ptr 11 0 none),(4,.ptr 4 0 none),(5,.u8 (if i%8=0 then dbl (wGo key i).2 else(wGo key i).2)),(6,.i .i64 i),(7,.ptr 7 0 none),(14,.i .i64 i),(98,.i .i64 k)],
    [(1,.mem true 0 [(32,.a8 key)]),(11,bi tabS tabB (replicate 240 0)),(4,.mem true 0 [(240,.a8 (wK i (tOf i (dH (wGo key i).1 (i-1)) (wGo key i).2) (wGo key i).1 k))]),(7,.mem true 0 [(4,.a8 (tOf i (dH (wGo key i).1 (i-1)) (wGo key i).2))])])) (λi=>4-i) 0 (zero_le _) ?_ ?_
  .exact Le.i [] rfl ⟨hR,rfl,rfl,rfl⟩ rfl ⟨rfl,rfl,rfl,rfl,rfl,rfl,rfl,rfl,rfl,rfl,rfl,rfl,rfl,rfl,rfl,hT⟩ rfl
  intro k hk4;refine zB.i ?_ ?_<;>intro hk5
  .refine aH.i [[],[],[],[2],[],[2,3],[2,3,4,5],[2,3,4,5,6],[],[8],[8,9],[2,3,4,5,6,7,8,9,10],[0],jO,oB] nw (by kernel_rfl) ?_
   refine gB ?_;have hv:=wU i (tOf i (dH (wGo key i).1 (i-1)) (wGo key i).2) (wGo key i).1 k (by omega);exact⟨k+1,by omega,by omega,Le.i [] rfl fc rfl ⟨rfl,rfl,rfl,rfl,rfl,rfl,rfl,rfl,rfl,rfl,rfl,rfl,hv,rfl,rfl,rfl⟩ rfl⟩
  have:k=4:=by omega
  subst this;refine gB ?_;refine⟨i+1,by omega,by omega,Le.i [] rfl fc rfl fc rfl⟩
 have:i=60:=by omega
 subst this
 refine aY.i (σ:=Nat) (λj=>j<=60)
  (λj=>([(3,.ptr 11 0 none),(4,.ptr 4 0 none),(117,.i .i64 j)],
   [(11,bi tabS tabB (aKM (wGo key 60).1 j)),(4,.mem true 0 [(240,.a8 (wGo key 60).1)])])) (λj=>60-j) 0 (zero_le _) ?_ ?_
 .exact Le.i [] rfl fc rfl fc rfl
 intro j hj;have hwl:=gM hk 60 (by omega);have hpl:=jx hwl j hj;refine zB.i ?_ ?_<;>intro h2
 .refine aH.i [[],[],[1],[0],[0,3],r_5,[],[6],[6,7],r_9,[],[10],[10,11],jO] oB (by kernel_rfl) ?_
  refine gB ?_;have hv:=aKK (wGo key 60).1 hwl j (by omega);exact⟨j+1,by omega,by omega,Le.i [] rfl fc rfl ⟨rfl,rfl,rfl,rfl,rfl,rfl,hv,rfl,rfl,rfl⟩ rfl⟩
 have:j=60:=by omega
 subst this;refine gB ?_;exact Ret.i (.ptr 1001 0 none) [(1001,bi tabS tabB (d0 key))] [(1001,(11,0,none))] rfl trivial ⟨rfl,rfl⟩ rfl trivial rfl fc rfl
theorem dA {key:List UInt8} (hk:key.length=32):(d0 key).length=240:=jx (gM hk 60 (by omega)) 60 (by omega)
def natS:List Nat:=[99,124,119,123,242,107,111,197,48,1,103,43,254,215,171,118,202,130,201,125,250,89,71,
240,173,212,162,175,156,164,114,192,183,253,147,38,54,63,247,204,52,165,229,241,113,216,
49,21,4,199,35,195,24,150,5,154,7,18,128,226,235,39,178,117,9,131,44,26,27,110,90,
160,82,59,214,179,41,227,47,132,83,209,0,237,32,252,177,91,106,203,190,57,74,76,88,
207,208,239,170,251,67,77,51,133,69,249,2,127,80,60,159,168,81,163,64,143,146,157,56,
245,188,182,218,33,16,255,243,210,205,12,19,236,95,151,68,23,196,167,126,61,100,93,25,
115,96,129,79,220,34,42,144,136,70,238,184,20,222,94,11,219,224,50,58,10,73,6,36,92,
194,211,172,98,145,149,228,121,231,200,55,109,141,213,78,169,108,86,244,234,101,122,174,
8,186,120,37,46,28,166,180,198,232,221,116,31,75,189,139,138,112,62,181,102,72,3,246,
14,97,53,87,185,134,193,29,158,225,248,152,17,105,217,142,148,155,30,135,233,206,85,40,
223,140,161,137,13,191,230,66,104,65,153,45,15,176,84,187,22]
def natB:List Nat:=[82,9,106,213,48,54,165,56,191,64,163,158,129,243,215,251,124,227,57,130,155,47,255,135,
52,142,67,68,196,222,233,203,84,123,148,50,166,194,35,61,238,76,149,11,66,250,195,78,
8,46,161,102,40,217,36,178,118,91,162,73,109,139,209,37,114,248,246,100,134,104,152,22,
212,164,92,204,93,101,182,146,108,112,72,80,253,237,185,218,94,21,70,87,167,141,157,
132,144,216,171,0,140,188,211,10,247,228,88,5,184,179,69,6,208,44,30,143,202,63,15,2,
193,175,189,3,1,19,138,107,58,145,17,65,79,103,220,234,151,242,207,206,240,180,230,115,
150,172,116,34,231,173,53,133,226,249,55,232,28,117,223,110,71,241,26,113,29,41,197,
137,111,183,98,14,170,24,190,27,252,86,62,75,198,210,121,32,154,219,192,254,120,205,90,
244,31,221,168,51,136,7,199,49,177,18,16,89,39,128,236,95,96,81,127,169,25,181,74,13,
45,229,122,159,147,201,156,239,160,224,59,77,174,42,245,176,200,235,187,60,131,83,153,
97,23,43,4,126,186,119,214,38,225,105,20,99,85,33,12,125]
set_option maxRecDepth 1000000 in
theorem aJX:tabS.map toNat=natS:=by kernel_rfl
set_option maxRecDepth 1000000 in
theorem aJY:tabB.map toNat=natB:=by kernel_rfl
set_option maxRecDepth 1000000 in
theorem aXK:(List.range 256).all (λi=>beq (natB.getD (natS.getD i 0) 0) i)=true:=by kernel_rfl
theorem aAE (l:List UInt8) (i:Nat):(l.map toNat).getD i 0=(l.getD i 0).toNat:=by
 simp only[List.getD_eq_getElem?_getD,List.getElem?_map];cases l[i]? <;>rfl
theorem aVS (x:UInt8):tabB.getD (tabS.getD x.toNat 0).toNat 0=x:=by
 apply UInt8.toNat_inj.1;rw[<-aAE,<-aAE,aJX,aJY];exact Nat.eq_of_beq_eq_true (List.all_eq_true.1 aXK x.toNat (List.mem_range.2 x.toNat_lt))
theorem aK9 {l:List UInt8} (h:l.length=16):∃a0 a1 a2 a3 a4 a5 a6 a7 a8 a9 a10 a11 a12 a13 a14 a15,l=[a0,a1,a2,a3,a4,a5,a6,a7,a8,a9,a10,a11,a12,a13,a14,a15]:=by
 match l,h with
 |[a0,a1,a2,a3,a4,a5,a6,a7,a8,a9,a10,a11,a12,a13,a14,a15],_=>exact⟨a0,a1,a2,a3,a4,a5,a6,a7,a8,a9,a10,a11,a12,a13,a14,a15,rfl⟩
theorem uA {b:List UInt8} (h:b.length=16):jq tabB (wE tabS b 16) 16=b:=by
 obtain⟨a0,a1,a2,a3,a4,a5,a6,a7,a8,a9,a10,a11,a12,a13,a14,a15,rfl⟩:=aK9 h
 have:jq tabB (wE tabS [a0,a1,a2,a3,a4,a5,a6,a7,a8,a9,a10,a11,a12,a13,a14,a15] 16) 16=
  [a0,a1,a2,a3,a4,a5,a6,a7,a8,a9,a10,a11,a12,a13,a14,a15].map (λx=>tabB.getD (tabS.getD x.toNat 0).toNat 0):=by kernel_rfl
 rw[this,List.map_congr_left (g:=id) (λx _=>aVS x),List.map_id]
theorem yW {k b:List UInt8} (hk:k.length=16) (h:b.length=16):dX k 16 (dX k 16 b)=b:=by
 obtain⟨a0,a1,a2,a3,a4,a5,a6,a7,a8,a9,a10,a11,a12,a13,a14,a15,rfl⟩:=aK9 h;obtain⟨k0,k1,k2,k3,k4,k5,k6,k7,k8,k9,k10,k11,k12,k13,k14,k15,rfl⟩:=aK9 hk;have:dX [k0,k1,k2,k3,k4,k5,k6,k7,k8,k9,k10,k11,k12,k13,k14,k15] 16 (dX [k0,k1,k2,k3,k4,k5,k6,k7,k8,k9,k10,k11,k12,k13,k14,k15] 16 [a0,a1,a2,a3,a4,a5,a6,a7,a8,a9,a10,a11,a12,a13,a14,a15])=[a0^^^k0^^^k0,a1^^^k1^^^k1,a2^^^k2^^^k2,a3^^^k3^^^k3,a4^^^k4^^^k4,a5^^^k5^^^k5,a6^^^k6^^^k6,a7^^^k7^^^k7,a8^^^k8^^^k8,a9^^^k9^^^k9,a10^^^k10^^^k10,a11^^^k11^^^k11,a12^^^k12^^^k12,a13^^^k13^^^k13,a14^^^k14^^^k14,a15^^^k15^^^k15]:=by kernel_rfl
 rw[this];simp only[UInt8.xor_assoc,xor_self,xor_zero]
theorem aJ4 (a b:UInt8):qh (a^^^b) 1=qh a 1^^^qh b 1:=by
 unfold qh;rw[toNat_xor,Nat.shiftLeft_xor_distrib];apply UInt8.toNat_inj.1;rw[toNat_xor,toNat_ofNat',toNat_ofNat',toNat_ofNat',Nat.xor_mod_two_pow]
theorem we {n:Nat} (h:n<256):n<128↔n.testBit 7=false:=by
 rw[Nat.testBit_eq_decide_div_mod_eq,decide_eq_false_iff_not];omega
theorem aRL (a b:UInt8):dbl (a^^^b)=dbl a^^^dbl b:=by
 have ha:=we a.toNat_lt;have hb:=we b.toNat_lt;have hab:=we (a^^^b).toNat_lt;rw[toNat_xor,Nat.testBit_xor]at hab;unfold dbl;rw[aJ4,toNat_xor];cases h1:a.toNat.testBit 7<;>cases h2:b.toNat.testBit 7<;>simp only[h1,h2,Bool.xor_self,Bool.xor_false,Bool.false_xor,iff_true,iff_false,Bool.true_eq_false]at ha hb hab<;>simp only[ha,hb,hab,if_true,if_false]
 .ac_rfl
 .ac_rfl
 rw[show qh a 1^^^27^^^(qh b 1^^^27)=qh a 1^^^qh b 1^^^(27^^^27) by ac_rfl,xor_self,xor_zero]
theorem aEC:∀(n:Nat) (a b m p q:UInt8),tms n (a^^^b) m (p^^^q)=tms n a m p^^^tms n b m q
 |0,_,_,_,_,_=>rfl
 |n+1,a,b,m,p,q=>by
  simp only[tms];rw[aRL,<-aEC n];congr 1;split
  .ac_rfl
  rfl
theorem aED (a b m:UInt8):aL (a^^^b) m=aL a m^^^aL b m:=by
 unfold aL;rw[<-aEC,xor_self]
def col (m0 m1 m2 m3 x0 x1 x2 x3:UInt8):UInt8:=0^^^aL x0 m0^^^aL x1 m1^^^aL x2 m2^^^aL x3 m3
theorem zi (a0 a1 a2 a3 a4 a5 a6 a7 a8 a9 a10 a11 a12 a13 a14 a15 m0 m1 m2 m3:UInt8):xV [a0,a1,a2,a3,a4,a5,a6,a7,a8,a9,a10,a11,a12,a13,a14,a15] [m0,m1,m2,m3] 16=
 [col m0 m1 m2 m3 a0 a1 a2 a3,col m0 m1 m2 m3 a1 a2 a3 a0,col m0 m1 m2 m3 a2 a3 a0 a1,col m0 m1 m2 m3 a3 a0 a1 a2,col m0 m1 m2 m3 a4 a5 a6 a7,col m0 m1 m2 m3 a5 a6 a7 a4,col m0 m1 m2 m3 a6 a7 a4 a5,col m0 m1 m2 m3 a7 a4 a5 a6,col m0 m1 m2 m3 a8 a9 a10 a11,col m0 m1 m2 m3 a9 a10 a11 a8,col m0 m1 m2 m3 a10 a11 a8 a9,col m0 m1 m2 m3 a11 a8 a9 a10,col m0 m1 m2 m3 a12 a13 a14 a15,col m0 m1 m2 m3 a13 a14 a15 a12,col m0 m1 m2 m3 a14 a15 a12 a13,col m0 m1 m2 m3 a15 a12 a13 a14]:=by kernel_rfl
theorem aDI (a:UInt8):0^^^a=a:=UInt8.zero_xor
set_option maxRecDepth 1000000 in
theorem aQA:(List.range 256).all (λi=>beq (aL (aL (ofNat i) 2) 14^^^aL (aL (ofNat i) 1) 11^^^aL (aL (ofNat i) 1) 13^^^aL (aL (ofNat i) 3) 9).toNat i)=true:=by kernel_rfl
theorem aLM (x:UInt8):aL (aL x 2) 14^^^aL (aL x 1) 11^^^aL (aL x 1) 13^^^aL (aL x 3) 9=x:=by
 have:=Nat.eq_of_beq_eq_true (List.all_eq_true.1 aQA x.toNat (List.mem_range.2 x.toNat_lt));rw[ofNat_toNat]at this;exact UInt8.toNat_inj.1 this
set_option maxRecDepth 1000000 in
theorem aP9:(List.range 256).all (λi=>beq (aL (aL (ofNat i) 3) 14^^^aL (aL (ofNat i) 2) 11^^^aL (aL (ofNat i) 1) 13^^^aL (aL (ofNat i) 1) 9).toNat 0)=true:=by kernel_rfl
theorem aLL (x:UInt8):aL (aL x 3) 14^^^aL (aL x 2) 11^^^aL (aL x 1) 13^^^aL (aL x 1) 9=0:=by
 have:=Nat.eq_of_beq_eq_true (List.all_eq_true.1 aP9 x.toNat (List.mem_range.2 x.toNat_lt));rw[ofNat_toNat]at this;exact UInt8.toNat_inj.1 this
set_option maxRecDepth 1000000 in
theorem aP8:(List.range 256).all (λi=>beq (aL (aL (ofNat i) 1) 14^^^aL (aL (ofNat i) 3) 11^^^aL (aL (ofNat i) 2) 13^^^aL (aL (ofNat i) 1) 9).toNat 0)=true:=by kernel_rfl
theorem aLK (x:UInt8):aL (aL x 1) 14^^^aL (aL x 3) 11^^^aL (aL x 2) 13^^^aL (aL x 1) 9=0:=by
 have:=Nat.eq_of_beq_eq_true (List.all_eq_true.1 aP8 x.toNat (List.mem_range.2 x.toNat_lt));rw[ofNat_toNat]at this;exact UInt8.toNat_inj.1 this
set_option maxRecDepth 1000000 in
theorem aP7:(List.range 256).all (λi=>beq (aL (aL (ofNat i) 1) 14^^^aL (aL (ofNat i) 1) 11^^^aL (aL (ofNat i) 3) 13^^^aL (aL (ofNat i) 2) 9).toNat 0)=true:=by kernel_rfl
theorem aLJ (x:UInt8):aL (aL x 1) 14^^^aL (aL x 1) 11^^^aL (aL x 3) 13^^^aL (aL x 2) 9=0:=by
 have:=Nat.eq_of_beq_eq_true (List.all_eq_true.1 aP7 x.toNat (List.mem_range.2 x.toNat_lt));rw[ofNat_toNat]at this;exact UInt8.toNat_inj.1 this
theorem aVG (x0 x1 x2 x3:UInt8):col 14 11 13 9 (col 2 3 1 1 x0 x1 x2 x3) (col 2 3 1 1 x1 x2 x3 x0) (col 2 3 1 1 x2 x3 x0 x1) (col 2 3 1 1 x3 x0 x1 x2)=x0:=by
 unfold col;simp only[aDI,aED]
 have e:∀a b c d e f g h i j k l m n o p:UInt8,a^^^b^^^c^^^d^^^(e^^^f^^^g^^^h)^^^(i^^^j^^^k^^^l)^^^(m^^^n^^^o^^^p)=
   (a^^^h^^^k^^^n)^^^(b^^^e^^^l^^^o)^^^(c^^^f^^^i^^^p)^^^(d^^^g^^^j^^^m):=by intros;ac_rfl
 rw[e,aLM,aLL,aLK,aLJ,xor_zero,xor_zero,xor_zero]
theorem aTZ {b:List UInt8} (h:b.length=16):xV (xV b [2,3,1,1] 16) [14,11,13,9] 16=b:=by
 obtain⟨a0,a1,a2,a3,a4,a5,a6,a7,a8,a9,a10,a11,a12,a13,a14,a15,rfl⟩:=aK9 h;rw[zi,zi];simp only[aVG]
theorem aJQ {ks b:List UInt8} (hk:ks.length=240) (hb:b.length=16) {r:Nat} (hr:r<=14):jq tabB (fM ks r (kj tabS ks r b)) 16=b:=by
 have hs:=fN tabS b 16;have hkr:=be hk hr;unfold fM kj;split
 .rw[yW hkr (dQ _ _ _),aTZ hs,uA hb]
 rw[yW hkr hs,uA hb]
theorem uD {ks b:List UInt8} (hk:ks.length=240) (hb:b.length=16):∀n,n<=14->js tabB ks (bQ tabS ks b 14) n=bQ tabS ks b (14-n)
 |0,_=>rfl
 |n+1,h=>by
  have ih:=uD hk hb n (by omega);simp only[js];rw[ih,show 14-n=(14-(n+1))+1 by omega];exact aJQ hk (iJ _ _ hb _) (by omega)
theorem wZ {ks b:List UInt8} (hk:ks.length=240) (hb:b.length=16):jr tabB ks (bQ tabS ks b 14)=b:=by
 unfold jr;rw[uD hk hb 14 (le_refl _)];exact yW (be hk (zero_le _)) hb
theorem qn {ks b:List UInt8} (hb:b.length=16):(jr tabB ks b).length=16:=by
 unfold jr;rw[bL,oa _ _ hb]
def qL (text:List UInt8):UInt8:=ofNat (16-text.length%16)
def qx (text:List UInt8) (k:Nat):UInt8:=if k<text.length then text.getD k 0 else qL text
def xKc (last text:List UInt8) (i:Nat):Nat->List UInt8
 |0=>last
 |j+1=>(xKc last text i j).set j ((xKc last text i j).getD j 0^^^qx text (16*i+j))
@[irreducible] def aJJ (key b:List UInt8):List UInt8:=bQ tabS (d0 key) b 14
theorem qN (key:List UInt8) {b:List UInt8} (hb:b.length=16):(aJJ key b).length=16:=by unfold aJJ;exact iJ tabS (d0 key) hb 14
def bK (key bg text:List UInt8):Nat->List UInt8×List UInt8
 |0=>(bg,[])
 |i+1=>let s:=bK key bg text i
  let l:=aJJ key (xKc s.1 text i 16)
  (l,s.2++l)
def bu (key bg text:List UInt8):List UInt8:=(bK key bg text (text.length/16+1)).2
theorem gL (last text:List UInt8) (i:Nat):∀j,(xKc last text i j).length=last.length
 |0=>rfl
 |j+1=>by simp only[xKc,length_set,gL last text i j]
theorem dD (key:List UInt8) {bg:List UInt8} (hb:bg.length=16) (text:List UInt8):∀i,(bK key bg text i).1.length=16
 |0=>hb
 |i+1=>by
  simp only[bK];exact qN key (by rw[gL];exact dD key hb text i)
theorem fC (key:List UInt8) {bg:List UInt8} (hb:bg.length=16) (text:List UInt8):∀i,(bK key bg text i).2.length=16*i
 |0=>rfl
 |i+1=>by
  have h1:=fC key hb text i;have h2:=dD key hb text (i+1);have e:(bK key bg text (i+1)).2=(bK key bg text i).2++(bK key bg text (i+1)).1:=rfl;rw[e,zlA,h1,h2];omega
theorem aXW (key b:List UInt8) (hk:key.length=32) (hb:b.length=16):
  Sx.Fn Γ.P 70 [.ptr 1000 0 none,.a8 b] [(1000,cK tabS tabB (d0 key))] (λv M=>v= .a8 (aJJ key b)/\M=[(1000,cK tabS tabB (d0 key))]):=by
 unfold aJJ;exact acM tabS tabB (d0 key) b oh (lk 256) (dA hk) hb
theorem aaH (key bg text:List UInt8) (n:Nat) (hk:key.length=32) (hb:bg.length=16) (hn:text.length=n) (hmax:n<=4096):
  Sx.Fn Γ.P 33 [.a8 key,.a8 bg,.slx 1000 0 0 n] [(1000,.mem false 0 [(n,.a8 text)])] (λv M=>∃c,n/16*16+16<=c/\v= .sl 1001 0 0 (n/16*16+16) c/\M=[(1000,.mem false 0 [(n,.a8 text)]),(1001,.mem true (c-(n/16*16+16)) [(n/16*16+16,.a8 (bu key bg text))])]):=by
 have hfill:qL text=ofInt (16-(n:Int)%16):=by
  unfold qL;rw[show(16-(n:Int)%16)=((16-text.length%16:Nat):Int) by omega,aNK]
 refine aG (Γ:=Γ) (fn:=Tryz.f33) rfl rfl rfl rfl ?_;refine gB ?_;refine aH.i [[],[0],[],[],[0,1,3],r_5] [0,2,3,1,4,5] (by kernel_rfl) ?_;refine gB ?_;refine Call.i (abE key hk) [(1001,(1001,0,none))] rfl fc rfl trivial rfl ?_;rintro _ _ ⟨rfl,rfl⟩;refine cL.i [(1001,bi tabS tabB (d0 key))] rfl rfl ?_;refine gB ?_
 refine aY.i (σ:=Nat×Nat) (λs=>s.1<=n/16+1/\16*s.1<=s.2)
  (λs=>([(2,.slx 1000 0 0 n),(7,.ptr 1001 0 none),(8,.ptr 8 0 none),(9,.sl 1005 0 0 (16*s.1) s.2),(10,.u8 (qL text)),(11,.i .i64 (16*s.1:Nat))],
   [(1000,.mem false 0 [(n,.a8 text)]),(8,.mem true 0 [(16,.a8 (bK key bg text s.1).1)]),(1001,bi tabS tabB (d0 key)),(1005,.mem true (s.2-16*s.1) [(16*s.1,.a8 (bK key bg text s.1).2)])])) (λs=>n/16+1-s.1) (0,n/16*16+16) ?_ ?_ ?_
 .exact⟨zero_le _,zero_le _⟩
 .refine Le.i [(1005,(22,0,none))] rfl fc rfl fc rfl
 rintro⟨i,c⟩ ⟨hi,hc⟩;simp only at hi hc⊢;have hl1:=dD key hb text i;have hl2:=fC key hb text i;refine zB.i ?_ ?_<;>intro h
 .refine gB ?_
  refine aY.i (σ:=Nat) (λj=>j<=16)
   (λj=>([(7,.ptr 1001 0 none),(8,.ptr 8 0 none),(9,.sl 1005 0 0 (16*i) c),(10,.u8 (qL text)),(11,.i .i64 (16*i:Nat)),(2,.slx 1000 0 0 n),(12,.slx 1000 0 (16*i) (min 16 (n-16*i))),(44,.i .i64 j)],
    [(1000,.mem false 0 [(n,.a8 text)]),(8,.mem true 0 [(16,.a8 (xKc (bK key bg text i).1 text i j))]),(1001,bi tabS tabB (d0 key)),(1005,.mem true (c-16*i) [(16*i,.a8 (bK key bg text i).2)])])) (λj=>16-j) 0 (zero_le _) ?_ ?_
  .have e1:min 16 (n-16*i)=(if(n:Int)<↑(16*i)+16 then(n:Int)else↑(16*i)+16).toNat-(↑(16*i):Int).toNat:=by split <;>omega
   exact Le.i [] rfl fc rfl fc rfl
  rintro j hj;simp only at hj⊢;have hxl:(xKc (bK key bg text i).1 text i j).length=16:=by rw[gL,hl1]
  refine zB.i ?_ ?_<;>intro h2
  .refine gB ?_
   refine zB.i ?_ ?_<;>intro h3
   .refine aH.i [[],[0],[0,1],[],[],[3,4],[3,4,5],r_7,r_8,r_9] ek (by kernel_rfl) ?_
    refine gB ?_;have e:xKc (bK key bg text i).1 text i (j+1)=(xKc (bK key bg text i).1 text i j).set j ((xKc (bK key bg text i).1 text i j).getD j 0^^^text.getD (fL (16*i) j) 0):=by
     simp only[xKc,qx,zQ];rw[if_pos (by omega)]
    exact⟨j+1,by omega,by omega,Le.i [] rfl fc rfl fc rfl⟩
   refine gB ?_;have e:xKc (bK key bg text i).1 text i (j+1)=(xKc (bK key bg text i).1 text i j).set j ((xKc (bK key bg text i).1 text i j).getD j 0^^^qL text):=by
    simp only[xKc,qx];rw[if_neg (by omega)]
   exact⟨j+1,by omega,by omega,Le.i [] rfl fc rfl fc rfl⟩
  obtain rfl:j=16:=by omega
  refine gB ?_;have hel:=qN key hxl;have hkl:=dA hk;refine Call.i (aXW key _ hk hxl) [(1000,(1001,0,none))] rfl fc rfl fc rfl ?_;rintro _ _ ⟨rfl,rfl⟩;refine gB ?_;refineλc' hc'=>?_;refine gB ?_;have hc2:16*(i+1)<=c':=hc';refine⟨(i+1,c'),⟨by simp only;omega,hc2⟩,by simp only;omega,Le.i [(1005,(72,0,none))] rfl ?_ rfl ?_ rfl⟩
  .exact fc
  have e1:(bK key bg text (i+1)).1=aJJ key (xKc (bK key bg text i).1 text i 16):=rfl;have e2:(bK key bg text (i+1)).2=kR 0 (bK key bg text i).2++take 16 (drop ((none:Option Nat).getD 0) (aJJ key (xKc (bK key bg text i).1 text i 16))):=by
   rw[Option.getD_none,drop_zero,List.take_of_length_le (by rw[hel];exact le_refl _)];rfl
  exact fc
 obtain rfl:i=n/16+1:=by omega
 refine Ret.i (.sl 1001 0 0 (n/16*16+16) c) [(1000,.mem false 0 [(n,.a8 text)]),(1001,.mem true (c-(n/16*16+16)) [(n/16*16+16,.a8 (bu key bg text))])] [(1001,(1005,0,none))] rfl ?_ ⟨c,by omega,rfl,rfl⟩ rfl ?_ rfl ?_ rfl
 .exact fc
 .exact fc
 have e:bu key bg text=(bK key bg text (n/16+1)).2:=by unfold bu;rw[hn]
 exact fc
end Go.Proofs.YtaehfiohjkiajaaGreat
