/- Walks. -/
import Derived.Test.YtieblfbmmbkjdaaGreatHwSha4ToSs2
import Derived.Test.YtieblfbmmbkjdaaGreatHwFe4ToAes5
import Derived.Test.YtieblfbmmbkjdaaGreatHwTabToCu6
import Derived.Test.YtieblfbmmbkjdaaGreatHx8
set_option linter.unusedSimpArgs false
set_option linter.unusedVariables false
set_option maxHeartbeats 4000000
open UInt8 (ofNat ofInt)
open List (replicate take drop drop_zero)
open Nat (le_refl)
set_option maxRecDepth 100000
namespace Go.Proofs.YtieblfbmmbkjdaaGreat
open Go Go.Sx
theorem aU5 {A B X:List UInt8} {n:Nat} (h:X=A++B) (hA:A.length=n):X.take n=A/\X.drop n=B:=by
 subst h;subst hA;exact⟨List.take_left' rfl,List.drop_left' rfl⟩
theorem aRA (key plain:List UInt8) (n m:Nat) (hk:key.length=32) (hn:plain.length=n) (hn1:n<=1024) (hm:n/16*16+32=m):
  Sx.Fn Γ.P 45 [.agg [(1,.nilp)],.a8 key,.slx 1003 0 0 m] [(1003,.mem false 0 [(m,.a8 (seB key plain))])]
  (λv M=>∃n0 U sp,U.take n=plain/\n<=n0/\U.length=n0/\v= .tup [.sl 1006 0 0 n n,.tt]/\M=[(1003,.mem false 0 [(m,.a8 (seB key plain))]),(1006,.mem true sp [(n0,.a8 U)])]):=by
 have hkl:=ms key
 have hgl:=jV key
 have hsl:=mr key
 obtain⟨N,hN⟩:∃N,n/16*16+16=N:=⟨_,rfl⟩
 have hNm:N+16=m:=by omega
 have hBl:=rP (key:=key) hn
 have hX:=aEU key plain
 have hXl:=kS (key:=kyA key) (plain:=plain) hgl hn
 have hb:=aMJ hkl hgl plain
 obtain⟨X,hXe⟩:∃X,bu (kyA key) (kyG key) plain=X:=⟨_,rfl⟩
 rw[hXe]at hX hXl hb
 rw[hN]at hXl
 rw[hm]at hBl
 obtain⟨S,hS⟩:∃S,seB key plain=S:=⟨_,rfl⟩
 rw[hS]at hX hBl⊢
 obtain⟨hT,hD⟩:=aU5 hX hXl
 have hml:=dR (kyS key) X
 have hU:=acH (kyA key) (kyG key) X N hkl hgl hXl (by omega)
 unfold aD2 at hU
 rw[hb]at hU
 have hM:=aaE (kyS key) X 32 N hsl hXl (by omega) (by omega)
 have hSz:=aUS 1024
 rw[mO (by omega) (by omega),show(1024:Int)/16*16+32=1056 by rfl]at hSz
 have hSa:=aUR ((q7 (kyS key) X).take 16) ((q7 (kyS key) X).take 16) 16 16 (by rw[zlT,hml];rfl) (by rw[zlT,hml];rfl) (by omega)
 refine aG (Γ:=Γ) (fn:=Tryz.f45) rfl rfl rfl rfl ?_
 refine gB ?_
 refine zB.i (λhc=>?_) (λ_=>?_)
 ·have hc:(m:Int)<32:=hc
  exact absurd hc (by omega)
 refine gB ?_
 refine Call.pure hSz rfl fc ?_
 rintro _ rfl
 refine gB ?_
 refine zB.i (λhc=>?_) (λ_=>?_)
 ·have hc:(m:Int)>1056:=hc
  exact absurd hc (by omega)
 refine gB ?_
 refine zB.i (λhn=>absurd trivial hn) (λ_=>?_)
 refine gB ?_
 refine Call.i (aZ7 key hk) [] rfl fc rfl trivial rfl ?_
 rintro _ _ ⟨rfl,rfl⟩
 refine gN ?_
 refine gB ?_
 refine aH.i [[],[],[1],[1,2],[],[4],[4,5],r_7,[],[],[9],[9,10],[8,9,10,11],r_8,oB] nw (by kernel_rfl) ?_
 refine gB ?_
 have eT:X=take N (drop 0 S):=by rw[drop_zero,hT]
 have eQ:(q7 (kyS key) X).take 16=take 16 (drop 0 (q7 (kyS key) X)):=by rw[drop_zero]
 have eD:(q7 (kyS key) X).take 16=take 16 (drop N S):=by
  rw[hD];rw[List.take_of_length_le (l:=(q7 (kyS key) X).take 16)];rw[zlT,hml];exact le_refl _
 refine Call.i hM [(1000,(15,0,none)),(1001,(1003,0,some 0))] rfl fc rfl fc rfl ?_
 rintro _ _ ⟨rfl,rfl⟩
 refine gN ?_
 refine gB ?_
 refine Call.i hSa [(1000,(19,0,some 0)),(1001,(1003,0,some N))] rfl fc rfl fc rfl ?_
 rintro _ _ ⟨rfl,rfl⟩
 refine gN ?_
 refine gB ?_
 refine zB.i (λhc=>absurd rfl hc) (λ_=>?_)
 refine gB ?_
 refine Call.i hU [(1000,(1003,0,some 0)),(1001,(301,0,none))] rfl fc rfl fc rfl ?_
 rintro v M' (⟨hc,_⟩|⟨n1,s,sp,h1,h2,h3,h4,h5,rfl,rfl⟩)
 ·cases hc
 cases h1
 rw[hn]at h2
 subst h2
 refine gN ?_
 refine gB ?_
 refine Ret.i (.tup [.sl 1006 0 0 n n,.tt]) [(1003,.mem false 0 [(m,.a8 S)]),(1006,.mem true sp [(N,.a8 (iV (kyA key) (kyG key) X))])] [(1006,(301,0,none))] rfl fc ⟨N,_,sp,h3,h4,h5,rfl,rfl⟩ rfl fc rfl fc rfl
end Go.Proofs.YtieblfbmmbkjdaaGreat
namespace Go.Proofs.YtieblfbmmbkjdaaGreat
open Go Go.Sx
theorem aHR {x:Te}:∀{T r:List Te} {i:Nat},fdT x T=i+1->fdT x (T++r)=i+1
 |[],_,_,h=>by simp[fdT]at h
 |y::t,r,i,h=>by
  by_cases hy:y=x
  ·simp only[fdT,if_pos hy,List.cons_append]at h⊢;exact h
  simp only[fdT,if_neg hy,List.cons_append]at h⊢
  cases hf:fdT x t with
  |zero=>rw[hf]at h;cases h
  |succ j=>rw[hf]at h;rw[aHR hf];exact h
theorem aAK {x:Te}:∀{T:List Te} {i:Nat},fdT x T=i+1->T.getD i te0=x
 |[],_,h=>by simp[fdT]at h
 |y::t,i,h=>by
  by_cases hy:y=x
  ·simp only[fdT,if_pos hy]at h
   obtain rfl:i=0:=by omega
   exact hy
  simp only[fdT,if_neg hy]at h
  cases hf:fdT x t with
  |zero=>rw[hf]at h;cases h
  |succ j=>
   rw[hf]at h
   have h:j+2=i+1:=h
   obtain rfl:i=j+1:=by omega
   exact(aAK hf:t.getD j te0=x)
def Num (T:List Te) (x:Te) (o:Nat):Prop:=fdT x T=o/\o≠0
def Ext (A B:List Te):Prop:=∀y o,Num A y o->Num B y o
theorem Ext.refl (A:List Te):Ext A A:=λ_ _ h=>h
theorem Ext.trans {A B C:List Te} (h:Ext A B) (k:Ext B C):Ext A C:=λy o n=>k y o (h y o n)
theorem Ext.mk (T:List Te) (x:Te):Ext T (mkT T x).1:=by
 rintro y o ⟨h,h0⟩
 obtain⟨i,rfl⟩:∃i,o=i+1:=⟨o-1,by omega⟩
 by_cases hV:bP x.1 x.2
 ·cases hf:fdT x T with
  |zero=>rw[kE hV hf];exact⟨aHR h,h0⟩
  |succ j=>rw[mf hV hf];exact⟨h,h0⟩
 rw[rm hV];exact⟨h,h0⟩
theorem Num.getD {T:List Te} {x:Te} {o:Nat} (h:Num T x o):T.getD (o-1) te0=x/\o<=T.length/\1<=o:=by
 obtain⟨h,h0⟩:=h
 obtain⟨i,rfl⟩:∃i,o=i+1:=⟨o-1,by omega⟩
 exact⟨aAK h,by rw[<-h];exact aHP x T,by omega⟩
theorem Num.one {T:List Te} {x:Te} {o p:Nat} (h:Num T x o) (k:Num T x p):o=p:=by rw[<-h.1,<-k.1]
theorem v1 {k:Int} (h1:1<=k) (h8:k<=8) {p:List UInt8} (hp:p.length<=4096):bP k [p]:=⟨aT7 hp,h1,h8⟩
theorem v8 {p q:List UInt8} (hp:p.length<=1024) (hq:q.length<=1024):bP 8 [p,q]:=⟨z6 hp hq,by decide,by decide⟩
end Go.Proofs.YtieblfbmmbkjdaaGreat
namespace Go.Proofs.YtieblfbmmbkjdaaGreat
open Go Go.Sx Go.Cu
theorem uv (p:List UInt8) (hp:p.length=32):Sx.Fn Γ.P 24 [.agg [(1,.nilp)],.a8 p] [] (λv _=>v= .a8 p):=by
 refine aG (Γ:=Γ) (fn:=Tryz.f24) rfl rfl rfl rfl ?_
 refine gB ?_
 repeat(first|(refine zB.i (λ_=>?_) (λhn=>absurd rfl hn))|refine ky0 ?_|refine kn0 ?_|refine sd ?_)
 refine Ret.i (.a8 p) [] [] rfl fc rfl rfl fc rfl fc rfl
def yv:List UInt8:=ofNat 9::replicate 31 0
@[irreducible] def me (s:List UInt8):List UInt8:=jG (clB s) yv
theorem nG (s:List UInt8):me s=jG (clB s) yv:=by unfold me;rfl
theorem dr (s:List UInt8):(me s).length=32:=by rw[nG];exact aR _ _
@[irreducible] def rc (s u:List UInt8):List UInt8:=jG (clB s) u
theorem oR (s u:List UInt8):rc s u=jG (clB s) u:=by unfold rc;rfl
theorem dx (s u:List UInt8):(rc s u).length=32:=by rw[oR];exact aR _ _
theorem tN (p:List UInt8) (hp:p.length=32):Sx.Fn Γ.P 41 [.agg [(1,.nilp)],.a8 p] [] (λv _=>v= .a8 (me p)):=by
 have c:=aWC p hp
 have l:=dr p
 have e:jG (clB p) (ofNat 9::replicate 31 0)=me p:=(nG p).symm
 rw[e]at c
 generalize me p=R at *
 refine aG (Γ:=Γ) (fn:=Tryz.f41) rfl rfl rfl rfl ?_
 refine gB ?_
 repeat(first|(refine zB.i (λ_=>?_) (λhn=>absurd rfl hn))|refine ky0 ?_|refine kn0 ?_|refine sd ?_)
 refine Call.pure c rfl fc ?_
 rintro _ rfl
 refine gB ?_
 refine Ret.i (.a8 R) [] [] rfl fc rfl rfl fc rfl fc rfl
theorem vP (a u:List UInt8) (ha:a.length=32) (hu:u.length=32):Sx.Fn Γ.P 42 [.agg [(1,.nilp)],.a8 a,.a8 u] [] (λv _=>v= .tup [.a8 (rc a u),.bool (¬rc a u=replicate 32 0)]):=by
 have c:=aDE a u ha hu
 have l:=dx a u
 rw[<-oR]at c
 generalize rc a u=R at *
 refine aG (Γ:=Γ) (fn:=Tryz.f42) rfl rfl rfl rfl ?_
 refine gB ?_
 repeat(first|(refine zB.i (λ_=>?_) (λhn=>absurd rfl hn))|refine ky0 ?_|refine kn0 ?_|refine sd ?_)
 refine Call.pure c rfl fc ?_
 rintro _ rfl
 refine gB ?_
 refine aH.i [[],[],[],[1,2],[0],r_5] r_6 (by kernel_rfl) ?_
 refine gE ?_
 refine Ret.i (.tup [.a8 R,.bool (¬R=replicate 32 0)]) [] [] rfl ?_ rfl rfl ?_ rfl ?_ rfl
 ·exact fc
 ·repeat' first|exact trivial|refine zA.app ?_ ?_|refine zA.zd ?_ ?_|refine zA.cons ?_ ?_|exact fc|fail
  all_goals exact Iff.rfl
 exact fc
end Go.Proofs.YtieblfbmmbkjdaaGreat
namespace Go.Proofs.YtieblfbmmbkjdaaGreat
open Go Go.Sx Go.Cu
def t6 (kd:Int) (a b:Nat):List (Nat×SV):=[(1,.i .i64 kd),(1,.i .i64 a),(1,.i .i64 b),(1,.i .i64 0),(1,.nsl),(1,.nsl)]
theorem qK (o:List UInt8) (L:List (List UInt8)) (m a b:Nat) (hL:L.length=m) (hm:m<=1000) (ha:a<m) (x:List UInt8) (hx:L.getD a []=x) (hxn:x.length=32):
  Sx.Fn Γ.P 26 [.ptr 1000 0 none,.agg (t6 6 a b)] (kiM .nilp (.isl 0 1 32 [(32,.a8 o)]) L m) (λv M=>v= .tup [.isl 0 32 1 [(32,.a8 (me x))],.tt]/\M=kiM .nilp (.isl 0 1 32 [(32,.a8 o)]) L m):=by
 have hP:=tN x hxn
 have hpl:=dr x
 generalize me x=R at *
 have hKa:=jQ o L m a hL hm ha x hx hxn
 unfold kiM at hKa⊢
 refine aG (Γ:=Γ) (fn:=Tryz.f26) rfl rfl rfl rfl ?_
 refine gB ?_
 refine Call.i hKa [(1000,(1000,0,none)),(1001,(1001,0,none))] rfl fc rfl fc rfl ?_
 rintro _ _ ⟨rfl,rfl⟩
 refine gN ?_
 repeat(first|(refine zB.i (λh=>False.elim (by revert h;first|(simp[];done)|fail)) (λ_=>?_))|(refine zB.i (λ_=>?_) (λh=>False.elim (by revert h;first|(simp[];done)|fail)))|refine gi ?_|refine gt ?_|refine sd ?_)
 refine aH.i [[],[0],[0,1],[0,1,2],[],r_5,r_6] r_7 (by kernel_rfl) ?_
 refine gA ?_
 refine Call.pure hP rfl fc ?_
 rintro _ rfl
 refine gA ?_
 refine Ret.ghost [.keep 6] [(4,0)] rfl fc rfl (.tup [.isl 0 32 1 [(32,.a8 R)],.tt]) [(1000,.mem false 0 [(1,.nilp),(1,.nsl),(1,.isl 0 1 32 [(32,.a8 o)]),(1,.slx 1001 0 0 m)]),(1001,.mem false 0 [(m*1,.arr m 1 (rwF L))])] [] rfl fc ⟨rfl,rfl⟩ rfl fc rfl fc rfl
end Go.Proofs.YtieblfbmmbkjdaaGreat
namespace Go.Proofs.YtieblfbmmbkjdaaGreat
open Go Go.Sx
def cm (kd:Int) (a b n:Nat):List (Nat×SV):=[(1,.i .i64 kd),(1,.i .i64 a),(1,.i .i64 b),(1,.i .i64 n),(1,.nsl),(1,.nsl)]
def eZ (q:List UInt8) (n:Nat):List (Nat×SV):=[(1,.i .i64 1),(1,.i .i64 0),(1,.i .i64 0),(1,.i .i64 0),(1,.isl 0 n 1 [(n,.a8 q)]),(1,.nsl)]
theorem mG (o:List UInt8) (ho:o.length=32) (L:List (List UInt8)) (m:Nat):
  Sx.Fn Γ.P 12 [.ptr 1000 0 none,.agg (cm 13 0 0 0)] (kiM .nilp (.isl 0 1 32 [(32,.a8 o)]) L m) (λv M=>v= .tup [.isl 0 32 1 [(32,.a8 o)],.tt]/\M=kiM .nilp (.isl 0 1 32 [(32,.a8 o)]) L m):=by
 unfold kiM
 refine aG (Γ:=Γ) (fn:=Tryz.f12) rfl rfl rfl rfl ?_
 repeat(first|(refine zB.i (λh=>False.elim (by revert h;first|(simp[];done)|fail)) (λ_=>?_))|(refine zB.i (λ_=>?_) (λh=>False.elim (by revert h;first|(simp[];done)|fail)))|refine gi ?_|refine gt ?_|refine sd ?_)
 refine aH.i [[],[0],[0,1],[0,1,2],r_4,r_5,r_4,[0,1,2,3,6],[0,1,2,3,6,7],[0,1,2,3,6,7,8],[0,1,2,3,6,7,8,9],fe,kX] jO (by kernel_rfl) ?_
 repeat(first|(refine zB.i (λh=>False.elim (by revert h;first|(simp[];done)|fail)) (λ_=>?_))|(refine zB.i (λ_=>?_) (λh=>False.elim (by revert h;first|(simp[];done)|fail)))|refine gi ?_|refine gt ?_|refine sd ?_)
 refine aH.i [[],[0],[0,1],[0,1,2],[],[4],r_6,r_7,r_8,r_9] ek (by kernel_rfl) ?_
 repeat(first|(refine zB.i (λh=>False.elim (by revert h;first|(simp[];done)|fail)) (λ_=>?_))|(refine zB.i (λ_=>?_) (λh=>False.elim (by revert h;first|(simp[];done)|fail)))|refine gi ?_|refine gt ?_|refine sd ?_)
 refine Ret.i (.tup [.isl 0 32 1 [(32,.a8 o)],.tt]) [(1000,.mem false 0 [(1,.nilp),(1,.nsl),(1,.isl 0 1 32 [(32,.a8 o)]),(1,.slx 1001 0 0 m)]),(1001,.mem false 0 [(m*1,.arr m 1 (rwF L))])] [] rfl fc ⟨rfl,rfl⟩ rfl fc rfl fc rfl
theorem ib (o:List UInt8) (L:List (List UInt8)) (m:Nat) (q:List UInt8) (n:Nat) (hq:q.length=n) (hn:n<=12) (hc:¬Lib.contains q trmB=true):
  Sx.Fn Γ.P 12 [.ptr 1000 0 none,.agg (eZ q n)] (kiM .nilp (.isl 0 1 32 [(32,.a8 o)]) L m) (λv M=>v= .tup [.isl 0 n 1 [(n,.a8 q)],.tt]/\M=kiM .nilp (.isl 0 1 32 [(32,.a8 o)]) L m):=by
 have h1:(n:Int)<=12:=by omega
 have hC:=gK q (by omega)
 unfold kiM
 refine aG (Γ:=Γ) (fn:=Tryz.f12) rfl rfl rfl rfl ?_
 repeat(first|(refine zB.i (λh=>False.elim (by revert h;first|(simp[];done)|fail)) (λ_=>?_))|(refine zB.i (λ_=>?_) (λh=>False.elim (by revert h;first|(simp[];done)|fail)))|refine gi ?_|refine gt ?_|refine sd ?_)
 refine aH.i [[],[0],[],[2],[2,3],[2,3,4],[2,3,4,5],[2,3,4,5,6],[2,3,4,5,6,7],[2,3,4,5,6,7,8],[2,3,4,5,6,7,8,9],[2,3,4,5,6,7,8,9,10],[2,3,4,5,6,7,8,9,10,11],fe,oB] nw (by kernel_rfl) ?_
 repeat(first|(refine zB.i (λh=>False.elim (by revert h;first|(simp[h1];done)|fail)) (λ_=>?_))|(refine zB.i (λ_=>?_) (λh=>False.elim (by revert h;first|(simp[h1];done)|fail)))|refine gi ?_|refine gt ?_|refine sd ?_)
 have eq:take n (drop 0 q)=q:=by rw[drop_zero,List.take_of_length_le (by omega)]
 refine Call.i hC [] rfl ?_ rfl ?_ rfl ?_
 ·repeat' first|exact trivial|refine zA.app ?_ ?_|refine zA.zd ?_ ?_|refine zA.cons ?_ ?_|exact fc|fail
  all_goals exact eq.symm
 ·exact fc
 rintro _ _ ⟨rfl,rfl⟩
 refine gN ?_
 repeat(first|(refine zB.i (λh=>False.elim (by revert h;first|(simp[h1,hc];done)|fail)) (λ_=>?_))|(refine zB.i (λ_=>?_) (λh=>False.elim (by revert h;first|(simp[h1,hc];done)|fail)))|refine gi ?_|refine gt ?_|refine sd ?_)
 refine Ret.i (.tup [.isl 0 n 1 [(n,.a8 q)],.tt]) [(1000,.mem false 0 [(1,.nilp),(1,.nsl),(1,.isl 0 1 32 [(32,.a8 o)]),(1,.slx 1001 0 0 m)]),(1001,.mem false 0 [(m*1,.arr m 1 (rwF L))])] [] rfl ?_ ⟨rfl,rfl⟩ rfl ?_ rfl ?_ rfl
 ·exact fc
 ·repeat' first|exact trivial|refine zA.app ?_ ?_|refine zA.zd ?_ ?_|refine zA.cons ?_ ?_|exact fc|fail
  all_goals exact Or.inl ⟨h1,hc⟩
 exact fc
def x8 (q:List UInt8):Prop:=∃i,i+4<=q.length/\(q.drop i).take 4=trmB
theorem fn5 (q:List UInt8) (n:Nat) (hq:q.length=n) (hn:n<=12):Sx.Fn Γ.P 5 [.isl 0 n 1 [(n,.a8 q)]] [] (λv M=>v= .bool (¬x8 q)/\M=[]):=by
 refine aG (Γ:=Γ) (fn:=Tryz.f5) rfl rfl rfl rfl ?_
 refine gB ?_
 refine aY.i (σ:=Nat) (λi=>i<=n+1/\∀j,j<i->¬(j+4<=n/\(q.drop j).take 4=trmB)) (λi=>([(0,.isl 0 n 1 [(n,.a8 q)]),(3,.i .i64 i)],[])) (λi=>n+4-i) 0 ⟨by omega,λj h=>absurd h (Nat.not_lt_zero j)⟩ ?_ ?_
 ·refine Le.i [] rfl fc rfl fc rfl
 rintro i ⟨hi0,hi⟩
 have hi0:i<=n+1:=hi0
 have e1:((i:Int)+4).toNat-((i:Int)).toNat=4:=by omega
 have e2:fL 0 ((i:Int)).toNat=i:=by rw[zQ,Nat.zero_add,zIn]
 refine gB ?_
 refine zB.i ?_ ?_<;>intro hb
 ·have hb:(i:Int)+4<=(n:Int):=hb
  refine gB ?_
  refine zB.i ?_ ?_<;>intro he
  ·have he:take (((i:Int)+4).toNat-((i:Int)).toNat) (drop (fL 0 ((i:Int)).toNat) q)=trmB:=he
   rw[e1,e2]at he
   refine gB ?_
   refine Ret.i (.bool (¬x8 q)) [] [] rfl ?_ ⟨rfl,rfl⟩ rfl ?_ rfl ?_ rfl
   ·exact fc
   ·repeat' first|exact trivial|refine zA.app ?_ ?_|refine zA.zd ?_ ?_|refine zA.cons ?_ ?_|exact fc|fail
    all_goals exactλh=>h ⟨i,by omega,he⟩
   exact fc
  have he:¬take (((i:Int)+4).toNat-((i:Int)).toNat) (drop (fL 0 ((i:Int)).toNat) q)=trmB:=he
  rw[e1,e2]at he
  refine gB ?_
  refine⟨i+1,⟨by omega,λj hj=>?_⟩,by omega,Le.i [] rfl ?_ rfl ?_ rfl⟩
  ·rcases Nat.lt_or_ge j i with h|h
   ·exact hi j h
   obtain rfl:j=i:=by omega
   exactλk=>he k.2
  ·exact fc
  exact fc
 have hb:¬(i:Int)+4<=(n:Int):=hb
 refine gB ?_
 have hno:¬x8 q:=by
  rintro⟨j,h1,h2⟩
  rcases Nat.lt_or_ge j i with h|h
  ·exact hi j h ⟨by omega,h2⟩
  omega
 refine Ret.i (.bool (¬x8 q)) [] [] rfl ?_ ⟨rfl,rfl⟩ rfl ?_ rfl ?_ rfl
 ·exact fc
 ·repeat' first|exact trivial|refine zA.app ?_ ?_|refine zA.zd ?_ ?_|refine zA.cons ?_ ?_|exact fc|fail
  all_goals exact hno
 exact fc
end Go.Proofs.YtieblfbmmbkjdaaGreat
namespace Go.Proofs.YtieblfbmmbkjdaaGreat
open Go Go.Sx Go.Cu
theorem pu (o:List UInt8) (L:List (List UInt8)) (m a b n:Nat) (r:List UInt8)
  (h:Sx.Fn Γ.P 26 [.ptr 1000 0 none,.agg (t6 6 a b)] (kiM .nilp (.isl 0 1 32 [(32,.a8 o)]) L m) (λv M=>v= .tup [.isl 0 n 1 [(n,.a8 r)],.tt]/\M=kiM .nilp (.isl 0 1 32 [(32,.a8 o)]) L m)):
  Sx.Fn Γ.P 12 [.ptr 1000 0 none,.agg (cm 6 a b 0)] (kiM .nilp (.isl 0 1 32 [(32,.a8 o)]) L m) (λv M=>v= .tup [.isl 0 n 1 [(n,.a8 r)],.tt]/\M=kiM .nilp (.isl 0 1 32 [(32,.a8 o)]) L m):=by
 unfold kiM at h⊢
 refine aG (Γ:=Γ) (fn:=Tryz.f12) rfl rfl rfl rfl ?_
 repeat(first|(refine zB.i (λh=>False.elim (by revert h;first|(simp[];done)|fail)) (λ_=>?_))|(refine zB.i (λ_=>?_) (λh=>False.elim (by revert h;first|(simp[];done)|fail)))|refine gi ?_|refine gt ?_|refine sd ?_)
 refine Call.i h [(1000,(1000,0,none)),(1001,(1001,0,none))] rfl fc rfl fc rfl ?_
 rintro _ _ ⟨rfl,rfl⟩
 refine gN ?_
 repeat(first|(refine zB.i (λh=>False.elim (by revert h;first|(simp[];done)|fail)) (λ_=>?_))|(refine zB.i (λ_=>?_) (λh=>False.elim (by revert h;first|(simp[];done)|fail)))|refine gi ?_|refine gt ?_|refine sd ?_)
 refine Ret.i (.tup [.isl 0 n 1 [(n,.a8 r)],.tt]) [(1000,.mem false 0 [(1,.nilp),(1,.nsl),(1,.isl 0 1 32 [(32,.a8 o)]),(1,.slx 1001 0 0 m)]),(1001,.mem false 0 [(m*1,.arr m 1 (rwF L))])] [] rfl fc ⟨rfl,rfl⟩ rfl fc rfl fc rfl
theorem pc (o:List UInt8) (L:List (List UInt8)) (m a b n:Nat) (r:List UInt8)
  (h:Sx.Fn Γ.P 26 [.ptr 1000 0 none,.agg (t6 8 a b)] (kiM .nilp (.isl 0 1 32 [(32,.a8 o)]) L m) (λv M=>v= .tup [.isl 0 n 1 [(n,.a8 r)],.tt]/\M=kiM .nilp (.isl 0 1 32 [(32,.a8 o)]) L m)):
  Sx.Fn Γ.P 12 [.ptr 1000 0 none,.agg (cm 8 a b 0)] (kiM .nilp (.isl 0 1 32 [(32,.a8 o)]) L m) (λv M=>v= .tup [.isl 0 n 1 [(n,.a8 r)],.tt]/\M=kiM .nilp (.isl 0 1 32 [(32,.a8 o)]) L m):=by
 unfold kiM at h⊢
 refine aG (Γ:=Γ) (fn:=Tryz.f12) rfl rfl rfl rfl ?_
 repeat(first|(refine zB.i (λh=>False.elim (by revert h;first|(simp[];done)|fail)) (λ_=>?_))|(refine zB.i (λ_=>?_) (λh=>False.elim (by revert h;first|(simp[];done)|fail)))|refine gi ?_|refine gt ?_|refine sd ?_)
 refine Call.i h [(1000,(1000,0,none)),(1001,(1001,0,none))] rfl fc rfl fc rfl ?_
 rintro _ _ ⟨rfl,rfl⟩
 refine gN ?_
 repeat(first|(refine zB.i (λh=>False.elim (by revert h;first|(simp[];done)|fail)) (λ_=>?_))|(refine zB.i (λ_=>?_) (λh=>False.elim (by revert h;first|(simp[];done)|fail)))|refine gi ?_|refine gt ?_|refine sd ?_)
 refine Ret.i (.tup [.isl 0 n 1 [(n,.a8 r)],.tt]) [(1000,.mem false 0 [(1,.nilp),(1,.nsl),(1,.isl 0 1 32 [(32,.a8 o)]),(1,.slx 1001 0 0 m)]),(1001,.mem false 0 [(m*1,.arr m 1 (rwF L))])] [] rfl fc ⟨rfl,rfl⟩ rfl fc rfl fc rfl
theorem pb (o:List UInt8) (L:List (List UInt8)) (m a b n:Nat) (r:List UInt8)
  (h:Sx.Fn Γ.P 26 [.ptr 1000 0 none,.agg (t6 9 a b)] (kiM .nilp (.isl 0 1 32 [(32,.a8 o)]) L m) (λv M=>v= .tup [.isl 0 n 1 [(n,.a8 r)],.tt]/\M=kiM .nilp (.isl 0 1 32 [(32,.a8 o)]) L m)):
  Sx.Fn Γ.P 12 [.ptr 1000 0 none,.agg (cm 9 a b 0)] (kiM .nilp (.isl 0 1 32 [(32,.a8 o)]) L m) (λv M=>v= .tup [.isl 0 n 1 [(n,.a8 r)],.tt]/\M=kiM .nilp (.isl 0 1 32 [(32,.a8 o)]) L m):=by
 unfold kiM at h⊢
 refine aG (Γ:=Γ) (fn:=Tryz.f12) rfl rfl rfl rfl ?_
 repeat(first|(refine zB.i (λh=>False.elim (by revert h;first|(simp[];done)|fail)) (λ_=>?_))|(refine zB.i (λ_=>?_) (λh=>False.elim (by revert h;first|(simp[];done)|fail)))|refine gi ?_|refine gt ?_|refine sd ?_)
 refine Call.i h [(1000,(1000,0,none)),(1001,(1001,0,none))] rfl fc rfl fc rfl ?_
 rintro _ _ ⟨rfl,rfl⟩
 refine gN ?_
 repeat(first|(refine zB.i (λh=>False.elim (by revert h;first|(simp[];done)|fail)) (λ_=>?_))|(refine zB.i (λ_=>?_) (λh=>False.elim (by revert h;first|(simp[];done)|fail)))|refine gi ?_|refine gt ?_|refine sd ?_)
 refine Ret.i (.tup [.isl 0 n 1 [(n,.a8 r)],.tt]) [(1000,.mem false 0 [(1,.nilp),(1,.nsl),(1,.isl 0 1 32 [(32,.a8 o)]),(1,.slx 1001 0 0 m)]),(1001,.mem false 0 [(m*1,.arr m 1 (rwF L))])] [] rfl fc ⟨rfl,rfl⟩ rfl fc rfl fc rfl
theorem nq (o:List UInt8) (L:List (List UInt8)) (m a b n:Nat) (r:List UInt8)
  (h:Sx.Fn Γ.P 26 [.ptr 1000 0 none,.agg (t6 11 a b)] (kiM .nilp (.isl 0 1 32 [(32,.a8 o)]) L m) (λv M=>v= .tup [.isl 0 n 1 [(n,.a8 r)],.tt]/\M=kiM .nilp (.isl 0 1 32 [(32,.a8 o)]) L m)):
  Sx.Fn Γ.P 12 [.ptr 1000 0 none,.agg (cm 11 a b 0)] (kiM .nilp (.isl 0 1 32 [(32,.a8 o)]) L m) (λv M=>v= .tup [.isl 0 n 1 [(n,.a8 r)],.tt]/\M=kiM .nilp (.isl 0 1 32 [(32,.a8 o)]) L m):=by
 unfold kiM at h⊢
 refine aG (Γ:=Γ) (fn:=Tryz.f12) rfl rfl rfl rfl ?_
 repeat(first|(refine zB.i (λh=>False.elim (by revert h;first|(simp[];done)|fail)) (λ_=>?_))|(refine zB.i (λ_=>?_) (λh=>False.elim (by revert h;first|(simp[];done)|fail)))|refine gi ?_|refine gt ?_|refine sd ?_)
 refine Call.i h [(1000,(1000,0,none)),(1001,(1001,0,none))] rfl fc rfl fc rfl ?_
 rintro _ _ ⟨rfl,rfl⟩
 refine gN ?_
 repeat(first|(refine zB.i (λh=>False.elim (by revert h;first|(simp[];done)|fail)) (λ_=>?_))|(refine zB.i (λ_=>?_) (λh=>False.elim (by revert h;first|(simp[];done)|fail)))|refine gi ?_|refine gt ?_|refine sd ?_)
 refine Ret.i (.tup [.isl 0 n 1 [(n,.a8 r)],.tt]) [(1000,.mem false 0 [(1,.nilp),(1,.nsl),(1,.isl 0 1 32 [(32,.a8 o)]),(1,.slx 1001 0 0 m)]),(1001,.mem false 0 [(m*1,.arr m 1 (rwF L))])] [] rfl fc ⟨rfl,rfl⟩ rfl fc rfl fc rfl
theorem np (o:List UInt8) (L:List (List UInt8)) (m a b n:Nat) (r:List UInt8)
  (h:Sx.Fn Γ.P 26 [.ptr 1000 0 none,.agg (t6 12 a b)] (kiM .nilp (.isl 0 1 32 [(32,.a8 o)]) L m) (λv M=>v= .tup [.isl 0 n 1 [(n,.a8 r)],.tt]/\M=kiM .nilp (.isl 0 1 32 [(32,.a8 o)]) L m)):
  Sx.Fn Γ.P 12 [.ptr 1000 0 none,.agg (cm 12 a b 0)] (kiM .nilp (.isl 0 1 32 [(32,.a8 o)]) L m) (λv M=>v= .tup [.isl 0 n 1 [(n,.a8 r)],.tt]/\M=kiM .nilp (.isl 0 1 32 [(32,.a8 o)]) L m):=by
 unfold kiM at h⊢
 refine aG (Γ:=Γ) (fn:=Tryz.f12) rfl rfl rfl rfl ?_
 repeat(first|(refine zB.i (λh=>False.elim (by revert h;first|(simp[];done)|fail)) (λ_=>?_))|(refine zB.i (λ_=>?_) (λh=>False.elim (by revert h;first|(simp[];done)|fail)))|refine gi ?_|refine gt ?_|refine sd ?_)
 refine Call.i h [(1000,(1000,0,none)),(1001,(1001,0,none))] rfl fc rfl fc rfl ?_
 rintro _ _ ⟨rfl,rfl⟩
 refine gN ?_
 repeat(first|(refine zB.i (λh=>False.elim (by revert h;first|(simp[];done)|fail)) (λ_=>?_))|(refine zB.i (λ_=>?_) (λh=>False.elim (by revert h;first|(simp[];done)|fail)))|refine gi ?_|refine gt ?_|refine sd ?_)
 refine Ret.i (.tup [.isl 0 n 1 [(n,.a8 r)],.tt]) [(1000,.mem false 0 [(1,.nilp),(1,.nsl),(1,.isl 0 1 32 [(32,.a8 o)]),(1,.slx 1001 0 0 m)]),(1001,.mem false 0 [(m*1,.arr m 1 (rwF L))])] [] rfl fc ⟨rfl,rfl⟩ rfl fc rfl fc rfl
@[irreducible] def frB (N:Nat):List UInt8:=ofNat 0::ofNat 251::ofInt ((N:Int)/2^8)::ofInt (N:Int)::replicate 28 0
theorem fV (N:Nat):(frB N).length=32:=by unfold frB;rfl
theorem oD (o:List UInt8) (L:List (List UInt8)) (m N:Nat) (hN:N<=65535):
  Sx.Fn Γ.P 12 [.ptr 1000 0 none,.agg (cm 5 0 0 N)] (kiM .nilp (.isl 0 1 32 [(32,.a8 o)]) L m) (λv M=>v= .tup [.isl 0 32 1 [(32,.a8 (frB N))],.tt]/\M=kiM .nilp (.isl 0 1 32 [(32,.a8 o)]) L m):=by
 have h0:¬(N:Int)<0:=by omega
 have h1:¬(65535:Int)<(N:Int):=by omega
 have hF:=uv (frB N) (fV N)
 have hl:=fV N
 have hf:ofNat 0::ofNat 251::ofInt ((N:Int)/2^8)::ofInt (N:Int)::replicate 28 0=frB N:=by unfold frB;rfl
 generalize frB N=R at *
 unfold kiM
 refine aG (Γ:=Γ) (fn:=Tryz.f12) rfl rfl rfl rfl ?_
 repeat(first|(refine zB.i (λh=>False.elim (by revert h;first|(simp[];done)|fail)) (λ_=>?_))|(refine zB.i (λ_=>?_) (λh=>False.elim (by revert h;first|(simp[];done)|fail)))|refine gi ?_|refine gt ?_|refine sd ?_)
 repeat(first|(refine zB.i (λh=>False.elim (by revert h;first|(simp[h0,h1];done)|fail)) (λ_=>?_))|(refine zB.i (λ_=>?_) (λh=>False.elim (by revert h;first|(simp[h0,h1];done)|fail)))|refine gi ?_|refine gt ?_|refine sd ?_)
 refine aH.i [[],[0],[0,1],[0,1,2],[],[4],[4,5],[4,5,6],[],[8],[8,9],[4,5,6,7,8,9,10],kX,[],oB] [0,1,2,3,4,5,6,7,8,9,10,11,13,12,14] (by kernel_rfl) ?_
 repeat(first|(refine zB.i (λh=>False.elim (by revert h;first|(simp[];done)|fail)) (λ_=>?_))|(refine zB.i (λ_=>?_) (λh=>False.elim (by revert h;first|(simp[];done)|fail)))|refine gi ?_|refine gt ?_|refine sd ?_)
 refine Call.pure hF rfl ?_ ?_
 ·repeat' first|exact trivial|refine zA.app ?_ ?_|refine zA.zd ?_ ?_|refine zA.cons ?_ ?_|exact fc|fail
  all_goals exact hf.symm
 rintro _ rfl
 repeat(first|(refine zB.i (λh=>False.elim (by revert h;first|(simp[];done)|fail)) (λ_=>?_))|(refine zB.i (λ_=>?_) (λh=>False.elim (by revert h;first|(simp[];done)|fail)))|refine gi ?_|refine gt ?_|refine sd ?_)
 refine Ret.ghost [.keep 12] [(4,0)] rfl fc rfl (.tup [.isl 0 32 1 [(32,.a8 R)],.tt]) [(1000,.mem false 0 [(1,.nilp),(1,.nsl),(1,.isl 0 1 32 [(32,.a8 o)]),(1,.slx 1001 0 0 m)]),(1001,.mem false 0 [(m*1,.arr m 1 (rwF L))])] [] rfl fc ⟨rfl,rfl⟩ rfl fc rfl fc rfl
end Go.Proofs.YtieblfbmmbkjdaaGreat
namespace Go.Proofs.YtieblfbmmbkjdaaGreat
open Go Go.Sx
theorem xK {P:Program} {f:FuncId} {args:List SV} {M0:Mm} {R R':SV->Mm->Prop} (h:Sx.Fn P f args M0 R) (hR:∀v M,R v M->R' v M\/(v= .nsl/\R' (.isl 0 0 1 [(0,.a8 [])]) M)):Sx.Fn P f args M0 R':=by
 intro ρ xs w a b
 refine Calls.mono (h ρ xs w a b) ?_
 rintro e w' ⟨v,x,ρ',M',e1,e2,e3,e4,e5,e6⟩
 rcases hR v M' e3 with k|⟨rfl,k⟩
 ·exact⟨v,x,ρ',M',e1,e2,k,e4,e5,e6⟩
 have e2:x= .slice none 0 0:=e2
 have hh:zRT ρ' (.isl 0 0 1 [(0,.a8 [])]) x:=show Rel ρ' (.isl 0 0 1 [(0,.a8 [])]) x from⟨0,0,0,none,Or.inr ⟨rfl,rfl,trivial⟩,le_refl _,e2,λh=>absurd rfl h⟩
 exact⟨.isl 0 0 1 [(0,.a8 [])],x,ρ',M',e1,hh,k,e4,e5,e6⟩
theorem kA (b:List UInt8) (n i m:Nat) (hb:b.length=n) (hm:i+m<=n) (hm1:m<=1000000) (hn:n<=maxLen):
  Sx.Fn Γ.P 13 [.isl i m 1 [(n,.a8 b)]] [] (λv M=>v= .isl 0 m 1 [(m,.a8 ((b.drop i).take m))]/\M=[]):=by
 have hmx:maxLen=9223372036854775807:=by decide
 refine xK (R:=λv M=>(v= .isl 0 m 1 [(m,.a8 ((b.drop i).take m))]/\M=[])\/(m=0/\v= .nsl/\M=[])) ?_ ?_
 ·refine aG (Γ:=Γ) (fn:=Tryz.f13) rfl rfl rfl rfl ?_
  refine gB ?_
  refineλp hp=>?_
  refine gB ?_
  refine zB.i ?_ ?_<;>intro hc
  ·have h0:m=0:=by
    rcases Nat.eq_zero_or_pos m with h|h
    ·exact h
    exact absurd hc (hp h)
   refine gB ?_
   refine Ret.i .nsl [] [] rfl fc (Or.inr ⟨h0,rfl,rfl⟩) rfl fc rfl fc rfl
  refine gB ?_
  refineλc hc=>?_
  have hc:0+m<=c:=hc
  have hl:((b.drop i).take m).length=m:=by rw[zlT,zlD];omega
  refine gB ?_
  refine Ret.ghost [.keep 7] [(2,0)] rfl fc rfl (.isl 0 m 1 [(m,.a8 ((b.drop i).take m))]) [] [] rfl fc (Or.inl ⟨rfl,rfl⟩) rfl fc rfl fc rfl
 rintro v M (h|⟨rfl,rfl,rfl⟩)
 ·exact Or.inl h
 exact Or.inr ⟨rfl,rfl,rfl⟩
end Go.Proofs.YtieblfbmmbkjdaaGreat
namespace Go.Proofs.YtieblfbmmbkjdaaGreat
open Go Go.Sx Go.Cu
theorem aC {x:List UInt8} {A:List (List UInt8)} {k z:Nat} (hk:A.length=k) (hx:x.length=z):∀q,q<k+1->rwF (A++[x]) q=aDH k (om 0 (rwF A)) (aM9 [[(1,.isl 0 z 1 [(z,.a8 x)])]]) q:=by
 intro q hq
 subst hx
 rw[wR hk q hq]
 by_cases h:q<k
 ·rw[aIY h,aIY h,lq,Nat.zero_add]
 rw[aIZ (Nat.le_of_not_lt h),aIZ (Nat.le_of_not_lt h),Nat.mul_one]
theorem xc (o q:List UInt8) (n:Nat) (r2:List UInt8) (l2:Nat) (ho:o.length=32) (hq:q.length=n) (hn:n<=12) (hr2:r2.length=l2) (hl2:l2<=8192)
  (h0:Sx.Fn Γ.P 12 [.ptr 1000 0 none,.agg (cm 13 0 0 0)] (kiM .nilp (.isl 0 1 32 [(32,.a8 o)]) [] 0) (λv M=>v= .tup [.isl 0 32 1 [(32,.a8 o)],.tt]/\M=kiM .nilp (.isl 0 1 32 [(32,.a8 o)]) [] 0))
  (h1:Sx.Fn Γ.P 12 [.ptr 1000 0 none,.agg (eZ q n)] (kiM .nilp (.isl 0 1 32 [(32,.a8 o)]) [o] 1) (λv M=>v= .tup [.isl 0 n 1 [(n,.a8 q)],.tt]/\M=kiM .nilp (.isl 0 1 32 [(32,.a8 o)]) [o] 1))
  (h2:Sx.Fn Γ.P 12 [.ptr 1000 0 none,.agg (cm 9 0 1 0)] (kiM .nilp (.isl 0 1 32 [(32,.a8 o)]) [o,q] 2) (λv M=>v= .tup [.isl 0 l2 1 [(l2,.a8 r2)],.tt]/\M=kiM .nilp (.isl 0 1 32 [(32,.a8 o)]) [o,q] 2)):
  Sx.Fn Γ.P 7 [.agg [(1,.nilp)],.slx 1004 0 0 3,.nsl,.isl 0 1 32 [(32,.a8 o)]] [(1004,.mem false 0 [(3*6,.arr 3 6 (aM9 [cm 13 0 0 0,eZ q n,cm 9 0 1 0]))])]
  (λv M=>v= .tup [.isl 0 l2 1 [(l2,.a8 r2)],.tt]/\M=[(1004,.mem false 0 [(3*6,.arr 3 6 (aM9 [cm 13 0 0 0,eZ q n,cm 9 0 1 0]))])]):=by
 unfold kiM at h0 h1 h2
 have hbd:(Tryz.f7).body=some (.seq _ (.scope _)):=rfl
 refine aLP [] (Γ:=Γ) (fn:=Tryz.f7) rfl hbd rfl rfl ?_
 clear hbd
 refine gB ?_
 refine qd.i (σ:=Unit) [] (λ_ _=>True) (λ_ _=>([],[])) (λ_ _=>0) rfl ?_ trivial
 repeat(first|(refine zB.i (λh=>False.elim (by revert h;first|(simp[];done)|fail)) (λ_=>?_))|(refine zB.i (λ_=>?_) (λh=>False.elim (by revert h;first|(simp[];done)|fail)))|refine gi ?_|refine gt ?_|refine sd ?_)
 refine aY.i (σ:=Nat×Nat) (λs=>s.1<=3/\s.1<=s.2)
  (λs=>([(10,.ptr 19 0 none),(28,.slx 1004 0 0 3),(29,.i .i64 3),(30,.i .i64 (s.1:Int))],
   [(19,.mem true 0 [(1,.nilp),(1,.nsl),(1,.isl 0 1 32 [(32,.a8 o)]),(1,.sl 204 0 0 s.1 s.2)]),(204,.mem true (zmE (s.2-s.1) 1) [(s.1*1,.arr s.1 1 (rwF ([o,q,r2].take s.1)))]),(1004,.mem false 0 [(3*6,.arr 3 6 (aM9 [cm 13 0 0 0,eZ q n,cm 9 0 1 0]))])]))
  (λs=>3-s.1) (0,0) ⟨Nat.zero_le _,le_refl _⟩ ?_ ?_
 ·refine Le.ghost [.own 204 [(0*1,.arr 0 1 (rwF []))],.leaf 19 3 204] [] [(19,(19,0,none)),(204,(204,0,none)),(1004,(1004,0,none))] rfl ?_ rfl rfl ?_ rfl ?_ rfl
  ·repeat' first|exact trivial|refine zA.app ?_ ?_|refine zA.zd ?_ ?_|refine zA.cons ?_ ?_|exact fc|fail
   all_goals first|exact⟨rfl,rfl,trivial⟩|trace_state
  ·exact fc
  exact fc
 have e0:¬(8192:Int)<((32:Nat):Int):=by omega
 have e1:¬(8192:Int)<(n:Int):=by omega
 have e2:¬(8192:Int)<(l2:Int):=by omega
 rintro⟨i,c⟩ ⟨hi,hc⟩
 have hi:i<=3:=hi
 have hc:i<=c:=hc
 refine gB ?_
 refine zB.i ?_ ?_<;>intro hb
 ·have hb:(i:Int)<3:=hb
  have hi3:i=0\/i=1\/i=2:=by omega
  rcases hi3 with rfl|rfl|rfl
  ·repeat(first|(refine zB.i (λh=>False.elim (by revert h;first|(simp[];done)|fail)) (λ_=>?_))|(refine zB.i (λ_=>?_) (λh=>False.elim (by revert h;first|(simp[];done)|fail)))|refine gi ?_|refine gt ?_|refine sd ?_)
   refine Call.i h0 [(1000,(19,0,none)),(1001,(204,0,none))] rfl fc rfl fc rfl ?_
   rintro _ _ ⟨rfl,rfl⟩
   refine gN ?_
   repeat(first|(refine zB.i (λh=>False.elim (by revert h;first|(simp[e0];done)|fail)) (λ_=>?_))|(refine zB.i (λ_=>?_) (λh=>False.elim (by revert h;first|(simp[e0];done)|fail)))|refine gi ?_|refine gt ?_|refine sd ?_)
   refineλc' hc'=>?_
   have hc':0+1<=c':=hc'
   repeat(first|(refine zB.i (λh=>False.elim (by revert h;first|(simp[];done)|fail)) (λ_=>?_))|(refine zB.i (λ_=>?_) (λh=>False.elim (by revert h;first|(simp[];done)|fail)))|refine gi ?_|refine gt ?_|refine sd ?_)
   refine⟨(0+1,c'),⟨by show 0+1<=3;omega,hc'⟩,by show 3-(0+1)<3-0;omega,Le.i [(19,(19,0,none)),(204,(54,0,none)),(1004,(1004,0,none))] rfl ?_ rfl ?_ rfl⟩
   ·exact fc
   repeat' first|exact trivial|refine zA.app ?_ ?_|refine zA.zd ?_ ?_|refine zA.cons ?_ ?_|exact fc|fail
   all_goals first|exact aC (A:=[]) rfl ho|trace_state
  ·repeat(first|(refine zB.i (λh=>False.elim (by revert h;first|(simp[];done)|fail)) (λ_=>?_))|(refine zB.i (λ_=>?_) (λh=>False.elim (by revert h;first|(simp[];done)|fail)))|refine gi ?_|refine gt ?_|refine sd ?_)
   refine Call.i h1 [(1000,(19,0,none)),(1001,(204,0,none))] rfl fc rfl fc rfl ?_
   rintro _ _ ⟨rfl,rfl⟩
   refine gN ?_
   repeat(first|(refine zB.i (λh=>False.elim (by revert h;first|(simp[e1];done)|fail)) (λ_=>?_))|(refine zB.i (λ_=>?_) (λh=>False.elim (by revert h;first|(simp[e1];done)|fail)))|refine gi ?_|refine gt ?_|refine sd ?_)
   refineλc' hc'=>?_
   have hc':1+1<=c':=hc'
   repeat(first|(refine zB.i (λh=>False.elim (by revert h;first|(simp[];done)|fail)) (λ_=>?_))|(refine zB.i (λ_=>?_) (λh=>False.elim (by revert h;first|(simp[];done)|fail)))|refine gi ?_|refine gt ?_|refine sd ?_)
   refine⟨(1+1,c'),⟨by show 1+1<=3;omega,hc'⟩,by show 3-(1+1)<3-1;omega,Le.i [(19,(19,0,none)),(204,(54,0,none)),(1004,(1004,0,none))] rfl ?_ rfl ?_ rfl⟩
   ·exact fc
   repeat' first|exact trivial|refine zA.app ?_ ?_|refine zA.zd ?_ ?_|refine zA.cons ?_ ?_|exact fc|fail
   all_goals first|exact aC (A:=[o]) rfl hq|trace_state
  repeat(first|(refine zB.i (λh=>False.elim (by revert h;first|(simp[];done)|fail)) (λ_=>?_))|(refine zB.i (λ_=>?_) (λh=>False.elim (by revert h;first|(simp[];done)|fail)))|refine gi ?_|refine gt ?_|refine sd ?_)
  refine Call.i h2 [(1000,(19,0,none)),(1001,(204,0,none))] rfl fc rfl fc rfl ?_
  rintro _ _ ⟨rfl,rfl⟩
  refine gN ?_
  repeat(first|(refine zB.i (λh=>False.elim (by revert h;first|(simp[e2];done)|fail)) (λ_=>?_))|(refine zB.i (λ_=>?_) (λh=>False.elim (by revert h;first|(simp[e2];done)|fail)))|refine gi ?_|refine gt ?_|refine sd ?_)
  refineλc' hc'=>?_
  have hc':2+1<=c':=hc'
  repeat(first|(refine zB.i (λh=>False.elim (by revert h;first|(simp[];done)|fail)) (λ_=>?_))|(refine zB.i (λ_=>?_) (λh=>False.elim (by revert h;first|(simp[];done)|fail)))|refine gi ?_|refine gt ?_|refine sd ?_)
  refine⟨(2+1,c'),⟨by show 2+1<=3;omega,hc'⟩,by show 3-(2+1)<3-2;omega,Le.i [(19,(19,0,none)),(204,(54,0,none)),(1004,(1004,0,none))] rfl ?_ rfl ?_ rfl⟩
  ·exact fc
  repeat' first|exact trivial|refine zA.app ?_ ?_|refine zA.zd ?_ ?_|refine zA.cons ?_ ?_|exact fc|fail
  all_goals first|exact aC (A:=[o,q]) rfl hr2|trace_state
 have hb:¬(i:Int)<3:=hb
 obtain rfl:i=3:=by omega
 repeat(first|(refine zB.i (λh=>False.elim (by revert h;first|(simp[];done)|fail)) (λ_=>?_))|(refine zB.i (λ_=>?_) (λh=>False.elim (by revert h;first|(simp[];done)|fail)))|refine gi ?_|refine gt ?_|refine sd ?_)
 refine aH.i [[],[0],[0,1],[0,1,2],[],[4],[4,5],[4,5,6],[4,5,6,7],[4,5,6,7,8],ek,fe,kX,jO,oB] nw (by kernel_rfl) ?_
 repeat(first|(refine zB.i (λh=>False.elim (by revert h;first|(simp[];done)|fail)) (λ_=>?_))|(refine zB.i (λ_=>?_) (λh=>False.elim (by revert h;first|(simp[];done)|fail)))|refine gi ?_|refine gt ?_|refine sd ?_)
 have hmx:maxLen=9223372036854775807:=by decide
 have eT:take l2 (drop 0 r2)=r2:=by rw[drop_zero,List.take_of_length_le (by omega)]
 have hC:=kA r2 l2 0 l2 hr2 (by omega) (by omega) (by omega)
 rw[eT]at hC
 refine Call.i hC [] rfl ?_ rfl ?_ rfl ?_
 ·repeat' first|exact trivial|refine zA.app ?_ ?_|refine zA.zd ?_ ?_|refine zA.cons ?_ ?_|exact fc|fail
  all_goals first|exact hr2.symm|(show l2=r2.length*1;omega)|exact rfl|trace_state
 ·exact fc
 rintro _ _ ⟨rfl,rfl⟩
 refine gN ?_
 repeat(first|(refine zB.i (λh=>False.elim (by revert h;first|(simp[];done)|fail)) (λ_=>?_))|(refine zB.i (λ_=>?_) (λh=>False.elim (by revert h;first|(simp[];done)|fail)))|refine gi ?_|refine gt ?_|refine sd ?_)
 refine Ret.i (.tup [.isl 0 l2 1 [(l2,.a8 r2)],.tt]) [(1004,.mem false 0 [(3*6,.arr 3 6 (aM9 [cm 13 0 0 0,eZ q n,cm 9 0 1 0]))])] [] rfl fc ⟨rfl,rfl⟩ rfl fc rfl fc rfl
end Go.Proofs.YtieblfbmmbkjdaaGreat
namespace Go.Proofs.YtieblfbmmbkjdaaGreat
open Go Go.Sx Go.Cu
theorem xb (o q f p k s:List UInt8) (n N l5:Nat) (ho:o.length=32) (hq:q.length=n) (hn:n<=12) (hf:f.length=32) (hp:p.length=32) (hk:k.length=32) (hs:s.length=l5) (hl5:l5<=8192)
  (h0:Sx.Fn Γ.P 12 [.ptr 1000 0 none,.agg (cm 13 0 0 0)] (kiM .nilp (.isl 0 1 32 [(32,.a8 o)]) [] 0) (λv M=>v= .tup [.isl 0 32 1 [(32,.a8 o)],.tt]/\M=kiM .nilp (.isl 0 1 32 [(32,.a8 o)]) [] 0))
  (h1:Sx.Fn Γ.P 12 [.ptr 1000 0 none,.agg (eZ q n)] (kiM .nilp (.isl 0 1 32 [(32,.a8 o)]) [o] 1) (λv M=>v= .tup [.isl 0 n 1 [(n,.a8 q)],.tt]/\M=kiM .nilp (.isl 0 1 32 [(32,.a8 o)]) [o] 1))
  (h2:Sx.Fn Γ.P 12 [.ptr 1000 0 none,.agg (cm 5 0 0 N)] (kiM .nilp (.isl 0 1 32 [(32,.a8 o)]) [o,q] 2) (λv M=>v= .tup [.isl 0 32 1 [(32,.a8 f)],.tt]/\M=kiM .nilp (.isl 0 1 32 [(32,.a8 o)]) [o,q] 2))
  (h3:Sx.Fn Γ.P 12 [.ptr 1000 0 none,.agg (cm 6 2 0 0)] (kiM .nilp (.isl 0 1 32 [(32,.a8 o)]) [o,q,f] 3) (λv M=>v= .tup [.isl 0 32 1 [(32,.a8 p)],.tt]/\M=kiM .nilp (.isl 0 1 32 [(32,.a8 o)]) [o,q,f] 3))
  (h4:Sx.Fn Γ.P 12 [.ptr 1000 0 none,.agg (cm 8 0 3 0)] (kiM .nilp (.isl 0 1 32 [(32,.a8 o)]) [o,q,f,p] 4) (λv M=>v= .tup [.isl 0 32 1 [(32,.a8 k)],.tt]/\M=kiM .nilp (.isl 0 1 32 [(32,.a8 o)]) [o,q,f,p] 4))
  (h5:Sx.Fn Γ.P 12 [.ptr 1000 0 none,.agg (cm 11 4 1 0)] (kiM .nilp (.isl 0 1 32 [(32,.a8 o)]) [o,q,f,p,k] 5) (λv M=>v= .tup [.isl 0 l5 1 [(l5,.a8 s)],.tt]/\M=kiM .nilp (.isl 0 1 32 [(32,.a8 o)]) [o,q,f,p,k] 5))
  (h6:Sx.Fn Γ.P 12 [.ptr 1000 0 none,.agg (cm 12 4 5 0)] (kiM .nilp (.isl 0 1 32 [(32,.a8 o)]) [o,q,f,p,k,s] 6) (λv M=>v= .tup [.isl 0 n 1 [(n,.a8 q)],.tt]/\M=kiM .nilp (.isl 0 1 32 [(32,.a8 o)]) [o,q,f,p,k,s] 6)):
  Sx.Fn Γ.P 7 [.agg [(1,.nilp)],.isl 0 7 6 [(7*6,.arr 7 6 (aM9 [cm 13 0 0 0,eZ q n,cm 5 0 0 N,cm 6 2 0 0,cm 8 0 3 0,cm 11 4 1 0,cm 12 4 5 0]))],.nsl,.isl 0 1 32 [(32,.a8 o)]] []
  (λv M=>v= .tup [.isl 0 n 1 [(n,.a8 q)],.tt]/\M=[]):=by
 unfold kiM at h0 h1 h2 h3 h4 h5 h6
 have hbd:(Tryz.f7).body=some (.seq _ (.scope _)):=rfl
 refine aLP [] (Γ:=Γ) (fn:=Tryz.f7) rfl hbd rfl rfl ?_
 clear hbd
 refine gB ?_
 refine qd.i (σ:=Unit) [] (λ_ _=>True) (λ_ _=>([],[])) (λ_ _=>0) rfl ?_ trivial
 repeat(first|(refine zB.i (λh=>False.elim (by revert h;first|(simp[];done)|fail)) (λ_=>?_))|(refine zB.i (λ_=>?_) (λh=>False.elim (by revert h;first|(simp[];done)|fail)))|refine gi ?_|refine gt ?_|refine sd ?_)
 refine aY.i (σ:=Nat×Nat) (λs=>s.1<=7/\s.1<=s.2)
  (λz=>([(10,.ptr 19 0 none),(28,.isl 0 7 6 [(7*6,.arr 7 6 (aM9 [cm 13 0 0 0,eZ q n,cm 5 0 0 N,cm 6 2 0 0,cm 8 0 3 0,cm 11 4 1 0,cm 12 4 5 0]))]),(29,.i .i64 7),(30,.i .i64 (z.1:Int))],
   [(19,.mem true 0 [(1,.nilp),(1,.nsl),(1,.isl 0 1 32 [(32,.a8 o)]),(1,.sl 204 0 0 z.1 z.2)]),(204,.mem true (zmE (z.2-z.1) 1) [(z.1*1,.arr z.1 1 (rwF ([o,q,f,p,k,s,q].take z.1)))])]))
  (λs=>7-s.1) (0,0) ⟨Nat.zero_le _,le_refl _⟩ ?_ ?_
 ·refine Le.ghost [.own 204 [(0*1,.arr 0 1 (rwF []))],.leaf 19 3 204] [] [(19,(19,0,none)),(204,(204,0,none))] rfl ?_ rfl rfl ?_ rfl ?_ rfl
  ·repeat' first|exact trivial|refine zA.app ?_ ?_|refine zA.zd ?_ ?_|refine zA.cons ?_ ?_|exact fc|fail
   all_goals first|exact⟨rfl,rfl,trivial⟩|trace_state
  ·exact fc
  exact fc
 have e0:¬(8192:Int)<((32:Nat):Int):=by omega
 have e1:¬(8192:Int)<(n:Int):=by omega
 have e5:¬(8192:Int)<(l5:Int):=by omega
 rintro⟨i,c⟩ ⟨hi,hc⟩
 have hi:i<=7:=hi
 have hc:i<=c:=hc
 refine gB ?_
 refine zB.i ?_ ?_<;>intro hb
 ·have hb:(i:Int)<7:=hb
  have hi3:i=0\/i=1\/i=2\/i=3\/i=4\/i=5\/i=6:=by omega
  rcases hi3 with rfl|rfl|rfl|rfl|rfl|rfl|rfl
  ·repeat(first|(refine zB.i (λh=>False.elim (by revert h;first|(simp[];done)|fail)) (λ_=>?_))|(refine zB.i (λ_=>?_) (λh=>False.elim (by revert h;first|(simp[];done)|fail)))|refine gi ?_|refine gt ?_|refine sd ?_)
   refine Call.i h0 [(1000,(19,0,none)),(1001,(204,0,none))] rfl fc rfl fc rfl ?_
   rintro _ _ ⟨rfl,rfl⟩
   refine gN ?_
   repeat(first|(refine zB.i (λh=>False.elim (by revert h;first|(simp[e0];done)|fail)) (λ_=>?_))|(refine zB.i (λ_=>?_) (λh=>False.elim (by revert h;first|(simp[e0];done)|fail)))|refine gi ?_|refine gt ?_|refine sd ?_)
   refineλc' hc'=>?_
   have hc':0+1<=c':=hc'
   repeat(first|(refine zB.i (λh=>False.elim (by revert h;first|(simp[];done)|fail)) (λ_=>?_))|(refine zB.i (λ_=>?_) (λh=>False.elim (by revert h;first|(simp[];done)|fail)))|refine gi ?_|refine gt ?_|refine sd ?_)
   refine⟨(0+1,c'),⟨by show 0+1<=7;omega,hc'⟩,by show 7-(0+1)<7-0;omega,Le.i [(19,(19,0,none)),(204,(54,0,none))] rfl ?_ rfl ?_ rfl⟩
   ·exact fc
   repeat' first|exact trivial|refine zA.app ?_ ?_|refine zA.zd ?_ ?_|refine zA.cons ?_ ?_|exact fc|fail
   all_goals first|exact aC (A:=[]) rfl ho|trace_state
  ·repeat(first|(refine zB.i (λh=>False.elim (by revert h;first|(simp[];done)|fail)) (λ_=>?_))|(refine zB.i (λ_=>?_) (λh=>False.elim (by revert h;first|(simp[];done)|fail)))|refine gi ?_|refine gt ?_|refine sd ?_)
   refine Call.i h1 [(1000,(19,0,none)),(1001,(204,0,none))] rfl fc rfl fc rfl ?_
   rintro _ _ ⟨rfl,rfl⟩
   refine gN ?_
   repeat(first|(refine zB.i (λh=>False.elim (by revert h;first|(simp[e1];done)|fail)) (λ_=>?_))|(refine zB.i (λ_=>?_) (λh=>False.elim (by revert h;first|(simp[e1];done)|fail)))|refine gi ?_|refine gt ?_|refine sd ?_)
   refineλc' hc'=>?_
   have hc':1+1<=c':=hc'
   repeat(first|(refine zB.i (λh=>False.elim (by revert h;first|(simp[];done)|fail)) (λ_=>?_))|(refine zB.i (λ_=>?_) (λh=>False.elim (by revert h;first|(simp[];done)|fail)))|refine gi ?_|refine gt ?_|refine sd ?_)
   refine⟨(1+1,c'),⟨by show 1+1<=7;omega,hc'⟩,by show 7-(1+1)<7-1;omega,Le.i [(19,(19,0,none)),(204,(54,0,none))] rfl ?_ rfl ?_ rfl⟩
   ·exact fc
   repeat' first|exact trivial|refine zA.app ?_ ?_|refine zA.zd ?_ ?_|refine zA.cons ?_ ?_|exact fc|fail
   all_goals first|exact aC (A:=[o]) rfl hq|trace_state
  ·repeat(first|(refine zB.i (λh=>False.elim (by revert h;first|(simp[];done)|fail)) (λ_=>?_))|(refine zB.i (λ_=>?_) (λh=>False.elim (by revert h;first|(simp[];done)|fail)))|refine gi ?_|refine gt ?_|refine sd ?_)
   refine Call.i h2 [(1000,(19,0,none)),(1001,(204,0,none))] rfl fc rfl fc rfl ?_
   rintro _ _ ⟨rfl,rfl⟩
   refine gN ?_
   repeat(first|(refine zB.i (λh=>False.elim (by revert h;first|(simp[e0];done)|fail)) (λ_=>?_))|(refine zB.i (λ_=>?_) (λh=>False.elim (by revert h;first|(simp[e0];done)|fail)))|refine gi ?_|refine gt ?_|refine sd ?_)
   refineλc' hc'=>?_
   have hc':2+1<=c':=hc'
   repeat(first|(refine zB.i (λh=>False.elim (by revert h;first|(simp[];done)|fail)) (λ_=>?_))|(refine zB.i (λ_=>?_) (λh=>False.elim (by revert h;first|(simp[];done)|fail)))|refine gi ?_|refine gt ?_|refine sd ?_)
   refine⟨(2+1,c'),⟨by show 2+1<=7;omega,hc'⟩,by show 7-(2+1)<7-2;omega,Le.i [(19,(19,0,none)),(204,(54,0,none))] rfl ?_ rfl ?_ rfl⟩
   ·exact fc
   repeat' first|exact trivial|refine zA.app ?_ ?_|refine zA.zd ?_ ?_|refine zA.cons ?_ ?_|exact fc|fail
   all_goals first|exact aC (A:=[o,q]) rfl hf|trace_state
  ·repeat(first|(refine zB.i (λh=>False.elim (by revert h;first|(simp[];done)|fail)) (λ_=>?_))|(refine zB.i (λ_=>?_) (λh=>False.elim (by revert h;first|(simp[];done)|fail)))|refine gi ?_|refine gt ?_|refine sd ?_)
   refine Call.i h3 [(1000,(19,0,none)),(1001,(204,0,none))] rfl fc rfl fc rfl ?_
   rintro _ _ ⟨rfl,rfl⟩
   refine gN ?_
   repeat(first|(refine zB.i (λh=>False.elim (by revert h;first|(simp[e0];done)|fail)) (λ_=>?_))|(refine zB.i (λ_=>?_) (λh=>False.elim (by revert h;first|(simp[e0];done)|fail)))|refine gi ?_|refine gt ?_|refine sd ?_)
   refineλc' hc'=>?_
   have hc':3+1<=c':=hc'
   repeat(first|(refine zB.i (λh=>False.elim (by revert h;first|(simp[];done)|fail)) (λ_=>?_))|(refine zB.i (λ_=>?_) (λh=>False.elim (by revert h;first|(simp[];done)|fail)))|refine gi ?_|refine gt ?_|refine sd ?_)
   refine⟨(3+1,c'),⟨by show 3+1<=7;omega,hc'⟩,by show 7-(3+1)<7-3;omega,Le.i [(19,(19,0,none)),(204,(54,0,none))] rfl ?_ rfl ?_ rfl⟩
   ·exact fc
   repeat' first|exact trivial|refine zA.app ?_ ?_|refine zA.zd ?_ ?_|refine zA.cons ?_ ?_|exact fc|fail
   all_goals first|exact aC (A:=[o,q,f]) rfl hp|trace_state
  ·repeat(first|(refine zB.i (λh=>False.elim (by revert h;first|(simp[];done)|fail)) (λ_=>?_))|(refine zB.i (λ_=>?_) (λh=>False.elim (by revert h;first|(simp[];done)|fail)))|refine gi ?_|refine gt ?_|refine sd ?_)
   refine Call.i h4 [(1000,(19,0,none)),(1001,(204,0,none))] rfl fc rfl fc rfl ?_
   rintro _ _ ⟨rfl,rfl⟩
   refine gN ?_
   repeat(first|(refine zB.i (λh=>False.elim (by revert h;first|(simp[e0];done)|fail)) (λ_=>?_))|(refine zB.i (λ_=>?_) (λh=>False.elim (by revert h;first|(simp[e0];done)|fail)))|refine gi ?_|refine gt ?_|refine sd ?_)
   refineλc' hc'=>?_
   have hc':4+1<=c':=hc'
   repeat(first|(refine zB.i (λh=>False.elim (by revert h;first|(simp[];done)|fail)) (λ_=>?_))|(refine zB.i (λ_=>?_) (λh=>False.elim (by revert h;first|(simp[];done)|fail)))|refine gi ?_|refine gt ?_|refine sd ?_)
   refine⟨(4+1,c'),⟨by show 4+1<=7;omega,hc'⟩,by show 7-(4+1)<7-4;omega,Le.i [(19,(19,0,none)),(204,(54,0,none))] rfl ?_ rfl ?_ rfl⟩
   ·exact fc
   repeat' first|exact trivial|refine zA.app ?_ ?_|refine zA.zd ?_ ?_|refine zA.cons ?_ ?_|exact fc|fail
   all_goals first|exact aC (A:=[o,q,f,p]) rfl hk|trace_state
  ·repeat(first|(refine zB.i (λh=>False.elim (by revert h;first|(simp[];done)|fail)) (λ_=>?_))|(refine zB.i (λ_=>?_) (λh=>False.elim (by revert h;first|(simp[];done)|fail)))|refine gi ?_|refine gt ?_|refine sd ?_)
   refine Call.i h5 [(1000,(19,0,none)),(1001,(204,0,none))] rfl fc rfl fc rfl ?_
   rintro _ _ ⟨rfl,rfl⟩
   refine gN ?_
   repeat(first|(refine zB.i (λh=>False.elim (by revert h;first|(simp[e5];done)|fail)) (λ_=>?_))|(refine zB.i (λ_=>?_) (λh=>False.elim (by revert h;first|(simp[e5];done)|fail)))|refine gi ?_|refine gt ?_|refine sd ?_)
   refineλc' hc'=>?_
   have hc':5+1<=c':=hc'
   repeat(first|(refine zB.i (λh=>False.elim (by revert h;first|(simp[];done)|fail)) (λ_=>?_))|(refine zB.i (λ_=>?_) (λh=>False.elim (by revert h;first|(simp[];done)|fail)))|refine gi ?_|refine gt ?_|refine sd ?_)
   refine⟨(5+1,c'),⟨by show 5+1<=7;omega,hc'⟩,by show 7-(5+1)<7-5;omega,Le.i [(19,(19,0,none)),(204,(54,0,none))] rfl ?_ rfl ?_ rfl⟩
   ·exact fc
   repeat' first|exact trivial|refine zA.app ?_ ?_|refine zA.zd ?_ ?_|refine zA.cons ?_ ?_|exact fc|fail
   all_goals first|exact aC (A:=[o,q,f,p,k]) rfl hs|trace_state
  repeat(first|(refine zB.i (λh=>False.elim (by revert h;first|(simp[];done)|fail)) (λ_=>?_))|(refine zB.i (λ_=>?_) (λh=>False.elim (by revert h;first|(simp[];done)|fail)))|refine gi ?_|refine gt ?_|refine sd ?_)
  refine Call.i h6 [(1000,(19,0,none)),(1001,(204,0,none))] rfl fc rfl fc rfl ?_
  rintro _ _ ⟨rfl,rfl⟩
  refine gN ?_
  repeat(first|(refine zB.i (λh=>False.elim (by revert h;first|(simp[e1];done)|fail)) (λ_=>?_))|(refine zB.i (λ_=>?_) (λh=>False.elim (by revert h;first|(simp[e1];done)|fail)))|refine gi ?_|refine gt ?_|refine sd ?_)
  refineλc' hc'=>?_
  have hc':6+1<=c':=hc'
  repeat(first|(refine zB.i (λh=>False.elim (by revert h;first|(simp[];done)|fail)) (λ_=>?_))|(refine zB.i (λ_=>?_) (λh=>False.elim (by revert h;first|(simp[];done)|fail)))|refine gi ?_|refine gt ?_|refine sd ?_)
  refine⟨(6+1,c'),⟨by show 6+1<=7;omega,hc'⟩,by show 7-(6+1)<7-6;omega,Le.i [(19,(19,0,none)),(204,(54,0,none))] rfl ?_ rfl ?_ rfl⟩
  ·exact fc
  repeat' first|exact trivial|refine zA.app ?_ ?_|refine zA.zd ?_ ?_|refine zA.cons ?_ ?_|exact fc|fail
  all_goals first|exact aC (A:=[o,q,f,p,k,s]) rfl hq|trace_state
 have hb:¬(i:Int)<7:=hb
 obtain rfl:i=7:=by omega
 repeat(first|(refine zB.i (λh=>False.elim (by revert h;first|(simp[];done)|fail)) (λ_=>?_))|(refine zB.i (λ_=>?_) (λh=>False.elim (by revert h;first|(simp[];done)|fail)))|refine gi ?_|refine gt ?_|refine sd ?_)
 refine aH.i [[],[0],[0,1],[0,1,2],[],[4],[4,5],[4,5,6],[4,5,6,7],[4,5,6,7,8],ek,fe,kX,jO,oB] nw (by kernel_rfl) ?_
 repeat(first|(refine zB.i (λh=>False.elim (by revert h;first|(simp[];done)|fail)) (λ_=>?_))|(refine zB.i (λ_=>?_) (λh=>False.elim (by revert h;first|(simp[];done)|fail)))|refine gi ?_|refine gt ?_|refine sd ?_)
 have hmx:maxLen=9223372036854775807:=by decide
 have eT:take n (drop 0 q)=q:=by rw[drop_zero,List.take_of_length_le (by omega)]
 have hC:=kA q n 0 n hq (by omega) (by omega) (by omega)
 rw[eT]at hC
 refine Call.i hC [] rfl ?_ rfl ?_ rfl ?_
 ·repeat' first|exact trivial|refine zA.app ?_ ?_|refine zA.zd ?_ ?_|refine zA.cons ?_ ?_|exact fc|fail
  all_goals first|exact hq.symm|(show n=q.length*1;omega)|exact rfl|trace_state
 ·exact fc
 rintro _ _ ⟨rfl,rfl⟩
 refine gN ?_
 repeat(first|(refine zB.i (λh=>False.elim (by revert h;first|(simp[];done)|fail)) (λ_=>?_))|(refine zB.i (λ_=>?_) (λh=>False.elim (by revert h;first|(simp[];done)|fail)))|refine gi ?_|refine gt ?_|refine sd ?_)
 refine Ret.i (.tup [.isl 0 n 1 [(n,.a8 q)],.tt]) [] [] rfl fc ⟨rfl,rfl⟩ rfl fc rfl fc rfl
end Go.Proofs.YtieblfbmmbkjdaaGreat
namespace Go.Proofs.YtieblfbmmbkjdaaGreat
open Go Go.Sx Go.Cu
structure PL where
 x:List UInt64
 y:List UInt64
 z:List UInt64
 t:List UInt64
def PL.L (p:PL):Prop:=p.x.length=5/\p.y.length=5/\p.z.length=5/\p.t.length=5
def PL.B (p:PL):Prop:=Lb p.x/\Lb p.y/\Lb p.z/\Lb p.t
theorem PL.B.len {p:PL} (h:p.B):p.L:=⟨h.1.1,h.2.1.1,h.2.2.1.1,h.2.2.2.1⟩
def PR (p:PL) (P:Pt):Prop:=p.B/\Rep (fv p.x) (fv p.y) (fv p.z) P/\fv p.t=P.x*P.y*fv p.z
def PS (p:PL) (s:Prop) (P:Pt):Prop:=p.L/\(s->PR p P)/\(¬s->P= .O)
theorem PR.ps {p:PL} {P:Pt} (h:PR p P):PS p True P:=⟨h.1.len,λ_=>h,λh=>absurd trivial h⟩
def ptV (p:PL) (s:Prop):SV:=.agg [(5,.a64 p.x),(5,.a64 p.y),(5,.a64 p.z),(5,.a64 p.t),(1,.bool s)]
def aV5:List UInt8:=ofNat 1::replicate 31 0
def wI:List UInt64:=ofL aV5
theorem j8:Lb wI:=aTH
theorem j9:fv wI=1:=aTI
def aD7:List UInt64:=ofL (ofNat 2::replicate 31 0)
theorem sO:Lb aD7:=(pQ _).2
theorem aD6:fv aD7 = 2:=by decide +kernel
def aWF:List UInt8:=[ofNat 163,ofNat 120,ofNat 89,ofNat 19,ofNat 202,ofNat 77,ofNat 235,ofNat 117,ofNat 171,ofNat 216,ofNat 65,ofNat 65,ofNat 77,ofNat 10,ofNat 112,ofNat 0,ofNat 152,ofNat 232,ofNat 121,ofNat 119,ofNat 121,ofNat 64,ofNat 199,ofNat 140,ofNat 115,ofNat 254,ofNat 111,ofNat 43,ofNat 238,ofNat 108,ofNat 3,ofNat 82]
def aOA:List UInt64:=ofL aWF
theorem tR:Lb aOA:=(pQ _).2
theorem aHS:fv aOA = dF:=by decide +kernel
theorem ab7:PR ⟨replicate 5 0,wI,wI,replicate 5 0⟩ .O:=by
 refine⟨⟨wM,j8,j8,wM⟩,?_,?_⟩
 ·show Rep (fv (replicate 5 0)) (fv wI) (fv wI) .O
  rw[wO,j9];exact aPR
 show fv (replicate 5 0)=Pt.O.x*Pt.O.y*fv wI
 rw [wO,j9];decide +kernel
theorem ac1:Sx.Fn Γ.P 50 [] [] (λv _=>v= .agg [(5,.a64 wI)]):=by
 have c:=aaC aV5 rfl
 have e:ofL aV5=wI:=rfl
 have l:=j8.1
 rw[e]at c
 generalize wI=R at *
 unfold aV5 at c
 refine aG (Γ:=Γ) (fn:=Tryz.f50) rfl rfl rfl rfl ?_
 refine gB ?_
 refine Call.pure c rfl fc ?_
 rintro _ rfl
 refine gA ?_
 refine Ret.i (.agg [(5,.a64 R)]) [] [] rfl fc rfl rfl fc rfl fc rfl
theorem aLS:Sx.Fn Γ.P 61 [.i .i64 2] [] (λv _=>v= .agg [(5,.a64 aD7)]):=by
 have c:=aaC (ofNat 2::replicate 31 0) rfl
 have e:ofL (ofNat 2::replicate 31 0)=aD7:=rfl
 have l:=sO.1
 rw[e]at c
 generalize aD7=R at *
 refine aG (Γ:=Γ) (fn:=Tryz.f61) rfl rfl rfl rfl ?_
 refine gB ?_
 refine Call.pure c rfl fc ?_
 rintro _ rfl
 refine gA ?_
 refine Ret.i (.agg [(5,.a64 R)]) [] [] rfl fc rfl rfl fc rfl fc rfl
theorem abL:Sx.Fn Γ.P 53 [] [] (λv _=>v= .agg [(5,.a64 aOA)]):=by
 have c:=aaC aWF rfl
 have e:ofL aWF=aOA:=rfl
 have l:=tR.1
 rw[e]at c
 generalize aOA=R at *
 unfold aWF at c
 refine aG (Γ:=Γ) (fn:=Tryz.f53) rfl rfl rfl rfl ?_
 refine gB ?_
 refine Call.pure c rfl fc ?_
 rintro _ rfl
 refine gA ?_
 refine Ret.i (.agg [(5,.a64 R)]) [] [] rfl fc rfl rfl fc rfl fc rfl
theorem aaA (p:PL) (s:Prop) (P:Pt) (h:PS p s P):Sx.Fn Γ.P 60 [ptV p s] [] (λv _=>∃o:PL,PR o P/\v=ptV o True):=by
 obtain⟨⟨l1,l2,l3,l4⟩,h1,h2⟩:=h
 have c:=ac1
 have l:=j8.1
 have hO:=ab7
 unfold ptV
 refine aG (Γ:=Γ) (fn:=Tryz.f60) rfl rfl rfl rfl ?_
 refine gB ?_
 refine zB.i ?_ ?_<;>intro hs
 ·have hs:¬s:=hs
  rw[h2 hs]
  generalize wI=one at *
  refine gB ?_
  refine Call.pure c rfl fc ?_
  rintro _ rfl
  refine gA ?_
  refine Call.pure c rfl fc ?_
  rintro _ rfl
  refine gA ?_
  refine Ret.i (.agg [(5,.a64 (replicate 5 0)),(5,.a64 one),(5,.a64 one),(5,.a64 (replicate 5 0)),(1,.bool True)]) [] [] rfl fc ⟨_,hO,rfl⟩ rfl fc rfl fc rfl
 have hs:¬¬s:=hs
 have hs:=Classical.not_not.1 hs
 have hp:=h1 hs
 refine gB ?_
 refine Ret.i (.agg [(5,.a64 p.x),(5,.a64 p.y),(5,.a64 p.z),(5,.a64 p.t),(1,.bool True)]) [] [] rfl fc ⟨p,hp,rfl⟩ rfl fc rfl fc rfl
end Go.Proofs.YtieblfbmmbkjdaaGreat
namespace Go.Proofs.YtieblfbmmbkjdaaGreat
open Go Go.Sx Go.Cu
def aNH (p q:PL):List UInt64:=cd (tj p.y p.x) (tj q.y q.x)
def aNG (p q:PL):List UInt64:=cd (wJ p.y p.x) (wJ q.y q.x)
def aNF (p q:PL):List UInt64:=cd (cd p.t aD7) (cd aOA q.t)
def aNE (p q:PL):List UInt64:=cd (cd p.z aD7) q.z
def aW9 (p q:PL):PL:=
  ⟨cd (tj (aNG p q) (aNH p q)) (tj (aNE p q) (aNF p q)),cd (wJ (aNE p q) (aNF p q)) (wJ (aNG p q) (aNH p q)),
   cd (tj (aNE p q) (aNF p q)) (wJ (aNE p q) (aNF p q)),cd (tj (aNG p q) (aNH p q)) (wJ (aNG p q) (aNH p q))⟩
theorem aTA {p q:PL} {P Q:Pt} (hp:PR p P) (hq:PR q Q):PR (aW9 p q) (P.add Q):=by
 obtain⟨⟨p1,p2,p3,p4⟩,pr,pt⟩:=hp
 obtain⟨⟨q1,q2,q3,q4⟩,qr,qt⟩:=hq
 have bA:Lb (aNH p q):=aP _ _
 have bB:Lb (aNG p q):=aP _ _
 have bC:Lb (aNF p q):=aP _ _
 have bD:Lb (aNE p q):=aP _ _
 have vA:fv (aNH p q)=(fv p.y-fv p.x)*(fv q.y-fv q.x):=by unfold aNH;rw[ak (dL _ _) (dL _ _),ic p2 p1,ic q2 q1]
 have vB:fv (aNG p q)=(fv p.y+fv p.x)*(fv q.y+fv q.x):=by unfold aNG;rw[ak (ei _ _) (ei _ _),kV p2 p1,kV q2 q1]
 have vC:fv (aNF p q)=fv p.t*2*(dF*fv q.t):=by unfold aNF;rw[ak (aP _ _) (aP _ _),ak p4 sO,ak tR q4,aD6,aHS]
 have vD:fv (aNE p q)=fv p.z*2*fv q.z:=by unfold aNE;rw[ak (aP _ _) q3,ak p3 sO,aD6]
 obtain⟨r1,r2⟩:=aPQ pr qr pt qt vA vB vC vD (e:=_) (f:=_) (g:=_) (h0:=_) rfl rfl rfl rfl
 unfold aW9
 refine⟨⟨aP _ _,aP _ _,aP _ _,aP _ _⟩,?_,?_⟩
 ·simp only
  rw[ak (dL _ _) (dL _ _),ak (ei _ _) (ei _ _),ak (dL _ _) (ei _ _),ic bB bA,ic bD bC,kV bD bC,kV bB bA]
  exact r1
 simp only
 rw[ak (dL _ _) (ei _ _),ak (dL _ _) (ei _ _),ic bB bA,ic bD bC,kV bD bC,kV bB bA]
 exact r2
theorem abT (p q:PL) (s r:Prop) (P Q:Pt) (h:PS p s P) (k:PS q r Q):Sx.Fn Γ.P 31 [ptV p s,ptV q r] [] (λv _=>∃o:PL,PR o (P.add Q)/\v=ptV o True):=by
  have cp:=aaA p s P h
  have cq:=aaA q r Q k
  obtain⟨⟨p1,p2,p3,p4⟩,_,_⟩:=h
  obtain⟨⟨q1,q2,q3,q4⟩,_,_⟩:=k
  have c2:=aLS
  have cf:=abL
  have l2:=sO.1
  have lf:=tR.1
  unfold ptV at *
  refine cV [2] (Γ:=Γ) (fn:=Tryz.f31) rfl rfl rfl rfl ?_
  refine gB ?_
  refine aH.i [[],[0],[],[0,1,2],r_4,r_5] [0,2,1,3,4,5] (by kernel_rfl) ?_
  refine gA ?_
  refine Call.pure cp rfl fc ?_
  rintro v ⟨a,ha,rfl⟩
  refine gA ?_
  refine Call.pure cq rfl fc ?_
  rintro v ⟨b,hb,rfl⟩
  obtain⟨a1,a2,a3,a4⟩:=ha.1.len
  obtain⟨b1,b2,b3,b4⟩:=hb.1.len
  refine gA ?_
  have hR:=aTA ha hb
  clear ha hb cp cq
  refine Cut.i (σ:=Unit) (λ_=>True) (λ_=>([(2,.ptr 2 0 none),(3,.ptr 3 0 none),(4,.ptr 4 0 none)],
    [(2,.mem true 0 [(5,.a64 a.x),(5,.a64 a.y),(5,.a64 a.z),(5,.a64 a.t),(1,.bool True)]),(3,.mem true 0 [(5,.a64 b.x),(5,.a64 b.y),(5,.a64 b.z),(5,.a64 b.t),(1,.bool True)]),
     (4,.mem true 0 [(5,.a64 (replicate 5 0)),(5,.a64 (replicate 5 0)),(5,.a64 (replicate 5 0)),(5,.a64 (replicate 5 0)),(1,.ff)])])) () trivial (Le.i [] rfl fc rfl fc rfl) ?_
  rintro - -
  unfold aW9 aNH aNG aNF aNE at hR
  have d1:=ac2 a.y a.x a2 a1
  have m1:=(dL a.y a.x).1
  generalize tj a.y a.x=v1 at *
  have d2:=ac2 b.y b.x b2 b1
  have m2:=(dL b.y b.x).1
  generalize tj b.y b.x=v2 at *
  have d3:=acN v1 v2 m1 m2
  have m3:=(aP v1 v2).1
  generalize cd v1 v2=A at *
  have d4:=aYG a.y a.x a2 a1
  have m4:=(ei a.y a.x).1
  generalize wJ a.y a.x=v4 at *
  have d5:=aYG b.y b.x b2 b1
  have m5:=(ei b.y b.x).1
  generalize wJ b.y b.x=v5 at *
  have d6:=acN v4 v5 m4 m5
  have m6:=(aP v4 v5).1
  generalize cd v4 v5=B at *
  generalize aD7=two at *
  generalize aOA=fac at *
  have d7:=acN a.t two a4 l2
  have m7:=(aP a.t two).1
  generalize cd a.t two=v7 at *
  have d8:=acN fac b.t lf b4
  have m8:=(aP fac b.t).1
  generalize cd fac b.t=v8 at *
  have d9:=acN v7 v8 m7 m8
  have m9:=(aP v7 v8).1
  generalize cd v7 v8=C at *
  have e1:=acN a.z two a3 l2
  have n1:=(aP a.z two).1
  generalize cd a.z two=w1 at *
  have e2:=acN w1 b.z n1 b3
  have n2:=(aP w1 b.z).1
  generalize cd w1 b.z=D at *
  have e3:=ac2 B A m6 m3
  have n3:=(dL B A).1
  generalize tj B A=E at *
  have e4:=ac2 D C n2 m9
  have n4:=(dL D C).1
  generalize tj D C=G1 at *
  have e5:=aYG D C n2 m9
  have n5:=(ei D C).1
  generalize wJ D C=G2 at *
  have e6:=aYG B A m6 m3
  have n6:=(ei B A).1
  generalize wJ B A=H at *
  have e7:=acN E G1 n3 n4
  have n7:=(aP E G1).1
  generalize cd E G1=X at *
  have e8:=acN G2 H n5 n6
  have n8:=(aP G2 H).1
  generalize cd G2 H=Y at *
  have e9:=acN G1 G2 n4 n5
  have n9:=(aP G1 G2).1
  generalize cd G1 G2=Z at *
  have f1:=acN E H n3 n6
  have k1:=(aP E H).1
  generalize cd E H=W at *
  refine aH.i [[],[0],[],[2],r_4,[],[5],[],[7],r_9,ek,[],kX] [0,1,2,3,5,6,7,8,11,4,9,10,12] (by kernel_rfl) ?_
  refine gA ?_
  refine Call.pure d1 rfl fc ?_
  rintro _ rfl
  refine gA ?_
  refine Call.pure d2 rfl fc ?_
  rintro _ rfl
  refine gA ?_
  refine Call.pure d3 rfl fc ?_
  rintro _ rfl
  refine gA ?_
  refine aH.i [[],[0],[],[2],r_4,[],[5],[],[7],r_9,ek,[],kX] [0,1,2,3,5,6,7,8,11,4,9,10,12] (by kernel_rfl) ?_
  refine gA ?_
  refine Call.pure d4 rfl fc ?_
  rintro _ rfl
  refine gA ?_
  refine Call.pure d5 rfl fc ?_
  rintro _ rfl
  refine gA ?_
  refine Call.pure d6 rfl fc ?_
  rintro _ rfl
  refine gA ?_
  refine aH.i [[],[0],[],[0,1,2],r_4,[],[5],r_7,r_8,[],ek] [0,1,5,6,9,2,3,4,7,8,10] (by kernel_rfl) ?_
  refine gA ?_
  refine Call.pure c2 rfl fc ?_
  rintro _ rfl
  refine gA ?_
  refine Call.pure d7 rfl fc ?_
  rintro _ rfl
  refine gA ?_
  refine Call.pure cf rfl fc ?_
  rintro _ rfl
  refine gA ?_
  refine Call.pure d8 rfl fc ?_
  rintro _ rfl
  refine gA ?_
  refine Call.pure d9 rfl fc ?_
  rintro _ rfl
  refine gA ?_
  refine aH.i [[],[0],[],[0,1,2],[],[4],r_6,[],r_8] [0,1,4,5,7,2,3,6,8] (by kernel_rfl) ?_
  refine gA ?_
  refine Call.pure c2 rfl fc ?_
  rintro _ rfl
  refine gA ?_
  refine Call.pure e1 rfl fc ?_
  rintro _ rfl
  refine gA ?_
  refine Call.pure e2 rfl fc ?_
  rintro _ rfl
  refine gA ?_
  refine aH.i [[],[],[0,1],[],[],r_5,[],[],r_8,[],[],fe,[],[],[],[],na,wG,aBU,uf] [0,1,3,4,6,7,9,10,12,13,14,15,2,5,8,11,16,17,18,19] (by kernel_rfl) ?_
  refine gA ?_
  refine Call.pure e3 rfl fc ?_
  rintro _ rfl
  refine gA ?_
  refine Call.pure e4 rfl fc ?_
  rintro _ rfl
  refine gA ?_
  refine Call.pure e5 rfl fc ?_
  rintro _ rfl
  refine gA ?_
  refine Call.pure e6 rfl fc ?_
  rintro _ rfl
  refine gA ?_
  refine aH.i [[],[],[0,1],[],[],r_5,[],[],r_8,[],[],fe,kX,jO] [0,1,3,4,6,7,9,10,2,5,8,11,12,13] (by kernel_rfl) ?_
  refine gA ?_
  refine Call.pure e7 rfl fc ?_
  rintro _ rfl
  refine gA ?_
  refine Call.pure e8 rfl fc ?_
  rintro _ rfl
  refine gA ?_
  refine Call.pure e9 rfl fc ?_
  rintro _ rfl
  refine gA ?_
  refine Call.pure f1 rfl fc ?_
  rintro _ rfl
  refine gA ?_
  refine Ret.i (.agg [(5,.a64 X),(5,.a64 Y),(5,.a64 Z),(5,.a64 W),(1,.bool True)]) [] [] rfl fc ⟨_,hR,rfl⟩ rfl fc rfl fc rfl
theorem aXJ {p:PL} {P:Pt} (h:PR p P):PR ⟨rk p.x,p.y,p.z,rk p.t⟩ P.ng:=by
 obtain⟨⟨p1,p2,p3,p4⟩,pr,pt⟩:=h
 refine⟨⟨iq _,p2,p3,iq _⟩,?_,?_⟩
 ·simp only
  rw[pf p1];exact aS0 pr
 simp only
 rw[pf p4,pt]
 show _=(0-P.x)*P.y*fv p.z
 exact gr
theorem aYI (p:PL) (s:Prop) (P:Pt) (h:PS p s P):Sx.Fn Γ.P 34 [ptV p s] [] (λv _=>∃o:PL,PR o P.ng/\v=ptV o True):=by
 have cp:=aaA p s P h
 obtain⟨⟨p1,p2,p3,p4⟩,_,_⟩:=h
 unfold ptV at *
 refine aG (Γ:=Γ) (fn:=Tryz.f34) rfl rfl rfl rfl ?_
 refine gB ?_
 refine Call.pure cp rfl fc ?_
 rintro v ⟨a,ha,rfl⟩
 obtain⟨a1,a2,a3,a4⟩:=ha.1.len
 have hR:=aXJ ha
 have d1:=aaB a.x a1
 have m1:=(iq a.x).1
 generalize rk a.x=v1 at *
 have d2:=aaB a.t a4
 have m2:=(iq a.t).1
 generalize rk a.t=v2 at *
 refine gA ?_
 refine aH.i [[],[0],[0,1],[],[3],[],[5],[],[7],[0,1,2,7,8],ek,fe] [0,1,3,4,5,6,7,8,2,9,10,11] (by kernel_rfl) ?_
 refine gA ?_
 refine Call.pure d1 rfl fc ?_
 rintro _ rfl
 refine gA ?_
 refine Call.pure d2 rfl fc ?_
 rintro _ rfl
 refine gA ?_
 refine Ret.i (.agg [(5,.a64 v1),(5,.a64 a.y),(5,.a64 a.z),(5,.a64 v2),(1,.bool True)]) [] [] rfl fc ⟨_,hR,rfl⟩ rfl fc rfl fc rfl
end Go.Proofs.YtieblfbmmbkjdaaGreat
namespace Go.Proofs.YtieblfbmmbkjdaaGreat
open Go Go.Sx Go.Cu
theorem aXB:∀x y:UInt8,x.toNat<128->x|||qh (y&&&ofNat 1) 7=if y&&&ofNat 1=ofNat 1 then x+ofNat 128 else x:=by
 intro x y hx
 have h1:∀ z:Fin 256,ofNat z.val &&& ofNat 1 = ofNat 1 \/ ofNat z.val &&& ofNat 1 = ofNat 0:=by decide +kernel
 have h2:=h1 ⟨y.toNat,y.toNat_lt⟩
 rw[UInt8.ofNat_toNat]at h2
 have h3:∀ z:Fin 256,z.val < 128->ofNat z.val ||| qh (ofNat 1) 7 = ofNat z.val + ofNat 128:=by decide +kernel
 have h4:∀ z:Fin 256,ofNat z.val ||| qh (ofNat 0) 7 = ofNat z.val:=by decide +kernel
 rcases h2 with h|h
 ·rw[h,if_pos rfl]
  have:=h3 ⟨x.toNat,x.toNat_lt⟩ hx
  rw[UInt8.ofNat_toNat]at this;exact this
 rw[h,if_neg (by decide)]
 have:=h4 ⟨x.toNat,x.toNat_lt⟩
 rw[UInt8.ofNat_toNat]at this;exact this
theorem aU7 (x y:F):(leB y).set 31 ((leB y).getD 31 0|||qh ((leB x).getD 0 0&&&ofNat 1) 7)=if x.val%2=1 then(leB y).set 31 ((leB y).getD 31 0+ofNat 128)else leB y:=by
 rw[aXB _ _ (aNX y)]
 by_cases h:x.val%2=1
 ·rw[if_pos h,if_pos ((zK x).2 h)]
 rw[if_neg h,if_neg (λe=>h ((zK x).1 e)),sQ (by rw[aj];omega)]
theorem abU (p:PL) (s:Prop) (P:Pt) (h:PS p s P):Sx.Fn Γ.P 30 [ptV p s] [] (λv _=>v= .a8 (rD P)):=by
 have cp:=aaA p s P h
 obtain⟨⟨p1,p2,p3,p4⟩,_,_⟩:=h
 unfold ptV at *
 refine aG (Γ:=Γ) (fn:=Tryz.f30) rfl rfl rfl rfl ?_
 refine gB ?_
 refine Call.pure cp rfl fc ?_
 rintro v ⟨a,ha,rfl⟩
 obtain⟨a1,a2,a3,a4⟩:=ha.1.len
 have cI:=abM a.z a3
 have bI:=xu a.z
 have vI:=aG4 ha.1.2.2.1
 generalize aN2 a.z=i at *
 have cx:=acN a.x i a1 bI.1
 have lx:=(aP a.x i).1
 have cX:=fB (cd a.x i) lx
 have cy:=acN a.y i a2 bI.1
 have ly:=(aP a.y i).1
 have cY:=fB (cd a.y i) ly
 have vX:fv (cd a.x i)=P.x:=by rw[ak ha.1.1 bI,vI];exact aPP ha.2.1
 have vY:fv (cd a.y i)=P.y:=by rw[ak ha.1.2.1 bI,vI];exact aPO ha.2.1
 rw[vX]at cX
 rw[vY]at cY
 generalize cd a.x i=X at *
 generalize cd a.y i=Y at *
 have hE:rD P=(leB P.y).set 31 ((leB P.y).getD 31 0|||qh ((leB P.x).getD 0 0&&&ofNat 1) 7):=(aU7 P.x P.y).symm
 rw[hE]
 have lBx:=aj P.x
 have lBy:=aj P.y
 generalize leB P.x=bx at *
 generalize leB P.y=bb at *
 have lI:=bI.1
 refine gA ?_
 refine Call.pure cI rfl fc ?_
 rintro _ rfl
 refine gA ?_
 refine aH.i [[],[0],[],[0,1,2],r_4,[],[5],[],r_8,r_9,[],[],kX,jO] [0,1,2,5,6,7,10,11,3,4,8,9,12,13] (by kernel_rfl) ?_
 refine gA ?_
 refine Call.pure cx rfl fc ?_
 rintro _ rfl
 refine gA ?_
 refine Call.pure cX rfl fc ?_
 rintro _ rfl
 refine gA ?_
 refine Call.pure cy rfl fc ?_
 rintro _ rfl
 refine gA ?_
 refine Call.pure cY rfl fc ?_
 rintro _ rfl
 refine gA ?_
 refine Ret.i (.a8 (bb.set 31 (bb.getD 31 0|||qh (bx.getD 0 0&&&ofNat 1) 7))) [] [] rfl fc rfl rfl fc rfl fc rfl
end Go.Proofs.YtieblfbmmbkjdaaGreat
