/- Walks. -/
import Derived.Test.YtieblfbmmbkjdaaGreatHwSs3ToCv3
import Derived.Test.YtieblfbmmbkjdaaGreatHwCv4ToScR4
import Derived.Test.YtieblfbmmbkjdaaGreatHwCu7ToFe3
import Derived.Test.YtieblfbmmbkjdaaGreatHwFe4ToAes5
import Derived.Test.YtieblfbmmbkjdaaGreatHx7
import Derived.Test.YtieblfbmmbkjdaaGreatHwScP3ToFo0
import Derived.Test.YtieblfbmmbkjdaaGreatHwSha4ToSs2
import Derived.Test.YtieblfbmmbkjdaaGreatHwTabToCu6
import Derived.Test.YtieblfbmmbkjdaaGreatHx5
import Derived.Test.YtieblfbmmbkjdaaGreatHx8
set_option linter.unusedSimpArgs false
set_option linter.unusedVariables false
set_option maxHeartbeats 4000000
open UInt8 (ofNat)
open List (take drop drop_zero)
open Nat (le_refl)
set_option maxRecDepth 100000
namespace Go.Proofs.YtieblfbmmbkjdaaGreat
open Go Go.Sx
def kiF (L:List (List UInt8)) (m:Nat):Mm:=[(1000,.mem false 0 [(1,.ptr 1005 0 none),(1,.nsl),(1,.nsl),(1,.slx 1001 0 0 m)]),(1001,.mem false 0 [(m*1,.arr m 1 (rwF L))]),(1005,.dead)]
theorem gP (L:List (List UInt8)) (m:Nat) (q:List UInt8) (n:Nat) (hq:q.length=n) (hn:n<=12) (hc:¬Lib.contains q trmB=true):
  Sx.Fn Γ.P 12 [.ptr 1000 0 none,.agg (eZ q n)] (kiF L m) (λv M=>v= .tup [.isl 0 n 1 [(n,.a8 q)],.tt]/\M=kiF L m):=by
 have h1:(n:Int)<=12:=by omega
 have hC:=gK q (by omega)
 unfold kiF
 refine aG (Γ:=Γ) (fn:=Tryz.f12) rfl rfl rfl rfl ?_
 repeat(first|(refine zB.i (λh=>False.elim (by revert h;first|(simp[];done)|fail)) (λ_=>?_))|(refine zB.i (λ_=>?_) (λh=>False.elim (by revert h;first|(simp[];done)|fail)))|refine gi ?_|refine gt ?_|refine sd ?_)
 refine aH.i [[],[0],[],[2],[2,3],[2,3,4],[2,3,4,5],[2,3,4,5,6],[2,3,4,5,6,7],[2,3,4,5,6,7,8],[2,3,4,5,6,7,8,9],[2,3,4,5,6,7,8,9,10],[2,3,4,5,6,7,8,9,10,11],fe,oB] nw (by kernel_rfl) ?_
 repeat(first|(refine zB.i (λh=>False.elim (by revert h;first|(simp[h1];done)|fail)) (λ_=>?_))|(refine zB.i (λ_=>?_) (λh=>False.elim (by revert h;first|(simp[h1];done)|fail)))|refine gi ?_|refine gt ?_|refine sd ?_)
 have eq:take n (drop 0 q)=q:=by rw[drop_zero,List.take_of_length_le (by omega)]
 refine Call.i hC [] rfl ?_ rfl ?_ rfl ?_
 ·repeat' first|exact trivial|refine zA.app ?_ ?_|refine zA.zd ?_ ?_|refine zA.cons ?_ ?_|exact fc|fail
  all_goals exact eq.symm
 ·exact fc
 rintro _ _ ⟨rfl,rfl⟩
 refine gN ?_
 repeat(first|(refine zB.i (λh=>False.elim (by revert h;first|(simp[h1,hc];done)|fail)) (λ_=>?_))|(refine zB.i (λ_=>?_) (λh=>False.elim (by revert h;first|(simp[h1,hc];done)|fail)))|refine gi ?_|refine gt ?_|refine sd ?_)
 refine Ret.i (.tup [.isl 0 n 1 [(n,.a8 q)],.tt]) [(1000,.mem false 0 [(1,.ptr 1005 0 none),(1,.nsl),(1,.nsl),(1,.slx 1001 0 0 m)]),(1001,.mem false 0 [(m*1,.arr m 1 (rwF L))]),(1005,.dead)] [] rfl ?_ ⟨rfl,rfl⟩ rfl ?_ rfl ?_ rfl
 ·exact fc
 ·repeat' first|exact trivial|refine zA.app ?_ ?_|refine zA.zd ?_ ?_|refine zA.cons ?_ ?_|exact fc|fail
  all_goals first|exact Or.inl ⟨h1,hc⟩|(rintro(⟨_,h⟩|⟨h,_⟩);exact h hc;exact h h1)|trace_state
 exact fc
theorem qE (L:List (List UInt8)) (m:Nat) (q:List UInt8) (n:Nat) (hq:q.length=n) (hn:n<=12) (hc:Lib.contains q trmB=true):
  Sx.Fn Γ.P 12 [.ptr 1000 0 none,.agg (eZ q n)] (kiF L m) (λv M=>v= .tup [.isl 0 n 1 [(n,.a8 q)],.ff]/\M=kiF L m):=by
 have h1:(n:Int)<=12:=by omega
 have hC:=gK q (by omega)
 unfold kiF
 refine aG (Γ:=Γ) (fn:=Tryz.f12) rfl rfl rfl rfl ?_
 repeat(first|(refine zB.i (λh=>False.elim (by revert h;first|(simp[];done)|fail)) (λ_=>?_))|(refine zB.i (λ_=>?_) (λh=>False.elim (by revert h;first|(simp[];done)|fail)))|refine gi ?_|refine gt ?_|refine sd ?_)
 refine aH.i [[],[0],[],[2],[2,3],[2,3,4],[2,3,4,5],[2,3,4,5,6],[2,3,4,5,6,7],[2,3,4,5,6,7,8],[2,3,4,5,6,7,8,9],[2,3,4,5,6,7,8,9,10],[2,3,4,5,6,7,8,9,10,11],fe,oB] nw (by kernel_rfl) ?_
 repeat(first|(refine zB.i (λh=>False.elim (by revert h;first|(simp[h1];done)|fail)) (λ_=>?_))|(refine zB.i (λ_=>?_) (λh=>False.elim (by revert h;first|(simp[h1];done)|fail)))|refine gi ?_|refine gt ?_|refine sd ?_)
 have eq:take n (drop 0 q)=q:=by rw[drop_zero,List.take_of_length_le (by omega)]
 refine Call.i hC [] rfl ?_ rfl ?_ rfl ?_
 ·repeat' first|exact trivial|refine zA.app ?_ ?_|refine zA.zd ?_ ?_|refine zA.cons ?_ ?_|exact fc|fail
  all_goals exact eq.symm
 ·exact fc
 rintro _ _ ⟨rfl,rfl⟩
 refine gN ?_
 repeat(first|(refine zB.i (λh=>False.elim (by revert h;first|(simp[h1,hc];done)|fail)) (λ_=>?_))|(refine zB.i (λ_=>?_) (λh=>False.elim (by revert h;first|(simp[h1,hc];done)|fail)))|refine gi ?_|refine gt ?_|refine sd ?_)
 refine Ret.i (.tup [.isl 0 n 1 [(n,.a8 q)],.ff]) [(1000,.mem false 0 [(1,.ptr 1005 0 none),(1,.nsl),(1,.nsl),(1,.slx 1001 0 0 m)]),(1001,.mem false 0 [(m*1,.arr m 1 (rwF L))]),(1005,.dead)] [] rfl ?_ ⟨rfl,rfl⟩ rfl ?_ rfl ?_ rfl
 ·exact fc
 ·repeat' first|exact trivial|refine zA.app ?_ ?_|refine zA.zd ?_ ?_|refine zA.cons ?_ ?_|exact fc|fail
  all_goals first|exact Or.inl ⟨h1,hc⟩|(rintro(⟨_,h⟩|⟨h,_⟩);exact h hc;exact h h1)|trace_state
 exact fc
theorem uu (x y:List UInt8) (n k:Nat) (hx:x.length=n) (hy:y.length=k) (hn:n<=100) (hk:k<=100):
  Sx.Fn Γ.P 22 [.ptr 1000 0 none,.isl 0 2 1 [(2,.ai [0,1])],.i .i64 16] (kiF [x,y] 2)
  (λv M=>∃c,2<=c/\v= .tup [.sl 1006 0 0 2 c,.tt]/\M=kiF [x,y] 2++[(1006,.mem true (zmE (c-2) 1) [(2*1,.arr 2 1 (rwF [x,y]))])]):=by
 have a0:=abY [x,y] 2 0 rfl (by omega) (by omega) x n rfl hx
 have a1:=abY [x,y] 2 1 rfl (by omega) (by omega) y k rfl hy
 unfold kiF
 refine aG (Γ:=Γ) (fn:=Tryz.f22) rfl rfl rfl rfl ?_
 repeat(first|(refine zB.i (λh=>False.elim (by revert h;first|(simp[];done)|fail)) (λ_=>?_))|(refine zB.i (λ_=>?_) (λh=>False.elim (by revert h;first|(simp[];done)|fail)))|refine gi ?_|refine gt ?_|refine sd ?_)
 refine aY.i (σ:=Nat×Nat) (λs=>s.1<=2/\s.1<=s.2)
  (λs=>([(0,.ptr 1000 0 none),(8,.sl 204 0 0 s.1 s.2),(17,.isl 0 2 1 [(2,.ai [0,1])]),(18,.i .i64 2),(19,.i .i64 (s.1:Int))],
   [(1000,.mem false 0 [(1,.ptr 1005 0 none),(1,.nsl),(1,.nsl),(1,.slx 1001 0 0 2)]),(1001,.mem false 0 [(2*1,.arr 2 1 (rwF [x,y]))]),(1005,.dead),(204,.mem true (zmE (s.2-s.1) 1) [(s.1*1,.arr s.1 1 (rwF ([x,y].take s.1)))])]))
  (λs=>2-s.1) (0,0) ⟨Nat.zero_le _,le_refl _⟩ ?_ ?_
 ·refine Le.ghost [.own 204 [(0*1,.arr 0 1 (rwF []))]] [(8,204)] [(204,(204,0,none))] rfl ?_ rfl rfl ?_ rfl ?_ rfl
  ·repeat' first|exact trivial|refine zA.app ?_ ?_|refine zA.zd ?_ ?_|refine zA.cons ?_ ?_|exact fc|fail
   all_goals first|exact⟨rfl,rfl,trivial⟩|trace_state
  ·exact fc
  exact fc
 rintro⟨i,c⟩ ⟨hi,hc⟩
 have hi:i<=2:=hi
 have hc:i<=c:=hc
 refine gB ?_
 refine zB.i ?_ ?_<;>intro hb
 ·have hb:(i:Int)<2:=hb
  have hi3:i=0\/i=1:=by omega
  rcases hi3 with rfl|rfl
  ·repeat(first|(refine zB.i (λh=>False.elim (by revert h;first|(simp[];done)|fail)) (λ_=>?_))|(refine zB.i (λ_=>?_) (λh=>False.elim (by revert h;first|(simp[];done)|fail)))|refine gi ?_|refine gt ?_|refine sd ?_)
   refine Call.i a0 [(1001,(1001,0,none))] rfl fc rfl fc rfl ?_
   rintro _ _ ⟨rfl,rfl⟩
   refine gN ?_
   repeat(first|(refine zB.i (λh=>False.elim (by revert h;first|(simp[];done)|fail)) (λ_=>?_))|(refine zB.i (λ_=>?_) (λh=>False.elim (by revert h;first|(simp[];done)|fail)))|refine gi ?_|refine gt ?_|refine sd ?_)
   refineλc' hc'=>?_
   have hc':0+1<=c':=hc'
   repeat(first|(refine zB.i (λh=>False.elim (by revert h;first|(simp[];done)|fail)) (λ_=>?_))|(refine zB.i (λ_=>?_) (λh=>False.elim (by revert h;first|(simp[];done)|fail)))|refine gi ?_|refine gt ?_|refine sd ?_)
   refine⟨(0+1,c'),⟨by show 0+1<=2;omega,hc'⟩,by show 2-(0+1)<2-0;omega,Le.i [(204,(37,0,none))] rfl ?_ rfl ?_ rfl⟩
   ·exact fc
   repeat' first|exact trivial|refine zA.app ?_ ?_|refine zA.zd ?_ ?_|refine zA.cons ?_ ?_|exact fc|fail
   all_goals first|exact aC (A:=[]) rfl hx|trace_state
  repeat(first|(refine zB.i (λh=>False.elim (by revert h;first|(simp[];done)|fail)) (λ_=>?_))|(refine zB.i (λ_=>?_) (λh=>False.elim (by revert h;first|(simp[];done)|fail)))|refine gi ?_|refine gt ?_|refine sd ?_)
  refine Call.i a1 [(1001,(1001,0,none))] rfl fc rfl fc rfl ?_
  rintro _ _ ⟨rfl,rfl⟩
  refine gN ?_
  repeat(first|(refine zB.i (λh=>False.elim (by revert h;first|(simp[];done)|fail)) (λ_=>?_))|(refine zB.i (λ_=>?_) (λh=>False.elim (by revert h;first|(simp[];done)|fail)))|refine gi ?_|refine gt ?_|refine sd ?_)
  refineλc' hc'=>?_
  have hc':1+1<=c':=hc'
  repeat(first|(refine zB.i (λh=>False.elim (by revert h;first|(simp[];done)|fail)) (λ_=>?_))|(refine zB.i (λ_=>?_) (λh=>False.elim (by revert h;first|(simp[];done)|fail)))|refine gi ?_|refine gt ?_|refine sd ?_)
  refine⟨(1+1,c'),⟨by show 1+1<=2;omega,hc'⟩,by show 2-(1+1)<2-1;omega,Le.i [(204,(37,0,none))] rfl ?_ rfl ?_ rfl⟩
  ·exact fc
  repeat' first|exact trivial|refine zA.app ?_ ?_|refine zA.zd ?_ ?_|refine zA.cons ?_ ?_|exact fc|fail
  all_goals first|exact aC (A:=[x]) rfl hy|trace_state
 have hb:¬(i:Int)<2:=hb
 obtain rfl:i=2:=by omega
 repeat(first|(refine zB.i (λh=>False.elim (by revert h;first|(simp[];done)|fail)) (λ_=>?_))|(refine zB.i (λ_=>?_) (λh=>False.elim (by revert h;first|(simp[];done)|fail)))|refine gi ?_|refine gt ?_|refine sd ?_)
 refine Ret.i (.tup [.sl 1006 0 0 2 c,.tt]) [(1000,.mem false 0 [(1,.ptr 1005 0 none),(1,.nsl),(1,.nsl),(1,.slx 1001 0 0 2)]),(1001,.mem false 0 [(2*1,.arr 2 1 (rwF [x,y]))]),(1005,.dead),(1006,.mem true (zmE (c-2) 1) [(2*1,.arr 2 1 (rwF [x,y]))])] [(1006,(204,0,none))] rfl fc ⟨c,hc,rfl,rfl⟩ rfl fc rfl fc rfl
end Go.Proofs.YtieblfbmmbkjdaaGreat
namespace Go.Proofs.YtieblfbmmbkjdaaGreat
open Go Go.Sx
def stJ:List (Nat×SV):=[(1,.i .i64 4),(1,.i .i64 0),(1,.i .i64 0),(1,.i .i64 0),(1,.nsl),(1,.isl 0 2 1 [(2,.ai [0,1])])]
theorem oC (x y:List UInt8) (n k N:Nat) (hx:x.length=n) (hy:y.length=k) (hn:n<=12) (hk:k<=12) (hN:(jnB [x,y]).length=N):
  Sx.Fn Γ.P 12 [.ptr 1000 0 none,.agg stJ] (kiF [x,y] 2) (λv M=>v= .tup [.isl 0 N 1 [(N,.a8 (jnB [x,y]))],.tt]/\M=kiF [x,y] 2):=by
 have hP:=uu x y n k hx hy (by omega) (by omega)
 have hJ:wA [x,y]:=⟨by show 2<=64;omega,λz hz=>by
  rcases List.mem_cons.1 hz with rfl|hz
  ·omega
  rw[List.mem_singleton.1 hz];omega⟩
 have hL:=abX [x,y] 2 rfl (by omega) (λz hz=>by have:=hJ.2 z hz;omega)
 unfold rwS at hL
 generalize jnB [x,y]=R at *
 unfold kiF at hP⊢
 refine aG (Γ:=Γ) (fn:=Tryz.f12) rfl rfl rfl rfl ?_
 repeat(first|(refine zB.i (λh=>False.elim (by revert h;first|(simp[];done)|fail)) (λ_=>?_))|(refine zB.i (λ_=>?_) (λh=>False.elim (by revert h;first|(simp[];done)|fail)))|refine gi ?_|refine gt ?_|refine sd ?_)
 refine Call.i hP [(1000,(1000,0,none)),(1001,(1001,0,none)),(1005,(1005,0,none)),(1006,(306,0,none))] rfl fc rfl fc rfl ?_
 rintro v M' ⟨c,hc,rfl,rfl⟩
 refine gN ?_
 repeat(first|(refine zB.i (λh=>False.elim (by revert h;first|(simp[];done)|fail)) (λ_=>?_))|(refine zB.i (λ_=>?_) (λh=>False.elim (by revert h;first|(simp[];done)|fail)))|refine gi ?_|refine gt ?_|refine sd ?_)
 refine Call.i hL [(1003,(306,0,none)),(1001,(301,0,none))] rfl fc rfl fc rfl ?_
 rintro v M' (⟨hb,_⟩|⟨c2,N2,_,hN2,hc2,rfl,rfl⟩)
 ·exact absurd hJ hb
 obtain rfl:N=N2:=by rw[<-hN,<-hN2]
 refine gN ?_
 repeat(first|(refine zB.i (λh=>False.elim (by revert h;first|(simp[];done)|fail)) (λ_=>?_))|(refine zB.i (λ_=>?_) (λh=>False.elim (by revert h;first|(simp[];done)|fail)))|refine gi ?_|refine gt ?_|refine sd ?_)
 refine Ret.ghost [.keep 301] [(4,0)] rfl fc rfl (.tup [.isl 0 N 1 [(N,.a8 R)],.tt]) [(1000,.mem false 0 [(1,.ptr 1005 0 none),(1,.nsl),(1,.nsl),(1,.slx 1001 0 0 2)]),(1001,.mem false 0 [(2*1,.arr 2 1 (rwF [x,y]))]),(1005,.dead)] [] rfl fc ⟨rfl,rfl⟩ rfl fc rfl fc rfl
theorem vK (x y:List UInt8) (n k:Nat) (r2:List UInt8) (l2:Nat) (ho:x.length=n) (hq:y.length=k) (hn0:n<=12) (hn:k<=12) (hr2:r2.length=l2) (hl2:l2<=8192)
  (h0:Sx.Fn Γ.P 12 [.ptr 1000 0 none,.agg (eZ x n)] (kiF [] 0) (λv M=>v= .tup [.isl 0 n 1 [(n,.a8 x)],.tt]/\M=kiF [] 0))
  (h1:Sx.Fn Γ.P 12 [.ptr 1000 0 none,.agg (eZ y k)] (kiF [x] 1) (λv M=>v= .tup [.isl 0 k 1 [(k,.a8 y)],.tt]/\M=kiF [x] 1))
  (h2:Sx.Fn Γ.P 12 [.ptr 1000 0 none,.agg stJ] (kiF [x,y] 2) (λv M=>v= .tup [.isl 0 l2 1 [(l2,.a8 r2)],.tt]/\M=kiF [x,y] 2)):
  Sx.Fn Γ.P 7 [.agg [(1,.ptr 1005 0 none)],.slx 1004 0 0 3,.nsl,.nsl] [(1004,.mem false 0 [(3*6,.arr 3 6 (aM9 [eZ x n,eZ y k,stJ]))]),(1005,.dead)]
  (λv M=>v= .tup [.isl 0 l2 1 [(l2,.a8 r2)],.tt]/\M=[(1004,.mem false 0 [(3*6,.arr 3 6 (aM9 [eZ x n,eZ y k,stJ]))]),(1005,.dead)]):=by
 unfold kiF at h0 h1 h2
 have hbd:(Tryz.f7).body=some (.seq _ (.scope _)):=rfl
 refine aLP [] (Γ:=Γ) (fn:=Tryz.f7) rfl hbd rfl rfl ?_
 clear hbd
 refine gB ?_
 refine qd.i (σ:=Unit) [] (λ_ _=>True) (λ_ _=>([],[])) (λ_ _=>0) rfl ?_ trivial
 repeat(first|(refine zB.i (λh=>False.elim (by revert h;first|(simp[];done)|fail)) (λ_=>?_))|(refine zB.i (λ_=>?_) (λh=>False.elim (by revert h;first|(simp[];done)|fail)))|refine gi ?_|refine gt ?_|refine sd ?_)
 refine aY.i (σ:=Nat×Nat) (λs=>s.1<=3/\s.1<=s.2)
  (λs=>([(10,.ptr 19 0 none),(28,.slx 1004 0 0 3),(29,.i .i64 3),(30,.i .i64 (s.1:Int))],
   [(19,.mem true 0 [(1,.ptr 1005 0 none),(1,.nsl),(1,.nsl),(1,.sl 204 0 0 s.1 s.2)]),(204,.mem true (zmE (s.2-s.1) 1) [(s.1*1,.arr s.1 1 (rwF ([x,y,r2].take s.1)))]),(1004,.mem false 0 [(3*6,.arr 3 6 (aM9 [eZ x n,eZ y k,stJ]))]),(1005,.dead)]))
  (λs=>3-s.1) (0,0) ⟨Nat.zero_le _,le_refl _⟩ ?_ ?_
 ·refine Le.ghost [.own 204 [(0*1,.arr 0 1 (rwF []))],.leaf 19 3 204] [] [(19,(19,0,none)),(204,(204,0,none)),(1004,(1004,0,none)),(1005,(1005,0,none))] rfl ?_ rfl rfl ?_ rfl ?_ rfl
  ·repeat' first|exact trivial|refine zA.app ?_ ?_|refine zA.zd ?_ ?_|refine zA.cons ?_ ?_|exact fc|fail
   all_goals first|exact⟨rfl,rfl,trivial⟩|trace_state
  ·exact fc
  exact fc
 have e0:¬(8192:Int)<(n:Int):=by omega
 have e1:¬(8192:Int)<(k:Int):=by omega
 have e2:¬(8192:Int)<(l2:Int):=by omega
 rintro⟨i,c⟩ ⟨hi,hc⟩
 have hi:i<=3:=hi
 have hc:i<=c:=hc
 refine gB ?_
 refine zB.i ?_ ?_<;>intro hb
 ·have hb:(i:Int)<3:=hb
  have hi3:i=0\/i=1\/i=2:=by omega
  rcases hi3 with rfl|rfl|rfl
  ·repeat(first|(refine zB.i (λh=>False.elim (by revert h;first|(simp[];done)|fail)) (λ_=>?_))|(refine zB.i (λ_=>?_) (λh=>False.elim (by revert h;first|(simp[];done)|fail)))|refine gi ?_|refine gt ?_|refine sd ?_)
   refine Call.i h0 [(1000,(19,0,none)),(1001,(204,0,none)),(1005,(1005,0,none))] rfl fc rfl fc rfl ?_
   rintro _ _ ⟨rfl,rfl⟩
   refine gN ?_
   repeat(first|(refine zB.i (λh=>False.elim (by revert h;first|(simp[e0];done)|fail)) (λ_=>?_))|(refine zB.i (λ_=>?_) (λh=>False.elim (by revert h;first|(simp[e0];done)|fail)))|refine gi ?_|refine gt ?_|refine sd ?_)
   refineλc' hc'=>?_
   have hc':0+1<=c':=hc'
   repeat(first|(refine zB.i (λh=>False.elim (by revert h;first|(simp[];done)|fail)) (λ_=>?_))|(refine zB.i (λ_=>?_) (λh=>False.elim (by revert h;first|(simp[];done)|fail)))|refine gi ?_|refine gt ?_|refine sd ?_)
   refine⟨(0+1,c'),⟨by show 0+1<=3;omega,hc'⟩,by show 3-(0+1)<3-0;omega,Le.i [(19,(19,0,none)),(204,(54,0,none)),(1004,(1004,0,none)),(1005,(1005,0,none))] rfl ?_ rfl ?_ rfl⟩
   ·exact fc
   repeat' first|exact trivial|refine zA.app ?_ ?_|refine zA.zd ?_ ?_|refine zA.cons ?_ ?_|exact fc|fail
   all_goals first|exact aC (A:=[]) rfl ho|trace_state
  ·repeat(first|(refine zB.i (λh=>False.elim (by revert h;first|(simp[];done)|fail)) (λ_=>?_))|(refine zB.i (λ_=>?_) (λh=>False.elim (by revert h;first|(simp[];done)|fail)))|refine gi ?_|refine gt ?_|refine sd ?_)
   refine Call.i h1 [(1000,(19,0,none)),(1001,(204,0,none)),(1005,(1005,0,none))] rfl fc rfl fc rfl ?_
   rintro _ _ ⟨rfl,rfl⟩
   refine gN ?_
   repeat(first|(refine zB.i (λh=>False.elim (by revert h;first|(simp[e1];done)|fail)) (λ_=>?_))|(refine zB.i (λ_=>?_) (λh=>False.elim (by revert h;first|(simp[e1];done)|fail)))|refine gi ?_|refine gt ?_|refine sd ?_)
   refineλc' hc'=>?_
   have hc':1+1<=c':=hc'
   repeat(first|(refine zB.i (λh=>False.elim (by revert h;first|(simp[];done)|fail)) (λ_=>?_))|(refine zB.i (λ_=>?_) (λh=>False.elim (by revert h;first|(simp[];done)|fail)))|refine gi ?_|refine gt ?_|refine sd ?_)
   refine⟨(1+1,c'),⟨by show 1+1<=3;omega,hc'⟩,by show 3-(1+1)<3-1;omega,Le.i [(19,(19,0,none)),(204,(54,0,none)),(1004,(1004,0,none)),(1005,(1005,0,none))] rfl ?_ rfl ?_ rfl⟩
   ·exact fc
   repeat' first|exact trivial|refine zA.app ?_ ?_|refine zA.zd ?_ ?_|refine zA.cons ?_ ?_|exact fc|fail
   all_goals first|exact aC (A:=[x]) rfl hq|trace_state
  repeat(first|(refine zB.i (λh=>False.elim (by revert h;first|(simp[];done)|fail)) (λ_=>?_))|(refine zB.i (λ_=>?_) (λh=>False.elim (by revert h;first|(simp[];done)|fail)))|refine gi ?_|refine gt ?_|refine sd ?_)
  refine Call.i h2 [(1000,(19,0,none)),(1001,(204,0,none)),(1005,(1005,0,none))] rfl fc rfl fc rfl ?_
  rintro _ _ ⟨rfl,rfl⟩
  refine gN ?_
  repeat(first|(refine zB.i (λh=>False.elim (by revert h;first|(simp[e2];done)|fail)) (λ_=>?_))|(refine zB.i (λ_=>?_) (λh=>False.elim (by revert h;first|(simp[e2];done)|fail)))|refine gi ?_|refine gt ?_|refine sd ?_)
  refineλc' hc'=>?_
  have hc':2+1<=c':=hc'
  repeat(first|(refine zB.i (λh=>False.elim (by revert h;first|(simp[];done)|fail)) (λ_=>?_))|(refine zB.i (λ_=>?_) (λh=>False.elim (by revert h;first|(simp[];done)|fail)))|refine gi ?_|refine gt ?_|refine sd ?_)
  refine⟨(2+1,c'),⟨by show 2+1<=3;omega,hc'⟩,by show 3-(2+1)<3-2;omega,Le.i [(19,(19,0,none)),(204,(54,0,none)),(1004,(1004,0,none)),(1005,(1005,0,none))] rfl ?_ rfl ?_ rfl⟩
  ·exact fc
  repeat' first|exact trivial|refine zA.app ?_ ?_|refine zA.zd ?_ ?_|refine zA.cons ?_ ?_|exact fc|fail
  all_goals first|exact aC (A:=[x,y]) rfl hr2|trace_state
 have hb:¬(i:Int)<3:=hb
 obtain rfl:i=3:=by omega
 repeat(first|(refine zB.i (λh=>False.elim (by revert h;first|(simp[];done)|fail)) (λ_=>?_))|(refine zB.i (λ_=>?_) (λh=>False.elim (by revert h;first|(simp[];done)|fail)))|refine gi ?_|refine gt ?_|refine sd ?_)
 refine aH.i [[],[0],[0,1],[0,1,2],[],[4],[4,5],[4,5,6],[4,5,6,7],[4,5,6,7,8],ek,fe,kX,jO,oB] nw (by kernel_rfl) ?_
 repeat(first|(refine zB.i (λh=>False.elim (by revert h;first|(simp[];done)|fail)) (λ_=>?_))|(refine zB.i (λ_=>?_) (λh=>False.elim (by revert h;first|(simp[];done)|fail)))|refine gi ?_|refine gt ?_|refine sd ?_)
 have hmx:maxLen=9223372036854775807:=by decide
 have eT:take l2 (drop 0 r2)=r2:=by rw[drop_zero,List.take_of_length_le (by omega)]
 have hC:=kA r2 l2 0 l2 hr2 (by omega) (by omega) (by omega)
 rw[eT]at hC
 refine Call.i hC [] rfl ?_ rfl ?_ rfl ?_
 ·repeat' first|exact trivial|refine zA.app ?_ ?_|refine zA.zd ?_ ?_|refine zA.cons ?_ ?_|exact fc|fail
  all_goals first|exact hr2.symm|(show l2=r2.length*1;omega)|exact rfl|trace_state
 ·exact fc
 rintro _ _ ⟨rfl,rfl⟩
 refine gN ?_
 repeat(first|(refine zB.i (λh=>False.elim (by revert h;first|(simp[];done)|fail)) (λ_=>?_))|(refine zB.i (λ_=>?_) (λh=>False.elim (by revert h;first|(simp[];done)|fail)))|refine gi ?_|refine gt ?_|refine sd ?_)
 refine Ret.i (.tup [.isl 0 l2 1 [(l2,.a8 r2)],.tt]) [(1004,.mem false 0 [(3*6,.arr 3 6 (aM9 [eZ x n,eZ y k,stJ]))]),(1005,.dead)] [] rfl fc ⟨rfl,rfl⟩ rfl fc rfl fc rfl
theorem ql (x:List UInt8) (n:Nat)
  (h0:Sx.Fn Γ.P 12 [.ptr 1000 0 none,.agg (eZ x n)] (kiF [] 0) (λv M=>v= .tup [.isl 0 n 1 [(n,.a8 x)],.ff]/\M=kiF [] 0)):
  Sx.Fn Γ.P 7 [.agg [(1,.ptr 1005 0 none)],.slx 1004 0 0 1,.nsl,.nsl] [(1004,.mem false 0 [(1*6,.arr 1 6 (aM9 [eZ x n]))]),(1005,.dead)]
  (λv M=>v= .tup [.nsl,.ff]/\M=[(1004,.mem false 0 [(1*6,.arr 1 6 (aM9 [eZ x n]))]),(1005,.dead)]):=by
 unfold kiF at h0
 have hbd:(Tryz.f7).body=some (.seq _ (.scope _)):=rfl
 refine aLP [] (Γ:=Γ) (fn:=Tryz.f7) rfl hbd rfl rfl ?_
 clear hbd
 refine gB ?_
 refine qd.i (σ:=Unit) [0] (λ_ _=>True) (λ_ _=>([],[(1004,.mem false 0 [(1*6,.arr 1 6 (aM9 [eZ x n]))]),(1005,.dead)])) (λ_ _=>0) rfl ?_ ⟨?_,trivial⟩
 ·repeat(first|(refine zB.i (λh=>False.elim (by revert h;first|(simp[];done)|fail)) (λ_=>?_))|(refine zB.i (λ_=>?_) (λh=>False.elim (by revert h;first|(simp[];done)|fail)))|refine gi ?_|refine gt ?_|refine sd ?_)
  refine aY.i (σ:=Nat) (λs=>s=0)
   (λs=>([(10,.ptr 19 0 none),(28,.slx 1004 0 0 1),(29,.i .i64 1),(30,.i .i64 0)],
    [(19,.mem true 0 [(1,.ptr 1005 0 none),(1,.nsl),(1,.nsl),(1,.sl 204 0 0 0 0)]),(204,.mem true 0 [(0*1,.arr 0 1 (rwF []))]),(1004,.mem false 0 [(1*6,.arr 1 6 (aM9 [eZ x n]))]),(1005,.dead)]))
   (λs=>3-s) 0 rfl ?_ ?_
  ·refine Le.ghost [.own 204 [(0*1,.arr 0 1 (rwF []))],.leaf 19 3 204] [] [(19,(19,0,none)),(204,(204,0,none)),(1004,(1004,0,none)),(1005,(1005,0,none))] rfl ?_ rfl rfl ?_ rfl ?_ rfl
   ·repeat' first|exact trivial|refine zA.app ?_ ?_|refine zA.zd ?_ ?_|refine zA.cons ?_ ?_|exact fc|fail
    all_goals first|exact⟨rfl,rfl,trivial⟩|trace_state
   ·exact fc
   exact fc
  rintro i rfl
  repeat(first|(refine zB.i (λh=>False.elim (by revert h;first|(simp[];done)|fail)) (λ_=>?_))|(refine zB.i (λ_=>?_) (λh=>False.elim (by revert h;first|(simp[];done)|fail)))|refine gi ?_|refine gt ?_|refine sd ?_)
  refine Call.i h0 [(1000,(19,0,none)),(1001,(204,0,none)),(1005,(1005,0,none))] rfl fc rfl fc rfl ?_
  rintro _ _ ⟨rfl,rfl⟩
  refine gN ?_
  repeat(first|(refine zB.i (λh=>False.elim (by revert h;first|(simp[];done)|fail)) (λ_=>?_))|(refine zB.i (λ_=>?_) (λh=>False.elim (by revert h;first|(simp[];done)|fail)))|refine gi ?_|refine gt ?_|refine sd ?_)
  refine⟨rfl,(),trivial,trivial,Le.i [(1004,(1004,0,none)),(1005,(1005,0,none))] rfl fc rfl fc rfl⟩
 rintro - -
 repeat(first|(refine zB.i (λh=>False.elim (by revert h;first|(simp[];done)|fail)) (λ_=>?_))|(refine zB.i (λ_=>?_) (λh=>False.elim (by revert h;first|(simp[];done)|fail)))|refine gi ?_|refine gt ?_|refine sd ?_)
 refine Ret.i (.tup [.nsl,.ff]) [(1004,.mem false 0 [(1*6,.arr 1 6 (aM9 [eZ x n]))]),(1005,.dead)] [] rfl fc ⟨rfl,rfl⟩ rfl fc rfl fc rfl
end Go.Proofs.YtieblfbmmbkjdaaGreat
namespace Go.Proofs.YtieblfbmmbkjdaaGreat
open Go Go.Sx Go.Cu
def dgN (v:Nat):Nat->List Int
 |0=>[]
 |n+1=>((v%65536:Nat):Int)::dgN (v/65536) n
@[irreducible] def nmN (v:Nat):List Int:=dgN v 16
def nmF (x:F):List Int:=nmN x.val
structure FoI (d e:List Int) (i:Nat):Prop where
 len:e.length=16
 val:dv e 16=dv d (min i 16)+38*dv (d.drop 16) (i-16)
 nn:∀j,0<=e.getD j 0
 zero:∀j,i<=j->e.getD j 0=0
 one:∀j,i<=j+16->e.getD j 0<65536
 two:∀j,e.getD j 0<=2555865
def prD:List Int:=[65517,65535,65535,65535,65535,65535,65535,65535,65535,65535,65535,65535,65535,65535,65535,32767]
def fz (v:Int):F:=fn (v.toNat)
end Go.Proofs.YtieblfbmmbkjdaaGreat
namespace Go.Proofs.YtieblfbmmbkjdaaGreat
open Go Go.Sx Go.Cu
structure MuI (a b d:List Int) (i k:Nat):Prop where
 len:d.length=31
 val:dv d 31=dv a i*dv b 16+a.getD i 0*65536^i*dv b k
 nn:∀j,0<=d.getD j 0
 hi:∀j,d.getD j 0<=(i+1)*4294836225
 lo:∀j,i+k<=j->d.getD j 0<=i*4294836225
end Go.Proofs.YtieblfbmmbkjdaaGreat
namespace Go.Proofs.YtieblfbmmbkjdaaGreat
open Go Go.Sx Go.Cu
structure RP where
 x:F
 y:F
 z:F
def RP.V (p:RP):SV:=.agg [(16,.ai (nmF p.x)),(16,.ai (nmF p.y)),(16,.ai (nmF p.z))]
end Go.Proofs.YtieblfbmmbkjdaaGreat
namespace Go.Proofs.YtieblfbmmbkjdaaGreat
open Go Go.Sx Go.Cu
theorem aHH (p:List UInt8) (hp:p.length=32):Sx.Fn Γ.P 9 [.agg [(1,.nilp)],.a8 p] [] (λv _=>v= .a8 (spB p)):=by
 have c:=ab1 p hp
 have l:=gU p
 generalize spB p=R at *
 refine aG (Γ:=Γ) (fn:=Tryz.f9) rfl rfl rfl rfl ?_
 refine gB ?_
 repeat(first|(refine zB.i (λ_=>?_) (λhn=>absurd rfl hn))|refine ky0 ?_|refine kn0 ?_|refine sd ?_)
 refine Call.pure c rfl fc ?_
 rintro _ rfl
 refine gA ?_
 refine Ret.i (.a8 R) [] [] rfl fc rfl rfl fc rfl fc rfl
theorem aQ6 (p q:List UInt8) (n:Nat) (hp:p.length=32) (hq:q.length=n) (hn:n<=4096):Sx.Fn Γ.P 43 [.agg [(1,.nilp)],.a8 p,.isl 0 n 1 [(n,.a8 q)]] [] (λv _=>v= .a8 (sgB p q)):=by
 have c:=aYE p q n hp hq hn
 have l:=gX p q
 generalize sgB p q=R at *
 refine aG (Γ:=Γ) (fn:=Tryz.f43) rfl rfl rfl rfl ?_
 refine gB ?_
 refine zB.i ?_ ?_<;>intro hc
 ·have hc:(n:Int)>4096:=hc
  exact absurd hc (by omega)
 refine gB ?_
 repeat(first|(refine zB.i (λ_=>?_) (λhn=>absurd rfl hn))|refine ky0 ?_|refine kn0 ?_|refine sd ?_)
 refine Call.pure c rfl fc ?_
 rintro _ rfl
 refine gA ?_
 refine Ret.i (.a8 R) [] [] rfl fc rfl rfl fc rfl fc rfl
theorem aHF (w q s:List UInt8) (n:Nat) (hw:w.length=32) (hq:q.length=n) (hn:n<=4096) (hs:s.length=64):Sx.Fn Γ.P 8 [.agg [(1,.nilp)],.a8 w,.isl 0 n 1 [(n,.a8 q)],.a8 s] [] (λv _=>v= .bool (vrf w q s)):=by
 have c:=aFA w q s n hw hq (by omega) hs
 generalize vrf w q s=V at *
 refine aG (Γ:=Γ) (fn:=Tryz.f8) rfl rfl rfl rfl ?_
 refine gB ?_
 refine zB.i ?_ ?_<;>intro hc
 ·have hc:(n:Int)>4096:=hc
  exact absurd hc (by omega)
 refine gB ?_
 repeat(first|(refine zB.i (λ_=>?_) (λhn=>absurd rfl hn))|refine ky0 ?_|refine kn0 ?_|refine sd ?_)
 refine Call.pure c rfl fc ?_
 rintro _ rfl
 refine gA ?_
 refine Ret.i (.bool V) [] [] rfl ?_ rfl rfl ?_ rfl ?_ rfl
 ·exact fc
 ·repeat' first|exact trivial|refine zA.app ?_ ?_|refine zA.zd ?_ ?_|refine zA.cons ?_ ?_|exact fc|fail
  all_goals exact Iff.rfl
 exact fc
end Go.Proofs.YtieblfbmmbkjdaaGreat
namespace Go.Sx
open Go
theorem zF.clip {ρ:Env} {M:Mm} {w:World} (h:zF ρ M w) {b o n n0:Nat} {U:List UInt8} (hi:ρ.immO b o [(n0,.a8 U)]) (hn:n<=n0) (hU:U.length=n0):
  zF (ρ.addI b o [(n,.a8 (U.take n))]) M w/\∀k p,rE (ρ.addI b o [(n,.a8 (U.take n))]) k p->rE ρ k p:=by
 have hle:=Env.le_addI ρ b o [(n,.a8 (U.take n))]
 obtain⟨k1,cs,k2,k3⟩:=h.immO hi
 obtain⟨c1,c2,rfl,hl,hc,rfl⟩:=k2
 have hc:c1=U.map w8:=hc
 subst hc
 have immN:∀k p,rE (ρ.addI b o [(n,.a8 (U.take n))]) k p->rE ρ k p:=by
  rintro k p ⟨o',ls',j,hi',hj,rfl⟩
  rcases hi' with hi'|⟨rfl,rfl,rfl⟩
  ·exact⟨o',ls',j,hi',hj,rfl⟩
  have hj:j<n:=by simpa only[zL,Nat.add_zero]using hj
  exact h.immO_sep hi ⟨rfl,by omega,by simp only[zL,Bool.false_eq_true,if_false];omega⟩
 refine⟨⟨h.dom,h.mod,λa e he=>mB.of_same hle (le_refl _) (λ_ _ _=>⟨rfl,rfl⟩) (λ_ _ _=>rfl) (h.sat a e he),h.sep,?_,λk p hi' ho=>h.isep k p (immN k p hi') ho,h.gl.imp λn hn=>Or.inl hn⟩,immN⟩
 rintro b' o' ls' (hi'|⟨rfl,rfl,rfl⟩)
 ·exact(h.imm b' o' ls' hi').keep hle.im (le_refl _) (λ_ _=>rfl)
 refine⟨λhz=>k1 ?_,(U.take n).map w8,⟨(U.take n).map w8,[],by simp,by simp[hU];omega,rfl,rfl⟩,λj v hj=>k3 j v ?_⟩
 ·simp only[zL,Nat.add_zero]at hz⊢;omega
 rw[List.append_nil,List.getElem?_map]at *
 have hj2:=(List.getElem?_eq_some_iff.1 (show((U.take n).map w8)[j]? =some v by rw[List.getElem?_map];exact hj)).1
 rw[List.length_map,zlT]at hj2
 rw[List.getElem?_take,if_pos (by omega)]at hj
 exact hj
theorem xL {P:Program} {f:FuncId} {args:List SV} {M0:Mm} {R R':SV->Mm->Prop} (h:Fn P f args M0 R)
  (hR:∀v M,R v M->∃n n0 U,n<=n0/\U.length=n0/\v= .tup [.isl 0 n 1 [(n0,.a8 U)],.tt]/\R' (.tup [.isl 0 n 1 [(n,.a8 (U.take n))],.tt]) M):Fn P f args M0 R':=by
 intro ρ xs w a b
 refine Calls.mono (h ρ xs w a b) ?_
 rintro e w' ⟨v,x,ρ',M',e1,e2,e3,e4,e5,e6⟩
 obtain⟨n,n0,U,h1,h2,rfl,h3⟩:=hR v M' e3
 obtain⟨xs',⟨y,ys,rfl,hy,z,zs,rfl,hz,rfl⟩,rfl⟩:=e2
 obtain⟨bb,oo,c,xx,g1,g2,rfl,g4⟩:=hy
 obtain⟨l1,l2⟩:=e5.clip g1 h1 h2
 refine⟨.tup [.isl 0 n 1 [(n,.a8 (U.take n))],.tt],_,ρ'.addI bb oo [(n,.a8 (U.take n))],M',e1,⟨_,⟨_,_,rfl,⟨bb,oo,c,xx,Env.immO.of (Or.inr ⟨rfl,rfl,rfl⟩),g2,rfl,g4⟩,_,_,rfl,hz,rfl⟩,rfl⟩,h3,Env.le_trans e4 (Env.le_addI _ _ _ _),l1,?_⟩
 exact⟨e6.size,e6.os,e6.output,e6.blk,e6.cell,e6.own,λk p hk hi=>e6.immo k p hk (l2 k p hi)⟩
end Go.Sx
namespace Go.Proofs.YtieblfbmmbkjdaaGreat
open Go Go.Sx Go.Cu
theorem mL (o:List UInt8) (L:List (List UInt8)) (m a b:Nat) (hL:L.length=m) (hm:m<=1000) (ha:a<m) (x:List UInt8) (hx:L.getD a []=x) (hxn:x.length=32) (hb:b<m) (y:List UInt8) (hy:L.getD b []=y) (hyn:y.length=32) (hne:¬rc x y=List.replicate 32 0):
  Sx.Fn Γ.P 26 [.ptr 1000 0 none,.agg (t6 8 a b)] (kiM .nilp (.isl 0 1 32 [(32,.a8 o)]) L m) (λv M=>v= .tup [.isl 0 32 1 [(32,.a8 (rc x y))],.tt]/\M=kiM .nilp (.isl 0 1 32 [(32,.a8 o)]) L m):=by
 have hP:=vP x y hxn hyn
 have hpl:=dx x y
 have hKb:=jQ o L m b hL hm hb y hy hyn
 generalize rc x y=R at *
 unfold kiM at hKb
 have hKa:=jQ o L m a hL hm ha x hx hxn
 unfold kiM at hKa⊢
 refine aG (Γ:=Γ) (fn:=Tryz.f26) rfl rfl rfl rfl ?_
 refine gB ?_
 refine Call.i hKa [(1000,(1000,0,none)),(1001,(1001,0,none))] rfl fc rfl fc rfl ?_
 rintro _ _ ⟨rfl,rfl⟩
 refine gN ?_
 repeat(first|(refine zB.i (λh=>False.elim (by revert h;first|(simp[];done)|fail)) (λ_=>?_))|(refine zB.i (λ_=>?_) (λh=>False.elim (by revert h;first|(simp[];done)|fail)))|refine gi ?_|refine gt ?_|refine sd ?_)
 refine Call.i hKb [(1000,(1000,0,none)),(1001,(1001,0,none))] rfl fc rfl fc rfl ?_
 rintro _ _ ⟨rfl,rfl⟩
 refine gN ?_
 repeat(first|(refine zB.i (λh=>False.elim (by revert h;first|(simp[];done)|fail)) (λ_=>?_))|(refine zB.i (λ_=>?_) (λh=>False.elim (by revert h;first|(simp[];done)|fail)))|refine gi ?_|refine gt ?_|refine sd ?_)
 refine aH.i [[],[0],[0,1],[0,1,2],[],[],r_6,r_7,r_8,r_8,[],[0,1,2,3,4,5,6,7,8,10],kX] [0,1,2,3,4,5,10,6,7,8,9,11,12] (by kernel_rfl) ?_
 refine gA ?_
 refine Call.pure hP rfl fc ?_
 rintro _ rfl
 refine gA ?_
 refine Ret.ghost [.keep 10] [(4,0)] rfl ?_ rfl (.tup [.isl 0 32 1 [(32,.a8 R)],.tt]) [(1000,.mem false 0 [(1,.nilp),(1,.nsl),(1,.isl 0 1 32 [(32,.a8 o)]),(1,.slx 1001 0 0 m)]),(1001,.mem false 0 [(m*1,.arr m 1 (rwF L))])] [] rfl ?_ ⟨rfl,rfl⟩ rfl ?_ rfl ?_ rfl
 ·exact fc
 ·exact fc
 ·repeat' first|exact trivial|refine zA.app ?_ ?_|refine zA.zd ?_ ?_|refine zA.cons ?_ ?_|exact fc|fail
  all_goals exact hne
 exact fc
theorem oE (o:List UInt8) (L:List (List UInt8)) (m a b n:Nat) (hL:L.length=m) (hm:m<=1000) (ha:a<m) (x:List UInt8) (hx:L.getD a []=x) (hxn:x.length=32) (hb:b<m) (y:List UInt8) (hy:L.getD b []=y) (hyn:y.length=n) (hn:n<=4096):
  Sx.Fn Γ.P 26 [.ptr 1000 0 none,.agg (t6 9 a b)] (kiM .nilp (.isl 0 1 32 [(32,.a8 o)]) L m) (λv M=>v= .tup [.isl 0 64 1 [(64,.a8 (sgB x y))],.tt]/\M=kiM .nilp (.isl 0 1 32 [(32,.a8 o)]) L m):=by
 have hP:=aQ6 x y n hxn hyn hn
 have hpl:=gX x y
 have hc:¬(4096:Int)<(n:Int):=by omega
 generalize sgB x y=R at *
 have hKa:=jQ o L m a hL hm ha x hx hxn
 unfold kiM at hKa⊢
 refine aG (Γ:=Γ) (fn:=Tryz.f26) rfl rfl rfl rfl ?_
 refine gB ?_
 refine Call.i hKa [(1000,(1000,0,none)),(1001,(1001,0,none))] rfl fc rfl fc rfl ?_
 rintro _ _ ⟨rfl,rfl⟩
 refine gN ?_
 repeat(first|(refine zB.i (λh=>False.elim (by revert h;first|(simp[];done)|fail)) (λ_=>?_))|(refine zB.i (λ_=>?_) (λh=>False.elim (by revert h;first|(simp[];done)|fail)))|refine gi ?_|refine gt ?_|refine sd ?_)
 have hKb:=abY L m b hL hm hb y n hy hyn
 refine aH.i [[],[0],[0,1],[0,1,2],[],[4],r_6,r_7,r_8,r_8,r_9,fe] kX (by kernel_rfl) ?_
 refine gA ?_
 refine Call.i hKb [(1001,(1001,0,none))] rfl fc rfl fc rfl ?_
 rintro _ _ ⟨rfl,rfl⟩
 refine gN ?_
 repeat(first|(refine zB.i (λh=>False.elim (by revert h;first|(simp[hc];done)|fail)) (λ_=>?_))|(refine zB.i (λ_=>?_) (λh=>False.elim (by revert h;first|(simp[hc];done)|fail)))|refine gi ?_|refine gt ?_|refine sd ?_)
 refine aH.i [[],[0],[0,1],[0,1,2],[],[],r_6,[],r_8] [0,1,2,3,4,5,7,6,8] (by kernel_rfl) ?_
 refine gA ?_
 refine Call.pure hP rfl fc ?_
 rintro _ rfl
 refine gA ?_
 refine Ret.ghost [.keep 12] [(4,0)] rfl fc rfl (.tup [.isl 0 64 1 [(64,.a8 R)],.tt]) [(1000,.mem false 0 [(1,.nilp),(1,.nsl),(1,.isl 0 1 32 [(32,.a8 o)]),(1,.slx 1001 0 0 m)]),(1001,.mem false 0 [(m*1,.arr m 1 (rwF L))])] [] rfl fc ⟨rfl,rfl⟩ rfl fc rfl fc rfl
theorem oG (o:List UInt8) (L:List (List UInt8)) (m a b n:Nat) (hL:L.length=m) (hm:m<=1000) (ha:a<m) (x:List UInt8) (hx:L.getD a []=x) (hxn:x.length=32) (hb:b<m) (y:List UInt8) (hy:L.getD b []=y) (hyn:y.length=n) (hn:n<=1024) (k:Nat) (hk:n/16*16+32=k):
  Sx.Fn Γ.P 26 [.ptr 1000 0 none,.agg (t6 11 a b)] (kiM .nilp (.isl 0 1 32 [(32,.a8 o)]) L m) (λv M=>v= .tup [.isl 0 k 1 [(k,.a8 (seB x y))],.tt]/\M=kiM .nilp (.isl 0 1 32 [(32,.a8 o)]) L m):=by
 have hS:=aQ8 x y n hxn hyn
 have hRl:(seB x y).length=k:=by rw[rP hyn,hk]
 rw[aM8 (by omega),eq_true hn]at hS
 generalize seB x y=R at *
 have hKa:=jQ o L m a hL hm ha x hx hxn
 unfold kiM at hKa⊢
 refine aG (Γ:=Γ) (fn:=Tryz.f26) rfl rfl rfl rfl ?_
 refine gB ?_
 refine Call.i hKa [(1000,(1000,0,none)),(1001,(1001,0,none))] rfl fc rfl fc rfl ?_
 rintro _ _ ⟨rfl,rfl⟩
 refine gN ?_
 repeat(first|(refine zB.i (λh=>False.elim (by revert h;first|(simp[];done)|fail)) (λ_=>?_))|(refine zB.i (λ_=>?_) (λh=>False.elim (by revert h;first|(simp[];done)|fail)))|refine gi ?_|refine gt ?_|refine sd ?_)
 have hKb:=abY L m b hL hm hb y n hy hyn
 refine aH.i [[],[0],[0,1],[0,1,2],[],[4],r_6,r_7,r_8,r_8,r_9,fe] kX (by kernel_rfl) ?_
 refine gA ?_
 refine Call.i hKb [(1001,(1001,0,none))] rfl fc rfl fc rfl ?_
 rintro _ _ ⟨rfl,rfl⟩
 refine gN ?_
 repeat(first|(refine zB.i (λh=>False.elim (by revert h;first|(simp[];done)|fail)) (λ_=>?_))|(refine zB.i (λ_=>?_) (λh=>False.elim (by revert h;first|(simp[];done)|fail)))|refine gi ?_|refine gt ?_|refine sd ?_)
 refine aH.i [[],[0],[0,1],[0,1,2],[],[],r_6,r_7,r_7,r_9,ek] fe (by kernel_rfl) ?_
 refine gA ?_
 refine Call.name [(0,[]),(0,[]),(2001,[])] rfl fc (kW.i hS [(1003,(2001,0,none)),(1006,(306,0,none))] rfl fc rfl fc rfl ?_)
 rintro v M' ⟨k',c,hk',hc,rfl,rfl⟩
 obtain rfl:k=k':=by rw[<-hk',hRl]
 refine gN ?_
 refine gA ?_
 refine Ret.ghost [.keep 306] [(4,0)] rfl fc rfl (.tup [.isl 0 k 1 [(k,.a8 R)],.tt]) [(1000,.mem false 0 [(1,.nilp),(1,.nsl),(1,.isl 0 1 32 [(32,.a8 o)]),(1,.slx 1001 0 0 m)]),(1001,.mem false 0 [(m*1,.arr m 1 (rwF L))])] [] rfl fc ⟨rfl,rfl⟩ rfl fc rfl fc rfl
theorem oK (o:List UInt8) (L:List (List UInt8)) (m a b n k:Nat) (hL:L.length=m) (hm:m<=1000) (ha:a<m) (x:List UInt8) (hx:L.getD a []=x) (hxn:x.length=32) (hb:b<m) (z:List UInt8) (hz:z.length=n) (hn:n<=1024) (hk:n/16*16+32=k) (hy:L.getD b []=seB x z):
  Sx.Fn Γ.P 26 [.ptr 1000 0 none,.agg (t6 12 a b)] (kiM .nilp (.isl 0 1 32 [(32,.a8 o)]) L m) (λv M=>v= .tup [.isl 0 n 1 [(n,.a8 z)],.tt]/\M=kiM .nilp (.isl 0 1 32 [(32,.a8 o)]) L m):=by
 have hO:=aRA x z n k hxn hz hn hk
 have hRl:(seB x z).length=k:=by rw[rP hz,hk]
 generalize seB x z=y at *
 have hKb:=abY L m b hL hm hb y k hy hRl
 refine xL (R:=λv M=>∃n' n0 U,n'<=n0/\U.length=n0/\v= .tup [.isl 0 n' 1 [(n0,.a8 U)],.tt]/\(SV.tup [.isl 0 n' 1 [(n',.a8 (U.take n'))],.tt]=SV.tup [.isl 0 n 1 [(n,.a8 z)],.tt]/\M=kiM .nilp (.isl 0 1 32 [(32,.a8 o)]) L m)) ?_ (λv M h=>h)
 have hKa:=jQ o L m a hL hm ha x hx hxn
 unfold kiM at hKa⊢
 refine aG (Γ:=Γ) (fn:=Tryz.f26) rfl rfl rfl rfl ?_
 refine gB ?_
 refine Call.i hKa [(1000,(1000,0,none)),(1001,(1001,0,none))] rfl fc rfl fc rfl ?_
 rintro _ _ ⟨rfl,rfl⟩
 refine gN ?_
 repeat(first|(refine zB.i (λh=>False.elim (by revert h;first|(simp[];done)|fail)) (λ_=>?_))|(refine zB.i (λ_=>?_) (λh=>False.elim (by revert h;first|(simp[];done)|fail)))|refine gi ?_|refine gt ?_|refine sd ?_)
 refine aH.i [[],[0],[0,1],[0,1,2],[],[4],r_6,r_7,r_8,r_8,r_9,fe] kX (by kernel_rfl) ?_
 refine gA ?_
 refine Call.i hKb [(1001,(1001,0,none))] rfl fc rfl fc rfl ?_
 rintro _ _ ⟨rfl,rfl⟩
 refine gN ?_
 repeat(first|(refine zB.i (λh=>False.elim (by revert h;first|(simp[];done)|fail)) (λ_=>?_))|(refine zB.i (λ_=>?_) (λh=>False.elim (by revert h;first|(simp[];done)|fail)))|refine gi ?_|refine gt ?_|refine sd ?_)
 refine aH.i [[],[0],[0,1],[0,1,2],[],[],r_6,r_7,r_7,r_9,ek] fe (by kernel_rfl) ?_
 refine gA ?_
 refine Call.name [(0,[]),(0,[]),(2001,[])] rfl fc (kW.i hO [(1003,(2001,0,none)),(1006,(306,0,none))] rfl fc rfl fc rfl ?_)
 rintro v M' ⟨n0,U,sp,hU,hn0,hUl,rfl,rfl⟩
 refine gN ?_
 refine gA ?_
 refine Ret.ghost [.keep 306] [(4,0)] rfl fc rfl (.tup [.isl 0 n 1 [(n0,.a8 U)],.tt]) [(1000,.mem false 0 [(1,.nilp),(1,.nsl),(1,.isl 0 1 32 [(32,.a8 o)]),(1,.slx 1001 0 0 m)]),(1001,.mem false 0 [(m*1,.arr m 1 (rwF L))])] [] rfl fc ⟨n,n0,U,hn0,hUl,rfl,by rw[hU],rfl⟩ rfl fc rfl fc rfl
end Go.Proofs.YtieblfbmmbkjdaaGreat
namespace Go.Proofs.YtieblfbmmbkjdaaGreat
open Go Go.Sx Go.Cu
theorem noT {q:List UInt8} (h:¬x8 q):¬Lib.contains q trmB=true:=by
 intro hc
 have hc:0<=Lib.index q trmB:=of_decide_eq_true hc
 rcases Lib.index_spec q trmB with⟨h1,_⟩|⟨i,h1,h2,h3,_⟩
 ·omega
 have hp:trmB<+:q.drop i:=List.isPrefixOf_iff_prefix.1 h3
 obtain⟨t,ht⟩:=hp
 have h4:trmB.length=4:=rfl
 refine h ⟨i,?_,?_⟩
 ·have:=congrArg List.length ht
  rw[zlA,zlD]at this
  omega
 rw[<-ht];exact List.take_left' rfl
theorem aDD {P:Program} {f:FuncId} {a b c:SV} {ls:List (Nat×SV)} {M0:Mm} {R:SV->Mm->Prop} (h:Sx.Fn P f [a,b,c,.isl 0 1 32 ls] M0 R):Sx.Fn P f [a,b,c,.isl 0 1 1 ls] M0 R:=by
 intro ρ xs w hM hr
 refine h ρ xs w hM ?_
 obtain⟨x1,r1,rfl,h1,x2,r2,rfl,h2,x3,r3,rfl,h3,x4,r4,rfl,h4,rfl⟩:=hr
 refine⟨x1,_,rfl,h1,x2,_,rfl,h2,x3,_,rfl,h3,x4,_,rfl,?_,rfl⟩
 obtain⟨b,o,c,x,g1,g2,g3,g4⟩:=h4
 exact⟨b,o,c,x,g1,g2,g3,λhc=>by rw[g4 hc]⟩
theorem xR (x y:List UInt8) (n m:Nat) (hx:x.length=n) (hy:y.length=m):Sx.Fn Γ.P 10 [.isl 0 n 1 [(n,.a8 x)],.isl 0 m 1 [(m,.a8 y)]] [] (λv M=>v= .bool (x=y)/\M=[]):=by
 have h:=aFI x y
 rw[hx,hy,Nat.mul_one,Nat.mul_one]at h
 exact h
theorem aA8 (a0 a1 a2 b0 b1 b2 b3 b4:List (Nat×SV)):aM9 [a0,a1,b0,b1,b2,b3,b4]=aDH 2 (aM9 [a0,a1,a2]) (aM9 [b0,b1,b2,b3,b4]):=by
 funext z
 match z with
 |0=>rfl
 |1=>rfl
 |2=>rfl
 |3=>rfl
 |4=>rfl
 |5=>rfl
 |6=>rfl
 |z+7=>rfl
def abB:List UInt8:=[ofNat 97,ofNat 98]
def cB:List UInt8:=[ofNat 99]
def xtB:List UInt8:=[ofNat 120,ofNat 116,ofNat 101,ofNat 114,ofNat 109]
def okB:List UInt8:=[ofNat 2,ofNat 0,ofNat 2,ofNat 97,ofNat 98,ofNat 0,ofNat 1,ofNat 99]
theorem wj:jnB [abB,cB]=okB:=by rw[aGW];decide
theorem tO:Sx.Fn Γ.P 4 [] [] (λv _=>v= .tt):=by
 have c3:=vK abB cB 2 1 (jnB [abB,cB]) 8 rfl rfl (by omega) (by omega) (by rw [wj];rfl) (by omega) (gP [] 0 abB 2 rfl (by omega) (by decide +kernel)) (gP [abB] 1 cB 1 rfl (by omega) (by decide +kernel))
  (oC abB cB 2 1 8 rfl rfl (by omega) (by omega) (by rw[wj];rfl))
 rw[wj]at c3
 have cb:=ql xtB 5 (qE [] 0 xtB 5 rfl (by omega) (by decide +kernel))
 refine aG (Γ:=Γ) (fn:=Tryz.f4) rfl rfl rfl rfl ?_
 repeat(first|(refine zB.i (λh=>False.elim (by revert h;first|(simp[];done)|fail)) (λ_=>?_))|(refine zB.i (λ_=>?_) (λh=>False.elim (by revert h;first|(simp[];done)|fail)))|refine gi ?_|refine gt ?_|refine sd ?_)
 refine Call.i aDT [(1000,(300,0,none)),(1002,(302,0,none))] rfl fc rfl fc rfl ?_
 rintro _ _ ⟨rfl,rfl⟩
 refine gN ?_
 repeat(first|(refine zB.i (λh=>False.elim (by revert h;first|(simp[];done)|fail)) (λ_=>?_))|(refine zB.i (λ_=>?_) (λh=>False.elim (by revert h;first|(simp[];done)|fail)))|refine gi ?_|refine gt ?_|refine sd ?_)
 refine Call.name [(0,[]),(2004,[]),(0,[]),(0,[])] rfl fc (kW.i c3 [(1004,(2004,0,none)),(1005,(300,0,none))] rfl fc rfl fc rfl ?_)
 rintro _ _ ⟨rfl,rfl⟩
 refine gN ?_
 repeat(first|(refine zB.i (λh=>False.elim (by revert h;first|(simp[];done)|fail)) (λ_=>?_))|(refine zB.i (λ_=>?_) (λh=>False.elim (by revert h;first|(simp[];done)|fail)))|refine gi ?_|refine gt ?_|refine sd ?_)
 refine Call.i aDT [(1000,(310,0,none)),(1002,(312,0,none))] rfl fc rfl fc rfl ?_
 rintro _ _ ⟨rfl,rfl⟩
 refine gN ?_
 repeat(first|(refine zB.i (λh=>False.elim (by revert h;first|(simp[];done)|fail)) (λ_=>?_))|(refine zB.i (λ_=>?_) (λh=>False.elim (by revert h;first|(simp[];done)|fail)))|refine gi ?_|refine gt ?_|refine sd ?_)
 refine Call.name [(0,[]),(2005,[]),(0,[]),(0,[])] rfl fc (kW.i cb [(1004,(2005,0,none)),(1005,(310,0,none))] rfl fc rfl fc rfl ?_)
 rintro _ _ ⟨rfl,rfl⟩
 refine gN ?_
 repeat(first|(refine zB.i (λh=>False.elim (by revert h;first|(simp[];done)|fail)) (λ_=>?_))|(refine zB.i (λ_=>?_) (λh=>False.elim (by revert h;first|(simp[];done)|fail)))|refine gi ?_|refine gt ?_|refine sd ?_)
 refine zB.i (λ_=>?_) (λhn=>absurd rfl hn)
 repeat(first|(refine zB.i (λh=>False.elim (by revert h;first|(simp[];done)|fail)) (λ_=>?_))|(refine zB.i (λ_=>?_) (λh=>False.elim (by revert h;first|(simp[];done)|fail)))|refine gi ?_|refine gt ?_|refine sd ?_)
 refine Ret.i .tt [] [] rfl ?_ rfl rfl ?_ rfl ?_ rfl
 ·exact fc
 ·repeat' first|exact trivial|refine zA.app ?_ ?_|refine zA.zd ?_ ?_|refine zA.cons ?_ ?_|exact fc|fail
  all_goals first|exact Or.inl ⟨Or.inl ⟨trivial,rfl⟩,trivial⟩|(simp;done)|decide |trace_state
 exact fc
theorem uo (o q:List UInt8) (n:Nat) (N:UInt16) (ho:o.length=32) (hq:q.length=n):Sx.Fn Γ.P 3 [.a8 o,.isl 0 n 1 [(n,.a8 q)],.u16 N] [] (λv _=>v= .tt):=by
 refine cV [14] (Γ:=Γ) (fn:=Tryz.f3) rfl rfl rfl rfl ?_
 refine gB ?_
 refine Call.i tO [] rfl trivial rfl trivial rfl ?_
 rintro v M' rfl
 refine gN ?_
 repeat(first|(refine zB.i (λ_=>?_) (λhn=>absurd rfl hn))|refine ky0 ?_|refine kn0 ?_|refine sd ?_)
 refine zB.i ?_ ?_<;>intro hc
 ·refine gB ?_
  refine Ret.i .tt [] [] rfl fc rfl rfl fc rfl fc rfl
 have hc:¬(n:Int)>12:=hc
 have hn:n<=12:=by omega
 refine gB ?_
 refine Call.i (fn5 q n hq hn) [] rfl fc rfl fc rfl ?_
 rintro _ _ ⟨rfl,rfl⟩
 refine gN ?_
 refine gB ?_
 refine zB.i ?_ ?_<;>intro ht
 ·refine gB ?_
  refine Ret.i .tt [] [] rfl fc rfl rfl fc rfl fc rfl
 have ht:¬x8 q:=Classical.not_not.1 ht
 have hC:=noT ht
 refine gB ?_
 refine Call.i fn6 [] rfl fc rfl fc rfl ?_
 rintro _ _ ⟨rfl,rfl⟩
 refine gN ?_
 repeat(first|(refine zB.i (λh=>False.elim (by revert h;first|(simp[];done)|fail)) (λ_=>?_))|(refine zB.i (λ_=>?_) (λh=>False.elim (by revert h;first|(simp[];done)|fail)))|refine gi ?_|refine gt ?_|refine sd ?_)
 have lG:=gX o q
 have c3:=aDD (xc o q n (sgB o q) 64 ho hq hn lG (by omega) (mG o ho [] 0) (ib o [o] 1 q n hq hn hC)
  (pb o [o,q] 2 0 1 64 (sgB o q) (oE o [o,q] 2 0 1 n rfl (by omega) (by omega) o rfl ho (by omega) q rfl hq (by omega))))
 have gV:=aHF (spB o) q (sgB o q) n (gU o) hq (by omega) lG
 have gS:=aHH o ho
 have hvr:=uE o q
 have l1:=gU o
 generalize vrf (spB o) q (sgB o q)=V at *
 generalize sgB o q=G at *
 generalize spB o=S at *
 refine Call.name [(0,[]),(0,[]),(0,[]),(1,[])] rfl fc (kW.i c3 [(1004,(26,0,none))] rfl fc rfl fc rfl ?_)
 rintro _ _ ⟨rfl,rfl⟩
 refine gN ?_
 repeat(first|(refine zB.i (λh=>False.elim (by revert h;first|(simp[];done)|fail)) (λ_=>?_))|(refine zB.i (λ_=>?_) (λh=>False.elim (by revert h;first|(simp[];done)|fail)))|refine gi ?_|refine gt ?_|refine sd ?_)
 refine aH.i [[],[0],[0,1],[0,1,2],r_4,r_5,r_6,r_7,r_8,r_8,r_8,[0,1,2,3,4,5,6,7,9,10],r_8,r_8,oB,nw,na] [0,1,2,3,4,5,6,7,8,9,10,12,13,11,14,15,16] (by kernel_rfl) ?_
 repeat(first|(refine zB.i (λh=>False.elim (by revert h;first|(simp[];done)|fail)) (λ_=>?_))|(refine zB.i (λ_=>?_) (λh=>False.elim (by revert h;first|(simp[];done)|fail)))|refine gi ?_|refine gt ?_|refine sd ?_)
 refine Call.pure gS rfl fc ?_
 rintro _ rfl
 repeat(first|(refine zB.i (λh=>False.elim (by revert h;first|(simp[];done)|fail)) (λ_=>?_))|(refine zB.i (λ_=>?_) (λh=>False.elim (by revert h;first|(simp[];done)|fail)))|refine gi ?_|refine gt ?_|refine sd ?_)
 refine Call.pure gV rfl ?_ ?_
 ·repeat' first|exact trivial|refine zA.app ?_ ?_|refine zA.zd ?_ ?_|refine zA.cons ?_ ?_|exact fc|fail
  all_goals
   have eX:take 64 (drop 0 G)=G:=by rw[drop_zero,List.take_of_length_le (by omega)]
   have eC:=vl (X:=G) (r:=List.replicate 64 0) (m:=64) lG rfl
   rw[eX];exact eC
 rintro _ rfl
 refine gB ?_
 refine zB.i (λh=>absurd rfl h) (λ_=>?_)
 refine gB ?_
 refine zB.i (λh=>absurd h (by rintro(⟨h1,_⟩|⟨_,h2⟩);exact h1 rfl;exact h2 hvr)) (λ_=>?_)
 refine gB ?_
 refine Cut.i (σ:=Unit) (λ_=>True) (λ_=>([(1,.isl 0 n 1 [(n,.a8 q)]),(2,.u16 N),(3,.ptr 203 0 none),(7,.ptr 207 0 none),(8,.sl 208 0 0 3 3)],
  [(203,.mem true 0 [(32,.a8 o)]),(207,.mem true 0 [(1,.nilp)]),(208,.mem false 0 [(3*6,.arr 3 6 (aM9 [cm 13 0 0 0,eZ q n,cm 9 0 1 0]))])])) () trivial (Le.i [(203,(3,0,none)),(207,(7,0,none)),(208,(26,0,none))] rfl fc rfl fc rfl) ?_
 rintro - -
 repeat(first|(refine zB.i (λh=>False.elim (by revert h;first|(simp[];done)|fail)) (λ_=>?_))|(refine zB.i (λ_=>?_) (λh=>False.elim (by revert h;first|(simp[];done)|fail)))|refine gi ?_|refine gt ?_|refine sd ?_)
 refineλc' hc'=>?_
 have hc':2+5<=c':=hc'
 repeat(first|(refine zB.i (λh=>False.elim (by revert h;first|(simp[];done)|fail)) (λ_=>?_))|(refine zB.i (λ_=>?_) (λh=>False.elim (by revert h;first|(simp[];done)|fail)))|refine gi ?_|refine gt ?_|refine sd ?_)
 have hf:=fV N.toNat
 obtain⟨f,hfe⟩:∃f,frB N.toNat=f:=⟨_,rfl⟩
 have s2:=oD o [o,q] 2 N.toNat (by have:=N.toNat_lt;omega)
 rw[hfe]at hf s2
 have hp:=dr f
 have hk:=dx o (me f)
 have hne:¬rc o (me f)=List.replicate 32 0:=by
  rw[oR,nG]
  exact xB ho hf
 have s3:=pu o [o,q,f] 3 2 0 32 (me f) (qK o [o,q,f] 3 2 0 rfl (by omega) (by omega) f rfl hf)
 have s4:=pc o [o,q,f,me f] 4 0 3 32 (rc o (me f)) (mL o [o,q,f,me f] 4 0 3 rfl (by omega) (by omega) o rfl ho (by omega) (me f) rfl hp hne)
 generalize me f=p at *
 generalize rc o p=k at *
 have hs:=rP (key:=k) hq
 have s5:=nq o [o,q,f,p,k] 5 4 1 (n/16*16+32) (seB k q) (oG o [o,q,f,p,k] 5 4 1 n rfl (by omega) (by omega) k rfl hk (by omega) q rfl hq (by omega) _ rfl)
 have s6:=np o [o,q,f,p,k,seB k q] 6 4 5 n q (oK o [o,q,f,p,k,seB k q] 6 4 5 n _ rfl (by omega) (by omega) k rfl hk (by omega) q hq (by omega) rfl rfl)
 generalize seB k q=sl at *
 obtain⟨l5,hl5⟩:∃l5,n/16*16+32=l5:=⟨_,rfl⟩
 rw[hl5]at hs s5
 have c7:=aDD (xb o q f p k sl n N.toNat l5 ho hq hn hf hp hk hs (by omega) (mG o ho [] 0) (ib o [o] 1 q n hq hn hC) s2 s3 s4 s5 s6)
 clear s2 s3 s4 s5 s6 c3 gV gS
 refine Call.name [(0,[]),(1,[]),(0,[]),(1,[])] rfl ?_ (kW.i c7 [] rfl ?_ rfl ?_ rfl ?_)
 ·exact fc
 ·repeat' first|exact trivial|refine zA.app ?_ ?_|refine zA.zd ?_ ?_|refine zA.cons ?_ ?_|exact fc|fail
  all_goals exact aA8 _ _ _ _ _ _ _ _
 ·exact fc
 rintro _ _ ⟨rfl,rfl⟩
 refine gN ?_
 repeat(first|(refine zB.i (λh=>False.elim (by revert h;first|(simp[];done)|fail)) (λ_=>?_))|(refine zB.i (λ_=>?_) (λh=>False.elim (by revert h;first|(simp[];done)|fail)))|refine gi ?_|refine gt ?_|refine sd ?_)
 refine Call.i (xR q q n n hq hq) [] rfl fc rfl fc rfl ?_
 rintro _ _ ⟨rfl,rfl⟩
 refine gN ?_
 repeat(first|(refine zB.i (λh=>False.elim (by revert h;first|(simp[];done)|fail)) (λ_=>?_))|(refine zB.i (λ_=>?_) (λh=>False.elim (by revert h;first|(simp[];done)|fail)))|refine gi ?_|refine gt ?_|refine sd ?_)
 refine Ret.i .tt [] [] rfl ?_ rfl rfl ?_ rfl ?_ rfl
 ·exact fc
 ·repeat' first|exact trivial|refine zA.app ?_ ?_|refine zA.zd ?_ ?_|refine zA.cons ?_ ?_|exact fc|fail
  all_goals(simp)
 exact fc
theorem foeReal_runs (svs:List SV) (h:aWM [aG2 32,aG0 1,xI] svs):Sx.Fn Γ.P 3 svs [] (λv _=>v= .tt):=by
 match svs,h with
 |[_,_,_],⟨⟨o,ho,rfl⟩,⟨n,q,hq,_,rfl⟩,⟨N,rfl⟩,_⟩=>
  rw[Nat.mul_one]at hq⊢
  exact uo o q n N ho hq
end Go.Proofs.YtieblfbmmbkjdaaGreat
