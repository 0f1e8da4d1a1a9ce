/- What the functions of the program compute. No condition. -/
import Derived.Test.YtfnmgbillkiabaaGreatHwAc3ToAc4
import Derived.Test.YtfnmgbillkiabaaGreatHwRc3ToRc4
import Derived.Test.YtfnmgbillkiabaaGreatHwRa8ToRy2
set_option linter.unusedSimpArgs false
set_option linter.unusedVariables false
set_option maxRecDepth 100000
namespace Go.Proofs.YtfnmgbillkiabaaGreat
open Go Go.Sx
set_option maxHeartbeats 2000000 in
theorem fnSameA (x:Ac) (hx:x.OK) (l:List On) (N:Nat) (hN:l.length = N) (hN1:N <= 1000000) (hlO:∀ k ∈ l,OnOK k) :
  Sx.Fn Γ.P 25 [.agg (acL x (.isl 0 N 33 [(N * 33,.arr N 33 (onF l))])),.agg (acL x (.isl 0 N 33 [(N * 33,.arr N 33 (onF l))]))] [] (fun v M=>v = .tt/\M = []):=by
 obtain ⟨h1,h2,h3⟩:=hx
 refine fn_of (Γ:=Γ) (fn:=Tryz.f25) rfl rfl rfl rfl ?_
 repeat (refine sd ?_)
 repeat (first | (refine zB.intro (fun h=>False.elim (by revert h;first | (simp ;done) | fail)) (fun _=>?_)) | (refine zB.intro (fun _=>?_) (fun h=>False.elim (by revert h;first | (simp ;done) | fail))) | (refine sd ?_))
 refine Loop.intro (σ:=Nat) (fun i=>i <= N)
  (fun i=>([(2,.ptr 202 0 none),(3,.ptr 203 0 none),(5,.i .i64 (i:Int))],[(202,.mem true 0 (acL x (.isl 0 N 33 [(N * 33,.arr N 33 (onF l))]))),(203,.mem true 0 (acL x (.isl 0 N 33 [(N * 33,.arr N 33 (onF l))])))]))
  (fun i=>N - i) 0 (Nat.zero_le _) ?_ ?_
 ·refine Le.intro [(202,(2,0,none)),(203,(3,0,none))] rfl ?_ rfl ?_ rfl
  ·exact fc
  ·exact fc
 rintro i hi
 have hi:i <= N:=hi
 repeat (refine sd ?_)
 refine zB.intro (fun hb=>?_) (fun hb=>?_)
 ·have hb:(i:Int) < (N:Int):=hb
  have e:addQ 0 (Int.toNat (i:Int)) = i:=by rw [zQ,Nat.zero_add,zIn]
  have hk:(l.getD i on0).2.length = 32:=hlO _ (getD_mem on0 (by omega))
  have hk2:(l.getD (addQ 0 (Int.toNat (i:Int))) on0).2.length = 32:=by rw [e];exact hk
  repeat (refine sd ?_)
  refine Draw.intro [[],[0],[],[0,1,2],[0,1,2,3],[],[5],[],[5,6,7],[5,6,7,8],[0,1,2,3,4,5,6,7,8,9]] [0,1,2,3,4,5,6,7,8,9,10] (by kernel_rfl) ?_
  repeat (first | (refine Grow.turn rfl rfl ?_) | (refine sd ?_))
  repeat (first | (refine zB.intro (fun h=>False.elim (by revert h;first | (simp ;done) | fail)) (fun _=>?_)) | (refine zB.intro (fun _=>?_) (fun h=>False.elim (by revert h;first | (simp ;done) | fail))) | (refine sd ?_))
  refine ⟨i + 1,by show i + 1 <= N;omega,by show N - (i + 1) < N - i;omega,Le.intro [(202,(202,0,none)),(203,(203,0,none))] rfl ?_ rfl ?_ rfl⟩
  ·exact fc
  ·exact fc
 have hb:¬ (i:Int) < (N:Int):=hb
 repeat (refine sd ?_)
 refine Ret.intro .tt [] [] rfl ?_ ⟨rfl,rfl⟩ rfl ?_ rfl ?_ rfl
 ·exact fc
 ·exact fc
 ·exact fc
set_option maxHeartbeats 2000000 in
theorem fnSameZ:Sx.Fn Γ.P 25 [.agg zAc,.agg zAc] [] (fun v M=>v = .tt/\M = []):=by
 refine fn_of (Γ:=Γ) (fn:=Tryz.f25) rfl rfl rfl rfl ?_
 repeat (refine sd ?_)
 repeat (first | (refine zB.intro (fun h=>False.elim (by revert h;first | (simp ;done) | fail)) (fun _=>?_)) | (refine zB.intro (fun _=>?_) (fun h=>False.elim (by revert h;first | (simp ;done) | fail))) | (refine sd ?_))
 refine Loop.intro (σ:=Unit) (fun _=>True)
  (fun _=>([(2,.ptr 202 0 none),(3,.ptr 203 0 none),(5,.i .i64 0)],[(202,.mem true 0 zAc),(203,.mem true 0 zAc)]))
  (fun _=>0) () trivial ?_ ?_
 ·refine Le.intro [(202,(2,0,none)),(203,(3,0,none))] rfl ?_ rfl ?_ rfl
  ·exact fc
  ·exact fc
 rintro - -
 repeat (refine sd ?_)
 refine zB.intro (fun hb=>?_) (fun hb=>?_)
 ·have hb:(0:Int) < 0:=hb
  exact absurd hb (by omega)
 repeat (refine sd ?_)
 refine Ret.intro .tt [] [] rfl ?_ ⟨rfl,rfl⟩ rfl ?_ rfl ?_ rfl
 ·exact fc
 ·exact fc
 ·exact fc
theorem fnBytesU (x y:List UInt8) (n m:Nat) (hx:x.length = n) (hy:y.length = m):Sx.Fn Γ.P 18 [.isl 0 n 1 [(n,.a8 x)],.isl 0 m 1 [(m,.a8 y)]] [] (fun v M=>v = .bool (x = y)/\M = []):=by
 have h:=fn18 x y
 rw [hx,hy,Nat.mul_one,Nat.mul_one] at h
 exact h
theorem fnBytes0U:Sx.Fn Γ.P 18 [.nsl,.nsl] [] (fun v M=>v = .tt/\M = []):=by
 refine fn_of (Γ:=Γ) (fn:=Tryz.f18) rfl rfl rfl rfl ?_
 repeat (refine sd ?_)
 refine Ret.intro .tt [] [] rfl ?_ ⟨rfl,rfl⟩ rfl ?_ rfl ?_ rfl
 ·exact fc
 ·exact fc
 ·exact fc
theorem fn_nilU {P:Program} {f:FuncId} {M0:Mm} {R:SV->Mm->Prop} (h:Sx.Fn P f [.isl 0 0 1 [(0,.a8 [])]] M0 R):Sx.Fn P f [.nsl] M0 R:=by
 intro ρ xs w a b
 refine h ρ xs w a ?_
 obtain ⟨y,ys,e,hy,hr⟩:=b
 have hy:y = .slice none 0 0:=hy
 exact ⟨y,ys,e,⟨0,0,0,none,Or.inr ⟨rfl,rfl,trivial⟩,Nat.le_refl _,hy,fun h=>absurd rfl h⟩,hr⟩
theorem fnGetQ (b:List UInt8) (N q n:Nat) (hb:b.length = N) (hq:q + n <= N) (hN:N <= 1000000) (h1:1 <= n) (h8:n <= 8):Sx.Fn Γ.P 61 [.isl q n 1 [(N,.a8 b)]] []
  (fun v M=>v = .tup [.u64 (gK b q n),.tt]/\M = []):=by
 have hz:gK b q 0 = 0:=rfl
 refine fn_of (Γ:=Γ) (fn:=Tryz.f61) rfl rfl rfl rfl ?_
 repeat (refine sd ?_)
 refine zB.intro (fun h=>absurd (show (n:Int) < 1 from h) (by omega)) (fun _=>?_)
 repeat (refine sd ?_)
 refine zB.intro (fun h=>absurd (show (n:Int) > 8 from h) (by omega)) (fun _=>?_)
 repeat (refine sd ?_)
 refine Loop.intro (σ:=Nat) (fun i=>i <= n)
  (fun i=>([(4,.u64 (gK b q i)),(15,.isl q n 1 [(N,.a8 b)]),(16,.i .i64 (n:Int)),(17,.i .i64 (i:Int))],[])) (fun i=>n - i) 0 (Nat.zero_le _) ?_ ?_
 ·refine Le.intro [] rfl ?_ rfl ?_ rfl
  ·exact fc
  ·exact fc
 rintro i hi
 have hi:i <= n:=hi
 refine zB.intro (fun hc=>?_) (fun hc=>?_)
 ·have hc:(i:Int) < n:=hc
  have hs:gK b q (i + 1) = shl64 (gK b q i) 8 ||| (b.getD (q + i) 0).toUInt64:=rfl
  repeat (refine sdn ?_)
  refine ⟨i + 1,by show i + 1 <= n;omega,by show n - (i + 1) < n - i;omega,Le.intro [] rfl ?_ rfl ?_ rfl⟩
  ·exact fc
  ·exact fcn
 ·obtain rfl:i = n:=by have hc:¬ (i:Int) < n:=hc;omega
  repeat (refine sd ?_)
  refine Ret.intro (.tup [.u64 (gK b q i),.tt]) [] [] rfl ?_ ⟨rfl,rfl⟩ rfl ?_ rfl ?_ rfl
  ·exact fc
  ·exact fc
  ·exact fc
theorem fnKeyQ (b:List UInt8) (N q:Nat) (hb:b.length = N) (hq:q + 32 <= N) (hN:N <= 1000000):Sx.Fn Γ.P 60 [.isl q 32 1 [(N,.a8 b)]] [] (fun v M=>v = .tup [.a8 ((b.drop q).take 32),.tt]/\M = []):=by
 obtain ⟨X,hX⟩:∃ X,(b.drop q).take 32 = X:=⟨_,rfl⟩
 have hXl:X.length = 32:=by rw [<- hX,zlT,zlD];omega
 rw [hX]
 refine fn_of (Γ:=Γ) (fn:=Tryz.f60) rfl rfl rfl rfl ?_
 repeat (refine sd ?_)
 refine zB.intro (fun hc=>?_) (fun hc=>?_)
 ·have hc:¬ (32:Int) = 32:=hc
  exact absurd rfl hc
 repeat (refine sd ?_)
 refine Ret.intro (.tup [.a8 X,.tt]) [] [] rfl ?_ ⟨rfl,rfl⟩ rfl ?_ rfl ?_ rfl
 ·exact fc
 ·repeat' (first | (show zA _;first | exact trivial | refine zA.app ?_ ?_ | refine zA.zd ?_ ?_ | refine zA.cons ?_ ?_) | exact fd | fail)
  all_goals first | (rw [hX];exact cp_key hXl rfl) | trace_state
 ·exact fc
end Go.Proofs.YtfnmgbillkiabaaGreat
