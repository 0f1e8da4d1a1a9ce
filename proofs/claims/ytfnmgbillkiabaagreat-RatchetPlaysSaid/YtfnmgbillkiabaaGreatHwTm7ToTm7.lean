/- What the functions of the program compute. No condition. -/
import Derived.Test.YtfnmgbillkiabaaGreatHwTm5ToTm6
set_option linter.unusedSimpArgs false
set_option linter.unusedVariables false
set_option maxRecDepth 100000
namespace Go.Proofs.YtfnmgbillkiabaaGreat
open Go Go.Sx
theorem putB_two (m:Nat):putB m 2 = [UInt8.ofNat (m / 256),UInt8.ofNat m]:=by
 show [UInt8.ofNat (m / 256 ^ 1),UInt8.ofNat (m / 256 ^ 0)] = _
 rw [Nat.pow_one,Nat.pow_zero,Nat.div_one]
set_option maxHeartbeats 1000000 in
theorem fn70 (L:List (List UInt8)) (n:Nat) (hn:L.length = n) (hn1:n <= 1000000) (hL:∀ x ∈ L,x.length <= 1000000):Sx.Fn Γ.P 70 [.slx 1003 0 0 n] [(1003,.mem false 0 (rwS n L))]
  (fun v M=>(¬ Joins L/\v = .tup [.nsl,.ff]/\M = [(1003,.mem false 0 (rwS n L))]) \/ ∃ c N,Joins L/\(jnB L).length = N/\N <= c/\v = .tup [.sl 1001 0 0 N c,.tt]/\M = [(1003,.mem false 0 (rwS n L)),(1001,.mem true (c - N) [(N,.a8 (jnB L))])]):=by
 unfold rwS rwF
 refine fn_of (Γ:=Γ) (fn:=Tryz.f70) rfl rfl rfl rfl ?_
 repeat (refine sd ?_)
 refine zB.intro (fun hc=>?_) (fun hc=>?_)
 ·have hc:(n:Int) > 64:=hc
  repeat (refine sd ?_)
  refine Ret.intro (.tup [.nsl,.ff]) [(1003,.mem false 0 [(n * 1,.arr n 1 (rwF L))])] [] rfl trivial (Or.inl ⟨fun h=>by have:=h.1;omega,rfl,rfl⟩) rfl ?_ rfl ?_ rfl
  ·exact fc
  ·exact fc
 have hc:¬ (n:Int) > 64:=hc
 have hz:=jnT_zero L
 have hn8:=ofInt8_nat n
 repeat (refine sd ?_)
 refine Loop.intro (σ:=Nat × Nat × Nat) (fun s=>s.1 <= n/\(jnT L s.1).length = s.2.1/\s.2.1 <= s.2.2/\∀ x ∈ L.take s.1,x.length <= 4096)
  (fun s=>([(0,.slx 1003 0 0 n),(4,.sl 204 0 0 s.2.1 s.2.2),(5,.i .i64 (s.1:Int))],[(1003,.mem false 0 [(n * 1,.arr n 1 (rwF L))]),(204,.mem true (s.2.2 - s.2.1) [(s.2.1,.a8 (jnT L s.1))])]))
  (fun s=>n - s.1) (0,1,1) ⟨Nat.zero_le _,by show (jnT L 0).length = 1;rw [hz];rfl,Nat.le_refl _,fun x h=>by cases h⟩ ?_ ?_
 ·refine Le.intro [(204,(12,0,none))] rfl ?_ rfl ?_ rfl
  ·exact fc
  ·repeat' (first | (show zA _;first | exact trivial | refine zA.app ?_ ?_ | refine zA.zd ?_ ?_ | refine zA.cons ?_ ?_) | exact fd | fail)
   all_goals (rw [hz,<- hn,<- ofInt8_nat];subst hn;exact rfl)
 rintro ⟨i,N,c⟩ ⟨hi,hN,hNc,hT⟩
 have hi:i <= n:=hi
 have hN:(jnT L i).length = N:=hN
 have hNc:N <= c:=hNc
 have hT:∀ x ∈ L.take i,x.length <= 4096:=hT
 have hle:=jnT_le i hT (by omega)
 refine zB.intro (fun hc=>?_) (fun hc=>?_)
 ·have hc:(i:Int) < n:=hc
  repeat (refine sdn ?_)
  obtain ⟨m,hm⟩:∃ m,(L.getD i []).length = m:=⟨_,rfl⟩
  have hmem:=getD_mem [] (L:=L) (i:=i) (by omega)
  have hm6:m <= 1000000:=by rw [<- hm];exact hL _ hmem
  refine zB.intro (fun hc2=>?_) (fun hc2=>?_)
  ·have hc2:((L.getD (addQ 0 (Int.toNat (i:Int))) []).length:Int) > 4096:=hc2
   rw [zQ,Nat.zero_add,zIn,hm] at hc2
   repeat (refine sd ?_)
   refine Ret.intro (.tup [.nsl,.ff]) [(1003,.mem false 0 [(n * 1,.arr n 1 (rwF L))])] [] rfl trivial (Or.inl ⟨fun h=>by have:=h.2 _ hmem;omega,rfl,rfl⟩) rfl ?_ rfl ?_ rfl
   ·exact fc
   ·exact fc
  have hc2:¬ ((L.getD (addQ 0 (Int.toNat (i:Int))) []).length:Int) > 4096:=hc2
  rw [zQ,Nat.zero_add,zIn,hm] at hc2
  have hsucc:=jnT_succ (L:=L) (i:=i) (by omega)
  have hT2:∀ x ∈ L.take (i + 1),x.length <= 4096:=by
   rw [take_succ_getD [] L i (by omega)]
   intro x hx
   rcases List.mem_append.1 hx with hx | hx
   ·exact hT x hx
   ·have hx:x = L.getD i []:=by simpa using hx
    rw [hx,hm];omega
  rw [hm] at hsucc
  have hl1:(jnT L i ++ [UInt8.ofNat (m / 256),UInt8.ofNat m]).length = N + 2:=by rw [zlA,hN];rfl
  have hl2:(jnT L (i + 1)).length = N + 2 + m:=by rw [hsucc,zlA,hl1,hm]
  have hP:=fn69 m 2 (by decide) (by decide) (by omega) (by omega)
  rw [putB_two] at hP
  repeat (refine sdn ?_)
  refine Call.intro hP [(1001,(31,0,none))] rfl fcn rfl trivial rfl ?_
  rintro v M' ⟨rfl,rfl⟩
  dsimp only [zt,zM,zE,ren,zz,zx,zy,look,zG,zX,ev,evL,zV,zcT,zcF,act,zP,zO,Ent.zW]
  repeat (refine sdn ?_)
  refine fun c1 hc1=>?_
  have hc1:N + 2 <= c1:=hc1
  repeat (refine sdn ?_)
  refine fun c2 hc2'=>?_
  have hc2':N + 2 + m <= c2:=by rw [<- hm];exact hc2'
  repeat (refine sdn ?_)
  refine ⟨(i + 1,N + 2 + m,c2),⟨by show i + 1 <= n;omega,hl2,hc2',hT2⟩,by show n - (i + 1) < n - i;omega,Le.intro [(204,(38,0,none))] rfl ?_ rfl ?_ rfl⟩
  ·exact fcn
  ·repeat' (first | (show zA _;first | exact trivial | refine zA.app ?_ ?_ | refine zA.zd ?_ ?_ | refine zA.cons ?_ ?_) | exact fdn | fail)
   all_goals (simp only [dropQ_eq,List.drop_zero,Ix.val,zQ,Nat.zero_add,zIn,hm];rw [List.take_of_length_le (l:=L.getD i []) (by omega)];exact hsucc)
 ·have hc:¬ (i:Int) < n:=hc
  obtain rfl:i = n:=by omega
  have hall:jnT L i = jnB L:=by rw [<- hn];exact jnT_all L
  have hJ:Joins L:=⟨by omega,by rw [<- hn,List.take_length] at hT;exact hT⟩
  repeat (refine sd ?_)
  refine Ret.intro (.tup [.sl 1001 0 0 N c,.tt]) [(1003,.mem false 0 [(i * 1,.arr i 1 (rwF L))]),(1001,.mem true (c - N) [(N,.a8 (jnB L))])] [(1001,(204,0,none))] rfl ?_ (Or.inr ⟨c,N,hJ,by rw [<- hall];exact hN,hNc,rfl,rfl⟩) rfl ?_ rfl ?_ rfl
  ·exact fc
  ·exact fc
  ·exact fc
theorem fn18 (x y:List UInt8):Sx.Fn Γ.P 18 [.isl 0 x.length 1 [(x.length * 1,.a8 x)],.isl 0 y.length 1 [(y.length * 1,.a8 y)]] [] (fun v M=>v = .bool (x = y)/\M = []):=by
 refine fn_of (Γ:=Γ) (fn:=Tryz.f18) rfl rfl rfl rfl ?_
 repeat (refine sd ?_)
 have hx:x.take x.length = x:=List.take_length
 have hy:y.take y.length = y:=List.take_length
 refine Ret.intro (.bool (x = y)) [] [] rfl trivial ⟨rfl,rfl⟩ rfl ?_ rfl trivial rfl
 ·repeat' (first | (show zA _;first | exact trivial | refine zA.app ?_ ?_ | refine zA.zd ?_ ?_ | refine zA.cons ?_ ?_) | exact fd | fail)
  show x = y ↔ x.take x.length = y.take y.length
  rw [hx,hy]
set_option maxHeartbeats 1000000 in
theorem fn76 (L K:List (List UInt8)) (n m:Nat) (hn:L.length = n) (hm:K.length = m) (hn1:n <= 1000000) (hm1:m <= 1000000):Sx.Fn Γ.P 76 [.slx 1003 0 0 n,.slx 1004 0 0 m] [(1003,.mem false 0 (rwS n L)),(1004,.mem false 0 (rwS m K))]
  (fun v M=>(L = K/\v = .tt \/ L ≠ K/\v = .ff)/\M = [(1003,.mem false 0 (rwS n L)),(1004,.mem false 0 (rwS m K))]):=by
 unfold rwS rwF
 refine fn_of (Γ:=Γ) (fn:=Tryz.f76) rfl rfl rfl rfl ?_
 repeat (refine sd ?_)
 refine zB.intro (fun hc=>?_) (fun hc=>?_)
 ·have hc:(n:Int) ≠ m:=hc
  repeat (refine sd ?_)
  refine Ret.intro .ff [(1003,.mem false 0 [(n * 1,.arr n 1 (rwF L))]),(1004,.mem false 0 [(m * 1,.arr m 1 (rwF K))])] [] rfl trivial ⟨Or.inr ⟨fun h=>hc (by rw [<- hn,<- hm,h]),rfl⟩,rfl⟩ rfl ?_ rfl ?_ rfl
  ·exact fc
  ·exact fc
 have hc:¬ (n:Int) ≠ m:=hc
 repeat (refine sd ?_)
 refine Loop.intro (σ:=Nat) (fun i=>i <= n/\L.take i = K.take i)
  (fun i=>([(0,.slx 1003 0 0 n),(1,.slx 1004 0 0 m),(5,.i .i64 (i:Int))],[(1003,.mem false 0 [(n * 1,.arr n 1 (rwF L))]),(1004,.mem false 0 [(m * 1,.arr m 1 (rwF K))])]))
  (fun i=>n - i) 0 ⟨Nat.zero_le _,rfl⟩ ?_ ?_
 ·refine Le.intro [] rfl ?_ rfl ?_ rfl
  ·exact fc
  ·exact fc
 rintro i ⟨hi,hT⟩
 have hi:i <= n:=hi
 refine zB.intro (fun hc=>?_) (fun hc=>?_)
 ·have hc:(i:Int) < n:=hc
  have hB:=fn18 (L.getD i []) (K.getD i [])
  refine Draw.intro [[],[],[0,1],[0,1,2],[],[],[4,5],[4,5,6],[0,1,2,3,4,5,6,7],[0,1,2,3,4,5,6,7,8]] [0,1,2,3,4,5,6,7,8,9] (by kernel_rfl) ?_
  repeat (refine sdn ?_)
  refine Call.intro hB [] rfl fcn rfl trivial rfl ?_
  rintro v M' ⟨rfl,rfl⟩
  dsimp only [zt,zM,zE,ren,zz,zx,zy,look,zG,zX,ev,evL,zV,zcT,zcF,act,zP,zO,Ent.zW]
  repeat (refine sd ?_)
  refine zB.intro (fun hc2=>?_) (fun hc2=>?_)
  ·repeat (refine sd ?_)
   have hne:L.getD i [] ≠ K.getD i []:=hc2
   refine Ret.intro .ff [(1003,.mem false 0 [(n * 1,.arr n 1 (rwF L))]),(1004,.mem false 0 [(m * 1,.arr m 1 (rwF K))])] [] rfl trivial ⟨Or.inr ⟨fun h=>hne (by rw [h]),rfl⟩,rfl⟩ rfl ?_ rfl ?_ rfl
   ·exact fc
   ·exact fc
  ·have heq:L.getD i [] = K.getD i []:=Classical.byContradiction hc2
   repeat (refine sd ?_)
   refine ⟨i + 1,⟨by omega,by rw [take_succ_getD [] L i (by omega),take_succ_getD [] K i (by omega),hT,heq]⟩,by omega,Le.intro [] rfl ?_ rfl ?_ rfl⟩
   ·exact fc
   ·exact fc
 ·have hc:¬ (i:Int) < n:=hc
  obtain rfl:i = n:=by omega
  have hLK:L = K:=by
   rw [<- List.take_length (l:=L),<- List.take_length (l:=K),hn,hm]
   rw [show m = i by omega]
   exact hT
  repeat (refine sd ?_)
  refine Ret.intro .tt [(1003,.mem false 0 [(i * 1,.arr i 1 (rwF L))]),(1004,.mem false 0 [(m * 1,.arr m 1 (rwF K))])] [] rfl trivial ⟨Or.inl ⟨hLK,rfl⟩,rfl⟩ rfl ?_ rfl ?_ rfl
  ·exact fc
  ·exact fc
end Go.Proofs.YtfnmgbillkiabaaGreat
