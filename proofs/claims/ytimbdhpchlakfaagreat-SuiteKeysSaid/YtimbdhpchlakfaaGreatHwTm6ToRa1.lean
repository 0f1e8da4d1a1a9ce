/- Walks. -/
import Derived.Test.YtimbdhpchlakfaaGreatHwFe5ToTm5
import Derived.Test.YtimbdhpchlakfaaGreatHx7
set_option linter.unusedSimpArgs false
set_option linter.unusedVariables false
set_option maxHeartbeats 4000000
open UInt8 (ofNat ofInt toNat_ofNat')
open List (replicate take take_length drop drop_zero take_of_length_le nil_append length_cons)
open Nat (zero_add le_refl zero_le mul_one)
open Int (toNat)
set_option maxRecDepth 100000
namespace Go.Proofs.YtimbdhpchlakfaaGreat
open Go Go.Sx
def rwF (L:List (List UInt8)) (q:Nat):List (Nat × SV):=[(1,.isl 0 (L.getD q []).length 1 [((L.getD q []).length * 1,.a8 (L.getD q []))])]
def rwS (n:Nat) (L:List (List UInt8)):List (Nat × SV):=[(n * 1,.arr n 1 (rwF L))]
def jnR:List (List UInt8)->List UInt8
 | []=>[]
 | x :: r=>[ofNat (x.length / 256),ofNat x.length] ++ x ++ jnR r
@[irreducible] def jnB (L:List (List UInt8)):List UInt8:=ofNat L.length :: jnR L
theorem aDN (L:List (List UInt8)):jnB L = ofNat L.length :: jnR L:=by unfold jnB;rfl
theorem aDM:∀ (L M:List (List UInt8)),jnR (L ++ M) = jnR L ++ jnR M
 | [],M=>rfl
 | x :: r,M=>by
  show [_,_] ++ x ++ jnR (r ++ M) = [_,_] ++ x ++ jnR r ++ jnR M
  rw [aDM r M,List.append_assoc ([_,_] ++ x)]
theorem bS {α:Type} (d:α):∀ (L:List α) (i:Nat),i < L.length->L.take (i + 1) = L.take i ++ [L.getD i d]
 | x :: r,0,_=>rfl
 | x :: r,i + 1,h=>by
  show x :: r.take (i + 1) = x :: (r.take i ++ [r.getD i d])
  rw [bS d r i (by simpa using h)]
@[irreducible] def jnT (L:List (List UInt8)) (i:Nat):List UInt8:=ofNat L.length :: jnR (L.take i)
theorem xU (L:List (List UInt8)):jnT L 0 = [ofNat L.length]:=by unfold jnT;rfl
theorem xV {L:List (List UInt8)} {i:Nat} (h:i < L.length):jnT L (i + 1) = (jnT L i ++ [ofNat ((L.getD i []).length / 256),ofNat (L.getD i []).length]) ++ L.getD i []:=by
 unfold jnT
 rw [bS [] L i h,aDM]
 show _ :: (jnR (L.take i) ++ ([_,_] ++ L.getD i [] ++ [])) = _ :: (jnR (L.take i) ++ _) ++ _
 simp
theorem aDJ (L:List (List UInt8)):jnT L L.length = jnB L:=by unfold jnT jnB;rw [take_length]
theorem aDK:∀ (L:List (List UInt8)),(∀ x ∈ L,x.length <= 4096)->(jnR L).length <= 4098 * L.length
 | [],_=>zero_le _
 | x :: r,h=>by
  have h1:=aDK r (fun y hy=>h y (List.mem_cons_of_mem _ hy))
  have h2:=h x (List.mem_cons_self ..)
  show ([_,_] ++ x ++ jnR r).length <= 4098 * (r.length + 1)
  simp only [zlA,length_cons,List.length_nil]
  omega
theorem aPM {L:List (List UInt8)} (h:∀ x ∈ L,x.length <= 4096):(jnB L).length <= 4098 * L.length + 1:=by
 rw [aDN];have:=aDK L h;simp only [length_cons];omega
theorem aJX {L:List (List UInt8)} (i:Nat) (h:∀ x ∈ L.take i,x.length <= 4096) (hi:i <= L.length):(jnT L i).length <= 4098 * i + 1:=by
 unfold jnT
 have:=aDK _ h
 rw [zlT] at this
 simp only [length_cons];omega
def pH (L:List (List UInt8)):Prop:=L.length <= 64/\∀ x ∈ L,x.length <= 4096
instance (L:List (List UInt8)):Decidable (pH L):=inferInstanceAs (Decidable (_/\_))
theorem eJ {α:Type} (d:α) {L:List α} {i:Nat} (h:i < L.length):L.getD i d ∈ L:=by
 rw [List.getD_eq_getElem?_getD,List.getElem?_eq_getElem h]
 exact List.getElem_mem h
theorem cP (i:Nat):ofInt (i:Int) = ofNat i:=by
 apply UInt8.toNat_inj.1
 simp [ofInt]
 try omega
theorem aBW (m:Nat) (h:m <= 4096):ofInt ((m:Int) / 2 ^ 8) = ofNat (m / 256):=by
 have:(m:Int) / 2 ^ 8 = ((m / 256:Nat):Int):=by omega
 rw [this]
 exact cP _
theorem aWB (L:List (List UInt8)) (n:Nat) (hn:L.length = n) (hn1:n <= 1000000) (hL:∀ x ∈ L,x.length <= 1000000):Sx.Fn Γ.P 72 [.slx 1003 0 0 n] [(1003,.mem false 0 (rwS n L))]
  (fun v M=>(¬ pH L/\v = .tup [.nsl,.ff]/\M = [(1003,.mem false 0 (rwS n L))]) \/ ∃ c N,pH L/\(jnB L).length = N/\N <= c/\v = .tup [.sl 1001 0 0 N c,.tt]/\M = [(1003,.mem false 0 (rwS n L)),(1001,.mem true (c - N) [(N,.a8 (jnB L))])]):=by
 unfold rwS rwF
 refine aF (Γ:=Γ) (fn:=Tryz.f72) rfl rfl rfl rfl ?_
 repeat refine sd ?_
 refine zB.intro (fun hc=>?_) (fun hc=>?_)
 ·have hc:(n:Int) > 64:=hc
  repeat refine sd ?_
  refine Ret.intro (.tup [.nsl,.ff]) [(1003,.mem false 0 [(n * 1,.arr n 1 (rwF L))])] [] rfl trivial (Or.inl ⟨fun h=>by have:=h.1;omega,rfl,rfl⟩) rfl fc rfl fc rfl
 have hc:¬ (n:Int) > 64:=hc
 have hz:=xU L
 have hn8:=cP n
 repeat refine sd ?_
 refine ac.intro (σ:=Nat × Nat × Nat) (fun s=>s.1 <= n/\(jnT L s.1).length = s.2.1/\s.2.1 <= s.2.2/\∀ x ∈ L.take s.1,x.length <= 4096)
  (fun s=>([(4,.sl 204 0 0 s.2.1 s.2.2),(14,.slx 1003 0 0 n),(15,.i .i64 (n:Int)),(16,.i .i64 (s.1:Int))],[(1003,.mem false 0 [(n * 1,.arr n 1 (rwF L))]),(204,.mem true (s.2.2 - s.2.1) [(s.2.1,.a8 (jnT L s.1))])]))
  (fun s=>n - s.1) (0,1,1) ⟨zero_le _,by show (jnT L 0).length = 1;rw [hz];rfl,le_refl _,fun x h=>by cases h⟩ ?_ ?_
 ·refine Le.intro [(204,(13,0,none))] rfl ?_ rfl ?_ rfl
  ·exact fc
  ·repeat' first|exact trivial|refine zA.app ?_ ?_|refine zA.zd ?_ ?_|refine zA.cons ?_ ?_|exact fc|fail
   all_goals (rw [hz,<- hn,<- cP];subst hn;exact rfl)
 rintro ⟨i,N,c⟩ ⟨hi,hN,hNc,hT⟩
 have hi:i <= n:=hi
 have hN:(jnT L i).length = N:=hN
 have hNc:N <= c:=hNc
 have hT:∀ x ∈ L.take i,x.length <= 4096:=hT
 have hle:=aJX i hT (by omega)
 refine zB.intro (fun hc=>?_) (fun hc=>?_)
 ·have hc:(i:Int) < n:=hc
  repeat refine sdn ?_
  obtain ⟨m,hm⟩:∃ m,(L.getD i []).length = m:=⟨_,rfl⟩
  have hmem:=eJ [] (L:=L) (i:=i) (by omega)
  have hm6:m <= 1000000:=by rw [<- hm];exact hL _ hmem
  refine zB.intro (fun hc2=>?_) (fun hc2=>?_)
  ·have hc2:((L.getD (ge 0 (toNat (i:Int))) []).length:Int) > 4096:=hc2
   rw [zQ,zero_add,zIn,hm] at hc2
   repeat refine sd ?_
   refine Ret.intro (.tup [.nsl,.ff]) [(1003,.mem false 0 [(n * 1,.arr n 1 (rwF L))])] [] rfl trivial (Or.inl ⟨fun h=>by have:=h.2 _ hmem;omega,rfl,rfl⟩) rfl fc rfl fc rfl
  have hc2:¬ ((L.getD (ge 0 (toNat (i:Int))) []).length:Int) > 4096:=hc2
  rw [zQ,zero_add,zIn,hm] at hc2
  have hsucc:=xV (L:=L) (i:=i) (by omega)
  have hT2:∀ x ∈ L.take (i + 1),x.length <= 4096:=by
   rw [bS [] L i (by omega)]
   intro x hx
   rcases List.mem_append.1 hx with hx | hx
   ·exact hT x hx
   ·have hx:x = L.getD i []:=by simpa using hx
    rw [hx,hm];omega
  have e1:=aBW m (by omega)
  have e2:=cP m
  have e3:((m:Int) / 2 ^ 8) = (m:Int) / 256:=rfl
  rw [hm] at hsucc
  have hl1:(jnT L i ++ [ofNat (m / 256),ofNat m]).length = N + 2:=by rw [zlA,hN];rfl
  have hl2:(jnT L (i + 1)).length = N + 2 + m:=by rw [hsucc,zlA,hl1,hm]
  repeat refine sdn ?_
  refine fun c1 hc1=>?_
  have hc1:N + 2 <= c1:=hc1
  repeat refine sdn ?_
  refine fun c2 hc2'=>?_
  have hc2':N + 2 + m <= c2:=by rw [<- hm];exact hc2'
  repeat refine sdn ?_
  refine ⟨(i + 1,N + 2 + m,c2),⟨by show i + 1 <= n;omega,hl2,hc2',hT2⟩,by show n - (i + 1) < n - i;omega,Le.intro [(204,(35,0,none))] rfl ?_ rfl ?_ rfl⟩
  ·exact fcn
  ·repeat' first|exact trivial|refine zA.app ?_ ?_|refine zA.zd ?_ ?_|refine zA.cons ?_ ?_|exact fcn|fail
   all_goals (simp only [bv,drop_zero,Ix.val,zQ,zero_add,zIn,hm];rw [e1,e2,take_of_length_le (l:=L.getD i []) (by omega)];exact hsucc)
 ·have hc:¬ (i:Int) < n:=hc
  obtain rfl:i = n:=by omega
  have hall:jnT L i = jnB L:=by rw [<- hn];exact aDJ L
  have hJ:pH L:=⟨by omega,by rw [<- hn,take_length] at hT;exact hT⟩
  repeat refine sd ?_
  refine Ret.intro (.tup [.sl 1001 0 0 N c,.tt]) [(1003,.mem false 0 [(i * 1,.arr i 1 (rwF L))]),(1001,.mem true (c - N) [(N,.a8 (jnB L))])] [(1001,(204,0,none))] rfl fc (Or.inr ⟨c,N,hJ,by rw [<- hall];exact hN,hNc,rfl,rfl⟩) rfl fc rfl fc rfl
theorem aGW (m:Nat):rO m 2 = [ofNat (m / 256),ofNat m]:=by
 show [ofNat (m / 256 ^ 1),ofNat (m / 256 ^ 0)] = _
 rw [Nat.pow_one,Nat.pow_zero,Nat.div_one]
theorem aWK (L:List (List UInt8)) (n:Nat) (hn:L.length = n) (hn1:n <= 1000000) (hL:∀ x ∈ L,x.length <= 1000000):Sx.Fn Γ.P 57 [.slx 1003 0 0 n] [(1003,.mem false 0 (rwS n L))]
  (fun v M=>(¬ pH L/\v = .tup [.nsl,.ff]/\M = [(1003,.mem false 0 (rwS n L))]) \/ ∃ c N,pH L/\(jnB L).length = N/\N <= c/\v = .tup [.sl 1001 0 0 N c,.tt]/\M = [(1003,.mem false 0 (rwS n L)),(1001,.mem true (c - N) [(N,.a8 (jnB L))])]):=by
 unfold rwS rwF
 refine aF (Γ:=Γ) (fn:=Tryz.f57) rfl rfl rfl rfl ?_
 repeat refine sd ?_
 refine zB.intro (fun hc=>?_) (fun hc=>?_)
 ·have hc:(n:Int) > 64:=hc
  repeat refine sd ?_
  refine Ret.intro (.tup [.nsl,.ff]) [(1003,.mem false 0 [(n * 1,.arr n 1 (rwF L))])] [] rfl trivial (Or.inl ⟨fun h=>by have:=h.1;omega,rfl,rfl⟩) rfl fc rfl fc rfl
 have hc:¬ (n:Int) > 64:=hc
 have hz:=xU L
 have hn8:=cP n
 repeat refine sd ?_
 refine ac.intro (σ:=Nat × Nat × Nat) (fun s=>s.1 <= n/\(jnT L s.1).length = s.2.1/\s.2.1 <= s.2.2/\∀ x ∈ L.take s.1,x.length <= 4096)
  (fun s=>([(0,.slx 1003 0 0 n),(4,.sl 204 0 0 s.2.1 s.2.2),(5,.i .i64 (s.1:Int))],[(1003,.mem false 0 [(n * 1,.arr n 1 (rwF L))]),(204,.mem true (s.2.2 - s.2.1) [(s.2.1,.a8 (jnT L s.1))])]))
  (fun s=>n - s.1) (0,1,1) ⟨zero_le _,by show (jnT L 0).length = 1;rw [hz];rfl,le_refl _,fun x h=>by cases h⟩ ?_ ?_
 ·refine Le.intro [(204,(12,0,none))] rfl ?_ rfl ?_ rfl
  ·exact fc
  ·repeat' first|exact trivial|refine zA.app ?_ ?_|refine zA.zd ?_ ?_|refine zA.cons ?_ ?_|exact fc|fail
   all_goals (rw [hz,<- hn,<- cP];subst hn;exact rfl)
 rintro ⟨i,N,c⟩ ⟨hi,hN,hNc,hT⟩
 have hi:i <= n:=hi
 have hN:(jnT L i).length = N:=hN
 have hNc:N <= c:=hNc
 have hT:∀ x ∈ L.take i,x.length <= 4096:=hT
 have hle:=aJX i hT (by omega)
 refine zB.intro (fun hc=>?_) (fun hc=>?_)
 ·have hc:(i:Int) < n:=hc
  repeat refine sdn ?_
  obtain ⟨m,hm⟩:∃ m,(L.getD i []).length = m:=⟨_,rfl⟩
  have hmem:=eJ [] (L:=L) (i:=i) (by omega)
  have hm6:m <= 1000000:=by rw [<- hm];exact hL _ hmem
  refine zB.intro (fun hc2=>?_) (fun hc2=>?_)
  ·have hc2:((L.getD (ge 0 (toNat (i:Int))) []).length:Int) > 4096:=hc2
   rw [zQ,zero_add,zIn,hm] at hc2
   repeat refine sd ?_
   refine Ret.intro (.tup [.nsl,.ff]) [(1003,.mem false 0 [(n * 1,.arr n 1 (rwF L))])] [] rfl trivial (Or.inl ⟨fun h=>by have:=h.2 _ hmem;omega,rfl,rfl⟩) rfl fc rfl fc rfl
  have hc2:¬ ((L.getD (ge 0 (toNat (i:Int))) []).length:Int) > 4096:=hc2
  rw [zQ,zero_add,zIn,hm] at hc2
  have hsucc:=xV (L:=L) (i:=i) (by omega)
  have hT2:∀ x ∈ L.take (i + 1),x.length <= 4096:=by
   rw [bS [] L i (by omega)]
   intro x hx
   rcases List.mem_append.1 hx with hx | hx
   ·exact hT x hx
   ·have hx:x = L.getD i []:=by simpa using hx
    rw [hx,hm];omega
  rw [hm] at hsucc
  have hl1:(jnT L i ++ [ofNat (m / 256),ofNat m]).length = N + 2:=by rw [zlA,hN];rfl
  have hl2:(jnT L (i + 1)).length = N + 2 + m:=by rw [hsucc,zlA,hl1,hm]
  have hP:=aQG m 2 (by decide) (by decide) (by omega) (by omega)
  rw [aGW] at hP
  repeat refine sdn ?_
  refine Call.intro hP [(1001,(31,0,none))] rfl fcn rfl trivial rfl ?_
  rintro _ _ ⟨rfl,rfl⟩
  dsimp only [zt,zM,zE,ren,zz,zx,zy,aS,zG,zX,ev,evL,zV,zcT,zcF,act,zP,zO,Ent.zW]
  repeat refine sdn ?_
  refine fun c1 hc1=>?_
  have hc1:N + 2 <= c1:=hc1
  repeat refine sdn ?_
  refine fun c2 hc2'=>?_
  have hc2':N + 2 + m <= c2:=by rw [<- hm];exact hc2'
  repeat refine sdn ?_
  refine ⟨(i + 1,N + 2 + m,c2),⟨by show i + 1 <= n;omega,hl2,hc2',hT2⟩,by show n - (i + 1) < n - i;omega,Le.intro [(204,(38,0,none))] rfl ?_ rfl ?_ rfl⟩
  ·exact fcn
  ·repeat' first|exact trivial|refine zA.app ?_ ?_|refine zA.zd ?_ ?_|refine zA.cons ?_ ?_|exact fcn|fail
   all_goals (simp only [bv,drop_zero,Ix.val,zQ,zero_add,zIn,hm];rw [take_of_length_le (l:=L.getD i []) (by omega)];exact hsucc)
 ·have hc:¬ (i:Int) < n:=hc
  obtain rfl:i = n:=by omega
  have hall:jnT L i = jnB L:=by rw [<- hn];exact aDJ L
  have hJ:pH L:=⟨by omega,by rw [<- hn,take_length] at hT;exact hT⟩
  repeat refine sd ?_
  refine Ret.intro (.tup [.sl 1001 0 0 N c,.tt]) [(1003,.mem false 0 [(i * 1,.arr i 1 (rwF L))]),(1001,.mem true (c - N) [(N,.a8 (jnB L))])] [(1001,(204,0,none))] rfl fc (Or.inr ⟨c,N,hJ,by rw [<- hall];exact hN,hNc,rfl,rfl⟩) rfl fc rfl fc rfl
theorem aWW (x y:List UInt8):Sx.Fn Γ.P 26 [.isl 0 x.length 1 [(x.length * 1,.a8 x)],.isl 0 y.length 1 [(y.length * 1,.a8 y)]] [] (fun v M=>v = .bool (x = y)/\M = []):=by
 refine aF (Γ:=Γ) (fn:=Tryz.f26) rfl rfl rfl rfl ?_
 repeat refine sd ?_
 have hx:x.take x.length = x:=take_length
 have hy:y.take y.length = y:=take_length
 refine Ret.intro (.bool (x = y)) [] [] rfl trivial ⟨rfl,rfl⟩ rfl ?_ rfl trivial rfl
 ·repeat' first|exact trivial|refine zA.app ?_ ?_|refine zA.zd ?_ ?_|refine zA.cons ?_ ?_|exact fc|fail
  show x = y ↔ x.take x.length = y.take y.length
  rw [hx,hy]
theorem aWJ (L K:List (List UInt8)) (n m:Nat) (hn:L.length = n) (hm:K.length = m) (hn1:n <= 1000000) (hm1:m <= 1000000):Sx.Fn Γ.P 58 [.slx 1003 0 0 n,.slx 1004 0 0 m] [(1003,.mem false 0 (rwS n L)),(1004,.mem false 0 (rwS m K))]
  (fun v M=>(L = K/\v = .tt \/ L ≠ K/\v = .ff)/\M = [(1003,.mem false 0 (rwS n L)),(1004,.mem false 0 (rwS m K))]):=by
 unfold rwS rwF
 refine aF (Γ:=Γ) (fn:=Tryz.f58) rfl rfl rfl rfl ?_
 repeat refine sd ?_
 refine zB.intro (fun hc=>?_) (fun hc=>?_)
 ·have hc:(n:Int) ≠ m:=hc
  repeat refine sd ?_
  refine Ret.intro .ff [(1003,.mem false 0 [(n * 1,.arr n 1 (rwF L))]),(1004,.mem false 0 [(m * 1,.arr m 1 (rwF K))])] [] rfl trivial ⟨Or.inr ⟨fun h=>hc (by rw [<- hn,<- hm,h]),rfl⟩,rfl⟩ rfl fc rfl fc rfl
 have hc:¬ (n:Int) ≠ m:=hc
 repeat refine sd ?_
 refine ac.intro (σ:=Nat) (fun i=>i <= n/\L.take i = K.take i)
  (fun i=>([(0,.slx 1003 0 0 n),(1,.slx 1004 0 0 m),(5,.i .i64 (i:Int))],[(1003,.mem false 0 [(n * 1,.arr n 1 (rwF L))]),(1004,.mem false 0 [(m * 1,.arr m 1 (rwF K))])]))
  (fun i=>n - i) 0 ⟨zero_le _,rfl⟩ ?_ ?_
 ·refine Le.intro [] rfl fc rfl fc rfl
 rintro i ⟨hi,hT⟩
 have hi:i <= n:=hi
 refine zB.intro (fun hc=>?_) (fun hc=>?_)
 ·have hc:(i:Int) < n:=hc
  have hB:=aWW (L.getD i []) (K.getD i [])
  refine aI.intro [[],[],[0,1],[0,1,2],[],[],[4,5],[4,5,6],r_8,r_9] fi (by kernel_rfl) ?_
  repeat refine sdn ?_
  refine Call.intro hB [] rfl fcn rfl trivial rfl ?_
  rintro _ _ ⟨rfl,rfl⟩
  dsimp only [zt,zM,zE,ren,zz,zx,zy,aS,zG,zX,ev,evL,zV,zcT,zcF,act,zP,zO,Ent.zW]
  repeat refine sd ?_
  refine zB.intro (fun hc2=>?_) (fun hc2=>?_)
  ·repeat refine sd ?_
   have hne:L.getD i [] ≠ K.getD i []:=hc2
   refine Ret.intro .ff [(1003,.mem false 0 [(n * 1,.arr n 1 (rwF L))]),(1004,.mem false 0 [(m * 1,.arr m 1 (rwF K))])] [] rfl trivial ⟨Or.inr ⟨fun h=>hne (by rw [h]),rfl⟩,rfl⟩ rfl fc rfl fc rfl
  ·have heq:L.getD i [] = K.getD i []:=Classical.byContradiction hc2
   repeat refine sd ?_
   refine ⟨i + 1,⟨by omega,by rw [bS [] L i (by omega),bS [] K i (by omega),hT,heq]⟩,by omega,Le.intro [] rfl fc rfl fc rfl⟩
 ·have hc:¬ (i:Int) < n:=hc
  obtain rfl:i = n:=by omega
  have hLK:L = K:=by
   rw [<- take_length (l:=L),<- take_length (l:=K),hn,hm]
   rw [show m = i by omega]
   exact hT
  repeat refine sd ?_
  refine Ret.intro .tt [(1003,.mem false 0 [(i * 1,.arr i 1 (rwF L))]),(1004,.mem false 0 [(m * 1,.arr m 1 (rwF K))])] [] rfl trivial ⟨Or.inl ⟨hLK,rfl⟩,rfl⟩ rfl fc rfl fc rfl
abbrev Te:=Int × List (List UInt8)
def te0:Te:=(0,[])
def prS (L:List (List UInt8)):SV:=.isl 0 L.length 1 [(L.length * 1,.arr L.length 1 (rwF L))]
def rtF (T:List Te) (q:Nat):List (Nat × SV):=[(1,.i .i64 (T.getD q te0).1),(1,prS (T.getD q te0).2)]
def ak (k:Int) (L:List (List UInt8)):Prop:=pH L/\1 <= k/\k <= 8
instance (k:Int) (L:List (List UInt8)):Decidable (ak k L):=inferInstanceAs (Decidable (_/\_/\_))
def fdT (x:Te):List Te->Nat
 | []=>0
 | y :: r=>if y = x then 1 else match fdT x r with
  | 0=>0
  | i + 1=>i + 2
theorem aJ4 {x:Te}:∀ {T:List Te} {i:Nat},i < T.length->T.getD i te0 = x->(∀ j,j < i->T.getD j te0 ≠ x)->fdT x T = i + 1
 | y :: r,0,_,h,_=>by
  unfold fdT
  rw [if_pos (show y = x from h)]
 | y :: r,i + 1,hi,h,hn=>by
  unfold fdT
  rw [if_neg (show ¬ y = x from fun e=>hn 0 (by omega) e),aJ4 (T:=r) (i:=i) (by simpa using hi) h (fun j hj=>hn (j + 1) (by omega))]
theorem xy {x:Te}:∀ {T:List Te},(∀ j,j < T.length->T.getD j te0 ≠ x)->fdT x T = 0
 | [],_=>rfl
 | y :: r,h=>by
  unfold fdT
  rw [if_neg (show ¬ y = x from fun e=>h 0 (by simp) e),xy (T:=r) (fun j hj=>h (j + 1) (by simpa using hj))]
theorem aEB (x:Te):∀ T:List Te,fdT x T <= T.length
 | []=>le_refl _
 | y :: r=>by
  have:=aEB x r
  unfold fdT
  split
  ·simp
  ·split
   ·simp
   ·rename_i i h;rw [h] at this;simp only [length_cons];omega
@[irreducible] def mkT (T:List Te) (x:Te):List Te × Nat:=if ak x.1 x.2 then match fdT x T with
 | 0=>(T ++ [x],T.length + 1)
 | i + 1=>(T,i + 1)
 else (T,0)
theorem j9 {T:List Te} {x:Te} (h:¬ ak x.1 x.2):mkT T x = (T,0):=by unfold mkT;rw [if_neg h]
theorem g9 {T:List Te} {x:Te} {i:Nat} (h:ak x.1 x.2) (hf:fdT x T = i + 1):mkT T x = (T,i + 1):=by unfold mkT;rw [if_pos h,hf]
theorem iA {T:List Te} {x:Te} (h:ak x.1 x.2) (hf:fdT x T = 0):mkT T x = (T ++ [x],T.length + 1):=by unfold mkT;rw [if_pos h,hf]
def kyB (o:Nat):List UInt8:=match o with
 | 0=>replicate 32 0
 | i + 1=>eo (i + 1)
theorem zk:∀ o,(kyB o).length = 32
 | 0=>rfl
 | i + 1=>ae _
theorem io {n:Nat} {F H:Nat->List (Nat × SV)} {c:List (Nat × SV)} (h1:∀ q,q < n->H q = F q) (h2:H n = c):∀ q,q < n + 1->H q = aAX n F (aI0 [c]) q:=by
 intro q hq
 rcases Nat.lt_or_ge q n with h | h
 ·rw [aFH h,h1 q h]
 ·obtain rfl:q = n:=by omega
  rw [aFI h,h2]
  rfl
theorem oV {α:Type} (d:α) {T:List α} {x:α} {q:Nat} (h:q < T.length):(T ++ [x]).getD q d = T.getD q d:=by
 rw [List.getD_eq_getElem?_getD,List.getD_eq_getElem?_getD,List.getElem?_append_left h]
theorem oW {α:Type} (d:α) (T:List α) (x:α):(T ++ [x]).getD T.length d = x:=by
 rw [List.getD_eq_getElem?_getD,List.getElem?_append_right (le_refl _),Nat.sub_self]
 rfl
theorem aN8 {T:List Te} {x:Te} {q:Nat} (h:q < T.length):rtF (T ++ [x]) q = rtF T q:=by
 unfold rtF;rw [oV te0 h]
theorem aN9 (T:List Te) (x:Te):rtF (T ++ [x]) T.length = [(1,.i .i64 x.1),(1,prS x.2)]:=by
 unfold rtF;rw [oW]
def M12 (n c:Nat) (T:List Te) (a m:Nat) (L:List (List UInt8)):Mm:=[(1000,.mem true 0 [(1,.sl a 0 0 n c)]),(a,.mem true (zmE (c - n) 2) [(n * 2,.arr n 2 (rtF T))]),(1003,.mem false 0 (rwS m L))]
theorem aVH (T:List Te) (n c:Nat) (hT:T.length = n) (hn:n <= 60000) (hnc:n <= c) (hTs:∀ x ∈ T,x.2.length <= 1000000) (k:Int) (L:List (List UInt8)) (m:Nat) (hL:L.length = m) (hm1:m <= 1000000) (hLs:∀ x ∈ L,x.length <= 1000000) :
  Sx.Fn Γ.P 34 [.ptr 1000 0 none,.i .i64 k,.slx 1003 0 0 m] (M12 n c T 1001 m L)
  (fun v M=>∃ n' c',(mkT T (k,L)).1.length = n'/\n' <= c'/\v = .tup [.a8 (kyB (mkT T (k,L)).2),.bool ((mkT T (k,L)).2 ≠ 0)]/\M = (1001,.dead) :: M12 n' c' (mkT T (k,L)).1 1005 m L):=by
 have hJ:=aWK L m hL hm1 hLs
 unfold rwS rwF at hJ
 unfold M12 rwS rwF
 refine aF (Γ:=Γ) (fn:=Tryz.f34) rfl rfl rfl rfl ?_
 repeat refine sd ?_
 refine Call.intro hJ [(1003,(1003,0,none)),(1001,(300,0,none))] rfl fc rfl fc rfl ?_
 rintro v M' (⟨hnj,rfl,rfl⟩ | ⟨c1,N1,hj,hjl,hjc,rfl,rfl⟩)
 ·have hmk:mkT T (k,L) = (T,0):=j9 fun h=>hnj h.1
  dsimp only [zt,zM,zE,ren,zz,zx,zy,aS,zG,zX,ev,evL,zV,zcT,zcF,act,zP,zO,Ent.zW]
  repeat refine sd ?_
  refine Ret.intro (.tup [.a8 (replicate 32 0),.bool ((mkT T (k,L)).2 ≠ 0)]) [(1001,.dead),(1000,.mem true 0 [(1,.sl 1005 0 0 n c)]),(1005,.mem true (zmE (c - n) 2) [(n * 2,.arr n 2 (rtF T))]),(1003,.mem false 0 [(m * 1,.arr m 1 (rwF L))])] [(1005,(1001,0,none))] rfl fc ⟨n,c,by rw [hmk];exact hT,hnc,by rw [hmk];rfl,by rw [hmk];rfl⟩ rfl fc rfl fc rfl
 dsimp only [zt,zM,zE,ren,zz,zx,zy,aS,zG,zX,ev,evL,zV,zcT,zcF,act,zP,zO,Ent.zW]
 repeat refine sd ?_
 refine zB.intro (fun h1=>?_) (fun h1=>?_)
 ·have h1:k < 1:=h1
  have hmk:mkT T (k,L) = (T,0):=j9 fun h=>by have:=h.2.1;simp only at this;omega
  repeat refine sd ?_
  refine Ret.intro (.tup [.a8 (replicate 32 0),.bool ((mkT T (k,L)).2 ≠ 0)]) [(1001,.dead),(1000,.mem true 0 [(1,.sl 1005 0 0 n c)]),(1005,.mem true (zmE (c - n) 2) [(n * 2,.arr n 2 (rtF T))]),(1003,.mem false 0 [(m * 1,.arr m 1 (rwF L))])] [(1005,(1001,0,none))] rfl fc ⟨n,c,by rw [hmk];exact hT,hnc,by rw [hmk];rfl,by rw [hmk];rfl⟩ rfl fc rfl fc rfl
 have h1:¬ k < 1:=h1
 refine zB.intro (fun h2=>?_) (fun h2=>?_)
 ·have h2:k > 8:=h2
  have hmk:mkT T (k,L) = (T,0):=j9 fun h=>by have:=h.2.2;simp only at this;omega
  repeat refine sd ?_
  refine Ret.intro (.tup [.a8 (replicate 32 0),.bool ((mkT T (k,L)).2 ≠ 0)]) [(1001,.dead),(1000,.mem true 0 [(1,.sl 1005 0 0 n c)]),(1005,.mem true (zmE (c - n) 2) [(n * 2,.arr n 2 (rtF T))]),(1003,.mem false 0 [(m * 1,.arr m 1 (rwF L))])] [(1005,(1001,0,none))] rfl fc ⟨n,c,by rw [hmk];exact hT,hnc,by rw [hmk];rfl,by rw [hmk];rfl⟩ rfl fc rfl fc rfl
 have h2:¬ k > 8:=h2
 have hV:ak k L:=⟨hj,by omega,by omega⟩
 repeat refine sd ?_
 refine ac.intro (σ:=Nat) (fun i=>i <= n/\∀ j,j < i->T.getD j te0 ≠ (k,L))
  (fun i=>([(0,.ptr 1000 0 none),(1,.i .i64 k),(2,.slx 1003 0 0 m),(6,.ptr 6 0 none),(10,.i .i64 (i:Int))],[(1000,.mem true 0 [(1,.sl 1001 0 0 n c)]),(1001,.mem true (zmE (c - n) 2) [(n * 2,.arr n 2 (rtF T))]),(1003,.mem false 0 [(m * 1,.arr m 1 (rwF L))]),(6,.mem true 0 [(32,.a8 (replicate 32 0))])]))
  (fun i=>n - i) 0 ⟨zero_le _,fun j hj=>absurd hj (Nat.not_lt_zero _)⟩ ?_ ?_
 ·refine Le.intro [] rfl fc rfl fc rfl
 rintro i ⟨hi,hne⟩
 have hi:i <= n:=hi
 repeat refine sd ?_
 refine zB.intro (fun hc=>?_) (fun hc=>?_)
 ·have hc:(i:Int) < n:=hc
  unfold rtF
  repeat refine sdn ?_
  refine zB.intro (fun h3=>?_) (fun h3=>?_)
  ·have h3:(T.getD i te0).1 = k:=h3
   have hB:=aWJ (T.getD i te0).2 L _ m rfl hL (hTs _ (eJ te0 (by omega))) hm1
   have hlen:=hTs _ (eJ te0 (L:=T) (i:=i) (by omega))
   unfold rwS at hB
   repeat refine sdn ?_
   refine Call.name [(2000,[]),(0,[])] rfl trivial (cz.intro hB [(1003,(2000,0,none)),(1004,(1003,0,none))] rfl fcn rfl fcn rfl ?_)
   rintro v M' ⟨⟨heq,rfl⟩ | ⟨heq,rfl⟩,rfl⟩
   ·have hat:T.getD i te0 = (k,L):=Prod.ext h3 heq
    have hmk:mkT T (k,L) = (T,i + 1):=g9 hV (aJ4 (by omega) hat hne)
    have hN:=aTQ (i + 1) (by omega)
    have hnl:=ae (i + 1)
    dsimp only [zt,zM,zE,ren,zz,zx,zy,aS,zG,zX,ev,evL,zV,zcT,zcF,act,zP,zO,Ent.zW]
    repeat refine sdn ?_
    refine Call.intro hN [] rfl fc rfl trivial rfl ?_
    rintro _ _ ⟨rfl,rfl⟩
    dsimp only [zt,zM,zE,ren,zz,zx,zy,aS,zG,zX,ev,evL,zV,zcT,zcF,act,zP,zO,Ent.zW]
    repeat refine sd ?_
    refine Ret.intro (.tup [.a8 (eo (i + 1)),.bool ((mkT T (k,L)).2 ≠ 0)]) [(1001,.dead),(1000,.mem true 0 [(1,.sl 1005 0 0 n c)]),(1005,.mem true (zmE (c - n) 2) [(n * 2,.arr n 2 (rtF T))]),(1003,.mem false 0 [(m * 1,.arr m 1 (rwF L))])] [(1005,(1001,0,none))] rfl fc ⟨n,c,by rw [hmk];exact hT,hnc,by rw [hmk];rfl,by rw [hmk];rfl⟩ rfl fc rfl fc rfl
   ·dsimp only [zt,zM,zE,ren,zz,zx,zy,aS,zG,zX,ev,evL,zV,zcT,zcF,act,zP,zO,Ent.zW]
    repeat refine sdn ?_
    refine ⟨i + 1,⟨by omega,fun j hj=>?_⟩,by omega,Le.intro [] rfl ?_ rfl ?_ rfl⟩
    ·rcases Nat.lt_or_ge j i with h | h
     ·exact hne j h
     ·obtain rfl:j = i:=by omega
      intro h4
      exact heq (by rw [h4])
    ·exact fc
    ·exact fc
  ·have h3:¬ (T.getD i te0).1 = k:=h3
   repeat refine sdn ?_
   refine ⟨i + 1,⟨by omega,fun j hj=>?_⟩,by omega,Le.intro [] rfl ?_ rfl ?_ rfl⟩
   ·rcases Nat.lt_or_ge j i with h | h
    ·exact hne j h
    ·obtain rfl:j = i:=by omega
     intro h4
     exact h3 (by rw [h4])
   ·exact fc
   ·exact fc
 have hc:¬ (i:Int) < n:=hc
 have hmk:mkT T (k,L) = (T ++ [(k,L)],n + 1):=by
  rw [iA hV (xy fun j hj=>hne j (by omega)),hT]
 clear hne
 repeat refine sd ?_
 refine zB.intro (fun h=>absurd h (by omega)) (fun _=>?_)
 repeat refine sd ?_
 refine ac.intro (σ:=Nat × Nat) (fun s=>s.1 <= m/\s.1 <= s.2)
  (fun s=>([(0,.ptr 1000 0 none),(1,.i .i64 k),(2,.slx 1003 0 0 m),(6,.ptr 6 0 none),(11,.sl 204 0 0 s.1 s.2),(12,.i .i64 (s.1:Int))],[(1000,.mem true 0 [(1,.sl 1001 0 0 n c)]),(1001,.mem true (zmE (c - n) 2) [(n * 2,.arr n 2 (rtF T))]),(1003,.mem false 0 [(m * 1,.arr m 1 (rwF L))]),(6,.mem true 0 [(32,.a8 (replicate 32 0))]),(204,.mem true (s.2 - s.1) [(s.1 * 1,.arr s.1 1 (rwF L))])]))
  (fun s=>m - s.1) (0,0) ⟨zero_le _,le_refl _⟩ ?_ ?_
 ·refine Le.ghost [.own 204 [(0,.arr 0 1 (rwF L))]] [(11,204)] [] rfl ⟨rfl,rfl,trivial⟩ rfl rfl fc rfl fc rfl
 rintro ⟨i2,c2⟩ ⟨hi2,hic⟩
 have hi2:i2 <= m:=hi2
 have hic:i2 <= c2:=hic
 repeat refine sd ?_
 refine zB.intro (fun hc=>?_) (fun hc=>?_)
 ·have hc:(i2:Int) < m:=hc
  have hll:=hLs _ (eJ [] (L:=L) (i:=i2) (by omega))
  repeat refine sdn ?_
  refine fun c3 hc3=>?_
  have hc3:(L.getD i2 []).length <= c3:=by have h:0 + (L.getD i2 []).length <= c3:=hc3;omega
  repeat refine sdn ?_
  refine fun c4 hc4=>?_
  have hc4:i2 + 1 <= c4:=hc4
  repeat refine sdn ?_
  refine ⟨(i2 + 1,c4),⟨by show i2 + 1 <= m;omega,hc4⟩,by show m - (i2 + 1) < m - i2;omega,Le.intro [(204,(85,0,none))] rfl ?_ rfl ?_ rfl⟩
  ·exact fcn
  ·repeat' first|exact trivial|refine zA.app ?_ ?_|refine zA.zd ?_ ?_|refine zA.cons ?_ ?_|exact fcn|fail
   refine io (fun q _=>by rw [gm,zero_add]) ?_
   simp only [zme,bv,drop_zero,Ix.val,zQ,zero_add,zIn,nil_append,take_length,mul_one,rwF]
 have hc:¬ (i2:Int) < m:=hc
 obtain rfl:i2 = m:=by omega
 have hN:=aTQ (n + 1) (by omega)
 have hnl:=ae (n + 1)
 repeat refine sdn ?_
 refine fun c3 hc3=>?_
 have hc3:n + 1 <= c3:=hc3
 repeat refine sdn ?_
 refine Call.intro hN [] rfl fc rfl trivial rfl ?_
 rintro _ _ ⟨rfl,rfl⟩
 dsimp only [zt,zM,zE,ren,zz,zx,zy,aS,zG,zX,ev,evL,zV,zcT,zcF,act,zP,zO,Ent.zW]
 repeat refine sd ?_
 refine Ret.intro (.tup [.a8 (eo (n + 1)),.bool ((mkT T (k,L)).2 ≠ 0)]) [(1001,.dead),(1000,.mem true 0 [(1,.sl 1005 0 0 (n + 1) c3)]),(1005,.mem true (zmE (c3 - (n + 1)) 2) [((n + 1) * 2,.arr (n + 1) 2 (rtF (T ++ [(k,L)])))]),(1003,.mem false 0 [(i2 * 1,.arr i2 1 (rwF L))])] [(1005,(95,0,none))] rfl ?_ ⟨n + 1,c3,by rw [hmk];simp [hT],hc3,by rw [hmk];rfl,by rw [hmk];rfl⟩ rfl ?_ rfl ?_ rfl
 ·exact fc
 ·exact fc
 ·repeat' first|exact trivial|refine zA.app ?_ ?_|refine zA.zd ?_ ?_|refine zA.cons ?_ ?_|exact fc|fail
  refine io (fun q hq=>aN8 (by omega)) ?_
  subst hT
  subst hL
  exact aN9 T (k,L)
theorem qI {a b:Nat} (ha:a < 256) (hb:b < 256) (h:ofNat a = ofNat b):a = b:=by
 have:=congrArg UInt8.toNat h
 rw [toNat_ofNat',toNat_ofNat',Nat.mod_eq_of_lt (by omega),Nat.mod_eq_of_lt (by omega)] at this
 exact this
theorem qH {a b:Nat} (h:ofNat a = ofNat b):a % 256 = b % 256:=by
 have:=congrArg UInt8.toNat h
 rw [toNat_ofNat',toNat_ofNat'] at this
 exact this
theorem aDL:∀ (L K:List (List UInt8)) (s t:List UInt8),L.length = K.length->(∀ x ∈ L,x.length <= 4096)->(∀ x ∈ K,x.length <= 4096)->jnR L ++ s = jnR K ++ t->L = K/\s = t
 | [],[],s,t,_,_,_,h=>⟨rfl,h⟩
 | [],_ :: _,_,_,h,_,_,_=>by simp at h
 | _ :: _,[],_,_,h,_,_,_=>by simp at h
 | x :: r,y :: q,s,t,hl,hx,hy,h=>by
  have hxl:=hx x (List.mem_cons_self ..)
  have hyl:=hy y (List.mem_cons_self ..)
  simp only [jnR,List.cons_append,nil_append,List.append_assoc,List.cons.injEq] at h
  obtain ⟨h1,h2,h3⟩:=h
  have e1:=qH h1
  have e2:=qH h2
  have hlen:x.length = y.length:=by omega
  have hxy:x = y/\jnR r ++ s = jnR q ++ t:=List.append_inj h3 hlen
  obtain ⟨h4,h5⟩:=aDL r q s t (by simpa using hl) (fun z hz=>hx z (List.mem_cons_of_mem _ hz)) (fun z hz=>hy z (List.mem_cons_of_mem _ hz)) hxy.2
  exact ⟨by rw [hxy.1,h4],h5⟩
@[irreducible] def pN (x:Te):List UInt8:=jnB x.2 ++ [ofInt x.1]
theorem vn (x:Te):pN x = jnB x.2 ++ [ofInt x.1]:=by unfold pN;rfl
theorem aHH {a b:Int} (ha:1 <= a/\a <= 8) (hb:1 <= b/\b <= 8) (h:ofInt a = ofInt b):a = b:=by
 obtain ⟨n,rfl⟩:∃ n:Nat,a = n:=⟨a.toNat,by omega⟩
 obtain ⟨m,rfl⟩:∃ m:Nat,b = m:=⟨b.toNat,by omega⟩
 rw [cP,cP] at h
 rw [qI (by omega) (by omega) h]
theorem aHI {x y:Te} (hx:ak x.1 x.2) (hy:ak y.1 y.2) (h:pN x = pN y):x = y:=by
 rw [vn,vn,aDN,aDN,List.cons_append,List.cons_append,List.cons.injEq] at h
 have h1:x.2.length = y.2.length:=qI (by have:=hx.1.1;omega) (by have:=hy.1.1;omega) h.1
 obtain ⟨h2,h3⟩:=aDL _ _ _ _ h1 hx.1.2 hy.1.2 h.2
 exact Prod.ext (aHH hx.2 hy.2 (by simpa using h3)) h2
def mpF:Nat->List Te->List (List UInt8 × Int)
 | _,[]=>[]
 | i,x :: r=>(pN x,((i + 1:Nat):Int)) :: mpF (i + 1) r
@[irreducible] def mpL (T:List Te):List (List UInt8 × Int):=mpF 0 T
theorem aC0:∀ (i:Nat) (T:List Te) (x:Te),mpF i (T ++ [x]) = mpF i T ++ [(pN x,((i + T.length + 1:Nat):Int))]
 | i,[],x=>rfl
 | i,y :: r,x=>by
  show _ :: mpF (i + 1) (r ++ [x]) = _ :: (mpF (i + 1) r ++ _)
  rw [aC0 (i + 1) r x]
  simp only [length_cons]
  rw [show i + 1 + r.length + 1 = i + (r.length + 1) + 1 by omega]
theorem aLU (T:List Te) (x:Te):mpL (T ++ [x]) = mpL T ++ [(pN x,((T.length + 1:Nat):Int))]:=by
 unfold mpL;rw [aC0,zero_add]
theorem aLT:mpL [] = []:=by unfold mpL;rfl
theorem vP {x:Te} (hx:ak x.1 x.2):∀ (i:Nat) (T:List Te),(∀ y ∈ T,ak y.1 y.2)->fl (mpF i T) (pN x) = if fdT x T = 0 then none else some ((i + fdT x T:Nat):Int)
 | i,[],_=>rfl
 | i,y :: r,h=>by
  have ih:=vP hx (i + 1) r (fun z hz=>h z (List.mem_cons_of_mem _ hz))
  by_cases hxy:y = x
  ·subst hxy
   simp only [mpF,fl,fdT,if_true]
   rfl
  ·have hk:pN x ≠ pN y:=fun e=>hxy (aHI hx (h y (List.mem_cons_self ..)) e).symm
   have h1:fl (mpF i (y :: r)) (pN x) = fl (mpF (i + 1) r) (pN x):=by
    show (if pN x = pN y then _ else _) = _
    rw [if_neg hk]
   rw [h1,ih]
   cases hf:fdT x r with
   | zero=>
    have h2:fdT x (y :: r) = 0:=by unfold fdT;rw [if_neg hxy,hf]
    rw [h2,if_pos rfl,if_pos rfl]
   | succ j=>
    have h2:fdT x (y :: r) = j + 2:=by unfold fdT;rw [if_neg hxy,hf]
    rw [h2,if_neg (by omega),if_neg (by omega)]
    congr 1
    omega
theorem xJ {T:List Te} {x:Te} (hx:ak x.1 x.2) (h:∀ y ∈ T,ak y.1 y.2) (hf:fdT x T = 0):fl (mpL T) (pN x) = none:=by
 unfold mpL;rw [vP hx 0 T h,if_pos hf]
theorem xI {T:List Te} {x:Te} {i:Nat} (hx:ak x.1 x.2) (h:∀ y ∈ T,ak y.1 y.2) (hf:fdT x T = i + 1):fl (mpL T) (pN x) = some ((i + 1:Nat):Int):=by
 unfold mpL;rw [vP hx 0 T h,hf,if_neg (by omega),zero_add]
theorem tG {T:List Te} {x:Te} (h:∀ y ∈ T,ak y.1 y.2):∀ y ∈ (mkT T x).1,ak y.1 y.2:=by
 by_cases hV:ak x.1 x.2
 ·cases hf:fdT x T with
  | zero=>
   rw [iA hV hf]
   intro y hy
   rcases List.mem_append.1 hy with hy | hy
   ·exact h y hy
   ·obtain rfl:y = x:=by simpa using hy
    exact hV
  | succ i=>rw [g9 hV hf];exact h
 ·rw [j9 hV];exact h
theorem aC2 (T:List Te) (x:Te):T.length <= (mkT T x).1.length/\(mkT T x).1.length <= T.length + 1:=by
 by_cases hV:ak x.1 x.2
 ·cases hf:fdT x T with
  | zero=>rw [iA hV hf];simp
  | succ i=>rw [g9 hV hf];simp
 ·rw [j9 hV];simp
def nwF (q:Nat) (L:List (List UInt8)) (j:Nat):List (Nat × SV):=[(1,.isl 0 (inL (L.getD j []) q 0).length 1 [((inL (L.getD j []) q 0).length * 1,.ai (toI (inL (L.getD j []) q 0)))])]
def nmS (q:Nat) (L:List (List UInt8)):SV:=.isl 0 L.length 1 [(L.length * 1,.arr L.length 1 (nwF q L))]
def ttF (T:List Te) (q:Nat):List (Nat × SV):=[(1,.i .i64 (T.getD q te0).1),(1,prS (T.getD q te0).2),(1,nmS q (T.getD q te0).2)]
def MT (n c:Nat) (T:List Te) (a m:Nat) (L:List (List UInt8)):Mm:=[(1000,.mem true 0 [(1,.sl a 0 0 n c),(1,.mp 1002)]),(a,.mem true (zmE (c - n) 3) [(n * 3,.arr n 3 (ttF T))]),(1002,.map (.si (mpL T))),(1003,.mem false 0 (rwS m L))]
theorem aN3 {T:List Te} {x:Te} {q:Nat} (h:q < T.length):ttF (T ++ [x]) q = ttF T q:=by
 unfold ttF;rw [oV te0 h]
theorem aN4 (T:List Te) (x:Te):ttF (T ++ [x]) T.length = [(1,.i .i64 x.1),(1,prS x.2),(1,nmS T.length x.2)]:=by
 unfold ttF;rw [oW]
theorem aTR (T:List Te) (n c:Nat) (hT:T.length = n) (hn:n <= 60000) (hnc:n <= c) (hTv:∀ x ∈ T,ak x.1 x.2) (k:Int) (L:List (List UInt8)) (m:Nat) (hL:L.length = m) (hm1:m <= 1000000) (hLs:∀ x ∈ L,x.length <= 1000000) :
  Sx.Fn Γ.P 41 [.ptr 1000 0 none,.i .i64 k,.slx 1003 0 0 m] (MT n c T 1001 m L)
  (fun v M=>∃ n' c',(mkT T (k,L)).1.length = n'/\n' <= c'/\v = .tup [.a8 (kyB (mkT T (k,L)).2),.bool ((mkT T (k,L)).2 ≠ 0)]/\M = (1001,.dead) :: MT n' c' (mkT T (k,L)).1 1005 m L):=by
 have hJ:=aWB L m hL hm1 hLs
 have hky:=vn (k,L)
 unfold rwS rwF at hJ
 unfold MT rwS rwF
 refine aF (Γ:=Γ) (fn:=Tryz.f41) rfl rfl rfl rfl ?_
 repeat refine sd ?_
 refine Call.intro hJ [(1003,(1003,0,none)),(1001,(300,0,none))] rfl fc rfl fc rfl ?_
 rintro v M' (⟨hnj,rfl,rfl⟩ | ⟨c1,N1,hj,hjl,hjc,rfl,rfl⟩)
 ·have hmk:mkT T (k,L) = (T,0):=j9 fun h=>hnj h.1
  dsimp only [zt,zM,zE,ren,zz,zx,zy,aS,zG,zX,ev,evL,zV,zcT,zcF,act,zP,zO,Ent.zW]
  repeat refine sd ?_
  refine Ret.intro (.tup [.a8 (replicate 32 0),.bool ((mkT T (k,L)).2 ≠ 0)]) [(1001,.dead),(1000,.mem true 0 [(1,.sl 1005 0 0 n c),(1,.mp 1002)]),(1005,.mem true (zmE (c - n) 3) [(n * 3,.arr n 3 (ttF T))]),(1002,.map (.si (mpL T))),(1003,.mem false 0 [(m * 1,.arr m 1 (rwF L))])] [(1005,(1001,0,none))] rfl fc ⟨n,c,by rw [hmk];exact hT,hnc,by rw [hmk];rfl,by rw [hmk];rfl⟩ rfl fc rfl fc rfl
 dsimp only [zt,zM,zE,ren,zz,zx,zy,aS,zG,zX,ev,evL,zV,zcT,zcF,act,zP,zO,Ent.zW]
 repeat refine sd ?_
 refine zB.intro (fun h1=>?_) (fun h1=>?_)
 ·have h1:k < 1:=h1
  have hmk:mkT T (k,L) = (T,0):=j9 fun h=>by have:=h.2.1;simp only at this;omega
  repeat refine sd ?_
  refine Ret.intro (.tup [.a8 (replicate 32 0),.bool ((mkT T (k,L)).2 ≠ 0)]) [(1001,.dead),(1000,.mem true 0 [(1,.sl 1005 0 0 n c),(1,.mp 1002)]),(1005,.mem true (zmE (c - n) 3) [(n * 3,.arr n 3 (ttF T))]),(1002,.map (.si (mpL T))),(1003,.mem false 0 [(m * 1,.arr m 1 (rwF L))])] [(1005,(1001,0,none))] rfl fc ⟨n,c,by rw [hmk];exact hT,hnc,by rw [hmk];rfl,by rw [hmk];rfl⟩ rfl fc rfl fc rfl
 have h1:¬ k < 1:=h1
 refine zB.intro (fun h2=>?_) (fun h2=>?_)
 ·have h2:k > 8:=h2
  have hmk:mkT T (k,L) = (T,0):=j9 fun h=>by have:=h.2.2;simp only at this;omega
  repeat refine sd ?_
  refine Ret.intro (.tup [.a8 (replicate 32 0),.bool ((mkT T (k,L)).2 ≠ 0)]) [(1001,.dead),(1000,.mem true 0 [(1,.sl 1005 0 0 n c),(1,.mp 1002)]),(1005,.mem true (zmE (c - n) 3) [(n * 3,.arr n 3 (ttF T))]),(1002,.map (.si (mpL T))),(1003,.mem false 0 [(m * 1,.arr m 1 (rwF L))])] [(1005,(1001,0,none))] rfl fc ⟨n,c,by rw [hmk];exact hT,hnc,by rw [hmk];rfl,by rw [hmk];rfl⟩ rfl fc rfl fc rfl
 have h2:¬ k > 8:=h2
 have hV:ak k L:=⟨hj,by omega,by omega⟩
 have hjle:=aPM hj.2
 have hj64:=hj.1
 have hky2:pN (k,L) = jnB L ++ [ofInt k]:=hky
 have hkl:(pN (k,L)).length = N1 + 1:=by rw [hky,zlA,hjl];rfl
 repeat refine sd ?_
 refine fun c2 hc2=>?_
 have hc2:N1 + 1 <= c2:=hc2
 repeat refine sd ?_
 refine aI.intro [[],[0],[0,1],[0,1,2],[],[4],r_6,r_7,r_8,r_8,r_9,fy] mR (by kernel_rfl) ?_
 repeat refine sd ?_
 have hq:take (N1 + 1) (drop 0 (jf (addI none 0) (jnB L) ++ take 1 (drop 0 (ofInt k :: replicate 0 0)))) = pN (k,L):=by
  rw [hky,bv]
  exact take_of_length_le (by rw [<- hkl,hky];exact le_refl _)
 refine zB.intro (fun hs=>?_) (fun hs=>?_)
 ·have hs:(fl (mpL T) (take (N1 + 1) (drop 0 (jf (addI none 0) (jnB L) ++ take 1 (drop 0 (ofInt k :: replicate 0 0)))))).isSome = true:=hs
  rw [hq] at hs
  obtain ⟨i,hi⟩:∃ i,fdT (k,L) T = i + 1:=by
   cases hf:fdT (k,L) T with
   | zero=>rw [xJ hV hTv hf] at hs;cases hs
   | succ i=>exact ⟨i,rfl⟩
  have hmk:mkT T (k,L) = (T,i + 1):=g9 hV hi
  have hg:=xI hV hTv hi
  have hil:=aEB (k,L) T
  have hN:=aTP (i + 1) (by omega)
  have hnl:=ae (i + 1)
  repeat refine sd ?_
  refine Call.intro hN [] rfl ?_ rfl trivial rfl ?_
  ·show ((i + 1:Nat):Int) = (fl (mpL T) (take (N1 + 1) (drop 0 (jf (addI none 0) (jnB L) ++ take 1 (drop 0 (ofInt k :: replicate 0 0)))))).getD 0
   rw [hq,hg];rfl
  rintro _ _ ⟨rfl,rfl⟩
  dsimp only [zt,zM,zE,ren,zz,zx,zy,aS,zG,zX,ev,evL,zV,zcT,zcF,act,zP,zO,Ent.zW]
  repeat refine sd ?_
  refine Ret.intro (.tup [.a8 (eo (i + 1)),.bool ((mkT T (k,L)).2 ≠ 0)]) [(1001,.dead),(1000,.mem true 0 [(1,.sl 1005 0 0 n c),(1,.mp 1002)]),(1005,.mem true (zmE (c - n) 3) [(n * 3,.arr n 3 (ttF T))]),(1002,.map (.si (mpL T))),(1003,.mem false 0 [(m * 1,.arr m 1 (rwF L))])] [(1005,(1001,0,none))] rfl fc ⟨n,c,by rw [hmk];exact hT,hnc,by rw [hmk];rfl,by rw [hmk];rfl⟩ rfl fc rfl fc rfl
 have hs:¬ (fl (mpL T) (take (N1 + 1) (drop 0 (jf (addI none 0) (jnB L) ++ take 1 (drop 0 (ofInt k :: replicate 0 0)))))).isSome = true:=hs
 rw [hq] at hs
 have hi:fdT (k,L) T = 0:=by
  cases hf:fdT (k,L) T with
  | zero=>rfl
  | succ i=>rw [xI hV hTv hf] at hs;exact absurd rfl hs
 have hg:=xJ hV hTv hi
 have hmk:mkT T (k,L) = (T ++ [(k,L)],n + 1):=by
  rw [iA hV hi,hT]
 repeat refine sd ?_
 refine zB.intro (fun h=>absurd h (by omega)) (fun _=>?_)
 repeat refine sd ?_
 refine ac.intro (σ:=Nat × Nat × Nat) (fun s=>s.1 <= m/\s.1 <= s.2.1/\s.1 <= s.2.2)
  (fun s=>([(0,.ptr 1000 0 none),(6,.ptr 6 0 none),(8,.sl 208 0 0 (N1 + 1) c2),(12,.ptr 12 0 none),(58,.slx 1003 0 0 m),(59,.i .i64 (m:Int)),(60,.i .i64 (s.1:Int))],[(1000,.mem true 0 [(1,.sl 1001 0 0 n c),(1,.mp 1002)]),(1001,.mem true (zmE (c - n) 3) [(n * 3,.arr n 3 (ttF T))]),(1002,.map (.si (mpL T))),(1003,.mem false 0 [(m * 1,.arr m 1 (rwF L))]),(6,.mem true 0 [(32,.a8 (replicate 32 0))]),
   (208,.mem true (c2 - (N1 + 1)) [(N1 + 1,.a8 (pN (k,L)))]),(12,.mem true 0 [(1,.i .i64 k),(1,.sl 206 0 0 s.1 s.2.1),(1,.sl 207 0 0 s.1 s.2.2)]),(206,.mem true (s.2.1 - s.1) [(s.1 * 1,.arr s.1 1 (rwF L))]),(207,.mem true (s.2.2 - s.1) [(s.1 * 1,.arr s.1 1 (nwF n L))])]))
  (fun s=>m - s.1) (0,0,0) ⟨zero_le _,le_refl _,le_refl _⟩ ?_ ?_
 ·refine Le.ghost [.own 206 [(0,.arr 0 1 (rwF L))],.own 207 [(0,.arr 0 1 (nwF n L))],.leaf 12 1 206,.leaf 12 2 207] [] [(208,(35,0,none))] rfl ⟨⟨rfl,rfl,trivial⟩,⟨rfl,rfl,trivial⟩⟩ rfl rfl ?_ rfl ?_ rfl
  ·exact fc
  ·repeat' first|exact trivial|refine zA.app ?_ ?_|refine zA.zd ?_ ?_|refine zA.cons ?_ ?_|exact fc|fail
   all_goals (rw [hky];exact rfl)
 rintro ⟨i2,ca,cb⟩ ⟨hi2,hca,hcb⟩
 have hi2:i2 <= m:=hi2
 have hca:i2 <= ca:=hca
 have hcb:i2 <= cb:=hcb
 repeat refine sd ?_
 refine zB.intro (fun hc=>?_) (fun hc=>?_)
 ·have hc:(i2:Int) < m:=hc
  have hll:=hLs _ (eJ [] (L:=L) (i:=i2) (by omega))
  repeat refine sdn ?_
  refine aI.intro [[],[0],[],[],[2,3],[2,3,4],r_6,r_7,r_8] r_9 (by kernel_rfl) ?_
  repeat refine sdn ?_
  refine fun c3 hc3=>?_
  repeat refine sdn ?_
  refine dC.intro [(68,.mem true (c3 - (0 + (L.getD i2 []).length)) [(0 + (L.getD i2 []).length,.a8 ([] ++ (L.getD i2 []).take (L.getD i2 []).length))]),(66,.dead)] rfl rfl ?_
  repeat refine sdn ?_
  refine fun c4 hc4=>?_
  repeat refine sdn ?_
  have hI:=aWA (L.getD i2 []) (L.getD i2 []).length rfl n (by omega) hll
  refine aI.intro [[],[0],[],[],[3],[3,4],[3,4,5],[3,4,5,6],[2,3,4,5,6,7],[2,3,4,5,6,7,8],fi,fy,mR] nb (by kernel_rfl) ?_
  repeat refine sdn ?_
  refine Call.name [(2001,[]),(0,[])] rfl trivial (cz.intro hI [(1003,(2001,0,none)),(1001,(301,0,none))] rfl fcn rfl fcn rfl ?_)
  rintro v M' ⟨l,cl,rfl,hlc,rfl,rfl⟩
  dsimp only [zt,zM,zE,ren,zz,zx,zy,aS,zG,zX,ev,evL,zV,zcT,zcF,act,zP,zO,Ent.zW]
  have htl:=aBM (inL (L.getD i2 []) n 0)
  refine dC.intro [(301,.mem true (cl - (toI (inL (L.getD i2 []) n 0)).length) [((toI (inL (L.getD i2 []) n 0)).length,.ai (toI (inL (L.getD i2 []) n 0)))]),(2001,.mem false 1 [((L.getD i2 []).length * 1,.a8 (L.getD i2 []))])] rfl rfl ?_
  repeat refine sdn ?_
  refine fun c5 hc5=>?_
  repeat refine sdn ?_
  have hc4:i2 + 1 <= c4:=hc4
  have hc5:i2 + 1 <= c5:=hc5
  refine ⟨(i2 + 1,c4,c5),⟨by show i2 + 1 <= m;omega,hc4,hc5⟩,by show m - (i2 + 1) < m - i2;omega,Le.intro [(206,(70,0,none)),(207,(82,0,none))] rfl ?_ rfl ?_ rfl⟩
  ·exact fcn
  ·repeat' first|exact trivial|refine zA.app ?_ ?_|refine zA.zd ?_ ?_|refine zA.cons ?_ ?_|exact fcn|fail
   ·refine io (fun q _=>by rw [gm,zero_add]) ?_
    simp only [zme,bv,drop_zero,Ix.val,zQ,zero_add,zIn,nil_append,take_length,mul_one,rwF]
   ·refine io (fun q _=>by rw [gm,zero_add]) ?_
    simp only [zme,bv,drop_zero,Ix.val,zQ,zero_add,zIn,nil_append,take_length,mul_one,nwF,aBM]
    exact rfl
 have hc:¬ (i2:Int) < m:=hc
 obtain rfl:i2 = m:=by omega
 repeat refine sdn ?_
 refine aI.intro [[],[],[1],[1,2],[1,2,3],[],[5],[1,2,3,4,5,6],r_8,r_9,fi] fy (by kernel_rfl) ?_
 repeat refine sdn ?_
 refine fun c6 hc6=>?_
 repeat refine sdn ?_
 have hc6:n + 1 <= c6:=hc6
 have hq2:take (N1 + 1) (drop 0 (pN (k,L))) = pN (k,L):=take_of_length_le (by rw [<- hkl];exact le_refl _)
 refine aI.intro [[],[0],[0,1],[0,1,2],[],[4],[],[6],[6,7],[6,7,8],[6,7,8,9],fy] mR (by kernel_rfl) ?_
 repeat (refine d0.intro (by repeat' (first | (show zA _;first | exact trivial|refine zA.app ?_ ?_|refine zA.zd ?_ ?_|refine zA.cons ?_ ?_) | with_reducible rfl | with_reducible assumption | omega | (simp only [hq2,hg,rng,Ix.val,zQ,addI,szs] <;> omega) | (simp only [hq2,hg,rng,Ix.val,zIn,zme,zQ,addI,Option.getD_none,Option.getD_some,zlT,zlD,zlA,List.length_set,List.length_replicate,szs, *] <;> omega) | (simp only [Ix.val];with_reducible assumption) | exact UInt8.toNat_lt _ | (apply Eq.trans;(with_reducible assumption);exact rfl) | exact rfl | exact fun _ _=>rfl)) ?_)
 have hN:=aTP (n + 1) (by omega)
 have hnl:=ae (n + 1)
 refine Call.intro hN [] rfl fc rfl trivial rfl ?_
 rintro _ _ ⟨rfl,rfl⟩
 dsimp only [zt,zM,zE,ren,zz,zx,zy,aS,zG,zX,ev,evL,zV,zcT,zcF,act,zP,zO,Ent.zW]
 repeat refine sd ?_
 have happ:=aLU T (k,L)
 rw [hT] at happ
 refine Ret.intro (.tup [.a8 (eo (n + 1)),.bool ((mkT T (k,L)).2 ≠ 0)]) [(1001,.dead),(1000,.mem true 0 [(1,.sl 1005 0 0 (n + 1) c6),(1,.mp 1002)]),(1005,.mem true (zmE (c6 - (n + 1)) 3) [((n + 1) * 3,.arr (n + 1) 3 (ttF (T ++ [(k,L)])))]),(1002,.map (.si (mpL (T ++ [(k,L)])))),(1003,.mem false 0 [(i2 * 1,.arr i2 1 (rwF L))])] [(1005,(92,0,none))] rfl ?_ ⟨n + 1,c6,by rw [hmk];simp [hT],hc6,by rw [hmk];rfl,by rw [hmk];rfl⟩ rfl ?_ rfl ?_ rfl
 ·exact fc
 ·exact fc
 ·repeat' first|exact trivial|refine zA.app ?_ ?_|refine zA.zd ?_ ?_|refine zA.cons ?_ ?_|exact fc|fail
  ·refine io (fun q hq=>aN3 (by omega)) ?_
   subst hT
   subst hL
   exact aN4 T (k,L)
  ·rw [hq2];exact happ
theorem aJL {T:List Te} {x:Te} (h:ak x.1 x.2):(mkT T x).2 ≠ 0:=by
 cases hf:fdT x T with
 | zero=>rw [iA h hf];simp
 | succ i=>rw [g9 h hf];simp
def tbM (N c:Nat) (T:List Te) (a:Nat):Mm:=[(1000,.mem true 0 [(1,.sl a 0 0 N c),(1,.mp 1002)]),(a,.mem true (zmE (c - N) 3) [(N * 3,.arr N 3 (ttF T))]),(1002,.map (.si (mpL T)))]
def rbM (N c:Nat) (T:List Te) (a:Nat):Mm:=[(1000,.mem true 0 [(1,.sl a 0 0 N c)]),(a,.mem true (zmE (c - N) 2) [(N * 2,.arr N 2 (rtF T))])]
theorem jo:∀ x ∈ ([]:List Te),ak x.1 x.2:=fun _ h=>by cases h
theorem aP4:Sx.Fn Γ.P 56 [] [] (fun v M=>v = .ptr 1000 0 none/\M = [(1000,.mem true 0 [(1,.nsl),(1,.mp 1002)]),(1002,.map (.si []))]):=by
 refine aF (Γ:=Γ) (fn:=Tryz.f56) rfl rfl rfl rfl ?_
 repeat refine sd ?_
 refine Ret.intro (.ptr 1000 0 none) [(1000,.mem true 0 [(1,.nsl),(1,.mp 1002)]),(1002,.map (.si []))] [(1000,(3,0,none)),(1002,(1,0,none))] rfl fc ⟨rfl,rfl⟩ rfl fc rfl fc rfl
theorem aWV:Sx.Fn Γ.P 31 [] [] (fun v M=>v = .agg [(1,.ptr 1000 0 none)]/\M = [(1000,.mem true 0 [(1,.nsl),(1,.mp 1002)]),(1002,.map (.si []))]):=by
 refine aF (Γ:=Γ) (fn:=Tryz.f31) rfl rfl rfl rfl ?_
 repeat refine sd ?_
 refine Call.intro aP4 [(1000,(300,0,none)),(1002,(302,0,none))] rfl fc rfl trivial rfl ?_
 rintro _ _ ⟨rfl,rfl⟩
 dsimp only [zt,zM,zE,ren,zz,zx,zy,aS,zG,zX,ev,evL,zV,zcT,zcF,act,zP,zO,Ent.zW]
 repeat refine sd ?_
 refine Ret.intro (.agg [(1,.ptr 1000 0 none)]) [(1000,.mem true 0 [(1,.nsl),(1,.mp 1002)]),(1002,.map (.si []))] [(1000,(300,0,none)),(1002,(302,0,none))] rfl fc ⟨rfl,rfl⟩ rfl fc rfl fc rfl
theorem aWX:Sx.Fn Γ.P 24 [] [] (fun v M=>v = .agg [(1,.nilp)]/\M = []):=by
 refine aF (Γ:=Γ) (fn:=Tryz.f24) rfl rfl rfl rfl ?_
 repeat refine sd ?_
 refine Ret.intro (.agg [(1,.nilp)]) [] [] rfl fc ⟨rfl,rfl⟩ rfl fc rfl fc rfl
theorem aWU:Sx.Fn Γ.P 32 [] [] (fun v M=>v = .agg [(1,.ptr 1000 0 none)]/\M = [(1000,.mem true 0 [(1,.nsl)])]):=by
 refine aF (Γ:=Γ) (fn:=Tryz.f32) rfl rfl rfl rfl ?_
 repeat refine sd ?_
 refine Ret.intro (.agg [(1,.ptr 1000 0 none)]) [(1000,.mem true 0 [(1,.nsl)])] [(1000,(2,0,none))] rfl fc ⟨rfl,rfl⟩ rfl fc rfl fc rfl
theorem xl:Sx.Fn Γ.P 8 [.tt] [] (fun v M=>v = .agg [(1,.ptr 1000 0 none)]/\M = tbM 0 0 [] 1001):=by
 refine aF (Γ:=Γ) (fn:=Tryz.f8) rfl rfl rfl rfl ?_
 repeat refine sd ?_
 refine Call.intro aWV [(1000,(300,0,none)),(1002,(302,0,none))] rfl fc rfl trivial rfl ?_
 rintro _ _ ⟨rfl,rfl⟩
 dsimp only [zt,zM,zE,ren,zz,zx,zy,aS,zG,zX,ev,evL,zV,zcT,zcF,act,zP,zO,Ent.zW]
 repeat refine sd ?_
 refine Ret.ghost [.own 401 [(0,.arr 0 3 (ttF []))],.leaf 300 0 401] [] rfl ⟨rfl,rfl,trivial⟩ rfl (.agg [(1,.ptr 1000 0 none)]) (tbM 0 0 [] 1001) [(1000,(300,0,none)),(1001,(401,0,none)),(1002,(302,0,none))] rfl ?_ ⟨rfl,rfl⟩ rfl ?_ rfl ?_ rfl
 ·exact fc
 ·exact fc
 ·repeat' first|exact trivial|refine zA.app ?_ ?_|refine zA.zd ?_ ?_|refine zA.cons ?_ ?_|exact fc|fail
  all_goals exact aLT
theorem xk:Sx.Fn Γ.P 8 [.ff] [] (fun v M=>v = .agg [(1,.nilp)]/\M = []):=by
 refine aF (Γ:=Γ) (fn:=Tryz.f8) rfl rfl rfl rfl ?_
 repeat refine sd ?_
 refine Call.intro aWX [] rfl fc rfl trivial rfl ?_
 rintro _ _ ⟨rfl,rfl⟩
 dsimp only [zt,zM,zE,ren,zz,zx,zy,aS,zG,zX,ev,evL,zV,zcT,zcF,act,zP,zO,Ent.zW]
 repeat refine sd ?_
 refine Ret.intro (.agg [(1,.nilp)]) [] [] rfl fc ⟨rfl,rfl⟩ rfl fc rfl fc rfl
theorem aP1:Sx.Fn Γ.P 9 [.tt] [] (fun v M=>v = .agg [(1,.ptr 1000 0 none)]/\M = rbM 0 0 [] 1001):=by
 refine aF (Γ:=Γ) (fn:=Tryz.f9) rfl rfl rfl rfl ?_
 repeat refine sd ?_
 refine Call.intro aWU [(1000,(300,0,none))] rfl fc rfl trivial rfl ?_
 rintro _ _ ⟨rfl,rfl⟩
 dsimp only [zt,zM,zE,ren,zz,zx,zy,aS,zG,zX,ev,evL,zV,zcT,zcF,act,zP,zO,Ent.zW]
 repeat refine sd ?_
 refine Ret.ghost [.own 401 [(0,.arr 0 2 (rtF []))],.leaf 300 0 401] [] rfl ⟨rfl,rfl,trivial⟩ rfl (.agg [(1,.ptr 1000 0 none)]) (rbM 0 0 [] 1001) [(1000,(300,0,none)),(1001,(401,0,none))] rfl fc ⟨rfl,rfl⟩ rfl fc rfl fc rfl
theorem aP0:Sx.Fn Γ.P 9 [.ff] [] (fun v M=>v = .agg [(1,.nilp)]/\M = []):=by
 refine aF (Γ:=Γ) (fn:=Tryz.f9) rfl rfl rfl rfl ?_
 repeat refine sd ?_
 refine Ret.intro (.agg [(1,.nilp)]) [] [] rfl fc ⟨rfl,rfl⟩ rfl fc rfl fc rfl
theorem tC {z most:Nat} (h1:1 <= z) (h2:z <= most) (h3:most < 4294967296):du (eo z) most 0 = z:=by
 have hn:nmK (eo z) 0 = z:=by
  rw [j8]
  show (((ofNat (z / 256 ^ 3)).toNat * 256 + (ofNat (z / 256 ^ 2)).toNat) * 256 + (ofNat (z / 256 ^ 1)).toNat) * 256 + (ofNat (z / 256 ^ 0)).toNat = z
  simp only [toNat_ofNat',Nat.reducePow,Nat.div_one]
  omega
 rw [nk,hn,if_pos]
 exact ⟨by rw [ae];omega,h1,h2,take_of_length_le (by rw [drop_zero,ae];omega)⟩
theorem aMA {k:List UInt8} (hk:k.length = 32) (most:Nat):inL k most 0 = if du k most 0 = 0 then [] else [du k most 0]:=by
 by_cases hz:du k most 0 = 0
 ·rw [if_pos hz,ib (by omega) hz,rb (by omega)]
 ·rw [if_neg hz,ra (by omega) hz,rb (by omega)]
theorem aVF (T:List Te) (n:Nat) (hT:T.length = n) (hn:n <= 60000) (hTv:∀ x ∈ T,ak x.1 x.2) (k:List UInt8) (hk:k.length = 32) :
  Sx.Fn Γ.P 40 [.ptr 1000 0 none,.a8 k] [(1000,.mem false 0 [(1,.slx 1001 0 0 n),(1,.mp 1002)]),(1001,.mem false 0 [(n * 3,.arr n 3 (ttF T))]),(1002,.dead)]
  (fun v M=>(du k n 0 = 0/\v = .tup [.i .i64 0,.nsl,.ff]/\M = [(1000,.mem false 0 [(1,.slx 1001 0 0 n),(1,.mp 1002)]),(1001,.mem false 0 [(n * 3,.arr n 3 (ttF T))]),(1002,.dead)]) \/ ∃ q L m c,du k n 0 = q + 1/\q < n/\(T.getD q te0).2 = L/\L.length = m/\m <= c/\v = .tup [.i .i64 (T.getD q te0).1,.sl 1005 0 0 m c,.tt]/\M = [(1000,.mem false 0 [(1,.slx 1001 0 0 n),(1,.mp 1002)]),(1001,.mem false 0 [(n * 3,.arr n 3 (ttF T))]),(1002,.dead),(1005,.mem true (c - m) [(m * 1,.arr m 1 (rwF L))])]):=by
 have hN:=aVB k 32 32 0 hk rfl (le_refl _) n (by omega)
 have hle:=vH k n 0
 refine aF (Γ:=Γ) (fn:=Tryz.f40) rfl rfl rfl rfl ?_
 repeat refine sd ?_
 refine aI.intro [[],[],[1],[1,2],[1,2,3],[1,2,3,4],r_6,r_7] r_8 (by kernel_rfl) ?_
 repeat refine sd ?_
 refine Call.intro hN [(1003,(3,0,none))] rfl fc rfl fc rfl ?_
 rintro _ _ ⟨rfl,rfl⟩
 dsimp only [zt,zM,zE,ren,zz,zx,zy,aS,zG,zX,ev,evL,zV,zcT,zcF,act,zP,zO,Ent.zW]
 repeat refine sd ?_
 refine zB.intro (fun hz=>?_) (fun hz=>?_)
 ·have hz:du k n 0 = 0:=by have h:((du k n 0:Nat):Int) = 0:=hz;omega
  repeat refine sd ?_
  refine Ret.intro (.tup [.i .i64 0,.nsl,.ff]) [(1000,.mem false 0 [(1,.slx 1001 0 0 n),(1,.mp 1002)]),(1001,.mem false 0 [(n * 3,.arr n 3 (ttF T))]),(1002,.dead)] [] rfl fc (Or.inl ⟨hz,rfl,rfl⟩) rfl fc rfl fc rfl
 obtain ⟨q,hq⟩:∃ q,du k n 0 = q + 1:=⟨du k n 0 - 1,by have h:¬ ((du k n 0:Nat):Int) = 0:=hz;omega⟩
 have hV:=hTv _ (eJ te0 (L:=T) (i:=q) (by omega))
 obtain ⟨x,hx⟩:∃ x,T.getD q te0 = x:=⟨_,rfl⟩
 rw [hx] at hV
 obtain ⟨L,hL⟩:∃ L,x.2 = L:=⟨_,rfl⟩
 have hLs:=hV.1
 rw [hL] at hLs
 obtain ⟨m,hm⟩:∃ m,L.length = m:=⟨_,rfl⟩
 have hm64:m <= 64:=by rw [<- hm];exact hLs.1
 have eq1:((q + 1:Nat):Int) - 1 = (q:Int):=by omega
 have eq2:(((q + 1:Nat):Int) - 1).toNat = q:=by omega
 rw [hq]
 rw [hq] at hle
 clear hN hz
 repeat refine sdO ?_
 refine ac.intro (σ:=Nat × Nat) (fun s=>s.1 <= m/\s.1 <= s.2)
  (fun s=>([(8,.ptr 8 0 none),(9,.sl 204 0 0 s.1 s.2),(30,.isl 0 m 1 [(m * 1,.arr m 1 (rwF L))]),(31,.i .i64 (m:Int)),(32,.i .i64 (s.1:Int))],
   [(1000,.mem false 0 [(1,.slx 1001 0 0 n),(1,.mp 1002)]),(1001,.mem false 0 [(n * 3,.arr n 3 (ttF T))]),(1002,.dead),(8,.mem true 0 [(1,.i .i64 x.1),(1,.isl 0 m 1 [(m * 1,.arr m 1 (rwF L))]),(1,.isl 0 m 1 [(m * 1,.arr m 1 (nwF q L))])]),(204,.mem true (s.2 - s.1) [(s.1 * 1,.arr s.1 1 (rwF L))])]))
  (fun s=>m - s.1) (0,0) ⟨zero_le _,le_refl _⟩ ?_ ?_
 ·refine Le.ghost [.own 204 [(0,.arr 0 1 (rwF L))]] [(9,204)] [] rfl ⟨rfl,rfl,trivial⟩ rfl rfl ?_ rfl ?_ rfl
  ·repeat' (first|exact trivial|refine zA.app ?_ ?_|refine zA.zd ?_ ?_|refine zA.cons ?_ ?_|exact fcO|fail)
   all_goals (rw [eq2,hx,hL])
  ·repeat' (first|exact trivial|refine zA.app ?_ ?_|refine zA.zd ?_ ?_|refine zA.cons ?_ ?_|exact fcO|fail)
   all_goals (rw [eq2,hx,hL])
 rintro ⟨i,c⟩ ⟨hi,hic⟩
 have hi:i <= m:=hi
 have hic:i <= c:=hic
 refine zB.intro (fun hc=>?_) (fun hc=>?_)
 ·have hc:(i:Int) < m:=hc
  have hll:=hLs.2 _ (eJ [] (L:=L) (i:=i) (by omega))
  unfold rwF
  repeat refine sdn ?_
  refine fun c3 hc3=>?_
  have hc3:(L.getD i []).length <= c3:=by have h:0 + (L.getD i []).length <= c3:=hc3;omega
  repeat refine sdn ?_
  refine fun c4 hc4=>?_
  have hc4:i + 1 <= c4:=hc4
  repeat refine sdn ?_
  refine ⟨(i + 1,c4),⟨by show i + 1 <= m;omega,hc4⟩,by show m - (i + 1) < m - i;omega,Le.intro [(204,(41,0,none))] rfl ?_ rfl ?_ rfl⟩
  ·exact fcn
  ·repeat' first|exact trivial|refine zA.app ?_ ?_|refine zA.zd ?_ ?_|refine zA.cons ?_ ?_|exact fcn|fail
   refine io (fun q _=>by rw [gm,zero_add]) ?_
   simp only [zme,bv,drop_zero,Ix.val,zQ,zero_add,zIn,List.replicate_zero,nil_append,take_length,mul_one,rwF]
 have hc:¬ (i:Int) < m:=hc
 obtain rfl:i = m:=by omega
 repeat refine sd ?_
 refine Ret.intro (.tup [.i .i64 (T.getD q te0).1,.sl 1005 0 0 i c,.tt]) [(1000,.mem false 0 [(1,.slx 1001 0 0 n),(1,.mp 1002)]),(1001,.mem false 0 [(n * 3,.arr n 3 (ttF T))]),(1002,.dead),(1005,.mem true (c - i) [(i * 1,.arr i 1 (rwF L))])] [(1005,(204,0,none))] rfl ?_ (Or.inr ⟨q,L,i,c,rfl,by omega,by rw [hx,hL],hm,hic,rfl,rfl⟩) rfl ?_ rfl ?_ rfl
 ·exact fc
 ·repeat' first|exact trivial|refine zA.app ?_ ?_|refine zA.zd ?_ ?_|refine zA.cons ?_ ?_|exact fc|fail
  all_goals (rw [hx];exact rfl)
 ·exact fc
theorem aWP (T:List Te) (n:Nat) (hT:T.length = n) (hn:n <= 60000) (k:List UInt8) (hk:k.length = 32) :
  Sx.Fn Γ.P 43 [.ptr 1000 0 none,.a8 k] [(1000,.mem false 0 [(1,.slx 1001 0 0 n)]),(1001,.mem false 0 [(n * 2,.arr n 2 (rtF T))])]
  (fun v M=>(du k n 0 = 0/\v = .tup [.agg [(1,.i .i64 0),(1,.nsl)],.ff]/\M = [(1000,.mem false 0 [(1,.slx 1001 0 0 n)]),(1001,.mem false 0 [(n * 2,.arr n 2 (rtF T))])]) \/ ∃ q,du k n 0 = q + 1/\q < n/\v = .tup [.agg [(1,.i .i64 (T.getD q te0).1),(1,prS (T.getD q te0).2)],.tt]/\M = [(1000,.mem false 0 [(1,.slx 1001 0 0 n)]),(1001,.mem false 0 [(n * 2,.arr n 2 (rtF T))])]):=by
 have hI:=aV7 k 32 hk n (by omega) (by decide)
 have hle:=vH k n 0
 have hkey:=aMA hk n
 refine aF (Γ:=Γ) (fn:=Tryz.f43) rfl rfl rfl rfl ?_
 repeat refine sd ?_
 refine aI.intro [[],[],[1],[1,2],[1,2,3],[1,2,3,4],r_6,r_7] r_8 (by kernel_rfl) ?_
 repeat refine sd ?_
 refine Call.intro hI [(1003,(3,0,none)),(1001,(301,0,none))] rfl fc rfl fc rfl ?_
 rintro v M' ⟨l,cl,hl,hlc,rfl,rfl⟩
 dsimp only [zt,zM,zE,ren,zz,zx,zy,aS,zG,zX,ev,evL,zV,zcT,zcF,act,zP,zO,Ent.zW]
 by_cases hz:du k n 0 = 0
 ·rw [if_pos hz] at hkey
  rw [hkey] at hl
  obtain rfl:l = []:=hl
  repeat refine sd ?_
  refine zB.intro (fun _=>?_) (fun hc=>absurd rfl hc)
  repeat refine sd ?_
  refine Ret.intro (.tup [.agg [(1,.i .i64 0),(1,.nsl)],.ff]) [(1000,.mem false 0 [(1,.slx 1001 0 0 n)]),(1001,.mem false 0 [(n * 2,.arr n 2 (rtF T))])] [] rfl fc (Or.inl ⟨hz,rfl,rfl⟩) rfl fc rfl fc rfl
 ·obtain ⟨q,hq⟩:∃ q,du k n 0 = q + 1:=⟨du k n 0 - 1,by omega⟩
  rw [if_neg hz,hq] at hkey
  rw [hkey] at hl
  obtain rfl:l = [((q + 1:Nat):Int)]:=hl
  obtain ⟨x,hx⟩:∃ x,T.getD q te0 = x:=⟨_,rfl⟩
  have eq2:(((q + 1:Nat):Int) - 1).toNat = q:=by omega
  have eqg:([((q + 1:Nat):Int)]:List Int).getD 0 0 = ((q + 1:Nat):Int):=rfl
  rw [hq] at hle ⊢
  clear hI hkey
  repeat refine sd ?_
  refine zB.intro (fun hc=>absurd hc (by simp)) (fun _=>?_)
  refine aI.intro [[],[0],[0,1],[0,1,2],[],[4],[4,5],[4,5,6],r_8,r_9,fi,fy] mR (by kernel_rfl) ?_
  repeat refine sdP ?_
  refine Ret.intro (.tup [.agg [(1,.i .i64 (T.getD q te0).1),(1,prS (T.getD q te0).2)],.tt]) [(1000,.mem false 0 [(1,.slx 1001 0 0 n)]),(1001,.mem false 0 [(n * 2,.arr n 2 (rtF T))])] [] rfl ?_ (Or.inr ⟨q,rfl,by omega,rfl,rfl⟩) rfl ?_ rfl ?_ rfl
  ·exact fc
  ·exact fcP
  ·exact fc
def mx8 (T:List Te) (key plain:List UInt8):List Te × Nat:=mkT T (8,[key,plain])
theorem aCY (T:List Te) (key plain:List UInt8):mx8 T key plain = mkT T (8,[key,plain]):=rfl
attribute [irreducible] mx8
theorem xT {p q:List UInt8} (hp:p.length <= 1024) (hq:q.length <= 1024):pH [p,q]:=by
 refine ⟨by simp,fun x hx=>?_⟩
 rcases List.mem_cons.1 hx with rfl | hx
 ·omega
 ·rw [List.mem_singleton.1 hx];omega
theorem aO8 (T:List Te) {key plain:List UInt8} (hk:key.length <= 1024) (hp:plain.length <= 1024):(mx8 T key plain).2 ≠ 0:=by
 rw [aCY];exact aJL (x:=(8,_)) ⟨xT hk hp,by show (1:Int) <= 8;decide,by show (8:Int) <= 8;decide⟩
theorem dH {p q:List UInt8} {k:Nat} (hp:p.length = k):rwF [p,q] 0 = [(1,.isl 0 k 1 [(k,.a8 p)])]:=by
 show [(1,SV.isl 0 p.length 1 [(p.length * 1,SV.a8 p)])] = _
 rw [hp,mul_one]
theorem dG {p q:List UInt8} {k:Nat} (hq:q.length = k):rwF [p,q] 1 = [(1,.isl 0 k 1 [(k,.a8 q)])]:=by
 show [(1,SV.isl 0 q.length 1 [(q.length * 1,SV.a8 q)])] = _
 rw [hq,mul_one]
@[irreducible] def aAU (o n:Nat):List UInt8:=kyB o ++ replicate (n / 16 * 16) 0
theorem q8 (o n:Nat):aAU o n = kyB o ++ replicate (n / 16 * 16) 0:=by unfold aAU;rfl
theorem nQ (o n:Nat):(aAU o n).length = n / 16 * 16 + 32:=by rw [q8,zlA,zk,List.length_replicate];omega
theorem aB1 (o n:Nat):(aAU o n).take 32 = kyB o:=by rw [q8];exact List.take_left' (zk o)
theorem aB0 {o n i:Nat} (h:32 <= i):(aAU o n).getD i 0 = 0:=by
 rw [q8,List.getD_eq_getElem?_getD,List.getElem?_append_right (by rw [zk];exact h),List.getElem?_replicate]
 split <;> rfl
theorem aKY {o n m:Nat} (hm:n / 16 * 16 + 32 = m) {k:List UInt8} (hk:k = kyB o):aAU o n = take 0 (replicate m (0:UInt8)) ++ take (min k.length m) k ++ drop (0 + min k.length m) (replicate m 0):=by
 have hl:=zk o
 subst hk
 rw [hl,List.take_zero,nil_append,Nat.min_eq_left (by omega),zero_add,List.drop_replicate,take_of_length_le (by omega),q8]
 congr 2
 omega
theorem aVY {o:Nat}:take 32 (drop ((none:Option Nat).getD 0) (kyB o)) = kyB o:=by
 rw [Option.getD_none,drop_zero,take_of_length_le (by rw [zk];exact le_refl _)]
theorem aMH (T:List Te) (N c:Nat) (hT:T.length = N) (hN:N <= 60000) (hNc:N <= c) (hTv:∀ x ∈ T,ak x.1 x.2) (p q:List UInt8) (hp:p.length <= 1024) (hq:q.length <= 1024) (T1:List Te) (o:Nat) (e1:(mx8 T p q).1 = T1) (e2:(mx8 T p q).2 = o) :
  Sx.Fn Γ.P 41 [.ptr 1000 0 none,.i .i64 8,.slx 1003 0 0 2] (MT N c T 1001 2 [p,q])
  (fun v M=>∃ n' c',T1.length = n'/\n' <= c'/\v = .tup [.a8 (kyB o),.bool (o ≠ 0)]/\M = (1001,.dead) :: MT n' c' T1 1005 2 [p,q]):=by
 subst e1;subst e2
 rw [aCY]
 refine aTR T N c hT hN hNc hTv 8 [p,q] 2 rfl (by omega) (fun x hx=>?_)
 rcases List.mem_cons.1 hx with rfl | hx
 ·omega
 ·rw [List.mem_singleton.1 hx];omega
theorem aMF (T:List Te) (N c:Nat) (hT:T.length = N) (hN:N <= 60000) (hNc:N <= c) (hTv:∀ x ∈ T,ak x.1 x.2) (key plain:List UInt8) (n m:Nat) (hk:key.length = 32) (hn:plain.length = n) (hn1:n <= 1024) (hm:n / 16 * 16 + 32 = m) (T1:List Te) (o:Nat) (e1:(mx8 T key plain).1 = T1) (e2:(mx8 T key plain).2 = o) :
  Sx.Fn Γ.P 28 [.agg [(1,.ptr 1000 0 none)],.a8 key,.isl 0 n 1 [(n,.a8 plain)]] (tbM N c T 1001)
  (fun v M=>∃ n' c',T1.length = n'/\n' <= c'/\v = .tup [.sl 1006 0 0 m m,.tt]/\M = (1001,.dead) :: (1006,.mem true 0 [(m,.a8 (aAU o n))]) :: tbM n' c' T1 1005):=by
 have hM:=aMH T N c hT hN hNc hTv key plain (by omega) (by omega) T1 o e1 e2
 have hone:o ≠ 0:=by rw [<- e2];exact aO8 T (by omega) (by omega)
 have hkl:=zk o
 have hSz:=aP9 (n:Int)
 rw [kY (by omega) (by omega),show (n:Int) / 16 * 16 + 32 = (m:Int) by omega] at hSz
 unfold MT at hM
 unfold tbM
 refine ci [4] (Γ:=Γ) (fn:=Tryz.f28) rfl rfl rfl rfl ?_
 repeat refine sd ?_
 refine zB.intro (fun hc=>?_) (fun hc=>?_)
 ·have hc:(n:Int) > 1024:=hc
  exact absurd hc (by omega)
 repeat refine sd ?_
 refine zB.intro (fun _=>?_) (fun hn=>absurd hn (by simp))
 refine Cut.intro (σ:=Unit) (fun _=>True) (fun _=>([(2,.isl 0 n 1 [(n,.a8 plain)]),(3,.ptr 203 0 none),(4,.ptr 204 0 none)],[(203,.mem true 0 [(1,.ptr 1000 0 none)]),(204,.mem false 1 [(32,.a8 key)]),
  (1000,.mem true 0 [(1,.sl 1001 0 0 N c),(1,.mp 1002)]),(1001,.mem true (zmE (c - N) 3) [(N * 3,.arr N 3 (ttF T))]),(1002,.map (.si (mpL T)))])) () trivial (Le.ghost [.keep 4] [] [(203,(3,0,none)),(204,(4,0,none))] rfl fc rfl rfl fc rfl fc rfl) ?_
 rintro - -
 refine aI.intro [[],[0],[],[],[2,3],r_5,r_6,r_7,r_7,[],[0,1,2,3,4,5,6,7,9],fy,[]] [0,1,2,3,4,9,5,6,7,8,10,11] (by kernel_rfl) ?_
 refine ⟨?_,?_⟩
 all_goals
  repeat refine sd ?_
  refine Call.name [(0,[]),(0,[]),(2001,[])] rfl fc (cz.intro hM [(1000,(1000,0,none)),(1001,(1001,0,none)),(1002,(1002,0,none)),(1003,(2001,0,none)),(1005,(305,0,none))] rfl fc rfl ?_ rfl ?_)
  ·repeat' first|exact trivial|refine zA.app ?_ ?_|refine zA.zd ?_ ?_|refine zA.cons ?_ ?_|exact fc|fail
   ·exact dH hk
   ·exact dG hn
  rintro v M' ⟨n',c',hn',hnc',rfl,rfl⟩
  dsimp only [zt,zM,zE,ren,zz,zx,zy,aS,zG,zX,ev,evL,zV,zcT,zcF,act,zP,zO,Ent.zW]
  repeat refine sd ?_
  have hn1:¬ ¬ (o ≠ 0):=fun h=>h hone
  repeat (first | (refine zB.intro (fun _=>?_) (fun hn=>absurd rfl hn))|refine ky0 ?_|refine kn0 ?_|refine ky ?_|refine kn ?_|refine sd ?_)
  repeat refine sd ?_
  refine Call.pure hSz rfl fc ?_
  rintro _ rfl
  repeat refine sd ?_
  refine Ret.intro (.tup [.sl 1006 0 0 m m,.tt]) ((1001,.dead) :: (1006,.mem true 0 [(m,.a8 (aAU o n))]) :: tbM n' c' T1 1005) [(1005,(305,0,none)),(1006,(36,0,none))] rfl ?_ ⟨n',c',hn',hnc',rfl,rfl⟩ rfl ?_ rfl ?_ rfl
  ·exact fc
  ·exact fc
  ·repeat' first|exact trivial|refine zA.app ?_ ?_|refine zA.zd ?_ ?_|refine zA.cons ?_ ?_|exact fc|fail
   exact aKY hm aVY
def mk1 (T:List Te) (k:Int) (p:List UInt8):List Te × Nat:=mkT T (k,[p])
def mk2 (T:List Te) (k:Int) (p q:List UInt8):List Te × Nat:=mkT T (k,[p,q])
theorem iC (T:List Te) (k:Int) (p:List UInt8):mk1 T k p = mkT T (k,[p]):=rfl
theorem tH (T:List Te) (k:Int) (p q:List UInt8):mk2 T k p q = mkT T (k,[p,q]):=rfl
attribute [irreducible] mk1 mk2
theorem aPL {p:List UInt8} (hp:p.length <= 4096):pH [p]:=⟨by simp,fun x hx=>by rw [List.mem_singleton.1 hx];exact hp⟩
theorem aPK {p q:List UInt8} (hp:p.length <= 4096) (hq:q.length <= 4096):pH [p,q]:=by
 refine ⟨by simp,fun x hx=>?_⟩
 rcases List.mem_cons.1 hx with rfl | hx
 ·exact hp
 ·rw [List.mem_singleton.1 hx];exact hq
theorem gb (T:List Te) {k:Int} (h1:1 <= k) (h8:k <= 8) {p q:List UInt8} (hp:p.length <= 4096) (hq:q.length <= 4096):(mk2 T k p q).2 ≠ 0:=by rw [tH];exact aJL (x:=(k,_)) ⟨aPK hp hq,h1,h8⟩
theorem iB {T:List Te} (h:∀ x ∈ T,ak x.1 x.2) (k:Int) (p:List UInt8):∀ x ∈ (mk1 T k p).1,ak x.1 x.2:=by rw [iC];exact tG h
theorem nx (T:List Te) (k:Int) (p:List UInt8):T.length <= (mk1 T k p).1.length/\(mk1 T k p).1.length <= T.length + 1:=by rw [iC];exact aC2 T _
theorem p7 {p:List UInt8} {k:Nat} (hp:p.length = k):rwF [p] 0 = [(1,.isl 0 k 1 [(k,.a8 p)])]:=by
 show [(1,SV.isl 0 p.length 1 [(p.length * 1,SV.a8 p)])] = _
 rw [hp,mul_one]
theorem aTS (T:List Te) (N c:Nat) (hT:T.length = N) (hN:N <= 60000) (hNc:N <= c) (hTv:∀ x ∈ T,ak x.1 x.2) (k:Int) (L:List (List UInt8)) (m:Nat) (hL:L.length = m) (hm:m <= 64) (hLs:∀ x ∈ L,x.length <= 4096) (T1:List Te) (o:Nat) (e1:(mkT T (k,L)).1 = T1) (e2:(mkT T (k,L)).2 = o) :
  Sx.Fn Γ.P 33 [.agg [(1,.ptr 1000 0 none)],.i .i64 k,.slx 1003 0 0 m] (MT N c T 1001 m L)
  (fun v M=>∃ n' c',T1.length = n'/\n' <= c'/\v = .a8 (kyB o)/\M = (1001,.dead) :: MT n' c' T1 1005 m L):=by
 have hM:=aTR T N c hT hN hNc hTv k L m hL (by omega) (fun x hx=>by have:=hLs x hx;omega)
 rw [e1,e2] at hM
 have hkl:=zk o
 unfold MT rwS at hM
 unfold MT rwS
 refine aF (Γ:=Γ) (fn:=Tryz.f33) rfl rfl rfl rfl ?_
 repeat refine sd ?_
 refine Call.intro hM [(1000,(1000,0,none)),(1001,(1001,0,none)),(1002,(1002,0,none)),(1003,(1003,0,none)),(1005,(305,0,none))] rfl fc rfl fc rfl ?_
 rintro v M' ⟨n',c',hn',hnc',rfl,rfl⟩
 dsimp only [zt,zM,zE,ren,zz,zx,zy,aS,zG,zX,ev,evL,zV,zcT,zcF,act,zP,zO,Ent.zW]
 repeat refine sd ?_
 refine Ret.intro (.a8 (kyB o)) ((1001,.dead) :: MT n' c' T1 1005 m L) [(1005,(305,0,none))] rfl fc ⟨n',c',hn',hnc',rfl,rfl⟩ rfl fc rfl fc rfl
theorem xq (T:List Te) (N c:Nat) (hT:T.length = N) (hN:N <= 60000) (hNc:N <= c) (hTv:∀ x ∈ T,ak x.1 x.2) (p:List UInt8) (hp:p.length = 32) (T1:List Te) (o:Nat) (e1:(mk1 T 1 p).1 = T1) (e2:(mk1 T 1 p).2 = o) :
  Sx.Fn Γ.P 10 [.agg [(1,.ptr 1000 0 none)],.a8 p] (tbM N c T 1001)
  (fun v M=>∃ n' c',T1.length = n'/\n' <= c'/\v = .a8 (kyB o)/\M = (1001,.dead) :: tbM n' c' T1 1005):=by
 have hM:=aTS T N c hT hN hNc hTv 1 [p] 1 rfl (by omega) (fun x hx=>by rw [List.mem_singleton.1 hx];omega) T1 o (by rw [<- iC];exact e1) (by rw [<- iC];exact e2)
 have hkl:=zk o
 unfold MT rwS at hM
 unfold tbM
 refine ci [3] (Γ:=Γ) (fn:=Tryz.f10) rfl rfl rfl rfl ?_
 repeat refine sd ?_
 refine zB.intro (fun hc=>absurd hc (by simp)) (fun _=>?_)
 refine Cut.intro (σ:=Unit) (fun _=>True) (fun _=>([(2,.ptr 202 0 none),(3,.ptr 203 0 none),(4,.ptr 204 0 none)],[(202,.mem true 0 [(1,.ptr 1000 0 none)]),(203,.mem false 1 [(32,.a8 p)]),(204,.mem true 0 [(32,.a8 (replicate 32 0))]),
  (1000,.mem true 0 [(1,.sl 1001 0 0 N c),(1,.mp 1002)]),(1001,.mem true (zmE (c - N) 3) [(N * 3,.arr N 3 (ttF T))]),(1002,.map (.si (mpL T)))])) () trivial (Le.ghost [.keep 3] [] [(202,(2,0,none)),(203,(3,0,none)),(204,(4,0,none))] rfl fc rfl rfl fc rfl fc rfl) ?_
 rintro - -
 refine aI.intro [[],[],[1],[0,1,2],r_4] r_5 (by kernel_rfl) ?_
 repeat refine sd ?_
 refine Call.name [(0,[]),(0,[]),(2001,[])] rfl fc (cz.intro hM [(1000,(1000,0,none)),(1001,(1001,0,none)),(1002,(1002,0,none)),(1003,(2001,0,none)),(1005,(305,0,none))] rfl fc rfl ?_ rfl ?_)
 ·repeat' first|exact trivial|refine zA.app ?_ ?_|refine zA.zd ?_ ?_|refine zA.cons ?_ ?_|exact fc|fail
  all_goals exact p7 hp
 rintro v M' ⟨n',c',hn',hnc',rfl,rfl⟩
 dsimp only [zt,zM,zE,ren,zz,zx,zy,aS,zG,zX,ev,evL,zV,zcT,zcF,act,zP,zO,Ent.zW]
 repeat refine sd ?_
 refine Ret.intro (.a8 (kyB o)) ((1001,.dead) :: tbM n' c' T1 1005) [(1005,(305,0,none))] rfl fc ⟨n',c',hn',hnc',rfl,rfl⟩ rfl fc rfl fc rfl
theorem ob (T:List Te) (N c:Nat) (hT:T.length = N) (hN:N <= 60000) (hNc:N <= c) (hTv:∀ x ∈ T,ak x.1 x.2) (p:List UInt8) (hp:p.length = 32) (T1:List Te) (o:Nat) (e1:(mk1 T 2 p).1 = T1) (e2:(mk1 T 2 p).2 = o) :
  Sx.Fn Γ.P 12 [.agg [(1,.ptr 1000 0 none)],.a8 p] (tbM N c T 1001)
  (fun v M=>∃ n' c',T1.length = n'/\n' <= c'/\v = .a8 (kyB o)/\M = (1001,.dead) :: tbM n' c' T1 1005):=by
 have hM:=aTS T N c hT hN hNc hTv 2 [p] 1 rfl (by omega) (fun x hx=>by rw [List.mem_singleton.1 hx];omega) T1 o (by rw [<- iC];exact e1) (by rw [<- iC];exact e2)
 have hkl:=zk o
 unfold MT rwS at hM
 unfold tbM
 refine ci [3] (Γ:=Γ) (fn:=Tryz.f12) rfl rfl rfl rfl ?_
 repeat refine sd ?_
 refine zB.intro (fun hc=>absurd hc (by simp)) (fun _=>?_)
 refine Cut.intro (σ:=Unit) (fun _=>True) (fun _=>([(2,.ptr 202 0 none),(3,.ptr 203 0 none),(4,.ptr 204 0 none)],[(202,.mem true 0 [(1,.ptr 1000 0 none)]),(203,.mem false 1 [(32,.a8 p)]),(204,.mem true 0 [(32,.a8 (replicate 32 0))]),
  (1000,.mem true 0 [(1,.sl 1001 0 0 N c),(1,.mp 1002)]),(1001,.mem true (zmE (c - N) 3) [(N * 3,.arr N 3 (ttF T))]),(1002,.map (.si (mpL T)))])) () trivial (Le.ghost [.keep 3] [] [(202,(2,0,none)),(203,(3,0,none)),(204,(4,0,none))] rfl fc rfl rfl fc rfl fc rfl) ?_
 rintro - -
 refine aI.intro [[],[],[1],[0,1,2],r_4] r_5 (by kernel_rfl) ?_
 repeat refine sd ?_
 refine Call.name [(0,[]),(0,[]),(2001,[])] rfl fc (cz.intro hM [(1000,(1000,0,none)),(1001,(1001,0,none)),(1002,(1002,0,none)),(1003,(2001,0,none)),(1005,(305,0,none))] rfl fc rfl ?_ rfl ?_)
 ·repeat' first|exact trivial|refine zA.app ?_ ?_|refine zA.zd ?_ ?_|refine zA.cons ?_ ?_|exact fc|fail
  all_goals exact p7 hp
 rintro v M' ⟨n',c',hn',hnc',rfl,rfl⟩
 dsimp only [zt,zM,zE,ren,zz,zx,zy,aS,zG,zX,ev,evL,zV,zcT,zcF,act,zP,zO,Ent.zW]
 repeat refine sd ?_
 refine Ret.intro (.a8 (kyB o)) ((1001,.dead) :: tbM n' c' T1 1005) [(1005,(305,0,none))] rfl fc ⟨n',c',hn',hnc',rfl,rfl⟩ rfl fc rfl fc rfl
end Go.Proofs.YtimbdhpchlakfaaGreat
