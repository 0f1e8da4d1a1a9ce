/- What the functions of the program compute. No condition. -/
import Derived.Test.YtfnmgbillkiabaaGreatHwTm3ToTm4
import Derived.Test.YtfnmgbillkiabaaGreatHx7
set_option linter.unusedSimpArgs false
set_option linter.unusedVariables false
set_option maxRecDepth 100000
namespace Go.Proofs.YtfnmgbillkiabaaGreat
open Go Go.Sx
set_option maxHeartbeats 1000000 in
theorem fn139 (b:List UInt8) (n:Nat) (hb:b.length = n) (most:Nat) (hm:most < 4294967296) (hn:n <= 1000000):Sx.Fn Γ.P 139 [.slx 1003 0 0 n,.i .i64 (most:Int)] [(1003,.mem false 0 [(n,.a8 b)])]
  (fun v M=>∃ l c,l = toI (inL b most 0)/\l.length <= c/\v = .sl 1001 0 0 l.length c/\M = [(1003,.mem false 0 [(n,.a8 b)]),(1001,.mem true (c - l.length) [(l.length,.ai l)])]):=by
 refine fn_of (Γ:=Γ) (fn:=Tryz.f139) rfl rfl rfl rfl ?_
 repeat (refine sd ?_)
 refine Loop.intro (σ:=Nat × List Int × Nat × Nat) (fun s=>s.1 <= n + 40/\s.2.1.length = s.2.2.1/\s.2.2.1 <= s.1/\s.2.2.1 <= s.2.2.2/\s.2.1 ++ toI (inL b most s.1) = toI (inL b most 0))
  (fun s=>([(0,.slx 1003 0 0 n),(1,.i .i64 (most:Int)),(5,.sl 204 0 0 s.2.2.1 s.2.2.2),(6,.i .i64 (s.1:Int))],[(1003,.mem false 0 [(n,.a8 b)]),(204,.mem true (s.2.2.2 - s.2.2.1) [(s.2.2.1,.ai s.2.1)])]))
  (fun s=>n + 40 - s.1) (0,[],0,0) ⟨Nat.zero_le _,rfl,Nat.zero_le _,Nat.zero_le _,rfl⟩ ?_ ?_
 ·refine Le.ghost [.own 204 [(0,.ai [])]] [(5,204)] [] rfl ⟨rfl,rfl,trivial⟩ rfl rfl ?_ rfl ?_ rfl
  ·exact fc
  ·exact fc
 rintro ⟨o,A,N,c⟩ ⟨ho,hA,hNo,hNc,hI⟩
 have ho:o <= n + 40:=ho
 have hA:A.length = N:=hA
 have hNc:N <= c:=hNc
 have hNo:N <= o:=hNo
 have hI:A ++ toI (inL b most o) = toI (inL b most 0):=hI
 repeat (refine sd ?_)
 refine zB.intro (fun hc=>?_) (fun hc=>?_)
 ·have hc:(n:Int) - o ≥ 32:=hc
  have e4:((o:Int) + 4).toNat = o + 4:=by omega
  have e5:((o:Int) + 5).toNat = o + 5:=by omega
  have e6:((o:Int) + 6).toNat = o + 6:=by omega
  have e7:((o:Int) + 7).toNat = o + 7:=by omega
  have l4:=(b.getD (o + 4) 0).toNat_lt
  have l5:=(b.getD (o + 5) 0).toNat_lt
  have l6:=(b.getD (o + 6) 0).toNat_lt
  have l7:=(b.getD (o + 7) 0).toNat_lt
  have hlt:=nmK_lt b o
  have hN:=fn77 (nmK b o) hlt
  have hnl:=nameB_length (nmK b o)
  have hq:=numP_eq b most o
  refine Draw.intro [[],[],[1],[0,1,2],[0,1,2,3],[0,1,2,3,4],[0,1,2,3,4,5],[],[],[8],[7,8,9],[7,8,9,10],[7,8,9,10,11],[7,8,9,10,11,12],[0,1,2,3,4,5,6,7,8,9,10,11,12,13],[],[],[16],[15,16,17],[15,16,17,18],[15,16,17,18,19],[15,16,17,18,19,20],[0,1,2,3,4,5,6,7,8,9,10,11,12,13,14,15,16,17,18,19,20,21],[],[],[24],[23,24,25],[23,24,25,26],[23,24,25,26,27],[0,1,2,3,4,5,6,7,8,9,10,11,12,13,14,15,16,17,18,19,20,21,22,23,24,25,26,27,28],[0,1,2,3,4,5,6,7,8,9,10,11,12,13,14,15,16,17,18,19,20,21,22,23,24,25,26,27,28,29]] [0,1,2,3,4,5,6,7,8,9,10,11,12,13,14,15,16,17,18,19,20,21,22,23,24,25,26,27,28,29,30] (by kernel_rfl) ?_
  repeat (refine Side.intro (by repeat' (first | (show zA _;first | exact trivial | refine zA.app ?_ ?_ | refine zA.zd ?_ ?_ | refine zA.cons ?_ ?_) | with_reducible rfl | with_reducible assumption | omega | (simp only [Nat.zero_add,zIn,e4,e5,e6,e7,rng,Ix.val,zQ,addI,szs] <;> omega) | (simp only [Nat.zero_add,zIn,e4,e5,e6,e7,rng,Ix.val,zIn,zme,zQ,addI,Option.getD_none,Option.getD_some,zlT,zlD,zlA,List.length_set,List.length_replicate,szs, *] <;> omega) | (simp only [Ix.val];with_reducible assumption) | exact UInt8.toNat_lt _ | (apply Eq.trans;(with_reducible assumption);exact rfl) | exact rfl | exact fun _ _=>rfl)) ?_)
  have hk:((b.getD (o + 4) 0).toNat:Int) * 2 ^ 24 + ((b.getD (o + 5) 0).toNat:Int) * 2 ^ 16 + ((b.getD (o + 6) 0).toNat:Int) * 2 ^ 8 + ((b.getD (o + 7) 0).toNat:Int) = (nmK b o:Int):=by
   unfold nmK
   omega
  simp only [Ix.val,zQ,Nat.zero_add,e4,e5,e6,e7]
  rw [hk]
  refine Call.intro hN [] rfl rfl rfl trivial rfl ?_
  rintro v M' ⟨rfl,rfl⟩
  dsimp only [zt,zM,zE,ren,zz,zx,zy,look,zG,zX,ev,evL,zV,zcT,zcF,act,zP,zO,Ent.zW]
  repeat (refine sd ?_)
  by_cases h1:1 <= ((nmK b o:Nat):Int)
  ·by_cases h2:((nmK b o:Nat):Int) <= (most:Int)
   ·have h3:(1 <= ((nmK b o:Nat):Int)/\((nmK b o:Nat):Int) <= (most:Int) \/ ¬ 1 <= ((nmK b o:Nat):Int)/\False):=Or.inl ⟨h1,h2⟩
    refine Draw.intro [[],[0],[0,1],[0,1,2],[0,1,2],[0,1,2,3,4],[0,1,2,3,4,5],[0,1,2,3,4,5,6],[0,1,2,3,4,5,6,7],[0,1,2,3,4,5,6,7],[0,1,2,3,4,5,6,7],[0,1,2,3,4,5,6,7,10],[0,1,2,3,4,5,6,7,8,9,10,11],[0,1,2,3,4,5,6,7,8,9,10,11,12],[0,1,2,3,4,5,6,7],[0,1,2,3,4,5,6,7,14],[0,1,2,3,4,5,6,7,8,9,10,11,12,13,14,15],[0,1,2,3,4,5,6,7,8,9,10,11,12,13,14,15,16]] [0,1,2,3,4,5,6,7,8,9,10,11,12,13,14,15,16,17] (by kernel_rfl) ?_
    repeat (first | (refine zB.intro (fun _=>?_) (fun hn=>absurd rfl hn)) | (refine ky0 ?_) | (refine kn0 ?_) | (refine ky ?_) | (refine kn ?_) | (refine sdn ?_))
    have htk:((nameB (nmK b o)).drop ((none:Option Nat).getD 0)).take 32 = nameB (nmK b o):=List.take_of_length_le (by show (nameB (nmK b o)).length <= 32;omega)
    have hdr:o * (Γ.ty 5).size + 0 = o:=Nat.mul_one o
    have e32:((o:Int) + 32).toNat - o = 32:=by omega
    refine zB.intro (fun h4=>?_) (fun h4=>?_)
    ·have h4:_/\_ = _ \/ _:=h4
     simp only [Ix.val,zQ,Nat.zero_add,zIn,e32,htk,hdr] at h4
     have h5:(b.drop o).take 32 = nameB (nmK b o):=by
      rcases h4 with h4 | h4
      ·exact h4.2
      ·exact absurd h3 h4.1
     have hz:numP b most o = nmK b o:=by
      rw [hq,if_pos]
      exact ⟨by omega,by omega,by omega,h5⟩
     have hnx:=inL_some (b:=b) (most:=most) (o:=o) (by omega) (by omega)
     rw [hz] at hnx
     repeat (refine sdn ?_)
     refine fun c2 hc2'=>?_
     have hc2':N + 1 <= c2:=hc2'
     repeat (refine sdn ?_)
     refine ⟨(o + 32,A ++ [(nmK b o:Int)],N + 1,c2),⟨by show o + 32 <= n + 40;omega,by show (A ++ [(nmK b o:Int)]).length = N + 1;simp [hA],by show N + 1 <= o + 32;omega,hc2',?_⟩,by show n + 40 - (o + 32) < n + 40 - o;omega,Le.intro [(204,(67,0,none))] rfl ?_ rfl ?_ rfl⟩
     ·show (A ++ [(nmK b o:Int)]) ++ toI (inL b most (o + 32)) = _
      rw [<- hI,hnx,List.append_assoc]
      rfl
     ·exact fcn
     ·exact fcn
    ·have h4:¬ (_/\_ = _ \/ _):=h4
     simp only [Ix.val,zQ,Nat.zero_add,zIn,e32,htk,hdr] at h4
     have hz:numP b most o = 0:=by
      rw [hq,if_neg]
      rintro ⟨_,_,_,h5⟩
      exact h4 (Or.inl ⟨h3,h5⟩)
     repeat (refine sdn ?_)
     have hnx:=inL_none (b:=b) (most:=most) (o:=o) (by omega) hz
     refine ⟨(o + 1,A,N,c),⟨by show o + 1 <= n + 40;omega,hA,by show N <= o + 1;omega,hNc,by show A ++ toI (inL b most (o + 1)) = _;rw [<- hnx];exact hI⟩,by show n + 40 - (o + 1) < n + 40 - o;omega,Le.intro [] rfl ?_ rfl ?_ rfl⟩
     ·exact fc
     ·exact fc
   ·have h3:¬ (1 <= ((nmK b o:Nat):Int)/\((nmK b o:Nat):Int) <= (most:Int) \/ ¬ 1 <= ((nmK b o:Nat):Int)/\False):=fun h=>h.elim (fun h=>h2 h.2) (fun h=>h.2)
    have hz:numP b most o = 0:=by rw [hq,if_neg (fun h=>by omega)]
    refine Draw.intro [[],[0],[0,1],[0,1,2],[0,1,2],[0,1,2,3,4],[0,1,2,3,4,5],[0,1,2,3,4,5,6],[0,1,2,3,4,5,6,7],[0,1,2,3,4,5,6,7],[0,1,2,3,4,5,6,7],[0,1,2,3,4,5,6,7,10],[0,1,2,3,4,5,6,7,8,9,10,11],[0,1,2,3,4,5,6,7,8,9,10,11,12],[0,1,2,3,4,5,6,7],[0,1,2,3,4,5,6,7,14],[0,1,2,3,4,5,6,7,8,9,10,11,12,13,14,15],[0,1,2,3,4,5,6,7,8,9,10,11,12,13,14,15,16]] [0,1,2,3,4,5,6,7,8,9,10,11,12,13,14,15,16,17] (by kernel_rfl) ?_
    repeat (first | (refine zB.intro (fun _=>?_) (fun hn=>absurd rfl hn)) | (refine ky0 ?_) | (refine kn0 ?_) | (refine ky ?_) | (refine kn ?_) | (refine sd ?_))
    repeat (refine sdn ?_)
    have hnx:=inL_none (b:=b) (most:=most) (o:=o) (by omega) hz
    refine ⟨(o + 1,A,N,c),⟨by show o + 1 <= n + 40;omega,hA,by show N <= o + 1;omega,hNc,by show A ++ toI (inL b most (o + 1)) = _;rw [<- hnx];exact hI⟩,by show n + 40 - (o + 1) < n + 40 - o;omega,Le.intro [] rfl ?_ rfl ?_ rfl⟩
    ·exact fc
    ·exact fc
  ·have h3:¬ (1 <= ((nmK b o:Nat):Int)/\((nmK b o:Nat):Int) <= (most:Int) \/ ¬ 1 <= ((nmK b o:Nat):Int)/\False):=fun h=>h.elim (fun h=>h1 h.1) (fun h=>h.2)
   have hz:numP b most o = 0:=by rw [hq,if_neg (fun h=>by omega)]
   refine Draw.intro [[],[0],[0,1],[0,1,2],[0,1,2],[0,1,2,3,4],[0,1,2,3,4,5],[0,1,2,3,4,5,6],[0,1,2,3,4,5,6,7],[0,1,2,3,4,5,6,7],[0,1,2,3,4,5,6,7],[0,1,2,3,4,5,6,7,10],[0,1,2,3,4,5,6,7,8,9,10,11],[0,1,2,3,4,5,6,7,8,9,10,11,12],[0,1,2,3,4,5,6,7],[0,1,2,3,4,5,6,7,14],[0,1,2,3,4,5,6,7,8,9,10,11,12,13,14,15],[0,1,2,3,4,5,6,7,8,9,10,11,12,13,14,15,16]] [0,1,2,3,4,5,6,7,8,9,10,11,12,13,14,15,16,17] (by kernel_rfl) ?_
   repeat (first | (refine zB.intro (fun _=>?_) (fun hn=>absurd rfl hn)) | (refine ky0 ?_) | (refine kn0 ?_) | (refine ky ?_) | (refine kn ?_) | (refine sd ?_))
   repeat (refine sdn ?_)
   have hnx:=inL_none (b:=b) (most:=most) (o:=o) (by omega) hz
   refine ⟨(o + 1,A,N,c),⟨by show o + 1 <= n + 40;omega,hA,by show N <= o + 1;omega,hNc,by show A ++ toI (inL b most (o + 1)) = _;rw [<- hnx];exact hI⟩,by show n + 40 - (o + 1) < n + 40 - o;omega,Le.intro [] rfl ?_ rfl ?_ rfl⟩
   ·exact fc
   ·exact fc
 ·have hc:¬ (n:Int) - o ≥ 32:=hc
  have hnx:=inL_end (b:=b) (most:=most) (o:=o) (by omega)
  have hI2:A = toI (inL b most 0):=by rw [<- hI,hnx];exact (List.append_nil _).symm
  repeat (refine sd ?_)
  refine Ret.intro (.sl 1001 0 0 N c) [(1003,.mem false 0 [(n,.a8 b)]),(1001,.mem true (c - N) [(N,.ai A)])] [(1001,(204,0,none))] rfl ?_ ⟨A,c,hI2,by omega,by rw [hA],by rw [hA]⟩ rfl ?_ rfl ?_ rfl
  ·exact fc
  ·exact fc
  ·exact fc
def rwF (L:List (List UInt8)) (q:Nat):List (Nat × SV):=[(1,.isl 0 (L.getD q []).length 1 [((L.getD q []).length * 1,.a8 (L.getD q []))])]
def rwS (n:Nat) (L:List (List UInt8)):List (Nat × SV):=[(n * 1,.arr n 1 (rwF L))]
def jnR:List (List UInt8)->List UInt8
 | []=>[]
 | x :: r=>[UInt8.ofNat (x.length / 256),UInt8.ofNat x.length] ++ x ++ jnR r
@[irreducible] def jnB (L:List (List UInt8)):List UInt8:=UInt8.ofNat L.length :: jnR L
theorem jnB_eq (L:List (List UInt8)):jnB L = UInt8.ofNat L.length :: jnR L:=by unfold jnB;rfl
theorem jnR_app:∀ (L M:List (List UInt8)),jnR (L ++ M) = jnR L ++ jnR M
 | [],M=>rfl
 | x :: r,M=>by
  show [_,_] ++ x ++ jnR (r ++ M) = [_,_] ++ x ++ jnR r ++ jnR M
  rw [jnR_app r M,List.append_assoc ([_,_] ++ x)]
theorem take_succ_getD {α:Type} (d:α):∀ (L:List α) (i:Nat),i < L.length->L.take (i + 1) = L.take i ++ [L.getD i d]
 | x :: r,0,_=>rfl
 | x :: r,i + 1,h=>by
  show x :: r.take (i + 1) = x :: (r.take i ++ [r.getD i d])
  rw [take_succ_getD d r i (by simpa using h)]
@[irreducible] def jnT (L:List (List UInt8)) (i:Nat):List UInt8:=UInt8.ofNat L.length :: jnR (L.take i)
theorem jnT_zero (L:List (List UInt8)):jnT L 0 = [UInt8.ofNat L.length]:=by unfold jnT;rfl
theorem jnT_succ {L:List (List UInt8)} {i:Nat} (h:i < L.length):jnT L (i + 1) = (jnT L i ++ [UInt8.ofNat ((L.getD i []).length / 256),UInt8.ofNat (L.getD i []).length]) ++ L.getD i []:=by
 unfold jnT
 rw [take_succ_getD [] L i h,jnR_app]
 show _ :: (jnR (L.take i) ++ ([_,_] ++ L.getD i [] ++ [])) = _ :: (jnR (L.take i) ++ _) ++ _
 simp
theorem jnT_all (L:List (List UInt8)):jnT L L.length = jnB L:=by unfold jnT jnB;rw [List.take_length]
theorem jnR_le:∀ (L:List (List UInt8)),(∀ x ∈ L,x.length <= 4096)->(jnR L).length <= 4098 * L.length
 | [],_=>Nat.zero_le _
 | x :: r,h=>by
  have h1:=jnR_le r (fun y hy=>h y (List.mem_cons_of_mem _ hy))
  have h2:=h x (List.mem_cons_self ..)
  show ([_,_] ++ x ++ jnR r).length <= 4098 * (r.length + 1)
  simp only [zlA,List.length_cons,List.length_nil]
  omega
theorem jnB_le {L:List (List UInt8)} (h:∀ x ∈ L,x.length <= 4096):(jnB L).length <= 4098 * L.length + 1:=by
 rw [jnB_eq];have:=jnR_le L h;simp only [List.length_cons];omega
theorem jnT_le {L:List (List UInt8)} (i:Nat) (h:∀ x ∈ L.take i,x.length <= 4096) (hi:i <= L.length):(jnT L i).length <= 4098 * i + 1:=by
 unfold jnT
 have:=jnR_le _ h
 rw [zlT] at this
 simp only [List.length_cons];omega
def Joins (L:List (List UInt8)):Prop:=L.length <= 64/\∀ x ∈ L,x.length <= 4096
instance (L:List (List UInt8)):Decidable (Joins L):=inferInstanceAs (Decidable (_/\_))
theorem getD_mem {α:Type} (d:α) {L:List α} {i:Nat} (h:i < L.length):L.getD i d ∈ L:=by
 rw [List.getD_eq_getElem?_getD,List.getElem?_eq_getElem h]
 exact List.getElem_mem h
theorem ofInt8_nat (i:Nat):UInt8.ofInt (i:Int) = UInt8.ofNat i:=by
 apply UInt8.toNat_inj.1
 simp [UInt8.ofInt]
 try omega
theorem shr8_byte (m:Nat) (h:m <= 4096):UInt8.ofInt ((m:Int) / 2 ^ 8) = UInt8.ofNat (m / 256):=by
 have:(m:Int) / 2 ^ 8 = ((m / 256:Nat):Int):=by omega
 rw [this]
 exact ofInt8_nat _
set_option maxHeartbeats 1000000 in
theorem fn68 (L:List (List UInt8)) (n:Nat) (hn:L.length = n) (hn1:n <= 1000000) (hL:∀ x ∈ L,x.length <= 1000000):Sx.Fn Γ.P 68 [.slx 1003 0 0 n] [(1003,.mem false 0 (rwS n L))]
  (fun v M=>(¬ Joins L/\v = .tup [.nsl,.ff]/\M = [(1003,.mem false 0 (rwS n L))]) \/ ∃ c N,Joins L/\(jnB L).length = N/\N <= c/\v = .tup [.sl 1001 0 0 N c,.tt]/\M = [(1003,.mem false 0 (rwS n L)),(1001,.mem true (c - N) [(N,.a8 (jnB L))])]):=by
 unfold rwS rwF
 refine fn_of (Γ:=Γ) (fn:=Tryz.f68) rfl rfl rfl rfl ?_
 repeat (refine sd ?_)
 refine zB.intro (fun hc=>?_) (fun hc=>?_)
 ·have hc:(n:Int) > 64:=hc
  repeat (refine sd ?_)
  refine Ret.intro (.tup [.nsl,.ff]) [(1003,.mem false 0 [(n * 1,.arr n 1 (rwF L))])] [] rfl trivial (Or.inl ⟨fun h=>by have:=h.1;omega,rfl,rfl⟩) rfl ?_ rfl ?_ rfl
  ·exact fc
  ·exact fc
 have hc:¬ (n:Int) > 64:=hc
 have hz:=jnT_zero L
 have hn8:=ofInt8_nat n
 repeat (refine sd ?_)
 refine Loop.intro (σ:=Nat × Nat × Nat) (fun s=>s.1 <= n/\(jnT L s.1).length = s.2.1/\s.2.1 <= s.2.2/\∀ x ∈ L.take s.1,x.length <= 4096)
  (fun s=>([(4,.sl 204 0 0 s.2.1 s.2.2),(14,.slx 1003 0 0 n),(15,.i .i64 (n:Int)),(16,.i .i64 (s.1:Int))],[(1003,.mem false 0 [(n * 1,.arr n 1 (rwF L))]),(204,.mem true (s.2.2 - s.2.1) [(s.2.1,.a8 (jnT L s.1))])]))
  (fun s=>n - s.1) (0,1,1) ⟨Nat.zero_le _,by show (jnT L 0).length = 1;rw [hz];rfl,Nat.le_refl _,fun x h=>by cases h⟩ ?_ ?_
 ·refine Le.intro [(204,(13,0,none))] rfl ?_ rfl ?_ rfl
  ·exact fc
  ·repeat' (first | (show zA _;first | exact trivial | refine zA.app ?_ ?_ | refine zA.zd ?_ ?_ | refine zA.cons ?_ ?_) | exact fd | fail)
   all_goals (rw [hz,<- hn,<- ofInt8_nat];subst hn;exact rfl)
 rintro ⟨i,N,c⟩ ⟨hi,hN,hNc,hT⟩
 have hi:i <= n:=hi
 have hN:(jnT L i).length = N:=hN
 have hNc:N <= c:=hNc
 have hT:∀ x ∈ L.take i,x.length <= 4096:=hT
 have hle:=jnT_le i hT (by omega)
 refine zB.intro (fun hc=>?_) (fun hc=>?_)
 ·have hc:(i:Int) < n:=hc
  repeat (refine sdn ?_)
  obtain ⟨m,hm⟩:∃ m,(L.getD i []).length = m:=⟨_,rfl⟩
  have hmem:=getD_mem [] (L:=L) (i:=i) (by omega)
  have hm6:m <= 1000000:=by rw [<- hm];exact hL _ hmem
  refine zB.intro (fun hc2=>?_) (fun hc2=>?_)
  ·have hc2:((L.getD (addQ 0 (Int.toNat (i:Int))) []).length:Int) > 4096:=hc2
   rw [zQ,Nat.zero_add,zIn,hm] at hc2
   repeat (refine sd ?_)
   refine Ret.intro (.tup [.nsl,.ff]) [(1003,.mem false 0 [(n * 1,.arr n 1 (rwF L))])] [] rfl trivial (Or.inl ⟨fun h=>by have:=h.2 _ hmem;omega,rfl,rfl⟩) rfl ?_ rfl ?_ rfl
   ·exact fc
   ·exact fc
  have hc2:¬ ((L.getD (addQ 0 (Int.toNat (i:Int))) []).length:Int) > 4096:=hc2
  rw [zQ,Nat.zero_add,zIn,hm] at hc2
  have hsucc:=jnT_succ (L:=L) (i:=i) (by omega)
  have hT2:∀ x ∈ L.take (i + 1),x.length <= 4096:=by
   rw [take_succ_getD [] L i (by omega)]
   intro x hx
   rcases List.mem_append.1 hx with hx | hx
   ·exact hT x hx
   ·have hx:x = L.getD i []:=by simpa using hx
    rw [hx,hm];omega
  have e1:=shr8_byte m (by omega)
  have e2:=ofInt8_nat m
  have e3:((m:Int) / 2 ^ 8) = (m:Int) / 256:=rfl
  rw [hm] at hsucc
  have hl1:(jnT L i ++ [UInt8.ofNat (m / 256),UInt8.ofNat m]).length = N + 2:=by rw [zlA,hN];rfl
  have hl2:(jnT L (i + 1)).length = N + 2 + m:=by rw [hsucc,zlA,hl1,hm]
  repeat (refine sdn ?_)
  refine fun c1 hc1=>?_
  have hc1:N + 2 <= c1:=hc1
  repeat (refine sdn ?_)
  refine fun c2 hc2'=>?_
  have hc2':N + 2 + m <= c2:=by rw [<- hm];exact hc2'
  repeat (refine sdn ?_)
  refine ⟨(i + 1,N + 2 + m,c2),⟨by show i + 1 <= n;omega,hl2,hc2',hT2⟩,by show n - (i + 1) < n - i;omega,Le.intro [(204,(35,0,none))] rfl ?_ rfl ?_ rfl⟩
  ·exact fcn
  ·repeat' (first | (show zA _;first | exact trivial | refine zA.app ?_ ?_ | refine zA.zd ?_ ?_ | refine zA.cons ?_ ?_) | exact fdn | fail)
   all_goals (simp only [dropQ_eq,List.drop_zero,Ix.val,zQ,Nat.zero_add,zIn,hm];rw [e1,e2,List.take_of_length_le (l:=L.getD i []) (by omega)];exact hsucc)
 ·have hc:¬ (i:Int) < n:=hc
  obtain rfl:i = n:=by omega
  have hall:jnT L i = jnB L:=by rw [<- hn];exact jnT_all L
  have hJ:Joins L:=⟨by omega,by rw [<- hn,List.take_length] at hT;exact hT⟩
  repeat (refine sd ?_)
  refine Ret.intro (.tup [.sl 1001 0 0 N c,.tt]) [(1003,.mem false 0 [(i * 1,.arr i 1 (rwF L))]),(1001,.mem true (c - N) [(N,.a8 (jnB L))])] [(1001,(204,0,none))] rfl ?_ (Or.inr ⟨c,N,hJ,by rw [<- hall];exact hN,hNc,rfl,rfl⟩) rfl ?_ rfl ?_ rfl
  ·exact fc
  ·exact fc
  ·exact fc
end Go.Proofs.YtfnmgbillkiabaaGreat
