/- What the functions of the program compute. No condition. -/
import Derived.Test.YtfnmgbillkiabaaGreatHwZb1ToZb1
set_option linter.unusedSimpArgs false
set_option linter.unusedVariables false
set_option maxRecDepth 100000
namespace Go.Proofs.YtfnmgbillkiabaaGreat
open Go Go.Sx
set_option maxHeartbeats 1000000 in
theorem fnTNext (L:List (List UInt8)) (n c j:Nat) (hL:L.length = n) (hn:n <= 1000) (hnc:n <= c) (p:List UInt8) (m:Nat) (hp:L.getD j [] = p) (hm:p.length = m) :
  Sx.Fn Γ.P 66 [.ptr 1000 0 none] [(1000,.mem true 0 [(1,.sl 1001 0 0 n c),(1,.i .i64 ((min j n:Nat):Int))]),(1001,.mem true (zmE (c - n) 1) [(n * 1,.arr n 1 (rwF L))])]
  (fun v M=>v = .isl 0 m 1 [(m,.a8 p)]/\M = [(1000,.mem true 0 [(1,.sl 1001 0 0 n c),(1,.i .i64 ((min (j + 1) n:Nat):Int))]),(1001,.mem true (zmE (c - n) 1) [(n * 1,.arr n 1 (rwF L))])]):=by
 refine fn_nilI (R:=fun v M=>(v = .isl 0 m 1 [(m,.a8 p)]/\M = [(1000,.mem true 0 [(1,.sl 1001 0 0 n c),(1,.i .i64 ((min (j + 1) n:Nat):Int))]),(1001,.mem true (zmE (c - n) 1) [(n * 1,.arr n 1 (rwF L))])]) \/
  (m = 0/\p = []/\v = .nsl/\M = [(1000,.mem true 0 [(1,.sl 1001 0 0 n c),(1,.i .i64 ((min (j + 1) n:Nat):Int))]),(1001,.mem true (zmE (c - n) 1) [(n * 1,.arr n 1 (rwF L))])])) ?_ ?_
 ·by_cases hj:j < n
  ·rw [Nat.min_eq_left (show j <= n by omega),Nat.min_eq_left (show j + 1 <= n by omega)]
   refine fn_of (Γ:=Γ) (fn:=Tryz.f66) rfl rfl rfl rfl ?_
   repeat (refine sd ?_)
   refine Draw.intro [[],[0],[0,1],[0,1,2],[],[4],[4,5],[4,5,6],[4,5,6,7],[0,1,2,3,4,5,6,7,8]] [0,1,2,3,4,5,6,7,8,9] (by kernel_rfl) ?_
   repeat (refine sd ?_)
   refine zB.intro (fun hc=>?_) (fun hc=>?_)
   ·have hc:(j:Int) ≥ (n:Int):=hc
    exact absurd hc (by omega)
   have e1:((j:Int) + 1 - 1).toNat = j:=by omega
   repeat (refine sd ?_)
   refine Draw.intro [[],[0],[0,1],[0,1,2],[],[4],[4,5],[4,5,6],[4,5,6,7],[0,1,2,3,4,5,6,7,8],[0,1,2,3,4,5,6,7,8,9],[0,1,2,3,4,5,6,7,8,9,10]] [0,1,2,3,4,5,6,7,8,9,10,11] (by kernel_rfl) ?_
   repeat (refine Side.intro (by repeat' (first | (show zA _;first | exact trivial | refine zA.app ?_ ?_ | refine zA.zd ?_ ?_ | refine zA.cons ?_ ?_) | with_reducible rfl | with_reducible assumption | omega | (simp only [Nat.zero_add,zIn,e1,rng,Ix.val,zQ,addI,szs] <;> omega) | (simp only [Nat.zero_add,zIn,e1,rng,Ix.val,zIn,zme,zQ,addI,Option.getD_none,Option.getD_some,zlT,zlD,zlA,List.length_set,List.length_replicate,szs, *] <;> omega) | (simp only [Ix.val];with_reducible assumption) | exact UInt8.toNat_lt _ | (apply Eq.trans;(with_reducible assumption);exact rfl) | exact rfl | exact fun _ _=>rfl)) ?_)
   refine Ret.intro (.isl 0 m 1 [(m,.a8 p)]) [(1000,.mem true 0 [(1,.sl 1001 0 0 n c),(1,.i .i64 ((j + 1:Nat):Int))]),(1001,.mem true (zmE (c - n) 1) [(n * 1,.arr n 1 (rwF L))])] [] rfl ?_ (Or.inl ⟨rfl,rfl⟩) rfl ?_ rfl ?_ rfl
   ·exact fc
   ·repeat' (first | (show zA _;first | exact trivial | refine zA.app ?_ ?_ | refine zA.zd ?_ ?_ | refine zA.cons ?_ ?_) | exact fd | fail)
    all_goals first | (simp only [zQ,Nat.zero_add,e1,Ix.val,hp,hm,Nat.mul_one];done) | trace_state
   ·exact fc
  ·have hp0:p = []:=by rw [<- hp,List.getD_eq_getElem?_getD,List.getElem?_eq_none (by omega)];rfl
   have hm0:m = 0:=by rw [<- hm,hp0];rfl
   rw [Nat.min_eq_right (show n <= j by omega),Nat.min_eq_right (show n <= j + 1 by omega)]
   refine fn_of (Γ:=Γ) (fn:=Tryz.f66) rfl rfl rfl rfl ?_
   repeat (refine sd ?_)
   refine Draw.intro [[],[0],[0,1],[0,1,2],[],[4],[4,5],[4,5,6],[4,5,6,7],[0,1,2,3,4,5,6,7,8]] [0,1,2,3,4,5,6,7,8,9] (by kernel_rfl) ?_
   repeat (refine sd ?_)
   refine zB.intro (fun hc=>?_) (fun hc=>?_)
   rotate_left
   ·have hc:¬ (n:Int) ≥ (n:Int):=hc
    exact absurd (Int.le_refl _) hc
   repeat (refine sd ?_)
   refine Ret.intro .nsl [(1000,.mem true 0 [(1,.sl 1001 0 0 n c),(1,.i .i64 ((n:Nat):Int))]),(1001,.mem true (zmE (c - n) 1) [(n * 1,.arr n 1 (rwF L))])] [] rfl ?_ (Or.inr ⟨hm0,hp0,rfl,rfl⟩) rfl ?_ rfl ?_ rfl
   ·exact fc
   ·exact fc
   ·exact fc
 ·rintro v M (h | ⟨e1,e2,rfl,h⟩)
  ·exact Or.inl h
  ·exact Or.inr ⟨rfl,by rw [e1,e2],h⟩
theorem kyO_cp {p:List UInt8} {m:Nat} (hm:p.length = m):kyO p = List.take 0 (List.replicate 32 (0:UInt8)) ++ List.take (min m 32) p ++ List.drop (0 + min m 32) (List.replicate 32 0):=by
 rw [List.take_zero,List.nil_append,Nat.zero_add,List.drop_replicate]
 unfold kyO
 rw [hm]
 congr 1
 ·rw [List.take_eq_take_iff];omega
 ·congr 1;omega
set_option maxHeartbeats 1000000 in
theorem fnTKey (L:List (List UInt8)) (n c j:Nat) (hL:L.length = n) (hn:n <= 1000) (hnc:n <= c) :
  Sx.Fn Γ.P 63 [.ptr 1000 0 none] [(1000,.mem true 0 [(1,.sl 1001 0 0 n c),(1,.i .i64 ((min j n:Nat):Int))]),(1001,.mem true (zmE (c - n) 1) [(n * 1,.arr n 1 (rwF L))])]
  (fun v M=>v = .a8 (kyO (L.getD j []))/\M = [(1000,.mem true 0 [(1,.sl 1001 0 0 n c),(1,.i .i64 ((min (j + 1) n:Nat):Int))]),(1001,.mem true (zmE (c - n) 1) [(n * 1,.arr n 1 (rwF L))])]):=by
 obtain ⟨p,hp⟩:∃ p,L.getD j [] = p:=⟨_,rfl⟩
 obtain ⟨m,hm⟩:∃ m,p.length = m:=⟨_,rfl⟩
 have hN:=fnTNext L n c j hL hn hnc p m hp hm
 rw [hp]
 have hk:=kyO_cp hm
 have hkl:=kyO_length p
 obtain ⟨k,hk0⟩:∃ k,kyO p = k:=⟨_,rfl⟩
 rw [hk0] at hk hkl ⊢
 obtain ⟨j0,hj0⟩:∃ j0,min j n = j0:=⟨_,rfl⟩
 obtain ⟨j1,hj1⟩:∃ j1,min (j + 1) n = j1:=⟨_,rfl⟩
 rw [hj0,hj1] at hN ⊢
 refine fn_cut [3] (Γ:=Γ) (fn:=Tryz.f63) rfl rfl rfl rfl ?_
 repeat (refine sd ?_)
 refine Draw.intro [[],[],[1],[0,1,2]] [0,1,2,3] (by kernel_rfl) ?_
 repeat (first | (refine Grow.turn rfl rfl ?_) | (refine sd ?_))
 refine Call.intro hN [(1000,(1000,0,none)),(1001,(1001,0,none))] rfl ?_ rfl ?_ rfl ?_
 ·exact fc
 ·exact fc
 rintro v M' ⟨rfl,rfl⟩
 dsimp only [zt,zM,zE,ren,zz,zx,zy,look,zG,zX,ev,evL,zV,zcT,zcF,act,zP,zO,Ent.zW]
 repeat (first | (refine Grow.turn rfl rfl ?_) | (refine sd ?_))
 refine Cut.intro (σ:=Unit) (fun _=>True) (fun _=>([(2,.ptr 202 0 none),(3,.ptr 203 0 none)],[(202,.mem true 0 [(32,.a8 (List.replicate 32 0))]),(203,.mem true 0 [(32,.a8 k)]),(1000,.mem true 0 [(1,.sl 1001 0 0 n c),(1,.i .i64 ((j1:Nat):Int))]),(1001,.mem true (zmE (c - n) 1) [(n * 1,.arr n 1 (rwF L))])])) () trivial (Le.intro [(202,(2,0,none)),(203,(3,0,none))] rfl ?_ rfl ?_ rfl) ?_
 ·exact fc
 ·repeat' (first | (show zA _;first | exact trivial | refine zA.app ?_ ?_ | refine zA.zd ?_ ?_ | refine zA.cons ?_ ?_) | exact fd | fail)
  all_goals (rw [show List.take m (List.drop 0 p) = p by rw [List.drop_zero,List.take_of_length_le (by omega)],hm];exact hk)
 rintro - -
 repeat (refine sd ?_)
 refine Ret.intro (.a8 k) [(1000,.mem true 0 [(1,.sl 1001 0 0 n c),(1,.i .i64 ((j1:Nat):Int))]),(1001,.mem true (zmE (c - n) 1) [(n * 1,.arr n 1 (rwF L))])] [] rfl ?_ ⟨rfl,rfl⟩ rfl ?_ rfl ?_ rfl
 ·exact fc
 ·exact fc
 ·exact fc
theorem nuA_lt4 (b:List UInt8) {i:Nat} (h:i < 4):nuA b i < 16777216:=by
 have h1:=nuA_lt b i
 have h2:256 ^ i <= 256 ^ 3:=Nat.pow_le_pow_right (by decide) (by omega)
 have:(256:Nat) ^ 3 = 16777216:=by decide
 omega
set_option maxHeartbeats 1000000 in
theorem fnTNum (L:List (List UInt8)) (n c j:Nat) (hL:L.length = n) (hn:n <= 1000) (hnc:n <= c) (hs:∀ x ∈ L,x.length <= 1000000) :
  Sx.Fn Γ.P 64 [.ptr 1000 0 none] [(1000,.mem true 0 [(1,.sl 1001 0 0 n c),(1,.i .i64 ((min j n:Nat):Int))]),(1001,.mem true (zmE (c - n) 1) [(n * 1,.arr n 1 (rwF L))])]
  (fun v M=>v = .i .i64 (nuO (L.getD j []):Int)/\M = [(1000,.mem true 0 [(1,.sl 1001 0 0 n c),(1,.i .i64 ((min (j + 1) n:Nat):Int))]),(1001,.mem true (zmE (c - n) 1) [(n * 1,.arr n 1 (rwF L))])]):=by
 obtain ⟨p,hp⟩:∃ p,L.getD j [] = p:=⟨_,rfl⟩
 obtain ⟨m,hm⟩:∃ m,p.length = m:=⟨_,rfl⟩
 have hm1:m <= 1000000:=by
  rw [<- hm,<- hp,List.getD_eq_getElem?_getD]
  cases h:L[j]? with
  | none=>exact Nat.zero_le _
  | some x=>exact hs x (List.mem_of_getElem? h)
 have hN:=fnTNext L n c j hL hn hnc p m hp hm
 rw [hp]
 obtain ⟨j0,hj0⟩:∃ j0,min j n = j0:=⟨_,rfl⟩
 obtain ⟨j1,hj1⟩:∃ j1,min (j + 1) n = j1:=⟨_,rfl⟩
 rw [hj0,hj1] at hN ⊢
 refine fn_of (Γ:=Γ) (fn:=Tryz.f64) rfl rfl rfl rfl ?_
 repeat (refine sd ?_)
 refine Call.intro hN [(1000,(1000,0,none)),(1001,(1001,0,none))] rfl ?_ rfl ?_ rfl ?_
 ·exact fc
 ·exact fc
 rintro v M' ⟨rfl,rfl⟩
 dsimp only [zt,zM,zE,ren,zz,zx,zy,look,zG,zX,ev,evL,zV,zcT,zcF,act,zP,zO,Ent.zW]
 repeat (refine sd ?_)
 refine Loop.intro (σ:=Nat) (fun i=>i <= m/\i <= 4)
  (fun i=>([(3,.isl 0 m 1 [(m,.a8 p)]),(4,.i .i64 ((nuA p i:Nat):Int)),(5,.i .i64 (i:Int))],[(1000,.mem true 0 [(1,.sl 1001 0 0 n c),(1,.i .i64 ((j1:Nat):Int))]),(1001,.mem true (zmE (c - n) 1) [(n * 1,.arr n 1 (rwF L))])]))
  (fun i=>4 - i) 0 ⟨Nat.zero_le _,Nat.zero_le _⟩ ?_ ?_
 ·refine Le.intro [] rfl ?_ rfl ?_ rfl
  ·exact fc
  ·exact fc
 rintro i ⟨hi,hi4⟩
 have hi:i <= m:=hi
 have hi4:i <= 4:=hi4
 repeat (refine sd ?_)
 refine zB.intro (fun hc=>?_) (fun hc=>?_)
 ·have hc:(i:Int) < (m:Int):=hc
  repeat (refine sd ?_)
  refine zB.intro (fun hc2=>?_) (fun hc2=>?_)
  ·have hc2:(i:Int) < 4:=hc2
   have hb:=nuA_lt4 p (i:=i) (by omega)
   have hq:(p.getD i 0).toNat < 256:=UInt8.toNat_lt _
   have hq2:(p.getD (addQ 0 (i:Int).toNat) 0).toNat < 256:=UInt8.toNat_lt _
   obtain ⟨w,hw⟩:∃ w,nuA p i = w:=⟨_,rfl⟩
   have hs1:=nuA_succ p i
   rw [hw] at hb hs1 ⊢
   repeat (refine sdn ?_)
   refine ⟨i + 1,⟨by show i + 1 <= m;omega,by show i + 1 <= 4;omega⟩,by show 4 - (i + 1) < 4 - i;omega,Le.intro [] rfl ?_ rfl ?_ rfl⟩
   ·repeat' (first | (show zA _;first | exact trivial | refine zA.app ?_ ?_ | refine zA.zd ?_ ?_ | refine zA.cons ?_ ?_) | exact fd | fail)
    all_goals first | (simp only [hs1,zQ,Nat.zero_add,zIn,Ix.val];omega) | trace_state
   ·exact fc
  have hc2:¬ (i:Int) < 4:=hc2
  have e:nuO p = nuA p i:=by unfold nuO;rw [hm];congr 1;omega
  repeat (refine sd ?_)
  refine Ret.intro (.i .i64 (nuO p:Int)) [(1000,.mem true 0 [(1,.sl 1001 0 0 n c),(1,.i .i64 ((j1:Nat):Int))]),(1001,.mem true (zmE (c - n) 1) [(n * 1,.arr n 1 (rwF L))])] [] rfl ?_ ⟨rfl,rfl⟩ rfl ?_ rfl ?_ rfl
  ·exact fc
  ·repeat' (first | (show zA _;first | exact trivial | refine zA.app ?_ ?_ | refine zA.zd ?_ ?_ | refine zA.cons ?_ ?_) | exact fd | fail)
   all_goals first | (rw [e];done) | trace_state
  ·exact fc
 have hc:¬ (i:Int) < (m:Int):=hc
 have e:nuO p = nuA p i:=by unfold nuO;rw [hm];congr 1;omega
 repeat (refine sd ?_)
 refine Ret.intro (.i .i64 (nuO p:Int)) [(1000,.mem true 0 [(1,.sl 1001 0 0 n c),(1,.i .i64 ((j1:Nat):Int))]),(1001,.mem true (zmE (c - n) 1) [(n * 1,.arr n 1 (rwF L))])] [] rfl ?_ ⟨rfl,rfl⟩ rfl ?_ rfl ?_ rfl
 ·exact fc
 ·repeat' (first | (show zA _;first | exact trivial | refine zA.app ?_ ?_ | refine zA.zd ?_ ?_ | refine zA.cons ?_ ?_) | exact fd | fail)
  all_goals first | (rw [e];done) | trace_state
 ·exact fc
set_option maxHeartbeats 1000000 in
theorem fnTLeft (L:List (List UInt8)) (n c j:Nat) (hL:L.length = n) (hn:n <= 1000) (hnc:n <= c) :
  Sx.Fn Γ.P 65 [.ptr 1000 0 none] [(1000,.mem true 0 [(1,.sl 1001 0 0 n c),(1,.i .i64 ((min j n:Nat):Int))]),(1001,.dead)]
  (fun v M=>v = .i .i64 ((n - j:Nat):Int)/\M = [(1000,.mem true 0 [(1,.sl 1001 0 0 n c),(1,.i .i64 ((min j n:Nat):Int))]),(1001,.dead)]):=by
 obtain ⟨j0,hj0⟩:∃ j0,min j n = j0:=⟨_,rfl⟩
 rw [hj0]
 have e:((n - j:Nat):Int) = (n:Int) - (j0:Int):=by omega
 refine fn_of (Γ:=Γ) (fn:=Tryz.f65) rfl rfl rfl rfl ?_
 repeat (refine sd ?_)
 refine Draw.intro [[],[0],[0,1],[0,1,2],[0,1,2,3],[],[5],[5,6],[5,6,7],[0,1,2,3,4,5,6,7,8],[0,1,2,3,4,5,6,7,8,9]] [0,1,2,3,4,5,6,7,8,9,10] (by kernel_rfl) ?_
 repeat (refine sd ?_)
 refine Ret.intro (.i .i64 ((n - j:Nat):Int)) [(1000,.mem true 0 [(1,.sl 1001 0 0 n c),(1,.i .i64 ((j0:Nat):Int))]),(1001,.dead)] [] rfl ?_ ⟨rfl,rfl⟩ rfl ?_ rfl ?_ rfl
 ·exact fc
 ·exact fc
 ·exact fc
set_option maxHeartbeats 1000000 in
theorem fn62 (b:List UInt8) (n:Nat) (hb:b.length = n) (hn:n <= 1000000):Sx.Fn Γ.P 62 [.isl 0 n 1 [(n,.a8 b)]] []
  (fun v M=>∃ L m c,(spl b).getD [] = L/\L.length = m/\m <= c/\m <= 64/\∃ P:Prop,(P ↔ spl b = some L/\L ≠ [])/\v = .tup [.ptr 1005 0 none,.bool P] /\
   M = [(1005,.mem true 0 [(1,.sl 1006 0 0 m c),(1,.i .i64 0)]),(1006,.mem true (zmE (c - m) 1) [(m * 1,.arr m 1 (rwF L))])]):=by
 have hS:=fn109 b n hb hn
 refine fn_of (Γ:=Γ) (fn:=Tryz.f62) rfl rfl rfl rfl ?_
 repeat (refine sd ?_)
 refine Call.intro hS [(1006,(301,0,none))] rfl ?_ rfl ?_ rfl ?_
 ·exact fc
 ·exact fc
 rintro v M' (⟨hs,⟨e,he,rfl⟩,rfl⟩ | ⟨L,m,c,hs,hL,hmc,hm64,rfl,rfl⟩)
 ·dsimp only [zt,zM,zE,ren,zz,zx,zy,look,zG,zX,ev,evL,zV,zcT,zcF,act,zP,zO,Ent.zW]
  repeat (refine sd ?_)
  refine zB.intro (fun hc=>?_) (fun hc=>?_)
  ·have hc:e = 0:=hc
   exact absurd hc he
  repeat (refine sd ?_)
  refine Ret.ghost [.own 401 [(0 * 1,.arr 0 1 (rwF []))],.leaf 13 0 401] [] rfl ?_ rfl (.tup [.ptr 1005 0 none,.bool False]) [(1005,.mem true 0 [(1,.sl 1006 0 0 0 0),(1,.i .i64 0)]),(1006,.mem true (zmE (0 - 0) 1) [(0 * 1,.arr 0 1 (rwF []))])] [(1005,(13,0,none)),(1006,(401,0,none))] rfl ?_
   ⟨[],0,0,by rw [hs];rfl,rfl,Nat.le_refl _,by omega,False,⟨fun h=>h.elim,fun h=>h.2 rfl⟩,rfl,rfl⟩ rfl ?_ rfl ?_ rfl
  ·repeat' (first | (show zA _;first | exact trivial | refine zA.app ?_ ?_ | refine zA.zd ?_ ?_ | refine zA.cons ?_ ?_) | exact fd | fail)
   all_goals exact ⟨rfl,rfl,trivial⟩
  ·exact fc
  ·repeat' (first | (show zA _;first | exact trivial | refine zA.app ?_ ?_ | refine zA.zd ?_ ?_ | refine zA.cons ?_ ?_) | exact fd | fail)
   all_goals exact fun h=>h
  ·exact fc
 ·dsimp only [zt,zM,zE,ren,zz,zx,zy,look,zG,zX,ev,evL,zV,zcT,zcF,act,zP,zO,Ent.zW]
  repeat (refine sd ?_)
  repeat (first | (refine zB.intro (fun _=>?_) (fun hn=>absurd rfl hn)) | (refine ky0 ?_) | (refine kn0 ?_) | (refine sd ?_))
  have hp:(m:Int) > 0 ↔ (spl b = some L/\L ≠ []):=by
   constructor
   ·intro h
    exact ⟨hs,fun e=>by rw [e] at hL;have hL:0 = m:=hL;omega⟩
   ·rintro ⟨_,h⟩
    have:L.length ≠ 0:=fun e=>h (List.length_eq_zero_iff.1 e)
    omega
  refine Ret.intro (.tup [.ptr 1005 0 none,.bool ((m:Int) > 0)]) [(1005,.mem true 0 [(1,.sl 1006 0 0 m c),(1,.i .i64 0)]),(1006,.mem true (zmE (c - m) 1) [(m * 1,.arr m 1 (rwF L))])] [(1005,(13,0,none)),(1006,(301,0,none))] rfl ?_
   ⟨L,m,c,by rw [hs];rfl,hL,hmc,hm64,_,hp,rfl,rfl⟩ rfl ?_ rfl ?_ rfl
  ·exact fc
  ·exact fc
  ·exact fc
end Go.Proofs.YtfnmgbillkiabaaGreat
