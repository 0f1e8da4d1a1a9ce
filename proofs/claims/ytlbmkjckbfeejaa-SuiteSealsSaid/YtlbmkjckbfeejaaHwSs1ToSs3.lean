/- What the functions of the program compute. No condition. -/
import Derived.Test.YtlbmkjckbfeejaaHwCbc2ToSha1
import Derived.Test.YtlbmkjckbfeejaaHwMac4ToMac5
import Derived.Test.YtlbmkjckbfeejaaHwLkToLk
import Derived.Test.YtlbmkjckbfeejaaHwCh4ToOf
set_option linter.unusedSimpArgs false
set_option linter.unusedVariables false
namespace Go.Proofs.Ytlbmkjckbfeejaa
open Go Go.Sx
@[irreducible] def sizS (n:Int):Int:=if n < 0 ∨ 1024 < n then 0 else n / 16 * 16 + 32
theorem sizS_bad {n:Int} (h:n < 0 ∨ 1024 < n):sizS n = 0:=by unfold sizS;exact if_pos h
theorem sizS_ok {n:Int} (h1:¬ n < 0) (h2:¬ 1024 < n):sizS n = n / 16 * 16 + 32:=by unfold sizS;exact if_neg (by omega)
set_option maxRecDepth 100000 in
theorem fn12 (n:Int):Sx.Fn Γ.P 12 [.i .i64 n] [] (fun v _=>v = .i .i64 (sizS n)):=by
 refine fn_of (Γ:=Γ) (fn:=Try.f12) rfl rfl rfl rfl ?_
 repeat (refine sd ?_)
 refine Branch.intro (fun h=>?_) (fun h=>?_)
 ·repeat (refine sd ?_)
  refine Ret.intro (.i .i64 (sizS n)) [] [] rfl trivial rfl rfl ?_ rfl trivial rfl
  exact sizS_bad (Or.inl h)
 have h:¬ n < 0:=h
 repeat (refine sd ?_)
 refine Branch.intro (fun h2=>?_) (fun h2=>?_)
 ·repeat (refine sd ?_)
  refine Ret.intro (.i .i64 (sizS n)) [] [] rfl trivial rfl rfl ?_ rfl trivial rfl
  exact sizS_bad (Or.inr h2)
 have h2:¬ n > 1024:=h2
 have e:=sizS_ok h (by omega)
 have e1:=sizeF_ok h (by omega)
 refine Call.pure (fn30 n) rfl fc ?_
 intro v hv
 subst hv
 rw [e1]
 repeat (refine sd ?_)
 refine Ret.intro (.i .i64 (sizS n)) [] [] rfl trivial rfl rfl ?_ rfl trivial rfl
 exact fc
set_option maxRecDepth 100000 in
theorem fn14 (n:Int):Sx.Fn Γ.P 14 [.i .i64 n] [] (fun v _=>v = .i .i64 (sizS n)):=by
 refine fn_of (Γ:=Γ) (fn:=Try.f14) rfl rfl rfl rfl ?_
 repeat (refine sd ?_)
 refine Branch.intro (fun h=>?_) (fun h=>?_)
 ·repeat (refine sd ?_)
  refine Ret.intro (.i .i64 (sizS n)) [] [] rfl trivial rfl rfl ?_ rfl trivial rfl
  exact sizS_bad (Or.inl h)
 have h:¬ n < 0:=h
 repeat (refine sd ?_)
 refine Branch.intro (fun h2=>?_) (fun h2=>?_)
 ·repeat (refine sd ?_)
  refine Ret.intro (.i .i64 (sizS n)) [] [] rfl trivial rfl rfl ?_ rfl trivial rfl
  exact sizS_bad (Or.inr h2)
 have h2:¬ n > 1024:=h2
 have e:=sizS_ok h (by omega)
 repeat (refine sd ?_)
 refine Ret.intro (.i .i64 (sizS n)) [] [] rfl trivial rfl rfl ?_ rfl trivial rfl
 exact fc
def sealB:List UInt8:=[UInt8.ofNat 115,UInt8.ofNat 101,UInt8.ofNat 97,UInt8.ofNat 108]
@[irreducible] def kyO (key:List UInt8):List UInt8:=hkO (hmac [] key) sealB 3
theorem kyO_length (key:List UInt8):(kyO key).length = 96:=by unfold kyO;rw [hkO_length]
@[irreducible] def kyA (key:List UInt8):List UInt8:=(kyO key).take 32
@[irreducible] def kyS (key:List UInt8):List UInt8:=((kyO key).drop 32).take 32
@[irreducible] def kyG (key:List UInt8):List UInt8:=((kyO key).drop 64).take 16
theorem kyA_length (key:List UInt8):(kyA key).length = 32:=by unfold kyA;rw [List.length_take,kyO_length];rfl
theorem kyS_length (key:List UInt8):(kyS key).length = 32:=by unfold kyS;rw [List.length_take,List.length_drop,kyO_length];rfl
theorem kyG_length (key:List UInt8):(kyG key).length = 16:=by unfold kyG;rw [List.length_take,List.length_drop,kyO_length];rfl
theorem kyA_eq (key:List UInt8):kyA key = (kyO key).take 32:=by unfold kyA;rfl
theorem kyS_eq (key:List UInt8):kyS key = ((kyO key).drop 32).take 32:=by unfold kyS;rfl
theorem kyG_eq (key:List UInt8):kyG key = ((kyO key).drop 64).take 16:=by unfold kyG;rfl
theorem cp_all {X r:List UInt8} {m:Nat} (h:X.length = m) (hr:r.length = m):X = List.take ((none:Option Nat).getD 0) r ++ List.take (min X.length m) X ++ List.drop ((none:Option Nat).getD 0 + min X.length m) r:=by
 rw [Option.getD_none,List.take_zero,List.nil_append,h,Nat.min_self,Nat.zero_add,List.drop_of_length_le (by omega),List.append_nil,List.take_of_length_le (by omega)]
set_option maxRecDepth 100000 in
theorem fn22 (key:List UInt8) (hk:key.length = 32):Sx.Fn Γ.P 22 [.a8 key] [] (fun v M=>v = .tup [.a8 (kyA key),.a8 (kyS key),.a8 (kyG key)]∧M = []):=by
 have hH:=fn39 [] key sealB 0 32 4 80 rfl hk rfl (by omega) (by omega) (by omega) (by omega)
 have eO:kyO key = hkO (hmac [] key) sealB ((80 + 31) / 32):=by unfold kyO;rfl
 have hl:=kyO_length key
 rw [← eO] at hH
 refine fn_of (Γ:=Γ) (fn:=Try.f22) rfl rfl rfl rfl ?_
 repeat (refine sd ?_)
 refine Call.name [(2001,[(0,.a8 [])]),(0,[]),(0,[]),(0,[])] rfl ?_ (CallP.intro hH [(1000,(2001,0,none)),(1001,(1,0,none)),(1002,(9,0,none)),(1004,(304,0,none))] rfl ?_ rfl ?_ rfl ?_)
 ·exact ⟨rfl,rfl,trivial⟩
 ·exact fc
 ·exact fc
 rintro v M' ⟨sp,rfl,rfl⟩
 dsimp only [putT,afterM,newEnt,ren,renA,renS,renL,look,getM,getT,ev,evL,ofVal,cond_true,cond_false,Nat.beq_eq,act,isPar,ownPar,Ent.isOwn]
 repeat (refine sd ?_)
 refine Draw.intro [[],[],[1],[0,1,2]] [0,1,2,3] (by kernel_rfl) ?_
 repeat (refine sd ?_)
 refine Draw.intro [[],[],[1],[0,1,2]] [0,1,2,3] (by kernel_rfl) ?_
 repeat (refine sd ?_)
 refine Draw.intro [[],[],[1],[0,1,2]] [0,1,2,3] (by kernel_rfl) ?_
 repeat (refine sd ?_)
 refine Ret.intro (.tup [.a8 (kyA key),.a8 (kyS key),.a8 (kyG key)]) [] [] rfl ?_ ⟨rfl,rfl⟩ rfl ?_ rfl ?_ rfl
 ·exact fc
 ·have lA:=kyA_length key
  have lS:=kyS_length key
  have lG:=kyG_length key
  rw [kyA_eq] at lA ⊢
  rw [kyS_eq] at lS ⊢
  rw [kyG_eq] at lG ⊢
  repeat' (first | (show AllP _;first | exact trivial | refine AllP.app ?_ ?_ | refine AllP.appd ?_ ?_ | refine AllP.cons ?_ ?_) | with_reducible rfl | with_reducible assumption | omega | (simp only [rng,Ix.val,addQ_eq,addI,sz3,by3,sz5,by5,sz22,by22,sz23,by23,sz42,by42,sz51,by51] <;> omega) | (simp only [rng,Ix.val,Int.toNat_natCast,mulE_eq,addQ_eq,addI,Option.getD_none,Option.getD_some,List.length_take,List.length_drop,List.length_append,List.length_set,List.length_replicate,sz3,by3,sz5,by5,sz22,by22,sz23,by23,sz42,by42,sz51,by51, *] <;> omega) | (simp only [Ix.val];with_reducible assumption) | exact UInt8.toNat_lt _ | (apply Eq.trans;(with_reducible assumption);exact rfl) | exact rfl | exact fun _ _=>rfl)
  ·exact cp_all lA rfl
  ·exact cp_all lS rfl
  ·exact cp_all lG rfl
 ·exact fc
end Go.Proofs.Ytlbmkjckbfeejaa
namespace Go.Proofs.Ytlbmkjckbfeejaa
open Go Go.Sx
@[irreducible] def seB (key plain:List UInt8):List UInt8:=cbcLock (kyA key) (kyG key) plain ++ (hmac (kyS key) (cbcLock (kyA key) (kyG key) plain)).take 16
@[irreducible] def seS (key plain:List UInt8):List UInt8:=if plain.length ≤ 1024 then seB key plain else []
theorem seS_ok {key plain:List UInt8} (h:plain.length ≤ 1024):seS key plain = seB key plain:=by unfold seS;exact if_pos h
theorem seS_bad {key plain:List UInt8} (h:¬ plain.length ≤ 1024):seS key plain = []:=by unfold seS;exact if_neg h
theorem seB_eq (key plain:List UInt8):seB key plain = cbcLock (kyA key) (kyG key) plain ++ (hmac (kyS key) (cbcLock (kyA key) (kyG key) plain)).take 16:=by unfold seB;rfl
theorem cbcLock_len {key bg plain:List UInt8} {n:Nat} (hb:bg.length = 16) (hn:plain.length = n):(cbcLock key bg plain).length = n / 16 * 16 + 16:=by
 rw [cbcLock_length key hb,hn];omega
theorem seB_length {key plain:List UInt8} {n:Nat} (hn:plain.length = n):(seB key plain).length = n / 16 * 16 + 32:=by
 rw [seB_eq,List.length_append,cbcLock_len (kyG_length key) hn,List.length_take,hmac_length];omega
set_option maxRecDepth 100000 in
set_option maxHeartbeats 1000000 in
theorem fnSealR (key plain:List UInt8) (n:Nat) (hk:key.length = 32) (hn:plain.length = n) :
  Sx.Fn Γ.P 8 [.agg [(1,.nilp)],.a8 key,.slx 1003 0 0 n] [(1003,.mem false 0 [(n,.a8 plain)])]
  (fun v M=>∃ m c,(seS key plain).length = m∧m ≤ c∧v = .tup [.sl 1006 0 0 m c,.bool (n ≤ 1024)]∧M = [(1003,.mem false 0 [(n,.a8 plain)]),(1006,.mem true (c - m) [(m,.a8 (seS key plain))])]):=by
 refine fn_of (Γ:=Γ) (fn:=Try.f8) rfl rfl rfl rfl ?_
 repeat (refine sd ?_)
 refine Branch.intro (fun hc=>?_) (fun hc=>?_)
 ·have hc:(n:Int) > 1024:=hc
  have e:seS key plain = []:=seS_bad (by omega)
  repeat (refine sd ?_)
  refine Ret.ghost [.own 450 [(0,.a8 [])]] [(6,450)] rfl ⟨rfl,rfl,trivial⟩ rfl (.tup [.sl 1006 0 0 0 0,.bool (n ≤ 1024)]) [(1003,.mem false 0 [(n,.a8 plain)]),(1006,.mem true (0 - 0) [(0,.a8 (seS key plain))])] [(1006,(450,0,none))] rfl ?_ ⟨0,0,by rw [e];rfl,Nat.le_refl _,rfl,rfl⟩ rfl ?_ rfl ?_ rfl
  ·exact fc
  ·exact fc
  ·exact fc
 have hc:¬ (n:Int) > 1024:=hc
 have e:=seS_ok (key:=key) (show plain.length ≤ 1024 by omega)
 have hkl:=kyA_length key
 have hgl:=kyG_length key
 have hsl:=kyS_length key
 have hL:=fn23 (kyA key) (kyG key) plain n hkl hgl hn (by omega)
 obtain ⟨X,hX⟩:∃ X,cbcLock (kyA key) (kyG key) plain = X:=⟨_,rfl⟩
 obtain ⟨N,hN⟩:∃ N,n / 16 * 16 + 16 = N:=⟨_,rfl⟩
 have hXl:X.length = N:=by rw [← hX,← hN,cbcLock_len hgl hn]
 have eB:seS key plain = X ++ (hmac (kyS key) X).take 16:=by rw [e,seB_eq,hX]
 rw [hX,hN] at hL
 have hml:=hmac_length (kyS key) X
 repeat (refine sd ?_)
 refine Branch.intro (fun hn=>absurd trivial hn) (fun _=>?_)
 repeat (refine sd ?_)
 refine Call.intro (fn22 key hk) [] rfl fc rfl trivial rfl ?_
 rintro v M' ⟨rfl,rfl⟩
 dsimp only [putT,afterM,newEnt,ren,renA,renS,renL,look,getM,getT,ev,evL,ofVal,cond_true,cond_false,Nat.beq_eq,act,isPar,ownPar,Ent.isOwn]
 repeat (refine sd ?_)
 refine Call.intro hL [(1000,(1003,0,none)),(1001,(301,0,none))] rfl fc rfl fc rfl ?_
 rintro v M' ⟨c,hcc,rfl,rfl⟩
 dsimp only [putT,afterM,newEnt,ren,renA,renS,renL,look,getM,getT,ev,evL,ofVal,cond_true,cond_false,Nat.beq_eq,act,isPar,ownPar,Ent.isOwn]
 repeat (refine sd ?_)
 refine Call.intro (fn24 (kyS key) X 32 N hsl hXl (by omega) (by omega)) [(1000,(12,0,none)),(1001,(301,0,none))] rfl fc rfl fc rfl ?_
 rintro v M' ⟨rfl,rfl⟩
 dsimp only [putT,afterM,newEnt,ren,renA,renS,renL,look,getM,getT,ev,evL,ofVal,cond_true,cond_false,Nat.beq_eq,act,isPar,ownPar,Ent.isOwn]
 repeat (refine sd ?_)
 refine fun c2 hc2=>?_
 have hc2:N + 16 ≤ c2:=hc2
 repeat (refine sd ?_)
 refine Ret.intro (.tup [.sl 1006 0 0 (N + 16) c2,.bool (n ≤ 1024)]) [(1003,.mem false 0 [(n,.a8 plain)]),(1006,.mem true (c2 - (N + 16)) [(N + 16,.a8 (seS key plain))])] [(1006,(56,0,none))] rfl ?_ ⟨N + 16,c2,by rw [eB,List.length_append,hXl,List.length_take,hml];rfl,hc2,rfl,rfl⟩ rfl ?_ rfl ?_ rfl
 ·exact fc
 ·exact fc
 ·rw [eB]
  exact fc
end Go.Proofs.Ytlbmkjckbfeejaa
namespace Go.Proofs.Ytlbmkjckbfeejaa
open Go Go.Sx
theorem eq_app {A B X:List UInt8} {n:Nat} (h:X = A ++ B) (hA:A.length = n):X.take n = A∧X.drop n = B:=by
 subst h;subst hA;exact ⟨List.take_left' rfl,List.drop_left' rfl⟩
set_option maxRecDepth 100000 in
set_option maxHeartbeats 1000000 in
theorem fnOpenR (key plain:List UInt8) (n m:Nat) (hk:key.length = 32) (hn:plain.length = n) (hn1:n ≤ 1024) (hm:n / 16 * 16 + 32 = m) :
  Sx.Fn Γ.P 13 [.agg [(1,.nilp)],.a8 key,.slx 1003 0 0 m] [(1003,.mem false 0 [(m,.a8 (seB key plain))])]
  (fun v M=>∃ n0 U sp,U.take n = plain∧n ≤ n0∧U.length = n0∧v = .tup [.sl 1006 0 0 n n,.tt]∧M = [(1003,.mem false 0 [(m,.a8 (seB key plain))]),(1006,.mem true sp [(n0,.a8 U)])]):=by
 have hkl:=kyA_length key
 have hgl:=kyG_length key
 have hsl:=kyS_length key
 obtain ⟨N,hN⟩:∃ N,n / 16 * 16 + 16 = N:=⟨_,rfl⟩
 have hNm:N + 16 = m:=by omega
 have hBl:=seB_length (key:=key) hn
 have hX:=seB_eq key plain
 have hXl:=cbcLock_len (key:=kyA key) (plain:=plain) hgl hn
 have hb:=cbc_back hkl hgl plain
 obtain ⟨X,hXe⟩:∃ X,cbcLock (kyA key) (kyG key) plain = X:=⟨_,rfl⟩
 rw [hXe] at hX hXl hb
 rw [hN] at hXl
 rw [hm] at hBl
 obtain ⟨S,hS⟩:∃ S,seB key plain = S:=⟨_,rfl⟩
 rw [hS] at hX hBl ⊢
 obtain ⟨hT,hD⟩:=eq_app hX hXl
 have hml:=hmac_length (kyS key) X
 have hU:=fn33 (kyA key) (kyG key) X N hkl hgl hXl (by omega)
 unfold unPost at hU
 rw [hb] at hU
 have hM:=fn24 (kyS key) X 32 N hsl hXl (by omega) (by omega)
 have hSz:=fn12 1024
 rw [sizS_ok (by omega) (by omega),show (1024:Int) / 16 * 16 + 32 = 1056 by rfl] at hSz
 have hSa:=fn32 ((hmac (kyS key) X).take 16) ((hmac (kyS key) X).take 16) 16 16 (by rw [List.length_take,hml];rfl) (by rw [List.length_take,hml];rfl) (by omega)
 refine fn_of (Γ:=Γ) (fn:=Try.f13) rfl rfl rfl rfl ?_
 repeat (refine sd ?_)
 refine Branch.intro (fun hc=>?_) (fun _=>?_)
 ·have hc:(m:Int) < 32:=hc
  exact absurd hc (by omega)
 repeat (refine sd ?_)
 refine Call.pure hSz rfl fc ?_
 intro v hv
 subst hv
 repeat (refine sd ?_)
 refine Branch.intro (fun hc=>?_) (fun _=>?_)
 ·have hc:(m:Int) > 1056:=hc
  exact absurd hc (by omega)
 repeat (refine sd ?_)
 refine Branch.intro (fun hn=>absurd trivial hn) (fun _=>?_)
 repeat (refine sd ?_)
 refine Call.intro (fn22 key hk) [] rfl fc rfl trivial rfl ?_
 rintro v M' ⟨rfl,rfl⟩
 dsimp only [putT,afterM,newEnt,ren,renA,renS,renL,look,getM,getT,ev,evL,ofVal,cond_true,cond_false,Nat.beq_eq,act,isPar,ownPar,Ent.isOwn]
 repeat (refine sd ?_)
 refine Draw.intro [[],[],[1],[1,2],[],[4],[4,5],[0,1,2,3,4,5,6],[],[],[9],[9,10],[8,9,10,11],[0,1,2,3,4,5,6,7],[0,1,2,3,4,5,6,7,8,9,10,11,12,13]] [0,1,2,3,4,5,6,7,8,9,10,11,12,13,14] (by kernel_rfl) ?_
 repeat (refine sd ?_)
 have eT:X = List.take N (List.drop 0 S):=by rw [List.drop_zero,hT]
 have eQ:(hmac (kyS key) X).take 16 = List.take 16 (List.drop 0 (hmac (kyS key) X)):=by rw [List.drop_zero]
 have eD:(hmac (kyS key) X).take 16 = List.take 16 (List.drop N S):=by
  rw [hD];rw [List.take_of_length_le (l:=(hmac (kyS key) X).take 16)];rw [List.length_take,hml];exact Nat.le_refl _
 refine Call.intro hM [(1000,(15,0,none)),(1001,(1003,0,some 0))] rfl fc rfl ?_ rfl ?_
 ·exact fc
 rintro v M' ⟨rfl,rfl⟩
 dsimp only [putT,afterM,newEnt,ren,renA,renS,renL,look,getM,getT,ev,evL,ofVal,cond_true,cond_false,Nat.beq_eq,act,isPar,ownPar,Ent.isOwn]
 repeat (refine sd ?_)
 refine Call.intro hSa [(1000,(19,0,some 0)),(1001,(1003,0,some N))] rfl ?_ rfl ?_ rfl ?_
 ·exact fc
 ·exact fc
 rintro v M' ⟨rfl,rfl⟩
 dsimp only [putT,afterM,newEnt,ren,renA,renS,renL,look,getM,getT,ev,evL,ofVal,cond_true,cond_false,Nat.beq_eq,act,isPar,ownPar,Ent.isOwn]
 repeat (refine sd ?_)
 refine Branch.intro (fun hc=>absurd rfl hc) (fun _=>?_)
 repeat (refine sd ?_)
 refine Call.intro hU [(1000,(1003,0,some 0)),(1001,(301,0,none))] rfl ?_ rfl ?_ rfl ?_
 ·exact fc
 ·exact fc
 rintro v M' (⟨hc,_⟩ | ⟨n1,s,sp,h1,h2,h3,h4,h5,rfl,rfl⟩)
 ·cases hc
 cases h1
 rw [hn] at h2
 subst h2
 dsimp only [putT,afterM,newEnt,ren,renA,renS,renL,look,getM,getT,ev,evL,ofVal,cond_true,cond_false,Nat.beq_eq,act,isPar,ownPar,Ent.isOwn]
 repeat (refine sd ?_)
 refine Ret.intro (.tup [.sl 1006 0 0 n n,.tt]) [(1003,.mem false 0 [(m,.a8 S)]),(1006,.mem true sp [(N,.a8 (unOut (kyA key) (kyG key) X))])] [(1006,(301,0,none))] rfl ?_ ⟨N,_,sp,h3,h4,h5,rfl,rfl⟩ rfl ?_ rfl ?_ rfl
 ·exact fc
 ·exact fc
 ·exact fc
set_option maxRecDepth 100000 in
set_option maxHeartbeats 1000000 in
theorem fnRSealR (key plain:List UInt8) (n:Nat) (hk:key.length = 32) (hn:plain.length = n) :
  Sx.Fn Γ.P 10 [.agg [(1,.nilp)],.a8 key,.slx 1003 0 0 n] [(1003,.mem false 0 [(n,.a8 plain)])]
  (fun v M=>∃ m c,(seS key plain).length = m∧m ≤ c∧v = .tup [.sl 1006 0 0 m c,.bool (n ≤ 1024)]∧M = [(1003,.mem false 0 [(n,.a8 plain)]),(1006,.mem true (c - m) [(m,.a8 (seS key plain))])]):=by
 refine fn_of (Γ:=Γ) (fn:=Try.f10) rfl rfl rfl rfl ?_
 repeat (refine sd ?_)
 refine Branch.intro (fun hc=>?_) (fun hc=>?_)
 ·have hc:(n:Int) > 1024:=hc
  have e:seS key plain = []:=seS_bad (by omega)
  repeat (refine sd ?_)
  refine Ret.ghost [.own 450 [(0,.a8 [])]] [(6,450)] rfl ⟨rfl,rfl,trivial⟩ rfl (.tup [.sl 1006 0 0 0 0,.bool (n ≤ 1024)]) [(1003,.mem false 0 [(n,.a8 plain)]),(1006,.mem true (0 - 0) [(0,.a8 (seS key plain))])] [(1006,(450,0,none))] rfl ?_ ⟨0,0,by rw [e];rfl,Nat.le_refl _,rfl,rfl⟩ rfl ?_ rfl ?_ rfl
  ·exact fc
  ·exact fc
  ·exact fc
 have hc:¬ (n:Int) > 1024:=hc
 have e:=seS_ok (key:=key) (show plain.length ≤ 1024 by omega)
 have hkl:=kyA_length key
 have hgl:=kyG_length key
 have hsl:=kyS_length key
 have hL:=fn28 (kyA key) (kyG key) plain n hkl hgl hn (by omega)
 obtain ⟨X,hX⟩:∃ X,cbcLock (kyA key) (kyG key) plain = X:=⟨_,rfl⟩
 obtain ⟨N,hN⟩:∃ N,n / 16 * 16 + 16 = N:=⟨_,rfl⟩
 have hXl:X.length = N:=by rw [← hX,← hN,cbcLock_len hgl hn]
 have eB:seS key plain = X ++ (hmac (kyS key) X).take 16:=by rw [e,seB_eq,hX]
 rw [hX,hN] at hL
 have hml:=hmac_length (kyS key) X
 have hH:=fn27 [] key sealB 0 32 4 80 rfl hk rfl (by omega) (by omega) (by omega) (by omega)
 have eO:kyO key = hkO (hmac [] key) sealB ((80 + 31) / 32):=by unfold kyO;rfl
 have hl:=kyO_length key
 rw [← eO] at hH
 have hM:=fn29 (kyS key) X 32 N hsl hXl (by omega) (by omega)
 repeat (refine sd ?_)
 refine Branch.intro (fun hn=>absurd trivial hn) (fun _=>?_)
 repeat (refine sd ?_)
 refine Call.name [(2001,[(0,.a8 [])]),(0,[]),(0,[]),(0,[])] rfl ?_ (CallP.intro hH [(1000,(2001,0,none)),(1001,(4,0,none)),(1002,(44,0,none)),(1004,(304,0,none))] rfl ?_ rfl ?_ rfl ?_)
 ·exact ⟨rfl,rfl,trivial⟩
 ·exact fc
 ·exact fc
 rintro v M' ⟨sp,cc,hcc,rfl,rfl⟩
 dsimp only [putT,afterM,newEnt,ren,renA,renS,renL,look,getM,getT,ev,evL,ofVal,cond_true,cond_false,Nat.beq_eq,act,isPar,ownPar,Ent.isOwn]
 repeat (refine sd ?_)
 refine Draw.intro [[],[],[1],[0,1,2]] [0,1,2,3] (by kernel_rfl) ?_
 repeat (refine sd ?_)
 refine Draw.intro [[],[],[1],[0,1,2]] [0,1,2,3] (by kernel_rfl) ?_
 repeat (refine sd ?_)
 have eS:kyS key = List.take 32 (List.drop 32 (kyO key)):=kyS_eq key
 refine Call.intro hL [(1000,(1003,0,none)),(1001,(301,0,none))] rfl ?_ rfl ?_ rfl ?_
 ·repeat' (first | (show AllP _;first | exact trivial | refine AllP.app ?_ ?_ | refine AllP.appd ?_ ?_ | refine AllP.cons ?_ ?_) | with_reducible rfl | with_reducible assumption | omega | (simp only [rng,Ix.val,addQ_eq,addI,sz3,by3,sz5,by5,sz22,by22,sz23,by23,sz25,by25,sz26,by26,sz27,by27,sz31,by31,sz32,by32,sz33,by33,sz40,by40,sz42,by42,sz51,by51,sz68,by68,sz75,by75,sz79,by79,sz80,by80,sz86,by86,sz91,by91,sz92,by92,sz102,by102,sz111,by111] <;> omega) | (simp only [rng,Ix.val,Int.toNat_natCast,mulE_eq,addQ_eq,addI,Option.getD_none,Option.getD_some,List.length_take,List.length_drop,List.length_append,List.length_set,List.length_replicate,sz3,by3,sz5,by5,sz22,by22,sz23,by23,sz25,by25,sz26,by26,sz27,by27,sz31,by31,sz32,by32,sz33,by33,sz40,by40,sz42,by42,sz51,by51,sz68,by68,sz75,by75,sz79,by79,sz80,by80,sz86,by86,sz91,by91,sz92,by92,sz102,by102,sz111,by111, *] <;> omega) | (simp only [Ix.val];with_reducible assumption) | exact UInt8.toNat_lt _ | (apply Eq.trans;(with_reducible assumption);exact rfl) | exact rfl | exact fun _ _=>rfl)
  ·rw [kyA_eq];exact cp_all (by rw [← kyA_eq];exact hkl) rfl
  ·rw [kyG_eq];exact cp_all (by rw [← kyG_eq];exact hgl) rfl
 ·exact fc
 rintro v M' ⟨c,hcc,rfl,rfl⟩
 dsimp only [putT,afterM,newEnt,ren,renA,renS,renL,look,getM,getT,ev,evL,ofVal,cond_true,cond_false,Nat.beq_eq,act,isPar,ownPar,Ent.isOwn]
 repeat (refine sd ?_)
 refine Call.intro hM [(1000,(304,0,some 32)),(1001,(301,0,none))] rfl ?_ rfl ?_ rfl ?_
 ·exact fc
 ·exact fc
 rintro v M' ⟨rfl,rfl⟩
 dsimp only [putT,afterM,newEnt,ren,renA,renS,renL,look,getM,getT,ev,evL,ofVal,cond_true,cond_false,Nat.beq_eq,act,isPar,ownPar,Ent.isOwn]
 repeat (refine sd ?_)
 refine fun c2 hc2=>?_
 have hc2:N + 16 ≤ c2:=hc2
 repeat (refine sd ?_)
 refine Ret.intro (.tup [.sl 1006 0 0 (N + 16) c2,.bool (n ≤ 1024)]) [(1003,.mem false 0 [(n,.a8 plain)]),(1006,.mem true (c2 - (N + 16)) [(N + 16,.a8 (seS key plain))])] [(1006,(67,0,none))] rfl ?_ ⟨N + 16,c2,by rw [eB,List.length_append,hXl,List.length_take,hml];rfl,hc2,rfl,rfl⟩ rfl ?_ rfl ?_ rfl
 ·exact fc
 ·exact fc
 ·rw [eB]
  exact fc
end Go.Proofs.Ytlbmkjckbfeejaa
