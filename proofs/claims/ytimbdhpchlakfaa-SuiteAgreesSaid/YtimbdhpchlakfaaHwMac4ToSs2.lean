/- What the functions of the program compute. No condition. -/
import Derived.Test.YtimbdhpchlakfaaHwSha9ToMac3
import Derived.Test.YtimbdhpchlakfaaHwAes11ToCbc1
import Derived.Test.YtimbdhpchlakfaaHwAes7ToAes10
import Derived.Test.YtimbdhpchlakfaaHwCbc2ToSha1
import Derived.Test.YtimbdhpchlakfaaHwTm10ToTb
import Derived.Test.YtimbdhpchlakfaaHwCbcSToTm2
import Derived.Test.YtimbdhpchlakfaaHwOfToSs4
set_option linter.unusedSimpArgs false
set_option linter.unusedVariables false
namespace Go.Proofs.Ytimbdhpchlakfaa
open Go Go.Sx
def hkT (p info:List UInt8):Nat→List UInt8
 | 0=>[]
 | k + 1=>hmac p (hkT p info k ++ info ++ [UInt8.ofNat (k + 1)])
def hkO (p info:List UInt8):Nat→List UInt8
 | 0=>[]
 | k + 1=>hkO p info k ++ hkT p info (k + 1)
theorem hkT_length (p info:List UInt8):∀ k,(hkT p info (k + 1)).length = 32:=fun k=>hmac_length _ _
theorem hkT_le (p info:List UInt8):∀ k,(hkT p info k).length ≤ 32
 | 0=>by simp [hkT]
 | k + 1=>by rw [hkT_length];omega
theorem hkO_length (p info:List UInt8):∀ k,(hkO p info k).length = 32 * k
 | 0=>rfl
 | k + 1=>by simp only [hkO,List.length_append,hkO_length p info k,hkT_length];omega
theorem ofNat_succ8 (k:Nat):UInt8.ofNat (k + 1) + UInt8.ofNat 1 = UInt8.ofNat (k + 1 + 1):=(UInt8.ofNat_add _ _).symm
set_option maxRecDepth 100000 in
set_option maxHeartbeats 1000000 in
theorem fn36 (salt from_ info:List UInt8) (a b c n:Nat) (ha:salt.length = a) (hb:from_.length = b) (hc:info.length = c) (la:a ≤ 1000000) (lb:b ≤ 1000000) (lc:c ≤ 1000000) (hn:n ≤ 8160) :
  Sx.Fn Γ.P 36 [.slx 1000 0 0 a,.slx 1001 0 0 b,.slx 1002 0 0 c,.i .i64 n] [(1000,.mem false 0 [(a,.a8 salt)]),(1001,.mem false 0 [(b,.a8 from_)]),(1002,.mem false 0 [(c,.a8 info)])]
   (fun v M=>∃ sp,v = .tup [.sl 1004 0 0 n n,.tt]∧M = [(1000,.mem false 0 [(a,.a8 salt)]),(1001,.mem false 0 [(b,.a8 from_)]),(1002,.mem false 0 [(c,.a8 info)]),
    (1004,.mem true sp [(32 * ((n + 31) / 32),.a8 (hkO (hmac salt from_) info ((n + 31) / 32)))])]):=by
 have hP:=fn22 salt from_ a b ha hb (by omega) (by omega)
 have hpl:=hmac_length salt from_
 generalize hmac salt from_ = p at hP hpl
 refine fn_of (Γ:=Γ) (fn:=Try.f36) rfl rfl rfl rfl ?_
 refine Branch.intro (fun h=>absurd h (by omega)) (fun _=>?_)
 refine Branch.intro (fun h=>absurd h (by omega)) (fun _=>?_)
 refine Call.intro hP [(1000,(1000,0,none)),(1001,(1001,0,none))] rfl fc rfl fc rfl ?_
 rintro v M' ⟨rfl,rfl⟩
 repeat (refine sd ?_)
 refine Loop.intro (σ:=Nat × Nat) (fun s=>s.1 ≤ (n + 31) / 32∧32 * s.1 ≤ s.2)
  (fun s=>([(2,.slx 1002 0 0 c),(3,.i .i64 n),(10,.ptr 10 0 none),(11,.sl 204 0 0 (32 * s.1) s.2),(12,.sl 203 0 0 (hkT p info s.1).length (hkT p info s.1).length),(13,.u8 (UInt8.ofNat (s.1 + 1)))],
   [(1000,.mem false 0 [(a,.a8 salt)]),(1001,.mem false 0 [(b,.a8 from_)]),(1002,.mem false 0 [(c,.a8 info)]),(10,.mem true 0 [(32,.a8 p)]),
    (203,.mem true 0 [((hkT p info s.1).length,.a8 (hkT p info s.1))]),(204,.mem true (s.2 - 32 * s.1) [(32 * s.1,.a8 (hkO p info s.1))])])) (fun s=>(n + 31) / 32 - s.1) (0,n + 32) ⟨Nat.zero_le _,Nat.zero_le _⟩ ?_ ?_
 ·refine Le.ghost [.own 203 [(0,.a8 [])]] [(12,203)] [(204,(27,0,none))] rfl ⟨rfl,rfl,trivial⟩ rfl rfl ?_ rfl ?_ rfl
  ·exact fc
  ·exact fc
 rintro ⟨k,cc⟩ ⟨hk,hcc⟩
 have hk:k ≤ (n + 31) / 32:=hk
 have hcc:32 * k ≤ cc:=hcc
 have htl:=hkT_le p info k
 have hol:=hkO_length p info k
 refine Branch.intro (fun hq=>?_) (fun hq=>?_)
 ·have hq:((32 * k:Nat):Int) < n:=hq
  have hs1:hkT p info (k + 1) = hmac p (hkT p info k ++ info ++ [UInt8.ofNat (k + 1)]):=rfl
  have hs2:hkO p info (k + 1) = hkO p info k ++ hkT p info (k + 1):=rfl
  have htl1:=hkT_length p info k
  have hi8:=ofNat_succ8 k
  have hHt:=fn22 p (hkT p info k ++ info ++ [UInt8.ofNat (k + 1)]) 32 ((hkT p info k).length + c + 1) hpl (by rw [List.length_append,List.length_append,hc];rfl) (by omega) (by omega)
  rw [← hs1] at hHt
  generalize hT1:hkT p info (k + 1) = T1 at *
  generalize hTl:(hkT p info k).length = tl at *
  generalize hkT p info k = T0 at *
  generalize hX:T0 ++ info ++ [UInt8.ofNat (k + 1)] = X at hHt
  have hX2:X = [] ++ List.take tl (List.drop 0 T0) ++ List.take c (List.drop 0 info) ++ List.take 1 (List.drop 0 [UInt8.ofNat (k + 1)]):=by
   rw [List.drop_zero,List.drop_zero,List.drop_zero,List.take_of_length_le (by omega),List.take_of_length_le (by omega),List.nil_append,← hX];rfl
  clear hs1 hX
  repeat (refine sd ?_)
  refine fun c1 hc1=>?_
  refine fun c2 hc2=>?_
  refine fun c3 hc3=>?_
  have hc3:tl + c + 1 ≤ c3:=by have:0 + tl + c + 1 ≤ c3:=hc3;omega
  repeat (refine sd ?_)
  refine Call.intro hHt [(1000,(10,0,none)),(1001,(41,0,none))] rfl ?_ rfl ?_ rfl ?_
  ·exact fc
  ·repeat' (first | (show AllP _;first | exact trivial | refine AllP.app ?_ ?_ | refine AllP.appd ?_ ?_ | refine AllP.cons ?_ ?_) | exact fd | fail)
   all_goals exact hX2
  rintro v M' ⟨rfl,rfl⟩
  repeat (refine sd ?_)
  refine fun c4 hc4=>?_
  have hc4:32 * k + 32 ≤ c4:=hc4
  repeat (refine sd ?_)
  have hT2:List.take 32 T1 = T1:=List.take_of_length_le (by omega)
  refine ⟨(k + 1,c4),⟨by omega,by show 32 * (k + 1) ≤ c4;omega⟩,by show (n + 31) / 32 - (k + 1) < (n + 31) / 32 - k;omega,Le.intro [(203,(15,0,none)),(204,(48,0,none))] rfl ?_ rfl ?_ rfl⟩
  ·exact fc
  ·repeat' (first | (show AllP _;first | exact trivial | refine AllP.app ?_ ?_ | refine AllP.appd ?_ ?_ | refine AllP.cons ?_ ?_) | with_reducible rfl | with_reducible assumption | omega | (simp only [dropQ_eq,List.drop_zero,rng,Ix.val,addQ_eq,addI,szs] <;> omega) | (simp only [dropQ_eq,List.drop_zero,rng,Ix.val,Int.toNat_natCast,mulE_eq,addQ_eq,addI,Option.getD_none,Option.getD_some,List.length_take,List.length_drop,List.length_append,List.length_set,List.length_replicate,szs, *] <;> omega) | (simp only [Ix.val];with_reducible assumption) | exact UInt8.toNat_lt _ | (apply Eq.trans;(with_reducible assumption);exact rfl) | exact rfl | exact fun _ _=>rfl)
 ·have hq:¬ ((32 * k:Nat):Int) < n:=hq
  have hkk:k = (n + 31) / 32:=by omega
  subst hkk
  repeat (refine sd ?_)
  refine Ret.intro (.tup [.sl 1004 0 0 n n,.tt]) [(1000,.mem false 0 [(a,.a8 salt)]),(1001,.mem false 0 [(b,.a8 from_)]),(1002,.mem false 0 [(c,.a8 info)]),
    (1004,.mem true (cc - 32 * ((n + 31) / 32)) [(32 * ((n + 31) / 32),.a8 (hkO p info ((n + 31) / 32)))])] [(1004,(204,0,none))] rfl ?_ ⟨_,rfl,rfl⟩ rfl ?_ rfl ?_ rfl
  ·exact fc
  ·exact fc
  ·exact fc
end Go.Proofs.Ytimbdhpchlakfaa
namespace Go.Proofs.Ytimbdhpchlakfaa
open Go Go.Sx
def orS (a b:List UInt8):Nat→UInt8
 | 0=>0
 | i + 1=>orS a b i ||| (a.getD i 0 ^^^ b.getD i 0)
theorem or_zero8 {x y:UInt8}:x ||| y = 0 ↔ x = 0∧y = 0:=by
 constructor
 ·intro h
  have h1:(x ||| y).toNat = 0:=by rw [h];rfl
  rw [UInt8.toNat_or] at h1
  have h2:x.toNat = 0:=by
   have:x.toNat ≤ x.toNat ||| y.toNat:=Nat.left_le_or;omega
  have h3:y.toNat = 0:=by
   have:y.toNat ≤ x.toNat ||| y.toNat:=Nat.right_le_or;omega
  exact ⟨UInt8.toNat_inj.1 h2,UInt8.toNat_inj.1 h3⟩
 ·rintro ⟨rfl,rfl⟩;rfl
theorem xor_zero8 {x y:UInt8}:x ^^^ y = 0 ↔ x = y:=UInt8.xor_eq_zero_iff
theorem orS_zero (a b:List UInt8):∀ i,orS a b i = 0 ↔ ∀ j,j < i→a.getD j 0 = b.getD j 0
 | 0=>⟨fun _ j h=>absurd h (Nat.not_lt_zero _),fun _=>rfl⟩
 | i + 1=>by
  simp only [orS]
  rw [or_zero8,orS_zero a b i,xor_zero8]
  constructor
  ·rintro ⟨h1,h2⟩ j hj
   rcases Nat.lt_or_ge j i with h | h
   ·exact h1 j h
   ·obtain rfl:j = i:=by omega
    exact h2
  ·exact fun h=>⟨fun j hj=>h j (by omega),h i (by omega)⟩
theorem orS_eq {a b:List UInt8} {n:Nat} (ha:a.length = n) (hb:b.length = n):orS a b n = 0 ↔ a = b:=by
 rw [orS_zero]
 constructor
 ·intro h
  apply List.ext_getElem (by omega)
  intro i h1 h2
  have:=h i (by omega)
  rwa [List.getD_eq_getElem?_getD,List.getD_eq_getElem?_getD,List.getElem?_eq_getElem h1,List.getElem?_eq_getElem h2] at this
 ·intro h j _;rw [h]
set_option maxRecDepth 100000 in
theorem fn23 (a b:List UInt8) (n m:Nat) (ha:a.length = n) (hb:b.length = m) (hmax:n ≤ 9223372036854775807):Sx.Fn Γ.P 23 [.slx 1000 0 0 n,.slx 1001 0 0 m] [(1000,.mem false 0 [(n,.a8 a)]),(1001,.mem false 0 [(m,.a8 b)])]
  (fun v M=>v = .bool (a = b)∧M = [(1000,.mem false 0 [(n,.a8 a)]),(1001,.mem false 0 [(m,.a8 b)])]):=by
 refine fn_of (Γ:=Γ) (fn:=Try.f23) rfl rfl rfl rfl ?_
 refine Branch.intro (fun h=>?_) (fun h=>?_)
 ·have h:¬ (n:Int) = m:=h
  refine Ret.intro (.bool (a = b)) [(1000,.mem false 0 [(n,.a8 a)]),(1001,.mem false 0 [(m,.a8 b)])] [] rfl trivial ⟨rfl,rfl⟩ rfl ?_ rfl ?_ rfl
  ·show ¬ a = b
   intro e
   rw [e] at ha
   omega
  ·exact fc
 ·have h:¬ ¬ (n:Int) = m:=h
  obtain rfl:n = m:=by omega
  repeat (refine sd ?_)
  refine Loop.intro (σ:=Nat) (fun i=>i ≤ n)
   (fun i=>([(0,.slx 1000 0 0 n),(1,.slx 1001 0 0 n),(5,.u8 (orS a b i)),(13,.i .i64 n),(14,.i .i64 i)],[(1000,.mem false 0 [(n,.a8 a)]),(1001,.mem false 0 [(n,.a8 b)])])) (fun i=>n - i) 0 (Nat.zero_le _) ?_ ?_
  ·have hz:orS a b 0 = 0:=rfl
   refine Le.intro [] rfl ?_ rfl ?_ rfl
   ·exact fc
   ·exact fc
  rintro i hi
  refine Branch.intro (fun hc=>?_) (fun hc=>?_)
  ·have hc:(i:Int) < n:=hc
   have hs:orS a b (i + 1) = orS a b i ||| (a.getD i 0 ^^^ b.getD i 0):=rfl
   refine Draw.intro [[],[],[],[1,2],[1,2,3],[],[],[5,6],[5,6,7],[1,2,3,4,5,6,7,8],[0,1,2,3,4,5,6,7,8,9],[0,1,2,3,4,5,6,7,8,9,10]] [0,1,2,3,4,5,6,7,8,9,10,11] (by kernel_rfl) ?_
   repeat (refine sdn ?_)
   refine ⟨i + 1,by omega,by omega,Le.intro [] rfl ?_ rfl ?_ rfl⟩
   ·exact fcn
   ·exact fc
  ·obtain rfl:i = n:=by have hc:¬ (i:Int) < n:=hc;omega
   have he:=orS_eq ha hb
   repeat (refine sd ?_)
   refine Ret.intro (.bool (a = b)) [(1000,.mem false 0 [(i,.a8 a)]),(1001,.mem false 0 [(i,.a8 b)])] [] rfl trivial ⟨rfl,rfl⟩ rfl ?_ rfl ?_ rfl
   ·exact he.symm
   ·exact fc
end Go.Proofs.Ytimbdhpchlakfaa
namespace Go.Proofs.Ytimbdhpchlakfaa
open Go Go.Sx
def r1 (a b:Nat):Nat→Nat
 | 0=>0
 | i + 1=>if b / 2 ^ i &&& 1 = 1 then r1 a b i ^^^ a * 2 ^ i else r1 a b i
def r2 (p:Nat):Nat→Nat
 | 0=>p
 | k + 1=>if r2 p k / 2 ^ (14 - k) &&& 1 = 1 then r2 p k ^^^ 283 * 2 ^ (6 - k) else r2 p k
end Go.Proofs.Ytimbdhpchlakfaa
namespace Go.Proofs.Ytimbdhpchlakfaa
open Go Go.Sx
end Go.Proofs.Ytimbdhpchlakfaa
namespace Go.Proofs.Ytimbdhpchlakfaa
open Go Go.Sx
end Go.Proofs.Ytimbdhpchlakfaa
namespace Go.Proofs.Ytimbdhpchlakfaa
open Go Go.Sx
end Go.Proofs.Ytimbdhpchlakfaa
namespace Go.Proofs.Ytimbdhpchlakfaa
open Go Go.Sx
end Go.Proofs.Ytimbdhpchlakfaa
namespace Go.Proofs.Ytimbdhpchlakfaa
open Go Go.Sx
def W4 (l:List Nat):Prop:=∃ a b c d,l = [a,b,c,d]∧a < 256∧b < 256∧c < 256∧d < 256
theorem W4.lt {t:List Nat} (h:W4 t):∀ j,t.getD j 0 < 256:=by
 obtain ⟨a,b,c,d,rfl,h1,h2,h3,h4⟩:=h
 intro j
 match j with
 | 0=>exact h1
 | 1=>exact h2
 | 2=>exact h3
 | 3=>exact h4
 | _ + 4=>exact Nat.zero_lt_succ _
theorem W4.length {t:List Nat} (h:W4 t):t.length = 4:=by
 obtain ⟨a,b,c,d,rfl,_⟩:=h;rfl
end Go.Proofs.Ytimbdhpchlakfaa
namespace Go.Proofs.Ytimbdhpchlakfaa
open Go Go.Sx
def B16 (l:List Nat):Prop:=l.length = 16∧∀ j,l.getD j 0 < 256
theorem B16.zero:B16 (List.replicate 16 0):=⟨rfl,fun j=>by
 rw [List.getD_eq_getElem?_getD,List.getElem?_replicate];split <;> exact Nat.zero_lt_succ _⟩
theorem B16.set {l:List Nat} (h:B16 l) (i:Nat) {x:Nat} (hx:x < 256):B16 (l.set i x):=⟨by rw [List.length_set];exact h.1,fun j=>by
 rw [List.getD_eq_getElem?_getD,List.getElem?_set]
 split
 ·split
  ·exact hx
  ·exact Nat.zero_lt_succ _
 ·rw [← List.getD_eq_getElem?_getD];exact h.2 j⟩
structure OkW (W:List (List Nat)):Prop where
 ok:∀ q,q < 60→W4 (W.getD q [])
theorem OkW.lt {W:List (List Nat)} (h:OkW W) {q:Nat} (hq:q < 60) (j:Nat):(W.getD q []).getD j 0 < 256:=(h.ok q hq).lt j
end Go.Proofs.Ytimbdhpchlakfaa
namespace Go.Proofs.Ytimbdhpchlakfaa
open Go Go.Sx
end Go.Proofs.Ytimbdhpchlakfaa
namespace Go.Proofs.Ytimbdhpchlakfaa
open Go Go.Sx
def tr (b:List UInt8):List Nat:=[(b.getD 0 0).toNat,(b.getD 4 0).toNat,(b.getD 8 0).toNat,(b.getD 12 0).toNat,(b.getD 1 0).toNat,(b.getD 5 0).toNat,(b.getD 9 0).toNat,(b.getD 13 0).toNat,(b.getD 2 0).toNat,(b.getD 6 0).toNat,(b.getD 10 0).toNat,(b.getD 14 0).toNat,(b.getD 3 0).toNat,(b.getD 7 0).toNat,(b.getD 11 0).toNat,(b.getD 15 0).toNat]
end Go.Proofs.Ytimbdhpchlakfaa
namespace Go.Proofs.Ytimbdhpchlakfaa
open Go Go.Sx
end Go.Proofs.Ytimbdhpchlakfaa
namespace Go.Proofs.Ytimbdhpchlakfaa
open Go Go.Sx
end Go.Proofs.Ytimbdhpchlakfaa
namespace Go.Proofs.Ytimbdhpchlakfaa
open Go Go.Sx
end Go.Proofs.Ytimbdhpchlakfaa
namespace Go.Proofs.Ytimbdhpchlakfaa
open Go Go.Sx
end Go.Proofs.Ytimbdhpchlakfaa
namespace Go.Proofs.Ytimbdhpchlakfaa
open Go Go.Sx
end Go.Proofs.Ytimbdhpchlakfaa
namespace Go.Proofs.Ytimbdhpchlakfaa
open Go Go.Sx
end Go.Proofs.Ytimbdhpchlakfaa
namespace Go.Proofs.Ytimbdhpchlakfaa
open Go Go.Sx
def sealB:List UInt8:=[UInt8.ofNat 115,UInt8.ofNat 101,UInt8.ofNat 97,UInt8.ofNat 108]
@[irreducible] def kyO (key:List UInt8):List UInt8:=hkO (hmac [] key) sealB 3
theorem kyO_length (key:List UInt8):(kyO key).length = 96:=by unfold kyO;rw [hkO_length]
@[irreducible] def kyA (key:List UInt8):List UInt8:=(kyO key).take 32
@[irreducible] def kyS (key:List UInt8):List UInt8:=((kyO key).drop 32).take 32
@[irreducible] def kyG (key:List UInt8):List UInt8:=((kyO key).drop 64).take 16
theorem kyA_length (key:List UInt8):(kyA key).length = 32:=by unfold kyA;rw [List.length_take,kyO_length];rfl
theorem kyS_length (key:List UInt8):(kyS key).length = 32:=by unfold kyS;rw [List.length_take,List.length_drop,kyO_length];rfl
theorem kyG_length (key:List UInt8):(kyG key).length = 16:=by unfold kyG;rw [List.length_take,List.length_drop,kyO_length];rfl
theorem kyA_eq (key:List UInt8):kyA key = (kyO key).take 32:=by unfold kyA;rfl
theorem kyS_eq (key:List UInt8):kyS key = ((kyO key).drop 32).take 32:=by unfold kyS;rfl
theorem kyG_eq (key:List UInt8):kyG key = ((kyO key).drop 64).take 16:=by unfold kyG;rfl
theorem cp_all {X r:List UInt8} {m:Nat} (h:X.length = m) (hr:r.length = m):X = List.take ((none:Option Nat).getD 0) r ++ List.take (min X.length m) X ++ List.drop ((none:Option Nat).getD 0 + min X.length m) r:=by
 rw [Option.getD_none,List.take_zero,List.nil_append,h,Nat.min_self,Nat.zero_add,List.drop_of_length_le (by omega),List.append_nil,List.take_of_length_le (by omega)]
set_option maxRecDepth 100000 in
theorem fn20 (key:List UInt8) (hk:key.length = 32):Sx.Fn Γ.P 20 [.a8 key] [] (fun v M=>v = .tup [.a8 (kyA key),.a8 (kyS key),.a8 (kyG key)]∧M = []):=by
 have hH:=fn36 [] key sealB 0 32 4 80 rfl hk rfl (by omega) (by omega) (by omega) (by omega)
 have eO:kyO key = hkO (hmac [] key) sealB ((80 + 31) / 32):=by unfold kyO;rfl
 have hl:=kyO_length key
 rw [← eO] at hH
 refine fn_of (Γ:=Γ) (fn:=Try.f20) rfl rfl rfl rfl ?_
 repeat (refine sd ?_)
 refine Call.name [(2001,[(0,.a8 [])]),(0,[]),(0,[]),(0,[])] rfl ?_ (CallP.intro hH [(1000,(2001,0,none)),(1001,(1,0,none)),(1002,(9,0,none)),(1004,(304,0,none))] rfl ?_ rfl ?_ rfl ?_)
 ·exact ⟨rfl,rfl,trivial⟩
 ·exact fc
 ·exact fc
 rintro v M' ⟨sp,rfl,rfl⟩
 dsimp only [putT,afterM,newEnt,ren,renA,renS,renL,look,getM,getT,ev,evL,ofVal,cond_true,cond_false,Nat.beq_eq,act,isPar,ownPar,Ent.isOwn]
 repeat (refine sd ?_)
 refine Draw.intro [[],[],[1],[0,1,2]] [0,1,2,3] (by kernel_rfl) ?_
 repeat (refine sd ?_)
 refine Draw.intro [[],[],[1],[0,1,2]] [0,1,2,3] (by kernel_rfl) ?_
 repeat (refine sd ?_)
 refine Draw.intro [[],[],[1],[0,1,2]] [0,1,2,3] (by kernel_rfl) ?_
 repeat (refine sd ?_)
 refine Ret.intro (.tup [.a8 (kyA key),.a8 (kyS key),.a8 (kyG key)]) [] [] rfl ?_ ⟨rfl,rfl⟩ rfl ?_ rfl ?_ rfl
 ·exact fc
 ·have lA:=kyA_length key
  have lS:=kyS_length key
  have lG:=kyG_length key
  rw [kyA_eq] at lA ⊢
  rw [kyS_eq] at lS ⊢
  rw [kyG_eq] at lG ⊢
  repeat' (first | (show AllP _;first | exact trivial | refine AllP.app ?_ ?_ | refine AllP.appd ?_ ?_ | refine AllP.cons ?_ ?_) | exact fd | fail)
  ·exact cp_all lA rfl
  ·exact cp_all lS rfl
  ·exact cp_all lG rfl
 ·exact fc
end Go.Proofs.Ytimbdhpchlakfaa
namespace Go.Proofs.Ytimbdhpchlakfaa
open Go Go.Sx
@[irreducible] def seB (key plain:List UInt8):List UInt8:=cbcLock (kyA key) (kyG key) plain ++ (hmac (kyS key) (cbcLock (kyA key) (kyG key) plain)).take 16
@[irreducible] def seS (key plain:List UInt8):List UInt8:=if plain.length ≤ 1024 then seB key plain else []
theorem seS_ok {key plain:List UInt8} (h:plain.length ≤ 1024):seS key plain = seB key plain:=by unfold seS;exact if_pos h
theorem seS_bad {key plain:List UInt8} (h:¬ plain.length ≤ 1024):seS key plain = []:=by unfold seS;exact if_neg h
theorem seB_eq (key plain:List UInt8):seB key plain = cbcLock (kyA key) (kyG key) plain ++ (hmac (kyS key) (cbcLock (kyA key) (kyG key) plain)).take 16:=by unfold seB;rfl
theorem cbcLock_len {key bg plain:List UInt8} {n:Nat} (hb:bg.length = 16) (hn:plain.length = n):(cbcLock key bg plain).length = n / 16 * 16 + 16:=by
 rw [cbcLock_length key hb,hn];omega
theorem seB_length {key plain:List UInt8} {n:Nat} (hn:plain.length = n):(seB key plain).length = n / 16 * 16 + 32:=by
 rw [seB_eq,List.length_append,cbcLock_len (kyG_length key) hn,List.length_take,hmac_length];omega
set_option maxRecDepth 100000 in
set_option maxHeartbeats 1000000 in
theorem fnSealR (key plain:List UInt8) (n:Nat) (hk:key.length = 32) (hn:plain.length = n) :
  Sx.Fn Γ.P 10 [.agg [(1,.nilp)],.a8 key,.slx 1003 0 0 n] [(1003,.mem false 0 [(n,.a8 plain)])]
  (fun v M=>∃ m c,(seS key plain).length = m∧m ≤ c∧v = .tup [.sl 1006 0 0 m c,.bool (n ≤ 1024)]∧M = [(1003,.mem false 0 [(n,.a8 plain)]),(1006,.mem true (c - m) [(m,.a8 (seS key plain))])]):=by
 refine fn_of (Γ:=Γ) (fn:=Try.f10) rfl rfl rfl rfl ?_
 repeat (refine sd ?_)
 refine Branch.intro (fun hc=>?_) (fun hc=>?_)
 ·have hc:(n:Int) > 1024:=hc
  have e:seS key plain = []:=seS_bad (by omega)
  repeat (refine sd ?_)
  refine Ret.ghost [.own 450 [(0,.a8 [])]] [(6,450)] rfl ⟨rfl,rfl,trivial⟩ rfl (.tup [.sl 1006 0 0 0 0,.bool (n ≤ 1024)]) [(1003,.mem false 0 [(n,.a8 plain)]),(1006,.mem true (0 - 0) [(0,.a8 (seS key plain))])] [(1006,(450,0,none))] rfl ?_ ⟨0,0,by rw [e];rfl,Nat.le_refl _,rfl,rfl⟩ rfl ?_ rfl ?_ rfl
  ·exact fc
  ·exact fc
  ·exact fc
 have hc:¬ (n:Int) > 1024:=hc
 have e:=seS_ok (key:=key) (show plain.length ≤ 1024 by omega)
 have hkl:=kyA_length key
 have hgl:=kyG_length key
 have hsl:=kyS_length key
 have hL:=fn21 (kyA key) (kyG key) plain n hkl hgl hn (by omega)
 obtain ⟨X,hX⟩:∃ X,cbcLock (kyA key) (kyG key) plain = X:=⟨_,rfl⟩
 obtain ⟨N,hN⟩:∃ N,n / 16 * 16 + 16 = N:=⟨_,rfl⟩
 have hXl:X.length = N:=by rw [← hX,← hN,cbcLock_len hgl hn]
 have eB:seS key plain = X ++ (hmac (kyS key) X).take 16:=by rw [e,seB_eq,hX]
 rw [hX,hN] at hL
 have hml:=hmac_length (kyS key) X
 repeat (refine sd ?_)
 refine Branch.intro (fun hn=>absurd trivial hn) (fun _=>?_)
 repeat (refine sd ?_)
 refine Call.intro (fn20 key hk) [] rfl fc rfl trivial rfl ?_
 rintro v M' ⟨rfl,rfl⟩
 dsimp only [putT,afterM,newEnt,ren,renA,renS,renL,look,getM,getT,ev,evL,ofVal,cond_true,cond_false,Nat.beq_eq,act,isPar,ownPar,Ent.isOwn]
 repeat (refine sd ?_)
 refine Call.intro hL [(1000,(1003,0,none)),(1001,(301,0,none))] rfl fc rfl fc rfl ?_
 rintro v M' ⟨c,hcc,rfl,rfl⟩
 dsimp only [putT,afterM,newEnt,ren,renA,renS,renL,look,getM,getT,ev,evL,ofVal,cond_true,cond_false,Nat.beq_eq,act,isPar,ownPar,Ent.isOwn]
 repeat (refine sd ?_)
 refine Call.intro (fn22 (kyS key) X 32 N hsl hXl (by omega) (by omega)) [(1000,(12,0,none)),(1001,(301,0,none))] rfl fc rfl fc rfl ?_
 rintro v M' ⟨rfl,rfl⟩
 dsimp only [putT,afterM,newEnt,ren,renA,renS,renL,look,getM,getT,ev,evL,ofVal,cond_true,cond_false,Nat.beq_eq,act,isPar,ownPar,Ent.isOwn]
 repeat (refine sd ?_)
 refine fun c2 hc2=>?_
 have hc2:N + 16 ≤ c2:=hc2
 repeat (refine sd ?_)
 refine Ret.intro (.tup [.sl 1006 0 0 (N + 16) c2,.bool (n ≤ 1024)]) [(1003,.mem false 0 [(n,.a8 plain)]),(1006,.mem true (c2 - (N + 16)) [(N + 16,.a8 (seS key plain))])] [(1006,(56,0,none))] rfl ?_ ⟨N + 16,c2,by rw [eB,List.length_append,hXl,List.length_take,hml];rfl,hc2,rfl,rfl⟩ rfl ?_ rfl ?_ rfl
 ·exact fc
 ·exact fc
 ·rw [eB]
  exact fc
end Go.Proofs.Ytimbdhpchlakfaa
