/- What the functions of the program compute. No condition. -/
import Derived.Test.YtimbdhpchlakfaaHwTabToTab
import Derived.Test.YtimbdhpchlakfaaHx8
set_option linter.unusedSimpArgs false
set_option linter.unusedVariables false
namespace Go.Proofs.Ytimbdhpchlakfaa
open Go Go.Sx
def sizeF (n:Int):Int:=if n < 0 ∨ 1099511627776 < n then 0 else n / 16 * 16 + 16
theorem sizeF_bad {n:Int} (h:n < 0 ∨ 1099511627776 < n):sizeF n = 0:=if_pos h
theorem sizeF_ok {n:Int} (h1:¬ n < 0) (h2:¬ 1099511627776 < n):sizeF n = n / 16 * 16 + 16:=if_neg (by omega)
set_option maxRecDepth 100000 in
theorem fn25 (n:Int):Sx.Fn Γ.P 25 [.i .i64 n] [] (fun v _=>v = .i .i64 (sizeF n)):=by
 refine fn_of (Γ:=Γ) (fn:=Try.f25) rfl rfl rfl rfl ?_
 refine Branch.intro (fun h=>?_) (fun h=>?_)
 ·refine Ret.intro (.i .i64 (sizeF n)) [] [] rfl trivial rfl rfl ?_ rfl trivial rfl
  exact sizeF_bad (Or.inl h)
 ·refine Branch.intro (fun h2=>?_) (fun h2=>?_)
  ·refine Ret.intro (.i .i64 (sizeF n)) [] [] rfl trivial rfl rfl ?_ rfl trivial rfl
   exact sizeF_bad (Or.inr h2)
  ·repeat (refine sd ?_)
   refine Ret.intro (.i .i64 (sizeF n)) [] [] rfl trivial rfl rfl ?_ rfl trivial rfl
   exact sizeF_ok h h2
end Go.Proofs.Ytimbdhpchlakfaa
namespace Go.Proofs.Ytimbdhpchlakfaa
open Go Go.Sx
@[irreducible] def sizS (n:Int):Int:=if n < 0 ∨ 1024 < n then 0 else n / 16 * 16 + 32
theorem sizS_bad {n:Int} (h:n < 0 ∨ 1024 < n):sizS n = 0:=by unfold sizS;exact if_pos h
theorem sizS_ok {n:Int} (h1:¬ n < 0) (h2:¬ 1024 < n):sizS n = n / 16 * 16 + 32:=by unfold sizS;exact if_neg (by omega)
set_option maxRecDepth 100000 in
theorem fn12 (n:Int):Sx.Fn Γ.P 12 [.i .i64 n] [] (fun v _=>v = .i .i64 (sizS n)):=by
 refine fn_of (Γ:=Γ) (fn:=Try.f12) rfl rfl rfl rfl ?_
 repeat (refine sd ?_)
 refine Branch.intro (fun h=>?_) (fun h=>?_)
 ·repeat (refine sd ?_)
  refine Ret.intro (.i .i64 (sizS n)) [] [] rfl trivial rfl rfl ?_ rfl trivial rfl
  exact sizS_bad (Or.inl h)
 have h:¬ n < 0:=h
 repeat (refine sd ?_)
 refine Branch.intro (fun h2=>?_) (fun h2=>?_)
 ·repeat (refine sd ?_)
  refine Ret.intro (.i .i64 (sizS n)) [] [] rfl trivial rfl rfl ?_ rfl trivial rfl
  exact sizS_bad (Or.inr h2)
 have h2:¬ n > 1024:=h2
 have e:=sizS_ok h (by omega)
 have e1:=sizeF_ok h (by omega)
 refine Call.pure (fn25 n) rfl fc ?_
 intro v hv
 subst hv
 rw [e1]
 repeat (refine sd ?_)
 refine Ret.intro (.i .i64 (sizS n)) [] [] rfl trivial rfl rfl ?_ rfl trivial rfl
 exact fc
end Go.Proofs.Ytimbdhpchlakfaa
namespace Go.Proofs.Ytimbdhpchlakfaa
open Go Go.Sx
def putB (n:Nat):Nat→List UInt8
 | 0=>[]
 | s + 1=>UInt8.ofNat (n / 256 ^ s) :: putB n s
theorem putB_length (n:Nat):∀ s,(putB n s).length = s
 | 0=>rfl
 | s + 1=>by simp only [putB,List.length_cons,putB_length n s]
theorem putB_getD (n:Nat):∀ {s j:Nat},j < s→(putB n s).getD j 0 = UInt8.ofNat (n / 256 ^ (s - 1 - j))
 | 0,j,h=>absurd h (Nat.not_lt_zero _)
 | s + 1,0,_=>rfl
 | s + 1,j + 1,h=>by
  show (putB n s).getD j 0 = _
  rw [putB_getD n (by omega),show s - 1 - j = s + 1 - 1 - (j + 1) by omega]
theorem ext_getD {a b:List UInt8} {n:Nat} (ha:a.length = n) (hb:b.length = n) (h:∀ j,j < n→a.getD j 0 = b.getD j 0):a = b:=by
 apply List.ext_getElem (by omega)
 intro i h1 h2
 have:=h i (by omega)
 rwa [List.getD_eq_getElem?_getD,List.getD_eq_getElem?_getD,List.getElem?_eq_getElem h1,List.getElem?_eq_getElem h2] at this
theorem getD_set {l:List UInt8} {i j:Nat} {x:UInt8} (h:i < l.length):(l.set i x).getD j 0 = if i = j then x else l.getD j 0:=by
 simp only [List.getD_eq_getElem?_getD,List.getElem?_set]
 split
 ·rfl
 ·rfl
def pK (x:UInt64) (s:Nat):Nat→List UInt8
 | 0=>List.replicate s 0
 | i + 1=>(pK x s i).set (s - 1 - i) (shr64 x (8 * i)).toUInt8
theorem pK_length (x:UInt64) (s:Nat):∀ i,(pK x s i).length = s
 | 0=>List.length_replicate
 | i + 1=>by simp only [pK,List.length_set,pK_length x s i]
theorem shr_byte (x:UInt64) {i:Nat} (hi:i < 8):(shr64 x (8 * i)).toUInt8 = UInt8.ofNat (x.toNat / 256 ^ i):=by
 apply UInt8.toNat_inj.1
 have hp:(256:Nat) ^ i = 2 ^ (8 * i):=by rw [show (256:Nat) = 2 ^ 8 from rfl,← Nat.pow_mul]
 have hlt:x.toNat / 2 ^ (8 * i) < 2 ^ 64:=Nat.lt_of_le_of_lt (Nat.div_le_self _ _) x.toNat_lt
 rw [shr64,Nat.shiftRight_eq_div_pow,hp,UInt64.toNat_toUInt8,UInt64.toNat_ofNat',UInt8.toNat_ofNat',Nat.mod_eq_of_lt hlt]
theorem pK_getD (x:UInt64) {s:Nat} (hs:s ≤ 8):∀ {i:Nat},i ≤ s→∀ j,j < s→(pK x s i).getD j 0 = if s - i ≤ j then UInt8.ofNat (x.toNat / 256 ^ (s - 1 - j)) else 0
 | 0,_,j,hj=>by rw [if_neg (by omega)];simp [pK,List.getD_eq_getElem?_getD,hj]
 | i + 1,hi,j,hj=>by
  simp only [pK]
  rw [getD_set (by rw [pK_length];omega),pK_getD x hs (by omega) j hj]
  by_cases h:s - 1 - i = j
  ·rw [if_pos h,if_pos (by omega),shr_byte x (by omega),show s - 1 - j = i by omega]
  ·rw [if_neg h]
   by_cases h2:s - i ≤ j
   ·rw [if_pos h2,if_pos (by omega)]
   ·rw [if_neg h2,if_neg (by omega)]
theorem pK_all (x:UInt64) {s:Nat} (hs:s ≤ 8):pK x s s = putB x.toNat s:=by
 refine ext_getD (pK_length x s s) (putB_length _ _) fun j hj=>?_
 rw [pK_getD x hs (Nat.le_refl _) j hj,if_pos (by omega),putB_getD _ hj]
set_option maxRecDepth 100000 in
theorem fn52 (x:UInt64) (s:Nat) (h1:1 ≤ s) (h8:s ≤ 8) (hx:s < 8→shr64 x (8 * s) = 0):Sx.Fn Γ.P 52 [.u64 x,.i .i64 (s:Int)] []
  (fun v M=>v = .tup [.sl 1001 0 0 s s,.tt]∧M = [(1001,.mem true 0 [(s,.a8 (putB x.toNat s))])]):=by
 have hz:pK x s 0 = List.replicate s 0:=rfl
 have hall:=pK_all x h8
 refine fn_of (Γ:=Γ) (fn:=Try.f52) rfl rfl rfl rfl ?_
 refine Branch.intro (fun h=>absurd h (by omega)) (fun _=>?_)
 refine Branch.intro (fun h=>absurd h (by omega)) (fun _=>?_)
 refine Branch.intro (fun h=>?_) (fun h=>?_)
 ·have h:(s:Int) < 8:=h
  have e0:((8:Int) * (s:Int)).toNat = 8 * s:=by omega
  have hx:=hx (by omega)
  repeat (refine sd ?_)
  refine Branch.intro (fun hn=>?_) (fun _=>?_)
  ·exact absurd (by rw [e0];exact hx) hn
  repeat (refine sd ?_)
  refine Loop.intro (σ:=Nat) (fun i=>i ≤ s)
   (fun i=>([(0,.u64 x),(1,.i .i64 (s:Int)),(6,.sl 26 0 0 s s),(28,.i .i64 (s:Int)),(29,.i .i64 (i:Int))],[(26,.mem true 0 [(s,.a8 (pK x s i))])])) (fun i=>s - i) 0 (Nat.zero_le _) ?_ ?_
  ·refine Le.intro [] rfl ?_ rfl ?_ rfl
   ·exact fc
   ·exact fc
  rintro i hi
  have hl:=pK_length x s i
  refine Branch.intro (fun hc=>?_) (fun hc=>?_)
  ·have hc:(i:Int) < s:=hc
   have hs:pK x s (i + 1) = (pK x s i).set (s - 1 - i) (shr64 x (8 * i)).toUInt8:=rfl
   have e1:((s:Int) - 1 - (i:Int)).toNat = s - 1 - i:=by omega
   have e2:((8:Int) * (i:Int)).toNat = 8 * i:=by omega
   repeat (refine Side.intro (by repeat' (first | (show AllP _;first | exact trivial | refine AllP.app ?_ ?_ | refine AllP.appd ?_ ?_ | refine AllP.cons ?_ ?_) | with_reducible rfl | with_reducible assumption | omega | (simp only [Nat.zero_add,Int.toNat_natCast,e1,e2,rng,Ix.val,addQ_eq,addI,szs] <;> omega) | (simp only [Nat.zero_add,Int.toNat_natCast,e1,e2,rng,Ix.val,Int.toNat_natCast,mulE_eq,addQ_eq,addI,Option.getD_none,Option.getD_some,List.length_take,List.length_drop,List.length_append,List.length_set,List.length_replicate,szs, *] <;> omega) | (simp only [Ix.val];with_reducible assumption) | exact UInt8.toNat_lt _ | (apply Eq.trans;(with_reducible assumption);exact rfl) | exact rfl | exact fun _ _=>rfl)) ?_)
   refine ⟨i + 1,by omega,by omega,Le.intro [] rfl ?_ rfl ?_ rfl⟩
   ·exact fc
   ·repeat' (first | (show AllP _;first | exact trivial | refine AllP.app ?_ ?_ | refine AllP.appd ?_ ?_ | refine AllP.cons ?_ ?_) | with_reducible rfl | with_reducible assumption | omega | (simp only [Nat.zero_add,Int.toNat_natCast,e1,e2,rng,Ix.val,addQ_eq,addI,szs] <;> omega) | (simp only [Nat.zero_add,Int.toNat_natCast,e1,e2,rng,Ix.val,Int.toNat_natCast,mulE_eq,addQ_eq,addI,Option.getD_none,Option.getD_some,List.length_take,List.length_drop,List.length_append,List.length_set,List.length_replicate,szs, *] <;> omega) | (simp only [Ix.val];with_reducible assumption) | exact UInt8.toNat_lt _ | (apply Eq.trans;(with_reducible assumption);exact rfl) | exact rfl | exact fun _ _=>rfl)
  ·obtain rfl:i = s:=by have hc:¬ (i:Int) < s:=hc;omega
   repeat (refine sd ?_)
   refine Ret.intro (.tup [.sl 1001 0 0 i i,.tt]) [(1001,.mem true 0 [(i,.a8 (putB x.toNat i))])] [(1001,(26,0,none))] rfl ?_ ⟨rfl,rfl⟩ rfl ?_ rfl ?_ rfl
   ·exact fc
   ·exact fc
   ·repeat' (first | (show AllP _;first | exact trivial | refine AllP.app ?_ ?_ | refine AllP.appd ?_ ?_ | refine AllP.cons ?_ ?_) | exact fd | fail)
    all_goals exact hall.symm
 ·repeat (refine sd ?_)
  refine Loop.intro (σ:=Nat) (fun i=>i ≤ s)
   (fun i=>([(0,.u64 x),(1,.i .i64 (s:Int)),(6,.sl 26 0 0 s s),(28,.i .i64 (s:Int)),(29,.i .i64 (i:Int))],[(26,.mem true 0 [(s,.a8 (pK x s i))])])) (fun i=>s - i) 0 (Nat.zero_le _) ?_ ?_
  ·refine Le.intro [] rfl ?_ rfl ?_ rfl
   ·exact fc
   ·exact fc
  rintro i hi
  have hl:=pK_length x s i
  refine Branch.intro (fun hc=>?_) (fun hc=>?_)
  ·have hc:(i:Int) < s:=hc
   have hs:pK x s (i + 1) = (pK x s i).set (s - 1 - i) (shr64 x (8 * i)).toUInt8:=rfl
   have e1:((s:Int) - 1 - (i:Int)).toNat = s - 1 - i:=by omega
   have e2:((8:Int) * (i:Int)).toNat = 8 * i:=by omega
   repeat (refine Side.intro (by repeat' (first | (show AllP _;first | exact trivial | refine AllP.app ?_ ?_ | refine AllP.appd ?_ ?_ | refine AllP.cons ?_ ?_) | with_reducible rfl | with_reducible assumption | omega | (simp only [Nat.zero_add,Int.toNat_natCast,e1,e2,rng,Ix.val,addQ_eq,addI,szs] <;> omega) | (simp only [Nat.zero_add,Int.toNat_natCast,e1,e2,rng,Ix.val,Int.toNat_natCast,mulE_eq,addQ_eq,addI,Option.getD_none,Option.getD_some,List.length_take,List.length_drop,List.length_append,List.length_set,List.length_replicate,szs, *] <;> omega) | (simp only [Ix.val];with_reducible assumption) | exact UInt8.toNat_lt _ | (apply Eq.trans;(with_reducible assumption);exact rfl) | exact rfl | exact fun _ _=>rfl)) ?_)
   refine ⟨i + 1,by omega,by omega,Le.intro [] rfl ?_ rfl ?_ rfl⟩
   ·exact fc
   ·repeat' (first | (show AllP _;first | exact trivial | refine AllP.app ?_ ?_ | refine AllP.appd ?_ ?_ | refine AllP.cons ?_ ?_) | with_reducible rfl | with_reducible assumption | omega | (simp only [Nat.zero_add,Int.toNat_natCast,e1,e2,rng,Ix.val,addQ_eq,addI,szs] <;> omega) | (simp only [Nat.zero_add,Int.toNat_natCast,e1,e2,rng,Ix.val,Int.toNat_natCast,mulE_eq,addQ_eq,addI,Option.getD_none,Option.getD_some,List.length_take,List.length_drop,List.length_append,List.length_set,List.length_replicate,szs, *] <;> omega) | (simp only [Ix.val];with_reducible assumption) | exact UInt8.toNat_lt _ | (apply Eq.trans;(with_reducible assumption);exact rfl) | exact rfl | exact fun _ _=>rfl)
  ·obtain rfl:i = s:=by have hc:¬ (i:Int) < s:=hc;omega
   repeat (refine sd ?_)
   refine Ret.intro (.tup [.sl 1001 0 0 i i,.tt]) [(1001,.mem true 0 [(i,.a8 (putB x.toNat i))])] [(1001,(26,0,none))] rfl ?_ ⟨rfl,rfl⟩ rfl ?_ rfl ?_ rfl
   ·exact fc
   ·exact fc
   ·repeat' (first | (show AllP _;first | exact trivial | refine AllP.app ?_ ?_ | refine AllP.appd ?_ ?_ | refine AllP.cons ?_ ?_) | exact fd | fail)
    all_goals exact hall.symm
end Go.Proofs.Ytimbdhpchlakfaa
namespace Go.Proofs.Ytimbdhpchlakfaa
open Go Go.Sx
theorem ofInt_toNat {n:Nat} (h:n < 18446744073709551616):(UInt64.ofInt (n:Int)).toNat = n:=by
 have e:UInt64.ofInt (n:Int) = UInt64.ofNat n:=by
  unfold UInt64.ofInt
  congr 1;omega
 rw [e,UInt64.toNat_ofNat',Nat.mod_eq_of_lt (by omega)]
theorem shr_zero {x:UInt64} {k:Nat} (h:x.toNat / 2 ^ k = 0):shr64 x k = 0:=by
 rw [shr64,Nat.shiftRight_eq_div_pow,h];rfl
theorem four {b:List UInt8} (h:b.length = 4):∃ b0 b1 b2 b3,b = [b0,b1,b2,b3]:=by
 rcases b with _ | ⟨b0,_ | ⟨b1,_ | ⟨b2,_ | ⟨b3,_ | ⟨b4,r⟩⟩⟩⟩⟩ <;> simp at h
 exact ⟨b0,b1,b2,b3,rfl⟩
@[irreducible] def nameB (n:Nat):List UInt8:=[UInt8.ofNat 116,UInt8.ofNat 101,UInt8.ofNat 114,UInt8.ofNat 109] ++ (putB n 4 ++ List.replicate 24 0)
theorem nameB_eq (n:Nat):nameB n = [UInt8.ofNat 116,UInt8.ofNat 101,UInt8.ofNat 114,UInt8.ofNat 109] ++ (putB n 4 ++ List.replicate 24 0):=by unfold nameB;rfl
theorem nameB_length (n:Nat):(nameB n).length = 32:=by rw [nameB_eq];simp [putB_length]
set_option maxRecDepth 100000 in
theorem fn34 (n:Nat) (hn:n < 4294967296):Sx.Fn Γ.P 34 [.i .i64 (n:Int)] [] (fun v M=>v = .a8 (nameB n)∧M = []):=by
 have hN:=fn52 (UInt64.ofInt (n:Int)) 4 (by decide) (by decide) (fun _=>shr_zero (by rw [ofInt_toNat (by omega)];omega))
 rw [ofInt_toNat (by omega)] at hN
 have hl:=putB_length n 4
 have he:=nameB_eq n
 generalize putB n 4 = b at hN hl he
 obtain ⟨b0,b1,b2,b3,rfl⟩:=four hl
 refine fn_of (Γ:=Γ) (fn:=Try.f34) rfl rfl rfl rfl ?_
 repeat (refine sd ?_)
 refine Call.intro hN [(1001,(11,0,none))] rfl fc rfl fc rfl ?_
 rintro v M' ⟨rfl,rfl⟩
 repeat (refine sd ?_)
 refine Ret.intro (.a8 (nameB n)) [] [] rfl ?_ ⟨rfl,rfl⟩ rfl ?_ rfl trivial rfl
 ·exact fc
 ·repeat' (first | (show AllP _;first | exact trivial | refine AllP.app ?_ ?_ | refine AllP.appd ?_ ?_ | refine AllP.cons ?_ ?_) | exact fd | fail)
  all_goals (rw [he];exact rfl)
end Go.Proofs.Ytimbdhpchlakfaa
