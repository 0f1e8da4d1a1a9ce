/- What the functions of the program compute. No condition. -/
import Derived.Test.YtlbmkjckbfeejaaHwAes11ToCbc1
import Derived.Test.YtlbmkjckbfeejaaHwAes7ToAes10
set_option linter.unusedSimpArgs false
set_option linter.unusedVariables false
namespace Go.Proofs.Ytlbmkjckbfeejaa
open Go Go.Sx
def r1 (a b:Nat):Nat→Nat
 | 0=>0
 | i + 1=>if b / 2 ^ i &&& 1 = 1 then r1 a b i ^^^ a * 2 ^ i else r1 a b i
def r2 (p:Nat):Nat→Nat
 | 0=>p
 | k + 1=>if r2 p k / 2 ^ (14 - k) &&& 1 = 1 then r2 p k ^^^ 283 * 2 ^ (6 - k) else r2 p k
def rTimes (a b:Nat):Nat:=r2 (r1 a b 8) 7
theorem r1_lt {a:Nat} (ha:a < 256) (b:Nat):∀ i,i ≤ 8→r1 a b i < 2 ^ 16
 | 0,_=>Nat.two_pow_pos 16
 | i + 1,h=>by
  have ih:=r1_lt ha b i (by omega)
  simp only [r1]
  split
  ·refine Nat.xor_lt_two_pow ih ?_
   have:2 ^ i ≤ 2 ^ 8:=Nat.pow_le_pow_right (by decide) (by omega)
   calc a * 2 ^ i ≤ 255 * 2 ^ 8:=Nat.mul_le_mul (by omega) this
    _ < 2 ^ 16:=by decide
  ·exact ih
theorem r2_lt {p:Nat} (hp:p < 2 ^ 16):∀ k,r2 p k < 2 ^ 16
 | 0=>hp
 | k + 1=>by
  have ih:=r2_lt hp k
  simp only [r2]
  split
  ·refine Nat.xor_lt_two_pow ih ?_
   have:2 ^ (6 - k) ≤ 2 ^ 6:=Nat.pow_le_pow_right (by decide) (by omega)
   calc 283 * 2 ^ (6 - k) ≤ 283 * 2 ^ 6:=Nat.mul_le_mul_left _ this
    _ < 2 ^ 16:=by decide
  ·exact ih
theorem u64_smallR (i:Nat) (h:i < 100000):(UInt64.ofInt (i:Int)).toNat = i:=by
 simp [UInt64.ofInt]
 omega
theorem div_cast (b i:Nat):(b:Int) / 2 ^ i = ((b / 2 ^ i:Nat):Int):=by simp
theorem mul_cast (a i:Nat):(a:Int) * 2 ^ i = ((a * 2 ^ i:Nat):Int):=by simp
theorem bit_cast {b i k d:Nat} (hu:k = i) (eD:(b:Int) / 2 ^ i = (d:Int)) (h:((((b:Int) / 2 ^ k).toNat &&& Int.toNat 1:Nat):Int) = 1):d &&& 1 = 1:=by
 rw [hu,eD,Int.toNat_natCast] at h
 exact Int.ofNat.inj h
theorem bit_cast' {b i k d:Nat} (hu:k = i) (eD:(b:Int) / 2 ^ i = (d:Int)) (h:d &&& 1 = 1):((((b:Int) / 2 ^ k).toNat &&& Int.toNat 1:Nat):Int) = 1:=by
 rw [hu,eD,Int.toNat_natCast]
 exact congrArg Int.ofNat h
set_option maxRecDepth 100000 in
theorem fn62 (a b:Nat) (ha:a < 256) (hb:b < 256):Sx.Fn Γ.P 62 [.i .i64 a,.i .i64 b] [] (fun v _=>v = .i .i64 (rTimes a b:Nat)):=by
 refine fn_of (Γ:=Γ) (fn:=Try.f62) rfl rfl rfl rfl ?_
 refine Loop.intro (σ:=Nat) (fun i=>i ≤ 8)
  (fun i=>([(0,.i .i64 a),(1,.i .i64 b),(5,.i .i64 (r1 a b i:Nat)),(6,.i .i64 i)],[])) (fun i=>8 - i) 0 (Nat.zero_le _) ?_ ?_
 ·exact Le.intro [] rfl fc rfl trivial rfl
 ·rintro i hi
  have hr:=r1_lt ha b i hi
  have hu:=u64_smallR i (by omega)
  obtain ⟨d,hd⟩:∃ d,b / 2 ^ i = d:=⟨_,rfl⟩
  obtain ⟨m,hm⟩:∃ m,a * 2 ^ i = m:=⟨_,rfl⟩
  have eD:(b:Int) / 2 ^ i = (d:Int):=by rw [← hd];exact div_cast b i
  have eM:(a:Int) * 2 ^ i = (m:Int):=by rw [← hm];exact mul_cast a i
  have hq:d < 256:=by rw [← hd];exact Nat.lt_of_le_of_lt (Nat.div_le_self _ _) hb
  refine Branch.intro (fun h=>?_) (fun h=>?_)
  ·have hml:m < 65536:=by
    have:2 ^ i ≤ 2 ^ 8:=Nat.pow_le_pow_right (by decide) (by omega)
    rw [← hm]
    calc a * 2 ^ i ≤ 255 * 2 ^ 8:=Nat.mul_le_mul (by omega) this
     _ < 65536:=by decide
   have hr':r1 a b i < 65536:=hr
   clear hr
   refine sd ?_
   refine Branch.intro (fun h2=>?_) (fun h2=>?_)
   ·have h3:=bit_cast hu eD h2
    repeat (refine sd ?_)
    have e:r1 a b (i + 1) = r1 a b i ^^^ m:=by simp only [r1];rw [hd,hm,if_pos h3]
    have e2:((r1 a b (i + 1):Nat):Int) = (((r1 a b i:Nat):Int).toNat ^^^ ((a:Int) * 2 ^ (UInt64.ofInt (i:Int)).toNat).toNat:Nat):=by
     rw [hu,eM,Int.toNat_natCast,Int.toNat_natCast,e]
    exact ⟨i + 1,by omega,by omega,Le.intro [] rfl fc rfl trivial rfl⟩
   ·have h3:¬ (d &&& 1 = 1):=fun h=>h2 (bit_cast' hu eD h)
    repeat (refine sd ?_)
    have e:r1 a b (i + 1) = r1 a b i:=by simp only [r1];rw [hd,if_neg h3]
    exact ⟨i + 1,by omega,by omega,Le.intro [] rfl fc rfl trivial rfl⟩
  ·obtain rfl:i = 8:=by omega
   clear hm hd eD eM hq hu
   generalize hp:r1 a b 8 = p at hr
   refine Loop.intro (σ:=Nat) (fun k=>k ≤ 7)
    (fun k=>([(5,.i .i64 (r2 p k:Nat)),(7,.i .i64 (14 - (k:Int)))],[])) (fun k=>7 - k) 0 (Nat.zero_le _) ?_ ?_
   ·have e:r2 p 0 = r1 a b 8:=hp.symm
    exact Le.intro [] rfl fc rfl trivial rfl
   ·rintro k hk
    have hr:=r2_lt hr k
    have hu:(UInt64.ofInt (14 - (k:Int))).toNat = 14 - k:=by
     rw [show (14 - (k:Int)) = ((14 - k:Nat):Int) by omega];exact u64_smallR _ (by omega)
    obtain ⟨d,hd⟩:∃ d,r2 p k / 2 ^ (14 - k) = d:=⟨_,rfl⟩
    have eD:((r2 p k:Nat):Int) / 2 ^ (14 - k) = (d:Int):=by rw [← hd];exact div_cast _ _
    have hr':r2 p k < 65536:=hr
    clear hr
    have hq:d < 65536:=by rw [← hd];exact Nat.lt_of_le_of_lt (Nat.div_le_self _ _) hr'
    refine Branch.intro (fun h=>?_) (fun h=>?_)
    ·have hu2:(UInt64.ofInt (14 - (k:Int) - 8)).toNat = 6 - k:=by
      rw [show (14 - (k:Int) - 8) = ((6 - k:Nat):Int) by omega];exact u64_smallR _ (by omega)
     obtain ⟨m,hm⟩:∃ m,283 * 2 ^ (6 - k) = m:=⟨_,rfl⟩
     have eM:(283:Int) * 2 ^ (6 - k) = (m:Int):=by rw [← hm];exact mul_cast 283 _
     have hml:m < 65536:=by
      have:2 ^ (6 - k) ≤ 2 ^ 6:=Nat.pow_le_pow_right (by decide) (by omega)
      rw [← hm]
      calc 283 * 2 ^ (6 - k) ≤ 283 * 2 ^ 6:=Nat.mul_le_mul_left _ this
       _ < 65536:=by decide
     refine sd ?_
     refine Branch.intro (fun h2=>?_) (fun h2=>?_)
     ·have h3:=bit_cast hu eD h2
      repeat (refine sd ?_)
      have e:r2 p (k + 1) = r2 p k ^^^ m:=by simp only [r2];rw [hd,hm,if_pos h3]
      have e2:((r2 p (k + 1):Nat):Int) = (((r2 p k:Nat):Int).toNat ^^^ ((283:Int) * 2 ^ (UInt64.ofInt (14 - (k:Int) - 8)).toNat).toNat:Nat):=by
       rw [hu2,eM,Int.toNat_natCast,Int.toNat_natCast,e]
      exact ⟨k + 1,by omega,by omega,Le.intro [] rfl fc rfl trivial rfl⟩
     ·have h3:¬ (d &&& 1 = 1):=fun h=>h2 (bit_cast' hu eD h)
      repeat (refine sd ?_)
      have e:r2 p (k + 1) = r2 p k:=by simp only [r2];rw [hd,if_neg h3]
      exact ⟨k + 1,by omega,by omega,Le.intro [] rfl fc rfl trivial rfl⟩
    ·obtain rfl:k = 7:=by omega
     refine Ret.intro (.i .i64 (rTimes a b:Nat)) [] [] rfl trivial rfl rfl ?_ rfl trivial rfl
     show ((rTimes a b:Nat):Int) = (r2 p 7:Nat)
     unfold rTimes;rw [hp]
end Go.Proofs.Ytlbmkjckbfeejaa
namespace Go.Proofs.Ytlbmkjckbfeejaa
open Go Go.Sx
theorem top_div {x n:Nat} (h1:2 ^ n ≤ x) (h2:x < 2 ^ (n + 1)):x / 2 ^ n = 1:=by
 have hp:=Nat.two_pow_pos n
 rw [Nat.pow_succ] at h2
 exact Nat.div_eq_of_lt_le (by omega) (by omega)
theorem xor_top {x y n:Nat} (hx:2 ^ n ≤ x) (hx2:x < 2 ^ (n + 1)) (hy:2 ^ n ≤ y) (hy2:y < 2 ^ (n + 1)):x ^^^ y < 2 ^ n:=by
 apply Nat.lt_pow_two_of_testBit
 intro i hi
 rw [Nat.testBit_xor]
 by_cases h:i = n
 ·subst h
  rw [Nat.testBit_eq_decide_div_mod_eq,Nat.testBit_eq_decide_div_mod_eq,top_div hx hx2,top_div hy hy2]
  rfl
 ·have hle:2 ^ (n + 1) ≤ 2 ^ i:=Nat.pow_le_pow_right (by decide) (by omega)
  rw [Nat.testBit_lt_two_pow (Nat.lt_of_lt_of_le hx2 hle),Nat.testBit_lt_two_pow (Nat.lt_of_lt_of_le hy2 hle)]
  rfl
theorem r1_lt2 {a:Nat} (ha:a < 256) (b:Nat):∀ i,1 ≤ i→r1 a b i < 2 ^ (7 + i)
 | 0,h=>absurd h (by omega)
 | 1,_=>by
  simp only [r1]
  have:(0:Nat) ^^^ a * 2 ^ 0 < 2 ^ (7 + 1):=by simp;omega
  split
  ·exact this
  ·exact Nat.two_pow_pos _
 | i + 2,_=>by
  have ih:=r1_lt2 ha b (i + 1) (by omega)
  have hle:2 ^ (7 + (i + 1)) ≤ 2 ^ (7 + (i + 2)):=Nat.pow_le_pow_right (by decide) (by omega)
  have e:r1 a b (i + 2) = if b / 2 ^ (i + 1) &&& 1 = 1 then r1 a b (i + 1) ^^^ a * 2 ^ (i + 1) else r1 a b (i + 1):=rfl
  rw [e]
  split
  ·refine Nat.xor_lt_two_pow (Nat.lt_of_lt_of_le ih hle) ?_
   have h2:2 ^ (7 + (i + 2)) = 256 * 2 ^ (i + 1):=by rw [show 7 + (i + 2) = 8 + (i + 1) by omega,Nat.pow_add]
   rw [h2]
   exact Nat.mul_lt_mul_of_pos_right ha (Nat.two_pow_pos _)
  ·exact Nat.lt_of_lt_of_le ih hle
theorem r2_lt2 {p:Nat} (hp:p < 2 ^ 15):∀ k,k ≤ 7→r2 p k < 2 ^ (15 - k)
 | 0,_=>hp
 | k + 1,h=>by
  have ih:=r2_lt2 hp k (by omega)
  rw [show 15 - k = 14 - k + 1 by omega] at ih
  have e:r2 p (k + 1) = if r2 p k / 2 ^ (14 - k) &&& 1 = 1 then r2 p k ^^^ 283 * 2 ^ (6 - k) else r2 p k:=rfl
  rw [e,show 15 - (k + 1) = 14 - k by omega]
  have h283:283 * 2 ^ (6 - k) = 256 * 2 ^ (6 - k) + 27 * 2 ^ (6 - k):=by omega
  have hpow:2 ^ (14 - k) = 256 * 2 ^ (6 - k):=by rw [show 14 - k = 8 + (6 - k) by omega,Nat.pow_add]
  have hpow2:2 ^ (14 - k + 1) = 2 * 2 ^ (14 - k):=by rw [Nat.pow_succ,Nat.mul_comm]
  have hpos:=Nat.two_pow_pos (6 - k)
  by_cases ht:2 ^ (14 - k) ≤ r2 p k
  ·rw [top_div ht ih,if_pos (by decide)]
   exact xor_top ht ih (by omega) (by omega)
  ·rw [Nat.div_eq_of_lt (by omega),if_neg (by decide)]
   omega
theorem rTimes_lt {a:Nat} (ha:a < 256) (b:Nat):rTimes a b < 256:=r2_lt2 (r1_lt2 ha b 8 (by omega)) 7 (Nat.le_refl _)
end Go.Proofs.Ytlbmkjckbfeejaa
namespace Go.Proofs.Ytlbmkjckbfeejaa
open Go Go.Sx
def cIn (b:Nat):Nat→Nat
 | 0=>1
 | k + 1=>rTimes (rTimes (cIn b k) (cIn b k)) b
def cInv (b:Nat):Nat:=rTimes (cIn b 7) (cIn b 7)
theorem cIn_lt (b:Nat):∀ k,cIn b k < 256
 | 0=>by simp [cIn]
 | k + 1=>rTimes_lt (rTimes_lt (cIn_lt b k) _) _
theorem cInv_lt (b:Nat):cInv b < 256:=rTimes_lt (cIn_lt b 7) _
def sX (c i:Nat):Nat:=c / 2 ^ i ^^^ c / 2 ^ ((i + 4) % 8) ^^^ c / 2 ^ ((i + 5) % 8) ^^^ c / 2 ^ ((i + 6) % 8) ^^^ c / 2 ^ ((i + 7) % 8) ^^^ 99 / 2 ^ i
def sRow (c:Nat):Nat→Nat
 | 0=>0
 | i + 1=>sRow c i ||| (sX c i &&& 1) * 2 ^ i
theorem sRow_lt (c:Nat):∀ i,i ≤ 8→sRow c i < 2 ^ 8
 | 0,_=>Nat.two_pow_pos 8
 | i + 1,h=>by
  simp only [sRow]
  refine Nat.or_lt_two_pow (sRow_lt c i (by omega)) ?_
  have h1:sX c i &&& 1 ≤ 1:=Nat.and_le_right
  have h2:2 ^ i ≤ 2 ^ 7:=Nat.pow_le_pow_right (by decide) (by omega)
  calc (sX c i &&& 1) * 2 ^ i ≤ 1 * 2 ^ 7:=Nat.mul_le_mul h1 h2
   _ < 2 ^ 8:=by decide
def rTab:Nat→List Int
 | 0=>List.replicate 256 0
 | b + 1=>(rTab b).set b (sRow (cInv b) 8:Nat)
theorem rTab_length:∀ b,(rTab b).length = 256
 | 0=>List.length_replicate
 | b + 1=>by simp only [rTab,List.length_set,rTab_length b]
theorem rTab_zero:∀ (b k:Nat),b ≤ k→k < 256→(rTab b)[k]? = some 0
 | 0,k,_,hk=>by show (List.replicate 256 (0:Int))[k]? = some 0;rw [List.getElem?_replicate,if_pos hk]
 | b + 1,k,h,hk=>by
  simp only [rTab]
  rw [List.getElem?_set_ne (by omega)]
  exact rTab_zero b k (by omega) hk
theorem rTab_set (b:Nat) (h:b < 256):(rTab b).set b ((sRow (cInv b) 0:Nat):Int) = rTab b:=by
 apply List.ext_getElem?
 intro k
 rw [List.getElem?_set]
 by_cases hk:b = k
 ·subst hk
  rw [if_pos rfl,rTab_zero b b (Nat.le_refl _) h,rTab_length,if_pos h]
  rfl
 ·rw [if_neg hk]
set_option maxRecDepth 100000 in
theorem fn60:Sx.Fn Γ.P 60 [] [] (fun v M=>v = .sl 1001 0 0 256 256∧M = [(1001,.mem true 0 [(256,.ai (rTab 256))])]):=by
 refine fn_of (Γ:=Γ) (fn:=Try.f60) rfl rfl rfl rfl ?_
 repeat (refine sd ?_)
 refine Loop.intro (σ:=Nat) (fun b=>b ≤ 256)
  (fun b=>([(1,.sl 7 0 0 256 256),(2,.i .i64 b)],[(7,.mem true 0 [(256,.ai (rTab b))])])) (fun b=>256 - b) 0 (Nat.zero_le _) ?_ ?_
 ·exact Le.intro [] rfl fc rfl ⟨rfl,rfl,rfl⟩ rfl
 ·rintro b hb
  have hbl:=rTab_length b
  refine Branch.intro (fun h=>?_) (fun h=>?_)
  ·refine Loop.intro (σ:=Nat) (fun k=>k ≤ 7)
    (fun k=>([(1,.sl 7 0 0 256 256),(2,.i .i64 b),(3,.i .i64 (cIn b k:Nat)),(4,.i .i64 k)],[(7,.mem true 0 [(256,.ai (rTab b))])])) (fun k=>7 - k) 0 (Nat.zero_le _) ?_ ?_
   ·exact Le.intro [] rfl fc rfl fc rfl
   ·rintro k hk
    have hc:=cIn_lt b k
    refine Branch.intro (fun h2=>?_) (fun h2=>?_)
    ·refine Call.pure (fn62 (cIn b k) (cIn b k) hc hc) rfl fc ?_
     intro v hv
     subst hv
     refine Call.pure (fn62 (rTimes (cIn b k) (cIn b k)) b (rTimes_lt hc _) (by omega)) rfl fc ?_
     intro v hv
     subst hv
     repeat (refine sd ?_)
     exact ⟨k + 1,by omega,by omega,Le.intro [] rfl fc rfl fc rfl⟩
    ·obtain rfl:k = 7:=by omega
     refine Call.pure (fn62 (cIn b 7) (cIn b 7) hc hc) rfl fc ?_
     intro v hv
     subst hv
     have hci:=cInv_lt b
     have h0:=rTab_set b (by omega)
     refine Loop.intro (σ:=Nat) (fun i=>i ≤ 8)
      (fun i=>([(1,.sl 7 0 0 256 256),(2,.i .i64 b),(3,.i .i64 (cInv b:Nat)),(5,.i .i64 i)],[(7,.mem true 0 [(256,.ai ((rTab b).set b (sRow (cInv b) i:Nat)))])])) (fun i=>8 - i) 0 (Nat.zero_le _) ?_ ?_
     ·have e:rTimes (cIn b 7) (cIn b 7) = cInv b:=rfl
      exact Le.intro [] rfl fc rfl fc rfl
     ·rintro i hi
      refine Branch.intro (fun h3=>?_) (fun h3=>?_)
      ·have hu0:=u64_smallR i (by omega)
       have hu4:(UInt64.ofInt (((i:Int) + 4) % 8)).toNat = (i + 4) % 8:=by rw [show ((i:Int) + 4) % 8 = (((i + 4) % 8:Nat):Int) by omega];exact u64_smallR _ (by omega)
       have hu5:(UInt64.ofInt (((i:Int) + 5) % 8)).toNat = (i + 5) % 8:=by rw [show ((i:Int) + 5) % 8 = (((i + 5) % 8:Nat):Int) by omega];exact u64_smallR _ (by omega)
       have hu6:(UInt64.ofInt (((i:Int) + 6) % 8)).toNat = (i + 6) % 8:=by rw [show ((i:Int) + 6) % 8 = (((i + 6) % 8:Nat):Int) by omega];exact u64_smallR _ (by omega)
       have hu7:(UInt64.ofInt (((i:Int) + 7) % 8)).toNat = (i + 7) % 8:=by rw [show ((i:Int) + 7) % 8 = (((i + 7) % 8:Nat):Int) by omega];exact u64_smallR _ (by omega)
       have small:∀ k,∃ d:Nat,cInv b / 2 ^ k = d∧((cInv b:Nat):Int) / 2 ^ k = (d:Int)∧d < 2 ^ 8:=fun k=>⟨_,rfl,div_cast _ _,Nat.lt_of_le_of_lt (Nat.div_le_self _ _) hci⟩
       obtain ⟨d0,n0,e0,b0⟩:=small i
       obtain ⟨d4,n4,e4,b4⟩:=small ((i + 4) % 8)
       obtain ⟨d5,n5,e5,b5⟩:=small ((i + 5) % 8)
       obtain ⟨d6,n6,e6,b6⟩:=small ((i + 6) % 8)
       obtain ⟨d7,n7,e7,b7⟩:=small ((i + 7) % 8)
       obtain ⟨d9,n9,e9,b9⟩:∃ d:Nat,99 / 2 ^ i = d∧(99:Int) / 2 ^ i = (d:Int)∧d < 2 ^ 8:=⟨_,rfl,div_cast 99 _,Nat.lt_of_le_of_lt (Nat.div_le_self _ _) (by decide)⟩
       have x4:=Nat.xor_lt_two_pow b0 b4
       have x5:=Nat.xor_lt_two_pow x4 b5
       have x6:=Nat.xor_lt_two_pow x5 b6
       have x7:=Nat.xor_lt_two_pow x6 b7
       have x9:=Nat.xor_lt_two_pow x7 b9
       clear small
       have hq1:(d0 ^^^ d4 ^^^ d5 ^^^ d6 ^^^ d7 ^^^ d9) &&& 1 ≤ 1:=Nat.and_le_right
       have t1:Int.toNat 1 = 1:=rfl
       have hX:sX (cInv b) i = d0 ^^^ d4 ^^^ d5 ^^^ d6 ^^^ d7 ^^^ d9:=by unfold sX;rw [n0,n4,n5,n6,n7,n9]
       obtain ⟨q,hq⟩:∃ q,(d0 ^^^ d4 ^^^ d5 ^^^ d6 ^^^ d7 ^^^ d9) &&& 1 = q:=⟨_,rfl⟩
       obtain ⟨m,hm⟩:∃ m,q * 2 ^ i = m:=⟨_,rfl⟩
       have eM:(q:Int) * 2 ^ i = (m:Int):=by rw [← hm];exact mul_cast q i
       have hml:m < 256:=by
        have h2:2 ^ i ≤ 2 ^ 7:=Nat.pow_le_pow_right (by decide) (by omega)
        rw [← hm]
        calc q * 2 ^ i ≤ 1 * 2 ^ 7:=Nat.mul_le_mul (by omega) h2
         _ < 256:=by decide
       have hrow:sRow (cInv b) i < 256:=sRow_lt _ _ (by omega)
       have hg:((rTab b).set b ((sRow (cInv b) i:Nat):Int)).getD (0 + b) 0 = (sRow (cInv b) i:Nat):=by
        rw [Nat.zero_add,List.getD_eq_getElem?_getD,List.getElem?_set_self (by omega)];rfl
       refine Side.intro fc ?_
       refine Side.intro fc ?_
       have hnext:sRow (cInv b) (i + 1) = sRow (cInv b) i ||| m:=by
        have e:sRow (cInv b) (i + 1) = sRow (cInv b) i ||| (sX (cInv b) i &&& 1) * 2 ^ i:=rfl
        rw [e,hX,hq,hm]
       have hset:((rTab b).set b ((sRow (cInv b) i:Nat):Int)).set b ((sRow (cInv b) i ||| m:Nat):Int) = (rTab b).set b ((sRow (cInv b) (i + 1):Nat):Int):=by
        rw [List.set_set,hnext]
       repeat (refine sd ?_)
       refine ⟨i + 1,by omega,by omega,Le.intro [] rfl fc rfl ⟨rfl,rfl,?_⟩ rfl⟩
       simp only [addQ_eq,Ix.val,Int.toNat_natCast,hu0,hu4,hu5,hu6,hu7,e0,e4,e5,e6,e7,e9,t1,hq,eM,hg]
       simp only [Nat.zero_add]
       exact hset.symm
      ·obtain rfl:i = 8:=by omega
       repeat (refine sd ?_)
       exact ⟨b + 1,by omega,by omega,Le.intro [] rfl fc rfl fc rfl⟩
  ·obtain rfl:b = 256:=by omega
   exact Ret.intro (.sl 1001 0 0 256 256) [(1001,.mem true 0 [(256,.ai (rTab 256))])] [(1001,(7,0,none))] rfl trivial ⟨rfl,rfl⟩ rfl fc rfl fc rfl
end Go.Proofs.Ytlbmkjckbfeejaa
namespace Go.Proofs.Ytlbmkjckbfeejaa
open Go Go.Sx
set_option maxRecDepth 1000000 in
theorem rRow_nat:(List.range 256).all (fun b=>Nat.beq (sRow (cInv b) 8) (natS.getD b 0)) = true:=by kernel_rfl
end Go.Proofs.Ytlbmkjckbfeejaa
namespace Go.Proofs.Ytlbmkjckbfeejaa
open Go Go.Sx
def zs (l:List Nat):List Int:=l.map Int.ofNat
theorem zs_length (l:List Nat):(zs l).length = l.length:=List.length_map _
theorem zs_getD (l:List Nat) (i:Nat):(zs l).getD i 0 = ((l.getD i 0:Nat):Int):=by
 unfold zs
 simp only [List.getD_eq_getElem?_getD,List.getElem?_map]
 cases l[i]? <;> rfl
theorem zs_set (l:List Nat) (i x:Nat):(zs l).set i (x:Int) = zs (l.set i x):=by
 unfold zs;rw [List.map_set];rfl
theorem rTab_get:∀ (b k:Nat),k < b→b ≤ 256→(rTab b)[k]? = some ((sRow (cInv k) 8:Nat):Int)
 | 0,k,h,_=>absurd h (Nat.not_lt_zero k)
 | b + 1,k,h,hb=>by
  simp only [rTab]
  by_cases e:b = k
  ·subst e
   rw [List.getElem?_set_self (by rw [rTab_length];omega)]
  ·rw [List.getElem?_set_ne e]
   exact rTab_get b k (by omega) (by omega)
theorem natS_length:natS.length = 256:=by rw [← tabS_nat,List.length_map,tabS_length]
theorem rTab_nat:rTab 256 = zs natS:=by
 apply List.ext_getElem?
 intro k
 by_cases hk:k < 256
 ·rw [rTab_get 256 k hk (Nat.le_refl _)]
  have h:=Nat.eq_of_beq_eq_true (List.all_eq_true.1 rRow_nat k (List.mem_range.2 hk))
  have hl:k < natS.length:=by rw [natS_length];exact hk
  unfold zs
  rw [List.getElem?_map,List.getElem?_eq_getElem hl,h,List.getD_eq_getElem?_getD,List.getElem?_eq_getElem hl]
  rfl
 ·rw [List.getElem?_eq_none (by rw [rTab_length];omega),List.getElem?_eq_none (by rw [zs_length,natS_length];omega)]
theorem natS_sub (x:UInt8):natS.getD x.toNat 0 = (tabS.getD x.toNat 0).toNat:=by
 rw [← tabS_nat,getD_map]
end Go.Proofs.Ytlbmkjckbfeejaa
