/- Walks. -/
import Derived.Test.YtimbdhpchlakfaaGreatHwSs3ToSg1
import Derived.Test.YtimbdhpchlakfaaGreatHwCu9ToCu13
set_option linter.unusedSimpArgs false
set_option linter.unusedVariables false
set_option maxHeartbeats 4000000
open List (replicate getD_eq_getElem?_getD length_set)
open Nat (le_refl zero_le zero_add div_div_eq_div_mul lt_or_ge not_lt_zero pow_mul)
open UInt8 (ofInt toNat_ofNat' ofNat)
open Int (natCast_pow add_mul)
set_option maxRecDepth 100000
namespace Go.Proofs.YtimbdhpchlakfaaGreat
open Go Go.Sx Go.Cu
@[irreducible] def vG (n:List UInt8):Pt:=basP.mul (lv n)
theorem xF (n:List UInt8):vG n = basP.mul (lv n):=by unfold vG;rfl
@[irreducible] def aIA (n:List UInt8):List UInt8:=rz (vG n)
theorem vw (n:List UInt8):aIA n = rz (vG n):=by unfold aIA;rfl
theorem om (n:List UInt8):(aIA n).length = 32:=by rw [vw];exact ol _
@[irreducible] def spB (s:List UInt8):List UInt8:=aIA (nuB s)
theorem aBT (s:List UInt8):spB s = aIA (nuB s):=by unfold spB;rfl
theorem fY (s:List UInt8):(spB s).length = 32:=by rw [aBT];exact om _
def pfB (s:List UInt8):List UInt8:=(cG s).drop 32
theorem aP5 (n:List UInt8) (hn:n.length = 32) (o:PL) (ho:PR o basP):Sx.Fn Γ.P 61 [.a8 n,ptV o True] [] (fun v _=>∃ (p:PL) (s:Prop),PS p s (vG n)/\v = ptV p s):=by
 have h:=aWH n hn o True basP ho.ps
 rw [<- xF] at h
 exact h
theorem aP7 (p:PL) (s:Prop) (n:List UInt8) (h:PS p s (vG n)):Sx.Fn Γ.P 60 [ptV p s] [] (fun v _=>v = .a8 (aIA n)):=by
 have h:=aWI p s _ h
 rw [<- vw] at h
 exact h
theorem aWR (s:List UInt8) (hs:s.length = 32):Sx.Fn Γ.P 37 [.a8 s] [] (fun v _=>v = .a8 (spB s)):=by
 have cS:=aWG s hs
 have lN:=fk s
 have cB:=aWF
 have e:=aBT s
 have l:=fY s
 rw [e] at l ⊢
 generalize nuB s = N at *
 have cM:=fun o ho=>aP5 N lN o ho
 have cE:=fun p r hp=>aP7 p r N hp
 clear e
 generalize aIA N = E at *
 generalize cG s = H at *
 refine aF (Γ:=Γ) (fn:=Tryz.f37) rfl rfl rfl rfl ?_
 repeat refine sd ?_
 refine Call.pure cS rfl fc ?_
 rintro _ rfl
 repeat (first|refine gi ?_|refine gt ?_|refine ga ?_|refine sd ?_)
 refine Call.pure cB rfl fc ?_
 rintro v ⟨o,ho,rfl⟩
 obtain ⟨o1,o2,o3,o4⟩:=ho.1.len
 have cM:=cM o ho
 unfold ptV at cM
 unfold ptV
 repeat (first|refine gi ?_|refine gt ?_|refine ga ?_|refine sd ?_)
 refine Call.pure cM rfl fc ?_
 rintro v ⟨p,r,hp,rfl⟩
 obtain ⟨p1,p2,p3,p4⟩:=hp.1
 have cE:=cE p r hp
 unfold ptV at cE
 repeat (first|refine gi ?_|refine gt ?_|refine ga ?_|refine sd ?_)
 refine Call.pure cE rfl fc ?_
 rintro _ rfl
 repeat (first|refine gi ?_|refine gt ?_|refine ga ?_|refine sd ?_)
 refine Ret.intro (.a8 E) [] [] rfl fc rfl rfl fc rfl fc rfl
open Go Go.Sx Go.Cu
open Go Go.Sx Go.Cu
def dgN (v:Nat):Nat->List Int
 | 0=>[]
 | n + 1=>((v % 65536:Nat):Int) :: dgN (v / 65536) n
theorem ik:∀ n v,(dgN v n).length = n
 | 0,_=>rfl
 | n + 1,v=>by show (dgN (v / 65536) n).length + 1 = n + 1;rw [ik n]
theorem rk:∀ n v i,i < n->(dgN v n).getD i 0 = ((v / 65536 ^ i % 65536:Nat):Int)
 | n + 1,v,0,_=>by show ((v % 65536:Nat):Int) = ((v / 1 % 65536:Nat):Int);rw [Nat.div_one]
 | n + 1,v,i + 1,h=>by
  show (dgN (v / 65536) n).getD i 0 = _
  rw [rk n (v / 65536) i (by omega),div_div_eq_div_mul,Nat.pow_succ']
theorem aES (n v:Nat):Dig (dgN v n):=by
 intro i
 rcases lt_or_ge i n with h | h
 ·rw [rk n v i h]
  have:=Nat.mod_lt (v / 65536 ^ i) (show 0 < 65536 by decide)
  omega
 ·rw [fJ (by rw [ik];exact h)];decide
theorem aEQ (x:Int) (l:List Int):∀ n,dv (x :: l) (n + 1) = x + 65536 * dv l n
 | 0=>by show (0:Int) + x * 1 = x + 65536 * 0;omega
 | n + 1=>by
  show dv (x :: l) (n + 1) + l.getD n 0 * 65536 ^ (n + 1) = x + 65536 * (dv l n + l.getD n 0 * 65536 ^ n)
  rw [aEQ x l n,Int.pow_succ,Int.mul_add]
  generalize (65536:Int) ^ n = p
  have:l.getD n 0 * (p * 65536) = 65536 * (l.getD n 0 * p):=by rw [<- Int.mul_assoc,Int.mul_comm]
  omega
theorem v9:∀ n v,dv (dgN v n) n = ((v % 65536 ^ n:Nat):Int)
 | 0,v=>by rw [Nat.pow_zero,Nat.mod_one];rfl
 | n + 1,v=>by
  show dv (((v % 65536:Nat):Int) :: dgN (v / 65536) n) (n + 1) = _
  rw [aEQ,v9 n,Nat.pow_succ',Nat.mod_mul]
  omega
theorem aID {l:List Int} {v n:Nat} (hl:l.length = n) (hd:Dig l) (h:dv l n = ((v % 65536 ^ n:Nat):Int)):l = dgN v n:=by
 have e:=aJ8 hd (aES n v) (n:=n) (by rw [v9,h])
 apply List.ext_getElem (by rw [hl,ik])
 intro i h1 h2
 have:=e i (by omega)
 rw [getD_eq_getElem?_getD,getD_eq_getElem?_getD,List.getElem?_eq_getElem h1,List.getElem?_eq_getElem h2] at this
 exact this
@[irreducible] def nmN (v:Nat):List Int:=dgN v 16
theorem ns (v:Nat):nmN v = dgN v 16:=by unfold nmN;rfl
theorem aP (v:Nat):(nmN v).length = 16:=by rw [ns];exact ik _ _
theorem jT (v:Nat):Dig (nmN v):=by rw [ns];exact aES _ _
theorem nt (v:Nat) {i:Nat} (h:i < 16):(nmN v).getD i 0 = ((v / 65536 ^ i % 65536:Nat):Int):=by rw [ns];exact rk _ _ _ h
theorem p16:(65536:Nat) ^ 16 = 115792089237316195423570985008687907853269984665640564039457584007913129639936:=by decide
theorem aOU:(65536:Int) ^ 16 = 115792089237316195423570985008687907853269984665640564039457584007913129639936:=by decide
theorem aCW {v:Nat} (h:v < 115792089237316195423570985008687907853269984665640564039457584007913129639936):dv (nmN v) 16 = (v:Int):=by
 rw [ns,v9,p16,Nat.mod_eq_of_lt h]
theorem iX {l:List Int} {v:Nat} (hl:l.length = 16) (hd:Dig l) (h:dv l 16 = (v:Int)):l = nmN v:=by
 rw [ns]
 refine aID hl hd ?_
 have hb:=(ab hd 16).2
 rw [h] at hb
 rw [h,Nat.mod_eq_of_lt]
 have e:((65536:Int) ^ 16) = (((65536:Nat) ^ 16:Nat):Int):=by decide
 rw [e] at hb
 omega
def nmF (x:F):List Int:=nmN x.val
theorem aC (x:F):(nmF x).length = 16:=aP _
theorem gJ (x:F):Dig (nmF x):=jT _
theorem aUB (x:F):x.val < 115792089237316195423570985008687907853269984665640564039457584007913129639936:=Nat.lt_trans x.isLt (by decide)
theorem gz (x:F):dv (nmF x) 16 = (x.val:Int):=aCW (aUB x)
theorem nu {x y:F} (h:nmF x = nmF y):x = y:=by
 have:=gz x
 rw [h,gz y] at this
 exact Fin.ext (by omega)
theorem aIF {d l:List Int} {n i:Nat} {c:Int} (hl:l.length = n) (hi:i < n) (hold:∀ j,i <= j->l.getD j 0 = d.getD j 0) (hv:dv l i + c * 65536 ^ i = dv d i) (_hc:0 <= c) :
  dv (l.set i ((c + l.getD i 0) % 65536)) (i + 1) + (c + l.getD i 0) / 65536 * 65536 ^ (i + 1) = dv d (i + 1)
  /\ ∀ j,i + 1 <= j->(l.set i ((c + l.getD i 0) % 65536)).getD j 0 = d.getD j 0:=by
 refine ⟨?_,fun j hj=>?_⟩
 ·rw [eu (by omega)]
  show _ = dv d i + d.getD i 0 * 65536 ^ i
  rw [hold i (le_refl _),<- hv,Int.pow_succ]
  generalize d.getD i 0 = x
  generalize (65536:Int) ^ i = p
  have e:=Int.emod_add_mul_ediv (c + x) 65536
  generalize (c + x) % 65536 = r at *
  generalize (c + x) / 65536 = q at *
  have e2:(r + 65536 * q) * p = r * p + q * (p * 65536):=by grind
  rw [e] at e2
  rw [add_mul] at e2
  omega
 ·rw [aA (by omega)];exact hold j (by omega)
theorem aER {l:List Int} {n i:Nat} {x:Int} (hl:l.length = n) (_hi:i < n) (h:∀ j,j < i->0 <= l.getD j 0/\l.getD j 0 < 65536):∀ j,j < i + 1->0 <= (l.set i (x % 65536)).getD j 0/\(l.set i (x % 65536)).getD j 0 < 65536:=by
 intro j hj
 by_cases hji:i = j
 ·subst hji
  rw [aH (by omega)]
  exact ⟨Int.emod_nonneg _ (by decide),Int.emod_lt_of_pos _ (by decide)⟩
 ·rw [aA hji];exact h j (by omega)
theorem aMT {l:List Int} {n:Nat} (hl:l.length = n) (h:∀ j,j < n->0 <= l.getD j 0/\l.getD j 0 < 65536):Dig l:=by
 intro j
 rcases lt_or_ge j n with hj | hj
 ·exact h j hj
 ·rw [fJ (by omega)];decide
theorem aMS {l:List Int} (h:Dig l) (x:Int):Dig (l ++ [x % 65536]):=by
 intro j
 have h0:=Int.emod_nonneg x (show (65536:Int) ≠ 0 by decide)
 have h1:=Int.emod_lt_of_pos x (show (0:Int) < 65536 by decide)
 rcases Nat.lt_trichotomy j l.length with hj | hj | hj
 ·rw [getD_eq_getElem?_getD,List.getElem?_append_left hj,<- getD_eq_getElem?_getD];exact h j
 ·rw [getD_eq_getElem?_getD,List.getElem?_append_right (by omega),hj,Nat.sub_self]
  exact ⟨h0,h1⟩
 ·rw [fJ (by rw [zlA];show l.length + 1 <= j;omega)];decide
theorem aMQ {l:List Int} {x:Int} {n:Nat} (h:n <= l.length):dv (l ++ [x]) n = dv l n:=
 kI fun i hi=>by rw [getD_eq_getElem?_getD,List.getElem?_append_left (by omega),<- getD_eq_getElem?_getD]
theorem aIO {l:List Int} {m:Nat} {c v:Int} (hl:l.length = m) (hv:dv l m + c * 65536 ^ m = v):dv (l ++ [c % 65536]) (m + 1) + c / 65536 * 65536 ^ (m + 1) = v:=by
 show dv (l ++ [c % 65536]) m + (l ++ [c % 65536]).getD m 0 * 65536 ^ m + _ = v
 rw [aMQ (by omega),getD_eq_getElem?_getD,List.getElem?_append_right (by omega),hl,Nat.sub_self,<- hv,Int.pow_succ]
 show dv l m + (c % 65536) * _ + _ = _
 generalize (65536:Int) ^ m = p
 have e:=Int.emod_add_mul_ediv c 65536
 generalize c % 65536 = r at *
 generalize c / 65536 = q at *
 rw [<- e];grind
theorem aIP {l:List Int} {m:Nat} {c v:Int} (hd:Dig l) (hv:dv l m + c * 65536 ^ m = v) (hc:0 < c) (hm:v < 65536 ^ 32):m < 32:=by
 apply Classical.byContradiction
 intro h
 have h0:=(ab hd m).1
 have hp:(65536:Int) ^ 32 <= 65536 ^ m:=by
  have:(65536:Nat) ^ 32 <= 65536 ^ m:=Nat.pow_le_pow_right (by decide) (by omega)
  have e1:((65536:Int) ^ 32) = (((65536:Nat) ^ 32:Nat):Int):=by rw [natCast_pow];rfl
  have e2:((65536:Int) ^ m) = (((65536:Nat) ^ m:Nat):Int):=by rw [natCast_pow];rfl
  rw [e1,e2];exact Int.ofNat_le.2 this
 have h1:1 * 65536 ^ m <= c * 65536 ^ m:=Int.mul_le_mul_of_nonneg_right (by omega) (by have:=so m;omega)
 omega
theorem vz (l:List Int) (k:Nat):∀ n,dv l (k + n) = dv l k + 65536 ^ k * dv (l.drop k) n
 | 0=>by show dv l k = dv l k + 65536 ^ k * 0;omega
 | n + 1=>by
  show dv l (k + n) + l.getD (k + n) 0 * 65536 ^ (k + n) = dv l k + 65536 ^ k * (dv (l.drop k) n + (l.drop k).getD n 0 * 65536 ^ n)
  rw [vz l k n,Int.pow_add]
  have e:(l.drop k).getD n 0 = l.getD (k + n) 0:=by rw [getD_eq_getElem?_getD,List.getElem?_drop,<- getD_eq_getElem?_getD]
  rw [e]
  generalize (65536:Int) ^ k = p
  generalize (65536:Int) ^ n = q
  grind
theorem lh {l:List Int} {i n:Nat} {x:Int} (hl:l.length = n) (hi:i < n):dv (l.set i (l.getD i 0 + x)) n = dv l n + x * 65536 ^ i:=by
 have h:∀ m,i < m->dv (l.set i (l.getD i 0 + x)) m = dv l m + x * 65536 ^ i:=by
  intro m
  induction m with
  | zero=>intro h;omega
  | succ m ih=>
   intro hm
   by_cases h2:i = m
   ·subst h2
    rw [eu (by omega)]
    show _ = dv l i + l.getD i 0 * 65536 ^ i + x * 65536 ^ i
    rw [add_mul];omega
   ·show dv (l.set i (l.getD i 0 + x)) m + (l.set i (l.getD i 0 + x)).getD m 0 * 65536 ^ m = dv l m + l.getD m 0 * 65536 ^ m + x * 65536 ^ i
    rw [ih (by omega),aA (by omega)]
    omega
 exact h n hi
structure FoI (d e:List Int) (i:Nat):Prop where
 len:e.length = 16
 val:dv e 16 = dv d (min i 16) + 38 * dv (d.drop 16) (i - 16)
 nn:∀ j,0 <= e.getD j 0
 zero:∀ j,i <= j->e.getD j 0 = 0
 one:∀ j,i <= j + 16->e.getD j 0 < 65536
 two:∀ j,e.getD j 0 <= 2555865
theorem aTJ (d:List Int):FoI d (replicate 16 0) 0:=by
 have hz:∀ j,(replicate 16 (0:Int)).getD j 0 = 0:=by
  intro j
  rw [getD_eq_getElem?_getD,List.getElem?_replicate]
  split <;> rfl
 refine ⟨rfl,by rw [x8];rfl,fun j=>?_,fun j _=>hz j,fun j _=>?_,fun j=>?_⟩ <;> rw [hz j] <;> decide
theorem aMC {d e:List Int} {i:Nat} (h:FoI d e i) (hd:Dig d) (hi:i < 16):FoI d (e.set i (e.getD i 0 + d.getD i 0)) (i + 1):=by
 obtain ⟨h1,h2,h3,h4,h5,h6⟩:=h
 have z:=h4 i (le_refl _)
 obtain ⟨x0,x1⟩:=hd i
 refine ⟨by rw [length_set];exact h1,?_,fun j=>?_,fun j hj=>?_,fun j hj=>?_,fun j=>?_⟩
 ·rw [lh h1 hi,h2,Nat.min_eq_left (by omega),Nat.min_eq_left (by omega),show i - 16 = 0 by omega,show i + 1 - 16 = 0 by omega]
  show _ = dv d i + d.getD i 0 * 65536 ^ i + _
  omega
 ·by_cases hj:i = j
  ·subst hj;rw [aH (by omega),z];omega
  ·rw [aA hj];exact h3 j
 ·rw [aA (by omega)];exact h4 j (by omega)
 ·by_cases hj:i = j
  ·subst hj;rw [aH (by omega),z];omega
  ·rw [aA hj];exact h5 j (by omega)
 ·by_cases hj:i = j
  ·subst hj;rw [aH (by omega),z];omega
  ·rw [aA hj];exact h6 j
theorem aHS {d e:List Int} {i:Nat} (h:FoI d e i) (hd:Dig d) (hi:16 <= i) (hi2:i < 32):FoI d (e.set (i - 16) (e.getD (i - 16) 0 + 38 * d.getD i 0)) (i + 1):=by
 obtain ⟨h1,h2,h3,h4,h5,h6⟩:=h
 have z:=h5 (i - 16) (by omega)
 have n0:=h3 (i - 16)
 obtain ⟨x0,x1⟩:=hd i
 refine ⟨by rw [length_set];exact h1,?_,fun j=>?_,fun j hj=>?_,fun j hj=>?_,fun j=>?_⟩
 ·rw [lh h1 (by omega),h2,Nat.min_eq_right (by omega),Nat.min_eq_right (by omega),show i + 1 - 16 = i - 16 + 1 by omega]
  show _ = dv d 16 + 38 * (dv (d.drop 16) (i - 16) + (d.drop 16).getD (i - 16) 0 * 65536 ^ (i - 16))
  have e:(d.drop 16).getD (i - 16) 0 = d.getD i 0:=by rw [getD_eq_getElem?_getD,List.getElem?_drop,<- getD_eq_getElem?_getD];congr 1;omega
  rw [e,Int.mul_add,Int.mul_assoc];omega
 ·by_cases hj:i - 16 = j
  ·subst hj;rw [aH (by omega)];omega
  ·rw [aA hj];exact h3 j
 ·rw [aA (by omega)];exact h4 j (by omega)
 ·rw [aA (by omega)];exact h5 j (by omega)
 ·by_cases hj:i - 16 = j
  ·subst hj;rw [aH (by omega)];omega
  ·rw [aA hj];exact h6 j
theorem aMD {d e:List Int} {m:Nat} (h:FoI d e m) (hd:Dig d) (hm:16 <= m):dv e 16 <= dv d m/\0 <= dv e 16/\dv e 16 % 57896044618658097711785492504343953926634992332820282019728792003956564819949 = dv d m % 57896044618658097711785492504343953926634992332820282019728792003956564819949:=by
 have hv:=h.val
 rw [Nat.min_eq_right hm] at hv
 have hs:=vz d 16 (m - 16)
 rw [show 16 + (m - 16) = m by omega,aOU] at hs
 have hdd:Dig (d.drop 16):=by
  intro j
  rw [getD_eq_getElem?_getD,List.getElem?_drop,<- getD_eq_getElem?_getD];exact hd _
 have b1:=(ab hdd (m - 16)).1
 have b0:=(ab hd 16).1
 generalize dv (d.drop 16) (m - 16) = x at *
 rw [hv,hs]
 generalize dv d 16 = y at *
 refine ⟨by omega,by omega,?_⟩
 have e:y + 115792089237316195423570985008687907853269984665640564039457584007913129639936 * x = y + 38 * x + 57896044618658097711785492504343953926634992332820282019728792003956564819949 * (2 * x):=by omega
 rw [e,Int.add_mul_emod_self_left]
def prD:List Int:=[65517,65535,65535,65535,65535,65535,65535,65535,65535,65535,65535,65535,65535,65535,65535,32767]
theorem aI6:prD = nmN aB:=iX rfl (by
  intro i
  match i with
  | 0 | 1 | 2 | 3 | 4 | 5 | 6 | 7 | 8 | 9 | 10 | 11 | 12 | 13 | 14 | 15=>exact ⟨by decide,by decide⟩
  | n + 16=>rw [fJ (by show 16 <= n + 16;omega)];decide) (by decide +kernel)
theorem jM:Dig prD:=by rw [aI6];exact jT _
theorem u5:dv prD 16 = 57896044618658097711785492504343953926634992332820282019728792003956564819949:=by decide +kernel
def fz (v:Int):F:=fn (v.toNat)
theorem aPU {a b:Int} (ha:0 <= a) (hb:0 <= b) (h:a % 57896044618658097711785492504343953926634992332820282019728792003956564819949 = b % 57896044618658097711785492504343953926634992332820282019728792003956564819949):fz a = fz b:=by
 unfold fz
 refine aJ1 ?_
 unfold aB
 omega
theorem xh (v:Nat):fz (v:Int) = fn v:=by unfold fz;rw [zIn]
theorem aHM {l:List Int} (hl:l.length = 16) (hd:Dig l) (h:dv l 16 < 57896044618658097711785492504343953926634992332820282019728792003956564819949):l = nmF (fz (dv l 16)):=by
 have h0:=(ab hd 16).1
 unfold nmF fz
 refine iX hl hd ?_
 rw [oZ,Nat.mod_eq_of_lt (by unfold aB;omega),Int.toNat_of_nonneg h0]
open Go Go.Sx Go.Cu
structure MuI (a b d:List Int) (i k:Nat):Prop where
 len:d.length = 31
 val:dv d 31 = dv a i * dv b 16 + a.getD i 0 * 65536 ^ i * dv b k
 nn:∀ j,0 <= d.getD j 0
 hi:∀ j,d.getD j 0 <= (i + 1) * 4294836225
 lo:∀ j,i + k <= j->d.getD j 0 <= i * 4294836225
theorem aS6 (a b:List Int):MuI a b (replicate 31 0) 0 0:=by
 have hz:∀ j,(replicate 31 (0:Int)).getD j 0 = 0:=by
  intro j
  rw [getD_eq_getElem?_getD,List.getElem?_replicate]
  split <;> rfl
 refine ⟨rfl,?_,fun j=>?_,fun j=>?_,fun j _=>?_⟩
 ·rw [x8];show (0:Int) = 0 * dv b 16 + _ * 0;omega
 ·rw [hz j];decide
 ·rw [hz j];decide
 ·rw [hz j];decide
theorem aI5 {x y:Int} (hx:0 <= x) (hx1:x < 65536) (hy:0 <= y) (hy1:y < 65536):0 <= x * y/\x * y <= 4294836225:=by
 have h1:x * y <= 65535 * y:=Int.mul_le_mul_of_nonneg_right (by omega) hy
 exact ⟨Int.mul_nonneg hx hy,by omega⟩
theorem aG4 {a b d:List Int} {i k:Nat} (h:MuI a b d i k) (ha:Dig a) (hb:Dig b) (hi:i < 16) (hk:k < 16):MuI a b (d.set (i + k) (d.getD (i + k) 0 + a.getD i 0 * b.getD k 0)) i (k + 1):=by
 obtain ⟨h1,h2,h3,h4,h5⟩:=h
 have z:=h5 (i + k) (le_refl _)
 have n0:=h3 (i + k)
 obtain ⟨x0,x1⟩:=ha i
 obtain ⟨y0,y1⟩:=hb k
 obtain ⟨p0,p1⟩:=aI5 x0 x1 y0 y1
 have e:((i:Int) + 1) * 4294836225 = i * 4294836225 + 4294836225:=by omega
 refine ⟨by rw [length_set];exact h1,?_,fun j=>?_,fun j=>?_,fun j hj=>?_⟩
 ·rw [lh h1 (by omega),h2]
  show _ = dv a i * dv b 16 + a.getD i 0 * 65536 ^ i * (dv b k + b.getD k 0 * 65536 ^ k)
  rw [Int.pow_add]
  generalize (65536:Int) ^ i = p
  generalize (65536:Int) ^ k = q
  grind
 ·by_cases hj:i + k = j
  ·subst hj;rw [aH (by omega)];omega
  ·rw [aA hj];exact h3 j
 ·by_cases hj:i + k = j
  ·subst hj;rw [aH (by omega)];omega
  ·rw [aA hj];exact h4 j
 ·rw [aA (by omega)];exact h5 j (by omega)
theorem aLR {a b d:List Int} {i:Nat} (h:MuI a b d i 16):MuI a b d (i + 1) 0:=by
 obtain ⟨h1,h2,h3,h4,h5⟩:=h
 refine ⟨h1,?_,h3,fun j=>?_,fun j _=>?_⟩
 ·rw [h2]
  show _ = (dv a i + a.getD i 0 * 65536 ^ i) * dv b 16 + _ * 0
  rw [add_mul];omega
 ·have:=h4 j;omega
 ·have:=h4 j;omega
theorem aLS {a b d:List Int} (h:MuI a b d 16 0):dv d 31 = dv a 16 * dv b 16/\∀ j,d.getD j 0 < 35184372088832:=by
 obtain ⟨h1,h2,h3,h4,h5⟩:=h
 refine ⟨?_,fun j=>?_⟩
 ·rw [h2];show _ + _ * 0 = _;omega
 ·have:=h4 j;omega
theorem aO5 {e i:Nat} (hi:i < 256):((nmN e).getD (i / 16) 0 / 2 ^ (i % 16)).toNat &&& 1 = e / 2 ^ i % 2:=by
 rw [nt e (by omega)]
 have e1:(((e / 65536 ^ (i / 16) % 65536:Nat):Int) / 2 ^ (i % 16)).toNat = e / 65536 ^ (i / 16) % 65536 / 2 ^ (i % 16):=by
  have:((2:Int) ^ (i % 16)) = ((2 ^ (i % 16):Nat):Int):=by rw [natCast_pow];rfl
  rw [this,<- Int.natCast_ediv,zIn]
 rw [e1,show (1:Nat) = 2 ^ 1 - 1 from rfl,Nat.and_two_pow_sub_one_eq_mod]
 have e2:(2:Nat) ^ i = 65536 ^ (i / 16) * 2 ^ (i % 16):=by
  rw [show (65536:Nat) = 2 ^ 16 from rfl,<- pow_mul,<- Nat.pow_add]
  congr 1;omega
 rw [e2,<- div_div_eq_div_mul]
 generalize e / 65536 ^ (i / 16) = w
 have hm:i % 16 < 16:=Nat.mod_lt _ (by omega)
 generalize i % 16 = m at hm
 have:m = 0 \/ m = 1 \/ m = 2 \/ m = 3 \/ m = 4 \/ m = 5 \/ m = 6 \/ m = 7 \/ m = 8 \/ m = 9 \/ m = 10 \/ m = 11 \/ m = 12 \/ m = 13 \/ m = 14 \/ m = 15:=by omega
 rcases this with rfl | rfl | rfl | rfl | rfl | rfl | rfl | rfl | rfl | rfl | rfl | rfl | rfl | rfl | rfl | rfl <;> (simp only [Nat.reducePow];omega)
theorem aOR (a:F) (e i:Nat):pw a (e / 2 ^ i) = if e / 2 ^ i % 2 = 1 then pw a (e / 2 ^ (i + 1)) * pw a (e / 2 ^ (i + 1)) * a else pw a (e / 2 ^ (i + 1)) * pw a (e / 2 ^ (i + 1)):=by
 have h:e / 2 ^ (i + 1) = e / 2 ^ i / 2:=by rw [Nat.pow_succ,div_div_eq_div_mul]
 rw [h,<- qG]
 generalize e / 2 ^ i = x
 split
 ·have:x = x / 2 + x / 2 + 1:=by omega
  conv=>lhs;rw [this]
  rfl
 ·congr 1;omega
def hfS (l:List Int):Nat->List Int
 | 0=>l
 | i + 1=>if i < 15 then ((hfS l i).set i ((hfS l i).getD i 0 / 2)).set i (((hfS l i).set i ((hfS l i).getD i 0 / 2)).getD i 0 + (hfS l i).getD (i + 1) 0 % 2 * 32768) else (hfS l i).set i ((hfS l i).getD i 0 / 2)
theorem ic {l:List Int} (h:l.length = 16):∀ i,(hfS l i).length = 16
 | 0=>h
 | i + 1=>by simp only [hfS];split <;> simp only [length_set,ic h i]
theorem vq {l:List Int} (h:l.length = 16) (hd:Dig l):∀ i,i <= 16->(∀ j,i <= j->(hfS l i).getD j 0 = l.getD j 0)/\(∀ j,j < i->(hfS l i).getD j 0 = (l.getD j 0 + 65536 * l.getD (j + 1) 0) / 2 % 65536)
 | 0,_=>⟨fun _ _=>rfl,fun j hj=>by omega⟩
 | i + 1,hi=>by
  obtain ⟨h1,h2⟩:=vq h hd i (by omega)
  have hl:=ic h i
  have hx:=h1 i (le_refl _)
  have hy:=h1 (i + 1) (by omega)
  obtain ⟨x0,x1⟩:=hd i
  obtain ⟨y0,y1⟩:=hd (i + 1)
  simp only [hfS]
  rw [hx,hy]
  split
  ·refine ⟨fun j hj=>?_,fun j hj=>?_⟩
   ·rw [aA (by omega),aA (by omega)];exact h1 j (by omega)
   ·by_cases hji:i = j
    ·subst hji
     rw [aH (by rw [length_set];omega),aH (by omega)];omega
    ·rw [aA hji,aA hji];exact h2 j (by omega)
  ·refine ⟨fun j hj=>?_,fun j hj=>?_⟩
   ·rw [aA (by omega)];exact h1 j (by omega)
   ·by_cases hji:i = j
    ·subst hji
     rw [aH (by omega)]
     have:l.getD (i + 1) 0 = 0:=fJ (by omega)
     omega
    ·rw [aA hji];exact h2 j (by omega)
theorem tj {A B:List Int} {n:Nat} (ha:A.length = n) (hb:B.length = n) (h:∀ i,i < n->A.getD i 0 = B.getD i 0):A = B:=by
 apply List.ext_getElem (by rw [ha,hb])
 intro i h1 h2
 have:=h i (by omega)
 rw [getD_eq_getElem?_getD,getD_eq_getElem?_getD,List.getElem?_eq_getElem h1,List.getElem?_eq_getElem h2] at this
 exact this
theorem aMB {e:Nat} (h:e < 115792089237316195423570985008687907853269984665640564039457584007913129639936):hfS (nmN e) 16 = nmN (e / 2):=by
 refine tj (n:=16) (ic (aP e) 16) (aP _) fun i hi=>?_
 rw [(vq (aP e) (jT e) 16 (le_refl _)).2 i hi,nt e hi,nt (e / 2) hi]
 have e2:(nmN e).getD (i + 1) 0 = ((e / 65536 ^ i / 65536 % 65536:Nat):Int):=by
  rw [div_div_eq_div_mul,<- Nat.pow_succ]
  by_cases h15:i + 1 < 16
  ·rw [nt e h15]
  ·obtain rfl:i = 15:=by omega
   rw [fJ (by rw [aP];omega),Nat.div_eq_of_lt (by omega)];rfl
 have e3:e / 2 / 65536 ^ i = e / 65536 ^ i / 2:=by rw [div_div_eq_div_mul,Nat.mul_comm 2,<- div_div_eq_div_mul]
 rw [e2,e3]
 generalize e / 65536 ^ i = w
 omega
open Go Go.Sx Go.Cu
theorem aD5:Sx.Fn Γ.P 130 [] [] (fun v _=>v = .ai prD):=by
 refine aF (Γ:=Γ) (fn:=Tryz.f130) rfl rfl rfl rfl ?_
 repeat refine sd ?_
 refine Ret.intro (.ai prD) [] [] rfl fc rfl rfl fc rfl fc rfl
theorem aTV (a b:List Int) (ha:Dig a) (hb:Dig b) (hla:a.length = 16) (hlb:b.length = 16) :
  Sx.Fn Γ.P 160 [.ai a,.ai b] [] (fun v _=>v = .bool (dv a 16 < dv b 16)):=by
 refine aF (Γ:=Γ) (fn:=Tryz.f160) rfl rfl rfl rfl ?_
 repeat refine sd ?_
 refine ac.intro (σ:=Nat) (fun k=>k <= 16/\∀ j,16 - k <= j->j < 16->a.getD j 0 = b.getD j 0)
  (fun k=>([(2,.ptr 2 0 none),(3,.ptr 3 0 none),(5,.i .i64 (15 - (k:Int)))],[(2,.mem true 0 [(16,.ai a)]),(3,.mem true 0 [(16,.ai b)])])) (fun k=>16 - k) 0 ⟨zero_le _,fun j h1 h2=>by omega⟩ ?_ ?_
 ·refine Le.intro [] rfl fc rfl ?_ rfl
  exact fc
 rintro k ⟨hk,hs⟩
 refine zB.intro (fun hc=>?_) (fun hc=>?_)
 ·have hc:(15 - (k:Int)) ≥ 0:=hc
  have e0:(15 - (k:Int)).toNat = 15 - k:=by omega
  refine aI.intro [[],[0],[0,1],[],[3],[3,4],r_6] r_7 (by kernel_rfl) ?_
  repeat refine sdF ?_
  refine zB.intro (fun hd=>?_) (fun hd=>?_)
  ·have hd:¬ a.getD (ge 0 (15 - (k:Int)).toNat) 0 = b.getD (ge 0 (15 - (k:Int)).toNat) 0:=hd
   rw [zQ,zero_add,e0] at hd
   refine aI.intro [[],[0],[0,1],[],[3],[3,4],r_6,r_7] r_8 (by kernel_rfl) ?_
   repeat refine sdF ?_
   refine Ret.intro (.bool (dv a 16 < dv b 16)) [] [] rfl trivial rfl rfl ?_ rfl ?_ rfl
   ·show dv a 16 < dv b 16 ↔ a.getD (ge 0 (15 - (k:Int)).toNat) 0 < b.getD (ge 0 (15 - (k:Int)).toNat) 0
    rw [zQ,zero_add,e0]
    have h1:∀ j,15 - k < j->j < 16->a.getD j 0 = b.getD j 0:=fun j h1 h2=>hs j (by omega) h2
    constructor
    ·intro h
     rcases Int.lt_or_le (a.getD (15 - k) 0) (b.getD (15 - k) 0) with h2 | h2
     ·exact h2
     ·have:=aQU hb ha (n:=16) (i:=15 - k) (by omega) (by omega) fun j h3 h4=>(h1 j h3 h4).symm
      omega
    ·intro h
     exact aQU ha hb (by omega) h h1
   ·exact fc
  ·have hd:¬ ¬ a.getD (ge 0 (15 - (k:Int)).toNat) 0 = b.getD (ge 0 (15 - (k:Int)).toNat) 0:=hd
   rw [zQ,zero_add,e0] at hd
   repeat refine sd ?_
   refine ⟨k + 1,⟨by omega,fun j h1 h2=>?_⟩,by omega,Le.intro [] rfl fc rfl ?_ rfl⟩
   ·by_cases hj:j = 15 - k
    ·subst hj;omega
    ·exact hs j (by omega) h2
   ·exact fc
 ·have hc:¬ (15 - (k:Int)) ≥ 0:=hc
  have e:dv a 16 = dv b 16:=kI fun i hi=>hs i (by omega) hi
  repeat refine sd ?_
  refine Ret.intro (.bool (dv a 16 < dv b 16)) [] [] rfl trivial rfl rfl ?_ rfl ?_ rfl
  ·show ¬ dv a 16 < dv b 16
   omega
  ·exact fc
theorem aH4 (a b:List Int) (ha:Dig a) (hb:Dig b) (hla:a.length = 16) (hlb:b.length = 16) :
  Sx.Fn Γ.P 129 [.ai a,.ai b] [] (fun v _=>v = .ai (sbS a b 16).1):=by
 refine aF (Γ:=Γ) (fn:=Tryz.f129) rfl rfl rfl rfl ?_
 repeat refine sd ?_
 refine ac.intro (σ:=Nat) (fun i=>i <= 16)
  (fun i=>([(2,.ptr 2 0 none),(3,.ptr 3 0 none),(4,.ptr 4 0 none),(5,.i .i64 (sbS a b i).2),(6,.i .i64 i)],[(2,.mem true 0 [(16,.ai (sbS a b i).1)]),(3,.mem true 0 [(16,.ai b)]),(4,.mem true 0 [(16,.ai (replicate 16 0))])])) (fun i=>16 - i) 0 (zero_le _) ?_ ?_
 ·have z1:(sbS a b 0).1 = a:=rfl
  have z2:(sbS a b 0).2 = 0:=rfl
  refine Le.intro [] rfl fc rfl fc rfl
 rintro i hi
 obtain ⟨s1,s2,s3⟩:=uq ha hb i
 have sl:=cJ a b i
 rw [hla] at sl
 refine zB.intro (fun hc=>?_) (fun hc=>?_)
 ·have hc:(i:Int) < 16:=hc
  have hai:=s1 i
  have hbi:=hb i
  have hx:sbS a b (i + 1) = if (sbS a b i).1.getD i 0 - b.getD i 0 - (sbS a b i).2 < 0 then ((sbS a b i).1.set i ((sbS a b i).1.getD i 0 - b.getD i 0 - (sbS a b i).2 + 65536),1)
   else ((sbS a b i).1.set i ((sbS a b i).1.getD i 0 - b.getD i 0 - (sbS a b i).2),0):=rfl
  generalize (sbS a b i).1 = X at *
  generalize (sbS a b i).2 = C at *
  refine aI.intro [[],[0],[0,1],[],[3],[3,4],r_6,[],r_8,r_9] fi (by kernel_rfl) ?_
  repeat refine sdn ?_
  refine zB.intro (fun hd=>?_) (fun hd=>?_)
  ·have hd:X.getD (ge 0 (i:Int).toNat) 0 - b.getD (ge 0 (i:Int).toNat) 0 - C < 0:=hd
   rw [zQ,zero_add,zIn] at hd
   rw [if_pos hd] at hx
   have hx1:(sbS a b (i + 1)).1 = X.set i (X.getD i 0 - b.getD i 0 - C + 65536):=by rw [hx]
   have hx2:(sbS a b (i + 1)).2 = 1:=by rw [hx]
   clear hx
   repeat refine sdn ?_
   refine ⟨i + 1,by omega,by omega,Le.intro [] rfl ?_ rfl ?_ rfl⟩
   ·exact fcn
   ·exact fcn
  ·have hd:¬ X.getD (ge 0 (i:Int).toNat) 0 - b.getD (ge 0 (i:Int).toNat) 0 - C < 0:=hd
   rw [zQ,zero_add,zIn] at hd
   rw [if_neg hd] at hx
   have hx1:(sbS a b (i + 1)).1 = X.set i (X.getD i 0 - b.getD i 0 - C):=by rw [hx]
   have hx2:(sbS a b (i + 1)).2 = 0:=by rw [hx]
   clear hx
   repeat refine sdn ?_
   refine ⟨i + 1,by omega,by omega,Le.intro [] rfl ?_ rfl ?_ rfl⟩
   ·exact fcn
   ·exact fcn
 ·obtain rfl:i = 16:=by have hc:¬ (i:Int) < 16:=hc;omega
  generalize (sbS a b 16).1 = X at *
  repeat refine sd ?_
  refine Ret.intro (.ai X) [] [] rfl fc rfl rfl fc rfl fc rfl
theorem ml {a b:List Int} (ha:Dig a) (hb:Dig b) (hla:a.length = 16) (h:dv b 16 <= dv a 16) :
  (sbS a b 16).1.length = 16/\Dig (sbS a b 16).1/\dv (sbS a b 16).1 16 = dv a 16 - dv b 16:=by
 have hv:=aB3 a b 16 (by omega)
 obtain ⟨s1,s2,s3⟩:=uq ha hb 16
 obtain ⟨b1,b2⟩:=ab s1 16
 have hc:(sbS a b 16).2 = 0:=by
  rcases Int.lt_or_le (sbS a b 16).2 1 with h3 | h3
  ·omega
  ·have h4:(sbS a b 16).2 = 1:=by omega
   rw [h4] at hv
   omega
 rw [hc] at hv
 exact ⟨by rw [cJ];exact hla,s1,by omega⟩
open Go Go.Sx Go.Cu
theorem aOV {m:Nat} (h:16 <= m):(115792089237316195423570985008687907853269984665640564039457584007913129639936:Int) <= 65536 ^ m:=by
 have:(65536:Nat) ^ 16 <= 65536 ^ m:=Nat.pow_le_pow_right (by decide) h
 have e2:((65536:Int) ^ m) = (((65536:Nat) ^ m:Nat):Int):=by rw [natCast_pow];rfl
 rw [e2,<- aOU,show ((65536:Int) ^ 16) = (((65536:Nat) ^ 16:Nat):Int) by decide]
 exact Int.ofNat_le.2 this
theorem aM9 {l:List Int} {m:Nat} {c v:Int} (hd:Dig l) (hv:dv l m + c * 65536 ^ m = v) (hc:0 < c) (hm:16 <= m):115792089237316195423570985008687907853269984665640564039457584007913129639936 <= v:=by
 have h0:=(ab hd m).1
 have h1:1 * 65536 ^ m <= c * 65536 ^ m:=Int.mul_le_mul_of_nonneg_right (by omega) (by have:=so m;omega)
 have h2:=aOV hm
 omega
theorem aHR {d e:List Int} {m:Nat} (h:FoI d e m) (hd:Dig d) (hm:16 <= m) (hv:115792089237316195423570985008687907853269984665640564039457584007913129639936 <= dv d m):dv e 16 + 100 < dv d m:=by
 have hv2:=h.val
 rw [Nat.min_eq_right hm] at hv2
 have hs:=vz d 16 (m - 16)
 rw [show 16 + (m - 16) = m by omega,aOU] at hs
 have b0:=(ab hd 16).2
 rw [aOU] at b0
 generalize dv (d.drop 16) (m - 16) = x at *
 rw [hs] at hv ⊢
 rw [hv2]
 generalize dv d 16 = y at *
 omega
theorem aH6 (d:List Int) (n c0:Nat) (hl:d.length = n) (hn:n <= 31) (hnc:n <= c0) (hd:∀ j,0 <= d.getD j 0/\d.getD j 0 < 35184372088832) (h0:0 <= dv d n) (hv:dv d n < 65536 ^ 32) :
  Sx.Fn Γ.P 125 [.sl 1000 0 0 n c0] [(1000,.mem true (c0 - n) [(n,.ai d)])] (fun v M=>v = .ai (nmF (fz (dv d n)))/\M = [(1000,.dead)]):=by
 have hP:=aD5
 have hpl:prD.length = 16:=rfl
 have pd:=jM
 have pv:=u5
 obtain ⟨prime,hprime⟩:∃ p,prD = p:=⟨_,rfl⟩
 rw [hprime] at hP hpl pd pv
 refine aF (Γ:=Γ) (fn:=Tryz.f125) rfl rfl rfl rfl ?_
 repeat refine sd ?_
 refine ac.intro (σ:=List Int × Nat × Nat) (fun s=>s.1.length = s.2.1/\s.2.1 <= s.2.2/\s.2.1 <= 31/\(∀ j,0 <= s.1.getD j 0/\s.1.getD j 0 < 35184372088832)/\0 <= dv s.1 s.2.1/\dv s.1 s.2.1 < 65536 ^ 32
   /\ dv s.1 s.2.1 % 57896044618658097711785492504343953926634992332820282019728792003956564819949 = dv d n % 57896044618658097711785492504343953926634992332820282019728792003956564819949)
  (fun s=>([(0,.sl 203 0 0 s.2.1 s.2.2),(2,.ptr 2 0 none),(3,.ptr 3 0 none)],
   [(1000,.dead),(203,.mem true (s.2.2 - s.2.1) [(s.2.1,.ai s.1)]),(2,.mem true 0 [(16,.ai (replicate 16 0))]),(3,.mem true 0 [(16,.ai (replicate 16 0))])]))
  (fun s=>(dv s.1 s.2.1).toNat + s.2.1) (d,n,c0) ⟨hl,hnc,hn,hd,h0,hv,rfl⟩ ?_ ?_
 ·refine Le.intro [(203,(1000,0,none))] rfl fc rfl fc rfl
 rintro ⟨d1,n1,c1⟩ ⟨hl1,hnc1,hn1,hd1,h01,hv1,hm1⟩
 have hl1:d1.length = n1:=hl1
 have hnc1:n1 <= c1:=hnc1
 have hn1:n1 <= 31:=hn1
 have hd1:∀ j,0 <= d1.getD j 0/\d1.getD j 0 < 35184372088832:=hd1
 have h01:0 <= dv d1 n1:=h01
 have hv1:dv d1 n1 < 65536 ^ 32:=hv1
 have hm1:dv d1 n1 % 57896044618658097711785492504343953926634992332820282019728792003956564819949 = dv d n % 57896044618658097711785492504343953926634992332820282019728792003956564819949:=hm1
 clear hv hd hnc hn hl
 repeat refine sd ?_
 refine ac.intro (σ:=List Int × Nat × Int) (fun s=>s.1.length = n1/\s.2.1 <= n1/\(∀ j,j < s.2.1->0 <= s.1.getD j 0/\s.1.getD j 0 < 65536)/\(∀ j,s.2.1 <= j->s.1.getD j 0 = d1.getD j 0)/\dv s.1 s.2.1 + s.2.2 * 65536 ^ s.2.1 = dv d1 s.2.1/\0 <= s.2.2/\s.2.2 < 35184372088832)
  (fun s=>([(0,.sl 203 0 0 n1 c1),(2,.ptr 2 0 none),(3,.ptr 3 0 none),(4,.i .i64 s.2.2),(5,.i .i64 s.2.1)],
   [(1000,.dead),(203,.mem true (c1 - n1) [(n1,.ai s.1)]),(2,.mem true 0 [(16,.ai (replicate 16 0))]),(3,.mem true 0 [(16,.ai (replicate 16 0))])]))
  (fun s=>n1 - s.2.1) (d1,0,0) ⟨hl1,zero_le _,fun j hj=>absurd hj (not_lt_zero _),fun _ _=>rfl,by show (0:Int) + 0 * 65536 ^ 0 = 0;decide,Int.le_refl _,by show (0:Int) < 35184372088832;decide⟩ ?_ ?_
 ·refine Le.intro [] rfl fc rfl fc rfl
 rintro ⟨l,i,c⟩ ⟨a1,a2,a3,a4,a5,a6,a7⟩
 have a1:l.length = n1:=a1
 have a2:i <= n1:=a2
 have a3:∀ j,j < i->0 <= l.getD j 0/\l.getD j 0 < 65536:=a3
 have a4:∀ j,i <= j->l.getD j 0 = d1.getD j 0:=a4
 have a5:dv l i + c * 65536 ^ i = dv d1 i:=a5
 have a6:0 <= c:=a6
 have a7:c < 35184372088832:=a7
 refine zB.intro (fun hc=>?_) (fun hc=>?_)
 ·have hc:(i:Int) < n1:=hc
  have hx:=a4 i (le_refl _)
  have hy:=hd1 i
  rw [<- hx] at hy
  repeat refine sdn ?_
  obtain ⟨b1,b2⟩:=aIF a1 (by omega) a4 a5 a6
  refine ⟨(l.set i ((c + l.getD i 0) % 65536),i + 1,(c + l.getD i 0) / 65536),⟨by rw [length_set];exact a1,by show i + 1 <= n1;omega,aER a1 (by omega) a3,b2,b1,by show 0 <= (c + l.getD i 0) / 65536;omega,by show (c + l.getD i 0) / 65536 < 35184372088832;omega⟩,by show n1 - (i + 1) < n1 - i;omega,Le.intro [] rfl ?_ rfl ?_ rfl⟩
  ·exact fcn
  ·exact fcn
 obtain rfl:i = n1:=by have hc:¬ (i:Int) < n1:=hc;omega
 have ad:=aMT a1 a3
 repeat refine sd ?_
 refine ac.intro (σ:=List Int × Nat × Nat × Int) (fun s=>s.1.length = s.2.1/\s.2.1 <= s.2.2.1/\Dig s.1/\dv s.1 s.2.1 + s.2.2.2 * 65536 ^ s.2.1 = dv d1 i/\0 <= s.2.2.2/\s.2.2.2 < 35184372088832/\s.2.1 <= 32/\(s.2.1 <= 16 \/ s.2.1 = i \/ 115792089237316195423570985008687907853269984665640564039457584007913129639936 <= dv d1 i))
  (fun s=>([(0,.sl 204 0 0 s.2.1 s.2.2.1),(2,.ptr 2 0 none),(3,.ptr 3 0 none),(4,.i .i64 s.2.2.2)],
   [(1000,.dead),(204,.mem true (s.2.2.1 - s.2.1) [(s.2.1,.ai s.1)]),(2,.mem true 0 [(16,.ai (replicate 16 0))]),(3,.mem true 0 [(16,.ai (replicate 16 0))])]))
  (fun s=>s.2.2.2.toNat) (l,i,c1,c) ⟨a1,hnc1,ad,a5,a6,a7,by show i <= 32;omega,Or.inr (Or.inl rfl)⟩ ?_ ?_
 ·refine Le.intro [(204,(203,0,none))] rfl fc rfl fc rfl
 clear a1 a2 a3 a4 a5 a6 a7 ad hc
 rintro ⟨l,m,k,c⟩ ⟨a1,a2,a3,a4,a5,a6,a7,a8⟩
 have a1:l.length = m:=a1
 have a2:m <= k:=a2
 have a3:Dig l:=a3
 have a4:dv l m + c * 65536 ^ m = dv d1 i:=a4
 have a5:0 <= c:=a5
 have a6:c < 35184372088832:=a6
 have a7:m <= 32:=a7
 have a8:m <= 16 \/ m = i \/ 115792089237316195423570985008687907853269984665640564039457584007913129639936 <= dv d1 i:=a8
 refine zB.intro (fun hc=>?_) (fun hc=>?_)
 ·have hc:0 < c:=hc
  have hm:=aIP a3 a4 hc hv1
  have hA:=aIO a1 a4
  repeat refine sd ?_
  refine fun c' hc'=>?_
  have hc':m + 1 <= c':=hc'
  repeat refine sd ?_
  refine ⟨(l ++ [c % 65536],m + 1,c',c / 65536),⟨by rw [zlA,a1];rfl,hc',aMS a3 c,hA,by show 0 <= c / 65536;omega,by show c / 65536 < 35184372088832;omega,by show m + 1 <= 32;omega,?_⟩,by show (c / 65536).toNat < c.toNat;omega,Le.intro [(204,(34,0,none))] rfl ?_ rfl ?_ rfl⟩
  ·rcases lt_or_ge m 16 with h | h
   ·exact Or.inl (by show m + 1 <= 16;omega)
   ·exact Or.inr (Or.inr (aM9 a3 a4 hc h))
  ·exact fc
  ·exact fc
 obtain rfl:c = 0:=by have hc:¬ 0 < c:=hc;omega
 have a4:dv l m = dv d1 i:=by have a4:dv l m + 0 * 65536 ^ m = dv d1 i:=a4;rw [Int.zero_mul,Int.add_zero] at a4;exact a4
 have a1:l.length = m:=a1
 have a2:m <= k:=a2
 have a3:Dig l:=a3
 have a7:m <= 32:=a7
 have a8:m <= 16 \/ m = i \/ 115792089237316195423570985008687907853269984665640564039457584007913129639936 <= dv d1 i:=a8
 repeat refine sd ?_
 refine zB.intro (fun h16=>?_) (fun h16=>?_)
 ·have h16:(m:Int) <= 16:=h16
  repeat refine sd ?_
  refine ac.intro (σ:=List Int × Nat) (fun s=>s.1.length = 16/\s.2 <= m/\(∀ j,j < s.2->s.1.getD j 0 = l.getD j 0)/\(∀ j,s.2 <= j->s.1.getD j 0 = 0))
   (fun s=>([(0,.sl 204 0 0 m k),(2,.ptr 2 0 none),(3,.ptr 3 0 none),(8,.i .i64 s.2)],
    [(1000,.dead),(204,.mem true (k - m) [(m,.ai l)]),(2,.mem true 0 [(16,.ai (replicate 16 0))]),(3,.mem true 0 [(16,.ai s.1)])]))
   (fun s=>m - s.2) (replicate 16 0,0) ⟨rfl,zero_le _,fun j hj=>absurd hj (not_lt_zero _),fun j _=>?_⟩ ?_ ?_
  ·show (replicate 16 (0:Int)).getD j 0 = 0
   rw [getD_eq_getElem?_getD,List.getElem?_replicate]
   split <;> rfl
  ·refine Le.intro [] rfl fc rfl fc rfl
  rintro ⟨A,q⟩ ⟨b1,b2,b3,b4⟩
  have b1:A.length = 16:=b1
  have b2:q <= m:=b2
  have b3:∀ j,j < q->A.getD j 0 = l.getD j 0:=b3
  have b4:∀ j,q <= j->A.getD j 0 = 0:=b4
  refine zB.intro (fun hc=>?_) (fun hc=>?_)
  ·have hc:(q:Int) < m:=hc
   repeat refine sdn ?_
   refine ⟨(A.set q (l.getD q 0),q + 1),⟨by rw [length_set];exact b1,by show q + 1 <= m;omega,fun j hj=>?_,fun j hj=>?_⟩,by show m - (q + 1) < m - q;omega,Le.intro [] rfl ?_ rfl ?_ rfl⟩
   ·have hj:j < q + 1:=hj
    show (A.set q (l.getD q 0)).getD j 0 = l.getD j 0
    by_cases h:q = j
    ·subst h;rw [aH (by omega)]
    ·rw [aA h];exact b3 j (by omega)
   ·have hj:q + 1 <= j:=hj
    show (A.set q (l.getD q 0)).getD j 0 = 0
    rw [aA (by omega)];exact b4 j (by omega)
   ·exact fcn
   ·exact fcn
  have hq:q = m:=by have hc:¬ (q:Int) < m:=hc;omega
  have Ad:Dig A:=by
   intro j
   rcases lt_or_ge j q with h | h
   ·rw [b3 j h];exact a3 j
   ·rw [b4 j h];decide
  have Av:dv A 16 = dv d1 i:=by
   rw [<- a4,x7 (a:=m) (by omega) fun j h1 _=>b4 j (by omega)]
   exact kI fun j hj=>b3 j (by omega)
  rw [<- Av] at hm1
  clear b2 b3 b4 hc Av a1 a2 a3 a4 a7 a8 hq
  repeat refine sd ?_
  refine ac.intro (σ:=List Int) (fun A=>A.length = 16/\Dig A/\dv A 16 % 57896044618658097711785492504343953926634992332820282019728792003956564819949 = dv d n % 57896044618658097711785492504343953926634992332820282019728792003956564819949)
   (fun A=>([(2,.ptr 2 0 none),(3,.ptr 3 0 none)],
    [(1000,.dead),(2,.mem true 0 [(16,.ai (replicate 16 0))]),(3,.mem true 0 [(16,.ai A)])]))
   (fun A=>(dv A 16).toNat) A ⟨b1,Ad,hm1⟩ ?_ ?_
  ·refine Le.intro [] rfl fc rfl fc rfl
  clear hm1 Ad b1
  rintro A ⟨b1,b2,b3⟩
  have hL:=aTV A prime b2 pd b1 hpl
  have hM:=aH4 A prime b2 pd b1 hpl
  refine aI.intro [[],[],[0,1],[0,1,2]] r_4 (by kernel_rfl) ?_
  repeat (first|refine gi ?_|refine sd ?_)
  refine Call.pure hP rfl fc ?_
  rintro _ rfl
  repeat (first|refine gi ?_|refine sd ?_)
  refine Call.pure hL rfl fc ?_
  rintro _ rfl
  repeat (first|refine gi ?_|refine sd ?_)
  refine zB.intro (fun hc=>?_) (fun hc=>?_)
  ·have hc:¬ dv A 16 < dv prime 16:=hc
   obtain ⟨m1,m2,m3⟩:=ml b2 pd b1 (by omega)
   have b0:=(ab m2 16).1
   generalize (sbS A prime 16).1 = B at *
   refine aI.intro [[],[],[0,1],[0,1,2]] r_4 (by kernel_rfl) ?_
   repeat (first|refine gi ?_|refine sd ?_)
   refine Call.pure hP rfl fc ?_
   rintro _ rfl
   repeat (first|refine gi ?_|refine sd ?_)
   refine Call.pure hM rfl fc ?_
   rintro _ rfl
   repeat (first|refine gi ?_|refine sd ?_)
   refine ⟨B,⟨m1,m2,?_⟩,by omega,Le.intro [] rfl ?_ rfl ?_ rfl⟩
   ·rw [m3,pv,<- b3];exact Int.sub_emod_right _ _
   ·exact fc
   ·exact fc
  ·have hc:¬ ¬ dv A 16 < dv prime 16:=hc
   have hv:A = nmF (fz (dv A 16)):=aHM b1 b2 (by omega)
   have he:fz (dv A 16) = fz (dv d n):=aPU (ab b2 16).1 h0 b3
   rw [he] at hv
   rw [<- hv]
   repeat refine sd ?_
   refine Ret.intro (.ai A) [(1000,.dead)] [] rfl fc ⟨rfl,rfl⟩ rfl fc rfl fc rfl
 ·have h16:¬ (m:Int) <= 16:=h16
  repeat refine sd ?_
  refine ac.intro (σ:=List Int × Nat) (fun s=>s.2 <= m/\FoI l s.1 s.2)
   (fun s=>([(0,.sl 204 0 0 m k),(2,.ptr 2 0 none),(3,.ptr 3 0 none),(6,.sl 40 0 0 16 16),(7,.i .i64 s.2)],
    [(1000,.dead),(204,.mem true (k - m) [(m,.ai l)]),(2,.mem true 0 [(16,.ai (replicate 16 0))]),(3,.mem true 0 [(16,.ai (replicate 16 0))]),(40,.mem true 0 [(16,.ai s.1)])]))
   (fun s=>m - s.2) (replicate 16 0,0) ⟨zero_le _,aTJ l⟩ ?_ ?_
  ·refine Le.intro [] rfl fc rfl fc rfl
  rintro ⟨e,q⟩ ⟨b1,b2⟩
  have b1:q <= m:=b1
  have b2:FoI l e q:=b2
  have el:=b2.len
  refine zB.intro (fun hc=>?_) (fun hc=>?_)
  ·have hc:(q:Int) < m:=hc
   have lq:=a3 q
   repeat refine sd ?_
   refine zB.intro (fun hq=>?_) (fun hq=>?_)
   ·have hq:(q:Int) < 16:=hq
    have e1:=b2.nn q
    have e2:=b2.two q
    have b3:=aMC b2 a3 (by omega)
    refine aI.intro [[],[],[],[],[2,3],[2,3,4],[],[],[6,7],[6,7,8],[2,3,4,5,6,7,8,9],fy,mR] nb (by kernel_rfl) ?_
    repeat refine sdn ?_
    refine ⟨(e.set q (e.getD q 0 + l.getD q 0),q + 1),⟨by show q + 1 <= m;omega,b3⟩,by show m - (q + 1) < m - q;omega,Le.intro [] rfl ?_ rfl ?_ rfl⟩
    ·exact fcn
    ·exact fcn
   ·have hq:¬ (q:Int) < 16:=hq
    have e0:((q:Int) - 16).toNat = q - 16:=by omega
    have e1:=b2.nn (q - 16)
    have e2:=b2.two (q - 16)
    have b3:=aHS b2 a3 (by omega) (by omega)
    refine aI.intro [[],[],[1],[],[],[4],[3,4,5],[3,4,5,6],[],[],[8,9],[8,9,10],[8,9,10,11],[3,4,5,6,7,8,9,10,11,12],sj,uM] rM (by kernel_rfl) ?_
    repeat refine sdF ?_
    refine ⟨(e.set (q - 16) (e.getD (q - 16) 0 + 38 * l.getD q 0),q + 1),⟨by show q + 1 <= m;omega,b3⟩,by show m - (q + 1) < m - q;omega,Le.intro [] rfl ?_ rfl ?_ rfl⟩
    ·exact fcF
    ·exact fcF
  obtain rfl:q = m:=by have hc:¬ (q:Int) < m:=hc;omega
  obtain ⟨f1,f2,f3⟩:=aMD b2 a3 (by omega)
  repeat refine sd ?_
  refine ⟨(e,16,16),⟨el,le_refl _,by show 16 <= 31;omega,fun j=>⟨b2.nn j,by have:=b2.two j;show e.getD j 0 < _;omega⟩,f2,by show dv e 16 < _;omega,?_⟩,?_,Le.intro [(203,(40,0,none))] rfl ?_ rfl ?_ rfl⟩
  ·show dv e 16 % _ = _
   rw [f3,a4,hm1]
  ·show (dv e 16).toNat + 16 < (dv d1 i).toNat + i
   rcases a8 with h | h | h
   ·omega
   ·omega
   ·have:=aHR b2 a3 (by omega) (by omega)
    omega
  ·exact fc
  ·exact fc
open Go Go.Sx Go.Cu
theorem mj:nmF 0 = replicate 16 0:=(iX rfl (Dig.rep 16) (x8 16 16)).symm
theorem aJ7 {a b d:List Int}:∀ {n:Nat},(∀ j,j < n->d.getD j 0 = a.getD j 0 + b.getD j 0)->dv d n = dv a n + dv b n
 | 0,_=>rfl
 | n + 1,h=>by
  show dv d n + d.getD n 0 * 65536 ^ n = dv a n + a.getD n 0 * 65536 ^ n + (dv b n + b.getD n 0 * 65536 ^ n)
  rw [aJ7 fun j hj=>h j (by omega),h n (by omega),add_mul]
  omega
theorem vr (n:Nat) (hn:n < 35184372088832):Sx.Fn Γ.P 76 [.i .i64 n] [] (fun v _=>v = .ai (nmF (fn n))):=by
 have e:dv [(n:Int)] 1 = n:=by show (0:Int) + n * 1 = n;omega
 have hF:=aH6 [(n:Int)] 1 1 rfl (by omega) (le_refl _) (fun j=>by
  match j with
  | 0=>exact ⟨by show (0:Int) <= n;omega,by show (n:Int) < _;omega⟩
  | j + 1=>exact ⟨Int.le_refl _,by show (0:Int) < _;omega⟩) (by rw [e];omega) (by rw [e];omega)
 rw [e,xh] at hF
 have hl:=aC (fn n)
 generalize nmF (fn n) = R at hF hl
 refine aF (Γ:=Γ) (fn:=Tryz.f76) rfl rfl rfl rfl ?_
 repeat refine sd ?_
 refine Call.intro hF [(1000,(4,0,none))] rfl fc rfl fc rfl ?_
 rintro _ _ ⟨rfl,rfl⟩
 dsimp only [zt,zM,zE,ren,zz,zx,zy,aS,zG,zX,ev,evL,zV,zcT,zcF,act,zP,zO,Ent.zW]
 repeat refine sd ?_
 refine Ret.intro (.ai R) [] [] rfl fc rfl rfl fc rfl fc rfl
theorem vt (x y:F):Sx.Fn Γ.P 127 [.ai (nmF x),.ai (nmF y)] [] (fun v _=>v = .ai (nmF (x + y))):=by
 have la:=aC x
 have lb:=aC y
 have da:=gJ x
 have db:=gJ y
 have va:=gz x
 have vb:=gz y
 have hF:=fun (d:List Int) h1 h2 h3 h4=>aH6 d 16 16 h1 (by omega) (le_refl _) h2 h3 h4
 have hl:=aC (x + y)
 generalize nmF x = a at *
 generalize nmF y = b at *
 have hv:∀ d,dv d 16 = dv a 16 + dv b 16->nmF (fz (dv d 16)) = nmF (x + y):=by
  intro d h
  rw [h,va,vb]
  have e:((x.val:Int) + (y.val:Int)) = ((x.val + y.val:Nat):Int):=by omega
  rw [e,xh,aa,oa,oa]
 generalize nmF (x + y) = R at *
 refine aF (Γ:=Γ) (fn:=Tryz.f127) rfl rfl rfl rfl ?_
 repeat refine sd ?_
 refine ac.intro (σ:=List Int × Nat) (fun s=>s.1.length = 16/\s.2 <= 16/\(∀ j,j < s.2->s.1.getD j 0 = a.getD j 0 + b.getD j 0))
  (fun s=>([(2,.ptr 2 0 none),(3,.ptr 3 0 none),(4,.ptr 4 0 none),(5,.sl 7 0 0 16 16),(6,.i .i64 s.2)],
   [(2,.mem true 0 [(16,.ai a)]),(3,.mem true 0 [(16,.ai b)]),(4,.mem true 0 [(16,.ai (replicate 16 0))]),(7,.mem true 0 [(16,.ai s.1)])])) (fun s=>16 - s.2) (replicate 16 0,0) ⟨rfl,zero_le _,fun j hj=>absurd hj (not_lt_zero _)⟩ ?_ ?_
 ·refine Le.intro [] rfl fc rfl fc rfl
 rintro ⟨d,i⟩ ⟨h1,h2,h3⟩
 have h1:d.length = 16:=h1
 have h2:i <= 16:=h2
 have h3:∀ j,j < i->d.getD j 0 = a.getD j 0 + b.getD j 0:=h3
 refine zB.intro (fun hc=>?_) (fun hc=>?_)
 ·have hc:(i:Int) < 16:=hc
  have xa:=da i
  have xb:=db i
  refine aI.intro [[],[],[],[2],[2,3],[],[5],[5,6],[2,3,4,5,6,7],r_9,fi] fy (by kernel_rfl) ?_
  repeat refine sdn ?_
  refine ⟨(d.set i (a.getD i 0 + b.getD i 0),i + 1),⟨by rw [length_set];exact h1,by show i + 1 <= 16;omega,fun j hj=>?_⟩,by show 16 - (i + 1) < 16 - i;omega,Le.intro [] rfl ?_ rfl ?_ rfl⟩
  ·have hj:j < i + 1:=hj
   show (d.set i (a.getD i 0 + b.getD i 0)).getD j 0 = _
   by_cases h:i = j
   ·subst h;rw [aH (by omega)]
   ·rw [aA h];exact h3 j (by omega)
  ·exact fcn
  ·exact fcn
 obtain rfl:i = 16:=by have hc:¬ (i:Int) < 16:=hc;omega
 have e:=aJ7 h3
 have b1:=(ab da 16).1
 have b2:=(ab da 16).2
 have b3:=(ab db 16).1
 have b4:=(ab db 16).2
 have hG:=hF d h1 (fun j=>by
  rcases lt_or_ge j 16 with h | h
  ·rw [h3 j h]
   have xa:=da j
   have xb:=db j
   omega
  ·rw [fJ (by omega)];omega) (by rw [e];omega) (by rw [e];rw [aOU] at b2 b4;omega)
 rw [hv d e] at hG
 repeat refine sd ?_
 refine Call.intro hG [(1000,(7,0,none))] rfl fc rfl fc rfl ?_
 rintro _ _ ⟨rfl,rfl⟩
 dsimp only [zt,zM,zE,ren,zz,zx,zy,aS,zG,zX,ev,evL,zV,zcT,zcF,act,zP,zO,Ent.zW]
 repeat refine sd ?_
 refine Ret.intro (.ai R) [] [] rfl fc rfl rfl fc rfl fc rfl
theorem aHX (x:F) (hx:x ≠ 0):Sx.Fn Γ.P 129 [.ai prD,.ai (nmF x)] [] (fun v _=>v = .ai (nmF (0 - x))):=by
 have h:=aH4 prD (nmF x) jM (gJ x) rfl (aC x)
 have hv:=aCX hx
 have h1:=x.isLt
 have hp:aB = 57896044618658097711785492504343953926634992332820282019728792003956564819949:=rfl
 obtain ⟨m1,m2,m3⟩:=ml jM (gJ x) rfl (by rw [u5,gz];omega)
 have e:(sbS prD (nmF x) 16).1 = nmF (0 - x):=by
  refine iX m1 m2 ?_
  rw [m3,u5,gz,hv]
  omega
 rw [e] at h
 exact h
theorem aH3 (x:F):Sx.Fn Γ.P 147 [.ai (nmF x)] [] (fun v _=>v = .ai (nmF (0 - x))):=by
 have la:=aC x
 have lr:=aC (0 - x)
 have hP:=aD5
 refine aF (Γ:=Γ) (fn:=Tryz.f147) rfl rfl rfl rfl ?_
 repeat refine sd ?_
 refine zB.intro (fun h=>?_) (fun h=>?_)
 ·have h:nmF x = replicate 16 0:=h
  have hx:x = 0:=nu (by rw [h,mj])
  have e:nmF (0 - x) = nmF x:=by rw [hx];rfl
  rw [e]
  generalize nmF x = a at *
  repeat refine sd ?_
  refine Ret.intro (.ai a) [] [] rfl fc rfl rfl fc rfl fc rfl
 ·have h:¬ nmF x = replicate 16 0:=h
  have hM:=aHX x (fun e=>h (by rw [e,mj]))
  have hpl:prD.length = 16:=rfl
  generalize prD = prime at *
  generalize nmF (0 - x) = R at *
  generalize nmF x = a at *
  refine aI.intro [[],[],[0,1],[0,1,2]] [1,0,2,3] (by kernel_rfl) ?_
  repeat (first|refine gi ?_|refine sd ?_)
  refine Call.pure hP rfl fc ?_
  rintro _ rfl
  repeat (first|refine gi ?_|refine sd ?_)
  refine Call.pure hM rfl fc ?_
  rintro _ rfl
  repeat (first|refine gi ?_|refine sd ?_)
  refine Ret.intro (.ai R) [] [] rfl fc rfl rfl fc rfl fc rfl
theorem aD6 (x y:F):Sx.Fn Γ.P 126 [.ai (nmF x),.ai (nmF y)] [] (fun v _=>v = .ai (nmF (x - y))):=by
 have la:=aC x
 have lb:=aC y
 have ln:=aC (0 - y)
 have lr:=aC (x - y)
 have hN:=aH3 y
 have hA:=vt x (0 - y)
 have e:x + (0 - y) = x - y:=by grind -lia -linarith (splits:=0)
 rw [e] at hA
 generalize nmF (x - y) = R at *
 generalize nmF (0 - y) = N at *
 generalize nmF y = b at *
 generalize nmF x = a at *
 refine aF (Γ:=Γ) (fn:=Tryz.f126) rfl rfl rfl rfl ?_
 repeat refine sd ?_
 refine aI.intro [[],[],[1],[0,1,2],r_4] r_5 (by kernel_rfl) ?_
 repeat (first|refine gi ?_|refine sd ?_)
 refine Call.pure hN rfl fc ?_
 rintro _ rfl
 repeat (first|refine gi ?_|refine sd ?_)
 refine Call.pure hA rfl fc ?_
 rintro _ rfl
 repeat (first|refine gi ?_|refine sd ?_)
 refine Ret.intro (.ai R) [] [] rfl fc rfl rfl fc rfl fc rfl
theorem gd (x y:F):Sx.Fn Γ.P 80 [.ai (nmF x),.ai (nmF y)] [] (fun v _=>v = .ai (nmF (x * y))):=by
 have la:=aC x
 have lb:=aC y
 have da:=gJ x
 have db:=gJ y
 have va:=gz x
 have vb:=gz y
 have hF:=fun (d:List Int) h1 h2 h3 h4=>aH6 d 31 31 h1 (by omega) (le_refl _) h2 h3 h4
 have hl:=aC (x * y)
 generalize nmF x = a at *
 generalize nmF y = b at *
 have hv:∀ d,dv d 31 = dv a 16 * dv b 16->nmF (fz (dv d 31)) = nmF (x * y)/\0 <= dv d 31/\dv d 31 < 65536 ^ 32:=by
  intro d h
  rw [h,va,vb]
  have e:((x.val:Int) * (y.val:Int)) = ((x.val * y.val:Nat):Int):=by rw [Int.natCast_mul]
  have hx:=aUB x
  have hy:=aUB y
  have hb:x.val * y.val <= 115792089237316195423570985008687907853269984665640564039457584007913129639935 * 115792089237316195423570985008687907853269984665640564039457584007913129639935:=Nat.mul_le_mul (by omega) (by omega)
  refine ⟨by rw [e,xh,kG,oa,oa],by rw [e];omega,?_⟩
  rw [e]
  generalize x.val * y.val = q at *
  omega
 generalize nmF (x * y) = R at *
 refine aF (Γ:=Γ) (fn:=Tryz.f80) rfl rfl rfl rfl ?_
 repeat refine sd ?_
 refine ac.intro (σ:=List Int × Nat) (fun s=>s.2 <= 16/\MuI a b s.1 s.2 0)
  (fun s=>([(2,.ptr 2 0 none),(3,.ptr 3 0 none),(4,.ptr 4 0 none),(5,.sl 8 0 0 31 31),(6,.i .i64 s.2)],
   [(2,.mem true 0 [(16,.ai a)]),(3,.mem true 0 [(16,.ai b)]),(4,.mem true 0 [(16,.ai (replicate 16 0))]),(8,.mem true 0 [(31,.ai s.1)])])) (fun s=>16 - s.2) (replicate 31 0,0) ⟨zero_le _,aS6 a b⟩ ?_ ?_
 ·refine Le.intro [] rfl fc rfl fc rfl
 rintro ⟨d,i⟩ ⟨h1,h2⟩
 have h1:i <= 16:=h1
 have h2:MuI a b d i 0:=h2
 refine zB.intro (fun hc=>?_) (fun hc=>?_)
 ·have hc:(i:Int) < 16:=hc
  repeat refine sd ?_
  refine ac.intro (σ:=List Int × Nat) (fun s=>s.2 <= 16/\MuI a b s.1 i s.2)
   (fun s=>([(2,.ptr 2 0 none),(3,.ptr 3 0 none),(4,.ptr 4 0 none),(5,.sl 8 0 0 31 31),(6,.i .i64 i),(7,.i .i64 s.2)],
    [(2,.mem true 0 [(16,.ai a)]),(3,.mem true 0 [(16,.ai b)]),(4,.mem true 0 [(16,.ai (replicate 16 0))]),(8,.mem true 0 [(31,.ai s.1)])])) (fun s=>16 - s.2) (d,0) ⟨zero_le _,h2⟩ ?_ ?_
  ·have hll:=h2.len
   refine Le.intro [] rfl fc rfl fc rfl
  clear h2
  rintro ⟨d,k⟩ ⟨h3,h2⟩
  have h3:k <= 16:=h3
  have h2:MuI a b d i k:=h2
  have hll:=h2.len
  refine zB.intro (fun hk=>?_) (fun hk=>?_)
  ·have hk:(k:Int) < 16:=hk
   have xa:=da i
   have xb:=db k
   have xp:=aI5 xa.1 xa.2 xb.1 xb.2
   have xd:=h2.nn (i + k)
   have xe:=h2.hi (i + k)
   have e0:((i:Int) + k).toNat = i + k:=by omega
   have hs:=aG4 h2 da db (by omega) (by omega)
   refine aI.intro [[],[],[],[1,2],[],[],[],[5,6],[4,5,6,7],[4,5,6,7,8],[],[10],[10,11],[],[13],[13,14],[10,11,12,13,14,15],[4,5,6,7,8,9,10,11,12,13,14,15,16],rL,aNM] aOK (by kernel_rfl) ?_
   repeat refine sdF ?_
   refine ⟨(d.set (i + k) (d.getD (i + k) 0 + a.getD i 0 * b.getD k 0),k + 1),⟨by show k + 1 <= 16;omega,hs⟩,by show 16 - (k + 1) < 16 - k;omega,Le.intro [] rfl ?_ rfl ?_ rfl⟩
   ·exact fcF
   ·exact fcF
  ·obtain rfl:k = 16:=by have hk:¬ (k:Int) < 16:=hk;omega
   repeat refine sd ?_
   refine ⟨(d,i + 1),⟨by show i + 1 <= 16;omega,aLR h2⟩,by show 16 - (i + 1) < 16 - i;omega,Le.intro [] rfl fc rfl fc rfl⟩
 obtain rfl:i = 16:=by have hc:¬ (i:Int) < 16:=hc;omega
 obtain ⟨m1,m2⟩:=aLS h2
 obtain ⟨v1,v2,v3⟩:=hv d m1
 have hll:=h2.len
 have hG:=hF d hll (fun j=>⟨h2.nn j,m2 j⟩) v2 v3
 rw [v1] at hG
 repeat refine sd ?_
 refine Call.intro hG [(1000,(8,0,none))] rfl fc rfl fc rfl ?_
 rintro _ _ ⟨rfl,rfl⟩
 dsimp only [zt,zM,zE,ren,zz,zx,zy,aS,zG,zX,ev,evL,zV,zcT,zcF,act,zP,zO,Ent.zW]
 repeat refine sd ?_
 refine Ret.intro (.ai R) [] [] rfl fc rfl rfl fc rfl fc rfl
open Go Go.Sx Go.Cu
theorem aR2 {b:List UInt8} {i:Nat}:(((b.getD (2 * i) 0).toNat:Int) + 256 * ((b.getD (2 * i + 1) 0).toNat:Int)) = ((lv b / 65536 ^ i % 65536:Nat):Int):=by
 have h0:=vc b (2 * i)
 have h1:=vc b (2 * i + 1)
 have e0:(256:Nat) ^ (2 * i) = 65536 ^ i:=by rw [pow_mul]
 have e1:(256:Nat) ^ (2 * i + 1) = 65536 ^ i * 256:=by rw [Nat.pow_succ,e0]
 rw [e0] at h0
 rw [e1,<- div_div_eq_div_mul] at h1
 rw [<- h0,<- h1]
 generalize lv b / 65536 ^ i = w
 omega
theorem aOZ {d:List Int} {b:List UInt8} (hl:d.length = 16) (hb:b.length = 32) (h:∀ j,j < 16->d.getD j 0 = ((lv b / 65536 ^ j % 65536:Nat):Int)) :
  Dig (d.set 15 (d.getD 15 0 % 32768))/\fz (dv (d.set 15 (d.getD 15 0 % 32768)) 16) = ofF b/\0 <= dv (d.set 15 (d.getD 15 0 % 32768)) 16/\dv (d.set 15 (d.getD 15 0 % 32768)) 16 < 65536 ^ 32:=by
 have hd:Dig d:=by
  intro j
  rcases lt_or_ge j 16 with hj | hj
  ·rw [h j hj];omega
  ·rw [fJ (by omega)];decide
 have e:d = nmN (lv b):=tj hl (aP _) fun i hi=>by rw [h i hi,nt _ hi]
 have hlt:=aG9 b
 rw [hb] at hlt
 have hlt:lv b < 115792089237316195423570985008687907853269984665640564039457584007913129639936:=hlt
 have hv:=aCW hlt
 rw [<- e] at hv
 have x1:=Int.emod_nonneg (d.getD 15 0) (show (32768:Int) ≠ 0 by decide)
 have x2:=Int.emod_lt_of_pos (d.getD 15 0) (show (0:Int) < 32768 by decide)
 have hd2:Dig (d.set 15 (d.getD 15 0 % 32768)):=hd.set x1 (by omega)
 have hs:dv (d.set 15 (d.getD 15 0 % 32768)) 16 = dv d 15 + d.getD 15 0 % 32768 * 65536 ^ 15:=eu (by omega)
 have ho:dv d 16 = dv d 15 + d.getD 15 0 * 65536 ^ 15:=rfl
 obtain ⟨b1,b2⟩:=ab hd 15
 have p15:(65536:Int) ^ 15 = 1766847064778384329583297500742918515827483896875618958121606201292619776:=by decide
 rw [p15] at hs ho b2
 have key:dv (d.set 15 (d.getD 15 0 % 32768)) 16 = ((lv b % 57896044618658097711785492504343953926634992332820282019728792003956564819968:Nat):Int):=by
  rw [hs]
  rw [ho] at hv
  generalize dv d 15 = x at *
  generalize d.getD 15 0 = y at *
  omega
 rw [key]
 refine ⟨hd2,by rw [xh];rfl,by omega,?_⟩
 have:lv b % 57896044618658097711785492504343953926634992332820282019728792003956564819968 < 57896044618658097711785492504343953926634992332820282019728792003956564819968:=Nat.mod_lt _ (by decide)
 omega
theorem aVA (b:List UInt8) (hb:b.length = 32):Sx.Fn Γ.P 75 [.a8 b] [] (fun v _=>v = .ai (nmF (ofF b))):=by
 have hF:=fun (d:List Int) h1 h2 h3 h4=>aH6 d 16 16 h1 (by omega) (le_refl _) h2 h3 h4
 have hl:=aC (ofF b)
 refine aF (Γ:=Γ) (fn:=Tryz.f75) rfl rfl rfl rfl ?_
 repeat refine sd ?_
 refine ac.intro (σ:=List Int × Nat) (fun s=>s.1.length = 16/\s.2 <= 16/\(∀ j,j < s.2->s.1.getD j 0 = ((lv b / 65536 ^ j % 65536:Nat):Int)))
  (fun s=>([(1,.ptr 1 0 none),(2,.ptr 2 0 none),(3,.sl 5 0 0 16 16),(4,.i .i64 s.2)],
   [(1,.mem true 0 [(32,.a8 b)]),(2,.mem true 0 [(16,.ai (replicate 16 0))]),(5,.mem true 0 [(16,.ai s.1)])])) (fun s=>16 - s.2) (replicate 16 0,0) ⟨rfl,zero_le _,fun j hj=>absurd hj (not_lt_zero _)⟩ ?_ ?_
 ·refine Le.intro [] rfl fc rfl fc rfl
 rintro ⟨d,i⟩ ⟨h1,h2,h3⟩
 have h1:d.length = 16:=h1
 have h2:i <= 16:=h2
 have h3:∀ j,j < i->d.getD j 0 = ((lv b / 65536 ^ j % 65536:Nat):Int):=h3
 refine zB.intro (fun hc=>?_) (fun hc=>?_)
 ·have hc:(i:Int) < 16:=hc
  have e0:(2 * (i:Int)).toNat = 2 * i:=by omega
  have e1:(2 * (i:Int) + 1).toNat = 2 * i + 1:=by omega
  have x0:=(b.getD (2 * i) 0).toNat_lt
  have x1:=(b.getD (2 * i + 1) 0).toNat_lt
  have e2:=aR2 (b:=b) (i:=i)
  refine aI.intro [[],[],[],[2],[2,3],[2,3,4],[2,3,4,5],[],[7],[7,8],[7,8,9],[7,8,9,10],[7,8,9,10,11],[7,8,9,10,11,12],[2,3,4,5,6,7,8,9,10,11,12,13],uM,rM] uL (by kernel_rfl) ?_
  repeat refine sdI ?_
  refine ⟨(d.set i (((b.getD (2 * i) 0).toNat:Int) + 256 * ((b.getD (2 * i + 1) 0).toNat:Int)),i + 1),⟨by rw [length_set];exact h1,by show i + 1 <= 16;omega,fun j hj=>?_⟩,by show 16 - (i + 1) < 16 - i;omega,Le.intro [] rfl ?_ rfl ?_ rfl⟩
  ·have hj:j < i + 1:=hj
   show (d.set i _).getD j 0 = _
   by_cases h:i = j
   ·subst h;rw [aH (by omega),e2]
   ·rw [aA h];exact h3 j (by omega)
  ·exact fcI
  ·exact fcI
 obtain rfl:i = 16:=by have hc:¬ (i:Int) < 16:=hc;omega
 obtain ⟨g1,g2,g3,g4⟩:=aOZ h1 hb h3
 have x15:0 <= d.getD 15 0:=by rw [h3 15 (by omega)];omega
 have hG:=hF (d.set 15 (d.getD 15 0 % 32768)) (by rw [length_set];exact h1) (fun j=>⟨(g1 j).1,by have h:(d.set 15 (d.getD 15 0 % 32768)).getD j 0 < 65536:=(g1 j).2;omega⟩) g3 g4
 rw [g2] at hG
 generalize nmF (ofF b) = R at *
 repeat refine sd ?_
 refine Call.intro hG [(1000,(5,0,none))] rfl fc rfl fc rfl ?_
 rintro _ _ ⟨rfl,rfl⟩
 dsimp only [zt,zM,zE,ren,zz,zx,zy,aS,zG,zX,ev,evL,zV,zcT,zcF,act,zP,zO,Ent.zW]
 repeat refine sd ?_
 refine Ret.intro (.ai R) [] [] rfl fc rfl rfl fc rfl fc rfl
theorem tB (n:Nat):ofInt (n:Int) = ofNat n:=by
 unfold ofInt
 apply UInt8.toNat_inj.1
 rw [toNat_ofNat',toNat_ofNat']
 omega
theorem aW1 (v i:Nat):ofInt (((v / 65536 ^ i % 65536:Nat):Int) % 256) = ofNat (v / 256 ^ (2 * i)):=by
 have e:(((v / 65536 ^ i % 65536:Nat):Int) % 256) = ((v / 65536 ^ i % 65536 % 256:Nat):Int):=by omega
 rw [e,tB,pow_mul]
 apply UInt8.toNat_inj.1
 rw [toNat_ofNat',toNat_ofNat',show (256:Nat) ^ 2 = 65536 from rfl]
 omega
theorem aW0 (v i:Nat):ofInt (((v / 65536 ^ i % 65536:Nat):Int) / 256) = ofNat (v / 256 ^ (2 * i + 1)):=by
 have e:(((v / 65536 ^ i % 65536:Nat):Int) / 256) = ((v / 65536 ^ i % 65536 / 256:Nat):Int):=by omega
 rw [e,tB,Nat.pow_succ,pow_mul,<- div_div_eq_div_mul]
 apply UInt8.toNat_inj.1
 rw [toNat_ofNat',toNat_ofNat',show (256:Nat) ^ 2 = 65536 from rfl]
 omega
theorem aRT (x:F):Sx.Fn Γ.P 79 [.ai (nmF x)] [] (fun v _=>v = .a8 (leB x)):=by
 have la:=aC x
 have da:=gJ x
 have ha:∀ i,i < 16->(nmF x).getD i 0 = ((x.val / 65536 ^ i % 65536:Nat):Int):=fun i hi=>nt _ hi
 generalize nmF x = a at *
 refine aF (Γ:=Γ) (fn:=Tryz.f79) rfl rfl rfl rfl ?_
 repeat refine sd ?_
 refine ac.intro (σ:=List UInt8 × Nat) (fun s=>s.1.length = 32/\s.2 <= 16/\(∀ j,j < 2 * s.2->s.1.getD j 0 = ofNat (x.val / 256 ^ j)))
  (fun s=>([(1,.ptr 1 0 none),(2,.ptr 2 0 none),(3,.ptr 3 0 none),(4,.i .i64 s.2)],
   [(1,.mem true 0 [(16,.ai a)]),(2,.mem true 0 [(32,.a8 (replicate 32 0))]),(3,.mem true 0 [(32,.a8 s.1)])])) (fun s=>16 - s.2) (replicate 32 0,0) ⟨rfl,zero_le _,fun j hj=>absurd hj (not_lt_zero _)⟩ ?_ ?_
 ·refine Le.intro [] rfl fc rfl fc rfl
 rintro ⟨d,i⟩ ⟨h1,h2,h3⟩
 have h1:d.length = 32:=h1
 have h2:i <= 16:=h2
 have h3:∀ j,j < 2 * i->d.getD j 0 = ofNat (x.val / 256 ^ j):=h3
 refine zB.intro (fun hc=>?_) (fun hc=>?_)
 ·have hc:(i:Int) < 16:=hc
  have e0:(2 * (i:Int)).toNat = 2 * i:=by omega
  have e1:(2 * (i:Int) + 1).toNat = 2 * i + 1:=by omega
  have x0:=da i
  repeat refine sdI ?_
  refine ⟨((d.set (2 * i) (ofInt (a.getD i 0 % 256))).set (2 * i + 1) (ofInt (a.getD i 0 / 256)),i + 1),⟨by rw [length_set,length_set];exact h1,by show i + 1 <= 16;omega,fun j hj=>?_⟩,by show 16 - (i + 1) < 16 - i;omega,Le.intro [] rfl ?_ rfl ?_ rfl⟩
  ·have hj:j < 2 * (i + 1):=hj
   show ((d.set (2 * i) _).set (2 * i + 1) _).getD j 0 = _
   by_cases h:2 * i + 1 = j
   ·subst h;rw [aH (by rw [length_set];omega),ha i (by omega),aW0]
   ·rw [aA h]
    by_cases h:2 * i = j
    ·subst h;rw [aH (by omega),ha i (by omega),aW1]
    ·rw [aA h];exact h3 j (by omega)
  ·exact fcI
  ·exact fcI
 obtain rfl:i = 16:=by have hc:¬ (i:Int) < 16:=hc;omega
 have e:d = leB x:=mq h1 (aZ x) fun j hj=>by rw [h3 j (by omega)];exact (rX 32 _ j hj).symm
 rw [<- e]
 repeat refine sd ?_
 refine Ret.intro (.a8 d) [] [] rfl fc rfl rfl fc rfl fc rfl
theorem zc (e:Nat) (he:e < 115792089237316195423570985008687907853269984665640564039457584007913129639936):Sx.Fn Γ.P 166 [.ai (nmN e)] [] (fun v _=>v = .ai (nmN (e / 2))):=by
 have la:=aP e
 have da:=jT e
 have hH:=aMB he
 have hI:=fun i hi=>vq la da i hi
 have hL:=ic la
 generalize nmN e = a at *
 refine aF (Γ:=Γ) (fn:=Tryz.f166) rfl rfl rfl rfl ?_
 repeat refine sd ?_
 refine ac.intro (σ:=Nat) (fun i=>i <= 16)
  (fun i=>([(1,.ptr 1 0 none),(2,.ptr 2 0 none),(3,.i .i64 i)],[(1,.mem true 0 [(16,.ai (hfS a i))]),(2,.mem true 0 [(16,.ai (replicate 16 0))])])) (fun i=>16 - i) 0 (zero_le _) ?_ ?_
 ·have z:hfS a 0 = a:=rfl
  refine Le.intro [] rfl fc rfl fc rfl
 rintro i hi
 have hl:=hL i
 have h1:=(hI i hi).1
 refine zB.intro (fun hc=>?_) (fun hc=>?_)
 ·have hc:(i:Int) < 16:=hc
  have e0:((i:Int) + 1).toNat = i + 1:=by omega
  have hx:=h1 i (le_refl _)
  have hy:=h1 (i + 1) (by omega)
  have x0:=da i
  have x1:=da (i + 1)
  rw [<- hx] at x0
  rw [<- hy] at x1
  have hn:hfS a (i + 1) = if i < 15 then ((hfS a i).set i ((hfS a i).getD i 0 / 2)).set i (((hfS a i).set i ((hfS a i).getD i 0 / 2)).getD i 0 + (hfS a i).getD (i + 1) 0 % 2 * 32768) else (hfS a i).set i ((hfS a i).getD i 0 / 2):=rfl
  clear h1 hx hy
  generalize hfS a i = X at *
  have y0:(X.set i (X.getD i 0 / 2)).getD i 0 = X.getD i 0 / 2:=aH (by omega)
  have y1:(X.set i (X.getD i 0 / 2)).getD (i + 1) 0 = X.getD (i + 1) 0:=aA (by omega)
  repeat refine sdn ?_
  refine zB.intro (fun hq=>?_) (fun hq=>?_)
  ·have hq:(i:Int) < 15:=hq
   rw [if_pos (by omega)] at hn
   rw [<- y1] at hn
   have y2:0 <= (X.set i (X.getD i 0 / 2)).getD i 0/\(X.set i (X.getD i 0 / 2)).getD i 0 < 65536:=by rw [y0];omega
   have y3:0 <= (X.set i (X.getD i 0 / 2)).getD (i + 1) 0/\(X.set i (X.getD i 0 / 2)).getD (i + 1) 0 < 65536:=by rw [y1];omega
   clear y0 y1
   refine aI.intro [[],[],[1],[1,2],[],[4],[4,5],[4,5,6],[4,5,6,7],[4,5,6,7,8],[1,2,3,4,5,6,7,8,9],fy,mR] nb (by kernel_rfl) ?_
   repeat refine sdF ?_
   refine ⟨i + 1,by omega,by omega,Le.intro [] rfl ?_ rfl ?_ rfl⟩
   ·exact fcF
   ·exact fcF
  ·have hq:¬ (i:Int) < 15:=hq
   rw [if_neg (by omega)] at hn
   repeat refine sd ?_
   refine ⟨i + 1,by omega,by omega,Le.intro [] rfl ?_ rfl ?_ rfl⟩
   ·exact fcn
   ·exact fcn
 obtain rfl:i = 16:=by have hc:¬ (i:Int) < 16:=hc;omega
 rw [<- hH]
 generalize hfS a 16 = X at *
 repeat refine sd ?_
 refine Ret.intro (.ai X) [] [] rfl fc rfl rfl fc rfl fc rfl
open Go Go.Sx Go.Cu
theorem aPX:fn 1 = 1:=by decide +kernel
theorem aV1:fn 2 = 2:=by decide +kernel
theorem aQ3 (e i:Nat) (hi:i < 256):0 <= (nmN e).getD (i / 16) 0 / 2 ^ (i % 16)/\(nmN e).getD (i / 16) 0 / 2 ^ (i % 16) < 65536:=by
 obtain ⟨h0,h1⟩:=jT e (i / 16)
 generalize (nmN e).getD (i / 16) 0 = x at *
 have hp:((2:Int) ^ (i % 16)) = ((2 ^ (i % 16):Nat):Int):=by rw [natCast_pow];rfl
 obtain ⟨n,rfl⟩:=Int.eq_ofNat_of_zero_le h0
 have:=Nat.div_le_self n (2 ^ (i % 16))
 rw [hp,<- Int.natCast_ediv]
 generalize n / 2 ^ (i % 16) = m at *
 omega
theorem vE (n:Nat) (h:n < 18446744073709551616):(UInt64.ofInt (n:Int)).toNat = n:=by
 unfold UInt64.ofInt
 rw [UInt64.toNat_ofNat']
 omega
theorem aH5 (x:F) (e:Nat) (he:e < 115792089237316195423570985008687907853269984665640564039457584007913129639936):Sx.Fn Γ.P 128 [.ai (nmF x),.ai (nmN e)] [] (fun v _=>v = .ai (nmF (pw x e))):=by
 have hS:=vr 1 (by omega)
 rw [aPX] at hS
 have hM:=fun u v=>gd u v
 have hl:=aC
 have hln:=aP e
 have hdg:=jT e
 have hbit:=fun i hi=>@aO5 e i hi
 have hble:=aQ3 e
 have hz:e / 2 ^ 256 = 0:=Nat.div_eq_of_lt he
 have htop:=aOR x e
 generalize nmN e = E at *
 refine aF (Γ:=Γ) (fn:=Tryz.f128) rfl rfl rfl rfl ?_
 repeat refine sd ?_
 refine Call.pure hS rfl fc ?_
 rintro _ rfl
 repeat (first|refine gi ?_|refine sd ?_)
 refine ac.intro (σ:=Nat) (fun k=>k <= 256)
  (fun k=>([(2,.ptr 2 0 none),(3,.ptr 3 0 none),(4,.ptr 4 0 none),(5,.ptr 5 0 none),(6,.i .i64 (255 - (k:Int)))],
   [(2,.mem true 0 [(16,.ai (nmF x))]),(3,.mem true 0 [(16,.ai E)]),(4,.mem true 0 [(16,.ai (replicate 16 0))]),(5,.mem true 0 [(16,.ai (nmF (pw x (e / 2 ^ (256 - k)))))])])) (fun k=>256 - k) 0 (zero_le _) ?_ ?_
 ·have z:nmF (pw x (e / 2 ^ (256 - 0))) = nmF 1:=by rw [hz];rfl
  refine Le.intro [] rfl fc rfl fc rfl
 rintro k hk
 have hk:k <= 256:=hk
 refine zB.intro (fun hc=>?_) (fun hc=>?_)
 ·have hc:255 - (k:Int) ≥ 0:=hc
  obtain ⟨i,hi⟩:∃ i,i = 255 - k:=⟨_,rfl⟩
  have e1:256 - k = i + 1:=by omega
  have e2:256 - (k + 1) = i:=by omega
  have e3:(255 - (k:Int)) = i:=by omega
  have hb:=hbit i (by omega)
  obtain ⟨hb0,hb1⟩:=hble i (by omega)
  have ht:=htop i
  rw [e1]
  have ht2:nmF (pw x (e / 2 ^ (256 - (k + 1)))) = nmF (pw x (e / 2 ^ i)):=by rw [e2]
  generalize pw x (e / 2 ^ (i + 1)) = y at *
  have ly:=hl y
  have ly2:=hl (y * y)
  have lx:=hl x
  have ly3:=hl (y * y * x)
  have e4:(UInt64.ofInt ((255 - (k:Int)) % 16)).toNat = i % 16:=by
   rw [e3,show ((i:Int) % 16) = ((i % 16:Nat):Int) by omega];exact vE _ (by omega)
  have e5:((255 - (k:Int)) / 16).toNat = i / 16:=by omega
  repeat refine sd ?_
  refine Call.pure (hM y y) rfl fc ?_
  rintro _ rfl
  repeat (refine d0.intro (by repeat' (first | (show zA _;first | exact trivial|refine zA.app ?_ ?_|refine zA.zd ?_ ?_|refine zA.cons ?_ ?_) | with_reducible rfl | with_reducible assumption | omega | (simp only [zero_add,zIn,e4,e5,rng,Ix.val,zQ,addI,szs] <;> omega) | (simp only [zero_add,zIn,e4,e5,rng,Ix.val,zIn,zme,zQ,addI,Option.getD_none,Option.getD_some,zlT,zlD,zlA,length_set,List.length_replicate,szs, *] <;> omega) | (simp only [Ix.val];with_reducible assumption) | exact UInt8.toNat_lt _ | (apply Eq.trans;(with_reducible assumption);exact rfl) | exact rfl | exact fun _ _=>rfl)) ?_)
  refine zB.intro (fun hp=>?_) (fun hp=>?_)
  ·have hp:(((E.getD (ge 0 ((255 - (k:Int)) / 16).toNat) 0 / 2 ^ (UInt64.ofInt ((255 - (k:Int)) % 16)).toNat).toNat &&& 1:Nat):Int) = 1:=hp
   rw [zQ,zero_add,e4,e5,hb] at hp
   rw [if_pos (by omega)] at ht
   rw [ht] at ht2
   repeat refine sd ?_
   refine Call.pure (hM (y * y) x) rfl fc ?_
   rintro _ rfl
   repeat (first|refine gi ?_|refine sd ?_)
   refine ⟨k + 1,by omega,by omega,Le.intro [] rfl fc rfl fc rfl⟩
  ·have hp:¬ (((E.getD (ge 0 ((255 - (k:Int)) / 16).toNat) 0 / 2 ^ (UInt64.ofInt ((255 - (k:Int)) % 16)).toNat).toNat &&& 1:Nat):Int) = 1:=hp
   rw [zQ,zero_add,e4,e5,hb] at hp
   rw [if_neg (by omega)] at ht
   rw [ht] at ht2
   repeat refine sd ?_
   refine ⟨k + 1,by omega,by omega,Le.intro [] rfl fc rfl fc rfl⟩
 obtain rfl:k = 256:=by have hc:¬ 255 - (k:Int) ≥ 0:=hc;omega
 have z:pw x (e / 2 ^ (256 - 256)) = pw x e:=by rw [Nat.sub_self,Nat.pow_zero,Nat.div_one]
 rw [z]
 have lr:=hl (pw x e)
 generalize nmF (pw x e) = R at *
 repeat refine sd ?_
 refine Ret.intro (.ai R) [] [] rfl fc rfl rfl fc rfl fc rfl
theorem aHY:Sx.Fn Γ.P 129 [.ai prD,.ai ((2:Int) :: replicate 15 0)] [] (fun v _=>v = .ai (nmN (aB - 2))):=by
 have d2:Dig ((2:Int) :: replicate 15 0):=(Dig.rep 16).set (i:=0) (x:=2) (by decide) (by decide)
 have h:=aH4 prD ((2:Int) :: replicate 15 0) jM d2 rfl rfl
 obtain ⟨m1,m2,m3⟩:=ml jM d2 rfl (by decide +kernel)
 have e:(sbS prD ((2:Int) :: replicate 15 0) 16).1 = nmN (aB - 2):=iX m1 m2 (by rw [m3];decide +kernel)
 rw [e] at h
 exact h
theorem aHZ:Sx.Fn Γ.P 129 [.ai prD,.ai ((1:Int) :: replicate 15 0)] [] (fun v _=>v = .ai (nmN (aB - 1))):=by
 have d2:Dig ((1:Int) :: replicate 15 0):=(Dig.rep 16).set (i:=0) (x:=1) (by decide) (by decide)
 have h:=aH4 prD ((1:Int) :: replicate 15 0) jM d2 rfl rfl
 obtain ⟨m1,m2,m3⟩:=ml jM d2 rfl (by decide +kernel)
 have e:(sbS prD ((1:Int) :: replicate 15 0) 16).1 = nmN (aB - 1):=iX m1 m2 (by rw [m3];decide +kernel)
 rw [e] at h
 exact h
theorem aP8 (x:F):Sx.Fn Γ.P 81 [.ai (nmF x)] [] (fun v _=>v = .ai (nmF (inv x))):=by
 have hP:=aD5
 have hM:=aHY
 have hW:=aH5 x (aB - 2) (by decide)
 rw [<- qV] at hW
 have lx:=aC x
 have lr:=aC (inv x)
 have lp:prD.length = 16:=rfl
 have le:=aP (aB - 2)
 generalize nmN (aB - 2) = E at *
 generalize prD = prime at *
 generalize nmF (inv x) = R at *
 generalize nmF x = a at *
 refine aF (Γ:=Γ) (fn:=Tryz.f81) rfl rfl rfl rfl ?_
 repeat refine sd ?_
 refine aI.intro [[],[],[],[1,2],r_4,r_5] [0,2,1,3,4,5] (by kernel_rfl) ?_
 repeat (first|refine gi ?_|refine sd ?_)
 refine Call.pure hP rfl fc ?_
 rintro _ rfl
 repeat (first|refine gi ?_|refine sd ?_)
 refine Call.pure hM rfl fc ?_
 rintro _ rfl
 repeat (first|refine gi ?_|refine sd ?_)
 refine Call.pure hW rfl fc ?_
 rintro _ rfl
 repeat (first|refine gi ?_|refine sd ?_)
 refine Ret.intro (.ai R) [] [] rfl fc rfl rfl fc rfl fc rfl
end Go.Proofs.YtimbdhpchlakfaaGreat
