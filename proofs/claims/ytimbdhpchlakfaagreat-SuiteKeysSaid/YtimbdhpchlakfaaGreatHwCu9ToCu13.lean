/- Walks. -/
import Derived.Test.YtimbdhpchlakfaaGreatHwTabToCu8
set_option linter.unusedSimpArgs false
set_option linter.unusedVariables false
set_option maxHeartbeats 4000000
open UInt64 (ofNat toNat_add)
open List (replicate getD_eq_getElem?_getD length_set)
open Nat (mod_lt zero_le mod_eq_of_lt lt_trans pow_mul pow_add)
set_option maxRecDepth 100000
namespace Go.Cu
open Go Go.Sx
def rF:F:=2251799813685248
theorem r5:rF * rF * rF * rF * rF = 19:=by decide +kernel
theorem aU8:fn 2251799813685248 = rF:=by decide +kernel
theorem aTM:fn 5070602400912917605986812821504 = rF * rF:=by decide +kernel
theorem aTL:fn 11417981541647679048466287755595961091061972992 = rF * rF * rF:=by decide +kernel
theorem aTK:fn 25711008708143844408671393477458601640355247900524685364822016 = rF * rF * rF * rF:=by decide +kernel
theorem aPW:fn 19 = 19:=by decide +kernel
def lf (l:List UInt64) (i:Nat):F:=fn (l.getD i 0).toNat
theorem aDX (l:List UInt64):fv l = lf l 0 + lf l 1 * rF + lf l 2 * (rF * rF) + lf l 3 * (rF * rF * rF) + lf l 4 * (rF * rF * rF * rF):=by
 unfold fv nv5 lf
 rw [aa,aa,aa,aa,kG,kG,kG,kG,aU8,aTM,aTL,aTK]
theorem aPD {l:List UInt64} (h:Lb l):∀ i,i < 5->(l.getD i 0).toNat < 4503599627370496:=by
 intro i hi
 obtain ⟨_,h0,h1,h2,h3,h4⟩:=h
 match i,hi with
 | 0,_=>exact h0
 | 1,_=>exact h1
 | 2,_=>exact h2
 | 3,_=>exact h3
 | 4,_=>exact h4
theorem pm (x y:UInt64) (hy:y.toNat < 4503599627370496):x.toNat * (ofNat 19 * y).toNat = 19 * (x.toNat * y.toNat):=by
 rw [m19 hy,Nat.mul_left_comm]
theorem aLQ {a b:List UInt64} (ha:Lb a) (hb:Lb b) :
  ∃ v0 v1 v2 v3 v4:Nat,wV ((muS a b 5).getD 0 (0,0)) = v0/\wV ((muS a b 5).getD 1 (0,0)) = v1/\wV ((muS a b 5).getD 2 (0,0)) = v2/\wV ((muS a b 5).getD 3 (0,0)) = v3/\wV ((muS a b 5).getD 4 (0,0)) = v4
   /\ v0 < 2596148429267413814265248164610048/\v1 < 2596148429267413814265248164610048/\v2 < 2596148429267413814265248164610048/\v3 < 2596148429267413814265248164610048/\v4 < 162259276829213363391578010288128
   /\ fn v0 = lf a 0 * lf b 0 + 19 * (lf a 1 * lf b 4) + 19 * (lf a 2 * lf b 3) + 19 * (lf a 3 * lf b 2) + 19 * (lf a 4 * lf b 1)
   /\ fn v1 = lf a 0 * lf b 1 + lf a 1 * lf b 0 + 19 * (lf a 2 * lf b 4) + 19 * (lf a 3 * lf b 3) + 19 * (lf a 4 * lf b 2)
   /\ fn v2 = lf a 0 * lf b 2 + lf a 1 * lf b 1 + lf a 2 * lf b 0 + 19 * (lf a 3 * lf b 4) + 19 * (lf a 4 * lf b 3)
   /\ fn v3 = lf a 0 * lf b 3 + lf a 1 * lf b 2 + lf a 2 * lf b 1 + lf a 3 * lf b 0 + 19 * (lf a 4 * lf b 4)
   /\ fn v4 = lf a 0 * lf b 4 + lf a 1 * lf b 3 + lf a 2 * lf b 2 + lf a 3 * lf b 1 + lf a 4 * lf b 0:=by
 have la:=aPD ha
 have lb:=aPD hb
 have q:∀ i k,i < 5->k < 5->(a.getD i 0).toNat * (b.getD k 0).toNat <= 20282409603651661421847155900416:=fun i k hi hk=>pb1 (la i hi) (lb k hk)
 have p:∀ i k,k < 5->(a.getD i 0).toNat * (ofNat 19 * b.getD k 0).toNat = 19 * ((a.getD i 0).toNat * (b.getD k 0).toNat):=fun i k hk=>pm _ _ (lb k hk)
 have f:∀ i k,fn ((a.getD i 0).toNat * (b.getD k 0).toNat) = lf a i * lf b k:=fun i k=>kG _ _
 have g:∀ i k,fn (19 * ((a.getD i 0).toNat * (b.getD k 0).toNat)) = 19 * (lf a i * lf b k):=fun i k=>by rw [kG,f,aPW]
 rw [aO9]
 have q00:=q 0 0 (by omega) (by omega)
 have q01:=q 0 1 (by omega) (by omega)
 have q02:=q 0 2 (by omega) (by omega)
 have q03:=q 0 3 (by omega) (by omega)
 have q04:=q 0 4 (by omega) (by omega)
 have q10:=q 1 0 (by omega) (by omega)
 have q11:=q 1 1 (by omega) (by omega)
 have q12:=q 1 2 (by omega) (by omega)
 have q13:=q 1 3 (by omega) (by omega)
 have q14:=q 1 4 (by omega) (by omega)
 have q20:=q 2 0 (by omega) (by omega)
 have q21:=q 2 1 (by omega) (by omega)
 have q22:=q 2 2 (by omega) (by omega)
 have q23:=q 2 3 (by omega) (by omega)
 have q24:=q 2 4 (by omega) (by omega)
 have q30:=q 3 0 (by omega) (by omega)
 have q31:=q 3 1 (by omega) (by omega)
 have q32:=q 3 2 (by omega) (by omega)
 have q33:=q 3 3 (by omega) (by omega)
 have q34:=q 3 4 (by omega) (by omega)
 have q40:=q 4 0 (by omega) (by omega)
 have q41:=q 4 1 (by omega) (by omega)
 have q42:=q 4 2 (by omega) (by omega)
 have q43:=q 4 3 (by omega) (by omega)
 have q44:=q 4 4 (by omega) (by omega)
 refine ⟨_,_,_,_,_,aQK rfl (p 1 4 (by omega)) (p 2 3 (by omega)) (p 3 2 (by omega)) (p 4 1 (by omega)) (by omega),aQK rfl rfl (p 2 4 (by omega)) (p 3 3 (by omega)) (p 4 2 (by omega)) (by omega),
  aQK rfl rfl rfl (p 3 4 (by omega)) (p 4 3 (by omega)) (by omega),aQK rfl rfl rfl rfl (p 4 4 (by omega)) (by omega),aQK rfl rfl rfl rfl rfl (by omega),by omega,by omega,by omega,by omega,by omega,?_,?_,?_,?_,?_⟩
 ·rw [aa,aa,aa,aa,f,g,g,g,g]
 ·rw [aa,aa,aa,aa,f,f,g,g,g]
 ·rw [aa,aa,aa,aa,f,f,f,g,g]
 ·rw [aa,aa,aa,aa,f,f,f,f,g]
 ·rw [aa,aa,aa,aa,f,f,f,f,f]
theorem aD0 (x:Nat):fn (x % 2251799813685248) = fn x - rF * fn (x / 2251799813685248):=by
 have h:fn (2251799813685248 * (x / 2251799813685248) + x % 2251799813685248) = fn x:=by rw [Nat.div_add_mod]
 rw [aa,kG,aU8] at h
 grind -lia -linarith (splits:=0)
theorem aVR {o0 o1 o2 o3 o4 o5 v0 v1 v2 v3 v4 r c0 c1 c2 c3 c4:F} (h0:o0 = 0) (hr:r * r * r * r * r = 19) (e0:c0 = v0 + o0 - r * o1) (e1:c1 = v1 + o1 - r * o2) (e2:c2 = v2 + o2 - r * o3) (e3:c3 = v3 + o3 - r * o4) (e4:c4 = v4 + o4 - r * o5) :
  c0 + o5 * 19 + c1 * r + c2 * (r * r) + c3 * (r * r * r) + c4 * (r * r * r * r) = v0 + v1 * r + v2 * (r * r) + v3 * (r * r * r) + v4 * (r * r * r * r):=by
 subst e0 e1 e2 e3 e4 h0;grind -lia -linarith (splits:=0)
theorem aSO {a0 a1 a2 a3 a4 b0 b1 b2 b3 b4 r:F} (hr:r * r * r * r * r = 19) :
  (a0 * b0 + 19 * (a1 * b4) + 19 * (a2 * b3) + 19 * (a3 * b2) + 19 * (a4 * b1)) + (a0 * b1 + a1 * b0 + 19 * (a2 * b4) + 19 * (a3 * b3) + 19 * (a4 * b2)) * r + (a0 * b2 + a1 * b1 + a2 * b0 + 19 * (a3 * b4) + 19 * (a4 * b3)) * (r * r) + (a0 * b3 + a1 * b2 + a2 * b1 + a3 * b0 + 19 * (a4 * b4)) * (r * r * r) + (a0 * b4 + a1 * b3 + a2 * b2 + a3 * b1 + a4 * b0) * (r * r * r * r)
   = (a0 + a1 * r + a2 * (r * r) + a3 * (r * r * r) + a4 * (r * r * r * r)) * (b0 + b1 * r + b2 * (r * r) + b3 * (r * r * r) + b4 * (r * r * r * r)):=by
 grind -lia -linarith (splits:=0)
theorem dT (t:List W2) (i:Nat):cyS t (i + 1) = ((cyS t i).1.set i (fw (t.getD i (0,0)).2 (cyS t i).2 0 &&& ofNat 2251799813685247),
   aV ((t.getD i (0,0)).1 + ru (t.getD i (0,0)).2 (cyS t i).2 0) 13 ||| aG (fw (t.getD i (0,0)).2 (cyS t i).2 0) 51):=rfl
theorem aQX (t:List W2):(cyS t 5).1 = [fw (t.getD 0 (0,0)).2 (cyS t 0).2 0 &&& ofNat 2251799813685247,fw (t.getD 1 (0,0)).2 (cyS t 1).2 0 &&& ofNat 2251799813685247,fw (t.getD 2 (0,0)).2 (cyS t 2).2 0 &&& ofNat 2251799813685247,
   fw (t.getD 3 (0,0)).2 (cyS t 3).2 0 &&& ofNat 2251799813685247,fw (t.getD 4 (0,0)).2 (cyS t 4).2 0 &&& ofNat 2251799813685247]:=by
 rw [dT t 4,dT t 3]
 generalize (cyS t 4).2 = o4
 rw [dT t 2]
 generalize (cyS t 3).2 = o3
 rw [dT t 1]
 generalize (cyS t 2).2 = o2
 rw [dT t 0]
 generalize (cyS t 1).2 = o1
 rfl
theorem rV {v o:Nat} (h:v < 2596148429267413814265248164610048) (ho:o <= 1152921504606848000):v + o < 41538374868278621028243970633760768/\(v + o) / 2251799813685248 <= 1152921504606848000:=by omega
theorem aHD {v o:Nat} (h:v < 162259276829213363391578010288128) (ho:o <= 1152921504606848000):v + o < 41538374868278621028243970633760768/\(v + o) / 2251799813685248 <= 144115188075855872:=by omega
theorem aK {a b:List UInt64} (ha:Lb a) (hb:Lb b):fv (ah a b) = fv a * fv b:=by
 obtain ⟨v0,v1,v2,v3,v4,w0,w1,w2,w3,w4,b0,b1,b2,b3,b4,f0,f1,f2,f3,f4⟩:=aLQ ha hb
 unfold ah
 rw [oy]
 generalize muS a b 5 = t at *
 have z0:((cyS t 0).2).toNat = 0:=rfl
 have l0:=rV b0 (o:=((cyS t 0).2).toNat) (by omega)
 have s0:=ow (w:=t.getD 0 (0,0)) (o:=(cyS t 0).2) (by rw [w0];exact l0.1)
 rw [w0] at s0
 have o1:((cyS t 1).2).toNat = (v0 + ((cyS t 0).2).toNat) / 2251799813685248:=by rw [dT];exact s0.2
 have l1:=rV b1 (o:=((cyS t 1).2).toNat) (by rw [o1];exact l0.2)
 have s1:=ow (w:=t.getD 1 (0,0)) (o:=(cyS t 1).2) (by rw [w1];exact l1.1)
 rw [w1] at s1
 have o2:((cyS t 2).2).toNat = (v1 + ((cyS t 1).2).toNat) / 2251799813685248:=by rw [dT];exact s1.2
 have l2:=rV b2 (o:=((cyS t 2).2).toNat) (by rw [o2];exact l1.2)
 have s2:=ow (w:=t.getD 2 (0,0)) (o:=(cyS t 2).2) (by rw [w2];exact l2.1)
 rw [w2] at s2
 have o3:((cyS t 3).2).toNat = (v2 + ((cyS t 2).2).toNat) / 2251799813685248:=by rw [dT];exact s2.2
 have l3:=rV b3 (o:=((cyS t 3).2).toNat) (by rw [o3];exact l2.2)
 have s3:=ow (w:=t.getD 3 (0,0)) (o:=(cyS t 3).2) (by rw [w3];exact l3.1)
 rw [w3] at s3
 have o4:((cyS t 4).2).toNat = (v3 + ((cyS t 3).2).toNat) / 2251799813685248:=by rw [dT];exact s3.2
 have l4:=aHD b4 (o:=((cyS t 4).2).toNat) (by rw [o4];exact l3.2)
 have s4:=ow (w:=t.getD 4 (0,0)) (o:=(cyS t 4).2) (by rw [w4];exact l4.1)
 rw [w4] at s4
 have o5:((cyS t 5).2).toNat = (v4 + ((cyS t 4).2).toNat) / 2251799813685248:=by rw [dT];exact s4.2
 have h5:((cyS t 5).2).toNat <= 144115188075855872:=by rw [o5];exact l4.2
 rw [aQX]
 generalize (cyS t 5).2 = O5 at *
 generalize (cyS t 4).2 = O4 at *
 generalize (cyS t 3).2 = O3 at *
 generalize (cyS t 2).2 = O2 at *
 generalize (cyS t 1).2 = O1 at *
 generalize (cyS t 0).2 = O0 at *
 rw [aDX]
 have c0:lf ([fw (t.getD 0 (0,0)).2 O0 0 &&& ofNat 2251799813685247,fw (t.getD 1 (0,0)).2 O1 0 &&& ofNat 2251799813685247,fw (t.getD 2 (0,0)).2 O2 0 &&& ofNat 2251799813685247,fw (t.getD 3 (0,0)).2 O3 0 &&& ofNat 2251799813685247,fw (t.getD 4 (0,0)).2 O4 0 &&& ofNat 2251799813685247].set 0 ((fw (t.getD 0 (0,0)).2 O0 0 &&& ofNat 2251799813685247) + O5 * ofNat 19)) 0
   = fn ((v0 + O0.toNat) % 2251799813685248) + fn O5.toNat * 19:=by
  show fn ((fw (t.getD 0 (0,0)).2 O0 0 &&& ofNat 2251799813685247) + O5 * ofNat 19).toNat = _
  rw [toNat_add,UInt64.toNat_mul,s0.1,show (ofNat 19).toNat = 19 from rfl,<- aPW,<- kG,<- aa]
  congr 1
  rw [mod_eq_of_lt (show O5.toNat * 19 < 2 ^ 64 by omega)]
  exact mod_eq_of_lt (by omega)
 have key:fv (List.set [fw (t.getD 0 (0,0)).2 O0 0 &&& ofNat 2251799813685247,fw (t.getD 1 (0,0)).2 O1 0 &&& ofNat 2251799813685247,fw (t.getD 2 (0,0)).2 O2 0 &&& ofNat 2251799813685247,fw (t.getD 3 (0,0)).2 O3 0 &&& ofNat 2251799813685247,fw (t.getD 4 (0,0)).2 O4 0 &&& ofNat 2251799813685247] 0 ((fw (t.getD 0 (0,0)).2 O0 0 &&& ofNat 2251799813685247) + O5 * ofNat 19))
   = (fn ((v0 + O0.toNat) % 2251799813685248) + fn O5.toNat * 19) + fn ((v1 + O1.toNat) % 2251799813685248) * rF + fn ((v2 + O2.toNat) % 2251799813685248) * (rF * rF) + fn ((v3 + O3.toNat) % 2251799813685248) * (rF * rF * rF) + fn ((v4 + O4.toNat) % 2251799813685248) * (rF * rF * rF * rF):=by
  rw [aDX,c0,<- s1.1,<- s2.1,<- s3.1,<- s4.1]
  rfl
 rw [<- aDX]
 refine key.trans ?_
 rw [aD0,aD0,aD0,aD0,aD0,<- o1,<- o2,<- o3,<- o4,<- o5,aa,aa,aa,aa,aa]
 rw [aVR (o0:=fn O0.toNat) (by rw [z0];rfl) r5 rfl rfl rfl rfl rfl,f0,f1,f2,f3,f4,aSO r5,<- aDX,<- aDX]
end Go.Cu
namespace Go.Cu
open Go Go.Sx
def aSR:List UInt64:=[ofNat 1,0,0,0,0]
theorem aLA:Lb aSR:=⟨rfl,by decide,by decide,by decide,by decide,by decide⟩
theorem aLB:fv aSR = 1:=by decide +kernel
def aAW (k i:Nat):Prop:=(k - 1) / 2 ^ i % 2 = 0 \/ 10 < i
instance (k i:Nat):Decidable (aAW k i):=by unfold aAW;exact inferInstance
def pwS (a:List UInt64) (n k:Nat):Nat->List UInt64
 | 0=>aSR
 | j + 1=>if aAW k (n - 1 - j) then ah (ah (pwS a n k j) (pwS a n k j)) a else ah (pwS a n k j) (pwS a n k j)
def exN (n k:Nat):Nat->Nat
 | 0=>0
 | j + 1=>if aAW k (n - 1 - j) then 2 * exN n k j + 1 else 2 * exN n k j
theorem sq (a:List UInt64) (n k:Nat):∀ j,Lb (pwS a n k j)
 | 0=>aLA
 | j + 1=>by unfold pwS;split <;> exact aE _ _
theorem xA {a:List UInt64} (ha:Lb a) (n k:Nat):∀ j,fv (pwS a n k j) = pw (fv a) (exN n k j)
 | 0=>aLB
 | j + 1=>by
  have ih:=xA ha n k j
  have hb:=sq a n k j
  have h2:fv (ah (pwS a n k j) (pwS a n k j)) = pw (fv a) (2 * exN n k j):=by
   rw [aK hb hb,ih,<- qG];congr 1;omega
  unfold pwS exN
  split
  ·rw [aK (aE _ _) ha,h2];rfl
  ·exact h2
def jl (a:List UInt64):List UInt64:=pwS a 255 21 255
theorem gR (a:List UInt64):Lb (jl a):=sq _ _ _ _
theorem aQO:exN 255 21 255 = aB - 2:=by decide +kernel
theorem rZ {a:List UInt64} (ha:Lb a):fv (jl a) = inv (fv a):=by
 unfold jl
 rw [xA ha,aQO,qV]
def lv:List UInt8->Nat
 | []=>0
 | b :: r=>b.toNat + 256 * lv r
def leN (v:Nat):Nat->List UInt8
 | 0=>[]
 | n + 1=>UInt8.ofNat v :: leN (v / 256) n
theorem kq:∀ n v,(leN v n).length = n
 | 0,_=>rfl
 | n + 1,v=>by show (leN (v / 256) n).length + 1 = n + 1;rw [kq n]
theorem aJO:∀ n v,lv (leN v n) = v % 256 ^ n
 | 0,v=>by show 0 = v % 1;rw [Nat.mod_one]
 | n + 1,v=>by
  show (UInt8.ofNat v).toNat + 256 * lv (leN (v / 256) n) = v % 256 ^ (n + 1)
  have h:(UInt8.ofNat v).toNat = v % 256:=UInt8.toNat_ofNat'
  rw [aJO n,h,Nat.pow_succ',Nat.mod_mul]
theorem rX:∀ n v i,i < n->(leN v n).getD i 0 = UInt8.ofNat (v / 256 ^ i)
 | n + 1,v,0,_=>by show UInt8.ofNat v = UInt8.ofNat (v / 1);rw [Nat.div_one]
 | n + 1,v,i + 1,h=>by
  show (leN (v / 256) n).getD i 0 = _
  rw [rX n (v / 256) i (by omega),Nat.div_div_eq_div_mul,Nat.pow_succ']
def leB (x:F):List UInt8:=leN x.val 32
theorem aZ (x:F):(leB x).length = 32:=kq _ _
theorem tJ (x:F):lv (leB x) = x.val:=by
 have h:=x.isLt
 unfold leB
 rw [aJO]
 exact mod_eq_of_lt (lt_trans h (by decide))
def qS (l:List UInt64):Nat->UInt64
 | 0=>ofNat 19
 | i + 1=>aG (l.getD i 0 + qS l i) 51
def nmS (l:List UInt64):Nat->List UInt64
 | 0=>l
 | i + 1=>((nmS l i).set (i + 1) ((nmS l i).getD (i + 1) 0 + aG ((nmS l i).getD i 0) 51)).set i (((nmS l i).set (i + 1) ((nmS l i).getD (i + 1) 0 + aG ((nmS l i).getD i 0) 51)).getD i 0 &&& ofNat 2251799813685247)
theorem qM (l:List UInt64) (h:l.length = 5):∀ i,(nmS l i).length = 5
 | 0=>h
 | i + 1=>by show (List.set (List.set _ _ _) _ _).length = 5;rw [length_set,length_set];exact qM l h i
def wdL (l:List UInt64):List UInt64:=
 [l.getD 0 0 ||| aV (l.getD 1 0) 51,aG (l.getD 1 0) 13 ||| aV (l.getD 2 0) 38,aG (l.getD 2 0) 26 ||| aV (l.getD 3 0) 25,aG (l.getD 3 0) 39 ||| aV (l.getD 4 0) 12]
def byS (t:List UInt64):Nat->List UInt8
 | 0=>replicate 32 0
 | i + 1=>(byS t i).set i (aG (t.getD (i / 8) 0) (i % 8 * 8)).toUInt8
theorem byS_length (t:List UInt64):∀ i,(byS t i).length = 32
 | 0=>rfl
 | i + 1=>by show ((byS t i).set i _).length = 32;rw [length_set];exact byS_length t i
def frL (l:List UInt64):List UInt64:=l.set 0 (l.getD 0 0 + ofNat 19 * qS l 5)
def nmL (l:List UInt64):List UInt64:=(nmS (frL l) 4).set 4 ((nmS (frL l) 4).getD 4 0 &&& ofNat 2251799813685247)
def aNS (l:List UInt64):List UInt8:=byS (wdL (nmL (cQ (cQ l)))) 32
theorem yG (t:List UInt64):∀ n i,i < n->n <= 32->(byS t n).getD i 0 = (aG (t.getD (i / 8) 0) (i % 8 * 8)).toUInt8
 | n + 1,i,h,hn=>by
  show ((byS t n).set n _).getD i 0 = _
  by_cases hi:i = n
  ·subst hi
   rw [getD_eq_getElem?_getD,List.getElem?_set_self (by rw [byS_length];omega)];rfl
  ·rw [getD_eq_getElem?_getD,List.getElem?_set_ne (by omega),<- getD_eq_getElem?_getD]
   exact yG t n i (by omega) (by omega)
theorem mq {A B:List UInt8} {n:Nat} (ha:A.length = n) (hb:B.length = n) (h:∀ i,i < n->A.getD i 0 = B.getD i 0):A = B:=by
 apply List.ext_getElem (by rw [ha,hb])
 intro i h1 h2
 have:=h i (by omega)
 rw [getD_eq_getElem?_getD,getD_eq_getElem?_getD,List.getElem?_eq_getElem h1,List.getElem?_eq_getElem h2] at this
 exact this
theorem aM0 {t:List UInt64} {v:Nat} (h:∀ j,j < 4->(t.getD j 0).toNat = v / 18446744073709551616 ^ j % 18446744073709551616):byS t 32 = leN v 32:=by
 refine mq (n:=32) (byS_length _ _) (kq _ _) fun i hi=>?_
 rw [yG t 32 i hi (Nat.le_refl _),rX 32 v i hi]
 apply UInt8.toNat_inj.1
 rw [UInt64.toNat_toUInt8,bo,h (i / 8) (by omega),UInt8.toNat_ofNat']
 have e256:(256:Nat) ^ i = 18446744073709551616 ^ (i / 8) * 2 ^ (i % 8 * 8):=by
  rw [show (256:Nat) = 2 ^ 8 from rfl,show (18446744073709551616:Nat) = 2 ^ 64 from rfl,<- pow_mul,<- pow_mul,<- pow_add]
  congr 1;omega
 rw [e256,<- Nat.div_div_eq_div_mul]
 generalize v / 18446744073709551616 ^ (i / 8) = w
 have hm:i % 8 < 8:=mod_lt _ (by omega)
 generalize i % 8 = m at hm
 have:m = 0 \/ m = 1 \/ m = 2 \/ m = 3 \/ m = 4 \/ m = 5 \/ m = 6 \/ m = 7:=by omega
 rcases this with rfl | rfl | rfl | rfl | rfl | rfl | rfl | rfl <;> (simp only [Nat.reduceMul,Nat.reducePow];omega)
end Go.Cu
namespace Go.Cu
open Go Go.Sx
theorem gy {x y:UInt64} {k:Nat} (z:Nat) (hy:y.toNat = z * 2 ^ k) (hx:x.toNat < 2 ^ k):(x ||| y).toNat = x.toNat + y.toNat:=by
 rw [UInt64.toNat_or,Nat.or_comm,hy,Nat.mul_comm,Nat.add_comm,Nat.two_pow_add_eq_or_of_lt hx]
theorem cT (x:UInt64) {k:Nat} (hk:k <= 64):(aV x k).toNat = x.toNat % 2 ^ (64 - k) * 2 ^ k:=by
 rw [uj,show (18446744073709551616:Nat) = 2 ^ (64 - k) * 2 ^ k by rw [<- pow_add,Nat.sub_add_cancel hk],Nat.mul_mod_mul_right]
theorem aSN {x0 x1 x2 x3 x4 q1 q2 q3 q4 q5:Nat} (h1:q1 = (x0 + 19) / 2251799813685248) (h2:q2 = (x1 + q1) / 2251799813685248) (h3:q3 = (x2 + q2) / 2251799813685248) (h4:q4 = (x3 + q3) / 2251799813685248) (h5:q5 = (x4 + q4) / 2251799813685248) :
  q5 * 57896044618658097711785492504343953926634992332820282019728792003956564819968 <= x0 + x1 * 2251799813685248 + x2 * 5070602400912917605986812821504 + x3 * 11417981541647679048466287755595961091061972992 + x4 * 25711008708143844408671393477458601640355247900524685364822016 + 19
  /\ x0 + x1 * 2251799813685248 + x2 * 5070602400912917605986812821504 + x3 * 11417981541647679048466287755595961091061972992 + x4 * 25711008708143844408671393477458601640355247900524685364822016 + 19 < (q5 + 1) * 57896044618658097711785492504343953926634992332820282019728792003956564819968:=by omega
theorem aSZ {x0 x1 x2 x3 x4 y1 y2 y3 y4:Nat} (h1:y1 = x1 + x0 / 2251799813685248) (h2:y2 = x2 + y1 / 2251799813685248) (h3:y3 = x3 + y2 / 2251799813685248) (h4:y4 = x4 + y3 / 2251799813685248) :
  x0 % 2251799813685248 + y1 % 2251799813685248 * 2251799813685248 + y2 % 2251799813685248 * 5070602400912917605986812821504 + y3 % 2251799813685248 * 11417981541647679048466287755595961091061972992 + y4 % 2251799813685248 * 25711008708143844408671393477458601640355247900524685364822016
   = (x0 + x1 * 2251799813685248 + x2 * 5070602400912917605986812821504 + x3 * 11417981541647679048466287755595961091061972992 + x4 * 25711008708143844408671393477458601640355247900524685364822016) % 57896044618658097711785492504343953926634992332820282019728792003956564819968:=by omega
theorem aR1 {v q:Nat} (hv:v < 86844066927987146567678238756515930889952488499230423029593188005934847229952) (h1:q * 57896044618658097711785492504343953926634992332820282019728792003956564819968 <= v + 19) (h2:v + 19 < (q + 1) * 57896044618658097711785492504343953926634992332820282019728792003956564819968) :
  (v + 19 * q) % 57896044618658097711785492504343953926634992332820282019728792003956564819968 = v % 57896044618658097711785492504343953926634992332820282019728792003956564819949/\q <= 1:=by
 have hq:q <= 1:=by omega
 refine ⟨?_,hq⟩
 rcases (by omega:q = 0 \/ q = 1) with rfl | rfl <;> omega
def L51 (l:List UInt64):Prop:=(l.getD 0 0).toNat < 2251799813685248/\(l.getD 1 0).toNat < 2251799813685248/\(l.getD 2 0).toNat < 2251799813685248/\(l.getD 3 0).toNat < 2251799813685248/\(l.getD 4 0).toNat < 2251799813685248
theorem aPV {x0 x1 x2 x3 x4:UInt64}:frL [x0,x1,x2,x3,x4] = [x0 + ofNat 19 * qS [x0,x1,x2,x3,x4] 5,x1,x2,x3,x4]:=rfl
theorem aLJ {x0 x1 x2 x3 x4:UInt64} {y1 y2 y3 y4:UInt64} (h1:y1 = x1 + aG x0 51) (h2:y2 = x2 + aG y1 51) (h3:y3 = x3 + aG y2 51) (h4:y4 = x4 + aG y3 51) :
  (nmS [x0,x1,x2,x3,x4] 4).set 4 ((nmS [x0,x1,x2,x3,x4] 4).getD 4 0 &&& ofNat 2251799813685247)
   = [x0 &&& ofNat 2251799813685247,y1 &&& ofNat 2251799813685247,y2 &&& ofNat 2251799813685247,y3 &&& ofNat 2251799813685247,y4 &&& ofNat 2251799813685247]:=by
 have s1:nmS [x0,x1,x2,x3,x4] 1 = [x0 &&& ofNat 2251799813685247,y1,x2,x3,x4]:=by rw [h1];rfl
 have s2:nmS [x0,x1,x2,x3,x4] 2 = [x0 &&& ofNat 2251799813685247,y1 &&& ofNat 2251799813685247,y2,x3,x4]:=by
  rw [h2];show List.set (List.set (nmS [x0,x1,x2,x3,x4] 1) 2 _) 1 _ = _;rw [s1];rfl
 have s3:nmS [x0,x1,x2,x3,x4] 3 = [x0 &&& ofNat 2251799813685247,y1 &&& ofNat 2251799813685247,y2 &&& ofNat 2251799813685247,y3,x4]:=by
  rw [h3];show List.set (List.set (nmS [x0,x1,x2,x3,x4] 2) 3 _) 2 _ = _;rw [s2];rfl
 have s4:nmS [x0,x1,x2,x3,x4] 4 = [x0 &&& ofNat 2251799813685247,y1 &&& ofNat 2251799813685247,y2 &&& ofNat 2251799813685247,y3 &&& ofNat 2251799813685247,y4]:=by
  rw [h4];show List.set (List.set (nmS [x0,x1,x2,x3,x4] 3) 4 _) 3 _ = _;rw [s3];rfl
 rw [s4];rfl
theorem aMO {l:List UInt64} (h:l.length = 5):∃ x0 x1 x2 x3 x4,l = [x0,x1,x2,x3,x4]:=by
 match l,h with
 | [x0,x1,x2,x3,x4],_=>exact ⟨x0,x1,x2,x3,x4,rfl⟩
theorem aIJ (l:List UInt64):((cQ (cQ l)).getD 0 0).toNat <= 2251799813685266/\((cQ (cQ l)).getD 1 0).toNat <= 2251799813685248/\((cQ (cQ l)).getD 2 0).toNat <= 2251799813685248/\((cQ (cQ l)).getD 3 0).toNat <= 2251799813685248/\((cQ (cQ l)).getD 4 0).toNat <= 2251799813685248:=by
 obtain ⟨e0,e1,e2,e3,e4⟩:=wE (cQ l)
 obtain ⟨_,h0,h1,h2,h3,h4⟩:=iN l
 rw [e0,e1,e2,e3,e4]
 clear e0 e1 e2 e3 e4
 refine ⟨?_,?_,?_,?_,?_⟩ <;> omega
theorem aLI (l:List UInt64):nv5 (nmL (cQ (cQ l))) = (fv l).val/\L51 (nmL (cQ (cQ l))):=by
 have hb:=aIJ l
 have hf:fv (cQ (cQ l)) = fv l:=by rw [oy,oy]
 obtain ⟨x0,x1,x2,x3,x4,hx⟩:=aMO (iN (cQ l)).1
 rw [hx] at hb hf ⊢
 obtain ⟨b0,b1,b2,b3,b4⟩:=hb
 have b0:x0.toNat <= 2251799813685266:=b0
 have b1:x1.toNat <= 2251799813685248:=b1
 have b2:x2.toNat <= 2251799813685248:=b2
 have b3:x3.toNat <= 2251799813685248:=b3
 have b4:x4.toNat <= 2251799813685248:=b4
 obtain ⟨q1,hq1⟩:∃ q,q = aG (x0 + ofNat 19) 51:=⟨_,rfl⟩
 obtain ⟨q2,hq2⟩:∃ q,q = aG (x1 + q1) 51:=⟨_,rfl⟩
 obtain ⟨q3,hq3⟩:∃ q,q = aG (x2 + q2) 51:=⟨_,rfl⟩
 obtain ⟨q4,hq4⟩:∃ q,q = aG (x3 + q3) 51:=⟨_,rfl⟩
 obtain ⟨q5,hq5⟩:∃ q,q = aG (x4 + q4) 51:=⟨_,rfl⟩
 have hq:qS [x0,x1,x2,x3,x4] 5 = q5:=by rw [hq5,hq4,hq3,hq2,hq1];rfl
 have v1:q1.toNat = (x0.toNat + 19) / 2251799813685248:=by rw [hq1,iw,toNat_add,show (ofNat 19).toNat = 19 from rfl];congr 1;omega
 have v2:q2.toNat = (x1.toNat + q1.toNat) / 2251799813685248:=by rw [hq2,iw,toNat_add];congr 1;omega
 have v3:q3.toNat = (x2.toNat + q2.toNat) / 2251799813685248:=by rw [hq3,iw,toNat_add];congr 1;omega
 have v4:q4.toNat = (x3.toNat + q3.toNat) / 2251799813685248:=by rw [hq4,iw,toNat_add];congr 1;omega
 have v5:q5.toNat = (x4.toNat + q4.toNat) / 2251799813685248:=by rw [hq5,iw,toNat_add];congr 1;omega
 obtain ⟨k1,k2⟩:=aSN v1 v2 v3 v4 v5
 clear v1 v2 v3 v4 v5 hq1 hq2 hq3 hq4 hq5
 have hv:nv5 [x0,x1,x2,x3,x4] = x0.toNat + x1.toNat * 2251799813685248 + x2.toNat * 5070602400912917605986812821504 + x3.toNat * 11417981541647679048466287755595961091061972992 + x4.toNat * 25711008708143844408671393477458601640355247900524685364822016:=rfl
 have hlt:nv5 [x0,x1,x2,x3,x4] < 86844066927987146567678238756515930889952488499230423029593188005934847229952:=by rw [hv];omega
 obtain ⟨m1,m2⟩:=aR1 hlt (hv ▸ k1) (hv ▸ k2)
 clear k1 k2
 unfold nmL
 rw [aPV,hq]
 obtain ⟨z0,hz0⟩:∃ z,z = x0 + ofNat 19 * q5:=⟨_,rfl⟩
 rw [<- hz0]
 have w0:z0.toNat = x0.toNat + 19 * q5.toNat:=by
  clear m1 hlt hv hf hx hq
  rw [hz0,toNat_add,UInt64.toNat_mul,show (ofNat 19).toNat = 19 from rfl];omega
 obtain ⟨y1,hy1⟩:∃ y,y = x1 + aG z0 51:=⟨_,rfl⟩
 obtain ⟨y2,hy2⟩:∃ y,y = x2 + aG y1 51:=⟨_,rfl⟩
 obtain ⟨y3,hy3⟩:∃ y,y = x3 + aG y2 51:=⟨_,rfl⟩
 obtain ⟨y4,hy4⟩:∃ y,y = x4 + aG y3 51:=⟨_,rfl⟩
 rw [aLJ hy1 hy2 hy3 hy4]
 have w1:y1.toNat = x1.toNat + z0.toNat / 2251799813685248:=by clear m1 hlt hv hf hx hq hz0;rw [hy1,toNat_add,iw];omega
 have w2:y2.toNat = x2.toNat + y1.toNat / 2251799813685248:=by clear m1 hlt hv hf hx hq hz0;rw [hy2,toNat_add,iw];omega
 have w3:y3.toNat = x3.toNat + y2.toNat / 2251799813685248:=by clear m1 hlt hv hf hx hq hz0;rw [hy3,toNat_add,iw];omega
 have w4:y4.toNat = x4.toNat + y3.toNat / 2251799813685248:=by clear m1 hlt hv hf hx hq hz0;rw [hy4,toNat_add,iw];omega
 have hn:=aSZ w1 w2 w3 w4
 rw [w0] at hn
 have hs:x0.toNat + 19 * q5.toNat + x1.toNat * 2251799813685248 + x2.toNat * 5070602400912917605986812821504 + x3.toNat * 11417981541647679048466287755595961091061972992 + x4.toNat * 25711008708143844408671393477458601640355247900524685364822016 = nv5 [x0,x1,x2,x3,x4] + 19 * q5.toNat:=by rw [hv];clear m1 hlt hv hf hx hq hz0 hn w0 w1 w2 w3 w4;omega
 rw [hs,m1] at hn
 refine ⟨?_,?_⟩
 ·show (z0 &&& ofNat 2251799813685247).toNat + (y1 &&& ofNat 2251799813685247).toNat * _ + (y2 &&& ofNat 2251799813685247).toNat * _ + (y3 &&& ofNat 2251799813685247).toNat * _ + (y4 &&& ofNat 2251799813685247).toNat * _ = _
  rw [fQ,fQ,fQ,fQ,fQ,w0,hn,<- hf]
  rfl
 ·refine ⟨?_,?_,?_,?_,?_⟩
  ·show (z0 &&& ofNat 2251799813685247).toNat < _;rw [fQ];exact mod_lt _ (by decide)
  ·show (y1 &&& ofNat 2251799813685247).toNat < _;rw [fQ];exact mod_lt _ (by decide)
  ·show (y2 &&& ofNat 2251799813685247).toNat < _;rw [fQ];exact mod_lt _ (by decide)
  ·show (y3 &&& ofNat 2251799813685247).toNat < _;rw [fQ];exact mod_lt _ (by decide)
  ·show (y4 &&& ofNat 2251799813685247).toNat < _;rw [fQ];exact mod_lt _ (by decide)
theorem aN0 {n0 n1 n2 n3 n4:Nat} (h0:n0 < 2251799813685248):n0 + n1 % 2 ^ (64 - 51) * 2 ^ 51 = (n0 + n1 * 2251799813685248 + n2 * 5070602400912917605986812821504 + n3 * 11417981541647679048466287755595961091061972992 + n4 * 25711008708143844408671393477458601640355247900524685364822016) % 18446744073709551616:=by omega
theorem aNZ {n0 n1 n2 n3 n4:Nat} (h0:n0 < 2251799813685248) (h1:n1 < 2251799813685248):n1 / 2 ^ 13 + n2 % 2 ^ (64 - 38) * 2 ^ 38 = (n0 + n1 * 2251799813685248 + n2 * 5070602400912917605986812821504 + n3 * 11417981541647679048466287755595961091061972992 + n4 * 25711008708143844408671393477458601640355247900524685364822016) / 18446744073709551616 % 18446744073709551616:=by omega
theorem aNY {n0 n1 n2 n3 n4:Nat} (h0:n0 < 2251799813685248) (h1:n1 < 2251799813685248) (h2:n2 < 2251799813685248):n2 / 2 ^ 26 + n3 % 2 ^ (64 - 25) * 2 ^ 25 = (n0 + n1 * 2251799813685248 + n2 * 5070602400912917605986812821504 + n3 * 11417981541647679048466287755595961091061972992 + n4 * 25711008708143844408671393477458601640355247900524685364822016) / 340282366920938463463374607431768211456 % 18446744073709551616:=by omega
theorem aNX {n0 n1 n2 n3 n4:Nat} (h0:n0 < 2251799813685248) (h1:n1 < 2251799813685248) (h2:n2 < 2251799813685248) (h3:n3 < 2251799813685248):n3 / 2 ^ 39 + n4 % 2 ^ (64 - 12) * 2 ^ 12 = (n0 + n1 * 2251799813685248 + n2 * 5070602400912917605986812821504 + n3 * 11417981541647679048466287755595961091061972992 + n4 * 25711008708143844408671393477458601640355247900524685364822016) / 6277101735386680763835789423207666416102355444464034512896 % 18446744073709551616:=by omega
theorem aKK {l:List UInt64} (h:L51 l):∀ j,j < 4->((wdL l).getD j 0).toNat = nv5 l / 18446744073709551616 ^ j % 18446744073709551616:=by
 obtain ⟨h0,h1,h2,h3,h4⟩:=h
 intro j hj
 have:j = 0 \/ j = 1 \/ j = 2 \/ j = 3:=by omega
 unfold nv5
 rcases this with rfl | rfl | rfl | rfl
 ·show (l.getD 0 0 ||| aV (l.getD 1 0) 51).toNat = _ / 1 % _
  rw [gy _ (cT _ (by omega)) h0,cT _ (by omega),Nat.div_one]
  exact aN0 h0
 ·show (aG (l.getD 1 0) 13 ||| aV (l.getD 2 0) 38).toNat = _ / 18446744073709551616 % _
  have hs:(aG (l.getD 1 0) 13).toNat < 2 ^ 38:=by rw [bo];exact Nat.div_lt_of_lt_mul h1
  rw [gy _ (cT _ (by omega)) hs,cT _ (by omega),bo]
  exact aNZ h0 h1
 ·show (aG (l.getD 2 0) 26 ||| aV (l.getD 3 0) 25).toNat = _ / 340282366920938463463374607431768211456 % _
  have hs:(aG (l.getD 2 0) 26).toNat < 2 ^ 25:=by rw [bo];exact Nat.div_lt_of_lt_mul h2
  rw [gy _ (cT _ (by omega)) hs,cT _ (by omega),bo]
  exact aNY h0 h1 h2
 ·show (aG (l.getD 3 0) 39 ||| aV (l.getD 4 0) 12).toNat = _ / 6277101735386680763835789423207666416102355444464034512896 % _
  have hs:(aG (l.getD 3 0) 39).toNat < 2 ^ 12:=by rw [bo];exact Nat.div_lt_of_lt_mul h3
  rw [gy _ (cT _ (by omega)) hs,cT _ (by omega),bo]
  exact aNX h0 h1 h2 h3
theorem jh (l:List UInt64):aNS l = leB (fv l):=by
 obtain ⟨h1,h2⟩:=aLI l
 unfold aNS leB
 rw [<- h1]
 exact aM0 (aKK h2)
def owS (b:List UInt8):Nat->List UInt64
 | 0=>replicate 4 0
 | i + 1=>(owS b i).set (i / 8) ((owS b i).getD (i / 8) 0 ||| aV (b.getD i 0).toUInt64 (i % 8 * 8))
theorem owS_length (b:List UInt8):∀ i,(owS b i).length = 4
 | 0=>rfl
 | i + 1=>by show ((owS b i).set _ _).length = 4;rw [length_set];exact owS_length b i
def ofW (w:List UInt64):List UInt64:=
 [w.getD 0 0 &&& ofNat 2251799813685247,(aG (w.getD 0 0) 51 ||| aV (w.getD 1 0) 13) &&& ofNat 2251799813685247,(aG (w.getD 1 0) 38 ||| aV (w.getD 2 0) 26) &&& ofNat 2251799813685247,
  (aG (w.getD 2 0) 25 ||| aV (w.getD 3 0) 39) &&& ofNat 2251799813685247,aG (w.getD 3 0) 12 &&& ofNat 2251799813685247]
def ofL (b:List UInt8):List UInt64:=ofW (owS b 32)
theorem vc:∀ (b:List UInt8) (i:Nat),lv b / 256 ^ i % 256 = (b.getD i 0).toNat
 | [],i=>by show 0 / _ % 256 = 0;rw [Nat.zero_div]
 | x :: r,0=>by
  have:=x.toNat_lt
  show (x.toNat + 256 * lv r) / 1 % 256 = x.toNat;omega
 | x :: r,i + 1=>by
  have:=x.toNat_lt
  show (x.toNat + 256 * lv r) / 256 ^ (i + 1) % 256 = (r.getD i 0).toNat
  rw [Nat.pow_succ',<- Nat.div_div_eq_div_mul,show (x.toNat + 256 * lv r) / 256 = lv r by omega]
  exact vc r i
theorem aG9:∀ b:List UInt8,lv b < 256 ^ b.length
 | []=>by decide
 | x :: r=>by
  have:=x.toNat_lt
  have h:=aG9 r
  show x.toNat + 256 * lv r < 256 ^ (r.length + 1)
  rw [Nat.pow_succ'];omega
theorem ni (b:List UInt8):∀ i,i <= 32->∀ j,j < 4->((owS b i).getD j 0).toNat = lv b / 18446744073709551616 ^ j % 256 ^ (min 8 (i - 8 * j))
 | 0,_,j,hj=>by
  rw [Nat.zero_sub,Nat.min_eq_right (by omega),Nat.pow_zero,Nat.mod_one]
  have:j = 0 \/ j = 1 \/ j = 2 \/ j = 3:=by omega
  rcases this with rfl | rfl | rfl | rfl <;> rfl
 | i + 1,hi,j,hj=>by
  have ih:=ni b i (by omega)
  show (((owS b i).set (i / 8) _).getD j 0).toNat = _
  by_cases h:i / 8 = j
  ·subst h
   rw [getD_eq_getElem?_getD,List.getElem?_set_self (by rw [owS_length];omega)]
   show ((owS b i).getD (i / 8) 0 ||| aV (b.getD i 0).toUInt64 (i % 8 * 8)).toNat = _
   have e:=ih (i / 8) hj
   have hm:i - 8 * (i / 8) = i % 8:=by omega
   rw [hm,Nat.min_eq_right (by omega)] at e
   rw [show i + 1 - 8 * (i / 8) = i % 8 + 1 by omega,Nat.min_eq_right (by omega)]
   have hp:(256:Nat) ^ (i % 8) = 2 ^ (i % 8 * 8):=by rw [show (256:Nat) = 2 ^ 8 from rfl,<- pow_mul,Nat.mul_comm]
   have hlt:((owS b i).getD (i / 8) 0).toNat < 2 ^ (i % 8 * 8):=by rw [e,hp];exact mod_lt _ (Nat.two_pow_pos _)
   have hb:=(b.getD i 0).toNat_lt
   have hsm:(aV (b.getD i 0).toUInt64 (i % 8 * 8)).toNat = (b.getD i 0).toNat * 2 ^ (i % 8 * 8):=by
    rw [uj,UInt8.toNat_toUInt64]
    apply mod_eq_of_lt
    have h8:i % 8 < 8:=mod_lt _ (by omega)
    have:(2:Nat) ^ (i % 8 * 8) <= 2 ^ 56:=Nat.pow_le_pow_right (by omega) (by omega)
    have:=Nat.mul_le_mul (show (b.getD i 0).toNat <= 255 by omega) this
    have:(255 * 2 ^ 56:Nat) < 18446744073709551616:=by decide
    omega
   rw [gy _ hsm hlt,hsm,e,<- vc b i,Nat.pow_succ,Nat.mod_mul]
   congr 1
   rw [hp,Nat.mul_comm]
   congr 2
   have e256:(256:Nat) ^ i = 18446744073709551616 ^ (i / 8) * 2 ^ (i % 8 * 8):=by
    rw [show (256:Nat) = 2 ^ 8 from rfl,show (18446744073709551616:Nat) = 2 ^ 64 from rfl,<- pow_mul,<- pow_mul,<- pow_add]
    congr 1;omega
   rw [e256,Nat.div_div_eq_div_mul]
  ·rw [getD_eq_getElem?_getD,List.getElem?_set_ne (by omega),<- getD_eq_getElem?_getD,ih j hj]
   congr 2
   by_cases h2:i / 8 < j
   ·rw [show i - 8 * j = 0 by omega,show i + 1 - 8 * j = 0 by omega]
   ·rw [Nat.min_eq_left (by omega),Nat.min_eq_left (by omega)]
theorem aO3 {V:Nat}:((V % 18446744073709551616) / 2 ^ 51 + V / 18446744073709551616 % 18446744073709551616 % 2 ^ (64 - 13) * 2 ^ 13) % 2251799813685248 = V / 2251799813685248 % 2251799813685248:=by omega
theorem aO2 {V:Nat}:((V / 18446744073709551616 % 18446744073709551616) / 2 ^ 38 + V / 340282366920938463463374607431768211456 % 18446744073709551616 % 2 ^ (64 - 26) * 2 ^ 26) % 2251799813685248 = V / 5070602400912917605986812821504 % 2251799813685248:=by omega
theorem aO1 {V:Nat}:((V / 340282366920938463463374607431768211456 % 18446744073709551616) / 2 ^ 25 + V / 6277101735386680763835789423207666416102355444464034512896 % 18446744073709551616 % 2 ^ (64 - 39) * 2 ^ 39) % 2251799813685248 = V / 11417981541647679048466287755595961091061972992 % 2251799813685248:=by omega
theorem aO0 {V:Nat}:(V / 6277101735386680763835789423207666416102355444464034512896 % 18446744073709551616) / 2 ^ 12 % 2251799813685248 = V / 25711008708143844408671393477458601640355247900524685364822016 % 2251799813685248:=by omega
theorem aST {V:Nat}:V % 2251799813685248 + V / 2251799813685248 % 2251799813685248 * 2251799813685248 + V / 5070602400912917605986812821504 % 2251799813685248 * 5070602400912917605986812821504 + V / 11417981541647679048466287755595961091061972992 % 2251799813685248 * 11417981541647679048466287755595961091061972992 + V / 25711008708143844408671393477458601640355247900524685364822016 % 2251799813685248 * 25711008708143844408671393477458601640355247900524685364822016 = V % 57896044618658097711785492504343953926634992332820282019728792003956564819968:=by omega
theorem dt (b:List UInt8):nv5 (ofL b) = lv b % 57896044618658097711785492504343953926634992332820282019728792003956564819968/\Lb (ofL b):=by
 have w0:((owS b 32).getD 0 0).toNat = lv b % 18446744073709551616:=by have:=ni b 32 (by omega) 0 (by omega);rw [Nat.pow_zero,Nat.div_one] at this;exact this
 have w1:((owS b 32).getD 1 0).toNat = lv b / 18446744073709551616 % 18446744073709551616:=ni b 32 (by omega) 1 (by omega)
 have w2:((owS b 32).getD 2 0).toNat = lv b / 340282366920938463463374607431768211456 % 18446744073709551616:=ni b 32 (by omega) 2 (by omega)
 have w3:((owS b 32).getD 3 0).toNat = lv b / 6277101735386680763835789423207666416102355444464034512896 % 18446744073709551616:=ni b 32 (by omega) 3 (by omega)
 have t0:=((owS b 32).getD 0 0).toNat_lt
 have t1:=((owS b 32).getD 1 0).toNat_lt
 have t2:=((owS b 32).getD 2 0).toNat_lt
 have t3:=((owS b 32).getD 3 0).toNat_lt
 have g0:((ofL b).getD 0 0).toNat = lv b % 2251799813685248:=by
  show ((owS b 32).getD 0 0 &&& ofNat 2251799813685247).toNat = _
  rw [fQ,w0];clear w1 w2 w3 t0 t1 t2 t3;omega
 have g1:((ofL b).getD 1 0).toNat = lv b / 2251799813685248 % 2251799813685248:=by
  show ((aG ((owS b 32).getD 0 0) 51 ||| aV ((owS b 32).getD 1 0) 13) &&& ofNat 2251799813685247).toNat = _
  have hs:(aG ((owS b 32).getD 0 0) 51).toNat < 2 ^ 13:=by rw [bo];exact Nat.div_lt_of_lt_mul t0
  rw [fQ,gy _ (cT _ (by omega)) hs,cT _ (by omega),bo,w0,w1]
  exact aO3
 have g2:((ofL b).getD 2 0).toNat = lv b / 5070602400912917605986812821504 % 2251799813685248:=by
  show ((aG ((owS b 32).getD 1 0) 38 ||| aV ((owS b 32).getD 2 0) 26) &&& ofNat 2251799813685247).toNat = _
  have hs:(aG ((owS b 32).getD 1 0) 38).toNat < 2 ^ 26:=by rw [bo];exact Nat.div_lt_of_lt_mul t1
  rw [fQ,gy _ (cT _ (by omega)) hs,cT _ (by omega),bo,w1,w2]
  exact aO2
 have g3:((ofL b).getD 3 0).toNat = lv b / 11417981541647679048466287755595961091061972992 % 2251799813685248:=by
  show ((aG ((owS b 32).getD 2 0) 25 ||| aV ((owS b 32).getD 3 0) 39) &&& ofNat 2251799813685247).toNat = _
  have hs:(aG ((owS b 32).getD 2 0) 25).toNat < 2 ^ 39:=by rw [bo];exact Nat.div_lt_of_lt_mul t2
  rw [fQ,gy _ (cT _ (by omega)) hs,cT _ (by omega),bo,w2,w3]
  exact aO1
 have g4:((ofL b).getD 4 0).toNat = lv b / 25711008708143844408671393477458601640355247900524685364822016 % 2251799813685248:=by
  show (aG ((owS b 32).getD 3 0) 12 &&& ofNat 2251799813685247).toNat = _
  rw [fQ,bo,w3]
  exact aO0
 refine ⟨?_,rfl,?_,?_,?_,?_,?_⟩
 ·unfold nv5
  rw [g0,g1,g2,g3,g4]
  exact aST
 ·rw [g0];exact lt_trans (mod_lt _ (by decide)) (by decide)
 ·rw [g1];exact lt_trans (mod_lt _ (by decide)) (by decide)
 ·rw [g2];exact lt_trans (mod_lt _ (by decide)) (by decide)
 ·rw [g3];exact lt_trans (mod_lt _ (by decide)) (by decide)
 ·rw [g4];exact lt_trans (mod_lt _ (by decide)) (by decide)
def ofF (b:List UInt8):F:=fn (lv b % 57896044618658097711785492504343953926634992332820282019728792003956564819968)
theorem aJE (b:List UInt8):fv (ofL b) = ofF b:=by unfold fv ofF;rw [(dt b).1]
theorem aLE (x:F):ofF (leB x) = x:=by
 unfold ofF
 rw [tJ,mod_eq_of_lt (lt_trans x.isLt (by decide)),oa]
end Go.Cu
namespace Go.Cu
open Go Go.Sx
structure LL where
 ax:List UInt64
 az:List UInt64
 bx:List UInt64
 bz:List UInt64
def LL.B (s:LL):Prop:=Lb s.ax/\Lb s.az/\Lb s.bx/\Lb s.bz
def LL.f (s:LL):LS:=⟨fv s.ax,fv s.az,fv s.bx,fv s.bz⟩
def LL.swap (s:LL):LL:=⟨s.bx,s.bz,s.ax,s.az⟩
def aNA:List UInt8:=UInt8.ofNat 65 :: UInt8.ofNat 219 :: UInt8.ofNat 1 :: replicate 29 0
theorem aUW:fv (ofL aNA) = 121665:=by decide +kernel
theorem aRB:Lb (ofL aNA):=(dt _).2
def aRH (s:LL):List UInt64:=ah (ah (iz s.ax s.az) (iz s.ax s.az)) (ah (iu s.ax s.az) (iu s.ax s.az))
def aNI (s:LL):List UInt64:=iu (ah (iz s.ax s.az) (iz s.ax s.az)) (ah (iu s.ax s.az) (iu s.ax s.az))
def aRG (s:LL):List UInt64:=ah (aNI s) (iz (ah (iz s.ax s.az) (iz s.ax s.az)) (ah (ofL aNA) (aNI s)))
def aAS (s:LL):List UInt64:=ah (iu s.bx s.bz) (iz s.ax s.az)
def aAT (s:LL):List UInt64:=ah (iz s.bx s.bz) (iu s.ax s.az)
def rv (u:List UInt64) (s:LL):LL:=
 ⟨aRH s,aRG s,ah (iz (aAS s) (aAT s)) (iz (aAS s) (aAT s)),ah u (ah (iu (aAS s) (aAT s)) (iu (aAS s) (aAT s)))⟩
theorem aBP (u:List UInt64) (s:LL):(rv u s).B:=⟨aE _ _,aE _ _,aE _ _,aE _ _⟩
theorem aN5 {u:List UInt64} {s:LL} (hu:Lb u) (h:s.B):(rv u s).f = iv (fv u) s.f:=by
 obtain ⟨h1,h2,h3,h4⟩:=h
 have p:=fA h1 h2
 have m:=dq h1 h2
 have lp:=aq s.ax s.az
 have lm:=al s.ax s.az
 have e:fv (aNI s) = (fv s.ax + fv s.az) * (fv s.ax + fv s.az) - (fv s.ax - fv s.az) * (fv s.ax - fv s.az):=by
  unfold aNI
  rw [dq (aE _ _) (aE _ _),aK lp lp,aK lm lm,p,m]
 have le:Lb (aNI s):=al _ _
 have d:fv (aAS s) = (fv s.bx - fv s.bz) * (fv s.ax + fv s.az):=by
  unfold aAS
  rw [aK (al _ _) lp,dq h3 h4,p]
 have c:fv (aAT s) = (fv s.bx + fv s.bz) * (fv s.ax - fv s.az):=by
  unfold aAT
  rw [aK (aq _ _) lm,fA h3 h4,m]
 have ld:Lb (aAS s):=aE _ _
 have lc:Lb (aAT s):=aE _ _
 unfold rv LL.f iv
 simp only [LS.mk.injEq]
 refine ⟨?_,?_,?_,?_⟩
 ·unfold aRH
  rw [aK (aE _ _) (aE _ _),aK lp lp,aK lm lm,p,m]
 ·unfold aRG
  rw [aK le (aq _ _),fA (aE _ _) (aE _ _),aK aRB le,aK lp lp,aUW,e,p]
 ·rw [aK (aq _ _) (aq _ _),fA ld lc,d,c]
 ·rw [aK hu (aE _ _),aK (al _ _) (al _ _),dq ld lc,d,c]
attribute [irreducible] rv
def fq (c:List UInt8) (i:Nat):UInt8:=gg (c.getD (i / 8) 0) (i % 8) &&& UInt8.ofNat 1
theorem il (c:List UInt8) (i:Nat):(fq c i).toNat = lv c / 2 ^ i % 2:=by
 unfold fq gg
 have h1:(UInt8.ofNat ((c.getD (i / 8) 0).toNat >>> (i % 8))).toNat = (c.getD (i / 8) 0).toNat / 2 ^ (i % 8):=by
  have:=(c.getD (i / 8) 0).toNat_lt
  have:=Nat.div_le_self (c.getD (i / 8) 0).toNat (2 ^ (i % 8))
  rw [UInt8.toNat_ofNat',Nat.shiftRight_eq_div_pow,mod_eq_of_lt (by omega)]
 rw [UInt8.toNat_and,h1,show (UInt8.ofNat 1).toNat = 2 ^ 1 - 1 from rfl,Nat.and_two_pow_sub_one_eq_mod,<- vc]
 have e:(2:Nat) ^ i = 256 ^ (i / 8) * 2 ^ (i % 8):=by
  rw [show (256:Nat) = 2 ^ 8 from rfl,<- pow_mul,<- pow_add]
  congr 1;omega
 rw [e,<- Nat.div_div_eq_div_mul]
 generalize lv c / 256 ^ (i / 8) = w
 have hm:i % 8 < 8:=mod_lt _ (by omega)
 generalize i % 8 = m at hm
 have:m = 0 \/ m = 1 \/ m = 2 \/ m = 3 \/ m = 4 \/ m = 5 \/ m = 6 \/ m = 7:=by omega
 rcases this with rfl | rfl | rfl | rfl | rfl | rfl | rfl | rfl <;> (simp only [Nat.reducePow];omega)
def LL.turn (s:LL) (l b:UInt8):LL:=if b = l then s else s.swap
theorem LL.turn_B {s:LL} (h:s.B) (l b:UInt8):(s.turn l b).B:=by
 unfold LL.turn
 split
 ·exact h
 ·exact ⟨h.2.2.1,h.2.2.2,h.1,h.2.1⟩
theorem LL.turn_f (s:LL) (l b:UInt8):(s.turn l b).f = s.f.turn l.toNat b.toNat:=by
 unfold LL.turn LS.turn
 by_cases h:b = l
 ·rw [if_pos h,if_pos (by rw [h])]
 ·rw [if_neg h,if_neg (fun e=>h (UInt8.toNat_inj.1 e))];rfl
def aL8 (u:List UInt64):LL:=⟨ofL (UInt8.ofNat 1 :: replicate 31 0),replicate 5 0,u,ofL (UInt8.ofNat 1 :: replicate 31 0)⟩
def uQ (u:List UInt64) (c:List UInt8):Nat->LL × UInt8
 | 0=>(aL8 u,UInt8.ofNat 0)
 | k + 1=>(rv u ((uQ u c k).1.turn (uQ u c k).2 (fq c (254 - k))),fq c (254 - k))
theorem aCP:Lb (ofL (UInt8.ofNat 1 :: replicate 31 0)):=(dt _).2
theorem aJD:fv (ofL (UInt8.ofNat 1 :: replicate 31 0)) = 1:=by decide +kernel
theorem qo:Lb (replicate 5 (0:UInt64)):=⟨rfl,by decide,by decide,by decide,by decide,by decide⟩
theorem qp:fv (replicate 5 (0:UInt64)) = 0:=by decide +kernel
theorem aDG {u:List UInt64} (hu:Lb u) (c:List UInt8):∀ k,(uQ u c k).1.B
 | 0=>⟨aCP,qo,hu,aCP⟩
 | _ + 1=>aBP _ _
theorem aJV {u:List UInt64} (hu:Lb u) (c:List UInt8):∀ k,(uQ u c k).1.f = (aDF (fv u) (lv c) k).1/\(uQ u c k).2.toNat = (aDF (fv u) (lv c) k).2
 | 0=>⟨by show LL.f (aL8 u) = ⟨1,0,fv u,1⟩;unfold aL8 LL.f;rw [aJD,qp],rfl⟩
 | k + 1=>by
  obtain ⟨h1,h2⟩:=aJV hu c k
  refine ⟨?_,il c _⟩
  show (rv u ((uQ u c k).1.turn (uQ u c k).2 (fq c (254 - k)))).f = iv (fv u) _
  rw [aN5 hu (LL.turn_B (aDG hu c k) _ _),LL.turn_f,h1,h2,il]
def oF (c u:List UInt8):List UInt8:=leB (aNP (ofF u) (lv c))
theorem xQ {c u:List UInt8} {s:LL} {l:UInt8} (h:uQ (ofL u) c 255 = (s,l)) :
  (l = UInt8.ofNat 1->aNS (ah s.bx (jl s.bz)) = oF c u)/\(l ≠ UInt8.ofNat 1->aNS (ah s.ax (jl s.az)) = oF c u):=by
 have hb:=aDG (dt u).2 c 255
 obtain ⟨h1,h2⟩:=aJV (dt u).2 c 255
 rw [h] at hb h1 h2
 obtain ⟨b1,b2,b3,b4⟩:=hb
 have h1:s.f = _:=h1
 have h2:l.toNat = _:=h2
 rw [aJE] at h1 h2
 refine ⟨fun e=>?_,fun e=>?_⟩
 ·rw [jh,aK b3 (gR _),rZ b4]
  unfold oF aNP
  rw [<- h2,<- h1,e,if_pos (show (UInt8.ofNat 1).toNat = 1 from rfl)]
  rfl
 ·rw [jh,aK b1 (gR _),rZ b2]
  unfold oF aNP
  rw [<- h2,<- h1,if_neg (show ¬ l.toNat = 1 from fun e2=>e (UInt8.toNat_inj.1 e2))]
  rfl
def clB (b:List UInt8):List UInt8:=(b.set 0 (b.getD 0 0 &&& UInt8.ofNat 248)).set 31 (((b.set 0 (b.getD 0 0 &&& UInt8.ofNat 248)).getD 31 0 &&& UInt8.ofNat 127) ||| UInt8.ofNat 64)
theorem lz (b:List UInt8):(clB b).length = b.length:=by unfold clB;rw [length_set,length_set]
theorem bM (c u:List UInt8):(oF c u).length = 32:=aZ _
end Go.Cu
namespace Go.Proofs.YtimbdhpchlakfaaGreat
open Go Go.Sx Go.Cu
theorem aD7 (l:List UInt64) (hl:l.length = 5):Sx.Fn Γ.P 118 [.agg [(5,.a64 l)]] [] (fun v _=>v = .agg [(5,.a64 (cQ l))]):=by
 refine aF (Γ:=Γ) (fn:=Tryz.f118) rfl rfl rfl rfl ?_
 repeat refine sd ?_
 refine Ret.intro (.agg [(5,.a64 (cQ l))]) [] [] rfl fc rfl rfl fc rfl fc rfl
theorem aTO (x y:UInt64):Sx.Fn Γ.P 133 [.u64 x,.u64 y] [] (fun v _=>v = .tup [.u64 (Cu.muH x y),.u64 (x * y)]):=by
 refine aF (Γ:=Γ) (fn:=Tryz.f133) rfl rfl rfl rfl ?_
 repeat refine sd ?_
 refine Ret.intro (.tup [.u64 (Cu.muH x y),.u64 (x * y)]) [] [] rfl trivial rfl rfl ?_ rfl trivial rfl
 exact fc
theorem aIR (x y:UInt64):(ru x y (ofNat 0)).toNat <= 1:=by
 have:=x.toNat_lt
 have:=y.toNat_lt
 unfold ru
 rw [UInt64.toNat_ofNat',show (ofNat 0).toNat = 0 from rfl]
 omega
theorem aT4 (w:W2) (x y:UInt64):Sx.Fn Γ.P 119 [.agg [(1,.u64 w.1),(1,.u64 w.2)],.u64 x,.u64 y] [] (fun v _=>v = .agg [(1,.u64 (aJ w x y).1),(1,.u64 (aJ w x y).2)]):=by
 have hM:=aTO x y
 have z0:(ofNat 0).toNat <= 1:=by decide
 have z1:=aIR w.2 (x * y)
 refine aF (Γ:=Γ) (fn:=Tryz.f119) rfl rfl rfl rfl ?_
 repeat refine sd ?_
 refine Call.pure hM rfl fc ?_
 rintro _ rfl
 repeat refine sd ?_
 refine Ret.intro (.agg [(1,.u64 (aJ w x y).1),(1,.u64 (aJ w x y).2)]) [] [] rfl ?_ rfl rfl ?_ rfl ?_ rfl
 ·exact fc
 ·repeat' first|exact trivial|refine zA.app ?_ ?_|refine zA.zd ?_ ?_|refine zA.cons ?_ ?_|exact fc|fail
  all_goals first | exact (vS _ _ _).symm | exact (vQ _ _ _).symm | exact vS _ _ _ | exact vQ _ _ _ | trace_state
 ·exact fc
theorem rf (a b:List UInt64) (ha:a.length = 5) (hb:b.length = 5):Sx.Fn Γ.P 116 [.agg [(5,.a64 a)],.agg [(5,.a64 b)]] [] (fun v _=>v = .agg [(5,.a64 (iz a b))]):=by
 have hC:=aD7 (adS a b 5) (mD a b 5)
 refine aF (Γ:=Γ) (fn:=Tryz.f116) rfl rfl rfl rfl ?_
 repeat refine sd ?_
 refine ac.intro (σ:=Nat) (fun i=>i <= 5) (fun i=>([(2,.ptr 2 0 none),(3,.ptr 3 0 none),(4,.ptr 4 0 none),(5,.ptr 5 0 none),(7,.i .i64 i)],
  [(2,.mem true 0 [(5,.a64 a)]),(3,.mem true 0 [(5,.a64 b)]),(4,.mem true 0 [(5,.a64 (replicate 5 0))]),(5,.mem true 0 [(5,.a64 (adS a b i))])])) (fun i=>5 - i) 0 (zero_le _) ?_ ?_
 ·refine Le.intro [] rfl fc rfl fc rfl
 rintro i hi
 have hl:=mD a b i
 have hn:adS a b (i + 1) = (adS a b i).set i (a.getD i 0 + b.getD i 0):=rfl
 refine zB.intro (fun hc=>?_) (fun hc=>?_)
 ·have hc:(i:Int) < 5:=hc
  repeat refine sd ?_
  refine aI.intro [[],[],[],[1,2],[1,2,3],[],[],[5,6],[5,6,7],[1,2,3,4,5,6,7,8],[],fy,mR] nb (by kernel_rfl) ?_
  repeat refine sdn ?_
  refine ⟨i + 1,by omega,by omega,Le.intro [] rfl ?_ rfl ?_ rfl⟩
  ·exact fcn
  ·exact fcn
 ·obtain rfl:i = 5:=by have hc:¬ (i:Int) < 5:=hc;omega
  repeat refine sd ?_
  refine Call.pure hC rfl fc ?_
  rintro _ rfl
  repeat refine sd ?_
  refine Ret.intro (.agg [(5,.a64 (iz a b))]) [] [] rfl fc rfl rfl fc rfl fc rfl
theorem pg (a b:List UInt64) (ha:a.length = 5) (hb:b.length = 5):Sx.Fn Γ.P 117 [.agg [(5,.a64 a)],.agg [(5,.a64 b)]] [] (fun v _=>v = .agg [(5,.a64 (iu a b))]):=by
 have hC:=aD7 (sbS a b 5) (cJ a b 5)
 refine aF (Γ:=Γ) (fn:=Tryz.f117) rfl rfl rfl rfl ?_
 repeat refine sd ?_
 refine ac.intro (σ:=Nat) (fun i=>i <= 5) (fun i=>([(2,.ptr 2 0 none),(3,.ptr 3 0 none),(4,.ptr 4 0 none),(5,.ptr 5 0 none),(9,.i .i64 i)],
  [(2,.mem true 0 [(5,.a64 a)]),(3,.mem true 0 [(5,.a64 b)]),(4,.mem true 0 [(5,.a64 (replicate 5 0))]),(5,.mem true 0 [(5,.a64 (sbS a b i))])])) (fun i=>5 - i) 0 (zero_le _) ?_ ?_
 ·refine Le.intro [] rfl fc rfl fc rfl
 rintro i hi
 have hl:=cJ a b i
 have hn:sbS a b (i + 1) = (sbS a b i).set i ((sbS a b i).getD i 0 + (a.getD i 0 - b.getD i 0)):=rfl
 refine zB.intro (fun hc=>?_) (fun hc=>?_)
 ·have hc:(i:Int) < 5:=hc
  repeat refine sd ?_
  refine aI.intro [[],[],[0,1],[0,1,2],[],[],[4,5],[4,5,6],[],[],[8,9],[8,9,10],[4,5,6,7,8,9,10,11],nb,[],uM,rM] uL (by kernel_rfl) ?_
  repeat refine sdn ?_
  refine ⟨i + 1,by omega,by omega,Le.intro [] rfl ?_ rfl ?_ rfl⟩
  ·exact fcn
  ·exact fcn
 ·obtain rfl:i = 5:=by have hc:¬ (i:Int) < 5:=hc;omega
  repeat refine sd ?_
  refine Call.pure hC rfl fc ?_
  rintro _ rfl
  repeat refine sd ?_
  refine Ret.intro (.agg [(5,.a64 (iu a b))]) [] [] rfl fc rfl rfl fc rfl fc rfl
end Go.Proofs.YtimbdhpchlakfaaGreat
namespace Go.Proofs.YtimbdhpchlakfaaGreat
open Go Go.Sx Go.Cu
def wF (t:List W2) (q:Nat):List (Nat × SV):=[(1,.u64 (t.getD q (0,0)).1),(1,.u64 (t.getD q (0,0)).2)]
theorem aIU {U:List W2} {j:Nat} {w:W2} (hj:j < U.length) (q:Nat):wF (U.set j w) q = if q = j then [(1,.u64 w.1),(1,.u64 w.2)] else wF U q:=by
 unfold wF
 split
 ·rename_i h
  subst h
  rw [getD_eq_getElem?_getD,List.getElem?_set_self hj];rfl
 ·rename_i h
  rw [getD_eq_getElem?_getD,List.getElem?_set_ne (fun e=>h e.symm),<- getD_eq_getElem?_getD]
theorem ig (a b:List UInt64) (ha:a.length = 5) (hb:b.length = 5):Sx.Fn Γ.P 69 [.agg [(5,.a64 a)],.agg [(5,.a64 b)]] [] (fun v _=>v = .agg [(5,.a64 (ah a b))]):=by
 have hMore:=fun w x y=>aT4 w x y
 refine aF (Γ:=Γ) (fn:=Tryz.f69) rfl rfl rfl rfl ?_
 repeat refine sd ?_
 refine ac.intro (σ:=Nat) (fun i=>i <= 5) (fun i=>([(2,.ptr 2 0 none),(3,.ptr 3 0 none),(4,.ptr 4 0 none),(5,.ptr 5 0 none),(17,.a64 a),(18,.i .i64 i)],
  [(2,.mem true 0 [(5,.a64 a)]),(3,.mem true 0 [(5,.a64 b)]),(4,.mem true 0 [(5,.a64 (replicate 5 0))]),(5,.mem true 0 [(10,.arr 5 2 (wF (muS a b i)))])])) (fun i=>5 - i) 0 (zero_le _) ?_ ?_
 ·refine Le.intro [] rfl fc rfl fc rfl
 rintro i hi
 have hl:=qP a b i
 have hn:muS a b (i + 1) = muR a b i (muS a b i) 5:=rfl
 refine zB.intro (fun hc=>?_) (fun hc=>?_)
 ·have hc:(i:Int) < 5:=hc
  obtain ⟨T,hT⟩:∃ t,muS a b i = t:=⟨_,rfl⟩
  rw [hT] at hl hn ⊢
  repeat refine sdn ?_
  refine ac.intro (σ:=Nat) (fun k=>k <= 5) (fun k=>([(2,.ptr 2 0 none),(3,.ptr 3 0 none),(4,.ptr 4 0 none),(5,.ptr 5 0 none),(6,.i .i64 i),(7,.u64 (a.getD i 0)),(17,.a64 a),(18,.i .i64 i),(23,.a64 b),(24,.i .i64 k)],
   [(2,.mem true 0 [(5,.a64 a)]),(3,.mem true 0 [(5,.a64 b)]),(4,.mem true 0 [(5,.a64 (replicate 5 0))]),(5,.mem true 0 [(10,.arr 5 2 (wF (muR a b i T k)))])])) (fun k=>5 - k) 0 (zero_le _) ?_ ?_
  ·refine Le.intro [] rfl ?_ rfl ?_ rfl
   ·exact fcn
   ·exact fcn
  rintro k hk
  have hlR:=kj (a:=a) (b:=b) (i:=i) (t:=T) k
  have hnR:muR a b i T (k + 1) = muA a b i k (muR a b i T k):=rfl
  refine zB.intro (fun hc=>?_) (fun hc=>?_)
  ·have hc:(k:Int) < 5:=hc
   obtain ⟨U,hU⟩:∃ t,muR a b i T k = t:=⟨_,rfl⟩
   rw [hU] at hlR hnR ⊢
   repeat refine sdn ?_
   refine zB.intro (fun h5=>?_) (fun h5=>?_)
   ·have h5:(i:Int) + k ≥ 5:=h5
    have e0:((i:Int) + k - 5).toNat = i + k - 5:=by omega
    have hA:muA a b i k U = U.set (i + k - 5) (aJ (U.getD (i + k - 5) (0,0)) (a.getD i 0) (ofNat 19 * b.getD k 0)):=if_pos (by omega)
    repeat refine sdF ?_
    refine Call.pure (hMore (U.getD (i + k - 5) (0,0)) (a.getD i 0) (ofNat 19 * b.getD k 0)) rfl ?_ ?_
    ·exact fcF
    rintro _ rfl
    repeat refine sdF ?_
    refine ⟨k + 1,by omega,by omega,Le.intro [] rfl ?_ rfl ?_ rfl⟩
    ·exact fcn
    ·repeat' first|exact trivial|refine zA.app ?_ ?_|refine zA.zd ?_ ?_|refine zA.cons ?_ ?_|exact fcn|fail
     all_goals (intro q hq;rw [hnR,hA,aIU (by omega),<- e0];rfl)
   ·have h5:¬ (i:Int) + k ≥ 5:=h5
    have e0:((i:Int) + k).toNat = i + k:=by omega
    have hA:muA a b i k U = U.set (i + k) (aJ (U.getD (i + k) (0,0)) (a.getD i 0) (b.getD k 0)):=if_neg (by omega)
    repeat refine sdF ?_
    refine Call.pure (hMore (U.getD (i + k) (0,0)) (a.getD i 0) (b.getD k 0)) rfl ?_ ?_
    ·exact fcF
    rintro _ rfl
    repeat refine sdF ?_
    refine ⟨k + 1,by omega,by omega,Le.intro [] rfl ?_ rfl ?_ rfl⟩
    ·exact fcn
    ·repeat' first|exact trivial|refine zA.app ?_ ?_|refine zA.zd ?_ ?_|refine zA.cons ?_ ?_|exact fcn|fail
     all_goals (intro q hq;rw [hnR,hA,aIU (by omega),<- e0];rfl)
  ·obtain rfl:k = 5:=by have hc:¬ (k:Int) < 5:=hc;omega
   repeat refine sd ?_
   rw [<- hn]
   refine ⟨i + 1,by omega,by omega,Le.intro [] rfl ?_ rfl ?_ rfl⟩
   ·exact fcn
   ·exact fcn
 ·obtain rfl:i = 5:=by have hc:¬ (i:Int) < 5:=hc;omega
  have hE:ah a b = cQ ((cyS (muS a b 5) 5).1.set 0 ((cyS (muS a b 5) 5).1.getD 0 0 + (cyS (muS a b 5) 5).2 * ofNat 19)):=rfl
  rw [hE]
  clear hn hE
  generalize muS a b 5 = T at *
  have z0:(ofNat 0).toNat <= 1:=by decide
  repeat refine sd ?_
  refine ac.intro (σ:=Nat) (fun i=>i <= 5) (fun i=>([(4,.ptr 4 0 none),(5,.ptr 5 0 none),(10,.ptr 10 0 none),(11,.u64 (cyS T i).2),(61,.i .i64 i)],
   [(4,.mem true 0 [(5,.a64 (replicate 5 0))]),(5,.mem true 0 [(10,.arr 5 2 (wF T))]),(10,.mem true 0 [(5,.a64 (cyS T i).1)])])) (fun i=>5 - i) 0 (zero_le _) ?_ ?_
  ·have z1:(cyS T 0).1 = replicate 5 0:=rfl
   have z2:(cyS T 0).2 = ofNat 0:=rfl
   refine Le.intro [] rfl fc rfl fc rfl
  rintro i hi
  have hlc:=qg T i
  refine zB.intro (fun hc=>?_) (fun hc=>?_)
  ·have hc:(i:Int) < 5:=hc
   have hn1:(cyS T (i + 1)).1 = (cyS T i).1.set i (fw (T.getD i (0,0)).2 (cyS T i).2 0 &&& ofNat 2251799813685247):=rfl
   have hn2:(cyS T (i + 1)).2 = aV ((T.getD i (0,0)).1 + ru (T.getD i (0,0)).2 (cyS T i).2 0) 13 ||| aG (fw (T.getD i (0,0)).2 (cyS T i).2 0) 51:=rfl
   generalize (cyS T i).1 = X at *
   generalize (cyS T i).2 = C at *
   repeat refine sdn ?_
   refine ⟨i + 1,by omega,by omega,Le.intro [] rfl ?_ rfl ?_ rfl⟩
   ·repeat' first|exact trivial|refine zA.app ?_ ?_|refine zA.zd ?_ ?_|refine zA.cons ?_ ?_|exact fcn|fail
    all_goals trace_state
   ·repeat' first|exact trivial|refine zA.app ?_ ?_|refine zA.zd ?_ ?_|refine zA.cons ?_ ?_|exact fcn|fail
    all_goals trace_state
  obtain rfl:i = 5:=by have hc:¬ (i:Int) < 5:=hc;omega
  generalize (cyS T 5).1 = X at *
  generalize (cyS T 5).2 = C at *
  have hC:=aD7 (X.set 0 (X.getD 0 0 + C * ofNat 19)) (by rw [length_set];exact hlc)
  have hlR:=(iN (X.set 0 (X.getD 0 0 + C * ofNat 19))).1
  generalize cQ (X.set 0 (X.getD 0 0 + C * ofNat 19)) = R at *
  repeat refine sd ?_
  refine Call.pure hC rfl fc ?_
  rintro _ rfl
  repeat refine sd ?_
  refine Ret.intro (.agg [(5,.a64 R)]) [] [] rfl fc rfl rfl fc rfl fc rfl
end Go.Proofs.YtimbdhpchlakfaaGreat
namespace Go.Proofs.YtimbdhpchlakfaaGreat
open Go Go.Sx Go.Cu
theorem aGY {k i:Nat} (hk:1 <= k):((((((k:Int) - 1) / 2 ^ i).toNat &&& 1:Nat):Int) = 0 \/ 10 < (i:Int)) ↔ aAW k i:=by
 have e:(((k:Int) - 1) / 2 ^ i).toNat = (k - 1) / 2 ^ i:=by
  have h1:((k:Int) - 1) = ((k - 1:Nat):Int):=by omega
  have h2:((2:Int) ^ i) = ((2 ^ i:Nat):Int):=by rw [Int.natCast_pow];rfl
  rw [h1,h2,<- Int.natCast_ediv,zIn]
 rw [e,show (1:Nat) = 2 ^ 1 - 1 from rfl,Nat.and_two_pow_sub_one_eq_mod]
 unfold aAW
 generalize (k - 1) / 2 ^ i = w
 omega
theorem aTW (k i:Nat) (hk:1 <= k) (hk2:k <= 1000) (hi:i <= 1000):Sx.Fn Γ.P 159 [.i .i64 i,.ptr 1000 0 none] [(1000,.mem true 0 [(1,.i .i64 k)])]
  (fun v M=>v = .bool (aAW k i)/\M = [(1000,.mem true 0 [(1,.i .i64 k)])]):=by
 have hb:=aGY (k:=k) (i:=i) hk
 have h0:0 <= ((k:Int) - 1) / 2 ^ i:=Int.ediv_nonneg (by omega) (Int.pow_nonneg (by omega))
 have h1:((k:Int) - 1) / 2 ^ i <= (k:Int) - 1:=by
  have h2:((2:Int) ^ i) = ((2 ^ i:Nat):Int):=by rw [Int.natCast_pow];rfl
  have h1:((k:Int) - 1) = ((k - 1:Nat):Int):=by omega
  have:=Nat.div_le_self (k - 1) (2 ^ i)
  rw [h1,h2,<- Int.natCast_ediv];omega
 refine aF (Γ:=Γ) (fn:=Tryz.f159) rfl rfl rfl rfl ?_
 repeat refine sd ?_
 refine zB.intro (fun h=>?_) (fun h=>?_)
 ·repeat refine sd ?_
  refine Ret.intro (.bool (aAW k i)) [(1000,.mem true 0 [(1,.i .i64 k)])] [] rfl ?_ ⟨rfl,rfl⟩ rfl ?_ rfl ?_ rfl
  ·exact fc
  ·repeat' first|exact trivial|refine zA.app ?_ ?_|refine zA.zd ?_ ?_|refine zA.cons ?_ ?_|exact fc|fail
   all_goals (rw [zIn] at h;exact hb.1 (Or.inl h))
  ·exact fc
 ·repeat refine sd ?_
  refine Ret.intro (.bool (aAW k i)) [(1000,.mem true 0 [(1,.i .i64 k)])] [] rfl ?_ ⟨rfl,rfl⟩ rfl ?_ rfl ?_ rfl
  ·exact fc
  ·repeat' first|exact trivial|refine zA.app ?_ ?_|refine zA.zd ?_ ?_|refine zA.cons ?_ ?_|exact fc|fail
   all_goals (rw [zIn] at h;exact ⟨fun hp=>(hb.2 hp).resolve_left h,fun h10=>hb.1 (Or.inr h10)⟩)
  ·exact fc
theorem aMM (a:List UInt64) (n k:Nat) (ha:a.length = 5) (hn:n <= 1000) (hk:1 <= k) (hk2:k <= 1000):Sx.Fn Γ.P 121 [.agg [(5,.a64 a)],.i .i64 n,.i .i64 k] []
  (fun v _=>v = .agg [(5,.a64 (pwS a n k n))]):=by
 have hM:=fun (x y:List UInt64) (hx:x.length = 5) (hy:y.length = 5)=>ig x y hx hy
 have hml:=fun x y=>(aE x y).1
 refine aF (Γ:=Γ) (fn:=Tryz.f121) rfl rfl rfl rfl ?_
 repeat refine sd ?_
 refine ac.intro (σ:=Nat) (fun j=>j <= n) (fun j=>([(3,.ptr 3 0 none),(5,.ptr 5 0 none),(6,.ptr 6 0 none),(7,.fn 159 [(5,0)]),(8,.ptr 8 0 none),(9,.i .i64 ((n:Int) - 1 - j))],
  [(3,.mem true 0 [(5,.a64 a)]),(5,.mem true 0 [(1,.i .i64 k)]),(6,.mem true 0 [(5,.a64 (replicate 5 0))]),(8,.mem true 0 [(5,.a64 (pwS a n k j))])])) (fun j=>n - j) 0 (zero_le _) ?_ ?_
 ·refine Le.intro [] rfl fc rfl fc rfl
 rintro j hj
 have hl:=(sq a n k j).1
 have hn1:pwS a n k (j + 1) = if aAW k (n - 1 - j) then ah (ah (pwS a n k j) (pwS a n k j)) a else ah (pwS a n k j) (pwS a n k j):=rfl
 obtain ⟨X,hX⟩:∃ x,pwS a n k j = x:=⟨_,rfl⟩
 refine zB.intro (fun hc=>?_) (fun hc=>?_)
 ·have hc:(n:Int) - 1 - j ≥ 0:=hc
  rw [hX] at hl hn1 ⊢
  have hll:=hml X X
  repeat refine sd ?_
  refine Call.pure (hM X X hl hl) rfl fc ?_
  rintro _ rfl
  repeat refine sd ?_
  refine Call.intro (aTW k (n - 1 - j) hk hk2 (by omega)) [(1000,(5,0,none))] rfl fc rfl fc rfl ?_
  rintro _ _ ⟨rfl,rfl⟩
  repeat refine sd ?_
  refine zB.intro (fun hp=>?_) (fun hp=>?_)
  ·have hp:aAW k (n - 1 - j):=hp
   rw [if_pos hp] at hn1
   repeat refine sd ?_
   refine Call.pure (hM (ah X X) a hll ha) rfl fc ?_
   rintro _ rfl
   repeat refine sd ?_
   refine ⟨j + 1,by omega,by omega,Le.intro [] rfl fc rfl fc rfl⟩
  ·have hp:¬ aAW k (n - 1 - j):=hp
   rw [if_neg hp] at hn1
   repeat refine sd ?_
   refine ⟨j + 1,by omega,by omega,Le.intro [] rfl fc rfl fc rfl⟩
 ·obtain rfl:j = n:=by have hc:¬ (n:Int) - 1 - j ≥ 0:=hc;omega
  rw [hX]
  rw [hX] at hl
  repeat refine sd ?_
  refine Ret.intro (.agg [(5,.a64 X)]) [] [] rfl fc rfl rfl fc rfl fc rfl
theorem aNR (a:List UInt64) (ha:a.length = 5):Sx.Fn Γ.P 70 [.agg [(5,.a64 a)]] [] (fun v _=>v = .agg [(5,.a64 (jl a))]):=by
 have hP:=aMM a 255 21 ha (by omega) (by omega) (by omega)
 have hl:=(gR a).1
 have e:jl a = pwS a 255 21 255:=rfl
 rw [<- e] at hP
 generalize jl a = X at hP hl
 refine aF (Γ:=Γ) (fn:=Tryz.f70) rfl rfl rfl rfl ?_
 repeat refine sd ?_
 refine Call.pure hP rfl fc ?_
 rintro _ rfl
 repeat refine sd ?_
 refine Ret.intro (.agg [(5,.a64 X)]) [] [] rfl fc rfl rfl fc rfl fc rfl
end Go.Proofs.YtimbdhpchlakfaaGreat
namespace Go.Proofs.YtimbdhpchlakfaaGreat
open Go Go.Sx Go.Cu
theorem aMI (b:List UInt8) (hb:b.length = 32):Sx.Fn Γ.P 66 [.a8 b] [] (fun v _=>v = .agg [(5,.a64 (ofL b))]):=by
 refine aF (Γ:=Γ) (fn:=Tryz.f66) rfl rfl rfl rfl ?_
 repeat refine sd ?_
 refine ac.intro (σ:=Nat) (fun i=>i <= 32) (fun i=>([(1,.ptr 1 0 none),(2,.ptr 2 0 none),(3,.ptr 3 0 none),(6,.a8 b),(7,.i .i64 i)],
  [(1,.mem true 0 [(32,.a8 b)]),(2,.mem true 0 [(5,.a64 (replicate 5 0))]),(3,.mem true 0 [(4,.a64 (Cu.owS b i))])])) (fun i=>32 - i) 0 (zero_le _) ?_ ?_
 ·refine Le.intro [] rfl fc rfl fc rfl
 rintro i hi
 have hl:=Cu.owS_length b i
 have hn:Cu.owS b (i + 1) = (Cu.owS b i).set (i / 8) ((Cu.owS b i).getD (i / 8) 0 ||| aV (b.getD i 0).toUInt64 (i % 8 * 8)):=rfl
 have hE:ofL b = ofW (Cu.owS b 32):=rfl
 refine zB.intro (fun hc=>?_) (fun hc=>?_)
 ·have hc:(i:Int) < 32:=hc
  have e0:((i:Int) / 8).toNat = i / 8:=by omega
  have e1:((i:Int) % 8 * 8).toNat = i % 8 * 8:=by omega
  obtain ⟨X,hX⟩:∃ x,Cu.owS b i = x:=⟨_,rfl⟩
  rw [hX] at hl hn ⊢
  repeat refine sd ?_
  refine aI.intro [[],[0],[0,1],[0,1,2],[],[4],[],[6],[6,7],[4,5,6,7,8],fi,fy,mR] nb (by kernel_rfl) ?_
  repeat refine sdI ?_
  refine ⟨i + 1,by omega,by omega,Le.intro [] rfl ?_ rfl ?_ rfl⟩
  ·exact fcI
  ·exact fcI
 ·obtain rfl:i = 32:=by have hc:¬ (i:Int) < 32:=hc;omega
  obtain ⟨X,hX⟩:∃ x,Cu.owS b 32 = x:=⟨_,rfl⟩
  rw [hX] at hl hE ⊢
  obtain ⟨Y,hY⟩:∃ y,ofW X = y:=⟨_,rfl⟩
  rw [hE,hY]
  repeat refine sd ?_
  refine Ret.intro (.agg [(5,.a64 Y)]) [] [] rfl ?_ rfl rfl ?_ rfl ?_ rfl
  ·exact fc
  ·repeat' first|exact trivial|refine zA.app ?_ ?_|refine zA.zd ?_ ?_|refine zA.cons ?_ ?_|exact fc|fail
   all_goals (rw [<- hY];rfl)
  ·exact fc
theorem aWC (l:List UInt64) (hl:l.length = 5):Sx.Fn Γ.P 68 [.agg [(5,.a64 l)]] [] (fun v _=>v = .a8 (aNS l)):=by
 have hC1:=aD7 l hl
 have hl1:=(iN l).1
 have hC2:=aD7 (cQ l) hl1
 have hl2:=(iN (cQ l)).1
 have hE:aNS l = Cu.byS (wdL (nmL (cQ (cQ l)))) 32:=rfl
 rw [hE]
 have hN:nmL (cQ (cQ l)) = (nmS (frL (cQ (cQ l))) 4).set 4 ((nmS (frL (cQ (cQ l))) 4).getD 4 0 &&& ofNat 2251799813685247):=rfl
 have hF:frL (cQ (cQ l)) = (cQ (cQ l)).set 0 ((cQ (cQ l)).getD 0 0 + ofNat 19 * qS (cQ (cQ l)) 5):=rfl
 generalize nmL (cQ (cQ l)) = W at hN ⊢
 generalize frL (cQ (cQ l)) = B at hN hF
 generalize cQ (cQ l) = A at hC2 hl2 hF
 generalize cQ l = A1 at hC1 hC2 hl1
 refine aF (Γ:=Γ) (fn:=Tryz.f68) rfl rfl rfl rfl ?_
 repeat refine sd ?_
 refine Call.pure hC1 rfl fc ?_
 rintro _ rfl
 repeat refine sd ?_
 refine Call.pure hC2 rfl fc ?_
 rintro _ rfl
 repeat refine sd ?_
 refine ac.intro (σ:=Nat) (fun i=>i <= 5) (fun i=>([(1,.ptr 1 0 none),(2,.ptr 2 0 none),(3,.u64 (qS A i)),(15,.a64 A),(16,.i .i64 i)],
  [(1,.mem true 0 [(5,.a64 A)]),(2,.mem true 0 [(32,.a8 (replicate 32 0))])])) (fun i=>5 - i) 0 (zero_le _) ?_ ?_
 ·refine Le.intro [] rfl fc rfl fc rfl
 rintro i hi
 refine zB.intro (fun hc=>?_) (fun hc=>?_)
 ·have hc:(i:Int) < 5:=hc
  have hn:qS A (i + 1) = aG (A.getD i 0 + qS A i) 51:=rfl
  repeat refine sdn ?_
  refine ⟨i + 1,by omega,by omega,Le.intro [] rfl ?_ rfl ?_ rfl⟩
  ·exact fcn
  ·exact fcn
 obtain rfl:i = 5:=by have hc:¬ (i:Int) < 5:=hc;omega
 have hlB:B.length = 5:=by rw [hF,length_set];exact hl2
 generalize qS A 5 = Q at hF
 repeat refine sd ?_
 refine ac.intro (σ:=Nat) (fun i=>i <= 4) (fun i=>([(1,.ptr 1 0 none),(2,.ptr 2 0 none),(32,.i .i64 i)],
  [(1,.mem true 0 [(5,.a64 (nmS B i))]),(2,.mem true 0 [(32,.a8 (replicate 32 0))])])) (fun i=>4 - i) 0 (zero_le _) ?_ ?_
 ·have e:nmS B 0 = A.set 0 (A.getD 0 0 + ofNat 19 * Q):=hF
  refine Le.intro [] rfl fc rfl fc rfl
 rintro i hi
 have hln:=qM B hlB i
 refine zB.intro (fun hc=>?_) (fun hc=>?_)
 ·have hc:(i:Int) < 4:=hc
  have e0:((i:Int) + 1).toNat = i + 1:=by omega
  have hn:nmS B (i + 1) = ((nmS B i).set (i + 1) ((nmS B i).getD (i + 1) 0 + aG ((nmS B i).getD i 0) 51)).set i (((nmS B i).set (i + 1) ((nmS B i).getD (i + 1) 0 + aG ((nmS B i).getD i 0) 51)).getD i 0 &&& ofNat 2251799813685247):=rfl
  obtain ⟨X,hX⟩:∃ x,nmS B i = x:=⟨_,rfl⟩
  rw [hX] at hln hn ⊢
  repeat refine sd ?_
  refine aI.intro [[],[0],[],[0,1,2],r_4,[],[],[5,6],[5,6,7],[5,6,7,8],fi,[],mR,nb] sj (by kernel_rfl) ?_
  repeat refine sdF ?_
  refine ⟨i + 1,by omega,by omega,Le.intro [] rfl ?_ rfl ?_ rfl⟩
  ·exact fcF
  ·exact fcF
 obtain rfl:i = 4:=by have hc:¬ (i:Int) < 4:=hc;omega
 obtain ⟨X,hX⟩:∃ x,nmS B 4 = x:=⟨_,rfl⟩
 rw [hX] at hln hN ⊢
 have hlW:W.length = 5:=by rw [hN,length_set];exact hln
 have hw:wdL W = [W.getD 0 0 ||| aV (W.getD 1 0) 51,aG (W.getD 1 0) 13 ||| aV (W.getD 2 0) 38,aG (W.getD 2 0) 26 ||| aV (W.getD 3 0) 25,aG (W.getD 3 0) 39 ||| aV (W.getD 4 0) 12]:=rfl
 obtain ⟨T,hT⟩:∃ t,wdL W = t:=⟨_,rfl⟩
 have hlT:T.length = 4:=by rw [<- hT];rfl
 rw [hT] at hw ⊢
 repeat refine sd ?_
 refine ac.intro (σ:=Nat) (fun i=>i <= 32) (fun i=>([(2,.ptr 2 0 none),(8,.ptr 8 0 none),(9,.ptr 9 0 none),(92,.i .i64 i)],
  [(2,.mem true 0 [(32,.a8 (replicate 32 0))]),(8,.mem true 0 [(4,.a64 T)]),(9,.mem true 0 [(32,.a8 (Cu.byS T i))])])) (fun i=>32 - i) 0 (zero_le _) ?_ ?_
 ·have e:Cu.byS T 0 = replicate 32 0:=rfl
  refine Le.intro [] rfl ?_ rfl ?_ rfl
  ·exact fc
  ·repeat' first|exact trivial|refine zA.app ?_ ?_|refine zA.zd ?_ ?_|refine zA.cons ?_ ?_|exact fc|fail
   all_goals (rw [hw,hN];rfl)
 rintro i hi
 have hlb:=Cu.byS_length T i
 refine zB.intro (fun hc=>?_) (fun hc=>?_)
 ·have hc:(i:Int) < 32:=hc
  have e0:((i:Int) / 8).toNat = i / 8:=by omega
  have e1:((i:Int) % 8 * 8).toNat = i % 8 * 8:=by omega
  have hn:Cu.byS T (i + 1) = (Cu.byS T i).set i (aG (T.getD (i / 8) 0) (i % 8 * 8)).toUInt8:=rfl
  obtain ⟨X,hX⟩:∃ x,Cu.byS T i = x:=⟨_,rfl⟩
  rw [hX] at hlb hn ⊢
  repeat refine sdI ?_
  refine ⟨i + 1,by omega,by omega,Le.intro [] rfl ?_ rfl ?_ rfl⟩
  ·exact fcI
  ·exact fcI
 obtain rfl:i = 32:=by have hc:¬ (i:Int) < 32:=hc;omega
 obtain ⟨X,hX⟩:∃ x,Cu.byS T 32 = x:=⟨_,rfl⟩
 rw [hX] at hlb ⊢
 repeat refine sd ?_
 refine Ret.intro (.a8 X) [] [] rfl fc rfl rfl fc rfl fc rfl
end Go.Proofs.YtimbdhpchlakfaaGreat
namespace Go.Cu
open Go Go.Sx
def r0 (a:F):F:=pw a ((aB + 3) / 8)
def j0:F:=pw 2 ((aB - 1) / 4)
theorem aTF:j0 * j0 = 0 - 1:=by
 have e:j0 = iF \/ j0 = 0 - iF:=by
  have h:j0.val = aG5 aB 2 256 ((aB - 1) / 4):=aCH 2 _ (by decide)
  have h2:aG5 aB 2 256 ((aB - 1) / 4) = iF.val \/ aG5 aB 2 256 ((aB - 1) / 4) = (0 - iF).val:=by decide +kernel
  rcases h2 with h2 | h2
  ·exact Or.inl (Fin.ext (h.trans h2))
  ·exact Or.inr (Fin.ext (h.trans h2))
 have hi:=aTH
 rcases e with e | e <;> rw [e]
 ·exact hi
 ·grind -lia -linarith (splits:=0)
def kz (a:F):Prop:=a = 0 \/ pw a ((aB - 1) / 2) = 1
instance (a:F):Decidable (kz a):=by unfold kz;exact inferInstance
def pP (a:F):F:=if r0 a * r0 a = a then r0 a else r0 a * j0
def zi (r:F):F:=if r.val % 2 = 1 then 0 - r else r
def dY (a:F):F:=zi (pP a)
theorem aCX {a:F} (h:a ≠ 0):(0 - a).val = aB - a.val:=by
 have hp:0 < a.val:=Nat.pos_of_ne_zero fun h0=>h (Fin.ext h0)
 show (aB - a.val + 0) % aB = _
 rw [Nat.add_zero,mod_eq_of_lt (by have:=a.isLt;omega)]
theorem aCT {a:F} (h:a ≠ 0):(0 - a).val % 2 = 1 ↔ a.val % 2 = 0:=by
 have h1:=aCX h
 have h2:=a.isLt
 rw [h1]
 have:aB = 57896044618658097711785492504343953926634992332820282019728792003956564819949:=rfl
 omega
theorem zf (r:F):(zi r).val % 2 = 0:=by
 unfold zi
 split
 ·rename_i h
  have hr:r ≠ 0:=by rintro rfl;exact absurd h (by decide)
  have:=aCT hr
  omega
 ·omega
theorem aOL (a:F):r0 a * r0 a = a * pw a ((aB - 1) / 4):=by
 unfold r0
 rw [<- qG,show (aB + 3) / 8 + (aB + 3) / 8 = (aB - 1) / 4 + 1 by decide,aCG]
 exact aJ6 _ _
theorem aSB {x:F} (h:x * x = 1):x = 1 \/ x = 0 - 1:=by
 have h1:(x - 1) * (x + 1) = 0:=by grind -lia -linarith (splits:=0)
 rcases dB h1 with h2 | h2
 ·exact Or.inl (by grind -lia -linarith (splits:=0))
 ·exact Or.inr (by grind -lia -linarith (splits:=0))
theorem aJI {a:F} (h:a ≠ 0):a ≠ 0 - a:=by
 intro e
 have h1:2 * a = 0:=by grind -lia -linarith (splits:=0)
 exact (dB h1).elim mI h
theorem aCE:r0 0 = 0:=by unfold r0;exact aK7 (by decide)
theorem aOM {a:F} (h:kz a):r0 a * r0 a = a \/ r0 a * r0 a = 0 - a:=by
 rcases h with rfl | h
 ·rw [aCE];exact Or.inl (by grind -lia -linarith (splits:=0))
 ·rw [aOL]
  have e:pw a ((aB - 1) / 4) * pw a ((aB - 1) / 4) = 1:=by
   rw [<- qG,show (aB - 1) / 4 + (aB - 1) / 4 = (aB - 1) / 2 by decide];exact h
  rcases aSB e with h1 | h1 <;> rw [h1]
  ·exact Or.inl (by grind -lia -linarith (splits:=0))
  ·exact Or.inr (by grind -lia -linarith (splits:=0))
theorem aKV {a s:F} (h:s * s = a):kz a:=by
 by_cases hs:s = 0
 ·exact Or.inl (by rw [<- h,hs];grind -lia -linarith (splits:=0))
 ·exact Or.inr (by rw [<- h];exact aBS hs)
def me (a:F):F:=if r0 a * r0 a = 0 - a then r0 a * j0 else r0 a
theorem rH (a:F):me a * me a = a ↔ kz a:=by
 refine ⟨fun h=>aKV h,fun h=>?_⟩
 unfold me
 have hj:=aTF
 split
 ·grind -lia -linarith (splits:=0)
 ·rename_i h1
  exact (aOM h).resolve_right h1
theorem wy {a:F} (h:kz a):me a = pP a:=by
 unfold me pP
 by_cases ha:a = 0
 ·subst ha
  rw [aCE]
  split
  ·split <;> grind -lia -linarith (splits:=0)
  ·split <;> grind -lia -linarith (splits:=0)
 ·rcases aOM h with h1 | h1
  ·rw [if_neg (by rw [h1];exact aJI ha),if_pos h1]
  ·rw [if_pos h1,if_neg (by rw [h1];exact fun e=>aJI ha e.symm)]
theorem aGP {a:F} (h:kz a):pP a * pP a = a:=by rw [<- wy h];exact (rH a).2 h
theorem wz {a:F} (h:kz a):dY a * dY a = a:=by
 have h1:=aGP h
 unfold dY zi
 split
 ·grind -lia -linarith (splits:=0)
 ·exact h1
theorem aBF {x y:F} (h:x * x = y * y):x = y \/ x = 0 - y:=by
 have h1:(x - y) * (x + y) = 0:=by grind -lia -linarith (splits:=0)
 rcases dB h1 with h2 | h2
 ·exact Or.inl (by grind -lia -linarith (splits:=0))
 ·exact Or.inr (by grind -lia -linarith (splits:=0))
theorem aGQ (x:F):dY (x * x) = if x.val % 2 = 1 then 0 - x else x:=by
 have h:=wz (aKV (s:=x) rfl)
 have he:=zf (pP (x * x))
 have he:(dY (x * x)).val % 2 = 0:=he
 rcases aBF h with h1 | h1
 ·rw [h1] at he ⊢
  rw [if_neg (by omega)]
 ·by_cases hx:x = 0
  ·subst hx
   rw [h1];decide +kernel
  ·have:=aCT hx
   rw [h1] at he ⊢
   rw [if_pos (by omega)]
def jU (b:List UInt8):List UInt8:=b.set 31 (b.getD 31 0 &&& UInt8.ofNat 127)
theorem oA (b:List UInt8):(jU b).length = b.length:=by unfold jU;rw [length_set]
def xxF (y:F):F:=(y * y - 1) * inv (dF * (y * y) + 1)
def rx (b:List UInt8):Prop:=128 <= (b.getD 31 0).toNat
instance (b:List UInt8):Decidable (rx b):=by unfold rx;exact inferInstance
def okD (b:List UInt8):Prop:=leB (ofF (jU b)) = jU b/\kz (xxF (ofF (jU b)))/\¬ (rx b/\dY (xxF (ofF (jU b))) = 0)
instance (b:List UInt8):Decidable (okD b):=by unfold okD;exact inferInstance
def aEW (b:List UInt8):F:=if rx b then 0 - dY (xxF (ofF (jU b))) else dY (xxF (ofF (jU b)))
def lk (b:List UInt8):F:=ofF (jU b)
theorem aJ9 (y:F):dF * (y * y) + 1 ≠ 0:=by
 intro h
 have h1:iF * iF = dF * (y * y):=by have:=aTH;grind -lia -linarith (splits:=0)
 have h2:=aLH h1
 rw [h2] at h
 exact absurd h (by decide +kernel)
theorem aNW {x y:F}:On x y ↔ x * x = xxF y:=by
 have hn:=g8 (aJ9 y)
 unfold On xxF
 constructor
 ·intro h
  have:x * x * (dF * (y * y) + 1) = y * y - 1:=by grind -lia -linarith (splits:=0)
  refine vu (aJ9 y) ?_
  rw [this];grind -lia -linarith (splits:=0)
 ·intro h
  have:x * x * (dF * (y * y) + 1) = y * y - 1:=by rw [h];grind -lia -linarith (splits:=0)
  grind -lia -linarith (splits:=0)
theorem aQW {b:List UInt8} (h:okD b):On (aEW b) (lk b):=by
 rw [aNW]
 have h1:=wz h.2.1
 unfold aEW lk
 split
 ·grind -lia -linarith (splits:=0)
 ·exact h1
def yB (b:List UInt8):Pt:=if h:okD b then ⟨aEW b,lk b,aQW h⟩ else .O
theorem yA {b:List UInt8} (h:okD b):(yB b).x = aEW b:=by unfold yB;rw [dif_pos h]
theorem x9 {b:List UInt8} (h:okD b):(yB b).y = lk b:=by unfold yB;rw [dif_pos h]
def rz (P:Pt):List UInt8:=if P.x.val % 2 = 1 then (leB P.y).set 31 ((leB P.y).getD 31 0 + UInt8.ofNat 128) else leB P.y
theorem ol (P:Pt):(rz P).length = 32:=by
 unfold rz
 split
 ·rw [length_set];exact aZ _
 ·exact aZ _
theorem aJU (y:F):((leB y).getD 31 0).toNat < 128:=by
 have h:=vc (leB y) 31
 rw [tJ] at h
 have:=y.isLt
 rw [<- h]
 have h2:aB = 57896044618658097711785492504343953926634992332820282019728792003956564819949:=rfl
 have h3:(256:Nat) ^ 31 = 452312848583266388373324160190187140051835877600158453279131187530910662656:=by decide
 rw [h3]
 omega
theorem uC:∀ x:UInt8,x.toNat < 128->x &&& UInt8.ofNat 127 = x:=by
 intro x hx
 have:∀ y:Fin 256,y.val < 128->UInt8.ofNat y.val &&& UInt8.ofNat 127 = UInt8.ofNat y.val:=by decide +kernel
 have h:=this ⟨x.toNat,x.toNat_lt⟩ hx
 rw [UInt8.ofNat_toNat] at h;exact h
theorem aAK:∀ x:UInt8,x.toNat < 128->(x + UInt8.ofNat 128) &&& UInt8.ofNat 127 = x:=by
 intro x hx
 have:∀ y:Fin 256,y.val < 128->(UInt8.ofNat y.val + UInt8.ofNat 128) &&& UInt8.ofNat 127 = UInt8.ofNat y.val:=by decide +kernel
 have h:=this ⟨x.toNat,x.toNat_lt⟩ hx
 rw [UInt8.ofNat_toNat] at h;exact h
theorem q6 {l:List UInt8} {i:Nat} (h:i < l.length):l.set i (l.getD i 0) = l:=by
 apply List.ext_getElem (by rw [length_set])
 intro j h1 h2
 rw [List.getElem_set]
 split
 ·rename_i e
  subst e
  rw [getD_eq_getElem?_getD,List.getElem?_eq_getElem h];rfl
 ·rfl
theorem aHA (P:Pt):jU (rz P) = leB P.y/\(rx (rz P) ↔ P.x.val % 2 = 1):=by
 have hs:=aJU P.y
 have hl:=aZ P.y
 unfold jU rz rx
 split
 ·rename_i h
  have g:((leB P.y).set 31 ((leB P.y).getD 31 0 + UInt8.ofNat 128)).getD 31 0 = (leB P.y).getD 31 0 + UInt8.ofNat 128:=by
   rw [getD_eq_getElem?_getD,List.getElem?_set_self (by omega)];rfl
  rw [g,List.set_set,aAK _ hs,q6 (by omega)]
  refine ⟨rfl,fun _=>h,fun _=>?_⟩
  rw [UInt8.toNat_add,show (UInt8.ofNat 128).toNat = 128 from rfl];omega
 ·rename_i h
  rw [uC _ hs,q6 (by omega)]
  refine ⟨rfl,fun h2=>by omega,fun h2=>absurd h2 h⟩
theorem aEV (P:Pt):okD (rz P)/\yB (rz P) = P:=by
 obtain ⟨h1,h2⟩:=aHA P
 have hy:ofF (jU (rz P)) = P.y:=by rw [h1,aLE]
 have hx:xxF (ofF (jU (rz P))) = P.x * P.x:=by rw [hy];exact (aNW.1 P.on).symm
 have hr:=aGQ P.x
 have ok:okD (rz P):=by
  refine ⟨by rw [hy,h1],by rw [hx];exact aKV rfl,?_⟩
  rw [hx,hr,h2]
  rintro ⟨h3,h4⟩
  rw [if_pos h3] at h4
  have:P.x = 0:=by grind -lia -linarith (splits:=0)
  rw [this] at h3
  exact absurd h3 (by decide)
 refine ⟨ok,Pt.ext' ?_ ?_⟩
 ·rw [yA ok]
  unfold aEW
  rw [hx,hr]
  by_cases h3:P.x.val % 2 = 1
  ·rw [if_pos (h2.2 h3),if_pos h3];grind -lia -linarith (splits:=0)
  ·rw [if_neg (fun h=>h3 (h2.1 h)),if_neg h3]
 ·rw [x9 ok];exact hy
def basB:List UInt8:=UInt8.ofNat 88 :: replicate 31 (UInt8.ofNat 102)
theorem wS:rz basP = basB:=by decide +kernel
theorem aKG:okD basB:=by rw [<- wS];exact (aEV basP).1
theorem aFE:yB basB = basP:=by rw [<- wS];exact (aEV basP).2
end Go.Cu
