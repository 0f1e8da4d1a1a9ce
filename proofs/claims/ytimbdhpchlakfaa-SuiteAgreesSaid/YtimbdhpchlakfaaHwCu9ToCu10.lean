/- What the functions of the program compute. No condition. -/
import Derived.Test.YtimbdhpchlakfaaHwCu8ToCu8
set_option linter.unusedSimpArgs false
set_option linter.unusedVariables false
namespace Go.Cu
open Go Go.Sx
def rF:F:=2251799813685248
theorem r5:rF * rF * rF * rF * rF = 19:=by decide +kernel
theorem fn_r:fn 2251799813685248 = rF:=by decide +kernel
theorem fn_r2:fn 5070602400912917605986812821504 = rF * rF:=by decide +kernel
theorem fn_r3:fn 11417981541647679048466287755595961091061972992 = rF * rF * rF:=by decide +kernel
theorem fn_r4:fn 25711008708143844408671393477458601640355247900524685364822016 = rF * rF * rF * rF:=by decide +kernel
theorem fn_19:fn 19 = 19:=by decide +kernel
def lf (l:List UInt64) (i:Nat):F:=fn (l.getD i 0).toNat
theorem fv_eq (l:List UInt64):fv l = lf l 0 + lf l 1 * rF + lf l 2 * (rF * rF) + lf l 3 * (rF * rF * rF) + lf l 4 * (rF * rF * rF * rF):=by
 unfold fv nv5 lf
 rw [fn_add,fn_add,fn_add,fn_add,fn_mul,fn_mul,fn_mul,fn_mul,fn_r,fn_r2,fn_r3,fn_r4]
theorem lf_lt {l:List UInt64} (h:Lb l):∀ i,i < 5→(l.getD i 0).toNat < 4503599627370496:=by
 intro i hi
 obtain ⟨_,h0,h1,h2,h3,h4⟩:=h
 match i,hi with
 | 0,_=>exact h0
 | 1,_=>exact h1
 | 2,_=>exact h2
 | 3,_=>exact h3
 | 4,_=>exact h4
theorem pm (x y:UInt64) (hy:y.toNat < 4503599627370496):x.toNat * (UInt64.ofNat 19 * y).toNat = 19 * (x.toNat * y.toNat):=by
 rw [m19 hy,Nat.mul_left_comm]
theorem mu_vals {a b:List UInt64} (ha:Lb a) (hb:Lb b) :
  ∃ v0 v1 v2 v3 v4:Nat,wV ((muS a b 5).getD 0 (0,0)) = v0∧wV ((muS a b 5).getD 1 (0,0)) = v1∧wV ((muS a b 5).getD 2 (0,0)) = v2∧wV ((muS a b 5).getD 3 (0,0)) = v3∧wV ((muS a b 5).getD 4 (0,0)) = v4
   ∧ v0 < 2596148429267413814265248164610048∧v1 < 2596148429267413814265248164610048∧v2 < 2596148429267413814265248164610048∧v3 < 2596148429267413814265248164610048∧v4 < 162259276829213363391578010288128
   ∧ fn v0 = lf a 0 * lf b 0 + 19 * (lf a 1 * lf b 4) + 19 * (lf a 2 * lf b 3) + 19 * (lf a 3 * lf b 2) + 19 * (lf a 4 * lf b 1)
   ∧ fn v1 = lf a 0 * lf b 1 + lf a 1 * lf b 0 + 19 * (lf a 2 * lf b 4) + 19 * (lf a 3 * lf b 3) + 19 * (lf a 4 * lf b 2)
   ∧ fn v2 = lf a 0 * lf b 2 + lf a 1 * lf b 1 + lf a 2 * lf b 0 + 19 * (lf a 3 * lf b 4) + 19 * (lf a 4 * lf b 3)
   ∧ fn v3 = lf a 0 * lf b 3 + lf a 1 * lf b 2 + lf a 2 * lf b 1 + lf a 3 * lf b 0 + 19 * (lf a 4 * lf b 4)
   ∧ fn v4 = lf a 0 * lf b 4 + lf a 1 * lf b 3 + lf a 2 * lf b 2 + lf a 3 * lf b 1 + lf a 4 * lf b 0:=by
 have la:=lf_lt ha
 have lb:=lf_lt hb
 have q:∀ i k,i < 5→k < 5→(a.getD i 0).toNat * (b.getD k 0).toNat ≤ 20282409603651661421847155900416:=fun i k hi hk=>pb1 (la i hi) (lb k hk)
 have p:∀ i k,k < 5→(a.getD i 0).toNat * (UInt64.ofNat 19 * b.getD k 0).toNat = 19 * ((a.getD i 0).toNat * (b.getD k 0).toNat):=fun i k hk=>pm _ _ (lb k hk)
 have f:∀ i k,fn ((a.getD i 0).toNat * (b.getD k 0).toNat) = lf a i * lf b k:=fun i k=>fn_mul _ _
 have g:∀ i k,fn (19 * ((a.getD i 0).toNat * (b.getD k 0).toNat)) = 19 * (lf a i * lf b k):=fun i k=>by rw [fn_mul,f,fn_19]
 rw [muS_eq]
 have q00:=q 0 0 (by omega) (by omega)
 have q01:=q 0 1 (by omega) (by omega)
 have q02:=q 0 2 (by omega) (by omega)
 have q03:=q 0 3 (by omega) (by omega)
 have q04:=q 0 4 (by omega) (by omega)
 have q10:=q 1 0 (by omega) (by omega)
 have q11:=q 1 1 (by omega) (by omega)
 have q12:=q 1 2 (by omega) (by omega)
 have q13:=q 1 3 (by omega) (by omega)
 have q14:=q 1 4 (by omega) (by omega)
 have q20:=q 2 0 (by omega) (by omega)
 have q21:=q 2 1 (by omega) (by omega)
 have q22:=q 2 2 (by omega) (by omega)
 have q23:=q 2 3 (by omega) (by omega)
 have q24:=q 2 4 (by omega) (by omega)
 have q30:=q 3 0 (by omega) (by omega)
 have q31:=q 3 1 (by omega) (by omega)
 have q32:=q 3 2 (by omega) (by omega)
 have q33:=q 3 3 (by omega) (by omega)
 have q34:=q 3 4 (by omega) (by omega)
 have q40:=q 4 0 (by omega) (by omega)
 have q41:=q 4 1 (by omega) (by omega)
 have q42:=q 4 2 (by omega) (by omega)
 have q43:=q 4 3 (by omega) (by omega)
 have q44:=q 4 4 (by omega) (by omega)
 refine ⟨_,_,_,_,_,five rfl (p 1 4 (by omega)) (p 2 3 (by omega)) (p 3 2 (by omega)) (p 4 1 (by omega)) (by omega),five rfl rfl (p 2 4 (by omega)) (p 3 3 (by omega)) (p 4 2 (by omega)) (by omega),
  five rfl rfl rfl (p 3 4 (by omega)) (p 4 3 (by omega)) (by omega),five rfl rfl rfl rfl (p 4 4 (by omega)) (by omega),five rfl rfl rfl rfl rfl (by omega),by omega,by omega,by omega,by omega,by omega,?_,?_,?_,?_,?_⟩
 ·rw [fn_add,fn_add,fn_add,fn_add,f,g,g,g,g]
 ·rw [fn_add,fn_add,fn_add,fn_add,f,f,g,g,g]
 ·rw [fn_add,fn_add,fn_add,fn_add,f,f,f,g,g]
 ·rw [fn_add,fn_add,fn_add,fn_add,f,f,f,f,g]
 ·rw [fn_add,fn_add,fn_add,fn_add,f,f,f,f,f]
theorem fn_dm (x:Nat):fn (x % 2251799813685248) = fn x - rF * fn (x / 2251799813685248):=by
 have h:fn (2251799813685248 * (x / 2251799813685248) + x % 2251799813685248) = fn x:=by rw [Nat.div_add_mod]
 rw [fn_add,fn_mul,fn_r] at h
 grind -lia -linarith (splits:=0)
theorem tele {o0 o1 o2 o3 o4 o5 v0 v1 v2 v3 v4 r c0 c1 c2 c3 c4:F} (h0:o0 = 0) (hr:r * r * r * r * r = 19) (e0:c0 = v0 + o0 - r * o1) (e1:c1 = v1 + o1 - r * o2) (e2:c2 = v2 + o2 - r * o3) (e3:c3 = v3 + o3 - r * o4) (e4:c4 = v4 + o4 - r * o5) :
  c0 + o5 * 19 + c1 * r + c2 * (r * r) + c3 * (r * r * r) + c4 * (r * r * r * r) = v0 + v1 * r + v2 * (r * r) + v3 * (r * r * r) + v4 * (r * r * r * r):=by
 subst e0 e1 e2 e3 e4 h0;grind -lia -linarith (splits:=0)
theorem prod5 {a0 a1 a2 a3 a4 b0 b1 b2 b3 b4 r:F} (hr:r * r * r * r * r = 19) :
  (a0 * b0 + 19 * (a1 * b4) + 19 * (a2 * b3) + 19 * (a3 * b2) + 19 * (a4 * b1)) + (a0 * b1 + a1 * b0 + 19 * (a2 * b4) + 19 * (a3 * b3) + 19 * (a4 * b2)) * r + (a0 * b2 + a1 * b1 + a2 * b0 + 19 * (a3 * b4) + 19 * (a4 * b3)) * (r * r) + (a0 * b3 + a1 * b2 + a2 * b1 + a3 * b0 + 19 * (a4 * b4)) * (r * r * r) + (a0 * b4 + a1 * b3 + a2 * b2 + a3 * b1 + a4 * b0) * (r * r * r * r)
   = (a0 + a1 * r + a2 * (r * r) + a3 * (r * r * r) + a4 * (r * r * r * r)) * (b0 + b1 * r + b2 * (r * r) + b3 * (r * r * r) + b4 * (r * r * r * r)):=by
 grind -lia -linarith (splits:=0)
theorem cyS_step (t:List W2) (i:Nat):cyS t (i + 1) = ((cyS t i).1.set i (addS (t.getD i (0,0)).2 (cyS t i).2 0 &&& UInt64.ofNat 2251799813685247),
   shl64 ((t.getD i (0,0)).1 + addC (t.getD i (0,0)).2 (cyS t i).2 0) 13 ||| shr64 (addS (t.getD i (0,0)).2 (cyS t i).2 0) 51):=rfl
theorem cy_end (t:List W2):(cyS t 5).1 = [addS (t.getD 0 (0,0)).2 (cyS t 0).2 0 &&& UInt64.ofNat 2251799813685247,addS (t.getD 1 (0,0)).2 (cyS t 1).2 0 &&& UInt64.ofNat 2251799813685247,addS (t.getD 2 (0,0)).2 (cyS t 2).2 0 &&& UInt64.ofNat 2251799813685247,
   addS (t.getD 3 (0,0)).2 (cyS t 3).2 0 &&& UInt64.ofNat 2251799813685247,addS (t.getD 4 (0,0)).2 (cyS t 4).2 0 &&& UInt64.ofNat 2251799813685247]:=by
 rw [cyS_step t 4,cyS_step t 3]
 generalize (cyS t 4).2 = o4
 rw [cyS_step t 2]
 generalize (cyS t 3).2 = o3
 rw [cyS_step t 1]
 generalize (cyS t 2).2 = o2
 rw [cyS_step t 0]
 generalize (cyS t 1).2 = o1
 rfl
theorem lit_lim {v o:Nat} (h:v < 2596148429267413814265248164610048) (ho:o ≤ 1152921504606848000):v + o < 41538374868278621028243970633760768∧(v + o) / 2251799813685248 ≤ 1152921504606848000:=by omega
theorem lit_lim4 {v o:Nat} (h:v < 162259276829213363391578010288128) (ho:o ≤ 1152921504606848000):v + o < 41538374868278621028243970633760768∧(v + o) / 2251799813685248 ≤ 144115188075855872:=by omega
theorem mulL_fv {a b:List UInt64} (ha:Lb a) (hb:Lb b):fv (mulL a b) = fv a * fv b:=by
 obtain ⟨v0,v1,v2,v3,v4,w0,w1,w2,w3,w4,b0,b1,b2,b3,b4,f0,f1,f2,f3,f4⟩:=mu_vals ha hb
 unfold mulL
 rw [carL_fv]
 generalize muS a b 5 = t at *
 have z0:((cyS t 0).2).toNat = 0:=rfl
 have l0:=lit_lim b0 (o:=((cyS t 0).2).toNat) (by omega)
 have s0:=cy_step (w:=t.getD 0 (0,0)) (o:=(cyS t 0).2) (by rw [w0];exact l0.1)
 rw [w0] at s0
 have o1:((cyS t 1).2).toNat = (v0 + ((cyS t 0).2).toNat) / 2251799813685248:=by rw [cyS_step];exact s0.2
 have l1:=lit_lim b1 (o:=((cyS t 1).2).toNat) (by rw [o1];exact l0.2)
 have s1:=cy_step (w:=t.getD 1 (0,0)) (o:=(cyS t 1).2) (by rw [w1];exact l1.1)
 rw [w1] at s1
 have o2:((cyS t 2).2).toNat = (v1 + ((cyS t 1).2).toNat) / 2251799813685248:=by rw [cyS_step];exact s1.2
 have l2:=lit_lim b2 (o:=((cyS t 2).2).toNat) (by rw [o2];exact l1.2)
 have s2:=cy_step (w:=t.getD 2 (0,0)) (o:=(cyS t 2).2) (by rw [w2];exact l2.1)
 rw [w2] at s2
 have o3:((cyS t 3).2).toNat = (v2 + ((cyS t 2).2).toNat) / 2251799813685248:=by rw [cyS_step];exact s2.2
 have l3:=lit_lim b3 (o:=((cyS t 3).2).toNat) (by rw [o3];exact l2.2)
 have s3:=cy_step (w:=t.getD 3 (0,0)) (o:=(cyS t 3).2) (by rw [w3];exact l3.1)
 rw [w3] at s3
 have o4:((cyS t 4).2).toNat = (v3 + ((cyS t 3).2).toNat) / 2251799813685248:=by rw [cyS_step];exact s3.2
 have l4:=lit_lim4 b4 (o:=((cyS t 4).2).toNat) (by rw [o4];exact l3.2)
 have s4:=cy_step (w:=t.getD 4 (0,0)) (o:=(cyS t 4).2) (by rw [w4];exact l4.1)
 rw [w4] at s4
 have o5:((cyS t 5).2).toNat = (v4 + ((cyS t 4).2).toNat) / 2251799813685248:=by rw [cyS_step];exact s4.2
 have h5:((cyS t 5).2).toNat ≤ 144115188075855872:=by rw [o5];exact l4.2
 rw [cy_end]
 generalize (cyS t 5).2 = O5 at *
 generalize (cyS t 4).2 = O4 at *
 generalize (cyS t 3).2 = O3 at *
 generalize (cyS t 2).2 = O2 at *
 generalize (cyS t 1).2 = O1 at *
 generalize (cyS t 0).2 = O0 at *
 rw [fv_eq]
 have c0:lf ([addS (t.getD 0 (0,0)).2 O0 0 &&& UInt64.ofNat 2251799813685247,addS (t.getD 1 (0,0)).2 O1 0 &&& UInt64.ofNat 2251799813685247,addS (t.getD 2 (0,0)).2 O2 0 &&& UInt64.ofNat 2251799813685247,addS (t.getD 3 (0,0)).2 O3 0 &&& UInt64.ofNat 2251799813685247,addS (t.getD 4 (0,0)).2 O4 0 &&& UInt64.ofNat 2251799813685247].set 0 ((addS (t.getD 0 (0,0)).2 O0 0 &&& UInt64.ofNat 2251799813685247) + O5 * UInt64.ofNat 19)) 0
   = fn ((v0 + O0.toNat) % 2251799813685248) + fn O5.toNat * 19:=by
  show fn ((addS (t.getD 0 (0,0)).2 O0 0 &&& UInt64.ofNat 2251799813685247) + O5 * UInt64.ofNat 19).toNat = _
  rw [UInt64.toNat_add,UInt64.toNat_mul,s0.1,show (UInt64.ofNat 19).toNat = 19 from rfl,← fn_19,← fn_mul,← fn_add]
  congr 1
  rw [Nat.mod_eq_of_lt (show O5.toNat * 19 < 2 ^ 64 by omega)]
  exact Nat.mod_eq_of_lt (by omega)
 have key:fv (List.set [addS (t.getD 0 (0,0)).2 O0 0 &&& UInt64.ofNat 2251799813685247,addS (t.getD 1 (0,0)).2 O1 0 &&& UInt64.ofNat 2251799813685247,addS (t.getD 2 (0,0)).2 O2 0 &&& UInt64.ofNat 2251799813685247,addS (t.getD 3 (0,0)).2 O3 0 &&& UInt64.ofNat 2251799813685247,addS (t.getD 4 (0,0)).2 O4 0 &&& UInt64.ofNat 2251799813685247] 0 ((addS (t.getD 0 (0,0)).2 O0 0 &&& UInt64.ofNat 2251799813685247) + O5 * UInt64.ofNat 19))
   = (fn ((v0 + O0.toNat) % 2251799813685248) + fn O5.toNat * 19) + fn ((v1 + O1.toNat) % 2251799813685248) * rF + fn ((v2 + O2.toNat) % 2251799813685248) * (rF * rF) + fn ((v3 + O3.toNat) % 2251799813685248) * (rF * rF * rF) + fn ((v4 + O4.toNat) % 2251799813685248) * (rF * rF * rF * rF):=by
  rw [fv_eq,c0,← s1.1,← s2.1,← s3.1,← s4.1]
  rfl
 rw [← fv_eq]
 refine key.trans ?_
 rw [fn_dm,fn_dm,fn_dm,fn_dm,fn_dm,← o1,← o2,← o3,← o4,← o5,fn_add,fn_add,fn_add,fn_add,fn_add]
 rw [tele (o0:=fn O0.toNat) (by rw [z0];rfl) r5 rfl rfl rfl rfl rfl,f0,f1,f2,f3,f4,prod5 r5,← fv_eq,← fv_eq]
end Go.Cu
namespace Go.Cu
open Go Go.Sx
def oneL:List UInt64:=[UInt64.ofNat 1,0,0,0,0]
theorem oneL_lb:Lb oneL:=⟨rfl,by decide,by decide,by decide,by decide,by decide⟩
theorem oneL_fv:fv oneL = 1:=by decide +kernel
def pbit (k i:Nat):Prop:=(k - 1) / 2 ^ i % 2 = 0 ∨ 10 < i
instance (k i:Nat):Decidable (pbit k i):=by unfold pbit;exact inferInstance
def pwS (a:List UInt64) (n k:Nat):Nat→List UInt64
 | 0=>oneL
 | j + 1=>if pbit k (n - 1 - j) then mulL (mulL (pwS a n k j) (pwS a n k j)) a else mulL (pwS a n k j) (pwS a n k j)
def exN (n k:Nat):Nat→Nat
 | 0=>0
 | j + 1=>if pbit k (n - 1 - j) then 2 * exN n k j + 1 else 2 * exN n k j
theorem pwS_lb (a:List UInt64) (n k:Nat):∀ j,Lb (pwS a n k j)
 | 0=>oneL_lb
 | j + 1=>by unfold pwS;split <;> exact mulL_lb _ _
theorem pwS_fv {a:List UInt64} (ha:Lb a) (n k:Nat):∀ j,fv (pwS a n k j) = pw (fv a) (exN n k j)
 | 0=>oneL_fv
 | j + 1=>by
  have ih:=pwS_fv ha n k j
  have hb:=pwS_lb a n k j
  have h2:fv (mulL (pwS a n k j) (pwS a n k j)) = pw (fv a) (2 * exN n k j):=by
   rw [mulL_fv hb hb,ih,← pw_add];congr 1;omega
  unfold pwS exN
  split
  ·rw [mulL_fv (mulL_lb _ _) ha,h2];rfl
  ·exact h2
def invL (a:List UInt64):List UInt64:=pwS a 255 21 255
theorem invL_lb (a:List UInt64):Lb (invL a):=pwS_lb _ _ _ _
theorem ex_inv:exN 255 21 255 = P25519 - 2:=by decide +kernel
theorem invL_fv {a:List UInt64} (ha:Lb a):fv (invL a) = inv (fv a):=by
 unfold invL
 rw [pwS_fv ha,ex_inv,inv_pw]
def lv:List UInt8→Nat
 | []=>0
 | b :: r=>b.toNat + 256 * lv r
def leN (v:Nat):Nat→List UInt8
 | 0=>[]
 | n + 1=>UInt8.ofNat v :: leN (v / 256) n
theorem leN_length:∀ n v,(leN v n).length = n
 | 0,_=>rfl
 | n + 1,v=>by show (leN (v / 256) n).length + 1 = n + 1;rw [leN_length n]
theorem lv_leN:∀ n v,lv (leN v n) = v % 256 ^ n
 | 0,v=>by show 0 = v % 1;rw [Nat.mod_one]
 | n + 1,v=>by
  show (UInt8.ofNat v).toNat + 256 * lv (leN (v / 256) n) = v % 256 ^ (n + 1)
  have h:(UInt8.ofNat v).toNat = v % 256:=UInt8.toNat_ofNat'
  rw [lv_leN n,h,Nat.pow_succ',Nat.mod_mul]
theorem leN_getD:∀ n v i,i < n→(leN v n).getD i 0 = UInt8.ofNat (v / 256 ^ i)
 | n + 1,v,0,_=>by show UInt8.ofNat v = UInt8.ofNat (v / 1);rw [Nat.div_one]
 | n + 1,v,i + 1,h=>by
  show (leN (v / 256) n).getD i 0 = _
  rw [leN_getD n (v / 256) i (by omega),Nat.div_div_eq_div_mul,Nat.pow_succ']
def leB (x:F):List UInt8:=leN x.val 32
theorem leB_length (x:F):(leB x).length = 32:=leN_length _ _
theorem lv_leB (x:F):lv (leB x) = x.val:=by
 have h:=x.isLt
 unfold leB
 rw [lv_leN]
 exact Nat.mod_eq_of_lt (Nat.lt_trans h (by decide))
def qS (l:List UInt64):Nat→UInt64
 | 0=>UInt64.ofNat 19
 | i + 1=>shr64 (l.getD i 0 + qS l i) 51
def nmS (l:List UInt64):Nat→List UInt64
 | 0=>l
 | i + 1=>((nmS l i).set (i + 1) ((nmS l i).getD (i + 1) 0 + shr64 ((nmS l i).getD i 0) 51)).set i (((nmS l i).set (i + 1) ((nmS l i).getD (i + 1) 0 + shr64 ((nmS l i).getD i 0) 51)).getD i 0 &&& UInt64.ofNat 2251799813685247)
theorem nmS_length (l:List UInt64) (h:l.length = 5):∀ i,(nmS l i).length = 5
 | 0=>h
 | i + 1=>by show (List.set (List.set _ _ _) _ _).length = 5;rw [List.length_set,List.length_set];exact nmS_length l h i
def wdL (l:List UInt64):List UInt64:=
 [l.getD 0 0 ||| shl64 (l.getD 1 0) 51,shr64 (l.getD 1 0) 13 ||| shl64 (l.getD 2 0) 38,shr64 (l.getD 2 0) 26 ||| shl64 (l.getD 3 0) 25,shr64 (l.getD 3 0) 39 ||| shl64 (l.getD 4 0) 12]
def byS (t:List UInt64):Nat→List UInt8
 | 0=>List.replicate 32 0
 | i + 1=>(byS t i).set i (shr64 (t.getD (i / 8) 0) (i % 8 * 8)).toUInt8
theorem byS_length (t:List UInt64):∀ i,(byS t i).length = 32
 | 0=>rfl
 | i + 1=>by show ((byS t i).set i _).length = 32;rw [List.length_set];exact byS_length t i
def frL (l:List UInt64):List UInt64:=l.set 0 (l.getD 0 0 + UInt64.ofNat 19 * qS l 5)
def nmL (l:List UInt64):List UInt64:=(nmS (frL l) 4).set 4 ((nmS (frL l) 4).getD 4 0 &&& UInt64.ofNat 2251799813685247)
def bytL (l:List UInt64):List UInt8:=byS (wdL (nmL (carL (carL l)))) 32
theorem byS_getD (t:List UInt64):∀ n i,i < n→n ≤ 32→(byS t n).getD i 0 = (shr64 (t.getD (i / 8) 0) (i % 8 * 8)).toUInt8
 | n + 1,i,h,hn=>by
  show ((byS t n).set n _).getD i 0 = _
  by_cases hi:i = n
  ·subst hi
   rw [List.getD_eq_getElem?_getD,List.getElem?_set_self (by rw [byS_length];omega)];rfl
  ·rw [List.getD_eq_getElem?_getD,List.getElem?_set_ne (by omega),← List.getD_eq_getElem?_getD]
   exact byS_getD t n i (by omega) (by omega)
theorem ext_getD {A B:List UInt8} {n:Nat} (ha:A.length = n) (hb:B.length = n) (h:∀ i,i < n→A.getD i 0 = B.getD i 0):A = B:=by
 apply List.ext_getElem (by rw [ha,hb])
 intro i h1 h2
 have:=h i (by omega)
 rw [List.getD_eq_getElem?_getD,List.getD_eq_getElem?_getD,List.getElem?_eq_getElem h1,List.getElem?_eq_getElem h2] at this
 exact this
theorem byS_all {t:List UInt64} {v:Nat} (h:∀ j,j < 4→(t.getD j 0).toNat = v / 18446744073709551616 ^ j % 18446744073709551616):byS t 32 = leN v 32:=by
 refine ext_getD (n:=32) (byS_length _ _) (leN_length _ _) fun i hi=>?_
 rw [byS_getD t 32 i hi (Nat.le_refl _),leN_getD 32 v i hi]
 apply UInt8.toNat_inj.1
 rw [UInt64.toNat_toUInt8,shr_val,h (i / 8) (by omega),UInt8.toNat_ofNat']
 have e256:(256:Nat) ^ i = 18446744073709551616 ^ (i / 8) * 2 ^ (i % 8 * 8):=by
  rw [show (256:Nat) = 2 ^ 8 from rfl,show (18446744073709551616:Nat) = 2 ^ 64 from rfl,← Nat.pow_mul,← Nat.pow_mul,← Nat.pow_add]
  congr 1;omega
 rw [e256,← Nat.div_div_eq_div_mul]
 generalize v / 18446744073709551616 ^ (i / 8) = w
 have hm:i % 8 < 8:=Nat.mod_lt _ (by omega)
 generalize i % 8 = m at hm
 have:m = 0 ∨ m = 1 ∨ m = 2 ∨ m = 3 ∨ m = 4 ∨ m = 5 ∨ m = 6 ∨ m = 7:=by omega
 rcases this with rfl | rfl | rfl | rfl | rfl | rfl | rfl | rfl <;> (simp only [Nat.reduceMul,Nat.reducePow];omega)
end Go.Cu
