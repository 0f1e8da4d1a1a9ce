/- What the functions of the program compute. No condition. -/
import Derived.Test.YtimbdhpchlakfaaHwCu6ToCu7
set_option linter.unusedSimpArgs false
set_option linter.unusedVariables false
namespace Go.Cu
open Go Go.Sx
def muT (x y:UInt64):UInt64:=shr64 x 32 * (y &&& UInt64.ofNat 4294967295) + shr64 ((x &&& UInt64.ofNat 4294967295) * (y &&& UInt64.ofNat 4294967295)) 32
def muH (x y:UInt64):UInt64:=shr64 x 32 * shr64 y 32 + shr64 (muT x y) 32 + shr64 ((muT x y &&& UInt64.ofNat 4294967295) + (x &&& UInt64.ofNat 4294967295) * shr64 y 32) 32
theorem pr_bound {a b:Nat} (ha:a < 4294967296) (hb:b < 4294967296):a * b ≤ 18446744065119617025:=by
 have:a * b ≤ 4294967295 * 4294967295:=Nat.mul_le_mul (by omega) (by omega)
 omega
theorem pr_split (x1 x0 y1 y0:Nat):(x1 * 4294967296 + x0) * (y1 * 4294967296 + y0) = x1 * y1 * 18446744073709551616 + (x1 * y0 + x0 * y1) * 4294967296 + x0 * y0:=by
 rw [Nat.add_mul,Nat.mul_add,Nat.mul_add]
 have e1:x1 * 4294967296 * (y1 * 4294967296) = x1 * y1 * 18446744073709551616:=by
  rw [Nat.mul_assoc,Nat.mul_left_comm 4294967296,← Nat.mul_assoc]
 have e2:x1 * 4294967296 * y0 = x1 * y0 * 4294967296:=by rw [Nat.mul_right_comm]
 have e3:x0 * (y1 * 4294967296) = x0 * y1 * 4294967296:=by rw [Nat.mul_assoc]
 rw [e1,e2,e3]
 omega
theorem and_low (x:UInt64):(x &&& UInt64.ofNat 4294967295).toNat = x.toNat % 4294967296:=by
 rw [UInt64.toNat_and,show (UInt64.ofNat 4294967295).toNat = 2 ^ 32 - 1 from rfl,Nat.and_two_pow_sub_one_eq_mod]
theorem shr_32 (x:UInt64):(shr64 x 32).toNat = x.toNat / 4294967296:=shr_val x 32
theorem muH_val (x y:UInt64):(muH x y).toNat = x.toNat * y.toNat / 18446744073709551616:=by
 have hx:=x.toNat_lt
 have hy:=y.toNat_lt
 have sx:x.toNat = x.toNat / 4294967296 * 4294967296 + x.toNat % 4294967296:=by omega
 have sy:y.toNat = y.toNat / 4294967296 * 4294967296 + y.toNat % 4294967296:=by omega
 have ps:=pr_split (x.toNat / 4294967296) (x.toNat % 4294967296) (y.toNat / 4294967296) (y.toNat % 4294967296)
 rw [← sx,← sy] at ps
 have b11:=pr_bound (a:=x.toNat / 4294967296) (b:=y.toNat / 4294967296) (by omega) (by omega)
 have b10:=pr_bound (a:=x.toNat / 4294967296) (b:=y.toNat % 4294967296) (by omega) (by omega)
 have b01:=pr_bound (a:=x.toNat % 4294967296) (b:=y.toNat / 4294967296) (by omega) (by omega)
 have b00:=pr_bound (a:=x.toNat % 4294967296) (b:=y.toNat % 4294967296) (by omega) (by omega)
 unfold muH muT
 simp only [UInt64.toNat_add,UInt64.toNat_mul,and_low,shr_32]
 generalize x.toNat / 4294967296 * (y.toNat / 4294967296) = p11 at *
 generalize x.toNat / 4294967296 * (y.toNat % 4294967296) = p10 at *
 generalize x.toNat % 4294967296 * (y.toNat / 4294967296) = p01 at *
 generalize x.toNat % 4294967296 * (y.toNat % 4294967296) = p00 at *
 generalize x.toNat * y.toNat = P at *
 omega
theorem mul64_val (x y:UInt64):(muH x y).toNat * 18446744073709551616 + (x * y).toNat = x.toNat * y.toNat:=by
 rw [muH_val,UInt64.toNat_mul]
 omega
theorem add_val (x y:UInt64):(addS x y 0).toNat + (addC x y 0).toNat * 18446744073709551616 = x.toNat + y.toNat:=by
 have:=x.toNat_lt
 have:=y.toNat_lt
 unfold addS addC
 rw [UInt64.toNat_ofNat',UInt64.toNat_ofNat',show (0:UInt64).toNat = 0 from rfl]
 omega
abbrev W2:=UInt64 × UInt64
def wV (w:W2):Nat:=w.1.toNat * 18446744073709551616 + w.2.toNat
theorem wV_eq (w:W2):wV w = w.1.toNat * 18446744073709551616 + w.2.toNat:=rfl
def moreW (w:W2) (x y:UInt64):W2:=(addS w.1 (muH x y) (addC w.2 (x * y) 0),addS w.2 (x * y) 0)
theorem moreW_1 (w:W2) (x y:UInt64):(moreW w x y).1 = addS w.1 (muH x y) (addC w.2 (x * y) 0):=rfl
theorem moreW_2 (w:W2) (x y:UInt64):(moreW w x y).2 = addS w.2 (x * y) 0:=rfl
theorem addS_val (x y c:UInt64):(addS x y c).toNat = (x.toNat + y.toNat + c.toNat) % 18446744073709551616:=by
 unfold addS
 rw [UInt64.toNat_ofNat']
theorem more_lem0 {W1 W2 H L P d s B:Nat} (hm:H * B + L = P) (a1:s + d * B = W2 + L):(W1 + H + d) * B + s = W1 * B + W2 + P:=by
 rw [Nat.add_mul,Nat.add_mul]
 generalize H * B = x at *
 generalize d * B = y at *
 generalize W1 * B = z at *
 omega
theorem more_lem {W1 W2 H L P d s:Nat} (h:W1 * 18446744073709551616 + W2 + P < 340282366920938463463374607431768211456) (hm:H * 18446744073709551616 + L = P) (a1:s + d * 18446744073709551616 = W2 + L) :
  (W1 + H + d) % 18446744073709551616 * 18446744073709551616 + s = W1 * 18446744073709551616 + W2 + P:=by
 have hlt:W1 + H + d < 18446744073709551616:=by omega
 rw [Nat.mod_eq_of_lt hlt]
 clear hlt h
 exact more_lem0 hm a1
theorem moreW_v {w:W2} {x y:UInt64} (h:wV w + x.toNat * y.toNat < 340282366920938463463374607431768211456):wV (moreW w x y) = wV w + x.toNat * y.toNat:=by
 have hm:=mul64_val x y
 have a1:=add_val w.2 (x * y)
 rw [wV_eq] at h
 rw [wV_eq (moreW w x y),wV_eq w,moreW_1,moreW_2,addS_val]
 exact more_lem h hm a1
def muA (a b:List UInt64) (i k:Nat) (t:List W2):List W2:=
 if 5 ≤ i + k then t.set (i + k - 5) (moreW (t.getD (i + k - 5) (0,0)) (a.getD i 0) (UInt64.ofNat 19 * b.getD k 0))
 else t.set (i + k) (moreW (t.getD (i + k) (0,0)) (a.getD i 0) (b.getD k 0))
def muR (a b:List UInt64) (i:Nat) (t:List W2):Nat→List W2
 | 0=>t
 | k + 1=>muA a b i k (muR a b i t k)
def muS (a b:List UInt64):Nat→List W2
 | 0=>List.replicate 5 (0,0)
 | i + 1=>muR a b i (muS a b i) 5
theorem muR_length {a b:List UInt64} {i:Nat} {t:List W2}:∀ k,(muR a b i t k).length = t.length
 | 0=>rfl
 | k + 1=>by
  show (muA a b i k (muR a b i t k)).length = _
  unfold muA
  split <;> rw [List.length_set,muR_length k]
theorem muS_length (a b:List UInt64):∀ i,(muS a b i).length = 5
 | 0=>rfl
 | i + 1=>by show (muR a b i (muS a b i) 5).length = 5;rw [muR_length,muS_length a b i]
attribute [irreducible] moreW
theorem muR_0 (a b:List UInt64) (t0 t1 t2 t3 t4:W2):muR a b 0 [t0,t1,t2,t3,t4] 5 = [moreW t0 (a.getD 0 0) (b.getD 0 0),moreW t1 (a.getD 0 0) (b.getD 1 0),moreW t2 (a.getD 0 0) (b.getD 2 0),moreW t3 (a.getD 0 0) (b.getD 3 0),moreW t4 (a.getD 0 0) (b.getD 4 0)]:=rfl
theorem muR_1 (a b:List UInt64) (t0 t1 t2 t3 t4:W2):muR a b 1 [t0,t1,t2,t3,t4] 5 = [moreW t0 (a.getD 1 0) (UInt64.ofNat 19 * b.getD 4 0),moreW t1 (a.getD 1 0) (b.getD 0 0),moreW t2 (a.getD 1 0) (b.getD 1 0),moreW t3 (a.getD 1 0) (b.getD 2 0),moreW t4 (a.getD 1 0) (b.getD 3 0)]:=rfl
theorem muR_2 (a b:List UInt64) (t0 t1 t2 t3 t4:W2):muR a b 2 [t0,t1,t2,t3,t4] 5 = [moreW t0 (a.getD 2 0) (UInt64.ofNat 19 * b.getD 3 0),moreW t1 (a.getD 2 0) (UInt64.ofNat 19 * b.getD 4 0),moreW t2 (a.getD 2 0) (b.getD 0 0),moreW t3 (a.getD 2 0) (b.getD 1 0),moreW t4 (a.getD 2 0) (b.getD 2 0)]:=rfl
theorem muR_3 (a b:List UInt64) (t0 t1 t2 t3 t4:W2):muR a b 3 [t0,t1,t2,t3,t4] 5 = [moreW t0 (a.getD 3 0) (UInt64.ofNat 19 * b.getD 2 0),moreW t1 (a.getD 3 0) (UInt64.ofNat 19 * b.getD 3 0),moreW t2 (a.getD 3 0) (UInt64.ofNat 19 * b.getD 4 0),moreW t3 (a.getD 3 0) (b.getD 0 0),moreW t4 (a.getD 3 0) (b.getD 1 0)]:=rfl
theorem muR_4 (a b:List UInt64) (t0 t1 t2 t3 t4:W2):muR a b 4 [t0,t1,t2,t3,t4] 5 = [moreW t0 (a.getD 4 0) (UInt64.ofNat 19 * b.getD 1 0),moreW t1 (a.getD 4 0) (UInt64.ofNat 19 * b.getD 2 0),moreW t2 (a.getD 4 0) (UInt64.ofNat 19 * b.getD 3 0),moreW t3 (a.getD 4 0) (UInt64.ofNat 19 * b.getD 4 0),moreW t4 (a.getD 4 0) (b.getD 0 0)]:=rfl
theorem muS_eq (a b:List UInt64):muS a b 5 =
    [moreW (moreW (moreW (moreW (moreW (0,0) (a.getD 0 0) (b.getD 0 0)) (a.getD 1 0) (UInt64.ofNat 19 * b.getD 4 0)) (a.getD 2 0) (UInt64.ofNat 19 * b.getD 3 0)) (a.getD 3 0) (UInt64.ofNat 19 * b.getD 2 0)) (a.getD 4 0) (UInt64.ofNat 19 * b.getD 1 0),
     moreW (moreW (moreW (moreW (moreW (0,0) (a.getD 0 0) (b.getD 1 0)) (a.getD 1 0) (b.getD 0 0)) (a.getD 2 0) (UInt64.ofNat 19 * b.getD 4 0)) (a.getD 3 0) (UInt64.ofNat 19 * b.getD 3 0)) (a.getD 4 0) (UInt64.ofNat 19 * b.getD 2 0),
     moreW (moreW (moreW (moreW (moreW (0,0) (a.getD 0 0) (b.getD 2 0)) (a.getD 1 0) (b.getD 1 0)) (a.getD 2 0) (b.getD 0 0)) (a.getD 3 0) (UInt64.ofNat 19 * b.getD 4 0)) (a.getD 4 0) (UInt64.ofNat 19 * b.getD 3 0),
     moreW (moreW (moreW (moreW (moreW (0,0) (a.getD 0 0) (b.getD 3 0)) (a.getD 1 0) (b.getD 2 0)) (a.getD 2 0) (b.getD 1 0)) (a.getD 3 0) (b.getD 0 0)) (a.getD 4 0) (UInt64.ofNat 19 * b.getD 4 0),
     moreW (moreW (moreW (moreW (moreW (0,0) (a.getD 0 0) (b.getD 4 0)) (a.getD 1 0) (b.getD 3 0)) (a.getD 2 0) (b.getD 2 0)) (a.getD 3 0) (b.getD 1 0)) (a.getD 4 0) (b.getD 0 0)]:=by
  show muR a b 4 (muR a b 3 (muR a b 2 (muR a b 1 (muR a b 0 [(0,0),(0,0),(0,0),(0,0),(0,0)] 5) 5) 5) 5) 5 = _
  rw [muR_0,muR_1,muR_2,muR_3,muR_4]
theorem m19 {x:UInt64} (h:x.toNat < 4503599627370496):(UInt64.ofNat 19 * x).toNat = 19 * x.toNat:=by
 rw [UInt64.toNat_mul,show (UInt64.ofNat 19).toNat = 19 from rfl];omega
theorem pb1 {x y:Nat} (hx:x < 4503599627370496) (hy:y < 4503599627370496):x * y ≤ 20282409603651661421847155900416:=by
 have:x * y ≤ 4503599627370495 * 4503599627370495:=Nat.mul_le_mul (by omega) (by omega)
 omega
theorem five {x0 x1 x2 x3 x4 y0 y1 y2 y3 y4:UInt64} {p0 p1 p2 p3 p4:Nat} (h0:x0.toNat * y0.toNat = p0) (h1:x1.toNat * y1.toNat = p1) (h2:x2.toNat * y2.toNat = p2) (h3:x3.toNat * y3.toNat = p3) (h4:x4.toNat * y4.toNat = p4)
  (hp:p0 + p1 + p2 + p3 + p4 < 340282366920938463463374607431768211456) :
  wV (moreW (moreW (moreW (moreW (moreW (0,0) x0 y0) x1 y1) x2 y2) x3 y3) x4 y4) = p0 + p1 + p2 + p3 + p4:=by
 have z:wV (0,0) = 0:=rfl
 have a0:=moreW_v (w:=(0,0)) (x:=x0) (y:=y0) (by rw [z,h0];omega)
 rw [z,h0] at a0
 have a1:=moreW_v (w:=moreW (0,0) x0 y0) (x:=x1) (y:=y1) (by rw [a0,h1];omega)
 rw [a0,h1] at a1
 have a2:=moreW_v (w:=moreW (moreW (0,0) x0 y0) x1 y1) (x:=x2) (y:=y2) (by rw [a1,h2];omega)
 rw [a1,h2] at a2
 have a3:=moreW_v (w:=moreW (moreW (moreW (0,0) x0 y0) x1 y1) x2 y2) (x:=x3) (y:=y3) (by rw [a2,h3];omega)
 rw [a2,h3] at a3
 have a4:=moreW_v (w:=moreW (moreW (moreW (moreW (0,0) x0 y0) x1 y1) x2 y2) x3 y3) (x:=x4) (y:=y4) (by rw [a3,h4];omega)
 rw [a3,h4] at a4
 rw [a4];omega
def cyS (t:List W2):Nat→List UInt64 × UInt64
 | 0=>(List.replicate 5 0,UInt64.ofNat 0)
 | i + 1=>
  ((cyS t i).1.set i (addS (t.getD i (0,0)).2 (cyS t i).2 0 &&& UInt64.ofNat 2251799813685247),
   shl64 ((t.getD i (0,0)).1 + addC (t.getD i (0,0)).2 (cyS t i).2 0) 13 ||| shr64 (addS (t.getD i (0,0)).2 (cyS t i).2 0) 51)
theorem cyS_length (t:List W2):∀ i,(cyS t i).1.length = 5
 | 0=>rfl
 | i + 1=>by show ((cyS t i).1.set i _).length = 5;rw [List.length_set];exact cyS_length t i
def mulL (a b:List UInt64):List UInt64:=
 carL ((cyS (muS a b 5) 5).1.set 0 ((cyS (muS a b 5) 5).1.getD 0 0 + (cyS (muS a b 5) 5).2 * UInt64.ofNat 19))
theorem mulL_lb (a b:List UInt64):Lb (mulL a b):=carL_lb _
theorem or_val {x y:UInt64} {k:Nat} (z:Nat) (hx:x.toNat = z * 2 ^ k) (hy:y.toNat < 2 ^ k):(x ||| y).toNat = x.toNat + y.toNat:=by
 rw [UInt64.toNat_or,hx,Nat.mul_comm,Nat.two_pow_add_eq_or_of_lt hy]
theorem cy_lem1 {W1 W2 d s o:Nat} (_:W1 * 18446744073709551616 + W2 + o < 41538374868278621028243970633760768) (a:s + d * 18446744073709551616 = W2 + o):s % 2251799813685248 = (W1 * 18446744073709551616 + W2 + o) % 2251799813685248:=by omega
theorem cy_lem2 {W1 W2 d s o:Nat} (h:W1 * 18446744073709551616 + W2 + o < 41538374868278621028243970633760768) (a:s + d * 18446744073709551616 = W2 + o):(W1 + d) * 8192 + s / 2251799813685248 = (W1 * 18446744073709551616 + W2 + o) / 2251799813685248∧W1 + d < 2251799813685248:=by omega
theorem cy_lem3 {x:Nat} (h:x < 2251799813685248):x * 2 ^ 13 < 18446744073709551616:=by omega
theorem cy_step {w:W2} {o:UInt64} (h:wV w + o.toNat < 41538374868278621028243970633760768) :
  (addS w.2 o 0 &&& UInt64.ofNat 2251799813685247).toNat = (wV w + o.toNat) % 2251799813685248
  ∧ (shl64 (w.1 + addC w.2 o 0) 13 ||| shr64 (addS w.2 o 0) 51).toNat = (wV w + o.toNat) / 2251799813685248:=by
 have a:=add_val w.2 o
 have hs:=(addS w.2 o 0).toNat_lt
 rw [wV_eq] at h
 rw [wV_eq]
 refine ⟨?_,?_⟩
 ·rw [and51];exact cy_lem1 h a
 ·obtain ⟨k1,k2⟩:=cy_lem2 h a
  have e1:(w.1 + addC w.2 o 0).toNat = w.1.toNat + (addC w.2 o 0).toNat:=by
   rw [UInt64.toNat_add];exact Nat.mod_eq_of_lt (by omega)
  have e2:(shl64 (w.1 + addC w.2 o 0) 13).toNat = (w.1.toNat + (addC w.2 o 0).toNat) * 2 ^ 13:=by
   rw [shl_val,e1]
   exact Nat.mod_eq_of_lt (cy_lem3 k2)
  have e3:(shr64 (addS w.2 o 0) 51).toNat < 2 ^ 13:=by
   rw [shr51];show _ < 8192;omega
  rw [or_val _ e2 e3,e2,shr51]
  exact k1
end Go.Cu
