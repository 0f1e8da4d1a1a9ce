/- What the functions of the program compute. No condition. -/
import Derived.Test.YtimbdhpchlakfaaHwCu3ToCu5
import Derived.Test.YtimbdhpchlakfaaHx6
set_option linter.unusedSimpArgs false
set_option linter.unusedVariables false
namespace Go.Cu
structure LS where
 ax:F
 az:F
 bx:F
 bz:F
def stepF (u:F) (s:LS):LS:=
 let p:=s.ax + s.az;let m:=s.ax - s.az;let pp:=p * p;let mm:=m * m;let e:=pp - mm
 let da:=(s.bx - s.bz) * p;let cb:=(s.bx + s.bz) * m;let t:=da + cb;let d:=da - cb
 ⟨pp * mm,e * (pp + 121665 * e),t * t,u * (d * d)⟩
def LS.swap (s:LS):LS:=⟨s.bx,s.bz,s.ax,s.az⟩
def LS.turn (s:LS) (l b:Nat):LS:=if b = l then s else s.swap
def ladS (u:F) (n:Nat):Nat→LS × Nat
 | 0=>(⟨1,0,u,1⟩,0)
 | k + 1=>(stepF u ((ladS u n k).1.turn (ladS u n k).2 (n / 2 ^ (254 - k) % 2)),n / 2 ^ (254 - k) % 2)
def ladF (u:F) (n:Nat):F:=if (ladS u n 255).2 = 1 then (ladS u n 255).1.bx * inv (ladS u n 255).1.bz else (ladS u n 255).1.ax * inv (ladS u n 255).1.az
def LI (s:LS) (l:Nat) (P:Pt) (m:Nat):Prop:=(l = 0∧Lr s.ax s.az (P.mul m)∧Lr s.bx s.bz (P.mul (m + 1))) ∨ (l = 1∧Lr s.bx s.bz (P.mul m)∧Lr s.ax s.az (P.mul (m + 1)))
theorem LI.step {s:LS} {l:Nat} {P:Pt} {m:Nat} (h:LI s l P m) {u:F} (hu:u * (1 - P.y) = 1 + P.y) (u0:u ≠ 0) {b:Nat} (hb:b = 0 ∨ b = 1):LI (stepF u (s.turn l b)) b P (2 * m + b):=by
 have main0:∀ t:LS,Lr t.ax t.az (P.mul m)→Lr t.bx t.bz (P.mul (m + 1))→Lr (stepF u t).ax (stepF u t).az (P.mul (2 * m))∧Lr (stepF u t).bx (stepF u t).bz (P.mul (2 * m + 1)):=by
  intro t h1 h2
  have a:=lr_dbl h1 (p:=_) (m:=_) (pp:=_) (mm:=_) (e:=_) rfl rfl rfl rfl rfl
  rw [Pt.mul_dbl] at a
  have hD:((P.mul m).add (P.mul (m + 1)).ng).y = P.y:=by
   show ((P.mul m).add ((P.mul m).add P).ng).y = P.y
   rw [Pt.dif1];rfl
  have c:=lr_sum h1 h2 hD hu u0 (p:=_) (m:=_) (da:=_) (cb:=_) (s:=_) (d:=_) rfl rfl rfl rfl rfl rfl
  rw [← Pt.mul_add,show m + (m + 1) = 2 * m + 1 by omega] at c
  exact ⟨a,c⟩
 have main1:∀ t:LS,Lr t.bx t.bz (P.mul m)→Lr t.ax t.az (P.mul (m + 1))→Lr (stepF u t).ax (stepF u t).az (P.mul (2 * m + 1 + 1))∧Lr (stepF u t).bx (stepF u t).bz (P.mul (2 * m + 1)):=by
  intro t h1 h2
  have a:=lr_dbl h2 (p:=_) (m:=_) (pp:=_) (mm:=_) (e:=_) rfl rfl rfl rfl rfl
  rw [Pt.mul_dbl] at a
  have hD:((P.mul (m + 1)).add (P.mul m).ng).y = P.y:=by
   show (((P.mul m).add P).add (P.mul m).ng).y = P.y
   rw [Pt.dif2]
  have c:=lr_sum h2 h1 hD hu u0 (p:=_) (m:=_) (da:=_) (cb:=_) (s:=_) (d:=_) rfl rfl rfl rfl rfl rfl
  rw [← Pt.mul_add,show m + 1 + m = 2 * m + 1 by omega] at c
  exact ⟨a,c⟩
 rcases hb with rfl | rfl
 ·have key:Lr (s.turn l 0).ax (s.turn l 0).az (P.mul m)∧Lr (s.turn l 0).bx (s.turn l 0).bz (P.mul (m + 1)):=by
   rcases h with ⟨rfl,h1,h2⟩ | ⟨rfl,h1,h2⟩
   ·exact ⟨h1,h2⟩
   ·exact ⟨h1,h2⟩
  have:=main0 _ key.1 key.2
  exact Or.inl ⟨rfl,this.1,this.2⟩
 ·have key:Lr (s.turn l 1).bx (s.turn l 1).bz (P.mul m)∧Lr (s.turn l 1).ax (s.turn l 1).az (P.mul (m + 1)):=by
   rcases h with ⟨rfl,h1,h2⟩ | ⟨rfl,h1,h2⟩
   ·exact ⟨h1,h2⟩
   ·exact ⟨h1,h2⟩
  have:=main1 _ key.1 key.2
  exact Or.inr ⟨rfl,this.2,this.1⟩
theorem bit_lt2 (x:Nat):x % 2 = 0 ∨ x % 2 = 1:=by omega
theorem ladS_LI {u:F} {P:Pt} (hu:u * (1 - P.y) = 1 + P.y) (u0:u ≠ 0) {n:Nat} (hn:n < 2 ^ 255):∀ k,k ≤ 255→LI (ladS u n k).1 (ladS u n k).2 P (n / 2 ^ (255 - k))
 | 0,_=>by
  rw [Nat.div_eq_of_lt hn]
  refine Or.inl ⟨rfl,lr_O,?_⟩
  show Lr u 1 (Pt.O.add P)
  rw [Pt.O_add];exact lr_P hu
 | k + 1,hk=>by
  have ih:=ladS_LI hu u0 hn k (by omega)
  have h:=ih.step hu u0 (bit_lt2 (n / 2 ^ (254 - k)))
  have e:n / 2 ^ (255 - (k + 1)) = 2 * (n / 2 ^ (255 - k)) + n / 2 ^ (254 - k) % 2:=by
   have e1:n / 2 ^ (255 - k) = n / 2 ^ (254 - k) / 2:=by
    rw [show 255 - k = 254 - k + 1 by omega,Nat.pow_succ,Nat.div_div_eq_div_mul]
   rw [e1,show 255 - (k + 1) = 254 - k by omega];omega
  rw [e];exact h
theorem lad_spec {u:F} {P:Pt} (hu:u * (1 - P.y) = 1 + P.y) (u0:u ≠ 0) {n:Nat} (hn:n < 2 ^ 255):ladF u n = uF (P.mul n):=by
 have h:=ladS_LI hu u0 hn 255 (Nat.le_refl _)
 rw [show n / 2 ^ (255 - 255) = n by rw [Nat.sub_self,Nat.pow_zero,Nat.div_one]] at h
 unfold ladF
 rcases h with ⟨h0,h1,_⟩ | ⟨h0,h1,_⟩
 ·rw [if_neg (by omega)];exact lr_u h1
 ·rw [if_pos h0];exact lr_u h1
theorem step0 (s:LS):(stepF 0 s).bz = 0:=by show (0:F) * _ = 0;grind -lia -linarith (splits:=0)
theorem step0' (u:F) (s:LS) (h:s.ax * s.az = 0):(stepF u s).az = 0:=by
 show ((s.ax + s.az) * (s.ax + s.az) - (s.ax - s.az) * (s.ax - s.az)) * _ = 0
 have:(s.ax + s.az) * (s.ax + s.az) - (s.ax - s.az) * (s.ax - s.az) = 0:=by grind -lia -linarith (splits:=0)
 rw [this];grind -lia -linarith (splits:=0)
theorem lad0 (n:Nat):∀ k,(ladS 0 n k).1.ax * (ladS 0 n k).1.az = 0∧(ladS 0 n k).1.bx * (ladS 0 n k).1.bz = 0
 | 0=>⟨(by decide:(1:F) * 0 = 0),(by decide:(0:F) * 1 = 0)⟩
 | k + 1=>by
  have ih:=lad0 n k
  have e1:(ladS 0 n (k + 1)).1.az = 0:=by
   refine step0' 0 _ ?_
   unfold LS.turn
   split
   ·exact ih.1
   ·exact ih.2
  have e2:(ladS 0 n (k + 1)).1.bz = 0:=step0 _
  rw [e1,e2]
  exact ⟨by grind -lia -linarith (splits:=0),by grind -lia -linarith (splits:=0)⟩
theorem lad0_z (n k:Nat):(ladS 0 n (k + 1)).1.az = 0∧(ladS 0 n (k + 1)).1.bz = 0:=by
 refine ⟨step0' 0 _ ?_,step0 _⟩
 have ih:=lad0 n k
 unfold LS.turn
 split
 ·exact ih.1
 ·exact ih.2
theorem lad_zero (n:Nat):ladF 0 n = 0:=by
 have h:(ladS 0 n 255).1.az = 0∧(ladS 0 n 255).1.bz = 0:=lad0_z n 254
 unfold ladF
 rw [h.1,h.2,inv_zero]
 split <;> grind -lia -linarith (splits:=0)
theorem u_of {P:Pt} (h:uF P ≠ 0):uF P * (1 - P.y) = 1 + P.y:=by
 have:1 - P.y ≠ 0:=by
  intro h0
  apply h
  unfold uF
  rw [h0,inv_zero];grind -lia -linarith (splits:=0)
 have:=inv_mul this
 unfold uF
 grind -lia -linarith (splits:=0)
theorem O_mul:∀ n,Pt.O.mul n = .O
 | 0=>rfl
 | n + 1=>by show (Pt.O.mul n).add .O = .O;rw [O_mul n,Pt.add_O]
theorem u_O:uF .O = 0:=by
 unfold uF
 have:(1:F) - Pt.O.y = 0:=by decide
 rw [this,inv_zero];grind -lia -linarith (splits:=0)
theorem lad_agree {n m:Nat} (hn:n < 2 ^ 255) (hm:m < 2 ^ 255) (n2:n % 2 = 0) (m2:m % 2 = 0):ladF (ladF 9 m) n = ladF (ladF 9 n) m:=by
 have h9:(9:F) ≠ 0:=by decide
 rw [lad_spec bas_u h9 hn,lad_spec bas_u h9 hm]
 have key:∀ a b:Nat,a < 2 ^ 255→b < 2 ^ 255→b % 2 = 0→uF (basP.mul a) = 0→ladF (uF (basP.mul b)) a = 0:=by
  intro a b ha hb b2 h0
  by_cases h1:uF (basP.mul b) = 0
  ·rw [h1];exact lad_zero a
  ·rw [lad_spec (u_of h1) h1 ha,← Pt.mul_mul,Nat.mul_comm,Pt.mul_mul]
   have e:b = 2 * (b / 2):=by omega
   have d:((basP.mul a).mul 2) = .O:=by
    have:(basP.mul a).mul 2 = (basP.mul a).add (basP.mul a):=by
     show (Pt.O.add (basP.mul a)).add (basP.mul a) = _
     rw [Pt.O_add]
    rw [this]
    rcases u_zero h0 with h2 | h2
    ·rw [h2,Pt.add_O]
    ·exact h2
   rw [e,Pt.mul_mul,d,O_mul,u_O]
 by_cases h1:uF (basP.mul m) = 0
 ·rw [h1,lad_zero,key m n hm hn n2 h1]
 ·by_cases h2:uF (basP.mul n) = 0
  ·rw [h2,lad_zero,key n m hn hm m2 h2]
  ·rw [lad_spec (u_of h1) h1 hn,lad_spec (u_of h2) h2 hm,← Pt.mul_mul,← Pt.mul_mul,Nat.mul_comm]
def rstepF (u:F) (s:LS) (b:Nat):LS:=
 let p:=s.ax * s.bx - s.az * s.bz;let q:=s.ax * s.bz - s.az * s.bx
 if b = 0 then
  ⟨(s.ax * s.ax - s.az * s.az) * (s.ax * s.ax - s.az * s.az),4 * (s.ax * s.az) * (s.ax * s.ax + s.az * s.az + 486662 * (s.ax * s.az)),p * p,u * (q * q)⟩
 else
  ⟨p * p,u * (q * q),(s.bx * s.bx - s.bz * s.bz) * (s.bx * s.bx - s.bz * s.bz),4 * (s.bx * s.bz) * (s.bx * s.bx + s.bz * s.bz + 486662 * (s.bx * s.bz))⟩
def LQ (s:LS) (l:Nat) (r:LS):Prop:=∃ a b:F,a ≠ 0∧b ≠ 0 ∧
 ((l = 0∧s = ⟨a * r.ax,a * r.az,b * r.bx,b * r.bz⟩) ∨ (l = 1∧s = ⟨b * r.bx,b * r.bz,a * r.ax,a * r.az⟩))
theorem LQ.step {s r:LS} {l:Nat} (h:LQ s l r) (u:F) {b:Nat} (hb:b = 0 ∨ b = 1):LQ (stepF u (s.turn l b)) b (rstepF u r b):=by
 obtain ⟨x,y,hx,hy,h⟩:=h
 obtain ⟨ax,az,bx,bz⟩:=r
 rcases hb with rfl | rfl
 ·have e:s.turn l 0 = ⟨x * ax,x * az,y * bx,y * bz⟩:=by
   rcases h with ⟨rfl,rfl⟩ | ⟨rfl,rfl⟩ <;> rfl
  rw [e]
  refine ⟨x * x * (x * x),4 * (x * y * (x * y)),f_ne (f_ne hx hx) (f_ne hx hx),f_ne four_ne (f_ne (f_ne hx hy) (f_ne hx hy)),Or.inl ⟨rfl,?_⟩⟩
  unfold stepF rstepF
  simp only [if_pos,LS.mk.injEq]
  exact ⟨by grind -lia -linarith (splits:=0),by grind -lia -linarith (splits:=0),by grind -lia -linarith (splits:=0),by grind -lia -linarith (splits:=0)⟩
 ·have e:s.turn l 1 = ⟨y * bx,y * bz,x * ax,x * az⟩:=by
   rcases h with ⟨rfl,rfl⟩ | ⟨rfl,rfl⟩ <;> rfl
  rw [e]
  refine ⟨4 * (x * y * (x * y)),y * y * (y * y),f_ne four_ne (f_ne (f_ne hx hy) (f_ne hx hy)),f_ne (f_ne hy hy) (f_ne hy hy),Or.inr ⟨rfl,?_⟩⟩
  unfold stepF rstepF
  simp only [if_neg (show ¬ (1 = 0) by decide),LS.mk.injEq]
  exact ⟨by grind -lia -linarith (splits:=0),by grind -lia -linarith (splits:=0),by grind -lia -linarith (splits:=0),by grind -lia -linarith (splits:=0)⟩
end Go.Cu
namespace Go.Cu
open Go Go.Sx
def fn (n:Nat):F:=Fin.ofNat P25519 n
theorem fn_val (n:Nat):(fn n).val = n % P25519:=rfl
theorem fn_mod {a b:Nat} (h:a % P25519 = b % P25519):fn a = fn b:=Fin.ext h
theorem fn_add (a b:Nat):fn (a + b) = fn a + fn b:=Fin.ext (by rw [f_val_add,fn_val,fn_val,fn_val,← Nat.add_mod])
theorem fn_mul (a b:Nat):fn (a * b) = fn a * fn b:=Fin.ext (by rw [f_val_mul,fn_val,fn_val,fn_val,← Nat.mul_mod])
theorem fn_P (a k:Nat):fn (a + k * P25519) = fn a:=fn_mod (Nat.add_mul_mod_self_right _ _ _)
theorem fn_self (x:F):fn x.val = x:=Fin.ext (Nat.mod_eq_of_lt x.isLt)
def nv5 (l:List UInt64):Nat:=(l.getD 0 0).toNat + (l.getD 1 0).toNat * 2251799813685248 + (l.getD 2 0).toNat * 5070602400912917605986812821504 + (l.getD 3 0).toNat * 11417981541647679048466287755595961091061972992 + (l.getD 4 0).toNat * 25711008708143844408671393477458601640355247900524685364822016
def fv (l:List UInt64):F:=fn (nv5 l)
def Lb (l:List UInt64):Prop:=l.length = 5∧(l.getD 0 0).toNat < 4503599627370496∧(l.getD 1 0).toNat < 4503599627370496∧(l.getD 2 0).toNat < 4503599627370496∧(l.getD 3 0).toNat < 4503599627370496∧(l.getD 4 0).toNat < 4503599627370496
theorem and51 (x:UInt64):(x &&& UInt64.ofNat 2251799813685247).toNat = x.toNat % 2251799813685248:=by
 rw [UInt64.toNat_and,show (UInt64.ofNat 2251799813685247).toNat = 2 ^ 51 - 1 from rfl,Nat.and_two_pow_sub_one_eq_mod]
theorem shr_val (x:UInt64) (k:Nat):(shr64 x k).toNat = x.toNat / 2 ^ k:=by
 have:=x.toNat_lt
 have h:=Nat.div_le_self x.toNat (2 ^ k)
 unfold shr64
 rw [UInt64.toNat_ofNat',Nat.shiftRight_eq_div_pow,Nat.mod_eq_of_lt (by omega)]
theorem shl_val (x:UInt64) (k:Nat):(shl64 x k).toNat = x.toNat * 2 ^ k % 18446744073709551616:=by
 unfold shl64
 rw [UInt64.toNat_ofNat',Nat.shiftLeft_eq]
theorem shr51 (x:UInt64):(shr64 x 51).toNat = x.toNat / 2251799813685248:=shr_val x 51
def carL (l:List UInt64):List UInt64:=
 [(l.getD 0 0 &&& UInt64.ofNat 2251799813685247) + shr64 (l.getD 4 0) 51 * UInt64.ofNat 19,(l.getD 1 0 &&& UInt64.ofNat 2251799813685247) + shr64 (l.getD 0 0) 51,(l.getD 2 0 &&& UInt64.ofNat 2251799813685247) + shr64 (l.getD 1 0) 51,
  (l.getD 3 0 &&& UInt64.ofNat 2251799813685247) + shr64 (l.getD 2 0) 51,(l.getD 4 0 &&& UInt64.ofNat 2251799813685247) + shr64 (l.getD 3 0) 51]
theorem carL_at (l:List UInt64):((carL l).getD 0 0).toNat = (l.getD 0 0).toNat % 2251799813685248 + (l.getD 4 0).toNat / 2251799813685248 * 19
  ∧ ((carL l).getD 1 0).toNat = (l.getD 1 0).toNat % 2251799813685248 + (l.getD 0 0).toNat / 2251799813685248
  ∧ ((carL l).getD 2 0).toNat = (l.getD 2 0).toNat % 2251799813685248 + (l.getD 1 0).toNat / 2251799813685248
  ∧ ((carL l).getD 3 0).toNat = (l.getD 3 0).toNat % 2251799813685248 + (l.getD 2 0).toNat / 2251799813685248
  ∧ ((carL l).getD 4 0).toNat = (l.getD 4 0).toNat % 2251799813685248 + (l.getD 3 0).toNat / 2251799813685248:=by
 have h0:=(l.getD 0 0).toNat_lt
 have h1:=(l.getD 1 0).toNat_lt
 have h2:=(l.getD 2 0).toNat_lt
 have h3:=(l.getD 3 0).toNat_lt
 have h4:=(l.getD 4 0).toNat_lt
 have e19:(UInt64.ofNat 19).toNat = 19:=rfl
 refine ⟨?_,?_,?_,?_,?_⟩
 ·show ((l.getD 0 0 &&& UInt64.ofNat 2251799813685247) + shr64 (l.getD 4 0) 51 * UInt64.ofNat 19).toNat = _
  rw [UInt64.toNat_add,UInt64.toNat_mul,and51,shr51,e19];omega
 ·show ((l.getD 1 0 &&& UInt64.ofNat 2251799813685247) + shr64 (l.getD 0 0) 51).toNat = _
  rw [UInt64.toNat_add,and51,shr51];omega
 ·show ((l.getD 2 0 &&& UInt64.ofNat 2251799813685247) + shr64 (l.getD 1 0) 51).toNat = _
  rw [UInt64.toNat_add,and51,shr51];omega
 ·show ((l.getD 3 0 &&& UInt64.ofNat 2251799813685247) + shr64 (l.getD 2 0) 51).toNat = _
  rw [UInt64.toNat_add,and51,shr51];omega
 ·show ((l.getD 4 0 &&& UInt64.ofNat 2251799813685247) + shr64 (l.getD 3 0) 51).toNat = _
  rw [UInt64.toNat_add,and51,shr51];omega
theorem carL_lb (l:List UInt64):Lb (carL l):=by
 obtain ⟨e0,e1,e2,e3,e4⟩:=carL_at l
 have h0:=(l.getD 0 0).toNat_lt
 have h1:=(l.getD 1 0).toNat_lt
 have h2:=(l.getD 2 0).toNat_lt
 have h3:=(l.getD 3 0).toNat_lt
 have h4:=(l.getD 4 0).toNat_lt
 refine ⟨rfl,?_,?_,?_,?_,?_⟩
 ·rw [e0];omega
 ·rw [e1];omega
 ·rw [e2];omega
 ·rw [e3];omega
 ·rw [e4];omega
theorem carL_nv (l:List UInt64):nv5 l = nv5 (carL l) + (l.getD 4 0).toNat / 2251799813685248 * P25519:=by
 obtain ⟨e0,e1,e2,e3,e4⟩:=carL_at l
 unfold nv5
 rw [e0,e1,e2,e3,e4]
 unfold P25519
 generalize (l.getD 0 0).toNat = x0
 generalize (l.getD 1 0).toNat = x1
 generalize (l.getD 2 0).toNat = x2
 generalize (l.getD 3 0).toNat = x3
 generalize (l.getD 4 0).toNat = x4
 omega
theorem carL_fv (l:List UInt64):fv (carL l) = fv l:=by
 unfold fv
 rw [carL_nv l,fn_P]
def adS (a b:List UInt64):Nat→List UInt64
 | 0=>List.replicate 5 0
 | i + 1=>(adS a b i).set i (a.getD i 0 + b.getD i 0)
theorem adS_eq (a b:List UInt64):adS a b 5 = [a.getD 0 0 + b.getD 0 0,a.getD 1 0 + b.getD 1 0,a.getD 2 0 + b.getD 2 0,a.getD 3 0 + b.getD 3 0,a.getD 4 0 + b.getD 4 0]:=rfl
theorem adS_length (a b:List UInt64):∀ i,(adS a b i).length = 5
 | 0=>rfl
 | i + 1=>by show ((adS a b i).set i _).length = 5;rw [List.length_set];exact adS_length a b i
def addL (a b:List UInt64):List UInt64:=carL (adS a b 5)
theorem addL_lb (a b:List UInt64):Lb (addL a b):=carL_lb _
theorem addL_fv {a b:List UInt64} (ha:Lb a) (hb:Lb b):fv (addL a b) = fv a + fv b:=by
 unfold addL
 rw [carL_fv]
 unfold fv
 rw [← fn_add]
 congr 1
 obtain ⟨_,a0,a1,a2,a3,a4⟩:=ha
 obtain ⟨_,b0,b1,b2,b3,b4⟩:=hb
 unfold nv5
 rw [adS_eq]
 have e0:(a.getD 0 0 + b.getD 0 0).toNat = (a.getD 0 0).toNat + (b.getD 0 0).toNat:=by rw [UInt64.toNat_add];omega
 have e1:(a.getD 1 0 + b.getD 1 0).toNat = (a.getD 1 0).toNat + (b.getD 1 0).toNat:=by rw [UInt64.toNat_add];omega
 have e2:(a.getD 2 0 + b.getD 2 0).toNat = (a.getD 2 0).toNat + (b.getD 2 0).toNat:=by rw [UInt64.toNat_add];omega
 have e3:(a.getD 3 0 + b.getD 3 0).toNat = (a.getD 3 0).toNat + (b.getD 3 0).toNat:=by rw [UInt64.toNat_add];omega
 have e4:(a.getD 4 0 + b.getD 4 0).toNat = (a.getD 4 0).toNat + (b.getD 4 0).toNat:=by rw [UInt64.toNat_add];omega
 show (a.getD 0 0 + b.getD 0 0).toNat + (a.getD 1 0 + b.getD 1 0).toNat * _ + (a.getD 2 0 + b.getD 2 0).toNat * _ + (a.getD 3 0 + b.getD 3 0).toNat * _ + (a.getD 4 0 + b.getD 4 0).toNat * _ = _
 rw [e0,e1,e2,e3,e4]
 generalize (a.getD 0 0).toNat = x0 at *
 generalize (a.getD 1 0).toNat = x1 at *
 generalize (a.getD 2 0).toNat = x2 at *
 generalize (a.getD 3 0).toNat = x3 at *
 generalize (a.getD 4 0).toNat = x4 at *
 omega
def sb0:List UInt64:=[UInt64.ofNat 9007199254740916,UInt64.ofNat 9007199254740988,UInt64.ofNat 9007199254740988,UInt64.ofNat 9007199254740988,UInt64.ofNat 9007199254740988]
def sbS (a b:List UInt64):Nat→List UInt64
 | 0=>sb0
 | i + 1=>(sbS a b i).set i ((sbS a b i).getD i 0 + (a.getD i 0 - b.getD i 0))
theorem sbS_length (a b:List UInt64):∀ i,(sbS a b i).length = 5
 | 0=>rfl
 | i + 1=>by show ((sbS a b i).set i _).length = 5;rw [List.length_set];exact sbS_length a b i
theorem sbS_eq (a b:List UInt64):sbS a b 5 = [UInt64.ofNat 9007199254740916 + (a.getD 0 0 - b.getD 0 0),UInt64.ofNat 9007199254740988 + (a.getD 1 0 - b.getD 1 0),UInt64.ofNat 9007199254740988 + (a.getD 2 0 - b.getD 2 0),UInt64.ofNat 9007199254740988 + (a.getD 3 0 - b.getD 3 0),UInt64.ofNat 9007199254740988 + (a.getD 4 0 - b.getD 4 0)]:=rfl
def subL (a b:List UInt64):List UInt64:=carL (sbS a b 5)
theorem subL_lb (a b:List UInt64):Lb (subL a b):=carL_lb _
theorem sub_at {x y:UInt64} (hx:x.toNat < 4503599627370496) (hy:y.toNat < 4503599627370496) {c:Nat} (h:4503599627370496 ≤ c) (h':c < 9007199254740992):(UInt64.ofNat c + (x - y)).toNat + y.toNat = c + x.toNat:=by
 rw [UInt64.toNat_add,UInt64.toNat_sub,UInt64.toNat_ofNat']
 omega
theorem subL_fv {a b:List UInt64} (ha:Lb a) (hb:Lb b):fv (subL a b) = fv a - fv b:=by
 have key:nv5 (sbS a b 5) + nv5 b = nv5 a + 4 * P25519:=by
  obtain ⟨_,a0,a1,a2,a3,a4⟩:=ha
  obtain ⟨_,b0,b1,b2,b3,b4⟩:=hb
  have e0:=sub_at a0 b0 (c:=9007199254740916) (by omega) (by omega)
  have e1:=sub_at a1 b1 (c:=9007199254740988) (by omega) (by omega)
  have e2:=sub_at a2 b2 (c:=9007199254740988) (by omega) (by omega)
  have e3:=sub_at a3 b3 (c:=9007199254740988) (by omega) (by omega)
  have e4:=sub_at a4 b4 (c:=9007199254740988) (by omega) (by omega)
  unfold nv5
  rw [sbS_eq]
  show (UInt64.ofNat 9007199254740916 + (a.getD 0 0 - b.getD 0 0)).toNat + (UInt64.ofNat 9007199254740988 + (a.getD 1 0 - b.getD 1 0)).toNat * _ + (UInt64.ofNat 9007199254740988 + (a.getD 2 0 - b.getD 2 0)).toNat * _ + (UInt64.ofNat 9007199254740988 + (a.getD 3 0 - b.getD 3 0)).toNat * _ + (UInt64.ofNat 9007199254740988 + (a.getD 4 0 - b.getD 4 0)).toNat * _ + _ = _
  generalize (UInt64.ofNat 9007199254740916 + (a.getD 0 0 - b.getD 0 0)).toNat = y0 at *
  generalize (UInt64.ofNat 9007199254740988 + (a.getD 1 0 - b.getD 1 0)).toNat = y1 at *
  generalize (UInt64.ofNat 9007199254740988 + (a.getD 2 0 - b.getD 2 0)).toNat = y2 at *
  generalize (UInt64.ofNat 9007199254740988 + (a.getD 3 0 - b.getD 3 0)).toNat = y3 at *
  generalize (UInt64.ofNat 9007199254740988 + (a.getD 4 0 - b.getD 4 0)).toNat = y4 at *
  unfold P25519
  omega
 unfold subL
 rw [carL_fv]
 unfold fv
 have h:=congrArg fn key
 rw [fn_add,fn_P] at h
 rw [← h]
 grind -lia -linarith (splits:=0)
end Go.Cu
