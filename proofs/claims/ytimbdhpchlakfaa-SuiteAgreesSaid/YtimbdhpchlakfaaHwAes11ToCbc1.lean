/- What the functions of the program compute. No condition. -/
import Derived.Test.YtimbdhpchlakfaaHwAes7ToAes10
import Derived.Test.YtimbdhpchlakfaaHx8
import Derived.Test.YtimbdhpchlakfaaHwCbcSToTm2
set_option linter.unusedSimpArgs false
set_option linter.unusedVariables false
namespace Go.Proofs.Ytimbdhpchlakfaa
open Go Go.Sx
theorem shl8_xor (a b:UInt8):shl8 (a ^^^ b) 1 = shl8 a 1 ^^^ shl8 b 1:=by
 unfold shl8
 rw [UInt8.toNat_xor,Nat.shiftLeft_xor_distrib]
 apply UInt8.toNat_inj.1
 rw [UInt8.toNat_xor,UInt8.toNat_ofNat',UInt8.toNat_ofNat',UInt8.toNat_ofNat',Nat.xor_mod_two_pow]
theorem top_iff {n:Nat} (h:n < 256):n < 128 ↔ n.testBit 7 = false:=by
 rw [Nat.testBit_eq_decide_div_mod_eq,decide_eq_false_iff_not];omega
theorem dbl_xor (a b:UInt8):dbl (a ^^^ b) = dbl a ^^^ dbl b:=by
 have ha:=top_iff a.toNat_lt
 have hb:=top_iff b.toNat_lt
 have hab:=top_iff (a ^^^ b).toNat_lt
 rw [UInt8.toNat_xor,Nat.testBit_xor] at hab
 unfold dbl
 rw [shl8_xor,UInt8.toNat_xor]
 cases h1:a.toNat.testBit 7 <;> cases h2:b.toNat.testBit 7 <;> simp only [h1,h2,Bool.xor_self,Bool.xor_false,Bool.false_xor,iff_true,iff_false,Bool.true_eq_false] at ha hb hab <;> simp only [ha,hb,hab,if_true,if_false]
 ·ac_rfl
 ·ac_rfl
 ·rw [show shl8 a 1 ^^^ 27 ^^^ (shl8 b 1 ^^^ 27) = shl8 a 1 ^^^ shl8 b 1 ^^^ (27 ^^^ 27) by ac_rfl,UInt8.xor_self,UInt8.xor_zero]
theorem tms_xor:∀ (n:Nat) (a b m p q:UInt8),tms n (a ^^^ b) m (p ^^^ q) = tms n a m p ^^^ tms n b m q
 | 0,_,_,_,_,_=>rfl
 | n + 1,a,b,m,p,q=>by
  simp only [tms]
  rw [dbl_xor,← tms_xor n]
  congr 1
  split
  ·ac_rfl
  ·rfl
theorem times_xor (a b m:UInt8):times (a ^^^ b) m = times a m ^^^ times b m:=by
 unfold times
 rw [← tms_xor,UInt8.xor_self]
def col (m0 m1 m2 m3 x0 x1 x2 x3:UInt8):UInt8:=0 ^^^ times x0 m0 ^^^ times x1 m1 ^^^ times x2 m2 ^^^ times x3 m3
theorem mix_list (a0 a1 a2 a3 a4 a5 a6 a7 a8 a9 a10 a11 a12 a13 a14 a15 m0 m1 m2 m3:UInt8):mixI [a0,a1,a2,a3,a4,a5,a6,a7,a8,a9,a10,a11,a12,a13,a14,a15] [m0,m1,m2,m3] 16 =
 [col m0 m1 m2 m3 a0 a1 a2 a3,col m0 m1 m2 m3 a1 a2 a3 a0,col m0 m1 m2 m3 a2 a3 a0 a1,col m0 m1 m2 m3 a3 a0 a1 a2,col m0 m1 m2 m3 a4 a5 a6 a7,col m0 m1 m2 m3 a5 a6 a7 a4,col m0 m1 m2 m3 a6 a7 a4 a5,col m0 m1 m2 m3 a7 a4 a5 a6,col m0 m1 m2 m3 a8 a9 a10 a11,col m0 m1 m2 m3 a9 a10 a11 a8,col m0 m1 m2 m3 a10 a11 a8 a9,col m0 m1 m2 m3 a11 a8 a9 a10,col m0 m1 m2 m3 a12 a13 a14 a15,col m0 m1 m2 m3 a13 a14 a15 a12,col m0 m1 m2 m3 a14 a15 a12 a13,col m0 m1 m2 m3 a15 a12 a13 a14]:=by kernel_rfl
theorem zero_xor8 (a:UInt8):0 ^^^ a = a:=UInt8.zero_xor
set_option maxRecDepth 1000000 in
theorem nat_ab0:(List.range 256).all (fun i=>Nat.beq (times (times (UInt8.ofNat i) 2) 14 ^^^ times (times (UInt8.ofNat i) 1) 11 ^^^ times (times (UInt8.ofNat i) 1) 13 ^^^ times (times (UInt8.ofNat i) 3) 9).toNat i) = true:=by kernel_rfl
theorem fold_ab0 (x:UInt8):times (times x 2) 14 ^^^ times (times x 1) 11 ^^^ times (times x 1) 13 ^^^ times (times x 3) 9 = x:=by
 have:=Nat.eq_of_beq_eq_true (List.all_eq_true.1 nat_ab0 x.toNat (List.mem_range.2 x.toNat_lt))
 rw [UInt8.ofNat_toNat] at this
 exact UInt8.toNat_inj.1 this
set_option maxRecDepth 1000000 in
theorem nat_ab1:(List.range 256).all (fun i=>Nat.beq (times (times (UInt8.ofNat i) 3) 14 ^^^ times (times (UInt8.ofNat i) 2) 11 ^^^ times (times (UInt8.ofNat i) 1) 13 ^^^ times (times (UInt8.ofNat i) 1) 9).toNat 0) = true:=by kernel_rfl
theorem fold_ab1 (x:UInt8):times (times x 3) 14 ^^^ times (times x 2) 11 ^^^ times (times x 1) 13 ^^^ times (times x 1) 9 = 0:=by
 have:=Nat.eq_of_beq_eq_true (List.all_eq_true.1 nat_ab1 x.toNat (List.mem_range.2 x.toNat_lt))
 rw [UInt8.ofNat_toNat] at this
 exact UInt8.toNat_inj.1 this
set_option maxRecDepth 1000000 in
theorem nat_ab2:(List.range 256).all (fun i=>Nat.beq (times (times (UInt8.ofNat i) 1) 14 ^^^ times (times (UInt8.ofNat i) 3) 11 ^^^ times (times (UInt8.ofNat i) 2) 13 ^^^ times (times (UInt8.ofNat i) 1) 9).toNat 0) = true:=by kernel_rfl
theorem fold_ab2 (x:UInt8):times (times x 1) 14 ^^^ times (times x 3) 11 ^^^ times (times x 2) 13 ^^^ times (times x 1) 9 = 0:=by
 have:=Nat.eq_of_beq_eq_true (List.all_eq_true.1 nat_ab2 x.toNat (List.mem_range.2 x.toNat_lt))
 rw [UInt8.ofNat_toNat] at this
 exact UInt8.toNat_inj.1 this
set_option maxRecDepth 1000000 in
theorem nat_ab3:(List.range 256).all (fun i=>Nat.beq (times (times (UInt8.ofNat i) 1) 14 ^^^ times (times (UInt8.ofNat i) 1) 11 ^^^ times (times (UInt8.ofNat i) 3) 13 ^^^ times (times (UInt8.ofNat i) 2) 9).toNat 0) = true:=by kernel_rfl
theorem fold_ab3 (x:UInt8):times (times x 1) 14 ^^^ times (times x 1) 11 ^^^ times (times x 3) 13 ^^^ times (times x 2) 9 = 0:=by
 have:=Nat.eq_of_beq_eq_true (List.all_eq_true.1 nat_ab3 x.toNat (List.mem_range.2 x.toNat_lt))
 rw [UInt8.ofNat_toNat] at this
 exact UInt8.toNat_inj.1 this
theorem col_ab (x0 x1 x2 x3:UInt8):col 14 11 13 9 (col 2 3 1 1 x0 x1 x2 x3) (col 2 3 1 1 x1 x2 x3 x0) (col 2 3 1 1 x2 x3 x0 x1) (col 2 3 1 1 x3 x0 x1 x2) = x0:=by
 unfold col
 simp only [zero_xor8,times_xor]
 have e:∀ a b c d e f g h i j k l m n o p:UInt8,a ^^^ b ^^^ c ^^^ d ^^^ (e ^^^ f ^^^ g ^^^ h) ^^^ (i ^^^ j ^^^ k ^^^ l) ^^^ (m ^^^ n ^^^ o ^^^ p) =
   (a ^^^ h ^^^ k ^^^ n) ^^^ (b ^^^ e ^^^ l ^^^ o) ^^^ (c ^^^ f ^^^ i ^^^ p) ^^^ (d ^^^ g ^^^ j ^^^ m):=by intros;ac_rfl
 rw [e,fold_ab0,fold_ab1,fold_ab2,fold_ab3,UInt8.xor_zero,UInt8.xor_zero,UInt8.xor_zero]
theorem mix_ab {b:List UInt8} (h:b.length = 16):mixI (mixI b [2,3,1,1] 16) [14,11,13,9] 16 = b:=by
 obtain ⟨a0,a1,a2,a3,a4,a5,a6,a7,a8,a9,a10,a11,a12,a13,a14,a15,rfl⟩:=len16 h
 rw [mix_list,mix_list]
 simp only [col_ab]
end Go.Proofs.Ytimbdhpchlakfaa
namespace Go.Proofs.Ytimbdhpchlakfaa
open Go Go.Sx
theorem un_round {ks b:List UInt8} (hk:ks.length = 240) (hb:b.length = 16) {r:Nat} (hr:r ≤ 14):unsub tabB (unmix ks r (roundF tabS ks r b)) 16 = b:=by
 have hs:=subT_length tabS b 16
 have hkr:=keyAt_length hk hr
 unfold unmix roundF
 split
 ·rw [add_add hkr (mixI_length _ _ _),mix_ab hs,unsub_sub hb]
 ·rw [add_add hkr hs,unsub_sub hb]
theorem unGo_lock {ks b:List UInt8} (hk:ks.length = 240) (hb:b.length = 16):∀ n,n ≤ 14→unGo tabB ks (lockGo tabS ks b 14) n = lockGo tabS ks b (14 - n)
 | 0,_=>rfl
 | n + 1,h=>by
  have ih:=unGo_lock hk hb n (by omega)
  simp only [unGo]
  rw [ih,show 14 - n = (14 - (n + 1)) + 1 by omega]
  exact un_round hk (lockGo_length _ _ hb _) (by omega)
theorem unlock_lock {ks b:List UInt8} (hk:ks.length = 240) (hb:b.length = 16):unlockF tabB ks (lockGo tabS ks b 14) = b:=by
 unfold unlockF
 rw [unGo_lock hk hb 14 (Nat.le_refl _)]
 exact add_add (keyAt_length hk (Nat.zero_le _)) hb
theorem unlockF_length {ks b:List UInt8} (hb:b.length = 16):(unlockF tabB ks b).length = 16:=by
 unfold unlockF;rw [addTo_length,unGo_length _ _ hb]
end Go.Proofs.Ytimbdhpchlakfaa
namespace Go.Proofs.Ytimbdhpchlakfaa
open Go Go.Sx
def fillOf (text:List UInt8):UInt8:=UInt8.ofNat (16 - text.length % 16)
def padAt (text:List UInt8) (k:Nat):UInt8:=if k < text.length then text.getD k 0 else fillOf text
def xKc (last text:List UInt8) (i:Nat):Nat→List UInt8
 | 0=>last
 | j + 1=>(xKc last text i j).set j ((xKc last text i j).getD j 0 ^^^ padAt text (16 * i + j))
@[irreducible] def encK (key b:List UInt8):List UInt8:=lockGo tabS (keysOf key) b 14
theorem encK_length (key:List UInt8) {b:List UInt8} (hb:b.length = 16):(encK key b).length = 16:=by unfold encK;exact lockGo_length tabS (keysOf key) hb 14
def cbcGo (key bg text:List UInt8):Nat→List UInt8 × List UInt8
 | 0=>(bg,[])
 | i + 1=>let s:=cbcGo key bg text i
  let l:=encK key (xKc s.1 text i 16)
  (l,s.2 ++ l)
def cbcLock (key bg text:List UInt8):List UInt8:=(cbcGo key bg text (text.length / 16 + 1)).2
theorem xKc_length (last text:List UInt8) (i:Nat):∀ j,(xKc last text i j).length = last.length
 | 0=>rfl
 | j + 1=>by simp only [xKc,List.length_set,xKc_length last text i j]
theorem cbcGo_length1 (key:List UInt8) {bg:List UInt8} (hb:bg.length = 16) (text:List UInt8):∀ i,(cbcGo key bg text i).1.length = 16
 | 0=>hb
 | i + 1=>by
  simp only [cbcGo]
  exact encK_length key (by rw [xKc_length];exact cbcGo_length1 key hb text i)
theorem cbcGo_length2 (key:List UInt8) {bg:List UInt8} (hb:bg.length = 16) (text:List UInt8):∀ i,(cbcGo key bg text i).2.length = 16 * i
 | 0=>rfl
 | i + 1=>by
  have h1:=cbcGo_length2 key hb text i
  have h2:=cbcGo_length1 key hb text (i + 1)
  have e:(cbcGo key bg text (i + 1)).2 = (cbcGo key bg text i).2 ++ (cbcGo key bg text (i + 1)).1:=rfl
  rw [e,List.length_append,h1,h2]
  omega
theorem lockE (key b:List UInt8) (hk:key.length = 32) (hb:b.length = 16) :
  Sx.Fn Γ.P 38 [.ptr 1000 0 none,.a8 b] [(1000,cipherE tabS tabB (keysOf key))] (fun v M=>v = .a8 (encK key b)∧M = [(1000,cipherE tabS tabB (keysOf key))]):=by
 unfold encK
 exact fn38 tabS tabB (keysOf key) b tabS_length (backGo_length 256) (keysOf_length hk) hb
set_option maxRecDepth 100000 in
theorem fn21 (key bg text:List UInt8) (n:Nat) (hk:key.length = 32) (hb:bg.length = 16) (hn:text.length = n) (hmax:n ≤ 4096) :
  Sx.Fn Γ.P 21 [.a8 key,.a8 bg,.slx 1000 0 0 n] [(1000,.mem false 0 [(n,.a8 text)])] (fun v M=>∃ c,n / 16 * 16 + 16 ≤ c∧v = .sl 1001 0 0 (n / 16 * 16 + 16) c∧M = [(1000,.mem false 0 [(n,.a8 text)]),(1001,.mem true (c - (n / 16 * 16 + 16)) [(n / 16 * 16 + 16,.a8 (cbcLock key bg text))])]):=by
 have hfill:fillOf text = UInt8.ofInt (16 - (n:Int) % 16):=by
  unfold fillOf
  rw [show (16 - (n:Int) % 16) = ((16 - text.length % 16:Nat):Int) by omega,ofInt8]
 refine fn_of (Γ:=Γ) (fn:=Try.f21) rfl rfl rfl rfl ?_
 repeat (refine sd ?_)
 refine Draw.intro [[],[0],[],[],[0,1,3],[0,1,2,3,4]] [0,2,3,1,4,5] (by kernel_rfl) ?_
 repeat (refine sd ?_)
 refine Call.intro (fn37 key hk) [(1001,(1001,0,none))] rfl fc rfl trivial rfl ?_
 rintro v M' ⟨rfl,rfl⟩
 refine Grow.intro [(1001,cipherO tabS tabB (keysOf key))] rfl rfl ?_
 repeat (refine sd ?_)
 refine Loop.intro (σ:=Nat × Nat) (fun s=>s.1 ≤ n / 16 + 1∧16 * s.1 ≤ s.2)
  (fun s=>([(2,.slx 1000 0 0 n),(7,.ptr 1001 0 none),(8,.ptr 8 0 none),(9,.sl 1005 0 0 (16 * s.1) s.2),(10,.u8 (fillOf text)),(11,.i .i64 (16 * s.1:Nat))],
   [(1000,.mem false 0 [(n,.a8 text)]),(8,.mem true 0 [(16,.a8 (cbcGo key bg text s.1).1)]),(1001,cipherO tabS tabB (keysOf key)),(1005,.mem true (s.2 - 16 * s.1) [(16 * s.1,.a8 (cbcGo key bg text s.1).2)])])) (fun s=>n / 16 + 1 - s.1) (0,n / 16 * 16 + 16) ?_ ?_ ?_
 ·exact ⟨Nat.zero_le _,Nat.zero_le _⟩
 ·refine Le.intro [(1005,(22,0,none))] rfl ?_ rfl ?_ rfl
  ·exact fc
  ·exact fc
 ·rintro ⟨i,c⟩ ⟨hi,hc⟩
  simp only at hi hc ⊢
  have hl1:=cbcGo_length1 key hb text i
  have hl2:=cbcGo_length2 key hb text i
  refine Branch.intro (fun h=>?_) (fun h=>?_)
  ·repeat (refine sd ?_)
   refine Loop.intro (σ:=Nat) (fun j=>j ≤ 16)
    (fun j=>([(7,.ptr 1001 0 none),(8,.ptr 8 0 none),(9,.sl 1005 0 0 (16 * i) c),(10,.u8 (fillOf text)),(11,.i .i64 (16 * i:Nat)),(2,.slx 1000 0 0 n),(12,.slx 1000 0 (16 * i) (min 16 (n - 16 * i))),(44,.i .i64 j)],
     [(1000,.mem false 0 [(n,.a8 text)]),(8,.mem true 0 [(16,.a8 (xKc (cbcGo key bg text i).1 text i j))]),(1001,cipherO tabS tabB (keysOf key)),(1005,.mem true (c - 16 * i) [(16 * i,.a8 (cbcGo key bg text i).2)])])) (fun j=>16 - j) 0 (Nat.zero_le _) ?_ ?_
   ·have e1:min 16 (n - 16 * i) = (if (n:Int) < ↑(16 * i) + 16 then (n:Int) else ↑(16 * i) + 16).toNat - (↑(16 * i):Int).toNat:=by split <;> omega
    exact Le.intro [] rfl fc rfl fc rfl
   ·rintro j hj
    simp only at hj ⊢
    have hxl:(xKc (cbcGo key bg text i).1 text i j).length = 16:=by rw [xKc_length,hl1]
    refine Branch.intro (fun h2=>?_) (fun h2=>?_)
    ·repeat (refine sd ?_)
     refine Branch.intro (fun h3=>?_) (fun h3=>?_)
     ·refine Draw.intro [[],[0],[0,1],[],[],[3,4],[3,4,5],[0,1,2,3,4,5,6],[0,1,2,3,4,5,6,7],[0,1,2,3,4,5,6,7,8]] [0,1,2,3,4,5,6,7,8,9] (by kernel_rfl) ?_
      repeat (refine sd ?_)
      have e:xKc (cbcGo key bg text i).1 text i (j + 1) = (xKc (cbcGo key bg text i).1 text i j).set j ((xKc (cbcGo key bg text i).1 text i j).getD j 0 ^^^ text.getD (addQ (16 * i) j) 0):=by
       simp only [xKc,padAt,addQ_eq];rw [if_pos (by omega)]
      exact ⟨j + 1,by omega,by omega,Le.intro [] rfl fc rfl fc rfl⟩
     ·repeat (refine sd ?_)
      have e:xKc (cbcGo key bg text i).1 text i (j + 1) = (xKc (cbcGo key bg text i).1 text i j).set j ((xKc (cbcGo key bg text i).1 text i j).getD j 0 ^^^ fillOf text):=by
       simp only [xKc,padAt];rw [if_neg (by omega)]
      exact ⟨j + 1,by omega,by omega,Le.intro [] rfl fc rfl fc rfl⟩
    ·obtain rfl:j = 16:=by omega
     repeat (refine sd ?_)
     have hel:=encK_length key hxl
     have hkl:=keysOf_length hk
     refine Call.intro (lockE key _ hk hxl) [(1000,(1001,0,none))] rfl fc rfl fc rfl ?_
     rintro v M' ⟨rfl,rfl⟩
     repeat (refine sd ?_)
     refine fun c' hc'=>?_
     repeat (refine sd ?_)
     have hc2:16 * (i + 1) ≤ c':=hc'
     refine ⟨(i + 1,c'),⟨by simp only;omega,hc2⟩,by simp only;omega,Le.intro [(1005,(72,0,none))] rfl ?_ rfl ?_ rfl⟩
     ·exact fc
     ·have e1:(cbcGo key bg text (i + 1)).1 = encK key (xKc (cbcGo key bg text i).1 text i 16):=rfl
      have e2:(cbcGo key bg text (i + 1)).2 = dropQ 0 (cbcGo key bg text i).2 ++ List.take 16 (List.drop ((none:Option Nat).getD 0) (encK key (xKc (cbcGo key bg text i).1 text i 16))):=by
       rw [Option.getD_none,List.drop_zero,List.take_of_length_le (by rw [hel];exact Nat.le_refl _)];rfl
      exact fc
  ·obtain rfl:i = n / 16 + 1:=by omega
   refine Ret.intro (.sl 1001 0 0 (n / 16 * 16 + 16) c) [(1000,.mem false 0 [(n,.a8 text)]),(1001,.mem true (c - (n / 16 * 16 + 16)) [(n / 16 * 16 + 16,.a8 (cbcLock key bg text))])] [(1001,(1005,0,none))] rfl ?_ ⟨c,by omega,rfl,rfl⟩ rfl ?_ rfl ?_ rfl
   ·exact fc
   ·exact fc
   ·have e:cbcLock key bg text = (cbcGo key bg text (n / 16 + 1)).2:=by unfold cbcLock;rw [hn]
    exact fc
end Go.Proofs.Ytimbdhpchlakfaa
