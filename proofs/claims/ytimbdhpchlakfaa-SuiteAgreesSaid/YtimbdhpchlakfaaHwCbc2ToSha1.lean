/- What the functions of the program compute. No condition. -/
import Derived.Test.YtimbdhpchlakfaaHwAes11ToCbc1
import Derived.Test.YtimbdhpchlakfaaHwTabToTab
set_option linter.unusedSimpArgs false
set_option linter.unusedVariables false
namespace Go.Proofs.Ytimbdhpchlakfaa
open Go Go.Sx
@[irreducible] def decK (key b:List UInt8):List UInt8:=unlockF tabB (keysOf key) b
theorem decK_length (key:List UInt8) {b:List UInt8} (hb:b.length = 16):(decK key b).length = 16:=by unfold decK;exact unlockF_length hb
theorem unlockE (key b:List UInt8) (hk:key.length = 32) (hb:b.length = 16) :
  Sx.Fn Γ.P 43 [.ptr 1000 0 none,.a8 b] [(1000,cipherE tabS tabB (keysOf key))] (fun v M=>v = .a8 (decK key b)∧M = [(1000,cipherE tabS tabB (keysOf key))]):=by
 unfold decK
 exact fn43 tabS tabB (keysOf key) b (keysOf_length hk) hb
def blkOf (b:List UInt8) (i:Nat):List UInt8:=(b.drop (16 * i)).take 16
def outJ (out x bg:List UInt8):Nat→List UInt8
 | 0=>out
 | j + 1=>outJ out x bg j ++ [x.getD j 0 ^^^ bg.getD j 0]
def unC (key bg b:List UInt8):Nat→List UInt8 × List UInt8
 | 0=>(bg,[])
 | i + 1=>let s:=unC key bg b i
  (blkOf b i,outJ s.2 (decK key (blkOf b i)) s.1 16)
def unOut (key bg b:List UInt8):List UInt8:=(unC key bg b (b.length / 16)).2
def unFill (key bg b:List UInt8):Nat:=((unOut key bg b).getD (b.length - 1) 0).toNat
def cbcUnlock (key bg b:List UInt8):Option (List UInt8):=
 if b.length = 0 ∨ ¬ b.length % 16 = 0 then none
 else if unFill key bg b < 1 ∨ 16 < unFill key bg b then none
 else if ∀ k,k < unFill key bg b→((unOut key bg b).getD (b.length - unFill key bg b + k) 0).toNat = unFill key bg b then some ((unOut key bg b).take (b.length - unFill key bg b))
 else none
theorem outJ_length (out x bg:List UInt8):∀ j,(outJ out x bg j).length = out.length + j
 | 0=>rfl
 | j + 1=>by simp only [outJ,List.length_append,outJ_length out x bg j,List.length_cons,List.length_nil];omega
theorem blkOf_length {b:List UInt8} {i:Nat} (h:16 * i + 16 ≤ b.length):(blkOf b i).length = 16:=by
 simp only [blkOf,List.length_take,List.length_drop];omega
theorem unC_length1 (key:List UInt8) {bg:List UInt8} (hb:bg.length = 16) (b:List UInt8):∀ i,16 * i ≤ b.length→(unC key bg b i).1.length = 16
 | 0,_=>hb
 | i + 1,h=>by
  simp only [unC]
  exact blkOf_length (by omega)
theorem unC_length2 (key:List UInt8) {bg:List UInt8} (hb:bg.length = 16) (b:List UInt8):∀ i,(unC key bg b i).2.length = 16 * i
 | 0=>rfl
 | i + 1=>by
  have h1:=unC_length2 key hb b i
  simp only [unC,outJ_length,h1]
  omega
theorem blk_eq {b:List UInt8} {i:Nat} (h:16 * i + 16 ≤ b.length):blkOf b i =
  List.take ((none:Option Nat).getD 0) (List.replicate 16 0) ++
   List.take (min (List.take ((((16 * i:Nat):Int) + 16).toNat - ((16 * i:Nat):Int).toNat) (List.drop (((16 * i:Nat):Int).toNat * 1 + 0) b)).length 16)
    (List.take ((((16 * i:Nat):Int) + 16).toNat - ((16 * i:Nat):Int).toNat) (List.drop (((16 * i:Nat):Int).toNat * 1 + 0) b)) ++
   List.drop ((none:Option Nat).getD 0 + min (List.take ((((16 * i:Nat):Int) + 16).toNat - ((16 * i:Nat):Int).toNat) (List.drop (((16 * i:Nat):Int).toNat * 1 + 0) b)).length 16) (List.replicate 16 0):=by
 rw [show (((16 * i:Nat):Int) + 16).toNat - ((16 * i:Nat):Int).toNat = 16 by omega,show ((16 * i:Nat):Int).toNat * 1 + 0 = 16 * i by omega]
 have hl:=blkOf_length h
 show blkOf b i = _ ++ List.take (min (blkOf b i).length 16) (blkOf b i) ++ List.drop (_ + min (blkOf b i).length 16) _
 rw [hl,List.take_of_length_le (l:=blkOf b i) (by omega)]
 simp
def unPost (key bg b:List UInt8) (n:Nat) (v:SV) (M:Mm):Prop:=
 (cbcUnlock key bg b = none∧v = .tup [.nsl,.ff]∧M = [(1000,.mem false 0 [(n,.a8 b)])]) ∨
 ∃ m s sp,cbcUnlock key bg b = some s∧s.length = m∧(unOut key bg b).take m = s∧m ≤ n∧(unOut key bg b).length = n∧v = .tup [.sl 1001 0 0 m m,.tt]∧M = [(1000,.mem false 0 [(n,.a8 b)]),(1001,.mem true sp [(n,.a8 (unOut key bg b))])]
set_option maxRecDepth 100000 in
theorem fn24 (key bg b:List UInt8) (n:Nat) (hk:key.length = 32) (hb:bg.length = 16) (hn:b.length = n) (hmax:n ≤ 8192) :
  Sx.Fn Γ.P 24 [.a8 key,.a8 bg,.slx 1000 0 0 n] [(1000,.mem false 0 [(n,.a8 b)])] (unPost key bg b n):=by
 have bad:cbcUnlock key bg b = none→unPost key bg b n (.tup [.nsl,.ff]) [(1000,.mem false 0 [(n,.a8 b)])]:=fun h=>Or.inl ⟨h,rfl,rfl⟩
 refine fn_of (Γ:=Γ) (fn:=Try.f24) rfl rfl rfl rfl ?_
 repeat (refine sd ?_)
 refine Branch.intro (fun h0=>?_) (fun h0=>?_)
 ·refine Ret.intro (.tup [.nsl,.ff]) [(1000,.mem false 0 [(n,.a8 b)])] [] rfl trivial (bad ?_) rfl fc rfl fc rfl
  unfold cbcUnlock;rw [if_pos (by omega)]
 repeat (refine sd ?_)
 refine Branch.intro (fun h1=>?_) (fun h1=>?_)
 ·refine Ret.intro (.tup [.nsl,.ff]) [(1000,.mem false 0 [(n,.a8 b)])] [] rfl trivial (bad ?_) rfl fc rfl fc rfl
  unfold cbcUnlock;rw [if_pos (by omega)]
 repeat (refine sd ?_)
 refine Call.intro (fn37 key hk) [(1001,(1001,0,none))] rfl fc rfl trivial rfl ?_
 rintro v M' ⟨rfl,rfl⟩
 repeat (refine sd ?_)
 have hkl:=keysOf_length hk
 refine Loop.intro (σ:=Nat × Nat) (fun s=>16 * s.1 ≤ n∧16 * s.1 ≤ s.2)
  (fun s=>([(2,.slx 1000 0 0 n),(4,.ptr 4 0 none),(8,.ptr 1001 0 none),(9,.sl 1005 0 0 (16 * s.1) s.2),(10,.i .i64 (16 * s.1:Nat))],
   [(1000,.mem false 0 [(n,.a8 b)]),(4,.mem true 0 [(16,.a8 (unC key bg b s.1).1)]),(1001,cipherO tabS tabB (keysOf key)),(1005,.mem true (s.2 - 16 * s.1) [(16 * s.1,.a8 (unC key bg b s.1).2)])])) (fun s=>n - 16 * s.1) (0,n) ?_ ?_ ?_
 ·exact ⟨Nat.zero_le _,Nat.zero_le _⟩
 ·exact Le.intro [(1005,(31,0,none))] rfl fc rfl fc rfl
 ·rintro ⟨i,c⟩ ⟨hi,hc⟩
  simp only at hi hc ⊢
  have hl1:=unC_length1 key hb b i (by omega)
  have hl2:=unC_length2 key hb b i
  refine Branch.intro (fun h=>?_) (fun h=>?_)
  ·repeat (refine sd ?_)
   refine Draw.intro [[],[],[],[],[3],[],[5],[1,2,3,4,5,6],[0,1,2,3,4,5,6,7]] [0,1,2,3,4,5,6,7,8] (by kernel_rfl) ?_
   repeat (refine sd ?_)
   have h16:16 * i + 16 ≤ b.length:=by omega
   have hbk:=blkOf_length h16
   have hbe:=blk_eq h16
   refine Call.intro (unlockE key (blkOf b i) hk hbk) [(1000,(1001,0,none))] rfl fc rfl fc rfl ?_
   rintro v M' ⟨rfl,rfl⟩
   have hdl:=decK_length key hbk
   repeat (refine sd ?_)
   refine Loop.intro (σ:=Nat × Nat) (fun s=>s.1 ≤ 16∧16 * i + s.1 ≤ s.2)
    (fun s=>([(2,.slx 1000 0 0 n),(4,.ptr 4 0 none),(8,.ptr 1001 0 none),(10,.i .i64 (16 * i:Nat)),(11,.ptr 11 0 none),(12,.ptr 12 0 none),(50,.i .i64 s.1),(9,.sl 1006 0 0 (16 * i + s.1) s.2)],
     [(1000,.mem false 0 [(n,.a8 b)]),(4,.mem true 0 [(16,.a8 (unC key bg b i).1)]),(11,.mem true 0 [(16,.a8 (blkOf b i))]),(12,.mem true 0 [(16,.a8 (decK key (blkOf b i)))]),(1001,cipherO tabS tabB (keysOf key)),
      (1006,.mem true (s.2 - (16 * i + s.1)) [(16 * i + s.1,.a8 (outJ (unC key bg b i).2 (decK key (blkOf b i)) (unC key bg b i).1 s.1))])])) (fun s=>16 - s.1) (0,c) ?_ ?_ ?_
   ·exact ⟨Nat.zero_le _,hc⟩
   ·have e0:outJ (unC key bg b i).2 (decK key (blkOf b i)) (unC key bg b i).1 0 = (unC key bg b i).2:=rfl
    exact Le.intro [(1006,(1005,0,none))] rfl fc rfl fc rfl
   ·rintro ⟨j,c1⟩ ⟨hj,hc1⟩
    simp only at hj hc1 ⊢
    have hol:=outJ_length (unC key bg b i).2 (decK key (blkOf b i)) (unC key bg b i).1 j
    refine Branch.intro (fun h2=>?_) (fun h2=>?_)
    ·repeat (refine sd ?_)
     refine Draw.intro [[],[],[1],[1,2],[],[4],[4,5],[1,2,3,4,5,6],[1,2,3,4,5,6,7],[0,1,2,3,4,5,6,7,8],[0,1,2,3,4,5,6,7,8,9]] [0,1,2,3,4,5,6,7,8,9,10] (by kernel_rfl) ?_
     repeat (refine sd ?_)
     refine fun c' hc'=>?_
     repeat (refine sd ?_)
     have hc2:16 * i + (j + 1) ≤ c':=hc'
     refine ⟨(j + 1,c'),⟨by simp only;omega,hc2⟩,by simp only;omega,Le.intro [(1006,(62,0,none))] rfl fc rfl ?_ rfl⟩
     have e:outJ (unC key bg b i).2 (decK key (blkOf b i)) (unC key bg b i).1 (j + 1) = dropQ 0 (outJ (unC key bg b i).2 (decK key (blkOf b i)) (unC key bg b i).1 j) ++ List.take 1 (List.drop 0 (((decK key (blkOf b i)).getD j 0 ^^^ (unC key bg b i).1.getD j 0) :: List.replicate 0 0)):=rfl
     exact fc
    ·obtain rfl:j = 16:=by omega
     repeat (refine sd ?_)
     have hc2:16 * (i + 1) ≤ c1:=by omega
     refine ⟨(i + 1,c1),⟨by simp only;omega,hc2⟩,by simp only;omega,Le.intro [(1005,(1006,0,none))] rfl fc rfl ?_ rfl⟩
     have e1:(unC key bg b (i + 1)).1 = blkOf b i:=rfl
     have e2:(unC key bg b (i + 1)).2 = outJ (unC key bg b i).2 (decK key (blkOf b i)) (unC key bg b i).1 16:=rfl
     exact fc
  ·have hin:n = 16 * i:=by omega
   have hout:unOut key bg b = (unC key bg b i).2:=by unfold unOut;rw [show b.length / 16 = i by omega]
   have heF:((unFill key bg b:Nat):Int) = (((unC key bg b i).2.getD (0 + (((16 * i:Nat):Int) - 1).toNat) 0).toNat:Int):=by
    unfold unFill;rw [hout,show b.length - 1 = 0 + (((16 * i:Nat):Int) - 1).toNat by omega]
   have hc0:¬ (b.length = 0 ∨ ¬ b.length % 16 = 0):=by omega
   have no2:unFill key bg b < 1 ∨ 16 < unFill key bg b→cbcUnlock key bg b = none:=fun h=>by
    unfold cbcUnlock;rw [if_neg hc0,if_pos h]
   repeat (refine sd ?_)
   refine Branch.intro (fun hf1=>?_) (fun hf1=>?_)
   ·have hf2:((unFill key bg b:Nat):Int) < 1:=by rw [heF,Nat.zero_add];exact hf1
    refine Ret.intro (.tup [.nsl,.ff]) [(1000,.mem false 0 [(n,.a8 b)])] [] rfl trivial (bad (no2 (by omega))) rfl fc rfl fc rfl
   have hf2:¬ ((unFill key bg b:Nat):Int) < 1:=by rw [heF,Nat.zero_add];exact hf1
   refine Branch.intro (fun hg1=>?_) (fun hg1=>?_)
   ·have hg2:16 < ((unFill key bg b:Nat):Int):=by rw [heF,Nat.zero_add];exact hg1
    refine Ret.intro (.tup [.nsl,.ff]) [(1000,.mem false 0 [(n,.a8 b)])] [] rfl trivial (bad (no2 (by omega))) rfl fc rfl fc rfl
   have hg2:¬ 16 < ((unFill key bg b:Nat):Int):=by rw [heF,Nat.zero_add];exact hg1
   have hc1:¬ (unFill key bg b < 1 ∨ 16 < unFill key bg b):=by omega
   have hi1:1 ≤ i:=by omega
   repeat (refine sd ?_)
   refine Loop.intro (σ:=Nat) (fun k=>k ≤ unFill key bg b∧∀ k',k' < k→((unOut key bg b).getD (n - unFill key bg b + k') 0).toNat = unFill key bg b)
    (fun k=>([(9,.sl 1005 0 0 n c),(14,.i .i64 (unFill key bg b:Nat)),(83,.sl 1005 0 (n - unFill key bg b) (unFill key bg b) (c - (n - unFill key bg b))),(84,.i .i64 (unFill key bg b:Nat)),(85,.i .i64 k)],
     [(1000,.mem false 0 [(n,.a8 b)]),(1005,.mem true (c - n) [(n,.a8 (unOut key bg b))])])) (fun k=>unFill key bg b - k) 0 ?_ ?_ ?_
   ·exact ⟨Nat.zero_le _,fun _ h=>absurd h (Nat.not_lt_zero _)⟩
   ·exact Le.intro [] rfl fc rfl fc rfl
   ·rintro k ⟨hk1,hk2⟩
    have hol:(unOut key bg b).length = n:=by rw [hout,hl2];omega
    refine Branch.intro (fun h2=>?_) (fun h2=>?_)
    ·repeat (refine sd ?_)
     refine Branch.intro (fun h3=>?_) (fun h3=>?_)
     ·have h3':¬ (((unOut key bg b).getD (n - unFill key bg b + k) 0).toNat:Int) = (unFill key bg b:Int):=by
       rw [← addQ_eq];exact h3
      refine Ret.intro (.tup [.nsl,.ff]) [(1000,.mem false 0 [(n,.a8 b)])] [] rfl trivial (bad ?_) rfl fc rfl fc rfl
      unfold cbcUnlock
      rw [if_neg hc0,if_neg hc1,if_neg]
      intro hall
      have:=hall k (by omega)
      rw [hn] at this
      exact h3' (by omega)
     ·have h3':¬ ¬ (((unOut key bg b).getD (n - unFill key bg b + k) 0).toNat:Int) = (unFill key bg b:Int):=by
       rw [← addQ_eq];exact h3
      repeat (refine sd ?_)
      refine ⟨k + 1,⟨by omega,fun k' hk'=>?_⟩,by omega,Le.intro [] rfl fc rfl fc rfl⟩
      by_cases he:k' = k
      ·subst he;omega
      ·exact hk2 k' (by omega)
    ·have hkF:k = unFill key bg b:=by omega
     subst hkF
     repeat (refine sd ?_)
     refine Ret.intro (.tup [.sl 1001 0 0 (n - unFill key bg b) (n - unFill key bg b),.tt]) [(1000,.mem false 0 [(n,.a8 b)]),(1001,.mem true (c - n) [(n,.a8 (unOut key bg b))])] [(1001,(1005,0,none))] rfl trivial (Or.inr ⟨n - unFill key bg b,(unOut key bg b).take (n - unFill key bg b),c - n,?_,by rw [List.length_take,hol];omega,rfl,by omega,hol,rfl,rfl⟩) rfl fc rfl fc rfl
     unfold cbcUnlock
     rw [if_neg hc0,if_neg hc1,if_pos,hn]
     rw [hn]
     exact hk2
end Go.Proofs.Ytimbdhpchlakfaa
namespace Go.Proofs.Ytimbdhpchlakfaa
open Go Go.Sx
theorem decK_encK {key b:List UInt8} (hk:key.length = 32) (hb:b.length = 16):decK key (encK key b) = b:=by
 unfold decK encK;exact unlock_lock (keysOf_length hk) hb
def padList (text:List UInt8) (m:Nat):List UInt8:=(List.range m).map (padAt text)
theorem padList_succ (text:List UInt8) (m:Nat):padList text (m + 1) = padList text m ++ [padAt text m]:=by simp [padList,List.range_succ]
theorem padList_get (text:List UInt8) {m k:Nat} (h:k < m):(padList text m).getD k 0 = padAt text k:=by
 simp [padList,List.getD_eq_getElem?_getD,List.getElem?_range h]
theorem xKc_get {last:List UInt8} (hl:last.length = 16) (text:List UInt8) (i:Nat):∀ (m j:Nat),j < 16→m ≤ 16 →
  (xKc last text i m).getD j 0 = if j < m then last.getD j 0 ^^^ padAt text (16 * i + j) else last.getD j 0
 | 0,j,_,_=>by rw [if_neg (by omega)];rfl
 | m + 1,j,hj,hm=>by
  have ih:=xKc_get hl text i m
  have hlen:(xKc last text i m).length = 16:=by rw [xKc_length,hl]
  simp only [xKc]
  rw [List.getD_eq_getElem?_getD,List.getElem?_set]
  by_cases h:m = j
  ·subst h
   rw [if_pos rfl,if_pos (by omega),if_pos (by omega),Option.getD_some,ih m hj (by omega),if_neg (by omega)]
  ·rw [if_neg h,← List.getD_eq_getElem?_getD,ih j hj (by omega)]
   by_cases h2:j < m
   ·rw [if_pos h2,if_pos (by omega)]
   ·rw [if_neg h2,if_neg (by omega)]
theorem xor_back (a b:UInt8):a ^^^ b ^^^ a = b:=by
 rw [show a ^^^ b ^^^ a = b ^^^ (a ^^^ a) by ac_rfl,UInt8.xor_self,UInt8.xor_zero]
theorem outJ_pad {last:List UInt8} (hl:last.length = 16) (text:List UInt8) (i:Nat):∀ j,j ≤ 16→outJ (padList text (16 * i)) (xKc last text i 16) last j = padList text (16 * i + j)
 | 0,_=>rfl
 | j + 1,h=>by
  simp only [outJ]
  rw [outJ_pad hl text i j (by omega),xKc_get hl text i 16 j (by omega) (Nat.le_refl _),if_pos (by omega),xor_back,← padList_succ]
  rfl
theorem cbcGo_grow (key bg text:List UInt8):∀ (d k:Nat),∃ r,(cbcGo key bg text (k + d)).2 = (cbcGo key bg text k).2 ++ r
 | 0,k=>⟨[],by simp⟩
 | d + 1,k=>by
  obtain ⟨r,hr⟩:=cbcGo_grow key bg text d k
  refine ⟨r ++ (cbcGo key bg text (k + d + 1)).1,?_⟩
  have e:(cbcGo key bg text (k + (d + 1))).2 = (cbcGo key bg text (k + d)).2 ++ (cbcGo key bg text (k + d + 1)).1:=rfl
  rw [e,hr,List.append_assoc]
theorem blkOf_lock {key bg:List UInt8} (hb:bg.length = 16) (text:List UInt8) {i L:Nat} (h:i < L):blkOf (cbcGo key bg text L).2 i = (cbcGo key bg text (i + 1)).1:=by
 obtain ⟨r,hr⟩:=cbcGo_grow key bg text (L - (i + 1)) (i + 1)
 rw [show i + 1 + (L - (i + 1)) = L by omega] at hr
 have e:(cbcGo key bg text (i + 1)).2 = (cbcGo key bg text i).2 ++ (cbcGo key bg text (i + 1)).1:=rfl
 have h1:=cbcGo_length1 key hb text (i + 1)
 have h2:=cbcGo_length2 key hb text i
 unfold blkOf
 rw [hr,e,List.append_assoc,← h2,List.drop_left,← h1,List.take_left]
theorem unC_lock {key bg:List UInt8} (hk:key.length = 32) (hb:bg.length = 16) (text:List UInt8) {L:Nat}:∀ i,i ≤ L →
  unC key bg (cbcGo key bg text L).2 i = ((cbcGo key bg text i).1,padList text (16 * i))
 | 0,_=>rfl
 | i + 1,h=>by
  have ih:=unC_lock hk hb text (L:=L) i (by omega)
  have hl:=cbcGo_length1 key hb text i
  simp only [unC,ih]
  rw [blkOf_lock hb text (by omega)]
  have e:(cbcGo key bg text (i + 1)).1 = encK key (xKc (cbcGo key bg text i).1 text i 16):=rfl
  rw [e,decK_encK hk (by rw [xKc_length,hl]),outJ_pad hl text i 16 (Nat.le_refl _)]
  rfl
theorem cbcLock_length (key:List UInt8) {bg:List UInt8} (hb:bg.length = 16) (text:List UInt8):(cbcLock key bg text).length = 16 * (text.length / 16 + 1):=cbcGo_length2 key hb text _
theorem pad_take (text:List UInt8) {m:Nat} (h:text.length ≤ m):(padList text m).take text.length = text:=by
 apply List.ext_getElem?
 intro k
 rw [List.getElem?_take]
 by_cases hk:k < text.length
 ·rw [if_pos hk]
  simp only [padList,List.getElem?_map,List.getElem?_range (show k < m by omega),Option.map_some,padAt,if_pos hk,List.getElem?_eq_getElem hk,List.getD_eq_getElem?_getD,Option.getD_some]
 ·rw [if_neg hk,List.getElem?_eq_none (by omega)]
theorem cbc_back {key bg:List UInt8} (hk:key.length = 32) (hb:bg.length = 16) (text:List UInt8):cbcUnlock key bg (cbcLock key bg text) = some text:=by
 have hlen:=cbcLock_length key hb text
 have hout:unOut key bg (cbcLock key bg text) = padList text (16 * (text.length / 16 + 1)):=by
  unfold unOut
  rw [hlen,show 16 * (text.length / 16 + 1) / 16 = text.length / 16 + 1 by omega]
  unfold cbcLock
  rw [unC_lock hk hb text _ (Nat.le_refl _)]
 have hpad:∀ k,text.length ≤ k→(padAt text k).toNat = 16 - text.length % 16:=fun k h=>by
  unfold padAt fillOf
  rw [if_neg (by omega),UInt8.toNat_ofNat']
  omega
 have hfill:unFill key bg (cbcLock key bg text) = 16 - text.length % 16:=by
  unfold unFill
  rw [hout,hlen,padList_get _ (by omega),hpad _ (by omega)]
 unfold cbcUnlock
 rw [if_neg (by omega),if_neg (by omega),if_pos,hout,hlen,hfill,show 16 * (text.length / 16 + 1) - (16 - text.length % 16) = text.length by omega,pad_take _ (by omega)]
 intro k hk'
 rw [hfill] at hk' ⊢
 rw [hout,hlen,padList_get _ (by omega),hpad _ (by omega)]
end Go.Proofs.Ytimbdhpchlakfaa
namespace Go.Proofs.Ytimbdhpchlakfaa
open Go Go.Sx
@[irreducible] def K32:List UInt32:=[UInt32.ofNat 1116352408,UInt32.ofNat 1899447441,UInt32.ofNat 3049323471,UInt32.ofNat 3921009573,UInt32.ofNat 961987163,UInt32.ofNat 1508970993,UInt32.ofNat 2453635748,UInt32.ofNat 2870763221,UInt32.ofNat 3624381080,UInt32.ofNat 310598401,UInt32.ofNat 607225278,UInt32.ofNat 1426881987,UInt32.ofNat 1925078388,UInt32.ofNat 2162078206,UInt32.ofNat 2614888103,UInt32.ofNat 3248222580,UInt32.ofNat 3835390401,UInt32.ofNat 4022224774,UInt32.ofNat 264347078,UInt32.ofNat 604807628,UInt32.ofNat 770255983,UInt32.ofNat 1249150122,UInt32.ofNat 1555081692,UInt32.ofNat 1996064986,UInt32.ofNat 2554220882,UInt32.ofNat 2821834349,UInt32.ofNat 2952996808,UInt32.ofNat 3210313671,UInt32.ofNat 3336571891,UInt32.ofNat 3584528711,UInt32.ofNat 113926993,UInt32.ofNat 338241895,UInt32.ofNat 666307205,UInt32.ofNat 773529912,UInt32.ofNat 1294757372,UInt32.ofNat 1396182291,UInt32.ofNat 1695183700,UInt32.ofNat 1986661051,UInt32.ofNat 2177026350,UInt32.ofNat 2456956037,UInt32.ofNat 2730485921,UInt32.ofNat 2820302411,UInt32.ofNat 3259730800,UInt32.ofNat 3345764771,UInt32.ofNat 3516065817,UInt32.ofNat 3600352804,UInt32.ofNat 4094571909,UInt32.ofNat 275423344,UInt32.ofNat 430227734,UInt32.ofNat 506948616,UInt32.ofNat 659060556,UInt32.ofNat 883997877,UInt32.ofNat 958139571,UInt32.ofNat 1322822218,UInt32.ofNat 1537002063,UInt32.ofNat 1747873779,UInt32.ofNat 1955562222,UInt32.ofNat 2024104815,UInt32.ofNat 2227730452,UInt32.ofNat 2361852424,UInt32.ofNat 2428436474,UInt32.ofNat 2756734187,UInt32.ofNat 3204031479,UInt32.ofNat 3329325298]
theorem K32_eq:K32 = [UInt32.ofNat 1116352408,UInt32.ofNat 1899447441,UInt32.ofNat 3049323471,UInt32.ofNat 3921009573,UInt32.ofNat 961987163,UInt32.ofNat 1508970993,UInt32.ofNat 2453635748,UInt32.ofNat 2870763221,UInt32.ofNat 3624381080,UInt32.ofNat 310598401,UInt32.ofNat 607225278,UInt32.ofNat 1426881987,UInt32.ofNat 1925078388,UInt32.ofNat 2162078206,UInt32.ofNat 2614888103,UInt32.ofNat 3248222580,UInt32.ofNat 3835390401,UInt32.ofNat 4022224774,UInt32.ofNat 264347078,UInt32.ofNat 604807628,UInt32.ofNat 770255983,UInt32.ofNat 1249150122,UInt32.ofNat 1555081692,UInt32.ofNat 1996064986,UInt32.ofNat 2554220882,UInt32.ofNat 2821834349,UInt32.ofNat 2952996808,UInt32.ofNat 3210313671,UInt32.ofNat 3336571891,UInt32.ofNat 3584528711,UInt32.ofNat 113926993,UInt32.ofNat 338241895,UInt32.ofNat 666307205,UInt32.ofNat 773529912,UInt32.ofNat 1294757372,UInt32.ofNat 1396182291,UInt32.ofNat 1695183700,UInt32.ofNat 1986661051,UInt32.ofNat 2177026350,UInt32.ofNat 2456956037,UInt32.ofNat 2730485921,UInt32.ofNat 2820302411,UInt32.ofNat 3259730800,UInt32.ofNat 3345764771,UInt32.ofNat 3516065817,UInt32.ofNat 3600352804,UInt32.ofNat 4094571909,UInt32.ofNat 275423344,UInt32.ofNat 430227734,UInt32.ofNat 506948616,UInt32.ofNat 659060556,UInt32.ofNat 883997877,UInt32.ofNat 958139571,UInt32.ofNat 1322822218,UInt32.ofNat 1537002063,UInt32.ofNat 1747873779,UInt32.ofNat 1955562222,UInt32.ofNat 2024104815,UInt32.ofNat 2227730452,UInt32.ofNat 2361852424,UInt32.ofNat 2428436474,UInt32.ofNat 2756734187,UInt32.ofNat 3204031479,UInt32.ofNat 3329325298]:=by unfold K32;rfl
theorem K32_length:K32.length = 64:=by rw [K32_eq];rfl
end Go.Proofs.Ytimbdhpchlakfaa
