/- What the functions of the program compute. No condition. -/
import Derived.Test.YtlbmkjckbfeejaaHwSha11ToSha11
set_option linter.unusedSimpArgs false
set_option linter.unusedVariables false
namespace Go.Proofs.Ytlbmkjckbfeejaa
open Go Go.Sx
@[irreducible] def rShort (b:List UInt8):List UInt8:=hashR C32 F32 b (zeroN (b.length % 64))
theorem rShort_eq (b:List UInt8):rShort b = hashR C32 F32 b (zeroN (b.length % 64)):=by unfold rShort;rfl
theorem rShort_length (b:List UInt8):(rShort b).length = 32:=by
 rw [rShort_eq];unfold hashR;rw [outR_length,C32_eq];rfl
theorem copy_all {n:Nat} {x old:List UInt8} (hx:x.length = n) (ho:old.length = n) :
  x = List.take ((none:Option Nat).getD 0) old ++ List.take (min (List.take n (List.drop (addI none 0) x)).length n) (List.take n (List.drop (addI none 0) x)) ++
   List.drop ((none:Option Nat).getD 0 + min (List.take n (List.drop (addI none 0) x)).length n) old:=by
 have e:List.take n (List.drop (addI none 0) x) = x:=by
  rw [addI_eq,Option.getD_none,Nat.zero_add,List.drop_zero,List.take_of_length_le (by omega)]
 rw [e,hx,Nat.min_self,Option.getD_none,List.take_zero,List.nil_append,List.take_of_length_le (by omega),List.drop_of_length_le (by omega),List.append_nil]
set_option maxRecDepth 100000 in
set_option maxHeartbeats 400000 in
theorem fn50 (b:List UInt8) (m:Nat) (hb:b.length = m) (hmax:m ≤ 100000000):Sx.Fn Γ.P 50 [.slx 1000 0 0 m] [(1000,.mem false 0 [(m,.a8 b)])]
  (fun v M=>v = .a8 (rShort b)∧M = [(1000,.mem false 0 [(m,.a8 b)])]):=by
 have hH:=fnHash32 b m hb hmax
 have hl:=rShort_length b
 rw [show hashR C32 F32 b (zeroN (m % 64)) = rShort b by rw [rShort_eq,hb]] at hH
 refine fn_of (Γ:=Γ) (fn:=Try.f50) rfl rfl rfl rfl ?_
 repeat (refine sd ?_)
 refine Draw.intro [[],[],[1],[0,1,2]] [0,1,2,3] (by kernel_rfl) ?_
 repeat (refine sd ?_)
 refine Call.intro hH [(1000,(1000,0,none)),(1001,(1001,0,none))] rfl fc rfl fc rfl ?_
 rintro v M' ⟨c,hc,rfl,rfl⟩
 refine Grow.intro [(1001,.mem true (c - 32) [(32,.a8 (rShort b))])] rfl rfl ?_
 repeat (refine sd ?_)
 refine Ret.intro (.a8 (rShort b)) [(1000,.mem false 0 [(m,.a8 b)])] [] rfl ?_ ⟨rfl,rfl⟩ rfl ?_ rfl ?_ rfl
 ·exact fc
 ·repeat' (first | (show AllP _;first | exact trivial | refine AllP.app ?_ ?_ | refine AllP.appd ?_ ?_ | refine AllP.cons ?_ ?_) | with_reducible rfl | with_reducible assumption | omega | (simp only [rng,Ix.val,addQ_eq,addI,sz5,by5,sz22,by22,sz23,by23,sz95,by95] <;> omega) | (simp only [rng,Ix.val,Int.toNat_natCast,mulE_eq,addQ_eq,addI,Option.getD_none,Option.getD_some,List.length_take,List.length_drop,List.length_append,List.length_set,List.length_replicate,sz5,by5,sz22,by22,sz23,by23,sz95,by95, *] <;> omega) | (simp only [Ix.val];with_reducible assumption) | exact UInt8.toNat_lt _ | (apply Eq.trans;(with_reducible assumption);exact rfl) | exact rfl | exact fun _ _=>rfl)
  exact copy_all hl List.length_replicate
 ·exact fc
end Go.Proofs.Ytlbmkjckbfeejaa
namespace Go.Proofs.Ytlbmkjckbfeejaa
open Go Go.Sx
theorem lenR_app (w:Nat) (n:UInt64) (t:List UInt8):∀ k,lenR w t n k = t ++ lenR w [] n k
 | 0=>by simp [lenR]
 | k + 1=>by simp only [lenR];rw [lenR_app w n t k,List.append_assoc]
theorem lenT_app (n:UInt64) (t:List UInt8):∀ k,lenT t n k = t ++ lenT [] n k
 | 0=>by simp [lenT]
 | k + 1=>by simp only [lenT];rw [lenT_app n t k,List.append_assoc]
theorem lenR8 (n:UInt64):lenR 8 [] n 8 = lenT [] n 8:=by kernel_rfl
theorem take_get {b:List UInt8} {a n j:Nat} (h:j < n):((b.drop a).take n).getD j 0 = b.getD (a + j) 0:=by
 rw [List.getD_eq_getElem?_getD,List.getElem?_take,if_pos h,List.getElem?_drop,List.getD_eq_getElem?_getD]
theorem len8 {α:Type} {l:List α} (h:l.length = 8):∃ a0 a1 a2 a3 a4 a5 a6 a7,l = [a0,a1,a2,a3,a4,a5,a6,a7]:=by
 match l,h with
 | [a0,a1,a2,a3,a4,a5,a6,a7],_=>exact ⟨a0,a1,a2,a3,a4,a5,a6,a7,rfl⟩
end Go.Proofs.Ytlbmkjckbfeejaa
namespace Go.Proofs.Ytlbmkjckbfeejaa
open Go Go.Sx
def up (l:List UInt32):List UInt64:=l.map UInt32.toUInt64
theorem up_getD (l:List UInt32) (i:Nat):(up l).getD i 0 = (l.getD i 0).toUInt64:=by
 unfold up
 simp only [List.getD_eq_getElem?_getD,List.getElem?_map]
 cases l[i]? <;> rfl
theorem up_set (l:List UInt32) (i:Nat) (x:UInt32):(up l).set i x.toUInt64 = up (l.set i x):=by
 unfold up;rw [List.map_set]
set_option maxRecDepth 100000 in
theorem F32_up:F32 = up H32:=by rw [F32_eq,H32_eq];kernel_rfl
set_option maxRecDepth 100000 in
theorem R32_up:R32 = up K32:=by rw [R32_eq,K32_eq];kernel_rfl
theorem low (x:UInt64):x &&& UInt64.ofNat 4294967295 = x.toUInt32.toUInt64:=by
 apply UInt64.toNat_inj.1
 rw [UInt64.toNat_and,UInt64.toNat_ofNat',UInt32.toNat_toUInt64,UInt64.toNat_toUInt32]
 exact Nat.and_two_pow_sub_one_eq_mod _ 32
theorem low_not (x:UInt32):(UInt64.ofNat 4294967295 ^^^ x.toUInt64).toUInt32 = ~~~x:=by
 rw [UInt64.toUInt32_xor,UInt32.toUInt32_toUInt64]
 rw [show (UInt64.ofNat 4294967295).toUInt32 = (-1:UInt32) by decide]
 exact UInt32.neg_one_xor
theorem shr_up (x:UInt32) (n:Nat):shr64 x.toUInt64 n = (shr32 x n).toUInt64:=by
 apply UInt64.toNat_inj.1
 unfold shr64 shr32
 rw [UInt64.toNat_ofNat',UInt32.toNat_toUInt64,UInt32.toNat_toUInt64,UInt32.toNat_ofNat',Nat.shiftRight_eq_div_pow]
 have h1:x.toNat / 2 ^ n ≤ x.toNat:=Nat.div_le_self _ _
 have h2:=x.toNat_lt
 rw [Nat.mod_eq_of_lt (by omega),Nat.mod_eq_of_lt (by omega)]
theorem shl_up (x:UInt32) (n:Nat):(shl64 x.toUInt64 n).toUInt32 = shl32 x n:=by
 apply UInt32.toNat_inj.1
 unfold shl64 shl32
 rw [UInt64.toNat_toUInt32,UInt64.toNat_ofNat',UInt32.toNat_toUInt64,UInt32.toNat_ofNat']
 exact Nat.mod_mod_of_dvd _ (by decide)
theorem tn_up (x:UInt32) (n:UInt64) (h:(32 - n).toNat = 32 - n.toNat):tn x.toUInt64 n 32 = (rr32 x n.toNat).toUInt64:=by
 unfold tn rr32
 rw [if_pos rfl,low,UInt64.toUInt32_or,shr_up,UInt32.toUInt32_toUInt64,shl_up,h,UInt32.or_comm]
theorem s32:S32.getD 0 0 = 2∧S32.getD 1 0 = 13∧S32.getD 2 0 = 22∧S32.getD 3 0 = 6∧S32.getD 4 0 = 11∧S32.getD 5 0 = 25∧S32.getD 6 0 = 7∧S32.getD 7 0 = 18∧S32.getD 8 0 = 3∧S32.getD 9 0 = 17∧S32.getD 10 0 = 19∧S32.getD 11 0 = 10:=by
 rw [S32_eq];decide
theorem wN32_eq (w:List UInt32) (i:Nat):wN C32 (up w) i = (wN32 w i).toUInt64:=by
 obtain ⟨_,_,_,_,_,_,h6,h7,h8,h9,h10,h11⟩:=s32
 unfold wN wN32 thS
 rw [C32_eq]
 simp only [h6,h7,h8,h9,h10,h11,low,up_getD]
 rw [tn_up _ 7 (by decide),tn_up _ 18 (by decide),tn_up _ 17 (by decide),tn_up _ 19 (by decide),shr_up,shr_up]
 simp only [UInt64.toUInt32_add,UInt64.toUInt32_xor,UInt32.toUInt32_toUInt64]
 show (w.getD (i - 16) 0 + (rr32 (w.getD (i - 15) 0) 7 ^^^ rr32 (w.getD (i - 15) 0) 18 ^^^ shr32 (w.getD (i - 15) 0) 3) + w.getD (i - 7) 0 + (rr32 (w.getD (i - 2) 0) 17 ^^^ rr32 (w.getD (i - 2) 0) 19 ^^^ shr32 (w.getD (i - 2) 0) 10)).toUInt64 = _
 congr 2
 rw [UInt32.add_assoc,UInt32.add_comm (rr32 _ _ ^^^ _ ^^^ _),← UInt32.add_assoc]
theorem one32_eq (v:List UInt32) (k w:UInt32):(oneR C32 (up v) k.toUInt64 w.toUInt64).toUInt32 = one32 v k w:=by
 obtain ⟨_,_,_,h3,h4,h5,_⟩:=s32
 unfold oneR one32 thT
 rw [C32_eq]
 simp only [h3,h4,h5,up_getD]
 rw [tn_up _ 6 (by decide),tn_up _ 11 (by decide),tn_up _ 25 (by decide)]
 simp only [UInt64.toUInt32_add,UInt64.toUInt32_xor,UInt64.toUInt32_and,UInt32.toUInt32_toUInt64]
 have:=low_not (v.getD 4 0)
 rw [UInt64.toUInt32_xor,UInt32.toUInt32_toUInt64] at this
 rw [this]
 rfl
theorem two32_eq (v:List UInt32):(twoR C32 (up v)).toUInt32 = two32 v:=by
 obtain ⟨h0,h1,h2,_⟩:=s32
 unfold twoR two32 thT
 rw [C32_eq]
 simp only [h0,h1,h2,up_getD]
 rw [tn_up _ 2 (by decide),tn_up _ 13 (by decide),tn_up _ 22 (by decide)]
 simp only [UInt64.toUInt32_add,UInt64.toUInt32_xor,UInt64.toUInt32_and,UInt32.toUInt32_toUInt64]
 rfl
theorem rd32_eq (v:List UInt32) (k w:UInt32):rdR C32 (up v) k.toUInt64 w.toUInt64 = up (rd32 v k w):=by
 unfold rdR rd32
 rw [show C32.mask = UInt64.ofNat 4294967295 by rw [C32_eq],low,low,UInt64.toUInt32_add,UInt64.toUInt32_add,one32_eq,two32_eq]
 simp only [up_getD,UInt32.toUInt32_toUInt64]
 rfl
theorem rds32_eq (w v:List UInt32):∀ i,rdsR C32 (up w) (up v) i = up (rds32 w v i)
 | 0=>rfl
 | i + 1=>by
  simp only [rdsR,rds32]
  rw [rds32_eq w v i,show C32.k = R32 by rw [C32_eq],R32_up,up_getD,up_getD,rd32_eq]
theorem hA32_eq (h v:List UInt32):∀ i,hR C32 (up h) (up v) i = up (hA32 h v i)
 | 0=>rfl
 | i + 1=>by
  simp only [hR,hA32]
  rw [hA32_eq h v i,show C32.mask = UInt64.ofNat 4294967295 by rw [C32_eq],low,up_getD,up_getD,UInt64.toUInt32_add,UInt32.toUInt32_toUInt64,UInt32.toUInt32_toUInt64,up_set]
theorem bytes32 (a b c d:UInt8):((((0:UInt64) * 256 + a.toUInt64) * 256 + b.toUInt64) * 256 + c.toUInt64) * 256 + d.toUInt64 =
  (shl32 a.toUInt32 24 ||| shl32 b.toUInt32 16 ||| shl32 c.toUInt32 8 ||| d.toUInt32).toUInt64:=by
 have ha:=a.toNat_lt
 have hb:=b.toNat_lt
 have hc:=c.toNat_lt
 have hd:=d.toNat_lt
 apply UInt64.toNat_inj.1
 unfold shl32
 simp only [UInt32.toNat_toUInt64,UInt32.toNat_or,UInt32.toNat_ofNat',UInt8.toNat_toUInt32,UInt64.toNat_add,UInt64.toNat_mul,UInt8.toNat_toUInt64]
 have k:(256:UInt64).toNat = 256:=rfl
 have z:(0:UInt64).toNat = 0:=rfl
 rw [k,z]
 have f1:a.toNat <<< 24 % 2 ^ 32 = a.toNat <<< 24:=Nat.mod_eq_of_lt (by rw [Nat.shiftLeft_eq];omega)
 have f2:b.toNat <<< 16 % 2 ^ 32 = b.toNat <<< 16:=Nat.mod_eq_of_lt (by rw [Nat.shiftLeft_eq];omega)
 have f3:c.toNat <<< 8 % 2 ^ 32 = c.toNat <<< 8:=Nat.mod_eq_of_lt (by rw [Nat.shiftLeft_eq];omega)
 rw [f1,f2,f3]
 have g1:a.toNat <<< 24 ||| b.toNat <<< 16 = (a.toNat <<< 8 ||| b.toNat) <<< 16:=by
  rw [Nat.shiftLeft_or_distrib,← Nat.shiftLeft_add]
 have g2:(a.toNat <<< 8 ||| b.toNat) <<< 16 ||| c.toNat <<< 8 = ((a.toNat <<< 8 ||| b.toNat) <<< 8 ||| c.toNat) <<< 8:=by
  generalize a.toNat <<< 8 ||| b.toNat = A
  rw [Nat.shiftLeft_or_distrib,← Nat.shiftLeft_add]
 rw [g1,g2,← Nat.shiftLeft_add_eq_or_of_lt hd,← Nat.shiftLeft_add_eq_or_of_lt hc,← Nat.shiftLeft_add_eq_or_of_lt hb]
 simp only [Nat.shiftLeft_eq]
 omega
theorem set_getD32 (l:List UInt64) (i:Nat) (x:UInt64) (h:i < l.length):(l.set i x).getD i 0 = x:=by
 rw [List.getD_eq_getElem?_getD,List.getElem?_set_self h];rfl
theorem wRs_zero (all:List UInt8) (a:Nat):∀ i,i ≤ 16→∀ k,i ≤ k→(wRs C32 all a i).getD k 0 = 0:=by
 have hwd:C32.wd = 4:=by rw [C32_eq]
 intro i
 induction i with
 | zero=>
  intro _ k _
  show (List.replicate C32.n (0:UInt64)).getD k 0 = 0
  rw [List.getD_eq_getElem?_getD,List.getElem?_replicate];split <;> rfl
 | succ i ih=>
  intro hi k hk
  simp only [wRs]
  rw [if_neg (by omega),hwd]
  have ne:∀ (l:List UInt64) (x:UInt64),(l.set i x).getD k 0 = l.getD k 0:=by
   intro l x
   rw [List.getD_eq_getElem?_getD,List.getElem?_set_ne (by omega),← List.getD_eq_getElem?_getD]
  simp only [wR,ne]
  exact ih (by omega) k (by omega)
theorem wS32_eq (all:List UInt8) (a:Nat):∀ i,i ≤ 16→wRs C32 all a i = up (wS32 ((all.drop a).take 64) i):=by
 have hwd:C32.wd = 4:=by rw [C32_eq]
 have hn:C32.n = 64:=by rw [C32_eq]
 intro i
 induction i with
 | zero=>intro _;show List.replicate C32.n 0 = _;rw [hn];rfl
 | succ i ih=>
  intro hi
  have h0:=ih (by omega)
  have hz:=wRs_zero all a i (by omega) i (Nat.le_refl _)
  have hl:=wRs_length C32 all a i
  rw [hn] at hl
  simp only [wRs]
  rw [if_neg (by omega),hwd]
  simp only [wR,wS32]
  rw [List.set_set,List.set_set,List.set_set,hz]
  rw [set_getD32 _ _ _ (by simp only [List.length_set];omega),set_getD32 _ _ _ (by simp only [List.length_set];omega),set_getD32 _ _ _ (by omega),hwd,bytes32,h0,up_set]
  rw [take_get (by omega),take_get (by omega),take_get (by omega),take_get (by omega)]
  simp only [Nat.add_zero,Nat.add_assoc]
theorem wE32_eq (all:List UInt8) (a:Nat):∀ k,k ≤ 48→wRs C32 all a (16 + k) = up (wE32 (wS32 ((all.drop a).take 64) 16) k)
 | 0,_=>wS32_eq all a 16 (Nat.le_refl _)
 | k + 1,h=>by
  have ih:=wE32_eq all a k (by omega)
  show (if 16 ≤ 16 + k then (wRs C32 all a (16 + k)).set (16 + k) (wN C32 (wRs C32 all a (16 + k)) (16 + k)) else _) = up ((wE32 _ k).set (16 + k) (wN32 (wE32 _ k) (16 + k)))
  rw [if_pos (by omega),ih,wN32_eq,up_set]
theorem blk32_eq (h:List UInt32) (all:List UInt8) (a:Nat):blkR C32 (up h) all a = up (blk32 h ((all.drop a).take 64)):=by
 unfold blkR blk32 wAll32
 rw [show C32.n = 16 + 48 by rw [C32_eq],wE32_eq all a 48 (Nat.le_refl _),rds32_eq,hA32_eq]
theorem blks32_eq (h:List UInt32) (all:List UInt8):∀ q,blksR C32 (up h) all q = up (blks32 h all q)
 | 0=>rfl
 | q + 1=>by
  simp only [blksR,blks32]
  rw [blks32_eq h all q,blk32_eq,show 16 * C32.wd * q = 64 * q by rw [show C32.wd = 4 by rw [C32_eq]]]
theorem blks32_app {h:List UInt32} {A T:List UInt8} {p:Nat} (hA:A.length = 64 * p):∀ q,blks32 h (A ++ T) (p + q) = blks32 (blks32 h A p) T q
 | 0=>by
  have:∀ k,k ≤ p→blks32 h (A ++ T) k = blks32 h A k:=by
   intro k
   induction k with
   | zero=>intro _;rfl
   | succ k ih=>
    intro hk
    simp only [blks32]
    rw [ih (by omega),List.drop_append_of_le_length (by omega),List.take_append_of_le_length (by rw [List.length_drop];omega)]
  exact this p (Nat.le_refl _)
 | q + 1=>by
  show blk32 (blks32 h (A ++ T) (p + q)) (((A ++ T).drop (64 * (p + q))).take 64) = blk32 (blks32 (blks32 h A p) T q) ((T.drop (64 * q)).take 64)
  rw [blks32_app hA q,List.drop_append,List.drop_of_length_le (by omega),List.nil_append,hA,show 64 * (p + q) - 64 * p = 64 * q by omega]
theorem blks32_take {h:List UInt32} {b:List UInt8} {p:Nat} (hp:64 * p ≤ b.length):blks32 h (b.take (64 * p)) p = blks32 h b p:=by
 have:=blks32_app (h:=h) (A:=b.take (64 * p)) (T:=b.drop (64 * p)) (p:=p) (by rw [List.length_take];omega) 0
 rw [List.take_append_drop] at this
 exact this.symm
theorem out32_list (a0 a1 a2 a3 a4 a5 a6 a7:UInt64):outR 4 [a0,a1,a2,a3,a4,a5,a6,a7] 8 =
  (List.range 32).map (fun i=>(shr64 ([a0,a1,a2,a3,a4,a5,a6,a7].getD (i / 4) 0) (24 - i % 4 * 8)).toUInt8):=by kernel_rfl
theorem out32_list2 (a0 a1 a2 a3 a4 a5 a6 a7:UInt32):outW [a0,a1,a2,a3,a4,a5,a6,a7] 32 =
  (List.range 32).map (fun i=>(shr32 ([a0,a1,a2,a3,a4,a5,a6,a7].getD (i / 4) 0) (24 - i % 4 * 8)).toUInt8):=by kernel_rfl
theorem out32 {h:List UInt32} (hh:h.length = 8):outR 4 (up h) 8 = outW h 32:=by
 obtain ⟨a0,a1,a2,a3,a4,a5,a6,a7,rfl⟩:=len8 hh
 rw [show up [a0,a1,a2,a3,a4,a5,a6,a7] = [a0.toUInt64,a1.toUInt64,a2.toUInt64,a3.toUInt64,a4.toUInt64,a5.toUInt64,a6.toUInt64,a7.toUInt64] from rfl,out32_list,out32_list2]
 rw [show [a0.toUInt64,a1.toUInt64,a2.toUInt64,a3.toUInt64,a4.toUInt64,a5.toUInt64,a6.toUInt64,a7.toUInt64] = up [a0,a1,a2,a3,a4,a5,a6,a7] from rfl]
 refine List.map_congr_left fun i _=>?_
 rw [up_getD,shr_up]
 apply UInt8.toNat_inj.1
 rw [UInt64.toNat_toUInt8,UInt32.toNat_toUInt64,UInt32.toNat_toUInt8]
theorem all32 (b:List UInt8):allR 4 b (zeroN (b.length % 64)) = b.take (64 * (b.length / 64)) ++ tail32 (b.drop (64 * (b.length / 64))) (UInt64.ofInt (b.length:Int)):=by
 unfold allR tail32 padT
 rw [lenR_app,lenT_app,lenR8,show (b.drop (64 * (b.length / 64))).length = b.length % 64 by rw [List.length_drop];omega]
 conv=>lhs;rw [← List.take_append_drop (64 * (b.length / 64)) b]
 simp only [List.append_assoc,List.length_append,List.length_take,List.length_drop]
 rw [show min (64 * (b.length / 64)) b.length + (b.length - 64 * (b.length / 64)) = b.length by omega]
theorem short_eq (b:List UInt8):rShort b = sha256 b:=by
 rw [rShort_eq,sha256_eq]
 unfold hashR sum32
 have hwd:C32.wd = 4:=by rw [C32_eq]
 rw [hwd,F32_up,blks32_eq,all32,UInt64.zero_add]
 have hp:64 * (b.length / 64) ≤ b.length:=by omega
 have hA:(b.take (64 * (b.length / 64))).length = 64 * (b.length / 64):=by rw [List.length_take];omega
 have hT:=tail32_length (b.drop (64 * (b.length / 64))) (UInt64.ofInt (b.length:Int))
 generalize tail32 (b.drop (64 * (b.length / 64))) (UInt64.ofInt (b.length:Int)) = T at hT ⊢
 rw [List.length_append,hA,show (64 * (b.length / 64) + T.length) / (16 * 4) = b.length / 64 + T.length / 64 by omega,blks32_app hA,blks32_take hp]
 exact out32 (blks32_length (blks32_length H32_length b (b.length / 64)) T (T.length / 64))
end Go.Proofs.Ytlbmkjckbfeejaa
namespace Go.Proofs.Ytlbmkjckbfeejaa
open Go Go.Sx
@[irreducible] def hw (A:List UInt8):List UInt32:=blks32 H32 A (A.length / 64)
theorem hw_eq (A:List UInt8):hw A = blks32 H32 A (A.length / 64):=by unfold hw;rfl
theorem hw_length (A:List UInt8):(hw A).length = 8:=by rw [hw_eq];exact blks32_length H32_length _ _
theorem ofInt_nat_add (a b:Nat):UInt64.ofInt (a:Int) + UInt64.ofInt (b:Int) = UInt64.ofInt ((a + b:Nat):Int):=by
 rw [Int.natCast_add,UInt64.ofInt_add]
theorem hw_app {A b:List UInt8} {N m:Nat} (hA:A.length = N) (hb:b.length = m):blks32 (hw A) (A.drop (64 * (N / 64)) ++ b) ((N % 64 + m) / 64) = hw (A ++ b):=by
 rw [hw_eq,hw_eq,List.length_append,hA,hb]
 have h1:(A.take (64 * (N / 64))).length = 64 * (N / 64):=by rw [List.length_take];omega
 have h2:=blks32_app (h:=H32) (A:=A.take (64 * (N / 64))) (T:=A.drop (64 * (N / 64)) ++ b) h1 ((N % 64 + m) / 64)
 rw [← List.append_assoc,List.take_append_drop,blks32_take (by omega)] at h2
 rw [← h2]
 congr 1
 omega
structure HashOK (A:List UInt8) (N i c sp:Nat) (L:List UInt8):Prop where
 len:A.length = N
 ll:L.length = i + N % 64
 drop:L.drop i = A.drop (64 * (N / 64))
 cap:c = N % 64 + sp
theorem fnPutN (b:List UInt8) (m:Nat) (hb:b.length = m) (hmax:m ≤ 100000000) :
  Sx.Fn Γ.P 44 [.ptr 1000 0 none,.slx 1002 0 0 m] [(1000,hashE H32 .nsl 0),(1002,.mem false 0 [(m,.a8 b)])]
   (fun v M=>∃ i c sp L,HashOK b m i c sp L∧v = .tup []∧M = [(1000,hashE (hw b) (.sl 1005 0 i (m % 64) c) (UInt64.ofInt (m:Int))),(1002,.mem false 0 [(m,.a8 b)]),(1005,.mem true sp [(i + m % 64,.a8 L)])]):=by
 refine Fn.mono (fnPut0 H32 b 0 m H32_length hb hmax) ?_
 rintro v M ⟨c,hc,hv,hM⟩
 refine ⟨64 * (m / 64),c - 64 * (m / 64),c - m,b,⟨hb,by omega,rfl,by omega⟩,hv,?_⟩
 rw [hM,hw_eq,hb,show m - 64 * (m / 64) = m % 64 by omega,show 64 * (m / 64) + m % 64 = m by omega]
 rw [UInt64.zero_add]
theorem fnPutC (A b:List UInt8) (N m i c sp:Nat) (L:List UInt8) (h:HashOK A N i c sp L) (hb:b.length = m) (hmax:m ≤ 99999900) :
  Sx.Fn Γ.P 44 [.ptr 1000 0 none,.slx 1002 0 0 m] [(1000,hashE (hw A) (.sl 1001 0 i (N % 64) c) (UInt64.ofInt (N:Int))),(1001,.mem true sp [(i + N % 64,.a8 L)]),(1002,.mem false 0 [(m,.a8 b)])]
   (fun v M=>∃ i' c' sp' L',HashOK (A ++ b) (N + m) i' c' sp' L'∧v = .tup [] ∧
    M = [(1000,hashE (hw (A ++ b)) (.sl 1005 0 i' ((N + m) % 64) c') (UInt64.ofInt ((N + m:Nat):Int))),(1001,.dead),(1002,.mem false 0 [(m,.a8 b)]),(1005,.mem true sp' [(i' + (N + m) % 64,.a8 L')])]):=by
 obtain ⟨h1,h2,h3,h4⟩:=h
 refine Fn.mono (fnPutB (hw A) L b (L.drop i) (UInt64.ofInt (N:Int)) i (N % 64) c sp m (hw_length A) h2 rfl h4 hb (by omega)) ?_
 rintro v M ⟨c',hc,hv,hM⟩
 have hl:(L.drop i).length = N % 64:=by rw [List.length_drop];omega
 rw [hl] at hM hc
 rw [h3] at hM
 refine ⟨64 * ((N % 64 + m) / 64),c' - 64 * ((N % 64 + m) / 64),c' - (N % 64 + m),A.drop (64 * (N / 64)) ++ b,⟨by rw [List.length_append,h1,hb],?_,?_,by omega⟩,hv,?_⟩
 ·rw [List.length_append,List.length_drop,h1,hb];omega
 ·rw [List.drop_append,List.drop_append,List.drop_drop,List.length_drop,h1]
  rw [show 64 * (N / 64) + 64 * ((N % 64 + m) / 64) = 64 * ((N + m) / 64) by omega,show 64 * ((N % 64 + m) / 64) - (N - 64 * (N / 64)) = 64 * ((N + m) / 64) - N by omega]
 ·rw [hM,hw_app h1 hb,ofInt_nat_add,show N % 64 + m - 64 * ((N % 64 + m) / 64) = (N + m) % 64 by omega,show 64 * ((N % 64 + m) / 64) + (N + m) % 64 = N % 64 + m by omega]
  rfl
theorem fnSumC (A:List UInt8) (N i c sp:Nat) (L:List UInt8) (h:HashOK A N i c sp L) :
  Sx.Fn Γ.P 45 [.ptr 1000 0 none] [(1000,.mem false 0 [(8,.a32 (hw A)),(1,.slx 1001 0 i (N % 64)),(1,.u64 (UInt64.ofInt (N:Int)))]),(1001,.mem false 0 [(i + N % 64,.a8 L)])]
   (fun v M=>v = .a8 (sha256 A)∧M = [(1000,.mem false 0 [(8,.a32 (hw A)),(1,.slx 1001 0 i (N % 64)),(1,.u64 (UInt64.ofInt (N:Int)))]),(1001,.mem false 0 [(i + N % 64,.a8 L)])]):=by
 obtain ⟨h1,h2,h3,h4⟩:=h
 have e:(L.drop i).take (N % 64) = A.drop (64 * (N / 64)):=by
  rw [h3,List.take_of_length_le]
  rw [List.length_drop,h1];omega
 refine Fn.mono (fn45 (hw A) L (A.drop (64 * (N / 64))) (UInt64.ofInt (N:Int)) (i + N % 64) i (N % 64) (hw_length A) h2 (Nat.le_refl _) e (by omega)) ?_
 rintro v M ⟨hv,hM⟩
 refine ⟨?_,hM⟩
 rw [hv,sha256_eq,h1,← h1,← hw_eq,h1,UInt64.zero_add]
end Go.Proofs.Ytlbmkjckbfeejaa
