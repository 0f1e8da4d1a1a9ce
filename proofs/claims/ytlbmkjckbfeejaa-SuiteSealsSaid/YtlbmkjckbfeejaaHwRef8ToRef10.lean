/- What the functions of the program compute. No condition. -/
import Derived.Test.YtlbmkjckbfeejaaHwRef7ToRef7
import Derived.Test.YtlbmkjckbfeejaaHwAes11ToCbc1
set_option linter.unusedSimpArgs false
set_option linter.unusedVariables false
namespace Go.Proofs.Ytlbmkjckbfeejaa
open Go Go.Sx
@[irreducible] def wdK (key:List UInt8):List (List Nat):=(rGo key 60).1
theorem wdK_eq (key:List UInt8):wdK key = (rGo key 60).1:=by unfold wdK;rfl
theorem wdK_ok (key:List UInt8):OkW (wdK key):=⟨fun q hq=>by rw [wdK_eq];exact (rGo_ok key 60).1 q hq⟩
set_option maxRecDepth 100000 in
theorem fn48 (key:List UInt8) (hk:key.length = 32):Sx.Fn Γ.P 48 [.a8 key] []
  (fun v M=>∃ c,60 ≤ c∧v = .agg [(1,.sl 1001 0 0 256 256),(1,.sl 1002 0 0 60 c)]∧M = [(1001,.mem true 0 [(256,.ai (zs natS))]),(1002,.mem true (c - 60) (rowsW (wdK key) 60))]):=by
 have hT:=fn60
 have hK:=fn61 key hk
 rw [rTab_nat] at hT
 rw [← wdK_eq] at hK
 refine fn_of (Γ:=Γ) (fn:=Try.f48) rfl rfl rfl rfl ?_
 repeat (refine sd ?_)
 refine Call.intro hT [(1001,(1001,0,none))] rfl fc rfl trivial rfl ?_
 rintro v M' ⟨rfl,rfl⟩
 repeat (refine sd ?_)
 refine Call.intro hK [(1000,(1001,0,none)),(1001,(1002,0,none))] rfl fc rfl fc rfl ?_
 rintro v M' ⟨c,hc,rfl,rfl⟩
 repeat (refine sd ?_)
 refine Ret.intro (.agg [(1,.sl 1001 0 0 256 256),(1,.sl 1002 0 0 60 c)]) [(1001,.mem true 0 [(256,.ai (zs natS))]),(1002,.mem true (c - 60) (rowsW (wdK key) 60))] [(1001,(1001,0,none)),(1002,(1002,0,none))] rfl trivial ⟨c,hc,rfl,rfl⟩ rfl ?_ rfl ?_ rfl
 ·exact fc
 ·exact fc
end Go.Proofs.Ytlbmkjckbfeejaa
namespace Go.Proofs.Ytlbmkjckbfeejaa
open Go Go.Sx
theorem set_getD (l:List UInt8) (i:Nat) (x:UInt8) (n:Nat) (h:i < l.length):(l.set i x).getD n 0 = if n = i then x else l.getD n 0:=by
 rw [List.getD_eq_getElem?_getD,List.getElem?_set]
 by_cases e:i = n
 ·subst e;simp [h]
 ·rw [if_neg e,if_neg (fun h=>e h.symm),List.getD_eq_getElem?_getD]
theorem wK_get {i:Nat} (t w:List UInt8) (h8:8 ≤ i) (hw:4 * i + 4 ≤ w.length):∀ k,k ≤ 4→∀ n,(wK i t w k).getD n 0 = if 4 * i ≤ n∧n < 4 * i + k then w.getD (n - 32) 0 ^^^ t.getD (n - 4 * i) 0 else w.getD n 0
 | 0,_,n=>by rw [if_neg (by omega)];rfl
 | k + 1,hk,n=>by
  have ih:=wK_get t w h8 hw k (by omega)
  simp only [wK]
  rw [set_getD _ _ _ _ (by rw [wK_length];omega),ih,ih,if_neg (show ¬ (4 * i ≤ 4 * (i - 8) + k∧4 * (i - 8) + k < 4 * i + k) by omega)]
  by_cases e:n = 4 * i + k
  ·subst e
   rw [if_pos rfl,if_pos (by omega),show 4 * i + k - 32 = 4 * (i - 8) + k by omega,show 4 * i + k - 4 * i = k by omega]
  ·rw [if_neg e]
   by_cases e2:4 * i ≤ n∧n < 4 * i + k
   ·rw [if_pos e2,if_pos (by omega)]
   ·rw [if_neg e2,if_neg (by omega)]
theorem rX_get {t w:List Nat} (ht:W4 t) (hw:W4 w) (r:Nat) (hr:r < 4):(rX t w 4).getD r 0 = t.getD r 0 ^^^ w.getD r 0:=by
 obtain ⟨a,b,c,d,rfl,_⟩:=ht
 obtain ⟨e,f,g,i,rfl,_⟩:=hw
 match r,hr with
 | 0,_=>rfl
 | 1,_=>rfl
 | 2,_=>rfl
 | 3,_=>rfl
theorem w4_eq {t:List Nat} (ht:W4 t) {l:List UInt8} (h:∀ r,r < 4→(l.getD r 0).toNat = t.getD r 0):t = [(l.getD 0 0).toNat,(l.getD 1 0).toNat,(l.getD 2 0).toNat,(l.getD 3 0).toNat]:=by
 obtain ⟨a,b,c,d,rfl,_⟩:=ht
 rw [h 0 (by omega),h 1 (by omega),h 2 (by omega),h 3 (by omega)]
 rfl
theorem sub1_nat (x:UInt8):(sub1 x).toNat = sN x.toNat:=(natS_sub x).symm
theorem tOf_nat (i:Nat) {t:List UInt8} {t':List Nat} (ht:W4 t') (h:∀ r,r < 4→(t.getD r 0).toNat = t'.getD r 0) {rnd:UInt8} {p:Nat} (hp:rnd.toNat = p) :
  ∀ r,r < 4→((tOf i t rnd).getD r 0).toNat = (rT i t' p).getD r 0:=by
 have e:=w4_eq ht h
 unfold tOf rT
 intro r hr
 split
 ·subst hp
  rw [← h 0 (by omega),← h 1 (by omega),← h 2 (by omega),← h 3 (by omega)]
  match r,hr with
  | 0,_=>simp only [List.getD_cons_zero,List.getD_cons_succ,UInt8.toNat_xor,sub1_nat]
  | 1,_=>simp only [List.getD_cons_zero,List.getD_cons_succ,sub1_nat]
  | 2,_=>simp only [List.getD_cons_zero,List.getD_cons_succ,sub1_nat]
  | 3,_=>simp only [List.getD_cons_zero,List.getD_cons_succ,sub1_nat]
 ·split
  ·rw [← h 0 (by omega),← h 1 (by omega),← h 2 (by omega),← h 3 (by omega)]
   match r,hr with
   | 0,_=>simp only [List.getD_cons_zero,List.getD_cons_succ,sub1_nat]
   | 1,_=>simp only [List.getD_cons_zero,List.getD_cons_succ,sub1_nat]
   | 2,_=>simp only [List.getD_cons_zero,List.getD_cons_succ,sub1_nat]
   | 3,_=>simp only [List.getD_cons_zero,List.getD_cons_succ,sub1_nat]
  ·exact h r hr
set_option maxRecDepth 1000000 in
theorem dbl_all:(List.range 256).all (fun i=>Nat.beq (dbl (UInt8.ofNat i)).toNat (rTimes i 2)) = true:=by kernel_rfl
theorem dbl_nat (x:UInt8):(dbl x).toNat = rTimes x.toNat 2:=by
 have:=Nat.eq_of_beq_eq_true (List.all_eq_true.1 dbl_all x.toNat (List.mem_range.2 x.toNat_lt))
 rwa [UInt8.ofNat_toNat] at this
theorem wordAt_get (w:List UInt8) (i r:Nat) (h:r < 4):(wordAt w i).getD r 0 = w.getD (4 * i + r) 0:=by
 unfold wordAt
 rw [List.getD_eq_getElem?_getD,List.getElem?_take,if_pos h,List.getElem?_drop,List.getD_eq_getElem?_getD]
theorem wGo_nat {key:List UInt8} (hk:key.length = 32):∀ i,i ≤ 60 →
  (∀ j r,j < i→r < 4→((wGo key i).1.getD (4 * j + r) 0).toNat = ((rGo key i).1.getD j []).getD r 0)∧(wGo key i).2.toNat = (rGo key i).2
 | 0,_=>⟨fun j _ h=>absurd h (Nat.not_lt_zero j),rfl⟩
 | i + 1,hi=>by
  obtain ⟨ih,ihp⟩:=wGo_nat hk i (by omega)
  obtain ⟨ok,okp⟩:=rGo_ok key i
  have hwl:=wGo_length hk i (by omega)
  have hl:=rGo_length key i
  have old:∀ (x:List Nat) (j:Nat),j < i→((rGo key i).1 ++ [x]).getD j [] = (rGo key i).1.getD j []:=by
   intro x j hj
   rw [List.getD_eq_getElem?_getD,List.getElem?_append_left (by omega),← List.getD_eq_getElem?_getD]
  have new:∀ (x:List Nat),((rGo key i).1 ++ [x]).getD i [] = x:=by
   intro x
   rw [List.getD_eq_getElem?_getD,List.getElem?_append_right (by omega),hl,Nat.sub_self];rfl
  by_cases h8:i < 8
  ·have e1:(wGo key (i + 1)) = ((wGo key i).1.take (4 * i) ++ (key.drop (4 * i)).take 4 ++ (wGo key i).1.drop (4 * i + 4),(wGo key i).2):=if_pos h8
   have e2:(rGo key (i + 1)) = ((rGo key i).1 ++ [[(key.getD (4 * i) 0).toNat,(key.getD (4 * i + 1) 0).toNat,(key.getD (4 * i + 2) 0).toNat,(key.getD (4 * i + 3) 0).toNat]],(rGo key i).2):=if_pos h8
   rw [e1,e2]
   refine ⟨fun j r hj hr=>?_,ihp⟩
   show (((wGo key i).1.take (4 * i) ++ (key.drop (4 * i)).take 4 ++ (wGo key i).1.drop (4 * i + 4)).getD (4 * j + r) 0).toNat = (((rGo key i).1 ++ [_]).getD j []).getD r 0
   by_cases hji:j < i
   ·rw [old _ j hji,← ih j r hji hr]
    congr 1
    rw [List.getD_eq_getElem?_getD,List.append_assoc,List.getElem?_append_left (by simp;omega),List.getElem?_take,if_pos (by omega),List.getD_eq_getElem?_getD]
   ·have:j = i:=by omega
    subst this
    rw [new]
    have hm:((wGo key j).1.take (4 * j) ++ (key.drop (4 * j)).take 4 ++ (wGo key j).1.drop (4 * j + 4)).getD (4 * j + r) 0 = key.getD (4 * j + r) 0:=by
     rw [List.getD_eq_getElem?_getD,List.append_assoc,List.getElem?_append_right (by simp;omega),List.getElem?_append_left (by simp;omega),List.getElem?_take,if_pos (by simp;omega),List.getElem?_drop,List.getD_eq_getElem?_getD]
     congr 2
     simp only [List.length_take]
     omega
    rw [hm]
    match r,hr with
    | 0,_=>rfl
    | 1,_=>rfl
    | 2,_=>rfl
    | 3,_=>rfl
  ·have e1:(wGo key (i + 1)) = (wK i (tOf i (wordAt (wGo key i).1 (i - 1)) (wGo key i).2) (wGo key i).1 4,if i % 8 = 0 then dbl (wGo key i).2 else (wGo key i).2):=if_neg h8
   have e2:(rGo key (i + 1)) = ((rGo key i).1 ++ [rX (rT i ((rGo key i).1.getD (i - 1) []) (rGo key i).2) ((rGo key i).1.getD (i - 8) []) 4],if i % 8 = 0 then rTimes (rGo key i).2 2 else (rGo key i).2):=if_neg h8
   rw [e1,e2]
   refine ⟨fun j r hj hr=>?_,?_⟩
   ·show ((wK i (tOf i (wordAt (wGo key i).1 (i - 1)) (wGo key i).2) (wGo key i).1 4).getD (4 * j + r) 0).toNat = (((rGo key i).1 ++ [_]).getD j []).getD r 0
    rw [wK_get _ _ (by omega) (by omega) 4 (Nat.le_refl _)]
    by_cases hji:j < i
    ·rw [if_neg (by omega),old _ j hji,ih j r hji hr]
    ·have:j = i:=by omega
     subst this
     rw [if_pos (by omega),new,rX_get (W4.rT (ok _ (by omega)) _ okp) (ok _ (by omega)) r hr,UInt8.toNat_xor,show 4 * j + r - 32 = 4 * (j - 8) + r by omega,ih _ r (by omega) hr,show 4 * j + r - 4 * j = r by omega,
      tOf_nat j (ok (j - 1) (by omega)) (fun r hr=>by rw [wordAt_get _ _ _ hr];exact ih _ r (by omega) hr) ihp r hr,Nat.xor_comm]
   ·show (if i % 8 = 0 then dbl (wGo key i).2 else (wGo key i).2).toNat = if i % 8 = 0 then rTimes (rGo key i).2 2 else (rGo key i).2
    split
    ·rw [dbl_nat,ihp]
    ·exact ihp
theorem putK_eq {w:List UInt8} (hw:w.length = 240):∀ j,j ≤ 60→putK w j = w.take (4 * j) ++ List.replicate (240 - 4 * j) 0
 | 0,_=>rfl
 | j + 1,h=>by
  have ih:=putK_eq hw j (by omega)
  simp only [putK]
  rw [ih]
  have l1:(w.take (4 * j)).length = 4 * j:=by rw [List.length_take];omega
  rw [List.take_append_of_le_length (by omega),List.take_of_length_le (by omega),List.drop_append,List.drop_of_length_le (by omega),List.nil_append,l1,List.drop_replicate]
  rw [show 240 - 4 * j - (4 * j + 4 - 4 * j) = 240 - 4 * (j + 1) by omega,show 4 * (j + 1) = 4 * j + 4 by omega,List.take_add]
  rfl
theorem keysOf_eq {key:List UInt8} (hk:key.length = 32):keysOf key = (wGo key 60).1:=by
 have hw:=wGo_length hk 60 (Nat.le_refl _)
 unfold keysOf
 rw [putK_eq hw 60 (Nat.le_refl _),List.take_of_length_le (by omega)]
 simp
theorem wdK_nat {key:List UInt8} (hk:key.length = 32) {rd c r:Nat} (h:rd ≤ 14) (hc:c < 4) (hr:r < 4) :
  ((wdK key).getD (4 * rd + c) []).getD r 0 = ((keyAt (keysOf key) rd).getD (4 * c + r) 0).toNat:=by
 have e:=(wGo_nat hk 60 (Nat.le_refl _)).1 (4 * rd + c) r (by omega) hr
 rw [← wdK_eq,← keysOf_eq hk] at e
 refine e.symm.trans (congrArg UInt8.toNat ?_)
 unfold keyAt
 rw [List.getD_eq_getElem?_getD,List.getD_eq_getElem?_getD,List.getElem?_take,if_pos (by omega),List.getElem?_drop,show 4 * (4 * rd + c) + r = 16 * rd + (4 * c + r) by omega]
def tr (b:List UInt8):List Nat:=[(b.getD 0 0).toNat,(b.getD 4 0).toNat,(b.getD 8 0).toNat,(b.getD 12 0).toNat,(b.getD 1 0).toNat,(b.getD 5 0).toNat,(b.getD 9 0).toNat,(b.getD 13 0).toNat,(b.getD 2 0).toNat,(b.getD 6 0).toNat,(b.getD 10 0).toNat,(b.getD 14 0).toNat,(b.getD 3 0).toNat,(b.getD 7 0).toNat,(b.getD 11 0).toNat,(b.getD 15 0).toNat]
theorem sub_list (a0 a1 a2 a3 a4 a5 a6 a7 a8 a9 a10 a11 a12 a13 a14 a15:UInt8):subT tabS [a0,a1,a2,a3,a4,a5,a6,a7,a8,a9,a10,a11,a12,a13,a14,a15] 16 = [tabS.getD a0.toNat 0,tabS.getD a5.toNat 0,tabS.getD a10.toNat 0,tabS.getD a15.toNat 0,tabS.getD a4.toNat 0,tabS.getD a9.toNat 0,tabS.getD a14.toNat 0,tabS.getD a3.toNat 0,tabS.getD a8.toNat 0,tabS.getD a13.toNat 0,tabS.getD a2.toNat 0,tabS.getD a7.toNat 0,tabS.getD a12.toNat 0,tabS.getD a1.toNat 0,tabS.getD a6.toNat 0,tabS.getD a11.toNat 0]:=by kernel_rfl
theorem add_list (k0 k1 k2 k3 k4 k5 k6 k7 k8 k9 k10 k11 k12 k13 k14 k15 a0 a1 a2 a3 a4 a5 a6 a7 a8 a9 a10 a11 a12 a13 a14 a15:UInt8):addTo [k0,k1,k2,k3,k4,k5,k6,k7,k8,k9,k10,k11,k12,k13,k14,k15] 16 [a0,a1,a2,a3,a4,a5,a6,a7,a8,a9,a10,a11,a12,a13,a14,a15] = [a0 ^^^ k0,a1 ^^^ k1,a2 ^^^ k2,a3 ^^^ k3,a4 ^^^ k4,a5 ^^^ k5,a6 ^^^ k6,a7 ^^^ k7,a8 ^^^ k8,a9 ^^^ k9,a10 ^^^ k10,a11 ^^^ k11,a12 ^^^ k12,a13 ^^^ k13,a14 ^^^ k14,a15 ^^^ k15]:=by kernel_rfl
theorem rIn_list (W:List (List Nat)) (a0 a1 a2 a3 a4 a5 a6 a7 a8 a9 a10 a11 a12 a13 a14 a15:UInt8):rIn [a0,a1,a2,a3,a4,a5,a6,a7,a8,a9,a10,a11,a12,a13,a14,a15] W 16 = [a0.toNat ^^^ (W.getD (4 * 0 + 0) []).getD 0 0,a4.toNat ^^^ (W.getD (4 * 0 + 1) []).getD 0 0,a8.toNat ^^^ (W.getD (4 * 0 + 2) []).getD 0 0,a12.toNat ^^^ (W.getD (4 * 0 + 3) []).getD 0 0,a1.toNat ^^^ (W.getD (4 * 0 + 0) []).getD 1 0,a5.toNat ^^^ (W.getD (4 * 0 + 1) []).getD 1 0,a9.toNat ^^^ (W.getD (4 * 0 + 2) []).getD 1 0,a13.toNat ^^^ (W.getD (4 * 0 + 3) []).getD 1 0,a2.toNat ^^^ (W.getD (4 * 0 + 0) []).getD 2 0,a6.toNat ^^^ (W.getD (4 * 0 + 1) []).getD 2 0,a10.toNat ^^^ (W.getD (4 * 0 + 2) []).getD 2 0,a14.toNat ^^^ (W.getD (4 * 0 + 3) []).getD 2 0,a3.toNat ^^^ (W.getD (4 * 0 + 0) []).getD 3 0,a7.toNat ^^^ (W.getD (4 * 0 + 1) []).getD 3 0,a11.toNat ^^^ (W.getD (4 * 0 + 2) []).getD 3 0,a15.toNat ^^^ (W.getD (4 * 0 + 3) []).getD 3 0]:=by kernel_rfl
theorem rSs_list (b0 b1 b2 b3 b4 b5 b6 b7 b8 b9 b10 b11 b12 b13 b14 b15:Nat):rSs [b0,b1,b2,b3,b4,b5,b6,b7,b8,b9,b10,b11,b12,b13,b14,b15] 4 = [sN b0,sN b1,sN b2,sN b3,sN b5,sN b6,sN b7,sN b4,sN b10,sN b11,sN b8,sN b9,sN b15,sN b12,sN b13,sN b14]:=by kernel_rfl
theorem rCs_list (W:List (List Nat)) (T:List Nat) (rd:Nat) (b0 b1 b2 b3 b4 b5 b6 b7 b8 b9 b10 b11 b12 b13 b14 b15:Nat):rCs W T rd [b0,b1,b2,b3,b4,b5,b6,b7,b8,b9,b10,b11,b12,b13,b14,b15] 4 = [rMix T rd 0 0 ^^^ (W.getD (4 * rd + 0) []).getD 0 0,rMix T rd 1 0 ^^^ (W.getD (4 * rd + 1) []).getD 0 0,rMix T rd 2 0 ^^^ (W.getD (4 * rd + 2) []).getD 0 0,rMix T rd 3 0 ^^^ (W.getD (4 * rd + 3) []).getD 0 0,rMix T rd 0 1 ^^^ (W.getD (4 * rd + 0) []).getD 1 0,rMix T rd 1 1 ^^^ (W.getD (4 * rd + 1) []).getD 1 0,rMix T rd 2 1 ^^^ (W.getD (4 * rd + 2) []).getD 1 0,rMix T rd 3 1 ^^^ (W.getD (4 * rd + 3) []).getD 1 0,rMix T rd 0 2 ^^^ (W.getD (4 * rd + 0) []).getD 2 0,rMix T rd 1 2 ^^^ (W.getD (4 * rd + 1) []).getD 2 0,rMix T rd 2 2 ^^^ (W.getD (4 * rd + 2) []).getD 2 0,rMix T rd 3 2 ^^^ (W.getD (4 * rd + 3) []).getD 2 0,rMix T rd 0 3 ^^^ (W.getD (4 * rd + 0) []).getD 3 0,rMix T rd 1 3 ^^^ (W.getD (4 * rd + 1) []).getD 3 0,rMix T rd 2 3 ^^^ (W.getD (4 * rd + 2) []).getD 3 0,rMix T rd 3 3 ^^^ (W.getD (4 * rd + 3) []).getD 3 0]:=by kernel_rfl
set_option maxRecDepth 1000000 in
theorem t2_all:(List.range 256).all (fun i=>Nat.beq (times (UInt8.ofNat i) 2).toNat (rTimes 2 i)) = true:=by kernel_rfl
set_option maxRecDepth 1000000 in
theorem t3_all:(List.range 256).all (fun i=>Nat.beq (times (UInt8.ofNat i) 3).toNat (rTimes 3 i)) = true:=by kernel_rfl
set_option maxRecDepth 1000000 in
theorem t1_all:(List.range 256).all (fun i=>Nat.beq (times (UInt8.ofNat i) 1).toNat i) = true:=by kernel_rfl
theorem t2_nat (x:UInt8):(times x 2).toNat = rTimes 2 x.toNat:=by
 have:=Nat.eq_of_beq_eq_true (List.all_eq_true.1 t2_all x.toNat (List.mem_range.2 x.toNat_lt))
 rwa [UInt8.ofNat_toNat] at this
theorem t3_nat (x:UInt8):(times x 3).toNat = rTimes 3 x.toNat:=by
 have:=Nat.eq_of_beq_eq_true (List.all_eq_true.1 t3_all x.toNat (List.mem_range.2 x.toNat_lt))
 rwa [UInt8.ofNat_toNat] at this
theorem t1_nat (x:UInt8):(times x 1).toNat = x.toNat:=by
 have:=Nat.eq_of_beq_eq_true (List.all_eq_true.1 t1_all x.toNat (List.mem_range.2 x.toNat_lt))
 rwa [UInt8.ofNat_toNat] at this
theorem col_nat (a b c d:UInt8):(col 2 3 1 1 a b c d).toNat = rTimes 2 a.toNat ^^^ rTimes 3 b.toNat ^^^ c.toNat ^^^ d.toNat:=by
 unfold col
 simp only [UInt8.toNat_xor,t2_nat,t3_nat,t1_nat]
 rw [show (0:UInt8).toNat = 0 from rfl,Nat.zero_xor]
theorem tr_in {key bl:List UInt8} (hk:key.length = 32) (hb:bl.length = 16):rIn bl (wdK key) 16 = tr (addTo (keyAt (keysOf key) 0) 16 bl):=by
 have hw:=fun {c r:Nat} (hc:c < 4) (hr:r < 4)=>wdK_nat (rd:=0) hk (by omega) hc hr
 obtain ⟨k0,k1,k2,k3,k4,k5,k6,k7,k8,k9,k10,k11,k12,k13,k14,k15,hkk⟩:=len16 (keyAt_length (keysOf_length hk) (Nat.zero_le 14))
 rw [hkk] at hw ⊢
 obtain ⟨a0,a1,a2,a3,a4,a5,a6,a7,a8,a9,a10,a11,a12,a13,a14,a15,rfl⟩:=len16 hb
 rw [rIn_list,add_list]
 rw [hw (c:=0) (r:=0) (by decide) (by decide),hw (c:=1) (r:=0) (by decide) (by decide),hw (c:=2) (r:=0) (by decide) (by decide),hw (c:=3) (r:=0) (by decide) (by decide),hw (c:=0) (r:=1) (by decide) (by decide),hw (c:=1) (r:=1) (by decide) (by decide),hw (c:=2) (r:=1) (by decide) (by decide),hw (c:=3) (r:=1) (by decide) (by decide),hw (c:=0) (r:=2) (by decide) (by decide),hw (c:=1) (r:=2) (by decide) (by decide),hw (c:=2) (r:=2) (by decide) (by decide),hw (c:=3) (r:=2) (by decide) (by decide),hw (c:=0) (r:=3) (by decide) (by decide),hw (c:=1) (r:=3) (by decide) (by decide),hw (c:=2) (r:=3) (by decide) (by decide),hw (c:=3) (r:=3) (by decide) (by decide)]
 unfold tr
 simp only [List.getD_cons_zero,List.getD_cons_succ,UInt8.toNat_xor,Nat.reduceMul,Nat.reduceAdd]
theorem rMix_lt14 (T:List Nat) {rd:Nat} (h:rd < 14) (k r:Nat):rMix T rd k r = rTimes 2 (T.getD (k + r * 4) 0) ^^^ rTimes 3 (T.getD (k + (r + 1) % 4 * 4) 0) ^^^ T.getD (k + (r + 2) % 4 * 4) 0 ^^^ T.getD (k + (r + 3) % 4 * 4) 0:=if_pos h
theorem rMix_ge14 (T:List Nat) {rd:Nat} (h:¬ rd < 14) (k r:Nat):rMix T rd k r = T.getD (k + r * 4) 0:=if_neg h
theorem tr_round {key b:List UInt8} (hk:key.length = 32) (hb:b.length = 16) {rd:Nat} (h:rd ≤ 14):rRound (wdK key) (tr b) rd = tr (roundF tabS (keysOf key) rd b):=by
 have hw:=fun {c r:Nat} (hc:c < 4) (hr:r < 4)=>wdK_nat (rd:=rd) hk h hc hr
 unfold roundF
 obtain ⟨k0,k1,k2,k3,k4,k5,k6,k7,k8,k9,k10,k11,k12,k13,k14,k15,hkk⟩:=len16 (keyAt_length (keysOf_length hk) h)
 rw [hkk] at hw ⊢
 obtain ⟨a0,a1,a2,a3,a4,a5,a6,a7,a8,a9,a10,a11,a12,a13,a14,a15,rfl⟩:=len16 hb
 rw [sub_list]
 unfold rRound
 have ht:tr [a0,a1,a2,a3,a4,a5,a6,a7,a8,a9,a10,a11,a12,a13,a14,a15] = [a0.toNat,a4.toNat,a8.toNat,a12.toNat,a1.toNat,a5.toNat,a9.toNat,a13.toNat,a2.toNat,a6.toNat,a10.toNat,a14.toNat,a3.toNat,a7.toNat,a11.toNat,a15.toNat]:=rfl
 rw [ht,rSs_list,rCs_list]
 rw [hw (c:=0) (r:=0) (by decide) (by decide),hw (c:=1) (r:=0) (by decide) (by decide),hw (c:=2) (r:=0) (by decide) (by decide),hw (c:=3) (r:=0) (by decide) (by decide),hw (c:=0) (r:=1) (by decide) (by decide),hw (c:=1) (r:=1) (by decide) (by decide),hw (c:=2) (r:=1) (by decide) (by decide),hw (c:=3) (r:=1) (by decide) (by decide),hw (c:=0) (r:=2) (by decide) (by decide),hw (c:=1) (r:=2) (by decide) (by decide),hw (c:=2) (r:=2) (by decide) (by decide),hw (c:=3) (r:=2) (by decide) (by decide),hw (c:=0) (r:=3) (by decide) (by decide),hw (c:=1) (r:=3) (by decide) (by decide),hw (c:=2) (r:=3) (by decide) (by decide),hw (c:=3) (r:=3) (by decide) (by decide)]
 by_cases h14:rd < 14
 ·rw [if_pos h14,mix_list,add_list]
  unfold tr
  simp only [rMix_lt14 _ h14,List.getD_cons_zero,List.getD_cons_succ,UInt8.toNat_xor,Nat.reduceMul,Nat.reduceAdd,Nat.reduceMod,Nat.zero_mul,Nat.zero_add,Nat.add_zero,col_nat,← natS_sub,sN]
 ·rw [if_neg h14,add_list]
  unfold tr
  simp only [rMix_ge14 _ h14,List.getD_cons_zero,List.getD_cons_succ,UInt8.toNat_xor,Nat.reduceMul,Nat.reduceAdd,Nat.reduceMod,Nat.zero_mul,Nat.zero_add,Nat.add_zero,← natS_sub,sN]
theorem rLock_nat {key bl:List UInt8} (hk:key.length = 32) (hb:bl.length = 16):∀ n,n ≤ 14→rLock bl (wdK key) n = tr (lockGo tabS (keysOf key) bl n)
 | 0,_=>tr_in hk hb
 | n + 1,h=>by
  have ih:=rLock_nat hk hb n (by omega)
  show rRound (wdK key) (rLock bl (wdK key) n) (n + 1) = tr (roundF tabS (keysOf key) (n + 1) (lockGo tabS (keysOf key) bl n))
  rw [ih]
  exact tr_round hk (lockGo_length _ _ hb _) h
theorem rOut_list (a0 a1 a2 a3 a4 a5 a6 a7 a8 a9 a10 a11 a12 a13 a14 a15:UInt8):rOut [a0.toNat,a4.toNat,a8.toNat,a12.toNat,a1.toNat,a5.toNat,a9.toNat,a13.toNat,a2.toNat,a6.toNat,a10.toNat,a14.toNat,a3.toNat,a7.toNat,a11.toNat,a15.toNat] 16 = [UInt8.ofNat a0.toNat,UInt8.ofNat a1.toNat,UInt8.ofNat a2.toNat,UInt8.ofNat a3.toNat,UInt8.ofNat a4.toNat,UInt8.ofNat a5.toNat,UInt8.ofNat a6.toNat,UInt8.ofNat a7.toNat,UInt8.ofNat a8.toNat,UInt8.ofNat a9.toNat,UInt8.ofNat a10.toNat,UInt8.ofNat a11.toNat,UInt8.ofNat a12.toNat,UInt8.ofNat a13.toNat,UInt8.ofNat a14.toNat,UInt8.ofNat a15.toNat]:=by kernel_rfl
theorem rOut_tr {b:List UInt8} (hb:b.length = 16):rOut (tr b) 16 = b:=by
 obtain ⟨a0,a1,a2,a3,a4,a5,a6,a7,a8,a9,a10,a11,a12,a13,a14,a15,rfl⟩:=len16 hb
 have ht:tr [a0,a1,a2,a3,a4,a5,a6,a7,a8,a9,a10,a11,a12,a13,a14,a15] = [a0.toNat,a4.toNat,a8.toNat,a12.toNat,a1.toNat,a5.toNat,a9.toNat,a13.toNat,a2.toNat,a6.toNat,a10.toNat,a14.toNat,a3.toNat,a7.toNat,a11.toNat,a15.toNat]:=rfl
 rw [ht,rOut_list]
 simp only [UInt8.ofNat_toNat]
theorem refLock_eq {key bl:List UInt8} (hk:key.length = 32) (hb:bl.length = 16):rOut (rLock bl (wdK key) 14) 16 = lockGo tabS (keysOf key) bl 14:=by
 rw [rLock_nat hk hb 14 (Nat.le_refl _)]
 exact rOut_tr (lockGo_length _ _ hb _)
end Go.Proofs.Ytlbmkjckbfeejaa
namespace Go.Proofs.Ytlbmkjckbfeejaa
open Go Go.Sx
theorem fnRL (key bl:List UInt8) (hk:key.length = 32) (hb:bl.length = 16):Sx.Fn Γ.P 49 [.agg [(1,.sl 1000 0 0 256 256),(1,.slx 1001 0 0 60)],.a8 bl]
  [(1000,.mem false 0 [(256,.ai (zs natS))]),(1001,.mem false 0 (rowsW (wdK key) 60))]
  (fun v M=>v = .a8 (lockGo tabS (keysOf key) bl 14)∧M = [(1000,.mem false 0 [(256,.ai (zs natS))]),(1001,.mem false 0 (rowsW (wdK key) 60))]):=by
 have h:=fn49 (wdK key) bl (wdK_ok key) hb
 rw [refLock_eq hk hb] at h
 exact h
end Go.Proofs.Ytlbmkjckbfeejaa
