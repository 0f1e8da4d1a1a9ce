/- What the functions of the program compute. No condition. -/
import Derived.Test.YtimbdhpchlakfaaHwAes5ToAes6
set_option linter.unusedSimpArgs false
set_option linter.unusedVariables false
namespace Go.Proofs.Ytimbdhpchlakfaa
open Go Go.Sx
def sub1 (x:UInt8):UInt8:=tabS.getD x.toNat 0
def wordAt (w:List UInt8) (i:Nat):List UInt8:=(w.drop (4 * i)).take 4
def tOf (i:Nat) (t:List UInt8) (rnd:UInt8):List UInt8:=
 if i % 8 = 0 then [sub1 (t.getD 1 0) ^^^ rnd,sub1 (t.getD 2 0),sub1 (t.getD 3 0),sub1 (t.getD 0 0)]
 else if i % 8 = 4 then [sub1 (t.getD 0 0),sub1 (t.getD 1 0),sub1 (t.getD 2 0),sub1 (t.getD 3 0)] else t
def wK (i:Nat) (t w:List UInt8):Nat→List UInt8
 | 0=>w
 | k + 1=>(wK i t w k).set (4 * i + k) ((wK i t w k).getD (4 * (i - 8) + k) 0 ^^^ t.getD k 0)
def wGo (key:List UInt8):Nat→List UInt8 × UInt8
 | 0=>(List.replicate 240 0,1)
 | i + 1=>let s:=wGo key i
  if i < 8 then (s.1.take (4 * i) ++ (key.drop (4 * i)).take 4 ++ s.1.drop (4 * i + 4),s.2)
  else (wK i (tOf i (wordAt s.1 (i - 1)) s.2) s.1 4,if i % 8 = 0 then dbl s.2 else s.2)
def putK (w:List UInt8):Nat→List UInt8
 | 0=>List.replicate 240 0
 | i + 1=>(putK w i).take (4 * i) ++ wordAt w i ++ (putK w i).drop (4 * i + 4)
def keysOf (key:List UInt8):List UInt8:=putK (wGo key 60).1 60
theorem wK_length (i:Nat) (t w:List UInt8):∀ k,(wK i t w k).length = w.length
 | 0=>rfl
 | k + 1=>by simp only [wK,List.length_set,wK_length i t w k]
theorem wGo_length {key:List UInt8} (hk:key.length = 32):∀ i,i ≤ 60→(wGo key i).1.length = 240
 | 0,_=>List.length_replicate
 | i + 1,h=>by
  have ih:=wGo_length hk i (by omega)
  simp only [wGo]
  split
  ·simp only [List.length_append,List.length_take,List.length_drop,ih,hk];omega
  ·rw [wK_length,ih]
theorem putK_length {w:List UInt8} (hw:w.length = 240):∀ j,j ≤ 60→(putK w j).length = 240
 | 0,_=>List.length_replicate
 | j + 1,h=>by
  have ih:=putK_length hw j (by omega)
  simp only [putK,wordAt,List.length_append,List.length_take,List.length_drop,ih,hw];omega
theorem put_step (w:List UInt8) (hw:w.length = 240) (j:Nat) (h:j < 60):putK w (j + 1) =
  (putK w j).take (((j:Int) % 4 * 4).toNat * 1 + ((j:Int) / 4).toNat * 16) ++
   ((w.drop ((j:Int).toNat * 4)).take 4).take (min ((w.drop ((j:Int).toNat * 4)).take 4).length (16 - ((j:Int) % 4 * 4).toNat)) ++
   (putK w j).drop (((j:Int) % 4 * 4).toNat * 1 + ((j:Int) / 4).toNat * 16 + min ((w.drop ((j:Int).toNat * 4)).take 4).length (16 - ((j:Int) % 4 * 4).toNat)):=by
 rw [show ((j:Int) % 4 * 4).toNat * 1 + ((j:Int) / 4).toNat * 16 = 4 * j by omega,show (j:Int).toNat * 4 = 4 * j by omega]
 have e:min ((w.drop (4 * j)).take 4).length (16 - ((j:Int) % 4 * 4).toNat) = 4:=by
  simp only [List.length_take,List.length_drop,hw];omega
 rw [e,List.take_take,Nat.min_self]
 rfl
theorem wK_step (i:Nat) (t w:List UInt8) (k:Nat) (h:8 ≤ i):wK i t w (k + 1) =
  (wK i t w k).set ((k:Int).toNat + (i:Int).toNat * 4) ((wK i t w k).getD ((k:Int).toNat + ((i:Int) - 8).toNat * 4) 0 ^^^ t.getD (k:Int).toNat 0):=by
 rw [show (k:Int).toNat + (i:Int).toNat * 4 = 4 * i + k by omega,show (k:Int).toNat + ((i:Int) - 8).toNat * 4 = 4 * (i - 8) + k by omega];rfl
theorem copy_key (w key:List UInt8) (hk:key.length = 32) (i:Nat) (h:i < 8) :
  w.take ((i:Int).toNat * 4) ++ ((key.drop ((4 * (i:Int)).toNat * 1 + 0)).take (32 - (4 * (i:Int)).toNat)).take (min ((key.drop ((4 * (i:Int)).toNat * 1 + 0)).take (32 - (4 * (i:Int)).toNat)).length 4) ++
   w.drop ((i:Int).toNat * 4 + min ((key.drop ((4 * (i:Int)).toNat * 1 + 0)).take (32 - (4 * (i:Int)).toNat)).length 4)
  = w.take (4 * i) ++ (key.drop (4 * i)).take 4 ++ w.drop (4 * i + 4):=by
 rw [show (i:Int).toNat * 4 = 4 * i by omega,show (4 * (i:Int)).toNat * 1 + 0 = 4 * i by omega,show (4 * (i:Int)).toNat = 4 * i by omega]
 have e:min ((key.drop (4 * i)).take (32 - 4 * i)).length 4 = 4:=by
  simp only [List.length_take,List.length_drop,hk];omega
 rw [e,List.take_take,show min 4 (32 - 4 * i) = 4 by omega]
set_option maxRecDepth 100000 in
theorem fn37 (key:List UInt8) (hk:key.length = 32):Sx.Fn Γ.P 37 [.a8 key] []
  (fun v M=>v = .ptr 1001 0 none∧M = [(1001,cipherO tabS tabB (keysOf key))]):=by
 refine fn_of (Γ:=Γ) (fn:=Try.f37) rfl rfl rfl rfl ?_
 repeat (refine sd ?_)
 refine Call.intro (fn53 (List.replicate 240 0)) [(1000,(11,0,none))] rfl fc rfl fc rfl ?_
 rintro v M' ⟨rfl,rfl⟩
 refine Loop.intro (σ:=Nat) (fun i=>i ≤ 60)
  (fun i=>([(1,.ptr 1 0 none),(3,.ptr 11 0 none),(4,.ptr 4 0 none),(5,.u8 (wGo key i).2),(14,.i .i64 i)],
   [(1,.mem true 0 [(32,.a8 key)]),(11,cipherO tabS tabB (List.replicate 240 0)),(4,.mem true 0 [(240,.a8 (wGo key i).1)])])) (fun i=>60 - i) 0 (Nat.zero_le _) ?_ ?_
 ·exact Le.intro [] rfl fc rfl fc rfl
 intro i hi
 refine Branch.intro (fun h=>?_) (fun h=>?_)
 ·refine Branch.intro (fun h8=>?_) (fun h8=>?_)
  ·have hwl:=wGo_length hk i (by omega)
   refine Draw.intro [[],[0],[0,1],[],[3],[3,4],[0,1,2,3,4,5]] [0,1,2,3,4,5,6] (by kernel_rfl) ?_
   repeat (refine sd ?_)
   have hw:=copy_key (wGo key i).1 key hk i (by omega)
   have hw2:(wGo key (i + 1)).1 = (wGo key i).1.take (4 * i) ++ (key.drop (4 * i)).take 4 ++ (wGo key i).1.drop (4 * i + 4):=by
    show (if i < 8 then _ else _:List UInt8 × UInt8).1 = _
    rw [if_pos (by omega)]
   have hw3:(wGo key (i + 1)).2 = (wGo key i).2:=by
    show (if i < 8 then _ else _:List UInt8 × UInt8).2 = _
    rw [if_pos (by omega)]
   rw [← hw2] at hw
   refine ⟨i + 1,by omega,by omega,Le.intro [] rfl fc rfl ⟨rfl,rfl,rfl,rfl,rfl,rfl,rfl,rfl,rfl,rfl,rfl,rfl,?_⟩ rfl⟩
   exact hw.symm
  ·have hwl:=wGo_length hk i (by omega)
   have htl:((wGo key i).1.drop (4 * (i - 1))).take 4 = wordAt (wGo key i).1 (i - 1):=rfl
   repeat (refine sd ?_)
   have hw2:(wGo key (i + 1)).1 = wK i (tOf i (wordAt (wGo key i).1 (i - 1)) (wGo key i).2) (wGo key i).1 4:=by
    show (if i < 8 then _ else _:List UInt8 × UInt8).1 = _
    rw [if_neg (by omega)]
   have hw3:(wGo key (i + 1)).2 = if i % 8 = 0 then dbl (wGo key i).2 else (wGo key i).2:=by
    show (if i < 8 then _ else _:List UInt8 × UInt8).2 = _
    rw [if_neg (by omega)]
   have ht:((wGo key i).1.drop (((i:Int) - 1).toNat * 4)).take 4 = wordAt (wGo key i).1 (i - 1):=by
    rw [show ((i:Int) - 1).toNat * 4 = 4 * (i - 1) by omega];rfl
   refine Branch.intro (fun h0=>?_) (fun h0=>?_)
   ·refine Draw.intro [[],[],[1],[0],[0,3],[0,1,2,3,4],[0,1,2,3,4,5],[],[0,1,2,3,4,5,6,7],[],[],[10],[9],[9,12],[9,10,11,12,13],[9,10,11,12,13,14],[],[],[17],[16],[16,19],[16,17,18,19,20],[16,17,18,19,20,21],[],[],[24],[23],[23,26],[23,24,25,26,27],[23,24,25,26,27,28],[0,1,2,3,4,5,6,7,8,9,10,11,12,13,14,15,16,17,18,19,20,21,22,23,24,25,26,27,28,29],[0,1,2,3,4,5,6,7,8,9,10,11,12,13,14,15,16,17,18,19,20,21,22,23,24,25,26,27,28,29,30]] [0,1,2,3,4,5,6,7,8,9,10,11,12,13,14,15,16,17,18,19,20,21,22,23,24,25,26,27,28,29,30,31] (by kernel_rfl) ?_
    repeat (refine sd ?_)
    refine Call.pure (fn54 (wGo key i).2) rfl fc ?_
    intro v hv
    subst hv
    have hT:tOf i (wordAt (wGo key i).1 (i - 1)) (wGo key i).2 = [tabS.getD ((((wGo key i).1.drop (((i:Int) - 1).toNat * 4)).take 4).getD 1 0).toNat 0 ^^^ (wGo key i).2,tabS.getD ((((wGo key i).1.drop (((i:Int) - 1).toNat * 4)).take 4).getD 2 0).toNat 0,tabS.getD ((((wGo key i).1.drop (((i:Int) - 1).toNat * 4)).take 4).getD 3 0).toNat 0,tabS.getD ((((wGo key i).1.drop (((i:Int) - 1).toNat * 4)).take 4).getD 0 0).toNat 0]:=by
     unfold tOf
     rw [if_pos (show i % 8 = 0 by omega),ht]
     try rfl
    have hR:(if i % 8 = 0 then dbl (wGo key i).2 else (wGo key i).2) = dbl (wGo key i).2:=by rw [if_pos (show i % 8 = 0 by omega)]
    refine Loop.intro (σ:=Nat) (fun k=>k ≤ 4)
     (fun k=>([(1,.ptr 1 0 none),(3,.ptr 11 0 none),(4,.ptr 4 0 none),(5,.u8 (if i % 8 = 0 then dbl (wGo key i).2 else (wGo key i).2)),(6,.i .i64 i),(7,.ptr 7 0 none),(14,.i .i64 i),(98,.i .i64 k)],
      [(1,.mem true 0 [(32,.a8 key)]),(11,cipherO tabS tabB (List.replicate 240 0)),(4,.mem true 0 [(240,.a8 (wK i (tOf i (wordAt (wGo key i).1 (i - 1)) (wGo key i).2) (wGo key i).1 k))]),(7,.mem true 0 [(4,.a8 (tOf i (wordAt (wGo key i).1 (i - 1)) (wGo key i).2))])])) (fun i=>4 - i) 0 (Nat.zero_le _) ?_ ?_
    ·exact Le.intro [] rfl ⟨hR,rfl,rfl,rfl⟩ rfl ⟨rfl,rfl,rfl,rfl,rfl,rfl,rfl,rfl,rfl,rfl,rfl,rfl,rfl,rfl,rfl,hT⟩ rfl
    intro k hk4
    refine Branch.intro (fun hk5=>?_) (fun hk5=>?_)
    ·refine Draw.intro [[],[],[],[2],[],[2,3],[2,3,4,5],[2,3,4,5,6],[],[8],[8,9],[2,3,4,5,6,7,8,9,10],[0],[0,1,2,3,4,5,6,7,8,9,10,11,12],[0,1,2,3,4,5,6,7,8,9,10,11,12,13]] [0,1,2,3,4,5,6,7,8,9,10,11,12,13,14] (by kernel_rfl) ?_
     repeat (refine sd ?_)
     have hv:=wK_step i (tOf i (wordAt (wGo key i).1 (i - 1)) (wGo key i).2) (wGo key i).1 k (by omega)
     exact ⟨k + 1,by omega,by omega,Le.intro [] rfl fc rfl ⟨rfl,rfl,rfl,rfl,rfl,rfl,rfl,rfl,rfl,rfl,rfl,rfl,hv,rfl,rfl,rfl⟩ rfl⟩
    ·have:k = 4:=by omega
     subst this
     repeat (refine sd ?_)
     refine ⟨i + 1,by omega,by omega,Le.intro [] rfl fc rfl fc rfl⟩
   ·repeat (refine sd ?_)
    refine Branch.intro (fun h4=>?_) (fun h4=>?_)
    ·refine Draw.intro [[],[],[1],[0],[0,3],[0,1,2,3,4],[0,1,2,3,4,5],[],[],[8],[7],[7,10],[7,8,9,10,11],[7,8,9,10,11,12],[],[],[15],[14],[14,17],[14,15,16,17,18],[14,15,16,17,18,19],[],[],[22],[21],[21,24],[21,22,23,24,25],[21,22,23,24,25,26],[0,1,2,3,4,5,6,7,8,9,10,11,12,13,14,15,16,17,18,19,20,21,22,23,24,25,26,27],[0,1,2,3,4,5,6,7,8,9,10,11,12,13,14,15,16,17,18,19,20,21,22,23,24,25,26,27,28]] [0,1,2,3,4,5,6,7,8,9,10,11,12,13,14,15,16,17,18,19,20,21,22,23,24,25,26,27,28,29] (by kernel_rfl) ?_
     repeat (refine sd ?_)
     have hT:tOf i (wordAt (wGo key i).1 (i - 1)) (wGo key i).2 = [tabS.getD ((((wGo key i).1.drop (((i:Int) - 1).toNat * 4)).take 4).getD 0 0).toNat 0,tabS.getD ((((wGo key i).1.drop (((i:Int) - 1).toNat * 4)).take 4).getD 1 0).toNat 0,tabS.getD ((((wGo key i).1.drop (((i:Int) - 1).toNat * 4)).take 4).getD 2 0).toNat 0,tabS.getD ((((wGo key i).1.drop (((i:Int) - 1).toNat * 4)).take 4).getD 3 0).toNat 0]:=by
      unfold tOf
      rw [if_neg (show ¬ i % 8 = 0 by omega),if_pos (show i % 8 = 4 by omega),ht]
      try rfl
     have hR:(if i % 8 = 0 then dbl (wGo key i).2 else (wGo key i).2) = (wGo key i).2:=by rw [if_neg (show ¬ i % 8 = 0 by omega)]
     refine Loop.intro (σ:=Nat) (fun k=>k ≤ 4)
      (fun k=>([(1,.ptr 1 0 none),(3,.ptr 11 0 none),(4,.ptr 4 0 none),(5,.u8 (if i % 8 = 0 then dbl (wGo key i).2 else (wGo key i).2)),(6,.i .i64 i),(7,.ptr 7 0 none),(14,.i .i64 i),(98,.i .i64 k)],
       [(1,.mem true 0 [(32,.a8 key)]),(11,cipherO tabS tabB (List.replicate 240 0)),(4,.mem true 0 [(240,.a8 (wK i (tOf i (wordAt (wGo key i).1 (i - 1)) (wGo key i).2) (wGo key i).1 k))]),(7,.mem true 0 [(4,.a8 (tOf i (wordAt (wGo key i).1 (i - 1)) (wGo key i).2))])])) (fun i=>4 - i) 0 (Nat.zero_le _) ?_ ?_
     ·exact Le.intro [] rfl ⟨hR,rfl,rfl,rfl⟩ rfl ⟨rfl,rfl,rfl,rfl,rfl,rfl,rfl,rfl,rfl,rfl,rfl,rfl,rfl,rfl,rfl,hT⟩ rfl
     intro k hk4
     refine Branch.intro (fun hk5=>?_) (fun hk5=>?_)
     ·refine Draw.intro [[],[],[],[2],[],[2,3],[2,3,4,5],[2,3,4,5,6],[],[8],[8,9],[2,3,4,5,6,7,8,9,10],[0],[0,1,2,3,4,5,6,7,8,9,10,11,12],[0,1,2,3,4,5,6,7,8,9,10,11,12,13]] [0,1,2,3,4,5,6,7,8,9,10,11,12,13,14] (by kernel_rfl) ?_
      repeat (refine sd ?_)
      have hv:=wK_step i (tOf i (wordAt (wGo key i).1 (i - 1)) (wGo key i).2) (wGo key i).1 k (by omega)
      exact ⟨k + 1,by omega,by omega,Le.intro [] rfl fc rfl ⟨rfl,rfl,rfl,rfl,rfl,rfl,rfl,rfl,rfl,rfl,rfl,rfl,hv,rfl,rfl,rfl⟩ rfl⟩
     ·have:k = 4:=by omega
      subst this
      repeat (refine sd ?_)
      refine ⟨i + 1,by omega,by omega,Le.intro [] rfl fc rfl fc rfl⟩
    ·skip
     have hT:tOf i (wordAt (wGo key i).1 (i - 1)) (wGo key i).2 = (((wGo key i).1.drop (((i:Int) - 1).toNat * 4)).take 4):=by
      unfold tOf
      rw [if_neg (show ¬ i % 8 = 0 by omega),if_neg (show ¬ i % 8 = 4 by omega),ht]
      try rfl
     have hR:(if i % 8 = 0 then dbl (wGo key i).2 else (wGo key i).2) = (wGo key i).2:=by rw [if_neg (show ¬ i % 8 = 0 by omega)]
     refine Loop.intro (σ:=Nat) (fun k=>k ≤ 4)
      (fun k=>([(1,.ptr 1 0 none),(3,.ptr 11 0 none),(4,.ptr 4 0 none),(5,.u8 (if i % 8 = 0 then dbl (wGo key i).2 else (wGo key i).2)),(6,.i .i64 i),(7,.ptr 7 0 none),(14,.i .i64 i),(98,.i .i64 k)],
       [(1,.mem true 0 [(32,.a8 key)]),(11,cipherO tabS tabB (List.replicate 240 0)),(4,.mem true 0 [(240,.a8 (wK i (tOf i (wordAt (wGo key i).1 (i - 1)) (wGo key i).2) (wGo key i).1 k))]),(7,.mem true 0 [(4,.a8 (tOf i (wordAt (wGo key i).1 (i - 1)) (wGo key i).2))])])) (fun i=>4 - i) 0 (Nat.zero_le _) ?_ ?_
     ·exact Le.intro [] rfl ⟨hR,rfl,rfl,rfl⟩ rfl ⟨rfl,rfl,rfl,rfl,rfl,rfl,rfl,rfl,rfl,rfl,rfl,rfl,rfl,rfl,rfl,hT⟩ rfl
     intro k hk4
     refine Branch.intro (fun hk5=>?_) (fun hk5=>?_)
     ·refine Draw.intro [[],[],[],[2],[],[2,3],[2,3,4,5],[2,3,4,5,6],[],[8],[8,9],[2,3,4,5,6,7,8,9,10],[0],[0,1,2,3,4,5,6,7,8,9,10,11,12],[0,1,2,3,4,5,6,7,8,9,10,11,12,13]] [0,1,2,3,4,5,6,7,8,9,10,11,12,13,14] (by kernel_rfl) ?_
      repeat (refine sd ?_)
      have hv:=wK_step i (tOf i (wordAt (wGo key i).1 (i - 1)) (wGo key i).2) (wGo key i).1 k (by omega)
      exact ⟨k + 1,by omega,by omega,Le.intro [] rfl fc rfl ⟨rfl,rfl,rfl,rfl,rfl,rfl,rfl,rfl,rfl,rfl,rfl,rfl,hv,rfl,rfl,rfl⟩ rfl⟩
     ·have:k = 4:=by omega
      subst this
      repeat (refine sd ?_)
      refine ⟨i + 1,by omega,by omega,Le.intro [] rfl fc rfl fc rfl⟩
 ·have:i = 60:=by omega
  subst this
  refine Loop.intro (σ:=Nat) (fun j=>j ≤ 60)
   (fun j=>([(3,.ptr 11 0 none),(4,.ptr 4 0 none),(117,.i .i64 j)],
    [(11,cipherO tabS tabB (putK (wGo key 60).1 j)),(4,.mem true 0 [(240,.a8 (wGo key 60).1)])])) (fun j=>60 - j) 0 (Nat.zero_le _) ?_ ?_
  ·exact Le.intro [] rfl fc rfl fc rfl
  intro j hj
  have hwl:=wGo_length hk 60 (by omega)
  have hpl:=putK_length hwl j hj
  refine Branch.intro (fun h2=>?_) (fun h2=>?_)
  ·refine Draw.intro [[],[],[1],[0],[0,3],[0,1,2,3,4],[],[6],[6,7],[0,1,2,3,4,5,6,7,8],[],[10],[10,11],[0,1,2,3,4,5,6,7,8,9,10,11,12]] [0,1,2,3,4,5,6,7,8,9,10,11,12,13] (by kernel_rfl) ?_
   repeat (refine sd ?_)
   have hv:=put_step (wGo key 60).1 hwl j (by omega)
   exact ⟨j + 1,by omega,by omega,Le.intro [] rfl fc rfl ⟨rfl,rfl,rfl,rfl,rfl,rfl,hv,rfl,rfl,rfl⟩ rfl⟩
  ·have:j = 60:=by omega
   subst this
   repeat (refine sd ?_)
   exact Ret.intro (.ptr 1001 0 none) [(1001,cipherO tabS tabB (keysOf key))] [(1001,(11,0,none))] rfl trivial ⟨rfl,rfl⟩ rfl trivial rfl fc rfl
end Go.Proofs.Ytimbdhpchlakfaa
namespace Go.Proofs.Ytimbdhpchlakfaa
open Go Go.Sx
theorem keysOf_length {key:List UInt8} (hk:key.length = 32):(keysOf key).length = 240:=putK_length (wGo_length hk 60 (by omega)) 60 (by omega)
end Go.Proofs.Ytimbdhpchlakfaa
namespace Go.Proofs.Ytimbdhpchlakfaa
open Go Go.Sx
def natS:List Nat:=[99,124,119,123,242,107,111,197,48,1,103,43,254,215,171,118,202,130,201,125,250,89,71,
240,173,212,162,175,156,164,114,192,183,253,147,38,54,63,247,204,52,165,229,241,113,216,
49,21,4,199,35,195,24,150,5,154,7,18,128,226,235,39,178,117,9,131,44,26,27,110,90,
160,82,59,214,179,41,227,47,132,83,209,0,237,32,252,177,91,106,203,190,57,74,76,88,
207,208,239,170,251,67,77,51,133,69,249,2,127,80,60,159,168,81,163,64,143,146,157,56,
245,188,182,218,33,16,255,243,210,205,12,19,236,95,151,68,23,196,167,126,61,100,93,25,
115,96,129,79,220,34,42,144,136,70,238,184,20,222,94,11,219,224,50,58,10,73,6,36,92,
194,211,172,98,145,149,228,121,231,200,55,109,141,213,78,169,108,86,244,234,101,122,174,
8,186,120,37,46,28,166,180,198,232,221,116,31,75,189,139,138,112,62,181,102,72,3,246,
14,97,53,87,185,134,193,29,158,225,248,152,17,105,217,142,148,155,30,135,233,206,85,40,
223,140,161,137,13,191,230,66,104,65,153,45,15,176,84,187,22]
def natB:List Nat:=[82,9,106,213,48,54,165,56,191,64,163,158,129,243,215,251,124,227,57,130,155,47,255,135,
52,142,67,68,196,222,233,203,84,123,148,50,166,194,35,61,238,76,149,11,66,250,195,78,
8,46,161,102,40,217,36,178,118,91,162,73,109,139,209,37,114,248,246,100,134,104,152,22,
212,164,92,204,93,101,182,146,108,112,72,80,253,237,185,218,94,21,70,87,167,141,157,
132,144,216,171,0,140,188,211,10,247,228,88,5,184,179,69,6,208,44,30,143,202,63,15,2,
193,175,189,3,1,19,138,107,58,145,17,65,79,103,220,234,151,242,207,206,240,180,230,115,
150,172,116,34,231,173,53,133,226,249,55,232,28,117,223,110,71,241,26,113,29,41,197,
137,111,183,98,14,170,24,190,27,252,86,62,75,198,210,121,32,154,219,192,254,120,205,90,
244,31,221,168,51,136,7,199,49,177,18,16,89,39,128,236,95,96,81,127,169,25,181,74,13,
45,229,122,159,147,201,156,239,160,224,59,77,174,42,245,176,200,235,187,60,131,83,153,
97,23,43,4,126,186,119,214,38,225,105,20,99,85,33,12,125]
set_option maxRecDepth 1000000 in
theorem tabS_nat:tabS.map UInt8.toNat = natS:=by kernel_rfl
set_option maxRecDepth 1000000 in
theorem tabB_nat:tabB.map UInt8.toNat = natB:=by kernel_rfl
set_option maxRecDepth 1000000 in
theorem natBS:(List.range 256).all (fun i=>Nat.beq (natB.getD (natS.getD i 0) 0) i) = true:=by kernel_rfl
theorem getD_map (l:List UInt8) (i:Nat):(l.map UInt8.toNat).getD i 0 = (l.getD i 0).toNat:=by
 simp only [List.getD_eq_getElem?_getD,List.getElem?_map]
 cases l[i]? <;> rfl
theorem back_s (x:UInt8):tabB.getD (tabS.getD x.toNat 0).toNat 0 = x:=by
 apply UInt8.toNat_inj.1
 rw [← getD_map,← getD_map,tabS_nat,tabB_nat]
 exact Nat.eq_of_beq_eq_true (List.all_eq_true.1 natBS x.toNat (List.mem_range.2 x.toNat_lt))
theorem len16 {l:List UInt8} (h:l.length = 16):∃ a0 a1 a2 a3 a4 a5 a6 a7 a8 a9 a10 a11 a12 a13 a14 a15,l = [a0,a1,a2,a3,a4,a5,a6,a7,a8,a9,a10,a11,a12,a13,a14,a15]:=by
 match l,h with
 | [a0,a1,a2,a3,a4,a5,a6,a7,a8,a9,a10,a11,a12,a13,a14,a15],_=>exact ⟨a0,a1,a2,a3,a4,a5,a6,a7,a8,a9,a10,a11,a12,a13,a14,a15,rfl⟩
theorem unsub_sub {b:List UInt8} (h:b.length = 16):unsub tabB (subT tabS b 16) 16 = b:=by
 obtain ⟨a0,a1,a2,a3,a4,a5,a6,a7,a8,a9,a10,a11,a12,a13,a14,a15,rfl⟩:=len16 h
 have:unsub tabB (subT tabS [a0,a1,a2,a3,a4,a5,a6,a7,a8,a9,a10,a11,a12,a13,a14,a15] 16) 16 =
  [a0,a1,a2,a3,a4,a5,a6,a7,a8,a9,a10,a11,a12,a13,a14,a15].map (fun x=>tabB.getD (tabS.getD x.toNat 0).toNat 0):=by kernel_rfl
 rw [this,List.map_congr_left (g:=id) (fun x _=>back_s x),List.map_id]
theorem add_add {k b:List UInt8} (hk:k.length = 16) (h:b.length = 16):addTo k 16 (addTo k 16 b) = b:=by
 obtain ⟨a0,a1,a2,a3,a4,a5,a6,a7,a8,a9,a10,a11,a12,a13,a14,a15,rfl⟩:=len16 h
 obtain ⟨k0,k1,k2,k3,k4,k5,k6,k7,k8,k9,k10,k11,k12,k13,k14,k15,rfl⟩:=len16 hk
 have:addTo [k0,k1,k2,k3,k4,k5,k6,k7,k8,k9,k10,k11,k12,k13,k14,k15] 16 (addTo [k0,k1,k2,k3,k4,k5,k6,k7,k8,k9,k10,k11,k12,k13,k14,k15] 16 [a0,a1,a2,a3,a4,a5,a6,a7,a8,a9,a10,a11,a12,a13,a14,a15]) = [a0 ^^^ k0 ^^^ k0,a1 ^^^ k1 ^^^ k1,a2 ^^^ k2 ^^^ k2,a3 ^^^ k3 ^^^ k3,a4 ^^^ k4 ^^^ k4,a5 ^^^ k5 ^^^ k5,a6 ^^^ k6 ^^^ k6,a7 ^^^ k7 ^^^ k7,a8 ^^^ k8 ^^^ k8,a9 ^^^ k9 ^^^ k9,a10 ^^^ k10 ^^^ k10,a11 ^^^ k11 ^^^ k11,a12 ^^^ k12 ^^^ k12,a13 ^^^ k13 ^^^ k13,a14 ^^^ k14 ^^^ k14,a15 ^^^ k15 ^^^ k15]:=by kernel_rfl
 rw [this]
 simp only [UInt8.xor_assoc,UInt8.xor_self,UInt8.xor_zero]
end Go.Proofs.Ytimbdhpchlakfaa
