/- What the functions of the program compute. No condition. -/
import Derived.Test.YtlbmkjckbfeejaaHwRef8ToRef10
import Derived.Test.YtlbmkjckbfeejaaHwCbc2ToSha1
set_option linter.unusedSimpArgs false
set_option linter.unusedVariables false
namespace Go.Proofs.Ytlbmkjckbfeejaa
open Go Go.Sx
def allJ (text:List UInt8) (j:Nat):List UInt8:=text ++ List.replicate j (fillOf text)
def rB (last all:List UInt8) (at_:Nat):Nat→List UInt8
 | 0=>List.replicate 16 0
 | i + 1=>(rB last all at_ i).set i (all.getD (at_ + i) 0 ^^^ last.getD i 0)
def rGoC (key bg all:List UInt8):Nat→List UInt8 × List UInt8
 | 0=>(bg,[])
 | i + 1=>let s:=rGoC key bg all i
  let l:=encK key (rB s.1 all (16 * i) 16)
  (l,s.2 ++ l)
theorem allJ_length (text:List UInt8) (j:Nat):(allJ text j).length = text.length + j:=by simp [allJ]
theorem allJ_succ (text:List UInt8) (j:Nat):allJ text (j + 1) = allJ text j ++ [fillOf text]:=by
 unfold allJ;rw [List.replicate_succ',List.append_assoc]
theorem rB_length (last all:List UInt8) (a:Nat):∀ i,(rB last all a i).length = 16
 | 0=>rfl
 | i + 1=>by simp only [rB,List.length_set,rB_length last all a i]
theorem rGoC_length1 (key:List UInt8) {bg:List UInt8} (hb:bg.length = 16) (all:List UInt8):∀ i,(rGoC key bg all i).1.length = 16
 | 0=>hb
 | i + 1=>encK_length key (rB_length _ _ _ 16)
theorem rGoC_length2 (key:List UInt8) {bg:List UInt8} (hb:bg.length = 16) (all:List UInt8):∀ i,(rGoC key bg all i).2.length = 16 * i
 | 0=>rfl
 | i + 1=>by
  have h1:=rGoC_length2 key hb all i
  have h2:=rGoC_length1 key hb all (i + 1)
  have e:(rGoC key bg all (i + 1)).2 = (rGoC key bg all i).2 ++ (rGoC key bg all (i + 1)).1:=rfl
  rw [e,List.length_append,h1,h2]
  omega
theorem allJ_get (text:List UInt8) {j k:Nat} (h:k < text.length + j):(allJ text j).getD k 0 = padAt text k:=by
 unfold allJ padAt
 rw [List.getD_eq_getElem?_getD]
 split
 ·rename_i hk
  rw [List.getElem?_append_left hk,List.getD_eq_getElem?_getD]
 ·rw [List.getElem?_append_right (by omega),List.getElem?_replicate,if_pos (by omega)];rfl
theorem rB_get {last:List UInt8} (all:List UInt8) (a:Nat):∀ (m:Nat),m ≤ 16→∀ j,j < 16→(rB last all a m).getD j 0 = if j < m then all.getD (a + j) 0 ^^^ last.getD j 0 else 0
 | 0,_,j,hj=>by
  rw [if_neg (Nat.not_lt_zero _)]
  show (List.replicate 16 (0:UInt8)).getD j 0 = 0
  rw [List.getD_eq_getElem?_getD,List.getElem?_replicate];split <;> rfl
 | m + 1,hm,j,hj=>by
  have ih:=rB_get all a (last:=last) m (by omega)
  simp only [rB]
  rw [set_getD _ _ _ _ (by rw [rB_length];omega),ih j hj]
  by_cases e:j = m
  ·subst e;rw [if_pos rfl,if_pos (by omega)]
  ·rw [if_neg e]
   by_cases h:j < m
   ·rw [if_pos h,if_pos (by omega)]
   ·rw [if_neg h,if_neg (by omega)]
theorem ext16 {a b:List UInt8} (ha:a.length = 16) (hb:b.length = 16) (h:∀ j,j < 16→a.getD j 0 = b.getD j 0):a = b:=by
 apply List.ext_getElem (by rw [ha,hb])
 intro j h1 h2
 have:=h j (by omega)
 rw [List.getD_eq_getElem?_getD,List.getD_eq_getElem?_getD,List.getElem?_eq_getElem h1,List.getElem?_eq_getElem h2] at this
 simpa using this
theorem rB_xKc {last:List UInt8} (hl:last.length = 16) (text:List UInt8) {j i:Nat} (h:16 * i + 16 ≤ text.length + j):rB last (allJ text j) (16 * i) 16 = xKc last text i 16:=by
 refine ext16 (rB_length _ _ _ _) (by rw [xKc_length,hl]) fun k hk=>?_
 rw [rB_get _ _ 16 (Nat.le_refl _) k hk,if_pos hk,allJ_get _ (by omega),xKc_get hl text i 16 k hk (Nat.le_refl _),if_pos hk,UInt8.xor_comm]
theorem rGoC_eq (key:List UInt8) {bg:List UInt8} (hb:bg.length = 16) (text:List UInt8) {j:Nat}:∀ i,16 * i ≤ text.length + j→rGoC key bg (allJ text j) i = cbcGo key bg text i
 | 0,_=>rfl
 | i + 1,h=>by
  have ih:=rGoC_eq key hb text (j:=j) i (by omega)
  have h1:=cbcGo_length1 key hb text i
  simp only [rGoC,cbcGo]
  rw [ih,rB_xKc h1 text (by omega)]
theorem rLockE (key b:List UInt8) (hk:key.length = 32) (hb:b.length = 16) :
  Sx.Fn Γ.P 49 [.agg [(1,.sl 1000 0 0 256 256),(1,.slx 1001 0 0 60)],.a8 b] [(1000,.mem false 0 [(256,.ai (zs natS))]),(1001,.mem false 0 (rowsW (wdK key) 60))]
   (fun v M=>v = .a8 (encK key b)∧M = [(1000,.mem false 0 [(256,.ai (zs natS))]),(1001,.mem false 0 (rowsW (wdK key) 60))]):=by
 unfold encK
 exact fnRL key b hk hb
set_option maxRecDepth 100000 in
set_option maxHeartbeats 1000000 in
theorem fn28 (key bg text:List UInt8) (n:Nat) (hk:key.length = 32) (hb:bg.length = 16) (hn:text.length = n) (hmax:n ≤ 4096) :
    Sx.Fn Γ.P 28 [.a8 key,.a8 bg,.slx 1000 0 0 n] [(1000,.mem false 0 [(n,.a8 text)])] (fun v M=>∃ c,n / 16 * 16 + 16 ≤ c∧v = .sl 1001 0 0 (n / 16 * 16 + 16) c∧M = [(1000,.mem false 0 [(n,.a8 text)]),(1001,.mem true (c - (n / 16 * 16 + 16)) [(n / 16 * 16 + 16,.a8 (cbcLock key bg text))])]):=by
  have hfill:UInt8.ofInt (16 - (n:Int) % 16) = fillOf text:=by
    unfold fillOf
    rw [show (16 - (n:Int) % 16) = ((16 - text.length % 16:Nat):Int) by omega,ofInt8]
  refine fn_of (Γ:=Γ) (fn:=Try.f28) rfl rfl rfl rfl ?_
  repeat (refine sd ?_)
  intro c0 hc0
  repeat (refine sd ?_)
  have ht0:List.take n (List.drop 0 text) = text:=by rw [List.drop_zero,List.take_of_length_le (by omega)]
  refine Loop.intro (σ:=Nat × Nat) (fun s=>s.1 ≤ 16 - n % 16∧n + s.1 ≤ s.2)
    (fun s=>([(2,.slx 1000 0 0 n),(3,.ptr 3 0 none),(4,.ptr 4 0 none),(7,.sl 200 0 0 (n + s.1) s.2),(8,.nsl),(9,.i .i64 (16 - (n:Int) % 16)),(10,.i .i64 s.1)],
      [(1000,.mem false 0 [(n,.a8 text)]),(3,.mem true 0 [(32,.a8 key)]),(4,.mem true 0 [(16,.a8 bg)]),(200,.mem true (s.2 - (n + s.1)) [(n + s.1,.a8 (allJ text s.1))])])) (fun s=>16 - n % 16 - s.1) (0,c0) ?_ ?_ ?_
  · exact ⟨Nat.zero_le _,by show n + 0 ≤ c0;omega⟩
  · refine Le.intro [(200,(18,0,none))] rfl ?_ rfl ?_ rfl
    · exact fc
    · have e0:allJ text 0 = text:=by simp [allJ]
      repeat' (first | (show AllP _;first | exact trivial | refine AllP.app ?_ ?_ | refine AllP.appd ?_ ?_ | refine AllP.cons ?_ ?_) | with_reducible rfl | with_reducible assumption | omega | (simp only [rng,Ix.val,addQ_eq,addI,sz3,by3,sz5,by5,sz22,by22,sz23,by23,sz51,by51,sz70,by70,sz73,by73,sz91,by91,sz92,by92,sz116,by116,sz117,by117] <;> omega) | (simp only [rng,Ix.val,Int.toNat_natCast,mulE_eq,addQ_eq,addI,Option.getD_none,Option.getD_some,List.length_take,List.length_drop,List.length_append,List.length_set,List.length_replicate,sz3,by3,sz5,by5,sz22,by22,sz23,by23,sz51,by51,sz70,by70,sz73,by73,sz91,by91,sz92,by92,sz116,by116,sz117,by117, *] <;> omega) | (simp only [Ix.val];with_reducible assumption) | exact UInt8.toNat_lt _ | (apply Eq.trans;(with_reducible assumption);exact rfl) | exact rfl | exact fun _ _=>rfl)
      all_goals (show allJ text 0 = [] ++ List.take n (List.drop 0 text);rw [ht0,e0];rfl)
  rintro ⟨i,c⟩ ⟨hi,hc⟩
  have hi:i ≤ 16 - n % 16:=hi
  have hc:n + i ≤ c:=hc
  have hal:=allJ_length text i
  refine Branch.intro (fun h=>?_) (fun h=>?_)
  · have h:(i:Int) < 16 - (n:Int) % 16:=h
    repeat (refine sd ?_)
    intro c' hc'
    repeat (refine sd ?_)
    refine ⟨(i + 1,c'),⟨by show i + 1 ≤ 16 - n % 16;omega,by show n + (i + 1) ≤ c';have:n + i + 1 ≤ c':=hc';omega⟩,by show 16 - n % 16 - (i + 1) < 16 - n % 16 - i;omega,Le.intro [(200,(32,0,none))] rfl ?_ rfl ?_ rfl⟩
    · exact fc
    · have e1:=allJ_succ text i
      repeat' (first | (show AllP _;first | exact trivial | refine AllP.app ?_ ?_ | refine AllP.appd ?_ ?_ | refine AllP.cons ?_ ?_) | with_reducible rfl | with_reducible assumption | omega | (simp only [rng,Ix.val,addQ_eq,addI,sz3,by3,sz5,by5,sz22,by22,sz23,by23,sz51,by51,sz70,by70,sz73,by73,sz91,by91,sz92,by92,sz116,by116,sz117,by117] <;> omega) | (simp only [rng,Ix.val,Int.toNat_natCast,mulE_eq,addQ_eq,addI,Option.getD_none,Option.getD_some,List.length_take,List.length_drop,List.length_append,List.length_set,List.length_replicate,sz3,by3,sz5,by5,sz22,by22,sz23,by23,sz51,by51,sz70,by70,sz73,by73,sz91,by91,sz92,by92,sz116,by116,sz117,by117, *] <;> omega) | (simp only [Ix.val];with_reducible assumption) | exact UInt8.toNat_lt _ | (apply Eq.trans;(with_reducible assumption);exact rfl) | exact rfl | exact fun _ _=>rfl)
      rw [hfill]
      exact e1
  · obtain rfl:i = 16 - n % 16:=by have h:¬ (i:Int) < 16 - (n:Int) % 16:=h;omega
    obtain ⟨A,hA⟩:∃ x,allJ text (16 - n % 16) = x:=⟨_,rfl⟩
    have hAl:=hal
    rw [hA] at hAl
    obtain ⟨L,hL⟩:∃ x,n + (16 - n % 16) = x:=⟨_,rfl⟩
    have hLe:L = n / 16 * 16 + 16:=by omega
    rw [hL] at hc
    repeat (refine sd ?_)
    refine Call.intro (fn48 key hk) [(1001,(1001,0,none)),(1002,(1002,0,none))] rfl fc rfl trivial rfl ?_
    rintro v M' ⟨c1,hc1,rfl,rfl⟩
    repeat (refine sd ?_)
    refine Loop.intro (σ:=Nat × Nat) (fun s=>s.1 ≤ n / 16 + 1∧16 * s.1 ≤ s.2)
      (fun s=>([(7,.sl 200 0 0 L c),(8,.sl 201 0 0 (16 * s.1) s.2),(11,.ptr 11 0 none),(12,.ptr 12 0 none),(13,.i .i64 (16 * s.1:Nat))],
        [(1000,.mem false 0 [(n,.a8 text)]),(200,.mem true (c - L) [(L,.a8 A)]),(11,.mem true 0 [(1,.sl 1001 0 0 256 256),(1,.sl 1002 0 0 60 c1)]),(12,.mem true 0 [(16,.a8 (rGoC key bg A s.1).1)]),
         (1001,.mem true 0 [(256,.ai (zs natS))]),(1002,.mem true (c1 - 60) (rowsW (wdK key) 60)),(201,.mem true (s.2 - 16 * s.1) [(16 * s.1,.a8 (rGoC key bg A s.1).2)])])) (fun s=>n / 16 + 1 - s.1) (0,0) ⟨Nat.zero_le _,Nat.zero_le _⟩ ?_ ?_
    · refine Le.ghost [.own 201 [(0,.a8 [])]] [(8,201)] [] rfl ⟨rfl,rfl,trivial⟩ rfl rfl ?_ rfl ?_ rfl
      · exact fc
      · have hA':=hA.symm
        clear hA
        exact fc
    rintro ⟨i,c2⟩ ⟨hi,hc2⟩
    have hi:i ≤ n / 16 + 1:=hi
    have hc2:16 * i ≤ c2:=hc2
    have hg1:=rGoC_length1 key hb A i
    have hg2:=rGoC_length2 key hb A i
    refine Branch.intro (fun h=>?_) (fun h=>?_)
    · have h:((16 * i:Nat):Int) < (L:Int):=h
      refine Loop.intro (σ:=Nat) (fun j=>j ≤ 16)
        (fun j=>([(7,.sl 200 0 0 L c),(8,.sl 201 0 0 (16 * i) c2),(11,.ptr 11 0 none),(12,.ptr 12 0 none),(13,.i .i64 (16 * i:Nat)),(14,.ptr 14 0 none),(15,.i .i64 j)],
          [(1000,.mem false 0 [(n,.a8 text)]),(200,.mem true (c - L) [(L,.a8 A)]),(11,.mem true 0 [(1,.sl 1001 0 0 256 256),(1,.sl 1002 0 0 60 c1)]),(12,.mem true 0 [(16,.a8 (rGoC key bg A i).1)]),
           (1001,.mem true 0 [(256,.ai (zs natS))]),(1002,.mem true (c1 - 60) (rowsW (wdK key) 60)),(201,.mem true (c2 - 16 * i) [(16 * i,.a8 (rGoC key bg A i).2)]),(14,.mem true 0 [(16,.a8 (rB (rGoC key bg A i).1 A (16 * i) j))])])) (fun j=>16 - j) 0 (Nat.zero_le _) ?_ ?_
      · refine Le.intro [] rfl fc rfl ?_ rfl
        exact fc
      rintro j hj
      have hrl:=rB_length (rGoC key bg A i).1 A (16 * i) j
      refine Branch.intro (fun h2=>?_) (fun h2=>?_)
      · have h2:(j:Int) < 16:=h2
        have ej:(((16 * i:Nat):Int) + j).toNat = 16 * i + j:=by omega
        refine Draw.intro [[],[],[],[],[2,3],[1,2,3,4],[1,2,3,4,5],[],[7],[7,8],[1,2,3,4,5,6,7,8,9],[0,1,2,3,4,5,6,7,8,9,10],[0,1,2,3,4,5,6,7,8,9,10,11]] [0,1,2,3,4,5,6,7,8,9,10,11,12] (by kernel_rfl) ?_
        repeat (refine Side.intro (by repeat' (first | (show AllP _;first | exact trivial | refine AllP.app ?_ ?_ | refine AllP.appd ?_ ?_ | refine AllP.cons ?_ ?_) | with_reducible rfl | with_reducible assumption | omega | (simp only [ej,rng,Ix.val,addQ_eq,addI,sz3,by3,sz5,by5,sz22,by22,sz23,by23,sz51,by51,sz70,by70,sz73,by73,sz91,by91,sz92,by92,sz116,by116,sz117,by117] <;> omega) | (simp only [ej,rng,Ix.val,Int.toNat_natCast,mulE_eq,addQ_eq,addI,Option.getD_none,Option.getD_some,List.length_take,List.length_drop,List.length_append,List.length_set,List.length_replicate,sz3,by3,sz5,by5,sz22,by22,sz23,by23,sz51,by51,sz70,by70,sz73,by73,sz91,by91,sz92,by92,sz116,by116,sz117,by117, *] <;> omega) | (simp only [Ix.val];with_reducible assumption) | exact UInt8.toNat_lt _ | (apply Eq.trans;(with_reducible assumption);exact rfl) | exact rfl | exact fun _ _=>rfl)) ?_)
        refine ⟨j + 1,by omega,by omega,Le.intro [] rfl fc rfl ?_ rfl⟩
        repeat' (first | (show AllP _;first | exact trivial | refine AllP.app ?_ ?_ | refine AllP.appd ?_ ?_ | refine AllP.cons ?_ ?_) | with_reducible rfl | with_reducible assumption | omega | (simp only [rng,Ix.val,addQ_eq,addI,sz3,by3,sz5,by5,sz22,by22,sz23,by23,sz51,by51,sz70,by70,sz73,by73,sz91,by91,sz92,by92,sz116,by116,sz117,by117] <;> omega) | (simp only [rng,Ix.val,Int.toNat_natCast,mulE_eq,addQ_eq,addI,Option.getD_none,Option.getD_some,List.length_take,List.length_drop,List.length_append,List.length_set,List.length_replicate,sz3,by3,sz5,by5,sz22,by22,sz23,by23,sz51,by51,sz70,by70,sz73,by73,sz91,by91,sz92,by92,sz116,by116,sz117,by117, *] <;> omega) | (simp only [Ix.val];with_reducible assumption) | exact UInt8.toNat_lt _ | (apply Eq.trans;(with_reducible assumption);exact rfl) | exact rfl | exact fun _ _=>rfl)
        all_goals simp only [ej,addQ_eq,Ix.val,Int.toNat_natCast,Nat.zero_add,rB]
      · obtain rfl:j = 16:=by have h2:¬ (j:Int) < 16:=h2;omega
        repeat (refine sd ?_)
        have hel:=encK_length key hrl
        refine Call.intro (rLockE key _ hk hrl) [(1000,(1001,0,none)),(1001,(1002,0,none))] rfl ?_ rfl ?_ rfl ?_
        · exact fc
        · exact fc
        rintro v M' ⟨rfl,rfl⟩
        repeat (refine sd ?_)
        intro c3 hc3
        repeat (refine sd ?_)
        have hc4:16 * (i + 1) ≤ c3:=hc3
        refine ⟨(i + 1,c3),⟨by show i + 1 ≤ n / 16 + 1;omega,hc4⟩,by show n / 16 + 1 - (i + 1) < n / 16 + 1 - i;omega,Le.intro [(201,(63,0,none))] rfl ?_ rfl ?_ rfl⟩
        · exact fc
        · have e1:(rGoC key bg A (i + 1)).1 = encK key (rB (rGoC key bg A i).1 A (16 * i) 16):=rfl
          have e2:(rGoC key bg A (i + 1)).2 = dropQ 0 (rGoC key bg A i).2 ++ List.take 16 (List.drop ((none:Option Nat).getD 0) (encK key (rB (rGoC key bg A i).1 A (16 * i) 16))):=by
            rw [Option.getD_none,List.drop_zero,List.take_of_length_le (by rw [hel];exact Nat.le_refl _)];rfl
          exact fc
    · obtain rfl:i = n / 16 + 1:=by have h:¬ ((16 * i:Nat):Int) < (L:Int):=h;omega
      have hfin:cbcLock key bg text = (rGoC key bg A (n / 16 + 1)).2:=by
        unfold cbcLock
        rw [hn,← hA,rGoC_eq key hb text (n / 16 + 1) (by omega)]
      refine Ret.intro (.sl 1001 0 0 (n / 16 * 16 + 16) c2) [(1000,.mem false 0 [(n,.a8 text)]),(1001,.mem true (c2 - (n / 16 * 16 + 16)) [(n / 16 * 16 + 16,.a8 (cbcLock key bg text))])] [(1001,(201,0,none))] rfl ?_ ⟨c2,by omega,rfl,rfl⟩ rfl ?_ rfl ?_ rfl
      · exact fc
      · exact fc
      · exact fc
end Go.Proofs.Ytlbmkjckbfeejaa
