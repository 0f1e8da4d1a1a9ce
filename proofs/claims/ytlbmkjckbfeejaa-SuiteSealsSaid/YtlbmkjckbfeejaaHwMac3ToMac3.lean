/- What the functions of the program compute. No condition. -/
import Derived.Test.YtlbmkjckbfeejaaHwMac2ToMac2
set_option linter.unusedSimpArgs false
set_option linter.unusedVariables false
namespace Go.Proofs.Ytlbmkjckbfeejaa
open Go Go.Sx
theorem take_map_succ {P:List UInt8} {c:UInt8} {i:Nat} (h:i < P.length):(P.map (· ^^^ c)).take (i + 1) = (P.map (· ^^^ c)).take i ++ [P.getD i 0 ^^^ c]:=by
 rw [List.take_add_one,List.getElem?_map,List.getElem?_eq_getElem h,List.getD_eq_getElem?_getD,List.getElem?_eq_getElem h]
 rfl
theorem copyPadG {kb:List UInt8} {l:Nat} (hl:kb.length = l) (h:l ≤ 64):padK kb = List.take 0 (List.replicate 64 0) ++ List.take (min (List.take l (List.drop 0 kb)).length 64) (List.take l (List.drop 0 kb)) ++
  List.drop (0 + min (List.take l (List.drop 0 kb)).length 64) (List.replicate 64 0):=by
 subst hl
 exact copyPad h
set_option maxRecDepth 100000 in
set_option maxHeartbeats 1000000 in
theorem fn29 (key text:List UInt8) (n m:Nat) (hk:key.length = n) (ht:text.length = m) (hn:n ≤ 50000000) (hm:m ≤ 50000000) :
  Sx.Fn Γ.P 29 [.slx 1000 0 0 n,.slx 1001 0 0 m] [(1000,.mem false 0 [(n,.a8 key)]),(1001,.mem false 0 [(m,.a8 text)])]
   (fun v M=>v = .a8 (hmac key text)∧M = [(1000,.mem false 0 [(n,.a8 key)]),(1001,.mem false 0 [(m,.a8 text)])]):=by
 refine fn_cut [7] (Γ:=Γ) (fn:=Try.f29) rfl rfl rfl rfl ?_
 have hS:=fn50 key n hk (by omega)
 rw [short_eq] at hS
 have hsl:=sha256_length key
 have hH:=hmac_eq key text
 have hHl:=hmac_length key text
 have hkb:=kbOf_length key
 repeat (refine sd ?_)
 refine Branch.intro (fun hc=>?_) (fun hc=>?_)
 ·have hc:(n:Int) > 64:=hc
  have hkk:kbOf key = sha256 key:=if_pos (by omega)
  rw [hkk] at hH hkb
  clear hkk
  generalize sha256 key = kb at hS hsl hH hkb
  repeat (refine sd ?_)
  refine Call.intro hS [(1000,(1000,0,none))] rfl fc rfl fc rfl ?_
  rintro v M' ⟨rfl,rfl⟩
  repeat (refine sd ?_)
  obtain ⟨P,hP⟩:∃ x,x = padK kb:=⟨_,rfl⟩
  have hPl:P.length = 64:=by rw [hP,padK_length hkb]
  refine Cut.intro (σ:=Unit) (fun _=>True) (fun _=>([(1,.slx 1001 0 0 m),(4,.ptr 4 0 none),(5,.sl 401 0 0 64 64)],
   [(1000,.mem false 0 [(n,.a8 key)]),(1001,.mem false 0 [(m,.a8 text)]),(4,.mem true 0 [(32,.a8 (List.replicate 32 0))]),(401,.mem true 0 [(64,.a8 P)])])) () trivial ?_ ?_
  ·refine Le.intro [(401,(20,0,none))] rfl ?_ rfl ?_ rfl
   ·exact fc
   ·repeat' (first | (show AllP _;first | exact trivial | refine AllP.app ?_ ?_ | refine AllP.appd ?_ ?_ | refine AllP.cons ?_ ?_) | with_reducible rfl | with_reducible assumption | omega | (simp only [rng,Ix.val,addQ_eq,addI,sz5,by5,sz22,by22,sz23,by23,sz95,by95] <;> omega) | (simp only [rng,Ix.val,Int.toNat_natCast,mulE_eq,addQ_eq,addI,Option.getD_none,Option.getD_some,List.length_take,List.length_drop,List.length_append,List.length_set,List.length_replicate,sz5,by5,sz22,by22,sz23,by23,sz95,by95, *] <;> omega) | (simp only [Ix.val];with_reducible assumption) | exact UInt8.toNat_lt _ | (apply Eq.trans;(with_reducible assumption);exact rfl) | exact rfl | exact fun _ _=>rfl)
    exact hP.trans (copyPadG hsl (by omega))
  rintro _ _
  rw [← hP] at hH
  clear hP
  obtain ⟨X1,hX1⟩:∃ x,x = P.map (· ^^^ 54):=⟨_,rfl⟩
  obtain ⟨X2,hX2⟩:∃ x,x = P.map (· ^^^ 92):=⟨_,rfl⟩
  have hx1:X1.length = 64:=by rw [hX1,List.length_map,hPl]
  have hx2:X2.length = 64:=by rw [hX2,List.length_map,hPl]
  have ht1:∀ i,i < 64→X1.take (i + 1) = X1.take i ++ [P.getD i 0 ^^^ 54]:=fun i hi=>by rw [hX1];exact take_map_succ (by omega)
  have ht2:∀ i,i < 64→X2.take (i + 1) = X2.take i ++ [P.getD i 0 ^^^ 92]:=fun i hi=>by rw [hX2];exact take_map_succ (by omega)
  rw [← hX1,← hX2] at hH
  clear hX1 hX2
  repeat (refine sd ?_)
  refine Loop.intro (σ:=Nat × Nat × Nat) (fun s=>s.1 ≤ 64∧s.1 ≤ s.2.1∧s.1 ≤ s.2.2)
   (fun s=>([(1,.slx 1001 0 0 m),(4,.ptr 4 0 none),(5,.sl 401 0 0 64 64),(7,.sl 203 0 0 s.1 s.2.1),(8,.sl 204 0 0 s.1 s.2.2),(9,.i .i64 s.1)],
    [(1000,.mem false 0 [(n,.a8 key)]),(1001,.mem false 0 [(m,.a8 text)]),(4,.mem true 0 [(32,.a8 (List.replicate 32 0))]),(401,.mem true 0 [(64,.a8 P)]),
     (203,.mem true (s.2.1 - s.1) [(s.1,.a8 (X1.take s.1))]),(204,.mem true (s.2.2 - s.1) [(s.1,.a8 (X2.take s.1))])])) (fun s=>64 - s.1) (0,0,0) ⟨Nat.zero_le _,Nat.le_refl _,Nat.le_refl _⟩ ?_ ?_
  ·refine Le.ghost [.own 203 [(0,.a8 [])],.own 204 [(0,.a8 [])]] [(7,203),(8,204)] [] rfl ⟨⟨rfl,rfl,trivial⟩,⟨rfl,rfl,trivial⟩⟩ rfl rfl ?_ rfl ?_ rfl
   ·exact fc
   ·exact fc
  rintro ⟨i,c1,c2⟩ ⟨hi,hc1,hc2⟩
  have hi:i ≤ 64:=hi
  have hc1:i ≤ c1:=hc1
  have hc2:i ≤ c2:=hc2
  refine Branch.intro (fun hc=>?_) (fun hc=>?_)
  ·have hc:(i:Int) < 64:=hc
   have hl1:(X1.take i).length = i:=by rw [List.length_take];omega
   have hl2:(X2.take i).length = i:=by rw [List.length_take];omega
   have hs1:=ht1 i (by omega)
   have hs2:=ht2 i (by omega)
   repeat (refine sdn ?_)
   refine fun c1' hc1'=>?_
   have hc1':i + 1 ≤ c1':=hc1'
   repeat (refine sdn ?_)
   refine fun c2' hc2'=>?_
   have hc2':i + 1 ≤ c2':=hc2'
   repeat (refine sdn ?_)
   refine ⟨(i + 1,c1',c2'),⟨by omega,hc1',hc2'⟩,by show 64 - (i + 1) < 64 - i;omega,Le.intro [(203,(35,0,none)),(204,(43,0,none))] rfl ?_ rfl ?_ rfl⟩
   ·exact fc
   ·exact fcn
  ·have h64:i = 64:=by have hc:¬ (i:Int) < 64:=hc;omega
   subst h64
   rw [List.take_of_length_le (by omega),List.take_of_length_le (by omega)]
   clear ht1 ht2 hc
   repeat (refine sd ?_)
   refine fun c3 hc3=>?_
   have hc3:64 + m ≤ c3:=hc3
   have hS1:=fn50 (X1 ++ text) (64 + m) (by rw [List.length_append,hx1,ht]) (by omega)
   rw [short_eq] at hS1
   have hs1:=sha256_length (X1 ++ text)
   generalize hI1:X1 ++ text = T1 at hS1 hs1 hH
   have hI2:T1 = X1 ++ List.take m (List.drop 0 text):=by rw [List.drop_zero,List.take_of_length_le (by omega),hI1]
   clear hI1
   generalize sha256 T1 = in2 at hS1 hs1 hH
   repeat (refine sd ?_)
   refine Call.intro hS1 [(1000,(46,0,none))] rfl ?_ rfl ?_ rfl ?_
   ·exact fc
   ·repeat' (first | (show AllP _;first | exact trivial | refine AllP.app ?_ ?_ | refine AllP.appd ?_ ?_ | refine AllP.cons ?_ ?_) | with_reducible rfl | with_reducible assumption | omega | (simp only [rng,Ix.val,addQ_eq,addI,sz5,by5,sz22,by22,sz23,by23,sz95,by95] <;> omega) | (simp only [rng,Ix.val,Int.toNat_natCast,mulE_eq,addQ_eq,addI,Option.getD_none,Option.getD_some,List.length_take,List.length_drop,List.length_append,List.length_set,List.length_replicate,sz5,by5,sz22,by22,sz23,by23,sz95,by95, *] <;> omega) | (simp only [Ix.val];with_reducible assumption) | exact UInt8.toNat_lt _ | (apply Eq.trans;(with_reducible assumption);exact rfl) | exact rfl | exact fun _ _=>rfl)
    all_goals exact hI2
   rintro v M' ⟨rfl,rfl⟩
   repeat (refine sd ?_)
   refine fun c4 hc4=>?_
   have hc4:64 + 32 ≤ c4:=hc4
   have hS2:=fn50 (X2 ++ in2) (64 + 32) (by rw [List.length_append,hx2,hs1]) (by omega)
   rw [short_eq,← hH] at hS2
   generalize hI3:X2 ++ in2 = T2 at hS2
   have hI4:T2 = X2 ++ List.take 32 (List.drop 0 in2):=by rw [List.drop_zero,List.take_of_length_le (by omega),hI3]
   clear hI3
   generalize hmac key text = out at hS2 hHl
   repeat (refine sd ?_)
   refine Call.intro hS2 [(1000,(51,0,none))] rfl ?_ rfl ?_ rfl ?_
   ·exact fc
   ·repeat' (first | (show AllP _;first | exact trivial | refine AllP.app ?_ ?_ | refine AllP.appd ?_ ?_ | refine AllP.cons ?_ ?_) | with_reducible rfl | with_reducible assumption | omega | (simp only [rng,Ix.val,addQ_eq,addI,sz5,by5,sz22,by22,sz23,by23,sz95,by95] <;> omega) | (simp only [rng,Ix.val,Int.toNat_natCast,mulE_eq,addQ_eq,addI,Option.getD_none,Option.getD_some,List.length_take,List.length_drop,List.length_append,List.length_set,List.length_replicate,sz5,by5,sz22,by22,sz23,by23,sz95,by95, *] <;> omega) | (simp only [Ix.val];with_reducible assumption) | exact UInt8.toNat_lt _ | (apply Eq.trans;(with_reducible assumption);exact rfl) | exact rfl | exact fun _ _=>rfl)
    all_goals exact hI4
   rintro v M' ⟨rfl,rfl⟩
   repeat (refine sd ?_)
   refine Ret.intro (.a8 out) [(1000,.mem false 0 [(n,.a8 key)]),(1001,.mem false 0 [(m,.a8 text)])] [] rfl ?_ ⟨rfl,rfl⟩ rfl ?_ rfl ?_ rfl
   ·exact fc
   ·exact fc
   ·exact fc
 ·have hc:¬ (n:Int) > 64:=hc
  have hkk:kbOf key = key:=if_neg (by omega)
  rw [hkk] at hH hkb
  clear hkk
  obtain ⟨P,hP⟩:∃ x,x = padK key:=⟨_,rfl⟩
  have hPl:P.length = 64:=by rw [hP,padK_length hkb]
  refine Cut.intro (σ:=Unit) (fun _=>True) (fun _=>([(1,.slx 1001 0 0 m),(4,.ptr 4 0 none),(5,.sl 401 0 0 64 64)],
   [(1000,.mem false 0 [(n,.a8 key)]),(1001,.mem false 0 [(m,.a8 text)]),(4,.mem true 0 [(32,.a8 (List.replicate 32 0))]),(401,.mem true 0 [(64,.a8 P)])])) () trivial ?_ ?_
  ·refine Le.intro [(401,(11,0,none))] rfl ?_ rfl ?_ rfl
   ·exact fc
   ·repeat' (first | (show AllP _;first | exact trivial | refine AllP.app ?_ ?_ | refine AllP.appd ?_ ?_ | refine AllP.cons ?_ ?_) | with_reducible rfl | with_reducible assumption | omega | (simp only [rng,Ix.val,addQ_eq,addI,sz5,by5,sz22,by22,sz23,by23,sz95,by95] <;> omega) | (simp only [rng,Ix.val,Int.toNat_natCast,mulE_eq,addQ_eq,addI,Option.getD_none,Option.getD_some,List.length_take,List.length_drop,List.length_append,List.length_set,List.length_replicate,sz5,by5,sz22,by22,sz23,by23,sz95,by95, *] <;> omega) | (simp only [Ix.val];with_reducible assumption) | exact UInt8.toNat_lt _ | (apply Eq.trans;(with_reducible assumption);exact rfl) | exact rfl | exact fun _ _=>rfl)
    exact hP.trans (copyPadG hk (by omega))
  rintro _ _
  rw [← hP] at hH
  clear hP
  obtain ⟨X1,hX1⟩:∃ x,x = P.map (· ^^^ 54):=⟨_,rfl⟩
  obtain ⟨X2,hX2⟩:∃ x,x = P.map (· ^^^ 92):=⟨_,rfl⟩
  have hx1:X1.length = 64:=by rw [hX1,List.length_map,hPl]
  have hx2:X2.length = 64:=by rw [hX2,List.length_map,hPl]
  have ht1:∀ i,i < 64→X1.take (i + 1) = X1.take i ++ [P.getD i 0 ^^^ 54]:=fun i hi=>by rw [hX1];exact take_map_succ (by omega)
  have ht2:∀ i,i < 64→X2.take (i + 1) = X2.take i ++ [P.getD i 0 ^^^ 92]:=fun i hi=>by rw [hX2];exact take_map_succ (by omega)
  rw [← hX1,← hX2] at hH
  clear hX1 hX2
  repeat (refine sd ?_)
  refine Loop.intro (σ:=Nat × Nat × Nat) (fun s=>s.1 ≤ 64∧s.1 ≤ s.2.1∧s.1 ≤ s.2.2)
   (fun s=>([(1,.slx 1001 0 0 m),(4,.ptr 4 0 none),(5,.sl 401 0 0 64 64),(7,.sl 203 0 0 s.1 s.2.1),(8,.sl 204 0 0 s.1 s.2.2),(9,.i .i64 s.1)],
    [(1000,.mem false 0 [(n,.a8 key)]),(1001,.mem false 0 [(m,.a8 text)]),(4,.mem true 0 [(32,.a8 (List.replicate 32 0))]),(401,.mem true 0 [(64,.a8 P)]),
     (203,.mem true (s.2.1 - s.1) [(s.1,.a8 (X1.take s.1))]),(204,.mem true (s.2.2 - s.1) [(s.1,.a8 (X2.take s.1))])])) (fun s=>64 - s.1) (0,0,0) ⟨Nat.zero_le _,Nat.le_refl _,Nat.le_refl _⟩ ?_ ?_
  ·refine Le.ghost [.own 203 [(0,.a8 [])],.own 204 [(0,.a8 [])]] [(7,203),(8,204)] [] rfl ⟨⟨rfl,rfl,trivial⟩,⟨rfl,rfl,trivial⟩⟩ rfl rfl ?_ rfl ?_ rfl
   ·exact fc
   ·exact fc
  rintro ⟨i,c1,c2⟩ ⟨hi,hc1,hc2⟩
  have hi:i ≤ 64:=hi
  have hc1:i ≤ c1:=hc1
  have hc2:i ≤ c2:=hc2
  refine Branch.intro (fun hc=>?_) (fun hc=>?_)
  ·have hc:(i:Int) < 64:=hc
   have hl1:(X1.take i).length = i:=by rw [List.length_take];omega
   have hl2:(X2.take i).length = i:=by rw [List.length_take];omega
   have hs1:=ht1 i (by omega)
   have hs2:=ht2 i (by omega)
   repeat (refine sdn ?_)
   refine fun c1' hc1'=>?_
   have hc1':i + 1 ≤ c1':=hc1'
   repeat (refine sdn ?_)
   refine fun c2' hc2'=>?_
   have hc2':i + 1 ≤ c2':=hc2'
   repeat (refine sdn ?_)
   refine ⟨(i + 1,c1',c2'),⟨by omega,hc1',hc2'⟩,by show 64 - (i + 1) < 64 - i;omega,Le.intro [(203,(35,0,none)),(204,(43,0,none))] rfl ?_ rfl ?_ rfl⟩
   ·exact fc
   ·exact fcn
  ·have h64:i = 64:=by have hc:¬ (i:Int) < 64:=hc;omega
   subst h64
   rw [List.take_of_length_le (by omega),List.take_of_length_le (by omega)]
   clear ht1 ht2 hc
   repeat (refine sd ?_)
   refine fun c3 hc3=>?_
   have hc3:64 + m ≤ c3:=hc3
   have hS1:=fn50 (X1 ++ text) (64 + m) (by rw [List.length_append,hx1,ht]) (by omega)
   rw [short_eq] at hS1
   have hs1:=sha256_length (X1 ++ text)
   generalize hI1:X1 ++ text = T1 at hS1 hs1 hH
   have hI2:T1 = X1 ++ List.take m (List.drop 0 text):=by rw [List.drop_zero,List.take_of_length_le (by omega),hI1]
   clear hI1
   generalize sha256 T1 = in2 at hS1 hs1 hH
   repeat (refine sd ?_)
   refine Call.intro hS1 [(1000,(46,0,none))] rfl ?_ rfl ?_ rfl ?_
   ·exact fc
   ·repeat' (first | (show AllP _;first | exact trivial | refine AllP.app ?_ ?_ | refine AllP.appd ?_ ?_ | refine AllP.cons ?_ ?_) | with_reducible rfl | with_reducible assumption | omega | (simp only [rng,Ix.val,addQ_eq,addI,sz5,by5,sz22,by22,sz23,by23,sz95,by95] <;> omega) | (simp only [rng,Ix.val,Int.toNat_natCast,mulE_eq,addQ_eq,addI,Option.getD_none,Option.getD_some,List.length_take,List.length_drop,List.length_append,List.length_set,List.length_replicate,sz5,by5,sz22,by22,sz23,by23,sz95,by95, *] <;> omega) | (simp only [Ix.val];with_reducible assumption) | exact UInt8.toNat_lt _ | (apply Eq.trans;(with_reducible assumption);exact rfl) | exact rfl | exact fun _ _=>rfl)
    all_goals exact hI2
   rintro v M' ⟨rfl,rfl⟩
   repeat (refine sd ?_)
   refine fun c4 hc4=>?_
   have hc4:64 + 32 ≤ c4:=hc4
   have hS2:=fn50 (X2 ++ in2) (64 + 32) (by rw [List.length_append,hx2,hs1]) (by omega)
   rw [short_eq,← hH] at hS2
   generalize hI3:X2 ++ in2 = T2 at hS2
   have hI4:T2 = X2 ++ List.take 32 (List.drop 0 in2):=by rw [List.drop_zero,List.take_of_length_le (by omega),hI3]
   clear hI3
   generalize hmac key text = out at hS2 hHl
   repeat (refine sd ?_)
   refine Call.intro hS2 [(1000,(51,0,none))] rfl ?_ rfl ?_ rfl ?_
   ·exact fc
   ·repeat' (first | (show AllP _;first | exact trivial | refine AllP.app ?_ ?_ | refine AllP.appd ?_ ?_ | refine AllP.cons ?_ ?_) | with_reducible rfl | with_reducible assumption | omega | (simp only [rng,Ix.val,addQ_eq,addI,sz5,by5,sz22,by22,sz23,by23,sz95,by95] <;> omega) | (simp only [rng,Ix.val,Int.toNat_natCast,mulE_eq,addQ_eq,addI,Option.getD_none,Option.getD_some,List.length_take,List.length_drop,List.length_append,List.length_set,List.length_replicate,sz5,by5,sz22,by22,sz23,by23,sz95,by95, *] <;> omega) | (simp only [Ix.val];with_reducible assumption) | exact UInt8.toNat_lt _ | (apply Eq.trans;(with_reducible assumption);exact rfl) | exact rfl | exact fun _ _=>rfl)
    all_goals exact hI4
   rintro v M' ⟨rfl,rfl⟩
   repeat (refine sd ?_)
   refine Ret.intro (.a8 out) [(1000,.mem false 0 [(n,.a8 key)]),(1001,.mem false 0 [(m,.a8 text)])] [] rfl ?_ ⟨rfl,rfl⟩ rfl ?_ rfl ?_ rfl
   ·exact fc
   ·exact fc
   ·exact fc
end Go.Proofs.Ytlbmkjckbfeejaa
