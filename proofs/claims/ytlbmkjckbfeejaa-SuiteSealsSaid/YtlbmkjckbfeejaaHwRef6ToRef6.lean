/- What the functions of the program compute. No condition. -/
import Derived.Test.YtlbmkjckbfeejaaHwRef1ToRef5
set_option linter.unusedSimpArgs false
set_option linter.unusedVariables false
namespace Go.Proofs.Ytlbmkjckbfeejaa
open Go Go.Sx
def sN (x:Nat):Nat:=natS.getD x 0
def rT (i:Nat) (t:List Nat) (p:Nat):List Nat:=
 if i % 8 = 0 then [sN (t.getD 1 0) ^^^ p,sN (t.getD 2 0),sN (t.getD 3 0),sN (t.getD 0 0)]
 else if i % 8 = 4 then [sN (t.getD 0 0),sN (t.getD 1 0),sN (t.getD 2 0),sN (t.getD 3 0)] else t
def rX (t w:List Nat):Nat→List Nat
 | 0=>t
 | k + 1=>(rX t w k).set k ((rX t w k).getD k 0 ^^^ w.getD k 0)
def rGo (key:List UInt8):Nat→List (List Nat) × Nat
 | 0=>([],1)
 | i + 1=>let s:=rGo key i
  if i < 8 then (s.1 ++ [[(key.getD (4 * i) 0).toNat,(key.getD (4 * i + 1) 0).toNat,(key.getD (4 * i + 2) 0).toNat,(key.getD (4 * i + 3) 0).toNat]],s.2)
  else (s.1 ++ [rX (rT i (s.1.getD (i - 1) []) s.2) (s.1.getD (i - 8) []) 4],if i % 8 = 0 then rTimes s.2 2 else s.2)
theorem rX_length (t w:List Nat):∀ k,(rX t w k).length = t.length
 | 0=>rfl
 | k + 1=>by simp only [rX,List.length_set,rX_length t w k]
theorem rGo_length (key:List UInt8):∀ i,(rGo key i).1.length = i
 | 0=>rfl
 | i + 1=>by
  have ih:=rGo_length key i
  simp only [rGo]
  split <;> simp [ih]
def W4 (l:List Nat):Prop:=∃ a b c d,l = [a,b,c,d]∧a < 256∧b < 256∧c < 256∧d < 256
set_option maxRecDepth 1000000 in
theorem natS_all:natS.all (fun x=>Nat.blt x 256) = true:=by kernel_rfl
theorem sN_lt (x:Nat):sN x < 256:=by
 unfold sN
 rw [List.getD_eq_getElem?_getD]
 cases h:natS[x]? with
 | none=>exact Nat.zero_lt_succ _
 | some y=>exact u_lt_of (List.all_eq_true.1 natS_all y (List.mem_of_getElem? h))
theorem xor_lt8 {a b:Nat} (ha:a < 256) (hb:b < 256):a ^^^ b < 256:=Nat.xor_lt_two_pow (n:=8) ha hb
theorem W4.rT {t:List Nat} (h:W4 t) (i:Nat) {p:Nat} (hp:p < 256):W4 (rT i t p):=by
 unfold Go.Proofs.Ytlbmkjckbfeejaa.rT
 split
 ·exact ⟨_,_,_,_,rfl,xor_lt8 (sN_lt _) hp,sN_lt _,sN_lt _,sN_lt _⟩
 ·split
  ·exact ⟨_,_,_,_,rfl,sN_lt _,sN_lt _,sN_lt _,sN_lt _⟩
  ·exact h
theorem W4.rX {t w:List Nat} (h:W4 t) (k:W4 w):W4 (rX t w 4):=by
 obtain ⟨a,b,c,d,rfl,h1,h2,h3,h4⟩:=h
 obtain ⟨e,f,g,i,rfl,k1,k2,k3,k4⟩:=k
 exact ⟨_,_,_,_,rfl,xor_lt8 h1 k1,xor_lt8 h2 k2,xor_lt8 h3 k3,xor_lt8 h4 k4⟩
theorem W4.lt {t:List Nat} (h:W4 t):∀ j,t.getD j 0 < 256:=by
 obtain ⟨a,b,c,d,rfl,h1,h2,h3,h4⟩:=h
 intro j
 match j with
 | 0=>exact h1
 | 1=>exact h2
 | 2=>exact h3
 | 3=>exact h4
 | _ + 4=>exact Nat.zero_lt_succ _
theorem W4.length {t:List Nat} (h:W4 t):t.length = 4:=by
 obtain ⟨a,b,c,d,rfl,_⟩:=h;rfl
theorem rX_lt {t w:List Nat} (h:∀ j,t.getD j 0 < 256) (k:∀ j,w.getD j 0 < 256):∀ n j,(rX t w n).getD j 0 < 256
 | 0,j=>h j
 | n + 1,j=>by
  simp only [rX]
  have ih:=rX_lt h k n
  rw [List.getD_eq_getElem?_getD,List.getElem?_set]
  split
  ·split
   ·exact xor_lt8 (ih n) (k n)
   ·exact Nat.zero_lt_succ _
  ·rw [← List.getD_eq_getElem?_getD];exact ih j
theorem rGo_ok (key:List UInt8):∀ i,(∀ q,q < i→W4 ((rGo key i).1.getD q []))∧(rGo key i).2 < 256
 | 0=>⟨fun q h=>absurd h (Nat.not_lt_zero q),(by decide:1 < 256)⟩
 | i + 1=>by
  obtain ⟨ih,ihp⟩:=rGo_ok key i
  have hl:=rGo_length key i
  have app:∀ (x:List Nat),W4 x→∀ q,q < i + 1→W4 (((rGo key i).1 ++ [x]).getD q []):=by
   intro x hx q hq
   rw [List.getD_eq_getElem?_getD]
   by_cases h:q < i
   ·rw [List.getElem?_append_left (by omega),← List.getD_eq_getElem?_getD];exact ih q h
   ·have:q = (rGo key i).1.length:=by omega
    subst this
    rw [List.getElem?_append_right (Nat.le_refl _),Nat.sub_self];exact hx
  simp only [rGo]
  split
  ·exact ⟨app _ ⟨_,_,_,_,rfl,UInt8.toNat_lt _,UInt8.toNat_lt _,UInt8.toNat_lt _,UInt8.toNat_lt _⟩,ihp⟩
  ·rename_i h8
   refine ⟨app _ (W4.rX (W4.rT (ih _ (by omega)) _ ihp) (ih _ (by omega))),?_⟩
   show (if i % 8 = 0 then rTimes (rGo key i).2 2 else (rGo key i).2) < 256
   split
   ·exact rTimes_lt ihp 2
   ·exact ihp
def rowW (w:List (List Nat)) (q:Nat):List (Nat × SV):=[(1,.isl 0 4 1 [(4,.ai (zs (w.getD q [])))])]
def rowsW (w:List (List Nat)) (i:Nat):List (Nat × SV):=[(i,.arr i 1 (rowW w))]
theorem rowW_app {w:List (List Nat)} {i:Nat} (hl:w.length = i) (x:List Nat) {G:Nat→List (Nat × SV)} (hG:G 0 = [(1,.isl 0 4 1 [(4,.ai (zs x))])]) :
  ∀ q,q < i + 1→rowW (w ++ [x]) q = appF i (rowW w) G q:=by
 intro q hq
 by_cases h:q < i
 ·rw [appF_lt h]
  unfold rowW
  rw [List.getD_eq_getElem?_getD,List.getElem?_append_left (by omega),← List.getD_eq_getElem?_getD]
 ·have:q = i:=by omega
  subst this
  rw [appF_ge (Nat.le_refl _),Nat.sub_self,hG]
  unfold rowW
  rw [List.getD_eq_getElem?_getD,List.getElem?_append_right (by omega),hl,Nat.sub_self]
  rfl
set_option maxRecDepth 100000 in
set_option maxHeartbeats 1000000 in
theorem fn61 (key:List UInt8) (hk:key.length = 32):Sx.Fn Γ.P 61 [.sl 1000 0 0 256 256,.a8 key] [(1000,.mem false 0 [(256,.ai (zs natS))])]
  (fun v M=>∃ c,60 ≤ c∧v = .sl 1001 0 0 60 c∧M = [(1000,.mem false 0 [(256,.ai (zs natS))]),(1001,.mem true (c - 60) (rowsW (rGo key 60).1 60))]):=by
 refine fn_of (Γ:=Γ) (fn:=Try.f61) rfl rfl rfl rfl ?_
 repeat (refine sd ?_)
 refine Loop.intro (σ:=Nat × Nat) (fun s=>s.1 ≤ 60∧s.1 ≤ s.2)
  (fun s=>([(0,.sl 1000 0 0 256 256),(3,.ptr 3 0 none),(5,.sl 200 0 0 s.1 s.2),(6,.i .i64 ((rGo key s.1).2:Nat)),(7,.i .i64 s.1)],
   [(1000,.mem false 0 [(256,.ai (zs natS))]),(3,.mem true 0 [(32,.a8 key)]),(200,.mem true (s.2 - s.1) (rowsW (rGo key s.1).1 s.1))])) (fun s=>60 - s.1) (0,0) ⟨Nat.zero_le _,Nat.zero_le _⟩ ?_ ?_
 ·exact Le.ghost [.own 200 [(0,.arr 0 1 (rowW []))]] [(5,200)] [] rfl ⟨rfl,rfl,trivial⟩ rfl rfl fc rfl fc rfl
 rintro ⟨i,c⟩ ⟨hi,hc⟩
 have hi:i ≤ 60:=hi
 have hc:i ≤ c:=hc
 have hl:=rGo_length key i
 obtain ⟨hw,hp⟩:=rGo_ok key i
 refine Branch.intro (fun h=>?_) (fun h=>?_)
 ·have h:(i:Int) < 60:=h
  refine Branch.intro (fun h8=>?_) (fun h8=>?_)
  ·have h8:(i:Int) < 8:=h8
   refine Draw.intro [[],[],[1],[1,2],[1,2,3],[1,2,3,4],[],[6],[6,7],[6,7,8],[6,7,8,9],[6,7,8,9,10],[],[12],[12,13],[12,13,14],[12,13,14,15],[12,13,14,15,16],[],[18],[18,19],[18,19,20],[18,19,20,21],[18,19,20,21,22],[1,2,3,4,5,6,7,8,9,10,11,12,13,14,15,16,17,18,19,20,21,22,23],[1,2,3,4,5,6,7,8,9,10,11,12,13,14,15,16,17,18,19,20,21,22,23,24],[0,1,2,3,4,5,6,7,8,9,10,11,12,13,14,15,16,17,18,19,20,21,22,23,24,25],[0,1,2,3,4,5,6,7,8,9,10,11,12,13,14,15,16,17,18,19,20,21,22,23,24,25,26]] [0,1,2,3,4,5,6,7,8,9,10,11,12,13,14,15,16,17,18,19,20,21,22,23,24,25,26,27] (by kernel_rfl) ?_
   repeat (refine sd ?_)
   intro c' hc'
   repeat (refine sd ?_)
   refine ⟨(i + 1,c'),by omega,by show 60 - (i + 1) < 60 - i;omega,Le.intro [(200,(42,0,none))] rfl ?_ rfl ?_ rfl⟩
   ·have hpow:(rGo key (i + 1)).2 = (rGo key i).2:=by simp only [rGo];rw [if_pos (by omega)]
    exact fc
   ·have hnext:(rGo key (i + 1)).1 = (rGo key i).1 ++ [[(key.getD (4 * i) 0).toNat,(key.getD (4 * i + 1) 0).toNat,(key.getD (4 * i + 2) 0).toNat,(key.getD (4 * i + 3) 0).toNat]]:=by
     simp only [rGo];rw [if_pos (by omega)]
    repeat' (first | (show AllP _;first | exact trivial | refine AllP.app ?_ ?_ | refine AllP.appd ?_ ?_ | refine AllP.cons ?_ ?_) | with_reducible rfl | with_reducible assumption | omega | (simp only [rng,Ix.val,addQ_eq,addI,sz3,by3,sz5,by5,sz22,by22,sz70,by70,sz73,by73] <;> omega) | (simp only [rng,Ix.val,Int.toNat_natCast,mulE_eq,addQ_eq,addI,Option.getD_none,Option.getD_some,List.length_take,List.length_drop,List.length_append,List.length_set,List.length_replicate,sz3,by3,sz5,by5,sz22,by22,sz70,by70,sz73,by73, *] <;> omega) | (simp only [Ix.val];with_reducible assumption) | exact UInt8.toNat_lt _ | (apply Eq.trans;(with_reducible assumption);exact rfl) | exact rfl | exact fun _ _=>rfl)
    have k0:(4 * (i:Int)).toNat = 4 * i:=by omega
    have k1:(4 * (i:Int) + 1).toNat = 4 * i + 1:=by omega
    have k2:(4 * (i:Int) + 2).toNat = 4 * i + 2:=by omega
    have k3:(4 * (i:Int) + 3).toNat = 4 * i + 3:=by omega
    simp only [k0,k1,k2,k3]
    have hrow:=rowW_app hl [(key.getD (4 * i) 0).toNat,(key.getD (4 * i + 1) 0).toNat,(key.getD (4 * i + 2) 0).toNat,(key.getD (4 * i + 3) 0).toNat] (G:=rowF [[(1,.isl 0 4 1 [(4,.ai (zs [(key.getD (4 * i) 0).toNat,(key.getD (4 * i + 1) 0).toNat,(key.getD (4 * i + 2) 0).toNat,(key.getD (4 * i + 3) 0).toNat]))])]]) rfl
    rw [← hnext] at hrow
    exact hrow
  ·have h8:¬ (i:Int) < 8:=h8
   have hwi:=hw (i - 1) (by omega)
   have e1:((i:Int) - 1).toNat = i - 1:=by omega
   have t4:List.take 4 (zs ((rGo key i).1.getD (i - 1) [])) = zs ((rGo key i).1.getD (i - 1) []):=List.take_of_length_le (by rw [zs_length,hwi.length];omega)
   have hb:=hwi.lt
   have s0:=sN_lt ((rGo key i).1.getD (i - 1) []|>.getD 0 0)
   have s1:=sN_lt ((rGo key i).1.getD (i - 1) []|>.getD 1 0)
   have s2:=sN_lt ((rGo key i).1.getD (i - 1) []|>.getD 2 0)
   have s3:=sN_lt ((rGo key i).1.getD (i - 1) []|>.getD 3 0)
   have b0:=hb 0
   have b1:=hb 1
   have b2:=hb 2
   have b3:=hb 3
   unfold sN at s0 s1 s2 s3
   have hT4:=hwi.rT i hp
   have hw8:=hw (i - 8) (by omega)
   have e8:((i:Int) - 8).toNat = i - 8:=by omega
   have hnext:(rGo key (i + 1)).1 = (rGo key i).1 ++ [rX (rT i ((rGo key i).1.getD (i - 1) []) (rGo key i).2) ((rGo key i).1.getD (i - 8) []) 4]:=by
    simp only [rGo];rw [if_neg (by omega)]
   have hpow:(rGo key (i + 1)).2 = if i % 8 = 0 then rTimes (rGo key i).2 2 else (rGo key i).2:=by
    simp only [rGo];rw [if_neg (by omega)]
   obtain ⟨Tt,hTe⟩:∃ x,rT i ((rGo key i).1.getD (i - 1) []) (rGo key i).2 = x:=⟨_,rfl⟩
   obtain ⟨w8,hw8e⟩:∃ x,(rGo key i).1.getD (i - 8) [] = x:=⟨_,rfl⟩
   rw [hTe] at hT4 hnext
   rw [hw8e] at hw8 hnext
   have hXl:=rX_length Tt w8
   have hXb:=rX_lt hT4.lt hw8.lt
   have hTl:=hT4.length
   have hwl:=hw8.lt
   rw [hTl] at hXl
   repeat (refine Side.intro (by repeat' (first | (show AllP _;first | exact trivial | refine AllP.app ?_ ?_ | refine AllP.appd ?_ ?_ | refine AllP.cons ?_ ?_) | with_reducible rfl | with_reducible assumption | omega | (simp only [Nat.zero_add,e1,t4,zs_getD,List.nil_append,List.drop_zero,rng,Ix.val,addQ_eq,addI,sz3,by3,sz5,by5,sz22,by22,sz70,by70,sz73,by73] <;> omega) | (simp only [Nat.zero_add,e1,t4,zs_getD,List.nil_append,List.drop_zero,rng,Ix.val,Int.toNat_natCast,mulE_eq,addQ_eq,addI,Option.getD_none,Option.getD_some,List.length_take,List.length_drop,List.length_append,List.length_set,List.length_replicate,sz3,by3,sz5,by5,sz22,by22,sz70,by70,sz73,by73, *] <;> omega) | (simp only [Ix.val];with_reducible assumption) | exact UInt8.toNat_lt _ | (apply Eq.trans;(with_reducible assumption);exact rfl) | exact rfl | exact fun _ _=>rfl)) ?_)
   intro c' hc'
   repeat (refine Side.intro (by repeat' (first | (show AllP _;first | exact trivial | refine AllP.app ?_ ?_ | refine AllP.appd ?_ ?_ | refine AllP.cons ?_ ?_) | with_reducible rfl | with_reducible assumption | omega | (simp only [Nat.zero_add,e1,t4,zs_getD,List.nil_append,List.drop_zero,rng,Ix.val,addQ_eq,addI,sz3,by3,sz5,by5,sz22,by22,sz70,by70,sz73,by73] <;> omega) | (simp only [Nat.zero_add,e1,t4,zs_getD,List.nil_append,List.drop_zero,rng,Ix.val,Int.toNat_natCast,mulE_eq,addQ_eq,addI,Option.getD_none,Option.getD_some,List.length_take,List.length_drop,List.length_append,List.length_set,List.length_replicate,sz3,by3,sz5,by5,sz22,by22,sz70,by70,sz73,by73, *] <;> omega) | (simp only [Ix.val];with_reducible assumption) | exact UInt8.toNat_lt _ | (apply Eq.trans;(with_reducible assumption);exact rfl) | exact rfl | exact fun _ _=>rfl)) ?_)
   refine Branch.intro (fun h0=>?_) (fun h0=>?_)
   ·have h0:(i:Int) % 8 = 0:=h0
    refine Draw.intro [[],[],[1],[1,2],[0,1,2,3],[0,1,2,3,4],[],[0,1,2,3,4,5,6],[],[],[9],[9,10],[8,9,10,11],[8,9,10,11,12],[],[],[15],[15,16],[14,15,16,17],[14,15,16,17,18],[],[],[21],[21,22],[20,21,22,23],[20,21,22,23,24],[0,1,2,3,4,5,6,7,8,9,10,11,12,13,14,15,16,17,18,19,20,21,22,23,24,25],[0,1,2,3,4,5,6,7,8,9,10,11,12,13,14,15,16,17,18,19,20,21,22,23,24,25,26]] [0,1,2,3,4,5,6,7,8,9,10,11,12,13,14,15,16,17,18,19,20,21,22,23,24,25,26,27] (by kernel_rfl) ?_
    repeat (refine Side.intro (by repeat' (first | (show AllP _;first | exact trivial | refine AllP.app ?_ ?_ | refine AllP.appd ?_ ?_ | refine AllP.cons ?_ ?_) | with_reducible rfl | with_reducible assumption | omega | (simp only [Nat.zero_add,e1,t4,zs_getD,List.nil_append,List.drop_zero,rng,Ix.val,addQ_eq,addI,sz3,by3,sz5,by5,sz22,by22,sz70,by70,sz73,by73] <;> omega) | (simp only [Nat.zero_add,e1,t4,zs_getD,List.nil_append,List.drop_zero,rng,Ix.val,Int.toNat_natCast,mulE_eq,addQ_eq,addI,Option.getD_none,Option.getD_some,List.length_take,List.length_drop,List.length_append,List.length_set,List.length_replicate,sz3,by3,sz5,by5,sz22,by22,sz70,by70,sz73,by73, *] <;> omega) | (simp only [Ix.val];with_reducible assumption) | exact UInt8.toNat_lt _ | (apply Eq.trans;(with_reducible assumption);exact rfl) | exact rfl | exact fun _ _=>rfl)) ?_)
    refine Call.pure (fn62 (rGo key i).2 2 hp (by omega)) rfl fc ?_
    intro v hv
    subst hv
    repeat (refine sd ?_)
    refine Branch.intro (fun h4=>?_) (fun h4=>?_)
    ·have h4:(i:Int) % 8 = 4:=h4
     omega
    have hR:(if i % 8 = 0 then rTimes (rGo key i).2 2 else (rGo key i).2) = rTimes (rGo key i).2 2:=if_pos (by omega)
    have hT:rT i ((rGo key i).1.getD (i - 1) []) (rGo key i).2 = [sN (((rGo key i).1.getD (i - 1) []).getD 1 0) ^^^ (rGo key i).2,sN (((rGo key i).1.getD (i - 1) []).getD 2 0),sN (((rGo key i).1.getD (i - 1) []).getD 3 0),sN (((rGo key i).1.getD (i - 1) []).getD 0 0)]:=if_pos (by omega)
    rw [hTe] at hT
    rw [hR] at hpow
    refine Loop.intro (σ:=Nat) (fun k=>k ≤ 4)
     (fun k=>([(0,.sl 1000 0 0 256 256),(3,.ptr 3 0 none),(5,.sl 200 0 0 i c),(6,.i .i64 ((rTimes (rGo key i).2 2:Nat):Int)),(7,.i .i64 i),(8,.sl 201 0 0 4 4),(9,.i .i64 k)],
      [(1000,.mem false 0 [(256,.ai (zs natS))]),(3,.mem true 0 [(32,.a8 key)]),(200,.mem true (c - i) (rowsW (rGo key i).1 i)),(201,.mem true 0 [(4,.ai (zs (rX Tt w8 k)))])])) (fun k=>4 - k) 0 (Nat.zero_le _) ?_ ?_
    ·refine Le.intro [(201,(79,0,none))] rfl fc rfl ?_ rfl
     have f0:zs (rX Tt w8 0) = zs Tt:=rfl
     rw [f0,hT]
     repeat' (first | (show AllP _;first | exact trivial | refine AllP.app ?_ ?_ | refine AllP.appd ?_ ?_ | refine AllP.cons ?_ ?_) | with_reducible rfl | with_reducible assumption | omega | (simp only [rng,Ix.val,addQ_eq,addI,sz3,by3,sz5,by5,sz22,by22,sz70,by70,sz73,by73] <;> omega) | (simp only [rng,Ix.val,Int.toNat_natCast,mulE_eq,addQ_eq,addI,Option.getD_none,Option.getD_some,List.length_take,List.length_drop,List.length_append,List.length_set,List.length_replicate,sz3,by3,sz5,by5,sz22,by22,sz70,by70,sz73,by73, *] <;> omega) | (simp only [Ix.val];with_reducible assumption) | exact UInt8.toNat_lt _ | (apply Eq.trans;(with_reducible assumption);exact rfl) | exact rfl | exact fun _ _=>rfl)
     all_goals simp only [Nat.zero_add,e1,t4,zs_getD,List.nil_append,List.drop_zero,Int.toNat_natCast,addQ_eq,Ix.val,List.take_take]
     all_goals rfl
    rintro k hk4
    refine Branch.intro (fun hk=>?_) (fun hk=>?_)
    ·have hk:(k:Int) < 4:=hk
     have hXk:=hXb k k
     have hWk:=hwl k
     have hXlk:=hXl k
     have x1:=xor_lt8 hXk hWk
     refine Draw.intro [[],[],[],[],[2,3],[2,3,4],[],[],[7],[6,7,8],[6,7,8,9],[],[6,7,8,9,10,11],[6,7,8,9,10,11,12],[2,3,4,5,6,7,8,9,10,11,12,13],[0,1,2,3,4,5,6,7,8,9,10,11,12,13,14],[0,1,2,3,4,5,6,7,8,9,10,11,12,13,14,15]] [0,1,2,3,4,5,6,7,8,9,10,11,12,13,14,15,16] (by kernel_rfl) ?_
     repeat (refine Side.intro (by repeat' (first | (show AllP _;first | exact trivial | refine AllP.app ?_ ?_ | refine AllP.appd ?_ ?_ | refine AllP.cons ?_ ?_) | with_reducible rfl | with_reducible assumption | omega | (simp only [Nat.zero_add,e8,hw8e,zs_getD,Int.toNat_natCast,rng,Ix.val,addQ_eq,addI,sz3,by3,sz5,by5,sz22,by22,sz70,by70,sz73,by73] <;> omega) | (simp only [Nat.zero_add,e8,hw8e,zs_getD,Int.toNat_natCast,rng,Ix.val,Int.toNat_natCast,mulE_eq,addQ_eq,addI,Option.getD_none,Option.getD_some,List.length_take,List.length_drop,List.length_append,List.length_set,List.length_replicate,sz3,by3,sz5,by5,sz22,by22,sz70,by70,sz73,by73, *] <;> omega) | (simp only [Ix.val];with_reducible assumption) | exact UInt8.toNat_lt _ | (apply Eq.trans;(with_reducible assumption);exact rfl) | exact rfl | exact fun _ _=>rfl)) ?_)
     refine ⟨k + 1,by omega,by omega,Le.intro [] rfl fc rfl ?_ rfl⟩
     have hv:(zs (rX Tt w8 k)).set (addQ 0 ((k:Int).toNat)) (((((zs (rX Tt w8 k)).getD (addQ 0 ((k:Int).toNat)) 0).toNat ^^^ ((zs ((rGo key i).1.getD (addQ 0 (((i:Int) - 8).toNat)) [])).getD (addQ 0 ((k:Int).toNat)) 0).toNat:Nat):Int)) = zs (rX Tt w8 (k + 1)):=by
      simp only [addQ_eq,Nat.zero_add,Int.toNat_natCast,e8,hw8e,zs_getD,zs_set,rX]
     repeat' (first | (show AllP _;first | exact trivial | refine AllP.app ?_ ?_ | refine AllP.appd ?_ ?_ | refine AllP.cons ?_ ?_) | with_reducible rfl | with_reducible assumption | omega | (simp only [rng,Ix.val,addQ_eq,addI,sz3,by3,sz5,by5,sz22,by22,sz70,by70,sz73,by73] <;> omega) | (simp only [rng,Ix.val,Int.toNat_natCast,mulE_eq,addQ_eq,addI,Option.getD_none,Option.getD_some,List.length_take,List.length_drop,List.length_append,List.length_set,List.length_replicate,sz3,by3,sz5,by5,sz22,by22,sz70,by70,sz73,by73, *] <;> omega) | (simp only [Ix.val];with_reducible assumption) | exact UInt8.toNat_lt _ | (apply Eq.trans;(with_reducible assumption);exact rfl) | exact rfl | exact fun _ _=>rfl)
     exact hv.symm
    ·obtain rfl:k = 4:=by have hk:¬ (k:Int) < 4:=hk;omega
     repeat (refine sd ?_)
     intro c2 hc2
     repeat (refine sd ?_)
     refine ⟨(i + 1,c2),⟨by show i + 1 ≤ 60;omega,hc2⟩,by show 60 - (i + 1) < 60 - i;omega,Le.intro [(200,(133,0,none))] rfl ?_ rfl ?_ rfl⟩
     ·exact fc
     ·have hrow:=rowW_app hl (rX Tt w8 4) (G:=rowF [[(1,.isl 0 4 1 [(4,.ai (zs (rX Tt w8 4)))])]]) rfl
      rw [← hnext] at hrow
      repeat' (first | (show AllP _;first | exact trivial | refine AllP.app ?_ ?_ | refine AllP.appd ?_ ?_ | refine AllP.cons ?_ ?_) | with_reducible rfl | with_reducible assumption | omega | (simp only [rng,Ix.val,addQ_eq,addI,sz3,by3,sz5,by5,sz22,by22,sz70,by70,sz73,by73] <;> omega) | (simp only [rng,Ix.val,Int.toNat_natCast,mulE_eq,addQ_eq,addI,Option.getD_none,Option.getD_some,List.length_take,List.length_drop,List.length_append,List.length_set,List.length_replicate,sz3,by3,sz5,by5,sz22,by22,sz70,by70,sz73,by73, *] <;> omega) | (simp only [Ix.val];with_reducible assumption) | exact UInt8.toNat_lt _ | (apply Eq.trans;(with_reducible assumption);exact rfl) | exact rfl | exact fun _ _=>rfl)
      exact hrow
   ·repeat (refine sd ?_)
    have hR:(if i % 8 = 0 then rTimes (rGo key i).2 2 else (rGo key i).2) = (rGo key i).2:=if_neg (fun e=>h0 (show (i:Int) % 8 = 0 by omega))
    have h0:¬ (i:Int) % 8 = 0:=h0
    refine Branch.intro (fun h4=>?_) (fun h4=>?_)
    ·have h4:(i:Int) % 8 = 4:=h4
     refine Draw.intro [[],[],[1],[1,2],[0,1,2,3],[0,1,2,3,4],[],[],[7],[7,8],[6,7,8,9],[6,7,8,9,10],[],[],[13],[13,14],[12,13,14,15],[12,13,14,15,16],[],[],[19],[19,20],[18,19,20,21],[18,19,20,21,22],[0,1,2,3,4,5,6,7,8,9,10,11,12,13,14,15,16,17,18,19,20,21,22,23],[0,1,2,3,4,5,6,7,8,9,10,11,12,13,14,15,16,17,18,19,20,21,22,23,24]] [0,1,2,3,4,5,6,7,8,9,10,11,12,13,14,15,16,17,18,19,20,21,22,23,24,25] (by kernel_rfl) ?_
     repeat (refine Side.intro (by repeat' (first | (show AllP _;first | exact trivial | refine AllP.app ?_ ?_ | refine AllP.appd ?_ ?_ | refine AllP.cons ?_ ?_) | with_reducible rfl | with_reducible assumption | omega | (simp only [Nat.zero_add,e1,t4,zs_getD,List.nil_append,List.drop_zero,rng,Ix.val,addQ_eq,addI,sz3,by3,sz5,by5,sz22,by22,sz70,by70,sz73,by73] <;> omega) | (simp only [Nat.zero_add,e1,t4,zs_getD,List.nil_append,List.drop_zero,rng,Ix.val,Int.toNat_natCast,mulE_eq,addQ_eq,addI,Option.getD_none,Option.getD_some,List.length_take,List.length_drop,List.length_append,List.length_set,List.length_replicate,sz3,by3,sz5,by5,sz22,by22,sz70,by70,sz73,by73, *] <;> omega) | (simp only [Ix.val];with_reducible assumption) | exact UInt8.toNat_lt _ | (apply Eq.trans;(with_reducible assumption);exact rfl) | exact rfl | exact fun _ _=>rfl)) ?_)
     have hT:rT i ((rGo key i).1.getD (i - 1) []) (rGo key i).2 = [sN (((rGo key i).1.getD (i - 1) []).getD 0 0),sN (((rGo key i).1.getD (i - 1) []).getD 1 0),sN (((rGo key i).1.getD (i - 1) []).getD 2 0),sN (((rGo key i).1.getD (i - 1) []).getD 3 0)]:=by
      unfold rT
      rw [if_neg (by omega),if_pos (by omega)]
     rw [hTe] at hT
     rw [hR] at hpow
     refine Loop.intro (σ:=Nat) (fun k=>k ≤ 4)
      (fun k=>([(0,.sl 1000 0 0 256 256),(3,.ptr 3 0 none),(5,.sl 200 0 0 i c),(6,.i .i64 (((rGo key i).2:Nat):Int)),(7,.i .i64 i),(8,.sl 201 0 0 4 4),(9,.i .i64 k)],
       [(1000,.mem false 0 [(256,.ai (zs natS))]),(3,.mem true 0 [(32,.a8 key)]),(200,.mem true (c - i) (rowsW (rGo key i).1 i)),(201,.mem true 0 [(4,.ai (zs (rX Tt w8 k)))])])) (fun k=>4 - k) 0 (Nat.zero_le _) ?_ ?_
     ·refine Le.intro [(201,(109,0,none))] rfl fc rfl ?_ rfl
      have f0:zs (rX Tt w8 0) = zs Tt:=rfl
      rw [f0,hT]
      repeat' (first | (show AllP _;first | exact trivial | refine AllP.app ?_ ?_ | refine AllP.appd ?_ ?_ | refine AllP.cons ?_ ?_) | with_reducible rfl | with_reducible assumption | omega | (simp only [rng,Ix.val,addQ_eq,addI,sz3,by3,sz5,by5,sz22,by22,sz70,by70,sz73,by73] <;> omega) | (simp only [rng,Ix.val,Int.toNat_natCast,mulE_eq,addQ_eq,addI,Option.getD_none,Option.getD_some,List.length_take,List.length_drop,List.length_append,List.length_set,List.length_replicate,sz3,by3,sz5,by5,sz22,by22,sz70,by70,sz73,by73, *] <;> omega) | (simp only [Ix.val];with_reducible assumption) | exact UInt8.toNat_lt _ | (apply Eq.trans;(with_reducible assumption);exact rfl) | exact rfl | exact fun _ _=>rfl)
      all_goals simp only [Nat.zero_add,e1,t4,zs_getD,List.nil_append,List.drop_zero,Int.toNat_natCast,addQ_eq,Ix.val,List.take_take]
      all_goals rfl
     rintro k hk4
     refine Branch.intro (fun hk=>?_) (fun hk=>?_)
     ·have hk:(k:Int) < 4:=hk
      have hXk:=hXb k k
      have hWk:=hwl k
      have hXlk:=hXl k
      have x1:=xor_lt8 hXk hWk
      refine Draw.intro [[],[],[],[],[2,3],[2,3,4],[],[],[7],[6,7,8],[6,7,8,9],[],[6,7,8,9,10,11],[6,7,8,9,10,11,12],[2,3,4,5,6,7,8,9,10,11,12,13],[0,1,2,3,4,5,6,7,8,9,10,11,12,13,14],[0,1,2,3,4,5,6,7,8,9,10,11,12,13,14,15]] [0,1,2,3,4,5,6,7,8,9,10,11,12,13,14,15,16] (by kernel_rfl) ?_
      repeat (refine Side.intro (by repeat' (first | (show AllP _;first | exact trivial | refine AllP.app ?_ ?_ | refine AllP.appd ?_ ?_ | refine AllP.cons ?_ ?_) | with_reducible rfl | with_reducible assumption | omega | (simp only [Nat.zero_add,e8,hw8e,zs_getD,Int.toNat_natCast,rng,Ix.val,addQ_eq,addI,sz3,by3,sz5,by5,sz22,by22,sz70,by70,sz73,by73] <;> omega) | (simp only [Nat.zero_add,e8,hw8e,zs_getD,Int.toNat_natCast,rng,Ix.val,Int.toNat_natCast,mulE_eq,addQ_eq,addI,Option.getD_none,Option.getD_some,List.length_take,List.length_drop,List.length_append,List.length_set,List.length_replicate,sz3,by3,sz5,by5,sz22,by22,sz70,by70,sz73,by73, *] <;> omega) | (simp only [Ix.val];with_reducible assumption) | exact UInt8.toNat_lt _ | (apply Eq.trans;(with_reducible assumption);exact rfl) | exact rfl | exact fun _ _=>rfl)) ?_)
      refine ⟨k + 1,by omega,by omega,Le.intro [] rfl fc rfl ?_ rfl⟩
      have hv:(zs (rX Tt w8 k)).set (addQ 0 ((k:Int).toNat)) (((((zs (rX Tt w8 k)).getD (addQ 0 ((k:Int).toNat)) 0).toNat ^^^ ((zs ((rGo key i).1.getD (addQ 0 (((i:Int) - 8).toNat)) [])).getD (addQ 0 ((k:Int).toNat)) 0).toNat:Nat):Int)) = zs (rX Tt w8 (k + 1)):=by
       simp only [addQ_eq,Nat.zero_add,Int.toNat_natCast,e8,hw8e,zs_getD,zs_set,rX]
      repeat' (first | (show AllP _;first | exact trivial | refine AllP.app ?_ ?_ | refine AllP.appd ?_ ?_ | refine AllP.cons ?_ ?_) | with_reducible rfl | with_reducible assumption | omega | (simp only [rng,Ix.val,addQ_eq,addI,sz3,by3,sz5,by5,sz22,by22,sz70,by70,sz73,by73] <;> omega) | (simp only [rng,Ix.val,Int.toNat_natCast,mulE_eq,addQ_eq,addI,Option.getD_none,Option.getD_some,List.length_take,List.length_drop,List.length_append,List.length_set,List.length_replicate,sz3,by3,sz5,by5,sz22,by22,sz70,by70,sz73,by73, *] <;> omega) | (simp only [Ix.val];with_reducible assumption) | exact UInt8.toNat_lt _ | (apply Eq.trans;(with_reducible assumption);exact rfl) | exact rfl | exact fun _ _=>rfl)
      exact hv.symm
     ·obtain rfl:k = 4:=by have hk:¬ (k:Int) < 4:=hk;omega
      repeat (refine sd ?_)
      intro c2 hc2
      repeat (refine sd ?_)
      refine ⟨(i + 1,c2),⟨by show i + 1 ≤ 60;omega,hc2⟩,by show 60 - (i + 1) < 60 - i;omega,Le.intro [(200,(133,0,none))] rfl ?_ rfl ?_ rfl⟩
      ·exact fc
      ·have hrow:=rowW_app hl (rX Tt w8 4) (G:=rowF [[(1,.isl 0 4 1 [(4,.ai (zs (rX Tt w8 4)))])]]) rfl
       rw [← hnext] at hrow
       repeat' (first | (show AllP _;first | exact trivial | refine AllP.app ?_ ?_ | refine AllP.appd ?_ ?_ | refine AllP.cons ?_ ?_) | with_reducible rfl | with_reducible assumption | omega | (simp only [rng,Ix.val,addQ_eq,addI,sz3,by3,sz5,by5,sz22,by22,sz70,by70,sz73,by73] <;> omega) | (simp only [rng,Ix.val,Int.toNat_natCast,mulE_eq,addQ_eq,addI,Option.getD_none,Option.getD_some,List.length_take,List.length_drop,List.length_append,List.length_set,List.length_replicate,sz3,by3,sz5,by5,sz22,by22,sz70,by70,sz73,by73, *] <;> omega) | (simp only [Ix.val];with_reducible assumption) | exact UInt8.toNat_lt _ | (apply Eq.trans;(with_reducible assumption);exact rfl) | exact rfl | exact fun _ _=>rfl)
       exact hrow
    ·have h4:¬ (i:Int) % 8 = 4:=h4
     have hT:rT i ((rGo key i).1.getD (i - 1) []) (rGo key i).2 = (rGo key i).1.getD (i - 1) []:=by
      unfold rT
      rw [if_neg (by omega),if_neg (by omega)]
     rw [hTe] at hT
     rw [hR] at hpow
     refine Loop.intro (σ:=Nat) (fun k=>k ≤ 4)
      (fun k=>([(0,.sl 1000 0 0 256 256),(3,.ptr 3 0 none),(5,.sl 200 0 0 i c),(6,.i .i64 (((rGo key i).2:Nat):Int)),(7,.i .i64 i),(8,.sl 201 0 0 4 c'),(9,.i .i64 k)],
       [(1000,.mem false 0 [(256,.ai (zs natS))]),(3,.mem true 0 [(32,.a8 key)]),(200,.mem true (c - i) (rowsW (rGo key i).1 i)),(201,.mem true (c' - 4) [(4,.ai (zs (rX Tt w8 k)))])])) (fun k=>4 - k) 0 (Nat.zero_le _) ?_ ?_
     ·refine Le.intro [(201,(49,0,none))] rfl fc rfl ?_ rfl
      have f0:zs (rX Tt w8 0) = zs Tt:=rfl
      rw [f0,hT]
      repeat' (first | (show AllP _;first | exact trivial | refine AllP.app ?_ ?_ | refine AllP.appd ?_ ?_ | refine AllP.cons ?_ ?_) | with_reducible rfl | with_reducible assumption | omega | (simp only [rng,Ix.val,addQ_eq,addI,sz3,by3,sz5,by5,sz22,by22,sz70,by70,sz73,by73] <;> omega) | (simp only [rng,Ix.val,Int.toNat_natCast,mulE_eq,addQ_eq,addI,Option.getD_none,Option.getD_some,List.length_take,List.length_drop,List.length_append,List.length_set,List.length_replicate,sz3,by3,sz5,by5,sz22,by22,sz70,by70,sz73,by73, *] <;> omega) | (simp only [Ix.val];with_reducible assumption) | exact UInt8.toNat_lt _ | (apply Eq.trans;(with_reducible assumption);exact rfl) | exact rfl | exact fun _ _=>rfl)
      all_goals simp only [Nat.zero_add,e1,t4,zs_getD,List.nil_append,List.drop_zero,Int.toNat_natCast,addQ_eq,Ix.val,List.take_take]
      all_goals rfl
     rintro k hk4
     refine Branch.intro (fun hk=>?_) (fun hk=>?_)
     ·have hk:(k:Int) < 4:=hk
      have hXk:=hXb k k
      have hWk:=hwl k
      have hXlk:=hXl k
      have x1:=xor_lt8 hXk hWk
      refine Draw.intro [[],[],[],[],[2,3],[2,3,4],[],[],[7],[6,7,8],[6,7,8,9],[],[6,7,8,9,10,11],[6,7,8,9,10,11,12],[2,3,4,5,6,7,8,9,10,11,12,13],[0,1,2,3,4,5,6,7,8,9,10,11,12,13,14],[0,1,2,3,4,5,6,7,8,9,10,11,12,13,14,15]] [0,1,2,3,4,5,6,7,8,9,10,11,12,13,14,15,16] (by kernel_rfl) ?_
      repeat (refine Side.intro (by repeat' (first | (show AllP _;first | exact trivial | refine AllP.app ?_ ?_ | refine AllP.appd ?_ ?_ | refine AllP.cons ?_ ?_) | with_reducible rfl | with_reducible assumption | omega | (simp only [Nat.zero_add,e8,hw8e,zs_getD,Int.toNat_natCast,rng,Ix.val,addQ_eq,addI,sz3,by3,sz5,by5,sz22,by22,sz70,by70,sz73,by73] <;> omega) | (simp only [Nat.zero_add,e8,hw8e,zs_getD,Int.toNat_natCast,rng,Ix.val,Int.toNat_natCast,mulE_eq,addQ_eq,addI,Option.getD_none,Option.getD_some,List.length_take,List.length_drop,List.length_append,List.length_set,List.length_replicate,sz3,by3,sz5,by5,sz22,by22,sz70,by70,sz73,by73, *] <;> omega) | (simp only [Ix.val];with_reducible assumption) | exact UInt8.toNat_lt _ | (apply Eq.trans;(with_reducible assumption);exact rfl) | exact rfl | exact fun _ _=>rfl)) ?_)
      refine ⟨k + 1,by omega,by omega,Le.intro [] rfl fc rfl ?_ rfl⟩
      have hv:(zs (rX Tt w8 k)).set (addQ 0 ((k:Int).toNat)) (((((zs (rX Tt w8 k)).getD (addQ 0 ((k:Int).toNat)) 0).toNat ^^^ ((zs ((rGo key i).1.getD (addQ 0 (((i:Int) - 8).toNat)) [])).getD (addQ 0 ((k:Int).toNat)) 0).toNat:Nat):Int)) = zs (rX Tt w8 (k + 1)):=by
       simp only [addQ_eq,Nat.zero_add,Int.toNat_natCast,e8,hw8e,zs_getD,zs_set,rX]
      repeat' (first | (show AllP _;first | exact trivial | refine AllP.app ?_ ?_ | refine AllP.appd ?_ ?_ | refine AllP.cons ?_ ?_) | with_reducible rfl | with_reducible assumption | omega | (simp only [rng,Ix.val,addQ_eq,addI,sz3,by3,sz5,by5,sz22,by22,sz70,by70,sz73,by73] <;> omega) | (simp only [rng,Ix.val,Int.toNat_natCast,mulE_eq,addQ_eq,addI,Option.getD_none,Option.getD_some,List.length_take,List.length_drop,List.length_append,List.length_set,List.length_replicate,sz3,by3,sz5,by5,sz22,by22,sz70,by70,sz73,by73, *] <;> omega) | (simp only [Ix.val];with_reducible assumption) | exact UInt8.toNat_lt _ | (apply Eq.trans;(with_reducible assumption);exact rfl) | exact rfl | exact fun _ _=>rfl)
      exact hv.symm
     ·obtain rfl:k = 4:=by have hk:¬ (k:Int) < 4:=hk;omega
      repeat (refine sd ?_)
      intro c2 hc2
      repeat (refine sd ?_)
      refine ⟨(i + 1,c2),⟨by show i + 1 ≤ 60;omega,hc2⟩,by show 60 - (i + 1) < 60 - i;omega,Le.intro [(200,(133,0,none))] rfl ?_ rfl ?_ rfl⟩
      ·exact fc
      ·have hrow:=rowW_app hl (rX Tt w8 4) (G:=rowF [[(1,.isl 0 4 1 [(4,.ai (zs (rX Tt w8 4)))])]]) rfl
       rw [← hnext] at hrow
       repeat' (first | (show AllP _;first | exact trivial | refine AllP.app ?_ ?_ | refine AllP.appd ?_ ?_ | refine AllP.cons ?_ ?_) | with_reducible rfl | with_reducible assumption | omega | (simp only [rng,Ix.val,addQ_eq,addI,sz3,by3,sz5,by5,sz22,by22,sz70,by70,sz73,by73] <;> omega) | (simp only [rng,Ix.val,Int.toNat_natCast,mulE_eq,addQ_eq,addI,Option.getD_none,Option.getD_some,List.length_take,List.length_drop,List.length_append,List.length_set,List.length_replicate,sz3,by3,sz5,by5,sz22,by22,sz70,by70,sz73,by73, *] <;> omega) | (simp only [Ix.val];with_reducible assumption) | exact UInt8.toNat_lt _ | (apply Eq.trans;(with_reducible assumption);exact rfl) | exact rfl | exact fun _ _=>rfl)
       exact hrow
 ·obtain rfl:i = 60:=by have h:¬ (i:Int) < 60:=h;omega
  repeat (refine sd ?_)
  exact Ret.intro (.sl 1001 0 0 60 c) [(1000,.mem false 0 [(256,.ai (zs natS))]),(1001,.mem true (c - 60) (rowsW (rGo key 60).1 60))] [(1001,(200,0,none))] rfl trivial ⟨c,hc,rfl,rfl⟩ rfl fc rfl fc rfl
end Go.Proofs.Ytlbmkjckbfeejaa
