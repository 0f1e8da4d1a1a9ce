/- What the functions of the program compute. No condition. -/
import Derived.Test.YtpkllkbmoodniaaGreatHwRa5ToRa7
import Derived.Test.YtpkllkbmoodniaaGreatHwRy3ToRy7
import Derived.Test.YtpkllkbmoodniaaGreatHwRc2ToRc2
set_option linter.unusedSimpArgs false
set_option linter.unusedVariables false
namespace Go.Proofs.YtpkllkbmoodniaaGreat
open Go Go.Sx
def pkL (x:Se):List (List UInt8):=[x.id,x.root,x.mine,flB x.hs,x.sk,putB x.sn.toNat 2,putB x.pv.toNat 2,x.th,flB x.hr,x.rk,putB x.rn.toNat 2,flB x.fi,x.ag,x.sg,x.ba,putB x.oc.toNat 2]
def pkP (k:Kp):List (List UInt8):=[k.1,putB k.2.1.toNat 2,k.2.2]
def pkK (k:Kp):List UInt8:=jnB (pkP k)
def pkA (x:Se) (l:List Kp):List (List UInt8):=pkL x ++ l.map pkK
def pkB (x:Se) (l:List Kp):List UInt8:=jnB (pkA x l)
theorem flB_length (b:Bool):(flB b).length = 1:=by cases b <;> rfl
theorem pkP_ok {k:Kp} (hk:KpOK k):Joins (pkP k):=by
 refine ⟨by show 3 ≤ 64;omega,fun x hx=>?_⟩
 unfold pkP at hx
 simp only [List.mem_cons,List.not_mem_nil,or_false] at hx
 rcases hx with rfl | rfl | rfl
 ·rw [hk.1];omega
 ·rw [putB_length];omega
 ·rw [hk.2];omega
theorem pkK_length {k:Kp} (hk:KpOK k):(pkK k).length = 73:=by
 unfold pkK
 rw [jnB_eq]
 show ([UInt8.ofNat (k.1.length / 256),UInt8.ofNat k.1.length] ++ k.1 ++ ([UInt8.ofNat ((putB k.2.1.toNat 2).length / 256),UInt8.ofNat (putB k.2.1.toNat 2).length] ++ putB k.2.1.toNat 2 ++ ([UInt8.ofNat (k.2.2.length / 256),UInt8.ofNat k.2.2.length] ++ k.2.2 ++ []))).length + 1 = 73
 simp only [List.length_append,List.length_cons,List.length_nil,hk.1,hk.2,putB_length]
theorem pkL_ok {x:Se} (hx:x.OK):∀ y ∈ pkL x,y.length ≤ 32:=by
 intro y hy
 unfold pkL at hy
 simp only [List.mem_cons,List.not_mem_nil,or_false] at hy
 rcases hy with rfl | rfl | rfl | rfl | rfl | rfl | rfl | rfl | rfl | rfl | rfl | rfl | rfl | rfl | rfl | rfl
 ·rw [hx.id];omega
 ·rw [hx.root];omega
 ·rw [hx.mine];omega
 ·rw [flB_length];omega
 ·rw [hx.sk];omega
 ·rw [putB_length];omega
 ·rw [putB_length];omega
 ·rw [hx.th];omega
 ·rw [flB_length];omega
 ·rw [hx.rk];omega
 ·rw [putB_length];omega
 ·rw [flB_length];omega
 ·rw [hx.ag];omega
 ·rw [hx.sg];omega
 ·rw [hx.ba];omega
 ·rw [putB_length];omega
theorem pkA_length (x:Se) (l:List Kp):(pkA x l).length = 16 + l.length:=by
 unfold pkA;rw [List.length_append,List.length_map];rfl
theorem pkA_ok {x:Se} (hx:x.OK) {l:List Kp} (hl:∀ k ∈ l,KpOK k) (h16:l.length ≤ 16):Joins (pkA x l):=by
 refine ⟨by rw [pkA_length];omega,fun y hy=>?_⟩
 unfold pkA at hy
 rcases List.mem_append.1 hy with h | h
 ·have:=pkL_ok hx y h;omega
 ·obtain ⟨k,hk,rfl⟩:=List.mem_map.1 h
  rw [pkK_length (hl k hk)];omega
theorem pkA_succ (x:Se) {l:List Kp} {i:Nat} (hi:i < l.length):pkA x (l.take (i + 1)) = pkA x (l.take i) ++ [pkK (l.getD i kp0)]:=by
 unfold pkA
 rw [List.take_add_one,List.map_append,List.append_assoc]
 congr 2
 rw [List.getElem?_eq_getElem hi,List.getD_eq_getElem?_getD,List.getElem?_eq_getElem hi]
 rfl
theorem rwK {L:List (List UInt8)} {i k:Nat} {p:List UInt8} (hp:L.getD i [] = p) (hk:p.length = k):rwF L i = [(1,.isl 0 k 1 [(k,.a8 p)])]:=by
 subst hp;subst hk
 show [(1,SV.isl 0 (L.getD i []).length 1 [((L.getD i []).length * 1,SV.a8 (L.getD i []))])] = _
 rw [Nat.mul_one]
end Go.Proofs.YtpkllkbmoodniaaGreat
namespace Go.Proofs.YtpkllkbmoodniaaGreat
open Go Go.Sx
def upZ:List Nat:=[32,32,32,1,32,2,2,32,1,32,2,1,32,32,32,2]
def upOK (L:List (List UInt8)) (B0:Prop) (j:Nat):Prop:=¬ B0∧∀ i,i < j→i < L.length∧(L.getD i []).length = upZ.getD i 0∧(upZ.getD i 0 = 1→¬ (L.getD i []).getD 0 0 > 1)
theorem upOK.mono {L:List (List UInt8)} {B0:Prop} {i j:Nat} (h:upOK L B0 j) (hi:i ≤ j):upOK L B0 i:=⟨h.1,fun q hq=>h.2 q (by omega)⟩
theorem upOK.succ {L:List (List UInt8)} {B0:Prop} {j:Nat}:upOK L B0 (j + 1) ↔ upOK L B0 j∧j < L.length∧(L.getD j []).length = upZ.getD j 0∧(upZ.getD j 0 = 1→¬ (L.getD j []).getD 0 0 > 1):=by
 constructor
 ·intro h;exact ⟨h.mono (by omega),h.2 j (by omega)⟩
 ·rintro ⟨h,h2⟩
  refine ⟨h.1,fun i hi=>?_⟩
  rcases Nat.lt_succ_iff_lt_or_eq.1 hi with h3 | rfl
  ·exact h.2 i h3
  ·exact h2
structure UpK (L:List (List UInt8)) (B0:Prop) (j k:Nat) (B:Prop):Prop where
 a:¬ B ↔ upOK L B0 j
 b:upOK L B0 j→k = j
 c:k ≤ L.length
theorem UpK.zero (L:List (List UInt8)) (B0:Prop):UpK L B0 0 0 B0:=
 ⟨⟨fun h=>⟨h,fun i hi=>absurd hi (Nat.not_lt_zero i)⟩,fun h=>h.1⟩,fun _=>rfl,Nat.zero_le _⟩
theorem nxS_le {L:List (List UInt8)} {k s:Nat} (h:k ≤ L.length):nxS L k s ≤ L.length:=by
 unfold nxS;split
 ·rename_i g;exact g.1
 ·exact h
theorem UpK.next {L:List (List UInt8)} {B0:Prop} {j k:Nat} {B:Prop} (h:UpK L B0 j k B) {s:Nat} (hs:upZ.getD j 0 = s) (h1:s ≠ 1):UpK L B0 (j + 1) (nxS L k s) (B ∨ ¬ nxG L k s):=by
 refine ⟨?_,?_,nxS_le h.c⟩
 ·rw [upOK.succ,not_or,Classical.not_not,h.a,hs]
  constructor
  ·rintro ⟨h2,h3⟩
   obtain rfl:=h.b h2
   exact ⟨h2,h3.1,h3.2,fun e=>absurd e h1⟩
  ·rintro ⟨h2,h3,h4,_⟩
   obtain rfl:=h.b h2
   exact ⟨h2,h3,h4⟩
 ·intro h2
  rw [upOK.succ,hs] at h2
  obtain ⟨h3,h4,h5,_⟩:=h2
  obtain rfl:=h.b h3
  unfold nxS
  exact if_pos ⟨h4,h5⟩
theorem UpK.val {L:List (List UInt8)} {B0:Prop} {j k:Nat} {B:Prop} (h:UpK L B0 j k B) {s n:Nat} (hs:upZ.getD j 0 = s) (ok:upOK L B0 n) (hj:j < n):nxX L k s = L.getD j []:=by
 obtain rfl:=h.b (ok.mono (by omega))
 obtain ⟨a1,a2,_⟩:=ok.2 k hj
 unfold nxX
 exact if_pos ⟨a1,a2.trans hs⟩
theorem UpK.flag {L:List (List UInt8)} {B0:Prop} {j k:Nat} {B b:Prop} (h:UpK L B0 j k B) (hs:upZ.getD j 0 = 1) (hb:b ↔ (B ∨ ¬ nxG L k 1) ∨ (nxX L k 1).getD 0 0 > 1):UpK L B0 (j + 1) (nxS L k 1) b:=by
 refine ⟨?_,?_,nxS_le h.c⟩
 ·rw [upOK.succ,hb,not_or,not_or,Classical.not_not,h.a,hs]
  constructor
  ·rintro ⟨⟨h2,h3⟩,h4⟩
   obtain rfl:=h.b h2
   have e:nxX L k 1 = L.getD k []:=by unfold nxX;exact if_pos h3
   rw [e] at h4
   exact ⟨h2,h3.1,h3.2,fun _=>h4⟩
  ·rintro ⟨h2,h3,h4,h5⟩
   obtain rfl:=h.b h2
   have e:nxX L k 1 = L.getD k []:=by unfold nxX;exact if_pos ⟨h3,h4⟩
   rw [e]
   exact ⟨⟨h2,h3,h4⟩,h5 rfl⟩
 ·intro h2
  rw [upOK.succ,hs] at h2
  obtain ⟨h3,h4,h5,_⟩:=h2
  obtain rfl:=h.b h3
  unfold nxS
  exact if_pos ⟨h4,h5⟩
def upX (L:List (List UInt8)):Se:={ id:=L.getD 0 [],root:=L.getD 1 [],mine:=L.getD 2 [],hs:=decide ((L.getD 3 []).getD 0 0 = 1),sk:=L.getD 4 [],sn:=(gK (L.getD 5 []) 0 2).toUInt16,pv:=(gK (L.getD 6 []) 0 2).toUInt16,th:=L.getD 7 [],hr:=decide ((L.getD 8 []).getD 0 0 = 1),rk:=L.getD 9 [],rn:=(gK (L.getD 10 []) 0 2).toUInt16,fi:=decide ((L.getD 11 []).getD 0 0 = 1),ag:=L.getD 12 [],sg:=L.getD 13 [],ba:=L.getD 14 [],oc:=(gK (L.getD 15 []) 0 2).toUInt16,kp:=[] }
def upE (p:List UInt8):Option Kp:=
 match spl p with
 | some [a,b,c]=>if a.length = 32∧b.length = 2∧c.length = 32 then some (a,(gK b 0 2).toUInt16,c) else none
 | _=>none
def upEs:List (List UInt8)→Option (List Kp)
 | []=>some []
 | p :: r=>match upE p,upEs r with
  | some k,some l=>some (k :: l)
  | _,_=>none
def UpR (b:List UInt8) (x:Se) (l:List Kp):Prop:=∃ L,spl b = some L∧upOK L False 16∧L.length ≤ 32∧upEs (L.drop 16) = some l∧x = upX L
theorem gK_put (x:UInt16):(gK (putB x.toNat 2) 0 2).toUInt16 = x:=by
 have hx:x.toNat < 65536:=UInt16.toNat_lt _
 have e1:(gK (putB x.toNat 2) 0 1).toNat = x.toNat / 256:=by
  show (shl64 0 8 ||| (UInt8.ofNat (x.toNat / 256 ^ 1)).toUInt64).toNat = _
  rw [shl_or _ _ (by decide),UInt8.toNat_ofNat']
  show 0 * 256 + _ = _
  omega
 have e2:(gK (putB x.toNat 2) 0 2).toNat = x.toNat:=by
  show (shl64 (gK (putB x.toNat 2) 0 1) 8 ||| (UInt8.ofNat (x.toNat / 256 ^ 0)).toUInt64).toNat = _
  rw [shl_or _ _ (by omega),e1,UInt8.toNat_ofNat']
  omega
 apply UInt16.toNat_inj.1
 rw [UInt64.toNat_toUInt16,e2]
 omega
theorem upE_pk {k:Kp} (hk:KpOK k):upE (pkK k) = some k:=by
 unfold upE pkK
 rw [spl_join (pkP_ok hk)]
 show (if k.1.length = 32∧(putB k.2.1.toNat 2).length = 2∧k.2.2.length = 32 then some (k.1,(gK (putB k.2.1.toNat 2) 0 2).toUInt16,k.2.2) else none) = some k
 rw [if_pos ⟨hk.1,putB_length _ _,hk.2⟩,gK_put]
theorem upEs_pk:∀ {l:List Kp},(∀ k ∈ l,KpOK k)→upEs (l.map pkK) = some l
 | [],_=>rfl
 | k :: r,h=>by
  show (match upE (pkK k),upEs (r.map pkK) with | some k,some l=>some (k :: l) | _,_=>none) = _
  rw [upE_pk (h k (List.mem_cons_self ..)),upEs_pk fun y hy=>h y (List.mem_cons_of_mem _ hy)]
theorem flB_one (b:Bool):decide ((flB b).getD 0 0 = 1) = b:=by cases b <;> rfl
theorem flB_le (b:Bool):¬ (flB b).getD 0 0 > 1:=by cases b <;> decide
theorem up_pk {x:Se} (hx:x.OK) {l:List Kp} (hl:∀ k ∈ l,KpOK k) (h16:l.length ≤ 16):UpR (pkB x l) { x with kp:=[] } l:=by
 refine ⟨pkA x l,spl_join (pkA_ok hx hl h16),⟨id,fun i hi=>?_⟩,by rw [pkA_length];omega,?_,?_⟩
 ·refine ⟨by rw [pkA_length];omega,?_⟩
  have e:(pkA x l).getD i [] = (pkL x).getD i []:=by
   unfold pkA
   rw [List.getD_eq_getElem?_getD,List.getD_eq_getElem?_getD,List.getElem?_append_left (by show i < 16;exact hi)]
  rw [e]
  have hh:∀ i,i < 16→((pkL x).getD i []).length = upZ.getD i 0∧(upZ.getD i 0 = 1→¬ ((pkL x).getD i []).getD 0 0 > 1):=by
   intro i hi
   match i,hi with
   | 0,_=>exact ⟨hx.id,fun h=>absurd h (by decide)⟩
   | 1,_=>exact ⟨hx.root,fun h=>absurd h (by decide)⟩
   | 2,_=>exact ⟨hx.mine,fun h=>absurd h (by decide)⟩
   | 3,_=>exact ⟨flB_length _,fun _=>flB_le _⟩
   | 4,_=>exact ⟨hx.sk,fun h=>absurd h (by decide)⟩
   | 5,_=>exact ⟨putB_length _ _,fun h=>absurd h (by decide)⟩
   | 6,_=>exact ⟨putB_length _ _,fun h=>absurd h (by decide)⟩
   | 7,_=>exact ⟨hx.th,fun h=>absurd h (by decide)⟩
   | 8,_=>exact ⟨flB_length _,fun _=>flB_le _⟩
   | 9,_=>exact ⟨hx.rk,fun h=>absurd h (by decide)⟩
   | 10,_=>exact ⟨putB_length _ _,fun h=>absurd h (by decide)⟩
   | 11,_=>exact ⟨flB_length _,fun _=>flB_le _⟩
   | 12,_=>exact ⟨hx.ag,fun h=>absurd h (by decide)⟩
   | 13,_=>exact ⟨hx.sg,fun h=>absurd h (by decide)⟩
   | 14,_=>exact ⟨hx.ba,fun h=>absurd h (by decide)⟩
   | 15,_=>exact ⟨putB_length _ _,fun h=>absurd h (by decide)⟩
   | i + 16,h=>exact absurd h (by omega)
  exact hh i hi
 ·show upEs ((pkL x ++ l.map pkK).drop 16) = some l
  exact upEs_pk hl
 ·show _ = Se.mk x.id x.root x.mine (decide ((flB x.hs).getD 0 0 = 1)) x.sk (gK (putB x.sn.toNat 2) 0 2).toUInt16 (gK (putB x.pv.toNat 2) 0 2).toUInt16 x.th (decide ((flB x.hr).getD 0 0 = 1)) x.rk (gK (putB x.rn.toNat 2) 0 2).toUInt16 (decide ((flB x.fi).getD 0 0 = 1)) x.ag x.sg x.ba (gK (putB x.oc.toNat 2) 0 2).toUInt16 []
  rw [flB_one,flB_one,flB_one,gK_put,gK_put,gK_put,gK_put]
theorem upEs_snoc:∀ {A:List (List UInt8)} {l:List Kp} {p:List UInt8} {k:Kp},upEs A = some l→upE p = some k→upEs (A ++ [p]) = some (l ++ [k])
 | [],l,p,k,h,hp=>by
  obtain rfl:[] = l:=Option.some.inj h
  show (match upE p,upEs [] with | some k,some l=>some (k :: l) | _,_=>none) = _
  rw [hp];rfl
 | q :: r,l,p,k,h,hp=>by
  have h:(match upE q,upEs r with | some k,some l=>some (k :: l) | _,_=>none) = some l:=h
  show (match upE q,upEs (r ++ [p]) with | some k,some l=>some (k :: l) | _,_=>none) = _
  cases e1:upE q with
  | none=>rw [e1] at h;cases h
  | some y=>
   cases e2:upEs r with
   | none=>rw [e1,e2] at h;cases h
   | some z=>
    rw [e1,e2] at h
    obtain rfl:y :: z = l:=Option.some.inj h
    rw [upEs_snoc e2 hp];rfl
theorem upEs_mem:∀ {A:List (List UInt8)} {l:List Kp},upEs A = some l→∀ p ∈ A,∃ k,upE p = some k
 | [],_,_,p,hp=>by cases hp
 | q :: r,l,h,p,hp=>by
  have h:(match upE q,upEs r with | some k,some l=>some (k :: l) | _,_=>none) = some l:=h
  cases e1:upE q with
  | none=>rw [e1] at h;cases h
  | some y=>
   cases e2:upEs r with
   | none=>rw [e1,e2] at h;cases h
   | some z=>
    rcases List.mem_cons.1 hp with rfl | hp
    ·exact ⟨y,e1⟩
    ·exact upEs_mem e2 p hp
theorem upE_yes {p:List UInt8} {M:List (List UInt8)} (h:spl p = some M) (h1:nxG M 0 32) (h2:nxG M 1 2) (h3:nxG M 2 32) (h4:M.length = 3):upE p = some (M.getD 0 [],(gK (M.getD 1 []) 0 2).toUInt16,M.getD 2 []):=by
 rcases M with _ | ⟨a,_ | ⟨b,_ | ⟨c,_ | ⟨d,r⟩⟩⟩⟩ <;> simp at h4
 unfold upE
 rw [h]
 show (if a.length = 32∧b.length = 2∧c.length = 32 then some (a,(gK b 0 2).toUInt16,c) else none) = _
 rw [if_pos ⟨h1.2,h2.2,h3.2⟩]
 rfl
theorem upE_ok {p:List UInt8} {k:Kp} (h:upE p = some k):∃ M,spl p = some M∧nxG M 0 32∧nxG M 1 2∧nxG M 2 32∧M.length = 3:=by
 unfold upE at h
 split at h
 ·rename_i a b c e
  split at h
  ·rename_i g
   exact ⟨_,e,⟨by show 0 < 3;omega,g.1⟩,⟨by show 1 < 3;omega,g.2.1⟩,⟨by show 2 < 3;omega,g.2.2⟩,rfl⟩
  ·cases h
 ·cases h
theorem nx3 {M:List (List UInt8)} {P:Prop}:(¬ (((P ∨ ¬ nxG M 0 32) ∨ ¬ nxG M (nxS M 0 32) 2) ∨ ¬ nxG M (nxS M (nxS M 0 32) 2) 32)∧M.length - nxS M (nxS M (nxS M 0 32) 2) 32 = 0) ↔ (¬ P∧nxG M 0 32∧nxG M 1 2∧nxG M 2 32∧M.length = 3):=by
 constructor
 ·rintro ⟨h,h0⟩
  rw [not_or,not_or,not_or,Classical.not_not,Classical.not_not,Classical.not_not] at h
  obtain ⟨⟨⟨hP,g1⟩,g2⟩,g3⟩:=h
  have e1:nxS M 0 32 = 1:=by unfold nxS;exact if_pos g1
  rw [e1] at g2 g3 h0
  have e2:nxS M 1 2 = 2:=by unfold nxS;exact if_pos g2
  rw [e2] at g3 h0
  have e3:nxS M 2 32 = 3:=by unfold nxS;exact if_pos g3
  rw [e3] at h0
  have:=g3.1
  exact ⟨hP,g1,g2,g3,by omega⟩
 ·rintro ⟨hP,g1,g2,g3,h4⟩
  have e1:nxS M 0 32 = 1:=by unfold nxS;exact if_pos g1
  have e2:nxS M 1 2 = 2:=by unfold nxS;exact if_pos g2
  have e3:nxS M 2 32 = 3:=by unfold nxS;exact if_pos g3
  rw [e1,e2,e3]
  refine ⟨?_,by omega⟩
  rw [not_or,not_or,not_or,Classical.not_not,Classical.not_not,Classical.not_not]
  exact ⟨⟨⟨hP,g1⟩,g2⟩,g3⟩
theorem splR_le:∀ {k:Nat} {b:List UInt8} {L:List (List UInt8)},splR k b = some L→∀ x ∈ L,x.length ≤ 4096
 | 0,b,L,h,x,hx=>by
  rw [splR_zero] at h
  split at h
  ·obtain rfl:[] = L:=Option.some.inj h
   cases hx
  ·cases h
 | k + 1,b,L,h,x,hx=>by
  rw [splR_succ] at h
  split at h
  ·cases h
  ·split at h
   ·cases h
   ·split at h
    ·cases h
    ·rename_i h1 h2 h3
     obtain ⟨r,hr,e⟩:=Option.map_eq_some_iff.1 h
     subst e
     rcases List.mem_cons.1 hx with rfl | hx
     ·rw [List.length_take];omega
     ·exact splR_le hr x hx
theorem spl_le {b:List UInt8} {L:List (List UInt8)} (h:spl b = some L):∀ x ∈ L,x.length ≤ 4096:=by
 rw [spl_eq] at h
 split at h
 ·cases h
 ·split at h
  ·cases h
  ·exact splR_le h
end Go.Proofs.YtpkllkbmoodniaaGreat
