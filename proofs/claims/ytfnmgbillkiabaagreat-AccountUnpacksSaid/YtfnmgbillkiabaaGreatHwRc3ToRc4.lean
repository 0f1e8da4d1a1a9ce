/- What the functions of the program compute. No condition. -/
import Derived.Test.YtfnmgbillkiabaaGreatHwRa5ToRa7
import Derived.Test.YtfnmgbillkiabaaGreatHwRy3ToRy7
import Derived.Test.YtfnmgbillkiabaaGreatHwRc2ToRc2
set_option linter.unusedSimpArgs false
set_option linter.unusedVariables false
set_option maxRecDepth 100000
namespace Go.Proofs.YtfnmgbillkiabaaGreat
open Go Go.Sx
theorem rwK {L:List (List UInt8)} {i k:Nat} {p:List UInt8} (hp:L.getD i [] = p) (hk:p.length = k):rwF L i = [(1,.isl 0 k 1 [(k,.a8 p)])]:=by
 subst hp;subst hk
 show [(1,SV.isl 0 (L.getD i []).length 1 [((L.getD i []).length * 1,SV.a8 (L.getD i []))])] = _
 rw [Nat.mul_one]
def upZ:List Nat:=[32,32,32,1,32,2,2,32,1,32,2,1,32,32,32,2]
def upOK (L:List (List UInt8)) (B0:Prop) (j:Nat):Prop:=¬ B0/\∀ i,i < j->i < L.length/\(L.getD i []).length = upZ.getD i 0/\(upZ.getD i 0 = 1->¬ (L.getD i []).getD 0 0 > 1)
theorem upOK.mono {L:List (List UInt8)} {B0:Prop} {i j:Nat} (h:upOK L B0 j) (hi:i <= j):upOK L B0 i:=⟨h.1,fun q hq=>h.2 q (by omega)⟩
theorem upOK.succ {L:List (List UInt8)} {B0:Prop} {j:Nat}:upOK L B0 (j + 1) ↔ upOK L B0 j/\j < L.length/\(L.getD j []).length = upZ.getD j 0/\(upZ.getD j 0 = 1->¬ (L.getD j []).getD 0 0 > 1):=by
 constructor
 ·intro h;exact ⟨h.mono (by omega),h.2 j (by omega)⟩
 ·rintro ⟨h,h2⟩
  refine ⟨h.1,fun i hi=>?_⟩
  rcases Nat.lt_succ_iff_lt_or_eq.1 hi with h3 | rfl
  ·exact h.2 i h3
  ·exact h2
structure UpK (L:List (List UInt8)) (B0:Prop) (j k:Nat) (B:Prop):Prop where
 a:¬ B ↔ upOK L B0 j
 b:upOK L B0 j->k = j
 c:k <= L.length
theorem UpK.zero (L:List (List UInt8)) (B0:Prop):UpK L B0 0 0 B0:=
 ⟨⟨fun h=>⟨h,fun i hi=>absurd hi (Nat.not_lt_zero i)⟩,fun h=>h.1⟩,fun _=>rfl,Nat.zero_le _⟩
theorem nxS_le {L:List (List UInt8)} {k s:Nat} (h:k <= L.length):nxS L k s <= L.length:=by
 unfold nxS;split
 ·rename_i g;exact g.1
 ·exact h
theorem UpK.next {L:List (List UInt8)} {B0:Prop} {j k:Nat} {B:Prop} (h:UpK L B0 j k B) {s:Nat} (hs:upZ.getD j 0 = s) (h1:s ≠ 1):UpK L B0 (j + 1) (nxS L k s) (B \/ ¬ nxG L k s):=by
 refine ⟨?_,?_,nxS_le h.c⟩
 ·rw [upOK.succ,not_or,Classical.not_not,h.a,hs]
  constructor
  ·rintro ⟨h2,h3⟩
   obtain rfl:=h.b h2
   exact ⟨h2,h3.1,h3.2,fun e=>absurd e h1⟩
  ·rintro ⟨h2,h3,h4,_⟩
   obtain rfl:=h.b h2
   exact ⟨h2,h3,h4⟩
 ·intro h2
  rw [upOK.succ,hs] at h2
  obtain ⟨h3,h4,h5,_⟩:=h2
  obtain rfl:=h.b h3
  unfold nxS
  exact if_pos ⟨h4,h5⟩
theorem UpK.val {L:List (List UInt8)} {B0:Prop} {j k:Nat} {B:Prop} (h:UpK L B0 j k B) {s n:Nat} (hs:upZ.getD j 0 = s) (ok:upOK L B0 n) (hj:j < n):nxX L k s = L.getD j []:=by
 obtain rfl:=h.b (ok.mono (by omega))
 obtain ⟨a1,a2,_⟩:=ok.2 k hj
 unfold nxX
 exact if_pos ⟨a1,a2.trans hs⟩
theorem gK_put (x:UInt16):(gK (putB x.toNat 2) 0 2).toUInt16 = x:=by
 have hx:x.toNat < 65536:=UInt16.toNat_lt _
 have e1:(gK (putB x.toNat 2) 0 1).toNat = x.toNat / 256:=by
  show (shl64 0 8 ||| (UInt8.ofNat (x.toNat / 256 ^ 1)).toUInt64).toNat = _
  rw [shl_or _ _ (by decide),UInt8.toNat_ofNat']
  show 0 * 256 + _ = _
  omega
 have e2:(gK (putB x.toNat 2) 0 2).toNat = x.toNat:=by
  show (shl64 (gK (putB x.toNat 2) 0 1) 8 ||| (UInt8.ofNat (x.toNat / 256 ^ 0)).toUInt64).toNat = _
  rw [shl_or _ _ (by omega),e1,UInt8.toNat_ofNat']
  omega
 apply UInt16.toNat_inj.1
 rw [UInt64.toNat_toUInt16,e2]
 omega
theorem splR_le:∀ {k:Nat} {b:List UInt8} {L:List (List UInt8)},splR k b = some L->∀ x ∈ L,x.length <= 4096
 | 0,b,L,h,x,hx=>by
  rw [splR_zero] at h
  split at h
  ·obtain rfl:[] = L:=Option.some.inj h
   cases hx
  ·cases h
 | k + 1,b,L,h,x,hx=>by
  rw [splR_succ] at h
  split at h
  ·cases h
  ·split at h
   ·cases h
   ·split at h
    ·cases h
    ·rename_i h1 h2 h3
     obtain ⟨r,hr,e⟩:=Option.map_eq_some_iff.1 h
     subst e
     rcases List.mem_cons.1 hx with rfl | hx
     ·rw [zlT];omega
     ·exact splR_le hr x hx
theorem spl_le {b:List UInt8} {L:List (List UInt8)} (h:spl b = some L):∀ x ∈ L,x.length <= 4096:=by
 rw [spl_eq] at h
 split at h
 ·cases h
 ·split at h
  ·cases h
  ·exact splR_le h
def kyO (p:List UInt8):List UInt8:=p.take 32 ++ List.replicate (32 - p.length) 0
def nuA (b:List UInt8):Nat->Nat
 | 0=>0
 | i + 1=>nuA b i * 256 + (b.getD i 0).toNat
def nuO (p:List UInt8):Nat:=nuA p (min p.length 4)
theorem nuA_succ (b:List UInt8) (i:Nat):nuA b (i + 1) = nuA b i * 256 + (b.getD i 0).toNat:=rfl
theorem nuA_lt (b:List UInt8):∀ i,nuA b i < 256 ^ i
 | 0=>Nat.one_pos
 | i + 1=>by
  have h1:=nuA_lt b i
  have h2:(b.getD i 0).toNat < 256:=UInt8.toNat_lt _
  rw [nuA_succ,Nat.pow_succ]
  have:(nuA b i + 1) * 256 <= 256 ^ i * 256:=Nat.mul_le_mul_right _ h1
  omega
theorem kyO_length (p:List UInt8):(kyO p).length = 32:=by
 unfold kyO;rw [zlA,zlT,List.length_replicate];omega
theorem kyO_eq {p:List UInt8} (h:p.length = 32):kyO p = p:=by
 unfold kyO;rw [h,List.take_of_length_le (by omega)];exact List.append_nil _
theorem nuO_two {p:List UInt8} (h:p.length = 2):nuO p = (gK p 0 2).toNat:=by
 have e1:(gK p 0 1).toNat = (p.getD 0 0).toNat:=by
  show (shl64 0 8 ||| (p.getD (0 + 0) 0).toUInt64).toNat = _
  rw [shl_or _ _ (by decide)]
  show 0 * 256 + (p.getD 0 0).toNat = _
  omega
 have e2:(gK p 0 2).toNat = (p.getD 0 0).toNat * 256 + (p.getD 1 0).toNat:=by
  show (shl64 (gK p 0 1) 8 ||| (p.getD (0 + 1) 0).toUInt64).toNat = _
  have:=UInt8.toNat_lt (p.getD 0 0)
  rw [shl_or _ _ (by omega),e1]
 rw [e2]
 unfold nuO;rw [h]
 show (0 * 256 + (p.getD 0 0).toNat) * 256 + (p.getD 1 0).toNat = _
 omega
def nu16 (p:List UInt8):UInt16:=UInt16.ofNat (nuO p)
theorem nu16_two {p:List UInt8} (h:p.length = 2):nu16 p = (gK p 0 2).toUInt16:=by
 apply UInt16.toNat_inj.1
 unfold nu16
 rw [UInt16.toNat_ofNat',UInt64.toNat_toUInt16,nuO_two h]
theorem two_bytes {x y:UInt8} {n:Nat} (h:x.toNat * 256 + y.toNat = n):UInt8.ofNat (n / 256) = x/\UInt8.ofNat n = y:=by
 have hx:=UInt8.toNat_lt x
 have hy:=UInt8.toNat_lt y
 constructor
 ·apply UInt8.toNat_inj.1
  rw [UInt8.toNat_ofNat'];omega
 ·apply UInt8.toNat_inj.1
  rw [UInt8.toNat_ofNat'];omega
theorem two_heads {b:List UInt8} (h:¬ b.length < 2):∃ x y t,b = x :: y :: t:=by
 rcases b with _ | ⟨x,_ | ⟨y,t⟩⟩
 ·exact absurd Nat.two_pos h
 ·exact absurd (Nat.lt_succ_self 1) h
 ·exact ⟨x,y,t,rfl⟩
theorem splR_back:∀ {k:Nat} {b:List UInt8} {L:List (List UInt8)},splR k b = some L->L.length = k/\jnR L = b
 | 0,b,L,h=>by
  rw [splR_zero] at h
  split at h
  ·rename_i h0
   obtain rfl:[] = L:=Option.some.inj h
   exact ⟨rfl,(List.length_eq_zero_iff.1 h0).symm⟩
  ·cases h
 | k + 1,b,L,h=>by
  rw [splR_succ] at h
  split at h
  ·cases h
  ·split at h
   ·cases h
   ·split at h
    ·cases h
    ·rename_i h1 h2 h3
     obtain ⟨r,hr,e⟩:=Option.map_eq_some_iff.1 h
     subst e
     obtain ⟨i1,i2⟩:=splR_back hr
     obtain ⟨x,y,t,rfl⟩:=two_heads h1
     refine ⟨by rw [List.length_cons,i1],?_⟩
     obtain ⟨n,hn⟩:∃ n,x.toNat * 256 + y.toNat = n:=⟨_,rfl⟩
     have e0:((x :: y :: t).getD 0 0).toNat * 256 + ((x :: y :: t).getD 1 0).toNat = n:=hn
     have e1:(x :: y :: t).drop 2 = t:=rfl
     rw [e0,e1] at h3 i2 ⊢
     have hl:(t.take n).length = n:=by rw [zlT];omega
     show [UInt8.ofNat ((t.take n).length / 256),UInt8.ofNat (t.take n).length] ++ t.take n ++ jnR r = _
     rw [hl,i2,(two_bytes hn).1,(two_bytes hn).2,List.append_assoc,List.take_append_drop]
     rfl
theorem spl_back {b:List UInt8} {L:List (List UInt8)} (h:spl b = some L):jnB L = b:=by
 rw [spl_eq] at h
 split at h
 ·cases h
 ·split at h
  ·cases h
  ·rename_i h1 h2
   obtain ⟨i1,i2⟩:=splR_back h
   match b,h1 with
   | x :: t,_=>
    have e:(x :: t).drop 1 = t:=rfl
    rw [e] at i2
    have i1:L.length = x.toNat:=i1
    rw [jnB_eq,i1,i2]
    congr 1
    apply UInt8.toNat_inj.1
    rw [UInt8.toNat_ofNat']
    have:=UInt8.toNat_lt x
    omega
   | [],h1=>exact absurd rfl h1
theorem putB_back {p:List UInt8} (h:p.length = 2):putB (gK p 0 2).toUInt16.toNat 2 = p:=by
 match p,h with
 | [x,y],_=>
  have e:=nuO_two (p:=[x,y]) rfl
  have e2:nuO [x,y] = x.toNat * 256 + y.toNat:=by
   show (0 * 256 + x.toNat) * 256 + y.toNat = _
   omega
  rw [e2] at e
  have hx:=UInt8.toNat_lt x
  have hy:=UInt8.toNat_lt y
  rw [UInt64.toNat_toUInt16,<- e,Nat.mod_eq_of_lt (by omega)]
  obtain ⟨a1,a2⟩:=two_bytes (x:=x) (y:=y) rfl
  show [UInt8.ofNat ((x.toNat * 256 + y.toNat) / 256 ^ 1),UInt8.ofNat ((x.toNat * 256 + y.toNat) / 256 ^ 0)] = [x,y]
  rw [Nat.pow_one,Nat.pow_zero,Nat.div_one,a1,a2]
abbrev On:=UInt16 × List UInt8
def on0:On:=(0,List.replicate 32 0)
def OnOK (k:On):Prop:=k.2.length = 32
def onR (k:On):List (Nat × SV):=[(1,.u16 k.1),(32,.a8 k.2)]
def onF (l:List On) (q:Nat):List (Nat × SV):=[(1,.u16 (l.getD q on0).1),(32,.a8 (l.getD q on0).2)]
theorem onF_take (l:List On) {n q:Nat} (h:q < n):onF (l.take n) q = onF l q:=by
 unfold onF;rw [getD_take_lt on0 h]
theorem onF_lt {S:List On} {x:On} {q:Nat} (h:q < S.length):onF (S ++ [x]) q = onF S q:=by
 unfold onF
 rw [List.getD_eq_getElem?_getD,List.getD_eq_getElem?_getD,List.getElem?_append_left h]
theorem onF_at (S:List On) (x:On):onF (S ++ [x]) S.length = onR x:=by
 unfold onF
 rw [List.getD_eq_getElem?_getD,List.getElem?_append_right (Nat.le_refl _),Nat.sub_self]
 rfl
theorem appF_on {A:List On} {x:On} {k:Nat} {G:Nat->List (Nat × SV)} (hk:A.length = k) (hG:G 0 = onR x):∀ q,q < k + 1->onF (A ++ [x]) q = appF k (onF A) G q:=by
 subst hk
 intro q hq
 rcases Nat.lt_or_ge q A.length with h | h
 ·rw [appF_lt h,onF_lt h]
 ·obtain rfl:q = A.length:=by omega
  rw [appF_ge h,onF_at,Nat.sub_self,hG]
structure Ac where
 ag:List UInt8
 sg:List UInt8
 fi:UInt16
 fs:List UInt8
 nx:UInt16
structure Ac.OK (x:Ac):Prop where
 ag:x.ag.length = 32
 sg:x.sg.length = 32
 fs:x.fs.length = 32
def acL (x:Ac) (s:SV):List (Nat × SV):=[(32,.a8 x.ag),(32,.a8 x.sg),(1,.u16 x.fi),(32,.a8 x.fs),(1,s),(1,.u16 x.nx)]
def zAc:List (Nat × SV):=[(32,.a8 (List.replicate 32 0)),(32,.a8 (List.replicate 32 0)),(1,.u16 0),(32,.a8 (List.replicate 32 0)),(1,.nsl),(1,.u16 0)]
def acP (x:Ac):List (List UInt8):=[x.ag,x.sg,x.fs,putB x.nx.toNat 2]
def acK (k:On):List UInt8:=putB k.1.toNat 2 ++ k.2
def acA (x:Ac) (l:List On):List (List UInt8):=acP x ++ l.map acK
def acB (x:Ac) (l:List On):List UInt8:=jnB (acA x l)
theorem acK_length {k:On} (h:OnOK k):(acK k).length = 34:=by
 unfold acK;rw [zlA,putB_length,h]
theorem acA_length (x:Ac) (l:List On):(acA x l).length = 4 + l.length:=by
 unfold acA;rw [zlA,List.length_map];rfl
theorem acA_le {x:Ac} (hx:x.OK) {l:List On} (hl:∀ k ∈ l,OnOK k):∀ y ∈ acA x l,y.length <= 34:=by
 intro y hy
 unfold acA acP at hy
 rcases List.mem_append.1 hy with h | h
 ·simp only [List.mem_cons,List.not_mem_nil,or_false] at h
  rcases h with rfl | rfl | rfl | rfl
  ·rw [hx.ag];omega
  ·rw [hx.sg];omega
  ·rw [hx.fs];omega
  ·rw [putB_length];omega
 ·obtain ⟨k,hk,rfl⟩:=List.mem_map.1 h
  rw [acK_length (hl k hk)];omega
theorem acA_ok {x:Ac} (hx:x.OK) {l:List On} (hl:∀ k ∈ l,OnOK k) (h8:l.length <= 8):Joins (acA x l):=
 ⟨by rw [acA_length];omega,fun y hy=>by have:=acA_le hx hl y hy;omega⟩
theorem acA_succ (x:Ac) {l:List On} {i:Nat} (hi:i < l.length):acA x (l.take (i + 1)) = acA x (l.take i) ++ [acK (l.getD i on0)]:=by
 unfold acA
 rw [take_succ_getD on0 l i hi,List.map_append,List.append_assoc]
 rfl
def acX (L:List (List UInt8)):Ac:={ ag:=L.getD 0 [],sg:=L.getD 1 [],fi:=0,fs:=L.getD 2 [],nx:=(gK (L.getD 3 []) 0 2).toUInt16 }
def acE (p:List UInt8):On:=((gK p 0 2).toUInt16,p.drop 2)
def acOK (L:List (List UInt8)):Prop:=(L.getD 0 []).length = 32/\(L.getD 1 []).length = 32/\(L.getD 2 []).length = 32/\(L.getD 3 []).length = 2
def AcR (b:List UInt8) (x:Ac) (l:List On):Prop:=∃ L,spl b = some L/\4 <= L.length/\L.length <= 12/\acOK L/\(∀ p ∈ L.drop 4,p.length = 34)/\x = acX L/\l = (L.drop 4).map acE
theorem AcR.det {b:List UInt8} {x y:Ac} {l k:List On} (h:AcR b x l) (g:AcR b y k):x = y/\l = k:=by
 obtain ⟨L,h1,_,_,_,_,h2,h3⟩:=h
 obtain ⟨K,g1,_,_,_,_,g2,g3⟩:=g
 rw [h1] at g1
 have e:L = K:=Option.some.inj g1
 rw [<- e] at g2 g3
 exact ⟨h2.trans g2.symm,h3.trans g3.symm⟩
theorem AcR.nil {x:Ac} {l:List On} (h:AcR [] x l):False:=by
 obtain ⟨L,h1,_⟩:=h
 rw [spl_eq,if_pos (show ([]:List UInt8).length = 0 from rfl)] at h1
 cases h1
theorem acX_ok {L:List (List UInt8)} (h:acOK L):(acX L).OK:=⟨h.1,h.2.1,h.2.2.1⟩
theorem acE_ok {p:List UInt8} (h:p.length = 34):OnOK (acE p):=by
 show (p.drop 2).length = 32
 rw [zlD];omega
theorem acE_pk (k:On):acE (acK k) = k:=by
 show ((gK (putB k.1.toNat 2) 0 2).toUInt16,k.2) = k
 rw [gK_put]
theorem acEs_pk {l:List On} (h:∀ k ∈ l,OnOK k):(l.map acK).map acE = l:=by
 rw [List.map_map]
 refine (List.map_congr_left (g:=id) fun k hk=>?_).trans (List.map_id _)
 exact acE_pk k
theorem ac_pk {x:Ac} (hx:x.OK) (h0:x.fi = 0) {l:List On} (hl:∀ k ∈ l,OnOK k) (h8:l.length <= 8):AcR (acB x l) x l:=by
 refine ⟨acA x l,spl_join (acA_ok hx hl h8),by rw [acA_length];omega,by rw [acA_length];omega,⟨hx.ag,hx.sg,hx.fs,putB_length _ _⟩,?_,?_,?_⟩
 ·intro p hp
  have hp:p ∈ l.map acK:=hp
  obtain ⟨k,hk,rfl⟩:=List.mem_map.1 hp
  exact acK_length (hl k hk)
 ·show x = Ac.mk x.ag x.sg 0 x.fs (gK (putB x.nx.toNat 2) 0 2).toUInt16
  rw [gK_put,<- h0]
 ·show l = (l.map acK).map acE
  rw [acEs_pk hl]
def daX (L:List (List UInt8)):Ac:={ ag:=kyO (L.getD 0 []),sg:=kyO (L.getD 1 []),fi:=0,fs:=kyO (L.getD 2 []),nx:=nu16 (L.getD 3 []) }
def daE (p:List UInt8):On:=if 2 <= p.length then ((p.getD 0 0).toUInt16 * 256 + (p.getD 1 0).toUInt16,kyO (p.drop 2)) else on0
def daK (L:List (List UInt8)):List On:=(L.drop 4).map daE
theorem daX_ok (L:List (List UInt8)):(daX L).OK:=⟨kyO_length _,kyO_length _,kyO_length _⟩
theorem daE_ok (p:List UInt8):OnOK (daE p):=by
 unfold daE OnOK
 split
 ·exact kyO_length _
 ·rfl
theorem daK_ok (L:List (List UInt8)):∀ k ∈ daK L,OnOK k:=by
 intro k hk
 obtain ⟨p,_,rfl⟩:=List.mem_map.1 hk
 exact daE_ok p
def RaR (b:List UInt8) (L:List (List UInt8)):Prop:=spl b = some L/\L ≠ []/\(daK L).length <= 8/\acB (daX L) (daK L) = b
theorem ra_ac {b:List UInt8} {L:List (List UInt8)} (h:RaR b L):AcR b (daX L) (daK L):=by
 obtain ⟨_,_,h3,h4⟩:=h
 have:=ac_pk (daX_ok L) rfl (daK_ok L) h3
 rw [h4] at this
 exact this
theorem u16_two {x y:UInt8}:x.toUInt16 * 256 + y.toUInt16 = (gK [x,y] 0 2).toUInt16:=by
 have e:=nu16_two (p:=[x,y]) rfl
 rw [<- e]
 apply UInt16.toNat_inj.1
 have e2:nuO [x,y] = x.toNat * 256 + y.toNat:=by
  show (0 * 256 + x.toNat) * 256 + y.toNat = _
  omega
 unfold nu16
 rw [e2,UInt16.toNat_ofNat',UInt16.toNat_add,UInt16.toNat_mul,UInt8.toNat_toUInt16,UInt8.toNat_toUInt16]
 have h1:=UInt8.toNat_lt x
 have h2:=UInt8.toNat_lt y
 show (x.toNat * 256 % 2 ^ 16 + y.toNat) % 2 ^ 16 = _
 omega
theorem daE_eq {p:List UInt8} (h:p.length = 34):daE p = acE p/\acK (acE p) = p:=by
 match p,h with
 | x :: y :: t,h=>
  have h:t.length + 1 + 1 = 34:=h
  have ht:t.length = 32:=by omega
  constructor
  ·unfold daE
   rw [if_pos (by show 2 <= t.length + 1 + 1;omega)]
   show (x.toUInt16 * 256 + y.toUInt16,kyO t) = ((gK [x,y] 0 2).toUInt16,t)
   rw [u16_two,kyO_eq ht]
  ·show putB (gK [x,y] 0 2).toUInt16.toNat 2 ++ t = x :: y :: t
   rw [putB_back rfl]
   rfl
theorem list4 {L:List (List UInt8)} (h:4 <= L.length):[L.getD 0 [],L.getD 1 [],L.getD 2 [],L.getD 3 []] ++ L.drop 4 = L:=by
 match L,h with
 | _ :: _ :: _ :: _ :: t,_=>rfl
theorem ac_ra {b:List UInt8} {x:Ac} {l:List On} (h:AcR b x l):∃ L,RaR b L/\x = daX L/\l = daK L:=by
 obtain ⟨L,h1,h2,h3,⟨a0,a1,a2,a3⟩,h5,rfl,rfl⟩:=h
 have hx:acX L = daX L:=by
  unfold acX daX
  rw [kyO_eq a0,kyO_eq a1,kyO_eq a2,nu16_two a3]
 have hl:(L.drop 4).map acE = daK L:=(List.map_congr_left fun p hp=>(daE_eq (h5 p hp)).1.symm)
 refine ⟨L,⟨h1,fun e=>by rw [e] at h2;exact absurd h2 (by decide),?_,?_⟩,hx,hl⟩
 ·show ((L.drop 4).map daE).length <= 8
  rw [List.length_map,zlD];omega
 ·rw [<- hx,<- hl,<- spl_back h1]
  unfold acB acA
  congr 1
  have e2:((L.drop 4).map acE).map acK = L.drop 4:=by
   rw [List.map_map]
   refine (List.map_congr_left (g:=id) fun p hp=>?_).trans (List.map_id _)
   exact (daE_eq (h5 p hp)).2
  rw [e2]
  refine Eq.trans ?_ (list4 h2)
  congr 1
  show [L.getD 0 [],L.getD 1 [],L.getD 2 [],putB (gK (L.getD 3 []) 0 2).toUInt16.toNat 2] = _
  rw [putB_back a3]
theorem fnNumI (x:UInt16):Sx.Fn Γ.P 69 [.i .i64 (x.toNat:Int),.i .i64 2] []
  (fun v M=>v = .isl 0 2 1 [(2,.a8 (putB x.toNat 2))]/\M = []):=by
 have hx:x.toNat < 65536:=UInt16.toNat_lt _
 have hP:=fn110 (UInt64.ofInt (x.toNat:Int)) 2 (by omega) (by omega) (by rw [ofInt_toNat (by omega)];exact small_div (by omega))
 rw [ofInt_toNat (by omega)] at hP
 obtain ⟨B,hB⟩:∃ B,putB x.toNat 2 = B:=⟨_,rfl⟩
 have hBl:B.length = 2:=by rw [<- hB,putB_length]
 rw [hB] at hP ⊢
 refine fn_of (Γ:=Γ) (fn:=Tryz.f69) rfl rfl rfl rfl ?_
 repeat (refine sd ?_)
 refine Call.intro hP [(1001,(301,0,none))] rfl fc rfl fc rfl ?_
 rintro v M' ⟨rfl,rfl⟩
 dsimp only [zt,zM,zE,ren,zz,zx,zy,look,zG,zX,ev,evL,zV,zcT,zcF,act,zP,zO,Ent.zW]
 repeat (refine sd ?_)
 refine Ret.ghost [.keep 301] [(4,0)] rfl ?_ rfl (.isl 0 2 1 [(2,.a8 B)]) [] [] rfl ?_ ⟨rfl,rfl⟩ rfl ?_ rfl ?_ rfl
 ·exact fc
 ·exact fc
 ·exact fc
 ·exact fc
end Go.Proofs.YtfnmgbillkiabaaGreat
