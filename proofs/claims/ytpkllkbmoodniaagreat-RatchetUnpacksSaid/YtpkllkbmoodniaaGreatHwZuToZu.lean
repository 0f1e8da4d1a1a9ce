/- What the functions of the program compute. No condition. -/
import Derived.Test.YtpkllkbmoodniaaGreatHwRc3ToRc5
set_option linter.unusedSimpArgs false
set_option linter.unusedVariables false
namespace Go.Proofs.YtpkllkbmoodniaaGreat
open Go Go.Sx
def kyO (p:List UInt8):List UInt8:=p.take 32 ++ List.replicate (32 - p.length) 0
def nuA (b:List UInt8):Nat→Nat
 | 0=>0
 | i + 1=>nuA b i * 256 + (b.getD i 0).toNat
def nuO (p:List UInt8):Nat:=nuA p (min p.length 4)
theorem nuA_succ (b:List UInt8) (i:Nat):nuA b (i + 1) = nuA b i * 256 + (b.getD i 0).toNat:=rfl
theorem nuA_lt (b:List UInt8):∀ i,nuA b i < 256 ^ i
 | 0=>Nat.one_pos
 | i + 1=>by
  have h1:=nuA_lt b i
  have h2:(b.getD i 0).toNat < 256:=UInt8.toNat_lt _
  rw [nuA_succ,Nat.pow_succ]
  have:(nuA b i + 1) * 256 ≤ 256 ^ i * 256:=Nat.mul_le_mul_right _ h1
  omega
theorem nuO_lt (p:List UInt8):nuO p < 4294967296:=by
 have h:=nuA_lt p (min p.length 4)
 have h2:256 ^ (min p.length 4) ≤ 256 ^ 4:=Nat.pow_le_pow_right (by decide) (Nat.min_le_right _ _)
 unfold nuO
 have:(256:Nat) ^ 4 = 4294967296:=by decide
 omega
theorem kyO_length (p:List UInt8):(kyO p).length = 32:=by
 unfold kyO;rw [List.length_append,List.length_take,List.length_replicate];omega
theorem kyO_eq {p:List UInt8} (h:p.length = 32):kyO p = p:=by
 unfold kyO;rw [h,List.take_of_length_le (by omega)];exact List.append_nil _
theorem nuO_one {p:List UInt8} (h:p.length = 1):nuO p = (p.getD 0 0).toNat:=by
 unfold nuO;rw [h]
 show 0 * 256 + (p.getD 0 0).toNat = _
 omega
theorem nuO_two {p:List UInt8} (h:p.length = 2):nuO p = (gK p 0 2).toNat:=by
 have e1:(gK p 0 1).toNat = (p.getD 0 0).toNat:=by
  show (shl64 0 8 ||| (p.getD (0 + 0) 0).toUInt64).toNat = _
  rw [shl_or _ _ (by decide)]
  show 0 * 256 + (p.getD 0 0).toNat = _
  omega
 have e2:(gK p 0 2).toNat = (p.getD 0 0).toNat * 256 + (p.getD 1 0).toNat:=by
  show (shl64 (gK p 0 1) 8 ||| (p.getD (0 + 1) 0).toUInt64).toNat = _
  have:=UInt8.toNat_lt (p.getD 0 0)
  rw [shl_or _ _ (by omega),e1]
 rw [e2]
 unfold nuO;rw [h]
 show (0 * 256 + (p.getD 0 0).toNat) * 256 + (p.getD 1 0).toNat = _
 omega
def nu16 (p:List UInt8):UInt16:=UInt16.ofNat (nuO p)
theorem nu16_two {p:List UInt8} (h:p.length = 2):nu16 p = (gK p 0 2).toUInt16:=by
 apply UInt16.toNat_inj.1
 unfold nu16
 rw [UInt16.toNat_ofNat',UInt64.toNat_toUInt16,nuO_two h]
def rfX (L:List (List UInt8)):Se:={ id:=kyO (L.getD 0 []),root:=kyO (L.getD 1 []),mine:=kyO (L.getD 2 []),hs:=decide (nuO (L.getD 3 []) = 1),sk:=kyO (L.getD 4 []),sn:=nu16 (L.getD 5 []),pv:=nu16 (L.getD 6 []),th:=kyO (L.getD 7 []),hr:=decide (nuO (L.getD 8 []) = 1),rk:=kyO (L.getD 9 []),rn:=nu16 (L.getD 10 []),fi:=decide (nuO (L.getD 11 []) = 1),ag:=kyO (L.getD 12 []),sg:=kyO (L.getD 13 []),ba:=kyO (L.getD 14 []),oc:=nu16 (L.getD 15 []),kp:=[] }
def rfE (p:List UInt8):Kp:=(kyO (((spl p).getD []).getD 0 []),nu16 (((spl p).getD []).getD 1 []),kyO (((spl p).getD []).getD 2 []))
def rfK (L:List (List UInt8)):List Kp:=(L.drop 16).map rfE
theorem rfX_ok (L:List (List UInt8)):(rfX L).OK:=⟨kyO_length _,kyO_length _,kyO_length _,kyO_length _,kyO_length _,kyO_length _,kyO_length _,kyO_length _,kyO_length _,fun _ h=>by cases h⟩
theorem rfK_ok (L:List (List UInt8)):∀ k ∈ rfK L,KpOK k:=by
 intro k hk
 obtain ⟨p,_,rfl⟩:=List.mem_map.1 hk
 exact ⟨kyO_length _,kyO_length _⟩
def RfR (b:List UInt8) (L:List (List UInt8)):Prop:=spl b = some L∧L ≠ []∧(rfK L).length ≤ 16∧pkB (rfX L) (rfK L) = b
theorem rf_up {b:List UInt8} {L:List (List UInt8)} (h:RfR b L):UpR b (rfX L) (rfK L):=by
 obtain ⟨_,_,h3,h4⟩:=h
 have:=up_pk (rfX_ok L) (rfK_ok L) h3
 rw [h4] at this
 exact this
theorem two_bytes {x y:UInt8} {n:Nat} (h:x.toNat * 256 + y.toNat = n):UInt8.ofNat (n / 256) = x∧UInt8.ofNat n = y:=by
 have hx:=UInt8.toNat_lt x
 have hy:=UInt8.toNat_lt y
 constructor
 ·apply UInt8.toNat_inj.1
  rw [UInt8.toNat_ofNat'];omega
 ·apply UInt8.toNat_inj.1
  rw [UInt8.toNat_ofNat'];omega
theorem two_heads {b:List UInt8} (h:¬ b.length < 2):∃ x y t,b = x :: y :: t:=by
 rcases b with _ | ⟨x,_ | ⟨y,t⟩⟩
 ·exact absurd Nat.two_pos h
 ·exact absurd (Nat.lt_succ_self 1) h
 ·exact ⟨x,y,t,rfl⟩
theorem splR_back:∀ {k:Nat} {b:List UInt8} {L:List (List UInt8)},splR k b = some L→L.length = k∧jnR L = b
 | 0,b,L,h=>by
  rw [splR_zero] at h
  split at h
  ·rename_i h0
   obtain rfl:[] = L:=Option.some.inj h
   exact ⟨rfl,(List.length_eq_zero_iff.1 h0).symm⟩
  ·cases h
 | k + 1,b,L,h=>by
  rw [splR_succ] at h
  split at h
  ·cases h
  ·split at h
   ·cases h
   ·split at h
    ·cases h
    ·rename_i h1 h2 h3
     obtain ⟨r,hr,e⟩:=Option.map_eq_some_iff.1 h
     subst e
     obtain ⟨i1,i2⟩:=splR_back hr
     obtain ⟨x,y,t,rfl⟩:=two_heads h1
     refine ⟨by rw [List.length_cons,i1],?_⟩
     obtain ⟨n,hn⟩:∃ n,x.toNat * 256 + y.toNat = n:=⟨_,rfl⟩
     have e0:((x :: y :: t).getD 0 0).toNat * 256 + ((x :: y :: t).getD 1 0).toNat = n:=hn
     have e1:(x :: y :: t).drop 2 = t:=rfl
     rw [e0,e1] at h3 i2 ⊢
     have hl:(t.take n).length = n:=by rw [List.length_take];omega
     show [UInt8.ofNat ((t.take n).length / 256),UInt8.ofNat (t.take n).length] ++ t.take n ++ jnR r = _
     rw [hl,i2,(two_bytes hn).1,(two_bytes hn).2,List.append_assoc,List.take_append_drop]
     rfl
theorem spl_back {b:List UInt8} {L:List (List UInt8)} (h:spl b = some L):jnB L = b:=by
 rw [spl_eq] at h
 split at h
 ·cases h
 ·split at h
  ·cases h
  ·rename_i h1 h2
   obtain ⟨i1,i2⟩:=splR_back h
   match b,h1 with
   | x :: t,_=>
    have e:(x :: t).drop 1 = t:=rfl
    rw [e] at i2
    have i1:L.length = x.toNat:=i1
    rw [jnB_eq,i1,i2]
    congr 1
    apply UInt8.toNat_inj.1
    rw [UInt8.toNat_ofNat']
    have:=UInt8.toNat_lt x
    omega
   | [],h1=>exact absurd rfl h1
theorem flB_back {p:List UInt8} (h:p.length = 1) (h1:¬ p.getD 0 0 > 1):flB (decide (p.getD 0 0 = 1)) = p:=by
 match p,h with
 | [x],_=>
  have h1:¬ x > 1:=h1
  show flB (decide (x = 1)) = [x]
  by_cases hx:x = 1
  ·subst hx;rfl
  ·have:x = 0:=by
    apply UInt8.toNat_inj.1
    have h2:¬ (1:UInt8).toNat < x.toNat:=h1
    have h3:x.toNat ≠ 1:=fun e=>hx (UInt8.toNat_inj.1 e)
    have h4:(1:UInt8).toNat = 1:=rfl
    show x.toNat = 0
    omega
   subst this;rfl
theorem putB_back {p:List UInt8} (h:p.length = 2):putB (gK p 0 2).toUInt16.toNat 2 = p:=by
 match p,h with
 | [x,y],_=>
  have e:=nuO_two (p:=[x,y]) rfl
  have e2:nuO [x,y] = x.toNat * 256 + y.toNat:=by
   show (0 * 256 + x.toNat) * 256 + y.toNat = _
   omega
  rw [e2] at e
  have hx:=UInt8.toNat_lt x
  have hy:=UInt8.toNat_lt y
  rw [UInt64.toNat_toUInt16,← e,Nat.mod_eq_of_lt (by omega)]
  obtain ⟨a1,a2⟩:=two_bytes (x:=x) (y:=y) rfl
  show [UInt8.ofNat ((x.toNat * 256 + y.toNat) / 256 ^ 1),UInt8.ofNat ((x.toNat * 256 + y.toNat) / 256 ^ 0)] = [x,y]
  rw [Nat.pow_one,Nat.pow_zero,Nat.div_one,a1,a2]
theorem dec_nuO {p:List UInt8} (h:p.length = 1):decide (nuO p = 1) = decide (p.getD 0 0 = 1):=by
 rw [nuO_one h]
 apply decide_eq_decide.2
 constructor
 ·intro e;exact UInt8.toNat_inj.1 e
 ·intro e;rw [e];rfl
theorem rfE_eq {p:List UInt8} {k:Kp} (h:upE p = some k):rfE p = k∧pkK k = p:=by
 unfold upE at h
 split at h
 ·rename_i a b c e
  split at h
  ·rename_i g
   obtain rfl:=Option.some.inj h
   constructor
   ·unfold rfE
    rw [e]
    show (kyO a,nu16 b,kyO c) = _
    rw [kyO_eq g.1,kyO_eq g.2.2,nu16_two g.2.1]
   ·unfold pkK pkP
    rw [← spl_back e]
    show jnB [a,putB (gK b 0 2).toUInt16.toNat 2,c] = _
    rw [putB_back g.2.1]
  ·cases h
 ·cases h
theorem rfEs_eq:∀ {A:List (List UInt8)} {l:List Kp},upEs A = some l→A.map rfE = l∧l.map pkK = A
 | [],l,h=>by
  obtain rfl:[] = l:=Option.some.inj h
  exact ⟨rfl,rfl⟩
 | q :: r,l,h=>by
  have h:(match upE q,upEs r with | some k,some l=>some (k :: l) | _,_=>none) = some l:=h
  cases e1:upE q with
  | none=>rw [e1] at h;cases h
  | some y=>
   cases e2:upEs r with
   | none=>rw [e1,e2] at h;cases h
   | some z=>
    rw [e1,e2] at h
    obtain rfl:y :: z = l:=Option.some.inj h
    obtain ⟨a1,a2⟩:=rfE_eq e1
    obtain ⟨b1,b2⟩:=rfEs_eq e2
    exact ⟨by rw [List.map_cons,a1,b1],by rw [List.map_cons,a2,b2]⟩
theorem list16 {L:List (List UInt8)} (h:16 ≤ L.length):[L.getD 0 [],L.getD 1 [],L.getD 2 [],L.getD 3 [],L.getD 4 [],L.getD 5 [],L.getD 6 [],L.getD 7 [],L.getD 8 [],L.getD 9 [],L.getD 10 [],L.getD 11 [],L.getD 12 [],L.getD 13 [],L.getD 14 [],L.getD 15 []] ++ L.drop 16 = L:=by
 match L,h with
 | _ :: _ :: _ :: _ :: _ :: _ :: _ :: _ :: _ :: _ :: _ :: _ :: _ :: _ :: _ :: _ :: t,_=>rfl
theorem up_rf {b:List UInt8} {x:Se} {l:List Kp} (h:UpR b x l):∃ L,RfR b L∧x = rfX L∧l = rfK L:=by
 obtain ⟨L,h1,h2,h3,h4,rfl⟩:=h
 obtain ⟨e1,e2⟩:=rfEs_eq h4
 have hz:∀ i,i < 16→i < L.length∧(L.getD i []).length = upZ.getD i 0∧(upZ.getD i 0 = 1→¬ (L.getD i []).getD 0 0 > 1):=h2.2
 have h16:16 ≤ L.length:=(hz 15 (by omega)).1
 have k:=fun i (hi:i < 16) (hs:upZ.getD i 0 = 32)=>kyO_eq ((hz i hi).2.1.trans hs)
 have s:=fun i (hi:i < 16) (hs:upZ.getD i 0 = 2)=>nu16_two ((hz i hi).2.1.trans hs)
 have f:=fun i (hi:i < 16) (hs:upZ.getD i 0 = 1)=>dec_nuO ((hz i hi).2.1.trans hs)
 have hx:upX L = rfX L:=by
  unfold upX rfX
  rw [k 0 (by omega) rfl,k 1 (by omega) rfl,k 2 (by omega) rfl,f 3 (by omega) rfl,k 4 (by omega) rfl,s 5 (by omega) rfl,s 6 (by omega) rfl,k 7 (by omega) rfl,f 8 (by omega) rfl,k 9 (by omega) rfl,s 10 (by omega) rfl,f 11 (by omega) rfl,k 12 (by omega) rfl,k 13 (by omega) rfl,k 14 (by omega) rfl,s 15 (by omega) rfl]
 have hl:l = rfK L:=by rw [← e1];rfl
 refine ⟨L,⟨h1,fun e=>by rw [e] at h16;exact absurd h16 (by decide),?_,?_⟩,hx,hl⟩
 ·show ((L.drop 16).map rfE).length ≤ 16
  rw [List.length_map,List.length_drop];omega
 ·rw [← hx,← hl,← spl_back h1]
  unfold pkB pkA
  congr 1
  rw [e2]
  refine Eq.trans ?_ (list16 h16)
  congr 1
  have p:=fun i (hi:i < 16) (hs:upZ.getD i 0 = 2)=>putB_back ((hz i hi).2.1.trans hs)
  have g:=fun i (hi:i < 16) (hs:upZ.getD i 0 = 1)=>flB_back ((hz i hi).2.1.trans hs) ((hz i hi).2.2 hs)
  show [L.getD 0 [],L.getD 1 [],L.getD 2 [],flB (decide ((L.getD 3 []).getD 0 0 = 1)),L.getD 4 [],putB (gK (L.getD 5 []) 0 2).toUInt16.toNat 2,putB (gK (L.getD 6 []) 0 2).toUInt16.toNat 2,L.getD 7 [],flB (decide ((L.getD 8 []).getD 0 0 = 1)),L.getD 9 [],putB (gK (L.getD 10 []) 0 2).toUInt16.toNat 2,flB (decide ((L.getD 11 []).getD 0 0 = 1)),L.getD 12 [],L.getD 13 [],L.getD 14 [],putB (gK (L.getD 15 []) 0 2).toUInt16.toNat 2] = _
  rw [g 3 (by omega) rfl,p 5 (by omega) rfl,p 6 (by omega) rfl,g 8 (by omega) rfl,p 10 (by omega) rfl,g 11 (by omega) rfl,p 15 (by omega) rfl]
end Go.Proofs.YtpkllkbmoodniaaGreat
