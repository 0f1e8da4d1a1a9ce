/- What the functions of the program compute. No condition. -/
import Derived.Test.YtpkllkbmoodniaaHwRb8ToRb8
import Derived.Test.YtpkllkbmoodniaaHx7
set_option linter.unusedSimpArgs false
set_option linter.unusedVariables false
namespace Go.Proofs.Ytpkllkbmoodniaa
open Go Go.Sx
theorem skr_ext {T:List Te} {key r:List UInt8} {n to:UInt16} {l:List Kp} {T':List Te} {k':List UInt8} {n':UInt16} {L':List Kp} {e:Int} (h:SkRes true T key r n to l T' k' n' L' e):Ext T T'∧∀ z,K8 T z→K8 T' z:=by
 rcases h with ⟨_,rfl,_⟩ | ⟨_,_,rfl,_⟩ | ⟨_,_,⟨i,_,_,_,rfl⟩,_⟩ | ⟨_,_,_,rfl,_⟩
 ·exact ⟨Ext.refl _,fun _ h=>h⟩
 ·exact ⟨Ext.refl _,fun _ h=>h⟩
 ·exact ⟨skA_ext _ _ _,fun _ h=>k8_skA h _ _⟩
 ·exact ⟨skA_ext _ _ _,fun _ h=>k8_skA h _ _⟩
theorem go_ext {T:List Te} {x:Se} {n:UInt16} {T':List Te} {x':Se} {row:List UInt8} {e:Int} (h:GoR T x n T' x' row e):Ext T T'∧(∀ z,K8 T z→K8 T' z)∧(row = z32 ∨ ∃ o,row = kyB o):=by
 obtain ⟨T1,k1,n1,L1,e1,hS,hc⟩:=h
 obtain ⟨h1,h2⟩:=skr_ext hS
 rcases hc with ⟨_,rfl,_,rfl,_⟩ | ⟨_,_,rfl,_,rfl,_⟩ | ⟨_,_,rfl,_,rfl,_⟩
 ·exact ⟨h1,h2,Or.inl rfl⟩
 ·exact ⟨h1,h2,Or.inl rfl⟩
 ·exact ⟨h1.trans (nxT_ext _ _),fun z hz=>k8_nxT (h2 z hz) _,Or.inr ⟨_,rfl⟩⟩
theorem find_ext {T:List Te} {y:Se} (hs:¬ y.hs = true) (hk:y.kp = []) {ra:List UInt8} {n pv:UInt16} {T':List Te} {x':Se} {row:List UInt8} {e:Int} (h:FindR T y ra n pv T' x' row e):Ext T T'∧(∀ z,K8 T z→K8 T' z)∧row.length = 32:=by
 have hr:(row = z32 ∨ ∃ o,row = kyB o)→row.length = 32:=by
  rintro (rfl | ⟨o,rfl⟩)
  ·exact z32_length
  ·exact kyB_length o
 rcases h with ⟨i,hi,_⟩ | ⟨_,T2,x2,e2,hT,hc⟩
 ·rw [hk] at hi;simp at hi
 ·have e2:T2 = T∧x2 = y:=by
   rcases hT with ⟨_,_,h1,h2,_⟩ | ⟨_,_,h1,h2,_⟩ | ⟨_,h1,_⟩
   ·exact ⟨h1,h2⟩
   ·exact ⟨h1,h2⟩
   ·exact absurd h1 hs
  obtain ⟨rfl,rfl⟩:=e2
  rcases hc with ⟨_,rfl,_,rfl,_⟩ | ⟨_,hG⟩
  ·exact ⟨Ext.refl _,fun _ h=>h,z32_length⟩
  ·obtain ⟨h1,h2,h3⟩:=go_ext hG
   exact ⟨h1,h2,hr h3⟩
structure Let (T:List Te) (y:Se) (H:Hd) (oL oZ:Nat) (p:List UInt8):Prop where
 hs:¬ y.hs = true
 kp:y.kp = []
 hr:y.hr = true
 rn:y.rn = 0
 n0:H.n = 0
 ss:H.ss = y.id
 good:hdG H
 ra:H.ra = y.th
 ok:H.OK
 rk:y.rk.length = 32
 nx:Num T (7,[[77],y.rk]) (nxK T y.rk)∧Num T (7,[[78],y.rk]) (nxN T y.rk)
 lk:Num T (7,[[75],kyB (nxK T y.rk),hdB H]) oL
 sealed:Num T (8,[kyB oL,p]) oZ
 pl:p.length ≤ 1024
theorem Let.ext {T T':List Te} {y:Se} {H:Hd} {oL oZ:Nat} {p:List UInt8} (h:Let T y H oL oZ p) (hE:Ext T T'):Let T' y H oL oZ p∧nxT T' y.rk = T':=by
 obtain ⟨a1,a2⟩:=h.nx
 obtain ⟨b1,b2,b3⟩:=nx_has (by have:=h.rk;omega) (hE _ _ a1) (hE _ _ a2)
 refine ⟨⟨h.hs,h.kp,h.hr,h.rn,h.n0,h.ss,h.good,h.ra,h.ok,h.rk,⟨?_,?_⟩,?_,hE _ _ h.sealed,h.pl⟩,b1⟩
 ·rw [b2];exact hE _ _ a1
 ·rw [b3];exact hE _ _ a2
 ·rw [b2];exact hE _ _ h.lk
theorem Let.bl {T:List Te} {y:Se} {H:Hd} {oL oZ:Nat} {p:List UInt8} (h:Let T y H oL oZ p):(hdB H).length ≤ 1024:=by have:=hdB_le h.ok;omega
theorem Let.find {T:List Te} {y:Se} {H:Hd} {oL oZ:Nat} {p:List UInt8} (h:Let T y H oL oZ p):∃ y',FindR T y H.ra H.n H.pv T y' (kyB (nxK T y.rk)) 0:=by
 have hN:=(h.ext (Ext.refl T)).2
 have hz:(0:UInt16).toNat = 0:=rfl
 refine ⟨_,Or.inr ⟨by rw [h.kp];exact fiI_nil _ _,T,y,0,Or.inl ⟨h.hr,h.ra,rfl,rfl,rfl⟩,Or.inr ⟨rfl,T,y.rk,0,[],0,?_,Or.inr (Or.inr ⟨rfl,by decide,hN.symm,rfl,rfl,rfl⟩)⟩⟩⟩
 rw [h.kp,h.rn,h.n0]
 refine Or.inr (Or.inr (Or.inr ⟨Nat.le_refl _,by simp,?_,?_,?_,rfl,?_,rfl⟩))
 ·intro j hj
  rw [hz] at hj
  exact absurd hj (by omega)
 ·rw [hz,Nat.sub_self,skA_zero]
 ·rw [hz,Nat.sub_self,skA_zero]
 ·rw [hz,Nat.sub_self,skP_zero]
theorem Let.opens {T:List Te} {y:Se} {H:Hd} {oL oZ:Nat} {p:List UInt8} (h:Let T y H oL oZ p) (hl:T.length < 4294967296):∃ y',OpenR T y H (sefB oZ p.length) T y' (some p) 0:=by
 obtain ⟨y',hF⟩:=h.find
 have hm:=mx2_has (by have:=kyB_length (nxK T y.rk);omega) h.bl h.lk
 refine ⟨y',Or.inr (Or.inr ⟨h.ss,h.good,T,y',_,0,hF,Or.inr ⟨rfl,by rw [hm],?_,Or.inr ⟨by simp,rfl,rfl⟩⟩⟩)⟩
 rw [hm]
 exact (opn_sealed h.sealed hl h.pl).symm
theorem opn_key {T:List Te} {oZ oL o:Nat} {p q S:List UInt8} (hZ:Num T (8,[kyB oL,p]) oZ) (hS:S.take 32 = kyB oZ) (hl:T.length < 4294967296) (h:opn T T.length (kyB o) S = some q):kyB o = kyB oL:=by
 obtain ⟨i,h1,h2,h3,_⟩:=opn_some h
 obtain ⟨z1,z2,z3⟩:=hZ.getD
 rw [hS,numP_ky z3 z2 hl] at h1
 have:i = oZ - 1:=by omega
 subst this
 rw [z1] at h3
 have h3:[kyB oL,p] = [kyB o,q]:=h3
 simp only [List.cons.injEq] at h3
 exact h3.1.symm
theorem Let.turned {T:List Te} {y:Se} {H:Hd} {oL oZ:Nat} {p:List UInt8} (L:Let T y H oL oZ p) (hl:T.length ≤ 100000) {h:Hd} (hh:h.OK) {T':List Te} {x':Se} {q:Option (List UInt8)} {e:Int} (hO:OpenR T y h (sefB oZ p.length) T' x' q e) (hl':T'.length ≤ 100000) :
  (e = 0 ↔ h = H)∧(¬ e = 0→q = none∧x' = y)∧Ext T T'∧∀ z,K8 T z→K8 T' z:=by
 have hE:Ext T T'∧(∀ z,K8 T z→K8 T' z)∧(e = 0→h = H)∧(¬ e = 0→q = none∧x' = y):=by
  rcases hO with ⟨_,rfl,rfl,rfl,rfl⟩ | ⟨_,_,rfl,rfl,rfl,rfl⟩ | ⟨_,_,T1,x1,row,e1,hF,hc⟩
  ·exact ⟨Ext.refl _,fun _ h=>h,fun h=>absurd h (by decide),fun _=>⟨rfl,rfl⟩⟩
  ·exact ⟨Ext.refl _,fun _ h=>h,fun h=>absurd h (by decide),fun _=>⟨rfl,rfl⟩⟩
  ·obtain ⟨f1,f2,f3⟩:=find_ext L.hs L.kp hF
   rcases hc with ⟨c1,rfl,rfl,rfl,rfl⟩ | ⟨rfl,rfl,c2,c3⟩
   ·exact ⟨f1,f2,fun h=>absurd h c1,fun _=>⟨rfl,rfl⟩⟩
   ·have hE:Ext T (mx2 T1 75 row (hdB h)).1:=f1.trans (mx2_ext _ _ _ _)
    refine ⟨hE,fun z hz=>k8_mx2 (f2 z hz) _ _ _,fun he=>?_,fun he=>?_⟩
    ·rcases c3 with ⟨_,_,rfl⟩ | ⟨c4,_,_⟩
     ·exact absurd he (by decide)
     ·cases hq:q with
      | none=>exact absurd hq c4
      | some q'=>
       rw [hq] at c2
       have hBh:=hdB_le hh
       have hn:=mx2_num T1 75 (p:=row) (q:=hdB h) (by omega) (by omega)
       have hk:=opn_key (hE _ _ L.sealed) (sefB_take _ _) (by omega) c2.symm
       have hoL:=hE _ _ L.lk
       have e1:(mx2 T1 75 row (hdB h)).2 = oL:=kyG_inj (by have:=hn.getD.2.1;omega) (by have:=hoL.getD.2.1;omega) hn.2 hoL.2 hk
       rw [e1] at hn
       have:=hn.det hoL
       simp only [Prod.mk.injEq,List.cons.injEq,and_true,true_and] at this
       exact hdB_inj hh L.ok this.2
    ·rcases c3 with ⟨h1,h2,_⟩ | ⟨_,_,h3⟩
     ·exact ⟨h1,h2⟩
     ·exact absurd h3 he
 refine ⟨⟨hE.2.2.1,fun he=>?_⟩,hE.2.2.2,hE.1,hE.2.1⟩
 subst he
 obtain ⟨y',hO'⟩:=L.opens (by omega)
 exact (open_det hO hO').2.2.2
theorem Let.spoilt {T:List Te} {y:Se} {H:Hd} {oL oZ:Nat} {p:List UInt8} (L:Let T y H oL oZ p) (hl:T.length ≤ 100000) (h8:K8 T oZ) {S:List UInt8} (hS:S.length = (sefB oZ p.length).length) (hne:S ≠ sefB oZ p.length):OpenR T y H S T y none 182:=by
 obtain ⟨y',hF⟩:=L.find
 have hm:=mx2_has (by have:=kyB_length (nxK T y.rk);omega) L.bl L.lk
 refine Or.inr (Or.inr ⟨L.ss,L.good,T,y',_,0,hF,Or.inr ⟨rfl,by rw [hm],?_,Or.inl ⟨rfl,rfl,rfl⟩⟩⟩)
 rw [hm]
 cases hq:opn T T.length (kyB oL) S with
 | none=>rfl
 | some q=>
  exfalso
  obtain ⟨i,h1,h2,h3,h4⟩:=opn_some hq
  have hi:=numP_le (S.take 32) T.length 0
  have hz:=h8 i (by omega) h2
  rw [numP_eq] at h1
  split at h1
  ·rename_i hc
   obtain ⟨c1,c2,c3,c4⟩:=hc
   rw [h1,hz] at c4
   apply hne
   have hl1:=sefB_length oZ p.length
   have e1:S.take 32 = kyB oZ:=by
    rw [List.drop_zero,List.take_take,Nat.min_self] at c4
    rw [c4]
    obtain ⟨k,rfl⟩:∃ k,oZ = k + 1:=⟨oZ - 1,by omega⟩
    rfl
   rw [← List.take_append_drop 32 S,e1,h4,hS,hl1,sefB_eq]
   congr 2
  ·cases h1
theorem let_make {T:List Te} {x y:Se} {dr p:List UInt8} {oP:Nat} (hs:x.hs = true) (hsn:x.sn = 0) (hx:x.OK) (hP:Num T (2,[x.mine]) oP) (h8:K8 T 0) (hp:p.length ≤ 1024) (ys:¬ y.hs = true) (yk:y.kp = []) (yr:y.hr = true) (yn:y.rn = 0) (yi:y.id = x.id) (yt:y.th = kyB oP) (yq:y.rk = x.sk) :
  Let (slZ T x dr p).1 y (slH x (kyB oP)) (slL T x dr).2 (slZ T x dr p).2 p∧K8 (slZ T x dr p).1 (slZ T x dr p).2:=by
 obtain ⟨_,e2,e3⟩:=seal_next (T:=T) (dr:=dr) (p:=p) hs (by rw [hsn];decide) hx.mine hp hP
 obtain ⟨t1,t2,t3⟩:=seal_terms (p:=p) hp (slHd_small hx oP) e2 e3
 have hk:x.sk.length ≤ 1024:=by have:=hx.sk;omega
 obtain ⟨n1,n2⟩:=nxT_num T hk
 obtain ⟨_,a2,a3⟩:=nx_again hk t1
 refine ⟨⟨ys,yk,yr,yn,hsn,by rw [yi];rfl,slH_good _ _,by rw [yt];rfl,slH_ok hx (kyB_length _),by rw [yq];exact hx.sk,⟨?_,?_⟩,?_,t3,hp⟩,?_⟩
 ·rw [yq,a2];exact t1 _ _ n1
 ·rw [yq,a3];exact t1 _ _ n2
 ·rw [yq,a2];exact t2
 ·rw [e3]
  refine k8_mx8 ?_ (by have:=kyB_length (slL T x dr).2;omega) hp
  rw [e2]
  exact k8_mx2 (k8_nxT h8 _) _ _ _
end Go.Proofs.Ytpkllkbmoodniaa
