/- What the functions of the program compute. No condition. -/
import Derived.Test.YtfnmgbillkiabaaGreatHwZa3ToRb0
import Derived.Test.YtfnmgbillkiabaaGreatHwRb4ToNm
import Derived.Test.YtfnmgbillkiabaaGreatHwRb2ToRb2
set_option linter.unusedSimpArgs false
set_option linter.unusedVariables false
namespace Go.Proofs.YtfnmgbillkiabaaGreat
open Go Go.Sx
theorem v7 (lab:UInt8) {p:List UInt8} (hp:p.length <= 1024):Valid 7 [[lab],p]:=valid7 (joins2 lab hp)
theorem v72 (lab:UInt8) {p q:List UInt8} (hp:p.length <= 1024) (hq:q.length <= 1024):Valid 7 [[lab],p,q]:=valid7 (joins3 lab hp hq)
theorem mx1_num (T:List Te) (lab:UInt8) {p:List UInt8} (hp:p.length <= 1024):Num (mx1 T lab p).1 (7,[[lab],p]) (mx1 T lab p).2:=by rw [mx1_eq];exact mkT_num (x:=(7,_)) (v7 lab hp)
theorem mx1_ext (T:List Te) (lab:UInt8) (p:List UInt8):Ext T (mx1 T lab p).1:=by rw [mx1_eq];exact Ext.mk _ _
theorem mx1_has {T:List Te} {lab:UInt8} {p:List UInt8} {o:Nat} (hp:p.length <= 1024) (h:Num T (7,[[lab],p]) o):mx1 T lab p = (T,o):=by rw [mx1_eq];exact mkT_has (x:=(7,_)) (v7 lab hp) h
theorem mx2_num (T:List Te) (lab:UInt8) {p q:List UInt8} (hp:p.length <= 1024) (hq:q.length <= 1024):Num (mx2 T lab p q).1 (7,[[lab],p,q]) (mx2 T lab p q).2:=by rw [mx2_eq];exact mkT_num (x:=(7,_)) (v72 lab hp hq)
theorem mx2_ext (T:List Te) (lab:UInt8) (p q:List UInt8):Ext T (mx2 T lab p q).1:=by rw [mx2_eq];exact Ext.mk _ _
theorem mx2_has {T:List Te} {lab:UInt8} {p q:List UInt8} {o:Nat} (hp:p.length <= 1024) (hq:q.length <= 1024) (h:Num T (7,[[lab],p,q]) o):mx2 T lab p q = (T,o):=by rw [mx2_eq];exact mkT_has (x:=(7,_)) (v72 lab hp hq) h
theorem nxT_ext (T:List Te) (key:List UInt8):Ext T (nxT T key):=by unfold nxT nxA;exact (mx1_ext _ _ _).trans (mx1_ext _ _ _)
theorem nxT_num (T:List Te) {key:List UInt8} (hk:key.length <= 1024):Num (nxT T key) (7,[[77],key]) (nxK T key)/\Num (nxT T key) (7,[[78],key]) (nxN T key):=by
 unfold nxT nxK nxN nxA
 exact ⟨mx1_ext _ _ _ _ _ (mx1_num T 77 hk),mx1_num _ 78 hk⟩
theorem nx_has {T:List Te} {key:List UInt8} (hk:key.length <= 1024) {a b:Nat} (h1:Num T (7,[[77],key]) a) (h2:Num T (7,[[78],key]) b):nxT T key = T/\nxK T key = a/\nxN T key = b:=by
 have e1:=mx1_has hk h1
 unfold nxT nxK nxN nxA
 rw [e1]
 have e2:=mx1_has hk h2
 rw [e2]
 exact ⟨rfl,rfl,rfl⟩
theorem nx_again {T0 T:List Te} {key:List UInt8} (hk:key.length <= 1024) (h:Ext (nxT T0 key) T):nxT T key = T/\nxK T key = nxK T0 key/\nxN T key = nxN T0 key:=by
 obtain ⟨h1,h2⟩:=nxT_num T0 hk
 exact nx_has hk (h _ _ h1) (h _ _ h2)
def K8 (T:List Te) (z:Nat):Prop:=∀ q,q < T.length->(T.getD q te0).1 = 8->q + 1 = z
theorem K8.mk {T:List Te} {z:Nat} (h:K8 T z) {x:Te} (hx:x.1 ≠ 8):K8 (mkT T x).1 z:=by
 by_cases hV:Valid x.1 x.2
 ·cases hf:fdT x T with
  | zero=>
   rw [mkT_new hV hf]
   intro q hq h8
   have hq:q < T.length + 1:=by simpa using hq
   rcases Nat.lt_or_ge q T.length with hl | hl
   ·rw [List.getD_eq_getElem?_getD,List.getElem?_append_left hl,<- List.getD_eq_getElem?_getD] at h8
    exact h q hl h8
   ·obtain rfl:q = T.length:=by omega
    rw [List.getD_eq_getElem?_getD,List.getElem?_append_right (Nat.le_refl _),Nat.sub_self] at h8
    exact absurd h8 hx
  | succ i=>rw [mkT_old hV hf];exact h
 ·rw [mkT_no hV];exact h
theorem K8.new {T:List Te} (h:K8 T 0) {L:List (List UInt8)} (hV:Valid 8 L):K8 (mkT T (8,L)).1 (mkT T (8,L)).2:=by
 have hf:fdT (8,L) T = 0:=by
  cases hf:fdT (8,L) T with
  | zero=>rfl
  | succ i=>
   have h1:=fdG_getD hf
   have h2:=fdT_le (8,L) T
   have:=h i (by omega) (by rw [h1])
   omega
 rw [mkT_new hV hf]
 intro q hq h8
 have hq:q < T.length + 1:=by simpa using hq
 rcases Nat.lt_or_ge q T.length with hl | hl
 ·rw [List.getD_eq_getElem?_getD,List.getElem?_append_left hl,<- List.getD_eq_getElem?_getD] at h8
  have:=h q hl h8
  omega
 ·show q + 1 = T.length + 1
  omega
theorem skG_mem (fr:Bool) (T:List Te) (key:List UInt8) (r:List UInt8) (n:UInt16) (l:List Kp):∀ j,∀ x ∈ skP fr T key r n l j,x ∈ l \/ ∃ i,i < j/\x = (r,n + UInt16.ofNat i,skK fr T key i)
 | 0,x,h=>by rw [skP_zero'] at h;exact Or.inl h
 | j + 1,x,h=>by
  rw [skP_succ] at h
  rcases List.mem_append.1 h with h | h
  ·exact (skG_mem fr T key r n l j x h).imp id fun ⟨i,h1,h2⟩=>⟨i,by omega,h2⟩
  ·exact Or.inr ⟨j,by omega,List.mem_singleton.1 h⟩
theorem fiG_no {r:List UInt8} {k:UInt16} {L:List Kp} (h:∀ x ∈ L,¬ isK r k x):fiI r k L = -1:=by
 have:=fiI_none (r:=r) (n:=k) (l:=L) (m:=L.length) (Nat.le_refl _) (fun j hj=>h _ (getD_mem kp0 hj))
 rw [List.take_length] at this;exact this
theorem u16G_ne (n:UInt16) {i j:Nat} (hij:i < j) (hj:j < 65536):n + UInt16.ofNat i ≠ n + UInt16.ofNat j:=by
 intro h
 have:=congrArg UInt16.toNat h
 rw [UInt16.toNat_add,UInt16.toNat_add,UInt16.toNat_ofNat',UInt16.toNat_ofNat'] at this
 have:=n.toNat_lt
 omega
theorem skXG_nil (fr:Bool) (T:List Te) (key:List UInt8) (r:List UInt8) (n:UInt16) {j:Nat} (hj:j < 65536):¬ skX fr T key r n [] j:=by
 unfold skX
 rw [fiG_no]
 ·omega
 ·intro x hx h
  rcases skG_mem fr T key r n [] j x hx with h1 | ⟨i,h1,h2⟩
  ·cases h1
  ·subst h2
   exact u16G_ne n h1 hj h.2
theorem fiI_nil (r:List UInt8) (n:UInt16):fiI r n [] = -1:=fiG_no fun x hx=>by cases hx
theorem open_next {T:List Te} {y:Se} {h:Hd} (hkp:y.kp = []) (hhr:y.hr = true) (hrn:y.rn = 0) (hi:h.n.toNat <= 16) (hss:h.ss = y.id) (hG:hdG h) (hra:h.ra = y.th) {k:List UInt8} (hA:skA true T y.rk h.n.toNat = (T,k)) (hN:nxT T k = T)
  {oL oZ:Nat} {p:List UInt8} (hL:Num T (7,[[75],kyB (nxK T k),hdB h]) oL) (hBl:(hdB h).length <= 1024) (hZ:Num T (8,[kyB oL,p]) oZ) (hp:p.length <= 1024) (hTl:T.length < 4294967296) :
  OpenR T y h (sefB oZ p.length) T { y with rk:=kyB (nxN T k),rn:=h.n + 1,kp:=skP true T y.rk y.th 0 [] h.n.toNat } (some p) 0:=by
 have hlt:=h.n.toNat_lt
 have h65:h.n ≠ 65535:=fun e=>by
  have:h.n.toNat = 65535:=by rw [e];rfl
  omega
 have hz:(0:UInt16).toNat = 0:=rfl
 have hS:SkRes true T y.rk y.th y.rn h.n y.kp T k h.n (skP true T y.rk y.th 0 [] h.n.toNat) 0:=by
  rw [hrn,hkp]
  refine Or.inr (Or.inr (Or.inr ⟨by omega,?_,?_,?_,?_,rfl,?_,rfl⟩))
  ·simp only [hz,List.length_nil];omega
  ·intro j hj
   exact skXG_nil true T y.rk y.th 0 (by simp only [hz] at hj;omega)
  ·rw [hz,Nat.sub_zero,hA]
  ·rw [hz,Nat.sub_zero,hA]
  ·rw [hz,Nat.sub_zero]
 have hF:FindR T y h.ra h.n h.pv T { y with rk:=kyB (nxN T k),rn:=h.n + 1,kp:=skP true T y.rk y.th 0 [] h.n.toNat } (kyB (nxK T k)) 0:=
  Or.inr ⟨by rw [hkp];exact fiI_nil _ _,T,y,0,Or.inl ⟨hhr,hra,rfl,rfl,rfl⟩,Or.inr ⟨rfl,T,k,h.n,_,0,hS,Or.inr (Or.inr ⟨rfl,h65,hN.symm,rfl,rfl,rfl⟩)⟩⟩
 have hm:=mx2_has (by have:=zk (nxK T k);omega) hBl hL
 refine Or.inr (Or.inr ⟨hss,hG,T,_,_,0,hF,Or.inr ⟨rfl,by rw [hm],?_,Or.inr ⟨by simp,rfl,rfl⟩⟩⟩)
 rw [hm]
 exact (opn_sealed hZ hTl hp).symm
theorem open_old {T:List Te} {y:Se} {h:Hd} {B:List UInt8} (hkp:fiI h.ra h.n y.kp = -1) (hhr:y.hr = true) (hrn:h.n.toNat < y.rn.toNat) (hss:h.ss = y.id) (hG:hdG h) (hra:h.ra = y.th) :
  OpenR T y h B T y none 180:=
 Or.inr (Or.inr ⟨hss,hG,T,y,z32,180,Or.inr ⟨hkp,T,y,0,Or.inl ⟨hhr,hra,rfl,rfl,rfl⟩,Or.inr ⟨rfl,T,y.rk,y.rn,y.kp,180,Or.inl ⟨hrn,rfl,rfl,rfl,rfl,rfl⟩,Or.inl ⟨by decide,rfl,rfl,rfl,rfl⟩⟩⟩,Or.inl ⟨by decide,rfl,rfl,rfl,rfl⟩⟩)
theorem seal_next {T:List Te} {x:Se} {dr p:List UInt8} (hs:x.hs = true) (hsn:x.sn ≠ 65535) (hm:x.mine.length = 32) (hp:p.length <= 1024) {oP:Nat} (hP:Num T (2,[x.mine]) oP) :
  sealF T x dr p = ((slZ T x dr p).1,{ x with sk:=kyB (nxN T x.sk),sn:=x.sn + 1 },slH x (kyB oP),some (sefB (slZ T x dr p).2 p.length),0) /\
  slL T x dr = mx2 (nxT T x.sk) 75 (kyB (nxK T x.sk)) (hdB (slH x (kyB oP)))/\slZ T x dr p = mx8 (slL T x dr).1 (kyB (slL T x dr).2) p:=by
 have hX:=slX_yes (T:=T) (dr:=dr) hs
 have hPP:slP T x dr = (T,oP):=by rw [slP_eq,hX];exact mk1_has (by decide) (by decide) (by show x.mine.length <= 4096;omega) hP
 have hH:slHd T x dr = slH x (kyB oP):=by rw [slHd_eq,hX,hPP]
 have hS:slS T x dr = { x with sk:=kyB (nxN T x.sk),sn:=x.sn + 1 }:=by rw [slS_eq,hX,hPP]
 refine ⟨?_,by rw [slL_eq,hX,hPP,hH],slZ_eq T x dr p⟩
 rw [sealF_ok (by omega) (fun h=>h.1 hs) (by rw [hX];exact hsn),hS,hH]
theorem seal_terms {T:List Te} {x:Se} {dr p:List UInt8} (hp:p.length <= 1024) {oP:Nat} (hBl:(hdB (slH x (kyB oP))).length <= 1024) (hL:slL T x dr = mx2 (nxT T x.sk) 75 (kyB (nxK T x.sk)) (hdB (slH x (kyB oP)))) (hZ:slZ T x dr p = mx8 (slL T x dr).1 (kyB (slL T x dr).2) p) :
  Ext (nxT T x.sk) (slZ T x dr p).1/\Num (slZ T x dr p).1 (7,[[75],kyB (nxK T x.sk),hdB (slH x (kyB oP))]) (slL T x dr).2/\Num (slZ T x dr p).1 (8,[kyB (slL T x dr).2,p]) (slZ T x dr p).2:=by
 have e1:Ext (slL T x dr).1 (slZ T x dr p).1:=by rw [hZ];exact mx8_ext _ _ _
 have e2:Ext (nxT T x.sk) (slL T x dr).1:=by rw [hL];exact mx2_ext _ _ _ _
 refine ⟨e2.trans e1,e1 _ _ ?_,?_⟩
 ·rw [hL];exact mx2_num _ 75 (by have:=zk (nxK T x.sk);omega) hBl
 ·rw [hZ];exact mx8_num _ (by have:=zk (slL T x dr).2;omega) hp
theorem join_same {T:List Te} {sh:List UInt8} (hsh:sh.length = 32) {a b:Nat} (h1:Num T (7,[[48],sh]) a) (h2:Num T (7,[[49],sh]) b):begA T sh = (T,a)/\begB T sh = (T,b):=by
 have e1:begA T sh = (T,a):=by rw [begA_eq];exact mx1_has (by omega) h1
 exact ⟨e1,by rw [begB_eq,e1];exact mx1_has (by omega) h2⟩
theorem beg_terms (T:List Te) {sh dr:List UInt8} (hsh:sh.length = 32) (hdr:dr.length = 32):Num (begC T sh dr).1 (7,[[48],sh]) (begA T sh).2/\Num (begC T sh dr).1 (7,[[49],sh]) (begB T sh).2/\Ext T (begC T sh dr).1:=by
 have eA:Ext T (begA T sh).1:=by rw [begA_eq];exact mx1_ext _ _ _
 have eB:Ext (begA T sh).1 (begB T sh).1:=by rw [begB_eq];exact mx1_ext _ _ _
 have eC:Ext (begB T sh).1 (begC T sh dr).1:=by rw [begC_eq];exact mk1_ext _ _ _
 refine ⟨eC _ _ (eB _ _ ?_),eC _ _ ?_,eA.trans (eB.trans eC)⟩
 ·rw [begA_eq];exact mx1_num T 48 (by omega)
 ·rw [begB_eq];exact mx1_num _ 49 (by omega)
end Go.Proofs.YtfnmgbillkiabaaGreat
