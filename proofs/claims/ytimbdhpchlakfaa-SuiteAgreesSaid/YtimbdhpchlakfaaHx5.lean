/- A symbolic executor over the code of this model: part 5. No condition. -/
import Derived.Test.YtimbdhpchlakfaaHx4
set_option linter.unusedSimpArgs false
set_option linter.unusedVariables false
namespace Go.Sx
open Go
def endV (M:Mm) (v:SV):Option (SV × Mm):=
 match v with
 | .sl a f i n _=>match getM M a with
   | some (.mem true _ ls)=>bif bareR ls then (match midL ls f (i + n) with
     | some l0=>(match keepAs i n l0 with
      | some v=>some (v,(a,.mem false 1 ls) :: M)
      | none=>none)
     | none=>match f with
      | 0=>(match keepAs i n ls with
       | some v=>some (v,(a,.dead) :: M)
       | none=>none)
      | _=>none)
    else none
   | some (.mem false (_ + 1) ls)=>(match midL ls f (i + n) with
    | some l0=>(match keepAs i n l0 with
     | some v=>some (v,M)
     | none=>none)
    | none=>match f with
     | 0=>(match keepAs i n ls with
      | some v=>some (v,M)
      | none=>none)
     | _=>none)
   | _=>none
 | .slx a f i n=>match getM M a with
   | some (.mem false (_ + 1) _)=>keepAt M a f i n
   | _=>none
 | v=>bif bareV v then some (v,M) else none
def endL (M:Mm) (ls:List (Nat × SV)):Option (List (Nat × SV) × Mm):=
 match ls with
 | []=>some ([],M)
 | (s,v) :: r=>bif isRow v then (match endL M r with
   | some (r',M2)=>some ((s,v) :: r',M2)
   | none=>none) else match endV M v with
  | some (v',M1)=>match endL M1 r with
   | some (r',M2)=>some ((s,v') :: r',M2)
   | none=>none
  | none=>none
def ownAt (M:Mm) (a:Nat):Bool:=
 match getM M a with
 | some (.mem true _ _)=>true
 | _=>false
theorem ConcM.endAs {ρ:Env} {M:Mm} {w:World} (h:ConcM ρ M w) {a sp:Nat} {ls ls':List (Nat × SV)} (ha:getM M a = some (.mem true sp ls)) (hb:bareR ls' = true) {cs:List Value} (hcs:CellsL ρ ls' cs)
  (hcell:∀ j v,cs[j]? = some v→w.cell? ⟨(ρ.pos a).1,(ρ.pos a).2 + j,none⟩ = some v) (hs:sizeL ls' = sizeL ls) :
  Step ρ M (ρ.addI (ρ.pos a).1 (ρ.pos a).2 ls') ((a,.dead) :: M) w w∧ConcM (ρ.addI (ρ.pos a).1 (ρ.pos a).2 ls') ((a,.dead) :: M) w∧((ρ.addI (ρ.pos a).1 (ρ.pos a).2 ls').imm (ρ.pos a).1 (ρ.pos a).2 ls'∧True):=by
 obtain ⟨k1,k2⟩:=h.tell ha hs (ls':=ls') hcs hcell
 obtain ⟨m1,m2⟩:=k1.keep (getM_cons_self _ _ _) hb
 obtain ⟨d1,d2⟩:=m1.drop (getM_cons_self _ _ _)
 have he:∀ b,getM ((a,Ent.dead) :: (a,Ent.mem false 1 ls') :: (a,Ent.mem true sp ls') :: M) b = getM ((a,Ent.dead) :: M) b:=by
  intro b
  by_cases hab:b = a
  ·subst hab;rw [getM_cons_self,getM_cons_self]
  ·rw [getM_cons_ne hab,getM_cons_ne hab,getM_cons_ne hab,getM_cons_ne hab]
 exact ⟨(k2.trans (m2.trans d2)).congr he,d1.congr he,Or.inr ⟨rfl,rfl,rfl⟩,trivial⟩
theorem keepAs_isl {i n:Nat} {ls:List (Nat × SV)} {u:SV} (hk:keepAs i n ls = some u):∃ q s l2,u = .isl q n s l2:=by
 unfold keepAs at hk
 split at hk
 ·simp only [Option.some.injEq] at hk;subst hk;exact ⟨_,_,_,rfl⟩
 ·split at hk
  ·simp only [Option.some.injEq] at hk;subst hk;exact ⟨_,_,_,rfl⟩
  ·cases hk
theorem endV_sound {ρ:Env} {M:Mm} {w:World} (hM:ConcM ρ M w) {v v':SV} {M':Mm} (h:endV M v = some (v',M')) {cs:List Value} (hc:Cells1 ρ v cs) :
  ∃ ρ',ρ.le ρ'∧ConcM ρ' M' w∧Step ρ M ρ' M' w w∧Cells1 ρ' v' cs:=by
 unfold endV at h
 split at h
 ·rename_i a f i n c
  obtain ⟨x,⟨hd,hnc,y,rfl,hy⟩,rfl⟩:=hc
  have up:∀ {ρ':Env} {u:SV} {l0:List (Nat × SV)},RelS ρ' u (.slice y n c)→keepAs i n l0 = some u→Cells1 ρ' u [.slice y n c]:=by
   intro ρ' u l0 hr hk
   obtain ⟨q,s,ls,rfl⟩:=keepAs_isl hk
   exact ⟨_,hr,rfl⟩
  have hxf:c ≠ 0→y = some ⟨(ρ.pos a).1,(ρ.pos a).2 + f + i,none⟩:=fun hc=>by rw [hy hc,addr_eq,Nat.add_assoc]
  split at h
  ·rename_i sp ls ha
   have hb:=(bif_none h).1
   replace h:=(bif_none h).2
   split at h
   ·rename_i l0 hm
    split at h
    ·rename_i u hu
     simp only [Option.some.injEq,Prod.mk.injEq] at h;obtain ⟨rfl,rfl⟩:=h
     obtain ⟨k1,k2⟩:=hM.keep ha hb
     obtain ⟨r,m1,m2⟩:=midL_spec hm
     obtain ⟨ρ2,p1,p2,p3,p4,p5⟩:=k1.part (Env.immO.of (Or.inr ⟨rfl,rfl,rfl⟩)) m1 m2
     exact ⟨ρ2,Env.le_trans (Env.le_addI _ _ _ _) p1,p2,k2.trans p3,up (keepAs_rel hu p4 hnc hxf) hu⟩
    ·cases h
   ·split at h
    ·have hx':c ≠ 0→y = some ⟨(ρ.pos a).1,(ρ.pos a).2 + i,none⟩:=fun hc=>by rw [hy hc,addr_eq,Nat.zero_add]
     split at h
     ·rename_i u hu
      simp only [Option.some.injEq,Prod.mk.injEq] at h;obtain ⟨rfl,rfl⟩:=h
      obtain ⟨cs0,c1,c2,c3,_⟩:=hM.sat a _ ha
      obtain ⟨k1,k2,k3,_⟩:=hM.endAs ha hb c1 c3 rfl
      exact ⟨_,Env.le_addI _ _ _ _,k2,k1,up (keepAs_rel hu (Env.immO.of k3) hnc hx') hu⟩
     ·cases h
    ·cases h
  ·rename_i sp ls ha
   obtain ⟨cs0,c1,c2,c3,_⟩:=hM.sat a _ ha
   have hi:=c2.2 rfl (Nat.succ_ne_zero _)
   split at h
   ·rename_i l0 hm
    split at h
    ·rename_i u hu
     simp only [Option.some.injEq,Prod.mk.injEq] at h;obtain ⟨rfl,rfl⟩:=h
     obtain ⟨r,m1,m2⟩:=midL_spec hm
     obtain ⟨ρ2,p1,p2,p3,p4,p5⟩:=hM.part hi m1 m2
     exact ⟨ρ2,p1,p2,p3,up (keepAs_rel hu p4 hnc hxf) hu⟩
    ·cases h
   ·split at h
    ·have hx':c ≠ 0→y = some ⟨(ρ.pos a).1,(ρ.pos a).2 + i,none⟩:=fun hc=>by rw [hy hc,addr_eq,Nat.zero_add]
     split at h
     ·rename_i u hu
      simp only [Option.some.injEq,Prod.mk.injEq] at h;obtain ⟨rfl,rfl⟩:=h
      exact ⟨ρ,Env.le_refl _,hM,Step.refl _ _ _,up (keepAs_rel hu hi hnc hx') hu⟩
     ·cases h
    ·cases h
  ·cases h
 ·rename_i a f i n
  split at h
  ·exact keepV_sound (v:=.slx a f i n) hM h hc
  ·cases h
 ·have hb:=(bif_none h).1
  replace h:=(bif_none h).2
  simp only [Option.some.injEq,Prod.mk.injEq] at h;obtain ⟨rfl,rfl⟩:=h
  exact ⟨ρ,Env.le_refl _,hM,Step.refl _ _ _,hc⟩
theorem endL_sound {w:World}:∀ {ls ls':List (Nat × SV)} {M M':Mm},endL M ls = some (ls',M')→∀ {ρ:Env},ConcM ρ M w→∀ {cs:List Value},CellsL ρ ls cs →
  ∃ ρ',ρ.le ρ'∧ConcM ρ' M' w∧Step ρ M ρ' M' w w∧CellsL ρ' ls' cs
 | [],ls',M,M',h,ρ,hM,cs,hc=>by
  simp only [endL,Option.some.injEq,Prod.mk.injEq] at h;obtain ⟨rfl,rfl⟩:=h
  exact ⟨ρ,Env.le_refl _,hM,Step.refl _ _ _,hc⟩
 | (s,v) :: r,ls',M,M',h,ρ,hM,cs,⟨c1,c2,e,h1,h2,h3⟩=>by
  simp only [endL] at h
  rcases bif_some h with ⟨_,h⟩ | ⟨_,h⟩
  ·split at h
   ·rename_i r' M2 hr
    simp only [Option.some.injEq,Prod.mk.injEq] at h;obtain ⟨rfl,rfl⟩:=h
    obtain ⟨ρ2,l1,l2,l3,l4⟩:=endL_sound hr hM h3
    exact ⟨ρ2,l1,l2,l3,c1,c2,e,h1,h2.le l1,l4⟩
   ·cases h
  ·split at h
   ·rename_i v' M1 hv
    split at h
    ·rename_i r' M2 hr
     simp only [Option.some.injEq,Prod.mk.injEq] at h;obtain ⟨rfl,rfl⟩:=h
     obtain ⟨ρ1,k1,k2,k3,k4⟩:=endV_sound hM hv h2
     obtain ⟨ρ2,l1,l2,l3,l4⟩:=endL_sound hr k2 (h3.le k1)
     exact ⟨ρ2,Env.le_trans k1 l1,l2,k3.trans l3,c1,c2,e,h1,k4.le l1,l4⟩
    ·cases h
   ·cases h
theorem endV_get {M:Mm} {v v':SV} {M':Mm} (h:endV M v = some (v',M')) {a:Nat} {e:Ent} (he:getM M' a = some e) (hne:e.isOwn = true):getM M a = some e:=by
 unfold endV at h
 split at h
 ·rename_i b f i n c
  have own:∀ {e0:Ent},e0.isOwn = false→getM ((b,e0) :: M) a = some e→getM M a = some e:=by
   intro e0 h0 he
   by_cases hab:a = b
   ·subst hab
    rw [getM_cons_self] at he
    simp only [Option.some.injEq] at he
    rw [he] at h0;rw [h0] at hne;cases hne
   ·rwa [getM_cons_ne hab] at he
  split at h
  ·replace h:=(bif_none h).2
   split at h
   ·split at h
    ·simp only [Option.some.injEq,Prod.mk.injEq] at h;obtain ⟨rfl,rfl⟩:=h
     exact own rfl he
    ·cases h
   ·split at h
    ·split at h
     ·simp only [Option.some.injEq,Prod.mk.injEq] at h;obtain ⟨rfl,rfl⟩:=h
      exact own rfl he
     ·cases h
    ·cases h
  ·split at h
   ·split at h
    ·simp only [Option.some.injEq,Prod.mk.injEq] at h;obtain ⟨rfl,rfl⟩:=h;exact he
    ·cases h
   ·split at h
    ·split at h
     ·simp only [Option.some.injEq,Prod.mk.injEq] at h;obtain ⟨rfl,rfl⟩:=h;exact he
     ·cases h
    ·cases h
  ·cases h
 ·split at h
  ·rename_i sp ls hb
   unfold keepAt at h
   rw [hb] at h
   simp only at h
   split at h
   ·split at h
    ·simp only [Option.some.injEq,Prod.mk.injEq] at h;obtain ⟨rfl,rfl⟩:=h;exact he
    ·cases h
   ·split at h
    ·split at h
     ·simp only [Option.some.injEq,Prod.mk.injEq] at h;obtain ⟨rfl,rfl⟩:=h;exact he
     ·cases h
    ·cases h
  ·cases h
 ·replace h:=(bif_none h).2
  simp only [Option.some.injEq,Prod.mk.injEq] at h;obtain ⟨rfl,rfl⟩:=h;exact he
theorem endL_get:∀ {ls ls':List (Nat × SV)} {M M':Mm},endL M ls = some (ls',M')→∀ {a:Nat} {e:Ent},getM M' a = some e→e.isOwn = true→getM M a = some e
 | [],ls',M,M',h,a,e,he,_=>by
  simp only [endL,Option.some.injEq,Prod.mk.injEq] at h;obtain ⟨rfl,rfl⟩:=h;exact he
 | (s,v) :: r,ls',M,M',h,a,e,he,hne=>by
  simp only [endL] at h
  rcases bif_some h with ⟨_,h⟩ | ⟨_,h⟩
  ·split at h
   ·rename_i r' M2 hr
    simp only [Option.some.injEq,Prod.mk.injEq] at h;obtain ⟨rfl,rfl⟩:=h
    exact endL_get hr he hne
   ·cases h
  ·split at h
   ·rename_i v' M1 hv
    split at h
    ·rename_i r' M2 hr
     simp only [Option.some.injEq,Prod.mk.injEq] at h;obtain ⟨rfl,rfl⟩:=h
     exact endV_get hv (endL_get hr he hne) hne
    ·cases h
   ·cases h
theorem endL_own {ls ls':List (Nat × SV)} {M M':Mm} (h:endL M ls = some (ls',M')) {a sp:Nat} {l0:List (Nat × SV)} (ho:ownAt M' a = true) (hm:getM M a = some (.mem true sp l0)):getM M' a = some (.mem true sp l0):=by
 unfold ownAt at ho
 split at ho
 ·rename_i sp' l' he
  have:=endL_get h he rfl
  rw [hm] at this
  rw [he,this]
 ·cases ho
def nameA (nms:List (Nat × List (Nat × SV))) (as:List SV) (M:Mm):Option (List Prop × List SV × Mm):=
 match nms with
 | []=>some ([],as,M)
 | (nm,l0) :: r=>match as with
  | []=>none
  | a :: as=>match nm with
   | 0=>match nameA r as M with
    | some (ps,q,M')=>some (ps,a :: q,M')
    | none=>none
   | 1=>match keepV M a with
    | some (v',M1)=>match nameA r as M1 with
     | some (ps,q,M')=>some (ps,v' :: q,M')
     | none=>none
    | none=>none
   | nm=>match getM M nm with
    | some _=>none
    | none=>match a with
     | .isl q n s ls=>match nameA r as ((nm,.mem false 1 ls) :: M) with
      | some (ps,q',M')=>some (ps,.slx nm 0 (mulS q s) n :: q',M')
      | none=>none
     | .nsl=>match nameA r as ((nm,.mem false 1 l0) :: M) with
      | some (ps,q',M')=>some (nilL l0 :: ps,.slx nm 0 0 0 :: q',M')
      | none=>none
     | .sl a f i n _=>match f with
      | 0=>match getM M a with
       | some (.mem true sp ls)=>match endL M ls with
        | some (ls',M1)=>bif ownAt M1 a && bareR ls' then match getM M1 nm with
         | some _=>none
         | none=>match nameA r as ((nm,.mem false 1 ls') :: (a,.dead) :: M1) with
          | some (ps,q',M')=>some (ps,.slx nm 0 i n :: q',M')
          | none=>none
         else none
        | none=>none
       | _=>none
      | _=>none
     | _=>none
theorem RelTL.le {ρ ρ':Env} (h:ρ.le ρ'):∀ {vs:List SV} {xs:List Value},RelTL ρ vs xs→RelTL ρ' vs xs
 | [],_,hr=>hr
 | _ :: _,_,⟨x,ys,e,h1,h2⟩=>⟨x,ys,e,h1.le h,RelTL.le h h2⟩
theorem Rel_of_RelS {ρ:Env} {v:SV} {x:Value} (h:RelS ρ v x):Rel ρ v x:=by
 cases v <;> first | exact h | exact h.elim
theorem keepV_soundT {ρ:Env} {M:Mm} {w:World} (hM:ConcM ρ M w) {v v':SV} {M':Mm} (h:keepV M v = some (v',M')) {x:Value} (hx:RelT ρ v x) :
  ∃ ρ',ρ.le ρ'∧ConcM ρ' M' w∧Step ρ M ρ' M' w w∧RelT ρ' v' x:=by
 unfold keepV at h
 split at h
 ·obtain ⟨_,hnc,y,rfl,hy⟩:=hx
  obtain ⟨ρ',k1,k2,k3,k4⟩:=keepAt_sound hM h hnc hy
  exact ⟨ρ',k1,k2,k3,RelT_of_Rel (Rel_of_RelS k4)⟩
 ·obtain ⟨_,c,y,hnc,rfl,hy⟩:=hx
  obtain ⟨ρ',k1,k2,k3,k4⟩:=keepAt_sound hM h hnc hy
  exact ⟨ρ',k1,k2,k3,RelT_of_Rel (Rel_of_RelS k4)⟩
 ·obtain ⟨_,h⟩:=bif_none h
  simp only [Option.some.injEq,Prod.mk.injEq] at h;obtain ⟨rfl,rfl⟩:=h
  exact ⟨ρ,Env.le_refl _,hM,Step.refl _ _ _,hx⟩
theorem nameA_sound:∀ {nms:List (Nat × List (Nat × SV))} {as:List SV} {M:Mm} {ps:List Prop} {as':List SV} {M':Mm},nameA nms as M = some (ps,as',M')→All ps →
  ∀ {ρ:Env} {w:World} {xs:List Value},ConcM ρ M w→RelTL ρ as xs→∃ ρ',ρ.le ρ'∧ConcM ρ' M' w∧RelTL ρ' as' xs∧Step ρ M ρ' M' w w
 | [],as,M,ps,as',M',h,_,ρ,w,xs,hM,hr=>by
  simp only [nameA,Option.some.injEq,Prod.mk.injEq] at h
  obtain ⟨_,rfl,rfl⟩:=h
  exact ⟨ρ,Env.le_refl _,hM,hr,Step.refl _ _ _⟩
 | (nm,l0) :: r,as,M,ps,as',M',h,hp,ρ,w,xs,hM,hr=>by
  unfold nameA at h
  split at h
  ·cases h
  ·rename_i a as
   obtain ⟨x,ys,rfl,h1,h2⟩:=hr
   split at h
   ·split at h
    ·rename_i qs q M'' hq
     simp only [Option.some.injEq,Prod.mk.injEq] at h
     obtain ⟨rfl,rfl,rfl⟩:=h
     obtain ⟨ρ',k1,k2,k3,k4⟩:=nameA_sound hq hp hM h2
     exact ⟨ρ',k1,k2,⟨x,ys,rfl,h1.le k1,k3⟩,k4⟩
    ·cases h
   ·split at h
    ·rename_i v' M1 hv
     split at h
     ·rename_i qs q' M'' hq
      simp only [Option.some.injEq,Prod.mk.injEq] at h
      obtain ⟨rfl,rfl,rfl⟩:=h
      obtain ⟨ρ1,e1,e2,e3,e4⟩:=keepV_soundT hM hv h1
      obtain ⟨ρ',m1,m2,m3,m4⟩:=nameA_sound hq hp e2 (h2.le e1)
      exact ⟨ρ',Env.le_trans e1 m1,m2,⟨_,ys,rfl,e4.le m1,m3⟩,e3.trans m4⟩
     ·cases h
    ·cases h
   ·split at h
    ·cases h
    ·rename_i hnm
     split at h
     ·rename_i q n s ls
      split at h
      ·rename_i qs q' M'' hq
       simp only [Option.some.injEq,Prod.mk.injEq] at h
       obtain ⟨rfl,rfl,rfl⟩:=h
       obtain ⟨b,o,c,y,hi,hnc,rfl,hy⟩:=h1
       obtain ⟨n1,n2,n3⟩:=hM.name hnm hi
       obtain ⟨ρ',k1,k2,k3,k4⟩:=nameA_sound hq hp n2 (h2.le n1)
       refine ⟨ρ',Env.le_trans n1 k1,k2,⟨_,ys,rfl,RelT.le k1 (RelT_of_Rel (?_:Rel _ _ _)),k3⟩,n3.trans k4⟩
       refine ⟨Or.inl rfl,c,y,hnc,rfl,fun hc=>?_⟩
       rw [hy hc,addr_eq,mulS_eq]
       simp [Env.add]
      ·cases h
     ·split at h
      ·rename_i qs q' M'' hq
       simp only [Option.some.injEq,Prod.mk.injEq] at h
       obtain ⟨rfl,rfl,rfl⟩:=h
       obtain ⟨n1,n2,n3⟩:=hM.name (b:=0) (o:=0) hnm (Or.inr hp.head)
       obtain ⟨ρ',k1,k2,k3,k4⟩:=nameA_sound hq hp.tail n2 (h2.le n1)
       refine ⟨ρ',Env.le_trans n1 k1,k2,⟨_,ys,rfl,RelT.le k1 (RelT_of_Rel (?_:Rel _ _ _)),k3⟩,n3.trans k4⟩
       exact ⟨Or.inl rfl,0,none,Nat.le_refl _,h1,fun hc=>absurd rfl hc⟩
      ·cases h
     ·rename_i b f i n c
      split at h
      ·split at h
       ·rename_i sp ls hb
        split at h
        ·rename_i ls' M1 he
         have hcond:=(bif_none h).1
         replace h:=(bif_none h).2
         simp only [Bool.and_eq_true] at hcond
         split at h
         ·cases h
         ·rename_i hnm1
          split at h
          ·rename_i qs q' M'' hq
           simp only [Option.some.injEq,Prod.mk.injEq] at h
           obtain ⟨rfl,rfl,rfl⟩:=h
           obtain ⟨cs,c1,c2,c3,c4⟩:=hM.sat b _ hb
           obtain ⟨ρ1,e1,e2,e3,e4⟩:=endL_sound he hM c1
           have hb1:=endL_own he hcond.1 hb
           have hpos:=(e1 b (hM.mod b _ hb)).2
           obtain ⟨k1,k2,k3⟩:=e2.endAs hb1 hcond.2 e4 (fun j v hj=>by rw [hpos];exact c3 j v hj) (by rw [← e4.length,c1.length])
           have hnm2:getM ((b,Ent.dead) :: M1) nm = none:=by
            rw [getM_cons_ne (by rintro rfl;rw [hb1] at hnm1;cases hnm1)];exact hnm1
           obtain ⟨n1,n2,n3⟩:=k2.name hnm2 (Env.immO.of k3.1)
           obtain ⟨ρ',m1,m2,m3,m4⟩:=nameA_sound hq hp n2 (h2.le (Env.le_trans e1 (Env.le_trans (Env.le_addI _ _ _ _) n1)))
           refine ⟨ρ',Env.le_trans e1 (Env.le_trans (Env.le_addI _ _ _ _) (Env.le_trans n1 m1)),m2,⟨_,ys,rfl,RelT.le m1 (RelT_of_Rel (?_:Rel _ _ _)),m3⟩,e3.trans (k1.trans (n3.trans m4))⟩
           obtain ⟨hd,hnc,y,rfl,hy⟩:=h1
           refine ⟨Or.inl rfl,c,y,hnc,rfl,fun hc=>?_⟩
           rw [hy hc,addr_eq,addr_eq]
           simp only [Env.add,if_true,hpos]
          ·cases h
        ·cases h
       ·cases h
      ·cases h
     ·cases h
def CallX (P:Program) (f:FuncId) (args:List SV) (M:Mm) (K:SV→Mm→Prop):Prop:=
 ∃ (nms:List (Nat × List (Nat × SV))) (ps:List Prop) (args':List SV) (M':Mm),nameA nms args M = some (ps,args',M')∧AllP ps∧CallP P f args' M' K
theorem callX_sound {P:Program} {f:FuncId} {args:List SV} {M:Mm} {K:SV→Mm→Prop} {ρ:Env} {w:World} {xs:List Value} (hM:ConcM ρ M w) (hargs:RelTL ρ args xs) (h:CallX P f args M K) :
  Calls P f xs.toArray w fun e w'=>∃ v x ρ' M',e = .returned x∧RelT ρ' v x∧K v M'∧ρ.le ρ'∧ConcM ρ' M' w'∧Step ρ M ρ' M' w w':=by
 obtain ⟨nms,ps,args',M',h1,h2,h3⟩:=h
 obtain ⟨ρ1,k1,k2,k3,k4⟩:=nameA_sound h1 (AllP_iff h2) hM hargs
 refine (call_sound k2 k3 h3).mono ?_
 rintro e w' ⟨v,x,ρ',M'',r1,r2,r3,r4,r5,r6⟩
 exact ⟨v,x,ρ',M'',r1,r2,r3,Env.le_trans k1 r4,r5,k4.trans r6⟩
end Go.Sx
namespace Go.Sx
open Go
structure SrcOK (P:Program) (w:World) (es m:Nat) (x:Value) (news:List Value):Prop where
 length:news.length = m * es
 len:(Builtin.lenOf x).run P w = .ok m w
 first:∀ w2:World,w2.heap = w.heap→(Builtin.firstCells es m x).run P w2 = .ok news.toArray w2
theorem src_slice {P:Program} {w:World} {es n c:Nat} {y:Option Addr} {b o off:Nat} {cs:List Value} (hnc:n ≤ c) (hy:c ≠ 0→y = some ⟨b,o + off,none⟩) (hcs:∀ j v,cs[j]? = some v→w.cell? ⟨b,o + j,none⟩ = some v)
  (hl:off + n * es ≤ cs.length):SrcOK P w es n (.slice y n c) ((cs.drop off).take (n * es)) where
 length:=by rw [List.length_take,List.length_drop];omega
 len:=rfl
 first w2 h2:=first_at hnc hy (fun j v hj=>by
  have:=hcs j v hj
  unfold World.cell? at this ⊢
  rw [h2];exact this) hl
theorem srcA_sound {P:Program} {ρ:Env} {M:Mm} {w:World} (hM:ConcM ρ M w) {e0:SV} (he0:Cells1 ρ e0 []) {sv:SV} {x:Value} (hx:RelT ρ sv x) {ps:List Prop} {m:Nat} {v:SV} (h:srcA M e0 sv = some (ps,m,v)) (hp:All ps) :
  ∃ news,SrcOK P w 1 m x news∧Cells1 ρ v news:=by
 unfold srcA at h
 split at h
 ·simp only [Option.some.injEq,Prod.mk.injEq] at h;obtain ⟨rfl,rfl,rfl⟩:=h
  rw [show x = .slice none 0 0 from hx]
  exact ⟨[],⟨rfl,rfl,fun _ _=>rfl⟩,he0⟩
 ·rename_i l
  split at h
  ·simp only [Option.some.injEq,Prod.mk.injEq] at h;obtain ⟨rfl,rfl,rfl⟩:=h
   rw [show x = .string ⟨l.toArray⟩ from hx]
   refine ⟨l.map w8,⟨by simp,rfl,fun w2 _=>?_⟩,rfl⟩
   show Result.ok _ w2 = _
   congr 1
   apply Array.ext'
   simp [ByteArray.extract,ByteArray.copySlice]
   first
    | rfl
    | (intro a _;rfl)
  ·cases h
 ·rename_i a f i n c
  obtain ⟨_,hnc,y,rfl,hy⟩:=hx
  split at h
  ·rename_i own sp ls he
   split at h
   ·rename_i qs v' hs
    simp only [Option.some.injEq,Prod.mk.injEq] at h;obtain ⟨rfl,rfl,rfl⟩:=h
    obtain ⟨cs,h1,_,h3,_⟩:=hM.sat a _ he
    obtain ⟨q1,q2⟩:=segL_sound h1 hs hp
    refine ⟨_,src_slice (off:=f + i) hnc (fun hc=>by rw [hy hc,addr_eq]) h3 (by rw [Nat.mul_one];exact q1),?_⟩
    rw [Nat.mul_one];exact q2
   ·cases h
  ·cases h
 ·rename_i a f i n
  obtain ⟨_,c,y,hnc,rfl,hy⟩:=hx
  split at h
  ·rename_i own sp ls he
   split at h
   ·rename_i qs v' hs
    simp only [Option.some.injEq,Prod.mk.injEq] at h;obtain ⟨rfl,rfl,rfl⟩:=h
    obtain ⟨cs,h1,_,h3,_⟩:=hM.sat a _ he
    obtain ⟨q1,q2⟩:=segL_sound h1 hs hp
    refine ⟨_,src_slice (off:=f + i) hnc (fun hc=>by rw [hy hc,addr_eq]) h3 (by rw [Nat.mul_one];exact q1),?_⟩
    rw [Nat.mul_one];exact q2
   ·cases h
  ·cases h
 ·rename_i q n s ls
  obtain ⟨b,o,c,y,hi,hnc,rfl,hy⟩:=hx
  split at h
  ·split at h
   ·rename_i qs v' hs
    simp only [Option.some.injEq,Prod.mk.injEq] at h;obtain ⟨rfl,rfl,rfl⟩:=h
    obtain ⟨_,cs,h1,h3⟩:=hM.immO hi
    obtain ⟨q1,q2⟩:=segL_sound h1 hs hp
    refine ⟨_,src_slice (off:=0 + q) hnc (fun hc=>by rw [hy hc,Nat.mul_one,Nat.zero_add]) h3 (by rw [Nat.mul_one];exact q1),?_⟩
    rw [Nat.mul_one];exact q2.le (Env.bare_le ρ)
   ·cases h
  ·cases h
 ·cases h
def Rows (ρ:Env) (es m:Nat) (F:Nat→List (Nat × SV)) (news:List Value):Prop:=news.length = m * es∧∀ q,q < m→CellsL0 ρ.bare (F q) ((news.drop (q * es)).take es)
theorem Rows.le {ρ ρ':Env} (h:ρ.le ρ') {es m:Nat} {F:Nat→List (Nat × SV)} {news:List Value} (r:Rows ρ es m F news):Rows ρ' es m F news:=
 ⟨r.1,fun q hq=>(r.2 q hq).le (Env.bare_mono h.im)⟩
theorem Rows.seg {ρ:Env} {es m:Nat} {F:Nat→List (Nat × SV)} {c:List Value} (r:Rows ρ es m F c) {q n:Nat} (h:q + n ≤ m):Rows ρ es n (shiftF q F) ((c.drop (q * es)).take (n * es)):=by
 have hb:(q + n) * es ≤ m * es:=Nat.mul_le_mul_right _ h
 rw [Nat.add_mul] at hb
 refine ⟨by rw [List.length_take,List.length_drop,r.1];omega,fun j hj=>?_⟩
 have hb2:(j + 1) * es ≤ n * es:=Nat.mul_le_mul_right _ hj
 rw [Nat.add_mul,Nat.one_mul] at hb2
 have:=r.2 (q + j) (by omega)
 rw [shiftF_eq,List.drop_take,List.take_take,Nat.min_eq_left (by omega),List.drop_drop]
 rw [Nat.add_mul] at this
 exact this
theorem rowsA0_sound {P:Program} {ρ:Env} {M:Mm} {w:World} (hM:ConcM ρ M w) {es i n c:Nat} {ls:List (Nat × SV)} {y:Option Addr} {b o:Nat} {cs:List Value} (hcs:CellsL ρ ls cs) (hcell:∀ j v,cs[j]? = some v→w.cell? ⟨b,o + j,none⟩ = some v)
  (hnc:n ≤ c) (hy:c ≠ 0→y = some ⟨b,o + i,none⟩) {ps:List Prop} {m:Nat} {F:Nat→List (Nat × SV)} {M':Mm} (h:rowsA0 es M i n ls = some (ps,m,F,M')) (hp:All ps) :
  ∃ ρ' news,ρ.le ρ'∧ConcM ρ' M' w∧Step ρ M ρ' M' w w∧SrcOK P w es m (.slice y n c) news∧Rows ρ' es m F news:=by
 unfold rowsA0 at h
 split at h
 ·rename_i t m0 es' F0
  have hes:=beq_eq' (bif_none h).1
  replace h:=(bif_none h).2
  subst hes
  obtain ⟨c1,c2,rfl,h1,h2,h3⟩:=hcs
  have e2:c2 = []:=h3
  subst e2
  rw [List.append_nil] at hcell
  have hr:Rows ρ es m0 F0 c1:=h2
  split at h
  ·simp only [Option.some.injEq,Prod.mk.injEq] at h;obtain ⟨rfl,rfl,rfl,rfl⟩:=h
   have hle:=hp.head
   have hs:=hr.seg (q:=i) (n:=n) hle
   rw [show i * 1 = i by omega] at hs
   refine ⟨ρ,_,Env.le_refl _,hM,Step.refl _ _ _,src_slice (off:=i) hnc hy hcell (by rw [hr.1];omega),hs⟩
  ·simp only [Option.some.injEq,Prod.mk.injEq] at h;obtain ⟨rfl,rfl,rfl,rfl⟩:=h
   have hi0:=hp.head
   have hle:=hp.tail.head
   have hs:=hr.seg (q:=i / es) (n:=n) hle
   have hi:i / es * es = i:=by
    have:=Nat.div_add_mod i es
    rw [hi0,Nat.add_zero,Nat.mul_comm] at this
    exact this
   have hb:(i / es + n) * es ≤ m0 * es:=Nat.mul_le_mul_right _ hle
   rw [Nat.add_mul,hi] at hb
   rw [hi] at hs
   exact ⟨ρ,_,Env.le_refl _,hM,Step.refl _ _ _,src_slice (off:=i) hnc hy hcell (by rw [hr.1];omega),hs⟩
 ·split at h
  ·rename_i ls' M1 hk
   split at h
   ·rename_i cks hck
    simp only [Option.some.injEq,Prod.mk.injEq] at h;obtain ⟨rfl,rfl,rfl,rfl⟩:=h
    have hi0:=hp.head
    subst hi0
    have hn:=hp.tail.head
    obtain ⟨ρ',k1,k2,k3,k4⟩:=keepL_sound hk hM hcs
    obtain ⟨l1,l2⟩:=chunks_sound hck k4
    have hs:=src_slice (P:=P) (es:=es) (off:=0) hnc hy hcell (by rw [l1,hn];omega)
    rw [List.drop_zero,hn,← l1,List.take_length] at hs
    refine ⟨ρ',cs,k1,k2,k3,by rw [hn];exact hs,by rw [hn];exact l1,fun q hq=>?_⟩
    rw [rowF_get _ (by omega)]
    exact l2 q (by omega)
   ·cases h
  ·cases h
theorem rowsAt_sound {P:Program} {ρ:Env} {M:Mm} {w:World} (hM:ConcM ρ M w) {es i n c:Nat} {ls:List (Nat × SV)} {y:Option Addr} {b o:Nat} {cs:List Value} (hcs:CellsL ρ ls cs) (hcell:∀ j v,cs[j]? = some v→w.cell? ⟨b,o + j,none⟩ = some v)
  (hnc:n ≤ c) (hy:c ≠ 0→y = some ⟨b,o + i,none⟩) {ps:List Prop} {m:Nat} {F:Nat→List (Nat × SV)} {M':Mm} (h:rowsAt es M i n ls = some (ps,m,F,M')) (hp:All ps) :
  ∃ ρ' news,ρ.le ρ'∧ConcM ρ' M' w∧Step ρ M ρ' M' w w∧SrcOK P w es m (.slice y n c) news∧Rows ρ' es m F news:=
 rowsA0_sound hM (unmark_cells hcs) hcell hnc hy h hp
theorem srcR_sound {P:Program} {ρ:Env} {M:Mm} {w:World} (hM:ConcM ρ M w) {es:Nat} {sv:SV} {x:Value} (hx:RelT ρ sv x) {ps:List Prop} {m:Nat} {F:Nat→List (Nat × SV)} {M':Mm} (h:srcR es M sv = some (ps,m,F,M')) (hp:All ps) :
  ∃ ρ' news,ρ.le ρ'∧ConcM ρ' M' w∧Step ρ M ρ' M' w w∧SrcOK P w es m x news∧Rows ρ' es m F news:=by
 unfold srcR at h
 split at h
 ·simp only [Option.some.injEq,Prod.mk.injEq] at h;obtain ⟨rfl,rfl,rfl,rfl⟩:=h
  rw [show x = .slice none 0 0 from hx]
  exact ⟨ρ,[],Env.le_refl _,hM,Step.refl _ _ _,⟨by simp,rfl,fun _ _=>rfl⟩,by simp,fun q hq=>absurd hq (Nat.not_lt_zero _)⟩
 ·rename_i a f i n c
  obtain ⟨_,hnc,y,rfl,hy⟩:=hx
  split at h
  ·split at h
   ·rename_i own sp ls he
    obtain ⟨cs,h1,_,h3,_⟩:=hM.sat a _ he
    exact rowsAt_sound hM h1 h3 hnc (fun hc=>by rw [hy hc,addr_eq,Nat.zero_add]) h hp
   ·cases h
  ·cases h
 ·rename_i a f i n
  obtain ⟨_,c,y,hnc,rfl,hy⟩:=hx
  split at h
  ·split at h
   ·rename_i own sp ls he
    obtain ⟨cs,h1,_,h3,_⟩:=hM.sat a _ he
    exact rowsAt_sound hM h1 h3 hnc (fun hc=>by rw [hy hc,addr_eq,Nat.zero_add]) h hp
   ·cases h
  ·cases h
 ·rename_i q n s ls
  obtain ⟨b,o,c,y,hi,hnc,rfl,hy⟩:=hx
  obtain ⟨hlt0,cs,h1,h3⟩:=hM.immO hi
  split at h
  ·rename_i t m0 es' F0
   have hb:=(bif_none h).1
   replace h:=(bif_none h).2
   simp only [Bool.and_eq_true] at hb
   have e1:=beq_eq' hb.1
   have e2:=beq_eq' hb.2
   subst e1;subst e2
   simp only [Option.some.injEq,Prod.mk.injEq] at h;obtain ⟨rfl,rfl,rfl,rfl⟩:=h
   obtain ⟨c1,c2,rfl,g1,g2,g3⟩:=h1
   have e2:c2 = []:=g3
   subst e2
   rw [List.append_nil] at h3
   have hr:Rows ρ s m0 F0 c1:=g2
   have hs:=hr.seg (q:=q) (n:=n) hp.head
   have hb:(q + n) * s ≤ m0 * s:=Nat.mul_le_mul_right _ hp.head
   rw [Nat.add_mul] at hb
   exact ⟨ρ,_,Env.le_refl _,hM,Step.refl _ _ _,src_slice (off:=q * s) hnc hy h3 (by rw [hr.1];omega),hs⟩
  ·split at h
   ·rename_i cks hck
    simp only [Option.some.injEq,Prod.mk.injEq] at h;obtain ⟨rfl,rfl,rfl,rfl⟩:=h
    have hi0:=hp.head
    subst hi0
    have hn:=hp.tail.head
    obtain ⟨l1,l2⟩:=chunks_sound hck (h1.le (Env.bare_le ρ))
    have hs:=src_slice (P:=P) (es:=es) (off:=0) (y:=y) hnc (fun hc=>by rw [hy hc,Nat.zero_mul]) h3 (by rw [l1,hn];omega)
    rw [List.drop_zero,hn,← l1,List.take_length] at hs
    refine ⟨ρ,cs,Env.le_refl _,hM,Step.refl _ _ _,by rw [hn];exact hs,by rw [hn];exact l1,fun q hq=>?_⟩
    rw [rowF_get _ (by omega)]
    exact l2 q (by omega)
   ·cases h
 ·cases h
def dstA (M:Mm) (e0:SV) (s:SV):Option (List Prop × Nat × SV × Option Nat):=
 match s with
 | .nsl=>some ([],0,e0,none)
 | .sl a f i n c=>match f with
  | 0=>match getM M a with
   | some (.mem true sp ls)=>match ls with
    | [(t,u)]=>bif isArr u then some ([i + n = t,i + c ≤ t + sp],n,tailA u i,some a) else none
    | _=>none
   | _=>none
  | _=>none
 | _=>none
def dstR (es:Nat) (M:Mm) (s:SV):Option (List Prop × Nat × (Nat→List (Nat × SV)) × Option Nat):=
 match s with
 | .nsl=>some ([],0,fun _=>[],none)
 | .sl a f i n c=>match f with
  | 0=>match getM M a with
   | some (.mem true sp ls)=>match ls with
    | [(t,.arr m es' F)]=>bif Nat.beq es es' then match es with
      | 1=>some ([i + n = m,i + c ≤ t + sp],n,shiftF i F,some a)
      | _=>some ([i = 0,n = m,mulE c es ≤ t + sp],n,F,some a)
     else none
    | _=>none
   | _=>none
  | _=>none
 | _=>none
def dstC (es:Nat) (M:Mm) (s:SV):Option (List Prop × Nat × (Nat→List (Nat × SV))):=
 match s with
 | .sl a f i n c=>match f with
  | 0=>match getM M a with
   | some (.mem false _ ls)=>match ls with
    | [(_,.arr m es' F)]=>bif Nat.beq es es' then some ([i = 0,n ≤ m,n = c],n,F) else none
    | _=>none
   | _=>none
  | _=>none
 | _=>none
def dstK (es:Nat) (M:Mm) (s:SV):Option (List Prop × Nat × (Nat→List (Nat × SV)) × Nat × Mm):=
 match s with
 | .sl a f i n c=>match f with
  | 0=>match getM M a with
   | some (.mem true _ ls)=>match bif noRowL ls then endL M ls else none with
    | some (ls',M1)=>match getM M1 a with
     | some (.mem true sp1 ls1)=>match chunks es ls'.length ls' with
      | some cks=>bif (Nat.beq i 0 && Nat.beq n cks.length) && (Nat.beq (sizeL ls1) (cks.length * es) && Nat.ble (c * es) (sizeL ls1 + sp1)) then some ([],n,rowF cks,a,M1) else none
      | none=>none
     | _=>none
    | none=>none
   | _=>none
  | _=>none
 | _=>none
def appF (n:Nat) (F G:Nat→List (Nat × SV)):Nat→List (Nat × SV):=
 match n with
 | 0=>G
 | n=>fun j=>if j < n then F j else G (j - n)
theorem appF_lt {n j:Nat} {F G:Nat→List (Nat × SV)} (h:j < n):appF n F G j = F j:=by
 unfold appF;split
 ·exact absurd h (Nat.not_lt_zero _)
 ·exact if_pos h
theorem appF_ge {n j:Nat} {F G:Nat→List (Nat × SV)} (h:n ≤ j):appF n F G j = G (j - n):=by
 unfold appF;split
 ·rfl
 ·exact if_neg (by omega)
theorem Rows.app {ρ:Env} {es n m:Nat} {F G:Nat→List (Nat × SV)} {c1 c2:List Value} (h1:Rows ρ es n F c1) (h2:Rows ρ es m G c2):Rows ρ es (n + m) (appF n F G) (c1 ++ c2):=by
 refine ⟨by rw [List.length_append,h1.1,h2.1,Nat.add_mul],fun q hq=>?_⟩
 rcases Nat.lt_or_ge q n with hlt | hge
 ·have hb:(q + 1) * es ≤ n * es:=Nat.mul_le_mul_right _ hlt
  rw [Nat.add_mul,Nat.one_mul] at hb
  rw [appF_lt hlt,List.drop_append_of_le_length (by rw [h1.1];omega),List.take_append_of_le_length (by rw [List.length_drop,h1.1];omega)]
  exact h1.2 q hlt
 ·have hb:n * es ≤ q * es:=Nat.mul_le_mul_right _ hge
  rw [appF_ge hge,List.drop_append,List.drop_of_length_le (by rw [h1.1];exact hb),List.nil_append,h1.1,show q * es - n * es = (q - n) * es by rw [Nat.sub_mul]]
  exact h2.2 (q - n) (by omega)
def killM (a:Option Nat) (M:Mm):Mm:=
 match a with
 | none=>M
 | some a=>(a,.dead) :: M
def isZ8 (zl:List (Nat × SV)):Bool:=
 match zl with
 | [(_,.u8 x)]=>Nat.beq x.toNat 0
 | _=>false
def zLen (x:SV):Option (List Prop × Nat):=
 match x with
 | .i .i64 m=>some ([0 ≤ m],m.toNat)
 | _=>none
def appZ (ty:Nat→Ty) (T:Tm) (M:Mm) (e:Nat) (s x:Operand):Option (List Prop × Nat × Nat × SV × Option Nat × Mm):=
 bif !isBad (ty e).k && (Nat.beq (ty e).size 1 && isZ8 (ty e).zl) then match zLen (ev T x) with
  | some (ps,m)=>match dstA M (.a8 []) (ev T s) with
   | some (qs,n,u,a)=>match joinA u (.a8 (List.replicate m 0)) with
    | some z=>some (((n + m) * (ty e).bytes ≤ 140737488355328) :: (n + m ≤ 140737488355328) :: (ps ++ qs),n + m,1,z,a,M)
    | none=>none
   | none=>none
  | none=>none
 else none
def appV (ty:Nat→Ty) (T:Tm) (M:Mm) (c:Go.Call):Option (List Prop × Nat × Nat × SV × Option Nat × Mm):=
  match c.args.toList with
  | [s,x]=>match c.argTypes.toList with
    | [t,xt]=>match (ty t).k with
      | .slice e=>match isIntK (ty xt).k with
       | true=>appZ ty T M e s x
       | false=>bif okSrc (ty xt).k && !isBad (ty e).k then (match emptyA (ty e).zl with
        | some e0=>bif Nat.beq (ty e).size 1 then match srcA M e0 (ev T x) with
            | some (ps,m,v)=>match dstA M e0 (ev T s) with
              | some (qs,n,u,a)=>match joinA u v with
                | some z=>some (((n + m) * (ty e).bytes ≤ 140737488355328) :: (n + m ≤ 140737488355328) :: (ps ++ qs),n + m,1,z,a,M)
                | none=>none
              | none=>none
            | none=>none
          else none
        | none=>bif Nat.blt 0 (ty e).size && notNil (ty e).zl && Nat.beq (sizeL (ty e).zl) (ty e).size then match srcR (ty e).size M (ev T x) with
            | some (ps,m,G,M')=>match dstR (ty e).size M' (ev T s) with
              | some (qs,n,F,a)=>some (((n + m) * (ty e).bytes ≤ 140737488355328) :: (n + m ≤ 140737488355328) :: (ps ++ qs),n + m,(ty e).size,.arr (n + m) (ty e).size (appF n F G),a,M')
              | none=>match dstC (ty e).size M' (ev T s) with
                | some (qs,n,F)=>some (((n + m) * (ty e).bytes ≤ 140737488355328) :: (n + m ≤ 140737488355328) :: (ps ++ ((0 < m) :: qs)),n + m,(ty e).size,.arr (n + m) (ty e).size (appF n F G),none,M')
                | none=>match dstK (ty e).size M' (ev T s) with
                  | some (qs,n,F,a,M2)=>some (((n + m) * (ty e).bytes ≤ 140737488355328) :: (n + m ≤ 140737488355328) :: (ps ++ qs),n + m,(ty e).size,.arr (n + m) (ty e).size (appF n F G),some a,M2)
                  | none=>none
            | none=>none
          else none) else none
      | _=>none
    | _=>none
  | _=>none
  where
  okSrc:TyK→Bool
    | .slice _=>true
    | .string=>true
    | _=>false
  notNil:List (Nat × SV)→Bool
    | []=>false
    | _=>true
structure AppRun (P:Program) (w:World) (t xt ty e:TypeId) (i:TypeInfo) (z x:Value) (m:Nat) (news:List Value):Prop where
 nl:news.length = m * i.size
 none:∀ n c,n + m ≤ c→(Builtin.append_ #[t,xt] ty #[.slice none n c,x]).run P w = .ok (.slice none (n + m) c) w
 room:∀ a n c w',n + m ≤ c→(storeCells (a.add (n * i.size)) news 0).run P w = .ok () w'→(Builtin.append_ #[t,xt] ty #[.slice (some a) n c,x]).run P w = .ok (.slice (some a) (n + m) c) w'
 grow:∀ base n c olds,(Builtin.firstCells i.size n (.slice base n c)).run P w.drew = .ok (List.toArray olds) w.drew→c < n + m→((n + m:Nat):Int) ≤ 9223372036854775807→Builtin.nextslicecap (n + m) c * i.bytes ≤ 281474976710656 →
  (Builtin.append_ #[t,xt] ty #[.slice base n c,x]).run P w = .ok (.slice (some ⟨w.heap.size,0,Option.none⟩) (n + m) (grownCap w (n + m) c e))
    (w.drew.alloc (.cells ((olds ++ news).toArray ++ Builtin.zeroCells z.cells (grownCap w (n + m) c e - (n + m))) e))
theorem appRun_src {P:Program} {w:World} {t xt ty e:TypeId} {i:TypeInfo} {z x:Value} {m:Nat} {news:List Value} (ht:P.underlying t = some (.slice e))
  (hxt:(∃ e',P.underlying xt = some (.slice e')) ∨ P.underlying xt = some .string) (hi:P.info? e = some i) (hz:i.zero = some z) (hsrc:SrcOK P w i.size m x news):AppRun P w t xt ty e i z x m news:=by
 obtain ⟨hnl,hlen,hfirst⟩:=hsrc
 exact ⟨hnl,fun n c h=>run_app_none (ty:=ty) ht hxt hi hlen (hfirst w rfl) h,fun a n c w' h hs=>run_app_in (ty:=ty) ht hxt hi hlen (hfirst w rfl) h hs,
  fun base n c olds ho h1 h2 h3=>run_app_grow (ty:=ty) ht hxt hi hz hlen (hfirst w.drew rfl) ho h1 h2 h3⟩
theorem appRun_zero {P:Program} {w:World} {t xt ty e:TypeId} {k:IntKind} {i:TypeInfo} {z:Value} {m:Nat} (ht:P.underlying t = some (.slice e)) (hxt:P.underlying xt = some (.int k))
  (hi:P.info? e = some i) (hz:i.zero = some z) (hzs:z.cells.size = i.size) (hm:m * i.bytes ≤ 281474976710656) (hm2:m ≤ 140737488355328) :
  AppRun P w t xt ty e i z (.int .i64 (m:Int)) m (Builtin.zeroCells z.cells m).toList:=by
 have hw:IntKind.i64.wrap (m:Int) = (m:Int):=by
  unfold IntKind.wrap
  simp [IntKind.signed,IntKind.bits]
  omega
 have h0:¬ ((m:Int) < 0):=by omega
 have hb:¬ ((281474976710656:Int) < (m:Int) * (i.bytes:Int)):=by
  have:((m * i.bytes:Nat):Int) ≤ 281474976710656:=by omega
  rw [Int.natCast_mul] at this
  omega
 have ha:∀ w':World,(asInt (.int .i64 (m:Int))).run P w' = .ok (m:Int) w':=by intro w';simp [asInt,asIntOf]
 have hnil:m * i.size = 0→Builtin.zeroCells z.cells m = #[]:=fun h=>Array.eq_empty_of_size_eq_zero (by rw [size_zeroCells,hzs,h])
 refine ⟨by rw [Array.length_toList,size_zeroCells,hzs],fun n c h=>?_,fun a n c w' h hs=>?_,fun base n c olds ho h1 h2 h3=>?_⟩
 ·by_cases h5:m * i.size = 0
  ·simp [Builtin.append_,run_underlying ht,run_underlying hxt,sizeOf,typeInfo,hi,ha,hw,h0,hb,h,h5]
  ·simp [Builtin.append_,run_underlying ht,run_underlying hxt,sizeOf,typeInfo,zeroValue,hi,hz,ha,hw,h0,hb,h,h5]
 ·by_cases h5:m * i.size = 0
  ·rw [hnil h5] at hs
   have hs2:(storeCells (a.add (n * i.size)) []).run P w = .ok () w':=by simpa using hs
   simp [Builtin.append_,run_underlying ht,run_underlying hxt,sizeOf,typeInfo,hi,ha,hw,h0,hb,h,h5]
   rw [hs2];rfl
  ·simp [Builtin.append_,run_underlying ht,run_underlying hxt,sizeOf,typeInfo,zeroValue,hi,hz,ha,hw,h0,hb,h,h5]
   rw [hs];rfl
 ·have hn:¬ (n + m ≤ c):=by omega
  have h63':¬ (9223372036854775807 < ((n:Int) + (m:Int))):=by omega
  have h48':¬ (281474976710656 < Builtin.nextslicecap (n + m) c * i.bytes):=by omega
  by_cases h5:m * i.size = 0
  ·have h6:=hnil h5
   simp [Builtin.append_,run_underlying ht,run_underlying hxt,sizeOf,typeInfo,zeroValue,hi,hz,ha,hw,h0,hb,hn,h63',h48',Question.forced,ho,newRow,grownCap,h5,h6]
  ·simp [Builtin.append_,run_underlying ht,run_underlying hxt,sizeOf,typeInfo,zeroValue,hi,hz,ha,hw,h0,hb,hn,h63',h48',Question.forced,ho,newRow,grownCap,h5]
   try (congr 2;apply Array.ext';simp [List.append_assoc])
theorem app_world {Γ:Ctx} {ρ:Env} {M:Mm} {w:World} (hM:ConcM ρ M w) {d:Nat} (hd:getM M d = none) {t xt ty e:TypeId} {i:TypeInfo} {z:Value} (ht:Γ.P.underlying t = some (.slice e))
  (hi:Γ.P.info? e = some i) (hz:i.zero = some z) (hzs:z.cells.size = i.size)
  {s x:Value} {n m:Nat} {u leaf:SV} {news:List Value} (hA:AppRun Γ.P w t xt ty e i z x m news) (hone:∀ v ∈ news,one v) (hby:(n + m) * i.bytes ≤ 140737488355328) (h63:n + m ≤ 140737488355328)
  {a:Option Nat} (hdst:(a = none∧((s = .slice none 0 0∧n = 0∧∀ ρ',ρ.le ρ'→Cells1 ρ' leaf news) ∨
    (0 < m∧∃ y olds,s = .slice y n n∧(Builtin.firstCells i.size n s).run Γ.P w.drew = .ok olds.toArray w.drew∧olds.length = n * i.size∧∀ ρ',ρ.le ρ'→Cells1 ρ' leaf (olds ++ news)))) ∨
   ∃ a0 sp ls off c y cs,a = some a0∧s = .slice y n c∧n ≤ c∧(c ≠ 0→y = some ⟨(ρ.pos a0).1,(ρ.pos a0).2 + off,none⟩)∧getM M a0 = some (.mem true sp ls)∧CellsL ρ ls cs∧(∀ j v,cs[j]? = some v→w.cell? ⟨(ρ.pos a0).1,(ρ.pos a0).2 + j,none⟩ = some v) ∧
    off + n * i.size = sizeL ls∧off + c * i.size ≤ sizeL ls + sp∧∀ ρ',ρ.le ρ'→Cells1 ρ' leaf (cs.drop off ++ news)) :
  ∃ v w' ρ' c',(Builtin.append_ #[t,xt] ty #[s,x]).run Γ.P w = .ok v w'∧n + m ≤ c'∧ρ.le ρ'∧ConcM ρ' ((d,.mem true ((c' - (n + m)) * i.size) [((n + m) * i.size,leaf)]) :: killM a M) w' ∧
   Step ρ M ρ' ((d,.mem true ((c' - (n + m)) * i.size) [((n + m) * i.size,leaf)]) :: killM a M) w w'∧RelT ρ' (.sl d 0 0 (n + m) c') v:=by
 have hnl:=hA.nl
 have wrote0:∀ b o,Wrote b o [] w w:=fun b o=>⟨rfl,rfl,rfl,fun _ _=>rfl,fun _ _=>rfl,fun j v h=>by simp at h,fun _ _ _=>rfl,fun _ _=>rfl⟩
 have grown:∀ {M1:Mm} {ρ1:Env} (_:ρ.le ρ1) (_:ConcM ρ1 M1 w) (_:Step ρ M ρ1 M1 w w) (_:getM M1 d = none) (c:Nat) (olds:List Value),olds.length = n * i.size→(∀ ρ',ρ.le ρ'→Cells1 ρ' leaf (olds ++ news)) →
   ∃ ρ',ρ.le ρ'∧ConcM ρ' ((d,.mem true ((grownCap w (n + m) c e - (n + m)) * i.size) [((n + m) * i.size,leaf)]) :: M1)
     (w.drew.alloc (.cells ((olds ++ news).toArray ++ Builtin.zeroCells z.cells (grownCap w (n + m) c e - (n + m))) e)) ∧
    Step ρ M ρ' ((d,.mem true ((grownCap w (n + m) c e - (n + m)) * i.size) [((n + m) * i.size,leaf)]) :: M1) w
     (w.drew.alloc (.cells ((olds ++ news).toArray ++ Builtin.zeroCells z.cells (grownCap w (n + m) c e - (n + m))) e)) ∧
    RelT ρ' (.sl d 0 0 (n + m) (grownCap w (n + m) c e)) (.slice (some ⟨w.heap.size,0,none⟩) (n + m) (grownCap w (n + m) c e)):=by
  intro M1 ρ1 hle1 h1 hst1 hd1 c olds ho hleaf
  have hg:Grows w w.drew:=⟨Nat.le_refl _,rfl,rfl,fun _ _=>rfl⟩
  have h2:=h1.grows hg
  have hcs:CellsL ρ1 [((n + m) * i.size,leaf)] (olds ++ news):=⟨_,[],(List.append_nil _).symm,by rw [List.length_append,ho,hnl,Nat.add_mul],hleaf ρ1 hle1,rfl⟩
  obtain ⟨n1,n2,n3⟩:=h2.alloc (t:=e) (cells:=(olds ++ news).toArray ++ Builtin.zeroCells z.cells (grownCap w (n + m) c e - (n + m))) (sp:=(grownCap w (n + m) c e - (n + m)) * i.size) hd1 hcs (fun j v hj=>by
   rw [Array.getElem?_append_left (by simpa using (List.getElem?_eq_some_iff.1 hj).1)]
   simpa using hj) (by rw [Array.size_append,size_zeroCells,hzs];simp)
  refine ⟨_,Env.le_trans hle1 n1,n2,hst1.trans (hg.step.trans n3),RelT_of_Rel ⟨Or.inl rfl,grownCap_ge _ _ _ _,_,rfl,fun _=>?_⟩⟩
  simp [Env.addr,Env.add]
 rcases hdst with ⟨rfl,⟨rfl,rfl,hleaf⟩ | ⟨hm,y,olds,rfl,hold,hol,hleaf⟩⟩ | ⟨a0,sp,ls,off,c,y,cs,rfl,rfl,hnc,hy,ha,hcs,hcell,hoff,hcap,hleaf⟩
 rotate_left
 ·have hrun:=hA.grow y n n olds hold (by omega) (by omega) (growslice_fits (by omega) hby)
  obtain ⟨ρ',k1,k2,k3,k4⟩:=grown (Env.le_refl _) hM (Step.refl _ _ _) hd n olds hol hleaf
  exact ⟨_,_,ρ',_,hrun,grownCap_ge _ _ _ _,k1,k2,k3,k4⟩
 rotate_left
 ·rcases Nat.eq_zero_or_pos m with hm | hm
  ·subst hm
   have hn:news = []:=List.eq_nil_of_length_eq_zero (by rw [hnl];simp)
   subst hn
   have hrun:=hA.none 0 0 (by omega)
   have hcl:CellsL ρ [((0 + 0) * i.size,leaf)] []:=⟨[],[],rfl,by simp,hleaf ρ (Env.le_refl _),rfl⟩
   obtain ⟨k1,k2,k3⟩:=hM.claim (b:=0) (o:=0) (sp:=(0 - (0 + 0)) * i.size) hd hcl (fun j v hj=>by simp at hj) (fun p h1 h2=>by simp [sizeL] at h2) (fun j hj=>by simp [sizeL] at hj)
   refine ⟨_,w,_,0,hrun,Nat.le_refl _,k1,k2,⟨Nat.le_refl _,rfl,rfl,fun _ _ _=>rfl,fun _ _ _ _=>⟨rfl,rfl⟩,fun k p _ ho=>?_,fun _ _ _ h=>Or.inl h⟩,RelT_of_Rel ⟨Or.inl rfl,Nat.le_refl _,_,rfl,fun hc=>absurd rfl hc⟩⟩
   rcases k3 k p ho with h | ⟨_,h1,h2⟩
   ·exact h
   ·simp [sizeL] at h2
  ·have hrun:=hA.grow none 0 0 [] rfl (by omega) (by omega) (growslice_fits (by omega) hby)
   obtain ⟨ρ',k1,k2,k3,k4⟩:=grown (Env.le_refl _) hM (Step.refl _ _ _) hd 0 [] (by simp) (fun ρ' h=>by simpa using hleaf ρ' h)
   exact ⟨_,_,ρ',_,hrun,grownCap_ge _ _ _ _,k1,k2,k3,k4⟩
 ·have hda:d ≠ a0:=by rintro rfl;rw [ha] at hd;cases hd
  have hd1:getM ((a0,.dead) :: M) d = none:=by rw [getM_cons_ne hda];exact hd
  have hcl:=hcs.length
  rcases Nat.lt_or_ge c (n + m) with hg | hroom
  ·-- it grows
   obtain ⟨k1,k2,_,_⟩:=hM.kill ha (q:=0) (nc:=[]) (wrote0 _ _) (by simp)
   have hold:(Builtin.firstCells i.size n (.slice y n c)).run Γ.P w.drew = .ok (cs.drop off).toArray w.drew:=by
    have:=first_at (P:=Γ.P) (w:=w.drew) (es:=i.size) hnc hy (fun j v hj=>hcell j v hj) (by rw [hcl];omega)
    rw [List.take_of_length_le (by rw [List.length_drop,hcl];omega)] at this
    exact this
   have hrun:=hA.grow y n c _ hold hg (by omega) (growslice_fits hg hby)
   obtain ⟨ρ',l1,l2,l3,l4⟩:=grown (Env.le_refl _) k1 k2 hd1 c (cs.drop off) (by rw [List.length_drop,hcl];omega) hleaf
   exact ⟨_,_,ρ',_,hrun,grownCap_ge _ _ _ _,l1,l2,l3,l4⟩
  ·-- there is room
   have hmul:n * i.size + m * i.size ≤ c * i.size:=by rw [← Nat.add_mul];exact Nat.mul_le_mul_right _ hroom
   have hst:∃ v w',(Builtin.append_ #[t,xt] ty #[.slice y n c,x]).run Γ.P w = .ok v w'∧Wrote (ρ.pos a0).1 ((ρ.pos a0).2 + (off + n * i.size)) news w w'∧∃ y',v = .slice y' (n + m) c∧(c ≠ 0→y' = some ⟨(ρ.pos a0).1,(ρ.pos a0).2 + off,none⟩):=by
    rcases Nat.eq_zero_or_pos c with h0 | h0
    ·have hm0:m = 0:=by omega
     have hn:news = []:=List.eq_nil_of_length_eq_zero (by rw [hnl,hm0];simp)
     subst hn
     cases y with
     | none=>exact ⟨_,w,hA.none n c hroom,wrote0 _ _,none,rfl,fun hc=>absurd h0 hc⟩
     | some ad=>exact ⟨_,w,hA.room ad n c w hroom rfl,wrote0 _ _,some ad,rfl,fun hc=>absurd h0 hc⟩
    ·have hy':=hy (by omega)
     subst hy'
     obtain ⟨_,c1,c2,c3,c4⟩:=hM.sat a0 _ ha
     have c4:=c4 rfl
     obtain ⟨w',hr,hw⟩:=run_storeCells (P:=Γ.P) (b:=(ρ.pos a0).1) (o:=(ρ.pos a0).2 + (off + n * i.size)) news 0 w hone (fun j hj=>by
      have:=c4 (off + n * i.size + j) (by rw [hnl] at hj;omega)
      rw [show (ρ.pos a0).2 + (off + n * i.size) + (0 + j) = (ρ.pos a0).2 + (off + n * i.size + j) by omega]
      exact this)
     rw [Nat.add_zero] at hw
     refine ⟨_,w',hA.room _ n c w' hroom ?_,hw,_,rfl,fun _=>rfl⟩
     rw [add_lit,show (ρ.pos a0).2 + off + n * i.size = (ρ.pos a0).2 + (off + n * i.size) by omega]
     exact hr
   obtain ⟨v,w',hrun,hw,y',rfl,hy'⟩:=hst
   obtain ⟨k1,k2,k3,k4⟩:=hM.kill ha hw (by rw [hnl];omega)
   have hcl2:CellsL ρ [((n + m) * i.size,leaf)] (cs.drop off ++ news):=⟨_,[],(List.append_nil _).symm,by rw [List.length_append,List.length_drop,hcl,hnl,Nat.add_mul];omega,hleaf ρ (Env.le_refl _),rfl⟩
   have hlen3:off + ((n + m) * i.size + (c - (n + m)) * i.size) ≤ sizeL ls + sp:=by
    rw [← Nat.add_mul,show n + m + (c - (n + m)) = c by omega];exact hcap
   obtain ⟨l1,l2,l3⟩:=k1.claim (b:=(ρ.pos a0).1) (o:=(ρ.pos a0).2 + off) (sp:=(c - (n + m)) * i.size) hd1 hcl2 (fun j v hj=>by
     rcases Nat.lt_or_ge j (cs.drop off).length with h1 | h1
     ·rw [List.getElem?_append_left h1,List.getElem?_drop] at hj
      rw [List.length_drop,hcl] at h1
      rw [hw.old _ _ (fun _=>Or.inl (by omega)),Nat.add_assoc]
      exact hcell _ v hj
     ·rw [List.getElem?_append_right h1] at hj
      have:=hw.new _ v hj
      rw [List.length_drop,hcl] at h1
      rw [List.length_drop,hcl,show (ρ.pos a0).2 + (off + n * i.size) + (j - (sizeL ls - off)) = (ρ.pos a0).2 + off + j by omega] at this
      exact this)
    (fun p h1 h2=>by
     simp only [sizeL,Nat.add_zero] at h2
     exact k3 _ p ⟨rfl,by omega,by simp only [if_true];omega⟩)
    (fun j hj=>by
     simp only [sizeL,Nat.add_zero] at hj
     have:=k4 (off + j) (by omega)
     rw [show (ρ.pos a0).2 + (off + j) = (ρ.pos a0).2 + off + j by omega] at this
     exact this)
   refine ⟨_,w',_,c,hrun,hroom,l1,l2,⟨k2.size,k2.os,k2.output,k2.blk,k2.cell,fun k p hk ho=>?_,k2.immo⟩,RelT_of_Rel ⟨Or.inl rfl,hroom,y',rfl,fun hc=>?_⟩⟩
   ·rcases l3 k p ho with h | ⟨rfl,h1,h2⟩
    ·exact k2.own k p hk h
    ·simp only [sizeL,Nat.add_zero] at h2
     exact ⟨a0,_,ha,rfl,rfl,by omega,by simp only [if_true];omega⟩
   ·rw [hy' hc]
    simp [Env.addr,Env.add]
theorem Rows.one {ρ:Env} {es m:Nat} {F:Nat→List (Nat × SV)} {news:List Value} (r:Rows ρ es m F news):∀ v ∈ news,one v:=by
 have:Cells1 ρ (.arr m es F) news:=r
 exact this.one
theorem dstA_ok {Γ:Ctx} {N:Nat} {ρ:Env} {T:Tm} {M:Mm} {a:Act} {w:World} (hc:Conc N ρ T M a w) {s:Operand} {e0 u v zv:SV} {rs:List Prop} {n0 es m:Nat} {k0:Option Nat} (hsz1:es = 1)
  (hdst:dstA M e0 (ev T s) = some (rs,n0,u,k0)) (hpr:All rs) (he0c:∀ ρ':Env,Cells1 ρ' e0 []) (hj:joinA u v = some zv) {news:List Value} (hnews:Cells1 ρ v news) :
  (k0 = none∧((a.eval s = .slice none 0 0∧n0 = 0∧∀ ρ',ρ.le ρ'→Cells1 ρ' zv news) ∨
    (0 < m∧∃ y olds,a.eval s = .slice y n0 n0∧(Builtin.firstCells es n0 (a.eval s)).run Γ.P w.drew = .ok (List.toArray olds) w.drew∧olds.length = n0 * es∧∀ ρ',ρ.le ρ'→Cells1 ρ' zv (olds ++ news)))) ∨
   ∃ a0 sp ls off c y cs,k0 = some a0∧a.eval s = .slice y n0 c∧n0 ≤ c∧(c ≠ 0→y = some ⟨(ρ.pos a0).1,(ρ.pos a0).2 + off,none⟩)∧getM M a0 = some (.mem true sp ls)∧CellsL ρ ls cs∧(∀ j v,cs[j]? = some v→w.cell? ⟨(ρ.pos a0).1,(ρ.pos a0).2 + j,none⟩ = some v) ∧
    off + n0 * es = sizeL ls∧off + c * es ≤ sizeL ls + sp∧∀ ρ',ρ.le ρ'→Cells1 ρ' zv (cs.drop off ++ news):=by
 have hrs:=ev_rel hc s
 unfold dstA at hdst
 split at hdst
 ·rename_i hs
  rw [hs] at hrs
  simp only [Option.some.injEq,Prod.mk.injEq] at hdst;obtain ⟨rfl,rfl,rfl,rfl⟩:=hdst
  exact Or.inl ⟨rfl,Or.inl ⟨hrs,rfl,fun ρ' hle=>by simpa using joinA_cells hj (he0c ρ') (hnews.le hle)⟩⟩
 ·rename_i a0 f i0 n1 cc hs
  rw [hs] at hrs
  obtain ⟨_,hnc,y,hv,hy⟩:=hrs
  split at hdst
  ·split at hdst
   ·rename_i sp ls hm
    split at hdst
    ·rename_i t0 u0
     have ha:=(bif_none hdst).1
     replace hdst:=(bif_none hdst).2
     simp only [Option.some.injEq,Prod.mk.injEq] at hdst;obtain ⟨rfl,rfl,rfl,rfl⟩:=hdst
     obtain ⟨cs,c1,_,c3,_⟩:=hc.sat a0 _ hm
     obtain ⟨d1,d2,rfl,g1,g2,g3⟩:=c1
     have e2:d2 = []:=g3
     subst e2
     have q1:=hpr.head
     have q2:=hpr.tail.head
     refine Or.inr ⟨a0,sp,_,i0,cc,y,d1,rfl,hv,hnc,fun hcc=>by rw [hy hcc,addr_eq,Nat.zero_add],hm,⟨d1,[],(List.append_nil _).symm,g1,g2,rfl⟩,by simpa using c3,by simp only [sizeL,hsz1];omega,by simp only [sizeL,hsz1];omega,fun ρ' hle=>joinA_cells hj (tailA_cells ha (g2.le hle) i0) (hnews.le hle)⟩
    ·cases hdst
   ·cases hdst
  ·cases hdst
 ·cases hdst
theorem zeroCells_one (v:Value) (m:Nat):(Builtin.zeroCells #[v] m).toList = List.replicate m v:=by
 unfold Builtin.zeroCells
 apply List.ext_getElem
 ·simp
 ·intro j h1 h2
  simp [Nat.mod_one]
theorem appV_sound {Γ:Ctx} {N:Nat} {ρ:Env} {T:Tm} {M:Mm} {a:Act} {w:World} (hc:Conc N ρ T M a w) {c:Go.Call} {d:Nat} (hd:getM M d = none) {ps:List Prop} {n es:Nat} {leaf:SV} {k:Option Nat} {M':Mm}
  (h:appV Γ.ty T M c = some (ps,n,es,leaf,k,M')) (hp:All ps) (hd':getM M' d = none) (ty:TypeId) :
  ∃ v w' ρ' c',(Builtin.append_ c.argTypes ty (c.args.map a.eval)).run Γ.P w = .ok v w'∧n ≤ c'∧ρ.le ρ'∧ConcM ρ' ((d,.mem true (mulE (c' - n) es) [(mulE n es,leaf)]) :: killM k M') w' ∧
   Step ρ M ρ' ((d,.mem true (mulE (c' - n) es) [(mulE n es,leaf)]) :: killM k M') w w'∧RelT ρ' (.sl d 0 0 n c') v:=by
 unfold appV at h
 split at h
 ·rename_i s x hargs
  have e1:c.args.map a.eval = #[a.eval s,a.eval x]:=by
   apply Array.ext';simp [hargs]
  split at h
  ·rename_i t xt hts
   have e2:c.argTypes = #[t,xt]:=by
    apply Array.ext';simp [hts]
   rw [e1,e2]
   split at h
   ·rename_i e hk
    have ut:=und_slice (Γ.ok (t:=t) (by rw [hk];simp)) hk
    split at h
    ·-- zeros
     rename_i hxi
     unfold appZ at h
     have hb:=(bif_none h).1
     replace h:=(bif_none h).2
     simp only [Bool.and_eq_true,Bool.not_eq_true'] at hb
     have hne:(Γ.ty e).k ≠ .bad:=by intro e';rw [e'] at hb;simp [isBad] at hb
     obtain ⟨i,hi,hi1,hi2,hi3⟩:=(Γ.ok hne).info
     have hs1:=beq_eq' hb.2.1
     have hsz1:i.size = 1:=by omega
     obtain ⟨q,hq⟩:∃ q,(Γ.ty e).zl = [(q,.u8 0)]:=by
      have h1:=hb.2.2
      unfold isZ8 at h1
      split at h1
      ·rename_i q x hzl
       have:=beq_eq' h1
       have hx:x = 0:=UInt8.toNat_inj.1 this
       exact ⟨q,by rw [hzl,hx]⟩
      ·cases h1
     have hzl:(Γ.ty e).zl ≠ []:=by rw [hq];simp
     obtain ⟨z,hz,hzc,hzs,_⟩:=hi3 hzl
     have hzv:z.cells = #[w8 0]:=by
      apply Array.ext'
      rw [hzc,hq];rfl
     have hxk:∃ k,(Γ.ty xt).k = .int k:=by
      unfold isIntK at hxi
      split at hxi
      ·rename_i k hk';exact ⟨k,hk'⟩
      ·cases hxi
     obtain ⟨kx,hkx⟩:=hxk
     have uxt:=und_int (Γ.ok (t:=xt) (by rw [hkx];simp)) hkx
     split at h
     ·rename_i qs m hzl2
      split at h
      ·rename_i rs n0 u k0 hdst
       split at h
       ·rename_i zv hj
        simp only [Option.some.injEq,Prod.mk.injEq] at h
        obtain ⟨rfl,rfl,rfl,rfl,rfl,rfl⟩:=h
        have hb1:=hp.head
        have hb2:=hp.tail.head
        have hxv:a.eval x = .int .i64 (m:Int):=by
         have hrx:=ev_rel hc x
         unfold zLen at hzl2
         split at hzl2
         ·rename_i mi hm
          simp only [Option.some.injEq,Prod.mk.injEq] at hzl2;obtain ⟨rfl,rfl⟩:=hzl2
          have h0:0 ≤ mi:=hp.tail.tail.left.head
          rw [hm] at hrx
          have hrx:a.eval x = .int .i64 mi:=hrx
          rw [hrx,Int.toNat_of_nonneg h0]
         ·cases hzl2
        rw [hxv]
        have hmb:m * i.bytes ≤ 281474976710656:=by
         have:m * i.bytes ≤ (n0 + m) * i.bytes:=Nat.mul_le_mul_right _ (by omega)
         rw [hi2] at this ⊢;omega
        have hA:=appRun_zero (w:=w) (ty:=ty) ut uxt hi hz (by rw [hzv,hsz1];rfl) hmb (by omega)
        rw [hzv,zeroCells_one] at hA
        have hnews:Cells1 ρ (.a8 (List.replicate m 0)) (List.replicate m (w8 0)):=by
         show _ = List.map w8 (List.replicate m 0)
         rw [List.map_replicate]
        have:=app_world (ty:=ty) hc.toConcM hd ut hi hz (by rw [hzv,hsz1];rfl) hA hnews.one (by rw [hi2];exact hb1) hb2 (s:=a.eval s) (n:=n0) (u:=u) (leaf:=zv) (a:=k0)
         (dstA_ok (Γ:=Γ) hc hsz1 hdst hp.tail.tail.right (fun _=>rfl) hj hnews)
        simp only [hsz1,Nat.mul_one] at this
        exact this
       ·cases h
      ·cases h
     ·cases h
    have hb:=(bif_none h).1
    replace h:=(bif_none h).2
    simp only [Bool.and_eq_true,Bool.not_eq_true'] at hb
    have hne:(Γ.ty e).k ≠ .bad:=by intro e';rw [e'] at hb;simp [isBad] at hb
    have hxt:(∃ e',Γ.P.underlying xt = some (.slice e')) ∨ Γ.P.underlying xt = some .string:=by
     have h1:=hb.1
     unfold appV.okSrc at h1
     split at h1
     ·rename_i e' hk'
      exact Or.inl ⟨e',und_slice (Γ.ok (t:=xt) (by rw [hk'];simp)) hk'⟩
     ·rename_i hk'
      exact Or.inr (und_string (Γ.ok (t:=xt) (by rw [hk'];simp)) hk')
     ·cases h1
    obtain ⟨i,hi,hi1,hi2,hi3⟩:=(Γ.ok hne).info
    split at h
    ·rename_i e0 he0
     have hs1:=beq_eq' (bif_none h).1
     replace h:=(bif_none h).2
     have hzl:(Γ.ty e).zl ≠ []:=by intro e';rw [e'] at he0;simp [emptyA] at he0
     obtain ⟨z,hz,hzc,hzs,_⟩:=hi3 hzl
     have hzlen:z.cells.size = i.size:=by
      have e3:(zeroL (Γ.ty e).zl).length = 1:=by
       unfold emptyA at he0
       split at he0
       ·rename_i s0 v0 hzl0
        rw [hzl0]
        split at he0 <;> first | rfl | (split at he0 <;> first | rfl | cases he0) | cases he0
       ·cases he0
      rw [← hzc] at e3
      rw [hi1,hs1]
      simpa using e3
     have he0c:∀ ρ':Env,Cells1 ρ' e0 []:=by
      intro ρ'
      unfold emptyA at he0
      split at he0
      ·split at he0 <;> first
        | (simp only [Option.some.injEq] at he0;subst he0;rfl)
        | (split at he0 <;> first | (simp only [Option.some.injEq] at he0;subst he0;rfl) | cases he0)
        | cases he0
      ·cases he0
     split at h
     ·rename_i qs m v hsrc
      split at h
      ·rename_i rs n0 u k0 hdst
       split at h
       ·rename_i zv hj
        simp only [Option.some.injEq,Prod.mk.injEq] at h
        obtain ⟨rfl,rfl,rfl,rfl,rfl,rfl⟩:=h
        obtain ⟨news,ok,hnews⟩:=srcA_sound (P:=Γ.P) hc.toConcM (he0c ρ) (ev_rel hc x) hsrc hp.tail.tail.left
        rw [← hs1,← hi1] at ok
        have hsz1:i.size = 1:=by omega
        have:=app_world (ty:=ty) hc.toConcM hd ut hi hz hzlen (appRun_src ut hxt hi hz ok) hnews.one (by rw [hi2];exact hp.head) hp.tail.head (s:=a.eval s) (n:=n0) (u:=u) (leaf:=zv) (a:=k0) (by
         have hrs:=ev_rel hc s
         have hpr:=hp.tail.tail.right
         unfold dstA at hdst
         split at hdst
         ·rename_i hs
          rw [hs] at hrs
          simp only [Option.some.injEq,Prod.mk.injEq] at hdst;obtain ⟨rfl,rfl,rfl,rfl⟩:=hdst
          exact Or.inl ⟨rfl,Or.inl ⟨hrs,rfl,fun ρ' hle=>by simpa using joinA_cells hj (he0c ρ') (hnews.le hle)⟩⟩
         ·rename_i a0 f i0 n1 cc hs
          rw [hs] at hrs
          obtain ⟨_,hnc,y,hv,hy⟩:=hrs
          split at hdst
          ·split at hdst
           ·rename_i sp ls hm
            split at hdst
            ·rename_i t0 u0
             have ha:=(bif_none hdst).1
             replace hdst:=(bif_none hdst).2
             simp only [Option.some.injEq,Prod.mk.injEq] at hdst;obtain ⟨rfl,rfl,rfl,rfl⟩:=hdst
             obtain ⟨cs,c1,_,c3,_⟩:=hc.sat a0 _ hm
             obtain ⟨d1,d2,rfl,g1,g2,g3⟩:=c1
             have e2:d2 = []:=g3
             subst e2
             have q1:=hpr.head
             have q2:=hpr.tail.head
             refine Or.inr ⟨a0,sp,_,i0,cc,y,d1,rfl,hv,hnc,fun hcc=>by rw [hy hcc,addr_eq,Nat.zero_add],hm,⟨d1,[],(List.append_nil _).symm,g1,g2,rfl⟩,by simpa using c3,by simp only [sizeL,hsz1];omega,by simp only [sizeL,hsz1];omega,fun ρ' hle=>joinA_cells hj (tailA_cells ha (g2.le hle) i0) (hnews.le hle)⟩
            ·cases hdst
           ·cases hdst
          ·cases hdst
         ·cases hdst)
        simp only [hsz1,Nat.mul_one] at this
        exact this
       ·cases h
      ·cases h
     ·cases h
    ·have hb2:=(bif_none h).1
     replace h:=(bif_none h).2
     simp only [Bool.and_eq_true] at hb2
     have hpos:0 < (Γ.ty e).size:=u_lt_of hb2.1.1
     have hszl:=beq_eq' hb2.2
     have hzl:(Γ.ty e).zl ≠ []:=by intro e';rw [e'] at hb2;simp [appV.notNil] at hb2
     obtain ⟨z,hz,hzc,hzs,_⟩:=hi3 hzl
     split at h
     ·rename_i qs m G M1 hsrc
      split at h
      ·rename_i rs n0 F k0 hdst
       simp only [Option.some.injEq,Prod.mk.injEq] at h
       obtain ⟨rfl,rfl,rfl,rfl,rfl,rfl⟩:=h
       obtain ⟨ρ1,news,l1,l2,l3,ok,hnews⟩:=srcR_sound (P:=Γ.P) hc.toConcM (ev_rel hc x) hsrc hp.tail.tail.left
       rw [← hi1] at ok hnews hdst
       have hzlen:z.cells.size = i.size:=by
        have:=(zeroL_cells ρ hzs).length
        rw [← hzc,hszl] at this
        rw [hi1];simpa using this
       have:=app_world (ty:=ty) l2 hd' ut hi hz hzlen (appRun_src ut hxt hi hz ok) hnews.one (by rw [hi2];exact hp.head) hp.tail.head (s:=a.eval s) (n:=n0) (u:=.und) (leaf:=.arr (n0 + m) i.size (appF n0 F G)) (a:=k0) (by
        have hrs:=(ev_rel hc s).le l1
        have hpr:=hp.tail.tail.right
        unfold dstR at hdst
        split at hdst
        ·rename_i hs
         rw [hs] at hrs
         simp only [Option.some.injEq,Prod.mk.injEq] at hdst;obtain ⟨rfl,rfl,rfl,rfl⟩:=hdst
         refine Or.inl ⟨rfl,Or.inl ⟨hrs,rfl,fun ρ' hle=>?_⟩⟩
         rw [Nat.zero_add]
         exact hnews.le hle
        ·rename_i a0 f i0 n1 cc hs
         rw [hs] at hrs
         obtain ⟨_,hnc,y,hv,hy⟩:=hrs
         split at hdst
         ·split at hdst
          ·rename_i sp ls hm
           split at hdst
           ·rename_i t0 m0 es' F0
            have he:=beq_eq' (bif_none hdst).1
            replace hdst:=(bif_none hdst).2
            subst he
            obtain ⟨cs,c1,_,c3,_⟩:=l2.sat a0 _ hm
            obtain ⟨d1,d2,rfl,g1,g2,g3⟩:=c1
            have e2:d2 = []:=g3
            subst e2
            have hr:Rows ρ1 i.size m0 F0 d1:=g2
            split at hdst
            rotate_left
            ·simp only [Option.some.injEq,Prod.mk.injEq] at hdst;obtain ⟨rfl,rfl,rfl,rfl⟩:=hdst
             have q0:=hpr.head
             have q1:=hpr.tail.head
             have q2:=hpr.tail.tail.head
             rw [mulE_eq] at q2
             subst q0
             subst q1
             refine Or.inr ⟨a0,sp,_,0,cc,y,d1,rfl,hv,hnc,fun hcc=>by rw [hy hcc,addr_eq],hm,⟨d1,[],(List.append_nil _).symm,g1,g2,rfl⟩,by simpa using c3,by simp only [sizeL];rw [← g1,hr.1];omega,by simp only [sizeL];omega,fun ρ' hle=>?_⟩
             rw [List.drop_zero]
             exact (hr.le hle).app (hnews.le hle)
            ·rename_i hs1
             ·simp only [Option.some.injEq,Prod.mk.injEq] at hdst;obtain ⟨rfl,rfl,rfl,rfl⟩:=hdst
              have q1:=hpr.head
              have q2:=hpr.tail.head
              have hseg:=hr.seg (q:=i0) (n:=n1) (by omega)
              have hl:=hr.1
              rw [hs1] at hseg hl
              simp only [Nat.mul_one] at hseg hl
              rw [List.take_of_length_le (by rw [List.length_drop];omega)] at hseg
              refine Or.inr ⟨a0,sp,_,i0,cc,y,d1,rfl,hv,hnc,fun hcc=>by rw [hy hcc,addr_eq,Nat.zero_add],hm,⟨d1,[],(List.append_nil _).symm,g1,g2,rfl⟩,by simpa using c3,by simp only [sizeL,hs1];omega,by simp only [sizeL,hs1];omega,fun ρ' hle=>?_⟩
              rw [hs1]
              rw [hs1] at hnews
              exact (hseg.le hle).app (hnews.le hle)
           ·cases hdst
          ·cases hdst
         ·cases hdst
        ·cases hdst)
       obtain ⟨v,w',ρ',c',r1,r2,r3,r4,r5,r6⟩:=this
       rw [← hi1]
       simp only [mulE_eq]
       exact ⟨v,w',ρ',c',r1,r2,Env.le_trans l1 r3,r4,l3.trans r5,r6⟩
      ·split at h
       ·-- to new memory
        rename_i rs n0 F hdst
        simp only [Option.some.injEq,Prod.mk.injEq] at h
        obtain ⟨rfl,rfl,rfl,rfl,rfl,rfl⟩:=h
        obtain ⟨ρ1,news,l1,l2,l3,ok,hnews⟩:=srcR_sound (P:=Γ.P) hc.toConcM (ev_rel hc x) hsrc hp.tail.tail.left
        rw [← hi1] at ok hnews hdst
        have hzlen:z.cells.size = i.size:=by
         have:=(zeroL_cells ρ hzs).length
         rw [← hzc,hszl] at this
         rw [hi1];simpa using this
        have:=app_world (ty:=ty) l2 hd' ut hi hz hzlen (appRun_src ut hxt hi hz ok) hnews.one (by rw [hi2];exact hp.head) hp.tail.head (s:=a.eval s) (n:=n0) (u:=.und) (leaf:=.arr (n0 + m) i.size (appF n0 F G)) (a:=none) (by
         have hrs:=(ev_rel hc s).le l1
         have hpr:=hp.tail.tail.right
         have hm0:=hpr.head
         have hpr:=hpr.tail
         unfold dstC at hdst
         split at hdst
         ·rename_i a0 f i0 n1 cc hs
          rw [hs] at hrs
          obtain ⟨_,hnc,y,hv,hy⟩:=hrs
          split at hdst
          ·split at hdst
           ·rename_i sp ls hm
            split at hdst
            ·rename_i t0 m0 es' F0
             have he:=beq_eq' (bif_none hdst).1
             replace hdst:=(bif_none hdst).2
             subst he
             simp only [Option.some.injEq,Prod.mk.injEq] at hdst;obtain ⟨rfl,rfl,rfl⟩:=hdst
             obtain ⟨cs,c1,_,c3,_⟩:=l2.sat a0 _ hm
             obtain ⟨d1,d2,rfl,g1,g2,g3⟩:=c1
             have e2:d2 = []:=g3
             subst e2
             have hr:Rows ρ1 i.size m0 F0 d1:=g2
             have q0:=hpr.head
             have q1:=hpr.tail.head
             have q2:=hpr.tail.tail.head
             subst q0
             subst q2
             have hlen:=hr.1
             have hle:n1 * i.size ≤ m0 * i.size:=Nat.mul_le_mul_right _ q1
             have hold:=first_at (P:=Γ.P) (w:=w.drew) (es:=i.size) (off:=0) (cs:=d1) (n:=n1) (c:=n1) (y:=y) (b:=(ρ1.pos a0).1) (o:=(ρ1.pos a0).2) (Nat.le_refl _) (fun hcc=>by rw [hy hcc,addr_eq]) (fun j v hj=>c3 j v (by simpa using hj)) (by omega)
             rw [List.drop_zero] at hold
             have htk:(d1.take (n1 * i.size)).length = n1 * i.size:=by rw [List.length_take];omega
             refine Or.inl ⟨rfl,Or.inr ⟨hm0,y,d1.take (n1 * i.size),hv,by rw [hv];exact hold,htk,fun ρ' hle'=>?_⟩⟩
             have hrt:Rows ρ1 i.size n1 F0 (d1.take (n1 * i.size)):=⟨htk,fun q hq=>by
              have hb1:(q + 1) * i.size ≤ n1 * i.size:=Nat.mul_le_mul_right _ hq
              rw [Nat.add_mul,Nat.one_mul] at hb1
              have:=hr.2 q (by omega)
              rw [List.drop_take,List.take_take,Nat.min_eq_left (by omega)]
              exact this⟩
             exact (hrt.le hle').app (hnews.le hle')
            ·cases hdst
           ·cases hdst
          ·cases hdst
         ·cases hdst)
        obtain ⟨v,w',ρ',c',r1,r2,r3,r4,r5,r6⟩:=this
        rw [← hi1]
        simp only [mulE_eq]
        exact ⟨v,w',ρ',c',r1,r2,Env.le_trans l1 r3,r4,l3.trans r5,r6⟩
       ·split at h
        ·-- what is told cell by cell
         rename_i rs n0 F a1 M2 hdst
         simp only [Option.some.injEq,Prod.mk.injEq] at h
         obtain ⟨rfl,rfl,rfl,rfl,rfl,rfl⟩:=h
         obtain ⟨ρ1,news,l1,l2,l3,ok,hnews⟩:=srcR_sound (P:=Γ.P) hc.toConcM (ev_rel hc x) hsrc hp.tail.tail.left
         rw [← hi1] at ok hnews hdst
         have hzlen:z.cells.size = i.size:=by
          have:=(zeroL_cells ρ hzs).length
          rw [← hzc,hszl] at this
          rw [hi1];simpa using this
         have hpr:=hp.tail.tail.right
         unfold dstK at hdst
         split at hdst
         ·rename_i a0 f i0 n1 cc hs
          split at hdst
          ·split at hdst
           ·rename_i sp ls hm
            split at hdst
            ·rename_i ls' M3 hk
             replace hk:=(bif_none hk).2
             split at hdst
             ·rename_i sp1 ls1 hm1
              split at hdst
              ·rename_i cks hck
               have hbb:=(bif_none hdst).1
               replace hdst:=(bif_none hdst).2
               simp only [Bool.and_eq_true] at hbb
               simp only [Option.some.injEq,Prod.mk.injEq] at hdst;obtain ⟨rfl,rfl,rfl,rfl,rfl⟩:=hdst
               have q0:=beq_eq' hbb.1.1
               have q1:=beq_eq' hbb.1.2
               have q2:=beq_eq' hbb.2.1
               have q3:=Nat.le_of_ble_eq_true hbb.2.2
               subst q0
               obtain ⟨cs,c1,_,c3,_⟩:=l2.sat a0 _ hm
               obtain ⟨ρ2,k1,k2,k3,k4⟩:=endL_sound hk l2 c1
               obtain ⟨g1,g2⟩:=chunks_sound hck k4
               obtain ⟨cs1,e1,_,e3,_⟩:=k2.sat a0 _ hm1
               have hpos:ρ2.pos a0 = ρ1.pos a0:=(k1.dm a0 (l2.mod a0 _ hm)).2
               have hl1:cs1.length = cs.length:=by rw [e1.length,g1,q2]
               have hcs:cs1 = cs:=by
                apply List.ext_getElem?
                intro j
                by_cases hj:j < cs.length
                ·have h1:=c3 j _ (List.getElem?_eq_getElem hj)
                 have h2:=e3 j _ (List.getElem?_eq_getElem (by omega:j < cs1.length))
                 rw [hpos,h1] at h2
                 rw [List.getElem?_eq_getElem hj,List.getElem?_eq_getElem (by omega:j < cs1.length)]
                 exact h2.symm
                ·rw [List.getElem?_eq_none (by omega),List.getElem?_eq_none (by omega)]
               subst hcs
               have hnews2:=hnews.le k1
               have hrs:=((ev_rel hc s).le l1).le k1
               rw [hs] at hrs
               obtain ⟨_,hnc,y,hv,hy⟩:=hrs
               have hr:Rows ρ2 i.size n1 (rowF cks) cs1:=⟨by rw [g1,q1],fun q hq=>by
                rw [rowF_get _ (by omega)]
                exact g2 q (by omega)⟩
               have:=app_world (ty:=ty) k2 hd' ut hi hz hzlen (appRun_src ut hxt hi hz ok) hnews.one (by rw [hi2];exact hp.head) hp.tail.head (s:=a.eval s) (n:=n1) (u:=.und) (leaf:=.arr (n1 + m) i.size (appF n1 (rowF cks) G)) (a:=some a0)
                (Or.inr ⟨a0,sp1,_,0,cc,y,cs1,rfl,hv,hnc,fun hcc=>by rw [hy hcc,addr_eq],hm1,e1,by simpa using e3,by rw [q2,q1];omega,by omega,fun ρ' hle=>by
                 rw [List.drop_zero]
                 exact (hr.le hle).app (hnews2.le hle)⟩)
               obtain ⟨v,w',ρ',c',r1,r2,r3,r4,r5,r6⟩:=this
               rw [← hi1]
               simp only [mulE_eq]
               exact ⟨v,w',ρ',c',r1,r2,Env.le_trans l1 (Env.le_trans k1 r3),r4,l3.trans (k3.trans r5),r6⟩
              ·cases hdst
             ·cases hdst
            ·cases hdst
           ·cases hdst
          ·cases hdst
         ·cases hdst
        ·cases h
     ·cases h
   ·cases h
  ·cases h
 ·cases h
def appE (ty:Nat→Ty) (T:Tm) (M:Mm) (c:Go.Call):Option (List Prop × Nat × SV × Mm):=
  match c.args.toList with
  | [s,x]=>match c.argTypes.toList with
    | [t,xt]=>match (ty t).k with
      | .slice e=>match emptyA (ty e).zl with
       | some _=>none
       | none=>bif (appV.okSrc (ty xt).k && !isBad (ty e).k) && (Nat.blt 0 (ty e).size && appV.notNil (ty e).zl && Nat.beq (sizeL (ty e).zl) (ty e).size) then match srcR (ty e).size M (ev T x) with
          | some (ps,m,_,M')=>match dstR (ty e).size M' (ev T s) with
            | some _=>none
            | none=>match dstC (ty e).size M' (ev T s) with
              | some _=>some (ps,m,ev T s,M')
              | none=>none
          | none=>none
        else none
      | _=>none
    | _=>none
  | _=>none
theorem appE_sound {Γ:Ctx} {N:Nat} {ρ:Env} {T:Tm} {M:Mm} {a:Act} {w:World} (hc:Conc N ρ T M a w) {c:Go.Call} {ps:List Prop} {m:Nat} {v:SV} {M':Mm}
  (h:appE Γ.ty T M c = some (ps,m,v,M')) (hp:All ps) (h0:m = 0) (ty:TypeId) :
  ∃ x ρ',(Builtin.append_ c.argTypes ty (c.args.map a.eval)).run Γ.P w = .ok x w∧ρ.le ρ'∧ConcM ρ' M' w∧Step ρ M ρ' M' w w∧RelT ρ' v x:=by
 unfold appE at h
 split at h
 ·rename_i s x hargs
  have e1:c.args.map a.eval = #[a.eval s,a.eval x]:=by
   apply Array.ext';simp [hargs]
  split at h
  ·rename_i t xt hts
   have e2:c.argTypes = #[t,xt]:=by
    apply Array.ext';simp [hts]
   rw [e1,e2]
   split at h
   ·rename_i e hk
    have ut:=und_slice (Γ.ok (t:=t) (by rw [hk];simp)) hk
    split at h
    ·cases h
    have hb:=(bif_none h).1
    replace h:=(bif_none h).2
    simp only [Bool.and_eq_true,Bool.not_eq_true'] at hb
    have hne:(Γ.ty e).k ≠ .bad:=by intro e';rw [e'] at hb;simp [isBad] at hb
    have hxt:(∃ e',Γ.P.underlying xt = some (.slice e')) ∨ Γ.P.underlying xt = some .string:=by
     have h1:=hb.1.1
     unfold appV.okSrc at h1
     split at h1
     ·rename_i e' hk'
      exact Or.inl ⟨e',und_slice (Γ.ok (t:=xt) (by rw [hk'];simp)) hk'⟩
     ·rename_i hk'
      exact Or.inr (und_string (Γ.ok (t:=xt) (by rw [hk'];simp)) hk')
     ·cases h1
    obtain ⟨i,hi,hi1,hi2,hi3⟩:=(Γ.ok hne).info
    have hzl:(Γ.ty e).zl ≠ []:=by intro e';rw [e'] at hb;simp [appV.notNil] at hb
    obtain ⟨z,hz,hzc,hzs,_⟩:=hi3 hzl
    split at h
    ·rename_i qs m1 G M1 hsrc
     split at h
     ·cases h
     ·split at h
      ·rename_i y0 hdst
       simp only [Option.some.injEq,Prod.mk.injEq] at h
       obtain ⟨rfl,rfl,rfl,rfl⟩:=h
       subst h0
       obtain ⟨ρ1,news,l1,l2,l3,ok,hnews⟩:=srcR_sound (P:=Γ.P) hc.toConcM (ev_rel hc x) hsrc hp
       rw [← hi1] at ok hnews
       have hA:=appRun_src (ty:=ty) ut hxt hi hz ok
       have hnl:news = []:=List.eq_nil_of_length_eq_zero (by rw [hA.nl];simp)
       subst hnl
       unfold dstC at hdst
       split at hdst
       ·rename_i a0 f i0 n1 cc hs
        have hrs:=(ev_rel hc s).le l1
        have hrs2:=hrs
        rw [hs] at hrs2
        obtain ⟨_,hnc,y,hv,hy⟩:=hrs2
        refine ⟨a.eval s,ρ1,?_,l1,l2,l3,hrs⟩
        rw [hv]
        cases y with
        | none=>exact hA.none n1 cc hnc
        | some ad=>exact hA.room ad n1 cc w hnc rfl
       ·cases hdst
      ·cases h
    ·cases h
   ·cases h
  ·cases h
 ·cases h
def putF (n m:Nat) (F G:Nat→List (Nat × SV)):Nat→List (Nat × SV):=fun q=>if q < n then F q else if q < n + m then G (q - n) else F q
def dstP (es:Nat) (M:Mm) (s:SV):Option (Nat × Nat × Nat × Nat × Nat × Nat × Nat × (Nat→List (Nat × SV))):=
 match s with
 | .sl a f i n c=>match f with
  | 0=>match getM M a with
   | some (.mem true sp ls)=>match ls with
    | [(t,.arr N es' F),(0,.a8 [])]=>bif Nat.beq es es' then some (a,i,n,c,sp,t,N,F) else none
    | _=>none
   | _=>none
  | _=>none
 | _=>none
def appP (ty:Nat→Ty) (T:Tm) (M:Mm) (c:Go.Call):Option (List Prop × Nat × Nat × Nat × Ent × Mm):=
  match c.args.toList with
  | [s,x]=>match c.argTypes.toList with
    | [t,xt]=>match (ty t).k with
      | .slice e=>match emptyA (ty e).zl with
       | some _=>none
       | none=>bif (appV.okSrc (ty xt).k && !isBad (ty e).k) && (Nat.blt 0 (ty e).size && appV.notNil (ty e).zl && Nat.beq (sizeL (ty e).zl) (ty e).size) then match srcR (ty e).size M (ev T x) with
          | some (ps,m,G,M')=>match dstP (ty e).size M' (ev T s) with
            | some (a,i,n,c,sp,t0,N,F)=>some ((i = 0) :: (n + m ≤ c) :: (n + m ≤ N) :: ps,n + m,c,a,.mem true sp [(t0,.arr N (ty e).size (putF n m F G)),(0,.a8 [])],M')
            | none=>none
          | none=>none
        else none
      | _=>none
    | _=>none
  | _=>none
theorem appP_sound {Γ:Ctx} {N:Nat} {ρ:Env} {T:Tm} {M:Mm} {a:Act} {w:World} (hc:Conc N ρ T M a w) {c:Go.Call} {ps:List Prop} {n cp b:Nat} {E:Ent} {M':Mm}
  (h:appP Γ.ty T M c = some (ps,n,cp,b,E,M')) (hp:All ps) (ty:TypeId) :
  ∃ x w' ρ',(Builtin.append_ c.argTypes ty (c.args.map a.eval)).run Γ.P w = .ok x w'∧ρ.le ρ'∧ConcM ρ' ((b,E) :: M') w'∧Step ρ M ρ' ((b,E) :: M') w w'∧RelT ρ' (.sl b 0 0 n cp) x:=by
 unfold appP at h
 split at h
 ·rename_i s x hargs
  have e1:c.args.map a.eval = #[a.eval s,a.eval x]:=by
   apply Array.ext';simp [hargs]
  split at h
  ·rename_i t xt hts
   have e2:c.argTypes = #[t,xt]:=by
    apply Array.ext';simp [hts]
   rw [e1,e2]
   split at h
   ·rename_i e hk
    have ut:=und_slice (Γ.ok (t:=t) (by rw [hk];simp)) hk
    split at h
    ·cases h
    have hb:=(bif_none h).1
    replace h:=(bif_none h).2
    simp only [Bool.and_eq_true,Bool.not_eq_true'] at hb
    have hne:(Γ.ty e).k ≠ .bad:=by intro e';rw [e'] at hb;simp [isBad] at hb
    have hxt:(∃ e',Γ.P.underlying xt = some (.slice e')) ∨ Γ.P.underlying xt = some .string:=by
     have h1:=hb.1.1
     unfold appV.okSrc at h1
     split at h1
     ·rename_i e' hk'
      exact Or.inl ⟨e',und_slice (Γ.ok (t:=xt) (by rw [hk'];simp)) hk'⟩
     ·rename_i hk'
      exact Or.inr (und_string (Γ.ok (t:=xt) (by rw [hk'];simp)) hk')
     ·cases h1
    obtain ⟨i,hi,hi1,hi2,hi3⟩:=(Γ.ok hne).info
    have hzl:(Γ.ty e).zl ≠ []:=by intro e';rw [e'] at hb;simp [appV.notNil] at hb
    obtain ⟨z,hz,hzc,hzs,_⟩:=hi3 hzl
    split at h
    ·rename_i qs m1 G M1 hsrc
     split at h
     ·rename_i a0 i0 n0 c0 sp t0 N0 F hdst
      simp only [Option.some.injEq,Prod.mk.injEq] at h
      obtain ⟨rfl,rfl,rfl,rfl,rfl,rfl⟩:=h
      obtain ⟨ρ1,news,l1,l2,l3,ok,hnews⟩:=srcR_sound (P:=Γ.P) hc.toConcM (ev_rel hc x) hsrc hp.tail.tail.tail
      rw [← hi1] at ok hnews hdst
      have hA:=appRun_src (ty:=ty) ut hxt hi hz ok
      have hone:=hnews.one
      have q0:=hp.head
      have q1:=hp.tail.head
      have q2:=hp.tail.tail.head
      subst q0
      unfold dstP at hdst
      split at hdst
      ·rename_i a1 f i1 n1 cc hs
       split at hdst
       ·split at hdst
        ·rename_i sp1 ls hm
         split at hdst
         ·rename_i t1 N1 es' F1
          have he:=beq_eq' (bif_none hdst).1
          replace hdst:=(bif_none hdst).2
          simp only [Option.some.injEq,Prod.mk.injEq] at hdst;obtain ⟨rfl,rfl,rfl,rfl,rfl,rfl,rfl,rfl⟩:=hdst
          subst he
          have hrs:=(ev_rel hc s).le l1
          rw [hs] at hrs
          obtain ⟨hdom,hnc,y,hv,hy⟩:=hrs
          rw [hv]
          obtain ⟨cs,c1,c2,c3,c4⟩:=l2.sat a1 _ hm
          obtain ⟨d1,d2,rfl,g1,g2,d3,d4,rfl,g3,g4,g5⟩:=c1
          have e3:d3 = []:=List.eq_nil_of_length_eq_zero g3
          have e4:d4 = []:=g5
          subst e3;subst e4
          have hr:Rows ρ1 i.size N1 F1 d1:=g2
          have hnl:=hA.nl
          have hmul:n1 * i.size + m1 * i.size ≤ N1 * i.size:=by rw [← Nat.add_mul];exact Nat.mul_le_mul_right _ q2
          have hd1:=hr.1
          rw [← hi1]
          have hrows:Rows ρ1 i.size N1 (putF n1 m1 F1 G) (d1.take (n1 * i.size) ++ news ++ d1.drop (n1 * i.size + news.length)):=by
           refine ⟨by simp only [List.length_append,List.length_take,List.length_drop,hnl,hd1];omega,fun q hq=>?_⟩
           have hb1:(q + 1) * i.size ≤ N1 * i.size:=Nat.mul_le_mul_right _ hq
           rw [Nat.add_mul,Nat.one_mul] at hb1
           unfold putF
           by_cases h1:q < n1
           ·rw [if_pos h1]
            have hb2:(q + 1) * i.size ≤ n1 * i.size:=Nat.mul_le_mul_right _ h1
            rw [Nat.add_mul,Nat.one_mul] at hb2
            have:=hr.2 q hq
            rw [List.append_assoc,List.drop_append_of_le_length (by rw [List.length_take];omega),List.take_append_of_le_length (by rw [List.length_drop,List.length_take];omega),List.drop_take,List.take_take,Nat.min_eq_left (by omega)]
            exact this
           ·rw [if_neg h1]
            have hb2:n1 * i.size ≤ q * i.size:=Nat.mul_le_mul_right _ (by omega)
            have hlt:(d1.take (n1 * i.size)).length = n1 * i.size:=by rw [List.length_take];omega
            by_cases h2:q < n1 + m1
            ·rw [if_pos h2]
             have hb3:(q + 1) * i.size ≤ (n1 + m1) * i.size:=Nat.mul_le_mul_right _ h2
             rw [Nat.add_mul,Nat.one_mul,Nat.add_mul] at hb3
             have:=hnews.2 (q - n1) (by omega)
             rw [List.append_assoc,List.drop_append,List.drop_of_length_le (by omega),List.nil_append,hlt,show q * i.size - n1 * i.size = (q - n1) * i.size by rw [Nat.sub_mul],
              List.drop_append_of_le_length (by rw [hnl,Nat.sub_mul];omega),List.take_append_of_le_length (by rw [List.length_drop,hnl,Nat.sub_mul];omega)]
             exact this
            ·rw [if_neg h2]
             have hb3:(n1 + m1) * i.size ≤ q * i.size:=Nat.mul_le_mul_right _ (by omega)
             rw [Nat.add_mul] at hb3
             have:=hr.2 q hq
             rw [List.append_assoc,List.drop_append,List.drop_of_length_le (by omega),List.nil_append,hlt,List.drop_append,List.drop_of_length_le (by omega),List.nil_append,List.drop_drop,
              show n1 * i.size + news.length + (q * i.size - n1 * i.size - news.length) = q * i.size by omega]
             exact this
          have hcl:CellsL ρ1 [(t1,.arr N1 i.size (putF n1 m1 F1 G)),(0,.a8 [])] (d1.take (n1 * i.size) ++ news ++ d1.drop (n1 * i.size + news.length)):=
           ⟨_,[],(List.append_nil _).symm,by rw [hrows.1,← hd1];exact g1,hrows,[],[],rfl,rfl,rfl,rfl⟩
          have hsz:sizeL [(t1,SV.arr N1 i.size F1),(0,SV.a8 [])] = t1:=by simp [sizeL]
          have hst:∃ w',(Builtin.append_ #[t,xt] ty #[.slice y n1 cc,a.eval x]).run Γ.P w = .ok (.slice y (n1 + m1) cc) w'∧Wrote (ρ1.pos a1).1 ((ρ1.pos a1).2 + n1 * i.size) news w w':=by
           rcases Nat.eq_zero_or_pos cc with h0 | h0
           ·have hm0:m1 = 0:=by omega
            have hn:news = []:=List.eq_nil_of_length_eq_zero (by rw [hnl,hm0];simp)
            subst hn
            have w0:Wrote (ρ1.pos a1).1 ((ρ1.pos a1).2 + n1 * i.size) [] w w:=⟨rfl,rfl,rfl,fun _ _=>rfl,fun _ _=>rfl,fun j v h=>by simp at h,fun _ _ _=>rfl,fun _ _=>rfl⟩
            cases y with
            | none=>exact ⟨w,hA.none n1 cc q1,w0⟩
            | some ad=>exact ⟨w,hA.room ad n1 cc w q1 rfl,w0⟩
           ·have hy':=hy (by omega)
            subst hy'
            obtain ⟨w',hr',hw⟩:=run_storeCells (P:=Γ.P) (b:=(ρ1.pos a1).1) (o:=(ρ1.pos a1).2 + n1 * i.size) news 0 w hone (fun j hj=>by
             have:=c4 rfl (n1 * i.size + j) (by rw [hsz,← g1,hd1];rw [hnl] at hj;omega)
             rw [show (ρ1.pos a1).2 + n1 * i.size + (0 + j) = (ρ1.pos a1).2 + (n1 * i.size + j) by omega]
             exact this)
            rw [Nat.add_zero] at hw
            refine ⟨w',hA.room _ n1 cc w' q1 ?_,hw⟩
            have e5:ρ1.addr a1 0 0 = ⟨(ρ1.pos a1).1,(ρ1.pos a1).2 + 0,none⟩:=rfl
            have e6:(ρ1.addr a1 0 0).add (n1 * i.size) = ⟨(ρ1.pos a1).1,(ρ1.pos a1).2 + n1 * i.size,none⟩:=by rw [e5,add_lit,Nat.add_zero]
            first
             | (rw [e6];exact hr')
             | exact e6 ▸ hr'
          obtain ⟨w',hrun,hw⟩:=hst
          obtain ⟨m2,m3⟩:=l2.write (sp':=sp1) hm hw (by rw [hsz,← g1,hd1,hnl];omega) hcl (by simp [sizeL]) (fun cs' k1 k2 j v hj=>by
           obtain ⟨x1,x2,rfl,y1,y2,x3,x4,rfl,y3,y4,y5⟩:=k1
           have z3:x3 = []:=List.eq_nil_of_length_eq_zero y3
           have z4:x4 = []:=y5
           subst z3;subst z4
           simp only [List.append_nil] at k2 c3
           have hin:∀ j,¬ (n1 * i.size ≤ j∧j < n1 * i.size + news.length)→w'.cell? ⟨(ρ1.pos a1).1,(ρ1.pos a1).2 + j,none⟩ = w.cell? ⟨(ρ1.pos a1).1,(ρ1.pos a1).2 + j,none⟩:=by
            intro j hn
            refine hw.old _ _ (fun _=>?_)
            omega
           rcases Nat.lt_or_ge j (n1 * i.size) with hlt | hge
           ·rw [List.append_assoc,List.getElem?_append_left (by rw [List.length_take];omega),List.getElem?_take,if_pos hlt] at hj
            rw [hin j (by omega)];exact c3 j v hj
           ·rcases Nat.lt_or_ge j (n1 * i.size + news.length) with hlt2 | hge2
            ·rw [List.append_assoc,List.getElem?_append_right (by rw [List.length_take];omega),List.getElem?_append_left (by rw [List.length_take];omega),List.length_take,Nat.min_eq_left (by omega)] at hj
             have:=hw.new (j - n1 * i.size) v hj
             rw [show (ρ1.pos a1).2 + n1 * i.size + (j - n1 * i.size) = (ρ1.pos a1).2 + j by omega] at this
             exact this
            ·rw [List.getElem?_append_right (by simp only [List.length_append,List.length_take];omega),List.getElem?_drop] at hj
             simp only [List.length_append,List.length_take] at hj
             rw [show n1 * i.size + news.length + (j - (min (n1 * i.size) d1.length + news.length)) = j by omega] at hj
             rw [hin j (by omega)];exact c3 j v hj)
          exact ⟨_,w',ρ1,hrun,l1,m2,l3.trans m3,RelT_of_Rel ⟨hdom,q1,y,rfl,hy⟩⟩
         ·cases hdst
        ·cases hdst
       ·cases hdst
      ·cases hdst
     ·cases h
    ·cases h
   ·cases h
  ·cases h
 ·cases h
end Go.Sx
namespace Go.Sx
open Go
def isClear:Builtin→Bool
 | .clear=>true
 | _=>false
def clearE (ty:Nat→Ty) (M:Mm) (T:Tm) (c:Go.Call):Option (List Prop × Nat × Ent):=
 match c.args.toList with
 | [s]=>match c.argTypes.toList with
  | [t]=>match (ty t).k with
   | .slice e=>bif !isBad (ty e).k then match ev T s with
    | .sl a f i n _=>match f with
     | 0=>match zeroRow (ty e) n with
      | some _=>match getM M a with
       | some (.mem true sp ls)=>match ls with
        | (_,.arr N es F) :: _=>bif Nat.beq es (ty e).size then some ([i % es = 0,i / es ≤ N,i + n * es ≤ sizeL ls + sp],a,.mem true (sizeL ls + sp - i) [(i / es * es,.arr (i / es) es F)]) else none
        | _=>none
       | _=>none
      | none=>none
     | _=>none
    | _=>none
    else none
   | _=>none
  | _=>none
 | _=>none
theorem clearE_sound {Γ:Ctx} {N:Nat} {ρ:Env} {T:Tm} {M:Mm} {a:Act} {w:World} (hc:Conc N ρ T M a w) {c:Go.Call} {ps:List Prop} {b:Nat} {E:Ent} (h:clearE Γ.ty M T c = some (ps,b,E)) (hp:All ps) (T':TypeId) :
  ∃ w',(Builtin.clear_ c.argTypes T' (c.args.map a.eval)).run Γ.P w = .ok (.tuple #[]) w'∧ConcM ρ ((b,E) :: M) w'∧Step ρ M ρ ((b,E) :: M) w w':=by
 unfold clearE at h
 split at h
 ·rename_i s hargs
  have e1:c.args.map a.eval = #[a.eval s]:=by
   apply Array.ext';simp [hargs]
  split at h
  ·rename_i t hts
   have e2:c.argTypes = #[t]:=by
    apply Array.ext';simp [hts]
   rw [e1,e2]
   split at h
   ·rename_i e hk
    have ut:=und_slice (Γ.ok (t:=t) (by rw [hk];simp)) hk
    have hb:=(bif_none h).1
    replace h:=(bif_none h).2
    have hne:(Γ.ty e).k ≠ .bad:=by intro e';rw [e'] at hb;simp [isBad] at hb
    split at h
    ·rename_i a1 f i n cc hs
     split at h
     ·split at h
      ·rename_i zl hz
       split at h
       ·rename_i sp ls hm
        split at h
        ·rename_i t0 N1 es F r
         have he:=beq_eq' (bif_none h).1
         replace h:=(bif_none h).2
         simp only [Option.some.injEq,Prod.mk.injEq] at h
         obtain ⟨rfl,rfl,rfl⟩:=h
         have q0:=hp.head
         have q1:=hp.tail.head
         have q2:=hp.tail.tail.head
         obtain ⟨z,_,zrun,zsz,zpos,zcl⟩:=zeroRow_sound (w:=w) (Γ.ok hne) hz ρ
         have hone:=zcl.one
         have hlen:(madeCells z.cells (n * (Γ.ty e).size)).toList.length = n * (Γ.ty e).size:=made_length _ _
         have hrs:=ev_rel hc s
         rw [hs] at hrs
         obtain ⟨hdom,hnc,y,hv,hy⟩:=hrs
         rw [hv]
         obtain ⟨cs,c1,c2,c3,c4⟩:=hc.toConcM.sat a1 _ hm
         have c4:=c4 rfl
         obtain ⟨d1,d2,rfl,g1,g2,g3⟩:=c1
         have hr:Rows ρ N1 N1 F d1 ∨ Rows ρ es N1 F d1:=Or.inr g2
         have hr:Rows ρ es N1 F d1:=g2
         have hd1:=hr.1
         have hi:i / es * es = i:=by have:=Nat.div_add_mod i es;rw [q0,Nat.add_zero,Nat.mul_comm] at this;exact this
         have hle:i / es * es ≤ N1 * es:=Nat.mul_le_mul_right _ q1
         have hrows:Rows ρ es (i / es) F (d1.take (i / es * es)):=by
          refine ⟨by rw [List.length_take,hd1];omega,fun q hq=>?_⟩
          have hb1:(q + 1) * es ≤ i / es * es:=Nat.mul_le_mul_right _ hq
          rw [Nat.add_mul,Nat.one_mul] at hb1
          have:=hr.2 q (by omega)
          rw [List.drop_take,List.take_take,Nat.min_eq_left (by omega)]
          exact this
         have hcl:CellsL ρ [(i / es * es,.arr (i / es) es F)] (d1.take (i / es * es)):=⟨_,[],(List.append_nil _).symm,by rw [List.length_take,hd1];omega,hrows,rfl⟩
         have hst:∃ w',(Builtin.clear_ #[t] T' #[.slice y n cc]).run Γ.P w = .ok (.tuple #[]) w'∧∃ nc:List Value,Wrote (ρ.pos a1).1 ((ρ.pos a1).2 + i) nc w w'∧nc.length ≤ n * es:=by
          rcases Nat.eq_zero_or_pos n with h0 | h0
          ·subst h0
           refine ⟨w,?_,[],⟨rfl,rfl,rfl,fun _ _=>rfl,fun _ _=>rfl,fun j v h=>by simp at h,fun _ _ _=>rfl,fun _ _=>rfl⟩,Nat.zero_le _⟩
           unfold Builtin.clear_
           simp only [List.getElem?_toArray,List.getElem?_cons_zero,Sem.run_bind,run_und ut,Result.andThen_ok]
           cases y <;> rfl
          ·have hy':=hy (by omega)
           subst hy'
           obtain ⟨w',hr',hw⟩:=run_storeCells (P:=Γ.P) (b:=(ρ.pos a1).1) (o:=(ρ.pos a1).2 + i) _ 0 w hone (fun j hj=>by
            have:=c4 (i + j) (by rw [hlen,← he] at hj;omega)
            rw [show (ρ.pos a1).2 + i + (0 + j) = (ρ.pos a1).2 + (i + j) by omega]
            exact this)
           rw [Nat.add_zero] at hw
           refine ⟨w',?_,_,hw,by rw [hlen,he];exact Nat.le_refl _⟩
           obtain ⟨m,rfl⟩:∃ m,n = m + 1:=⟨n - 1,by omega⟩
           have e5:ρ.addr a1 0 i = ⟨(ρ.pos a1).1,(ρ.pos a1).2 + i,none⟩:=by rw [addr_eq,Nat.zero_add]
           have e6:Builtin.zeroCells z.cells (m + 1) = madeCells z.cells ((m + 1) * (Γ.ty e).size):=by rw [← zsz];rfl
           unfold Builtin.clear_
           simp only [List.getElem?_toArray,List.getElem?_cons_zero,Sem.run_bind,run_und ut,Result.andThen_ok,zrun,e5,e6,hr']
           rfl
         obtain ⟨w',hrun,nc,hw,hnc2⟩:=hst
         refine ⟨w',hrun,?_⟩
         have hsz:sizeL [(i / es * es,SV.arr (i / es) es F)] = i / es * es:=by simp [sizeL]
         exact hc.toConcM.write hm hw (by omega) hcl (by rw [hsz];omega) (fun cs' k1 k2 j v hj=>by
          have hj2:j < i / es * es:=by
           have:=(List.getElem?_eq_some_iff.1 hj).1
           rw [List.length_take] at this;omega
          rw [List.getElem?_take,if_pos hj2] at hj
          rw [hw.old _ _ (fun _=>by omega)]
          exact c3 j v (by rw [List.getElem?_append_left (List.getElem?_eq_some_iff.1 hj).1];exact hj))
        ·cases h
       ·cases h
      ·cases h
     ·cases h
    ·cases h
   ·cases h
  ·cases h
 ·cases h
end Go.Sx
