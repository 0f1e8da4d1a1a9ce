/- Executor, part 5. No condition. -/
import Derived.Test.YtieblfbmmbkjdaaGreatHx4
set_option linter.unusedSimpArgs false
set_option linter.unusedVariables false
set_option autoImplicit true
set_option relaxedAutoImplicit true
open Nat (add_mul mul_le_mul_right beq zero_add mul_one add_zero le_refl one_mul min_eq_left lt_or_ge sub_mul blt)
open Array (ext')
open List (append_nil append_assoc drop_zero replicate drop_take take_take drop_append nil_append)
namespace Go.Sx
open Go
def aU6 (M:Mm) (v:SV):Option (SV×Mm):=
 match v with
 | .sl a f i n _=>match zG M a with
   |some (.mem true _ ls)=>bif qY ls then(match aQP ls f (i+n)with
     |some l0=>(match ck i n l0 with
      |some v=>some (v,(a,.mem false 1 ls)::M)
      |none=>none)
     |none=>match f with
      |0=>(match ck i n ls with
       |some v=>some (v,(a,.dead)::M)
       |none=>none)
      |_=>none)
    else none
   |some (.mem false (_+1) ls)=>(match aQP ls f (i+n)with
    |some l0=>(match ck i n l0 with
     |some v=>some (v,M)
     |none=>none)
    |none=>match f with
     |0=>(match ck i n ls with
      |some v=>some (v,M)
      |none=>none)
     |_=>none)
   |_=>none
 | .slx a f i n=>match zG M a with
   |some (.mem false (_+1) _)=>p8 M a f i n
   |_=>none
 |v=>bif yQ v then some (v,M)else none
def aH1 (M:Mm) (ls:List (Nat×SV)):Option (List (Nat×SV)×Mm):=
 match ls with
 |[]=>some ([],M)
 |(s,v)::r=>bif cw v then(match aH1 M r with
   |some (r',M2)=>some ((s,v)::r',M2)
   |none=>none)else match aU6 M v with
  |some (v',M1)=>match aH1 M1 r with
   |some (r',M2)=>some ((s,v')::r',M2)
   |none=>none
  |none=>none
def aPW (M:Mm) (a:Nat):Bool:=
 match zG M a with
 |some (.mem true _ _)=>true
 |_=>false
theorem zF.endAs (h:zF ρ M w) (ha:zG M a=some (.mem true sp ls)) (hb:qY ls'=true) (hcs:zC ρ ls' cs)
  (hcell:∀j v,cs[j]? =some v->w.cell? ⟨(ρ.pos a).1,(ρ.pos a).2+j,none⟩=some v) (hs:zL ls'=zL ls):
  aV ρ M (ρ.addI (ρ.pos a).1 (ρ.pos a).2 ls') ((a,.dead)::M) w w/\zF (ρ.addI (ρ.pos a).1 (ρ.pos a).2 ls') ((a,.dead)::M) w/\((ρ.addI (ρ.pos a).1 (ρ.pos a).2 ls').imm (ρ.pos a).1 (ρ.pos a).2 ls'/\True):=by
 obtain⟨k1,k2⟩:=h.tell ha hs (ls':=ls') hcs hcell
 obtain⟨m1,m2⟩:=k1.keep (zh _ _ _) hb
 obtain⟨d1,d2⟩:=m1.drop (zh _ _ _)
 have he:∀b,zG ((a,Ent.dead)::(a,Ent.mem false 1 ls')::(a,Ent.mem true sp ls')::M) b=zG ((a,Ent.dead)::M) b:=by
  intro b
  by_cases hab:b=a
  ·subst hab;rw[zh,zh]
  rw[zg hab,zg hab,zg hab,zg hab]
 exact⟨(k2.trans (m2.trans d2)).congr he,d1.congr he,Or.inr ⟨rfl,rfl,rfl⟩,trivial⟩
theorem aCA (hk:ck i n ls=some u):∃q s l2,u= .isl q n s l2:=by
 unfold ck at hk
 split at hk
 ·simp only[zoI]at hk;subst hk;exact⟨_,_,_,rfl⟩
 split at hk
 ·simp only[zoI]at hk;subst hk;exact⟨_,_,_,rfl⟩
 cases hk
theorem aCL (hM:zF ρ M w) (h:aU6 M v=some (v',M')) (hc:zD ρ v cs):
  ∃ρ',ρ.le ρ'/\zF ρ' M' w/\aV ρ M ρ' M' w w/\zD ρ' v' cs:=by
 unfold aU6 at h
 split at h
 ·rename_i a f i n c
  obtain⟨x,⟨hd,hnc,y,rfl,hy⟩,rfl⟩:=hc
  have up:∀{ρ':Env} {u:SV} {l0:List (Nat×SV)},cg ρ' u (.slice y n c)->ck i n l0=some u->zD ρ' u [.slice y n c]:=by
   intro ρ' u l0 hr hk
   obtain⟨q,s,ls,rfl⟩:=aCA hk
   exact⟨_,hr,rfl⟩
  have hxf:c≠0->y=some ⟨(ρ.pos a).1,(ρ.pos a).2+f+i,none⟩:=λhc=>by rw[hy hc,aN,Nat.add_assoc]
  split at h
  ·rename_i sp ls ha
   have hb:=(zn h).1
   replace h:=(zn h).2
   split at h
   ·rename_i l0 hm
    split at h
    ·rename_i u hu
     obtain⟨rfl,rfl⟩:=sB h
     obtain⟨k1,k2⟩:=hM.keep ha hb
     obtain⟨r,m1,m2⟩:=iw hm
     obtain⟨ρ2,p1,p2,p3,p4,p5⟩:=k1.part (Env.immO.of (Or.inr ⟨rfl,rfl,rfl⟩)) m1 m2
     exact⟨ρ2,Env.le_trans (Env.le_addI _ _ _ _) p1,p2,k2.trans p3,up (bU hu p4 hnc hxf) hu⟩
    cases h
   split at h
   ·have hx':c≠0->y=some ⟨(ρ.pos a).1,(ρ.pos a).2+i,none⟩:=λhc=>by rw[hy hc,aN,zero_add]
    split at h
    ·rename_i u hu
     obtain⟨rfl,rfl⟩:=sB h
     obtain⟨cs0,c1,c2,c3,_⟩:=hM.sat a _ ha
     obtain⟨k1,k2,k3,_⟩:=hM.endAs ha hb c1 c3 rfl
     exact⟨_,Env.le_addI _ _ _ _,k2,k1,up (bU hu (Env.immO.of k3) hnc hx') hu⟩
    cases h
   cases h
  ·rename_i sp ls ha
   obtain⟨cs0,c1,c2,c3,_⟩:=hM.sat a _ ha
   have hi:=c2.2 rfl (Nat.succ_ne_zero _)
   split at h
   ·rename_i l0 hm
    split at h
    ·rename_i u hu
     obtain⟨rfl,rfl⟩:=sB h
     obtain⟨r,m1,m2⟩:=iw hm
     obtain⟨ρ2,p1,p2,p3,p4,p5⟩:=hM.part hi m1 m2
     exact⟨ρ2,p1,p2,p3,up (bU hu p4 hnc hxf) hu⟩
    cases h
   split at h
   ·have hx':c≠0->y=some ⟨(ρ.pos a).1,(ρ.pos a).2+i,none⟩:=λhc=>by rw[hy hc,aN,zero_add]
    split at h
    ·rename_i u hu
     obtain⟨rfl,rfl⟩:=sB h
     exact⟨ρ,Env.le_refl _,hM,aV.refl _ _ _,up (bU hu hi hnc hx') hu⟩
    cases h
   cases h
  cases h
 ·rename_i a f i n
  split at h
  ·exact p6 (v:=.slx a f i n) hM h hc
  cases h
 have hb:=(zn h).1
 replace h:=(zn h).2
 obtain⟨rfl,rfl⟩:=sB h
 exact⟨ρ,Env.le_refl _,hM,aV.refl _ _ _,hc⟩
theorem jY:∀{ls ls':List (Nat×SV)} {M M':Mm},aH1 M ls=some (ls',M')->∀{ρ:Env},zF ρ M w->∀{cs:List Value},zC ρ ls cs->
  ∃ρ',ρ.le ρ'/\zF ρ' M' w/\aV ρ M ρ' M' w w/\zC ρ' ls' cs
 |[],ls',M,M',h,ρ,hM,cs,hc=>by
  simp only[aH1,zoI,zpI]at h;obtain⟨rfl,rfl⟩:=h
  exact⟨ρ,Env.le_refl _,hM,aV.refl _ _ _,hc⟩
 | (s,v)::r,ls',M,M',h,ρ,hM,cs,⟨c1,c2,e,h1,h2,h3⟩=>by
  simp only[aH1]at h
  rcases zs h with⟨_,h⟩|⟨_,h⟩
  ·split at h
   ·rename_i r' M2 hr
    obtain⟨rfl,rfl⟩:=sB h
    obtain⟨ρ2,l1,l2,l3,l4⟩:=jY hr hM h3
    exact⟨ρ2,l1,l2,l3,c1,c2,e,h1,h2.le l1,l4⟩
   cases h
  split at h
  ·rename_i v' M1 hv
   split at h
   ·rename_i r' M2 hr
    obtain⟨rfl,rfl⟩:=sB h
    obtain⟨ρ1,k1,k2,k3,k4⟩:=aCL hM hv h2
    obtain⟨ρ2,l1,l2,l3,l4⟩:=jY hr k2 (h3.le k1)
    exact⟨ρ2,Env.le_trans k1 l1,l2,k3.trans l3,c1,c2,e,h1,k4.le l1,l4⟩
   cases h
  cases h
theorem aL8 (h:aU6 M v=some (v',M')) (he:zG M' a=some e) (hne:e.zW=true):zG M a=some e:=by
 unfold aU6 at h
 split at h
 ·rename_i b f i n c
  have own:∀{e0:Ent},e0.zW=false->zG ((b,e0)::M) a=some e->zG M a=some e:=by
   intro e0 h0 he
   by_cases hab:a=b
   ·subst hab
    rw[zh]at he
    simp only[zoI]at he
    rw[he]at h0;rw[h0]at hne;cases hne
   rwa [zg hab]at he
  split at h
  ·replace h:=(zn h).2
   split at h
   ·split at h
    ·obtain⟨rfl,rfl⟩:=sB h
     exact own rfl he
    cases h
   split at h
   ·split at h
    ·obtain⟨rfl,rfl⟩:=sB h
     exact own rfl he
    cases h
   cases h
  ·split at h
   ·split at h
    ·obtain⟨rfl,rfl⟩:=sB h;exact he
    cases h
   split at h
   ·split at h
    ·obtain⟨rfl,rfl⟩:=sB h;exact he
    cases h
   cases h
  cases h
 ·split at h
  ·rename_i sp ls hb
   unfold p8 at h
   rw[hb]at h
   simp only at h
   split at h
   ·split at h
    ·obtain⟨rfl,rfl⟩:=sB h;exact he
    cases h
   split at h
   ·split at h
    ·obtain⟨rfl,rfl⟩:=sB h;exact he
    cases h
   cases h
  cases h
 replace h:=(zn h).2
 obtain⟨rfl,rfl⟩:=sB h;exact he
theorem tS:∀{ls ls':List (Nat×SV)} {M M':Mm},aH1 M ls=some (ls',M')->∀{a:Nat} {e:Ent},zG M' a=some e->e.zW=true->zG M a=some e
 |[],ls',M,M',h,a,e,he,_=>by
  simp only[aH1,zoI,zpI]at h;obtain⟨rfl,rfl⟩:=h;exact he
 | (s,v)::r,ls',M,M',h,a,e,he,hne=>by
  simp only[aH1]at h
  rcases zs h with⟨_,h⟩|⟨_,h⟩
  ·split at h
   ·rename_i r' M2 hr
    obtain⟨rfl,rfl⟩:=sB h
    exact tS hr he hne
   cases h
  split at h
  ·rename_i v' M1 hv
   split at h
   ·rename_i r' M2 hr
    obtain⟨rfl,rfl⟩:=sB h
    exact aL8 hv (tS hr he hne) hne
   cases h
  cases h
theorem aL9 (h:aH1 M ls=some (ls',M')) (ho:aPW M' a=true) (hm:zG M a=some (.mem true sp l0)):zG M' a=some (.mem true sp l0):=by
 unfold aPW at ho
 split at ho
 ·rename_i sp' l' he
  have:=tS h he rfl
  rw[hm]at this
  rw[he,this]
 cases ho
def qz (nms:List (Nat×List (Nat×SV))) (as:List SV) (M:Mm):Option (List Prop×List SV×Mm):=
 match nms with
 |[]=>some ([],as,M)
 | (nm,l0)::r=>match as with
  |[]=>none
  |a::as=>match nm with
   |0=>match qz r as M with
    |some (ps,q,M')=>some (ps,a::q,M')
    |none=>none
   |1=>match aB9 M a with
    |some (v',M1)=>match qz r as M1 with
     |some (ps,q,M')=>some (ps,v'::q,M')
     |none=>none
    |none=>none
   | nm=>match zG M nm with
    |some _=>none
    |none=>match a with
     | .isl q n s ls=>match qz r as ((nm,.mem false 1 ls)::M)with
      |some (ps,q',M')=>some (ps,.slx nm 0 (aXM q s) n::q',M')
      |none=>none
     | .nsl=>match qz r as ((nm,.mem false 1 l0)::M)with
      |some (ps,q',M')=>some (aJH l0::ps,.slx nm 0 0 0::q',M')
      |none=>none
     | .sl a f i n _=>match f with
      |0=>match zG M a with
       |some (.mem true sp ls)=>match aH1 M ls with
        |some (ls',M1)=>bif aPW M1 a&&qY ls' then match zG M1 nm with
         |some _=>none
         |none=>match qz r as ((nm,.mem false 1 ls')::(a,.dead)::M1)with
          |some (ps,q',M')=>some (ps,.slx nm 0 i n::q',M')
          |none=>none
         else none
        |none=>none
       |_=>none
      |_=>none
     |_=>none
theorem iR.le (h:ρ.le ρ'):∀{vs:List SV} {xs:List Value},iR ρ vs xs->iR ρ' vs xs
 |[],_,hr=>hr
 |_::_,_,⟨x,ys,e,h1,h2⟩=>⟨x,ys,e,h1.le h,iR.le h h2⟩
theorem qf (h:cg ρ v x):Rel ρ v x:=by
 cases v<;>first|exact h|exact h.elim
theorem u4 (hM:zF ρ M w) (h:aB9 M v=some (v',M')) (hx:zRT ρ v x):
  ∃ρ',ρ.le ρ'/\zF ρ' M' w/\aV ρ M ρ' M' w w/\zRT ρ' v' x:=by
 unfold aB9 at h
 split at h
 ·obtain⟨_,hnc,y,rfl,hy⟩:=hx
  obtain⟨ρ',k1,k2,k3,k4⟩:=iz hM h hnc hy
  exact⟨ρ',k1,k2,k3,zR (qf k4)⟩
 ·obtain⟨_,c,y,hnc,rfl,hy⟩:=hx
  obtain⟨ρ',k1,k2,k3,k4⟩:=iz hM h hnc hy
  exact⟨ρ',k1,k2,k3,zR (qf k4)⟩
 obtain⟨_,h⟩:=zn h
 obtain⟨rfl,rfl⟩:=sB h
 exact⟨ρ,Env.le_refl _,hM,aV.refl _ _ _,hx⟩
theorem dP:∀{nms:List (Nat×List (Nat×SV))} {as:List SV} {M:Mm} {ps:List Prop} {as':List SV} {M':Mm},qz nms as M=some (ps,as',M')->All ps->
  ∀{ρ:Env} {w:World} {xs:List Value},zF ρ M w->iR ρ as xs->∃ρ',ρ.le ρ'/\zF ρ' M' w/\iR ρ' as' xs/\aV ρ M ρ' M' w w
 |[],as,M,ps,as',M',h,_,ρ,w,xs,hM,hr=>by
  simp only[qz,zoI,zpI]at h
  obtain⟨_,rfl,rfl⟩:=h
  exact⟨ρ,Env.le_refl _,hM,hr,aV.refl _ _ _⟩
 | (nm,l0)::r,as,M,ps,as',M',h,hp,ρ,w,xs,hM,hr=>by
  unfold qz at h
  split at h
  ·cases h
  rename_i a as
  obtain⟨x,ys,rfl,h1,h2⟩:=hr
  split at h
  ·split at h
   ·rename_i qs q M'' hq
    obtain⟨rfl,rfl,rfl⟩:=sC h
    obtain⟨ρ',k1,k2,k3,k4⟩:=dP hq hp hM h2
    exact⟨ρ',k1,k2,⟨x,ys,rfl,h1.le k1,k3⟩,k4⟩
   cases h
  ·split at h
   ·rename_i v' M1 hv
    split at h
    ·rename_i qs q' M'' hq
     obtain⟨rfl,rfl,rfl⟩:=sC h
     obtain⟨ρ1,e1,e2,e3,e4⟩:=u4 hM hv h1
     obtain⟨ρ',m1,m2,m3,m4⟩:=dP hq hp e2 (h2.le e1)
     exact⟨ρ',Env.le_trans e1 m1,m2,⟨_,ys,rfl,e4.le m1,m3⟩,e3.trans m4⟩
    cases h
   cases h
  split at h
  ·cases h
  rename_i hnm
  split at h
  ·rename_i q n s ls
   split at h
   ·rename_i qs q' M'' hq
    obtain⟨rfl,rfl,rfl⟩:=sC h
    obtain⟨b,o,c,y,hi,hnc,rfl,hy⟩:=h1
    obtain⟨n1,n2,n3⟩:=hM.name hnm hi
    obtain⟨ρ',k1,k2,k3,k4⟩:=dP hq hp n2 (h2.le n1)
    refine⟨ρ',Env.le_trans n1 k1,k2,⟨_,ys,rfl,zRT.le k1 (zR (?_:Rel _ _ _)),k3⟩,n3.trans k4⟩
    refine⟨Or.inl rfl,c,y,hnc,rfl,λhc=>?_⟩
    rw[hy hc,aN,aQC]
    simp[Env.add]
   cases h
  ·split at h
   ·rename_i qs q' M'' hq
    obtain⟨rfl,rfl,rfl⟩:=sC h
    obtain⟨n1,n2,n3⟩:=hM.name (b:=0) (o:=0) hnm (Or.inr hp.head)
    obtain⟨ρ',k1,k2,k3,k4⟩:=dP hq hp.tail n2 (h2.le n1)
    refine⟨ρ',Env.le_trans n1 k1,k2,⟨_,ys,rfl,zRT.le k1 (zR (?_:Rel _ _ _)),k3⟩,n3.trans k4⟩
    exact⟨Or.inl rfl,0,none,le_refl _,h1,λhc=>absurd rfl hc⟩
   cases h
  ·rename_i b f i n c
   split at h
   ·split at h
    ·rename_i sp ls hb
     split at h
     ·rename_i ls' M1 he
      have hcond:=(zn h).1
      replace h:=(zn h).2
      simp only[zbA]at hcond
      split at h
      ·cases h
      rename_i hnm1
      split at h
      ·rename_i qs q' M'' hq
       obtain⟨rfl,rfl,rfl⟩:=sC h
       obtain⟨cs,c1,c2,c3,c4⟩:=hM.sat b _ hb
       obtain⟨ρ1,e1,e2,e3,e4⟩:=jY he hM c1
       have hb1:=aL9 he hcond.1 hb
       have hpos:=(e1 b (hM.mod b _ hb)).2
       obtain⟨k1,k2,k3⟩:=e2.endAs hb1 hcond.2 e4 (λj v hj=>by rw[hpos];exact c3 j v hj) (by rw[<-e4.length,c1.length])
       have hnm2:zG ((b,Ent.dead)::M1) nm=none:=by
        rw[zg (by rintro rfl;rw[hb1]at hnm1;cases hnm1)];exact hnm1
       obtain⟨n1,n2,n3⟩:=k2.name hnm2 (Env.immO.of k3.1)
       obtain⟨ρ',m1,m2,m3,m4⟩:=dP hq hp n2 (h2.le (Env.le_trans e1 (Env.le_trans (Env.le_addI _ _ _ _) n1)))
       refine⟨ρ',Env.le_trans e1 (Env.le_trans (Env.le_addI _ _ _ _) (Env.le_trans n1 m1)),m2,⟨_,ys,rfl,zRT.le m1 (zR (?_:Rel _ _ _)),m3⟩,e3.trans (k1.trans (n3.trans m4))⟩
       obtain⟨hd,hnc,y,rfl,hy⟩:=h1
       refine⟨Or.inl rfl,c,y,hnc,rfl,λhc=>?_⟩
       rw[hy hc,aN,aN]
       simp only[Env.add,if_true,hpos]
      cases h
     cases h
    cases h
   cases h
  cases h
def aR6 (P:Program) (f:FuncId) (args:List SV) (M:Mm) (K:SV->Mm->Prop):Prop:=
 ∃(nms:List (Nat×List (Nat×SV))) (ps:List Prop) (args':List SV) (M':Mm),qz nms args M=some (ps,args',M')/\zA ps/\kW P f args' M' K
theorem yG (hM:zF ρ M w) (hargs:iR ρ args xs) (h:aR6 P f args M K):
  Calls P f xs.toArray w λe w'=>∃v x ρ' M',e= .returned x/\zRT ρ' v x/\K v M'/\ρ.le ρ'/\zF ρ' M' w'/\aV ρ M ρ' M' w w':=by
 obtain⟨nms,ps,args',M',h1,h2,h3⟩:=h
 obtain⟨ρ1,k1,k2,k3,k4⟩:=dP h1 (zAi h2) hM hargs
 refine(aCP k2 k3 h3).mono ?_
 rintro e w' ⟨v,x,ρ',M'',r1,r2,r3,r4,r5,r6⟩
 exact⟨v,x,ρ',M'',r1,r2,r3,Env.le_trans k1 r4,r5,k4.trans r6⟩
structure aC7 (P:Program) (w:World) (es m:Nat) (x:Value) (news:List Value):Prop where
 length:news.length=m*es
 len:(Builtin.lenOf x).run P w= .ok m w
 first:∀w2:World,w2.heap=w.heap->(Builtin.firstCells es m x).run P w2= .ok news.toArray w2
theorem dl {P:Program} {w:World} {es n c:Nat} {y:Option Addr} {b o off:Nat} {cs:List Value} (hnc:n<=c) (hy:c≠0->y=some ⟨b,o+off,none⟩) (hcs:∀j v,cs[j]? =some v->w.cell? ⟨b,o+j,none⟩=some v)
  (hl:off+n*es<=cs.length):aC7 P w es n (.slice y n c) ((cs.drop off).take (n*es)) where
 length:=by rw[zlT,zlD];omega
 len:=rfl
 first w2 h2:=tQ hnc hy (λj v hj=>by
  have:=hcs j v hj
  unfold World.cell? at this⊢
  rw[h2];exact this) hl
theorem aBE {P:Program} {ρ:Env} {M:Mm} {w:World} (hM:zF ρ M w) {e0:SV} (he0:zD ρ e0 []) {sv:SV} {x:Value} (hx:zRT ρ sv x) {ps:List Prop} {m:Nat} {v:SV} (h:aWV M e0 sv=some (ps,m,v)) (hp:All ps):
  ∃news,aC7 P w 1 m x news/\zD ρ v news:=by
 unfold aWV at h
 split at h
 ·obtain⟨rfl,rfl,rfl⟩:=sC h
  rw[show x= .slice none 0 0 from hx]
  exact⟨[],⟨rfl,rfl,λ_ _=>rfl⟩,he0⟩
 ·rename_i l
  split at h
  ·obtain⟨rfl,rfl,rfl⟩:=sC h
   rw[show x= .string ⟨l.toArray⟩from hx]
   refine⟨l.map w8,⟨by simp,rfl,λw2 _=>?_⟩,rfl⟩
   show Result.ok _ w2=_
   congr 1
   apply ext'
   simp[ByteArray.extract,ByteArray.copySlice]
   first
    |rfl
    |(intro a _;rfl)
  cases h
 ·rename_i a f i n c
  obtain⟨_,hnc,y,rfl,hy⟩:=hx
  split at h
  ·rename_i own sp ls he
   split at h
   ·rename_i qs v' hs
    obtain⟨rfl,rfl,rfl⟩:=sC h
    obtain⟨cs,h1,_,h3,_⟩:=hM.sat a _ he
    obtain⟨q1,q2⟩:=gY h1 hs hp
    refine⟨_,dl (off:=f+i) hnc (λhc=>by rw[hy hc,aN]) h3 (by rw[mul_one];exact q1),?_⟩
    rw[mul_one];exact q2
   cases h
  cases h
 ·rename_i a f i n
  obtain⟨_,c,y,hnc,rfl,hy⟩:=hx
  split at h
  ·rename_i own sp ls he
   split at h
   ·rename_i qs v' hs
    obtain⟨rfl,rfl,rfl⟩:=sC h
    obtain⟨cs,h1,_,h3,_⟩:=hM.sat a _ he
    obtain⟨q1,q2⟩:=gY h1 hs hp
    refine⟨_,dl (off:=f+i) hnc (λhc=>by rw[hy hc,aN]) h3 (by rw[mul_one];exact q1),?_⟩
    rw[mul_one];exact q2
   cases h
  cases h
 ·rename_i q n s ls
  obtain⟨b,o,c,y,hi,hnc,rfl,hy⟩:=hx
  split at h
  ·split at h
   ·rename_i qs v' hs
    obtain⟨rfl,rfl,rfl⟩:=sC h
    obtain⟨_,cs,h1,h3⟩:=hM.immO hi
    obtain⟨q1,q2⟩:=gY h1 hs hp
    refine⟨_,dl (off:=0+q) hnc (λhc=>by rw[hy hc,mul_one,zero_add]) h3 (by rw[mul_one];exact q1),?_⟩
    rw[mul_one];exact q2.le (Env.bare_le ρ)
   cases h
  cases h
 cases h
def Rows (ρ:Env) (es m:Nat) (F:Nat->List (Nat×SV)) (news:List Value):Prop:=news.length=m*es/\∀q,q<m->bH ρ.bare (F q) ((news.drop (q*es)).take es)
theorem Rows.le (h:ρ.le ρ') (r:Rows ρ es m F news):Rows ρ' es m F news:=
 ⟨r.1,λq hq=>(r.2 q hq).le (Env.bare_mono h.im)⟩
theorem Rows.seg (r:Rows ρ es m F c) (h:q+n<=m):Rows ρ es n (om q F) ((c.drop (q*es)).take (n*es)):=by
 have hb:(q+n)*es<=m*es:=mul_le_mul_right _ h
 rw[add_mul]at hb
 refine⟨by rw[zlT,zlD,r.1];omega,λj hj=>?_⟩
 have hb2:(j+1)*es<=n*es:=mul_le_mul_right _ hj
 rw[add_mul,one_mul]at hb2
 have:=r.2 (q+j) (by omega)
 rw[lq,drop_take,take_take,min_eq_left (by omega),List.drop_drop]
 rw[add_mul]at this
 exact this
theorem uR {P:Program} {ρ:Env} {M:Mm} {w:World} (hM:zF ρ M w) {es i n c:Nat} {ls:List (Nat×SV)} {y:Option Addr} {b o:Nat} {cs:List Value} (hcs:zC ρ ls cs) (hcell:∀j v,cs[j]? =some v->w.cell? ⟨b,o+j,none⟩=some v)
  (hnc:n<=c) (hy:c≠0->y=some ⟨b,o+i,none⟩) {ps:List Prop} {m:Nat} {F:Nat->List (Nat×SV)} {M':Mm} (h:aE3 es M i n ls=some (ps,m,F,M')) (hp:All ps):
  ∃ρ' news,ρ.le ρ'/\zF ρ' M' w/\aV ρ M ρ' M' w w/\aC7 P w es m (.slice y n c) news/\Rows ρ' es m F news:=by
 unfold aE3 at h
 split at h
 ·rename_i t m0 es' F0
  have hes:=zq (zn h).1
  replace h:=(zn h).2
  subst hes
  obtain⟨c1,c2,rfl,h1,h2,h3⟩:=hcs
  have e2:c2=[]:=h3
  subst e2
  rw[append_nil]at hcell
  have hr:Rows ρ es m0 F0 c1:=h2
  split at h
  ·obtain⟨rfl,rfl,rfl,rfl⟩:=sD h
   have hle:=hp.head
   have hs:=hr.seg (q:=i) (n:=n) hle
   rw[show i*1=i by omega]at hs
   refine⟨ρ,_,Env.le_refl _,hM,aV.refl _ _ _,dl (off:=i) hnc hy hcell (by rw[hr.1];omega),hs⟩
  obtain⟨rfl,rfl,rfl,rfl⟩:=sD h
  have hi0:=hp.head
  have hle:=hp.tail.head
  have hs:=hr.seg (q:=i/es) (n:=n) hle
  have hi:i/es*es=i:=by
   have:=Nat.div_add_mod i es
   rw[hi0,add_zero,Nat.mul_comm]at this
   exact this
  have hb:(i/es+n)*es<=m0*es:=mul_le_mul_right _ hle
  rw[add_mul,hi]at hb
  rw[hi]at hs
  exact⟨ρ,_,Env.le_refl _,hM,aV.refl _ _ _,dl (off:=i) hnc hy hcell (by rw[hr.1];omega),hs⟩
 split at h
 ·rename_i ls' M1 hk
  split at h
  ·rename_i cks hck
   obtain⟨rfl,rfl,rfl,rfl⟩:=sD h
   have hi0:=hp.head
   subst hi0
   have hn:=hp.tail.head
   obtain⟨ρ',k1,k2,k3,k4⟩:=p7 hk hM hcs
   obtain⟨l1,l2⟩:=fw hck k4
   have hs:=dl (P:=P) (es:=es) (off:=0) hnc hy hcell (by rw[l1,hn];omega)
   rw[drop_zero,hn,<-l1,List.take_length]at hs
   refine⟨ρ',cs,k1,k2,k3,by rw[hn];exact hs,by rw[hn];exact l1,λq hq=>?_⟩
   rw[sY _ (by omega)]
   exact l2 q (by omega)
  cases h
 cases h
theorem nX (hM:zF ρ M w) (hcs:zC ρ ls cs) (hcell:∀j v,cs[j]? =some v->w.cell? ⟨b,o+j,none⟩=some v)
  (hnc:n<=c) (hy:c≠0->y=some ⟨b,o+i,none⟩) (h:aE2 es M i n ls=some (ps,m,F,M')) (hp:All ps):
  ∃ρ' news,ρ.le ρ'/\zF ρ' M' w/\aV ρ M ρ' M' w w/\aC7 P w es m (.slice y n c) news/\Rows ρ' es m F news:=
 uR hM (uC hcs) hcell hnc hy h hp
theorem cn {P:Program} {ρ:Env} {M:Mm} {w:World} (hM:zF ρ M w) {es:Nat} {sv:SV} {x:Value} (hx:zRT ρ sv x) {ps:List Prop} {m:Nat} {F:Nat->List (Nat×SV)} {M':Mm} (h:aSV es M sv=some (ps,m,F,M')) (hp:All ps):
  ∃ρ' news,ρ.le ρ'/\zF ρ' M' w/\aV ρ M ρ' M' w w/\aC7 P w es m x news/\Rows ρ' es m F news:=by
 unfold aSV at h
 split at h
 ·obtain⟨rfl,rfl,rfl,rfl⟩:=sD h
  rw[show x= .slice none 0 0 from hx]
  exact⟨ρ,[],Env.le_refl _,hM,aV.refl _ _ _,⟨by simp,rfl,λ_ _=>rfl⟩,by simp,λq hq=>absurd hq (Nat.not_lt_zero _)⟩
 ·rename_i a f i n c
  obtain⟨_,hnc,y,rfl,hy⟩:=hx
  split at h
  ·split at h
   ·rename_i own sp ls he
    obtain⟨cs,h1,_,h3,_⟩:=hM.sat a _ he
    exact nX hM h1 h3 hnc (λhc=>by rw[hy hc,aN,zero_add]) h hp
   cases h
  cases h
 ·rename_i a f i n
  obtain⟨_,c,y,hnc,rfl,hy⟩:=hx
  split at h
  ·split at h
   ·rename_i own sp ls he
    obtain⟨cs,h1,_,h3,_⟩:=hM.sat a _ he
    exact nX hM h1 h3 hnc (λhc=>by rw[hy hc,aN,zero_add]) h hp
   cases h
  cases h
 ·rename_i q n s ls
  obtain⟨b,o,c,y,hi,hnc,rfl,hy⟩:=hx
  obtain⟨hlt0,cs,h1,h3⟩:=hM.immO hi
  split at h
  ·rename_i t m0 es' F0
   have hb:=(zn h).1
   replace h:=(zn h).2
   simp only[zbA]at hb
   have e1:=zq hb.1
   have e2:=zq hb.2
   subst e1;subst e2
   obtain⟨rfl,rfl,rfl,rfl⟩:=sD h
   obtain⟨c1,c2,rfl,g1,g2,g3⟩:=h1
   have e2:c2=[]:=g3
   subst e2
   rw[append_nil]at h3
   have hr:Rows ρ s m0 F0 c1:=g2
   have hs:=hr.seg (q:=q) (n:=n) hp.head
   have hb:(q+n)*s<=m0*s:=mul_le_mul_right _ hp.head
   rw[add_mul]at hb
   exact⟨ρ,_,Env.le_refl _,hM,aV.refl _ _ _,dl (off:=q*s) hnc hy h3 (by rw[hr.1];omega),hs⟩
  split at h
  ·rename_i cks hck
   obtain⟨rfl,rfl,rfl,rfl⟩:=sD h
   have hi0:=hp.head
   subst hi0
   have hn:=hp.tail.head
   obtain⟨l1,l2⟩:=fw hck (h1.le (Env.bare_le ρ))
   have hs:=dl (P:=P) (es:=es) (off:=0) (y:=y) hnc (λhc=>by rw[hy hc,Nat.zero_mul]) h3 (by rw[l1,hn];omega)
   rw[drop_zero,hn,<-l1,List.take_length]at hs
   refine⟨ρ,cs,Env.le_refl _,hM,aV.refl _ _ _,by rw[hn];exact hs,by rw[hn];exact l1,λq hq=>?_⟩
   rw[sY _ (by omega)]
   exact l2 q (by omega)
  cases h
 cases h
def aVC (M:Mm) (e0:SV) (s:SV):Option (List Prop×Nat×SV×Option Nat):=
 match s with
 | .nsl=>some ([],0,e0,none)
 | .sl a f i n c=>match f with
  |0=>match zG M a with
   |some (.mem true sp ls)=>match ls with
    |[(t,u)]=>bif aq u then some ([i+n=t,i+c<=t+sp],n,aO6 u i,some a)else none
    |_=>none
   |_=>none
  |_=>none
 |_=>none
def aY8 (es:Nat) (M:Mm) (s:SV):Option (List Prop×Nat×(Nat->List (Nat×SV))×Option Nat):=
 match s with
 | .nsl=>some ([],0,λ_=>[],none)
 | .sl a f i n c=>match f with
  |0=>match zG M a with
   |some (.mem true sp ls)=>match ls with
    |[(t,.arr m es' F)]=>bif beq es es' then match es with
      |1=>some ([i+n=m,i+c<=t+sp],n,om i F,some a)
      |_=>some ([i=0,n=m,zmE c es<=t+sp],n,F,some a)
     else none
    |_=>none
   |_=>none
  |_=>none
 |_=>none
def aWH (es:Nat) (M:Mm) (s:SV):Option (List Prop×Nat×(Nat->List (Nat×SV))):=
 match s with
 | .sl a f i n c=>match f with
  |0=>match zG M a with
   |some (.mem false _ ls)=>match ls with
    |[(_,.arr m es' F)]=>bif beq es es' then some ([i=0,n<=m,n=c],n,F)else none
    |_=>none
   |_=>none
  |_=>none
 |_=>none
def aaQ (es:Nat) (M:Mm) (s:SV):Option (List Prop×Nat×(Nat->List (Nat×SV))×Nat×Mm):=
 match s with
 | .sl a f i n c=>match f with
  |0=>match zG M a with
   |some (.mem true _ ls)=>match bif nh ls then aH1 M ls else none with
    |some (ls',M1)=>match zG M1 a with
     |some (.mem true sp1 ls1)=>match nk es ls'.length ls' with
      |some cks=>bif (beq i 0&&beq n cks.length)&&(beq (zL ls1) (cks.length*es)&&Nat.ble (c*es) (zL ls1+sp1))then some ([],n,aM9 cks,a,M1)else none
      |none=>none
     |_=>none
    |none=>none
   |_=>none
  |_=>none
 |_=>none
def aDH (n:Nat) (F G:Nat->List (Nat×SV)):Nat->List (Nat×SV):=
 match n with
 |0=>G
 |n=>λj=>if j<n then F j else G (j-n)
theorem aIY (h:j<n):aDH n F G j=F j:=by
 unfold aDH;split
 ·exact absurd h (Nat.not_lt_zero _)
 exact if_pos h
theorem aIZ (h:n<=j):aDH n F G j=G (j-n):=by
 unfold aDH;split
 ·rfl
 exact if_neg (by omega)
theorem Rows.app (h1:Rows ρ es n F c1) (h2:Rows ρ es m G c2):Rows ρ es (n+m) (aDH n F G) (c1++c2):=by
 refine⟨by rw[zlA,h1.1,h2.1,add_mul],λq hq=>?_⟩
 rcases lt_or_ge q n with hlt|hge
 ·have hb:(q+1)*es<=n*es:=mul_le_mul_right _ hlt
  rw[add_mul,one_mul]at hb
  rw[aIY hlt,List.drop_append_of_le_length (by rw[h1.1];omega),List.take_append_of_le_length (by rw[zlD,h1.1];omega)]
  exact h1.2 q hlt
 have hb:n*es<=q*es:=mul_le_mul_right _ hge
 rw[aIZ hge,drop_append,List.drop_of_length_le (by rw[h1.1];exact hb),nil_append,h1.1,show q*es-n*es=(q-n)*es by rw[sub_mul]]
 exact h2.2 (q-n) (by omega)
def xn (a:Option Nat) (M:Mm):Mm:=
 match a with
 |none=>M
 |some a=>(a,.dead)::M
def aZW (zl:List (Nat×SV)):Bool:=
 match zl with
 |[(_,.u8 x)]=>beq x.toNat 0
 |_=>false
def aZN (x:SV):Option (List Prop×Nat):=
 match x with
 | .i .i64 m=>some ([0<=m],m.toNat)
 |_=>none
def aaT (ty:Nat->Ty) (T:Tm) (M:Mm) (e:Nat) (s x:Operand):Option (List Prop×Nat×Nat×SV×Option Nat×Mm):=
 bif !i6 (ty e).k&&(beq (ty e).size 1&&aZW (ty e).zl)then match aZN (ev T x)with
  |some (ps,m)=>match aVC M (.a8 []) (ev T s)with
   |some (qs,n,u,a)=>match aGS u (.a8 (replicate m 0))with
    |some z=>some (((n+m)*(ty e).bytes<=140737488355328)::(n+m<=140737488355328)::(ps++qs),n+m,1,z,a,M)
    |none=>none
   |none=>none
  |none=>none
 else none
def appV (ty:Nat->Ty) (T:Tm) (M:Mm) (c:Go.Call):Option (List Prop×Nat×Nat×SV×Option Nat×Mm):=
  match c.args.toList with
  |[s,x]=>match c.argTypes.toList with
    | [t,xt]=>match(ty t).k with
      | .slice e=>match aNZ (ty xt).k with
       |true=>aaT ty T M e s x
       | false=>bif okSrc (ty xt).k&& !i6 (ty e).k then(match rz (ty e).zl with
        |some e0=>bif beq (ty e).size 1 then match aWV M e0 (ev T x)with
            |some (ps,m,v)=>match aVC M e0 (ev T s)with
              |some (qs,n,u,a)=>match aGS u v with
                |some z=>some (((n+m)*(ty e).bytes<=140737488355328)::(n+m<=140737488355328)::(ps++qs),n+m,1,z,a,M)
                |none=>none
              |none=>none
            |none=>none
          else none
        | none=>bif blt 0 (ty e).size&&notNil (ty e).zl&&beq (zL (ty e).zl) (ty e).size then match aSV (ty e).size M (ev T x)with
            |some (ps,m,G,M')=>match aY8 (ty e).size M' (ev T s)with
              |some (qs,n,F,a)=>some (((n+m)*(ty e).bytes<=140737488355328)::(n+m<=140737488355328)::(ps++qs),n+m,(ty e).size,.arr (n+m) (ty e).size (aDH n F G),a,M')
              |none=>match aWH (ty e).size M' (ev T s)with
                |some (qs,n,F)=>some (((n+m)*(ty e).bytes<=140737488355328)::(n+m<=140737488355328)::(ps++((0<m)::qs)),n+m,(ty e).size,.arr (n+m) (ty e).size (aDH n F G),none,M')
                |none=>match aaQ (ty e).size M' (ev T s)with
                  |some (qs,n,F,a,M2)=>some (((n+m)*(ty e).bytes<=140737488355328)::(n+m<=140737488355328)::(ps++qs),n+m,(ty e).size,.arr (n+m) (ty e).size (aDH n F G),some a,M2)
                  |none=>none
            |none=>none
          else none)else none
      |_=>none
    |_=>none
  |_=>none
  where
  okSrc:TyK->Bool
    | .slice _=>true
    | .string=>true
    |_=>false
  notNil:List (Nat×SV)->Bool
    |[]=>false
    |_=>true
structure aJD (P:Program) (w:World) (t xt ty e:TypeId) (i:TypeInfo) (z x:Value) (m:Nat) (news:List Value):Prop where
 nl:news.length=m*i.size
 none:∀n c,n+m<=c->(Builtin.append_ #[t,xt] ty #[.slice none n c,x]).run P w= .ok (.slice none (n+m) c) w
 room:∀a n c w',n+m<=c->(storeCells (a.add (n*i.size)) news 0).run P w= .ok () w'->(Builtin.append_ #[t,xt] ty #[.slice (some a) n c,x]).run P w= .ok (.slice (some a) (n+m) c) w'
 grow:∀base n c olds,(Builtin.firstCells i.size n (.slice base n c)).run P w.drew= .ok (List.toArray olds) w.drew->c<n+m->((n+m:Nat):Int)<=9223372036854775807->Builtin.nextslicecap (n+m) c*i.bytes<=281474976710656->
  (Builtin.append_ #[t,xt] ty #[.slice base n c,x]).run P w= .ok (.slice (some ⟨w.heap.size,0,Option.none⟩) (n+m) (grownCap w (n+m) c e))
    (w.drew.alloc (.cells ((olds++news).toArray++Builtin.zeroCells z.cells (grownCap w (n+m) c e-(n+m))) e))
theorem fK (ht:P.underlying t=some (.slice e))
  (hxt:(∃e',P.underlying xt=some (.slice e'))\/P.underlying xt=some .string) (hi:P.info? e=some i) (hz:i.zero=some z) (hsrc:aC7 P w i.size m x news):aJD P w t xt ty e i z x m news:=by
 obtain⟨hnl,hlen,hfirst⟩:=hsrc
 exact⟨hnl,λn c h=>uP (ty:=ty) ht hxt hi hlen (hfirst w rfl) h,λa n c w' h hs=>aBN (ty:=ty) ht hxt hi hlen (hfirst w rfl) h hs,
  λbase n c olds ho h1 h2 h3=>uQ (ty:=ty) ht hxt hi hz hlen (hfirst w.drew rfl) ho h1 h2 h3⟩
theorem yS {P:Program} {w:World} {t xt ty e:TypeId} {k:IntKind} {i:TypeInfo} {z:Value} {m:Nat} (ht:P.underlying t=some (.slice e)) (hxt:P.underlying xt=some (.int k))
  (hi:P.info? e=some i) (hz:i.zero=some z) (hzs:z.cells.size=i.size) (hm:m*i.bytes<=281474976710656) (hm2:m<=140737488355328):
  aJD P w t xt ty e i z (.int .i64 (m:Int)) m (Builtin.zeroCells z.cells m).toList:=by
 have hw:IntKind.i64.wrap (m:Int)=(m:Int):=by
  unfold IntKind.wrap
  simp[IntKind.signed,IntKind.bits]
  omega
 have h0:¬((m:Int)<0):=by omega
 have hb:¬((281474976710656:Int)<(m:Int)*(i.bytes:Int)):=by
  have:((m*i.bytes:Nat):Int)<=281474976710656:=by omega
  rw[Int.natCast_mul]at this
  omega
 have ha:∀w':World,(asInt (.int .i64 (m:Int))).run P w'= .ok (m:Int) w':=by intro w';simp[asInt,asIntOf]
 have hnil:m*i.size=0->Builtin.zeroCells z.cells m= #[]:=λh=>Array.eq_empty_of_size_eq_zero (by rw[size_zeroCells,hzs,h])
 refine⟨by rw[Array.length_toList,size_zeroCells,hzs],λn c h=>?_,λa n c w' h hs=>?_,λbase n c olds ho h1 h2 h3=>?_⟩
 ·by_cases h5:m*i.size=0
  ·simp[Builtin.append_,run_underlying ht,run_underlying hxt,sizeOf,typeInfo,hi,ha,hw,h0,hb,h,h5]
  simp[Builtin.append_,run_underlying ht,run_underlying hxt,sizeOf,typeInfo,zeroValue,hi,hz,ha,hw,h0,hb,h,h5]
 ·by_cases h5:m*i.size=0
  ·rw[hnil h5]at hs
   have hs2:(storeCells (a.add (n*i.size)) []).run P w= .ok () w':=by simpa using hs
   simp[Builtin.append_,run_underlying ht,run_underlying hxt,sizeOf,typeInfo,hi,ha,hw,h0,hb,h,h5]
   rw[hs2];rfl
  simp[Builtin.append_,run_underlying ht,run_underlying hxt,sizeOf,typeInfo,zeroValue,hi,hz,ha,hw,h0,hb,h,h5]
  rw[hs];rfl
 have hn:¬(n+m<=c):=by omega
 have h63':¬(9223372036854775807<((n:Int)+(m:Int))):=by omega
 have h48':¬(281474976710656<Builtin.nextslicecap (n+m) c*i.bytes):=by omega
 by_cases h5:m*i.size=0
 ·have h6:=hnil h5
  simp[Builtin.append_,run_underlying ht,run_underlying hxt,sizeOf,typeInfo,zeroValue,hi,hz,ha,hw,h0,hb,hn,h63',h48',Question.forced,ho,newRow,grownCap,h5,h6]
 simp[Builtin.append_,run_underlying ht,run_underlying hxt,sizeOf,typeInfo,zeroValue,hi,hz,ha,hw,h0,hb,hn,h63',h48',Question.forced,ho,newRow,grownCap,h5]
 try(congr 2;apply ext';simp[append_assoc])
theorem jE {Γ:Ctx} {ρ:Env} {M:Mm} {w:World} (hM:zF ρ M w) {d:Nat} (hd:zG M d=none) {t xt ty e:TypeId} {i:TypeInfo} {z:Value} (ht:Γ.P.underlying t=some (.slice e))
  (hi:Γ.P.info? e=some i) (hz:i.zero=some z) (hzs:z.cells.size=i.size)
  {s x:Value} {n m:Nat} {u leaf:SV} {news:List Value} (hA:aJD Γ.P w t xt ty e i z x m news) (hone:∀v∈news,one v) (hby:(n+m)*i.bytes<=140737488355328) (h63:n+m<=140737488355328)
  {a:Option Nat} (hdst:(a=none/\((s= .slice none 0 0/\n=0/\∀ρ',ρ.le ρ'->zD ρ' leaf news)\/
    (0<m/\∃y olds,s= .slice y n n/\(Builtin.firstCells i.size n s).run Γ.P w.drew= .ok olds.toArray w.drew/\olds.length=n*i.size/\∀ρ',ρ.le ρ'->zD ρ' leaf (olds++news))))\/
   ∃a0 sp ls off c y cs,a=some a0/\s= .slice y n c/\n<=c/\(c≠0->y=some ⟨(ρ.pos a0).1,(ρ.pos a0).2+off,none⟩)/\zG M a0=some (.mem true sp ls)/\zC ρ ls cs/\(∀j v,cs[j]? =some v->w.cell? ⟨(ρ.pos a0).1,(ρ.pos a0).2+j,none⟩=some v)/\
    off+n*i.size=zL ls/\off+c*i.size<=zL ls+sp/\∀ρ',ρ.le ρ'->zD ρ' leaf (cs.drop off++news)):
  ∃v w' ρ' c',(Builtin.append_ #[t,xt] ty #[s,x]).run Γ.P w= .ok v w'/\n+m<=c'/\ρ.le ρ'/\zF ρ' ((d,.mem true ((c'-(n+m))*i.size) [((n+m)*i.size,leaf)])::xn a M) w'/\
   aV ρ M ρ' ((d,.mem true ((c'-(n+m))*i.size) [((n+m)*i.size,leaf)])::xn a M) w w'/\zRT ρ' (.sl d 0 0 (n+m) c') v:=by
 have hnl:=hA.nl
 have wrote0:∀b o,yX b o [] w w:=λb o=>⟨rfl,rfl,rfl,λ_ _=>rfl,λ_ _=>rfl,λj v h=>by simp at h,λ_ _ _=>rfl,λ_ _=>rfl⟩
 have grown:∀{M1:Mm} {ρ1:Env} (_:ρ.le ρ1) (_:zF ρ1 M1 w) (_:aV ρ M ρ1 M1 w w) (_:zG M1 d=none) (c:Nat) (olds:List Value),olds.length=n*i.size->(∀ρ',ρ.le ρ'->zD ρ' leaf (olds++news))->
   ∃ρ',ρ.le ρ'/\zF ρ' ((d,.mem true ((grownCap w (n+m) c e-(n+m))*i.size) [((n+m)*i.size,leaf)])::M1)
     (w.drew.alloc (.cells ((olds++news).toArray++Builtin.zeroCells z.cells (grownCap w (n+m) c e-(n+m))) e))/\
    aV ρ M ρ' ((d,.mem true ((grownCap w (n+m) c e-(n+m))*i.size) [((n+m)*i.size,leaf)])::M1) w
     (w.drew.alloc (.cells ((olds++news).toArray++Builtin.zeroCells z.cells (grownCap w (n+m) c e-(n+m))) e))/\
    zRT ρ' (.sl d 0 0 (n+m) (grownCap w (n+m) c e)) (.slice (some ⟨w.heap.size,0,none⟩) (n+m) (grownCap w (n+m) c e)):=by
  intro M1 ρ1 hle1 h1 hst1 hd1 c olds ho hleaf
  have hg:eW w w.drew:=⟨le_refl _,rfl,rfl,λ_ _=>rfl⟩
  have h2:=h1.grows hg
  have hcs:zC ρ1 [((n+m)*i.size,leaf)] (olds++news):=⟨_,[],(append_nil _).symm,by rw[zlA,ho,hnl,add_mul],hleaf ρ1 hle1,rfl⟩
  obtain⟨n1,n2,n3⟩:=h2.alloc (t:=e) (cells:=(olds++news).toArray++Builtin.zeroCells z.cells (grownCap w (n+m) c e-(n+m))) (sp:=(grownCap w (n+m) c e-(n+m))*i.size) hd1 hcs (λj v hj=>by
   rw[Array.getElem?_append_left (by simpa using(List.getElem?_eq_some_iff.1 hj).1)]
   simpa using hj) (by rw[Array.size_append,size_zeroCells,hzs];simp)
  refine⟨_,Env.le_trans hle1 n1,n2,hst1.trans (hg.step.trans n3),zR ⟨Or.inl rfl,grownCap_ge _ _ _ _,_,rfl,λ_=>?_⟩⟩
  simp[Env.addr,Env.add]
 rcases hdst with⟨rfl,⟨rfl,rfl,hleaf⟩|⟨hm,y,olds,rfl,hold,hol,hleaf⟩⟩|⟨a0,sp,ls,off,c,y,cs,rfl,rfl,hnc,hy,ha,hcs,hcell,hoff,hcap,hleaf⟩
 rotate_left
 ·have hrun:=hA.grow y n n olds hold (by omega) (by omega) (growslice_fits (by omega) hby)
  obtain⟨ρ',k1,k2,k3,k4⟩:=grown (Env.le_refl _) hM (aV.refl _ _ _) hd n olds hol hleaf
  exact⟨_,_,ρ',_,hrun,grownCap_ge _ _ _ _,k1,k2,k3,k4⟩
 rotate_left
 ·rcases Nat.eq_zero_or_pos m with hm|hm
  ·subst hm
   have hn:news=[]:=List.eq_nil_of_length_eq_zero (by rw[hnl];simp)
   subst hn
   have hrun:=hA.none 0 0 (by omega)
   have hcl:zC ρ [((0+0)*i.size,leaf)] []:=⟨[],[],rfl,by simp,hleaf ρ (Env.le_refl _),rfl⟩
   obtain⟨k1,k2,k3⟩:=hM.claim (b:=0) (o:=0) (sp:=(0-(0+0))*i.size) hd hcl (λj v hj=>by simp at hj) (λp h1 h2=>by simp[zL]at h2) (λj hj=>by simp[zL]at hj)
   refine⟨_,w,_,0,hrun,le_refl _,k1,k2,⟨le_refl _,rfl,rfl,λ_ _ _=>rfl,λ_ _ _ _=>⟨rfl,rfl⟩,λk p _ ho=>?_,λ_ _ _ h=>Or.inl h⟩,zR ⟨Or.inl rfl,le_refl _,_,rfl,λhc=>absurd rfl hc⟩⟩
   rcases k3 k p ho with h|⟨_,h1,h2⟩
   ·exact h
   simp[zL]at h2
  have hrun:=hA.grow none 0 0 [] rfl (by omega) (by omega) (growslice_fits (by omega) hby)
  obtain⟨ρ',k1,k2,k3,k4⟩:=grown (Env.le_refl _) hM (aV.refl _ _ _) hd 0 [] (by simp) (λρ' h=>by simpa using hleaf ρ' h)
  exact⟨_,_,ρ',_,hrun,grownCap_ge _ _ _ _,k1,k2,k3,k4⟩
 have hda:d≠a0:=by rintro rfl;rw[ha]at hd;cases hd
 have hd1:zG ((a0,.dead)::M) d=none:=by rw[zg hda];exact hd
 have hcl:=hcs.length
 rcases lt_or_ge c (n+m)with hg|hroom
 ·-- it grows
  obtain⟨k1,k2,_,_⟩:=hM.kill ha (q:=0) (nc:=[]) (wrote0 _ _) (by simp)
  have hold:(Builtin.firstCells i.size n (.slice y n c)).run Γ.P w.drew= .ok (cs.drop off).toArray w.drew:=by
   have:=tQ (P:=Γ.P) (w:=w.drew) (es:=i.size) hnc hy (λj v hj=>hcell j v hj) (by rw[hcl];omega)
   rw[List.take_of_length_le (by rw[zlD,hcl];omega)]at this
   exact this
  have hrun:=hA.grow y n c _ hold hg (by omega) (growslice_fits hg hby)
  obtain⟨ρ',l1,l2,l3,l4⟩:=grown (Env.le_refl _) k1 k2 hd1 c (cs.drop off) (by rw[zlD,hcl];omega) hleaf
  exact⟨_,_,ρ',_,hrun,grownCap_ge _ _ _ _,l1,l2,l3,l4⟩
 -- there is room
 have hmul:n*i.size+m*i.size<=c*i.size:=by rw[<-add_mul];exact mul_le_mul_right _ hroom
 have hst:∃v w',(Builtin.append_ #[t,xt] ty #[.slice y n c,x]).run Γ.P w= .ok v w'/\yX (ρ.pos a0).1 ((ρ.pos a0).2+(off+n*i.size)) news w w'/\∃y',v= .slice y' (n+m) c/\(c≠0->y'=some ⟨(ρ.pos a0).1,(ρ.pos a0).2+off,none⟩):=by
  rcases Nat.eq_zero_or_pos c with h0|h0
  ·have hm0:m=0:=by omega
   have hn:news=[]:=List.eq_nil_of_length_eq_zero (by rw[hnl,hm0];simp)
   subst hn
   cases y with
   |none=>exact⟨_,w,hA.none n c hroom,wrote0 _ _,none,rfl,λhc=>absurd h0 hc⟩
   |some ad=>exact⟨_,w,hA.room ad n c w hroom rfl,wrote0 _ _,some ad,rfl,λhc=>absurd h0 hc⟩
  have hy':=hy (by omega)
  subst hy'
  obtain⟨_,c1,c2,c3,c4⟩:=hM.sat a0 _ ha
  have c4:=c4 rfl
  obtain⟨w',hr,hw⟩:=bw (P:=Γ.P) (b:=(ρ.pos a0).1) (o:=(ρ.pos a0).2+(off+n*i.size)) news 0 w hone (λj hj=>by
   have:=c4 (off+n*i.size+j) (by rw[hnl]at hj;omega)
   rw[show(ρ.pos a0).2+(off+n*i.size)+(0+j)=(ρ.pos a0).2+(off+n*i.size+j) by omega]
   exact this)
  rw[add_zero]at hw
  refine⟨_,w',hA.room _ n c w' hroom ?_,hw,_,rfl,λ_=>rfl⟩
  rw[fY,show(ρ.pos a0).2+off+n*i.size=(ρ.pos a0).2+(off+n*i.size) by omega]
  exact hr
 obtain⟨v,w',hrun,hw,y',rfl,hy'⟩:=hst
 obtain⟨k1,k2,k3,k4⟩:=hM.kill ha hw (by rw[hnl];omega)
 have hcl2:zC ρ [((n+m)*i.size,leaf)] (cs.drop off++news):=⟨_,[],(append_nil _).symm,by rw[zlA,zlD,hcl,hnl,add_mul];omega,hleaf ρ (Env.le_refl _),rfl⟩
 have hlen3:off+((n+m)*i.size+(c-(n+m))*i.size)<=zL ls+sp:=by
  rw[<-add_mul,show n+m+(c-(n+m))=c by omega];exact hcap
 obtain⟨l1,l2,l3⟩:=k1.claim (b:=(ρ.pos a0).1) (o:=(ρ.pos a0).2+off) (sp:=(c-(n+m))*i.size) hd1 hcl2 (λj v hj=>by
   rcases lt_or_ge j (cs.drop off).length with h1|h1
   ·rw[List.getElem?_append_left h1,List.getElem?_drop]at hj
    rw[zlD,hcl]at h1
    rw[hw.old _ _ (λ_=>Or.inl (by omega)),Nat.add_assoc]
    exact hcell _ v hj
   rw[List.getElem?_append_right h1]at hj
   have:=hw.new _ v hj
   rw[zlD,hcl]at h1
   rw[zlD,hcl,show(ρ.pos a0).2+(off+n*i.size)+(j-(zL ls-off))=(ρ.pos a0).2+off+j by omega]at this
   exact this)
  (λp h1 h2=>by
   simp only[zL,add_zero]at h2
   exact k3 _ p ⟨rfl,by omega,by simp only[if_true];omega⟩)
  (λj hj=>by
   simp only[zL,add_zero]at hj
   have:=k4 (off+j) (by omega)
   rw[show(ρ.pos a0).2+(off+j)=(ρ.pos a0).2+off+j by omega]at this
   exact this)
 refine⟨_,w',_,c,hrun,hroom,l1,l2,⟨k2.size,k2.os,k2.output,k2.blk,k2.cell,λk p hk ho=>?_,k2.immo⟩,zR ⟨Or.inl rfl,hroom,y',rfl,λhc=>?_⟩⟩
 ·rcases l3 k p ho with h|⟨rfl,h1,h2⟩
  ·exact k2.own k p hk h
  simp only[zL,add_zero]at h2
  exact⟨a0,_,ha,rfl,rfl,by omega,by simp only[if_true];omega⟩
 rw[hy' hc]
 simp[Env.addr,Env.add]
theorem Rows.one (r:Rows ρ es m F news):∀v∈news,one v:=by
 have:zD ρ (.arr m es F) news:=r
 exact this.one
theorem aRI {Γ:Ctx} {N:Nat} {ρ:Env} {T:Tm} {M:Mm} {a:Act} {w:World} (hc:aZ N ρ T M a w) {s:Operand} {e0 u v zv:SV} {rs:List Prop} {n0 es m:Nat} {k0:Option Nat} (hsz1:es=1)
  (hdst:aVC M e0 (ev T s)=some (rs,n0,u,k0)) (hpr:All rs) (he0c:∀ρ':Env,zD ρ' e0 []) (hj:aGS u v=some zv) {news:List Value} (hnews:zD ρ v news):
  (k0=none/\((a.eval s= .slice none 0 0/\n0=0/\∀ρ',ρ.le ρ'->zD ρ' zv news)\/
    (0<m/\∃y olds,a.eval s= .slice y n0 n0/\(Builtin.firstCells es n0 (a.eval s)).run Γ.P w.drew= .ok (List.toArray olds) w.drew/\olds.length=n0*es/\∀ρ',ρ.le ρ'->zD ρ' zv (olds++news))))\/
   ∃a0 sp ls off c y cs,k0=some a0/\a.eval s= .slice y n0 c/\n0<=c/\(c≠0->y=some ⟨(ρ.pos a0).1,(ρ.pos a0).2+off,none⟩)/\zG M a0=some (.mem true sp ls)/\zC ρ ls cs/\(∀j v,cs[j]? =some v->w.cell? ⟨(ρ.pos a0).1,(ρ.pos a0).2+j,none⟩=some v)/\
    off+n0*es=zL ls/\off+c*es<=zL ls+sp/\∀ρ',ρ.le ρ'->zD ρ' zv (cs.drop off++news):=by
 have hrs:=zev hc s
 unfold aVC at hdst
 split at hdst
 ·rename_i hs
  rw[hs]at hrs
  simp only[zoI,zpI]at hdst;obtain⟨rfl,rfl,rfl,rfl⟩:=hdst
  exact Or.inl ⟨rfl,Or.inl ⟨hrs,rfl,λρ' hle=>by simpa using iN hj (he0c ρ') (hnews.le hle)⟩⟩
 ·rename_i a0 f i0 n1 cc hs
  rw[hs]at hrs
  obtain⟨_,hnc,y,hv,hy⟩:=hrs
  split at hdst
  ·split at hdst
   ·rename_i sp ls hm
    split at hdst
    ·rename_i t0 u0
     have ha:=(zn hdst).1
     replace hdst:=(zn hdst).2
     simp only[zoI,zpI]at hdst;obtain⟨rfl,rfl,rfl,rfl⟩:=hdst
     obtain⟨cs,c1,_,c3,_⟩:=hc.sat a0 _ hm
     obtain⟨d1,d2,rfl,g1,g2,g3⟩:=c1
     have e2:d2=[]:=g3
     subst e2
     have q1:=hpr.head
     have q2:=hpr.tail.head
     refine Or.inr ⟨a0,sp,_,i0,cc,y,d1,rfl,hv,hnc,λhcc=>by rw[hy hcc,aN,zero_add],hm,⟨d1,[],(append_nil _).symm,g1,g2,rfl⟩,by simpa using c3,by simp only[zL,hsz1];omega,by simp only[zL,hsz1];omega,λρ' hle=>iN hj (og ha (g2.le hle) i0) (hnews.le hle)⟩
    cases hdst
   cases hdst
  cases hdst
 cases hdst
theorem sL (v:Value) (m:Nat):(Builtin.zeroCells #[v] m).toList=replicate m v:=by
 unfold Builtin.zeroCells
 apply List.ext_getElem
 ·simp
 intro j h1 h2
 simp[Nat.mod_one]
theorem aC3 {Γ:Ctx} {N:Nat} {ρ:Env} {T:Tm} {M:Mm} {a:Act} {w:World} (hc:aZ N ρ T M a w) {c:Go.Call} {d:Nat} (hd:zG M d=none) {ps:List Prop} {n es:Nat} {leaf:SV} {k:Option Nat} {M':Mm}
  (h:appV Γ.ty T M c=some (ps,n,es,leaf,k,M')) (hp:All ps) (hd':zG M' d=none) (ty:TypeId):
  ∃v w' ρ' c',(Builtin.append_ c.argTypes ty (c.args.map a.eval)).run Γ.P w= .ok v w'/\n<=c'/\ρ.le ρ'/\zF ρ' ((d,.mem true (zmE (c'-n) es) [(zmE n es,leaf)])::xn k M') w'/\
   aV ρ M ρ' ((d,.mem true (zmE (c'-n) es) [(zmE n es,leaf)])::xn k M') w w'/\zRT ρ' (.sl d 0 0 n c') v:=by
 unfold appV at h
 split at h
 ·rename_i s x hargs
  have e1:c.args.map a.eval= #[a.eval s,a.eval x]:=by
   apply ext';simp[hargs]
  split at h
  ·rename_i t xt hts
   have e2:c.argTypes= #[t,xt]:=by
    apply ext';simp[hts]
   rw[e1,e2]
   split at h
   ·rename_i e hk
    have ut:=zus (Γ.ok (t:=t) (by rw[hk];simp)) hk
    split at h
    ·-- zeros
     rename_i hxi
     unfold aaT at h
     have hb:=(zn h).1
     replace h:=(zn h).2
     simp only[zbA,Bool.not_eq_true']at hb
     have hne:(Γ.ty e).k≠ .bad:=by intro e';rw[e']at hb;simp[i6]at hb
     obtain⟨i,hi,hi1,hi2,hi3⟩:=(Γ.ok hne).info
     have hs1:=zq hb.2.1
     have hsz1:i.size=1:=by omega
     obtain⟨q,hq⟩:∃q,(Γ.ty e).zl=[(q,.u8 0)]:=by
      have h1:=hb.2.2
      unfold aZW at h1
      split at h1
      ·rename_i q x hzl
       have:=zq h1
       have hx:x=0:=UInt8.toNat_inj.1 this
       exact⟨q,by rw[hzl,hx]⟩
      cases h1
     have hzl:(Γ.ty e).zl≠[]:=by rw[hq];simp
     obtain⟨z,hz,hzc,hzs,_⟩:=hi3 hzl
     have hzv:z.cells= #[w8 0]:=by
      apply ext'
      rw[hzc,hq];rfl
     have hxk:∃k,(Γ.ty xt).k= .int k:=by
      unfold aNZ at hxi
      split at hxi
      ·rename_i k hk';exact⟨k,hk'⟩
      cases hxi
     obtain⟨kx,hkx⟩:=hxk
     have uxt:=ia (Γ.ok (t:=xt) (by rw[hkx];simp)) hkx
     split at h
     ·rename_i qs m hzl2
      split at h
      ·rename_i rs n0 u k0 hdst
       split at h
       ·rename_i zv hj
        simp only[zoI,zpI]at h
        obtain⟨rfl,rfl,rfl,rfl,rfl,rfl⟩:=h
        have hb1:=hp.head
        have hb2:=hp.tail.head
        have hxv:a.eval x= .int .i64 (m:Int):=by
         have hrx:=zev hc x
         unfold aZN at hzl2
         split at hzl2
         ·rename_i mi hm
          simp only[zoI,zpI]at hzl2;obtain⟨rfl,rfl⟩:=hzl2
          have h0:0<=mi:=hp.tail.tail.left.head
          rw[hm]at hrx
          have hrx:a.eval x= .int .i64 mi:=hrx
          rw[hrx,Int.toNat_of_nonneg h0]
         cases hzl2
        rw[hxv]
        have hmb:m*i.bytes<=281474976710656:=by
         have:m*i.bytes<=(n0+m)*i.bytes:=mul_le_mul_right _ (by omega)
         rw[hi2]at this⊢;omega
        have hA:=yS (w:=w) (ty:=ty) ut uxt hi hz (by rw[hzv,hsz1];rfl) hmb (by omega)
        rw[hzv,sL]at hA
        have hnews:zD ρ (.a8 (replicate m 0)) (replicate m (w8 0)):=by
         show _=List.map w8 (replicate m 0)
         rw[List.map_replicate]
        have:=jE (ty:=ty) hc.tozF hd ut hi hz (by rw[hzv,hsz1];rfl) hA hnews.one (by rw[hi2];exact hb1) hb2 (s:=a.eval s) (n:=n0) (u:=u) (leaf:=zv) (a:=k0)
         (aRI (Γ:=Γ) hc hsz1 hdst hp.tail.tail.right (λ_=>rfl) hj hnews)
        simp only[hsz1,mul_one]at this
        exact this
       cases h
      cases h
     cases h
    have hb:=(zn h).1
    replace h:=(zn h).2
    simp only[zbA,Bool.not_eq_true']at hb
    have hne:(Γ.ty e).k≠ .bad:=by intro e';rw[e']at hb;simp[i6]at hb
    have hxt:(∃e',Γ.P.underlying xt=some (.slice e'))\/Γ.P.underlying xt=some .string:=by
     have h1:=hb.1
     unfold appV.okSrc at h1
     split at h1
     ·rename_i e' hk'
      exact Or.inl ⟨e',zus (Γ.ok (t:=xt) (by rw[hk'];simp)) hk'⟩
     ·rename_i hk'
      exact Or.inr (bS (Γ.ok (t:=xt) (by rw[hk'];simp)) hk')
     cases h1
    obtain⟨i,hi,hi1,hi2,hi3⟩:=(Γ.ok hne).info
    split at h
    ·rename_i e0 he0
     have hs1:=zq (zn h).1
     replace h:=(zn h).2
     have hzl:(Γ.ty e).zl≠[]:=by intro e';rw[e']at he0;simp[rz]at he0
     obtain⟨z,hz,hzc,hzs,_⟩:=hi3 hzl
     have hzlen:z.cells.size=i.size:=by
      have e3:(gv (Γ.ty e).zl).length=1:=by
       unfold rz at he0
       split at he0
       ·rename_i s0 v0 hzl0
        rw[hzl0]
        split at he0<;>first|rfl|(split at he0<;>first|rfl|cases he0)|cases he0
       cases he0
      rw[<-hzc]at e3
      rw[hi1,hs1]
      simpa using e3
     have he0c:∀ρ':Env,zD ρ' e0 []:=by
      intro ρ'
      unfold rz at he0
      split at he0
      ·split at he0<;>first
        |(simp only[zoI]at he0;subst he0;rfl)
        |(split at he0<;>first|(simp only[zoI]at he0;subst he0;rfl)|cases he0)
        |cases he0
      cases he0
     split at h
     ·rename_i qs m v hsrc
      split at h
      ·rename_i rs n0 u k0 hdst
       split at h
       ·rename_i zv hj
        simp only[zoI,zpI]at h
        obtain⟨rfl,rfl,rfl,rfl,rfl,rfl⟩:=h
        obtain⟨news,ok,hnews⟩:=aBE (P:=Γ.P) hc.tozF (he0c ρ) (zev hc x) hsrc hp.tail.tail.left
        rw[<-hs1,<-hi1]at ok
        have hsz1:i.size=1:=by omega
        have:=jE (ty:=ty) hc.tozF hd ut hi hz hzlen (fK ut hxt hi hz ok) hnews.one (by rw[hi2];exact hp.head) hp.tail.head (s:=a.eval s) (n:=n0) (u:=u) (leaf:=zv) (a:=k0) (by
         have hrs:=zev hc s
         have hpr:=hp.tail.tail.right
         unfold aVC at hdst
         split at hdst
         ·rename_i hs
          rw[hs]at hrs
          simp only[zoI,zpI]at hdst;obtain⟨rfl,rfl,rfl,rfl⟩:=hdst
          exact Or.inl ⟨rfl,Or.inl ⟨hrs,rfl,λρ' hle=>by simpa using iN hj (he0c ρ') (hnews.le hle)⟩⟩
         ·rename_i a0 f i0 n1 cc hs
          rw[hs]at hrs
          obtain⟨_,hnc,y,hv,hy⟩:=hrs
          split at hdst
          ·split at hdst
           ·rename_i sp ls hm
            split at hdst
            ·rename_i t0 u0
             have ha:=(zn hdst).1
             replace hdst:=(zn hdst).2
             simp only[zoI,zpI]at hdst;obtain⟨rfl,rfl,rfl,rfl⟩:=hdst
             obtain⟨cs,c1,_,c3,_⟩:=hc.sat a0 _ hm
             obtain⟨d1,d2,rfl,g1,g2,g3⟩:=c1
             have e2:d2=[]:=g3
             subst e2
             have q1:=hpr.head
             have q2:=hpr.tail.head
             refine Or.inr ⟨a0,sp,_,i0,cc,y,d1,rfl,hv,hnc,λhcc=>by rw[hy hcc,aN,zero_add],hm,⟨d1,[],(append_nil _).symm,g1,g2,rfl⟩,by simpa using c3,by simp only[zL,hsz1];omega,by simp only[zL,hsz1];omega,λρ' hle=>iN hj (og ha (g2.le hle) i0) (hnews.le hle)⟩
            cases hdst
           cases hdst
          cases hdst
         cases hdst)
        simp only[hsz1,mul_one]at this
        exact this
       cases h
      cases h
     cases h
    have hb2:=(zn h).1
    replace h:=(zn h).2
    simp only[zbA]at hb2
    have hpos:0<(Γ.ty e).size:=ay hb2.1.1
    have hszl:=zq hb2.2
    have hzl:(Γ.ty e).zl≠[]:=by intro e';rw[e']at hb2;simp[appV.notNil]at hb2
    obtain⟨z,hz,hzc,hzs,_⟩:=hi3 hzl
    split at h
    ·rename_i qs m G M1 hsrc
     split at h
     ·rename_i rs n0 F k0 hdst
      simp only[zoI,zpI]at h
      obtain⟨rfl,rfl,rfl,rfl,rfl,rfl⟩:=h
      obtain⟨ρ1,news,l1,l2,l3,ok,hnews⟩:=cn (P:=Γ.P) hc.tozF (zev hc x) hsrc hp.tail.tail.left
      rw[<-hi1]at ok hnews hdst
      have hzlen:z.cells.size=i.size:=by
       have:=(zzc ρ hzs).length
       rw[<-hzc,hszl]at this
       rw[hi1];simpa using this
      have:=jE (ty:=ty) l2 hd' ut hi hz hzlen (fK ut hxt hi hz ok) hnews.one (by rw[hi2];exact hp.head) hp.tail.head (s:=a.eval s) (n:=n0) (u:=.und) (leaf:=.arr (n0+m) i.size (aDH n0 F G)) (a:=k0) (by
       have hrs:=(zev hc s).le l1
       have hpr:=hp.tail.tail.right
       unfold aY8 at hdst
       split at hdst
       ·rename_i hs
        rw[hs]at hrs
        simp only[zoI,zpI]at hdst;obtain⟨rfl,rfl,rfl,rfl⟩:=hdst
        refine Or.inl ⟨rfl,Or.inl ⟨hrs,rfl,λρ' hle=>?_⟩⟩
        rw[zero_add]
        exact hnews.le hle
       ·rename_i a0 f i0 n1 cc hs
        rw[hs]at hrs
        obtain⟨_,hnc,y,hv,hy⟩:=hrs
        split at hdst
        ·split at hdst
         ·rename_i sp ls hm
          split at hdst
          ·rename_i t0 m0 es' F0
           have he:=zq (zn hdst).1
           replace hdst:=(zn hdst).2
           subst he
           obtain⟨cs,c1,_,c3,_⟩:=l2.sat a0 _ hm
           obtain⟨d1,d2,rfl,g1,g2,g3⟩:=c1
           have e2:d2=[]:=g3
           subst e2
           have hr:Rows ρ1 i.size m0 F0 d1:=g2
           split at hdst
           rotate_left
           ·simp only[zoI,zpI]at hdst;obtain⟨rfl,rfl,rfl,rfl⟩:=hdst
            have q0:=hpr.head
            have q1:=hpr.tail.head
            have q2:=hpr.tail.tail.head
            rw[zme]at q2
            subst q0
            subst q1
            refine Or.inr ⟨a0,sp,_,0,cc,y,d1,rfl,hv,hnc,λhcc=>by rw[hy hcc,aN],hm,⟨d1,[],(append_nil _).symm,g1,g2,rfl⟩,by simpa using c3,by simp only[zL];rw[<-g1,hr.1];omega,by simp only[zL];omega,λρ' hle=>?_⟩
            rw[drop_zero]
            exact(hr.le hle).app (hnews.le hle)
           rename_i hs1
           simp only[zoI,zpI]at hdst;obtain⟨rfl,rfl,rfl,rfl⟩:=hdst
           have q1:=hpr.head
           have q2:=hpr.tail.head
           have hseg:=hr.seg (q:=i0) (n:=n1) (by omega)
           have hl:=hr.1
           rw[hs1]at hseg hl
           simp only[mul_one]at hseg hl
           rw[List.take_of_length_le (by rw[zlD];omega)]at hseg
           refine Or.inr ⟨a0,sp,_,i0,cc,y,d1,rfl,hv,hnc,λhcc=>by rw[hy hcc,aN,zero_add],hm,⟨d1,[],(append_nil _).symm,g1,g2,rfl⟩,by simpa using c3,by simp only[zL,hs1];omega,by simp only[zL,hs1];omega,λρ' hle=>?_⟩
           rw[hs1]
           rw[hs1]at hnews
           exact(hseg.le hle).app (hnews.le hle)
          cases hdst
         cases hdst
        cases hdst
       cases hdst)
      obtain⟨v,w',ρ',c',r1,r2,r3,r4,r5,r6⟩:=this
      rw[<-hi1]
      simp only[zme]
      exact⟨v,w',ρ',c',r1,r2,Env.le_trans l1 r3,r4,l3.trans r5,r6⟩
     split at h
     ·-- to new memory
      rename_i rs n0 F hdst
      simp only[zoI,zpI]at h
      obtain⟨rfl,rfl,rfl,rfl,rfl,rfl⟩:=h
      obtain⟨ρ1,news,l1,l2,l3,ok,hnews⟩:=cn (P:=Γ.P) hc.tozF (zev hc x) hsrc hp.tail.tail.left
      rw[<-hi1]at ok hnews hdst
      have hzlen:z.cells.size=i.size:=by
       have:=(zzc ρ hzs).length
       rw[<-hzc,hszl]at this
       rw[hi1];simpa using this
      have:=jE (ty:=ty) l2 hd' ut hi hz hzlen (fK ut hxt hi hz ok) hnews.one (by rw[hi2];exact hp.head) hp.tail.head (s:=a.eval s) (n:=n0) (u:=.und) (leaf:=.arr (n0+m) i.size (aDH n0 F G)) (a:=none) (by
       have hrs:=(zev hc s).le l1
       have hpr:=hp.tail.tail.right
       have hm0:=hpr.head
       have hpr:=hpr.tail
       unfold aWH at hdst
       split at hdst
       ·rename_i a0 f i0 n1 cc hs
        rw[hs]at hrs
        obtain⟨_,hnc,y,hv,hy⟩:=hrs
        split at hdst
        ·split at hdst
         ·rename_i sp ls hm
          split at hdst
          ·rename_i t0 m0 es' F0
           have he:=zq (zn hdst).1
           replace hdst:=(zn hdst).2
           subst he
           simp only[zoI,zpI]at hdst;obtain⟨rfl,rfl,rfl⟩:=hdst
           obtain⟨cs,c1,_,c3,_⟩:=l2.sat a0 _ hm
           obtain⟨d1,d2,rfl,g1,g2,g3⟩:=c1
           have e2:d2=[]:=g3
           subst e2
           have hr:Rows ρ1 i.size m0 F0 d1:=g2
           have q0:=hpr.head
           have q1:=hpr.tail.head
           have q2:=hpr.tail.tail.head
           subst q0
           subst q2
           have hlen:=hr.1
           have hle:n1*i.size<=m0*i.size:=mul_le_mul_right _ q1
           have hold:=tQ (P:=Γ.P) (w:=w.drew) (es:=i.size) (off:=0) (cs:=d1) (n:=n1) (c:=n1) (y:=y) (b:=(ρ1.pos a0).1) (o:=(ρ1.pos a0).2) (le_refl _) (λhcc=>by rw[hy hcc,aN]) (λj v hj=>c3 j v (by simpa using hj)) (by omega)
           rw[drop_zero]at hold
           have htk:(d1.take (n1*i.size)).length=n1*i.size:=by rw[zlT];omega
           refine Or.inl ⟨rfl,Or.inr ⟨hm0,y,d1.take (n1*i.size),hv,by rw[hv];exact hold,htk,λρ' hle'=>?_⟩⟩
           have hrt:Rows ρ1 i.size n1 F0 (d1.take (n1*i.size)):=⟨htk,λq hq=>by
            have hb1:(q+1)*i.size<=n1*i.size:=mul_le_mul_right _ hq
            rw[add_mul,one_mul]at hb1
            have:=hr.2 q (by omega)
            rw[drop_take,take_take,min_eq_left (by omega)]
            exact this⟩
           exact(hrt.le hle').app (hnews.le hle')
          cases hdst
         cases hdst
        cases hdst
       cases hdst)
      obtain⟨v,w',ρ',c',r1,r2,r3,r4,r5,r6⟩:=this
      rw[<-hi1]
      simp only[zme]
      exact⟨v,w',ρ',c',r1,r2,Env.le_trans l1 r3,r4,l3.trans r5,r6⟩
     split at h
     ·-- what is told cell by cell
      rename_i rs n0 F a1 M2 hdst
      simp only[zoI,zpI]at h
      obtain⟨rfl,rfl,rfl,rfl,rfl,rfl⟩:=h
      obtain⟨ρ1,news,l1,l2,l3,ok,hnews⟩:=cn (P:=Γ.P) hc.tozF (zev hc x) hsrc hp.tail.tail.left
      rw[<-hi1]at ok hnews hdst
      have hzlen:z.cells.size=i.size:=by
       have:=(zzc ρ hzs).length
       rw[<-hzc,hszl]at this
       rw[hi1];simpa using this
      have hpr:=hp.tail.tail.right
      unfold aaQ at hdst
      split at hdst
      ·rename_i a0 f i0 n1 cc hs
       split at hdst
       ·split at hdst
        ·rename_i sp ls hm
         split at hdst
         ·rename_i ls' M3 hk
          replace hk:=(zn hk).2
          split at hdst
          ·rename_i sp1 ls1 hm1
           split at hdst
           ·rename_i cks hck
            have hbb:=(zn hdst).1
            replace hdst:=(zn hdst).2
            simp only[zbA]at hbb
            simp only[zoI,zpI]at hdst;obtain⟨rfl,rfl,rfl,rfl,rfl⟩:=hdst
            have q0:=zq hbb.1.1
            have q1:=zq hbb.1.2
            have q2:=zq hbb.2.1
            have q3:=Nat.le_of_ble_eq_true hbb.2.2
            subst q0
            obtain⟨cs,c1,_,c3,_⟩:=l2.sat a0 _ hm
            obtain⟨ρ2,k1,k2,k3,k4⟩:=jY hk l2 c1
            obtain⟨g1,g2⟩:=fw hck k4
            obtain⟨cs1,e1,_,e3,_⟩:=k2.sat a0 _ hm1
            have hpos:ρ2.pos a0=ρ1.pos a0:=(k1.dm a0 (l2.mod a0 _ hm)).2
            have hl1:cs1.length=cs.length:=by rw[e1.length,g1,q2]
            have hcs:cs1=cs:=by
             apply List.ext_getElem?
             intro j
             by_cases hj:j<cs.length
             ·have h1:=c3 j _ (List.getElem?_eq_getElem hj)
              have h2:=e3 j _ (List.getElem?_eq_getElem (by omega:j<cs1.length))
              rw[hpos,h1]at h2
              rw[List.getElem?_eq_getElem hj,List.getElem?_eq_getElem (by omega:j<cs1.length)]
              exact h2.symm
             rw[List.getElem?_eq_none (by omega),List.getElem?_eq_none (by omega)]
            subst hcs
            have hnews2:=hnews.le k1
            have hrs:=((zev hc s).le l1).le k1
            rw[hs]at hrs
            obtain⟨_,hnc,y,hv,hy⟩:=hrs
            have hr:Rows ρ2 i.size n1 (aM9 cks) cs1:=⟨by rw[g1,q1],λq hq=>by
             rw[sY _ (by omega)]
             exact g2 q (by omega)⟩
            have:=jE (ty:=ty) k2 hd' ut hi hz hzlen (fK ut hxt hi hz ok) hnews.one (by rw[hi2];exact hp.head) hp.tail.head (s:=a.eval s) (n:=n1) (u:=.und) (leaf:=.arr (n1+m) i.size (aDH n1 (aM9 cks) G)) (a:=some a0)
             (Or.inr ⟨a0,sp1,_,0,cc,y,cs1,rfl,hv,hnc,λhcc=>by rw[hy hcc,aN],hm1,e1,by simpa using e3,by rw[q2,q1];omega,by omega,λρ' hle=>by
              rw[drop_zero]
              exact(hr.le hle).app (hnews2.le hle)⟩)
            obtain⟨v,w',ρ',c',r1,r2,r3,r4,r5,r6⟩:=this
            rw[<-hi1]
            simp only[zme]
            exact⟨v,w',ρ',c',r1,r2,Env.le_trans l1 (Env.le_trans k1 r3),r4,l3.trans (k3.trans r5),r6⟩
           cases hdst
          cases hdst
         cases hdst
        cases hdst
       cases hdst
      cases hdst
     cases h
    cases h
   cases h
  cases h
 cases h
def aZH (ty:Nat->Ty) (T:Tm) (M:Mm) (c:Go.Call):Option (List Prop×Nat×SV×Mm):=
  match c.args.toList with
  |[s,x]=>match c.argTypes.toList with
    | [t,xt]=>match(ty t).k with
      | .slice e=>match rz (ty e).zl with
       |some _=>none
       |none=>bif (appV.okSrc (ty xt).k&& !i6 (ty e).k)&&(blt 0 (ty e).size&&appV.notNil (ty e).zl&&beq (zL (ty e).zl) (ty e).size)then match aSV (ty e).size M (ev T x)with
          |some (ps,m,_,M')=>match aY8 (ty e).size M' (ev T s)with
            |some _=>none
            |none=>match aWH (ty e).size M' (ev T s)with
              |some _=>some (ps,m,ev T s,M')
              |none=>none
          |none=>none
        else none
      |_=>none
    |_=>none
  |_=>none
theorem aC5 {Γ:Ctx} {N:Nat} {ρ:Env} {T:Tm} {M:Mm} {a:Act} {w:World} (hc:aZ N ρ T M a w) {c:Go.Call} {ps:List Prop} {m:Nat} {v:SV} {M':Mm}
  (h:aZH Γ.ty T M c=some (ps,m,v,M')) (hp:All ps) (h0:m=0) (ty:TypeId):
  ∃x ρ',(Builtin.append_ c.argTypes ty (c.args.map a.eval)).run Γ.P w= .ok x w/\ρ.le ρ'/\zF ρ' M' w/\aV ρ M ρ' M' w w/\zRT ρ' v x:=by
 unfold aZH at h
 split at h
 ·rename_i s x hargs
  have e1:c.args.map a.eval= #[a.eval s,a.eval x]:=by
   apply ext';simp[hargs]
  split at h
  ·rename_i t xt hts
   have e2:c.argTypes= #[t,xt]:=by
    apply ext';simp[hts]
   rw[e1,e2]
   split at h
   ·rename_i e hk
    have ut:=zus (Γ.ok (t:=t) (by rw[hk];simp)) hk
    split at h
    ·cases h
    have hb:=(zn h).1
    replace h:=(zn h).2
    simp only[zbA,Bool.not_eq_true']at hb
    have hne:(Γ.ty e).k≠ .bad:=by intro e';rw[e']at hb;simp[i6]at hb
    have hxt:(∃e',Γ.P.underlying xt=some (.slice e'))\/Γ.P.underlying xt=some .string:=by
     have h1:=hb.1.1
     unfold appV.okSrc at h1
     split at h1
     ·rename_i e' hk'
      exact Or.inl ⟨e',zus (Γ.ok (t:=xt) (by rw[hk'];simp)) hk'⟩
     ·rename_i hk'
      exact Or.inr (bS (Γ.ok (t:=xt) (by rw[hk'];simp)) hk')
     cases h1
    obtain⟨i,hi,hi1,hi2,hi3⟩:=(Γ.ok hne).info
    have hzl:(Γ.ty e).zl≠[]:=by intro e';rw[e']at hb;simp[appV.notNil]at hb
    obtain⟨z,hz,hzc,hzs,_⟩:=hi3 hzl
    split at h
    ·rename_i qs m1 G M1 hsrc
     split at h
     ·cases h
     split at h
     ·rename_i y0 hdst
      obtain⟨rfl,rfl,rfl,rfl⟩:=sD h
      subst h0
      obtain⟨ρ1,news,l1,l2,l3,ok,hnews⟩:=cn (P:=Γ.P) hc.tozF (zev hc x) hsrc hp
      rw[<-hi1]at ok hnews
      have hA:=fK (ty:=ty) ut hxt hi hz ok
      have hnl:news=[]:=List.eq_nil_of_length_eq_zero (by rw[hA.nl];simp)
      subst hnl
      unfold aWH at hdst
      split at hdst
      ·rename_i a0 f i0 n1 cc hs
       have hrs:=(zev hc s).le l1
       have hrs2:=hrs
       rw[hs]at hrs2
       obtain⟨_,hnc,y,hv,hy⟩:=hrs2
       refine⟨a.eval s,ρ1,?_,l1,l2,l3,hrs⟩
       rw[hv]
       cases y with
       |none=>exact hA.none n1 cc hnc
       |some ad=>exact hA.room ad n1 cc w hnc rfl
      cases hdst
     cases h
    cases h
   cases h
  cases h
 cases h
def aV3 (n m:Nat) (F G:Nat->List (Nat×SV)):Nat->List (Nat×SV):=λq=>if q<n then F q else if q<n+m then G (q-n)else F q
def aaP (es:Nat) (M:Mm) (s:SV):Option (Nat×Nat×Nat×Nat×Nat×Nat×Nat×(Nat->List (Nat×SV))):=
 match s with
 | .sl a f i n c=>match f with
  |0=>match zG M a with
   |some (.mem true sp ls)=>match ls with
    |[(t,.arr N es' F),(0,.a8 [])]=>bif beq es es' then some (a,i,n,c,sp,t,N,F)else none
    |_=>none
   |_=>none
  |_=>none
 |_=>none
def aZG (ty:Nat->Ty) (T:Tm) (M:Mm) (c:Go.Call):Option (List Prop×Nat×Nat×Nat×Ent×Mm):=
  match c.args.toList with
  |[s,x]=>match c.argTypes.toList with
    |[t,xt]=>match(ty t).k with
      | .slice e=>match rz (ty e).zl with
       |some _=>none
       |none=>bif (appV.okSrc (ty xt).k&& !i6 (ty e).k)&&(blt 0 (ty e).size&&appV.notNil (ty e).zl&&beq (zL (ty e).zl) (ty e).size)then match aSV (ty e).size M (ev T x)with
          |some (ps,m,G,M')=>match aaP (ty e).size M' (ev T s)with
            |some (a,i,n,c,sp,t0,N,F)=>some ((i=0)::(n+m<=c)::(n+m<=N)::ps,n+m,c,a,.mem true sp [(t0,.arr N (ty e).size (aV3 n m F G)),(0,.a8 [])],M')
            |none=>none
          |none=>none
        else none
      |_=>none
    |_=>none
  |_=>none
theorem aC4 {Γ:Ctx} {N:Nat} {ρ:Env} {T:Tm} {M:Mm} {a:Act} {w:World} (hc:aZ N ρ T M a w) {c:Go.Call} {ps:List Prop} {n cp b:Nat} {E:Ent} {M':Mm}
  (h:aZG Γ.ty T M c=some (ps,n,cp,b,E,M')) (hp:All ps) (ty:TypeId):
  ∃x w' ρ',(Builtin.append_ c.argTypes ty (c.args.map a.eval)).run Γ.P w= .ok x w'/\ρ.le ρ'/\zF ρ' ((b,E)::M') w'/\aV ρ M ρ' ((b,E)::M') w w'/\zRT ρ' (.sl b 0 0 n cp) x:=by
 unfold aZG at h
 split at h
 ·rename_i s x hargs
  have e1:c.args.map a.eval= #[a.eval s,a.eval x]:=by
   apply ext';simp[hargs]
  split at h
  ·rename_i t xt hts
   have e2:c.argTypes= #[t,xt]:=by
    apply ext';simp[hts]
   rw[e1,e2]
   split at h
   ·rename_i e hk
    have ut:=zus (Γ.ok (t:=t) (by rw[hk];simp)) hk
    split at h
    ·cases h
    have hb:=(zn h).1
    replace h:=(zn h).2
    simp only[zbA,Bool.not_eq_true']at hb
    have hne:(Γ.ty e).k≠ .bad:=by intro e';rw[e']at hb;simp[i6]at hb
    have hxt:(∃e',Γ.P.underlying xt=some (.slice e'))\/Γ.P.underlying xt=some .string:=by
     have h1:=hb.1.1
     unfold appV.okSrc at h1
     split at h1
     ·rename_i e' hk'
      exact Or.inl ⟨e',zus (Γ.ok (t:=xt) (by rw[hk'];simp)) hk'⟩
     ·rename_i hk'
      exact Or.inr (bS (Γ.ok (t:=xt) (by rw[hk'];simp)) hk')
     cases h1
    obtain⟨i,hi,hi1,hi2,hi3⟩:=(Γ.ok hne).info
    have hzl:(Γ.ty e).zl≠[]:=by intro e';rw[e']at hb;simp[appV.notNil]at hb
    obtain⟨z,hz,hzc,hzs,_⟩:=hi3 hzl
    split at h
    ·rename_i qs m1 G M1 hsrc
     split at h
     ·rename_i a0 i0 n0 c0 sp t0 N0 F hdst
      simp only[zoI,zpI]at h
      obtain⟨rfl,rfl,rfl,rfl,rfl,rfl⟩:=h
      obtain⟨ρ1,news,l1,l2,l3,ok,hnews⟩:=cn (P:=Γ.P) hc.tozF (zev hc x) hsrc hp.tail.tail.tail
      rw[<-hi1]at ok hnews hdst
      have hA:=fK (ty:=ty) ut hxt hi hz ok
      have hone:=hnews.one
      have q0:=hp.head
      have q1:=hp.tail.head
      have q2:=hp.tail.tail.head
      subst q0
      unfold aaP at hdst
      split at hdst
      ·rename_i a1 f i1 n1 cc hs
       split at hdst
       ·split at hdst
        ·rename_i sp1 ls hm
         split at hdst
         ·rename_i t1 N1 es' F1
          have he:=zq (zn hdst).1
          replace hdst:=(zn hdst).2
          simp only[zoI,zpI]at hdst;obtain⟨rfl,rfl,rfl,rfl,rfl,rfl,rfl,rfl⟩:=hdst
          subst he
          have hrs:=(zev hc s).le l1
          rw[hs]at hrs
          obtain⟨hdom,hnc,y,hv,hy⟩:=hrs
          rw[hv]
          obtain⟨cs,c1,c2,c3,c4⟩:=l2.sat a1 _ hm
          obtain⟨d1,d2,rfl,g1,g2,d3,d4,rfl,g3,g4,g5⟩:=c1
          have e3:d3=[]:=List.eq_nil_of_length_eq_zero g3
          have e4:d4=[]:=g5
          subst e3;subst e4
          have hr:Rows ρ1 i.size N1 F1 d1:=g2
          have hnl:=hA.nl
          have hmul:n1*i.size+m1*i.size<=N1*i.size:=by rw[<-add_mul];exact mul_le_mul_right _ q2
          have hd1:=hr.1
          rw[<-hi1]
          have hrows:Rows ρ1 i.size N1 (aV3 n1 m1 F1 G) (d1.take (n1*i.size)++news++d1.drop (n1*i.size+news.length)):=by
           refine⟨by simp only[zlA,zlT,zlD,hnl,hd1];omega,λq hq=>?_⟩
           have hb1:(q+1)*i.size<=N1*i.size:=mul_le_mul_right _ hq
           rw[add_mul,one_mul]at hb1
           unfold aV3
           by_cases h1:q<n1
           ·rw[if_pos h1]
            have hb2:(q+1)*i.size<=n1*i.size:=mul_le_mul_right _ h1
            rw[add_mul,one_mul]at hb2
            have:=hr.2 q hq
            rw[append_assoc,List.drop_append_of_le_length (by rw[zlT];omega),List.take_append_of_le_length (by rw[zlD,zlT];omega),drop_take,take_take,min_eq_left (by omega)]
            exact this
           rw[if_neg h1]
           have hb2:n1*i.size<=q*i.size:=mul_le_mul_right _ (by omega)
           have hlt:(d1.take (n1*i.size)).length=n1*i.size:=by rw[zlT];omega
           by_cases h2:q<n1+m1
           ·rw[if_pos h2]
            have hb3:(q+1)*i.size<=(n1+m1)*i.size:=mul_le_mul_right _ h2
            rw[add_mul,one_mul,add_mul]at hb3
            have:=hnews.2 (q-n1) (by omega)
            rw[append_assoc,drop_append,List.drop_of_length_le (by omega),nil_append,hlt,show q*i.size-n1*i.size=(q-n1)*i.size by rw[sub_mul],
             List.drop_append_of_le_length (by rw[hnl,sub_mul];omega),List.take_append_of_le_length (by rw[zlD,hnl,sub_mul];omega)]
            exact this
           rw[if_neg h2]
           have hb3:(n1+m1)*i.size<=q*i.size:=mul_le_mul_right _ (by omega)
           rw[add_mul]at hb3
           have:=hr.2 q hq
           rw[append_assoc,drop_append,List.drop_of_length_le (by omega),nil_append,hlt,drop_append,List.drop_of_length_le (by omega),nil_append,List.drop_drop,
            show n1*i.size+news.length+(q*i.size-n1*i.size-news.length)=q*i.size by omega]
           exact this
          have hcl:zC ρ1 [(t1,.arr N1 i.size (aV3 n1 m1 F1 G)),(0,.a8 [])] (d1.take (n1*i.size)++news++d1.drop (n1*i.size+news.length)):=
           ⟨_,[],(append_nil _).symm,by rw[hrows.1,<-hd1];exact g1,hrows,[],[],rfl,rfl,rfl,rfl⟩
          have hsz:zL [(t1,SV.arr N1 i.size F1),(0,SV.a8 [])]=t1:=by simp[zL]
          have hst:∃w',(Builtin.append_ #[t,xt] ty #[.slice y n1 cc,a.eval x]).run Γ.P w= .ok (.slice y (n1+m1) cc) w'/\yX (ρ1.pos a1).1 ((ρ1.pos a1).2+n1*i.size) news w w':=by
           rcases Nat.eq_zero_or_pos cc with h0|h0
           ·have hm0:m1=0:=by omega
            have hn:news=[]:=List.eq_nil_of_length_eq_zero (by rw[hnl,hm0];simp)
            subst hn
            have w0:yX (ρ1.pos a1).1 ((ρ1.pos a1).2+n1*i.size) [] w w:=⟨rfl,rfl,rfl,λ_ _=>rfl,λ_ _=>rfl,λj v h=>by simp at h,λ_ _ _=>rfl,λ_ _=>rfl⟩
            cases y with
            |none=>exact⟨w,hA.none n1 cc q1,w0⟩
            |some ad=>exact⟨w,hA.room ad n1 cc w q1 rfl,w0⟩
           have hy':=hy (by omega)
           subst hy'
           obtain⟨w',hr',hw⟩:=bw (P:=Γ.P) (b:=(ρ1.pos a1).1) (o:=(ρ1.pos a1).2+n1*i.size) news 0 w hone (λj hj=>by
            have:=c4 rfl (n1*i.size+j) (by rw[hsz,<-g1,hd1];rw[hnl]at hj;omega)
            rw[show(ρ1.pos a1).2+n1*i.size+(0+j)=(ρ1.pos a1).2+(n1*i.size+j) by omega]
            exact this)
           rw[add_zero]at hw
           refine⟨w',hA.room _ n1 cc w' q1 ?_,hw⟩
           have e5:ρ1.addr a1 0 0=⟨(ρ1.pos a1).1,(ρ1.pos a1).2+0,none⟩:=rfl
           have e6:(ρ1.addr a1 0 0).add (n1*i.size)=⟨(ρ1.pos a1).1,(ρ1.pos a1).2+n1*i.size,none⟩:=by rw[e5,fY,add_zero]
           first
            |(rw[e6];exact hr')
            |exact e6▸hr'
          obtain⟨w',hrun,hw⟩:=hst
          obtain⟨m2,m3⟩:=l2.write (sp':=sp1) hm hw (by rw[hsz,<-g1,hd1,hnl];omega) hcl (by simp[zL]) (λcs' k1 k2 j v hj=>by
           obtain⟨x1,x2,rfl,y1,y2,x3,x4,rfl,y3,y4,y5⟩:=k1
           have z3:x3=[]:=List.eq_nil_of_length_eq_zero y3
           have z4:x4=[]:=y5
           subst z3;subst z4
           simp only[append_nil]at k2 c3
           have hin:∀j,¬(n1*i.size<=j/\j<n1*i.size+news.length)->w'.cell? ⟨(ρ1.pos a1).1,(ρ1.pos a1).2+j,none⟩=w.cell? ⟨(ρ1.pos a1).1,(ρ1.pos a1).2+j,none⟩:=by
            intro j hn
            refine hw.old _ _ (λ_=>?_)
            omega
           rcases lt_or_ge j (n1*i.size)with hlt|hge
           ·rw[append_assoc,List.getElem?_append_left (by rw[zlT];omega),List.getElem?_take,if_pos hlt]at hj
            rw[hin j (by omega)];exact c3 j v hj
           rcases lt_or_ge j (n1*i.size+news.length)with hlt2|hge2
           ·rw[append_assoc,List.getElem?_append_right (by rw[zlT];omega),List.getElem?_append_left (by rw[zlT];omega),zlT,min_eq_left (by omega)]at hj
            have:=hw.new (j-n1*i.size) v hj
            rw[show(ρ1.pos a1).2+n1*i.size+(j-n1*i.size)=(ρ1.pos a1).2+j by omega]at this
            exact this
           rw[List.getElem?_append_right (by simp only[zlA,zlT];omega),List.getElem?_drop]at hj
           simp only[zlA,zlT]at hj
           rw[show n1*i.size+news.length+(j-(min (n1*i.size) d1.length+news.length))=j by omega]at hj
           rw[hin j (by omega)];exact c3 j v hj)
          exact⟨_,w',ρ1,hrun,l1,m2,l3.trans m3,zR ⟨hdom,q1,y,rfl,hy⟩⟩
         cases hdst
        cases hdst
       cases hdst
      cases hdst
     cases h
    cases h
   cases h
  cases h
 cases h
def aQ1:Builtin->Bool
 | .clear=>true
 |_=>false
def aIF (ty:Nat->Ty) (M:Mm) (T:Tm) (c:Go.Call):Option (List Prop×Nat×Ent):=
 match c.args.toList with
 | [s]=>match c.argTypes.toList with
  |[t]=>match(ty t).k with
   | .slice e=>bif !i6 (ty e).k then match ev T s with
    | .sl a f i n _=>match f with
     |0=>match iY (ty e) n with
      |some _=>match zG M a with
       |some (.mem true sp ls)=>match ls with
        |(_,.arr N es F)::_=>bif beq es (ty e).size then some ([i%es=0,i/es<=N,i+n*es<=zL ls+sp],a,.mem true (zL ls+sp-i) [(i/es*es,.arr (i/es) es F)])else none
        |_=>none
       |_=>none
      |none=>none
     |_=>none
    |_=>none
    else none
   |_=>none
  |_=>none
 |_=>none
theorem vh {Γ:Ctx} {N:Nat} {ρ:Env} {T:Tm} {M:Mm} {a:Act} {w:World} (hc:aZ N ρ T M a w) {c:Go.Call} {ps:List Prop} {b:Nat} {E:Ent} (h:aIF Γ.ty M T c=some (ps,b,E)) (hp:All ps) (T':TypeId):
  ∃w',(Builtin.clear_ c.argTypes T' (c.args.map a.eval)).run Γ.P w= .ok (.tuple #[]) w'/\zF ρ ((b,E)::M) w'/\aV ρ M ρ ((b,E)::M) w w':=by
 unfold aIF at h
 split at h
 ·rename_i s hargs
  have e1:c.args.map a.eval= #[a.eval s]:=by
   apply ext';simp[hargs]
  split at h
  ·rename_i t hts
   have e2:c.argTypes= #[t]:=by
    apply ext';simp[hts]
   rw[e1,e2]
   split at h
   ·rename_i e hk
    have ut:=zus (Γ.ok (t:=t) (by rw[hk];simp)) hk
    have hb:=(zn h).1
    replace h:=(zn h).2
    have hne:(Γ.ty e).k≠ .bad:=by intro e';rw[e']at hb;simp[i6]at hb
    split at h
    ·rename_i a1 f i n cc hs
     split at h
     ·split at h
      ·rename_i zl hz
       split at h
       ·rename_i sp ls hm
        split at h
        ·rename_i t0 N1 es F r
         have he:=zq (zn h).1
         replace h:=(zn h).2
         obtain⟨rfl,rfl,rfl⟩:=sC h
         have q0:=hp.head
         have q1:=hp.tail.head
         have q2:=hp.tail.tail.head
         obtain⟨z,_,zrun,zsz,zpos,zcl⟩:=gu (w:=w) (Γ.ok hne) hz ρ
         have hone:=zcl.one
         have hlen:(madeCells z.cells (n*(Γ.ty e).size)).toList.length=n*(Γ.ty e).size:=ap _ _
         have hrs:=zev hc s
         rw[hs]at hrs
         obtain⟨hdom,hnc,y,hv,hy⟩:=hrs
         rw[hv]
         obtain⟨cs,c1,c2,c3,c4⟩:=hc.tozF.sat a1 _ hm
         have c4:=c4 rfl
         obtain⟨d1,d2,rfl,g1,g2,g3⟩:=c1
         have hr:Rows ρ N1 N1 F d1\/Rows ρ es N1 F d1:=Or.inr g2
         have hr:Rows ρ es N1 F d1:=g2
         have hd1:=hr.1
         have hi:i/es*es=i:=by have:=Nat.div_add_mod i es;rw[q0,add_zero,Nat.mul_comm]at this;exact this
         have hle:i/es*es<=N1*es:=mul_le_mul_right _ q1
         have hrows:Rows ρ es (i/es) F (d1.take (i/es*es)):=by
          refine⟨by rw[zlT,hd1];omega,λq hq=>?_⟩
          have hb1:(q+1)*es<=i/es*es:=mul_le_mul_right _ hq
          rw[add_mul,one_mul]at hb1
          have:=hr.2 q (by omega)
          rw[drop_take,take_take,min_eq_left (by omega)]
          exact this
         have hcl:zC ρ [(i/es*es,.arr (i/es) es F)] (d1.take (i/es*es)):=⟨_,[],(append_nil _).symm,by rw[zlT,hd1];omega,hrows,rfl⟩
         have hst:∃w',(Builtin.clear_ #[t] T' #[.slice y n cc]).run Γ.P w= .ok (.tuple #[]) w'/\∃nc:List Value,yX (ρ.pos a1).1 ((ρ.pos a1).2+i) nc w w'/\nc.length<=n*es:=by
          rcases Nat.eq_zero_or_pos n with h0|h0
          ·subst h0
           refine⟨w,?_,[],⟨rfl,rfl,rfl,λ_ _=>rfl,λ_ _=>rfl,λj v h=>by simp at h,λ_ _ _=>rfl,λ_ _=>rfl⟩,Nat.zero_le _⟩
           unfold Builtin.clear_
           simp only[List.getElem?_toArray,List.getElem?_cons_zero,Sem.run_bind,zru ut,Result.andThen_ok]
           cases y<;>rfl
          have hy':=hy (by omega)
          subst hy'
          obtain⟨w',hr',hw⟩:=bw (P:=Γ.P) (b:=(ρ.pos a1).1) (o:=(ρ.pos a1).2+i) _ 0 w hone (λj hj=>by
           have:=c4 (i+j) (by rw[hlen,<-he]at hj;omega)
           rw[show(ρ.pos a1).2+i+(0+j)=(ρ.pos a1).2+(i+j) by omega]
           exact this)
          rw[add_zero]at hw
          refine⟨w',?_,_,hw,by rw[hlen,he];exact le_refl _⟩
          obtain⟨m,rfl⟩:∃m,n=m+1:=⟨n-1,by omega⟩
          have e5:ρ.addr a1 0 i=⟨(ρ.pos a1).1,(ρ.pos a1).2+i,none⟩:=by rw[aN,zero_add]
          have e6:Builtin.zeroCells z.cells (m+1)=madeCells z.cells ((m+1)*(Γ.ty e).size):=by rw[<-zsz];rfl
          unfold Builtin.clear_
          simp only[List.getElem?_toArray,List.getElem?_cons_zero,Sem.run_bind,zru ut,Result.andThen_ok,zrun,e5,e6,hr']
          rfl
         obtain⟨w',hrun,nc,hw,hnc2⟩:=hst
         refine⟨w',hrun,?_⟩
         have hsz:zL [(i/es*es,SV.arr (i/es) es F)]=i/es*es:=by simp[zL]
         exact hc.tozF.write hm hw (by omega) hcl (by rw[hsz];omega) (λcs' k1 k2 j v hj=>by
          have hj2:j<i/es*es:=by
           have:=(List.getElem?_eq_some_iff.1 hj).1
           rw[zlT]at this;omega
          rw[List.getElem?_take,if_pos hj2]at hj
          rw[hw.old _ _ (λ_=>by omega)]
          exact c3 j v (by rw[List.getElem?_append_left (List.getElem?_eq_some_iff.1 hj).1];exact hj))
        cases h
       cases h
      cases h
     cases h
    cases h
   cases h
  cases h
 cases h
end Go.Sx
