/- Executor, part 3. No condition. -/
import Derived.Test.YtaehfiohjkiajaaGreatHx2
import Derived.Laws.World
set_option linter.unusedSimpArgs false
set_option linter.unusedVariables false
set_option autoImplicit true
set_option relaxedAutoImplicit true
open Nat (beq le_refl add_comm blt ble zero_add add_mul lt_or_ge add_zero min_eq_left one_mul)
open List (length_map drop_of_length_le map_set map_take map_drop nil_append append_nil drop_drop drop_append)
open Option (getD_none)
namespace Go.Sx
open Go
theorem zh (d:Nat) (e:Ent) (M:Mm):zG ((d,e)::M) d=some e:=by
 simp only[zG,show beq d d=true from Nat.beq_refl d,zcT]
theorem zg (h:a≠d) (e:Ent) (M:Mm):zG ((d,e)::M) a=zG M a:=by
 simp only[zG];have:beq a d=false:=by
  cases hb:beq a d with
  |false=>rfl
  |true=>exact absurd (zq hb) h
 rw[this,zcF]
theorem aK (d:Nat) (v:SV) (T:Tm):zX ((d,v)::T) d=v:=by
 simp only[zX,show beq d d=true from Nat.beq_refl d,zcT]
theorem aS (h:a≠d) (v:SV) (T:Tm):zX ((d,v)::T) a=zX T a:=by
 simp only[zX];have:beq a d=false:=by
  cases hb:beq a d with
  |false=>rfl
  |true=>exact absurd (zq hb) h
 rw[this,zcF]
theorem aZ.put (hc:aZ N ρ T M a w) (hd:d<N) (hr:zRT ρ v x):
  aZ N ρ ((d,v)::T) M (a.put (some d) x) w where
 tozF:=hc.tozF
 sz:=by simp[Act.put,hc.sz]
 defers:=hc.defers
 tm e:=by
  by_cases he:e=d
  .subst he
   rw[aK];have:(a.put (some e) x).tmps.getD e undef=x:=by
    simp[Act.put,Array.getD_eq_getD_getElem?,hc.sz,hd]
   rw[this];exact hr
  rw[aS he];have:(a.put (some d) x).tmps.getD e undef=a.tmps.getD e undef:=by
   simp only[Act.put,Array.getD_eq_getD_getElem?];rw[Array.getElem?_setIfInBounds_ne (λh=>he h.symm)]
  rw[this];exact hc.tm e
theorem aZ.put_none (hc:aZ N ρ T M a w) (x:Value):aZ N ρ T M (a.put none x) w:=hc
theorem aZ.of_mem (hc:aZ N ρ T M a w) (hρ:ρ.le ρ') (h:zF ρ' M' w'):aZ N ρ' T M' a w' where
 tozF:=h
 sz:=hc.sz
 defers:=hc.defers
 tm e:=(hc.tm e).le hρ
def Env.add (ρ:Env) (d:Nat) (p:Nat×Nat):Env:=⟨λa=>a=d\/ρ.dom a,λa=>if a=d then p else ρ.pos a,ρ.imm⟩
theorem Env.le_add {ρ:Env} {d:Nat} (p:Nat×Nat) (h:¬ρ.dom d):ρ.le (ρ.add d p):=by
 refine⟨λa ha=>⟨Or.inr ha,?_⟩,λ_ _ _ h=>h⟩;simp only[Env.add];rw[if_neg (by rintro rfl;exact h ha)]
theorem vG {w:World} {o:Obj} {b:Nat} (h:b<w.heap.size):(w.alloc o).heap[b]? =w.heap[b]?:=by
 show(w.heap.push o)[b]? =_;rw[Array.getElem?_push,if_neg (by omega)]
theorem iP (h:mB ρ w pos e) (hf:eJ pos e b o):b<w.heap.size:=by
 cases e with
 |dead=>exact hf.elim
 |mem own sp ls=>obtain⟨_,_,h2,_⟩:=h;obtain⟨f1,f2,f3⟩:=hf;rw[f1];exact h2.1 (by omega)
 |map m=>obtain⟨_,_,h1,_⟩:=h;rw[show b=pos.1 from hf];exact(Array.getElem?_eq_some_iff.1 h1).1
theorem q8 (w:World) (c:Array Value) (t:TypeId) (j:Nat):iO (w.alloc (.cells c t)) ⟨w.heap.size,j,none⟩=false:=by
 have h1:(w.alloc (.cells c t)).heap[w.heap.size]? =some (.cells c t):=by
  show(w.heap.push _)[w.heap.size]? =_;exact Array.getElem?_push_size
 simp only[iO,h1];simp
structure eW (w w':World):Prop where
 size:w.heap.size<=w'.heap.size
 os:w'.os=w.os
 output:w'.output=w.output
 blk:∀b,b<w.heap.size->w'.heap[b]? =w.heap[b]?
theorem eW.refl (w:World):eW w w:=⟨le_refl _,rfl,rfl,λ_ _=>rfl⟩
theorem eW.trans (h:eW a b) (k:eW b c):eW a c:=
 ⟨Nat.le_trans h.size k.size,k.os.trans h.os,k.output.trans h.output,λx hx=>(k.blk x (Nat.lt_of_lt_of_le hx h.size)).trans (h.blk x hx)⟩
theorem eW.alloc (w:World) (c:Array Value) (t:TypeId):eW w (w.alloc (.cells c t)):=⟨by simp,rfl,rfl,λ_ h=>vG h⟩
theorem eW.drew (w:World):eW w {w with drawn:=w.drawn+1}:=⟨le_refl _,rfl,rfl,λ_ _=>rfl⟩
theorem eW.cell (h:eW w w') (hb:b<w.heap.size):w'.cell? ⟨b,o,none⟩=w.cell? ⟨b,o,none⟩/\iO w' ⟨b,o,none⟩=iO w ⟨b,o,none⟩:=by
 simp only[World.cell?,iO,h.blk b hb,and_self]
theorem mB.grows (hρ:ρ.le ρ') (hg:eW w w') (h:mB ρ w pos e):mB ρ' w' pos e:=
 mB.of_same hρ hg.size (λ_ _ hf=>hg.cell (iP h hf)) (λb hb _=>hg.blk b hb) h
theorem zF.grows (h:zF ρ M w) (hg:eW w w'):zF ρ M w':=
 ⟨h.dom,h.mod,λa e he=>(h.sat a e he).grows (Env.le_refl _) hg,h.sep,λb o ls hi=>(h.imm b o ls hi).keep (λ_ _ _ h=>h) hg.size (λ_ _=>(hg.cell ((h.imm b o ls hi).1 (by omega))).1),h.isep⟩
theorem aZ.grows (h:aZ N ρ T M a w) (hg:eW w w'):aZ N ρ T M a w':=
 h.of_mem (Env.le_refl _) (h.tozF.grows hg)
theorem eW.step (h:eW w w'):aV ρ M ρ M w w':=
 ⟨h.size,h.os,h.output,λb hb _=>h.blk b hb,λ_ _ hb _=>h.cell hb,λ_ _ _ h=>h,λ_ _ _ h=>Or.inl h⟩
theorem zF.alloc {ρ:Env} {M:Mm} {w:World} (h:zF ρ M w) {d:Nat} (hd:zG M d=none) {cs:List Value} {cells:Array Value} {t:TypeId} {ls:List (Nat×SV)} {sp:Nat}
  (hcs:zC ρ ls cs) (hcell:∀(j:Nat) (v:Value),cs[j]? =some v->cells[j]? =some v) (hsize:cells.size=cs.length+sp):
  ρ.le (ρ.add d (w.heap.size,0))/\zF (ρ.add d (w.heap.size,0)) ((d,.mem true sp ls)::M) (w.alloc (.cells cells t))/\aV ρ M (ρ.add d (w.heap.size,0)) ((d,.mem true sp ls)::M) w (w.alloc (.cells cells t)):=by
 have hnd:¬ρ.dom d:=by
  intro hx;obtain⟨e,he⟩:=h.dom d hx;rw[hd]at he;cases he
 have hle:=Env.le_add (w.heap.size,0) hnd;have pne:∀{a},a≠d->(ρ.add d (w.heap.size,0)).pos a=ρ.pos a:=by
  intro a ha;simp only[Env.add];rw[if_neg ha]
 have pd:(ρ.add d (w.heap.size,0)).pos d=(w.heap.size,0):=by simp[Env.add]
 have hg:=eW.alloc w cells t;have hfoot:∀k o,eJ ((ρ.add d (w.heap.size,0)).pos d) (.mem true sp ls) k o->k=w.heap.size:=by
  intro k o hf;rw[pd]at hf;exact hf.1
 have hold:∀a e,zG M a=some e->∀k o,eJ ((ρ.add d (w.heap.size,0)).pos a) e k o->k<w.heap.size:=by
  intro a e he k o hf;have hne:a≠d:=by rintro rfl;rw[hd]at he;cases he
  rw[pne hne]at hf;exact iP (h.sat a e he) hf
 have ownN:∀b o,b<w.heap.size->eU (ρ.add d (w.heap.size,0)) ((d,.mem true sp ls)::M) b o->eU ρ M b o:=by
  intro b o hb ho;obtain⟨a,e,he,hown,hf⟩:=ho;by_cases ha:a=d
  .subst ha
   rw[zh]at he;obtain rfl:Ent.mem true sp ls=e:=by simpa using he
   have:=hfoot b o hf;omega
  rw[zg ha]at he;rw[pne ha]at hf;exact⟨a,e,he,hown,hf⟩
 refine⟨hle,⟨?_,?_,?_,?_,λb o ls hi=>(h.imm b o ls hi).keep (λ_ _ _ h=>h) hg.size (λ_ _=>(hg.cell ((h.imm b o ls hi).1 (by omega))).1),λb o hi ho=>h.isep b o hi (ownN b o (h.immc_lt (ρ:=ρ) hi) ho)⟩,?_⟩
 .intro a ha
  by_cases hne:a=d
  .subst hne;exact⟨_,zh _ _ _⟩
  rw[zg hne];exact h.dom a (ha.resolve_left hne)
 .intro a e he
  by_cases hne:a=d
  .exact Or.inl hne
  rw[zg hne]at he;exact Or.inr (h.mod a e he)
 .intro a e he
  by_cases hne:a=d
  .subst hne
   rw[zh]at he;obtain rfl:Ent.mem true sp ls=e:=by simpa using he
   rw[pd];refine⟨cs,hcs.le hle,⟨by simp,λhh=>by cases hh⟩,λj v hj=>?_,λho j hj=>?_⟩
   .rw[zero_add,World.cell?_alloc_new];exact hcell j v hj
   rw[zero_add,World.cell?_alloc_new,q8];have hlt:j<cells.size:=by rw[hsize,hcs.length];exact hj
   exact⟨⟨cells[j],by simp[hlt]⟩,rfl⟩
  rw[zg hne]at he;rw[pne hne];exact(h.sat a e he).grows hle hg
 .intro a b e e' he he' hab ho k o hf hf'
  by_cases ha:a=d
  .subst ha
   have hb:b≠a:=λe=>hab e.symm;rw[zg hb]at he';rw[zh]at he;obtain rfl:Ent.mem true sp ls=e:=by simpa using he
   have h1:=hfoot k o hf;have h2:=hold b e' he' k o hf';omega
  rw[zg ha]at he;by_cases hb:b=d
  .subst hb
   rw[zh]at he';obtain rfl:Ent.mem true sp ls=e':=by simpa using he'
   have h1:=hfoot k o hf';have h2:=hold a e he k o hf;omega
  rw[zg hb]at he';rw[pne ha]at hf;rw[pne hb]at hf';exact h.sep a b e e' he he' hab ho k o hf hf'
 refine⟨hg.size,rfl,rfl,λb hb _=>hg.blk b hb,λb o hb _=>hg.cell hb,λb o hb ho=>ownN b o hb ho,λ_ _ _ h=>Or.inl h⟩
theorem eW.allocO (w:World) (o:Obj):eW w (w.alloc o):=⟨by simp,rfl,rfl,λ_ h=>vG h⟩
theorem zF.allocMap {ρ:Env} {M:Mm} {w:World} (h:zF ρ M w) {d:Nat} (hd:zG M d=none):
  ρ.le (ρ.add d (w.heap.size,0))/\zF (ρ.add d (w.heap.size,0)) ((d,.map (.si []))::M) (w.alloc (.map #[] 0))/\aV ρ M (ρ.add d (w.heap.size,0)) ((d,.map (.si []))::M) w (w.alloc (.map #[] 0)):=by
 have hnd:¬ρ.dom d:=by
  intro hx;obtain⟨e,he⟩:=h.dom d hx;rw[hd]at he;cases he
 have hle:=Env.le_add (w.heap.size,0) hnd;have pne:∀{a},a≠d->(ρ.add d (w.heap.size,0)).pos a=ρ.pos a:=by
  intro a ha;simp only[Env.add];rw[if_neg ha]
 have pd:(ρ.add d (w.heap.size,0)).pos d=(w.heap.size,0):=by simp[Env.add]
 have hg:=eW.allocO w (.map #[] 0);have hfoot:∀k o,eJ ((ρ.add d (w.heap.size,0)).pos d) (.map (.si [])) k o->k=w.heap.size:=by
  intro k o hf;rw[pd]at hf;exact hf
 have hold:∀a e,zG M a=some e->∀k o,eJ ((ρ.add d (w.heap.size,0)).pos a) e k o->k<w.heap.size:=by
  intro a e he k o hf;have hne:a≠d:=by rintro rfl;rw[hd]at he;cases he
  rw[pne hne]at hf;exact iP (h.sat a e he) hf
 have ownN:∀b o,b<w.heap.size->eU (ρ.add d (w.heap.size,0)) ((d,.map (.si []))::M) b o->eU ρ M b o:=by
  intro b o hb ho;obtain⟨a,e,he,hown,hf⟩:=ho;by_cases ha:a=d
  .subst ha
   rw[zh]at he;obtain rfl:Ent.map (.si [])=e:=by simpa using he
   have:=hfoot b o hf;omega
  rw[zg ha]at he;rw[pne ha]at hf;exact⟨a,e,he,hown,hf⟩
 refine⟨hle,⟨?_,?_,?_,?_,λb o ls hi=>(h.imm b o ls hi).keep (λ_ _ _ h=>h) hg.size (λ_ _=>(hg.cell ((h.imm b o ls hi).1 (by omega))).1),λb o hi ho=>h.isep b o hi (ownN b o (h.immc_lt (ρ:=ρ) hi) ho)⟩,?_⟩
 .intro a ha
  by_cases hne:a=d
  .subst hne;exact⟨_,zh _ _ _⟩
  rw[zg hne];exact h.dom a (ha.resolve_left hne)
 .intro a e he
  by_cases hne:a=d
  .exact Or.inl hne
  rw[zg hne]at he;exact Or.inr (h.mod a e he)
 .intro a e he
  by_cases hne:a=d
  .subst hne
   rw[zh]at he;obtain rfl:Ent.map (.si [])=e:=by simpa using he
   rw[pd];refine⟨#[],0,?_,rfl⟩;show(w.heap.push _)[w.heap.size]? =_;exact Array.getElem?_push_size
  rw[zg hne]at he;rw[pne hne];exact(h.sat a e he).grows hle hg
 .intro a b e e' he he' hab ho k o hf hf'
  by_cases ha:a=d
  .subst ha
   have hb:b≠a:=λe=>hab e.symm;rw[zg hb]at he';rw[zh]at he;obtain rfl:Ent.map (.si [])=e:=by simpa using he
   have h1:=hfoot k o hf;have h2:=hold b e' he' k o hf';omega
  rw[zg ha]at he;by_cases hb:b=d
  .subst hb
   rw[zh]at he';obtain rfl:Ent.map (.si [])=e':=by simpa using he'
   have h1:=hfoot k o hf';have h2:=hold a e he k o hf;omega
  rw[zg hb]at he';rw[pne ha]at hf;rw[pne hb]at hf';exact h.sep a b e e' he he' hab ho k o hf hf'
 refine⟨hg.size,rfl,rfl,λb hb _=>hg.blk b hb,λb o hb _=>hg.cell hb,λb o hb ho=>ownN b o hb ho,λ_ _ _ h=>Or.inl h⟩
theorem zF.setMap (h:zF ρ M w) (ha:zG M a=some (.map m)) (hm:m'.Is es.toList):
  zF ρ ((a,.map m')::M) {w with heap:=w.heap.setIfInBounds (ρ.pos a).1 (.map es clock)}/\aV ρ M ρ ((a,.map m')::M) w {w with heap:=w.heap.setIfInBounds (ρ.pos a).1 (.map es clock)}:=by
 generalize hw:({w with heap:=w.heap.setIfInBounds (ρ.pos a).1 (.map es clock)}:World)=w';obtain⟨es0,clock0,hb0,_⟩:=h.sat a _ ha;have hlt:(ρ.pos a).1<w.heap.size:=(Array.getElem?_eq_some_iff.1 hb0).1;have hsz:w'.heap.size=w.heap.size:=by rw[<-hw];simp
 have hother:∀k,k≠(ρ.pos a).1->w'.heap[k]? =w.heap[k]?:=by
  intro k hk;rw[<-hw];simp only[Array.getElem?_setIfInBounds];rw[if_neg (λe=>hk e.symm)]
 have hself:w'.heap[(ρ.pos a).1]? =some (.map es clock):=by
  rw[<-hw];simp only[Array.getElem?_setIfInBounds];rw[if_pos trivial,if_pos hlt]
 have hcell:∀k o,w'.cell? ⟨k,o,none⟩=w.cell? ⟨k,o,none⟩/\iO w' ⟨k,o,none⟩=iO w ⟨k,o,none⟩:=by
  intro k o;by_cases hk:k=(ρ.pos a).1
  .subst hk
   simp only[World.cell?,iO,hself,hb0,and_self]
  simp only[World.cell?,iO,hother k hk,and_self]
 have ownN:∀b o,eU ρ ((a,.map m')::M) b o->eU ρ M b o:=by
  rintro b o ⟨c,e,he,hown,hf⟩;by_cases hc:c=a
  .subst hc
   rw[zh]at he;obtain rfl:Ent.map m'=e:=by simpa using he
   exact⟨c,_,ha,rfl,hf⟩
  rw[zg hc]at he;exact⟨c,e,he,hown,hf⟩
 refine⟨⟨λb hb=>?_,λb e he=>?_,λb e he=>?_,λb c e e' he he' hbc ho k o hf hf'=>?_,λb o ls hi=>(h.imm b o ls hi).keep (λ_ _ _ h=>h) (by rw[hsz];exact le_refl _) (λj hj=>(hcell _ _).1),λb o hi ho=>h.isep b o hi (ownN b o ho)⟩,
  ⟨by rw[hsz];exact le_refl _,by rw[<-hw],by rw[<-hw],λb hb hn=>hother b λe=>hn 0 ⟨a,_,ha,rfl,e⟩,λb o _ _=>hcell b o,λb o _ ho=>ownN b o ho,λ_ _ _ h=>Or.inl h⟩⟩
 .by_cases hne:b=a
  .subst hne;exact⟨_,zh _ _ _⟩
  rw[zg hne];exact h.dom b hb
 .by_cases hne:b=a
  .subst hne;exact h.mod _ _ ha
  rw[zg hne]at he;exact h.mod b e he
 .by_cases hne:b=a
  .subst hne
   rw[zh]at he;obtain rfl:Ent.map m'=e:=by simpa using he
   exact⟨es,clock,hself,hm⟩
  rw[zg hne]at he;refine mB.of_same (Env.le_refl _) (by rw[hsz];exact le_refl _) (λk o _=>hcell k o) (λk hk hf=>hother k λe0=>?_) (h.sat b e he);subst e0;exact h.sep a b _ e ha he (λe=>hne e.symm) rfl _ 0 rfl (hf 0)
 by_cases hb:b=a
 .subst hb
  have hc:c≠b:=λe=>hbc e.symm;rw[zh]at he;obtain rfl:Ent.map m'=e:=by simpa using he
  rw[zg hc]at he';exact h.sep b c _ e' ha he' hbc rfl k o hf hf'
 rw[zg hb]at he;by_cases hc:c=a
 .subst hc
  rw[zh]at he';obtain rfl:Ent.map m'=e':=by simpa using he'
  exact h.sep b c e _ he ha hbc ho k o hf hf'
 rw[zg hc]at he';exact h.sep b c e e' he he' hbc ho k o hf hf'
theorem zF.write (h:zF ρ M w) (ha:zG M a=some (.mem true sp ls))
  (hw:yX (ρ.pos a).1 ((ρ.pos a).2+q) nc w w') (hq:q+nc.length<=zL ls+sp) (hc':zC ρ ls' cs') (htot:zL ls'+sp'=zL ls+sp)
  (hcs:∀cs,zC ρ ls cs->(∀(j:Nat) (v:Value),cs[j]? =some v->w.cell? ⟨(ρ.pos a).1,(ρ.pos a).2+j,none⟩=some v)->∀(j:Nat) (v:Value),cs'[j]? =some v->w'.cell? ⟨(ρ.pos a).1,(ρ.pos a).2+j,none⟩=some v):
  zF ρ ((a,.mem true sp' ls')::M) w'/\aV ρ M ρ ((a,.mem true sp' ls')::M) w w':=by
 obtain⟨cs,c1,c2,c3,c4⟩:=h.sat a _ ha;have c4:=c4 rfl;have hfoot:∀k o,eJ (ρ.pos a) (.mem true sp' ls') k o↔eJ (ρ.pos a) (.mem true sp ls) k o:=by
  intro k o;simp only[eJ,if_true,htot]
 have hin:∀p,(ρ.pos a).2+q<=p->p<(ρ.pos a).2+q+nc.length->eJ (ρ.pos a) (.mem true sp ls) (ρ.pos a).1 p:=by
  intro p h1 h2;exact⟨rfl,by omega,by simp only[if_true];omega⟩
 have hout:∀k p,¬eJ (ρ.pos a) (.mem true sp ls) k p->w'.cell? ⟨k,p,none⟩=w.cell? ⟨k,p,none⟩:=by
  intro k p hn;refine hw.old k p λhk=>?_;subst hk;rcases lt_or_ge p ((ρ.pos a).2+q)with h1|h1
  .exact Or.inl h1
  rcases lt_or_ge p ((ρ.pos a).2+q+nc.length)with h2|h2
  .exact absurd (hin p h1 h2) hn
  exact Or.inr h2
 have ownN:∀b o,eU ρ ((a,.mem true sp' ls')::M) b o->eU ρ M b o:=by
  intro b o ho;obtain⟨c,e,he,hown,hf⟩:=ho;by_cases hc:c=a
  .subst hc
   rw[zh]at he;obtain rfl:Ent.mem true sp' ls'=e:=by simpa using he
   exact⟨c,_,ha,rfl,(hfoot b o).1 hf⟩
  rw[zg hc]at he;exact⟨c,e,he,hown,hf⟩
 refine⟨⟨?_,?_,?_,?_,λb o ls hi=>(h.imm b o ls hi).keep (λ_ _ _ h=>h) (by rw[hw.size];exact le_refl _) (λj hj=>hout _ _ λhf=>h.isep b (o+j) (rE.mk hi hj) ⟨a,_,ha,rfl,hf⟩),
  λb o hi ho=>h.isep b o hi (ownN b o ho)⟩,?_⟩
 .intro b hb
  by_cases hne:b=a
  .subst hne;exact⟨_,zh _ _ _⟩
  rw[zg hne];exact h.dom b hb
 .intro b e he
  by_cases hne:b=a
  .subst hne;exact h.mod _ _ ha
  rw[zg hne]at he;exact h.mod b e he
 .intro b e he
  by_cases hne:b=a
  .subst hne
   rw[zh]at he;obtain rfl:Ent.mem true sp' ls'=e:=by simpa using he
   refine⟨cs',hc',⟨by rw[hw.size];simp only[if_true,htot]at c2⊢;exact c2.1,λhh=>by cases hh⟩,hcs cs c1 c3,λ_ j hj=>?_⟩;rw[htot]at hj;refine⟨?_,by rw[hw.frz];exact(c4 j hj).2⟩;rcases lt_or_ge j q with h1|h1
   .rw[hw.old _ _ (λ_=>Or.inl (by omega))];exact(c4 j hj).1
   rcases lt_or_ge j (q+nc.length)with h2|h2
   .refine⟨nc[j-q],?_⟩
    have:=hw.new (j-q) nc[j-q] (by simp);rw[show(ρ.pos b).2+q+(j-q)=(ρ.pos b).2+j by omega]at this;exact this
   rw[hw.old _ _ (λ_=>Or.inr (by omega))];exact(c4 j hj).1
  rw[zg hne]at he;refine mB.of_same (Env.le_refl _) (by rw[hw.size];exact le_refl _) (λk o hf=>⟨hout k o λhf'=>?_,hw.frz k o⟩) (λk hk hf=>?_) (h.sat b e he)
  .exact h.sep a b _ e ha he (λe=>hne e.symm) rfl k o hf' hf
  rcases Nat.eq_zero_or_pos nc.length with hz|hz
  .by_cases hba:k=(ρ.pos a).1
   .exact hw.blk0 hz k
   exact hw.blk k hba
  refine hw.blk k λhba=>?_;subst hba;exact h.sep a b _ e ha he (λe=>hne e.symm) rfl _ _ (hin ((ρ.pos a).2+q) (le_refl _) (by omega)) (hf _)
 .intro b c e e' he he' hbc ho k o hf hf'
  by_cases hb:b=a
  .subst hb
   have hc:c≠b:=λe=>hbc e.symm;rw[zh]at he;obtain rfl:Ent.mem true sp' ls'=e:=by simpa using he
   rw[zg hc]at he';exact h.sep b c _ e' ha he' hbc rfl k o ((hfoot k o).1 hf) hf'
  rw[zg hb]at he;by_cases hc:c=a
  .subst hc
   rw[zh]at he';obtain rfl:Ent.mem true sp' ls'=e':=by simpa using he'
   exact h.sep b c e _ he ha hbc ho k o hf ((hfoot k o).1 hf')
  rw[zg hc]at he';exact h.sep b c e e' he he' hbc ho k o hf hf'
 refine⟨by rw[hw.size];exact le_refl _,hw.os,hw.output,λb hb hn=>?_,λb o hb hn=>⟨?_,hw.frz b o⟩,λb o _ ho=>ownN b o ho,λ_ _ _ h=>Or.inl h⟩
 .rcases Nat.eq_zero_or_pos nc.length with hz|hz
  .by_cases hba:b=(ρ.pos a).1
   .exact hw.blk0 hz b
   exact hw.blk b hba
  refine hw.blk b λhba=>?_;subst hba;exact hn ((ρ.pos a).2+q) ⟨a,_,ha,rfl,hin _ (le_refl _) (by omega)⟩
 exact hout b o λhf=>hn ⟨a,_,ha,rfl,hf⟩
def yQ:SV->Bool
 | .tt| .ff| .bool _| .u8 _| .u16 _| .u32 _| .u64 _| .i _ _| .str _| .nilp| .nsl| .nilmp| .raw _| .isl _ _ _ _| .iep _ _ _ _=>true
 | .a8 _| .a16 _| .a32 _| .a64 _| .ai _=>true
 |_=>false
def aIO (v:SV):SV:=
 match v with
 | .tt=>.bool True
 | .ff=>.bool False
 |v=>v
theorem qV (h:cg ρ v x):cg ρ (aIO v) x:=by
 cases v<;>first|exact h|exact⟨true,h,by simp⟩|exact⟨false,h,by simp⟩
theorem aIN:aq (aIO v)=aq v:=by cases v<;>rfl
theorem yH (h:fb ρ v cs):fb ρ (aIO v) cs:=by
 cases v<;>first
  |exact h
  |(obtain⟨x,h1,h2⟩:=h;exact⟨x,qV (v:=.tt) h1,h2⟩)
  |(obtain⟨x,h1,h2⟩:=h;exact⟨x,qV (v:=.ff) h1,h2⟩)
def aRV (l:List (Nat×SV)):List (Nat×SV):=
 match l with
 |[(s,v)]=>[(s,aIO v)]
 |l=>l
theorem yI (h:bH ρ l cs):bH ρ (aRV l) cs:=by
 match l,h with
 |[],h=>exact h
 |[(s,v)],⟨c1,c2,e,hl,h1,h2⟩=>exact⟨c1,c2,e,hl,yH h1,h2⟩
 |_::_::_,h=>exact h
def yR:List (Nat×SV)->Bool
 |[]=>true
 |(_,v)::r=>yQ v&&yR r
def nh:List (Nat×SV)->Bool
 |[]=>true
 |(_,v)::r=>!i5 v&&nh r
theorem qW (hv:yQ v=true) (h:zD ρ v cs):fb ρ.bare v cs:=by
 cases v<;>first|exact h|(cases hv;done)
theorem aIW (hv:yQ v=true) (h:cg ρ v x):cg ρ.bare v x:=by
 cases v<;>first|exact h|(cases hv;done)
theorem dW:∀{ls:List (Nat×SV)} (_:yR ls=true) {cs:List Value},zC ρ ls cs->bH ρ.bare ls cs
 |[],_,_,h=>h
 |(_,_)::_,hb,_,⟨c1,c2,e,hl,h1,h2⟩=>by
  simp only[yR,zbA]at hb;exact⟨c1,c2,e,hl,qW hb.1 h1,dW hb.2 h2⟩
theorem pU:∀{ls:List (Nat×SV)} (_:nh ls=true) {cs:List Value},zC ρ ls cs->bH ρ ls cs
 |[],_,_,h=>h
 |(_,v)::_,hb,_,⟨c1,c2,e,hl,h1,h2⟩=>by
  simp only[nh,zbA,Bool.not_eq_true']at hb;refine⟨c1,c2,e,hl,?_,pU hb.2 h2⟩;cases v<;>first|exact h1|(cases hb.1;done)
def ow (u:SV) (s off:Nat) (i:Option Nat) (v:SV):Option (List Prop×SV):=
 match u,v with
 | .a8 l,.u8 b=>match i with
  |none=>bif blt off s then some ([],.a8 (l.set off b))else none
  |some i=>match off with
   |0=>some ([i<s],.a8 (l.set i b))
   |o=>some ([i+o<s],.a8 (l.set (i+o) b))
 | .a16 l,.u16 b=>match i with
  |none=>bif blt off s then some ([],.a16 (l.set off b))else none
  |some i=>match off with
   |0=>some ([i<s],.a16 (l.set i b))
   |o=>some ([i+o<s],.a16 (l.set (i+o) b))
 | .a32 l,.u32 b=>match i with
  |none=>bif blt off s then some ([],.a32 (l.set off b))else none
  |some i=>match off with
   |0=>some ([i<s],.a32 (l.set i b))
   |o=>some ([i+o<s],.a32 (l.set (i+o) b))
 | .a64 l,.u64 b=>match i with
  |none=>bif blt off s then some ([],.a64 (l.set off b))else none
  |some i=>match off with
   |0=>some ([i<s],.a64 (l.set i b))
   |o=>some ([i+o<s],.a64 (l.set (i+o) b))
 | .ai l,.i .i64 b=>match i with
  |none=>bif blt off s then some ([],.ai (l.set off b))else none
  |some i=>match off with
   |0=>some ([i<s],.ai (l.set i b))
   |o=>some ([i+o<s],.ai (l.set (i+o) b))
 | .arr n es F,v=>match i with
  |none=>none
  |some j=>match es with
   |1=>match off with
    |0=>bif yQ v&& !aq v then some ([j<n],.arr n 1 (λq=>if q=j then[(1,aIO v)]else F q))else none
    |_=>none
   |_=>none
 |u,v=>bif aq u then none else match i,off with
  |none,0=>match v with
   | .und| .agg _| .tup _| .arr _ _ _=>none
   |v=>bif aq v then none else some ([],v)
  |_,_=>none
def gT (u:SV) (s off:Nat) (i:Option Nat) (n:Nat) (v:SV):Option (List Prop×SV):=
 match u,v with
 | .a8 l,.a8 m=>match i with
  |none=>match off with
   |0=>bif beq n s then some ([m.length=n],.a8 m)else bif ble n s then some ([m.length=n],.a8 (m++l.drop n))else none
   |o=>bif ble (o+n) s then some ([m.length=n],.a8 (l.take o++m++l.drop (o+n)))else none
  |some i=>match off with
   |0=>some ([m.length=n,i+n<=s],.a8 (l.take i++m++l.drop (i+n)))
   |o=>some ([m.length=n,i+o+n<=s],.a8 (l.take (i+o)++m++l.drop (i+o+n)))
 | .a16 l,.a16 m=>match i with
  |none=>match off with
   |0=>bif beq n s then some ([m.length=n],.a16 m)else bif ble n s then some ([m.length=n],.a16 (m++l.drop n))else none
   |o=>bif ble (o+n) s then some ([m.length=n],.a16 (l.take o++m++l.drop (o+n)))else none
  |some i=>match off with
   |0=>some ([m.length=n,i+n<=s],.a16 (l.take i++m++l.drop (i+n)))
   |o=>some ([m.length=n,i+o+n<=s],.a16 (l.take (i+o)++m++l.drop (i+o+n)))
 | .a32 l,.a32 m=>match i with
  |none=>match off with
   |0=>bif beq n s then some ([m.length=n],.a32 m)else bif ble n s then some ([m.length=n],.a32 (m++l.drop n))else none
   |o=>bif ble (o+n) s then some ([m.length=n],.a32 (l.take o++m++l.drop (o+n)))else none
  |some i=>match off with
   |0=>some ([m.length=n,i+n<=s],.a32 (l.take i++m++l.drop (i+n)))
   |o=>some ([m.length=n,i+o+n<=s],.a32 (l.take (i+o)++m++l.drop (i+o+n)))
 | .a64 l,.a64 m=>match i with
  |none=>match off with
   |0=>bif beq n s then some ([m.length=n],.a64 m)else bif ble n s then some ([m.length=n],.a64 (m++l.drop n))else none
   |o=>bif ble (o+n) s then some ([m.length=n],.a64 (l.take o++m++l.drop (o+n)))else none
  |some i=>match off with
   |0=>some ([m.length=n,i+n<=s],.a64 (l.take i++m++l.drop (i+n)))
   |o=>some ([m.length=n,i+o+n<=s],.a64 (l.take (i+o)++m++l.drop (i+o+n)))
 | .ai l,.ai m=>match i with
  |none=>match off with
   |0=>bif beq n s then some ([m.length=n],.ai m)else bif ble n s then some ([m.length=n],.ai (m++l.drop n))else none
   |o=>bif ble (o+n) s then some ([m.length=n],.ai (l.take o++m++l.drop (o+n)))else none
  |some i=>match off with
   |0=>some ([m.length=n,i+n<=s],.ai (l.take i++m++l.drop (i+n)))
   |o=>some ([m.length=n,i+o+n<=s],.ai (l.take (i+o)++m++l.drop (i+o+n)))
 |_,_=>none
def aVF (s:Nat) (u:SV) (r:Option (List Prop×List (Nat×SV))):Option (List Prop×List (Nat×SV)):=
 match r with
 |some (ps,l)=>some (ps,(s,u)::l)
 |none=>none
def vH (s:Nat) (r:List (Nat×SV)) (o:Option (List Prop×SV)):Option (List Prop×List (Nat×SV)):=
 match o with
 |some (ps,u)=>some (ps,(s,u)::r)
 |none=>none
def rN (ls:List (Nat×SV)) (f:Nat) (i:Option Nat) (y:Ty) (v:SV):Option (List Prop×List (Nat×SV)):=
  match ls with
  |[]=>none
  |(s,u)::r=>
    match f with
    |0=>bif bZ y.k then
        (bif aq u&&aq v then vH s r (gT u s 0 i y.size v)else match i with
          |none=>match iM y v with
            |some (ps,l)=>bif rH ((s,u)::r) y.size&&rH l y.size then some (ps,l)else bif beq (zL l) y.size then match aKL ((s,u)::r) 0 l with
              |some l'=>some (ps,l')
              |none=>none
              else none
            |none=>none
          |some _=>none)
        else bif beq y.size 1 then vH s r (ow u s 0 i v)else none
    |f+1=>bif blt (f+1) s then
        (bif bZ y.k then(bif aq u&&aq v then vH s r (gT u s (f+1) i y.size v)else none)
         else bif beq y.size 1 then vH s r (ow u s (f+1) i v)else none)
        else aVF s u (rN r (f+1-s) i y v)
theorem mQ {α:Type} (l:List α) (i:Nat) (x:α) (h:i<l.length):l.set i x=l.take i++[x]++l.drop (i+1):=by
 rw[List.set_eq_take_append_cons_drop,if_pos h];simp
theorem sR (hc:zD ρ u c) (hs:c.length=s) (hx:zRT ρ v x)
  (h:ow u s off i v=some (ps,z)) (hp:All ps):
  off+i.getD 0<s/\one x/\zD ρ z (c.take (off+i.getD 0)++[x]++c.drop (off+i.getD 0+1)):=by
 unfold ow at h;split at h
 .rename_i l b
  obtain rfl:c=l.map w8:=hc;obtain rfl:x=w8 b:=hx;rw[length_map]at hs;have key:∀j,j<s->zD ρ (.a8 (l.set j b)) ((l.map w8).take j++[w8 b]++(l.map w8).drop (j+1)):=by
   intro j hj;show _=_;rw[map_set,mQ _ _ _ (by simp;omega)]
  split at h
  .obtain⟨hb,h⟩:=zn h
   obtain⟨rfl,rfl⟩:=sB h;have:=ay hb;exact⟨by simpa using this,trivial,by simpa using key off this⟩
  rename_i j;split at h<;>simp only[zoI,zpI]at h<;>obtain⟨rfl,rfl⟩:=h
  .have:=hp.head
   exact⟨by simpa using this,trivial,by simpa using key j this⟩
  have:=hp.head;refine⟨by simp;omega,trivial,?_⟩;rw[show∀o:Nat,o+(some j).getD 0=j+o by intro o;simp[add_comm]];exact key _ this
 .rename_i l b
  obtain rfl:c=l.map w16:=hc;obtain rfl:x=w16 b:=hx;rw[length_map]at hs;have key:∀j,j<s->zD ρ (.a16 (l.set j b)) ((l.map w16).take j++[w16 b]++(l.map w16).drop (j+1)):=by
   intro j hj;show _=_;rw[map_set,mQ _ _ _ (by simp;omega)]
  split at h
  .obtain⟨hb,h⟩:=zn h
   obtain⟨rfl,rfl⟩:=sB h;have:=ay hb;exact⟨by simpa using this,trivial,by simpa using key off this⟩
  rename_i j;split at h<;>simp only[zoI,zpI]at h<;>obtain⟨rfl,rfl⟩:=h
  .have:=hp.head
   exact⟨by simpa using this,trivial,by simpa using key j this⟩
  have:=hp.head;refine⟨by simp;omega,trivial,?_⟩;rw[show∀o:Nat,o+(some j).getD 0=j+o by intro o;simp[add_comm]];exact key _ this
 .rename_i l b
  obtain rfl:c=l.map w32:=hc;obtain rfl:x=w32 b:=hx;rw[length_map]at hs;have key:∀j,j<s->zD ρ (.a32 (l.set j b)) ((l.map w32).take j++[w32 b]++(l.map w32).drop (j+1)):=by
   intro j hj;show _=_;rw[map_set,mQ _ _ _ (by simp;omega)]
  split at h
  .obtain⟨hb,h⟩:=zn h
   obtain⟨rfl,rfl⟩:=sB h;have:=ay hb;exact⟨by simpa using this,trivial,by simpa using key off this⟩
  rename_i j;split at h<;>simp only[zoI,zpI]at h<;>obtain⟨rfl,rfl⟩:=h
  .have:=hp.head
   exact⟨by simpa using this,trivial,by simpa using key j this⟩
  have:=hp.head;refine⟨by simp;omega,trivial,?_⟩;rw[show∀o:Nat,o+(some j).getD 0=j+o by intro o;simp[add_comm]];exact key _ this
 .rename_i l b
  obtain rfl:c=l.map w64:=hc;obtain rfl:x=w64 b:=hx;rw[length_map]at hs;have key:∀j,j<s->zD ρ (.a64 (l.set j b)) ((l.map w64).take j++[w64 b]++(l.map w64).drop (j+1)):=by
   intro j hj;show _=_;rw[map_set,mQ _ _ _ (by simp;omega)]
  split at h
  .obtain⟨hb,h⟩:=zn h
   obtain⟨rfl,rfl⟩:=sB h;have:=ay hb;exact⟨by simpa using this,trivial,by simpa using key off this⟩
  rename_i j;split at h<;>simp only[zoI,zpI]at h<;>obtain⟨rfl,rfl⟩:=h
  .have:=hp.head
   exact⟨by simpa using this,trivial,by simpa using key j this⟩
  have:=hp.head;refine⟨by simp;omega,trivial,?_⟩;rw[show∀o:Nat,o+(some j).getD 0=j+o by intro o;simp[add_comm]];exact key _ this
 .rename_i l b
  obtain rfl:c=l.map wi:=hc;obtain rfl:x=wi b:=hx;rw[length_map]at hs;have key:∀j,j<s->zD ρ (.ai (l.set j b)) ((l.map wi).take j++[wi b]++(l.map wi).drop (j+1)):=by
   intro j hj;show _=_;rw[map_set,mQ _ _ _ (by simp;omega)]
  split at h
  .obtain⟨hb,h⟩:=zn h
   obtain⟨rfl,rfl⟩:=sB h;have:=ay hb;exact⟨by simpa using this,trivial,by simpa using key off this⟩
  rename_i j;split at h<;>simp only[zoI,zpI]at h<;>obtain⟨rfl,rfl⟩:=h
  .have:=hp.head
   exact⟨by simpa using this,trivial,by simpa using key j this⟩
  have:=hp.head;refine⟨by simp;omega,trivial,?_⟩;rw[show∀o:Nat,o+(some j).getD 0=j+o by intro o;simp[add_comm]];exact key _ this
 .rename_i n es F
  split at h
  .cases h
  rename_i j;split at h
  .split at h
   .rcases zs h with⟨hv,h⟩|⟨_,h⟩
    .obtain⟨rfl,rfl⟩:=sB h
     simp only[zbA,Bool.not_eq_true']at hv;have hj:=hp.head;obtain⟨r1,r2⟩:=hc;have hrs:cg ρ v x:=by
      cases v<;>first|exact hx|(cases hv.1;done)|(cases hv.2;done)
     have hlen:(c.take j++[x]++c.drop (j+1)).length=n*1:=by
      simp only[zlA,zlT,zlD,List.length_singleton];omega
     have hset:c.take j++[x]++c.drop (j+1)=c.set j x:=(mQ c j x (by omega)).symm;refine⟨by simp;omega,hrs.one,?_⟩;simp only[Option.getD_some,zero_add];refine⟨hlen,λq hq=>?_⟩;rw[hset];have hget:((c.set j x).drop (q*1)).take 1=[(c.set j x)[q]'(by simp;omega)]:=by
      rw[Nat.mul_one,List.drop_eq_getElem_cons (by simp;omega),List.take_succ_cons,List.take_zero]
     by_cases hqj:q=j
     .subst hqj
      simp only[if_true];rw[hget];refine⟨[x],[],by simp,rfl,?_,rfl⟩;exact(qg (aIN.trans hv.2)).2 ⟨x,qV (aIW hv.1 hrs),rfl⟩
     simp only[if_neg hqj];rw[hget,List.getElem_set_ne (λe=>hqj e.symm)];have:=r2 q hq;rw[Nat.mul_one,List.drop_eq_getElem_cons (by omega),List.take_succ_cons,List.take_zero]at this;exact this
    cases h
   cases h
  cases h
 rename_i hu0 _ _ _ _ _ hrow;obtain⟨hu,h⟩:aq u=false/\_:=by
  rcases zs h with⟨_,h⟩|⟨h1,h⟩
  .cases h
  exact⟨h1,h⟩
 have hlen:c.length=1:=by
  have hr:i5 u=false:=by
   cases u<;>first|rfl|(exfalso;simp_all;done)
  obtain⟨y,_,rfl⟩:=(bo hu hr).1 hc;rfl
 split at h
 .split at h
  .cases h
  .cases h
  .cases h
  .cases h
  rename_i hn1 hn2 hn3 hn4;obtain⟨hv,h⟩:aq v=false/\_:=by
   rcases zs h with⟨_,h⟩|⟨h1,h⟩
   .cases h
   exact⟨h1,h⟩
  obtain⟨rfl,rfl⟩:=sB h;have hrs:cg ρ v x/\zD ρ v [x]:=by
   cases v<;>first
    |exact⟨hx,x,hx,rfl⟩
    |(exfalso;simp_all [aq];done)
    |(exfalso;first|exact hn1 rfl|exact hn2 _ rfl|exact hn3 _ rfl|exact hn4 _ _ _ rfl)
  refine⟨by simp;omega,hrs.1.one,?_⟩;have e:c.drop 1=[]:=drop_of_length_le (by omega)
  simpa [e]using hrs.2
 cases h
theorem ns (hc:zD ρ u c) (hs:c.length=s) (hx:zRT ρ v x)
  (h:gT u s off i n v=some (ps,z)) (hp:All ps):
  off+i.getD 0+n<=s/\x.cells.size=n/\(∀y∈x.cells.toList,one y)/\zD ρ z (c.take (off+i.getD 0)++x.cells.toList++c.drop (off+i.getD 0+n)):=by
 unfold gT at h;split at h
 .rename_i l m
  obtain rfl:c=l.map w8:=hc;obtain rfl:x= .agg (m.map w8).toArray:=hx;rw[length_map]at hs;have ho:∀y∈(Value.agg (m.map w8).toArray).cells.toList,one y:=by
   intro y hy;simp only[Value.cells]at hy;obtain⟨_,_,rfl⟩:=List.mem_map.1 hy;trivial
  have key:∀j,zD ρ (.a8 (l.take j++m++l.drop (j+n))) ((l.map w8).take j++(Value.agg (m.map w8).toArray).cells.toList++(l.map w8).drop (j+n)):=by
   intro j;show _=_;simp[Value.cells,map_take,map_drop]
  split at h
  .split at h
   .rcases zs h with⟨hb,h⟩|⟨_,h⟩
    .obtain⟨rfl,rfl⟩:=sB h
     have:=hp.head;have:=zq hb;refine⟨by simp;omega,by simp[Value.cells];omega,ho,?_⟩;have k:=key 0;rw[drop_of_length_le (by omega)]at k
     simpa using k
    obtain⟨hb,h⟩:=zn h;obtain⟨rfl,rfl⟩:=sB h;have:=hp.head;have:=aX hb;refine⟨by simp;omega,by simp[Value.cells];omega,ho,?_⟩;have k:=key 0
    simpa using k
   obtain⟨hb,h⟩:=zn h;obtain⟨rfl,rfl⟩:=sB h;have:=hp.head;have:=aX hb;exact⟨by simp;omega,by simp[Value.cells];omega,ho,key _⟩
  rename_i j;split at h<;>simp only[zoI,zpI]at h<;>obtain⟨rfl,rfl⟩:=h
  .have:=hp.head
   have:=hp.tail.head;refine⟨by simp;omega,by simp[Value.cells];omega,ho,?_⟩;rw[show 0+(some j).getD 0=j by simp];exact key j
  have:=hp.head;have:=hp.tail.head;refine⟨by simp;omega,by simp[Value.cells];omega,ho,?_⟩;rw[show∀o:Nat,o+(some j).getD 0=j+o by intro o;simp[add_comm]];exact key _
 .rename_i l m
  obtain rfl:c=l.map w16:=hc;obtain rfl:x= .agg (m.map w16).toArray:=hx;rw[length_map]at hs;have ho:∀y∈(Value.agg (m.map w16).toArray).cells.toList,one y:=by
   intro y hy;simp only[Value.cells]at hy;obtain⟨_,_,rfl⟩:=List.mem_map.1 hy;trivial
  have key:∀j,zD ρ (.a16 (l.take j++m++l.drop (j+n))) ((l.map w16).take j++(Value.agg (m.map w16).toArray).cells.toList++(l.map w16).drop (j+n)):=by
   intro j;show _=_;simp[Value.cells,map_take,map_drop]
  split at h
  .split at h
   .rcases zs h with⟨hb,h⟩|⟨_,h⟩
    .obtain⟨rfl,rfl⟩:=sB h
     have:=hp.head;have:=zq hb;refine⟨by simp;omega,by simp[Value.cells];omega,ho,?_⟩;have k:=key 0;rw[drop_of_length_le (by omega)]at k
     simpa using k
    obtain⟨hb,h⟩:=zn h;obtain⟨rfl,rfl⟩:=sB h;have:=hp.head;have:=aX hb;refine⟨by simp;omega,by simp[Value.cells];omega,ho,?_⟩;have k:=key 0
    simpa using k
   obtain⟨hb,h⟩:=zn h;obtain⟨rfl,rfl⟩:=sB h;have:=hp.head;have:=aX hb;exact⟨by simp;omega,by simp[Value.cells];omega,ho,key _⟩
  rename_i j;split at h<;>simp only[zoI,zpI]at h<;>obtain⟨rfl,rfl⟩:=h
  .have:=hp.head
   have:=hp.tail.head;refine⟨by simp;omega,by simp[Value.cells];omega,ho,?_⟩;rw[show 0+(some j).getD 0=j by simp];exact key j
  have:=hp.head;have:=hp.tail.head;refine⟨by simp;omega,by simp[Value.cells];omega,ho,?_⟩;rw[show∀o:Nat,o+(some j).getD 0=j+o by intro o;simp[add_comm]];exact key _
 .rename_i l m
  obtain rfl:c=l.map w32:=hc;obtain rfl:x= .agg (m.map w32).toArray:=hx;rw[length_map]at hs;have ho:∀y∈(Value.agg (m.map w32).toArray).cells.toList,one y:=by
   intro y hy;simp only[Value.cells]at hy;obtain⟨_,_,rfl⟩:=List.mem_map.1 hy;trivial
  have key:∀j,zD ρ (.a32 (l.take j++m++l.drop (j+n))) ((l.map w32).take j++(Value.agg (m.map w32).toArray).cells.toList++(l.map w32).drop (j+n)):=by
   intro j;show _=_;simp[Value.cells,map_take,map_drop]
  split at h
  .split at h
   .rcases zs h with⟨hb,h⟩|⟨_,h⟩
    .obtain⟨rfl,rfl⟩:=sB h
     have:=hp.head;have:=zq hb;refine⟨by simp;omega,by simp[Value.cells];omega,ho,?_⟩;have k:=key 0;rw[drop_of_length_le (by omega)]at k
     simpa using k
    obtain⟨hb,h⟩:=zn h;obtain⟨rfl,rfl⟩:=sB h;have:=hp.head;have:=aX hb;refine⟨by simp;omega,by simp[Value.cells];omega,ho,?_⟩;have k:=key 0
    simpa using k
   obtain⟨hb,h⟩:=zn h;obtain⟨rfl,rfl⟩:=sB h;have:=hp.head;have:=aX hb;exact⟨by simp;omega,by simp[Value.cells];omega,ho,key _⟩
  rename_i j;split at h<;>simp only[zoI,zpI]at h<;>obtain⟨rfl,rfl⟩:=h
  .have:=hp.head
   have:=hp.tail.head;refine⟨by simp;omega,by simp[Value.cells];omega,ho,?_⟩;rw[show 0+(some j).getD 0=j by simp];exact key j
  have:=hp.head;have:=hp.tail.head;refine⟨by simp;omega,by simp[Value.cells];omega,ho,?_⟩;rw[show∀o:Nat,o+(some j).getD 0=j+o by intro o;simp[add_comm]];exact key _
 .rename_i l m
  obtain rfl:c=l.map w64:=hc;obtain rfl:x= .agg (m.map w64).toArray:=hx;rw[length_map]at hs;have ho:∀y∈(Value.agg (m.map w64).toArray).cells.toList,one y:=by
   intro y hy;simp only[Value.cells]at hy;obtain⟨_,_,rfl⟩:=List.mem_map.1 hy;trivial
  have key:∀j,zD ρ (.a64 (l.take j++m++l.drop (j+n))) ((l.map w64).take j++(Value.agg (m.map w64).toArray).cells.toList++(l.map w64).drop (j+n)):=by
   intro j;show _=_;simp[Value.cells,map_take,map_drop]
  split at h
  .split at h
   .rcases zs h with⟨hb,h⟩|⟨_,h⟩
    .obtain⟨rfl,rfl⟩:=sB h
     have:=hp.head;have:=zq hb;refine⟨by simp;omega,by simp[Value.cells];omega,ho,?_⟩;have k:=key 0;rw[drop_of_length_le (by omega)]at k
     simpa using k
    obtain⟨hb,h⟩:=zn h;obtain⟨rfl,rfl⟩:=sB h;have:=hp.head;have:=aX hb;refine⟨by simp;omega,by simp[Value.cells];omega,ho,?_⟩;have k:=key 0
    simpa using k
   obtain⟨hb,h⟩:=zn h;obtain⟨rfl,rfl⟩:=sB h;have:=hp.head;have:=aX hb;exact⟨by simp;omega,by simp[Value.cells];omega,ho,key _⟩
  rename_i j;split at h<;>simp only[zoI,zpI]at h<;>obtain⟨rfl,rfl⟩:=h
  .have:=hp.head
   have:=hp.tail.head;refine⟨by simp;omega,by simp[Value.cells];omega,ho,?_⟩;rw[show 0+(some j).getD 0=j by simp];exact key j
  have:=hp.head;have:=hp.tail.head;refine⟨by simp;omega,by simp[Value.cells];omega,ho,?_⟩;rw[show∀o:Nat,o+(some j).getD 0=j+o by intro o;simp[add_comm]];exact key _
 .rename_i l m
  obtain rfl:c=l.map wi:=hc;obtain rfl:x= .agg (m.map wi).toArray:=hx;rw[length_map]at hs;have ho:∀y∈(Value.agg (m.map wi).toArray).cells.toList,one y:=by
   intro y hy;simp only[Value.cells]at hy;obtain⟨_,_,rfl⟩:=List.mem_map.1 hy;trivial
  have key:∀j,zD ρ (.ai (l.take j++m++l.drop (j+n))) ((l.map wi).take j++(Value.agg (m.map wi).toArray).cells.toList++(l.map wi).drop (j+n)):=by
   intro j;show _=_;simp[Value.cells,map_take,map_drop]
  split at h
  .split at h
   .rcases zs h with⟨hb,h⟩|⟨_,h⟩
    .obtain⟨rfl,rfl⟩:=sB h
     have:=hp.head;have:=zq hb;refine⟨by simp;omega,by simp[Value.cells];omega,ho,?_⟩;have k:=key 0;rw[drop_of_length_le (by omega)]at k
     simpa using k
    obtain⟨hb,h⟩:=zn h;obtain⟨rfl,rfl⟩:=sB h;have:=hp.head;have:=aX hb;refine⟨by simp;omega,by simp[Value.cells];omega,ho,?_⟩;have k:=key 0
    simpa using k
   obtain⟨hb,h⟩:=zn h;obtain⟨rfl,rfl⟩:=sB h;have:=hp.head;have:=aX hb;exact⟨by simp;omega,by simp[Value.cells];omega,ho,key _⟩
  rename_i j;split at h<;>simp only[zoI,zpI]at h<;>obtain⟨rfl,rfl⟩:=h
  .have:=hp.head
   have:=hp.tail.head;refine⟨by simp;omega,by simp[Value.cells];omega,ho,?_⟩;rw[show 0+(some j).getD 0=j by simp];exact key j
  have:=hp.head;have:=hp.tail.head;refine⟨by simp;omega,by simp[Value.cells];omega,ho,?_⟩;rw[show∀o:Nat,o+(some j).getD 0=j+o by intro o;simp[add_comm]];exact key _
 cases h
theorem aEQ {α:Type} (c1 c2 nc:List α) (q n:Nat) (h:q+n<=c1.length):(c1.take q++nc++c1.drop (q+n))++c2=(c1++c2).take q++nc++(c1++c2).drop (q+n):=by
 rw[List.take_append_of_le_length (by omega),List.drop_append_of_le_length h];simp
theorem aJ7 {α:Type} (c1 c2 nc:List α) (q n:Nat):c1++(c2.take q++nc++c2.drop (q+n))=(c1++c2).take (c1.length+q)++nc++(c1++c2).drop (c1.length+q+n):=by
 have e1:(c1++c2).take (c1.length+q)=c1++c2.take q:=by
  rw[List.take_append,List.take_of_length_le (l:=c1) (by omega),Nat.add_sub_cancel_left]
 have e2:(c1++c2).drop (c1.length+q+n)=c2.drop (q+n):=by
  rw[drop_append,drop_of_length_le (l:=c1) (by omega),show c1.length+q+n-c1.length=q+n by omega,nil_append]
 rw[e1,e2];simp
theorem fl:∀{ls:List (Nat×SV)} {cs:List Value} (_:zC ρ ls cs) {f:Nat} {i:Option Nat} {y:Ty} {v:SV} {x:Value} (_:zRT ρ v x) {ps:List Prop} {l:List (Nat×SV)},
  rN ls f i y v=some (ps,l)->All ps->
   f+i.getD 0+y.size<=cs.length/\x.cells.size=y.size/\(∀z∈x.cells.toList,one z)/\zL l=zL ls/\zC ρ l (cs.take (f+i.getD 0)++x.cells.toList++cs.drop (f+i.getD 0+y.size))
 |[],_,_,_,_,_,_,_,_,_,_,h,_=>by simp[rN]at h
 | (s,u)::r,cs,hc,f,i,y,v,x,hx,ps,l,h,hp=>by
  have hc0:=hc;obtain⟨c1,c2,rfl,h1,h2,h3⟩:=hc
  have hsplice:∀{off:Nat},vH s r (gT u s off i y.size v)=some (ps,l)->
    off+i.getD 0+y.size<=(c1++c2).length/\x.cells.size=y.size/\(∀z∈x.cells.toList,one z)/\zL l=zL ((s,u)::r)/\zC ρ l ((c1++c2).take (off+i.getD 0)++x.cells.toList++(c1++c2).drop (off+i.getD 0+y.size)):=by
   intro off h;unfold vH at h;split at h
   .rename_i qs z hz
    obtain⟨rfl,rfl⟩:=sB h;obtain⟨q1,q2,q3,q4⟩:=ns h2 h1 hx hz hp;have hl:x.cells.toList.length=y.size:=by simpa using q2
    refine⟨by simp;omega,q2,q3,rfl,?_⟩;rw[<-aEQ _ _ _ _ _ (by omega)];exact⟨_,c2,rfl,by simp;omega,q4,h3⟩
   cases h
  have hset:∀{off:Nat},y.size=1->vH s r (ow u s off i v)=some (ps,l)->
    off+i.getD 0+y.size<=(c1++c2).length/\x.cells.size=y.size/\(∀z∈x.cells.toList,one z)/\zL l=zL ((s,u)::r)/\zC ρ l ((c1++c2).take (off+i.getD 0)++x.cells.toList++(c1++c2).drop (off+i.getD 0+y.size)):=by
   intro off hy h;unfold vH at h;split at h
   .rename_i qs z hz
    obtain⟨rfl,rfl⟩:=sB h;obtain⟨q1,q2,q4⟩:=sR h2 h1 hx hz hp;have hcell:x.cells= #[x]:=um q2;rw[hcell,hy];refine⟨by simp;omega,rfl,by simpa using q2,rfl,?_⟩;show zC ρ _ (_++[x]++_);rw[<-aEQ _ _ _ _ _ (by omega)];exact⟨_,c2,rfl,by simp;omega,q4,h3⟩
   cases h
  unfold rN at h;split at h
  .rcases zs h with⟨_,h⟩|⟨_,h⟩
   .rcases zs h with⟨_,h⟩|⟨_,h⟩
    .exact hsplice h
    split at h
    .split at h
     .rename_i qs l' hl'
      rcases zs h with⟨hb2,h⟩|⟨_,h⟩
      .obtain⟨rfl,rfl⟩:=sB h
       simp only[zbA]at hb2;have hsz:=jp hb2.2;have hcell:=b9 hx hl' hp;have hlen:x.cells.toList.length=y.size:=by rw[hcell.length,hsz]
       have e2:=hc0.length;have e3:zL ((s,u)::r)=y.size:=jp hb2.1;rw[e3]at e2;simp only[getD_none,add_zero,zero_add,List.take_zero,nil_append];rw[drop_of_length_le (by rw[e2];exact le_refl _),append_nil];exact⟨by rw[e2];exact le_refl _,by simpa using hlen,hcell.one,by rw[hsz,e3],hcell⟩
      obtain⟨hb,h⟩:=zn h;have hsz:=zq hb;split at h
      .rename_i l'' hput
       obtain⟨rfl,rfl⟩:=sB h;have hcell:=b9 hx hl' hp;obtain⟨p1,p2⟩:=ge hcell hc0 hput;have hlen:x.cells.toList.length=y.size:=by rw[hcell.length,hsz]
       rw[hlen]at p1 p2;refine⟨by simpa using p2,by simpa using hlen,hcell.one,?_,by simpa using p1⟩;have e1:=p1.length;have e2:=hc0.length;simp only[zlA,zlT,zlD]at e1 e2 p2;rw[<-e1,<-e2];omega
      cases h
     cases h
    cases h
   obtain⟨hb,h⟩:=zn h;exact hset (zq hb) h
  rename_i g;rcases zs h with⟨hb,h⟩|⟨hb,h⟩
  .rcases zs h with⟨_,h⟩|⟨_,h⟩
   .obtain⟨_,h⟩:=zn h
    exact hsplice h
   obtain⟨hb,h⟩:=zn h;exact hset (zq hb) h
  have hge:s<=g+1:=by
   rcases lt_or_ge (g+1) s with hl|hl
   .have:blt (g+1) s=true:=by simpa [Nat.blt_eq]using hl
    rw[this]at hb;cases hb
   exact hl
  unfold aVF at h;split at h
  .rename_i qs l' hl'
   obtain⟨rfl,rfl⟩:=sB h;obtain⟨q1,q2,q3,q4,q5⟩:=fl h3 hx hl' hp;refine⟨by simp;omega,q2,q3,by simp only[zL,q4],?_⟩;have e:=aJ7 c1 c2 x.cells.toList (g+1-s+i.getD 0) y.size;rw[show c1.length+(g+1-s+i.getD 0)=g+1+i.getD 0 by omega]at e;rw[<-e];exact⟨c1,_,rfl,h1,h2,q5⟩
  cases h
def aEG (ls:List (Nat×SV)) (f q s:Nat) (y:Ty) (v:SV):Option (List Prop×List (Nat×SV)):=
 match ls with
 | [(t,.arr m es F)]=>bif beq es s then match iM y v with
   |some (ps,l)=>bif yR l&&beq (zL l) y.size then match aKL (F q) f l with
     |some l'=>bif nh l' then some ((q<m)::ps,[(t,.arr m es (λj=>if j=q then l' else F j))])else none
     |none=>none
    else none
   |none=>none
  else none
 |_=>none
theorem nU (hc:zC ρ ls cs) (hx:zRT ρ v x)
  (h:aEG ls f q s y v=some (ps,l)) (hp:All ps):
   f+q*s+y.size<=cs.length/\x.cells.size=y.size/\(∀z∈x.cells.toList,one z)/\zL l=zL ls/\zC ρ l (cs.take (f+q*s)++x.cells.toList++cs.drop (f+q*s+y.size)):=by
 unfold aEG at h;split at h
 .rename_i t m es F
  have hes:=zq (zn h).1
  replace h:=(zn h).2
  subst hes;split at h
  .rename_i qs nl hnl
   have hb:=(zn h).1
   replace h:=(zn h).2
   simp only[zbA]at hb;have hsz:=zq hb.2;split at h
   .rename_i l' hput
    have hnr:=(zn h).1
    replace h:=(zn h).2
    obtain⟨rfl,rfl⟩:=sB h;have hq:=hp.head;obtain⟨c1,c2,rfl,h1,h2,h3⟩:=hc;have e2:c2=[]:=h3;subst e2;simp only[append_nil];obtain⟨r1,r2⟩:=h2;have hcell:=b9 hx hnl hp.tail;have hlen:x.cells.toList.length=y.size:=by rw[hcell.length,hsz]
    have hbig:(q+1)*es<=m*es:=Nat.mul_le_mul_right _ hq;rw[add_mul,one_mul]at hbig;have hrow:((c1.drop (q*es)).take es).length=es:=by rw[zlT,zlD,r1];omega
    obtain⟨p1,p2⟩:=ge (di (dW hb.1 hcell)) (di (r2 q hq)) hput;rw[hlen]at p1 p2;rw[hrow]at p2;have hnew:=pU hnr p1
    have hwhole:c1.take (f+q*es)++x.cells.toList++c1.drop (f+q*es+y.size)=
      c1.take (q*es)++(((c1.drop (q*es)).take es).take f++x.cells.toList++((c1.drop (q*es)).take es).drop (f+y.size))++c1.drop (q*es+es):=by
     have a1:c1.take (f+q*es)=c1.take (q*es)++((c1.drop (q*es)).take es).take f:=by
      rw[List.take_take,min_eq_left (by omega),add_comm f,List.take_add]
     have a2:c1.drop (f+q*es+y.size)=((c1.drop (q*es)).take es).drop (f+y.size)++c1.drop (q*es+es):=by
      rw[List.drop_take,drop_drop];have:c1.drop (q*es+es)=(c1.drop (q*es+(f+y.size))).drop (es-(f+y.size)):=by
       rw[drop_drop];congr 1;omega
      rw[this,show q*es+(f+y.size)=f+q*es+y.size by omega,List.take_append_drop]
     rw[a1,a2];simp
    have hrl:(((c1.drop (q*es)).take es).take f++x.cells.toList++((c1.drop (q*es)).take es).drop (f+y.size)).length=es:=by
     simp only[zlA,zlT,zlD,hlen,r1];omega
    refine⟨by omega,by simpa using hlen,hcell.one,rfl,?_⟩;rw[hwhole];refine⟨_,[],(append_nil _).symm,?_,⟨?_,λj hj=>?_⟩,rfl⟩
    .rw[<-h1,zlA,zlA,hrl,zlT,zlD,r1];omega
    .rw[zlA,zlA,hrl,zlT,zlD,r1];omega
    by_cases hjq:j=q
    .subst hjq
     simp only[if_true];rw[List.append_assoc,drop_append,drop_of_length_le (by simp;omega),nil_append,zlT,min_eq_left (by omega),Nat.sub_self,List.drop_zero,List.take_append_of_le_length (by omega),List.take_of_length_le (by omega)];exact hnew
    simp only[if_neg hjq];have hold:=r2 j hj;have hbj:(j+1)*es<=m*es:=Nat.mul_le_mul_right _ hj;rw[add_mul,one_mul]at hbj;rcases lt_or_ge j q with hlt|hge
    .have hjq2:(j+1)*es<=q*es:=Nat.mul_le_mul_right _ hlt
     rw[add_mul,one_mul]at hjq2;rw[List.append_assoc,List.drop_append_of_le_length (by rw[zlT];omega),List.take_append_of_le_length (by rw[zlD,zlT];omega),List.drop_take,List.take_take,min_eq_left (by omega)];exact hold
    have hjq2:(q+1)*es<=j*es:=Nat.mul_le_mul_right _ (by omega);rw[add_mul,one_mul]at hjq2;have hl3:(c1.take (q*es)++(((c1.drop (q*es)).take es).take f++x.cells.toList++((c1.drop (q*es)).take es).drop (f+y.size))).length=q*es+es:=by
     rw[zlA,hrl,zlT,min_eq_left (by omega)]
    rw[drop_append,drop_of_length_le (by rw[hl3];omega),nil_append,hl3,drop_drop,show q*es+es+(j*es-(q*es+es))=j*es by omega];exact hold
   cases h
  cases h
 cases h
theorem aBM {Γ:Ctx} {N:Nat} {ρ:Env} {T:Tm} {M:Mm} {a:Act} {w:World} (hc:aZ N ρ T M a w) {t:Nat} {x k v:Operand} {ps:List Prop} {b:Nat} {l:List (List UInt8×Int)} (h:aWZ Γ.ty M t (ev T x) (ev T k) (ev T v)=some (ps,b,l)) (hp:All ps):
  ∃w',(Instr.mapUpdate t (a.eval x) (a.eval k) (a.eval v)).run Γ.P w= .ok () w'/\zF ρ ((b,.map (.si l))::M) w'/\aV ρ M ρ ((b,.map (.si l))::M) w w':=by
 unfold aWZ at h;have hb:=(zn h).1
 replace h:=(zn h).2
 obtain⟨kt,et,ht,hk,_⟩:=pk hb;have hx:=zev hc x;have hs:=zev hc k;have hn:=zev hc v;split at h
 .rename_i b0 he
  rw[he]at hx;obtain⟨_,hv⟩:=hx;split at h
  .rename_i l0 hm
   obtain⟨es,clock,h1,h2⟩:=hc.sat _ _ hm;split at h
   .rename_i s hes
    rw[hes]at hs;have hkv:a.eval k= .string ⟨s.toArray⟩:=hs;split at h
    .rename_i n hen
     rw[hen]at hn;have hnv:a.eval v=wi n:=hn;obtain⟨rfl,rfl,rfl⟩:=sC h;rw[hv,hkv,hnv];obtain⟨k1,k2⟩:=hc.tozF.setMap hm (clock:=clock+1) (aGX h2 s n clock);exact⟨_,sW ht hk h1 h2 s hp.head n,k1,k2⟩
    cases h
   cases h
  cases h
 cases h
abbrev Nm:=List (Nat×(Nat×Nat×Option Nat))
def jf (μ:Nm) (a:Nat):Option (Nat×Nat×Option Nat):=
 match μ with
 |[]=>none
 |(b,r)::q=>bif beq a b then some r else jf q a
def aZK (i j:Option Nat):Option Nat:=
 match i,j with
 |none,j=>j
 |some i,none=>some i
 |some i,some j=>some (i+j)
theorem vv (i j:Option Nat):(aZK i j).getD 0=i.getD 0+j.getD 0:=by
 cases i<;>cases j<;>simp[aZK]
def addI (j:Option Nat) (i:Nat):Nat:=
 match j with
 |none=>i
 |some j=>j+i
theorem qc (j:Option Nat) (i:Nat):addI j i=j.getD 0+i:=by cases j<;>simp[addI]
def aNA (μ:Nm) (l:List (Nat×Nat)):Option (List (Nat×Nat)):=
 match l with
 |[]=>some []
 |(a,f)::r=>match jf μ a with
  |some (b,g,none)=>match aNA μ r with
   |some q=>some ((b,g+f)::q)
   |none=>none
  |_=>none
def zx (μ:Nm) (v:SV):SV:=
 match v with
 | .ptr a f i=>match jf μ a with
  |some (b,g,j)=>.ptr b (g+f) (aZK j i)
  |none=>.und
 | .sl a f i n c=>match jf μ a with
  |some (b,g,j)=>.sl b (g+f) (addI j i) n c
  |none=>.und
 | .slx a f i n=>match jf μ a with
  |some (b,g,j)=>.slx b (g+f) (addI j i) n
  |none=>.und
 | .fn f cap=>match aNA μ cap with
  |some q=>.fn f q
  |none=>.und
 | .mp a=>match jf μ a with
  |some (b,0,none)=>.mp b
  |_=>.und
 | .ep a f q s=>match jf μ a with
  |some (b,g,none)=>.ep b (g+f) q s
  |_=>.und
 | .agg _| .tup _=>.und
 |v=>v
def zy (μ:Nm) (ls:List (Nat×SV)):Option (List (Nat×SV)):=
 match ls with
 |[]=>some []
 |(s,v)::r=>match zx μ v with
  | .und=>none
  |v'=>match zy μ r with
   |some q=>some ((s,v')::q)
   |none=>none
def zz (μ:Nm) (v:SV):SV:=
 match v with
 | .agg ls=>match zy μ ls with
  |some l=>.agg l
  |none=>.und
 |v=>zx μ v
def ren (μ:Nm) (v:SV):SV:=
 match v with
 | .tup vs=>.tup (vs.map (zz μ))
 |v=>zz μ v
structure aDA (μ:Nm) (ρ ρ':Env):Prop where
 to:∀a b g j,jf μ a=some (b,g,j)->ρ.dom a->ρ'.dom b/\(ρ'.pos b).1=(ρ.pos a).1/\(ρ'.pos b).2+(g+j.getD 0)=(ρ.pos a).2
 im:∀b o ls,ρ.imm b o ls->ρ'.imm b o ls
instance (μ:Nm) (ρ ρ':Env):CoeFun (aDA μ ρ ρ') (fun _=>∀ a b g j,jf μ a = some (b,g,j)->ρ.dom a->ρ'.dom b/\(ρ'.pos b).1 = (ρ.pos a).1/\(ρ'.pos b).2 + (g + j.getD 0) = (ρ.pos a).2):=⟨aDA.to⟩
theorem aDA.addr (h:aDA μ ρ ρ') (hl:jf μ a=some (b,g,j)) (ha:ρ.dom a) (f i:Nat):
  ρ'.addr b (g+f) (j.getD 0+i)=ρ.addr a f i:=by
 obtain⟨_,h1,h2⟩:=h a b g j hl ha;unfold Env.addr;rw[h1];congr 1;omega
theorem rW (h:aDA μ ρ ρ'):∀{l q:List (Nat×Nat)},aNA μ l=some q->(∀p∈l,ρ.dom p.1)->
  (∀p∈q,ρ'.dom p.1)/\(q.map λp=>Value.pointer (some (ρ'.addr p.1 p.2 0)))=(l.map λp=>Value.pointer (some (ρ.addr p.1 p.2 0)))
 |[],q,e,_=>by simp only[aNA,zoI]at e;subst e;exact⟨λp hp=>absurd hp (by simp),rfl⟩
 | (a,f)::r,q,e,hd=>by
  simp only[aNA]at e;split at e
  .rename_i b g hl
   split at e
   .rename_i q' hq
    simp only[zoI]at e;subst e;obtain⟨h1,h2⟩:=rW h hq (λp hp=>hd p (by simp[hp]));have ha:=hd (a,f) (by simp);refine⟨λp hp=>?_,?_⟩
    .rcases List.mem_cons.1 hp with rfl|hp
     .exact(h a b g none hl ha).1
     exact h1 p hp
    simp only[List.map_cons,h2];congr 3;exact h.addr hl ha f 0
   cases e
  cases e
theorem aKI (h:aDA μ ρ ρ') (hr:cg ρ v x):zx μ v= .und\/cg ρ' (zx μ v) x:=by
 unfold zx;split
 .rename_i a f i
  split
  .rename_i b g j hl
   obtain⟨ha,rfl⟩:=hr;exact Or.inr ⟨(h a b g j hl ha).1,by rw[vv,h.addr hl ha]⟩
  exact Or.inl rfl
 .rename_i a f i n c
  split
  .rename_i b g j hl
   obtain⟨ha,hnc,y,rfl,hy⟩:=hr;exact Or.inr ⟨(h a b g j hl ha).1,hnc,y,rfl,λhc=>by rw[qc,h.addr hl ha,hy hc]⟩
  exact Or.inl rfl
 .rename_i a f i n
  split
  .rename_i b g j hl
   obtain⟨ha,c,y,hnc,rfl,hy⟩:=hr;exact Or.inr ⟨(h a b g j hl ha).1,c,y,hnc,rfl,λhc=>by rw[qc,h.addr hl ha,hy hc]⟩
  exact Or.inl rfl
 .rename_i f cap
  split
  .rename_i q hq
   obtain⟨h1,rfl⟩:=hr;obtain⟨h2,h3⟩:=rW h hq h1;exact Or.inr ⟨h2,by rw[h3]⟩
  exact Or.inl rfl
 .rename_i a
  split
  .rename_i b hl
   obtain⟨ha,rfl⟩:=hr;obtain⟨h1,h2,_⟩:=h a b 0 none hl ha;exact Or.inr ⟨h1,by rw[h2]⟩
  exact Or.inl rfl
 .rename_i a f q s
  split
  .rename_i b g hl
   obtain⟨ha,rfl⟩:=hr;refine Or.inr ⟨(h a b g none hl ha).1,?_⟩;have:=h.addr hl ha f (q*s);simp only[getD_none,zero_add]at this;rw[this]
  exact Or.inl rfl
 .exact Or.inl rfl
 .exact Or.inl rfl
 rename_i h1 h2 h3 h4 h5 h6 h7 h8
 cases v<;>first
  |exact Or.inr hr
  |(refine Or.inr ?_;obtain⟨b,o,c,x',h0,e1⟩:=hr;exact⟨b,o,c,x',h0.mono h.im,e1⟩)
  |(refine Or.inr ?_;obtain⟨b,o,e,hi⟩:=hr;exact⟨b,o,e,hi.mono h.im⟩)
  |exact absurd rfl (h8 _)
  |exact absurd rfl (h6 _ _ _ _)
  |exact absurd rfl (h1 _ _ _)
  |exact absurd rfl (h2 _ _ _ _ _)
  |exact absurd rfl (h3 _ _ _ _)
  |exact absurd rfl (h4 _ _)
  |exact absurd rfl (h5 _)
  |exact absurd rfl (h6 _)
  |exact absurd rfl (h7 _)
theorem rV (h:aDA μ ρ ρ') (hr:cg ρ v x) (hu:zx μ v≠ .und):cg ρ' (zx μ v) x:=
 (aKI h hr).resolve_left hu
theorem sb (h:aq v=true):zx μ v=v:=by
 cases v<;>first|rfl|cases h
theorem dY (hv:aq v=false) (hw:i5 v=false):zD ρ v cs↔∃x,cg ρ v x/\cs=[x]:=bo hv hw
theorem y9 (h:i5 v=true):zx μ v=v:=by
 cases v<;>first|rfl|cases h
theorem nO (him:∀b o ls,ρ.imm b o ls->ρ'.imm b o ls) (hv:i5 v=true) (h:zD ρ v cs):zD ρ' v cs:=by
 cases v<;>first|exact⟨h.1,λq hq=>(h.2 q hq).le (Env.bare_mono him)⟩|(cases hv;done)
theorem pD (h:i5 v=false):i5 (zx μ v)=false:=by
 cases v<;>simp only[zx]<;>(try first|rfl|cases h)<;>(repeat' split)<;>rfl
theorem sK (hv:aq v=true) (h:zD ρ v cs):zD ρ' v cs:=by
 cases v<;>first|exact h|cases hv
theorem jv (h:aq v=false):aq (zx μ v)=false:=by
 cases v<;>simp only[zx]<;>(try first|rfl|cases h)<;>(repeat' split)<;>rfl
theorem aBS (h:aDA μ ρ ρ') (hr:zD ρ v cs) (hu:zx μ v≠ .und):zD ρ' (zx μ v) cs:=by
 cases hv:aq v with
 |true=>rw[sb hv];exact sK hv hr
 |false=>
  cases hw:i5 v with
  |true=>rw[y9 hw];exact nO h.im hw hr
  |false=>
   rw[dY hv hw]at hr;rw[dY (jv hv) (pD hw)];obtain⟨x,hx,e⟩:=hr;exact⟨x,rV h hx hu,e⟩
theorem gd (h:aDA μ ρ ρ'):∀{ls l:List (Nat×SV)} {cs:List Value},zC ρ ls cs->zy μ ls=some l->zC ρ' l cs
 |[],l,cs,hc,e=>by simp only[zy,zoI]at e;subst e;exact hc
 |(s,v)::r,l,cs,hc,e=>by
  obtain⟨c1,c2,rfl,h1,h2,h3⟩:=hc;simp only[zy]at e;split at e
  .cases e
  rename_i hu;split at e
  .rename_i q hq
   simp only[zoI]at e;subst e;exact⟨c1,c2,rfl,h1,aBS h h2 hu,gd h h3 hq⟩
  cases e
theorem kk:∀{ls l:List (Nat×SV)},zy μ ls=some l->zL l=zL ls
 |[],l,e=>by simp only[zy,zoI]at e;subst e;rfl
 |(s,v)::r,l,e=>by
  simp only[zy]at e;split at e
  .cases e
  split at e
  .rename_i q hq
   simp only[zoI]at e;subst e;simp only[zL,kk hq]
  cases e
theorem rX (h:aDA μ ρ ρ') (hr:Rel ρ v x):Rel ρ' (zz μ v) x:=by
 by_cases hu:zz μ v= .und
 .rw[hu];trivial
 cases hv:aq v with
 |true=>
  have:zz μ v=v:=by cases v<;>first|rfl|cases hv
  rw[this];cases v<;>first|exact hr|cases hv
 |false=>
  unfold zz at *;split
  .rename_i ls
   split
   .rename_i l hl
    obtain⟨cs,hc,e⟩:=hr;exact⟨cs,gd h hc hl,e⟩
   trivial
  rename_i hn;have hs:zx μ v≠ .und:=by
   intro e;apply hu;split
   .rename_i ls;exact absurd rfl (hn ls)
   exact e
  have hrs:cg ρ v x:=by
   cases v<;>first|exact hr|(exact absurd rfl hs;done)|(exact absurd rfl (hn _);done)|(cases hv;done)
  exact iS (rV h hrs hs)
theorem pE (h:aDA μ ρ ρ'):∀{vs:List SV} {xs:List Value},nM ρ vs xs->nM ρ' (vs.map (zz μ)) xs
 |[],_,hr=>hr
 |_::_,_,⟨x,ys,e,h1,h2⟩=>⟨x,ys,e,rX h h1,pE h h2⟩
theorem aE6 (h:aDA μ ρ ρ') (hr:zRT ρ v x):zRT ρ' (ren μ v) x:=by
 unfold ren;split
 .obtain⟨xs,h1,e⟩:=hr
  exact⟨xs,pE h h1,e⟩
 rename_i hn;exact zR (rX h (hr.s hn))
def aPI (i j:Option Nat):List Prop:=
 match i,j with
 |none,none=>[]
 |some i,some j=>[i=j]
 |none,some j=>[j=0]
 |some i,none=>[i=0]
theorem w7 (h:All (aPI i j)):i.getD 0=j.getD 0:=by
 cases i<;>cases j<;>simp only[aPI]at h<;>first|rfl|exact h.head|exact h.head.symm
def aSH:List (Nat×Nat)->List (Nat×Nat)->Bool
 |[],[]=>true
 |(a,f)::r,(b,g)::q=>beq a b&&beq f g&&aSH r q
 |_,_=>false
theorem sG:∀{l q:List (Nat×Nat)},aSH l q=true->l=q
 |[],[],_=>rfl
 |(a,f)::r,(b,g)::q,h=>by
  simp only[aSH,zbA]at h;rw[zq h.1.1,zq h.1.2,sG h.2]
 |[],_::_,h=>by simp[aSH]at h
 |_::_,[],h=>by simp[aSH]at h
def yz (ls ls':List (Nat×SV)):List Prop:=
 match ls,ls' with
 |[(a,.a8 l)],[(b,.a8 m)]=>[a=b,l=m]
 |[(a,.ai l)],[(b,.ai m)]=>[a=b,l=m]
 |[(a,.arr n es F)],[(b,.arr m es' G)]=>[a=b,n=m,es=es',F=G]
 |ls,ls'=>[ls=ls']
theorem nV (h:All (yz ls ls')):ls=ls':=by
 unfold yz at h;split at h
 .rw[h.head,h.tail.head]
 .rw[h.head,h.tail.head]
 .rw[h.head,h.tail.head,h.tail.tail.head,h.tail.tail.tail.head]
 exact h.head
def same (u v:SV):Option (List Prop):=
 match u with
 | .tt=>match v with
  | .tt=>some []
  | .bool p=>some [p]
  |_=>none
 | .ff=>match v with
  | .ff=>some []
  | .bool p=>some [¬p]
  |_=>none
 | .bool p=>match v with
  | .tt=>some [p]
  | .ff=>some [¬p]
  | .bool q=>some [p↔q]
  |_=>none
 | .u8 a=>match v with
  | .u8 b=>some [a=b]
  |_=>none
 | .u16 a=>match v with
  | .u16 b=>some [a=b]
  |_=>none
 | .u32 a=>match v with
  | .u32 b=>some [a=b]
  |_=>none
 | .u64 a=>match v with
  | .u64 b=>some [a=b]
  |_=>none
 | .i k a=>match v with
  | .i j b=>bif k==j then some [a=b]else none
  |_=>none
 | .str a=>match v with
  | .str b=>some [a=b]
  |_=>none
 | .ptr a f i=>match v with
  | .ptr b g j=>bif beq a b&&beq f g then some (aPI i j)else none
  |_=>none
 | .nilp=>match v with
  | .nilp=>some []
  |_=>none
 | .sl a f i n c=>match v with
  | .sl b g j m d=>bif beq a b&&beq f g then some [i=j,n=m,c=d]else none
  |_=>none
 | .slx a f i n=>match v with
  | .sl b g j m _=>bif beq a b&&beq f g then some [i=j,n=m]else none
  | .slx b g j m=>bif beq a b&&beq f g then some [i=j,n=m]else none
  |_=>none
 | .nsl=>match v with
  | .nsl=>some []
  |_=>none
 | .a8 a=>match v with
  | .a8 b=>some [a=b]
  |_=>none
 | .a16 a=>match v with
  | .a16 b=>some [a=b]
  |_=>none
 | .a32 a=>match v with
  | .a32 b=>some [a=b]
  |_=>none
 | .a64 a=>match v with
  | .a64 b=>some [a=b]
  |_=>none
 | .ai a=>match v with
  | .ai b=>some [a=b]
  |_=>none
 | .fn f c=>match v with
  | .fn g d=>bif beq f g&&aSH c d then some []else none
  |_=>none
 | .mp a=>match v with
  | .mp b=>bif beq a b then some []else none
  |_=>none
 | .nilmp=>match v with
  | .nilmp=>some []
  |_=>none
 | .raw a=>match v with
  | .raw b=>some [a=b]
  |_=>none
 | .isl q n s ls=>match v with
  | .isl q' n' s' ls'=>some ((q=q')::(n=n')::(s=s')::yz ls ls')
  | .nsl=>some [n=0,aJH ls]
  |_=>none
 | .iep f q s ls=>match v with
  | .iep f' q' s' ls'=>some ((f=f')::(q=q')::(s=s')::yz ls ls')
  |_=>none
 | .ep a f q s=>match v with
  | .ep b g q' s'=>bif beq a b&&beq f g then some [q=q',s=s']else none
  |_=>none
 |_=>none
theorem aJ8 (h:same u v=some ps):i5 u=false/\i5 v=false:=by
 unfold same at h;split at h<;>first|(cases h;done)|(split at h<;>first|exact⟨rfl,rfl⟩|(cases h;done))
theorem sT (h:same u v=some ps):aq u=aq v:=by
 unfold same at h;split at h<;>first|(cases h;done)|(split at h<;>first|rfl|(cases h;done))
theorem oz (h:same u v=some ps) (hp:All ps) (ha:aq v=true):u=v:=by
 have hu:=sT h;rw[ha]at hu;cases u<;>simp only[aq,reduceCtorEq]at hu<;>cases v<;>simp only[same,zoI,reduceCtorEq]at h<;>subst h<;>rw[hp.head]
theorem rQ (h:same u v=some ps) (hp:All ps) (hr:cg ρ v x):cg ρ u x:=by
 unfold same at h;split at h
 .split at h<;>simp only[zoI,reduceCtorEq]at h<;>subst h
  .exact hr
  obtain⟨b,rfl,hb⟩:=hr;rw[hb.2 hp.head];rfl
 .split at h<;>simp only[zoI,reduceCtorEq]at h<;>subst h
  .exact hr
  obtain⟨b,rfl,hb⟩:=hr;cases b with
  |true=>exact absurd (hb.1 rfl) hp.head
  |false=>rfl
 .split at h<;>simp only[zoI,reduceCtorEq]at h<;>subst h
  .exact⟨true,hr,by simp[hp.head]⟩
  .exact⟨false,hr,by simp[hp.head]⟩
  obtain⟨b,rfl,hb⟩:=hr;exact⟨b,rfl,hb.trans hp.head.symm⟩
 .split at h<;>simp only[zoI,reduceCtorEq]at h;subst h;rw[hp.head];exact hr
 .split at h<;>simp only[zoI,reduceCtorEq]at h;subst h;rw[hp.head];exact hr
 .split at h<;>simp only[zoI,reduceCtorEq]at h;subst h;rw[hp.head];exact hr
 .split at h<;>simp only[zoI,reduceCtorEq]at h;subst h;rw[hp.head];exact hr
 .split at h
  .obtain⟨hb,h⟩:=zn h
   simp only[zoI]at h;subst h;rename_i k _ _ j _;have e:k=j:=by simpa using hb
   rw[hp.head,e];exact hr
  cases h
 .split at h<;>simp only[zoI,reduceCtorEq]at h;subst h;rw[hp.head];exact hr
 .split at h
  .obtain⟨hb,h⟩:=zn h
   simp only[zbA]at hb;simp only[zoI]at h;subst h;have e:=w7 hp;obtain⟨h1,h2⟩:=hr;refine⟨by rw[zq hb.1];exact h1,?_⟩;rw[zq hb.1,zq hb.2,e];exact h2
  cases h
 .split at h<;>simp only[zoI,reduceCtorEq]at h;exact hr
 .split at h
  .obtain⟨hb,h⟩:=zn h
   simp only[zbA]at hb;simp only[zoI]at h;subst h;rw[hp.head,hp.tail.head,hp.tail.tail.head,zq hb.1,zq hb.2];exact hr
  cases h
 .split at h
  .obtain⟨hb,h⟩:=zn h
   simp only[zbA]at hb;simp only[zoI]at h;subst h;rw[hp.head,hp.tail.head,zq hb.1,zq hb.2];obtain⟨h1,h2,y,h3,h4⟩:=hr;exact⟨h1,_,y,h2,h3,h4⟩
  .obtain⟨hb,h⟩:=zn h
   simp only[zbA]at hb;simp only[zoI]at h;subst h;rw[hp.head,hp.tail.head,zq hb.1,zq hb.2];exact hr
  cases h
 .split at h<;>simp only[zoI,reduceCtorEq]at h;exact hr
 .split at h<;>simp only[zoI,reduceCtorEq]at h;exact hr.elim
 .split at h<;>simp only[zoI,reduceCtorEq]at h;exact hr.elim
 .split at h<;>simp only[zoI,reduceCtorEq]at h;exact hr.elim
 .split at h<;>simp only[zoI,reduceCtorEq]at h;exact hr.elim
 .split at h<;>simp only[zoI,reduceCtorEq]at h;exact hr.elim
 .split at h
  .obtain⟨hb,h⟩:=zn h
   simp only[zbA]at hb;rw[zq hb.1,sG hb.2];exact hr
  cases h
 .split at h
  .obtain⟨hb,h⟩:=zn h
   rw[zq hb];exact hr
  cases h
 .split at h<;>simp only[zoI,reduceCtorEq]at h;exact hr
 .split at h<;>simp only[zoI,reduceCtorEq]at h;subst h;rw[hp.head];exact hr
 .split at h<;>simp only[zoI,reduceCtorEq]at h<;>subst h
  .rw[hp.head,hp.tail.head,hp.tail.tail.head,nV hp.tail.tail.tail];exact hr
  rw[hp.head];exact⟨0,0,0,none,Or.inr hp.tail.head,le_refl _,hr,λhc=>absurd rfl hc⟩
 .split at h<;>simp only[zoI,reduceCtorEq]at h;subst h
  rw[hp.head,hp.tail.head,hp.tail.tail.head,nV hp.tail.tail.tail];exact hr
 .split at h
  .obtain⟨hb,h⟩:=zn h
   simp only[zbA]at hb;simp only[zoI]at h;subst h;rw[hp.head,hp.tail.head,zq hb.1,zq hb.2];exact hr
  cases h
 cases h
def aJ9 (u v:SV):Option (List Prop):=
 match u with
 | .arr n es F=>match v with
  | .arr m es' G=>some [n=m,es=es',∀q,q<n->F q=G q]
  |_=>none
 |u=>same u v
theorem o6 (h:aJ9 u v=some ps) (hp:All ps) (hr:zD ρ v cs):zD ρ u cs:=by
 unfold aJ9 at h;split at h
 .split at h
  .simp only[zoI]at h;subst h
   obtain⟨r1,r2⟩:=hr;have e1:=hp.head;have e2:=hp.tail.head;have e3:=hp.tail.tail.head;subst e1;subst e2;exact⟨r1,λq hq=>by rw[e3 q hq];exact r2 q hq⟩
  cases h
 have hw:=aJ8 h;cases hv:aq v with
 |true=>rw[oz h hp hv];exact hr
 |false=>
  rw[dY hv hw.2]at hr;rw[dY (by rw[sT h];exact hv) hw.1];obtain⟨x,hx,e⟩:=hr;exact⟨x,rQ h hp hx,e⟩
structure yZ (μ:Nm) (ρ0 ρ:Env):Prop where
 to:∀a b g j,jf μ a=some (b,g,j)->ρ.dom b->ρ0.dom a/\(ρ.pos b).1=(ρ0.pos a).1/\(ρ.pos b).2+(g+j.getD 0)=(ρ0.pos a).2
 im:∀b o ls,ρ.imm b o ls->ρ0.imm b o ls
theorem yZ.addr (h:yZ μ ρ0 ρ) (hl:jf μ a=some (b,g,j)) (hb:ρ.dom b) (f i:Nat):
  ρ.addr b (g+f) (j.getD 0+i)=ρ0.addr a f i:=by
 obtain⟨_,h1,h2⟩:=h.to a b g j hl hb;unfold Env.addr;rw[h1];congr 1;omega
theorem uX (h:yZ μ ρ0 ρ):∀{l q:List (Nat×Nat)},aNA μ l=some q->(∀p∈q,ρ.dom p.1)->
  (∀p∈l,ρ0.dom p.1)/\(l.map λp=>Value.pointer (some (ρ0.addr p.1 p.2 0)))=(q.map λp=>Value.pointer (some (ρ.addr p.1 p.2 0)))
 |[],q,e,_=>by simp only[aNA,zoI]at e;subst e;exact⟨λp hp=>absurd hp (by simp),rfl⟩
 | (a,f)::r,q,e,hd=>by
  simp only[aNA]at e;split at e
  .rename_i b g hl
   split at e
   .rename_i q' hq
    simp only[zoI]at e;subst e;obtain⟨h1,h2⟩:=uX h hq (λp hp=>hd p (by simp[hp]));have hb:=hd (b,g+f) (by simp);refine⟨λp hp=>?_,?_⟩
    .rcases List.mem_cons.1 hp with rfl|hp
     .exact(h.to a b g none hl hb).1
     exact h1 p hp
    simp only[List.map_cons,h2];congr 3;exact(h.addr hl hb f 0).symm
   cases e
  cases e
theorem uW (h:yZ μ ρ0 ρ) (hr:cg ρ (zx μ v) x):cg ρ0 v x:=by
 unfold zx at hr;split at hr
 .rename_i a f i
  split at hr
  .rename_i b g j hl
   obtain⟨hb,rfl⟩:=hr;refine⟨(h.to a b g j hl hb).1,?_⟩;rw[vv,h.addr hl hb]
  exact hr.elim
 .rename_i a f i n c
  split at hr
  .rename_i b g j hl
   obtain⟨hb,hnc,y,rfl,hy⟩:=hr;refine⟨(h.to a b g j hl hb).1,hnc,y,rfl,λhc=>?_⟩;rw[hy hc,qc,h.addr hl hb]
  exact hr.elim
 .rename_i a f i n
  split at hr
  .rename_i b g j hl
   obtain⟨hb,c,y,hnc,rfl,hy⟩:=hr;refine⟨(h.to a b g j hl hb).1,c,y,hnc,rfl,λhc=>?_⟩;rw[hy hc,qc,h.addr hl hb]
  exact hr.elim
 .rename_i f cap
  split at hr
  .rename_i q hq
   obtain⟨h1,rfl⟩:=hr;obtain⟨h2,h3⟩:=uX h hq h1;exact⟨h2,by rw[h3]⟩
  exact hr.elim
 .rename_i a
  split at hr
  .rename_i b hl
   obtain⟨hb,rfl⟩:=hr;obtain⟨h1,h2,_⟩:=h.to a b 0 none hl hb;exact⟨h1,by rw[h2]⟩
  exact hr.elim
 .rename_i a f q s
  split at hr
  .rename_i b g hl
   obtain⟨hb,rfl⟩:=hr;refine⟨(h.to a b g none hl hb).1,?_⟩;have:=h.addr hl hb f (q*s);simp only[getD_none,zero_add]at this;rw[this]
  exact hr.elim
 .exact hr.elim
 .exact hr.elim
 rename_i h1 h2 h3 h4 h5 h6 h7 h8
 cases v<;>first
  |exact hr
  |(obtain⟨b,o,c,x',h0,e1⟩:=hr;exact⟨b,o,c,x',h0.mono h.im,e1⟩)
  |(obtain⟨b,o,e,hi⟩:=hr;exact⟨b,o,e,hi.mono h.im⟩)
  |exact absurd rfl (h8 _)
  |exact absurd rfl (h6 _ _ _ _)
  |exact absurd rfl (h1 _ _ _)
  |exact absurd rfl (h2 _ _ _ _ _)
  |exact absurd rfl (h3 _ _ _ _)
  |exact absurd rfl (h4 _ _)
  |exact absurd rfl (h5 _)
  |exact absurd rfl (h6 _)
  |exact absurd rfl (h7 _)
theorem ij (h:yZ μ ρ0 ρ) (hr:zD ρ (zx μ v) cs):zD ρ0 v cs:=by
 cases hv:aq v with
 |true=>rw[sb hv]at hr;exact sK hv hr
 |false=>
  cases hw:i5 v with
  |true=>rw[y9 hw]at hr;exact nO h.im hw hr
  |false=>
   rw[dY (jv hv) (pD hw)]at hr;rw[dY hv hw];obtain⟨x,hx,e⟩:=hr;exact⟨x,uW h hx,e⟩
def iT (n es:Nat) (F:Nat->List (Nat×SV)) (fuel k:Nat) (ls:List (Nat×SV)):Option (List Prop):=
 match ls with
 |[]=>some [n=k]
 |ls=>match fuel with
  |0=>none
  |fuel+1=>match gy ls es with
   |some c=>match dG ls es with
    |some r=>bif yR c&&nh c&&blt 0 es then match iT n es F fuel (k+1) r with
      |some ps=>some ((F k=c)::ps)
      |none=>none
     else none
    |none=>none
   |none=>none
theorem r8:∀{n:Nat} {ls l:List (Nat×SV)},dG ls n=some l->zL ls=n+zL l:=by
 intro n ls;induction ls generalizing n with
 |nil=>
  intro l h;cases n with
  |zero=>simp only[dG,zoI]at h;subst h;simp
  |succ n=>simp[dG]at h
 |cons a r ih=>
  intro l h;cases n with
  |zero=>simp only[dG,zoI]at h;subst h;simp
  |succ n=>
   obtain⟨s,v⟩:=a;simp only[dG]at h;obtain⟨hb,h⟩:=zn h;have hle:=aX hb;have:=ih h;simp only[zL];omega
theorem nY:∀{fuel k:Nat} {ls:List (Nat×SV)} {ps:List Prop} {cs:List Value},iT n es F fuel k ls=some ps->All ps->zC ρ ls cs->
  k<=n/\cs.length=(n-k)*es/\zL ls=(n-k)*es/\∀q,q<n-k->bH ρ.bare (F (k+q)) ((cs.drop (q*es)).take es)
 |_,k,[],ps,cs,h,hp,hc=>by
  simp only[iT,zoI]at h;subst h;have e:=hp.head;subst e;have hcs:cs=[]:=hc;subst hcs;refine⟨le_refl _,by simp,by simp[zL],λq hq=>by omega⟩
 |0,k,_::_,ps,cs,h,_,_=>by simp[iT]at h
 |fuel+1,k,a::r0,ps,cs,h,hp,hc=>by
  simp only[iT]at h;split at h
  .rename_i c hcl
   split at h
   .rename_i r hr
    have hb:=(zn h).1
    replace h:=(zn h).2
    simp only[zbA]at hb;split at h
    .rename_i ps' hps
     simp only[zoI]at h;subst h;obtain⟨t1,t2⟩:=dK hc hcl;obtain⟨d1,d2⟩:=dU hc hr;obtain⟨i1,i2,i3,i4⟩:=nY hps hp.tail d1;have hds:=r8 hr;rw[zlD]at i2;have hnk:(n-k)=(n-(k+1))+1:=by omega
     refine⟨by omega,?_,?_,λq hq=>?_⟩
     .rw[hnk,add_mul];omega
     .rw[hnk,add_mul,hds,i3];omega
     cases q with
     |zero=>
      rw[Nat.zero_mul,List.drop_zero,add_zero,hp.head];exact dW hb.1.1 t1
     |succ q=>
      have:=i4 q (by omega);rw[drop_drop,show es+q*es=(q+1)*es by rw[add_mul];omega,show k+1+q=k+(q+1) by omega]at this;exact this
    cases h
   cases h
  cases h
theorem xE (h:iT n es F fuel 0 ls=some ps) (hp:All ps):zL ls=n*es:=by
 have key:∀{fuel k:Nat} {ls:List (Nat×SV)} {ps:List Prop},iT n es F fuel k ls=some ps->All ps->k<=n/\zL ls=(n-k)*es:=by
  intro fuel;induction fuel with
  |zero=>
   intro k ls ps h hp;cases ls with
   |nil=>
    simp only[iT,zoI]at h;subst h;have e:=hp.head;subst e;simp[zL]
   |cons a r=>simp[iT]at h
  |succ fuel ih=>
   intro k ls ps h hp;cases ls with
   |nil=>
    simp only[iT,zoI]at h;subst h;have e:=hp.head;subst e;simp[zL]
   |cons a r0=>
    simp only[iT]at h;split at h
    .split at h
     .rename_i r hr
      replace h:=(zn h).2
      split at h
      .rename_i ps' hps
       simp only[zoI]at h;subst h;obtain⟨i1,i2⟩:=ih hps hp.tail;have hds:=r8 hr;have hnk:(n-k)=(n-(k+1))+1:=by omega
       refine⟨by omega,?_⟩;rw[hnk,add_mul,hds,i2];omega
      cases h
     cases h
    cases h
 simpa using(key h hp).2
def aR1 (v:SV) (r ls:List (Nat×SV)):Option (Nat×Nat×(Nat->List (Nat×SV))):=
 match v with
 | .arr n es F=>match r with
  |[]=>match ls with
   |(_,.arr _ _ _)::_=>none
   |_=>some (n,es,F)
  |_=>none
 |_=>none
def gG (μ:Nm) (ls0 ls:List (Nat×SV)):Option (List Prop):=
 match ls0 with
 |[]=>some []
 | (s0,v0)::r0=>match aR1 v0 r0 ls with
  |some (n,es,F)=>match iT n es F ls.length 0 ls with
   |some ps=>some ((s0=n*es)::ps)
   |none=>none
  |none=>match ls with
   |[]=>none
   |(s,v)::r=>match aJ9 (zx μ v0) v with
    |some ps=>match gG μ r0 r with
     |some qs=>some ((s0=s)::(ps++qs))
     |none=>none
    |none=>none
theorem sI (h:aR1 v r ls=some x):v= .arr x.1 x.2.1 x.2.2/\r=[]:=by
 unfold aR1 at h;split at h
 .split at h
  .split at h
   .cases h
   simp only[zoI]at h;subst h;exact⟨rfl,rfl⟩
  cases h
 cases h
theorem er (h:yZ μ ρ0 ρ):∀{ls0 ls:List (Nat×SV)} {ps:List Prop} {cs:List Value},gG μ ls0 ls=some ps->All ps->zC ρ ls cs->
  zC ρ0 ls0 (cs.take (zL ls0))/\zL ls0<=cs.length
 |[],ls,ps,cs,_,_,_=>⟨by simp[zC,zL],by simp[zL]⟩
 | (s0,v0)::r0,ls,ps,cs,e,hp,hc=>by
  simp only[gG]at e;split at e
  .rename_i n es F hrow
   obtain⟨rfl,rfl⟩:=sI hrow;split at e
   .rename_i qs hq
    simp only[zoI]at e;subst e;obtain⟨i1,i2,i3,i4⟩:=nY hq hp.tail hc;have hs:=hp.head;simp only[Nat.sub_zero,zero_add]at i2 i3 i4;simp only[zL,add_zero];rw[hs,<-i2,List.take_length];refine⟨⟨cs,[],(append_nil _).symm,by omega,⟨i2,λq hq=>(i4 q hq).le (Env.bare_mono h.im)⟩,rfl⟩,le_refl _⟩
   cases e
  split at e
  .cases e
  rename_i s v r;split at e
  .rename_i qs hq
   split at e
   .rename_i rs hrs
    simp only[zoI]at e;subst e;obtain⟨c1,c2,rfl,h1,h2,h3⟩:=hc;obtain⟨i1,i2⟩:=er h hrs hp.tail.right h3;have hs:=hp.head;refine⟨⟨c1,c2.take (zL r0),?_,by omega,ij h (o6 hq hp.tail.left h2),i1⟩,by simp[zL];omega⟩;simp only[zL];rw[List.take_append,List.take_of_length_le (l:=c1) (by omega)];congr 2;omega
   cases e
  cases e
theorem ig:∀{ls0 ls:List (Nat×SV)} {ps:List Prop},gG μ ls0 ls=some ps->All ps->ls0.length=ls.length->zL ls0=zL ls
 |[],ls,ps,_,_,hl=>by
  have:ls=[]:=List.eq_nil_of_length_eq_zero hl.symm;subst this;rfl
 | (s0,v0)::r0,ls,ps,e,hp,hl=>by
  simp only[gG]at e;split at e
  .rename_i n es F hrow
   obtain⟨rfl,rfl⟩:=sI hrow;split at e
   .rename_i qs hq
    simp only[zoI]at e;subst e;simp only[zL,add_zero];rw[hp.head];exact(xE hq hp.tail).symm
   cases e
  split at e
  .cases e
  rename_i s v r;split at e
  .rename_i qs hq
   split at e
   .rename_i rs hrs
    simp only[zoI]at e;subst e;simp only[List.length_cons]at hl;simp only[zL,hp.head,ig hrs hp.tail.right (by omega)]
   cases e
  cases e
def zA:List Prop->Prop
 |[]=>True
 |[p]=>p
 |p::q::r=>p/\zA (q::r)
theorem zAi:∀{ps:List Prop},zA ps->All ps
 |[],_=>All.nil
 |[p],h=>λq hq=>by rw[List.mem_singleton.1 hq];exact h
 |p::q::r,h=>λx hx=>by
  rcases List.mem_cons.1 hx with rfl|hx
  .exact h.1
  exact zAi h.2 x hx
def aER (v:SV) (s off j n:Nat):Option (List Prop×SV):=
 match v with
 | .a8 l=>match off with
  |0=>some ([j+n<=s],.a8 ((l.drop j).take n))
  |o=>some ([j+o+n<=s],.a8 ((l.drop (j+o)).take n))
 | .a16 l=>match off with
  |0=>some ([j+n<=s],.a16 ((l.drop j).take n))
  |o=>some ([j+o+n<=s],.a16 ((l.drop (j+o)).take n))
 | .a32 l=>match off with
  |0=>some ([j+n<=s],.a32 ((l.drop j).take n))
  |o=>some ([j+o+n<=s],.a32 ((l.drop (j+o)).take n))
 | .a64 l=>match off with
  |0=>some ([j+n<=s],.a64 ((l.drop j).take n))
  |o=>some ([j+o+n<=s],.a64 ((l.drop (j+o)).take n))
 | .ai l=>match off with
  |0=>some ([j+n<=s],.ai ((l.drop j).take n))
  |o=>some ([j+o+n<=s],.ai ((l.drop (j+o)).take n))
 | .arr m es F=>match es with
  |1=>match off with
   |0=>some ([j+n<=m],.arr n 1 (λq=>F (fL j q)))
   |_=>none
  |_=>none
 |_=>none
theorem ww (hc:zD ρ v c) (hs:c.length=s) (h:aER v s off j n=some (ps,z)) (hp:All ps):
  off+j+n<=s/\zD ρ z ((c.drop (off+j)).take n):=by
 unfold aER at h;split at h
 case h_7=>cases h
 case h_6=>
  rename_i m es F;split at h
  .split at h
   .obtain⟨r1,r2⟩:=hc
    have key:∀{G:Nat->List (Nat×SV)},j+n<=m->(∀q,G q=F (j+q))->0+j+n<=s/\zD ρ (.arr n 1 G) ((c.drop (0+j)).take n):=by
     intro G hjn hG;refine⟨by omega,by simp;omega,λq hq=>?_⟩;have:=r2 (j+q) (by omega);rw[hG,zero_add,List.drop_take,List.take_take,drop_drop];rw[show(j+q)*1=j+q*1 by omega]at this;rw[min_eq_left (by omega)];exact this
    obtain⟨rfl,rfl⟩:=sB h;exact key hp.head (λq=>by rw[zQ])
   cases h
  cases h
 all_goals
  rename_i l;have hc':c=l.map _:=hc;subst hc';rw[length_map]at hs;split at h<;>simp only[zoI,zpI]at h<;>obtain⟨rfl,rfl⟩:=h
  .have:=hp.head
   refine⟨by omega,?_⟩;rw[bW,zero_add];rfl
  have:=hp.head;refine⟨by omega,?_⟩;rw[bW,add_comm];rfl
def aM7 (ls:List (Nat×SV)) (f j n:Nat):Option (List Prop×SV):=
 match ls with
 |[]=>none
 |(s,v)::r=>match f with
  |0=>aER v s 0 j n
  |f+1=>bif blt (f+1) s then aER v s (f+1) j n else aM7 r (f+1-s) j n
theorem gY:∀{ls:List (Nat×SV)} {cs:List Value} (_:zC ρ ls cs) {f j n:Nat} {ps:List Prop} {z:SV},aM7 ls f j n=some (ps,z)->All ps->
  f+j+n<=cs.length/\zD ρ z ((cs.drop (f+j)).take n)
 |[],_,_,_,_,_,_,_,h,_=>by simp[aM7]at h
 | (s,v)::r,cs,hc,f,j,n,ps,z,h,hp=>by
  obtain⟨c1,c2,rfl,h1,h2,h3⟩:=hc;have leaf:∀{off:Nat},aER v s off j n=some (ps,z)->off+j+n<=(c1++c2).length/\zD ρ z (((c1++c2).drop (off+j)).take n):=by
   intro off h;obtain⟨q1,q2⟩:=ww h2 h1 h hp;refine⟨by simp;omega,?_⟩;rw[List.drop_append_of_le_length (by omega),List.take_append_of_le_length (by simp;omega)];exact q2
  unfold aM7 at h;split at h
  .exact leaf h
  rename_i g;rcases zs h with⟨_,h⟩|⟨hb,h⟩
  .exact leaf h
  have hge:s<=g+1:=by
   rcases lt_or_ge (g+1) s with hl|hl
   .have:blt (g+1) s=true:=by simpa [Nat.blt_eq]using hl
    rw[this]at hb;cases hb
   exact hl
  obtain⟨q1,q2⟩:=gY h3 h hp;refine⟨by simp;omega,?_⟩;rw[drop_append,drop_of_length_le (l:=c1) (by omega),nil_append,h1,show g+1+j-s=g+1-s+j by omega];exact q2
def kK (ls0 ls:List (Nat×SV)) (g:Nat):Bool:=beq ls0.length ls.length&&beq g 0
def aNO (m0 m:MpV):List Prop:=
 match m0 with
 | .si l0=>match m with
  | .si l=>[l0=l]
theorem aF1 (h:All (aNO m0 m)) (k:m.Is es):m0.Is es:=by
 cases m0;cases m;rw[show _=_ from h.head];exact k
def sN (μ:Nm) (M:Mm) (b g:Nat) (j:Option Nat) (e0:Ent):Option (List Prop):=
  match e0 with
  | .dead=>match zG M b with
    |some _=>some []
    |none=>none
  | .mem own0 sp0 ls0=>match zG M b with
    | some (.mem own sp ls)=>match own0 with
      | true=>match own with
        |true=>match j with
          |none=>bif kK ls0 ls g then match gG μ ls0 ls with
              |some ps=>some ((sp0=sp)::ps)
              |none=>none
            else bif beq sp0 0 then match dG ls g with
              |some r=>gG μ ls0 r
              |none=>none
              else none
          |some _=>none
        |false=>none
      |false=>match sp0 with
       |_+1=>match own with
        |true=>none
        |false=>match sp with
          |0=>none
          |_+1=>match j with
            |some _=>none
            |none=>match g with
              |0=>some [ls0=ls]
              |_=>none
       | 0=>match j with
        |none=>match dG ls g with
          |some r=>gG μ ls0 r
          |none=>none
        |some j=>match ls0 with
          | [(n0,v0)]=>match aM7 ls g j n0 with
            |some (ps,v)=>match aJ9 (zx μ v0) v with
              |some qs=>some (ps++qs)
              |none=>none
            |none=>none
          |_=>none
    |_=>none
  | .map m0=>match zG M b with
    |some (.map m)=>some (aNO m0 m)
    |_=>none
def gO (μ:Nm) (M:Mm) (M0:Mm):Option (List Prop):=
 match M0 with
 |[]=>some []
 | (k,e0)::r=>match jf μ k with
  |some (b,g,j)=>match sN μ M b g j e0 with
   |some ps=>match gO μ M r with
    |some qs=>some (ps++qs)
    |none=>none
   |none=>none
  |none=>none
def zP (M0:Mm) (k:Nat):Bool:=(zG M0 k).isSome
def zO (M0:Mm) (k:Nat):Bool:=
 match zG M0 k with
 |some e=>e.zW
 |none=>false
def aGM (M0:Mm) (k:Nat):Bool:=
 match zG M0 k with
 |some e=>e.live
 |none=>false
def aJ6 (μ:Nm) (M0:Mm):Bool:=
  M0.all λx=>!zO M0 x.1||M0.all λy=>beq x.1 y.1|| !aGM M0 y.1||
    (match jf μ x.1,jf μ y.1 with
     |some (b,_),some (c,_)=>!beq b c
     |_,_=>false)
def zve (μ:Nm) (M0:Mm) (ρ:Env):Env where
 dom a:=(zG M0 a).isSome=true
 pos a:=match jf μ a with
  |some (b,g,j)=>((ρ.pos b).1,(ρ.pos b).2+(g+j.getD 0))
  |none=>(0,0)
 imm:=ρ.imm
theorem lU:∀{M:Mm} {a:Nat} {e:Ent},zG M a=some e->(a,e)∈M
 |[],_,_,h=>by simp[zG]at h
 |(b,e')::r,a,e,h=>by
  by_cases hab:a=b
  .subst hab
   rw[zh]at h;simp only[zoI]at h;subst h;simp
  rw[zg hab]at h;exact List.mem_cons_of_mem _ (lU h)
theorem mH:∀{M0:Mm} {ps:List Prop},gO μ M M0=some ps->All ps->∀{a:Nat} {e:Ent},(a,e)∈M0->
  ∃b g j qs,jf μ a=some (b,g,j)/\sN μ M b g j e=some qs/\All qs
 |[],_,_,_,_,_,h=>by simp at h
 | (k,e0)::r,ps,h,hp,a,e,hm=>by
  simp only[gO]at h;split at h
  .rename_i b g j hl
   split at h
   .rename_i qs hq
    split at h
    .rename_i rs hrs
     simp only[zoI]at h;subst h;rcases List.mem_cons.1 hm with heq|hm
     .simp only[zpI]at heq
      obtain⟨rfl,rfl⟩:=heq;exact⟨b,g,j,qs,hl,hq,hp.left⟩
     exact mH hrs hp.right hm
    cases h
   cases h
  cases h
theorem aA6 (h:sN μ M b g j e0=some ps):∃e,zG M b=some e/\(e0.live=true->e.live=true)/\(e0.zW=true->e.zW=true):=by
 unfold sN at h;split at h
 .split at h
  .rename_i e he;exact⟨e,he,by simp[Ent.live],by simp[Ent.zW]⟩
  cases h
 .split at h
  .rename_i own sp ls he
   refine⟨_,he,λ_=>rfl,?_⟩;split at h
   .split at h
    .exactλ_=>rfl
    cases h
   intro hh;simp[Ent.zW]at hh
  cases h
 split at h
 .rename_i m he
  exact⟨_,he,λ_=>rfl,λ_=>rfl⟩
 cases h
theorem wY (hb:yZ μ ρ0 ρ) (hM:zF ρ M w) (h:sN μ M b g j e0=some ps) (hp:All ps)
  (hpos:pos=((ρ.pos b).1,(ρ.pos b).2+(g+j.getD 0))):
  mB ρ0 w pos e0/\∀e,zG M b=some e->∀k o,eJ pos e0 k o->eJ (ρ.pos b) e k o:=by
 unfold sN at h;split at h
 .exact⟨trivial,λ_ _ _ _ hf=>hf.elim⟩
 .rename_i own0 sp0 ls0
  split at h
  .rename_i own sp ls he
   obtain⟨cs,c1,c2,c3,c4⟩:=hM.sat b _ he;have hlen:=c1.length
   have run:∀{r:List (Nat×SV)} {qs:List Prop},j=none->dG ls g=some r->gG μ ls0 r=some qs->All qs->sp0=0->(own0=true->own=true)->
     mB ρ0 w pos (.mem own0 sp0 ls0)/\∀e,zG M b=some e->∀k o,eJ pos (.mem own0 sp0 ls0) k o->eJ (ρ.pos b) e k o:=by
    intro r qs hj hd hr hq hs0 ho;subst hs0;subst hj;simp only[getD_none,add_zero]at hpos;obtain⟨d1,d2⟩:=dU c1 hd;obtain⟨r1,r2⟩:=er hb hr hq d1;rw[zlD]at r2;have hsz:zL ls0+(if own0=true then 0 else 0)≠0->zL ls+(if own=true then sp else 0)≠0:=by
     intro hn;have:(if own0=true then 0 else 0)=0:=by split <;>rfl
     omega
    refine⟨⟨_,r1,by rw[hpos];exact⟨λhn=>c2.1 (hsz hn),λ_ hh=>absurd rfl hh⟩,λi v hi=>?_,λhown i hi=>?_⟩,λe he' k o hf=>?_⟩
    .rw[List.getElem?_take]at hi
     split at hi
     .rw[List.getElem?_drop]at hi
      rw[hpos,Nat.add_assoc];exact c3 _ _ hi
     cases hi
    .have o1:=ho hown
     subst o1;rw[hpos,Nat.add_assoc];exact c4 rfl (g+i) (by omega)
    rw[he]at he';obtain rfl:Ent.mem own sp ls=e:=by simpa using he'
    rw[hpos]at hf;obtain⟨f1,f2,f3⟩:=hf;simp only at f1 f2 f3;refine⟨f1,by omega,?_⟩;have:(if own0=true then 0 else 0)=0:=by split <;>rfl
    omega
   split at h
   .split at h
    .split at h
     .rcases zs h with⟨hw,h⟩|⟨_,h⟩
      .split at h
       .rename_i qs hq
        simp only[zoI]at h;subst h;simp only[kK,zbA]at hw;have hg:=zq hw.2;subst hg;have hsp:=hp.head;subst hsp;obtain⟨r1,r2⟩:=er hb hq hp.tail c1;have hsz:=ig hq hp.tail (zq hw.1);simp only[getD_none,add_zero]at hpos;refine⟨⟨_,r1,by rw[hpos];rw[hsz];exact⟨c2.1,λhh=>by cases hh⟩,λi v hi=>?_,λ_ i hi=>?_⟩,λe he' k o hf=>?_⟩
        .rw[List.getElem?_take]at hi
         split at hi
         .rw[hpos];exact c3 _ _ hi
         cases hi
        .rw[hpos];exact c4 rfl i (by omega)
        rw[he]at he';obtain rfl:Ent.mem true _ ls=e:=by simpa using he'
        rw[hpos]at hf;obtain⟨f1,f2,f3⟩:=hf;simp only[if_true]at f1 f2 f3;exact⟨f1,f2,by simp only[if_true];omega⟩
       cases h
      obtain⟨hs,h⟩:=zn h;split at h
      .rename_i r hr
       exact run rfl hr h hp (zq hs) (λ_=>rfl)
      cases h
     cases h
    cases h
   split at h
   .rename_i sp0'
    split at h
    .cases h
    split at h
    .cases h
    split at h
    .cases h
    split at h
    .simp only[zoI]at h;subst h
     have e:=hp.head;subst e;simp only[getD_none,add_zero]at hpos;have hi:=c2.2 rfl (Nat.succ_ne_zero _);obtain⟨k0,cs',k1,k3⟩:=hM.immO hi;refine⟨⟨cs',k1.le (Env.bare_any hb.im),⟨λhn=>by rw[hpos];exact k0 (by simpa using hn),λ_ _=>by rw[hpos];exact hi.mono hb.im⟩,λi v hv=>by rw[hpos];exact k3 i v hv,λhh=>by cases hh⟩,λe he' k o hf=>?_⟩;rw[he]at he';simp only[zoI]at he';subst he';rw[hpos]at hf;exact hf
    cases h
   split at h
   .split at h
    .rename_i r hr
     exact run rfl hr h hp rfl (λhh=>by cases hh)
    cases h
   rename_i j';split at h
   .rename_i n0 v0
    split at h
    .rename_i qs v hs
     split at h
     .rename_i rs hrs
      simp only[zoI]at h;subst h;obtain⟨s1,s2⟩:=gY c1 hs hp.left;simp only[Option.getD_some]at hpos;have hcell:=ij hb (o6 hrs hp.right s2);have hn:((cs.drop (g+j')).take n0).length=n0:=by rw[zlT,zlD];omega
      refine⟨⟨(cs.drop (g+j')).take n0,⟨(cs.drop (g+j')).take n0,[],(append_nil _).symm,hn,hcell,rfl⟩,by rw[hpos];exact⟨λhz=>c2.1 (by simp only[zL,Bool.false_eq_true,if_false]at hz;omega),λ_ hh=>absurd rfl hh⟩,λi v hi=>?_,λhh=>by cases hh⟩,λe he' k o hf=>?_⟩
      .rw[List.getElem?_take]at hi
       split at hi
       .rw[List.getElem?_drop]at hi
        rw[hpos,Nat.add_assoc];exact c3 _ _ hi
       cases hi
      rw[he]at he';obtain rfl:Ent.mem own sp ls=e:=by simpa using he'
      rw[hpos]at hf;obtain⟨f1,f2,f3⟩:=hf;simp only[zL,Bool.false_eq_true,if_false]at f1 f2 f3;exact⟨f1,by omega,by omega⟩
     cases h
    cases h
   cases h
  cases h
 rename_i m0;split at h
 .rename_i m he
  simp only[zoI]at h;subst h;obtain⟨es,clock,h1,h2⟩:=hM.sat b _ he;refine⟨⟨es,clock,by rw[hpos];exact h1,aF1 hp h2⟩,λe he' k o hf=>?_⟩;rw[he]at he';obtain rfl:Ent.map m=e:=by simpa using he'
  rw[hpos]at hf;exact hf
 cases h
theorem aEP (h:aJ6 μ M0=true) (ha:zG M0 a=some e) (hb:zG M0 b=some e') (hab:a≠b) (ho:e.zW=true) (hl:e'.live=true)
  (hx:jf μ a=some (x,p)) (hy:jf μ b=some (y,q)):x≠y:=by
 have h1:=List.all_eq_true.1 h _ (lU ha);simp only[zO,ha,ho,Bool.not_true,Bool.false_or]at h1;have h2:=List.all_eq_true.1 h1 _ (lU hb);have hne:beq a b=false:=by
  cases hc:beq a b with
  |false=>rfl
  |true=>exact absurd (zq hc) hab
 simp only[hne,aGM,hb,hl,Bool.not_true,Bool.false_or,hx,hy,Bool.not_eq_true']at h2;intro e;subst e;rw[show beq x x=true from Nat.beq_refl x]at h2;cases h2
theorem oZ (hM:zF ρ M w) (h:gO μ M M0=some ps) (hp:All ps) (hs:aJ6 μ M0=true)
  (hb:yZ μ (zve μ M0 ρ) ρ):
  zF (zve μ M0 ρ) M0 w/\(∀k o,eU (zve μ M0 ρ) M0 k o->eU ρ M k o)/\
  (∀k o,eU (zve μ M0 ρ) M0 k o->∃a b p e0 e,zG M0 a=some e0/\e0.zW=true/\jf μ a=some (b,p)/\zG M b=some e/\e.zW=true/\eJ (ρ.pos b) e k o/\eJ ((zve μ M0 ρ).pos a) e0 k o):=by
 have hpos:∀{a b g:Nat} {j:Option Nat},jf μ a=some (b,g,j)->(zve μ M0 ρ).pos a=((ρ.pos b).1,(ρ.pos b).2+(g+j.getD 0)):=by
  intro a b g j hl;simp only[zve,hl]
 have key:∀{a:Nat} {e0:Ent},zG M0 a=some e0->∃b g j e,jf μ a=some (b,g,j)/\zG M b=some e/\(e0.live=true->e.live=true)/\(e0.zW=true->e.zW=true)/\
   mB (zve μ M0 ρ) w ((zve μ M0 ρ).pos a) e0/\∀k o,eJ ((zve μ M0 ρ).pos a) e0 k o->eJ (ρ.pos b) e k o:=by
  intro a e0 ha;obtain⟨b,g,j,qs,hl,hv,hq⟩:=mH h hp (lU ha);obtain⟨e,he,h1,h2⟩:=aA6 hv;obtain⟨h3,h4⟩:=wY hb hM hv hq (hpos hl);exact⟨b,g,j,e,hl,he,h1,h2,h3,h4 e he⟩
 have own3:∀k o,eU (zve μ M0 ρ) M0 k o->∃a b p e0 e,zG M0 a=some e0/\e0.zW=true/\jf μ a=some (b,p)/\zG M b=some e/\e.zW=true/\eJ (ρ.pos b) e k o/\eJ ((zve μ M0 ρ).pos a) e0 k o:=by
  rintro k o ⟨a,e0,ha,ho,hf⟩;obtain⟨b,g,j,e,hl,he,_,h2,_,h4⟩:=key ha;exact⟨a,b,(g,j),e0,e,ha,ho,hl,he,h2 ho,h4 k o hf,hf⟩
 have own1:∀k o,eU (zve μ M0 ρ) M0 k o->eU ρ M k o:=by
  intro k o ho;obtain⟨_,b,_,_,e,_,_,_,he,h2,hf,_⟩:=own3 k o ho;exact⟨b,e,he,h2,hf⟩
 refine⟨⟨λa ha=>?_,λa e he=>by simp[zve,he],λa e he=>?_,λa b e e' he he' hab ho k o hf hf'=>?_,hM.imm,λb o hi ho=>hM.isep b o hi (own1 b o ho)⟩,own1,own3⟩
 .obtain⟨e,he⟩:=Option.isSome_iff_exists.1 (show(zG M0 a).isSome=true from ha)
  exact⟨e,he⟩
 .obtain⟨_,_,_,_,_,_,_,_,h3,_⟩:=key he
  exact h3
 obtain⟨x,g,j,f,hl,hx,_,h2,_,h4⟩:=key he;obtain⟨y,g',j',f',hl',hy,_,_,_,h4'⟩:=key he';have hlive:e'.live=true:=by cases e'<;>first|rfl|exact hf'.elim
 have hne:=aEP hs he he' hab ho hlive hl hl';exact hM.sep x y f f' hx hy hne (h2 ho) k o (h4 k o hf) (h4' k o hf')
end Go.Sx
