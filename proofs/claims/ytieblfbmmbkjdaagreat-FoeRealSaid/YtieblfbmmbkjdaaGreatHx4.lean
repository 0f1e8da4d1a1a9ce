/- Executor, part 4. No condition. -/
import Derived.Test.YtieblfbmmbkjdaaGreatHx3
import Derived.Laws.Append
import Derived.Laws.AppendOwn
import Derived.Laws.MakeOwn
import Derived.Great.BuildSlice
import Derived.Lib.ConvBytes
set_option linter.unusedSimpArgs false
set_option linter.unusedVariables false
set_option autoImplicit true
set_option relaxedAutoImplicit true
open Nat (beq le_refl lt_or_ge add_zero zero_add blt mul_one add_assoc add_mul zero_mul)
open List (getElem?_take getElem?_drop append_nil append_assoc replicate getElem?_append_left getElem?_append_right mem_cons_of_mem map_replicate mem_cons)
open Option (getD_none getD_some)
open Array (ext')
open Go.Result (andThen_ok)
open Bool (not_eq_true')
open Go.Sem (run_bind)
namespace Go.Sx
open Go
def zA:List Prop->Prop
 |[]=>True
 |[p]=>p
 |p::q::r=>p/\zA (q::r)
theorem zAi:∀{ps:List Prop},zA ps->All ps
 |[],_=>All.nil
 |[p],h=>λq hq=>by rw[List.mem_singleton.1 hq];exact h
 |p::q::r,h=>λx hx=>by
  rcases List.mem_cons.1 hx with rfl|hx
  ·exact h.1
  exact zAi h.2 x hx
def aER (v:SV) (s off j n:Nat):Option (List Prop×SV):=
 match v with
 | .a8 l=>match off with
  |0=>some ([j+n<=s],.a8 ((l.drop j).take n))
  |o=>some ([j+o+n<=s],.a8 ((l.drop (j+o)).take n))
 | .a16 l=>match off with
  |0=>some ([j+n<=s],.a16 ((l.drop j).take n))
  |o=>some ([j+o+n<=s],.a16 ((l.drop (j+o)).take n))
 | .a32 l=>match off with
  |0=>some ([j+n<=s],.a32 ((l.drop j).take n))
  |o=>some ([j+o+n<=s],.a32 ((l.drop (j+o)).take n))
 | .a64 l=>match off with
  |0=>some ([j+n<=s],.a64 ((l.drop j).take n))
  |o=>some ([j+o+n<=s],.a64 ((l.drop (j+o)).take n))
 | .ai l=>match off with
  |0=>some ([j+n<=s],.ai ((l.drop j).take n))
  |o=>some ([j+o+n<=s],.ai ((l.drop (j+o)).take n))
 | .arr m es F=>match es with
  |1=>match off with
   |0=>some ([j+n<=m],.arr n 1 (λq=>F (fL j q)))
   |_=>none
  |_=>none
 |_=>none
theorem ww (hc:zD ρ v c) (hs:c.length=s) (h:aER v s off j n=some (ps,z)) (hp:All ps):
  off+j+n<=s/\zD ρ z ((c.drop (off+j)).take n):=by
 unfold aER at h
 split at h
 case h_7=>cases h
 case h_6=>
  rename_i m es F
  split at h
  ·split at h
   ·obtain⟨r1,r2⟩:=hc
    have key:∀{G:Nat->List (Nat×SV)},j+n<=m->(∀q,G q=F (j+q))->0+j+n<=s/\zD ρ (.arr n 1 G) ((c.drop (0+j)).take n):=by
     intro G hjn hG
     refine⟨by omega,by simp;omega,λq hq=>?_⟩
     have:=r2 (j+q) (by omega)
     rw[hG,zero_add,List.drop_take,List.take_take,List.drop_drop]
     rw[show(j+q)*1=j+q*1 by omega]at this
     rw[Nat.min_eq_left (by omega)]
     exact this
    obtain⟨rfl,rfl⟩:=sB h
    exact key hp.head (λq=>by rw[zQ])
   cases h
  cases h
 all_goals
  rename_i l
  have hc':c=l.map _:=hc
  subst hc'
  rw[List.length_map]at hs
  split at h<;>simp only[zoI,zpI]at h<;>obtain⟨rfl,rfl⟩:=h
  ·have:=hp.head
   refine⟨by omega,?_⟩
   rw[bW,zero_add];rfl
  have:=hp.head
  refine⟨by omega,?_⟩
  rw[bW,Nat.add_comm];rfl
def aM7 (ls:List (Nat×SV)) (f j n:Nat):Option (List Prop×SV):=
 match ls with
 |[]=>none
 |(s,v)::r=>match f with
  |0=>aER v s 0 j n
  |f+1=>bif blt (f+1) s then aER v s (f+1) j n else aM7 r (f+1-s) j n
theorem gY:∀{ls:List (Nat×SV)} {cs:List Value} (_:zC ρ ls cs) {f j n:Nat} {ps:List Prop} {z:SV},aM7 ls f j n=some (ps,z)->All ps->
  f+j+n<=cs.length/\zD ρ z ((cs.drop (f+j)).take n)
 |[],_,_,_,_,_,_,_,h,_=>by simp[aM7]at h
 | (s,v)::r,cs,hc,f,j,n,ps,z,h,hp=>by
  obtain⟨c1,c2,rfl,h1,h2,h3⟩:=hc
  have leaf:∀{off:Nat},aER v s off j n=some (ps,z)->off+j+n<=(c1++c2).length/\zD ρ z (((c1++c2).drop (off+j)).take n):=by
   intro off h
   obtain⟨q1,q2⟩:=ww h2 h1 h hp
   refine⟨by simp;omega,?_⟩
   rw[List.drop_append_of_le_length (by omega),List.take_append_of_le_length (by simp;omega)]
   exact q2
  unfold aM7 at h
  split at h
  ·exact leaf h
  rename_i g
  rcases zs h with⟨_,h⟩|⟨hb,h⟩
  ·exact leaf h
  have hge:s<=g+1:=by
   rcases lt_or_ge (g+1) s with hl|hl
   ·have:blt (g+1) s=true:=by simpa [Nat.blt_eq]using hl
    rw[this]at hb;cases hb
   exact hl
  obtain⟨q1,q2⟩:=gY h3 h hp
  refine⟨by simp;omega,?_⟩
  rw[List.drop_append,List.drop_of_length_le (l:=c1) (by omega),List.nil_append,h1,show g+1+j-s=g+1-s+j by omega]
  exact q2
def kK (ls0 ls:List (Nat×SV)) (g:Nat):Bool:=beq ls0.length ls.length&&beq g 0
def aNO (m0 m:MpV):List Prop:=
 match m0 with
 | .si l0=>match m with
  | .si l=>[l0=l]
theorem aF1 (h:All (aNO m0 m)) (k:m.Is es):m0.Is es:=by
 cases m0;cases m
 rw[show _=_ from h.head];exact k
def sN (μ:Nm) (M:Mm) (b g:Nat) (j:Option Nat) (e0:Ent):Option (List Prop):=
  match e0 with
  | .dead=>match zG M b with
    |some _=>some []
    |none=>none
  | .mem own0 sp0 ls0=>match zG M b with
    | some (.mem own sp ls)=>match own0 with
      | true=>match own with
        |true=>match j with
          |none=>bif kK ls0 ls g then match gG μ ls0 ls with
              |some ps=>some ((sp0=sp)::ps)
              |none=>none
            else bif beq sp0 0 then match dG ls g with
              |some r=>gG μ ls0 r
              |none=>none
              else none
          |some _=>none
        |false=>none
      |false=>match sp0 with
       |_+1=>match own with
        |true=>none
        |false=>match sp with
          |0=>none
          |_+1=>match j with
            |some _=>none
            |none=>match g with
              |0=>some [ls0=ls]
              |_=>none
       | 0=>match j with
        |none=>match dG ls g with
          |some r=>gG μ ls0 r
          |none=>none
        |some j=>match ls0 with
          | [(n0,v0)]=>match aM7 ls g j n0 with
            |some (ps,v)=>match aJ9 (zx μ v0) v with
              |some qs=>some (ps++qs)
              |none=>none
            |none=>none
          |_=>none
    |_=>none
  | .map m0=>match zG M b with
    |some (.map m)=>some (aNO m0 m)
    |_=>none
def gO (μ:Nm) (M:Mm) (M0:Mm):Option (List Prop):=
 match M0 with
 |[]=>some []
 | (k,e0)::r=>match jf μ k with
  |some (b,g,j)=>match sN μ M b g j e0 with
   |some ps=>match gO μ M r with
    |some qs=>some (ps++qs)
    |none=>none
   |none=>none
  |none=>none
def zP (M0:Mm) (k:Nat):Bool:=(zG M0 k).isSome
def zO (M0:Mm) (k:Nat):Bool:=
 match zG M0 k with
 |some e=>e.zW
 |none=>false
def aGM (M0:Mm) (k:Nat):Bool:=
 match zG M0 k with
 |some e=>e.live
 |none=>false
def aJ6 (μ:Nm) (M0:Mm):Bool:=
  M0.all λx=>!zO M0 x.1||M0.all λy=>beq x.1 y.1|| !aGM M0 y.1||
    (match jf μ x.1,jf μ y.1 with
     |some (b,_),some (c,_)=>!beq b c
     |_,_=>false)
def zve (μ:Nm) (M0:Mm) (ρ:Env):Env where
 dom a:=(zG M0 a).isSome=true
 pos a:=match jf μ a with
  |some (b,g,j)=>((ρ.pos b).1,(ρ.pos b).2+(g+j.getD 0))
  |none=>(0,0)
 imm:=ρ.imm
theorem lU:∀{M:Mm} {a:Nat} {e:Ent},zG M a=some e->(a,e)∈M
 |[],_,_,h=>by simp[zG]at h
 |(b,e')::r,a,e,h=>by
  by_cases hab:a=b
  ·subst hab
   rw[zh]at h
   simp only[zoI]at h;subst h;simp
  rw[zg hab]at h
  exact mem_cons_of_mem _ (lU h)
theorem mH:∀{M0:Mm} {ps:List Prop},gO μ M M0=some ps->All ps->∀{a:Nat} {e:Ent},(a,e)∈M0->
  ∃b g j qs,jf μ a=some (b,g,j)/\sN μ M b g j e=some qs/\All qs
 |[],_,_,_,_,_,h=>by simp at h
 | (k,e0)::r,ps,h,hp,a,e,hm=>by
  simp only[gO]at h
  split at h
  ·rename_i b g j hl
   split at h
   ·rename_i qs hq
    split at h
    ·rename_i rs hrs
     simp only[zoI]at h;subst h
     rcases List.mem_cons.1 hm with heq|hm
     ·simp only[zpI]at heq
      obtain⟨rfl,rfl⟩:=heq
      exact⟨b,g,j,qs,hl,hq,hp.left⟩
     exact mH hrs hp.right hm
    cases h
   cases h
  cases h
theorem aA6 (h:sN μ M b g j e0=some ps):∃e,zG M b=some e/\(e0.live=true->e.live=true)/\(e0.zW=true->e.zW=true):=by
 unfold sN at h
 split at h
 ·split at h
  ·rename_i e he;exact⟨e,he,by simp[Ent.live],by simp[Ent.zW]⟩
  cases h
 ·split at h
  ·rename_i own sp ls he
   refine⟨_,he,λ_=>rfl,?_⟩
   split at h
   ·split at h
    ·exactλ_=>rfl
    cases h
   intro hh;simp[Ent.zW]at hh
  cases h
 split at h
 ·rename_i m he
  exact⟨_,he,λ_=>rfl,λ_=>rfl⟩
 cases h
theorem wY (hb:yZ μ ρ0 ρ) (hM:zF ρ M w) (h:sN μ M b g j e0=some ps) (hp:All ps)
  (hpos:pos=((ρ.pos b).1,(ρ.pos b).2+(g+j.getD 0))):
  mB ρ0 w pos e0/\∀e,zG M b=some e->∀k o,eJ pos e0 k o->eJ (ρ.pos b) e k o:=by
 unfold sN at h
 split at h
 ·exact⟨trivial,λ_ _ _ _ hf=>hf.elim⟩
 ·rename_i own0 sp0 ls0
  split at h
  ·rename_i own sp ls he
   obtain⟨cs,c1,c2,c3,c4⟩:=hM.sat b _ he
   have hlen:=c1.length
   have run:∀{r:List (Nat×SV)} {qs:List Prop},j=none->dG ls g=some r->gG μ ls0 r=some qs->All qs->sp0=0->(own0=true->own=true)->
     mB ρ0 w pos (.mem own0 sp0 ls0)/\∀e,zG M b=some e->∀k o,eJ pos (.mem own0 sp0 ls0) k o->eJ (ρ.pos b) e k o:=by
    intro r qs hj hd hr hq hs0 ho
    subst hs0
    subst hj
    simp only[getD_none,add_zero]at hpos
    obtain⟨d1,d2⟩:=dU c1 hd
    obtain⟨r1,r2⟩:=er hb hr hq d1
    rw[zlD]at r2
    have hsz:zL ls0+(if own0=true then 0 else 0)≠0->zL ls+(if own=true then sp else 0)≠0:=by
     intro hn
     have:(if own0=true then 0 else 0)=0:=by split <;>rfl
     omega
    refine⟨⟨_,r1,by rw[hpos];exact⟨λhn=>c2.1 (hsz hn),λ_ hh=>absurd rfl hh⟩,λi v hi=>?_,λhown i hi=>?_⟩,λe he' k o hf=>?_⟩
    ·rw[getElem?_take]at hi
     split at hi
     ·rw[getElem?_drop]at hi
      rw[hpos,add_assoc];exact c3 _ _ hi
     cases hi
    ·have o1:=ho hown
     subst o1
     rw[hpos,add_assoc]
     exact c4 rfl (g+i) (by omega)
    rw[he]at he'
    obtain rfl:Ent.mem own sp ls=e:=by simpa using he'
    rw[hpos]at hf
    obtain⟨f1,f2,f3⟩:=hf
    simp only at f1 f2 f3
    refine⟨f1,by omega,?_⟩
    have:(if own0=true then 0 else 0)=0:=by split <;>rfl
    omega
   split at h
   ·split at h
    ·split at h
     ·rcases zs h with⟨hw,h⟩|⟨_,h⟩
      ·split at h
       ·rename_i qs hq
        simp only[zoI]at h;subst h
        simp only[kK,zbA]at hw
        have hg:=zq hw.2
        subst hg
        have hsp:=hp.head
        subst hsp
        obtain⟨r1,r2⟩:=er hb hq hp.tail c1
        have hsz:=ig hq hp.tail (zq hw.1)
        simp only[getD_none,add_zero]at hpos
        refine⟨⟨_,r1,by rw[hpos];rw[hsz];exact⟨c2.1,λhh=>by cases hh⟩,λi v hi=>?_,λ_ i hi=>?_⟩,λe he' k o hf=>?_⟩
        ·rw[getElem?_take]at hi
         split at hi
         ·rw[hpos];exact c3 _ _ hi
         cases hi
        ·rw[hpos];exact c4 rfl i (by omega)
        rw[he]at he'
        obtain rfl:Ent.mem true _ ls=e:=by simpa using he'
        rw[hpos]at hf
        obtain⟨f1,f2,f3⟩:=hf
        simp only[if_true]at f1 f2 f3
        exact⟨f1,f2,by simp only[if_true];omega⟩
       cases h
      obtain⟨hs,h⟩:=zn h
      split at h
      ·rename_i r hr
       exact run rfl hr h hp (zq hs) (λ_=>rfl)
      cases h
     cases h
    cases h
   split at h
   ·rename_i sp0'
    split at h
    ·cases h
    split at h
    ·cases h
    split at h
    ·cases h
    split at h
    ·simp only[zoI]at h;subst h
     have e:=hp.head
     subst e
     simp only[getD_none,add_zero]at hpos
     have hi:=c2.2 rfl (Nat.succ_ne_zero _)
     obtain⟨k0,cs',k1,k3⟩:=hM.immO hi
     refine⟨⟨cs',k1.le (Env.bare_any hb.im),⟨λhn=>by rw[hpos];exact k0 (by simpa using hn),λ_ _=>by rw[hpos];exact hi.mono hb.im⟩,λi v hv=>by rw[hpos];exact k3 i v hv,λhh=>by cases hh⟩,λe he' k o hf=>?_⟩
     rw[he]at he'
     simp only[zoI]at he'
     subst he'
     rw[hpos]at hf
     exact hf
    cases h
   split at h
   ·split at h
    ·rename_i r hr
     exact run rfl hr h hp rfl (λhh=>by cases hh)
    cases h
   rename_i j'
   split at h
   ·rename_i n0 v0
    split at h
    ·rename_i qs v hs
     split at h
     ·rename_i rs hrs
      simp only[zoI]at h;subst h
      obtain⟨s1,s2⟩:=gY c1 hs hp.left
      simp only[getD_some]at hpos
      have hcell:=ij hb (o6 hrs hp.right s2)
      have hn:((cs.drop (g+j')).take n0).length=n0:=by rw[zlT,zlD];omega
      refine⟨⟨(cs.drop (g+j')).take n0,⟨(cs.drop (g+j')).take n0,[],(append_nil _).symm,hn,hcell,rfl⟩,by rw[hpos];exact⟨λhz=>c2.1 (by simp only[zL,Bool.false_eq_true,if_false]at hz;omega),λ_ hh=>absurd rfl hh⟩,λi v hi=>?_,λhh=>by cases hh⟩,λe he' k o hf=>?_⟩
      ·rw[getElem?_take]at hi
       split at hi
       ·rw[getElem?_drop]at hi
        rw[hpos,add_assoc];exact c3 _ _ hi
       cases hi
      rw[he]at he'
      obtain rfl:Ent.mem own sp ls=e:=by simpa using he'
      rw[hpos]at hf
      obtain⟨f1,f2,f3⟩:=hf
      simp only[zL,Bool.false_eq_true,if_false]at f1 f2 f3
      exact⟨f1,by omega,by omega⟩
     cases h
    cases h
   cases h
  cases h
 rename_i m0
 split at h
 ·rename_i m he
  simp only[zoI]at h;subst h
  obtain⟨es,clock,h1,h2⟩:=hM.sat b _ he
  refine⟨⟨es,clock,by rw[hpos];exact h1,aF1 hp h2⟩,λe he' k o hf=>?_⟩
  rw[he]at he'
  obtain rfl:Ent.map m=e:=by simpa using he'
  rw[hpos]at hf
  exact hf
 cases h
theorem aEP (h:aJ6 μ M0=true) (ha:zG M0 a=some e) (hb:zG M0 b=some e') (hab:a≠b) (ho:e.zW=true) (hl:e'.live=true)
  (hx:jf μ a=some (x,p)) (hy:jf μ b=some (y,q)):x≠y:=by
 have h1:=List.all_eq_true.1 h _ (lU ha)
 simp only[zO,ha,ho,Bool.not_true,Bool.false_or]at h1
 have h2:=List.all_eq_true.1 h1 _ (lU hb)
 have hne:beq a b=false:=by
  cases hc:beq a b with
  |false=>rfl
  |true=>exact absurd (zq hc) hab
 simp only[hne,aGM,hb,hl,Bool.not_true,Bool.false_or,hx,hy,not_eq_true']at h2
 intro e
 subst e
 rw[show beq x x=true from Nat.beq_refl x]at h2
 cases h2
theorem oZ (hM:zF ρ M w) (h:gO μ M M0=some ps) (hp:All ps) (hs:aJ6 μ M0=true)
  (hb:yZ μ (zve μ M0 ρ) ρ):
  zF (zve μ M0 ρ) M0 w/\(∀k o,eU (zve μ M0 ρ) M0 k o->eU ρ M k o)/\
  (∀k o,eU (zve μ M0 ρ) M0 k o->∃a b p e0 e,zG M0 a=some e0/\e0.zW=true/\jf μ a=some (b,p)/\zG M b=some e/\e.zW=true/\eJ (ρ.pos b) e k o/\eJ ((zve μ M0 ρ).pos a) e0 k o):=by
 have hpos:∀{a b g:Nat} {j:Option Nat},jf μ a=some (b,g,j)->(zve μ M0 ρ).pos a=((ρ.pos b).1,(ρ.pos b).2+(g+j.getD 0)):=by
  intro a b g j hl;simp only[zve,hl]
 have key:∀{a:Nat} {e0:Ent},zG M0 a=some e0->∃b g j e,jf μ a=some (b,g,j)/\zG M b=some e/\(e0.live=true->e.live=true)/\(e0.zW=true->e.zW=true)/\
   mB (zve μ M0 ρ) w ((zve μ M0 ρ).pos a) e0/\∀k o,eJ ((zve μ M0 ρ).pos a) e0 k o->eJ (ρ.pos b) e k o:=by
  intro a e0 ha
  obtain⟨b,g,j,qs,hl,hv,hq⟩:=mH h hp (lU ha)
  obtain⟨e,he,h1,h2⟩:=aA6 hv
  obtain⟨h3,h4⟩:=wY hb hM hv hq (hpos hl)
  exact⟨b,g,j,e,hl,he,h1,h2,h3,h4 e he⟩
 have own3:∀k o,eU (zve μ M0 ρ) M0 k o->∃a b p e0 e,zG M0 a=some e0/\e0.zW=true/\jf μ a=some (b,p)/\zG M b=some e/\e.zW=true/\eJ (ρ.pos b) e k o/\eJ ((zve μ M0 ρ).pos a) e0 k o:=by
  rintro k o ⟨a,e0,ha,ho,hf⟩
  obtain⟨b,g,j,e,hl,he,_,h2,_,h4⟩:=key ha
  exact⟨a,b,(g,j),e0,e,ha,ho,hl,he,h2 ho,h4 k o hf,hf⟩
 have own1:∀k o,eU (zve μ M0 ρ) M0 k o->eU ρ M k o:=by
  intro k o ho
  obtain⟨_,b,_,_,e,_,_,_,he,h2,hf,_⟩:=own3 k o ho
  exact⟨b,e,he,h2,hf⟩
 refine⟨⟨λa ha=>?_,λa e he=>by simp[zve,he],λa e he=>?_,λa b e e' he he' hab ho k o hf hf'=>?_,hM.imm,λb o hi ho=>hM.isep b o hi (own1 b o ho),hM.gl⟩,own1,own3⟩
 ·obtain⟨e,he⟩:=Option.isSome_iff_exists.1 (show(zG M0 a).isSome=true from ha)
  exact⟨e,he⟩
 ·obtain⟨_,_,_,_,_,_,_,_,h3,_⟩:=key he
  exact h3
 obtain⟨x,g,j,f,hl,hx,_,h2,_,h4⟩:=key he
 obtain⟨y,g',j',f',hl',hy,_,_,_,h4'⟩:=key he'
 have hlive:e'.live=true:=by cases e'<;>first|rfl|exact hf'.elim
 have hne:=aEP hs he he' hab ho hlive hl hl'
 exact hM.sep x y f f' hx hy hne (h2 ho) k o (h4 k o hf) (h4' k o hf')
def Fn (P:Program) (f:FuncId) (args:List SV) (M0:Mm) (R:SV->Mm->Prop):Prop:=
 ∀(ρ:Env) (xs:List Value) (w:World),zF ρ M0 w->nM ρ args xs->
  Calls P f xs.toArray w λe w'=>∃v x ρ' M',e= .returned x/\zRT ρ' v x/\R v M'/\ρ.le ρ'/\zF ρ' M' w'/\aV ρ M0 ρ' M' w w'
def aEX (μ:Nm) (v0 v:SV):Option (List Prop):=
 match v0 with
 | .und=>some []
 | .agg ls0=>match v with
  | .agg ls=>bif beq ls0.length ls.length then gG μ ls0 ls else none
  |_=>none
 | .tup _=>none
 |v0=>same (zx μ v0) v
theorem jt (hb:yZ μ ρ0 ρ) (h:aEX μ v0 v=some ps) (hp:All ps) (hr:zRT ρ v x):Rel ρ0 v0 x:=by
 unfold aEX at h
 split at h
 ·trivial
 ·split at h
  ·rename_i ls0 ls
   obtain⟨hl,h⟩:=zn h
   obtain⟨cs,hc,e⟩:=hr
   obtain⟨r1,r2⟩:=er hb h hp hc
   have hsz:=ig h hp (zq hl)
   rw[hsz,<-hc.length,List.take_length]at r1
   exact⟨cs,r1,e⟩
  cases h
 ·cases h
 rename_i h1 h2 h3
 cases hv:aq v with
 |true=>
  have e:=oz h hp hv
  have ha:aq v0=true:=by
   cases hq:aq v0 with
   |true=>rfl
   |false=>
    have:=jv (μ:=μ) hq
    rw[e,hv]at this;cases this
  rw[sb ha]at e
  rw[e]
  cases v<;>first|exact hr|cases hv
 |false=>
  have hu:=sT h
  rw[hv]at hu
  have hrs:cg ρ v x:=by
   cases v<;>first
    |exact hr
    |(cases hv;done)
    |(exfalso;revert h;unfold same;split <;>simp;done)
  have:=uW hb (rQ h hp hrs)
  exact iS this
def fD (μ:Nm) (l0 l:List SV):Option (List Prop):=
 match l0 with
 |[]=>match l with
  |[]=>some []
  |_=>none
 |v0::r0=>match l with
  |[]=>none
  |v::r=>match aEX μ v0 v with
   |some ps=>match fD μ r0 r with
    |some qs=>some (ps++qs)
    |none=>none
   |none=>none
def iR (ρ:Env):List SV->List Value->Prop
 |[],xs=>xs=[]
 |v::r,xs=>∃x ys,xs=x::ys/\zRT ρ v x/\iR ρ r ys
theorem gH (hb:yZ μ ρ0 ρ):∀{l0 l:List SV} {ps:List Prop} {xs:List Value},fD μ l0 l=some ps->All ps->iR ρ l xs->nM ρ0 l0 xs
 |[],l,ps,xs,h,_,hr=>by
  unfold fD at h
  split at h
  ·exact hr
  cases h
 |v0::r0,l,ps,xs,h,hp,hr=>by
  unfold fD at h
  split at h
  ·cases h
  split at h
  ·rename_i qs hq
   split at h
   ·rename_i rs hrs
    simp only[zoI]at h;subst h
    obtain⟨x,ys,e,h1,h2⟩:=hr
    exact⟨x,ys,e,jt hb hq hp.left h1,gH hb hrs hp.right h2⟩
   cases h
  cases h
def act (M0:Mm) (k:Nat):Bool:=!zP M0 k||zO M0 k
def zE (μ:Nm) (M M0 M':Mm) (k b g:Nat):Ent:=
 match zG M' k with
 |some (.mem true sp' ls')=>match zy μ ls' with
  |some l=>match zG M0 k with
   |none=>.mem true sp' l
   |some (.mem _ _ ls0)=>match zG M b with
    |some (.mem _ sp ls)=>bif kK ls0 ls g then .mem true sp' l
      else bif beq sp' 0&&beq (zL l) (zL ls0)then match aKL ls g l with
       |some q=>.mem true sp q
       |none=>.dead
       else .dead
    |_=>.dead
   |_=>.dead
  |none=>.dead
 |some (.map m)=>match zG M0 k with
  |none=>.map m
  |some (.map _)=>match zG M b with
   |some (.map _)=>.map m
   |_=>.dead
  |_=>.dead
 |_=>.dead
def zM (μ:Nm) (M M0 M':Mm):Nm->Mm
 |[]=>M
 |(k,(b,g,_))::r=>bif act M0 k then(b,zE μ M M0 M' k b g)::zM μ M M0 M' r else zM μ M M0 M' r
def eY (a:Nat):List Nat->Bool
 |[]=>false
 |b::r=>beq a b||eY a r
def jj:List Nat->Bool
 |[]=>true
 |a::r=>!eY a r&&jj r
def zaT (M0:Mm):Nm->List Nat
 |[]=>[]
 |(k,(b,_))::r=>bif act M0 k then b::zaT M0 r else zaT M0 r
def aB8:Nm->List Nat
 |[]=>[]
 |(k,_)::r=>k::aB8 r
def qG (M M0:Mm):Nm->Bool
 |[]=>true
 |(k,(b,g,j))::r=>(bif zP M0 k then(zG M b).isSome else(zG M b).isNone&&beq g 0&&j.isNone)&&qG M M0 r
def tD (μ:Nm) (M M0:Mm):Bool:=jj (aB8 μ)&&jj (zaT M0 μ)&&qG M M0 μ&&aJ6 μ M0
theorem zmi:∀{l:List Nat},eY a l=true↔a∈l
 |[]=>by simp[eY]
 |b::r=>by
  simp only[eY,Bool.or_eq_true,mem_cons,zmi (l:=r)]
  constructor
  ·rintro(h|h)
   ·exact Or.inl (zq h)
   exact Or.inr h
  rintro(rfl|h)
  ·exact Or.inl (Nat.beq_refl _)
  exact Or.inr h
theorem df:∀{μ:Nm} {k:Nat} {x:Nat×Nat×Option Nat},jf μ k=some x->(k,x)∈μ
 |[],_,_,h=>by simp[jf]at h
 |(b,r)::q,k,x,h=>by
  simp only[jf]at h
  rcases zs h with⟨hb,h⟩|⟨_,h⟩
  ·simp only[zoI]at h;subst h
   rw[zq hb];simp
  exact mem_cons_of_mem _ (df h)
theorem u3:∀{μ:Nm} {k:Nat} {x:Nat×Nat×Option Nat},(k,x)∈μ->k∈aB8 μ
 |[],_,_,h=>by simp at h
 |(b,r)::q,k,x,h=>by
  simp only[aB8,mem_cons]
  rcases List.mem_cons.1 h with e|h
  ·simp only[zpI]at e;exact Or.inl e.1
  exact Or.inr (u3 h)
theorem kw:∀{μ:Nm},jj (aB8 μ)=true->∀{k:Nat} {x:Nat×Nat×Option Nat},(k,x)∈μ->jf μ k=some x
 |[],_,_,_,h=>by simp at h
 | (b,r)::q,hn,k,x,h=>by
  simp only[aB8,jj,zbA,not_eq_true']at hn
  simp only[jf]
  rcases List.mem_cons.1 h with e|h
  ·simp only[zpI]at e
   rw[e.1,show beq b b=true from Nat.beq_refl b,e.2];rfl
  have hne:beq k b=false:=by
   cases hc:beq k b with
   |false=>rfl
   |true=>
    have:=u3 h
    rw[zq hc]at this
    rw[zmi.2 this]at hn
    cases hn.1
  rw[hne]
  exact kw hn.2 h
theorem au:∀{μ:Nm} {k b:Nat} {p:Nat×Option Nat},(k,(b,p))∈μ->act M0 k=true->b∈zaT M0 μ
 |[],_,_,_,h,_=>by simp at h
 |(k',(b',p'))::r,k,b,p,h,ha=>by
  simp only[zaT]
  rcases List.mem_cons.1 h with e|h
  ·simp only[zpI]at e
   rw[<-e.1,ha,zcT,e.2.1];simp
  cases act M0 k' with
  |true=>exact mem_cons_of_mem _ (au h ha)
  |false=>exact au h ha
theorem gq:∀{μ:Nm},jj (zaT M0 μ)=true->∀{k k' b:Nat} {p p':Nat×Option Nat},(k,(b,p))∈μ->(k',(b,p'))∈μ->act M0 k=true->act M0 k'=true->k=k'/\p=p'
 |[],_,_,_,_,_,_,h,_,_,_=>by simp at h
 | (c,(d,q))::r,hn,k,k',b,p,p',h,h',ha,ha'=>by
  simp only[zaT]at hn
  rcases List.mem_cons.1 h with e|hr
  ·simp only[zpI]at e
   obtain⟨rfl,rfl,rfl⟩:=e
   rw[ha,zcT]at hn
   simp only[jj,zbA,not_eq_true']at hn
   rcases List.mem_cons.1 h' with e|h'
   ·simp only[zpI]at e
    exact⟨e.1.symm,e.2.2.symm⟩
   have:=au h' ha'
   rw[zmi.2 this]at hn
   cases hn.1
  rcases List.mem_cons.1 h' with e|hr'
  ·simp only[zpI]at e
   obtain⟨rfl,rfl,rfl⟩:=e
   rw[ha',zcT]at hn
   simp only[jj,zbA,not_eq_true']at hn
   have:=au hr ha
   rw[zmi.2 this]at hn
   cases hn.1
  have hn':jj (zaT M0 r)=true:=by
   cases hc:act M0 c with
   |true=>rw[hc,zcT]at hn;simp only[jj,zbA]at hn;exact hn.2
   |false=>rw[hc,zcF]at hn;exact hn
  exact gq hn' hr hr' ha ha'
theorem fU:∀{μ:Nm},qG M M0 μ=true->∀{k b g:Nat} {j:Option Nat},(k,(b,g,j))∈μ->
  (zP M0 k=true->(zG M b).isSome=true)/\(zP M0 k=false->zG M b=none/\g=0/\j=none)
 |[],_,_,_,_,_,h=>by simp at h
 |(c,(d,x,y))::r,hf,k,b,g,j,h=>by
  simp only[qG,zbA]at hf
  rcases List.mem_cons.1 h with e|h
  ·simp only[zpI]at e
   obtain⟨rfl,rfl,rfl,rfl⟩:=e
   constructor
   ·intro hp;rw[hp,zcT]at hf;exact hf.1
   intro hp
   rw[hp,zcF]at hf
   simp only[zbA,Option.isNone_iff_eq_none]at hf
   exact⟨hf.1.1.1,zq hf.1.1.2,hf.1.2⟩
  exact fU hf.2 h
theorem gp:∀{r:Nm} {a:Nat} {e:Ent},zG (zM μ M M0 M' r) a=some e->
  (∃k g j,(k,(a,g,j))∈r/\act M0 k=true/\e=zE μ M M0 M' k a g)\/(a∉zaT M0 r/\zG M a=some e)
 |[],a,e,h=>Or.inr ⟨by simp[zaT],h⟩
 | (k,(b,g,j))::r,a,e,h=>by
  simp only[zM,zaT]at h⊢
  cases hc:act M0 k with
  |true=>
   rw[hc,zcT]at h
   by_cases hab:a=b
   ·subst hab
    rw[zh]at h
    simp only[zoI]at h
    exact Or.inl ⟨k,g,j,by simp,hc,h.symm⟩
   rw[zg hab]at h
   rcases gp h with⟨k',g',j',h1,h2,h3⟩|⟨h1,h2⟩
   ·exact Or.inl ⟨k',g',j',mem_cons_of_mem _ h1,h2,h3⟩
   refine Or.inr ⟨?_,h2⟩
   simp only[zcT,mem_cons]
   exactλhh=>hh.elim hab h1
  |false=>
   rw[hc,zcF]at h
   rcases gp h with⟨k',g',j',h1,h2,h3⟩|⟨h1,h2⟩
   ·exact Or.inl ⟨k',g',j',mem_cons_of_mem _ h1,h2,h3⟩
   exact Or.inr ⟨h1,h2⟩
theorem ja:∀{r:Nm} {a:Nat},(a∈zaT M0 r\/∃e,zG M a=some e)->∃e,zG (zM μ M M0 M' r) a=some e
 |[],a,h=>by
  rcases h with h|h
  ·simp[zaT]at h
  exact h
 |(k,(b,g,j))::r,a,h=>by
  simp only[zM,zaT]at h⊢
  cases hc:act M0 k with
  |true=>
   rw[hc]at h
   simp only[zcT,mem_cons]at h⊢
   by_cases hab:a=b
   ·subst hab;exact⟨_,zh _ _ _⟩
   rw[zg hab]
   refine ja ?_
   rcases h with(h|h)|h
   ·exact absurd h hab
   ·exact Or.inl h
   exact Or.inr h
  |false=>
   rw[hc]at h
   simp only[zcF]at h⊢
   exact ja h
def kW (P:Program) (f:FuncId) (args:List SV) (M:Mm) (K:SV->Mm->Prop):Prop:=
 ∃(args0:List SV) (M0:Mm) (R:SV->Mm->Prop) (μ:Nm) (ps qs:List Prop),Fn P f args0 M0 R/\fD μ args0 args=some ps/\zA ps/\gO μ M M0=some qs/\zA qs/\
  tD μ M M0=true/\∀v M',R v M'->K (ren μ v) (zM μ M M0 M' μ)
theorem aIX (hM:∀a,ρ.dom a->∃e,zG M a=some e) (hf:qG M M0 μ=true):yZ μ (zve μ M0 ρ) ρ where
 to a b g j hl hb:=by
  have hfr:=fU hf (df hl)
  refine⟨?_,?_,?_⟩
  ·show(zG M0 a).isSome=true
   cases hp:zP M0 a with
   |true=>exact hp
   |false=>
    obtain⟨e,he⟩:=hM b hb
    rw[(hfr.2 hp).1]at he;cases he
  ·simp only[zve,hl]
  simp only[zve,hl]
 im _ _ _ h:=h
theorem uq (μ:Nm) (M M0 M':Mm) (k b g:Nat):zE μ M M0 M' k b g= .dead\/
    (∃m,zG M' k=some (.map m)/\zE μ M M0 M' k b g= .map m/\(zG M0 k=none\/∃m0 m1,zG M0 k=some (.map m0)/\zG M b=some (.map m1)))\/∃sp' ls' l,zG M' k=some (.mem true sp' ls')/\zy μ ls'=some l/\
    ((zG M0 k=none/\zE μ M M0 M' k b g= .mem true sp' l)\/
     ∃own0 sp0 ls0 own sp ls,zG M0 k=some (.mem own0 sp0 ls0)/\zG M b=some (.mem own sp ls)/\
      ((kK ls0 ls g=true/\zE μ M M0 M' k b g= .mem true sp' l)\/
       (kK ls0 ls g=false/\sp'=0/\zL l=zL ls0/\∃q,aKL ls g l=some q/\zE μ M M0 M' k b g= .mem true sp q))):=by
  unfold zE
  split
  · rename_i sp' ls' h1
    split
    · rename_i l hl
      split
      · rename_i h0
        exact Or.inr (Or.inr ⟨sp',ls',l,h1,hl,Or.inl ⟨h0,rfl⟩⟩)
      · rename_i own0 sp0 ls0 h0
        split
        · rename_i own sp ls hb
          cases hw:kK ls0 ls g with
          |true=>exact Or.inr (Or.inr ⟨sp',ls',l,h1,hl,Or.inr ⟨own0,sp0,ls0,own,sp,ls,h0,hb,Or.inl ⟨hw,rfl⟩⟩⟩)
          |false=>
            rw[zcF]
            cases hc:(beq sp' 0&&beq (zL l) (zL ls0))with
            |false=>exact Or.inl rfl
            |true=>
              rw[zcT]
              simp only[zbA]at hc
              split
              · rename_i q hq
                exact Or.inr (Or.inr ⟨sp',ls',l,h1,hl,Or.inr ⟨own0,sp0,ls0,own,sp,ls,h0,hb,Or.inr ⟨hw,zq hc.1,zq hc.2,q,hq,rfl⟩⟩⟩)
              exact Or.inl rfl
        exact Or.inl rfl
      exact Or.inl rfl
    exact Or.inl rfl
  · rename_i m h1
    split
    · rename_i h0
      exact Or.inr (Or.inl ⟨m,h1,rfl,Or.inl h0⟩)
    · rename_i m0 h0
      split
      · rename_i m1 hb
        exact Or.inr (Or.inl ⟨m,h1,rfl,Or.inr ⟨m0,m1,h0,hb⟩⟩)
      exact Or.inl rfl
    exact Or.inl rfl
  exact Or.inl rfl
theorem aDY (h:sN μ M b g j (.mem true sp0 ls0)=some ps)
  (hm:zG M b=some (.mem own sp ls)):own=true/\j=none:=by
 simp only[sN,hm]at h
 split at h
 ·split at h
  ·exact⟨rfl,rfl⟩
  cases h
 cases h
theorem aCP (hM:zF ρ M w) (hargs:iR ρ args xs) (h:kW P f args M K):
    Calls P f xs.toArray w λe w'=>∃v x ρ' M',e= .returned x/\zRT ρ' v x/\K v M'/\ρ.le ρ'/\zF ρ' M' w'/\aV ρ M ρ' M' w w':=by
  obtain⟨args0,M0,R,μ,ps,qs,hfn,ha,hps,hv,hqs,hok,hK⟩:=h
  simp only[tD,zbA]at hok
  obtain⟨⟨⟨hkeys,htgt⟩,hfresh⟩,hsep⟩:=hok
  have hqs:=zAi hqs
  have hback:=aIX hM.dom hfresh
  obtain⟨hM0,hown,hown3⟩:=oZ hM hv hqs hsep hback
  have hargs0:=gH hback ha (zAi hps) hargs
  refine(hfn _ _ _ hM0 hargs0).mono ?_
  rintro e w' ⟨v,x,ρ1,M',rfl,hx,hR,hle,hM1,hstep⟩
  let isNew:Nat->Prop:=λa=>∃k g j,(k,(a,g,j))∈μ/\zP M0 k=false
  have newFresh:∀{a},isNew a->zG M a=none:=by
    rintro a ⟨k,g,j,hm,hp⟩
    exact((fU hfresh hm).2 hp).1
  have newDom:∀{a},isNew a->¬ρ.dom a:=by
    intro a hn hd
    obtain⟨e,he⟩:=hM.dom a hd
    rw[newFresh hn]at he;cases he
  have actNew:∀{k},zP M0 k=false->act M0 k=true:=by intro k hp;simp[act,hp]
  let newPos:Nat->Nat×Nat:=λa=>match μ.find? (λy=>beq y.2.1 a&& !zP M0 y.1)with
    |some y=>ρ1.pos y.1
    |none=>(0,0)
  have newPos_eq:∀{k a g:Nat} {j:Option Nat},(k,(a,g,j))∈μ->zP M0 k=false->newPos a=ρ1.pos k:=by
    intro k a g j hm hp
    show(match μ.find? (λy=>beq y.2.1 a&& !zP M0 y.1)with|some y=>ρ1.pos y.1|none=>(0,0))=_
    cases hfd:μ.find? (λy=>beq y.2.1 a&& !zP M0 y.1)with
    |none=>
      have:=List.find?_eq_none.1 hfd _ hm
      simp[hp]at this
    |some y=>
      have h1:=List.find?_some hfd
      have h2:=List.mem_of_find?_eq_some hfd
      simp only[zbA,not_eq_true']at h1
      obtain⟨k',b',g',j'⟩:=y
      have hb:=zq h1.1
      simp only at hb
      subst hb
      have:=gq htgt h2 hm (actNew h1.2) (actNew hp)
      simp only
      rw[this.1]
  let ρ2:Env:=⟨λa=>ρ.dom a\/isNew a,λa=>by classical exact if isNew a then newPos a else ρ.pos a,ρ1.imm⟩
  have pos_old:∀{a},¬isNew a->ρ2.pos a=ρ.pos a:=by intro a hn;simp only[ρ2];rw[if_neg hn]
  have pos_new:∀{k a g:Nat} {j:Option Nat},(k,(a,g,j))∈μ->zP M0 k=false->ρ2.pos a=ρ1.pos k:=by
    intro k a g j hm hp
    have hn:isNew a:=⟨k,g,j,hm,hp⟩
    simp only[ρ2]
    rw[if_pos hn,newPos_eq hm hp]
  have hle2:ρ.le ρ2:=⟨λa ha=>⟨Or.inl ha,pos_old (λhn=>newDom hn ha)⟩,hle.im⟩
  have domM:∀{a e},zG M a=some e->¬isNew a:=by
    intro a e he hn
    rw[newFresh hn]at he;cases he
  have parPos:∀{k b g:Nat} {j:Option Nat},(k,(b,g,j))∈μ->zP M0 k=true->ρ1.pos k=((ρ.pos b).1,(ρ.pos b).2+(g+j.getD 0)):=by
    intro k b g j hm hp
    have hl:=kw hkeys hm
    rw[(hle k hp).2]
    simp only[zve,hl]
  have hmaps:aDA μ ρ1 ρ2:=by
    refine⟨λk b g j hl hd=>?_,λ_ _ _ h=>h⟩
    have hm:=df hl
    have hfr:=fU hfresh hm
    cases hp:zP M0 k with
    |true=>
      obtain⟨e,he⟩:=Option.isSome_iff_exists.1 (hfr.1 hp)
      rw[pos_old (domM he),parPos hm hp]
      exact⟨Or.inl (hM.mod b e he),rfl,rfl⟩
    |false=>
      obtain⟨_,rfl,rfl⟩:=hfr.2 hp
      rw[pos_new hm hp]
      exact⟨Or.inr ⟨k,0,none,hm,hp⟩,rfl,by simp⟩
  refine⟨ren μ v,x,ρ2,_,rfl,aE6 hmaps hx,hK v M' hR,hle2,?_⟩
  have actPar:∀{k},act M0 k=true->zP M0 k=true->(∃sp0 ls0,zG M0 k=some (.mem true sp0 ls0))\/∃m,zG M0 k=some (.map m):=by
    intro k ha hp
    simp only[act,hp,Bool.not_true,Bool.false_or,zO]at ha
    split at ha
    · rename_i e he
      cases e with
      |dead=>cases ha
      |mem own sp0 ls0=>
        simp only[Ent.zW]at ha
        cases own with
        |true=>exact Or.inl ⟨sp0,ls0,he⟩
        |false=>simp at ha
      |map m=>exact Or.inr ⟨m,he⟩
    cases ha
  have ownAct:∀{k e0},zG M0 k=some e0->e0.zW=true->act M0 k=true:=by
    intro k e0 he ho;simp[act,zO,he,ho]
  have actEnt:∀{k a g:Nat} {j:Option Nat},(k,(a,g,j))∈μ->act M0 k=true->zE μ M M0 M' k a g= .dead\/
      (∃m,zG M' k=some (.map m)/\zE μ M M0 M' k a g= .map m/\(ρ2.pos a).1=(ρ1.pos k).1)\/
      ∃sp' ls' l,zG M' k=some (.mem true sp' ls')/\zy μ ls'=some l/\
        ((ρ2.pos a=ρ1.pos k/\zE μ M M0 M' k a g= .mem true sp' l)\/
         ∃sp0 ls0 sp ls q,zG M0 k=some (.mem true sp0 ls0)/\zG M a=some (.mem true sp ls)/\sp'=0/\zL l=zL ls0/\aKL ls g l=some q/\zE μ M M0 M' k a g= .mem true sp q/\sp0=0/\
          ρ2.pos a=ρ.pos a/\ρ1.pos k=((ρ.pos a).1,(ρ.pos a).2+g)/\(zve μ M0 ρ).pos k=((ρ.pos a).1,(ρ.pos a).2+g)):=by
    intro k a g j hm hact
    rcases uq μ M M0 M' k a g with h|⟨m,h1,h2,h3⟩|⟨sp',ls',l,h1,h2,h3⟩
    · exact Or.inl h
    · refine Or.inr (Or.inl ⟨m,h1,h2,?_⟩)
      rcases h3 with h0|⟨m0,m1,h0,hb⟩
      · rw[pos_new hm (by simp[zP,h0])]
      rw[pos_old (domM hb),parPos hm (by simp[zP,h0])]
    refine Or.inr (Or.inr ⟨sp',ls',l,h1,h2,?_⟩)
    rcases h3 with⟨h0,h4⟩|⟨own0,sp0,ls0,own,sp,ls,h0,hb,h4⟩
    · exact Or.inl ⟨pos_new hm (by simp[zP,h0]),h4⟩
    have hp:zP M0 k=true:=by simp[zP,h0]
    obtain⟨sp0',ls0',h0'⟩:∃sp0 ls0,zG M0 k=some (.mem true sp0 ls0):=by
      rcases actPar hact hp with h|⟨m,h⟩
      · exact h
      rw[h0]at h;cases h
    rw[h0]at h0'
    simp only[zoI,Ent.mem.injEq]at h0'
    obtain⟨rfl,_,_⟩:=h0'
    obtain⟨b',g',j',qs',hl',hv',_⟩:=mH hv hqs (lU h0)
    have hl:=kw hkeys hm
    rw[hl]at hl'
    simp only[zoI,zpI]at hl'
    obtain⟨rfl,rfl,rfl⟩:=hl'
    obtain⟨rfl,rfl⟩:=aDY hv' hb
    have hpp:=parPos hm hp
    have hold:=pos_old (domM hb)
    simp only[getD_none,add_zero]at hpp
    rcases h4 with⟨hw,h4⟩|⟨hw,h5,h6,q,h7,h8⟩
    · simp only[kK,zbA]at hw
      have:=zq hw.2
      subst this
      exact Or.inl ⟨by rw[hold,hpp];rfl,h4⟩
    have hsp0:sp0=0:=by
      simp only[sN,hb,hw,zcF]at hv'
      obtain⟨hz,_⟩:=zn hv'
      exact zq hz
    refine Or.inr ⟨sp0,ls0,sp,ls,q,h0,hb,h5,h6,h7,h8,hsp0,hold,hpp,?_⟩
    simp only[zve,hl,getD_none,add_zero]
  have ownOld:∀k o,k<w.heap.size->eU ρ1 M' k o->∃a b p e0 e,zG M0 a=some e0/\e0.zW=true/\jf μ a=some (b,p)/\zG M b=some e/\e.zW=true/\eJ (ρ.pos b) e k o/\eJ ((zve μ M0 ρ).pos a) e0 k o:=
    λk o hk ho=>hown3 k o (hstep.own k o hk ho)
  let C1:Nat->Nat->Nat->Prop:=λa k o=>∃key g j e1,(key,(a,g,j))∈μ/\zG M' key=some e1/\e1.zW=true/\eJ (ρ1.pos key) e1 k o
  let C2:Nat->Nat->Nat->Prop:=λa k o=>∃key g j e0 eM,(key,(a,g,j))∈μ/\zG M0 key=some e0/\e0.zW=true/\zG M a=some eM/\eM.zW=true/\eJ (ρ.pos a) eM k o/\¬eJ ((zve μ M0 ρ).pos key) e0 k o
  let C3:Nat->Nat->Nat->Prop:=λa k o=>∃eM,zG M a=some eM/\a∉zaT M0 μ/\eJ (ρ.pos a) eM k o
  have feet:∀{a e},zG (zM μ M M0 M' μ) a=some e->∀k o,eJ (ρ2.pos a) e k o->(C1 a k o\/C2 a k o\/(C3 a k o/\zG M a=some e)):=by
    intro a e he k o hf
    rcases gp he with⟨key,g,j,hm,hact,rfl⟩|⟨hna,hM'⟩
    · rcases actEnt hm hact with h|⟨m,h1,h2,h3⟩|⟨sp',ls',l,h1,h2,h3⟩
      · rw[h]at hf;exact hf.elim
      · rw[h2]at hf
        exact Or.inl ⟨key,g,j,_,hm,h1,rfl,(show k=(ρ2.pos a).1 from hf).trans h3⟩
      rcases h3 with⟨hp,h4⟩|⟨sp0,ls0,sp,ls,q,h0,hb,h5,h6,h7,h8,hsp0,hold,hpp,hvp⟩
      · rw[h4,hp]at hf
        refine Or.inl ⟨key,g,j,_,hm,h1,rfl,?_⟩
        have hs:=kk h2
        obtain⟨f1,f2,f3⟩:=hf
        exact⟨f1,f2,by simp only[if_true]at f3⊢;omega⟩
      rw[h8,hold]at hf
      obtain⟨cs,c1,c2,c3,c4⟩:=hM.sat a _ hb
      obtain⟨cs1,d1,_,_,_⟩:=hM1.sat key _ h1
      obtain⟨p1,p2⟩:=ge (gd hmaps d1 h2) (c1.le hle2) h7
      have e1:=p1.length
      simp only[zlA,zlT,zlD]at e1
      have e2:=c1.length
      have hsz:zL q=zL ls:=by omega
      obtain⟨f1,f2,f3⟩:=hf
      simp only[if_true]at f3
      by_cases hin:eJ ((zve μ M0 ρ).pos key) (.mem true sp0 ls0) k o
      · refine Or.inl ⟨key,g,j,_,hm,h1,rfl,?_⟩
        obtain⟨x1,x2,x3⟩:=hin
        rw[hvp]at x1 x2 x3
        simp only[if_true]at x1 x2 x3
        have hs:=kk h2
        subst h5
        rw[hpp]
        exact⟨x1,by simpa using x2,by simp only[if_true];omega⟩
      exact Or.inr (Or.inl ⟨key,g,j,_,_,hm,h0,rfl,hb,rfl,⟨f1,f2,by simp only[if_true];omega⟩,hin⟩)
    have hnn:¬isNew a:=domM hM'
    rw[pos_old hnn]at hf
    exact Or.inr (Or.inr ⟨⟨e,hM',hna,hf⟩,hM'⟩)
  have c1own:∀{a k o},C1 a k o->eU ρ1 M' k o:=by
    rintro a k o ⟨key,g,j,e1,_,h1,h2,h3⟩;exact⟨key,e1,h1,h2,h3⟩
  have c23:∀{a k o},(C2 a k o\/C3 a k o)->∃eM,zG M a=some eM/\eJ (ρ.pos a) eM k o:=by
    rintro a k o (⟨_,_,_,_,eM,_,_,_,h1,_,h2,_⟩|⟨eM,h1,_,h2⟩)<;>exact⟨eM,h1,h2⟩
  have liveOf:∀{p:Nat×Nat} {e:Ent} {k o:Nat},eJ p e k o->e.live=true:=by
    intro p e k o hf;cases e<;>first|rfl|exact hf.elim
  have m1:∀{a b k o},C1 a k o->(C2 b k o\/C3 b k o)->a≠b->False:=by
    intro a b k o h1 h2 hab
    obtain⟨eM,hb,hf⟩:=c23 h2
    have hlt:=iP (hM.sat b _ hb) hf
    obtain⟨x,y,p,e0,e,hx,hx2,hx3,hy,hy2,hy3,hx4⟩:=ownOld k o hlt (c1own h1)
    by_cases hyb:y=b
    · subst hyb
      have hact:=ownAct hx hx2
      rcases h2 with⟨key,g,j,e0',eM',hm,h0,ho,_,_,_,hnot⟩|⟨_,_,hna,_⟩
      · have:=gq htgt (df hx3) hm hact (ownAct h0 ho)
        obtain⟨rfl,_⟩:=this
        rw[hx]at h0
        simp only[zoI]at h0
        subst h0
        exact hnot hx4
      exact hna (au (df hx3) hact)
    exact hM.sep y b e eM hy hb hyb hy2 k o hy3 hf
  have meet:∀{a b k o e e'},zG (zM μ M M0 M' μ) a=some e->zG (zM μ M M0 M' μ) b=some e'->a≠b->e.zW=true->eJ (ρ2.pos a) e k o->eJ (ρ2.pos b) e' k o->False:=by
    intro a b k o e e' he he' hab ho hf hf'
    rcases feet he k o hf with h1|h2|⟨h3,h3'⟩
    · rcases feet he' k o hf' with g1|g2|⟨g3,_⟩
      · obtain⟨key,g,j,e1,hm,h1,h2,h3⟩:=h1
        obtain⟨key',g',j',e1',hm',h1',h2',h3'⟩:=g1
        have hne:key≠key':=by
          rintro rfl
          have:=kw hkeys hm
          rw[kw hkeys hm']at this
          simp only[zoI,zpI]at this
          exact hab this.1.symm
        exact hM1.sep key key' e1 e1' h1 h1' hne h2 k o h3 h3'
      · exact m1 h1 (Or.inl g2) hab
      exact m1 h1 (Or.inr g3) hab
    · rcases feet he' k o hf' with g1|g2|⟨g3,_⟩
      · exact m1 g1 (Or.inl h2) (λe=>hab e.symm)
      · obtain⟨_,_,_,_,eM,_,_,_,x1,x2,x3,_⟩:=h2
        obtain⟨eM',y1,y2⟩:=c23 (Or.inl g2)
        exact hM.sep a b eM eM' x1 y1 hab x2 k o x3 y2
      obtain⟨_,_,_,_,eM,_,_,_,x1,x2,x3,_⟩:=h2
      obtain⟨eM',y1,y2⟩:=c23 (Or.inr g3)
      exact hM.sep a b eM eM' x1 y1 hab x2 k o x3 y2
    obtain⟨eM,x1,_,x3⟩:=h3
    rw[h3']at x1
    simp only[zoI]at x1
    subst x1
    rcases feet he' k o hf' with g1|g2|⟨g3,_⟩
    · exact m1 g1 (Or.inr ⟨_,h3',‹_›,x3⟩) (λe=>hab e.symm)
    · obtain⟨eM',y1,y2⟩:=c23 (Or.inl g2)
      exact hM.sep a b _ eM' h3' y1 hab ho k o x3 y2
    obtain⟨eM',y1,y2⟩:=c23 (Or.inr g3)
    exact hM.sep a b _ eM' h3' y1 hab ho k o x3 y2
  have still:∀{k o},k<w.heap.size->¬eU (zve μ M0 ρ) M0 k o->w'.cell? ⟨k,o,none⟩=w.cell? ⟨k,o,none⟩/\iO w' ⟨k,o,none⟩=iO w ⟨k,o,none⟩:=
    λhk hn=>hstep.cell _ _ hk hn
  have notOwned:∀{b k o eM},zG M b=some eM->eJ (ρ.pos b) eM k o->b∉zaT M0 μ->¬eU (zve μ M0 ρ) M0 k o:=by
    intro b k o eM hb hf hna hown'
    obtain⟨x,y,p,e0,e,hx,hx2,hx3,hy,hy2,hy3,_⟩:=hown3 k o hown'
    by_cases hyb:y=b
    · subst hyb;exact hna (au (df hx3) (ownAct hx hx2))
    exact hM.sep y b e eM hy hb hyb hy2 k o hy3 hf
  have immOld:∀{k o},k<w.heap.size->rE ρ2 k o->¬eU (zve μ M0 ρ) M0 k o->rE ρ k o:=by
    intro k o hk hi hn
    rcases hstep.immo k o hk hi with h|h
    · exact h
    exact absurd h hn
  have isep2:∀b o,rE ρ2 b o->¬eU ρ2 (zM μ M M0 M' μ) b o:=by
    rintro k o hi ⟨a,e,he,ho,hf⟩
    rcases feet he k o hf with h1|h2|⟨h3,h3'⟩
    · exact hM1.isep k o hi (c1own h1)
    · obtain⟨key,g,j,e0,eM,hm,h0,h0o,x1,x2,x3,hnot⟩:=h2
      have hlt:=iP (hM.sat a _ x1) x3
      refine hM.isep k o (immOld hlt hi λhown'=>?_) ⟨a,eM,x1,x2,x3⟩
      obtain⟨x,y,p,e0',e',hx,hx2,hx3,hy,hy2,hy3,hx4⟩:=hown3 k o hown'
      by_cases hya:y=a
      · subst hya
        have:=gq htgt (df hx3) hm (ownAct hx hx2) (ownAct h0 h0o)
        obtain⟨rfl,_⟩:=this
        rw[hx]at h0
        simp only[zoI]at h0
        subst h0
        exact hnot hx4
      exact hM.sep y a e' eM hy x1 hya hy2 k o hy3 x3
    obtain⟨eM,x1,hna,x3⟩:=h3
    rw[h3']at x1
    simp only[zoI]at x1
    subst x1
    have hlt:=iP (hM.sat a _ h3') x3
    exact hM.isep k o (immOld hlt hi (notOwned h3' x3 hna)) ⟨a,_,h3',ho,x3⟩
  refine⟨⟨?_,?_,?_,λa b e e' he he' hab ho k o hf hf'=>meet he he' hab ho hf hf',hM1.imm,isep2,hM1.gl⟩,?_⟩
  · rintro a (ha|⟨k,g,j,hm,hp⟩)
    · exact ja (Or.inr (hM.dom a ha))
    exact ja (Or.inl (au hm (actNew hp)))
  · intro a e he
    rcases gp he with⟨key,g,j,hm,hact,rfl⟩|⟨_,hM'⟩
    · cases hp:zP M0 key with
      |true=>
        obtain⟨e,he⟩:=Option.isSome_iff_exists.1 ((fU hfresh hm).1 hp)
        exact Or.inl (hM.mod a e he)
      |false=>exact Or.inr ⟨key,g,j,hm,hp⟩
    exact Or.inl (hM.mod a e hM')
  · intro a e he
    rcases gp he with⟨key,g,j,hm,hact,rfl⟩|⟨hna,hM'⟩
    · rcases actEnt hm hact with h|⟨m,h1,h2,h3⟩|⟨sp',ls',l,h1,h2,h3⟩
      · rw[h];trivial
      · obtain⟨es,clock,d1,d2⟩:=hM1.sat key _ h1
        rw[h2]
        exact⟨es,clock,by rw[h3];exact d1,d2⟩
      obtain⟨cs1,d1,d2,d3,d4⟩:=hM1.sat key _ h1
      have hs:=kk h2
      rcases h3 with⟨hp,h4⟩|⟨sp0,ls0,sp,ls,q,h0,hb,h5,h6,h7,h8,hsp0,hold,hpp,hvp⟩
      · rw[h4,hp]
        exact⟨cs1,gd hmaps d1 h2,⟨by rw[hs];exact d2.1,λhh=>by cases hh⟩,d3,λ_ j hj=>d4 rfl j (by rw[<-hs];exact hj)⟩
      rw[h8,hold]
      subst h5
      obtain⟨cs,c1,c2,c3,c4⟩:=hM.sat a _ hb
      obtain⟨p1,p2⟩:=ge (gd hmaps d1 h2) (c1.le hle2) h7
      have e1:=p1.length
      simp only[zlA,zlT,zlD]at e1
      have e2:=c1.length
      have e3:=d1.length
      have hsz:zL q=zL ls:=by omega
      have c4':=c4 rfl
      have d4':=d4 rfl
      rw[hpp]at d3 d4'
      have out:∀j,j<zL ls+sp->(j<g\/g+zL ls0<=j)->w'.cell? ⟨(ρ.pos a).1,(ρ.pos a).2+j,none⟩=w.cell? ⟨(ρ.pos a).1,(ρ.pos a).2+j,none⟩/\
          iO w' ⟨(ρ.pos a).1,(ρ.pos a).2+j,none⟩=iO w ⟨(ρ.pos a).1,(ρ.pos a).2+j,none⟩:=by
        intro j hj hout
        refine still (c2.1 (by simp only[if_true];omega)) ?_
        intro hown'
        obtain⟨x,y,p,e0,e,hx,hx2,hx3,hy,hy2,hy3,hx4⟩:=hown3 _ _ hown'
        by_cases hya:y=a
        · subst hya
          have:=gq htgt (df hx3) hm (ownAct hx hx2) hact
          obtain⟨rfl,_⟩:=this
          rw[h0]at hx
          simp only[zoI]at hx
          subst hx
          rw[hvp]at hx4
          obtain⟨_,f2,f3⟩:=hx4
          simp only[if_true]at f2 f3
          omega
        exact hM.sep y a e _ hy hb hya hy2 _ _ hy3 ⟨rfl,by omega,by simp only[if_true];omega⟩
      refine⟨_,p1,⟨λhz=>Nat.lt_of_lt_of_le (c2.1 (by rw[<-hsz];exact hz)) hstep.size,λhh=>by cases hh⟩,λj v' hj=>?_,λ_ j hj=>?_⟩
      · rcases lt_or_ge j g with hlt|hge
        · rw[append_assoc,getElem?_append_left (by rw[zlT];omega),getElem?_take,if_pos hlt]at hj
          rw[(out j (by have:=(List.getElem?_eq_some_iff.1 hj).1;omega) (Or.inl hlt)).1]
          exact c3 j v' hj
        rcases lt_or_ge j (g+cs1.length)with hlt2|hge2
        · rw[append_assoc,getElem?_append_right (by rw[zlT];omega),getElem?_append_left (by rw[zlT];omega),zlT,Nat.min_eq_left (by omega)]at hj
          have:=d3 (j-g) v' hj
          simp only at this
          rw[show(ρ.pos a).2+g+(j-g)=(ρ.pos a).2+j by omega]at this
          exact this
        rw[getElem?_append_right (by simp only[zlA,zlT];omega),getElem?_drop]at hj
        simp only[zlA,zlT]at hj
        rw[show g+cs1.length+(j-(min g cs.length+cs1.length))=j by omega]at hj
        rw[(out j (by have:=(List.getElem?_eq_some_iff.1 hj).1;omega) (Or.inr (by omega))).1]
        exact c3 j v' hj
      rw[hsz]at hj
      by_cases hin:j<g\/g+zL ls0<=j
      · rw[(out j hj hin).1,(out j hj hin).2];exact c4' j hj
      have:=d4' (j-g) (by omega)
      simp only at this
      rw[show(ρ.pos a).2+g+(j-g)=(ρ.pos a).2+j by omega]at this
      exact this
    rw[pos_old (domM hM')]
    refine mB.of_same hle2 hstep.size (λk o hf=>?_) (λk hk hf=>hstep.blk k hk (λo=>notOwned hM' (hf o) hna)) (hM.sat a e hM')
    exact still (iP (hM.sat a e hM') hf) (notOwned hM' hf hna)
  refine⟨hstep.size,hstep.os,hstep.output,λb hb hn=>hstep.blk b hb (λo ho=>hn o (hown b o ho)),λb o hb hn=>hstep.cell b o hb (λho=>hn (hown b o ho)),λb o hb ho=>?_,λb o hb hi=>(hstep.immo b o hb hi).imp (λh=>h) (λh=>hown b o h)⟩
  obtain⟨a,e,he,hown',hf⟩:=ho
  rcases feet he b o hf with h1|h2|⟨_,h3'⟩
  · exact hown b o (hstep.own b o hb (c1own h1))
  · obtain⟨_,_,_,_,eM,_,_,_,x1,x2,x3,_⟩:=h2
    exact⟨a,eM,x1,x2,x3⟩
  rw[pos_old (domM h3')]at hf
  exact⟨a,e,h3',hown',hf⟩
theorem zF.name (h:zF ρ M w) (hd:zG M d=none) (hi:ρ.immO b o ls):
  ρ.le (ρ.add d (b,o))/\zF (ρ.add d (b,o)) ((d,.mem false 1 ls)::M) w/\aV ρ M (ρ.add d (b,o)) ((d,.mem false 1 ls)::M) w w:=by
 have hnd:¬ρ.dom d:=by
  intro hx
  obtain⟨e,he⟩:=h.dom d hx
  rw[hd]at he;cases he
 have hle:=Env.le_add (b,o) hnd
 have pne:∀{a},a≠d->(ρ.add d (b,o)).pos a=ρ.pos a:=by
  intro a ha;simp only[Env.add];rw[if_neg ha]
 have pd:(ρ.add d (b,o)).pos d=(b,o):=by simp[Env.add]
 have ownN:∀k p,eU (ρ.add d (b,o)) ((d,.mem false 1 ls)::M) k p->eU ρ M k p:=by
  rintro k p ⟨a,e,he,hown,hf⟩
  by_cases ha:a=d
  ·subst ha
   rw[zh]at he
   obtain rfl:Ent.mem false 1 ls=e:=by simpa using he
   cases hown
  rw[zg ha]at he
  rw[pne ha]at hf
  exact⟨a,e,he,hown,hf⟩
 obtain⟨k0,cs,k1,k3⟩:=h.immO hi
 refine⟨hle,⟨?_,?_,?_,?_,h.imm,λk p hi' ho=>h.isep k p hi' (ownN k p ho),h.gl⟩,⟨le_refl _,rfl,rfl,λ_ _ _=>rfl,λ_ _ _ _=>⟨rfl,rfl⟩,λk p _ ho=>ownN k p ho,λ_ _ _ h=>Or.inl h⟩⟩
 ·intro a ha
  by_cases hne:a=d
  ·subst hne;exact⟨_,zh _ _ _⟩
  rw[zg hne]
  exact h.dom a (ha.resolve_left hne)
 ·intro a e he
  by_cases hne:a=d
  ·exact Or.inl hne
  rw[zg hne]at he;exact Or.inr (h.mod a e he)
 ·intro a e he
  by_cases hne:a=d
  ·subst hne
   rw[zh]at he
   obtain rfl:Ent.mem false 1 ls=e:=by simpa using he
   rw[pd]
   exact⟨cs,k1.le (Env.bare_any (ρ':=ρ.add a (b,o)) (λ_ _ _ h=>h)),⟨λhn=>k0 (by simpa using hn),λ_ _=>hi⟩,k3,λhh=>by cases hh⟩
  rw[zg hne]at he
  rw[pne hne]
  exact mB.of_same hle (le_refl _) (λ_ _ _=>⟨rfl,rfl⟩) (λ_ _ _=>rfl) (h.sat a e he)
 intro a c e e' he he' hac ho k p hf hf'
 by_cases ha:a=d
 ·subst ha
  rw[zh]at he
  obtain rfl:Ent.mem false 1 ls=e:=by simpa using he
  cases ho
 rw[zg ha]at he
 rw[pne ha]at hf
 by_cases hc:c=d
 ·subst hc
  rw[zh]at he'
  obtain rfl:Ent.mem false 1 ls=e':=by simpa using he'
  rw[pd]at hf'
  exact h.isep k p (h.immO_sep hi hf') ⟨a,e,he,ho,hf⟩
 rw[zg hc]at he'
 rw[pne hc]at hf'
 exact h.sep a c e e' he he' hac ho k p hf hf'
def aXM (q s:Nat):Nat:=
 match q with
 |0=>0
 |q=>match s with
  |1=>q
  |s=>q*s
theorem aQC (q s:Nat):aXM q s=q*s:=by
 unfold aXM
 split
 ·simp
 split <;>simp
def aWU (M:Mm) (v:SV):Option (List Prop×List UInt8):=
 match v with
 | .str l=>some ([],l)
 |v=>bytesOf M v
theorem aBD (hM:zF ρ M w) (hx:zRT ρ v x) (h:aWU M v=some (ps,l)) (hp:All ps):
  (Builtin.lenOf x).run P w= .ok l.length w/\∀m,m<=l.length->(Builtin.firstCells 1 m x).run P w= .ok ((l.take m).map w8).toArray w:=by
 unfold aWU at h
 split at h
 ·rename_i l'
  obtain⟨rfl,rfl⟩:=sB h
  have hx:x= .string ⟨l'.toArray⟩:=hx
  subst hx
  refine⟨rfl,λm hm=>?_⟩
  show Result.ok _ w=_
  congr 1
  apply ext'
  simp[ByteArray.extract,ByteArray.copySlice]
  first
   |rfl
   |(intro a _;rfl)
   |trace_state
 obtain⟨y,c,rfl,h1,h2⟩:=lg (P:=P) hM hx h hp
 refine⟨rfl,λm hm=>?_⟩
 cases y with
 |none=>
  have hl:=h1 rfl
  have:l=[]:=List.eq_nil_of_length_eq_zero hl
  subst this
  simp
  rfl
 |some ad=>
  show(loadCells ad (m*1)).run P w=_
  rw[mul_one]
  exact h2 ad rfl m hm
def aAO (M:Mm) (a f i n:Nat) (e:Nat) (sv:SV):Option (List Prop×Nat×Nat×Ent):=
 match zG M a with
 |some (.mem true sp ls)=>match aWU M sv with
  |some (ps,l)=>match rN ls f (some i) ⟨.array (min l.length n) e,min l.length n,0,[],false⟩ (.a8 (l.take (min l.length n)))with
   |some (qs,ls')=>some (ps++qs,min l.length n,a,.mem true sp ls')
   |none=>none
  |none=>none
 |_=>none
def words64 (M:Mm) (x:SV):Option (List Prop×List UInt64):=
 match x with
 | .nsl=>some ([],[])
 | .sl a f i n _=>match zG M a with
  |some (.mem _ _ ls)=>match subAny ls f i n with
   |some r=>some r
   |none=>none
  |_=>none
 | .slx a f i n=>match zG M a with
  |some (.mem _ _ ls)=>match subAny ls f i n with
   |some r=>some r
   |none=>none
  |_=>none
 | .isl q n s ls=>match s with
  |1=>match subAny ls 0 q n with
   |some r=>some r
   |none=>none
  |_=>none
 |_=>none
 where
 subAny (ls:List (Nat×SV)) (f i n:Nat):Option (List Prop×List UInt64):=
  match ls with
  |[]=>none
  |(s,v)::r=>match f with
   |0=>match v with
    | .a64 l=>some ([i+n<=s],(l.drop i).take n)
    |_=>none
   |f+1=>bif blt (f+1) s then none else subAny r (f+1-s) i n
theorem acO:∀{ls:List (Nat×SV)} {cs:List Value} (_:zC ρ ls cs) {f i n:Nat} {ps:List Prop} {l:List UInt64},
  words64.subAny ls f i n=some (ps,l)->All ps->f+i+n<=cs.length/\(cs.drop (f+i)).take n=l.map w64
 |[],_,_,_,_,_,_,_,h,_=>by simp[words64.subAny]at h
 | (s,v)::r,cs,hc,f,i,n,ps,l,h,hp=>by
  obtain⟨c1,c2,rfl,h1,h2,h3⟩:=hc
  unfold words64.subAny at h
  split at h
  ·split at h<;>simp only[zoI,zpI,reduceCtorEq]at h
   obtain⟨rfl,rfl⟩:=h
   rename_i l
   have hb:=hp.head
   have hcl:c1=l.map w64:=h2
   subst hcl
   rw[List.length_map]at h1
   refine⟨by simp;omega,?_⟩
   rw[zero_add,List.drop_append_of_le_length (by simp;omega),List.take_append_of_le_length (by simp;omega),bW]
  rename_i g
  rcases zs h with⟨_,h⟩|⟨hb,h⟩
  ·cases h
  have hge:s<=g+1:=by
   rcases lt_or_ge (g+1) s with hl|hl
   ·have:blt (g+1) s=true:=by simpa [Nat.blt_eq]using hl
    rw[this]at hb;cases hb
   exact hl
  obtain⟨h4,h5⟩:=acO h3 h hp
  refine⟨by simp;omega,?_⟩
  rw[List.drop_append,List.drop_of_length_le (by omega),List.nil_append,h1,show g+1+i-s=g+1-s+i by omega]
  exact h5
theorem acP:∀{ls:List (Nat×SV)} {f i n:Nat} {ps:List Prop} {l:List UInt64},words64.subAny ls f i n=some (ps,l)->l.length<=n
 |[],_,_,_,_,_,h=>by simp[words64.subAny]at h
 |(s,v)::r,f,i,n,ps,l,h=>by
  unfold words64.subAny at h
  split at h
  ·split at h<;>simp only[zoI,zpI,reduceCtorEq]at h
   obtain⟨rfl,rfl⟩:=h
   simp only[zlT];omega
  rcases zs h with⟨_,h⟩|⟨_,h⟩
  ·cases h
  exact acP h
theorem acQ (hs:words64.subAny ls f i n=some (ps,l)) (hp:All ps) (hnc:n<=c)
  (hy:c≠0->∃(ρ:Env) (b o:Nat) (cs:List Value),zC ρ ls cs/\(∀j v,cs[j]? =some v->w.cell? ⟨b,o+j,none⟩=some v)/\y=some ⟨b,o+(f+i),none⟩):
  l.length=n/\(y=none->n=0)/\∀ad,y=some ad->∀m,m<=n->(loadCells ad m).run P w= .ok ((l.take m).map w64).toArray w:=by
 rcases Nat.eq_zero_or_pos c with h0|h0
 ·have hn:n=0:=by omega
  subst hn
  have hl:=acP hs
  have:l=[]:=List.eq_nil_of_length_eq_zero (by omega)
  subst this
  refine⟨rfl,λ_=>rfl,λad _ m hm=>?_⟩
  have:m=0:=by omega
  subst this
  rfl
 obtain⟨ρ,b,o,cs,h1,h3,rfl⟩:=hy (by omega)
 obtain⟨h4,h5⟩:=acO h1 hs hp
 have hl:l.length=n:=by
  have:=congrArg List.length h5
  simp only[zlT,zlD,List.length_map]at this
  omega
 refine⟨hl,(λh=>by cases h),λad had m hm=>?_⟩
 obtain rfl:(⟨b,o+(f+i),none⟩:Addr)=ad:=by simpa using had
 rw[g6 (cs:=((cs.drop (f+i)).take n).take m) (by simp;omega) (λj v hj=>by
  rw[getElem?_take]at hj
  split at hj
  ·rw[getElem?_take]at hj
   split at hj
   ·rw[getElem?_drop]at hj
    rw[add_assoc];exact h3 _ _ hj
   cases hj
  cases hj),h5,List.map_take]
theorem acR (hM:zF ρ M w) (hx:zRT ρ x vx) (h:words64 M x=some (ps,l)) (hp:All ps):
  ∃y c,vx= .slice y l.length c/\(y=none->l.length=0)/\∀ad,y=some ad->∀m,m<=l.length->(loadCells ad m).run P w= .ok ((l.take m).map w64).toArray w:=by
 unfold words64 at h
 split at h
 ·obtain⟨rfl,rfl⟩:=sB h
  exact⟨none,0,hx,λ_=>rfl,λad h=>by cases h⟩
 ·rename_i a f i n c
  obtain⟨_,hnc,y,rfl,hy⟩:=hx
  split at h
  ·rename_i own sp ls he
   split at h
   ·rename_i r hr
    simp only[zoI]at h;subst h
    obtain⟨cs,h1,_,h3,_⟩:=hM.sat a _ he
    obtain⟨q1,q2,q3⟩:=acQ (P:=P) (w:=w) (y:=y) hr hp hnc (λhc=>⟨ρ,(ρ.pos a).1,(ρ.pos a).2,cs,h1,h3,by rw[hy hc,aN]⟩)
    exact⟨y,c,by rw[q1],by rw[q1];exact q2,by rw[q1];exact q3⟩
   cases h
  cases h
 ·rename_i a f i n
  obtain⟨_,c,y,hnc,rfl,hy⟩:=hx
  split at h
  ·rename_i own sp ls he
   split at h
   ·rename_i r hr
    simp only[zoI]at h;subst h
    obtain⟨cs,h1,_,h3,_⟩:=hM.sat a _ he
    obtain⟨q1,q2,q3⟩:=acQ (P:=P) (w:=w) (y:=y) hr hp hnc (λhc=>⟨ρ,(ρ.pos a).1,(ρ.pos a).2,cs,h1,h3,by rw[hy hc,aN]⟩)
    exact⟨y,c,by rw[q1],by rw[q1];exact q2,by rw[q1];exact q3⟩
   cases h
  cases h
 ·rename_i q n s ls
  obtain⟨b,o,c,y,hi,hnc,rfl,hy⟩:=hx
  split at h
  ·split at h
   ·rename_i r hr
    simp only[zoI]at h;subst h
    obtain⟨q1,q2,q3⟩:=acQ (P:=P) (w:=w) (y:=y) hr hp hnc (λhc=>by
     obtain⟨_,cs,h1,h3⟩:=hM.immO hi
     exact⟨ρ.bare,b,o,cs,h1,h3,by rw[hy hc];simp⟩)
    exact⟨y,c,by rw[q1],by rw[q1];exact q2,by rw[q1];exact q3⟩
   cases h
  cases h
 cases h
theorem acS (hM:zF ρ M w) (hx:zRT ρ v x) (h:words64 M v=some (ps,l)) (hp:All ps):
  (Builtin.lenOf x).run P w= .ok l.length w/\∀m,m<=l.length->(Builtin.firstCells 1 m x).run P w= .ok ((l.take m).map w64).toArray w:=by
 obtain⟨y,c,rfl,h1,h2⟩:=acR (P:=P) hM hx h hp
 refine⟨rfl,λm hm=>?_⟩
 cases y with
 |none=>
  have hl:=h1 rfl
  have:l=[]:=List.eq_nil_of_length_eq_zero hl
  subst this
  simp
  rfl
 |some ad=>
  show(loadCells ad (m*1)).run P w=_
  rw[mul_one]
  exact h2 ad rfl m hm
def oJ (M:Mm) (a f i n:Nat) (e:Nat) (sv:SV):Option (List Prop×Nat×Nat×Ent):=
 match zG M a with
 |some (.mem true sp ls)=>match words64 M sv with
  |some (ps,l)=>match rN ls f (some i) ⟨.array (min l.length n) e,min l.length n,0,[],false⟩ (.a64 (l.take (min l.length n)))with
   |some (qs,ls')=>some (ps++qs,min l.length n,a,.mem true sp ls')
   |none=>none
  |none=>none
 |_=>none
theorem vr {α:Type} {b:Bool} {x y z:Option α} (h:(bif b then x else y)=z):(b=true/\x=z)\/(b=false/\y=z):=by
 cases b with
 |true=>exact Or.inl ⟨rfl,h⟩
 |false=>exact Or.inr ⟨rfl,h⟩
def aZX (k:TyK):Bool:=
 match k with
 | .int .u64=>true
 |_=>false
def copyE (ty:Nat->Ty) (M:Mm) (T:Tm) (c:Go.Call):Option (List Prop×Nat×Nat×Ent):=
 match c.args.toList with
 |[d,s]=>match c.argTypes.toList with
  |t::_=>match(ty t).k with
   | .slice e=>bif beq (ty e).size 1&&notBad (ty e).k then
     (match ev T d with
     | .sl a f i n _=>bif aZX (ty e).k then oJ M a f i n e (ev T s)else aAO M a f i n e (ev T s)
     | .slx a f i n=>bif aZX (ty e).k then oJ M a f i n e (ev T s)else aAO M a f i n e (ev T s)
     |_=>none)
    else none
   |_=>none
  |_=>none
 |_=>none
 where
 notBad:TyK->Bool
  | .bad=>false
  |_=>true
theorem nj {Γ:Ctx} {ρ:Env} {M:Mm} {w:World} (hM:zF ρ M w) {t e:Nat} (ht:(Γ.ty t).k= .slice e) (he1:(Γ.ty e).size=1) (hb:(Γ.ty e).k≠ .bad) {a f i n c:Nat} {y:Option Addr} (hnc:n<=c) (hy:c≠0->y=some (ρ.addr a f i))
  {sv:SV} {x:Value} (hx:zRT ρ sv x) {ps:List Prop} {m b:Nat} {E:Ent} (h:aAO M a f i n e sv=some (ps,m,b,E)) (hp:All ps) (ats:Array TypeId) (hat:ats[0]? =some t) (T':TypeId):
  ∃w',(Builtin.copy_ ats T' #[.slice y n c,x]).run Γ.P w= .ok (.int .i64 (m:Int)) w'/\zF ρ ((b,E)::M) w'/\aV ρ M ρ ((b,E)::M) w w':=by
 unfold aAO at h
 split at h
 ·rename_i sp ls hm
  split at h
  ·rename_i qs l hs
   split at h
   ·rename_i rs ls' hst
    obtain⟨rfl,rfl,rfl,rfl⟩:=sD h
    have hqs:All qs:=λq hq=>hp q (by simp[hq])
    have hrs:All rs:=λq hq=>hp q (by simp[hq])
    obtain⟨hlen,hcells⟩:=aBD (P:=Γ.P) hM hx hs hqs
    have hmin:min l.length n<=l.length:=Nat.min_le_left _ _
    obtain⟨cs,c1,c2,c3,c4⟩:=hM.sat a _ hm
    have hval:zRT ρ (.a8 (l.take (min l.length n))) (.agg ((l.take (min l.length n)).map w8).toArray):=rfl
    obtain⟨q1,q2,q3,q4,q5⟩:=fl c1 hval hst hrs
    generalize hmm:min l.length n=m at *
    have hX:(Value.agg ((l.take m).map w8).toArray).cells.toList=(l.take m).map w8:=rfl
    rw[hX]at q3 q5
    have hXl:((l.take m).map w8).length=m:=by simp;omega
    simp only[getD_some]at q1 q5
    have hlen2:=c1.length
    have c4:=c4 rfl
    obtain⟨w',hr,hw⟩:=bw (P:=Γ.P) (b:=(ρ.pos a).1) (o:=(ρ.pos a).2+(f+i)) ((l.take m).map w8) 0 w q3 (λj hj=>by
     have:=c4 (f+i+j) (by omega)
     rw[show(ρ.pos a).2+(f+i)+(0+j)=(ρ.pos a).2+(f+i+j) by omega]
     exact this)
    rw[add_zero]at hw
    have hund:=zus (Γ.ok (t:=t) (by rw[ht];simp)) ht
    have hrun:(Builtin.copy_ ats T' #[.slice y n c,x]).run Γ.P w= .ok (.int .i64 (m:Int)) w':=by
     have hlo:(Builtin.lenOf x).run Γ.P w= .ok l.length w:=hlen
     have hnm:Nat.min l.length n=m:=hmm
     by_cases hc0:c=0
     ·have hm0:m=0:=by omega
      have hX0:(l.take m).map w8=[]:=by rw[hm0];rfl
      have hw0:w'=w:=by
       rw[hX0]at hr
       have e:(storeCells ⟨(ρ.pos a).1,(ρ.pos a).2+(f+i),none⟩ [] 0).run Γ.P w= .ok () w:=rfl
       rw[e]at hr
       injection hr with _ h
       exact h.symm
      rw[hw0]
      unfold Builtin.copy_
      simp only[hat,List.getElem?_toArray,List.getElem?_cons_zero,List.getElem?_cons_succ,run_bind,zru hund,andThen_ok,hlo,hnm,aT (Γ.ok hb),he1,hcells m hmin,hX0]
      cases y with
      |none=>rfl
      |some b0=>rfl
     have hyy:y=some (ρ.addr a f i):=hy hc0
     subst hyy
     unfold Builtin.copy_
     simp only[hat,List.getElem?_toArray,List.getElem?_cons_zero,List.getElem?_cons_succ,run_bind,zru hund,andThen_ok,hlo,hnm,aT (Γ.ok hb),he1,hcells m hmin,aN]
     rw[hr]
     rfl
    refine⟨w',hrun,?_⟩
    exact hM.write (sp':=sp) hm hw (by omega) q5 (by omega) (λcs' d1 d2 j v hj=>by
     have hl':=d1.length
     have hin:∀j,¬(f+i<=j/\j<f+i+m)->w'.cell? ⟨(ρ.pos a).1,(ρ.pos a).2+j,none⟩=w.cell? ⟨(ρ.pos a).1,(ρ.pos a).2+j,none⟩:=by
      intro j hn
      refine hw.old _ _ (λ_=>?_)
      omega
     rcases lt_or_ge j (f+i)with hlt|hge
     ·rw[append_assoc,getElem?_append_left (by rw[zlT];omega),getElem?_take,if_pos hlt]at hj
      rw[hin j (by omega)];exact c3 j v hj
     rcases lt_or_ge j (f+i+m)with hlt2|hge2
     ·rw[append_assoc,getElem?_append_right (by rw[zlT];omega),getElem?_append_left (by rw[zlT];omega),zlT,Nat.min_eq_left (by omega)]at hj
      have:=hw.new (j-(f+i)) v hj
      rw[show(ρ.pos a).2+(f+i)+(j-(f+i))=(ρ.pos a).2+j by omega]at this
      exact this
     rw[getElem?_append_right (by simp only[zlA,zlT];omega),getElem?_drop]at hj
     simp only[zlA,zlT,hXl]at hj
     rw[show f+i+m+(j-(min (f+i) cs.length+m))=j by omega]at hj
     rw[hin j (by omega)];exact c3 j v hj)
   cases h
  cases h
 cases h
theorem jl {Γ:Ctx} {ρ:Env} {M:Mm} {w:World} (hM:zF ρ M w) {t e:Nat} (ht:(Γ.ty t).k= .slice e) (he1:(Γ.ty e).size=1) (hb:(Γ.ty e).k≠ .bad) {a f i n c:Nat} {y:Option Addr} (hnc:n<=c) (hy:c≠0->y=some (ρ.addr a f i))
  {sv:SV} {x:Value} (hx:zRT ρ sv x) {ps:List Prop} {m b:Nat} {E:Ent} (h:oJ M a f i n e sv=some (ps,m,b,E)) (hp:All ps) (ats:Array TypeId) (hat:ats[0]? =some t) (T':TypeId):
  ∃w',(Builtin.copy_ ats T' #[.slice y n c,x]).run Γ.P w= .ok (.int .i64 (m:Int)) w'/\zF ρ ((b,E)::M) w'/\aV ρ M ρ ((b,E)::M) w w':=by
 unfold oJ at h
 split at h
 ·rename_i sp ls hm
  split at h
  ·rename_i qs l hs
   split at h
   ·rename_i rs ls' hst
    obtain⟨rfl,rfl,rfl,rfl⟩:=sD h
    have hqs:All qs:=λq hq=>hp q (by simp[hq])
    have hrs:All rs:=λq hq=>hp q (by simp[hq])
    obtain⟨hlen,hcells⟩:=acS (P:=Γ.P) hM hx hs hqs
    have hmin:min l.length n<=l.length:=Nat.min_le_left _ _
    obtain⟨cs,c1,c2,c3,c4⟩:=hM.sat a _ hm
    have hval:zRT ρ (.a64 (l.take (min l.length n))) (.agg ((l.take (min l.length n)).map w64).toArray):=rfl
    obtain⟨q1,q2,q3,q4,q5⟩:=fl c1 hval hst hrs
    generalize hmm:min l.length n=m at *
    have hX:(Value.agg ((l.take m).map w64).toArray).cells.toList=(l.take m).map w64:=rfl
    rw[hX]at q3 q5
    have hXl:((l.take m).map w64).length=m:=by simp;omega
    simp only[getD_some]at q1 q5
    have hlen2:=c1.length
    have c4:=c4 rfl
    obtain⟨w',hr,hw⟩:=bw (P:=Γ.P) (b:=(ρ.pos a).1) (o:=(ρ.pos a).2+(f+i)) ((l.take m).map w64) 0 w q3 (λj hj=>by
     have:=c4 (f+i+j) (by omega)
     rw[show(ρ.pos a).2+(f+i)+(0+j)=(ρ.pos a).2+(f+i+j) by omega]
     exact this)
    rw[add_zero]at hw
    have hund:=zus (Γ.ok (t:=t) (by rw[ht];simp)) ht
    have hrun:(Builtin.copy_ ats T' #[.slice y n c,x]).run Γ.P w= .ok (.int .i64 (m:Int)) w':=by
     have hlo:(Builtin.lenOf x).run Γ.P w= .ok l.length w:=hlen
     have hnm:Nat.min l.length n=m:=hmm
     by_cases hc0:c=0
     ·have hm0:m=0:=by omega
      have hX0:(l.take m).map w64=[]:=by rw[hm0];rfl
      have hw0:w'=w:=by
       rw[hX0]at hr
       have e:(storeCells ⟨(ρ.pos a).1,(ρ.pos a).2+(f+i),none⟩ [] 0).run Γ.P w= .ok () w:=rfl
       rw[e]at hr
       injection hr with _ h
       exact h.symm
      rw[hw0]
      unfold Builtin.copy_
      simp only[hat,List.getElem?_toArray,List.getElem?_cons_zero,List.getElem?_cons_succ,run_bind,zru hund,andThen_ok,hlo,hnm,aT (Γ.ok hb),he1,hcells m hmin,hX0]
      cases y with
      |none=>rfl
      |some b0=>rfl
     have hyy:y=some (ρ.addr a f i):=hy hc0
     subst hyy
     unfold Builtin.copy_
     simp only[hat,List.getElem?_toArray,List.getElem?_cons_zero,List.getElem?_cons_succ,run_bind,zru hund,andThen_ok,hlo,hnm,aT (Γ.ok hb),he1,hcells m hmin,aN]
     rw[hr]
     rfl
    refine⟨w',hrun,?_⟩
    exact hM.write (sp':=sp) hm hw (by omega) q5 (by omega) (λcs' d1 d2 j v hj=>by
     have hl':=d1.length
     have hin:∀j,¬(f+i<=j/\j<f+i+m)->w'.cell? ⟨(ρ.pos a).1,(ρ.pos a).2+j,none⟩=w.cell? ⟨(ρ.pos a).1,(ρ.pos a).2+j,none⟩:=by
      intro j hn
      refine hw.old _ _ (λ_=>?_)
      omega
     rcases lt_or_ge j (f+i)with hlt|hge
     ·rw[append_assoc,getElem?_append_left (by rw[zlT];omega),getElem?_take,if_pos hlt]at hj
      rw[hin j (by omega)];exact c3 j v hj
     rcases lt_or_ge j (f+i+m)with hlt2|hge2
     ·rw[append_assoc,getElem?_append_right (by rw[zlT];omega),getElem?_append_left (by rw[zlT];omega),zlT,Nat.min_eq_left (by omega)]at hj
      have:=hw.new (j-(f+i)) v hj
      rw[show(ρ.pos a).2+(f+i)+(j-(f+i))=(ρ.pos a).2+j by omega]at this
      exact this
     rw[getElem?_append_right (by simp only[zlA,zlT];omega),getElem?_drop]at hj
     simp only[zlA,zlT,hXl]at hj
     rw[show f+i+m+(j-(min (f+i) cs.length+m))=j by omega]at hj
     rw[hin j (by omega)];exact c3 j v hj)
   cases h
  cases h
 cases h
theorem yD {Γ:Ctx} {N:Nat} {ρ:Env} {T:Tm} {M:Mm} {a:Act} {w:World} (hc:aZ N ρ T M a w) {c:Go.Call} {ps:List Prop} {m b:Nat} {E:Ent} (h:copyE Γ.ty M T c=some (ps,m,b,E)) (hp:All ps) (T':TypeId):
  ∃w',(do pure (Next.value (<-Builtin.copy_ c.argTypes T' (c.args.map a.eval))):Sem Next).run Γ.P w= .ok (.value (.int .i64 (m:Int))) w'/\zF ρ ((b,E)::M) w'/\aV ρ M ρ ((b,E)::M) w w':=by
 unfold copyE at h
 split at h
 ·rename_i d s hargs
  have e1:c.args.map a.eval= #[a.eval d,a.eval s]:=by
   apply ext';simp[hargs]
  split at h
  ·rename_i t tr hts
   have hat:c.argTypes[0]? =some t:=by
    have:c.argTypes.toList[0]? =some t:=by rw[hts];rfl
    simpa using this
   split at h
   ·rename_i e hk
    cases hq:beq (Γ.ty e).size 1&&copyE.notBad (Γ.ty e).k with
    |false=>rw[hq,zcF]at h;cases h
    |true=>
     rw[hq,zcT]at h
     simp only[zbA]at hq
     have hb:(Γ.ty e).k≠ .bad:=by
      intro hb;rw[hb]at hq;cases hq.2
     have hr:=zev hc d
     have hs:=zev hc s
     rw[e1]
     split at h
     ·rename_i a' f i n cc he
      rw[he]at hr
      obtain⟨_,hnc,y,hv,hy⟩:=hr
      obtain⟨w',h1,h2,h3⟩:∃w',(Builtin.copy_ c.argTypes T' #[.slice y n cc,a.eval s]).run Γ.P w= .ok (.int .i64 (m:Int)) w'/\zF ρ ((b,E)::M) w'/\aV ρ M ρ ((b,E)::M) w w':=by
       rcases vr h with⟨_,h⟩|⟨_,h⟩
       ·exact jl hc.tozF hk (zq hq.1) hb hnc hy hs h hp c.argTypes hat T'
       exact nj hc.tozF hk (zq hq.1) hb hnc hy hs h hp c.argTypes hat T'
      refine⟨w',?_,h2,h3⟩
      rw[hv,run_bind,h1];rfl
     ·rename_i a' f i n he
      rw[he]at hr
      obtain⟨_,cc,y,hnc,hv,hy⟩:=hr
      obtain⟨w',h1,h2,h3⟩:∃w',(Builtin.copy_ c.argTypes T' #[.slice y n cc,a.eval s]).run Γ.P w= .ok (.int .i64 (m:Int)) w'/\zF ρ ((b,E)::M) w'/\aV ρ M ρ ((b,E)::M) w w':=by
       rcases vr h with⟨_,h⟩|⟨_,h⟩
       ·exact jl hc.tozF hk (zq hq.1) hb hnc hy hs h hp c.argTypes hat T'
       exact nj hc.tozF hk (zq hq.1) hb hnc hy hs h hp c.argTypes hat T'
      refine⟨w',?_,h2,h3⟩
      rw[hv,run_bind,h1];rfl
     cases h
   cases h
  cases h
 cases h
theorem zF.fresh (h:zF ρ M w) (hg:eW w w') (hlt:w.heap.size<w'.heap.size) (hd:zG M d=none)
  (hcs:zC ρ ls cs) (hcell:∀(j:Nat) (v:Value),cs[j]? =some v->w'.cell? ⟨w.heap.size,j,none⟩=some v)
  (hown:∀j,j<cs.length+sp->(∃v,w'.cell? ⟨w.heap.size,j,none⟩=some v)/\iO w' ⟨w.heap.size,j,none⟩=false):
  ρ.le (ρ.add d (w.heap.size,0))/\zF (ρ.add d (w.heap.size,0)) ((d,.mem true sp ls)::M) w'/\aV ρ M (ρ.add d (w.heap.size,0)) ((d,.mem true sp ls)::M) w w':=by
 have hnd:¬ρ.dom d:=by
  intro hx
  obtain⟨e,he⟩:=h.dom d hx
  rw[hd]at he;cases he
 have hle:=Env.le_add (w.heap.size,0) hnd
 have pne:∀{a},a≠d->(ρ.add d (w.heap.size,0)).pos a=ρ.pos a:=by
  intro a ha;simp only[Env.add];rw[if_neg ha]
 have pd:(ρ.add d (w.heap.size,0)).pos d=(w.heap.size,0):=by simp[Env.add]
 have hfoot:∀k o,eJ ((ρ.add d (w.heap.size,0)).pos d) (.mem true sp ls) k o->k=w.heap.size:=by
  intro k o hf;rw[pd]at hf;exact hf.1
 have hold:∀a e,zG M a=some e->∀k o,eJ ((ρ.add d (w.heap.size,0)).pos a) e k o->k<w.heap.size:=by
  intro a e he k o hf
  have hne:a≠d:=by rintro rfl;rw[hd]at he;cases he
  rw[pne hne]at hf
  exact iP (h.sat a e he) hf
 have ownN:∀b o,b<w.heap.size->eU (ρ.add d (w.heap.size,0)) ((d,.mem true sp ls)::M) b o->eU ρ M b o:=by
  intro b o hb ho
  obtain⟨a,e,he,hown,hf⟩:=ho
  by_cases ha:a=d
  ·subst ha
   rw[zh]at he
   obtain rfl:Ent.mem true sp ls=e:=by simpa using he
   have:=hfoot b o hf
   omega
  rw[zg ha]at he
  rw[pne ha]at hf
  exact⟨a,e,he,hown,hf⟩
 refine⟨hle,⟨?_,?_,?_,?_,λb o ls hi=>(h.imm b o ls hi).keep (λ_ _ _ h=>h) hg.size (λ_ _=>(hg.cell ((h.imm b o ls hi).1 (by omega))).1),λb o hi ho=>h.isep b o hi (ownN b o (h.immc_lt (ρ:=ρ) hi) ho),h.gl⟩,?_⟩
 ·intro a ha
  by_cases hne:a=d
  ·subst hne;exact⟨_,zh _ _ _⟩
  rw[zg hne]
  exact h.dom a (ha.resolve_left hne)
 ·intro a e he
  by_cases hne:a=d
  ·exact Or.inl hne
  rw[zg hne]at he;exact Or.inr (h.mod a e he)
 ·intro a e he
  by_cases hne:a=d
  ·subst hne
   rw[zh]at he
   obtain rfl:Ent.mem true sp ls=e:=by simpa using he
   rw[pd]
   refine⟨cs,hcs.le hle,⟨λ_=>hlt,λhh=>by cases hh⟩,λj v hj=>?_,λho j hj=>?_⟩
   ·rw[zero_add];exact hcell j v hj
   rw[zero_add];exact hown j (by rw[hcs.length];exact hj)
  rw[zg hne]at he
  rw[pne hne]
  exact(h.sat a e he).grows hle hg
 ·intro a b e e' he he' hab ho k o hf hf'
  by_cases ha:a=d
  ·subst ha
   have hb:b≠a:=λe=>hab e.symm
   rw[zg hb]at he'
   rw[zh]at he
   obtain rfl:Ent.mem true sp ls=e:=by simpa using he
   have h1:=hfoot k o hf
   have h2:=hold b e' he' k o hf'
   omega
  rw[zg ha]at he
  by_cases hb:b=d
  ·subst hb
   rw[zh]at he'
   obtain rfl:Ent.mem true sp ls=e':=by simpa using he'
   have h1:=hfoot k o hf'
   have h2:=hold a e he k o hf
   omega
  rw[zg hb]at he'
  rw[pne ha]at hf
  rw[pne hb]at hf'
  exact h.sep a b e e' he he' hab ho k o hf hf'
 exact⟨hg.size,hg.os,hg.output,λb hb _=>hg.blk b hb,λb o hb _=>hg.cell hb,λb o hb ho=>ownN b o hb ho,λ_ _ _ h=>Or.inl h⟩
def oQ (zl:List (Nat×SV)) (es n:Nat):Option (List (Nat×SV)):=
  bif nh zl&&yR zl&&beq (zL zl) es&&blt 0 es then
    (match es with
     |1=>some [(n,.arr n 1 (λ_=>aRV zl))]
     |es=>some [(n*es,.arr n es (λ_=>zl))])else none
def aDJ (v:SV) (n:Nat):Option SV:=
 match v with
 | .u8 x=>some (.a8 (replicate n x))
 | .u16 x=>some (.a16 (replicate n x))
 | .u32 x=>some (.a32 (replicate n x))
 | .u64 x=>some (.a64 (replicate n x))
 | .i k x=>match k with
  | .i64=>some (.ai (replicate n x))
  |_=>none
 |_=>none
def iY (y:Ty) (n:Nat):Option (List (Nat×SV)):=
 match y.zl with
 |[]=>none
 |[(s,v)]=>match aDJ v n with
  |some u=>bif beq y.size 1&&beq s 1 then some [(n,u)]else none
  |none=>oQ [(s,v)] y.size n
 |zl=>oQ zl y.size n
theorem iy (z:Array Value) (m j:Nat) (h:j<m):(madeCells z m).toList[j]? =some z[j%z.size]!:=by
 simp[madeCells,h]
theorem mh (hz:z.size=es) (hq:q<m):((madeCells z (m*es)).toList.drop (q*es)).take es=z.toList:=by
 have hb:(q+1)*es<=m*es:=Nat.mul_le_mul_right _ hq
 rw[add_mul,Nat.one_mul]at hb
 apply List.ext_getElem?
 intro j
 rw[getElem?_take]
 split
 ·rename_i hj
  rw[getElem?_drop]
  rw[iy _ _ _ (by omega),hz,show(q*es+j)%es=j by rw[Nat.add_comm,Nat.add_mul_mod_self_right,Nat.mod_eq_of_lt hj]]
  simp only[Array.getElem?_toList]
  rw[Array.getElem?_eq_getElem (by omega),getElem!_pos z j (by omega)]
 rw[List.getElem?_eq_none]
 simp;omega
theorem ap (z:Array Value) (m:Nat):(madeCells z m).toList.length=m:=by simp[madeCells]
theorem aGK (hz:z.size=es) (h:n<=m):(madeCells z (m*es)).toList.take (n*es)=(madeCells z (n*es)).toList:=by
 have hb:n*es<=m*es:=Nat.mul_le_mul_right _ h
 apply List.ext_getElem?
 intro j
 rw[getElem?_take]
 split
 ·rename_i hj
  rw[iy _ _ _ (by omega),iy _ _ _ hj]
 rw[List.getElem?_eq_none]
 rw[ap];omega
theorem aK2 (v:Value) (n:Nat):(madeCells #[v] (n*1)).toList=replicate n v:=by
 rw[mul_one];exact toList_madeCells_one v n
theorem tq (h:aDJ v n=some u):∃x,jc v=[x]/\zD ρ u (replicate n x):=by
 unfold aDJ at h
 split at h
 ·simp only[zoI]at h;subst h;exact⟨_,rfl,by simp only[zD,map_replicate]⟩
 ·simp only[zoI]at h;subst h;exact⟨_,rfl,by simp only[zD,map_replicate]⟩
 ·simp only[zoI]at h;subst h;exact⟨_,rfl,by simp only[zD,map_replicate]⟩
 ·simp only[zoI]at h;subst h;exact⟨_,rfl,by simp only[zD,map_replicate]⟩
 ·split at h
  ·simp only[zoI]at h;subst h;exact⟨_,rfl,by simp only[zD,map_replicate,wi]⟩
  cases h
 cases h
theorem kZ (h:oQ zl es n=some ls) (hz:z.toList=gv zl) (hzs:dj zl=true):
  z.size=es/\0<es/\zC ρ ls (madeCells z (n*es)).toList:=by
 have hb:=(zn h).1
 replace h:=(zn h).2
 simp only[zbA]at hb
 have h1:=zq hb.1.2
 have hpos:0<es:=ay hb.2
 have hlen:z.size=es:=by
  have:=(zzc ρ hzs).length
  rw[<-hz,h1]at this
  simpa using this
 have key:zC ρ [(n*es,.arr n es (λ_=>zl))] (madeCells z (n*es)).toList:=by
  refine⟨_,[],(append_nil _).symm,ap _ _,⟨ap _ _,λq hq=>?_⟩,rfl⟩
  rw[mh hlen hq,hz]
  exact dW hb.1.1.2 (zzc ρ hzs)
 have keyB:zC ρ [(n*es,.arr n es (λ_=>aRV zl))] (madeCells z (n*es)).toList:=by
  refine⟨_,[],(append_nil _).symm,ap _ _,⟨ap _ _,λq hq=>?_⟩,rfl⟩
  rw[mh hlen hq,hz]
  exact yI (dW hb.1.1.2 (zzc ρ hzs))
 refine⟨hlen,hpos,?_⟩
 split at h<;>simp only[zoI]at h<;>subst h
 ·rw[mul_one]at keyB⊢
  exact keyB
 exact key
theorem gu (hy:wL P t y) (h:iY y n=some ls) (ρ:Env):
  ∃z,(∃i,P.info? t=some i/\i.zero=some z/\i.size=y.size/\i.bytes=y.bytes)/\(zeroValue t).run P w= .ok z w/\z.cells.size=y.size/\0<y.size/\zC ρ ls (madeCells z.cells (n*y.size)).toList:=by
 have hzl:y.zl≠[]:=by
  intro e;unfold iY at h;rw[e]at h;cases h
 obtain⟨i,hi,hi1,hi2,hi3⟩:=hy.info
 obtain⟨z,hz,hzc,hzs,_⟩:=hi3 hzl
 have hrun:(zeroValue t).run P w= .ok z w:=by simp[zeroValue,typeInfo,hi,hz]
 refine⟨z,⟨i,hi,hz,hi1,hi2⟩,hrun,?_⟩
 unfold iY at h
 split at h
 ·cases h
 ·rename_i s v hv
  rw[hv]at hzc hzs
  split at h
  ·rename_i u hu
   have hb:=(zn h).1
   replace h:=(zn h).2
   simp only[zoI]at h;subst h
   simp only[zbA]at hb
   have h1:=zq hb.1
   obtain⟨x,hx,hc⟩:=tq (ρ:=ρ) hu
   have hcell:z.cells= #[x]:=by apply ext';rw[hzc];simp[gv,hx]
   rw[h1,hcell,aK2]
   exact⟨rfl,by omega,⟨_,[],(append_nil _).symm,by simp,hc,rfl⟩⟩
  exact kZ h hzc hzs
 exact kZ h hzc hzs
def Env.addI (ρ:Env) (b o:Nat) (ls:List (Nat×SV)):Env:=⟨ρ.dom,ρ.pos,λb' o' ls'=>ρ.imm b' o' ls'\/(b'=b/\o'=o/\ls'=ls)⟩
theorem Env.le_addI (ρ:Env) (b o:Nat) (ls:List (Nat×SV)):ρ.le (ρ.addI b o ls):=⟨λ_ h=>⟨h,rfl⟩,λ_ _ _ h=>Or.inl h⟩
def qY:List (Nat×SV)->Bool
 |[]=>true
 |(_,v)::r=>(yQ v||cw v)&&qY r
theorem qX:∀{ls:List (Nat×SV)} (_:qY ls=true) {cs:List Value},zC ρ ls cs->zC ρ.bare ls cs
 |[],_,_,h=>h
 |(_,v)::_,hb,_,⟨c1,c2,e,hl,h1,h2⟩=>by
  simp only[qY,zbA,Bool.or_eq_true]at hb
  refine⟨c1,c2,e,hl,?_,qX hb.2 h2⟩
  rcases hb.1 with hv|hv
  ·exact mC (qW hv h1)
  exact nO (ρ:=ρ) (ρ':=ρ.bare) (λ_ _ _ h=>h) hv h1
theorem zF.keep (h:zF ρ M w) (ha:zG M a=some (.mem true sp ls)) (hb:qY ls=true):
  let ρ':=ρ.addI (ρ.pos a).1 (ρ.pos a).2 ls
  zF ρ' ((a,.mem false 1 ls)::M) w/\aV ρ M ρ' ((a,.mem false 1 ls)::M) w w:=by
 intro ρ'
 have hle:ρ.le ρ':=Env.le_addI _ _ _ _
 obtain⟨cs,c1,c2,c3,c4⟩:=h.sat a _ ha
 have hsub:∀k o,eJ (ρ.pos a) (.mem false 1 ls) k o->eJ (ρ.pos a) (.mem true sp ls) k o:=by
  rintro k o ⟨f1,f2,f3⟩
  simp only[Bool.false_eq_true,if_false]at f3
  exact⟨f1,f2,by simp only[if_true];omega⟩
 have ownN:∀k p,eU ρ' ((a,.mem false 1 ls)::M) k p->eU ρ M k p/\¬eJ (ρ.pos a) (.mem true sp ls) k p:=by
  rintro k p ⟨c,e,he,hown,hf⟩
  by_cases hc:c=a
  ·subst hc
   rw[zh]at he
   obtain rfl:Ent.mem false 1 ls=e:=by simpa using he
   cases hown
  rw[zg hc]at he
  exact⟨⟨c,e,he,hown,hf⟩,h.sep c a e _ he ha hc hown k p hf⟩
 have immN:∀k p,rE ρ' k p->rE ρ k p\/eJ (ρ.pos a) (.mem true sp ls) k p:=by
  rintro k p ⟨o',ls',j,hi,hj,rfl⟩
  rcases hi with hi|⟨rfl,rfl,rfl⟩
  ·exact Or.inl ⟨o',ls',j,hi,hj,rfl⟩
  exact Or.inr ⟨rfl,by omega,by simp only[if_true];omega⟩
 have hpos:zL ls≠0->(ρ.pos a).1<w.heap.size:=λhn=>c2.1 (by simp only[if_true];omega)
 refine⟨⟨?_,?_,?_,?_,?_,λk p hi ho=>?_,h.gl.imp λn hn=>Or.inl hn⟩,⟨le_refl _,rfl,rfl,λ_ _ _=>rfl,λ_ _ _ _=>⟨rfl,rfl⟩,λk p _ ho=>(ownN k p ho).1,λk p _ hi=>?_⟩⟩
 ·intro b hb'
  by_cases hne:b=a
  ·subst hne;exact⟨_,zh _ _ _⟩
  rw[zg hne];exact h.dom b hb'
 ·intro b e he
  by_cases hne:b=a
  ·subst hne;exact h.mod _ _ ha
  rw[zg hne]at he;exact h.mod b e he
 ·intro b e he
  by_cases hne:b=a
  ·subst hne
   rw[zh]at he
   obtain rfl:Ent.mem false 1 ls=e:=by simpa using he
   exact⟨cs,c1.le hle,⟨λhn=>hpos (by simpa using hn),λ_ _=>Env.immO.of (Or.inr ⟨rfl,rfl,rfl⟩)⟩,c3,λhh=>by cases hh⟩
  rw[zg hne]at he
  exact mB.of_same hle (le_refl _) (λ_ _ _=>⟨rfl,rfl⟩) (λ_ _ _=>rfl) (h.sat b e he)
 ·intro b c e e' he he' hbc ho k o hf hf'
  by_cases hb':b=a
  ·subst hb'
   rw[zh]at he
   obtain rfl:Ent.mem false 1 ls=e:=by simpa using he
   cases ho
  rw[zg hb']at he
  by_cases hc:c=a
  ·subst hc
   rw[zh]at he'
   obtain rfl:Ent.mem false 1 ls=e':=by simpa using he'
   exact h.sep b c e _ he ha hbc ho k o hf (hsub k o hf')
  rw[zg hc]at he'
  exact h.sep b c e e' he he' hbc ho k o hf hf'
 ·rintro b o ls' (hi|⟨rfl,rfl,rfl⟩)
  ·exact(h.imm b o ls' hi).keep hle.im (le_refl _) (λ_ _=>rfl)
  exact⟨hpos,cs,(qX hb c1).le (Env.bare_mono hle.im),c3⟩
 ·obtain⟨h1,h2⟩:=ownN k p ho
  rcases immN k p hi with h3|h3
  ·exact h.isep k p h3 h1
  exact h2 h3
 rcases immN k p hi with h3|h3
 ·exact Or.inl h3
 exact Or.inr ⟨a,_,ha,rfl,h3⟩
def w6:Operand->Operand->Bool
 | .tmp a,.tmp b=>beq a b
 | .const (.int _ (.ofNat a)),.const (.int _ (.ofNat b))=>beq a b
 |_,_=>false
def zmE (n es:Nat):Nat:=
 match es with
 |1=>n
 |es=>n*es
theorem zme (n es:Nat):zmE n es=n*es:=by
 unfold zmE;split
 ·rw[mul_one]
 rfl
theorem fE:∀{l1 l2:List (Nat×SV)} {c1 c2:List Value},zC ρ l1 c1->zC ρ l2 c2->zC ρ (l1++l2) (c1++c2)
 |[],_,_,_,h1,h2=>by
  have e:=h1
  simp only[zC]at e
  subst e
  exact h2
 |(_,_)::_,_,_,_,⟨a,b,e,hl,h1,h2⟩,h3=>⟨a,b++_,by rw[e,append_assoc],hl,h1,fE h2 h3⟩
def aEA (ty:Nat->Ty) (e:Nat) (i1:Ix) (i2:Option (List Prop×Ix)):Option (List Prop×Nat):=
 match i1 with
 | .lit 0=>match i2 with
  |some (ps2,.lit (m+1))=>bif blt 1 (ty e).size then some (ps2,m+1)else none
  |_=>none
 |_=>none
def aB5 (ty:Nat->Ty) (T:Tm) (d t:Nat) (l c:Operand):Option (List Prop×Ent×SV):=
  match(ty t).k with
  | .slice e=>match(ty e).k with
    | .bad=>none
    | _=>match ixO T l with
      |some (ps1,i1)=>match iY (ty e) i1.val with
        |some ls=>match aEA ty e i1 (ixO T c)with
         |some (ps2,m)=>match iY (ty e) m with
           |some ls2=>some (((ty e).bytes*m<=281474976710656)::(m<=9223372036854775807)::(ps1++ps2),.mem true 0 (ls2++[(0,.a8 [])]),.sl d 0 0 0 m)
           |none=>none
         |none=>bif w6 l c then some (((ty e).bytes*i1.val<=281474976710656)::(i1.val<=9223372036854775807)::ps1,.mem true 0 ls,.sl d 0 0 i1.val i1.val)
          else match ixO T c with
            |some (ps2,i2)=>some ((i1.val<=i2.val)::((ty e).bytes*i2.val<=281474976710656)::(i2.val<=9223372036854775807)::(ps1++ps2),.mem true (zmE (i2.val-i1.val) (ty e).size) ls,.sl d 0 0 i1.val i2.val)
            |none=>none
        |none=>none
      |none=>none
  |_=>none
theorem sU (_:aZ N ρ T M a w) (h:w6 l c=true) (hl:a.eval l= .int k n):∃k',a.eval c= .int k' n:=by
 unfold w6 at h
 split at h
 ·have:=zq h
  subst this
  exact⟨k,hl⟩
 ·rename_i k1 x k2 y
  have:=zq h
  subst this
  have e:Value.int k1 (Int.ofNat x)= .int k n:=hl
  simp only[Value.int.injEq]at e
  exact⟨k2,by show Value.int k2 (Int.ofNat x)=_;rw[e.2]⟩
 cases h
theorem xY {Γ:Ctx} {N:Nat} {ρ:Env} {T:Tm} {M:Mm} {a:Act} {w:World} (hc:aZ N ρ T M a w) {d t:Nat} {l c:Operand} {ps:List Prop} {e:Ent} {v:SV} (hd:zG M d=none)
  (h:aB5 Γ.ty T d t l c=some (ps,e,v)) (hp:All ps):
  ∃x w' ρ',(Instr.makeSlice t (a.eval l) (a.eval c)).run Γ.P w= .ok x w'/\ρ.le ρ'/\zF ρ' ((d,e)::M) w'/\aV ρ M ρ' ((d,e)::M) w w'/\zRT ρ' v x:=by
 unfold aB5 at h
 split at h
 ·rename_i el hk
  have ut:=zus (Γ.ok (t:=t) (by rw[hk];simp)) hk
  split at h
  ·cases h
  rename_i hb
  have oe:=Γ.ok (t:=el) hb
  split at h
  ·rename_i ps1 i1 hl
   split at h
   ·rename_i ls hz
    obtain⟨z,⟨i,hi,hzz,hi1,hi2⟩,_,hzs,hpos,hcells⟩:=gu (w:=w) oe hz ρ
    have key:∀(k1 k2:IntKind) (m:Nat),a.eval l= .int k1 (i1.val:Int)->a.eval c= .int k2 (m:Int)->i1.val<=m->(Γ.ty el).bytes*m<=281474976710656->m<=9223372036854775807->
      ∃x w' ρ',(Instr.makeSlice t (a.eval l) (a.eval c)).run Γ.P w= .ok x w'/\ρ.le ρ'/\zF ρ' ((d,.mem true ((m-i1.val)*(Γ.ty el).size) ls)::M) w'/\aV ρ M ρ' ((d,.mem true ((m-i1.val)*(Γ.ty el).size) ls)::M) w w'/\zRT ρ' (.sl d 0 0 i1.val m) x:=by
     intro k1 k2 m h1 h2 hle hby h63
     have hrun:=run_make w t el i z ut hi hzz k1 k2 (i1.val:Int) (m:Int) (by omega) (by omega) (by rw[hi2,<-Int.natCast_mul];exact Int.ofNat_le.2 hby) (by omega)
     rw[<-h1,<-h2]at hrun
     simp only[zIn,hi1]at hrun
     have hlen:=hcells.length
     rw[ap]at hlen
     have hmul:i1.val*(Γ.ty el).size+(m-i1.val)*(Γ.ty el).size=m*(Γ.ty el).size:=by rw[<-add_mul,show i1.val+(m-i1.val)=m by omega]
     obtain⟨n1,n2,n3⟩:=hc.tozF.alloc (t:=el) (cells:=madeCells z.cells (m*(Γ.ty el).size)) (sp:=(m-i1.val)*(Γ.ty el).size) hd hcells (λj v hj=>by
      rw[<-aGK (m:=m) (by rw[hzs]) hle]at hj
      rw[getElem?_take]at hj
      split at hj
      ·simpa using hj
      cases hj) (by rw[size_madeCells,ap,hmul])
     refine⟨_,_,_,hrun,n1,n2,n3,zR ⟨Or.inl rfl,hle,_,rfl,λ_=>?_⟩⟩
     simp[Env.addr,Env.add]
    split at h
    ·rename_i ps2 m ht
     split at h
     ·rename_i ls2 hz2
      obtain⟨rfl,rfl,rfl⟩:=sC h
      unfold aEA at ht
      split at ht
      ·split at ht
       ·rename_i qs2 m2 hcc
        have h:=(zn ht).2
        obtain⟨rfl,rfl⟩:=sB h
        obtain⟨k1,h1⟩:=eH hc hl hp.tail.tail.left
        obtain⟨k2,h2⟩:=eH hc hcc hp.tail.tail.right
        have h1:a.eval l= .int k1 ((0:Nat):Int):=h1
        have h2:a.eval c= .int k2 ((m2+1:Nat):Int):=h2
        obtain⟨z',⟨i',hi',hzz',hi1',hi2'⟩,_,hzs',hpos',hcells'⟩:=gu (w:=w) oe hz2 ρ
        have e1:i'=i:=Option.some.inj (hi'.symm.trans hi)
        subst e1
        have e2:z'=z:=Option.some.inj (hzz'.symm.trans hzz)
        subst e2
        have hby:=hp.head
        have h63:=hp.tail.head
        have hrun:=run_make w t el i' z' ut hi hzz k1 k2 ((0:Nat):Int) ((m2+1:Nat):Int) (by omega) (by omega) (by rw[hi2,<-Int.natCast_mul];exact Int.ofNat_le.2 hby) (by omega)
        rw[<-h1,<-h2]at hrun
        simp only[zIn,hi1]at hrun
        have hcl:zC ρ (ls2++[(0,.a8 [])]) ((madeCells z'.cells ((m2+1)*(Γ.ty el).size)).toList++[]):=fE hcells' ⟨[],[],rfl,rfl,rfl,rfl⟩
        rw[append_nil]at hcl
        obtain⟨n1,n2,n3⟩:=hc.tozF.alloc (t:=el) (cells:=madeCells z'.cells ((m2+1)*(Γ.ty el).size)) (sp:=0) hd hcl (λj v hj=>by simpa using hj) (by rw[add_zero];simp)
        refine⟨_,_,_,hrun,n1,n2,n3,zR ⟨Or.inl rfl,Nat.zero_le _,_,rfl,λ_=>?_⟩⟩
        simp[Env.addr,Env.add]
       cases ht
      cases ht
     cases h
    rcases zs h with⟨hs,h⟩|⟨_,h⟩
    ·obtain⟨rfl,rfl,rfl⟩:=sC h
     obtain⟨k1,h1⟩:=eH hc hl hp.tail.tail
     obtain⟨k2,h2⟩:=sU hc hs h1
     have:=key k1 k2 i1.val h1 h2 (le_refl _) hp.head hp.tail.head
     rw[Nat.sub_self,zero_mul]at this
     exact this
    split at h
    ·rename_i ps2 i2 hcc
     obtain⟨rfl,rfl,rfl⟩:=sC h
     obtain⟨k1,h1⟩:=eH hc hl hp.tail.tail.tail.left
     obtain⟨k2,h2⟩:=eH hc hcc hp.tail.tail.tail.right
     have:=key k1 k2 i2.val h1 h2 hp.head hp.tail.head hp.tail.tail.head
     rw[zme]
     exact this
    cases h
   cases h
  cases h
 cases h
def aW1:Nat->List (Nat×SV)->List (Nat×SV)
 |0,_=>[]
 |n+1,zl=>zl++aW1 n zl
theorem rU (hL:zC ρ zl L) (hes:L.length=es):∀(n:Nat) (X:List Value),X.length=n*es->(∀q,q<n->(X.drop (q*es)).take es=L)->zC ρ (aW1 n zl) X
 |0,X,hX,_=>by
  rw[zero_mul]at hX
  have:=List.eq_nil_of_length_eq_zero hX
  subst this
  rfl
 |n+1,X,hX,h=>by
  rw[add_mul,Nat.one_mul]at hX
  have h0:=h 0 (by omega)
  rw[zero_mul,List.drop_zero]at h0
  have:X=X.take es++X.drop es:=(List.take_append_drop es X).symm
  rw[this,h0]
  refine fE hL (rU hL hes n _ (by rw[zlD];omega) λq hq=>?_)
  have:=h (q+1) (by omega)
  rw[List.drop_drop,show es+q*es=(q+1)*es by rw[add_mul];omega]
  exact this
def aNV:SV->Option Nat
 | .a8 l=>some l.length
 | .a16 l=>some l.length
 | .a32 l=>some l.length
 | .a64 l=>some l.length
 | .ai l=>some l.length
 |_=>none
def aXX (ty:Nat->Ty) (T:Tm) (e len:Nat) (parts:List (Nat×Operand)):Option (List Prop×List (Nat×SV)):=
 match iY (ty e) len with
 |none=>none
 |some ls=>match len with
  |0=>some ([],ls)
  |_=>match aSC T ls parts with
   |some v=>match aNV v with
    |some n=>some ([n=len],[(len,v)])
    |none=>none
   |none=>dV ty T (λi=>some (zmE i (ty e).size,e)) (aW1 len (ty e).zl) parts
def bsV (ty:Nat->Ty) (T:Tm) (d t len:Nat) (parts:List (Nat×Operand)):Option (List Prop×Ent×SV):=
 match(ty t).k with
 | .slice e=>match(ty e).k with
  | .bad=>none
  |_=>bif Nat.ble (len*(ty e).size) 16777216 then match aXX ty T e len parts with
    |some (ps,ls)=>some (ps,.mem true 0 ls,.sl d 0 0 len len)
    |none=>none
   else none
 |_=>none
theorem vU:∀(place:Nat->Option (Nat×Nat)) (parts:List (Nat×Value)) (cs cs':Array Value),Instr.fill place cs parts=some cs'->cs'.size=cs.size
 |_,[],cs,cs',h=>by simp only[Instr.fill,zoI]at h;rw[h]
 |place,(i,v)::r,cs,cs',h=>by
  simp only[Instr.fill]at h
  split at h
  ·cases h
  split at h
  ·cases h
  rename_i off size _ hn
  rw[vU place r _ _ h]
  have:∀(l:List (Value×Nat)) (c:Array Value),(l.foldl (λ(cs:Array Value) (x:Value×Nat)=>cs.setIfInBounds (off+x.2) x.1) c).size=c.size:=by
   intro l
   induction l with
   |nil=>intro c;rfl
   |cons y r ih=>intro c;rw[List.foldl_cons,ih];simp
  have h2:=this v.cells.zipIdx.toList cs
  rw[<-Array.foldl_toList]
  exact h2
theorem aB6 {Γ:Ctx} {N:Nat} {ρ:Env} {T:Tm} {M:Mm} {a:Act} {w:World} (hc:aZ N ρ T M a w) {e len:Nat} (hb:(Γ.ty e).k≠ .bad) {parts:List (Nat×Operand)} {ps:List Prop} {ls:List (Nat×SV)}
  (h:aXX Γ.ty T e len parts=some (ps,ls)) (hp:All ps) (h0:len=0->parts=[]):
  ∃i z cells,Γ.P.info? e=some i/\i.zero=some z/\i.size=(Γ.ty e).size/\0<i.size/\z.cells.size=i.size/\
   Instr.fill (λj=>some (j*i.size,i.size)) (madeCells z.cells (len*i.size)) (parts.map λ(i,x)=>(i,a.eval x))=some cells/\zC ρ ls cells.toList:=by
 have oe:=Γ.ok (t:=e) hb
 unfold aXX at h
 split at h
 ·cases h
 rename_i ls0 hz
 obtain⟨z,⟨i,hi,hzz,hi1,hi2⟩,_,hzs,hpos,hcells⟩:=gu (w:=w) oe hz ρ
 have hcells':=hcells
 rw[<-hi1]at hcells'
 refine⟨i,z,?_⟩
 split at h
 ·obtain⟨rfl,rfl⟩:=sB h
  rw[h0 rfl]
  exact⟨_,hi,hzz,hi1,by omega,by rw[hzs,hi1],rfl,by simpa using hcells'⟩
 split at h
 ·rename_i v hv
  split at h
  ·rename_i n hn
   obtain⟨rfl,rfl⟩:=sB h
   have hlen:=hp.head
   obtain⟨cs,hf,hr⟩:=rp hc hv
   have hz1:(Γ.ty e).size=1/\(gv ls0)=(madeCells z.cells (len*i.size)).toList:=by
    have hcl:=hcells'
    unfold aSC at hv
    split at hv
    ·rename_i s0 z0
     have hsz:=hcells.length
     rw[ap]at hsz
     obtain⟨c1,c2,e1,e2,e3,e4⟩:=hcl
     have e4:c2=[]:=e4
     subst e4
     rw[append_nil]at e1
     have hz0:(Γ.ty e).size=1:=by
      unfold iY at hz
      split at hz
      ·cases hz
      ·split at hz
       ·have hb:=(zn hz).1
        simp only[zbA]at hb
        exact zq hb.1
       exfalso
       unfold oQ at hz
       replace hz:=(zn hz).2
       split at hz<;>simp only[zoI,List.cons.injEq,zpI]at hz<;>(obtain⟨⟨_,rfl⟩,_⟩:=hz;first|(cases hv;done)|(split at hv<;>cases hv))
      exfalso
      unfold oQ at hz
      replace hz:=(zn hz).2
      split at hz<;>simp only[zoI,List.cons.injEq,zpI]at hz<;>(obtain⟨⟨_,rfl⟩,_⟩:=hz;first|(cases hv;done)|(split at hv<;>cases hv))
     refine⟨hz0,?_⟩
     rw[e1]
     split at hv<;>first
      |(simp only[gv,jc,append_nil];exact e3.symm)
      |cases hv
    cases hv
   have hone:i.size=1:=by omega
   refine⟨cs,hi,hzz,hi1,by omega,by rw[hzs,hi1],?_,?_⟩
   ·rw[hz1.2,Array.toArray_toList]at hf
    simp only[hone]
    simp only[hone]at hf
    exact hf
   have hcs:cs.size=len:=by
    have:=vU _ _ _ _ hf
    rw[this,List.size_toArray,hz1.2,ap,hone,mul_one]
   refine⟨cs.toList,[],(append_nil _).symm,by simpa using hcs,?_,rfl⟩
   unfold aNV at hn
   split at hn<;>first
    |cases hn;done
    |(have e:=congrArg Value.cells hr;simp only[Value.cells]at e;rw[e];simp[zD])
  cases h
 rename_i hne hnv
 have hlz:∀q,q<len->((madeCells z.cells (len*i.size)).toList.drop (q*i.size)).take i.size=z.cells.toList:=λq hq=>mh (by rw[hzs,hi1]) hq
 have hzl:(Γ.ty e).zl≠[]:=by intro e';unfold iY at hz;rw[e']at hz;cases hz
 obtain⟨i',hi',_,_,hi3⟩:=oe.info
 rw[hi]at hi'
 simp only[zoI]at hi';subst hi'
 obtain⟨z',hz',hzc,hzzs,_⟩:=hi3 hzl
 rw[hzz]at hz'
 simp only[zoI]at hz';subst hz'
 have hcl:zC ρ (Γ.ty e).zl z.cells.toList:=by rw[hzc];exact zzc ρ hzzs
 have hrep:=rU hcl (es:=i.size) (by simp[hzs,hi1]) len _ (ap _ _) hlz
 obtain⟨cs',hf,hl'⟩:=cJ hc (λj=>some (zmE j (Γ.ty e).size,e)) hrep h hp
 refine⟨cs',hi,hzz,hi1,by omega,by rw[hzs,hi1],?_,hl'⟩
 simp only[Option.map_some,zme]at hf
 rw[hi1]
 rw[hi1]at hf
 exact hf
theorem aIM {Γ:Ctx} {N:Nat} {ρ:Env} {T:Tm} {M:Mm} {a:Act} {w:World} (hc:aZ N ρ T M a w) {d t len:Nat} {parts:List (Nat×Operand)} {ps:List Prop} {e:Ent} {v:SV} (hd:zG M d=none)
  (h:bsV Γ.ty T d t len parts=some (ps,e,v)) (hp:All ps) (h0:len=0->parts=[]):
  ∃x w' ρ',(Instr.buildSlice t len (parts.map λ(i,x)=>(i,a.eval x)).toArray).run Γ.P w= .ok x w'/\ρ.le ρ'/\zF ρ' ((d,e)::M) w'/\aV ρ M ρ' ((d,e)::M) w w'/\zRT ρ' v x:=by
 unfold bsV at h
 split at h
 ·rename_i el hk
  have ut:=zus (Γ.ok (t:=t) (by rw[hk];simp)) hk
  split at h
  ·cases h
  rename_i hb
  have hble:=(zn h).1
  replace h:=(zn h).2
  split at h
  ·rename_i qs ls hl
   obtain⟨rfl,rfl,rfl⟩:=sC h
   obtain⟨i,z,cells,hi,hz,hi1,hpos,hzs,hf,hcl⟩:=aB6 hc hb hl hp h0
   have hsmall:¬len*i.size>2^24:=by
    have:=aX hble
    rw[hi1];omega
   have hrun:(Instr.buildSlice t len (parts.map λ(i,x)=>(i,a.eval x)).toArray).run Γ.P w= .ok (.slice (some ⟨w.heap.size,0,none⟩) len len) (w.alloc (.cells cells el)):=by
    rcases Nat.eq_zero_or_pos len with hz0|hz0
    ·subst hz0
     rw[h0 rfl]at hf⊢
     simp only[List.map_nil,Instr.fill,zoI]at hf
     subst hf
     have:madeCells z.cells (0*i.size)= #[]:=by apply ext';simp[madeCells]
     rw[this]
     have hr0:Array.range 0= #[]:=rfl
     simp[Instr.buildSlice,run_underlying ut,sizeOf,typeInfo,hi,Instr.fill,newRow,hr0]
    exact run_buildSlice w t el len _ cells i z ut hi hz hsmall (Nat.ne_of_gt (Nat.mul_pos hz0 hpos)) (by simpa [madeCells]using hf)
   obtain⟨n1,n2,n3⟩:=hc.tozF.alloc (t:=el) (cells:=cells) (sp:=0) hd hcl (λj v hj=>by simpa using hj) (by simp)
   refine⟨_,_,_,hrun,n1,n2,n3,zR ⟨Or.inl rfl,le_refl _,_,rfl,λ_=>?_⟩⟩
   simp[Env.addr,Env.add]
  cases h
 cases h
section
variable {P:Program} {w:World}
theorem uP {t xt ty e:TypeId} {i:TypeInfo} (ht:P.underlying t=some (.slice e)) (hxt:(∃e',P.underlying xt=some (.slice e'))\/P.underlying xt=some .string) (hi:P.info? e=some i)
  {n c m:Nat} {x:Value} {news:List Value} (hlen:(Builtin.lenOf x).run P w= .ok m w) (hf:(Builtin.firstCells i.size m x).run P w= .ok news.toArray w) (hroom:n+m<=c):
  (Builtin.append_ #[t,xt] ty #[.slice none n c,x]).run P w= .ok (.slice none (n+m) c) w:=by
 rcases hxt with⟨e',hxt⟩|hxt<;>simp[Builtin.append_,run_underlying ht,run_underlying hxt,sizeOf,typeInfo,hi,hlen,hf,hroom]
theorem aBN (ht:P.underlying t=some (.slice e)) (hxt:(∃e',P.underlying xt=some (.slice e'))\/P.underlying xt=some .string) (hi:P.info? e=some i)
  (hlen:(Builtin.lenOf x).run P w= .ok m w) (hf:(Builtin.firstCells i.size m x).run P w= .ok news.toArray w) (hroom:n+m<=c)
  (hst:(storeCells (a.add (n*i.size)) news 0).run P w= .ok () w'):
  (Builtin.append_ #[t,xt] ty #[.slice (some a) n c,x]).run P w= .ok (.slice (some a) (n+m) c) w':=by
 rcases hxt with⟨e',hxt⟩|hxt<;>simp[Builtin.append_,run_underlying ht,run_underlying hxt,sizeOf,typeInfo,hi,hlen,hf,hroom,hst]
theorem uQ {t xt ty e:TypeId} {i:TypeInfo} {z:Value} (ht:P.underlying t=some (.slice e)) (hxt:(∃e',P.underlying xt=some (.slice e'))\/P.underlying xt=some .string) (hi:P.info? e=some i) (hz:i.zero=some z)
  {base:Option Addr} {n c m:Nat} {x:Value} {olds news:List Value} (hlen:(Builtin.lenOf x).run P w= .ok m w) (hf:(Builtin.firstCells i.size m x).run P w.drew= .ok news.toArray w.drew)
  (ho:(Builtin.firstCells i.size n (.slice base n c)).run P w.drew= .ok olds.toArray w.drew)
  (hg:c<n+m) (h63:((n+m:Nat):Int)<=9223372036854775807) (hfit:Builtin.nextslicecap (n+m) c*i.bytes<=281474976710656):
  (Builtin.append_ #[t,xt] ty #[.slice base n c,x]).run P w= .ok (.slice (some ⟨w.heap.size,0,none⟩) (n+m) (grownCap w (n+m) c e))
    (w.drew.alloc (.cells ((olds++news).toArray++Builtin.zeroCells z.cells (grownCap w (n+m) c e-(n+m))) e)):=by
 have hn:¬(n+m<=c):=by omega
 have h63':¬(9223372036854775807<((n:Int)+(m:Int))):=by omega
 have h48':¬(281474976710656<Builtin.nextslicecap (n+m) c*i.bytes):=by omega
 rcases hxt with⟨e',hxt⟩|hxt<;>
  (simp[Builtin.append_,run_underlying ht,run_underlying hxt,sizeOf,typeInfo,zeroValue,hi,hz,hlen,hn,h63',h48',Question.forced,hf,ho,newRow,grownCap];try(congr 2;apply ext';simp[append_assoc]))
theorem tQ {y:Option Addr} {n c es:Nat} {b o off:Nat} {cs:List Value} (hnc:n<=c) (hy:c≠0->y=some ⟨b,o+off,none⟩) (hcs:∀j v,cs[j]? =some v->w.cell? ⟨b,o+j,none⟩=some v) (hl:off+n*es<=cs.length):
  (Builtin.firstCells es n (.slice y n c)).run P w= .ok ((cs.drop off).take (n*es)).toArray w:=by
 rcases Nat.eq_zero_or_pos c with h0|h0
 ·have hn:n=0:=by omega
  subst hn
  cases y with
  |none=>simp[Builtin.firstCells]
  |some ad=>
   show(loadCells ad (0*es)).run P w=_
   rw[zero_mul];rfl
 rw[hy (by omega)]
 show(loadCells _ (n*es)).run P w=_
 exact g6 (by simp;omega) (λj v hj=>by
  rw[getElem?_take]at hj
  split at hj
  ·rw[getElem?_drop]at hj
   rw[add_assoc];exact hcs _ _ hj
  cases hj)
end
theorem zF.kill (h:zF ρ M w) (ha:zG M a=some (.mem true sp ls))
  (hw:yX (ρ.pos a).1 ((ρ.pos a).2+q) nc w w') (hq:q+nc.length<=zL ls+sp):
  zF ρ ((a,.dead)::M) w'/\aV ρ M ρ ((a,.dead)::M) w w'/\(∀k p,eJ (ρ.pos a) (.mem true sp ls) k p->¬eU ρ ((a,.dead)::M) k p/\¬rE ρ k p/\∀b e,zG ((a,.dead)::M) b=some e->¬eJ (ρ.pos b) e k p)/\
   ∀j,j<zL ls+sp->(∃v,w'.cell? ⟨(ρ.pos a).1,(ρ.pos a).2+j,none⟩=some v)/\iO w' ⟨(ρ.pos a).1,(ρ.pos a).2+j,none⟩=false:=by
 obtain⟨cs,c1,c2,c3,c4⟩:=h.sat a _ ha
 have c4:=c4 rfl
 have hin:∀p,(ρ.pos a).2+q<=p->p<(ρ.pos a).2+q+nc.length->eJ (ρ.pos a) (.mem true sp ls) (ρ.pos a).1 p:=by
  intro p h1 h2;exact⟨rfl,by omega,by simp only[if_true];omega⟩
 have hout:∀k p,¬eJ (ρ.pos a) (.mem true sp ls) k p->w'.cell? ⟨k,p,none⟩=w.cell? ⟨k,p,none⟩:=by
  intro k p hn
  refine hw.old k p λhk=>?_
  subst hk
  rcases lt_or_ge p ((ρ.pos a).2+q)with h1|h1
  ·exact Or.inl h1
  rcases lt_or_ge p ((ρ.pos a).2+q+nc.length)with h2|h2
  ·exact absurd (hin p h1 h2) hn
  exact Or.inr h2
 have old:∀{b e},zG ((a,.dead)::M) b=some e->e≠ .dead->b≠a/\zG M b=some e:=by
  intro b e he hne
  by_cases hb:b=a
  ·subst hb
   rw[zh]at he
   simp only[zoI]at he
   exact absurd he.symm hne
  rw[zg hb]at he;exact⟨hb,he⟩
 have ownN:∀k p,eU ρ ((a,.dead)::M) k p->eU ρ M k p/\¬eJ (ρ.pos a) (.mem true sp ls) k p:=by
  rintro k p ⟨c,e,he,hown,hf⟩
  have hne:e≠ .dead:=by rintro rfl;cases hown
  obtain⟨h1,h2⟩:=old he hne
  exact⟨⟨c,e,h2,hown,hf⟩,h.sep c a e _ h2 ha h1 hown k p hf⟩
 refine⟨⟨?_,?_,?_,?_,?_,λk p hi ho=>h.isep k p hi (ownN k p ho).1,h.gl⟩,⟨by rw[hw.size];exact le_refl _,hw.os,hw.output,λb hb hn=>?_,λb o hb hn=>⟨hout b o λhf=>hn ⟨a,_,ha,rfl,hf⟩,hw.frz b o⟩,λk p _ ho=>(ownN k p ho).1,λ_ _ _ h=>Or.inl h⟩,λk p hf=>⟨λho=>(ownN k p ho).2 hf,λhi=>h.isep k p hi ⟨a,_,ha,rfl,hf⟩,λb e he hf'=>?_⟩,λj hj=>⟨?_,by rw[hw.frz];exact(c4 j hj).2⟩⟩
 ·intro b hb
  by_cases hne:b=a
  ·subst hne;exact⟨_,zh _ _ _⟩
  rw[zg hne];exact h.dom b hb
 ·intro b e he
  by_cases hne:b=a
  ·subst hne;exact h.mod _ _ ha
  rw[zg hne]at he;exact h.mod b e he
 ·intro b e he
  by_cases hd:e= .dead
  ·subst hd;trivial
  obtain⟨h1,h2⟩:=old he hd
  refine mB.of_same (Env.le_refl _) (by rw[hw.size];exact le_refl _) (λk o hf=>⟨hout k o λhf'=>?_,hw.frz k o⟩) (λk hk hf=>?_) (h.sat b e h2)
  ·exact h.sep a b _ e ha h2 (λe=>h1 e.symm) rfl k o hf' hf
  rcases Nat.eq_zero_or_pos nc.length with hz|hz
  ·by_cases hba:k=(ρ.pos a).1
   ·exact hw.blk0 hz k
   exact hw.blk k hba
  refine hw.blk k λhba=>?_
  subst hba
  exact h.sep a b _ e ha h2 (λe=>h1 e.symm) rfl _ _ (hin ((ρ.pos a).2+q) (le_refl _) (by omega)) (hf _)
 ·intro b c e e' he he' hbc ho k o hf hf'
  have h1:e≠ .dead:=by rintro rfl;cases ho
  have h2:e'≠ .dead:=by rintro rfl;exact hf'
  exact h.sep b c e e' (old he h1).2 (old he' h2).2 hbc ho k o hf hf'
 ·intro b o ls' hi
  exact(h.imm b o ls' hi).keep (λ_ _ _ h=>h) (by rw[hw.size];exact le_refl _) (λj hj=>hout _ _ λhf=>h.isep b (o+j) (rE.mk hi hj) ⟨a,_,ha,rfl,hf⟩)
 ·rcases Nat.eq_zero_or_pos nc.length with hz|hz
  ·by_cases hba:b=(ρ.pos a).1
   ·exact hw.blk0 hz b
   exact hw.blk b hba
  refine hw.blk b λhba=>?_
  subst hba
  exact hn ((ρ.pos a).2+q) ⟨a,_,ha,rfl,hin _ (le_refl _) (by omega)⟩
 ·have h2:e≠ .dead:=by rintro rfl;exact hf'
  obtain⟨k1,k2⟩:=old he h2
  exact h.sep a b _ e ha k2 (λe=>k1 e.symm) rfl k p hf hf'
 rcases lt_or_ge j q with h1|h1
 ·rw[hw.old _ _ (λ_=>Or.inl (by omega))];exact(c4 j hj).1
 rcases lt_or_ge j (q+nc.length)with h2|h2
 ·refine⟨nc[j-q],?_⟩
  have:=hw.new (j-q) nc[j-q] (by simp)
  rw[show(ρ.pos a).2+q+(j-q)=(ρ.pos a).2+j by omega]at this
  exact this
 rw[hw.old _ _ (λ_=>Or.inr (by omega))];exact(c4 j hj).1
theorem zF.claim (h:zF ρ M w) (hd:zG M d=none) (hcs:zC ρ ls cs) (hcell:∀j v,cs[j]? =some v->w.cell? ⟨b,o+j,none⟩=some v)
  (hfree:∀p,o<=p->p<o+(zL ls+sp)->¬eU ρ M b p/\¬rE ρ b p/\∀c e,zG M c=some e->¬eJ (ρ.pos c) e b p)
  (hown:∀j,j<zL ls+sp->(∃v,w.cell? ⟨b,o+j,none⟩=some v)/\iO w ⟨b,o+j,none⟩=false):
  ρ.le (ρ.add d (b,o))/\zF (ρ.add d (b,o)) ((d,.mem true sp ls)::M) w/\
   (∀k p,eU (ρ.add d (b,o)) ((d,.mem true sp ls)::M) k p->eU ρ M k p\/(k=b/\o<=p/\p<o+(zL ls+sp))):=by
 have hnd:¬ρ.dom d:=by
  intro hx
  obtain⟨e,he⟩:=h.dom d hx
  rw[hd]at he;cases he
 have hle:=Env.le_add (b,o) hnd
 have pne:∀{a},a≠d->(ρ.add d (b,o)).pos a=ρ.pos a:=by
  intro a ha;simp only[Env.add];rw[if_neg ha]
 have pd:(ρ.add d (b,o)).pos d=(b,o):=by simp[Env.add]
 have ownN:∀k p,eU (ρ.add d (b,o)) ((d,.mem true sp ls)::M) k p->eU ρ M k p\/(k=b/\o<=p/\p<o+(zL ls+sp)):=by
  rintro k p ⟨c,e,he,hown',hf⟩
  by_cases hc:c=d
  ·subst hc
   rw[zh]at he
   obtain rfl:Ent.mem true sp ls=e:=by simpa using he
   rw[pd]at hf
   obtain⟨f1,f2,f3⟩:=hf
   exact Or.inr ⟨f1,f2,by simpa using f3⟩
  rw[zg hc]at he
  rw[pne hc]at hf
  exact Or.inl ⟨c,e,he,hown',hf⟩
 refine⟨hle,⟨?_,?_,?_,?_,h.imm,λk p hi ho=>?_,h.gl⟩,ownN⟩
 ·intro a ha
  by_cases hne:a=d
  ·subst hne;exact⟨_,zh _ _ _⟩
  rw[zg hne]
  exact h.dom a (ha.resolve_left hne)
 ·intro a e he
  by_cases hne:a=d
  ·exact Or.inl hne
  rw[zg hne]at he;exact Or.inr (h.mod a e he)
 ·intro a e he
  by_cases hne:a=d
  ·subst hne
   rw[zh]at he
   obtain rfl:Ent.mem true sp ls=e:=by simpa using he
   rw[pd]
   refine⟨cs,hcs.le hle,⟨λhn=>?_,λhh=>by cases hh⟩,hcell,λ_=>hown⟩
   simp only[if_true]at hn
   obtain⟨⟨v,hv⟩,_⟩:=hown 0 (by omega)
   unfold World.cell? at hv
   cases hb:w.heap[b]? with
   |none=>simp only[hb]at hv;cases hv
   |some _=>exact(Array.getElem?_eq_some_iff.1 hb).1
  rw[zg hne]at he
  rw[pne hne]
  exact mB.of_same hle (le_refl _) (λ_ _ _=>⟨rfl,rfl⟩) (λ_ _ _=>rfl) (h.sat a e he)
 ·intro a c e e' he he' hac ho k p hf hf'
  by_cases ha:a=d
  ·subst ha
   rw[zh]at he
   obtain rfl:Ent.mem true sp ls=e:=by simpa using he
   have hc:c≠a:=λe=>hac e.symm
   rw[zg hc]at he'
   rw[pne hc]at hf'
   rw[pd]at hf
   obtain⟨f1,f2,f3⟩:=hf
   subst f1
   exact(hfree p f2 (by simpa using f3)).2.2 c e' he' hf'
  rw[zg ha]at he
  rw[pne ha]at hf
  by_cases hc:c=d
  ·subst hc
   rw[zh]at he'
   obtain rfl:Ent.mem true sp ls=e':=by simpa using he'
   rw[pd]at hf'
   obtain⟨f1,f2,f3⟩:=hf'
   subst f1
   exact(hfree p f2 (by simpa using f3)).2.2 a e he hf
  rw[zg hc]at he'
  rw[pne hc]at hf'
  exact h.sep a c e e' he he' hac ho k p hf hf'
 have hi:rE ρ k p:=hi
 rcases ownN k p ho with h1|⟨rfl,h2,h3⟩
 ·exact h.isep k p hi h1
 exact(hfree p h2 h3).2.1 hi
def sOf (ls:List (Nat×SV)):Nat:=
 match ls with
 |[(_,.arr _ es _)]=>es
 |_=>1
def ck (i n:Nat) (ls:List (Nat×SV)):Option SV:=
 match sOf ls with
 |1=>some (.isl i n 1 ls)
 |s=>match i with
  |0=>some (.isl 0 n s ls)
  |_=>none
theorem bU (h:ck i n ls=some v) (hi:ρ.immO b o ls) (hnc:n<=c) (hx:c≠0->x=some ⟨b,o+i,none⟩):cg ρ v (.slice x n c):=by
 unfold ck at h
 split at h
 ·simp only[zoI]at h;subst h
  exact⟨b,o,c,x,hi,hnc,rfl,λhc=>by rw[hx hc,mul_one]⟩
 split at h
 ·simp only[zoI]at h;subst h
  exact⟨b,o,c,x,hi,hnc,rfl,λhc=>by rw[hx hc,zero_mul]⟩
 cases h
def preL (ls:List (Nat×SV)) (k:Nat):Option (List (Nat×SV)):=
 match ls with
 |_::_::_=>match gy ls k with
  |some l0=>bif qY l0&& !isNil l0 then some l0 else none
  |none=>none
 |_=>none
 where
 isNil:List (Nat×SV)->Bool
  |[]=>true
  |_=>false
def aQP (ls:List (Nat×SV)) (f k:Nat):Option (List (Nat×SV)):=
 match f with
 |0=>preL ls k
 |f+1=>match dG ls (f+1)with
  |some r=>match gy r k with
   |some l0=>bif qY l0&& !preL.isNil l0 then some l0 else none
   |none=>none
  |none=>none
theorem iw (h:aQP ls f k=some l0):∃r,dG ls f=some r/\gy r k=some l0:=by
 unfold aQP at h
 split at h
 ·refine⟨ls,by simp only[dG],?_⟩
  unfold preL at h
  split at h
  ·split at h
   ·rename_i l1 hl
    have h:=(zn h).2
    simp only[zoI]at h
    rw[hl,h]
   cases h
  cases h
 split at h
 ·rename_i r hr
  split at h
  ·rename_i l1 hl
   have h:=(zn h).2
   simp only[zoI]at h
   exact⟨r,hr,by rw[hl,h]⟩
  cases h
 cases h
theorem zF.part (h:zF ρ M w) (hi:ρ.immO b o ls) (hd:dG ls f=some r) (ht:gy r k=some l0):
  ∃ρ',ρ.le ρ'/\zF ρ' M w/\aV ρ M ρ' M w w/\ρ'.immO b (o+f) l0/\ρ'.pos=ρ.pos:=by
 obtain⟨pre,rfl,hf⟩:=qP hd
 obtain⟨post,rfl⟩:=oc ht
 refine⟨ρ,Env.le_refl _,h,aV.refl _ _ _,?_,rfl⟩
 have:=hi.part (pre:=pre) (l0:=l0) (post:=post)
 rw[hf]at this
 exact this
def p8 (M:Mm) (a f i n:Nat):Option (SV×Mm):=
 match zG M a with
 |some (.mem true _ ls)=>bif qY ls then(match aQP ls f (i+n)with
   |some l0=>(match ck i n l0 with
    |some v=>some (v,(a,.mem false 1 ls)::M)
    |none=>none)
   |none=>match f with
    |0=>(match ck i n ls with
     |some v=>some (v,(a,.mem false 1 ls)::M)
     |none=>none)
    |_=>none)
  else none
 |some (.mem false (_+1) ls)=>(match aQP ls f (i+n)with
  |some l0=>(match ck i n l0 with
   |some v=>some (v,M)
   |none=>none)
  |none=>match f with
   |0=>(match ck i n ls with
    |some v=>some (v,M)
    |none=>none)
   |_=>none)
 |_=>none
def aB9 (M:Mm) (v:SV):Option (SV×Mm):=
 match v with
 | .sl a f i n _=>p8 M a f i n
 | .slx a f i n=>p8 M a f i n
 |v=>bif yQ v then some (v,M)else none
def aGR (M:Mm) (ls:List (Nat×SV)):Option (List (Nat×SV)×Mm):=
 match ls with
 |[]=>some ([],M)
 |(s,v)::r=>match aB9 M v with
  |some (v',M1)=>match aGR M1 r with
   |some (r',M2)=>some ((s,v')::r',M2)
   |none=>none
  |none=>none
theorem iz (hM:zF ρ M w) (h:p8 M a f i n=some (v,M')) (hnc:n<=c) (hx:c≠0->x=some (ρ.addr a f i)):
  ∃ρ',ρ.le ρ'/\zF ρ' M' w/\aV ρ M ρ' M' w w/\cg ρ' v (.slice x n c):=by
 unfold p8 at h
 have hxf:c≠0->x=some ⟨(ρ.pos a).1,(ρ.pos a).2+f+i,none⟩:=λhc=>by rw[hx hc,aN,add_assoc]
 split at h
 ·rename_i sp ls he
  have hb:=(zn h).1
  replace h:=(zn h).2
  obtain⟨k1,k2⟩:=hM.keep he hb
  split at h
  ·rename_i l0 hm
   split at h
   ·rename_i v' hv
    obtain⟨rfl,rfl⟩:=sB h
    obtain⟨r,m1,m2⟩:=iw hm
    obtain⟨ρ2,p1,p2,p3,p4,p5⟩:=k1.part (Env.immO.of (Or.inr ⟨rfl,rfl,rfl⟩)) m1 m2
    exact⟨ρ2,Env.le_trans (Env.le_addI _ _ _ _) p1,p2,k2.trans p3,bU hv p4 hnc hxf⟩
   cases h
  split at h
  ·have hx':c≠0->x=some ⟨(ρ.pos a).1,(ρ.pos a).2+i,none⟩:=λhc=>by rw[hx hc,aN,zero_add]
   split at h
   ·rename_i v' hv
    obtain⟨rfl,rfl⟩:=sB h
    exact⟨_,Env.le_addI _ _ _ _,k1,k2,bU hv (Env.immO.of (Or.inr ⟨rfl,rfl,rfl⟩)) hnc hx'⟩
   cases h
  cases h
 ·rename_i sp ls he
  obtain⟨_,_,k2,_⟩:=hM.sat a _ he
  have hi:=k2.2 rfl (Nat.succ_ne_zero _)
  split at h
  ·rename_i l0 hm
   split at h
   ·rename_i v' hv
    obtain⟨rfl,rfl⟩:=sB h
    obtain⟨r,m1,m2⟩:=iw hm
    obtain⟨ρ2,p1,p2,p3,p4,p5⟩:=hM.part hi m1 m2
    exact⟨ρ2,p1,p2,p3,bU hv p4 hnc hxf⟩
   cases h
  split at h
  ·have hx':c≠0->x=some ⟨(ρ.pos a).1,(ρ.pos a).2+i,none⟩:=λhc=>by rw[hx hc,aN,zero_add]
   split at h
   ·rename_i v' hv
    obtain⟨rfl,rfl⟩:=sB h
    exact⟨ρ,Env.le_refl _,hM,aV.refl _ _ _,bU hv hi hnc hx'⟩
   cases h
  cases h
 cases h
theorem p6 (hM:zF ρ M w) (h:aB9 M v=some (v',M')) (hc:zD ρ v cs):
  ∃ρ',ρ.le ρ'/\zF ρ' M' w/\aV ρ M ρ' M' w w/\zD ρ' v' cs:=by
 have mk:∀{a f i n c:Nat} {x:Option Addr} {v'},p8 M a f i n=some (v',M')->n<=c->(c≠0->x=some (ρ.addr a f i))->∃ρ',ρ.le ρ'/\zF ρ' M' w/\aV ρ M ρ' M' w w/\zD ρ' v' [.slice x n c]:=by
  intro a f i n c x v' h hnc hx
  obtain⟨ρ',k1,k2,k3,k4⟩:=iz hM h hnc hx
  refine⟨ρ',k1,k2,k3,?_⟩
  have h1:aq v'=false:=by
   cases v'<;>first|rfl|(exfalso;exact k4)
  have h2:cw v'=false:=by
   cases v'<;>first|rfl|(exfalso;exact k4)
  exact(bo h1 h2).2 ⟨_,k4,rfl⟩
 unfold aB9 at h
 split at h
 ·obtain⟨x,⟨_,hnc,y,rfl,hy⟩,rfl⟩:=hc
  exact mk h hnc hy
 ·obtain⟨x,⟨_,c,y,hnc,rfl,hy⟩,rfl⟩:=hc
  exact mk h hnc hy
 obtain⟨_,h⟩:=zn h
 obtain⟨rfl,rfl⟩:=sB h
 exact⟨ρ,Env.le_refl _,hM,aV.refl _ _ _,hc⟩
theorem p7:∀{ls ls':List (Nat×SV)} {M M':Mm},aGR M ls=some (ls',M')->∀{ρ:Env},zF ρ M w->∀{cs:List Value},zC ρ ls cs->
  ∃ρ',ρ.le ρ'/\zF ρ' M' w/\aV ρ M ρ' M' w w/\zC ρ' ls' cs
 |[],ls',M,M',h,ρ,hM,cs,hc=>by
  simp only[aGR,zoI,zpI]at h;obtain⟨rfl,rfl⟩:=h
  exact⟨ρ,Env.le_refl _,hM,aV.refl _ _ _,hc⟩
 | (s,v)::r,ls',M,M',h,ρ,hM,cs,hc=>by
  simp only[aGR]at h
  split at h
  ·rename_i v' M1 hv
   split at h
   ·rename_i r' M2 hr
    obtain⟨rfl,rfl⟩:=sB h
    obtain⟨c1,c2,rfl,h1,h2,h3⟩:=hc
    obtain⟨ρ1,k1,k2,k3,k4⟩:=p6 hM hv h2
    obtain⟨ρ2,l1,l2,l3,l4⟩:=p7 hr k2 (h3.le k1)
    exact⟨ρ2,Env.le_trans k1 l1,l2,k3.trans l3,c1,c2,rfl,h1,k4.le l1,l4⟩
   cases h
  cases h
def rz (zl:List (Nat×SV)):Option SV:=
 match zl with
 |[(_,v)]=>match v with
  | .u8 _=>some (.a8 [])
  | .u16 _=>some (.a16 [])
  | .u32 _=>some (.a32 [])
  | .u64 _=>some (.a64 [])
  | .i k _=>match k with
   | .i64=>some (.ai [])
   |_=>none
  |_=>none
 |_=>none
def aGS (u v:SV):Option SV:=
 match u,v with
 | .a8 l,.a8 m=>some (.a8 (l++m))
 | .a16 l,.a16 m=>some (.a16 (l++m))
 | .a32 l,.a32 m=>some (.a32 (l++m))
 | .a64 l,.a64 m=>some (.a64 (l++m))
 | .ai l,.ai m=>some (.ai (l++m))
 |_,_=>none
theorem iN (h:aGS u v=some z) (h1:zD ρ u c1) (h2:zD ρ v c2):zD ρ z (c1++c2):=by
 unfold aGS at h
 split at h<;>simp only[zoI,reduceCtorEq]at h<;>subst h<;>simp only[zD]at h1 h2⊢<;>rw[h1,h2,List.map_append]
def kR {α:Type} (i:Nat) (l:List α):List α:=
 match i with
 |0=>l
 |i=>l.drop i
theorem bq {α:Type} (i:Nat) (l:List α):kR i l=l.drop i:=by
 unfold kR;split <;>simp
def aO6 (u:SV) (i:Nat):SV:=
 match u with
 | .a8 l=>.a8 (kR i l)
 | .a16 l=>.a16 (kR i l)
 | .a32 l=>.a32 (kR i l)
 | .a64 l=>.a64 (kR i l)
 | .ai l=>.ai (kR i l)
 |u=>u
theorem og (hu:aq u=true) (h:zD ρ u c) (i:Nat):zD ρ (aO6 u i) (c.drop i):=by
 unfold aO6
 split <;>first
  |(simp only[zD]at h⊢;rw[h,bq,List.map_drop];done)
  |(exfalso;cases u<;>simp_all [aq];done)
def aM9 (cs:List (List (Nat×SV))):Nat->List (Nat×SV):=
 match cs with
 |[c]=>λ_=>c
 |cs=>λj=>cs.getD j []
def nk (es:Nat):Nat->List (Nat×SV)->Option (List (List (Nat×SV)))
 |_,[]=>some []
 |0,_::_=>none
 |fuel+1,a::r0=>match gy (a::r0) es with
  |some c=>match dG (a::r0) es with
   |some r=>bif yR c&&nh c&&blt 0 es then match nk es fuel r with
     |some cs=>some (c::cs)
     |none=>none
    else none
   |none=>none
  |none=>none
theorem fw:∀{fuel:Nat} {ls:List (Nat×SV)} {cks:List (List (Nat×SV))} {X:List Value},nk es fuel ls=some cks->zC ρ ls X->
  X.length=cks.length*es/\∀q,q<cks.length->bH ρ.bare (cks.getD q []) ((X.drop (q*es)).take es)
 |_,[],cks,X,h,hc=>by
  simp only[nk,zoI]at h;subst h
  have hcs:X=[]:=hc
  subst hcs
  exact⟨by simp,λq hq=>absurd hq (Nat.not_lt_zero _)⟩
 |0,_::_,_,_,h,_=>by simp[nk]at h
 |fuel+1,a::r0,cks,X,h,hc=>by
  simp only[nk]at h
  split at h
  ·rename_i c hcl
   split at h
   ·rename_i r hr
    have hb:=(zn h).1
    replace h:=(zn h).2
    simp only[zbA]at hb
    split at h
    ·rename_i cs' hcs'
     simp only[zoI]at h;subst h
     obtain⟨t1,t2⟩:=dK hc hcl
     obtain⟨d1,d2⟩:=dU hc hr
     obtain⟨i1,i2⟩:=fw hcs' d1
     rw[zlD]at i1
     refine⟨by rw[List.length_cons,add_mul];omega,λq hq=>?_⟩
     cases q with
     |zero=>
      rw[zero_mul,List.drop_zero]
      exact dW hb.1.1 t1
     |succ q=>
      have:=i2 q (by simpa using hq)
      rw[List.drop_drop,show es+q*es=(q+1)*es by rw[add_mul];omega]at this
      exact this
    cases h
   cases h
  cases h
theorem sY (cs:List (List (Nat×SV))) (h:q<cs.length):aM9 cs q=cs.getD q []:=by
 unfold aM9
 split
 ·have:q=0:=by simpa using h
  subst this;rfl
 rfl
def om (q:Nat) (F:Nat->List (Nat×SV)):Nat->List (Nat×SV):=λj=>F (fL q j)
theorem lq (q:Nat) (F:Nat->List (Nat×SV)) (j:Nat):om q F j=F (q+j):=by
 unfold om;rw[zQ]
def aWV (M:Mm) (e0:SV) (x:SV):Option (List Prop×Nat×SV):=
 match x with
 | .nsl=>some ([],0,e0)
 | .str l=>match e0 with
  | .a8 _=>some ([],l.length,.a8 l)
  |_=>none
 | .sl a f i n _=>match zG M a with
  |some (.mem _ _ ls)=>match aM7 ls f i n with
   |some (ps,v)=>some (ps,n,v)
   |none=>none
  |_=>none
 | .slx a f i n=>match zG M a with
  |some (.mem _ _ ls)=>match aM7 ls f i n with
   |some (ps,v)=>some (ps,n,v)
   |none=>none
  |_=>none
 | .isl q n s ls=>match s with
  |1=>match aM7 ls 0 q n with
   |some (ps,v)=>some (ps,n,v)
   |none=>none
  |_=>none
 |_=>none
def aE3 (es:Nat) (M:Mm) (i n:Nat) (ls:List (Nat×SV)):Option (List Prop×Nat×(Nat->List (Nat×SV))×Mm):=
 match ls with
 |[(_,.arr m es' F)]=>bif beq es es' then match es with
   |1=>some ([i+n<=m],n,om i F,M)
   |_=>some ([i%es=0,i/es+n<=m],n,om (i/es) F,M)
  else none
 |ls=>match aGR M ls with
  |some (ls',M')=>match nk es ls'.length ls' with
   |some cs=>some ([i=0,n=cs.length],n,aM9 cs,M')
   |none=>none
  |none=>none
def aD0 (ls:List (Nat×SV)):List (Nat×SV):=
 match ls with
 |[(t,.arr m es F),(0,.a8 [])]=>[(t,.arr m es F)]
 |ls=>ls
theorem uC (h:zC ρ ls cs):zC ρ (aD0 ls) cs:=by
 unfold aD0
 split
 ·obtain⟨c1,c2,rfl,h1,h2,c3,c4,rfl,h3,h4,h5⟩:=h
  have e3:c3=[]:=List.eq_nil_of_length_eq_zero h3
  have e4:c4=[]:=h5
  subst e3;subst e4
  exact⟨c1,[],rfl,h1,h2,rfl⟩
 exact h
def aE2 (es:Nat) (M:Mm) (i n:Nat) (ls:List (Nat×SV)):Option (List Prop×Nat×(Nat->List (Nat×SV))×Mm):=aE3 es M i n (aD0 ls)
def aSV (es:Nat) (M:Mm) (x:SV):Option (List Prop×Nat×(Nat->List (Nat×SV))×Mm):=
 match x with
 | .nsl=>some ([],0,λ_=>[],M)
 | .sl a f i n _=>match f with
  |0=>match zG M a with
   |some (.mem _ _ ls)=>aE2 es M i n ls
   |_=>none
  |_=>none
 | .slx a f i n=>match f with
  |0=>match zG M a with
   |some (.mem _ _ ls)=>aE2 es M i n ls
   |_=>none
  |_=>none
 | .isl q n s ls=>match ls with
  |[(_,.arr m es' F)]=>bif beq es es'&&beq s es then some ([q+n<=m],n,om q F,M)else none
  |ls=>match nk es ls.length ls with
   |some cs=>some ([q=0,n=cs.length],n,aM9 cs,M)
   |none=>none
 |_=>none
theorem zF.congr (he:∀a,zG M a=zG M' a) (h:zF ρ M w):zF ρ M' w where
 dom a ha:=by rw[<-he];exact h.dom a ha
 mod a e hm:=h.mod a e (by rw[he];exact hm)
 sat a e hm:=h.sat a e (by rw[he];exact hm)
 sep a b e e' ha hb:=h.sep a b e e' (by rw[he];exact ha) (by rw[he];exact hb)
 imm:=h.imm
 isep b o hi ho:=h.isep b o hi (by obtain⟨a,e,h1,h2⟩:=ho;exact⟨a,e,by rw[he];exact h1,h2⟩)
 gl:=h.gl
theorem eU.congr (he:∀a,zG M a=zG M' a) (h:eU ρ M b o):eU ρ M' b o:=by
 obtain⟨a,e,h1,h2⟩:=h
 exact⟨a,e,by rw[<-he];exact h1,h2⟩
theorem aV.congr (he:∀a,zG M' a=zG M'' a) (h:aV ρ M ρ' M' w w'):aV ρ M ρ' M'' w w':=
 ⟨h.size,h.os,h.output,h.blk,h.cell,λb o hb ho=>h.own b o hb (ho.congr λa=>(he a).symm),h.immo⟩
theorem zF.tell (h:zF ρ M w) (ha:zG M a=some (.mem true sp ls)) (hs:zL ls'=zL ls) (hc:zC ρ ls' cs') (hcell:∀j v,cs'[j]? =some v->w.cell? ⟨(ρ.pos a).1,(ρ.pos a).2+j,none⟩=some v):
  zF ρ ((a,.mem true sp ls')::M) w/\aV ρ M ρ ((a,.mem true sp ls')::M) w w:=by
 obtain⟨cs,c1,c2,c3,c4⟩:=h.sat a _ ha
 have hlen:cs.length=zL ls:=c1.length
 have:=h.write (sp':=sp) ha (q:=0) (nc:=[]) ⟨rfl,rfl,rfl,λ_ _=>rfl,λ_ _=>rfl,λj v h=>by simp at h,λ_ _ _=>rfl,λ_ _=>rfl⟩ (by simp) hc (by rw[hs]) (λcs0 d1 d2 j v hj=>hcell j v hj)
 exact this
theorem zF.drop (h:zF ρ M w) (ha:zG M a=some (.mem false sp ls)):zF ρ ((a,.dead)::M) w/\aV ρ M ρ ((a,.dead)::M) w w:=by
 have old:∀{b e},zG ((a,.dead)::M) b=some e->e≠ .dead->zG M b=some e:=by
  intro b e he hne
  by_cases hb:b=a
  ·subst hb
   rw[zh]at he
   simp only[zoI]at he
   exact absurd he.symm hne
  rwa [zg hb]at he
 have ownN:∀k p,eU ρ ((a,.dead)::M) k p->eU ρ M k p:=by
  rintro k p ⟨c,e,he,hown,hf⟩
  exact⟨c,e,old he (by rintro rfl;cases hown),hown,hf⟩
 refine⟨⟨λb hb=>?_,λb e he=>?_,λb e he=>?_,λb c e e' he he' hbc ho k o hf hf'=>?_,h.imm,λb o hi ho=>h.isep b o hi (ownN b o ho),h.gl⟩,⟨le_refl _,rfl,rfl,λ_ _ _=>rfl,λ_ _ _ _=>⟨rfl,rfl⟩,λk p _ ho=>ownN k p ho,λ_ _ _ h=>Or.inl h⟩⟩
 ·by_cases hne:b=a
  ·subst hne;exact⟨_,zh _ _ _⟩
  rw[zg hne];exact h.dom b hb
 ·by_cases hne:b=a
  ·subst hne;exact h.mod _ _ ha
  rw[zg hne]at he;exact h.mod b e he
 ·by_cases hd:e= .dead
  ·subst hd;trivial
  exact h.sat b e (old he hd)
 have h1:e≠ .dead:=by rintro rfl;cases ho
 have h2:e'≠ .dead:=by rintro rfl;exact hf'
 exact h.sep b c e e' (old he h1) (old he' h2) hbc ho k o hf hf'
end Go.Sx
