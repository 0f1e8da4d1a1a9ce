/- A symbolic executor over the code of this model: part 4. No condition. -/
import Derived.Test.YtimbdhpchlakfaaHx3
import Derived.Laws.Append
import Derived.Laws.AppendOwn
import Derived.Laws.MakeOwn
import Derived.Great.BuildSlice
import Derived.Lib.ConvBytes
set_option linter.unusedSimpArgs false
set_option linter.unusedVariables false
namespace Go.Sx
open Go
def AllP:List Prop→Prop
 | []=>True
 | [p]=>p
 | p :: q :: r=>p∧AllP (q :: r)
theorem AllP_iff:∀ {ps:List Prop},AllP ps→All ps
 | [],_=>All.nil
 | [p],h=>fun q hq=>by rw [List.mem_singleton.1 hq];exact h
 | p :: q :: r,h=>fun x hx=>by
  rcases List.mem_cons.1 hx with rfl | hx
  ·exact h.1
  ·exact AllP_iff h.2 x hx
def segAt (v:SV) (s off j n:Nat):Option (List Prop × SV):=
 match v with
 | .a8 l=>match off with
  | 0=>some ([j + n ≤ s],.a8 ((l.drop j).take n))
  | o=>some ([j + o + n ≤ s],.a8 ((l.drop (j + o)).take n))
 | .a16 l=>match off with
  | 0=>some ([j + n ≤ s],.a16 ((l.drop j).take n))
  | o=>some ([j + o + n ≤ s],.a16 ((l.drop (j + o)).take n))
 | .a32 l=>match off with
  | 0=>some ([j + n ≤ s],.a32 ((l.drop j).take n))
  | o=>some ([j + o + n ≤ s],.a32 ((l.drop (j + o)).take n))
 | .a64 l=>match off with
  | 0=>some ([j + n ≤ s],.a64 ((l.drop j).take n))
  | o=>some ([j + o + n ≤ s],.a64 ((l.drop (j + o)).take n))
 | .ai l=>match off with
  | 0=>some ([j + n ≤ s],.ai ((l.drop j).take n))
  | o=>some ([j + o + n ≤ s],.ai ((l.drop (j + o)).take n))
 | .arr m es F=>match es with
  | 1=>match off with
   | 0=>some ([j + n ≤ m],.arr n 1 (fun q=>F (addQ j q)))
   | _=>none
  | _=>none
 | _=>none
theorem segAt_sound {ρ:Env} {v:SV} {c:List Value} (hc:Cells1 ρ v c) {s:Nat} (hs:c.length = s) {off j n:Nat} {ps:List Prop} {z:SV} (h:segAt v s off j n = some (ps,z)) (hp:All ps) :
  off + j + n ≤ s∧Cells1 ρ z ((c.drop (off + j)).take n):=by
 unfold segAt at h
 split at h
 case h_7=>cases h
 case h_6=>
  rename_i m es F
  split at h
  ·split at h
   ·obtain ⟨r1,r2⟩:=hc
    have key:∀ {G:Nat→List (Nat × SV)},j + n ≤ m→(∀ q,G q = F (j + q))→0 + j + n ≤ s∧Cells1 ρ (.arr n 1 G) ((c.drop (0 + j)).take n):=by
     intro G hjn hG
     refine ⟨by omega,by simp;omega,fun q hq=>?_⟩
     have:=r2 (j + q) (by omega)
     rw [hG,Nat.zero_add,List.drop_take,List.take_take,List.drop_drop]
     rw [show (j + q) * 1 = j + q * 1 by omega] at this
     rw [Nat.min_eq_left (by omega)]
     exact this
    simp only [Option.some.injEq,Prod.mk.injEq] at h;obtain ⟨rfl,rfl⟩:=h
    exact key hp.head (fun q=>by rw [addQ_eq])
   ·cases h
  ·cases h
 all_goals
  rename_i l
  have hc':c = l.map _:=hc
  subst hc'
  rw [List.length_map] at hs
  split at h <;> simp only [Option.some.injEq,Prod.mk.injEq] at h <;> obtain ⟨rfl,rfl⟩:=h
  ·have:=hp.head
   refine ⟨by omega,?_⟩
   rw [map_seg,Nat.zero_add];rfl
  ·have:=hp.head
   refine ⟨by omega,?_⟩
   rw [map_seg,Nat.add_comm];rfl
def segL (ls:List (Nat × SV)) (f j n:Nat):Option (List Prop × SV):=
 match ls with
 | []=>none
 | (s,v) :: r=>match f with
  | 0=>segAt v s 0 j n
  | f + 1=>bif Nat.blt (f + 1) s then segAt v s (f + 1) j n else segL r (f + 1 - s) j n
theorem segL_sound {ρ:Env}:∀ {ls:List (Nat × SV)} {cs:List Value} (_:CellsL ρ ls cs) {f j n:Nat} {ps:List Prop} {z:SV},segL ls f j n = some (ps,z)→All ps →
  f + j + n ≤ cs.length∧Cells1 ρ z ((cs.drop (f + j)).take n)
 | [],_,_,_,_,_,_,_,h,_=>by simp [segL] at h
 | (s,v) :: r,cs,hc,f,j,n,ps,z,h,hp=>by
  obtain ⟨c1,c2,rfl,h1,h2,h3⟩:=hc
  have leaf:∀ {off:Nat},segAt v s off j n = some (ps,z)→off + j + n ≤ (c1 ++ c2).length∧Cells1 ρ z (((c1 ++ c2).drop (off + j)).take n):=by
   intro off h
   obtain ⟨q1,q2⟩:=segAt_sound h2 h1 h hp
   refine ⟨by simp;omega,?_⟩
   rw [List.drop_append_of_le_length (by omega),List.take_append_of_le_length (by simp;omega)]
   exact q2
  unfold segL at h
  split at h
  ·exact leaf h
  ·rename_i g
   rcases bif_some h with ⟨_,h⟩ | ⟨hb,h⟩
   ·exact leaf h
   ·have hge:s ≤ g + 1:=by
     rcases Nat.lt_or_ge (g + 1) s with hl | hl
     ·have:Nat.blt (g + 1) s = true:=by simpa [Nat.blt_eq] using hl
      rw [this] at hb;cases hb
     ·exact hl
    obtain ⟨q1,q2⟩:=segL_sound h3 h hp
    refine ⟨by simp;omega,?_⟩
    rw [List.drop_append,List.drop_of_length_le (l:=c1) (by omega),List.nil_append,h1,show g + 1 + j - s = g + 1 - s + j by omega]
    exact q2
def isWhole (ls0 ls:List (Nat × SV)) (g:Nat):Bool:=Nat.beq ls0.length ls.length && Nat.beq g 0
def mpSame (m0 m:MpV):List Prop:=
 match m0 with
 | .si l0=>match m with
  | .si l=>[l0 = l]
theorem mpSame_is {m0 m:MpV} (h:All (mpSame m0 m)) {es:List MapEntry} (k:m.Is es):m0.Is es:=by
 cases m0;cases m
 rw [show _ = _ from h.head];exact k
def viewE (μ:Nm) (M:Mm) (b g:Nat) (j:Option Nat) (e0:Ent):Option (List Prop):=
  match e0 with
  | .dead=>match getM M b with
    | some _=>some []
    | none=>none
  | .mem own0 sp0 ls0=>match getM M b with
    | some (.mem own sp ls)=>match own0 with
      | true=>match own with
        | true=>match j with
          | none=>bif isWhole ls0 ls g then match runSame μ ls0 ls with
              | some ps=>some ((sp0 = sp) :: ps)
              | none=>none
            else bif Nat.beq sp0 0 then match dropL ls g with
              | some r=>runSame μ ls0 r
              | none=>none
              else none
          | some _=>none
        | false=>none
      | false=>match sp0 with
       | _ + 1=>match own with
        | true=>none
        | false=>match sp with
          | 0=>none
          | _ + 1=>match j with
            | some _=>none
            | none=>match g with
              | 0=>some [ls0 = ls]
              | _=>none
       | 0=>match j with
        | none=>match dropL ls g with
          | some r=>runSame μ ls0 r
          | none=>none
        | some j=>match ls0 with
          | [(n0,v0)]=>match segL ls g j n0 with
            | some (ps,v)=>match sameC (renS μ v0) v with
              | some qs=>some (ps ++ qs)
              | none=>none
            | none=>none
          | _=>none
    | _=>none
  | .map m0=>match getM M b with
    | some (.map m)=>some (mpSame m0 m)
    | _=>none
def viewsM (μ:Nm) (M:Mm) (M0:Mm):Option (List Prop):=
 match M0 with
 | []=>some []
 | (k,e0) :: r=>match look μ k with
  | some (b,g,j)=>match viewE μ M b g j e0 with
   | some ps=>match viewsM μ M r with
    | some qs=>some (ps ++ qs)
    | none=>none
   | none=>none
  | none=>none
def isPar (M0:Mm) (k:Nat):Bool:=(getM M0 k).isSome
def ownPar (M0:Mm) (k:Nat):Bool:=
 match getM M0 k with
 | some e=>e.isOwn
 | none=>false
def livePar (M0:Mm) (k:Nat):Bool:=
 match getM M0 k with
 | some e=>e.live
 | none=>false
def sepOK (μ:Nm) (M0:Mm):Bool:=
  M0.all fun x=>!ownPar M0 x.1 || M0.all fun y=>Nat.beq x.1 y.1 || !livePar M0 y.1 ||
    (match look μ x.1,look μ y.1 with
     | some (b,_),some (c,_)=>!Nat.beq b c
     | _,_=>false)
def viewEnv (μ:Nm) (M0:Mm) (ρ:Env):Env where
 dom a:=(getM M0 a).isSome = true
 pos a:=match look μ a with
  | some (b,g,j)=>((ρ.pos b).1,(ρ.pos b).2 + (g + j.getD 0))
  | none=>(0,0)
 imm:=ρ.imm
theorem getM_mem:∀ {M:Mm} {a:Nat} {e:Ent},getM M a = some e→(a,e) ∈ M
 | [],_,_,h=>by simp [getM] at h
 | (b,e') :: r,a,e,h=>by
  by_cases hab:a = b
  ·subst hab
   rw [getM_cons_self] at h
   simp only [Option.some.injEq] at h;subst h;simp
  ·rw [getM_cons_ne hab] at h
   exact List.mem_cons_of_mem _ (getM_mem h)
theorem viewsM_get {μ:Nm} {M:Mm}:∀ {M0:Mm} {ps:List Prop},viewsM μ M M0 = some ps→All ps→∀ {a:Nat} {e:Ent},(a,e) ∈ M0 →
  ∃ b g j qs,look μ a = some (b,g,j)∧viewE μ M b g j e = some qs∧All qs
 | [],_,_,_,_,_,h=>by simp at h
 | (k,e0) :: r,ps,h,hp,a,e,hm=>by
  simp only [viewsM] at h
  split at h
  ·rename_i b g j hl
   split at h
   ·rename_i qs hq
    split at h
    ·rename_i rs hrs
     simp only [Option.some.injEq] at h;subst h
     rcases List.mem_cons.1 hm with heq | hm
     ·simp only [Prod.mk.injEq] at heq
      obtain ⟨rfl,rfl⟩:=heq
      exact ⟨b,g,j,qs,hl,hq,hp.left⟩
     ·exact viewsM_get hrs hp.right hm
    ·cases h
   ·cases h
  ·cases h
theorem viewE_some {μ:Nm} {M:Mm} {b g:Nat} {j:Option Nat} {e0:Ent} {ps:List Prop} (h:viewE μ M b g j e0 = some ps):∃ e,getM M b = some e∧(e0.live = true→e.live = true)∧(e0.isOwn = true→e.isOwn = true):=by
 unfold viewE at h
 split at h
 ·split at h
  ·rename_i e he;exact ⟨e,he,by simp [Ent.live],by simp [Ent.isOwn]⟩
  ·cases h
 ·split at h
  ·rename_i own sp ls he
   refine ⟨_,he,fun _=>rfl,?_⟩
   split at h
   ·split at h
    ·exact fun _=>rfl
    ·cases h
   ·intro hh;simp [Ent.isOwn] at hh
  ·cases h
 ·split at h
  ·rename_i m he
   exact ⟨_,he,fun _=>rfl,fun _=>rfl⟩
  ·cases h
theorem viewE_sound {μ:Nm} {ρ0 ρ:Env} (hb:Back μ ρ0 ρ) {M:Mm} {w:World} (hM:ConcM ρ M w) {b g:Nat} {j:Option Nat} {e0:Ent} {ps:List Prop} (h:viewE μ M b g j e0 = some ps) (hp:All ps)
  {pos:Nat × Nat} (hpos:pos = ((ρ.pos b).1,(ρ.pos b).2 + (g + j.getD 0))) :
  SatE ρ0 w pos e0∧∀ e,getM M b = some e→∀ k o,foot pos e0 k o→foot (ρ.pos b) e k o:=by
 unfold viewE at h
 split at h
 ·exact ⟨trivial,fun _ _ _ _ hf=>hf.elim⟩
 ·rename_i own0 sp0 ls0
  split at h
  ·rename_i own sp ls he
   obtain ⟨cs,c1,c2,c3,c4⟩:=hM.sat b _ he
   have hlen:=c1.length
   have run:∀ {r:List (Nat × SV)} {qs:List Prop},j = none→dropL ls g = some r→runSame μ ls0 r = some qs→All qs→sp0 = 0→(own0 = true→own = true) →
     SatE ρ0 w pos (.mem own0 sp0 ls0)∧∀ e,getM M b = some e→∀ k o,foot pos (.mem own0 sp0 ls0) k o→foot (ρ.pos b) e k o:=by
    intro r qs hj hd hr hq hs0 ho
    subst hs0
    subst hj
    simp only [Option.getD_none,Nat.add_zero] at hpos
    obtain ⟨d1,d2⟩:=dropL_sound c1 hd
    obtain ⟨r1,r2⟩:=runSame_sound hb hr hq d1
    rw [List.length_drop] at r2
    have hsz:sizeL ls0 + (if own0 = true then 0 else 0) ≠ 0→sizeL ls + (if own = true then sp else 0) ≠ 0:=by
     intro hn
     have:(if own0 = true then 0 else 0) = 0:=by split <;> rfl
     omega
    refine ⟨⟨_,r1,by rw [hpos];exact ⟨fun hn=>c2.1 (hsz hn),fun _ hh=>absurd rfl hh⟩,fun i v hi=>?_,fun hown i hi=>?_⟩,fun e he' k o hf=>?_⟩
    ·rw [List.getElem?_take] at hi
     split at hi
     ·rw [List.getElem?_drop] at hi
      rw [hpos,Nat.add_assoc];exact c3 _ _ hi
     ·cases hi
    ·have o1:=ho hown
     subst o1
     rw [hpos,Nat.add_assoc]
     exact c4 rfl (g + i) (by omega)
    ·rw [he] at he'
     obtain rfl:Ent.mem own sp ls = e:=by simpa using he'
     rw [hpos] at hf
     obtain ⟨f1,f2,f3⟩:=hf
     simp only at f1 f2 f3
     refine ⟨f1,by omega,?_⟩
     have:(if own0 = true then 0 else 0) = 0:=by split <;> rfl
     omega
   split at h
   ·split at h
    ·split at h
     ·rcases bif_some h with ⟨hw,h⟩ | ⟨_,h⟩
      ·split at h
       ·rename_i qs hq
        simp only [Option.some.injEq] at h;subst h
        simp only [isWhole,Bool.and_eq_true] at hw
        have hg:=beq_eq' hw.2
        subst hg
        have hsp:=hp.head
        subst hsp
        obtain ⟨r1,r2⟩:=runSame_sound hb hq hp.tail c1
        have hsz:=runSame_size hq hp.tail (beq_eq' hw.1)
        simp only [Option.getD_none,Nat.add_zero] at hpos
        refine ⟨⟨_,r1,by rw [hpos];rw [hsz];exact ⟨c2.1,fun hh=>by cases hh⟩,fun i v hi=>?_,fun _ i hi=>?_⟩,fun e he' k o hf=>?_⟩
        ·rw [List.getElem?_take] at hi
         split at hi
         ·rw [hpos];exact c3 _ _ hi
         ·cases hi
        ·rw [hpos];exact c4 rfl i (by omega)
        ·rw [he] at he'
         obtain rfl:Ent.mem true _ ls = e:=by simpa using he'
         rw [hpos] at hf
         obtain ⟨f1,f2,f3⟩:=hf
         simp only [if_true] at f1 f2 f3
         exact ⟨f1,f2,by simp only [if_true];omega⟩
       ·cases h
      ·obtain ⟨hs,h⟩:=bif_none h
       split at h
       ·rename_i r hr
        exact run rfl hr h hp (beq_eq' hs) (fun _=>rfl)
       ·cases h
     ·cases h
    ·cases h
   ·split at h
    ·rename_i sp0'
     split at h
     ·cases h
     ·split at h
      ·cases h
      ·split at h
       ·cases h
       ·split at h
        ·simp only [Option.some.injEq] at h;subst h
         have e:=hp.head
         subst e
         simp only [Option.getD_none,Nat.add_zero] at hpos
         have hi:=c2.2 rfl (Nat.succ_ne_zero _)
         obtain ⟨k0,cs',k1,k3⟩:=hM.immO hi
         refine ⟨⟨cs',k1.le (Env.bare_any hb.im),⟨fun hn=>by rw [hpos];exact k0 (by simpa using hn),fun _ _=>by rw [hpos];exact hi.mono hb.im⟩,fun i v hv=>by rw [hpos];exact k3 i v hv,fun hh=>by cases hh⟩,fun e he' k o hf=>?_⟩
         rw [he] at he'
         simp only [Option.some.injEq] at he'
         subst he'
         rw [hpos] at hf
         exact hf
        ·cases h
    ·split at h
     ·split at h
      ·rename_i r hr
       exact run rfl hr h hp rfl (fun hh=>by cases hh)
      ·cases h
     ·rename_i j'
      split at h
      ·rename_i n0 v0
       split at h
       ·rename_i qs v hs
        split at h
        ·rename_i rs hrs
         simp only [Option.some.injEq] at h;subst h
         obtain ⟨s1,s2⟩:=segL_sound c1 hs hp.left
         simp only [Option.getD_some] at hpos
         have hcell:=renS_back_cells hb (sameC_cells hrs hp.right s2)
         have hn:((cs.drop (g + j')).take n0).length = n0:=by rw [List.length_take,List.length_drop];omega
         refine ⟨⟨(cs.drop (g + j')).take n0,⟨(cs.drop (g + j')).take n0,[],(List.append_nil _).symm,hn,hcell,rfl⟩,by rw [hpos];exact ⟨fun hz=>c2.1 (by simp only [sizeL,Bool.false_eq_true,if_false] at hz;omega),fun _ hh=>absurd rfl hh⟩,fun i v hi=>?_,fun hh=>by cases hh⟩,fun e he' k o hf=>?_⟩
         ·rw [List.getElem?_take] at hi
          split at hi
          ·rw [List.getElem?_drop] at hi
           rw [hpos,Nat.add_assoc];exact c3 _ _ hi
          ·cases hi
         ·rw [he] at he'
          obtain rfl:Ent.mem own sp ls = e:=by simpa using he'
          rw [hpos] at hf
          obtain ⟨f1,f2,f3⟩:=hf
          simp only [sizeL,Bool.false_eq_true,if_false] at f1 f2 f3
          exact ⟨f1,by omega,by omega⟩
        ·cases h
       ·cases h
      ·cases h
  ·cases h
 ·rename_i m0
  split at h
  ·rename_i m he
   simp only [Option.some.injEq] at h;subst h
   obtain ⟨es,clock,h1,h2⟩:=hM.sat b _ he
   refine ⟨⟨es,clock,by rw [hpos];exact h1,mpSame_is hp h2⟩,fun e he' k o hf=>?_⟩
   rw [he] at he'
   obtain rfl:Ent.map m = e:=by simpa using he'
   rw [hpos] at hf
   exact hf
  ·cases h
theorem sepOK_get {μ:Nm} {M0:Mm} (h:sepOK μ M0 = true) {a b:Nat} {e e':Ent} (ha:getM M0 a = some e) (hb:getM M0 b = some e') (hab:a ≠ b) (ho:e.isOwn = true) (hl:e'.live = true)
  {x y:Nat} {p q:Nat × Option Nat} (hx:look μ a = some (x,p)) (hy:look μ b = some (y,q)):x ≠ y:=by
 have h1:=List.all_eq_true.1 h _ (getM_mem ha)
 simp only [ownPar,ha,ho,Bool.not_true,Bool.false_or] at h1
 have h2:=List.all_eq_true.1 h1 _ (getM_mem hb)
 have hne:Nat.beq a b = false:=by
  cases hc:Nat.beq a b with
  | false=>rfl
  | true=>exact absurd (beq_eq' hc) hab
 simp only [hne,livePar,hb,hl,Bool.not_true,Bool.false_or,hx,hy,Bool.not_eq_true'] at h2
 intro e
 subst e
 rw [show Nat.beq x x = true from Nat.beq_refl x] at h2
 cases h2
theorem view_conc {μ:Nm} {ρ:Env} {M M0:Mm} {w:World} (hM:ConcM ρ M w) {ps:List Prop} (h:viewsM μ M M0 = some ps) (hp:All ps) (hs:sepOK μ M0 = true)
  (hb:Back μ (viewEnv μ M0 ρ) ρ) :
  ConcM (viewEnv μ M0 ρ) M0 w∧(∀ k o,Owns (viewEnv μ M0 ρ) M0 k o→Owns ρ M k o) ∧
  (∀ k o,Owns (viewEnv μ M0 ρ) M0 k o→∃ a b p e0 e,getM M0 a = some e0∧e0.isOwn = true∧look μ a = some (b,p)∧getM M b = some e∧e.isOwn = true∧foot (ρ.pos b) e k o∧foot ((viewEnv μ M0 ρ).pos a) e0 k o):=by
 have hpos:∀ {a b g:Nat} {j:Option Nat},look μ a = some (b,g,j)→(viewEnv μ M0 ρ).pos a = ((ρ.pos b).1,(ρ.pos b).2 + (g + j.getD 0)):=by
  intro a b g j hl;simp only [viewEnv,hl]
 have key:∀ {a:Nat} {e0:Ent},getM M0 a = some e0→∃ b g j e,look μ a = some (b,g,j)∧getM M b = some e∧(e0.live = true→e.live = true)∧(e0.isOwn = true→e.isOwn = true) ∧
   SatE (viewEnv μ M0 ρ) w ((viewEnv μ M0 ρ).pos a) e0∧∀ k o,foot ((viewEnv μ M0 ρ).pos a) e0 k o→foot (ρ.pos b) e k o:=by
  intro a e0 ha
  obtain ⟨b,g,j,qs,hl,hv,hq⟩:=viewsM_get h hp (getM_mem ha)
  obtain ⟨e,he,h1,h2⟩:=viewE_some hv
  obtain ⟨h3,h4⟩:=viewE_sound hb hM hv hq (hpos hl)
  exact ⟨b,g,j,e,hl,he,h1,h2,h3,h4 e he⟩
 have own3:∀ k o,Owns (viewEnv μ M0 ρ) M0 k o→∃ a b p e0 e,getM M0 a = some e0∧e0.isOwn = true∧look μ a = some (b,p)∧getM M b = some e∧e.isOwn = true∧foot (ρ.pos b) e k o∧foot ((viewEnv μ M0 ρ).pos a) e0 k o:=by
  rintro k o ⟨a,e0,ha,ho,hf⟩
  obtain ⟨b,g,j,e,hl,he,_,h2,_,h4⟩:=key ha
  exact ⟨a,b,(g,j),e0,e,ha,ho,hl,he,h2 ho,h4 k o hf,hf⟩
 have own1:∀ k o,Owns (viewEnv μ M0 ρ) M0 k o→Owns ρ M k o:=by
  intro k o ho
  obtain ⟨_,b,_,_,e,_,_,_,he,h2,hf,_⟩:=own3 k o ho
  exact ⟨b,e,he,h2,hf⟩
 refine ⟨⟨fun a ha=>?_,fun a e he=>by simp [viewEnv,he],fun a e he=>?_,fun a b e e' he he' hab ho k o hf hf'=>?_,hM.imm,fun b o hi ho=>hM.isep b o hi (own1 b o ho)⟩,own1,own3⟩
 ·obtain ⟨e,he⟩:=Option.isSome_iff_exists.1 (show (getM M0 a).isSome = true from ha)
  exact ⟨e,he⟩
 ·obtain ⟨_,_,_,_,_,_,_,_,h3,_⟩:=key he
  exact h3
 ·obtain ⟨x,g,j,f,hl,hx,_,h2,_,h4⟩:=key he
  obtain ⟨y,g',j',f',hl',hy,_,_,_,h4'⟩:=key he'
  have hlive:e'.live = true:=by cases e' <;> first | rfl | exact hf'.elim
  have hne:=sepOK_get hs he he' hab ho hlive hl hl'
  exact hM.sep x y f f' hx hy hne (h2 ho) k o (h4 k o hf) (h4' k o hf')
end Go.Sx
namespace Go.Sx
open Go
def Fn (P:Program) (f:FuncId) (args:List SV) (M0:Mm) (R:SV→Mm→Prop):Prop:=
 ∀ (ρ:Env) (xs:List Value) (w:World),ConcM ρ M0 w→RelL ρ args xs →
  Calls P f xs.toArray w fun e w'=>∃ v x ρ' M',e = .returned x∧RelT ρ' v x∧R v M'∧ρ.le ρ'∧ConcM ρ' M' w'∧Step ρ M0 ρ' M' w w'
def sameA (μ:Nm) (v0 v:SV):Option (List Prop):=
 match v0 with
 | .und=>some []
 | .agg ls0=>match v with
  | .agg ls=>bif Nat.beq ls0.length ls.length then runSame μ ls0 ls else none
  | _=>none
 | .tup _=>none
 | v0=>same (renS μ v0) v
theorem sameA_sound {μ:Nm} {ρ0 ρ:Env} (hb:Back μ ρ0 ρ) {v0 v:SV} {ps:List Prop} (h:sameA μ v0 v = some ps) (hp:All ps) {x:Value} (hr:RelT ρ v x):Rel ρ0 v0 x:=by
 unfold sameA at h
 split at h
 ·trivial
 ·split at h
  ·rename_i ls0 ls
   obtain ⟨hl,h⟩:=bif_none h
   obtain ⟨cs,hc,e⟩:=hr
   obtain ⟨r1,r2⟩:=runSame_sound hb h hp hc
   have hsz:=runSame_size h hp (beq_eq' hl)
   rw [hsz,← hc.length,List.take_length] at r1
   exact ⟨cs,r1,e⟩
  ·cases h
 ·cases h
 ·rename_i h1 h2 h3
  cases hv:isArr v with
  | true=>
   have e:=same_eq_arr h hp hv
   have ha:isArr v0 = true:=by
    cases hq:isArr v0 with
    | true=>rfl
    | false=>
     have:=renS_notArr (μ:=μ) hq
     rw [e,hv] at this;cases this
   rw [renS_arr ha] at e
   rw [e]
   cases v <;> first | exact hr | cases hv
  | false=>
   have hu:=same_arr h
   rw [hv] at hu
   have hrs:RelS ρ v x:=by
    cases v <;> first
     | exact hr
     | (cases hv;done)
     | (exfalso;revert h;unfold same;split <;> simp;done)
   have:=renS_back hb (same_sound h hp hrs)
   exact RelS_Rel this
def argsSame (μ:Nm) (l0 l:List SV):Option (List Prop):=
 match l0 with
 | []=>match l with
  | []=>some []
  | _=>none
 | v0 :: r0=>match l with
  | []=>none
  | v :: r=>match sameA μ v0 v with
   | some ps=>match argsSame μ r0 r with
    | some qs=>some (ps ++ qs)
    | none=>none
   | none=>none
def RelTL (ρ:Env):List SV→List Value→Prop
 | [],xs=>xs = []
 | v :: r,xs=>∃ x ys,xs = x :: ys∧RelT ρ v x∧RelTL ρ r ys
theorem argsSame_sound {μ:Nm} {ρ0 ρ:Env} (hb:Back μ ρ0 ρ):∀ {l0 l:List SV} {ps:List Prop} {xs:List Value},argsSame μ l0 l = some ps→All ps→RelTL ρ l xs→RelL ρ0 l0 xs
 | [],l,ps,xs,h,_,hr=>by
  unfold argsSame at h
  split at h
  ·exact hr
  ·cases h
 | v0 :: r0,l,ps,xs,h,hp,hr=>by
  unfold argsSame at h
  split at h
  ·cases h
  ·split at h
   ·rename_i qs hq
    split at h
    ·rename_i rs hrs
     simp only [Option.some.injEq] at h;subst h
     obtain ⟨x,ys,e,h1,h2⟩:=hr
     exact ⟨x,ys,e,sameA_sound hb hq hp.left h1,argsSame_sound hb hrs hp.right h2⟩
    ·cases h
   ·cases h
def act (M0:Mm) (k:Nat):Bool:=!isPar M0 k || ownPar M0 k
def newEnt (μ:Nm) (M M0 M':Mm) (k b g:Nat):Ent:=
 match getM M' k with
 | some (.mem true sp' ls')=>match renL μ ls' with
  | some l=>match getM M0 k with
   | none=>.mem true sp' l
   | some (.mem _ _ ls0)=>match getM M b with
    | some (.mem _ sp ls)=>bif isWhole ls0 ls g then .mem true sp' l
      else bif Nat.beq sp' 0 && Nat.beq (sizeL l) (sizeL ls0) then match putL ls g l with
       | some q=>.mem true sp q
       | none=>.dead
       else .dead
    | _=>.dead
   | _=>.dead
  | none=>.dead
 | some (.map m)=>match getM M0 k with
  | none=>.map m
  | some (.map _)=>match getM M b with
   | some (.map _)=>.map m
   | _=>.dead
  | _=>.dead
 | _=>.dead
def afterM (μ:Nm) (M M0 M':Mm):Nm→Mm
 | []=>M
 | (k,(b,g,_)) :: r=>bif act M0 k then (b,newEnt μ M M0 M' k b g) :: afterM μ M M0 M' r else afterM μ M M0 M' r
def memB (a:Nat):List Nat→Bool
 | []=>false
 | b :: r=>Nat.beq a b || memB a r
def nodupB:List Nat→Bool
 | []=>true
 | a :: r=>!memB a r && nodupB r
def actTargets (M0:Mm):Nm→List Nat
 | []=>[]
 | (k,(b,_)) :: r=>bif act M0 k then b :: actTargets M0 r else actTargets M0 r
def keysN:Nm→List Nat
 | []=>[]
 | (k,_) :: r=>k :: keysN r
def freshOK (M M0:Mm):Nm→Bool
 | []=>true
 | (k,(b,g,j)) :: r=>(bif isPar M0 k then (getM M b).isSome else (getM M b).isNone && Nat.beq g 0 && j.isNone) && freshOK M M0 r
def namesOK (μ:Nm) (M M0:Mm):Bool:=nodupB (keysN μ) && nodupB (actTargets M0 μ) && freshOK M M0 μ && sepOK μ M0
theorem memB_iff {a:Nat}:∀ {l:List Nat},memB a l = true ↔ a ∈ l
 | []=>by simp [memB]
 | b :: r=>by
  simp only [memB,Bool.or_eq_true,List.mem_cons,memB_iff (l:=r)]
  constructor
  ·rintro (h | h)
   ·exact Or.inl (beq_eq' h)
   ·exact Or.inr h
  ·rintro (rfl | h)
   ·exact Or.inl (Nat.beq_refl _)
   ·exact Or.inr h
theorem look_mem:∀ {μ:Nm} {k:Nat} {x:Nat × Nat × Option Nat},look μ k = some x→(k,x) ∈ μ
 | [],_,_,h=>by simp [look] at h
 | (b,r) :: q,k,x,h=>by
  simp only [look] at h
  rcases bif_some h with ⟨hb,h⟩ | ⟨_,h⟩
  ·simp only [Option.some.injEq] at h;subst h
   rw [beq_eq' hb];simp
  ·exact List.mem_cons_of_mem _ (look_mem h)
theorem keysN_mem:∀ {μ:Nm} {k:Nat} {x:Nat × Nat × Option Nat},(k,x) ∈ μ→k ∈ keysN μ
 | [],_,_,h=>by simp at h
 | (b,r) :: q,k,x,h=>by
  simp only [keysN,List.mem_cons]
  rcases List.mem_cons.1 h with e | h
  ·simp only [Prod.mk.injEq] at e;exact Or.inl e.1
  ·exact Or.inr (keysN_mem h)
theorem mem_look:∀ {μ:Nm},nodupB (keysN μ) = true→∀ {k:Nat} {x:Nat × Nat × Option Nat},(k,x) ∈ μ→look μ k = some x
 | [],_,_,_,h=>by simp at h
 | (b,r) :: q,hn,k,x,h=>by
  simp only [keysN,nodupB,Bool.and_eq_true,Bool.not_eq_true'] at hn
  simp only [look]
  rcases List.mem_cons.1 h with e | h
  ·simp only [Prod.mk.injEq] at e
   rw [e.1,show Nat.beq b b = true from Nat.beq_refl b,e.2];rfl
  ·have hne:Nat.beq k b = false:=by
    cases hc:Nat.beq k b with
    | false=>rfl
    | true=>
     have:=keysN_mem h
     rw [beq_eq' hc] at this
     rw [memB_iff.2 this] at hn
     cases hn.1
   rw [hne]
   exact mem_look hn.2 h
theorem actTargets_mem {M0:Mm}:∀ {μ:Nm} {k b:Nat} {p:Nat × Option Nat},(k,(b,p)) ∈ μ→act M0 k = true→b ∈ actTargets M0 μ
 | [],_,_,_,h,_=>by simp at h
 | (k',(b',p')) :: r,k,b,p,h,ha=>by
  simp only [actTargets]
  rcases List.mem_cons.1 h with e | h
  ·simp only [Prod.mk.injEq] at e
   rw [← e.1,ha,cond_true,e.2.1];simp
  ·cases act M0 k' with
   | true=>exact List.mem_cons_of_mem _ (actTargets_mem h ha)
   | false=>exact actTargets_mem h ha
theorem act_unique {M0:Mm}:∀ {μ:Nm},nodupB (actTargets M0 μ) = true→∀ {k k' b:Nat} {p p':Nat × Option Nat},(k,(b,p)) ∈ μ→(k',(b,p')) ∈ μ→act M0 k = true→act M0 k' = true→k = k'∧p = p'
 | [],_,_,_,_,_,_,h,_,_,_=>by simp at h
 | (c,(d,q)) :: r,hn,k,k',b,p,p',h,h',ha,ha'=>by
  simp only [actTargets] at hn
  rcases List.mem_cons.1 h with e | hr
  ·simp only [Prod.mk.injEq] at e
   obtain ⟨rfl,rfl,rfl⟩:=e
   rw [ha,cond_true] at hn
   simp only [nodupB,Bool.and_eq_true,Bool.not_eq_true'] at hn
   rcases List.mem_cons.1 h' with e | h'
   ·simp only [Prod.mk.injEq] at e
    exact ⟨e.1.symm,e.2.2.symm⟩
   ·have:=actTargets_mem h' ha'
    rw [memB_iff.2 this] at hn
    cases hn.1
  ·rcases List.mem_cons.1 h' with e | hr'
   ·simp only [Prod.mk.injEq] at e
    obtain ⟨rfl,rfl,rfl⟩:=e
    rw [ha',cond_true] at hn
    simp only [nodupB,Bool.and_eq_true,Bool.not_eq_true'] at hn
    have:=actTargets_mem hr ha
    rw [memB_iff.2 this] at hn
    cases hn.1
   ·have hn':nodupB (actTargets M0 r) = true:=by
     cases hc:act M0 c with
     | true=>rw [hc,cond_true] at hn;simp only [nodupB,Bool.and_eq_true] at hn;exact hn.2
     | false=>rw [hc,cond_false] at hn;exact hn
    exact act_unique hn' hr hr' ha ha'
theorem freshOK_get {M M0:Mm}:∀ {μ:Nm},freshOK M M0 μ = true→∀ {k b g:Nat} {j:Option Nat},(k,(b,g,j)) ∈ μ →
  (isPar M0 k = true→(getM M b).isSome = true)∧(isPar M0 k = false→getM M b = none∧g = 0∧j = none)
 | [],_,_,_,_,_,h=>by simp at h
 | (c,(d,x,y)) :: r,hf,k,b,g,j,h=>by
  simp only [freshOK,Bool.and_eq_true] at hf
  rcases List.mem_cons.1 h with e | h
  ·simp only [Prod.mk.injEq] at e
   obtain ⟨rfl,rfl,rfl,rfl⟩:=e
   constructor
   ·intro hp;rw [hp,cond_true] at hf;exact hf.1
   ·intro hp
    rw [hp,cond_false] at hf
    simp only [Bool.and_eq_true,Option.isNone_iff_eq_none] at hf
    exact ⟨hf.1.1.1,beq_eq' hf.1.1.2,hf.1.2⟩
  ·exact freshOK_get hf.2 h
theorem afterM_get {μ:Nm} {M M0 M':Mm}:∀ {r:Nm} {a:Nat} {e:Ent},getM (afterM μ M M0 M' r) a = some e →
  (∃ k g j,(k,(a,g,j)) ∈ r∧act M0 k = true∧e = newEnt μ M M0 M' k a g) ∨ (a ∉ actTargets M0 r∧getM M a = some e)
 | [],a,e,h=>Or.inr ⟨by simp [actTargets],h⟩
 | (k,(b,g,j)) :: r,a,e,h=>by
  simp only [afterM,actTargets] at h ⊢
  cases hc:act M0 k with
  | true=>
   rw [hc,cond_true] at h
   by_cases hab:a = b
   ·subst hab
    rw [getM_cons_self] at h
    simp only [Option.some.injEq] at h
    exact Or.inl ⟨k,g,j,by simp,hc,h.symm⟩
   ·rw [getM_cons_ne hab] at h
    rcases afterM_get h with ⟨k',g',j',h1,h2,h3⟩ | ⟨h1,h2⟩
    ·exact Or.inl ⟨k',g',j',List.mem_cons_of_mem _ h1,h2,h3⟩
    ·refine Or.inr ⟨?_,h2⟩
     simp only [cond_true,List.mem_cons]
     exact fun hh=>hh.elim hab h1
  | false=>
   rw [hc,cond_false] at h
   rcases afterM_get h with ⟨k',g',j',h1,h2,h3⟩ | ⟨h1,h2⟩
   ·exact Or.inl ⟨k',g',j',List.mem_cons_of_mem _ h1,h2,h3⟩
   ·exact Or.inr ⟨h1,h2⟩
theorem afterM_dom {μ:Nm} {M M0 M':Mm}:∀ {r:Nm} {a:Nat},(a ∈ actTargets M0 r ∨ ∃ e,getM M a = some e)→∃ e,getM (afterM μ M M0 M' r) a = some e
 | [],a,h=>by
  rcases h with h | h
  ·simp [actTargets] at h
  ·exact h
 | (k,(b,g,j)) :: r,a,h=>by
  simp only [afterM,actTargets] at h ⊢
  cases hc:act M0 k with
  | true=>
   rw [hc] at h
   simp only [cond_true,List.mem_cons] at h ⊢
   by_cases hab:a = b
   ·subst hab;exact ⟨_,getM_cons_self _ _ _⟩
   ·rw [getM_cons_ne hab]
    refine afterM_dom ?_
    rcases h with (h | h) | h
    ·exact absurd h hab
    ·exact Or.inl h
    ·exact Or.inr h
  | false=>
   rw [hc] at h
   simp only [cond_false] at h ⊢
   exact afterM_dom h
def CallP (P:Program) (f:FuncId) (args:List SV) (M:Mm) (K:SV→Mm→Prop):Prop:=
 ∃ (args0:List SV) (M0:Mm) (R:SV→Mm→Prop) (μ:Nm) (ps qs:List Prop),Fn P f args0 M0 R∧argsSame μ args0 args = some ps∧AllP ps∧viewsM μ M M0 = some qs∧AllP qs ∧
  namesOK μ M M0 = true∧∀ v M',R v M'→K (ren μ v) (afterM μ M M0 M' μ)
theorem back_view {μ:Nm} {ρ:Env} {M M0:Mm} (hM:∀ a,ρ.dom a→∃ e,getM M a = some e) (hf:freshOK M M0 μ = true):Back μ (viewEnv μ M0 ρ) ρ where
 to a b g j hl hb:=by
  have hfr:=freshOK_get hf (look_mem hl)
  refine ⟨?_,?_,?_⟩
  ·show (getM M0 a).isSome = true
   cases hp:isPar M0 a with
   | true=>exact hp
   | false=>
    obtain ⟨e,he⟩:=hM b hb
    rw [(hfr.2 hp).1] at he;cases he
  ·simp only [viewEnv,hl]
  ·simp only [viewEnv,hl]
 im _ _ _ h:=h
theorem newEnt_cases (μ:Nm) (M M0 M':Mm) (k b g:Nat):newEnt μ M M0 M' k b g = .dead ∨
    (∃ m,getM M' k = some (.map m)∧newEnt μ M M0 M' k b g = .map m∧(getM M0 k = none ∨ ∃ m0 m1,getM M0 k = some (.map m0)∧getM M b = some (.map m1))) ∨ ∃ sp' ls' l,getM M' k = some (.mem true sp' ls')∧renL μ ls' = some l ∧
    ((getM M0 k = none∧newEnt μ M M0 M' k b g = .mem true sp' l) ∨
     ∃ own0 sp0 ls0 own sp ls,getM M0 k = some (.mem own0 sp0 ls0)∧getM M b = some (.mem own sp ls) ∧
      ((isWhole ls0 ls g = true∧newEnt μ M M0 M' k b g = .mem true sp' l) ∨
       (isWhole ls0 ls g = false∧sp' = 0∧sizeL l = sizeL ls0∧∃ q,putL ls g l = some q∧newEnt μ M M0 M' k b g = .mem true sp q))):=by
  unfold newEnt
  split
  · rename_i sp' ls' h1
    split
    · rename_i l hl
      split
      · rename_i h0
        exact Or.inr (Or.inr ⟨sp',ls',l,h1,hl,Or.inl ⟨h0,rfl⟩⟩)
      · rename_i own0 sp0 ls0 h0
        split
        · rename_i own sp ls hb
          cases hw:isWhole ls0 ls g with
          | true=>exact Or.inr (Or.inr ⟨sp',ls',l,h1,hl,Or.inr ⟨own0,sp0,ls0,own,sp,ls,h0,hb,Or.inl ⟨hw,rfl⟩⟩⟩)
          | false=>
            rw [cond_false]
            cases hc:(Nat.beq sp' 0 && Nat.beq (sizeL l) (sizeL ls0)) with
            | false=>exact Or.inl rfl
            | true=>
              rw [cond_true]
              simp only [Bool.and_eq_true] at hc
              split
              · rename_i q hq
                exact Or.inr (Or.inr ⟨sp',ls',l,h1,hl,Or.inr ⟨own0,sp0,ls0,own,sp,ls,h0,hb,Or.inr ⟨hw,beq_eq' hc.1,beq_eq' hc.2,q,hq,rfl⟩⟩⟩)
              · exact Or.inl rfl
        · exact Or.inl rfl
      · exact Or.inl rfl
    · exact Or.inl rfl
  · rename_i m h1
    split
    · rename_i h0
      exact Or.inr (Or.inl ⟨m,h1,rfl,Or.inl h0⟩)
    · rename_i m0 h0
      split
      · rename_i m1 hb
        exact Or.inr (Or.inl ⟨m,h1,rfl,Or.inr ⟨m0,m1,h0,hb⟩⟩)
      · exact Or.inl rfl
    · exact Or.inl rfl
  · exact Or.inl rfl
theorem viewE_own {μ:Nm} {M:Mm} {b g:Nat} {j:Option Nat} {sp0:Nat} {ls0:List (Nat × SV)} {ps:List Prop} (h:viewE μ M b g j (.mem true sp0 ls0) = some ps) {own:Bool} {sp:Nat} {ls:List (Nat × SV)}
  (hm:getM M b = some (.mem own sp ls)):own = true∧j = none:=by
 simp only [viewE,hm] at h
 split at h
 ·split at h
  ·exact ⟨rfl,rfl⟩
  ·cases h
 ·cases h
theorem call_sound {P:Program} {f:FuncId} {args:List SV} {M:Mm} {K:SV→Mm→Prop} {ρ:Env} {w:World} {xs:List Value} (hM:ConcM ρ M w) (hargs:RelTL ρ args xs) (h:CallP P f args M K) :
    Calls P f xs.toArray w fun e w'=>∃ v x ρ' M',e = .returned x∧RelT ρ' v x∧K v M'∧ρ.le ρ'∧ConcM ρ' M' w'∧Step ρ M ρ' M' w w':=by
  obtain ⟨args0,M0,R,μ,ps,qs,hfn,ha,hps,hv,hqs,hok,hK⟩:=h
  simp only [namesOK,Bool.and_eq_true] at hok
  obtain ⟨⟨⟨hkeys,htgt⟩,hfresh⟩,hsep⟩:=hok
  have hqs:=AllP_iff hqs
  have hback:=back_view hM.dom hfresh
  obtain ⟨hM0,hown,hown3⟩:=view_conc hM hv hqs hsep hback
  have hargs0:=argsSame_sound hback ha (AllP_iff hps) hargs
  refine (hfn _ _ _ hM0 hargs0).mono ?_
  rintro e w' ⟨v,x,ρ1,M',rfl,hx,hR,hle,hM1,hstep⟩
  let isNew:Nat→Prop:=fun a=>∃ k g j,(k,(a,g,j)) ∈ μ∧isPar M0 k = false
  have newFresh:∀ {a},isNew a→getM M a = none:=by
    rintro a ⟨k,g,j,hm,hp⟩
    exact ((freshOK_get hfresh hm).2 hp).1
  have newDom:∀ {a},isNew a→¬ ρ.dom a:=by
    intro a hn hd
    obtain ⟨e,he⟩:=hM.dom a hd
    rw [newFresh hn] at he;cases he
  have actNew:∀ {k},isPar M0 k = false→act M0 k = true:=by intro k hp;simp [act,hp]
  let newPos:Nat→Nat × Nat:=fun a=>match μ.find? (fun y=>Nat.beq y.2.1 a && !isPar M0 y.1) with
    | some y=>ρ1.pos y.1
    | none=>(0,0)
  have newPos_eq:∀ {k a g:Nat} {j:Option Nat},(k,(a,g,j)) ∈ μ→isPar M0 k = false→newPos a = ρ1.pos k:=by
    intro k a g j hm hp
    show (match μ.find? (fun y=>Nat.beq y.2.1 a && !isPar M0 y.1) with | some y=>ρ1.pos y.1 | none=>(0,0)) = _
    cases hfd:μ.find? (fun y=>Nat.beq y.2.1 a && !isPar M0 y.1) with
    | none=>
      have:=List.find?_eq_none.1 hfd _ hm
      simp [hp] at this
    | some y=>
      have h1:=List.find?_some hfd
      have h2:=List.mem_of_find?_eq_some hfd
      simp only [Bool.and_eq_true,Bool.not_eq_true'] at h1
      obtain ⟨k',b',g',j'⟩:=y
      have hb:=beq_eq' h1.1
      simp only at hb
      subst hb
      have:=act_unique htgt h2 hm (actNew h1.2) (actNew hp)
      simp only
      rw [this.1]
  let ρ2:Env:=⟨fun a=>ρ.dom a ∨ isNew a,fun a=>by classical exact if isNew a then newPos a else ρ.pos a,ρ1.imm⟩
  have pos_old:∀ {a},¬ isNew a→ρ2.pos a = ρ.pos a:=by intro a hn;simp only [ρ2];rw [if_neg hn]
  have pos_new:∀ {k a g:Nat} {j:Option Nat},(k,(a,g,j)) ∈ μ→isPar M0 k = false→ρ2.pos a = ρ1.pos k:=by
    intro k a g j hm hp
    have hn:isNew a:=⟨k,g,j,hm,hp⟩
    simp only [ρ2]
    rw [if_pos hn,newPos_eq hm hp]
  have hle2:ρ.le ρ2:=⟨fun a ha=>⟨Or.inl ha,pos_old (fun hn=>newDom hn ha)⟩,hle.im⟩
  have domM:∀ {a e},getM M a = some e→¬ isNew a:=by
    intro a e he hn
    rw [newFresh hn] at he;cases he
  have parPos:∀ {k b g:Nat} {j:Option Nat},(k,(b,g,j)) ∈ μ→isPar M0 k = true→ρ1.pos k = ((ρ.pos b).1,(ρ.pos b).2 + (g + j.getD 0)):=by
    intro k b g j hm hp
    have hl:=mem_look hkeys hm
    rw [(hle k hp).2]
    simp only [viewEnv,hl]
  have hmaps:Maps μ ρ1 ρ2:=by
    refine ⟨fun k b g j hl hd=>?_,fun _ _ _ h=>h⟩
    have hm:=look_mem hl
    have hfr:=freshOK_get hfresh hm
    cases hp:isPar M0 k with
    | true=>
      obtain ⟨e,he⟩:=Option.isSome_iff_exists.1 (hfr.1 hp)
      rw [pos_old (domM he),parPos hm hp]
      exact ⟨Or.inl (hM.mod b e he),rfl,rfl⟩
    | false=>
      obtain ⟨_,rfl,rfl⟩:=hfr.2 hp
      rw [pos_new hm hp]
      exact ⟨Or.inr ⟨k,0,none,hm,hp⟩,rfl,by simp⟩
  refine ⟨ren μ v,x,ρ2,_,rfl,ren_sound hmaps hx,hK v M' hR,hle2,?_⟩
  have actPar:∀ {k},act M0 k = true→isPar M0 k = true→(∃ sp0 ls0,getM M0 k = some (.mem true sp0 ls0)) ∨ ∃ m,getM M0 k = some (.map m):=by
    intro k ha hp
    simp only [act,hp,Bool.not_true,Bool.false_or,ownPar] at ha
    split at ha
    · rename_i e he
      cases e with
      | dead=>cases ha
      | mem own sp0 ls0=>
        simp only [Ent.isOwn] at ha
        cases own with
        | true=>exact Or.inl ⟨sp0,ls0,he⟩
        | false=>simp at ha
      | map m=>exact Or.inr ⟨m,he⟩
    · cases ha
  have ownAct:∀ {k e0},getM M0 k = some e0→e0.isOwn = true→act M0 k = true:=by
    intro k e0 he ho;simp [act,ownPar,he,ho]
  have actEnt:∀ {k a g:Nat} {j:Option Nat},(k,(a,g,j)) ∈ μ→act M0 k = true→newEnt μ M M0 M' k a g = .dead ∨
      (∃ m,getM M' k = some (.map m)∧newEnt μ M M0 M' k a g = .map m∧(ρ2.pos a).1 = (ρ1.pos k).1) ∨
      ∃ sp' ls' l,getM M' k = some (.mem true sp' ls')∧renL μ ls' = some l ∧
        ((ρ2.pos a = ρ1.pos k∧newEnt μ M M0 M' k a g = .mem true sp' l) ∨
         ∃ sp0 ls0 sp ls q,getM M0 k = some (.mem true sp0 ls0)∧getM M a = some (.mem true sp ls)∧sp' = 0∧sizeL l = sizeL ls0∧putL ls g l = some q∧newEnt μ M M0 M' k a g = .mem true sp q∧sp0 = 0 ∧
          ρ2.pos a = ρ.pos a∧ρ1.pos k = ((ρ.pos a).1,(ρ.pos a).2 + g)∧(viewEnv μ M0 ρ).pos k = ((ρ.pos a).1,(ρ.pos a).2 + g)):=by
    intro k a g j hm hact
    rcases newEnt_cases μ M M0 M' k a g with h | ⟨m,h1,h2,h3⟩ | ⟨sp',ls',l,h1,h2,h3⟩
    · exact Or.inl h
    · refine Or.inr (Or.inl ⟨m,h1,h2,?_⟩)
      rcases h3 with h0 | ⟨m0,m1,h0,hb⟩
      · rw [pos_new hm (by simp [isPar,h0])]
      · rw [pos_old (domM hb),parPos hm (by simp [isPar,h0])]
    · refine Or.inr (Or.inr ⟨sp',ls',l,h1,h2,?_⟩)
      rcases h3 with ⟨h0,h4⟩ | ⟨own0,sp0,ls0,own,sp,ls,h0,hb,h4⟩
      · exact Or.inl ⟨pos_new hm (by simp [isPar,h0]),h4⟩
      · have hp:isPar M0 k = true:=by simp [isPar,h0]
        obtain ⟨sp0',ls0',h0'⟩:∃ sp0 ls0,getM M0 k = some (.mem true sp0 ls0):=by
          rcases actPar hact hp with h | ⟨m,h⟩
          · exact h
          · rw [h0] at h;cases h
        rw [h0] at h0'
        simp only [Option.some.injEq,Ent.mem.injEq] at h0'
        obtain ⟨rfl,_,_⟩:=h0'
        obtain ⟨b',g',j',qs',hl',hv',_⟩:=viewsM_get hv hqs (getM_mem h0)
        have hl:=mem_look hkeys hm
        rw [hl] at hl'
        simp only [Option.some.injEq,Prod.mk.injEq] at hl'
        obtain ⟨rfl,rfl,rfl⟩:=hl'
        obtain ⟨rfl,rfl⟩:=viewE_own hv' hb
        have hpp:=parPos hm hp
        have hold:=pos_old (domM hb)
        simp only [Option.getD_none,Nat.add_zero] at hpp
        rcases h4 with ⟨hw,h4⟩ | ⟨hw,h5,h6,q,h7,h8⟩
        · simp only [isWhole,Bool.and_eq_true] at hw
          have:=beq_eq' hw.2
          subst this
          exact Or.inl ⟨by rw [hold,hpp];rfl,h4⟩
        · have hsp0:sp0 = 0:=by
            simp only [viewE,hb,hw,cond_false] at hv'
            obtain ⟨hz,_⟩:=bif_none hv'
            exact beq_eq' hz
          refine Or.inr ⟨sp0,ls0,sp,ls,q,h0,hb,h5,h6,h7,h8,hsp0,hold,hpp,?_⟩
          simp only [viewEnv,hl,Option.getD_none,Nat.add_zero]
  have ownOld:∀ k o,k < w.heap.size→Owns ρ1 M' k o→∃ a b p e0 e,getM M0 a = some e0∧e0.isOwn = true∧look μ a = some (b,p)∧getM M b = some e∧e.isOwn = true∧foot (ρ.pos b) e k o∧foot ((viewEnv μ M0 ρ).pos a) e0 k o:=
    fun k o hk ho=>hown3 k o (hstep.own k o hk ho)
  let C1:Nat→Nat→Nat→Prop:=fun a k o=>∃ key g j e1,(key,(a,g,j)) ∈ μ∧getM M' key = some e1∧e1.isOwn = true∧foot (ρ1.pos key) e1 k o
  let C2:Nat→Nat→Nat→Prop:=fun a k o=>∃ key g j e0 eM,(key,(a,g,j)) ∈ μ∧getM M0 key = some e0∧e0.isOwn = true∧getM M a = some eM∧eM.isOwn = true∧foot (ρ.pos a) eM k o∧¬ foot ((viewEnv μ M0 ρ).pos key) e0 k o
  let C3:Nat→Nat→Nat→Prop:=fun a k o=>∃ eM,getM M a = some eM∧a ∉ actTargets M0 μ∧foot (ρ.pos a) eM k o
  have feet:∀ {a e},getM (afterM μ M M0 M' μ) a = some e→∀ k o,foot (ρ2.pos a) e k o→(C1 a k o ∨ C2 a k o ∨ (C3 a k o∧getM M a = some e)):=by
    intro a e he k o hf
    rcases afterM_get he with ⟨key,g,j,hm,hact,rfl⟩ | ⟨hna,hM'⟩
    · rcases actEnt hm hact with h | ⟨m,h1,h2,h3⟩ | ⟨sp',ls',l,h1,h2,h3⟩
      · rw [h] at hf;exact hf.elim
      · rw [h2] at hf
        exact Or.inl ⟨key,g,j,_,hm,h1,rfl,(show k = (ρ2.pos a).1 from hf).trans h3⟩
      · rcases h3 with ⟨hp,h4⟩ | ⟨sp0,ls0,sp,ls,q,h0,hb,h5,h6,h7,h8,hsp0,hold,hpp,hvp⟩
        · rw [h4,hp] at hf
          refine Or.inl ⟨key,g,j,_,hm,h1,rfl,?_⟩
          have hs:=renL_size h2
          obtain ⟨f1,f2,f3⟩:=hf
          exact ⟨f1,f2,by simp only [if_true] at f3 ⊢;omega⟩
        · rw [h8,hold] at hf
          obtain ⟨cs,c1,c2,c3,c4⟩:=hM.sat a _ hb
          obtain ⟨cs1,d1,_,_,_⟩:=hM1.sat key _ h1
          obtain ⟨p1,p2⟩:=putL_sound (renL_sound hmaps d1 h2) (c1.le hle2) h7
          have e1:=p1.length
          simp only [List.length_append,List.length_take,List.length_drop] at e1
          have e2:=c1.length
          have hsz:sizeL q = sizeL ls:=by omega
          obtain ⟨f1,f2,f3⟩:=hf
          simp only [if_true] at f3
          by_cases hin:foot ((viewEnv μ M0 ρ).pos key) (.mem true sp0 ls0) k o
          · refine Or.inl ⟨key,g,j,_,hm,h1,rfl,?_⟩
            obtain ⟨x1,x2,x3⟩:=hin
            rw [hvp] at x1 x2 x3
            simp only [if_true] at x1 x2 x3
            have hs:=renL_size h2
            subst h5
            rw [hpp]
            exact ⟨x1,by simpa using x2,by simp only [if_true];omega⟩
          · exact Or.inr (Or.inl ⟨key,g,j,_,_,hm,h0,rfl,hb,rfl,⟨f1,f2,by simp only [if_true];omega⟩,hin⟩)
    · have hnn:¬ isNew a:=domM hM'
      rw [pos_old hnn] at hf
      exact Or.inr (Or.inr ⟨⟨e,hM',hna,hf⟩,hM'⟩)
  have c1own:∀ {a k o},C1 a k o→Owns ρ1 M' k o:=by
    rintro a k o ⟨key,g,j,e1,_,h1,h2,h3⟩;exact ⟨key,e1,h1,h2,h3⟩
  have c23:∀ {a k o},(C2 a k o ∨ C3 a k o)→∃ eM,getM M a = some eM∧foot (ρ.pos a) eM k o:=by
    rintro a k o (⟨_,_,_,_,eM,_,_,_,h1,_,h2,_⟩ | ⟨eM,h1,_,h2⟩) <;> exact ⟨eM,h1,h2⟩
  have liveOf:∀ {p:Nat × Nat} {e:Ent} {k o:Nat},foot p e k o→e.live = true:=by
    intro p e k o hf;cases e <;> first | rfl | exact hf.elim
  have m1:∀ {a b k o},C1 a k o→(C2 b k o ∨ C3 b k o)→a ≠ b→False:=by
    intro a b k o h1 h2 hab
    obtain ⟨eM,hb,hf⟩:=c23 h2
    have hlt:=foot_lt (hM.sat b _ hb) hf
    obtain ⟨x,y,p,e0,e,hx,hx2,hx3,hy,hy2,hy3,hx4⟩:=ownOld k o hlt (c1own h1)
    by_cases hyb:y = b
    · subst hyb
      have hact:=ownAct hx hx2
      rcases h2 with ⟨key,g,j,e0',eM',hm,h0,ho,_,_,_,hnot⟩ | ⟨_,_,hna,_⟩
      · have:=act_unique htgt (look_mem hx3) hm hact (ownAct h0 ho)
        obtain ⟨rfl,_⟩:=this
        rw [hx] at h0
        simp only [Option.some.injEq] at h0
        subst h0
        exact hnot hx4
      · exact hna (actTargets_mem (look_mem hx3) hact)
    · exact hM.sep y b e eM hy hb hyb hy2 k o hy3 hf
  have meet:∀ {a b k o e e'},getM (afterM μ M M0 M' μ) a = some e→getM (afterM μ M M0 M' μ) b = some e'→a ≠ b→e.isOwn = true→foot (ρ2.pos a) e k o→foot (ρ2.pos b) e' k o→False:=by
    intro a b k o e e' he he' hab ho hf hf'
    rcases feet he k o hf with h1 | h2 | ⟨h3,h3'⟩
    · rcases feet he' k o hf' with g1 | g2 | ⟨g3,_⟩
      · obtain ⟨key,g,j,e1,hm,h1,h2,h3⟩:=h1
        obtain ⟨key',g',j',e1',hm',h1',h2',h3'⟩:=g1
        have hne:key ≠ key':=by
          rintro rfl
          have:=mem_look hkeys hm
          rw [mem_look hkeys hm'] at this
          simp only [Option.some.injEq,Prod.mk.injEq] at this
          exact hab this.1.symm
        exact hM1.sep key key' e1 e1' h1 h1' hne h2 k o h3 h3'
      · exact m1 h1 (Or.inl g2) hab
      · exact m1 h1 (Or.inr g3) hab
    · rcases feet he' k o hf' with g1 | g2 | ⟨g3,_⟩
      · exact m1 g1 (Or.inl h2) (fun e=>hab e.symm)
      · obtain ⟨_,_,_,_,eM,_,_,_,x1,x2,x3,_⟩:=h2
        obtain ⟨eM',y1,y2⟩:=c23 (Or.inl g2)
        exact hM.sep a b eM eM' x1 y1 hab x2 k o x3 y2
      · obtain ⟨_,_,_,_,eM,_,_,_,x1,x2,x3,_⟩:=h2
        obtain ⟨eM',y1,y2⟩:=c23 (Or.inr g3)
        exact hM.sep a b eM eM' x1 y1 hab x2 k o x3 y2
    · obtain ⟨eM,x1,_,x3⟩:=h3
      rw [h3'] at x1
      simp only [Option.some.injEq] at x1
      subst x1
      rcases feet he' k o hf' with g1 | g2 | ⟨g3,_⟩
      · exact m1 g1 (Or.inr ⟨_,h3',‹_›,x3⟩) (fun e=>hab e.symm)
      · obtain ⟨eM',y1,y2⟩:=c23 (Or.inl g2)
        exact hM.sep a b _ eM' h3' y1 hab ho k o x3 y2
      · obtain ⟨eM',y1,y2⟩:=c23 (Or.inr g3)
        exact hM.sep a b _ eM' h3' y1 hab ho k o x3 y2
  have still:∀ {k o},k < w.heap.size→¬ Owns (viewEnv μ M0 ρ) M0 k o→w'.cell? ⟨k,o,none⟩ = w.cell? ⟨k,o,none⟩∧hard w' ⟨k,o,none⟩ = hard w ⟨k,o,none⟩:=
    fun hk hn=>hstep.cell _ _ hk hn
  have notOwned:∀ {b k o eM},getM M b = some eM→foot (ρ.pos b) eM k o→b ∉ actTargets M0 μ→¬ Owns (viewEnv μ M0 ρ) M0 k o:=by
    intro b k o eM hb hf hna hown'
    obtain ⟨x,y,p,e0,e,hx,hx2,hx3,hy,hy2,hy3,_⟩:=hown3 k o hown'
    by_cases hyb:y = b
    · subst hyb;exact hna (actTargets_mem (look_mem hx3) (ownAct hx hx2))
    · exact hM.sep y b e eM hy hb hyb hy2 k o hy3 hf
  have immOld:∀ {k o},k < w.heap.size→ImmC ρ2 k o→¬ Owns (viewEnv μ M0 ρ) M0 k o→ImmC ρ k o:=by
    intro k o hk hi hn
    rcases hstep.immo k o hk hi with h | h
    · exact h
    · exact absurd h hn
  have isep2:∀ b o,ImmC ρ2 b o→¬ Owns ρ2 (afterM μ M M0 M' μ) b o:=by
    rintro k o hi ⟨a,e,he,ho,hf⟩
    rcases feet he k o hf with h1 | h2 | ⟨h3,h3'⟩
    · exact hM1.isep k o hi (c1own h1)
    · obtain ⟨key,g,j,e0,eM,hm,h0,h0o,x1,x2,x3,hnot⟩:=h2
      have hlt:=foot_lt (hM.sat a _ x1) x3
      refine hM.isep k o (immOld hlt hi fun hown'=>?_) ⟨a,eM,x1,x2,x3⟩
      obtain ⟨x,y,p,e0',e',hx,hx2,hx3,hy,hy2,hy3,hx4⟩:=hown3 k o hown'
      by_cases hya:y = a
      · subst hya
        have:=act_unique htgt (look_mem hx3) hm (ownAct hx hx2) (ownAct h0 h0o)
        obtain ⟨rfl,_⟩:=this
        rw [hx] at h0
        simp only [Option.some.injEq] at h0
        subst h0
        exact hnot hx4
      · exact hM.sep y a e' eM hy x1 hya hy2 k o hy3 x3
    · obtain ⟨eM,x1,hna,x3⟩:=h3
      rw [h3'] at x1
      simp only [Option.some.injEq] at x1
      subst x1
      have hlt:=foot_lt (hM.sat a _ h3') x3
      exact hM.isep k o (immOld hlt hi (notOwned h3' x3 hna)) ⟨a,_,h3',ho,x3⟩
  refine ⟨⟨?_,?_,?_,fun a b e e' he he' hab ho k o hf hf'=>meet he he' hab ho hf hf',hM1.imm,isep2⟩,?_⟩
  · rintro a (ha | ⟨k,g,j,hm,hp⟩)
    · exact afterM_dom (Or.inr (hM.dom a ha))
    · exact afterM_dom (Or.inl (actTargets_mem hm (actNew hp)))
  · intro a e he
    rcases afterM_get he with ⟨key,g,j,hm,hact,rfl⟩ | ⟨_,hM'⟩
    · cases hp:isPar M0 key with
      | true=>
        obtain ⟨e,he⟩:=Option.isSome_iff_exists.1 ((freshOK_get hfresh hm).1 hp)
        exact Or.inl (hM.mod a e he)
      | false=>exact Or.inr ⟨key,g,j,hm,hp⟩
    · exact Or.inl (hM.mod a e hM')
  · intro a e he
    rcases afterM_get he with ⟨key,g,j,hm,hact,rfl⟩ | ⟨hna,hM'⟩
    · rcases actEnt hm hact with h | ⟨m,h1,h2,h3⟩ | ⟨sp',ls',l,h1,h2,h3⟩
      · rw [h];trivial
      · obtain ⟨es,clock,d1,d2⟩:=hM1.sat key _ h1
        rw [h2]
        exact ⟨es,clock,by rw [h3];exact d1,d2⟩
      · obtain ⟨cs1,d1,d2,d3,d4⟩:=hM1.sat key _ h1
        have hs:=renL_size h2
        rcases h3 with ⟨hp,h4⟩ | ⟨sp0,ls0,sp,ls,q,h0,hb,h5,h6,h7,h8,hsp0,hold,hpp,hvp⟩
        · rw [h4,hp]
          exact ⟨cs1,renL_sound hmaps d1 h2,⟨by rw [hs];exact d2.1,fun hh=>by cases hh⟩,d3,fun _ j hj=>d4 rfl j (by rw [← hs];exact hj)⟩
        · rw [h8,hold]
          subst h5
          obtain ⟨cs,c1,c2,c3,c4⟩:=hM.sat a _ hb
          obtain ⟨p1,p2⟩:=putL_sound (renL_sound hmaps d1 h2) (c1.le hle2) h7
          have e1:=p1.length
          simp only [List.length_append,List.length_take,List.length_drop] at e1
          have e2:=c1.length
          have e3:=d1.length
          have hsz:sizeL q = sizeL ls:=by omega
          have c4':=c4 rfl
          have d4':=d4 rfl
          rw [hpp] at d3 d4'
          have out:∀ j,j < sizeL ls + sp→(j < g ∨ g + sizeL ls0 ≤ j)→w'.cell? ⟨(ρ.pos a).1,(ρ.pos a).2 + j,none⟩ = w.cell? ⟨(ρ.pos a).1,(ρ.pos a).2 + j,none⟩ ∧
              hard w' ⟨(ρ.pos a).1,(ρ.pos a).2 + j,none⟩ = hard w ⟨(ρ.pos a).1,(ρ.pos a).2 + j,none⟩:=by
            intro j hj hout
            refine still (c2.1 (by simp only [if_true];omega)) ?_
            intro hown'
            obtain ⟨x,y,p,e0,e,hx,hx2,hx3,hy,hy2,hy3,hx4⟩:=hown3 _ _ hown'
            by_cases hya:y = a
            · subst hya
              have:=act_unique htgt (look_mem hx3) hm (ownAct hx hx2) hact
              obtain ⟨rfl,_⟩:=this
              rw [h0] at hx
              simp only [Option.some.injEq] at hx
              subst hx
              rw [hvp] at hx4
              obtain ⟨_,f2,f3⟩:=hx4
              simp only [if_true] at f2 f3
              omega
            · exact hM.sep y a e _ hy hb hya hy2 _ _ hy3 ⟨rfl,by omega,by simp only [if_true];omega⟩
          refine ⟨_,p1,⟨fun hz=>Nat.lt_of_lt_of_le (c2.1 (by rw [← hsz];exact hz)) hstep.size,fun hh=>by cases hh⟩,fun j v' hj=>?_,fun _ j hj=>?_⟩
          · rcases Nat.lt_or_ge j g with hlt | hge
            · rw [List.append_assoc,List.getElem?_append_left (by rw [List.length_take];omega),List.getElem?_take,if_pos hlt] at hj
              rw [(out j (by have:=(List.getElem?_eq_some_iff.1 hj).1;omega) (Or.inl hlt)).1]
              exact c3 j v' hj
            · rcases Nat.lt_or_ge j (g + cs1.length) with hlt2 | hge2
              · rw [List.append_assoc,List.getElem?_append_right (by rw [List.length_take];omega),List.getElem?_append_left (by rw [List.length_take];omega),List.length_take,Nat.min_eq_left (by omega)] at hj
                have:=d3 (j - g) v' hj
                simp only at this
                rw [show (ρ.pos a).2 + g + (j - g) = (ρ.pos a).2 + j by omega] at this
                exact this
              · rw [List.getElem?_append_right (by simp only [List.length_append,List.length_take];omega),List.getElem?_drop] at hj
                simp only [List.length_append,List.length_take] at hj
                rw [show g + cs1.length + (j - (min g cs.length + cs1.length)) = j by omega] at hj
                rw [(out j (by have:=(List.getElem?_eq_some_iff.1 hj).1;omega) (Or.inr (by omega))).1]
                exact c3 j v' hj
          · rw [hsz] at hj
            by_cases hin:j < g ∨ g + sizeL ls0 ≤ j
            · rw [(out j hj hin).1,(out j hj hin).2];exact c4' j hj
            · have:=d4' (j - g) (by omega)
              simp only at this
              rw [show (ρ.pos a).2 + g + (j - g) = (ρ.pos a).2 + j by omega] at this
              exact this
    · rw [pos_old (domM hM')]
      refine SatE.of_same hle2 hstep.size (fun k o hf=>?_) (fun k hk hf=>hstep.blk k hk (fun o=>notOwned hM' (hf o) hna)) (hM.sat a e hM')
      exact still (foot_lt (hM.sat a e hM') hf) (notOwned hM' hf hna)
  · refine ⟨hstep.size,hstep.os,hstep.output,fun b hb hn=>hstep.blk b hb (fun o ho=>hn o (hown b o ho)),fun b o hb hn=>hstep.cell b o hb (fun ho=>hn (hown b o ho)),fun b o hb ho=>?_,fun b o hb hi=>(hstep.immo b o hb hi).imp (fun h=>h) (fun h=>hown b o h)⟩
    obtain ⟨a,e,he,hown',hf⟩:=ho
    rcases feet he b o hf with h1 | h2 | ⟨_,h3'⟩
    · exact hown b o (hstep.own b o hb (c1own h1))
    · obtain ⟨_,_,_,_,eM,_,_,_,x1,x2,x3,_⟩:=h2
      exact ⟨a,eM,x1,x2,x3⟩
    · rw [pos_old (domM h3')] at hf
      exact ⟨a,e,h3',hown',hf⟩
theorem ConcM.name {ρ:Env} {M:Mm} {w:World} (h:ConcM ρ M w) {d b o:Nat} {ls:List (Nat × SV)} (hd:getM M d = none) (hi:ρ.immO b o ls) :
  ρ.le (ρ.add d (b,o))∧ConcM (ρ.add d (b,o)) ((d,.mem false 1 ls) :: M) w∧Step ρ M (ρ.add d (b,o)) ((d,.mem false 1 ls) :: M) w w:=by
 have hnd:¬ ρ.dom d:=by
  intro hx
  obtain ⟨e,he⟩:=h.dom d hx
  rw [hd] at he;cases he
 have hle:=Env.le_add (b,o) hnd
 have pne:∀ {a},a ≠ d→(ρ.add d (b,o)).pos a = ρ.pos a:=by
  intro a ha;simp only [Env.add];rw [if_neg ha]
 have pd:(ρ.add d (b,o)).pos d = (b,o):=by simp [Env.add]
 have ownN:∀ k p,Owns (ρ.add d (b,o)) ((d,.mem false 1 ls) :: M) k p→Owns ρ M k p:=by
  rintro k p ⟨a,e,he,hown,hf⟩
  by_cases ha:a = d
  ·subst ha
   rw [getM_cons_self] at he
   obtain rfl:Ent.mem false 1 ls = e:=by simpa using he
   cases hown
  ·rw [getM_cons_ne ha] at he
   rw [pne ha] at hf
   exact ⟨a,e,he,hown,hf⟩
 obtain ⟨k0,cs,k1,k3⟩:=h.immO hi
 refine ⟨hle,⟨?_,?_,?_,?_,h.imm,fun k p hi' ho=>h.isep k p hi' (ownN k p ho)⟩,⟨Nat.le_refl _,rfl,rfl,fun _ _ _=>rfl,fun _ _ _ _=>⟨rfl,rfl⟩,fun k p _ ho=>ownN k p ho,fun _ _ _ h=>Or.inl h⟩⟩
 ·intro a ha
  by_cases hne:a = d
  ·subst hne;exact ⟨_,getM_cons_self _ _ _⟩
  ·rw [getM_cons_ne hne]
   exact h.dom a (ha.resolve_left hne)
 ·intro a e he
  by_cases hne:a = d
  ·exact Or.inl hne
  ·rw [getM_cons_ne hne] at he;exact Or.inr (h.mod a e he)
 ·intro a e he
  by_cases hne:a = d
  ·subst hne
   rw [getM_cons_self] at he
   obtain rfl:Ent.mem false 1 ls = e:=by simpa using he
   rw [pd]
   exact ⟨cs,k1.le (Env.bare_any (ρ':=ρ.add a (b,o)) (fun _ _ _ h=>h)),⟨fun hn=>k0 (by simpa using hn),fun _ _=>hi⟩,k3,fun hh=>by cases hh⟩
  ·rw [getM_cons_ne hne] at he
   rw [pne hne]
   exact SatE.of_same hle (Nat.le_refl _) (fun _ _ _=>⟨rfl,rfl⟩) (fun _ _ _=>rfl) (h.sat a e he)
 ·intro a c e e' he he' hac ho k p hf hf'
  by_cases ha:a = d
  ·subst ha
   rw [getM_cons_self] at he
   obtain rfl:Ent.mem false 1 ls = e:=by simpa using he
   cases ho
  ·rw [getM_cons_ne ha] at he
   rw [pne ha] at hf
   by_cases hc:c = d
   ·subst hc
    rw [getM_cons_self] at he'
    obtain rfl:Ent.mem false 1 ls = e':=by simpa using he'
    rw [pd] at hf'
    exact h.isep k p (h.immO_sep hi hf') ⟨a,e,he,ho,hf⟩
   ·rw [getM_cons_ne hc] at he'
    rw [pne hc] at hf'
    exact h.sep a c e e' he he' hac ho k p hf hf'
def mulS (q s:Nat):Nat:=
 match q with
 | 0=>0
 | q=>match s with
  | 1=>q
  | s=>q * s
theorem mulS_eq (q s:Nat):mulS q s = q * s:=by
 unfold mulS
 split
 ·simp
 ·split <;> simp
end Go.Sx
namespace Go.Sx
open Go
def srcV (M:Mm) (v:SV):Option (List Prop × List UInt8):=
 match v with
 | .str l=>some ([],l)
 | v=>bytesOf M v
theorem srcV_sound {P:Program} {ρ:Env} {M:Mm} {w:World} (hM:ConcM ρ M w) {v:SV} {x:Value} (hx:RelT ρ v x) {ps:List Prop} {l:List UInt8} (h:srcV M v = some (ps,l)) (hp:All ps) :
  (Builtin.lenOf x).run P w = .ok l.length w∧∀ m,m ≤ l.length→(Builtin.firstCells 1 m x).run P w = .ok ((l.take m).map w8).toArray w:=by
 unfold srcV at h
 split at h
 ·rename_i l'
  simp only [Option.some.injEq,Prod.mk.injEq] at h;obtain ⟨rfl,rfl⟩:=h
  have hx:x = .string ⟨l'.toArray⟩:=hx
  subst hx
  refine ⟨rfl,fun m hm=>?_⟩
  show Result.ok _ w = _
  congr 1
  apply Array.ext'
  simp [ByteArray.extract,ByteArray.copySlice]
  first
   | rfl
   | (intro a _;rfl)
   | trace_state
 ·obtain ⟨y,c,rfl,h1,h2⟩:=bytesOf_cells (P:=P) hM hx h hp
  refine ⟨rfl,fun m hm=>?_⟩
  cases y with
  | none=>
   have hl:=h1 rfl
   have:l = []:=List.eq_nil_of_length_eq_zero hl
   subst this
   simp
   rfl
  | some ad=>
   show (loadCells ad (m * 1)).run P w = _
   rw [Nat.mul_one]
   exact h2 ad rfl m hm
def copyTo (M:Mm) (a f i n:Nat) (e:Nat) (sv:SV):Option (List Prop × Nat × Nat × Ent):=
 match getM M a with
 | some (.mem true sp ls)=>match srcV M sv with
  | some (ps,l)=>match storeL ls f (some i) ⟨.array (min l.length n) e,min l.length n,0,[],false⟩ (.a8 (l.take (min l.length n))) with
   | some (qs,ls')=>some (ps ++ qs,min l.length n,a,.mem true sp ls')
   | none=>none
  | none=>none
 | _=>none
def words64 (M:Mm) (x:SV):Option (List Prop × List UInt64):=
 match x with
 | .nsl=>some ([],[])
 | .sl a f i n _=>match getM M a with
  | some (.mem _ _ ls)=>match subAny ls f i n with
   | some r=>some r
   | none=>none
  | _=>none
 | .slx a f i n=>match getM M a with
  | some (.mem _ _ ls)=>match subAny ls f i n with
   | some r=>some r
   | none=>none
  | _=>none
 | .isl q n s ls=>match s with
  | 1=>match subAny ls 0 q n with
   | some r=>some r
   | none=>none
  | _=>none
 | _=>none
 where
 subAny (ls:List (Nat × SV)) (f i n:Nat):Option (List Prop × List UInt64):=
  match ls with
  | []=>none
  | (s,v) :: r=>match f with
   | 0=>match v with
    | .a64 l=>some ([i + n ≤ s],(l.drop i).take n)
    | _=>none
   | f + 1=>bif Nat.blt (f + 1) s then none else subAny r (f + 1 - s) i n
theorem wordsSub_sound {ρ:Env}:∀ {ls:List (Nat × SV)} {cs:List Value} (_:CellsL ρ ls cs) {f i n:Nat} {ps:List Prop} {l:List UInt64},
  words64.subAny ls f i n = some (ps,l)→All ps→f + i + n ≤ cs.length∧(cs.drop (f + i)).take n = l.map w64
 | [],_,_,_,_,_,_,_,h,_=>by simp [words64.subAny] at h
 | (s,v) :: r,cs,hc,f,i,n,ps,l,h,hp=>by
  obtain ⟨c1,c2,rfl,h1,h2,h3⟩:=hc
  unfold words64.subAny at h
  split at h
  ·split at h <;> simp only [Option.some.injEq,Prod.mk.injEq,reduceCtorEq] at h
   obtain ⟨rfl,rfl⟩:=h
   rename_i l
   have hb:=hp.head
   have hcl:c1 = l.map w64:=h2
   subst hcl
   rw [List.length_map] at h1
   refine ⟨by simp;omega,?_⟩
   rw [Nat.zero_add,List.drop_append_of_le_length (by simp;omega),List.take_append_of_le_length (by simp;omega),map_seg]
  ·rename_i g
   rcases bif_some h with ⟨_,h⟩ | ⟨hb,h⟩
   ·cases h
   ·have hge:s ≤ g + 1:=by
     rcases Nat.lt_or_ge (g + 1) s with hl | hl
     ·have:Nat.blt (g + 1) s = true:=by simpa [Nat.blt_eq] using hl
      rw [this] at hb;cases hb
     ·exact hl
    obtain ⟨h4,h5⟩:=wordsSub_sound h3 h hp
    refine ⟨by simp;omega,?_⟩
    rw [List.drop_append,List.drop_of_length_le (by omega),List.nil_append,h1,show g + 1 + i - s = g + 1 - s + i by omega]
    exact h5
theorem wsubAny_le:∀ {ls:List (Nat × SV)} {f i n:Nat} {ps:List Prop} {l:List UInt64},words64.subAny ls f i n = some (ps,l)→l.length ≤ n
 | [],_,_,_,_,_,h=>by simp [words64.subAny] at h
 | (s,v) :: r,f,i,n,ps,l,h=>by
  unfold words64.subAny at h
  split at h
  ·split at h <;> simp only [Option.some.injEq,Prod.mk.injEq,reduceCtorEq] at h
   obtain ⟨rfl,rfl⟩:=h
   simp only [List.length_take];omega
  ·rcases bif_some h with ⟨_,h⟩ | ⟨_,h⟩
   ·cases h
   ·exact wsubAny_le h
theorem words_at {P:Program} {w:World} {ls:List (Nat × SV)} {f i n c:Nat} {y:Option Addr} {ps:List Prop} {l:List UInt64} (hs:words64.subAny ls f i n = some (ps,l)) (hp:All ps) (hnc:n ≤ c)
  (hy:c ≠ 0→∃ (ρ:Env) (b o:Nat) (cs:List Value),CellsL ρ ls cs∧(∀ j v,cs[j]? = some v→w.cell? ⟨b,o + j,none⟩ = some v)∧y = some ⟨b,o + (f + i),none⟩) :
  l.length = n∧(y = none→n = 0)∧∀ ad,y = some ad→∀ m,m ≤ n→(loadCells ad m).run P w = .ok ((l.take m).map w64).toArray w:=by
 rcases Nat.eq_zero_or_pos c with h0 | h0
 ·have hn:n = 0:=by omega
  subst hn
  have hl:=wsubAny_le hs
  have:l = []:=List.eq_nil_of_length_eq_zero (by omega)
  subst this
  refine ⟨rfl,fun _=>rfl,fun ad _ m hm=>?_⟩
  have:m = 0:=by omega
  subst this
  rfl
 ·obtain ⟨ρ,b,o,cs,h1,h3,rfl⟩:=hy (by omega)
  obtain ⟨h4,h5⟩:=wordsSub_sound h1 hs hp
  have hl:l.length = n:=by
   have:=congrArg List.length h5
   simp only [List.length_take,List.length_drop,List.length_map] at this
   omega
  refine ⟨hl,(fun h=>by cases h),fun ad had m hm=>?_⟩
  obtain rfl:(⟨b,o + (f + i),none⟩:Addr) = ad:=by simpa using had
  rw [run_loadCells (cs:=((cs.drop (f + i)).take n).take m) (by simp;omega) (fun j v hj=>by
   rw [List.getElem?_take] at hj
   split at hj
   ·rw [List.getElem?_take] at hj
    split at hj
    ·rw [List.getElem?_drop] at hj
     rw [Nat.add_assoc];exact h3 _ _ hj
    ·cases hj
   ·cases hj),h5,List.map_take]
theorem words64_cells {P:Program} {ρ:Env} {M:Mm} {w:World} (hM:ConcM ρ M w) {x:SV} {vx:Value} (hx:RelT ρ x vx) {ps:List Prop} {l:List UInt64} (h:words64 M x = some (ps,l)) (hp:All ps) :
  ∃ y c,vx = .slice y l.length c∧(y = none→l.length = 0)∧∀ ad,y = some ad→∀ m,m ≤ l.length→(loadCells ad m).run P w = .ok ((l.take m).map w64).toArray w:=by
 unfold words64 at h
 split at h
 ·simp only [Option.some.injEq,Prod.mk.injEq] at h;obtain ⟨rfl,rfl⟩:=h
  exact ⟨none,0,hx,fun _=>rfl,fun ad h=>by cases h⟩
 ·rename_i a f i n c
  obtain ⟨_,hnc,y,rfl,hy⟩:=hx
  split at h
  ·rename_i own sp ls he
   split at h
   ·rename_i r hr
    simp only [Option.some.injEq] at h;subst h
    obtain ⟨cs,h1,_,h3,_⟩:=hM.sat a _ he
    obtain ⟨q1,q2,q3⟩:=words_at (P:=P) (w:=w) (y:=y) hr hp hnc (fun hc=>⟨ρ,(ρ.pos a).1,(ρ.pos a).2,cs,h1,h3,by rw [hy hc,addr_eq]⟩)
    exact ⟨y,c,by rw [q1],by rw [q1];exact q2,by rw [q1];exact q3⟩
   ·cases h
  ·cases h
 ·rename_i a f i n
  obtain ⟨_,c,y,hnc,rfl,hy⟩:=hx
  split at h
  ·rename_i own sp ls he
   split at h
   ·rename_i r hr
    simp only [Option.some.injEq] at h;subst h
    obtain ⟨cs,h1,_,h3,_⟩:=hM.sat a _ he
    obtain ⟨q1,q2,q3⟩:=words_at (P:=P) (w:=w) (y:=y) hr hp hnc (fun hc=>⟨ρ,(ρ.pos a).1,(ρ.pos a).2,cs,h1,h3,by rw [hy hc,addr_eq]⟩)
    exact ⟨y,c,by rw [q1],by rw [q1];exact q2,by rw [q1];exact q3⟩
   ·cases h
  ·cases h
 ·rename_i q n s ls
  obtain ⟨b,o,c,y,hi,hnc,rfl,hy⟩:=hx
  split at h
  ·split at h
   ·rename_i r hr
    simp only [Option.some.injEq] at h;subst h
    obtain ⟨q1,q2,q3⟩:=words_at (P:=P) (w:=w) (y:=y) hr hp hnc (fun hc=>by
     obtain ⟨_,cs,h1,h3⟩:=hM.immO hi
     exact ⟨ρ.bare,b,o,cs,h1,h3,by rw [hy hc];simp⟩)
    exact ⟨y,c,by rw [q1],by rw [q1];exact q2,by rw [q1];exact q3⟩
   ·cases h
  ·cases h
 ·cases h
theorem src64_sound {P:Program} {ρ:Env} {M:Mm} {w:World} (hM:ConcM ρ M w) {v:SV} {x:Value} (hx:RelT ρ v x) {ps:List Prop} {l:List UInt64} (h:words64 M v = some (ps,l)) (hp:All ps) :
  (Builtin.lenOf x).run P w = .ok l.length w∧∀ m,m ≤ l.length→(Builtin.firstCells 1 m x).run P w = .ok ((l.take m).map w64).toArray w:=by
 obtain ⟨y,c,rfl,h1,h2⟩:=words64_cells (P:=P) hM hx h hp
 refine ⟨rfl,fun m hm=>?_⟩
 cases y with
 | none=>
  have hl:=h1 rfl
  have:l = []:=List.eq_nil_of_length_eq_zero hl
  subst this
  simp
  rfl
 | some ad=>
  show (loadCells ad (m * 1)).run P w = _
  rw [Nat.mul_one]
  exact h2 ad rfl m hm
def copyTo64 (M:Mm) (a f i n:Nat) (e:Nat) (sv:SV):Option (List Prop × Nat × Nat × Ent):=
 match getM M a with
 | some (.mem true sp ls)=>match words64 M sv with
  | some (ps,l)=>match storeL ls f (some i) ⟨.array (min l.length n) e,min l.length n,0,[],false⟩ (.a64 (l.take (min l.length n))) with
   | some (qs,ls')=>some (ps ++ qs,min l.length n,a,.mem true sp ls')
   | none=>none
  | none=>none
 | _=>none
theorem bif_some' {α:Type} {b:Bool} {x y z:Option α} (h:(bif b then x else y) = z):(b = true∧x = z) ∨ (b = false∧y = z):=by
 cases b with
 | true=>exact Or.inl ⟨rfl,h⟩
 | false=>exact Or.inr ⟨rfl,h⟩
def is64 (k:TyK):Bool:=
 match k with
 | .int .u64=>true
 | _=>false
def copyE (ty:Nat→Ty) (M:Mm) (T:Tm) (c:Go.Call):Option (List Prop × Nat × Nat × Ent):=
 match c.args.toList with
 | [d,s]=>match c.argTypes.toList with
  | t :: _=>match (ty t).k with
   | .slice e=>bif Nat.beq (ty e).size 1 && notBad (ty e).k then
     (match ev T d with
     | .sl a f i n _=>bif is64 (ty e).k then copyTo64 M a f i n e (ev T s) else copyTo M a f i n e (ev T s)
     | .slx a f i n=>bif is64 (ty e).k then copyTo64 M a f i n e (ev T s) else copyTo M a f i n e (ev T s)
     | _=>none)
    else none
   | _=>none
  | _=>none
 | _=>none
 where
 notBad:TyK→Bool
  | .bad=>false
  | _=>true
theorem copyTo_sound {Γ:Ctx} {ρ:Env} {M:Mm} {w:World} (hM:ConcM ρ M w) {t e:Nat} (ht:(Γ.ty t).k = .slice e) (he1:(Γ.ty e).size = 1) (hb:(Γ.ty e).k ≠ .bad) {a f i n c:Nat} {y:Option Addr} (hnc:n ≤ c) (hy:c ≠ 0→y = some (ρ.addr a f i))
  {sv:SV} {x:Value} (hx:RelT ρ sv x) {ps:List Prop} {m b:Nat} {E:Ent} (h:copyTo M a f i n e sv = some (ps,m,b,E)) (hp:All ps) (ats:Array TypeId) (hat:ats[0]? = some t) (T':TypeId) :
  ∃ w',(Builtin.copy_ ats T' #[.slice y n c,x]).run Γ.P w = .ok (.int .i64 (m:Int)) w'∧ConcM ρ ((b,E) :: M) w'∧Step ρ M ρ ((b,E) :: M) w w':=by
 unfold copyTo at h
 split at h
 ·rename_i sp ls hm
  split at h
  ·rename_i qs l hs
   split at h
   ·rename_i rs ls' hst
    simp only [Option.some.injEq,Prod.mk.injEq] at h;obtain ⟨rfl,rfl,rfl,rfl⟩:=h
    have hqs:All qs:=fun q hq=>hp q (by simp [hq])
    have hrs:All rs:=fun q hq=>hp q (by simp [hq])
    obtain ⟨hlen,hcells⟩:=srcV_sound (P:=Γ.P) hM hx hs hqs
    have hmin:min l.length n ≤ l.length:=Nat.min_le_left _ _
    obtain ⟨cs,c1,c2,c3,c4⟩:=hM.sat a _ hm
    have hval:RelT ρ (.a8 (l.take (min l.length n))) (.agg ((l.take (min l.length n)).map w8).toArray):=rfl
    obtain ⟨q1,q2,q3,q4,q5⟩:=storeL_sound c1 hval hst hrs
    generalize hmm:min l.length n = m at *
    have hX:(Value.agg ((l.take m).map w8).toArray).cells.toList = (l.take m).map w8:=rfl
    rw [hX] at q3 q5
    have hXl:((l.take m).map w8).length = m:=by simp;omega
    simp only [Option.getD_some] at q1 q5
    have hlen2:=c1.length
    have c4:=c4 rfl
    obtain ⟨w',hr,hw⟩:=run_storeCells (P:=Γ.P) (b:=(ρ.pos a).1) (o:=(ρ.pos a).2 + (f + i)) ((l.take m).map w8) 0 w q3 (fun j hj=>by
     have:=c4 (f + i + j) (by omega)
     rw [show (ρ.pos a).2 + (f + i) + (0 + j) = (ρ.pos a).2 + (f + i + j) by omega]
     exact this)
    rw [Nat.add_zero] at hw
    have hund:=und_slice (Γ.ok (t:=t) (by rw [ht];simp)) ht
    have hrun:(Builtin.copy_ ats T' #[.slice y n c,x]).run Γ.P w = .ok (.int .i64 (m:Int)) w':=by
     have hlo:(Builtin.lenOf x).run Γ.P w = .ok l.length w:=hlen
     have hnm:Nat.min l.length n = m:=hmm
     by_cases hc0:c = 0
     ·have hm0:m = 0:=by omega
      have hX0:(l.take m).map w8 = []:=by rw [hm0];rfl
      have hw0:w' = w:=by
       rw [hX0] at hr
       have e:(storeCells ⟨(ρ.pos a).1,(ρ.pos a).2 + (f + i),none⟩ [] 0).run Γ.P w = .ok () w:=rfl
       rw [e] at hr
       injection hr with _ h
       exact h.symm
      rw [hw0]
      unfold Builtin.copy_
      simp only [hat,List.getElem?_toArray,List.getElem?_cons_zero,List.getElem?_cons_succ,Sem.run_bind,run_und hund,Result.andThen_ok,hlo,hnm,run_sizeOf (Γ.ok hb),he1,hcells m hmin,hX0]
      cases y with
      | none=>rfl
      | some b0=>rfl
     ·have hyy:y = some (ρ.addr a f i):=hy hc0
      subst hyy
      unfold Builtin.copy_
      simp only [hat,List.getElem?_toArray,List.getElem?_cons_zero,List.getElem?_cons_succ,Sem.run_bind,run_und hund,Result.andThen_ok,hlo,hnm,run_sizeOf (Γ.ok hb),he1,hcells m hmin,addr_eq]
      rw [hr]
      rfl
    refine ⟨w',hrun,?_⟩
    exact hM.write (sp':=sp) hm hw (by omega) q5 (by omega) (fun cs' d1 d2 j v hj=>by
     have hl':=d1.length
     have hin:∀ j,¬ (f + i ≤ j∧j < f + i + m)→w'.cell? ⟨(ρ.pos a).1,(ρ.pos a).2 + j,none⟩ = w.cell? ⟨(ρ.pos a).1,(ρ.pos a).2 + j,none⟩:=by
      intro j hn
      refine hw.old _ _ (fun _=>?_)
      omega
     rcases Nat.lt_or_ge j (f + i) with hlt | hge
     ·rw [List.append_assoc,List.getElem?_append_left (by rw [List.length_take];omega),List.getElem?_take,if_pos hlt] at hj
      rw [hin j (by omega)];exact c3 j v hj
     ·rcases Nat.lt_or_ge j (f + i + m) with hlt2 | hge2
      ·rw [List.append_assoc,List.getElem?_append_right (by rw [List.length_take];omega),List.getElem?_append_left (by rw [List.length_take];omega),List.length_take,Nat.min_eq_left (by omega)] at hj
       have:=hw.new (j - (f + i)) v hj
       rw [show (ρ.pos a).2 + (f + i) + (j - (f + i)) = (ρ.pos a).2 + j by omega] at this
       exact this
      ·rw [List.getElem?_append_right (by simp only [List.length_append,List.length_take];omega),List.getElem?_drop] at hj
       simp only [List.length_append,List.length_take,hXl] at hj
       rw [show f + i + m + (j - (min (f + i) cs.length + m)) = j by omega] at hj
       rw [hin j (by omega)];exact c3 j v hj)
   ·cases h
  ·cases h
 ·cases h
theorem copyTo64_sound {Γ:Ctx} {ρ:Env} {M:Mm} {w:World} (hM:ConcM ρ M w) {t e:Nat} (ht:(Γ.ty t).k = .slice e) (he1:(Γ.ty e).size = 1) (hb:(Γ.ty e).k ≠ .bad) {a f i n c:Nat} {y:Option Addr} (hnc:n ≤ c) (hy:c ≠ 0→y = some (ρ.addr a f i))
  {sv:SV} {x:Value} (hx:RelT ρ sv x) {ps:List Prop} {m b:Nat} {E:Ent} (h:copyTo64 M a f i n e sv = some (ps,m,b,E)) (hp:All ps) (ats:Array TypeId) (hat:ats[0]? = some t) (T':TypeId) :
  ∃ w',(Builtin.copy_ ats T' #[.slice y n c,x]).run Γ.P w = .ok (.int .i64 (m:Int)) w'∧ConcM ρ ((b,E) :: M) w'∧Step ρ M ρ ((b,E) :: M) w w':=by
 unfold copyTo64 at h
 split at h
 ·rename_i sp ls hm
  split at h
  ·rename_i qs l hs
   split at h
   ·rename_i rs ls' hst
    simp only [Option.some.injEq,Prod.mk.injEq] at h;obtain ⟨rfl,rfl,rfl,rfl⟩:=h
    have hqs:All qs:=fun q hq=>hp q (by simp [hq])
    have hrs:All rs:=fun q hq=>hp q (by simp [hq])
    obtain ⟨hlen,hcells⟩:=src64_sound (P:=Γ.P) hM hx hs hqs
    have hmin:min l.length n ≤ l.length:=Nat.min_le_left _ _
    obtain ⟨cs,c1,c2,c3,c4⟩:=hM.sat a _ hm
    have hval:RelT ρ (.a64 (l.take (min l.length n))) (.agg ((l.take (min l.length n)).map w64).toArray):=rfl
    obtain ⟨q1,q2,q3,q4,q5⟩:=storeL_sound c1 hval hst hrs
    generalize hmm:min l.length n = m at *
    have hX:(Value.agg ((l.take m).map w64).toArray).cells.toList = (l.take m).map w64:=rfl
    rw [hX] at q3 q5
    have hXl:((l.take m).map w64).length = m:=by simp;omega
    simp only [Option.getD_some] at q1 q5
    have hlen2:=c1.length
    have c4:=c4 rfl
    obtain ⟨w',hr,hw⟩:=run_storeCells (P:=Γ.P) (b:=(ρ.pos a).1) (o:=(ρ.pos a).2 + (f + i)) ((l.take m).map w64) 0 w q3 (fun j hj=>by
     have:=c4 (f + i + j) (by omega)
     rw [show (ρ.pos a).2 + (f + i) + (0 + j) = (ρ.pos a).2 + (f + i + j) by omega]
     exact this)
    rw [Nat.add_zero] at hw
    have hund:=und_slice (Γ.ok (t:=t) (by rw [ht];simp)) ht
    have hrun:(Builtin.copy_ ats T' #[.slice y n c,x]).run Γ.P w = .ok (.int .i64 (m:Int)) w':=by
     have hlo:(Builtin.lenOf x).run Γ.P w = .ok l.length w:=hlen
     have hnm:Nat.min l.length n = m:=hmm
     by_cases hc0:c = 0
     ·have hm0:m = 0:=by omega
      have hX0:(l.take m).map w64 = []:=by rw [hm0];rfl
      have hw0:w' = w:=by
       rw [hX0] at hr
       have e:(storeCells ⟨(ρ.pos a).1,(ρ.pos a).2 + (f + i),none⟩ [] 0).run Γ.P w = .ok () w:=rfl
       rw [e] at hr
       injection hr with _ h
       exact h.symm
      rw [hw0]
      unfold Builtin.copy_
      simp only [hat,List.getElem?_toArray,List.getElem?_cons_zero,List.getElem?_cons_succ,Sem.run_bind,run_und hund,Result.andThen_ok,hlo,hnm,run_sizeOf (Γ.ok hb),he1,hcells m hmin,hX0]
      cases y with
      | none=>rfl
      | some b0=>rfl
     ·have hyy:y = some (ρ.addr a f i):=hy hc0
      subst hyy
      unfold Builtin.copy_
      simp only [hat,List.getElem?_toArray,List.getElem?_cons_zero,List.getElem?_cons_succ,Sem.run_bind,run_und hund,Result.andThen_ok,hlo,hnm,run_sizeOf (Γ.ok hb),he1,hcells m hmin,addr_eq]
      rw [hr]
      rfl
    refine ⟨w',hrun,?_⟩
    exact hM.write (sp':=sp) hm hw (by omega) q5 (by omega) (fun cs' d1 d2 j v hj=>by
     have hl':=d1.length
     have hin:∀ j,¬ (f + i ≤ j∧j < f + i + m)→w'.cell? ⟨(ρ.pos a).1,(ρ.pos a).2 + j,none⟩ = w.cell? ⟨(ρ.pos a).1,(ρ.pos a).2 + j,none⟩:=by
      intro j hn
      refine hw.old _ _ (fun _=>?_)
      omega
     rcases Nat.lt_or_ge j (f + i) with hlt | hge
     ·rw [List.append_assoc,List.getElem?_append_left (by rw [List.length_take];omega),List.getElem?_take,if_pos hlt] at hj
      rw [hin j (by omega)];exact c3 j v hj
     ·rcases Nat.lt_or_ge j (f + i + m) with hlt2 | hge2
      ·rw [List.append_assoc,List.getElem?_append_right (by rw [List.length_take];omega),List.getElem?_append_left (by rw [List.length_take];omega),List.length_take,Nat.min_eq_left (by omega)] at hj
       have:=hw.new (j - (f + i)) v hj
       rw [show (ρ.pos a).2 + (f + i) + (j - (f + i)) = (ρ.pos a).2 + j by omega] at this
       exact this
      ·rw [List.getElem?_append_right (by simp only [List.length_append,List.length_take];omega),List.getElem?_drop] at hj
       simp only [List.length_append,List.length_take,hXl] at hj
       rw [show f + i + m + (j - (min (f + i) cs.length + m)) = j by omega] at hj
       rw [hin j (by omega)];exact c3 j v hj)
   ·cases h
  ·cases h
 ·cases h
theorem copyE_sound {Γ:Ctx} {N:Nat} {ρ:Env} {T:Tm} {M:Mm} {a:Act} {w:World} (hc:Conc N ρ T M a w) {c:Go.Call} {ps:List Prop} {m b:Nat} {E:Ent} (h:copyE Γ.ty M T c = some (ps,m,b,E)) (hp:All ps) (T':TypeId) :
  ∃ w',(do pure (Next.value (← Builtin.copy_ c.argTypes T' (c.args.map a.eval))):Sem Next).run Γ.P w = .ok (.value (.int .i64 (m:Int))) w'∧ConcM ρ ((b,E) :: M) w'∧Step ρ M ρ ((b,E) :: M) w w':=by
 unfold copyE at h
 split at h
 ·rename_i d s hargs
  have e1:c.args.map a.eval = #[a.eval d,a.eval s]:=by
   apply Array.ext';simp [hargs]
  split at h
  ·rename_i t tr hts
   have hat:c.argTypes[0]? = some t:=by
    have:c.argTypes.toList[0]? = some t:=by rw [hts];rfl
    simpa using this
   split at h
   ·rename_i e hk
    cases hq:Nat.beq (Γ.ty e).size 1 && copyE.notBad (Γ.ty e).k with
    | false=>rw [hq,cond_false] at h;cases h
    | true=>
     rw [hq,cond_true] at h
     simp only [Bool.and_eq_true] at hq
     have hb:(Γ.ty e).k ≠ .bad:=by
      intro hb;rw [hb] at hq;cases hq.2
     have hr:=ev_rel hc d
     have hs:=ev_rel hc s
     rw [e1]
     split at h
     ·rename_i a' f i n cc he
      rw [he] at hr
      obtain ⟨_,hnc,y,hv,hy⟩:=hr
      obtain ⟨w',h1,h2,h3⟩:∃ w',(Builtin.copy_ c.argTypes T' #[.slice y n cc,a.eval s]).run Γ.P w = .ok (.int .i64 (m:Int)) w'∧ConcM ρ ((b,E) :: M) w'∧Step ρ M ρ ((b,E) :: M) w w':=by
       rcases bif_some' h with ⟨_,h⟩ | ⟨_,h⟩
       ·exact copyTo64_sound hc.toConcM hk (beq_eq' hq.1) hb hnc hy hs h hp c.argTypes hat T'
       ·exact copyTo_sound hc.toConcM hk (beq_eq' hq.1) hb hnc hy hs h hp c.argTypes hat T'
      refine ⟨w',?_,h2,h3⟩
      rw [hv,Sem.run_bind,h1];rfl
     ·rename_i a' f i n he
      rw [he] at hr
      obtain ⟨_,cc,y,hnc,hv,hy⟩:=hr
      obtain ⟨w',h1,h2,h3⟩:∃ w',(Builtin.copy_ c.argTypes T' #[.slice y n cc,a.eval s]).run Γ.P w = .ok (.int .i64 (m:Int)) w'∧ConcM ρ ((b,E) :: M) w'∧Step ρ M ρ ((b,E) :: M) w w':=by
       rcases bif_some' h with ⟨_,h⟩ | ⟨_,h⟩
       ·exact copyTo64_sound hc.toConcM hk (beq_eq' hq.1) hb hnc hy hs h hp c.argTypes hat T'
       ·exact copyTo_sound hc.toConcM hk (beq_eq' hq.1) hb hnc hy hs h hp c.argTypes hat T'
      refine ⟨w',?_,h2,h3⟩
      rw [hv,Sem.run_bind,h1];rfl
     ·cases h
   ·cases h
  ·cases h
 ·cases h
end Go.Sx
namespace Go.Sx
open Go
theorem ConcM.fresh {ρ:Env} {M:Mm} {w w':World} (h:ConcM ρ M w) (hg:Grows w w') (hlt:w.heap.size < w'.heap.size) {d:Nat} (hd:getM M d = none) {cs:List Value} {ls:List (Nat × SV)} {sp:Nat}
  (hcs:CellsL ρ ls cs) (hcell:∀ (j:Nat) (v:Value),cs[j]? = some v→w'.cell? ⟨w.heap.size,j,none⟩ = some v)
  (hown:∀ j,j < cs.length + sp→(∃ v,w'.cell? ⟨w.heap.size,j,none⟩ = some v)∧hard w' ⟨w.heap.size,j,none⟩ = false) :
  ρ.le (ρ.add d (w.heap.size,0))∧ConcM (ρ.add d (w.heap.size,0)) ((d,.mem true sp ls) :: M) w'∧Step ρ M (ρ.add d (w.heap.size,0)) ((d,.mem true sp ls) :: M) w w':=by
 have hnd:¬ ρ.dom d:=by
  intro hx
  obtain ⟨e,he⟩:=h.dom d hx
  rw [hd] at he;cases he
 have hle:=Env.le_add (w.heap.size,0) hnd
 have pne:∀ {a},a ≠ d→(ρ.add d (w.heap.size,0)).pos a = ρ.pos a:=by
  intro a ha;simp only [Env.add];rw [if_neg ha]
 have pd:(ρ.add d (w.heap.size,0)).pos d = (w.heap.size,0):=by simp [Env.add]
 have hfoot:∀ k o,foot ((ρ.add d (w.heap.size,0)).pos d) (.mem true sp ls) k o→k = w.heap.size:=by
  intro k o hf;rw [pd] at hf;exact hf.1
 have hold:∀ a e,getM M a = some e→∀ k o,foot ((ρ.add d (w.heap.size,0)).pos a) e k o→k < w.heap.size:=by
  intro a e he k o hf
  have hne:a ≠ d:=by rintro rfl;rw [hd] at he;cases he
  rw [pne hne] at hf
  exact foot_lt (h.sat a e he) hf
 have ownN:∀ b o,b < w.heap.size→Owns (ρ.add d (w.heap.size,0)) ((d,.mem true sp ls) :: M) b o→Owns ρ M b o:=by
  intro b o hb ho
  obtain ⟨a,e,he,hown,hf⟩:=ho
  by_cases ha:a = d
  ·subst ha
   rw [getM_cons_self] at he
   obtain rfl:Ent.mem true sp ls = e:=by simpa using he
   have:=hfoot b o hf
   omega
  ·rw [getM_cons_ne ha] at he
   rw [pne ha] at hf
   exact ⟨a,e,he,hown,hf⟩
 refine ⟨hle,⟨?_,?_,?_,?_,fun b o ls hi=>(h.imm b o ls hi).keep (fun _ _ _ h=>h) hg.size (fun _ _=>(hg.cell ((h.imm b o ls hi).1 (by omega))).1),fun b o hi ho=>h.isep b o hi (ownN b o (h.immc_lt (ρ:=ρ) hi) ho)⟩,?_⟩
 ·intro a ha
  by_cases hne:a = d
  ·subst hne;exact ⟨_,getM_cons_self _ _ _⟩
  ·rw [getM_cons_ne hne]
   exact h.dom a (ha.resolve_left hne)
 ·intro a e he
  by_cases hne:a = d
  ·exact Or.inl hne
  ·rw [getM_cons_ne hne] at he;exact Or.inr (h.mod a e he)
 ·intro a e he
  by_cases hne:a = d
  ·subst hne
   rw [getM_cons_self] at he
   obtain rfl:Ent.mem true sp ls = e:=by simpa using he
   rw [pd]
   refine ⟨cs,hcs.le hle,⟨fun _=>hlt,fun hh=>by cases hh⟩,fun j v hj=>?_,fun ho j hj=>?_⟩
   ·rw [Nat.zero_add];exact hcell j v hj
   ·rw [Nat.zero_add];exact hown j (by rw [hcs.length];exact hj)
  ·rw [getM_cons_ne hne] at he
   rw [pne hne]
   exact (h.sat a e he).grows hle hg
 ·intro a b e e' he he' hab ho k o hf hf'
  by_cases ha:a = d
  ·subst ha
   have hb:b ≠ a:=fun e=>hab e.symm
   rw [getM_cons_ne hb] at he'
   rw [getM_cons_self] at he
   obtain rfl:Ent.mem true sp ls = e:=by simpa using he
   have h1:=hfoot k o hf
   have h2:=hold b e' he' k o hf'
   omega
  ·rw [getM_cons_ne ha] at he
   by_cases hb:b = d
   ·subst hb
    rw [getM_cons_self] at he'
    obtain rfl:Ent.mem true sp ls = e':=by simpa using he'
    have h1:=hfoot k o hf'
    have h2:=hold a e he k o hf
    omega
   ·rw [getM_cons_ne hb] at he'
    rw [pne ha] at hf
    rw [pne hb] at hf'
    exact h.sep a b e e' he he' hab ho k o hf hf'
 ·exact ⟨hg.size,hg.os,hg.output,fun b hb _=>hg.blk b hb,fun b o hb _=>hg.cell hb,fun b o hb ho=>ownN b o hb ho,fun _ _ _ h=>Or.inl h⟩
def zeroGen (zl:List (Nat × SV)) (es n:Nat):Option (List (Nat × SV)):=
  bif noRowL zl && bareL zl && Nat.beq (sizeL zl) es && Nat.blt 0 es then
    (match es with
     | 1=>some [(n,.arr n 1 (fun _=>boolL zl))]
     | es=>some [(n * es,.arr n es (fun _=>zl))]) else none
def zero1R (v:SV) (n:Nat):Option SV:=
 match v with
 | .u8 x=>some (.a8 (List.replicate n x))
 | .u16 x=>some (.a16 (List.replicate n x))
 | .u32 x=>some (.a32 (List.replicate n x))
 | .u64 x=>some (.a64 (List.replicate n x))
 | .i k x=>match k with
  | .i64=>some (.ai (List.replicate n x))
  | _=>none
 | _=>none
def zeroRow (y:Ty) (n:Nat):Option (List (Nat × SV)):=
 match y.zl with
 | []=>none
 | [(s,v)]=>match zero1R v n with
  | some u=>bif Nat.beq y.size 1 && Nat.beq s 1 then some [(n,u)] else none
  | none=>zeroGen [(s,v)] y.size n
 | zl=>zeroGen zl y.size n
theorem madeCells_at (z:Array Value) (m j:Nat) (h:j < m):(madeCells z m).toList[j]? = some z[j % z.size]!:=by
 simp [madeCells,h]
theorem made_chunk {z:Array Value} {es:Nat} (hz:z.size = es) {q m:Nat} (hq:q < m):((madeCells z (m * es)).toList.drop (q * es)).take es = z.toList:=by
 have hb:(q + 1) * es ≤ m * es:=Nat.mul_le_mul_right _ hq
 rw [Nat.add_mul,Nat.one_mul] at hb
 apply List.ext_getElem?
 intro j
 rw [List.getElem?_take]
 split
 ·rename_i hj
  rw [List.getElem?_drop]
  rw [madeCells_at _ _ _ (by omega),hz,show (q * es + j) % es = j by rw [Nat.add_comm,Nat.add_mul_mod_self_right,Nat.mod_eq_of_lt hj]]
  simp only [Array.getElem?_toList]
  rw [Array.getElem?_eq_getElem (by omega),getElem!_pos z j (by omega)]
 ·rw [List.getElem?_eq_none]
  simp;omega
theorem made_length (z:Array Value) (m:Nat):(madeCells z m).toList.length = m:=by simp [madeCells]
theorem made_take {z:Array Value} {n m es:Nat} (hz:z.size = es) (h:n ≤ m):(madeCells z (m * es)).toList.take (n * es) = (madeCells z (n * es)).toList:=by
 have hb:n * es ≤ m * es:=Nat.mul_le_mul_right _ h
 apply List.ext_getElem?
 intro j
 rw [List.getElem?_take]
 split
 ·rename_i hj
  rw [madeCells_at _ _ _ (by omega),madeCells_at _ _ _ hj]
 ·rw [List.getElem?_eq_none]
  rw [made_length];omega
theorem made_one (v:Value) (n:Nat):(madeCells #[v] (n * 1)).toList = List.replicate n v:=by
 rw [Nat.mul_one];exact toList_madeCells_one v n
theorem zero1R_cells {ρ:Env} {v u:SV} {n:Nat} (h:zero1R v n = some u):∃ x,zero1 v = [x]∧Cells1 ρ u (List.replicate n x):=by
 unfold zero1R at h
 split at h
 ·simp only [Option.some.injEq] at h;subst h;exact ⟨_,rfl,by simp only [Cells1,List.map_replicate]⟩
 ·simp only [Option.some.injEq] at h;subst h;exact ⟨_,rfl,by simp only [Cells1,List.map_replicate]⟩
 ·simp only [Option.some.injEq] at h;subst h;exact ⟨_,rfl,by simp only [Cells1,List.map_replicate]⟩
 ·simp only [Option.some.injEq] at h;subst h;exact ⟨_,rfl,by simp only [Cells1,List.map_replicate]⟩
 ·split at h
  ·simp only [Option.some.injEq] at h;subst h;exact ⟨_,rfl,by simp only [Cells1,List.map_replicate,wi]⟩
  ·cases h
 ·cases h
theorem zeroGen_cells {ρ:Env} {zl ls:List (Nat × SV)} {es n:Nat} (h:zeroGen zl es n = some ls) {z:Array Value} (hz:z.toList = zeroL zl) (hzs:zeroSizes zl = true) :
  z.size = es∧0 < es∧CellsL ρ ls (madeCells z (n * es)).toList:=by
 have hb:=(bif_none h).1
 replace h:=(bif_none h).2
 simp only [Bool.and_eq_true] at hb
 have h1:=beq_eq' hb.1.2
 have hpos:0 < es:=u_lt_of hb.2
 have hlen:z.size = es:=by
  have:=(zeroL_cells ρ hzs).length
  rw [← hz,h1] at this
  simpa using this
 have key:CellsL ρ [(n * es,.arr n es (fun _=>zl))] (madeCells z (n * es)).toList:=by
  refine ⟨_,[],(List.append_nil _).symm,made_length _ _,⟨made_length _ _,fun q hq=>?_⟩,rfl⟩
  rw [made_chunk hlen hq,hz]
  exact bareL_cells hb.1.1.2 (zeroL_cells ρ hzs)
 have keyB:CellsL ρ [(n * es,.arr n es (fun _=>boolL zl))] (madeCells z (n * es)).toList:=by
  refine ⟨_,[],(List.append_nil _).symm,made_length _ _,⟨made_length _ _,fun q hq=>?_⟩,rfl⟩
  rw [made_chunk hlen hq,hz]
  exact boolL_cells (bareL_cells hb.1.1.2 (zeroL_cells ρ hzs))
 refine ⟨hlen,hpos,?_⟩
 split at h <;> simp only [Option.some.injEq] at h <;> subst h
 ·rw [Nat.mul_one] at keyB ⊢
  exact keyB
 ·exact key
theorem zeroRow_sound {P:Program} {w:World} {t:Nat} {y:Ty} (hy:TyOK P t y) {n:Nat} {ls:List (Nat × SV)} (h:zeroRow y n = some ls) (ρ:Env) :
  ∃ z,(∃ i,P.info? t = some i∧i.zero = some z∧i.size = y.size∧i.bytes = y.bytes)∧(zeroValue t).run P w = .ok z w∧z.cells.size = y.size∧0 < y.size∧CellsL ρ ls (madeCells z.cells (n * y.size)).toList:=by
 have hzl:y.zl ≠ []:=by
  intro e;unfold zeroRow at h;rw [e] at h;cases h
 obtain ⟨i,hi,hi1,hi2,hi3⟩:=hy.info
 obtain ⟨z,hz,hzc,hzs,_⟩:=hi3 hzl
 have hrun:(zeroValue t).run P w = .ok z w:=by simp [zeroValue,typeInfo,hi,hz]
 refine ⟨z,⟨i,hi,hz,hi1,hi2⟩,hrun,?_⟩
 unfold zeroRow at h
 split at h
 ·cases h
 ·rename_i s v hv
  rw [hv] at hzc hzs
  split at h
  ·rename_i u hu
   have hb:=(bif_none h).1
   replace h:=(bif_none h).2
   simp only [Option.some.injEq] at h;subst h
   simp only [Bool.and_eq_true] at hb
   have h1:=beq_eq' hb.1
   obtain ⟨x,hx,hc⟩:=zero1R_cells (ρ:=ρ) hu
   have hcell:z.cells = #[x]:=by apply Array.ext';rw [hzc];simp [zeroL,hx]
   rw [h1,hcell,made_one]
   exact ⟨rfl,by omega,⟨_,[],(List.append_nil _).symm,by simp,hc,rfl⟩⟩
  ·exact zeroGen_cells h hzc hzs
 ·exact zeroGen_cells h hzc hzs
def Env.addI (ρ:Env) (b o:Nat) (ls:List (Nat × SV)):Env:=⟨ρ.dom,ρ.pos,fun b' o' ls'=>ρ.imm b' o' ls' ∨ (b' = b∧o' = o∧ls' = ls)⟩
theorem Env.le_addI (ρ:Env) (b o:Nat) (ls:List (Nat × SV)):ρ.le (ρ.addI b o ls):=⟨fun _ h=>⟨h,rfl⟩,fun _ _ _ h=>Or.inl h⟩
def bareR:List (Nat × SV)→Bool
 | []=>true
 | (_,v) :: r=>(bareV v || isRow v) && bareR r
theorem bareR_cells {ρ:Env}:∀ {ls:List (Nat × SV)} (_:bareR ls = true) {cs:List Value},CellsL ρ ls cs→CellsL ρ.bare ls cs
 | [],_,_,h=>h
 | (_,v) :: _,hb,_,⟨c1,c2,e,hl,h1,h2⟩=>by
  simp only [bareR,Bool.and_eq_true,Bool.or_eq_true] at hb
  refine ⟨c1,c2,e,hl,?_,bareR_cells hb.2 h2⟩
  rcases hb.1 with hv | hv
  ·exact Cells0_Cells1 (bareV_cells hv h1)
  ·exact Cells1_row (ρ:=ρ) (ρ':=ρ.bare) (fun _ _ _ h=>h) hv h1
theorem ConcM.keep {ρ:Env} {M:Mm} {w:World} (h:ConcM ρ M w) {a sp:Nat} {ls:List (Nat × SV)} (ha:getM M a = some (.mem true sp ls)) (hb:bareR ls = true) :
  let ρ':=ρ.addI (ρ.pos a).1 (ρ.pos a).2 ls
  ConcM ρ' ((a,.mem false 1 ls) :: M) w∧Step ρ M ρ' ((a,.mem false 1 ls) :: M) w w:=by
 intro ρ'
 have hle:ρ.le ρ':=Env.le_addI _ _ _ _
 obtain ⟨cs,c1,c2,c3,c4⟩:=h.sat a _ ha
 have hsub:∀ k o,foot (ρ.pos a) (.mem false 1 ls) k o→foot (ρ.pos a) (.mem true sp ls) k o:=by
  rintro k o ⟨f1,f2,f3⟩
  simp only [Bool.false_eq_true,if_false] at f3
  exact ⟨f1,f2,by simp only [if_true];omega⟩
 have ownN:∀ k p,Owns ρ' ((a,.mem false 1 ls) :: M) k p→Owns ρ M k p∧¬ foot (ρ.pos a) (.mem true sp ls) k p:=by
  rintro k p ⟨c,e,he,hown,hf⟩
  by_cases hc:c = a
  ·subst hc
   rw [getM_cons_self] at he
   obtain rfl:Ent.mem false 1 ls = e:=by simpa using he
   cases hown
  ·rw [getM_cons_ne hc] at he
   exact ⟨⟨c,e,he,hown,hf⟩,h.sep c a e _ he ha hc hown k p hf⟩
 have immN:∀ k p,ImmC ρ' k p→ImmC ρ k p ∨ foot (ρ.pos a) (.mem true sp ls) k p:=by
  rintro k p ⟨o',ls',j,hi,hj,rfl⟩
  rcases hi with hi | ⟨rfl,rfl,rfl⟩
  ·exact Or.inl ⟨o',ls',j,hi,hj,rfl⟩
  ·exact Or.inr ⟨rfl,by omega,by simp only [if_true];omega⟩
 have hpos:sizeL ls ≠ 0→(ρ.pos a).1 < w.heap.size:=fun hn=>c2.1 (by simp only [if_true];omega)
 refine ⟨⟨?_,?_,?_,?_,?_,fun k p hi ho=>?_⟩,⟨Nat.le_refl _,rfl,rfl,fun _ _ _=>rfl,fun _ _ _ _=>⟨rfl,rfl⟩,fun k p _ ho=>(ownN k p ho).1,fun k p _ hi=>?_⟩⟩
 ·intro b hb'
  by_cases hne:b = a
  ·subst hne;exact ⟨_,getM_cons_self _ _ _⟩
  ·rw [getM_cons_ne hne];exact h.dom b hb'
 ·intro b e he
  by_cases hne:b = a
  ·subst hne;exact h.mod _ _ ha
  ·rw [getM_cons_ne hne] at he;exact h.mod b e he
 ·intro b e he
  by_cases hne:b = a
  ·subst hne
   rw [getM_cons_self] at he
   obtain rfl:Ent.mem false 1 ls = e:=by simpa using he
   exact ⟨cs,c1.le hle,⟨fun hn=>hpos (by simpa using hn),fun _ _=>Env.immO.of (Or.inr ⟨rfl,rfl,rfl⟩)⟩,c3,fun hh=>by cases hh⟩
  ·rw [getM_cons_ne hne] at he
   exact SatE.of_same hle (Nat.le_refl _) (fun _ _ _=>⟨rfl,rfl⟩) (fun _ _ _=>rfl) (h.sat b e he)
 ·intro b c e e' he he' hbc ho k o hf hf'
  by_cases hb':b = a
  ·subst hb'
   rw [getM_cons_self] at he
   obtain rfl:Ent.mem false 1 ls = e:=by simpa using he
   cases ho
  ·rw [getM_cons_ne hb'] at he
   by_cases hc:c = a
   ·subst hc
    rw [getM_cons_self] at he'
    obtain rfl:Ent.mem false 1 ls = e':=by simpa using he'
    exact h.sep b c e _ he ha hbc ho k o hf (hsub k o hf')
   ·rw [getM_cons_ne hc] at he'
    exact h.sep b c e e' he he' hbc ho k o hf hf'
 ·rintro b o ls' (hi | ⟨rfl,rfl,rfl⟩)
  ·exact (h.imm b o ls' hi).keep hle.im (Nat.le_refl _) (fun _ _=>rfl)
  ·exact ⟨hpos,cs,(bareR_cells hb c1).le (Env.bare_mono hle.im),c3⟩
 ·obtain ⟨h1,h2⟩:=ownN k p ho
  rcases immN k p hi with h3 | h3
  ·exact h.isep k p h3 h1
  ·exact h2 h3
 ·rcases immN k p hi with h3 | h3
  ·exact Or.inl h3
  ·exact Or.inr ⟨a,_,ha,rfl,h3⟩
def sameOpd:Operand→Operand→Bool
 | .tmp a,.tmp b=>Nat.beq a b
 | .const (.int _ (.ofNat a)),.const (.int _ (.ofNat b))=>Nat.beq a b
 | _,_=>false
def mulE (n es:Nat):Nat:=
 match es with
 | 1=>n
 | es=>n * es
theorem mulE_eq (n es:Nat):mulE n es = n * es:=by
 unfold mulE;split
 ·rw [Nat.mul_one]
 ·rfl
theorem CellsL_append {ρ:Env}:∀ {l1 l2:List (Nat × SV)} {c1 c2:List Value},CellsL ρ l1 c1→CellsL ρ l2 c2→CellsL ρ (l1 ++ l2) (c1 ++ c2)
 | [],_,_,_,h1,h2=>by
  have e:=h1
  simp only [CellsL] at e
  subst e
  exact h2
 | (_,_) :: _,_,_,_,⟨a,b,e,hl,h1,h2⟩,h3=>⟨a,b ++ _,by rw [e,List.append_assoc],hl,h1,CellsL_append h2 h3⟩
def toldLen (ty:Nat→Ty) (e:Nat) (i1:Ix) (i2:Option (List Prop × Ix)):Option (List Prop × Nat):=
 match i1 with
 | .lit 0=>match i2 with
  | some (ps2,.lit (m + 1))=>bif Nat.blt 1 (ty e).size then some (ps2,m + 1) else none
  | _=>none
 | _=>none
def makeV (ty:Nat→Ty) (T:Tm) (d t:Nat) (l c:Operand):Option (List Prop × Ent × SV):=
  match (ty t).k with
  | .slice e=>match (ty e).k with
    | .bad=>none
    | _=>match ixO T l with
      | some (ps1,i1)=>match zeroRow (ty e) i1.val with
        | some ls=>match toldLen ty e i1 (ixO T c) with
         | some (ps2,m)=>match zeroRow (ty e) m with
           | some ls2=>some (((ty e).bytes * m ≤ 281474976710656) :: (m ≤ 9223372036854775807) :: (ps1 ++ ps2),.mem true 0 (ls2 ++ [(0,.a8 [])]),.sl d 0 0 0 m)
           | none=>none
         | none=>bif sameOpd l c then some (((ty e).bytes * i1.val ≤ 281474976710656) :: (i1.val ≤ 9223372036854775807) :: ps1,.mem true 0 ls,.sl d 0 0 i1.val i1.val)
          else match ixO T c with
            | some (ps2,i2)=>some ((i1.val ≤ i2.val) :: ((ty e).bytes * i2.val ≤ 281474976710656) :: (i2.val ≤ 9223372036854775807) :: (ps1 ++ ps2),.mem true (mulE (i2.val - i1.val) (ty e).size) ls,.sl d 0 0 i1.val i2.val)
            | none=>none
        | none=>none
      | none=>none
  | _=>none
theorem sameOpd_sound {N:Nat} {ρ:Env} {T:Tm} {M:Mm} {a:Act} {w:World} (_:Conc N ρ T M a w) {l c:Operand} (h:sameOpd l c = true) {k:IntKind} {n:Int} (hl:a.eval l = .int k n):∃ k',a.eval c = .int k' n:=by
 unfold sameOpd at h
 split at h
 ·have:=beq_eq' h
  subst this
  exact ⟨k,hl⟩
 ·rename_i k1 x k2 y
  have:=beq_eq' h
  subst this
  have e:Value.int k1 (Int.ofNat x) = .int k n:=hl
  simp only [Value.int.injEq] at e
  exact ⟨k2,by show Value.int k2 (Int.ofNat x) = _;rw [e.2]⟩
 ·cases h
theorem makeV_sound {Γ:Ctx} {N:Nat} {ρ:Env} {T:Tm} {M:Mm} {a:Act} {w:World} (hc:Conc N ρ T M a w) {d t:Nat} {l c:Operand} {ps:List Prop} {e:Ent} {v:SV} (hd:getM M d = none)
  (h:makeV Γ.ty T d t l c = some (ps,e,v)) (hp:All ps) :
  ∃ x w' ρ',(Instr.makeSlice t (a.eval l) (a.eval c)).run Γ.P w = .ok x w'∧ρ.le ρ'∧ConcM ρ' ((d,e) :: M) w'∧Step ρ M ρ' ((d,e) :: M) w w'∧RelT ρ' v x:=by
 unfold makeV at h
 split at h
 ·rename_i el hk
  have ut:=und_slice (Γ.ok (t:=t) (by rw [hk];simp)) hk
  split at h
  ·cases h
  rename_i hb
  have oe:=Γ.ok (t:=el) hb
  split at h
  ·rename_i ps1 i1 hl
   split at h
   ·rename_i ls hz
    obtain ⟨z,⟨i,hi,hzz,hi1,hi2⟩,_,hzs,hpos,hcells⟩:=zeroRow_sound (w:=w) oe hz ρ
    have key:∀ (k1 k2:IntKind) (m:Nat),a.eval l = .int k1 (i1.val:Int)→a.eval c = .int k2 (m:Int)→i1.val ≤ m→(Γ.ty el).bytes * m ≤ 281474976710656→m ≤ 9223372036854775807 →
      ∃ x w' ρ',(Instr.makeSlice t (a.eval l) (a.eval c)).run Γ.P w = .ok x w'∧ρ.le ρ'∧ConcM ρ' ((d,.mem true ((m - i1.val) * (Γ.ty el).size) ls) :: M) w'∧Step ρ M ρ' ((d,.mem true ((m - i1.val) * (Γ.ty el).size) ls) :: M) w w'∧RelT ρ' (.sl d 0 0 i1.val m) x:=by
     intro k1 k2 m h1 h2 hle hby h63
     have hrun:=run_make w t el i z ut hi hzz k1 k2 (i1.val:Int) (m:Int) (by omega) (by omega) (by rw [hi2,← Int.natCast_mul];exact Int.ofNat_le.2 hby) (by omega)
     rw [← h1,← h2] at hrun
     simp only [Int.toNat_natCast,hi1] at hrun
     have hlen:=hcells.length
     rw [made_length] at hlen
     have hmul:i1.val * (Γ.ty el).size + (m - i1.val) * (Γ.ty el).size = m * (Γ.ty el).size:=by rw [← Nat.add_mul,show i1.val + (m - i1.val) = m by omega]
     obtain ⟨n1,n2,n3⟩:=hc.toConcM.alloc (t:=el) (cells:=madeCells z.cells (m * (Γ.ty el).size)) (sp:=(m - i1.val) * (Γ.ty el).size) hd hcells (fun j v hj=>by
      rw [← made_take (m:=m) (by rw [hzs]) hle] at hj
      rw [List.getElem?_take] at hj
      split at hj
      ·simpa using hj
      ·cases hj) (by rw [size_madeCells,made_length,hmul])
     refine ⟨_,_,_,hrun,n1,n2,n3,RelT_of_Rel ⟨Or.inl rfl,hle,_,rfl,fun _=>?_⟩⟩
     simp [Env.addr,Env.add]
    split at h
    ·rename_i ps2 m ht
     split at h
     ·rename_i ls2 hz2
      simp only [Option.some.injEq,Prod.mk.injEq] at h;obtain ⟨rfl,rfl,rfl⟩:=h
      unfold toldLen at ht
      split at ht
      ·split at ht
       ·rename_i qs2 m2 hcc
        have h:=(bif_none ht).2
        simp only [Option.some.injEq,Prod.mk.injEq] at h;obtain ⟨rfl,rfl⟩:=h
        obtain ⟨k1,h1⟩:=ixO_sound hc hl hp.tail.tail.left
        obtain ⟨k2,h2⟩:=ixO_sound hc hcc hp.tail.tail.right
        have h1:a.eval l = .int k1 ((0:Nat):Int):=h1
        have h2:a.eval c = .int k2 ((m2 + 1:Nat):Int):=h2
        obtain ⟨z',⟨i',hi',hzz',hi1',hi2'⟩,_,hzs',hpos',hcells'⟩:=zeroRow_sound (w:=w) oe hz2 ρ
        have e1:i' = i:=Option.some.inj (hi'.symm.trans hi)
        subst e1
        have e2:z' = z:=Option.some.inj (hzz'.symm.trans hzz)
        subst e2
        have hby:=hp.head
        have h63:=hp.tail.head
        have hrun:=run_make w t el i' z' ut hi hzz k1 k2 ((0:Nat):Int) ((m2 + 1:Nat):Int) (by omega) (by omega) (by rw [hi2,← Int.natCast_mul];exact Int.ofNat_le.2 hby) (by omega)
        rw [← h1,← h2] at hrun
        simp only [Int.toNat_natCast,hi1] at hrun
        have hcl:CellsL ρ (ls2 ++ [(0,.a8 [])]) ((madeCells z'.cells ((m2 + 1) * (Γ.ty el).size)).toList ++ []):=CellsL_append hcells' ⟨[],[],rfl,rfl,rfl,rfl⟩
        rw [List.append_nil] at hcl
        obtain ⟨n1,n2,n3⟩:=hc.toConcM.alloc (t:=el) (cells:=madeCells z'.cells ((m2 + 1) * (Γ.ty el).size)) (sp:=0) hd hcl (fun j v hj=>by simpa using hj) (by rw [Nat.add_zero];simp)
        refine ⟨_,_,_,hrun,n1,n2,n3,RelT_of_Rel ⟨Or.inl rfl,Nat.zero_le _,_,rfl,fun _=>?_⟩⟩
        simp [Env.addr,Env.add]
       ·cases ht
      ·cases ht
     ·cases h
    rcases bif_some h with ⟨hs,h⟩ | ⟨_,h⟩
    ·simp only [Option.some.injEq,Prod.mk.injEq] at h;obtain ⟨rfl,rfl,rfl⟩:=h
     obtain ⟨k1,h1⟩:=ixO_sound hc hl hp.tail.tail
     obtain ⟨k2,h2⟩:=sameOpd_sound hc hs h1
     have:=key k1 k2 i1.val h1 h2 (Nat.le_refl _) hp.head hp.tail.head
     rw [Nat.sub_self,Nat.zero_mul] at this
     exact this
    ·split at h
     ·rename_i ps2 i2 hcc
      simp only [Option.some.injEq,Prod.mk.injEq] at h;obtain ⟨rfl,rfl,rfl⟩:=h
      obtain ⟨k1,h1⟩:=ixO_sound hc hl hp.tail.tail.tail.left
      obtain ⟨k2,h2⟩:=ixO_sound hc hcc hp.tail.tail.tail.right
      have:=key k1 k2 i2.val h1 h2 hp.head hp.tail.head hp.tail.tail.head
      rw [mulE_eq]
      exact this
     ·cases h
   ·cases h
  ·cases h
 ·cases h
def repL:Nat→List (Nat × SV)→List (Nat × SV)
 | 0,_=>[]
 | n + 1,zl=>zl ++ repL n zl
theorem repL_cells {ρ:Env} {zl:List (Nat × SV)} {L:List Value} (hL:CellsL ρ zl L) {es:Nat} (hes:L.length = es):∀ (n:Nat) (X:List Value),X.length = n * es→(∀ q,q < n→(X.drop (q * es)).take es = L)→CellsL ρ (repL n zl) X
 | 0,X,hX,_=>by
  rw [Nat.zero_mul] at hX
  have:=List.eq_nil_of_length_eq_zero hX
  subst this
  rfl
 | n + 1,X,hX,h=>by
  rw [Nat.add_mul,Nat.one_mul] at hX
  have h0:=h 0 (by omega)
  rw [Nat.zero_mul,List.drop_zero] at h0
  have:X = X.take es ++ X.drop es:=(List.take_append_drop es X).symm
  rw [this,h0]
  refine CellsL_append hL (repL_cells hL hes n _ (by rw [List.length_drop];omega) fun q hq=>?_)
  have:=h (q + 1) (by omega)
  rw [List.drop_drop,show es + q * es = (q + 1) * es by rw [Nat.add_mul];omega]
  exact this
def lenArr:SV→Option Nat
 | .a8 l=>some l.length
 | .a16 l=>some l.length
 | .a32 l=>some l.length
 | .a64 l=>some l.length
 | .ai l=>some l.length
 | _=>none
def litS (ty:Nat→Ty) (T:Tm) (e len:Nat) (parts:List (Nat × Operand)):Option (List Prop × List (Nat × SV)):=
 match zeroRow (ty e) len with
 | none=>none
 | some ls=>match len with
  | 0=>some ([],ls)
  | _=>match litV T ls parts with
   | some v=>match lenArr v with
    | some n=>some ([n = len],[(len,v)])
    | none=>none
   | none=>buildParts ty T (fun i=>some (mulE i (ty e).size,e)) (repL len (ty e).zl) parts
def bsV (ty:Nat→Ty) (T:Tm) (d t len:Nat) (parts:List (Nat × Operand)):Option (List Prop × Ent × SV):=
 match (ty t).k with
 | .slice e=>match (ty e).k with
  | .bad=>none
  | _=>bif Nat.ble (len * (ty e).size) 16777216 then match litS ty T e len parts with
    | some (ps,ls)=>some (ps,.mem true 0 ls,.sl d 0 0 len len)
    | none=>none
   else none
 | _=>none
theorem fill_size:∀ (place:Nat→Option (Nat × Nat)) (parts:List (Nat × Value)) (cs cs':Array Value),Instr.fill place cs parts = some cs'→cs'.size = cs.size
 | _,[],cs,cs',h=>by simp only [Instr.fill,Option.some.injEq] at h;rw [h]
 | place,(i,v) :: r,cs,cs',h=>by
  simp only [Instr.fill] at h
  split at h
  ·cases h
  ·split at h
   ·cases h
   ·rename_i off size _ hn
    rw [fill_size place r _ _ h]
    have:∀ (l:List (Value × Nat)) (c:Array Value),(l.foldl (fun (cs:Array Value) (x:Value × Nat)=>cs.setIfInBounds (off + x.2) x.1) c).size = c.size:=by
     intro l
     induction l with
     | nil=>intro c;rfl
     | cons y r ih=>intro c;rw [List.foldl_cons,ih];simp
    have h2:=this v.cells.zipIdx.toList cs
    rw [← Array.foldl_toList]
    exact h2
theorem litS_sound {Γ:Ctx} {N:Nat} {ρ:Env} {T:Tm} {M:Mm} {a:Act} {w:World} (hc:Conc N ρ T M a w) {e len:Nat} (hb:(Γ.ty e).k ≠ .bad) {parts:List (Nat × Operand)} {ps:List Prop} {ls:List (Nat × SV)}
  (h:litS Γ.ty T e len parts = some (ps,ls)) (hp:All ps) (h0:len = 0→parts = []) :
  ∃ i z cells,Γ.P.info? e = some i∧i.zero = some z∧i.size = (Γ.ty e).size∧0 < i.size∧z.cells.size = i.size ∧
   Instr.fill (fun j=>some (j * i.size,i.size)) (madeCells z.cells (len * i.size)) (parts.map fun (i,x)=>(i,a.eval x)) = some cells∧CellsL ρ ls cells.toList:=by
 have oe:=Γ.ok (t:=e) hb
 unfold litS at h
 split at h
 ·cases h
 ·rename_i ls0 hz
  obtain ⟨z,⟨i,hi,hzz,hi1,hi2⟩,_,hzs,hpos,hcells⟩:=zeroRow_sound (w:=w) oe hz ρ
  have hcells':=hcells
  rw [← hi1] at hcells'
  refine ⟨i,z,?_⟩
  split at h
  ·simp only [Option.some.injEq,Prod.mk.injEq] at h;obtain ⟨rfl,rfl⟩:=h
   rw [h0 rfl]
   exact ⟨_,hi,hzz,hi1,by omega,by rw [hzs,hi1],rfl,by simpa using hcells'⟩
  ·split at h
   ·rename_i v hv
    split at h
    ·rename_i n hn
     simp only [Option.some.injEq,Prod.mk.injEq] at h;obtain ⟨rfl,rfl⟩:=h
     have hlen:=hp.head
     obtain ⟨cs,hf,hr⟩:=litV_sound hc hv
     have hz1:(Γ.ty e).size = 1∧(zeroL ls0) = (madeCells z.cells (len * i.size)).toList:=by
      have hcl:=hcells'
      unfold litV at hv
      split at hv
      ·rename_i s0 z0
       have hsz:=hcells.length
       rw [made_length] at hsz
       obtain ⟨c1,c2,e1,e2,e3,e4⟩:=hcl
       have e4:c2 = []:=e4
       subst e4
       rw [List.append_nil] at e1
       have hz0:(Γ.ty e).size = 1:=by
        unfold zeroRow at hz
        split at hz
        ·cases hz
        ·split at hz
         ·have hb:=(bif_none hz).1
          simp only [Bool.and_eq_true] at hb
          exact beq_eq' hb.1
         ·exfalso
          unfold zeroGen at hz
          replace hz:=(bif_none hz).2
          split at hz <;> simp only [Option.some.injEq,List.cons.injEq,Prod.mk.injEq] at hz <;> (obtain ⟨⟨_,rfl⟩,_⟩:=hz;first | (cases hv;done) | (split at hv <;> cases hv))
        ·exfalso
         unfold zeroGen at hz
         replace hz:=(bif_none hz).2
         split at hz <;> simp only [Option.some.injEq,List.cons.injEq,Prod.mk.injEq] at hz <;> (obtain ⟨⟨_,rfl⟩,_⟩:=hz;first | (cases hv;done) | (split at hv <;> cases hv))
       refine ⟨hz0,?_⟩
       rw [e1]
       split at hv <;> first
        | (simp only [zeroL,zero1,List.append_nil];exact e3.symm)
        | cases hv
      ·cases hv
     have hone:i.size = 1:=by omega
     refine ⟨cs,hi,hzz,hi1,by omega,by rw [hzs,hi1],?_,?_⟩
     ·rw [hz1.2,Array.toArray_toList] at hf
      simp only [hone]
      simp only [hone] at hf
      exact hf
     ·have hcs:cs.size = len:=by
       have:=fill_size _ _ _ _ hf
       rw [this,List.size_toArray,hz1.2,made_length,hone,Nat.mul_one]
      refine ⟨cs.toList,[],(List.append_nil _).symm,by simpa using hcs,?_,rfl⟩
      unfold lenArr at hn
      split at hn <;> first
       | cases hn;done
       | (have e:=congrArg Value.cells hr;simp only [Value.cells] at e;rw [e];simp [Cells1])
    ·cases h
   ·rename_i hne hnv
    have hlz:∀ q,q < len→((madeCells z.cells (len * i.size)).toList.drop (q * i.size)).take i.size = z.cells.toList:=fun q hq=>made_chunk (by rw [hzs,hi1]) hq
    have hzl:(Γ.ty e).zl ≠ []:=by intro e';unfold zeroRow at hz;rw [e'] at hz;cases hz
    obtain ⟨i',hi',_,_,hi3⟩:=oe.info
    rw [hi] at hi'
    simp only [Option.some.injEq] at hi';subst hi'
    obtain ⟨z',hz',hzc,hzzs,_⟩:=hi3 hzl
    rw [hzz] at hz'
    simp only [Option.some.injEq] at hz';subst hz'
    have hcl:CellsL ρ (Γ.ty e).zl z.cells.toList:=by rw [hzc];exact zeroL_cells ρ hzzs
    have hrep:=repL_cells hcl (es:=i.size) (by simp [hzs,hi1]) len _ (made_length _ _) hlz
    obtain ⟨cs',hf,hl'⟩:=buildParts_sound hc (fun j=>some (mulE j (Γ.ty e).size,e)) hrep h hp
    refine ⟨cs',hi,hzz,hi1,by omega,by rw [hzs,hi1],?_,hl'⟩
    simp only [Option.map_some,mulE_eq] at hf
    rw [hi1]
    rw [hi1] at hf
    exact hf
theorem bsV_sound {Γ:Ctx} {N:Nat} {ρ:Env} {T:Tm} {M:Mm} {a:Act} {w:World} (hc:Conc N ρ T M a w) {d t len:Nat} {parts:List (Nat × Operand)} {ps:List Prop} {e:Ent} {v:SV} (hd:getM M d = none)
  (h:bsV Γ.ty T d t len parts = some (ps,e,v)) (hp:All ps) (h0:len = 0→parts = []) :
  ∃ x w' ρ',(Instr.buildSlice t len (parts.map fun (i,x)=>(i,a.eval x)).toArray).run Γ.P w = .ok x w'∧ρ.le ρ'∧ConcM ρ' ((d,e) :: M) w'∧Step ρ M ρ' ((d,e) :: M) w w'∧RelT ρ' v x:=by
 unfold bsV at h
 split at h
 ·rename_i el hk
  have ut:=und_slice (Γ.ok (t:=t) (by rw [hk];simp)) hk
  split at h
  ·cases h
  rename_i hb
  have hble:=(bif_none h).1
  replace h:=(bif_none h).2
  split at h
  ·rename_i qs ls hl
   simp only [Option.some.injEq,Prod.mk.injEq] at h;obtain ⟨rfl,rfl,rfl⟩:=h
   obtain ⟨i,z,cells,hi,hz,hi1,hpos,hzs,hf,hcl⟩:=litS_sound hc hb hl hp h0
   have hsmall:¬ len * i.size > 2 ^ 24:=by
    have:=ble_le' hble
    rw [hi1];omega
   have hrun:(Instr.buildSlice t len (parts.map fun (i,x)=>(i,a.eval x)).toArray).run Γ.P w = .ok (.slice (some ⟨w.heap.size,0,none⟩) len len) (w.alloc (.cells cells el)):=by
    rcases Nat.eq_zero_or_pos len with hz0 | hz0
    ·subst hz0
     rw [h0 rfl] at hf ⊢
     simp only [List.map_nil,Instr.fill,Option.some.injEq] at hf
     subst hf
     have:madeCells z.cells (0 * i.size) = #[]:=by apply Array.ext';simp [madeCells]
     rw [this]
     have hr0:Array.range 0 = #[]:=rfl
     simp [Instr.buildSlice,run_underlying ut,sizeOf,typeInfo,hi,Instr.fill,newRow,hr0]
    ·exact run_buildSlice w t el len _ cells i z ut hi hz hsmall (Nat.ne_of_gt (Nat.mul_pos hz0 hpos)) (by simpa [madeCells] using hf)
   obtain ⟨n1,n2,n3⟩:=hc.toConcM.alloc (t:=el) (cells:=cells) (sp:=0) hd hcl (fun j v hj=>by simpa using hj) (by simp)
   refine ⟨_,_,_,hrun,n1,n2,n3,RelT_of_Rel ⟨Or.inl rfl,Nat.le_refl _,_,rfl,fun _=>?_⟩⟩
   simp [Env.addr,Env.add]
  ·cases h
 ·cases h
section
variable {P:Program} {w:World}
theorem run_app_none {t xt ty e:TypeId} {i:TypeInfo} (ht:P.underlying t = some (.slice e)) (hxt:(∃ e',P.underlying xt = some (.slice e')) ∨ P.underlying xt = some .string) (hi:P.info? e = some i)
  {n c m:Nat} {x:Value} {news:List Value} (hlen:(Builtin.lenOf x).run P w = .ok m w) (hf:(Builtin.firstCells i.size m x).run P w = .ok news.toArray w) (hroom:n + m ≤ c) :
  (Builtin.append_ #[t,xt] ty #[.slice none n c,x]).run P w = .ok (.slice none (n + m) c) w:=by
 rcases hxt with ⟨e',hxt⟩ | hxt <;> simp [Builtin.append_,run_underlying ht,run_underlying hxt,sizeOf,typeInfo,hi,hlen,hf,hroom]
theorem run_app_in {t xt ty e:TypeId} {i:TypeInfo} (ht:P.underlying t = some (.slice e)) (hxt:(∃ e',P.underlying xt = some (.slice e')) ∨ P.underlying xt = some .string) (hi:P.info? e = some i)
  {a:Addr} {n c m:Nat} {x:Value} {news:List Value} {w':World} (hlen:(Builtin.lenOf x).run P w = .ok m w) (hf:(Builtin.firstCells i.size m x).run P w = .ok news.toArray w) (hroom:n + m ≤ c)
  (hst:(storeCells (a.add (n * i.size)) news 0).run P w = .ok () w') :
  (Builtin.append_ #[t,xt] ty #[.slice (some a) n c,x]).run P w = .ok (.slice (some a) (n + m) c) w':=by
 rcases hxt with ⟨e',hxt⟩ | hxt <;> simp [Builtin.append_,run_underlying ht,run_underlying hxt,sizeOf,typeInfo,hi,hlen,hf,hroom,hst]
theorem run_app_grow {t xt ty e:TypeId} {i:TypeInfo} {z:Value} (ht:P.underlying t = some (.slice e)) (hxt:(∃ e',P.underlying xt = some (.slice e')) ∨ P.underlying xt = some .string) (hi:P.info? e = some i) (hz:i.zero = some z)
  {base:Option Addr} {n c m:Nat} {x:Value} {olds news:List Value} (hlen:(Builtin.lenOf x).run P w = .ok m w) (hf:(Builtin.firstCells i.size m x).run P w.drew = .ok news.toArray w.drew)
  (ho:(Builtin.firstCells i.size n (.slice base n c)).run P w.drew = .ok olds.toArray w.drew)
  (hg:c < n + m) (h63:((n + m:Nat):Int) ≤ 9223372036854775807) (hfit:Builtin.nextslicecap (n + m) c * i.bytes ≤ 281474976710656) :
  (Builtin.append_ #[t,xt] ty #[.slice base n c,x]).run P w = .ok (.slice (some ⟨w.heap.size,0,none⟩) (n + m) (grownCap w (n + m) c e))
    (w.drew.alloc (.cells ((olds ++ news).toArray ++ Builtin.zeroCells z.cells (grownCap w (n + m) c e - (n + m))) e)):=by
 have hn:¬ (n + m ≤ c):=by omega
 have h63':¬ (9223372036854775807 < ((n:Int) + (m:Int))):=by omega
 have h48':¬ (281474976710656 < Builtin.nextslicecap (n + m) c * i.bytes):=by omega
 rcases hxt with ⟨e',hxt⟩ | hxt <;>
  (simp [Builtin.append_,run_underlying ht,run_underlying hxt,sizeOf,typeInfo,zeroValue,hi,hz,hlen,hn,h63',h48',Question.forced,hf,ho,newRow,grownCap];try (congr 2;apply Array.ext';simp [List.append_assoc]))
theorem first_at {y:Option Addr} {n c es:Nat} {b o off:Nat} {cs:List Value} (hnc:n ≤ c) (hy:c ≠ 0→y = some ⟨b,o + off,none⟩) (hcs:∀ j v,cs[j]? = some v→w.cell? ⟨b,o + j,none⟩ = some v) (hl:off + n * es ≤ cs.length) :
  (Builtin.firstCells es n (.slice y n c)).run P w = .ok ((cs.drop off).take (n * es)).toArray w:=by
 rcases Nat.eq_zero_or_pos c with h0 | h0
 ·have hn:n = 0:=by omega
  subst hn
  cases y with
  | none=>simp [Builtin.firstCells]
  | some ad=>
   show (loadCells ad (0 * es)).run P w = _
   rw [Nat.zero_mul];rfl
 ·rw [hy (by omega)]
  show (loadCells _ (n * es)).run P w = _
  exact run_loadCells (by simp;omega) (fun j v hj=>by
   rw [List.getElem?_take] at hj
   split at hj
   ·rw [List.getElem?_drop] at hj
    rw [Nat.add_assoc];exact hcs _ _ hj
   ·cases hj)
end
end Go.Sx
namespace Go.Sx
open Go
theorem ConcM.kill {ρ:Env} {M:Mm} {w w':World} (h:ConcM ρ M w) {a sp:Nat} {ls:List (Nat × SV)} (ha:getM M a = some (.mem true sp ls)) {q:Nat} {nc:List Value}
  (hw:Wrote (ρ.pos a).1 ((ρ.pos a).2 + q) nc w w') (hq:q + nc.length ≤ sizeL ls + sp) :
  ConcM ρ ((a,.dead) :: M) w'∧Step ρ M ρ ((a,.dead) :: M) w w'∧(∀ k p,foot (ρ.pos a) (.mem true sp ls) k p→¬ Owns ρ ((a,.dead) :: M) k p∧¬ ImmC ρ k p∧∀ b e,getM ((a,.dead) :: M) b = some e→¬ foot (ρ.pos b) e k p) ∧
   ∀ j,j < sizeL ls + sp→(∃ v,w'.cell? ⟨(ρ.pos a).1,(ρ.pos a).2 + j,none⟩ = some v)∧hard w' ⟨(ρ.pos a).1,(ρ.pos a).2 + j,none⟩ = false:=by
 obtain ⟨cs,c1,c2,c3,c4⟩:=h.sat a _ ha
 have c4:=c4 rfl
 have hin:∀ p,(ρ.pos a).2 + q ≤ p→p < (ρ.pos a).2 + q + nc.length→foot (ρ.pos a) (.mem true sp ls) (ρ.pos a).1 p:=by
  intro p h1 h2;exact ⟨rfl,by omega,by simp only [if_true];omega⟩
 have hout:∀ k p,¬ foot (ρ.pos a) (.mem true sp ls) k p→w'.cell? ⟨k,p,none⟩ = w.cell? ⟨k,p,none⟩:=by
  intro k p hn
  refine hw.old k p fun hk=>?_
  subst hk
  rcases Nat.lt_or_ge p ((ρ.pos a).2 + q) with h1 | h1
  ·exact Or.inl h1
  ·rcases Nat.lt_or_ge p ((ρ.pos a).2 + q + nc.length) with h2 | h2
   ·exact absurd (hin p h1 h2) hn
   ·exact Or.inr h2
 have old:∀ {b e},getM ((a,.dead) :: M) b = some e→e ≠ .dead→b ≠ a∧getM M b = some e:=by
  intro b e he hne
  by_cases hb:b = a
  ·subst hb
   rw [getM_cons_self] at he
   simp only [Option.some.injEq] at he
   exact absurd he.symm hne
  ·rw [getM_cons_ne hb] at he;exact ⟨hb,he⟩
 have ownN:∀ k p,Owns ρ ((a,.dead) :: M) k p→Owns ρ M k p∧¬ foot (ρ.pos a) (.mem true sp ls) k p:=by
  rintro k p ⟨c,e,he,hown,hf⟩
  have hne:e ≠ .dead:=by rintro rfl;cases hown
  obtain ⟨h1,h2⟩:=old he hne
  exact ⟨⟨c,e,h2,hown,hf⟩,h.sep c a e _ h2 ha h1 hown k p hf⟩
 refine ⟨⟨?_,?_,?_,?_,?_,fun k p hi ho=>h.isep k p hi (ownN k p ho).1⟩,⟨by rw [hw.size];exact Nat.le_refl _,hw.os,hw.output,fun b hb hn=>?_,fun b o hb hn=>⟨hout b o fun hf=>hn ⟨a,_,ha,rfl,hf⟩,hw.frz b o⟩,fun k p _ ho=>(ownN k p ho).1,fun _ _ _ h=>Or.inl h⟩,fun k p hf=>⟨fun ho=>(ownN k p ho).2 hf,fun hi=>h.isep k p hi ⟨a,_,ha,rfl,hf⟩,fun b e he hf'=>?_⟩,fun j hj=>⟨?_,by rw [hw.frz];exact (c4 j hj).2⟩⟩
 ·intro b hb
  by_cases hne:b = a
  ·subst hne;exact ⟨_,getM_cons_self _ _ _⟩
  ·rw [getM_cons_ne hne];exact h.dom b hb
 ·intro b e he
  by_cases hne:b = a
  ·subst hne;exact h.mod _ _ ha
  ·rw [getM_cons_ne hne] at he;exact h.mod b e he
 ·intro b e he
  by_cases hd:e = .dead
  ·subst hd;trivial
  ·obtain ⟨h1,h2⟩:=old he hd
   refine SatE.of_same (Env.le_refl _) (by rw [hw.size];exact Nat.le_refl _) (fun k o hf=>⟨hout k o fun hf'=>?_,hw.frz k o⟩) (fun k hk hf=>?_) (h.sat b e h2)
   ·exact h.sep a b _ e ha h2 (fun e=>h1 e.symm) rfl k o hf' hf
   ·rcases Nat.eq_zero_or_pos nc.length with hz | hz
    ·by_cases hba:k = (ρ.pos a).1
     ·exact hw.blk0 hz k
     ·exact hw.blk k hba
    ·refine hw.blk k fun hba=>?_
     subst hba
     exact h.sep a b _ e ha h2 (fun e=>h1 e.symm) rfl _ _ (hin ((ρ.pos a).2 + q) (Nat.le_refl _) (by omega)) (hf _)
 ·intro b c e e' he he' hbc ho k o hf hf'
  have h1:e ≠ .dead:=by rintro rfl;cases ho
  have h2:e' ≠ .dead:=by rintro rfl;exact hf'
  exact h.sep b c e e' (old he h1).2 (old he' h2).2 hbc ho k o hf hf'
 ·intro b o ls' hi
  exact (h.imm b o ls' hi).keep (fun _ _ _ h=>h) (by rw [hw.size];exact Nat.le_refl _) (fun j hj=>hout _ _ fun hf=>h.isep b (o + j) (ImmC.mk hi hj) ⟨a,_,ha,rfl,hf⟩)
 ·rcases Nat.eq_zero_or_pos nc.length with hz | hz
  ·by_cases hba:b = (ρ.pos a).1
   ·exact hw.blk0 hz b
   ·exact hw.blk b hba
  ·refine hw.blk b fun hba=>?_
   subst hba
   exact hn ((ρ.pos a).2 + q) ⟨a,_,ha,rfl,hin _ (Nat.le_refl _) (by omega)⟩
 ·have h2:e ≠ .dead:=by rintro rfl;exact hf'
  obtain ⟨k1,k2⟩:=old he h2
  exact h.sep a b _ e ha k2 (fun e=>k1 e.symm) rfl k p hf hf'
 ·rcases Nat.lt_or_ge j q with h1 | h1
  ·rw [hw.old _ _ (fun _=>Or.inl (by omega))];exact (c4 j hj).1
  ·rcases Nat.lt_or_ge j (q + nc.length) with h2 | h2
   ·refine ⟨nc[j - q],?_⟩
    have:=hw.new (j - q) nc[j - q] (by simp)
    rw [show (ρ.pos a).2 + q + (j - q) = (ρ.pos a).2 + j by omega] at this
    exact this
   ·rw [hw.old _ _ (fun _=>Or.inr (by omega))];exact (c4 j hj).1
theorem ConcM.claim {ρ:Env} {M:Mm} {w:World} (h:ConcM ρ M w) {d b o sp:Nat} {ls:List (Nat × SV)} (hd:getM M d = none) {cs:List Value} (hcs:CellsL ρ ls cs) (hcell:∀ j v,cs[j]? = some v→w.cell? ⟨b,o + j,none⟩ = some v)
  (hfree:∀ p,o ≤ p→p < o + (sizeL ls + sp)→¬ Owns ρ M b p∧¬ ImmC ρ b p∧∀ c e,getM M c = some e→¬ foot (ρ.pos c) e b p)
  (hown:∀ j,j < sizeL ls + sp→(∃ v,w.cell? ⟨b,o + j,none⟩ = some v)∧hard w ⟨b,o + j,none⟩ = false) :
  ρ.le (ρ.add d (b,o))∧ConcM (ρ.add d (b,o)) ((d,.mem true sp ls) :: M) w ∧
   (∀ k p,Owns (ρ.add d (b,o)) ((d,.mem true sp ls) :: M) k p→Owns ρ M k p ∨ (k = b∧o ≤ p∧p < o + (sizeL ls + sp))):=by
 have hnd:¬ ρ.dom d:=by
  intro hx
  obtain ⟨e,he⟩:=h.dom d hx
  rw [hd] at he;cases he
 have hle:=Env.le_add (b,o) hnd
 have pne:∀ {a},a ≠ d→(ρ.add d (b,o)).pos a = ρ.pos a:=by
  intro a ha;simp only [Env.add];rw [if_neg ha]
 have pd:(ρ.add d (b,o)).pos d = (b,o):=by simp [Env.add]
 have ownN:∀ k p,Owns (ρ.add d (b,o)) ((d,.mem true sp ls) :: M) k p→Owns ρ M k p ∨ (k = b∧o ≤ p∧p < o + (sizeL ls + sp)):=by
  rintro k p ⟨c,e,he,hown',hf⟩
  by_cases hc:c = d
  ·subst hc
   rw [getM_cons_self] at he
   obtain rfl:Ent.mem true sp ls = e:=by simpa using he
   rw [pd] at hf
   obtain ⟨f1,f2,f3⟩:=hf
   exact Or.inr ⟨f1,f2,by simpa using f3⟩
  ·rw [getM_cons_ne hc] at he
   rw [pne hc] at hf
   exact Or.inl ⟨c,e,he,hown',hf⟩
 refine ⟨hle,⟨?_,?_,?_,?_,h.imm,fun k p hi ho=>?_⟩,ownN⟩
 ·intro a ha
  by_cases hne:a = d
  ·subst hne;exact ⟨_,getM_cons_self _ _ _⟩
  ·rw [getM_cons_ne hne]
   exact h.dom a (ha.resolve_left hne)
 ·intro a e he
  by_cases hne:a = d
  ·exact Or.inl hne
  ·rw [getM_cons_ne hne] at he;exact Or.inr (h.mod a e he)
 ·intro a e he
  by_cases hne:a = d
  ·subst hne
   rw [getM_cons_self] at he
   obtain rfl:Ent.mem true sp ls = e:=by simpa using he
   rw [pd]
   refine ⟨cs,hcs.le hle,⟨fun hn=>?_,fun hh=>by cases hh⟩,hcell,fun _=>hown⟩
   simp only [if_true] at hn
   obtain ⟨⟨v,hv⟩,_⟩:=hown 0 (by omega)
   unfold World.cell? at hv
   cases hb:w.heap[b]? with
   | none=>simp only [hb] at hv;cases hv
   | some _=>exact (Array.getElem?_eq_some_iff.1 hb).1
  ·rw [getM_cons_ne hne] at he
   rw [pne hne]
   exact SatE.of_same hle (Nat.le_refl _) (fun _ _ _=>⟨rfl,rfl⟩) (fun _ _ _=>rfl) (h.sat a e he)
 ·intro a c e e' he he' hac ho k p hf hf'
  by_cases ha:a = d
  ·subst ha
   rw [getM_cons_self] at he
   obtain rfl:Ent.mem true sp ls = e:=by simpa using he
   have hc:c ≠ a:=fun e=>hac e.symm
   rw [getM_cons_ne hc] at he'
   rw [pne hc] at hf'
   rw [pd] at hf
   obtain ⟨f1,f2,f3⟩:=hf
   subst f1
   exact (hfree p f2 (by simpa using f3)).2.2 c e' he' hf'
  ·rw [getM_cons_ne ha] at he
   rw [pne ha] at hf
   by_cases hc:c = d
   ·subst hc
    rw [getM_cons_self] at he'
    obtain rfl:Ent.mem true sp ls = e':=by simpa using he'
    rw [pd] at hf'
    obtain ⟨f1,f2,f3⟩:=hf'
    subst f1
    exact (hfree p f2 (by simpa using f3)).2.2 a e he hf
   ·rw [getM_cons_ne hc] at he'
    rw [pne hc] at hf'
    exact h.sep a c e e' he he' hac ho k p hf hf'
 ·have hi:ImmC ρ k p:=hi
  rcases ownN k p ho with h1 | ⟨rfl,h2,h3⟩
  ·exact h.isep k p hi h1
  ·exact (hfree p h2 h3).2.1 hi
def sOf (ls:List (Nat × SV)):Nat:=
 match ls with
 | [(_,.arr _ es _)]=>es
 | _=>1
def keepAs (i n:Nat) (ls:List (Nat × SV)):Option SV:=
 match sOf ls with
 | 1=>some (.isl i n 1 ls)
 | s=>match i with
  | 0=>some (.isl 0 n s ls)
  | _=>none
theorem keepAs_rel {ρ:Env} {b o i n c:Nat} {ls:List (Nat × SV)} {v:SV} {x:Option Addr} (h:keepAs i n ls = some v) (hi:ρ.immO b o ls) (hnc:n ≤ c) (hx:c ≠ 0→x = some ⟨b,o + i,none⟩):RelS ρ v (.slice x n c):=by
 unfold keepAs at h
 split at h
 ·simp only [Option.some.injEq] at h;subst h
  exact ⟨b,o,c,x,hi,hnc,rfl,fun hc=>by rw [hx hc,Nat.mul_one]⟩
 ·split at h
  ·simp only [Option.some.injEq] at h;subst h
   exact ⟨b,o,c,x,hi,hnc,rfl,fun hc=>by rw [hx hc,Nat.zero_mul]⟩
  ·cases h
def preL (ls:List (Nat × SV)) (k:Nat):Option (List (Nat × SV)):=
 match ls with
 | _ :: _ :: _=>match takeL ls k with
  | some l0=>bif bareR l0 && !isNil l0 then some l0 else none
  | none=>none
 | _=>none
 where
 isNil:List (Nat × SV)→Bool
  | []=>true
  | _=>false
def midL (ls:List (Nat × SV)) (f k:Nat):Option (List (Nat × SV)):=
 match f with
 | 0=>preL ls k
 | f + 1=>match dropL ls (f + 1) with
  | some r=>match takeL r k with
   | some l0=>bif bareR l0 && !preL.isNil l0 then some l0 else none
   | none=>none
  | none=>none
theorem midL_spec {ls l0:List (Nat × SV)} {f k:Nat} (h:midL ls f k = some l0):∃ r,dropL ls f = some r∧takeL r k = some l0:=by
 unfold midL at h
 split at h
 ·refine ⟨ls,by simp only [dropL],?_⟩
  unfold preL at h
  split at h
  ·split at h
   ·rename_i l1 hl
    have h:=(bif_none h).2
    simp only [Option.some.injEq] at h
    rw [hl,h]
   ·cases h
  ·cases h
 ·split at h
  ·rename_i r hr
   split at h
   ·rename_i l1 hl
    have h:=(bif_none h).2
    simp only [Option.some.injEq] at h
    exact ⟨r,hr,by rw [hl,h]⟩
   ·cases h
  ·cases h
theorem ConcM.part {ρ:Env} {M:Mm} {w:World} (h:ConcM ρ M w) {b o f k:Nat} {ls r l0:List (Nat × SV)} (hi:ρ.immO b o ls) (hd:dropL ls f = some r) (ht:takeL r k = some l0) :
  ∃ ρ',ρ.le ρ'∧ConcM ρ' M w∧Step ρ M ρ' M w w∧ρ'.immO b (o + f) l0∧ρ'.pos = ρ.pos:=by
 obtain ⟨pre,rfl,hf⟩:=dropL_app hd
 obtain ⟨post,rfl⟩:=takeL_app ht
 refine ⟨ρ,Env.le_refl _,h,Step.refl _ _ _,?_,rfl⟩
 have:=hi.part (pre:=pre) (l0:=l0) (post:=post)
 rw [hf] at this
 exact this
def keepAt (M:Mm) (a f i n:Nat):Option (SV × Mm):=
 match getM M a with
 | some (.mem true _ ls)=>bif bareR ls then (match midL ls f (i + n) with
   | some l0=>(match keepAs i n l0 with
    | some v=>some (v,(a,.mem false 1 ls) :: M)
    | none=>none)
   | none=>match f with
    | 0=>(match keepAs i n ls with
     | some v=>some (v,(a,.mem false 1 ls) :: M)
     | none=>none)
    | _=>none)
  else none
 | some (.mem false (_ + 1) ls)=>(match midL ls f (i + n) with
  | some l0=>(match keepAs i n l0 with
   | some v=>some (v,M)
   | none=>none)
  | none=>match f with
   | 0=>(match keepAs i n ls with
    | some v=>some (v,M)
    | none=>none)
   | _=>none)
 | _=>none
def keepV (M:Mm) (v:SV):Option (SV × Mm):=
 match v with
 | .sl a f i n _=>keepAt M a f i n
 | .slx a f i n=>keepAt M a f i n
 | v=>bif bareV v then some (v,M) else none
def keepL (M:Mm) (ls:List (Nat × SV)):Option (List (Nat × SV) × Mm):=
 match ls with
 | []=>some ([],M)
 | (s,v) :: r=>match keepV M v with
  | some (v',M1)=>match keepL M1 r with
   | some (r',M2)=>some ((s,v') :: r',M2)
   | none=>none
  | none=>none
theorem keepAt_sound {ρ:Env} {M:Mm} {w:World} (hM:ConcM ρ M w) {a f i n c:Nat} {v:SV} {M':Mm} (h:keepAt M a f i n = some (v,M')) {x:Option Addr} (hnc:n ≤ c) (hx:c ≠ 0→x = some (ρ.addr a f i)) :
  ∃ ρ',ρ.le ρ'∧ConcM ρ' M' w∧Step ρ M ρ' M' w w∧RelS ρ' v (.slice x n c):=by
 unfold keepAt at h
 have hxf:c ≠ 0→x = some ⟨(ρ.pos a).1,(ρ.pos a).2 + f + i,none⟩:=fun hc=>by rw [hx hc,addr_eq,Nat.add_assoc]
 split at h
 ·rename_i sp ls he
  have hb:=(bif_none h).1
  replace h:=(bif_none h).2
  obtain ⟨k1,k2⟩:=hM.keep he hb
  split at h
  ·rename_i l0 hm
   split at h
   ·rename_i v' hv
    simp only [Option.some.injEq,Prod.mk.injEq] at h;obtain ⟨rfl,rfl⟩:=h
    obtain ⟨r,m1,m2⟩:=midL_spec hm
    obtain ⟨ρ2,p1,p2,p3,p4,p5⟩:=k1.part (Env.immO.of (Or.inr ⟨rfl,rfl,rfl⟩)) m1 m2
    exact ⟨ρ2,Env.le_trans (Env.le_addI _ _ _ _) p1,p2,k2.trans p3,keepAs_rel hv p4 hnc hxf⟩
   ·cases h
  ·split at h
   ·have hx':c ≠ 0→x = some ⟨(ρ.pos a).1,(ρ.pos a).2 + i,none⟩:=fun hc=>by rw [hx hc,addr_eq,Nat.zero_add]
    split at h
    ·rename_i v' hv
     simp only [Option.some.injEq,Prod.mk.injEq] at h;obtain ⟨rfl,rfl⟩:=h
     exact ⟨_,Env.le_addI _ _ _ _,k1,k2,keepAs_rel hv (Env.immO.of (Or.inr ⟨rfl,rfl,rfl⟩)) hnc hx'⟩
    ·cases h
   ·cases h
 ·rename_i sp ls he
  obtain ⟨_,_,k2,_⟩:=hM.sat a _ he
  have hi:=k2.2 rfl (Nat.succ_ne_zero _)
  split at h
  ·rename_i l0 hm
   split at h
   ·rename_i v' hv
    simp only [Option.some.injEq,Prod.mk.injEq] at h;obtain ⟨rfl,rfl⟩:=h
    obtain ⟨r,m1,m2⟩:=midL_spec hm
    obtain ⟨ρ2,p1,p2,p3,p4,p5⟩:=hM.part hi m1 m2
    exact ⟨ρ2,p1,p2,p3,keepAs_rel hv p4 hnc hxf⟩
   ·cases h
  ·split at h
   ·have hx':c ≠ 0→x = some ⟨(ρ.pos a).1,(ρ.pos a).2 + i,none⟩:=fun hc=>by rw [hx hc,addr_eq,Nat.zero_add]
    split at h
    ·rename_i v' hv
     simp only [Option.some.injEq,Prod.mk.injEq] at h;obtain ⟨rfl,rfl⟩:=h
     exact ⟨ρ,Env.le_refl _,hM,Step.refl _ _ _,keepAs_rel hv hi hnc hx'⟩
    ·cases h
   ·cases h
 ·cases h
theorem keepV_sound {ρ:Env} {M:Mm} {w:World} (hM:ConcM ρ M w) {v v':SV} {M':Mm} (h:keepV M v = some (v',M')) {cs:List Value} (hc:Cells1 ρ v cs) :
  ∃ ρ',ρ.le ρ'∧ConcM ρ' M' w∧Step ρ M ρ' M' w w∧Cells1 ρ' v' cs:=by
 have mk:∀ {a f i n c:Nat} {x:Option Addr} {v'},keepAt M a f i n = some (v',M')→n ≤ c→(c ≠ 0→x = some (ρ.addr a f i))→∃ ρ',ρ.le ρ'∧ConcM ρ' M' w∧Step ρ M ρ' M' w w∧Cells1 ρ' v' [.slice x n c]:=by
  intro a f i n c x v' h hnc hx
  obtain ⟨ρ',k1,k2,k3,k4⟩:=keepAt_sound hM h hnc hx
  refine ⟨ρ',k1,k2,k3,?_⟩
  have h1:isArr v' = false:=by
   cases v' <;> first | rfl | (exfalso;exact k4)
  have h2:isRow v' = false:=by
   cases v' <;> first | rfl | (exfalso;exact k4)
  exact (Cells1_one_cell h1 h2).2 ⟨_,k4,rfl⟩
 unfold keepV at h
 split at h
 ·obtain ⟨x,⟨_,hnc,y,rfl,hy⟩,rfl⟩:=hc
  exact mk h hnc hy
 ·obtain ⟨x,⟨_,c,y,hnc,rfl,hy⟩,rfl⟩:=hc
  exact mk h hnc hy
 ·obtain ⟨_,h⟩:=bif_none h
  simp only [Option.some.injEq,Prod.mk.injEq] at h;obtain ⟨rfl,rfl⟩:=h
  exact ⟨ρ,Env.le_refl _,hM,Step.refl _ _ _,hc⟩
theorem keepL_sound {w:World}:∀ {ls ls':List (Nat × SV)} {M M':Mm},keepL M ls = some (ls',M')→∀ {ρ:Env},ConcM ρ M w→∀ {cs:List Value},CellsL ρ ls cs →
  ∃ ρ',ρ.le ρ'∧ConcM ρ' M' w∧Step ρ M ρ' M' w w∧CellsL ρ' ls' cs
 | [],ls',M,M',h,ρ,hM,cs,hc=>by
  simp only [keepL,Option.some.injEq,Prod.mk.injEq] at h;obtain ⟨rfl,rfl⟩:=h
  exact ⟨ρ,Env.le_refl _,hM,Step.refl _ _ _,hc⟩
 | (s,v) :: r,ls',M,M',h,ρ,hM,cs,hc=>by
  simp only [keepL] at h
  split at h
  ·rename_i v' M1 hv
   split at h
   ·rename_i r' M2 hr
    simp only [Option.some.injEq,Prod.mk.injEq] at h;obtain ⟨rfl,rfl⟩:=h
    obtain ⟨c1,c2,rfl,h1,h2,h3⟩:=hc
    obtain ⟨ρ1,k1,k2,k3,k4⟩:=keepV_sound hM hv h2
    obtain ⟨ρ2,l1,l2,l3,l4⟩:=keepL_sound hr k2 (h3.le k1)
    exact ⟨ρ2,Env.le_trans k1 l1,l2,k3.trans l3,c1,c2,rfl,h1,k4.le l1,l4⟩
   ·cases h
  ·cases h
def emptyA (zl:List (Nat × SV)):Option SV:=
 match zl with
 | [(_,v)]=>match v with
  | .u8 _=>some (.a8 [])
  | .u16 _=>some (.a16 [])
  | .u32 _=>some (.a32 [])
  | .u64 _=>some (.a64 [])
  | .i k _=>match k with
   | .i64=>some (.ai [])
   | _=>none
  | _=>none
 | _=>none
def joinA (u v:SV):Option SV:=
 match u,v with
 | .a8 l,.a8 m=>some (.a8 (l ++ m))
 | .a16 l,.a16 m=>some (.a16 (l ++ m))
 | .a32 l,.a32 m=>some (.a32 (l ++ m))
 | .a64 l,.a64 m=>some (.a64 (l ++ m))
 | .ai l,.ai m=>some (.ai (l ++ m))
 | _,_=>none
theorem joinA_cells {ρ:Env} {u v z:SV} {c1 c2:List Value} (h:joinA u v = some z) (h1:Cells1 ρ u c1) (h2:Cells1 ρ v c2):Cells1 ρ z (c1 ++ c2):=by
 unfold joinA at h
 split at h <;> simp only [Option.some.injEq,reduceCtorEq] at h <;> subst h <;> simp only [Cells1] at h1 h2 ⊢ <;> rw [h1,h2,List.map_append]
def dropQ {α:Type} (i:Nat) (l:List α):List α:=
 match i with
 | 0=>l
 | i=>l.drop i
theorem dropQ_eq {α:Type} (i:Nat) (l:List α):dropQ i l = l.drop i:=by
 unfold dropQ;split <;> simp
def tailA (u:SV) (i:Nat):SV:=
 match u with
 | .a8 l=>.a8 (dropQ i l)
 | .a16 l=>.a16 (dropQ i l)
 | .a32 l=>.a32 (dropQ i l)
 | .a64 l=>.a64 (dropQ i l)
 | .ai l=>.ai (dropQ i l)
 | u=>u
theorem tailA_cells {ρ:Env} {u:SV} {c:List Value} (hu:isArr u = true) (h:Cells1 ρ u c) (i:Nat):Cells1 ρ (tailA u i) (c.drop i):=by
 unfold tailA
 split <;> first
  | (simp only [Cells1] at h ⊢;rw [h,dropQ_eq,List.map_drop];done)
  | (exfalso;cases u <;> simp_all [isArr];done)
def rowF (cs:List (List (Nat × SV))):Nat→List (Nat × SV):=
 match cs with
 | [c]=>fun _=>c
 | cs=>fun j=>cs.getD j []
def chunks (es:Nat):Nat→List (Nat × SV)→Option (List (List (Nat × SV)))
 | _,[]=>some []
 | 0,_ :: _=>none
 | fuel + 1,a :: r0=>match takeL (a :: r0) es with
  | some c=>match dropL (a :: r0) es with
   | some r=>bif bareL c && noRowL c && Nat.blt 0 es then match chunks es fuel r with
     | some cs=>some (c :: cs)
     | none=>none
    else none
   | none=>none
  | none=>none
theorem chunks_sound {ρ:Env} {es:Nat}:∀ {fuel:Nat} {ls:List (Nat × SV)} {cks:List (List (Nat × SV))} {X:List Value},chunks es fuel ls = some cks→CellsL ρ ls X →
  X.length = cks.length * es∧∀ q,q < cks.length→CellsL0 ρ.bare (cks.getD q []) ((X.drop (q * es)).take es)
 | _,[],cks,X,h,hc=>by
  simp only [chunks,Option.some.injEq] at h;subst h
  have hcs:X = []:=hc
  subst hcs
  exact ⟨by simp,fun q hq=>absurd hq (Nat.not_lt_zero _)⟩
 | 0,_ :: _,_,_,h,_=>by simp [chunks] at h
 | fuel + 1,a :: r0,cks,X,h,hc=>by
  simp only [chunks] at h
  split at h
  ·rename_i c hcl
   split at h
   ·rename_i r hr
    have hb:=(bif_none h).1
    replace h:=(bif_none h).2
    simp only [Bool.and_eq_true] at hb
    split at h
    ·rename_i cs' hcs'
     simp only [Option.some.injEq] at h;subst h
     obtain ⟨t1,t2⟩:=takeL_sound hc hcl
     obtain ⟨d1,d2⟩:=dropL_sound hc hr
     obtain ⟨i1,i2⟩:=chunks_sound hcs' d1
     rw [List.length_drop] at i1
     refine ⟨by rw [List.length_cons,Nat.add_mul];omega,fun q hq=>?_⟩
     cases q with
     | zero=>
      rw [Nat.zero_mul,List.drop_zero]
      exact bareL_cells hb.1.1 t1
     | succ q=>
      have:=i2 q (by simpa using hq)
      rw [List.drop_drop,show es + q * es = (q + 1) * es by rw [Nat.add_mul];omega] at this
      exact this
    ·cases h
   ·cases h
  ·cases h
theorem rowF_get (cs:List (List (Nat × SV))) {q:Nat} (h:q < cs.length):rowF cs q = cs.getD q []:=by
 unfold rowF
 split
 ·have:q = 0:=by simpa using h
  subst this;rfl
 ·rfl
def shiftF (q:Nat) (F:Nat→List (Nat × SV)):Nat→List (Nat × SV):=fun j=>F (addQ q j)
theorem shiftF_eq (q:Nat) (F:Nat→List (Nat × SV)) (j:Nat):shiftF q F j = F (q + j):=by
 unfold shiftF;rw [addQ_eq]
def srcA (M:Mm) (e0:SV) (x:SV):Option (List Prop × Nat × SV):=
 match x with
 | .nsl=>some ([],0,e0)
 | .str l=>match e0 with
  | .a8 _=>some ([],l.length,.a8 l)
  | _=>none
 | .sl a f i n _=>match getM M a with
  | some (.mem _ _ ls)=>match segL ls f i n with
   | some (ps,v)=>some (ps,n,v)
   | none=>none
  | _=>none
 | .slx a f i n=>match getM M a with
  | some (.mem _ _ ls)=>match segL ls f i n with
   | some (ps,v)=>some (ps,n,v)
   | none=>none
  | _=>none
 | .isl q n s ls=>match s with
  | 1=>match segL ls 0 q n with
   | some (ps,v)=>some (ps,n,v)
   | none=>none
  | _=>none
 | _=>none
def rowsA0 (es:Nat) (M:Mm) (i n:Nat) (ls:List (Nat × SV)):Option (List Prop × Nat × (Nat→List (Nat × SV)) × Mm):=
 match ls with
 | [(_,.arr m es' F)]=>bif Nat.beq es es' then match es with
   | 1=>some ([i + n ≤ m],n,shiftF i F,M)
   | _=>some ([i % es = 0,i / es + n ≤ m],n,shiftF (i / es) F,M)
  else none
 | ls=>match keepL M ls with
  | some (ls',M')=>match chunks es ls'.length ls' with
   | some cs=>some ([i = 0,n = cs.length],n,rowF cs,M')
   | none=>none
  | none=>none
def unmark (ls:List (Nat × SV)):List (Nat × SV):=
 match ls with
 | [(t,.arr m es F),(0,.a8 [])]=>[(t,.arr m es F)]
 | ls=>ls
theorem unmark_cells {ρ:Env} {ls:List (Nat × SV)} {cs:List Value} (h:CellsL ρ ls cs):CellsL ρ (unmark ls) cs:=by
 unfold unmark
 split
 ·obtain ⟨c1,c2,rfl,h1,h2,c3,c4,rfl,h3,h4,h5⟩:=h
  have e3:c3 = []:=List.eq_nil_of_length_eq_zero h3
  have e4:c4 = []:=h5
  subst e3;subst e4
  exact ⟨c1,[],rfl,h1,h2,rfl⟩
 ·exact h
def rowsAt (es:Nat) (M:Mm) (i n:Nat) (ls:List (Nat × SV)):Option (List Prop × Nat × (Nat→List (Nat × SV)) × Mm):=rowsA0 es M i n (unmark ls)
def srcR (es:Nat) (M:Mm) (x:SV):Option (List Prop × Nat × (Nat→List (Nat × SV)) × Mm):=
 match x with
 | .nsl=>some ([],0,fun _=>[],M)
 | .sl a f i n _=>match f with
  | 0=>match getM M a with
   | some (.mem _ _ ls)=>rowsAt es M i n ls
   | _=>none
  | _=>none
 | .slx a f i n=>match f with
  | 0=>match getM M a with
   | some (.mem _ _ ls)=>rowsAt es M i n ls
   | _=>none
  | _=>none
 | .isl q n s ls=>match ls with
  | [(_,.arr m es' F)]=>bif Nat.beq es es' && Nat.beq s es then some ([q + n ≤ m],n,shiftF q F,M) else none
  | ls=>match chunks es ls.length ls with
   | some cs=>some ([q = 0,n = cs.length],n,rowF cs,M)
   | none=>none
 | _=>none
end Go.Sx
namespace Go.Sx
open Go
theorem ConcM.congr {ρ:Env} {M M':Mm} {w:World} (he:∀ a,getM M a = getM M' a) (h:ConcM ρ M w):ConcM ρ M' w where
 dom a ha:=by rw [← he];exact h.dom a ha
 mod a e hm:=h.mod a e (by rw [he];exact hm)
 sat a e hm:=h.sat a e (by rw [he];exact hm)
 sep a b e e' ha hb:=h.sep a b e e' (by rw [he];exact ha) (by rw [he];exact hb)
 imm:=h.imm
 isep b o hi ho:=h.isep b o hi (by obtain ⟨a,e,h1,h2⟩:=ho;exact ⟨a,e,by rw [he];exact h1,h2⟩)
theorem Owns.congr {ρ:Env} {M M':Mm} (he:∀ a,getM M a = getM M' a) {b o:Nat} (h:Owns ρ M b o):Owns ρ M' b o:=by
 obtain ⟨a,e,h1,h2⟩:=h
 exact ⟨a,e,by rw [← he];exact h1,h2⟩
theorem Step.congr {ρ ρ':Env} {M M' M'':Mm} {w w':World} (he:∀ a,getM M' a = getM M'' a) (h:Step ρ M ρ' M' w w'):Step ρ M ρ' M'' w w':=
 ⟨h.size,h.os,h.output,h.blk,h.cell,fun b o hb ho=>h.own b o hb (ho.congr fun a=>(he a).symm),h.immo⟩
theorem ConcM.tell {ρ:Env} {M:Mm} {w:World} (h:ConcM ρ M w) {a sp:Nat} {ls ls':List (Nat × SV)} (ha:getM M a = some (.mem true sp ls)) (hs:sizeL ls' = sizeL ls) {cs':List Value} (hc:CellsL ρ ls' cs') (hcell:∀ j v,cs'[j]? = some v→w.cell? ⟨(ρ.pos a).1,(ρ.pos a).2 + j,none⟩ = some v) :
  ConcM ρ ((a,.mem true sp ls') :: M) w∧Step ρ M ρ ((a,.mem true sp ls') :: M) w w:=by
 obtain ⟨cs,c1,c2,c3,c4⟩:=h.sat a _ ha
 have hlen:cs.length = sizeL ls:=c1.length
 have:=h.write (sp':=sp) ha (q:=0) (nc:=[]) ⟨rfl,rfl,rfl,fun _ _=>rfl,fun _ _=>rfl,fun j v h=>by simp at h,fun _ _ _=>rfl,fun _ _=>rfl⟩ (by simp) hc (by rw [hs]) (fun cs0 d1 d2 j v hj=>hcell j v hj)
 exact this
theorem ConcM.drop {ρ:Env} {M:Mm} {w:World} (h:ConcM ρ M w) {a sp:Nat} {ls:List (Nat × SV)} (ha:getM M a = some (.mem false sp ls)):ConcM ρ ((a,.dead) :: M) w∧Step ρ M ρ ((a,.dead) :: M) w w:=by
 have old:∀ {b e},getM ((a,.dead) :: M) b = some e→e ≠ .dead→getM M b = some e:=by
  intro b e he hne
  by_cases hb:b = a
  ·subst hb
   rw [getM_cons_self] at he
   simp only [Option.some.injEq] at he
   exact absurd he.symm hne
  ·rwa [getM_cons_ne hb] at he
 have ownN:∀ k p,Owns ρ ((a,.dead) :: M) k p→Owns ρ M k p:=by
  rintro k p ⟨c,e,he,hown,hf⟩
  exact ⟨c,e,old he (by rintro rfl;cases hown),hown,hf⟩
 refine ⟨⟨fun b hb=>?_,fun b e he=>?_,fun b e he=>?_,fun b c e e' he he' hbc ho k o hf hf'=>?_,h.imm,fun b o hi ho=>h.isep b o hi (ownN b o ho)⟩,⟨Nat.le_refl _,rfl,rfl,fun _ _ _=>rfl,fun _ _ _ _=>⟨rfl,rfl⟩,fun k p _ ho=>ownN k p ho,fun _ _ _ h=>Or.inl h⟩⟩
 ·by_cases hne:b = a
  ·subst hne;exact ⟨_,getM_cons_self _ _ _⟩
  ·rw [getM_cons_ne hne];exact h.dom b hb
 ·by_cases hne:b = a
  ·subst hne;exact h.mod _ _ ha
  ·rw [getM_cons_ne hne] at he;exact h.mod b e he
 ·by_cases hd:e = .dead
  ·subst hd;trivial
  ·exact h.sat b e (old he hd)
 ·have h1:e ≠ .dead:=by rintro rfl;cases ho
  have h2:e' ≠ .dead:=by rintro rfl;exact hf'
  exact h.sep b c e e' (old he h1) (old he' h2) hbc ho k o hf hf'
end Go.Sx
