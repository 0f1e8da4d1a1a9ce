/- Executor, part 6. No condition. -/
import Derived.Test.YtaehfiohjkiajaaGreatHx5
set_option linter.unusedSimpArgs false
set_option linter.unusedVariables false
set_option autoImplicit true
set_option relaxedAutoImplicit true
open List (mem_cons_of_mem append_nil)
open Nat (beq le_refl blt)
open Array (getD_eq_getD_getElem?)
open Bool (not_eq_true' or_eq_true)
namespace Go.Sx
open Go
inductive Gh where
 |own (nm:Nat) (l0:List (Nat×SV))
 |leaf (a k nm:Nat)
 |keep (a:Nat)
 |ice (a k:Nat)
 |mark (a:Nat)
def qy (nm:Nat):Nat->List (Nat×SV)->Option (List (Nat×SV))
 |_,[]=>none
 |0,(s,v)::r=>match v with
  | .nsl=>some ((s,.sl nm 0 0 0 0)::r)
  |_=>none
 |k+1,x::r=>match qy nm k r with
  |some q=>some (x::q)
  |none=>none
def aSD (M:Mm) (a f i n:Nat):Option SV:=
 match zG M a with
 |some (.mem false (_+1) ls)=>(match aQP ls f (i+n)with
  |some l0=>eC i n l0
  |none=>match f with
   |0=>eC i n ls
   |_=>none)
 |_=>none
def aUC (M:Mm) (v:SV):Option SV:=
 match v with
 | .ptr a f i=>match zG M a with
  |some (.mem false (_+1) ls)=>some (.iep f (i.getD 0) 1 ls)
  |_=>none
 | .sl a f i n _=>aSD M a f i n
 | .slx a f i n=>aSD M a f i n
 |_=>none
def u9 (M:Mm) (ls:List (Nat×SV)):List (Nat×SV):=
 match ls with
 |[]=>[]
 |(s,v)::r=>match aUC M v with
  |some v'=>(s,v')::u9 M r
  |none=>(s,v)::u9 M r
def aX3 (M:Mm) (v:SV):Option SV:=
 match v with
 | .agg ls=>some (.agg (u9 M ls))
 |v=>aUC M v
theorem aAB (h:aSD M a f i n=some v'):∃q s l2,v'= .isl q n s l2:=by
 have key:∀{ls:List (Nat×SV)},eC i n ls=some v'->∃q s l2,v'= .isl q n s l2:=by
  intro ls hk;unfold eC at hk;split at hk
  .simp only[zoI]at hk;subst hk;exact⟨_,_,_,rfl⟩
  split at hk
  .simp only[zoI]at hk;subst hk;exact⟨_,_,_,rfl⟩
  cases hk
 unfold aSD at h;split at h
 .split at h
  .exact key h
  split at h
  .exact key h
  cases h
 cases h
theorem rr (hM:zF ρ M w) (h:aSD M a f i n=some v'):
  ∃ρ',ρ.le ρ'/\zF ρ' M w/\aV ρ M ρ' M w w/\∀c y,n<=c->(c≠0->y=some (ρ.addr a f i))->cg ρ' v' (.slice y n c):=by
 unfold aSD at h;split at h
 .rename_i sp ls ha
  obtain⟨cs,_,c2,_,_⟩:=hM.sat a _ ha;have hi:=c2.2 rfl (Nat.succ_ne_zero _);split at h
  .rename_i l0 hm
   obtain⟨r,m1,m2⟩:=iw hm;obtain⟨ρ2,p1,p2,p3,p4,p5⟩:=hM.part hi m1 m2;exact⟨ρ2,p1,p2,p3,λc y hnc hy=>bU h p4 hnc λhc=>by rw[hy hc,aN,Nat.add_assoc]⟩
  split at h
  .exact⟨ρ,Env.le_refl _,hM,aV.refl _ _ _,λc y hnc hy=>bU h hi hnc λhc=>by rw[hy hc,aN,Nat.zero_add]⟩
  cases h
 cases h
theorem my (hM:zF ρ M w) (h:aUC M v=some v'):
  ∃ρ',ρ.le ρ'/\zF ρ' M w/\aV ρ M ρ' M w w/\(∀x,zRT ρ v x->zRT ρ' v' x)/\∀c,zD ρ v c->zD ρ' v' c:=by
 unfold aUC at h;split at h
 .rename_i a f i
  split at h
  .rename_i sp ls ha
   simp only[zoI]at h;subst h;obtain⟨cs,_,c2,_,_⟩:=hM.sat a _ ha;have key:∀x,cg ρ (.ptr a f i) x->cg ρ (.iep f (i.getD 0) 1 ls) x:=by
    rintro x ⟨_,rfl⟩;refine⟨_,_,?_,c2.2 rfl (Nat.succ_ne_zero _)⟩;rw[aN,Nat.mul_one]
   exact⟨ρ,Env.le_refl _,hM,aV.refl _ _ _,λx hx=>key x hx,λc ⟨x,hx,e⟩=>⟨x,key x hx,e⟩⟩
  cases h
 .rename_i a f i n c0
  obtain⟨ρ',k1,k2,k3,k4⟩:=rr hM h;obtain⟨q,s,l2,rfl⟩:=aAB h;have key:∀x,cg ρ (.sl a f i n c0) x->cg ρ' (.isl q n s l2) x:=by
   rintro x ⟨_,hnc,y,rfl,hy⟩;exact k4 _ _ hnc hy
  exact⟨ρ',k1,k2,k3,λx hx=>key x hx,λc ⟨x,hx,e⟩=>⟨x,key x hx,e⟩⟩
 .rename_i a f i n
  obtain⟨ρ',k1,k2,k3,k4⟩:=rr hM h;obtain⟨q,s,l2,rfl⟩:=aAB h;have key:∀x,cg ρ (.slx a f i n) x->cg ρ' (.isl q n s l2) x:=by
   rintro x ⟨_,c,y,hnc,rfl,hy⟩;exact k4 _ _ hnc hy
  exact⟨ρ',k1,k2,k3,λx hx=>key x hx,λc ⟨x,hx,e⟩=>⟨x,key x hx,e⟩⟩
 cases h
theorem i7:∀{ls:List (Nat×SV)} {ρ:Env},zF ρ M w->∃ρ',ρ.le ρ'/\zF ρ' M w/\aV ρ M ρ' M w w/\∀cs,zC ρ ls cs->zC ρ' (u9 M ls) cs
 |[],ρ,hM=>⟨ρ,Env.le_refl _,hM,aV.refl _ _ _,λcs h=>h⟩
 |(s,v)::r,ρ,hM=>by
  simp only[u9];split
  .rename_i v' hv
   obtain⟨ρ1,k1,k2,k3,_,k5⟩:=my hM hv;obtain⟨ρ2,l1,l2,l3,l4⟩:=i7 (ls:=r) k2;exact⟨ρ2,Env.le_trans k1 l1,l2,k3.trans l3,λcs ⟨c1,c2,e,hl,h1,h2⟩=>⟨c1,c2,e,hl,(k5 _ h1).le l1,l4 _ (h2.le k1)⟩⟩
  obtain⟨ρ2,l1,l2,l3,l4⟩:=i7 (ls:=r) hM;exact⟨ρ2,l1,l2,l3,λcs ⟨c1,c2,e,hl,h1,h2⟩=>⟨c1,c2,e,hl,h1.le l1,l4 _ h2⟩⟩
theorem aCB (hM:zF ρ M w) (h:aX3 M v=some v'):
  ∃ρ',ρ.le ρ'/\zF ρ' M w/\aV ρ M ρ' M w w/\∀x,zRT ρ v x->zRT ρ' v' x:=by
 unfold aX3 at h;split at h
 .rename_i ls
  simp only[zoI]at h;subst h;obtain⟨ρ2,l1,l2,l3,l4⟩:=i7 (ls:=ls) hM;exact⟨ρ2,l1,l2,l3,λx ⟨cs,hc,e⟩=>⟨cs,l4 _ hc,e⟩⟩
 obtain⟨ρ',k1,k2,k3,k4,_⟩:=my hM h;exact⟨ρ',k1,k2,k3,k4⟩
def q6 (M:Mm):Nat->List (Nat×SV)->Option (List (Nat×SV))
 |_,[]=>none
 |0,(s,v)::r=>match aUC M v with
  |some v'=>some ((s,v')::r)
  |none=>none
 |k+1,x::r=>match q6 M k r with
  |some q=>some (x::q)
  |none=>none
theorem qC (hM:zF ρ M w):∀{k:Nat} {ls ls':List (Nat×SV)},q6 M k ls=some ls'->
  ∃ρ',ρ.le ρ'/\zF ρ' M w/\aV ρ M ρ' M w w/\∀cs,zC ρ ls cs->zC ρ' ls' cs
 |_,[],_,h=>by simp[q6]at h
 |0,(s,v)::r,ls',h=>by
  simp only[q6]at h;split at h
  .rename_i v' hv
   simp only[zoI]at h;subst h;obtain⟨ρ1,k1,k2,k3,_,k5⟩:=my hM hv;exact⟨ρ1,k1,k2,k3,λcs ⟨c1,c2,e,hl,h1,h2⟩=>⟨c1,c2,e,hl,k5 _ h1,h2.le k1⟩⟩
  cases h
 |k+1,(s,v)::r,ls',h=>by
  simp only[q6]at h;split at h
  .rename_i q hq
   simp only[zoI]at h;subst h;obtain⟨ρ1,k1,k2,k3,k5⟩:=qC hM hq;exact⟨ρ1,k1,k2,k3,λcs ⟨c1,c2,e,hl,h1,h2⟩=>⟨c1,c2,e,hl,h1.le k1,k5 _ h2⟩⟩
  cases h
theorem rt:∀{k:Nat} {ls ls':List (Nat×SV)},q6 M k ls=some ls'->zL ls'=zL ls
 |_,[],_,h=>by simp[q6]at h
 |0,(s,v)::r,ls',h=>by
  simp only[q6]at h;split at h
  .simp only[zoI]at h;subst h;rfl
  cases h
 |k+1,(s,v)::r,ls',h=>by
  simp only[q6]at h;split at h
  .rename_i q hq
   simp only[zoI]at h;subst h;simp only[zL,rt hq]
  cases h
def eo (gs:List Gh) (M:Mm):Option (List Prop×Mm):=
 match gs with
 |[]=>some ([],M)
 | .own nm l0::r=>match zG M nm with
  |some _=>none
  |none=>match eo r ((nm,.mem true 0 l0)::M)with
   |some (ps,M')=>some (aJH l0::ps,M')
   |none=>none
 | .leaf a k nm::r=>match zG M nm with
  |none=>none
  |some _=>match zG M a with
   |some (.mem true sp ls)=>match qy nm k ls with
    |some ls'=>eo r ((a,.mem true sp ls')::M)
    |none=>none
   |_=>none
 | .keep a::r=>match zG M a with
  |some (.mem true _ ls)=>bif qY ls then eo r ((a,.mem false 1 ls)::M)else none
  |_=>none
 | .ice a k::r=>match zG M a with
  |some (.mem true sp ls)=>match q6 M k ls with
   |some ls'=>eo r ((a,.mem true sp ls')::M)
   |none=>none
  |_=>none
 | .mark a::r=>match zG M a with
  |some (.mem true sp ls)=>eo r ((a,.mem true sp (ls++[(0,.a8 [])]))::M)
  |_=>none
def aKU (sl:List (Nat×Nat)) (T:Tm) (M:Mm):Option Tm:=
 match sl with
 |[]=>some T
 | (d,nm)::r=>match nm with
  |0=>match aX3 M (zX T d)with
   |some v=>match aKU r T M with
    |some T'=>some ((d,v)::T')
    |none=>none
   |none=>none
  |nm=>match zG M nm with
   |none=>none
   |some _=>match zX T d with
    | .nsl=>match aKU r T M with
     |some T'=>some ((d,.sl nm 0 0 0 0)::T')
     |none=>none
    |_=>none
theorem pe (hd:ρ.dom nm):∀{k:Nat} {ls ls':List (Nat×SV)} {cs:List Value},qy nm k ls=some ls'->zC ρ ls cs->zC ρ ls' cs
 |_,[],_,_,h,_=>by simp[qy]at h
 |0,(s,v)::r,ls',cs,h,hc=>by
  simp only[qy]at h;split at h
  .simp only[zoI]at h;subst h
   obtain⟨c1,c2,e,hl,⟨x,hx,e1⟩,h2⟩:=hc;exact⟨c1,c2,e,hl,⟨x,⟨hd,le_refl _,none,hx,λhc=>absurd rfl hc⟩,e1⟩,h2⟩
  cases h
 |k+1,(s,v)::r,ls',cs,h,hc=>by
  simp only[qy]at h;split at h
  .rename_i q hq
   simp only[zoI]at h;subst h;obtain⟨c1,c2,e,hl,h1,h2⟩:=hc;exact⟨c1,c2,e,hl,h1,pe hd hq h2⟩
  cases h
theorem ri:∀{k:Nat} {ls ls':List (Nat×SV)},qy nm k ls=some ls'->zL ls'=zL ls
 |_,[],_,h=>by simp[qy]at h
 |0,(s,v)::r,ls',h=>by
  simp only[qy]at h;split at h
  .simp only[zoI]at h;subst h;rfl
  cases h
 |k+1,(s,v)::r,ls',h=>by
  simp only[qy]at h;split at h
  .rename_i q hq
   simp only[zoI]at h;subst h;simp only[zL,ri hq]
  cases h
theorem bh:∀{gs:List Gh} {M:Mm} {ps:List Prop} {M':Mm},eo gs M=some (ps,M')->All ps->∀{ρ:Env},zF ρ M w->∃ρ',ρ.le ρ'/\zF ρ' M' w/\aV ρ M ρ' M' w w
 |[],M,ps,M',h,_,ρ,hM=>by
  simp only[eo,zoI,zpI]at h;obtain⟨_,rfl⟩:=h;exact⟨ρ,Env.le_refl _,hM,aV.refl _ _ _⟩
 | .own nm l0::r,M,ps,M',h,hp,ρ,hM=>by
  simp only[eo]at h;split at h
  .cases h
  rename_i hn;split at h
  .rename_i qs M1 hr
   obtain⟨rfl,rfl⟩:=sB h;have hnil:=hp.head;have hz:=ku hnil;obtain⟨k1,k2,k3⟩:=hM.claim (b:=0) (o:=0) (sp:=0) hn (mb ρ hnil) (λj v hj=>by simp at hj) (λp h1 h2=>by rw[hz]at h2;omega) (λj hj=>by rw[hz]at hj;omega);have hst:aV ρ M (ρ.add nm (0,0)) ((nm,.mem true 0 l0)::M) w w:=by
    refine⟨le_refl _,rfl,rfl,λ_ _ _=>rfl,λ_ _ _ _=>⟨rfl,rfl⟩,λk p _ ho=>?_,λ_ _ _ h=>Or.inl h⟩;rcases k3 k p ho with h|⟨_,h1,h2⟩
    .exact h
    rw[hz]at h2;omega
   obtain⟨ρ',l1,l2,l3⟩:=bh hr hp.tail k2;exact⟨ρ',Env.le_trans k1 l1,l2,hst.trans l3⟩
  cases h
 | .keep a::r,M,ps,M',h,hp,ρ,hM=>by
  simp only[eo]at h;split at h
  .rename_i sp ls ha
   have hb:=(zn h).1
   replace h:=(zn h).2
   obtain⟨k1,k2⟩:=hM.keep ha hb;obtain⟨ρ',l1,l2,l3⟩:=bh h hp k1;exact⟨ρ',Env.le_trans (Env.le_addI _ _ _ _) l1,l2,k2.trans l3⟩
  cases h
 | .ice a k::r,M,ps,M',h,hp,ρ,hM=>by
  simp only[eo]at h;split at h
  .rename_i sp ls ha
   split at h
   .rename_i ls' hl
    obtain⟨cs,c1,_,c3,_⟩:=hM.sat a _ ha;obtain⟨ρ1,i1,i2,i3,i4⟩:=qC hM hl;obtain⟨k1,k2⟩:=i2.tell ha (rt hl) (i4 _ c1) (λj v hj=>by rw[(i1.dm a (hM.mod a _ ha)).2];exact c3 j v hj);obtain⟨ρ',l1,l2,l3⟩:=bh h hp k1;exact⟨ρ',Env.le_trans i1 l1,l2,i3.trans (k2.trans l3)⟩
   cases h
  cases h
 | .leaf a k nm::r,M,ps,M',h,hp,ρ,hM=>by
  simp only[eo]at h;split at h
  .cases h
  rename_i e hn;split at h
  .rename_i sp ls ha
   split at h
   .rename_i ls' hl
    obtain⟨cs,c1,_,c3,_⟩:=hM.sat a _ ha;obtain⟨k1,k2⟩:=hM.tell ha (ri hl) (pe (hM.mod nm e hn) hl c1) c3;obtain⟨ρ',l1,l2,l3⟩:=bh h hp k1;exact⟨ρ',l1,l2,k2.trans l3⟩
   cases h
  cases h
 | .mark a::r,M,ps,M',h,hp,ρ,hM=>by
  simp only[eo]at h;split at h
  .rename_i sp ls ha
   obtain⟨cs,c1,_,c3,_⟩:=hM.sat a _ ha;have hcl:zC ρ (ls++[(0,.a8 [])]) (cs++[]):=fE c1 ⟨[],[],rfl,rfl,rfl,rfl⟩;have hsz:zL (ls++[(0,SV.a8 [])])=zL ls:=by rw[<-hcl.length,<-c1.length,append_nil]
   rw[append_nil]at hcl;obtain⟨k1,k2⟩:=hM.tell ha hsz hcl c3;obtain⟨ρ',l1,l2,l3⟩:=bh h hp k1;exact⟨ρ',l1,l2,k2.trans l3⟩
  cases h
theorem jR:∀{sl:List (Nat×Nat)} {T T':Tm},aKU sl T M=some T'->∀{ρ:Env},aZ N ρ T M a w->∃ρ',ρ.le ρ'/\aZ N ρ' T' M a w/\aV ρ M ρ' M w w
 |[],T,T',h,ρ,hc=>by
  simp only[aKU,zoI]at h;subst h;exact⟨ρ,Env.le_refl _,hc,aV.refl _ _ _⟩
 | (d,nm)::r,T,T',h,ρ,hc=>by
  have put:∀{ρ:Env} {v:SV} {T1:Tm},zRT ρ v (a.tmps.getD d undef)->aZ N ρ T1 M a w->aZ N ρ ((d,v)::T1) M a w:=by
   intro ρ v T1 hv h1;refine⟨h1.tozF,h1.sz,h1.defers,λs=>?_⟩;by_cases hs:s=d
   .subst hs
    rw[aK];exact hv
   rw[aS hs];exact h1.tm s
  simp only[aKU]at h;split at h
  .split at h
   .rename_i v hv
    split at h
    .rename_i T1 hr
     simp only[zoI]at h;subst h;obtain⟨ρ1,k1,k2,k3⟩:=jR hr hc;obtain⟨ρ2,l1,l2,l3,l4⟩:=aCB k2.tozF hv;exact⟨ρ2,Env.le_trans k1 l1,put (l4 _ ((hc.tm d).le k1)) (k2.of_mem l1 l2),k3.trans l3⟩
    cases h
   cases h
  split at h
  .cases h
  rename_i e hn;split at h
  .rename_i hd
   split at h
   .rename_i T1 hr
    simp only[zoI]at h;subst h;obtain⟨ρ1,k1,k2,k3⟩:=jR hr hc;have ht:=(hc.tm d).le k1;rw[hd]at ht;exact⟨ρ1,k1,put (zR ⟨k2.tozF.mod _ e hn,le_refl _,none,ht,λhc=>absurd rfl hc⟩) k2,k3⟩
   cases h
  cases h
def Env.lim (ρ:Env) (M:Mm):Env:=⟨λa=>ρ.dom a/\(zG M a).isSome=true,ρ.pos,ρ.imm⟩
theorem Env.lim_le (ρ:Env) (M:Mm):(ρ.lim M).le ρ:=⟨λ_ h=>⟨h.1,rfl⟩,λ_ _ _ h=>h⟩
theorem aU:∀(E M:Mm) (a:Nat),zG (E++M) a=match zG E a with
  |some e=>some e
  |none=>zG M a
 |[],M,a=>rfl
 |(k,e)::r,M,a=>by
  by_cases h:a=k
  .subst h;rw[List.cons_append,zh,zh]
  rw[List.cons_append,zg h,zg h];exact aU r M a
theorem zan (h:zG E a=some e):zG (E++M) a=some e:=by rw[aU,h]
theorem zao (h:zG E a=none):zG (E++M) a=zG M a:=by rw[aU,h]
theorem mB.lim (h:mB (ρ.lim M) w pos e):mB ρ w pos e:=
 mB.of_same (Env.lim_le ρ M) (le_refl _) (λ_ _ _=>⟨rfl,rfl⟩) (λ_ _ _=>rfl) h
theorem cg.both (hd:∀a,ρ'.dom a->(zG M a).isSome=true) (r:cg ρ v x) (r':cg ρ' v x'):cg (ρ.lim M) v x:=by
 cases v<;>simp only[cg]at r r'⊢<;>try exact r
 case ptr a f i=>exact⟨⟨r.1,hd _ r'.1⟩,r.2⟩
 case sl a f i n c=>exact⟨⟨r.1,hd _ r'.1⟩,r.2⟩
 case slx a f i n=>exact⟨⟨r.1,hd _ r'.1⟩,r.2⟩
 case fn f cap=>exact⟨λp hp=>⟨r.1 p hp,hd _ (r'.1 p hp)⟩,r.2⟩
 case mp a=>exact⟨⟨r.1,hd _ r'.1⟩,r.2⟩
 case ep a f q s=>exact⟨⟨r.1,hd _ r'.1⟩,r.2⟩
theorem zD.both (hd:∀a,ρ'.dom a->(zG M a).isSome=true) (r:zD ρ v cs) (r':zD ρ' v cs'):zD (ρ.lim M) v cs:=by
 cases v<;>simp only[zD]at r r'⊢<;>first|exact r|(obtain⟨x,hx,rfl⟩:=r;obtain⟨x',hx',_⟩:=r';exact⟨x,hx.both hd hx',rfl⟩)|exact⟨r.1,λq hq=>r.2 q hq⟩
theorem zC.both (hd:∀a,ρ'.dom a->(zG M a).isSome=true):∀{ls:List (Nat×SV)} {cs cs':List Value},zC ρ ls cs->zC ρ' ls cs'->zC (ρ.lim M) ls cs
 |[],_,_,r,_=>r
 |(_,_)::_,_,_,⟨c1,c2,e,hl,h1,h2⟩,⟨_,_,_,_,k1,k2⟩=>⟨c1,c2,e,hl,h1.both hd k1,zC.both hd h2 k2⟩
theorem Rel.both (hd:∀a,ρ'.dom a->(zG M a).isSome=true) (r:Rel ρ v x) (r':Rel ρ' v x'):Rel (ρ.lim M) v x:=by
 cases v<;>simp only[Rel]at r r'⊢<;>first|exact r|exact cg.both hd r r'|(obtain⟨cs,hc,e⟩:=r;obtain⟨cs',hc',_⟩:=r';exact⟨cs,hc.both hd hc',e⟩)
theorem nM.both (hd:∀a,ρ'.dom a->(zG M a).isSome=true):∀{vs:List SV} {xs xs':List Value},nM ρ vs xs->nM ρ' vs xs'->nM (ρ.lim M) vs xs
 |[],_,_,r,_=>r
 |_::_,_,_,⟨x,ys,e,h1,h2⟩,⟨_,_,_,k1,k2⟩=>⟨x,ys,e,h1.both hd k1,nM.both hd h2 k2⟩
theorem zRT.both (hd:∀a,ρ'.dom a->(zG M a).isSome=true) (r:zRT ρ v x) (r':zRT ρ' v x'):zRT (ρ.lim M) v x:=by
 cases v<;>simp only[zRT]at r r'⊢<;>first|exact Rel.both hd r r'|(obtain⟨xs,hx,e⟩:=r;obtain⟨xs',hx',_⟩:=r';exact⟨xs,hx.both hd hx',e⟩)
def nL (M:Mm) (v:SV):Prop:=∃(ρ:Env) (x:Value),(∀a,ρ.dom a->(zG M a).isSome=true)/\zRT ρ v x
def mA (M:Mm) (e:Ent):Prop:=∃(ρ:Env) (w:World) (pos:Nat×Nat),(∀a,ρ.dom a->(zG M a).isSome=true)/\mB ρ w pos e
theorem nL.rel (h:nL M v) (r:zRT ρ v x):zRT (ρ.lim M) v x:=by
 obtain⟨ρ',x',hd,r'⟩:=h;exact r.both hd r'
theorem mA.sat (h:mA M e) (r:mB ρ w pos e):mB (ρ.lim M) w pos e:=by
 obtain⟨ρ',w',pos',hd,r'⟩:=h;cases e with
 |dead=>trivial
 |mem own sp ls=>
  obtain⟨cs,h1,h2,h3,h4⟩:=r;obtain⟨cs',k1,_⟩:=r';exact⟨cs,h1.both hd k1,h2,h3,h4⟩
 |map m=>exact r
theorem nL.mono (h:∀a e,zG M a=some e->∃e',zG M' a=some e') (t:nL M v):nL M' v:=by
 obtain⟨ρ',x',hd,r'⟩:=t;refine⟨ρ',x',λa ha=>?_,r'⟩;obtain⟨e,he⟩:=Option.isSome_iff_exists.1 (hd a ha);obtain⟨e',he'⟩:=h a e he;rw[he'];rfl
theorem mA.mono (h:∀a e,zG M a=some e->∃e',zG M' a=some e') (t:mA M v):mA M' v:=by
 obtain⟨ρ',w',x',hd,r'⟩:=t;refine⟨ρ',w',x',λa ha=>?_,r'⟩;obtain⟨e,he⟩:=Option.isSome_iff_exists.1 (hd a ha);obtain⟨e',he'⟩:=h a e he;rw[he'];rfl
theorem zF.told (h:zF ρ M w) (he:zG M a=some e):mA M e:=
 ⟨ρ,w,_,λb hb=>Option.isSome_iff_exists.2 (h.dom b hb),h.sat a e he⟩
theorem zF.toldT (h:zF ρ M w) (r:zRT ρ v x):nL M v:=
 ⟨ρ,x,λb hb=>Option.isSome_iff_exists.2 (h.dom b hb),r⟩
structure Sub (Mi M:Mm):Prop where
 sub:∀a e,zG Mi a=some e->zG M a=some e
 told:∀a e,zG Mi a=some e->mA Mi e
theorem Sub.conc (hs:Sub Mi M) (h:zF ρ M w):zF (ρ.lim Mi) Mi w where
 dom a ha:=Option.isSome_iff_exists.1 ha.2
 mod a e he:=⟨h.mod a e (hs.sub a e he),by rw[he];rfl⟩
 sat a e he:=(hs.told a e he).sat (h.sat a e (hs.sub a e he))
 sep a b e e' ha hb:=h.sep a b e e' (hs.sub a e ha) (hs.sub b e' hb)
 imm:=h.imm
 isep b o hi ho:=h.isep b o hi (by obtain⟨a,e,h1,h2⟩:=ho;exact⟨a,e,hs.sub a e h1,h2⟩)
theorem zF.frame (h:zF ρ M w) (hs:Sub Mi M) (hle:(ρ.lim Mi).le ρ') (h':zF ρ' (E++Mi) w') (hst:aV (ρ.lim Mi) Mi ρ' (E++Mi) w w')
  (hE:∀a e,zG E a=some e->(zG M a=none/\e.loose=true)\/(e.loose=true/\∃e0,zG Mi a=some e0)):
  ∃ρ'',ρ.le ρ''/\ρ'.le ρ''/\zF ρ'' (E++M) w'/\aV ρ M ρ'' (E++M) w w':=by
 have hMi:∀{a e},zG Mi a=some e->zG M a=some e:=λ{a e} he=>hs.sub a e he
 have hEi:∀{a e},zG Mi a=some e->zG E a=none->zG (E++Mi) a=some e:=λ{a e} he hn=>by
  rw[zao hn];exact he
 have posi:∀{a e},zG Mi a=some e->ρ'.pos a=ρ.pos a:=λ{a e} he=>(hle a ⟨h.mod a e (hMi he),by rw[he];rfl⟩).2;have both:∀{a},ρ.dom a->ρ'.dom a->ρ'.pos a=ρ.pos a:=by
  intro a h1 h2;obtain⟨e,he⟩:=h'.dom a h2;obtain⟨e0,he0⟩:=h.dom a h1;cases hx:zG E a with
  |none=>
   rw[zao hx]at he;exact posi he
  |some e'=>
   rcases hE a e' hx with h3|⟨_,e1,h3⟩
   .rw[h3.1]at he0;cases he0
   exact posi h3
 classical
 let ρ2:Env:=⟨λa=>ρ.dom a\/ρ'.dom a,λa=>if ρ.dom a then ρ.pos a else ρ'.pos a,ρ'.imm⟩
 have p1:∀{a},ρ.dom a->ρ2.pos a=ρ.pos a:=λ{a} ha=>by simp only[ρ2];rw[if_pos ha]
 have p2:∀{a},ρ'.dom a->ρ2.pos a=ρ'.pos a:=λ{a} ha=>by
  by_cases hd:ρ.dom a
  .rw[p1 hd,both hd ha]
  simp only[ρ2];rw[if_neg hd]
 have l1:ρ.le ρ2:=⟨λa ha=>⟨Or.inl ha,p1 ha⟩,hle.im⟩;have l2:ρ'.le ρ2:=⟨λa ha=>⟨Or.inr ha,p2 ha⟩,λ_ _ _ h=>h⟩;have ownI:∀{b o},eU (ρ.lim Mi) Mi b o->eU ρ M b o:=by
  rintro b o ⟨a,e,h1,h2,h3⟩;exact⟨a,e,hMi h1,h2,h3⟩
 have rest:∀{a e},zG M a=some e->zG Mi a=none->∀b o,eJ (ρ.pos a) e b o->b<w.heap.size/\¬eU (ρ.lim Mi) Mi b o:=by
  intro a e he hn b o hf;refine⟨iP (h.sat a e he) hf,?_⟩;rintro⟨c,e',h1,h2,h3⟩;have hne:c≠a:=by rintro rfl;rw[hn]at h1;cases h1
  exact h.sep c a e' e (hMi h1) he hne h2 b o h3 hf
 have cases':∀{a e},zG (E++M) a=some e->(zG (E++Mi) a=some e/\ρ'.dom a/\(zG E a=some e\/zG Mi a=some e))\/(zG M a=some e/\zG Mi a=none/\zG E a=none/\ρ.dom a):=by
  intro a e he;cases hx:zG E a with
  |some e'=>
   rw[zan hx]at he;have:zG (E++Mi) a=some e:=by rw[zan hx];exact he
   exact Or.inl ⟨this,h'.mod a e this,Or.inl (by rw[<-he])⟩
  |none=>
   rw[zao hx]at he;cases hy:zG Mi a with
   |some e'=>
    have:=hMi hy;rw[he]at this;simp only[zoI]at this;subst this;exact Or.inl ⟨hEi hy hx,h'.mod a e (hEi hy hx),Or.inr rfl⟩
   |none=>exact Or.inr ⟨he,rfl,rfl,h.mod a e he⟩
 have isep2:∀b o,rE ρ2 b o->¬eU ρ2 (E++M) b o:=by
  rintro b o hi ⟨a,e,ha,ho,hf⟩;rcases cases' ha with⟨h1,h2,_⟩|⟨h1,h2,_,h4⟩
  .rw[p2 h2]at hf
   exact h'.isep b o hi ⟨a,e,h1,ho,hf⟩
  rw[p1 h4]at hf;obtain⟨q1,q2⟩:=rest h1 h2 b o hf;rcases hst.immo b o q1 hi with h5|h5
  .exact h.isep b o h5 ⟨a,e,h1,ho,hf⟩
  exact q2 h5
 refine⟨ρ2,l1,l2,⟨?_,?_,?_,?_,h'.imm,isep2⟩,hst.size,hst.os,hst.output,?_,?_,?_,λb o hb hi=>(hst.immo b o hb hi).imp (λh=>h) ownI⟩
 .rintro a (ha|ha)
  .obtain⟨e,he⟩:=h.dom a ha
   cases hx:zG E a with
   |some e'=>exact⟨e',zan hx⟩
   |none=>exact⟨e,by rw[zao hx];exact he⟩
  obtain⟨e,he⟩:=h'.dom a ha;cases hx:zG E a with
  |some e'=>exact⟨e',zan hx⟩
  |none=>
   rw[zao hx]at he;exact⟨e,by rw[zao hx];exact hMi he⟩
 .intro a e he
  rcases cases' he with⟨_,h2,_⟩|⟨_,_,_,h2⟩
  .exact Or.inr h2
  exact Or.inl h2
 .intro a e he
  rcases cases' he with⟨h1,h2,_⟩|⟨h1,h2,_,h4⟩
  .rw[p2 h2]
   exact mB.of_same l2 (le_refl _) (λ_ _ _=>⟨rfl,rfl⟩) (λ_ _ _=>rfl) (h'.sat a e h1)
  rw[p1 h4]
  exact mB.of_same l1 hst.size (λb o hf=>by
   obtain⟨q1,q2⟩:=rest h1 h2 b o hf;exact hst.cell b o q1 q2) (λb hb hf=>hst.blk b hb λo ho=>(rest h1 h2 b o (hf o)).2 ho) (h.sat a e h1)
 .intro a b e e' ha hb hne ho k o hf hf'
  rcases cases' ha with⟨a1,a2,a3⟩|⟨a1,a2,a3,a4⟩
  .rw[p2 a2]at hf
   rcases cases' hb with⟨b1,b2,_⟩|⟨b1,b2,b3,b4⟩
   .rw[p2 b2]at hf'
    exact h'.sep a b e e' a1 b1 hne ho k o hf hf'
   rw[p1 b4]at hf';obtain⟨q1,q2⟩:=rest b1 b2 k o hf';exact q2 (hst.own k o q1 ⟨a,e,a1,ho,hf⟩)
  rw[p1 a4]at hf;rcases cases' hb with⟨b1,b2,b3⟩|⟨b1,b2,b3,b4⟩
  .rw[p2 b2]at hf'
   rcases b3 with b3|b3
   .obtain⟨q1,q2⟩:=rest a1 a2 k o hf
    cases e' with
    |dead=>exact hf'
    |mem own' sp' ls'=>
     have hl:(Ent.mem own' sp' ls').loose=true:=by
      rcases hE b _ b3 with h5|⟨h5,_⟩
      .exact h5.2
      exact h5
     cases own' with
     |true=>exact q2 (hst.own k o q1 ⟨b,_,b1,rfl,hf'⟩)
     |false=>
      simp only[Ent.loose,Bool.false_or,bne_iff_ne]at hl;obtain⟨_,_,k2,_⟩:=h'.sat b _ b1;have hi:=h'.immO_sep (k2.2 rfl hl) (k:=k) (p:=o) hf';rcases hst.immo k o q1 hi with h5|h5
      .exact h.isep k o h5 ⟨a,e,a1,ho,hf⟩
      exact q2 h5
    |map m=>exact q2 (hst.own k o q1 ⟨b,_,b1,rfl,hf'⟩)
   rw[posi b3]at hf';exact h.sep a b e e' a1 (hMi b3) hne ho k o hf hf'
  rw[p1 b4]at hf';exact h.sep a b e e' a1 b1 hne ho k o hf hf'
 .intro b hb ho
  exact hst.blk b hb λo hc=>ho o (ownI hc)
 .intro b o hb ho
  exact hst.cell b o hb λhc=>ho (ownI hc)
 rintro b o hb ⟨a,e,ha,ho,hf⟩;rcases cases' ha with⟨h1,h2,_⟩|⟨h1,h2,_,h4⟩
 .rw[p2 h2]at hf
  exact ownI (hst.own b o hb ⟨a,e,h1,ho,hf⟩)
 rw[p1 h4]at hf;exact⟨a,e,h1,ho,hf⟩
theorem Oper.wp_put {P:Program} {o:Oper} {a:Act} {w:World} {K:Act->World->Prop} {Q:Exit->Act->World->Prop} (h:o.wp P a w K Q):
  o.wp P a w (λa' w'=>(∃x,a'.tmps=(a.put o.dst x).tmps)/\K a' w') Q:=by
 have hd:∀d x,({a with defers:=d::a.defers}.put o.dst x).tmps=(a.put o.dst x).tmps:=by
  intro d x;unfold Act.put;cases o.dst<;>rfl
 unfold Oper.wp at *;generalize (execOp a.eval o).run P w=r at *;cases r with
 |ok n w'=>
  cases n<;>simp only[Oper.upon]at h⊢
  case value v=>exact⟨⟨v,rfl⟩,h⟩
  case skip=>exact⟨⟨undef,rfl⟩,h⟩
  case defer d=>exact⟨⟨undef,hd d _⟩,h⟩
  case enter f args=>
   refine Calls.mono h λe w'' he=>?_;cases e with
   |returned v=>exact⟨⟨v,rfl⟩,he⟩
   |panicked c=>exact he
   |outgrown=>exact he
  case row row args=>exact Rows.mono h λu w'' he=>⟨⟨u,rfl⟩,he⟩
 |halt x w'=>
  cases x<;>simp only[Oper.upon]at h⊢;exact h
structure Rec where
 ix:Nat
 dst:Option Nat
 v:SV
 new:Mm
 dep:List Nat
 rd:List Nat
def dM (p:Nat->Bool) (T0:Tm):List Rec->Tm
 |[]=>T0
 |r::q=>bif p r.ix then zt r.dst r.v (dM p T0 q)else dM p T0 q
def zrM (p:Nat->Bool) (M0:Mm):List Rec->Mm
 |[]=>M0
 |r::q=>bif p r.ix then r.new++zrM p M0 q else zrM p M0 q
def zre (T:Tm):List Nat->Tm
 |[]=>[]
 |s::r=>(s,zX T s)::zre T r
def jo (_:Nat):Bool:=true
def inB (l:List Nat) (j:Nat):Bool:=eY j l
def kY (p:Nat->Bool) (i:Nat):Nat->Bool:=λj=>beq j i||p j
theorem bE (p:Nat->Bool) (i:Nat):kY p i i=true:=by simp[kY]
theorem aO (h:p j=true):kY p i j=true:=by simp[kY,h]
theorem mY (h:j≠i):kY p i j=p j:=by
 have:beq j i=false:=by
  cases hb:beq j i with
  |false=>rfl
  |true=>exact absurd (zq hb) h
 simp[kY,this]
theorem an (h:kY p i j=true):j=i\/p j=true:=by
 by_cases hj:j=i
 .exact Or.inl hj
 rw[mY hj]at h;exact Or.inr h
def aP0 (M0:Mm) (q:List Rec) (r:Rec):Prop:=∀a e,zG r.new a=some e->
 (zG (zrM jo M0 q) a=none/\e.loose=true/\e≠ .dead)\/
 (e= .dead/\(∃e0,zG (zrM (inB r.dep) M0 q) a=some e0)/\∀x∈q,x.ix∉r.dep->zG x.new a=none/\zG (zrM (inB x.dep) M0 q) a=none)
def wfM (M0:Mm):List Rec->Prop
 |[]=>True
 |r::q=>aP0 M0 q r/\wfM M0 q
theorem qB (h:inB l j=false):j∉l:=λhm=>by
 have:=zmi.2 hm;unfold inB at h;rw[this]at h;cases h
theorem qA (h:j∉l):inB l j=false:=by
 cases hb:inB l j with
 |false=>rfl
 |true=>exact absurd (zmi.1 hb) h
section
variable {M0:Mm}
theorem jK:∀{rs:List Rec} {a:Nat} {e:Ent},zG (zrM p M0 rs) a=some e->zG M0 a=some e\/∃r∈rs,p r.ix=true/\zG r.new a=some e
 |[],_,_,h=>Or.inl h
 |r::q,a,e,h=>by
  simp only[zrM]at h;cases hp:p r.ix with
  |false=>
   rw[hp,zcF]at h;rcases jK h with h|⟨r',h1,h2⟩
   .exact Or.inl h
   exact Or.inr ⟨r',mem_cons_of_mem _ h1,h2⟩
  |true=>
   rw[hp,zcT]at h;cases hx:zG r.new a with
   |some e'=>rw[zan hx]at h;exact Or.inr ⟨r,by simp,hp,by rw[hx,h]⟩
   |none=>
    rw[zao hx]at h;rcases jK h with h|⟨r',h1,h2⟩
    .exact Or.inl h
    exact Or.inr ⟨r',mem_cons_of_mem _ h1,h2⟩
theorem pH:∀{rs:List Rec} (_:∀r∈rs,p r.ix=true->q r.ix=true) {a:Nat},(∃e,zG (zrM p M0 rs) a=some e)->∃e,zG (zrM q M0 rs) a=some e
 |[],_,_,h=>h
 |r::t,hpq,a,h=>by
  simp only[zrM]at h⊢;have ih:(∃e,zG (zrM p M0 t) a=some e)->∃e,zG (zrM q M0 t) a=some e:=pH λr' hr'=>hpq r' (mem_cons_of_mem _ hr');have up:(∃e,zG (zrM p M0 t) a=some e)->∃e,zG (bif q r.ix then r.new++zrM q M0 t else zrM q M0 t) a=some e:=by
   intro h;obtain⟨e,he⟩:=ih h;cases hq:q r.ix with
   |false=>exact⟨e,he⟩
   |true=>
    rw[zcT];cases hx:zG r.new a with
    |some e'=>exact⟨e',zan hx⟩
    |none=>exact⟨e,by rw[zao hx];exact he⟩
  cases hp:p r.ix with
  |false=>rw[hp]at h;exact up h
  |true=>
   rw[hp,zcT]at h;obtain⟨e,he⟩:=h;cases hx:zG r.new a with
   |some e'=>rw[hpq r (by simp) hp,zcT];exact⟨e',zan hx⟩
   |none=>rw[zao hx]at he;exact up ⟨e,he⟩
theorem se (h:∀r∈rs,p r.ix=true->q r.ix=true) (hn:zG (zrM q M0 rs) a=none):zG (zrM p M0 rs) a=none:=by
 cases hx:zG (zrM p M0 rs) a with
 |none=>rfl
 |some e=>
  obtain⟨e',he⟩:=pH h ⟨e,hx⟩;rw[hn]at he;cases he
theorem eu:∀{rs:List Rec} {r:Rec} (_:r∈rs) (_:p r.ix=true) {a:Nat} {e:Ent},zG r.new a=some e->∃e',zG (zrM p M0 rs) a=some e'
 |[],_,hr,_,_,_,_=>by simp at hr
 |r0::t,r,hr,hp,a,e,h=>by
  simp only[zrM];rcases List.mem_cons.1 hr with rfl|hr
  .rw[hp,zcT];exact⟨e,zan h⟩
  obtain⟨e',he⟩:=eu (p:=p) hr hp h;cases hp0:p r0.ix with
  |false=>exact⟨e',he⟩
  |true=>
   rw[zcT];cases hx:zG r0.new a with
   |some e2=>exact⟨e2,zan hx⟩
   |none=>exact⟨e',by rw[zao hx];exact he⟩
def aaU (M0:Mm) (rs:List Rec) (p q:Nat->Bool):Prop:=∀r∈rs,q r.ix=true->p r.ix=false->∀a,zG r.new a=some .dead->zG (zrM p M0 rs) a=none
theorem ua:∀{rs:List Rec} {q:Nat->Bool} (_:wfM M0 rs) (_:∀r∈rs,p r.ix=true->q r.ix=true) (_:aaU M0 rs p q) {a:Nat} {e:Ent},zG (zrM p M0 rs) a=some e->zG (zrM q M0 rs) a=some e
 |[],_,_,_,_,_,_,h=>h
 |r::t,q,hw,hpq,hs,a,e,h=>by
  have hpt:∀r'∈t,p r'.ix=true->q r'.ix=true:=λr' hr'=>hpq r' (mem_cons_of_mem _ hr');have hst:aaU M0 t p q:=by
   intro r' hr' h1 h2 b hb;have:=hs r' (mem_cons_of_mem _ hr') h1 h2 b hb;simp only[zrM]at this;cases hp:p r.ix with
   |false=>rw[hp]at this;exact this
   |true=>
    rw[hp,zcT]at this;cases hx:zG r.new b with
    |some e'=>rw[zan hx]at this;cases this
    |none=>rw[zao hx]at this;exact this
  have ih:zG (zrM p M0 t) a=some e->zG (zrM q M0 t) a=some e:=ua hw.2 hpt hst;have hs0:=hs r (by simp);simp only[zrM]at h hs0⊢;cases hp:p r.ix with
  |false=>
   rw[hp,zcF]at h;cases hq:q r.ix with
   |false=>rw[zcF];exact ih h
   |true=>
    have hn:zG r.new a=none:=by
     cases hx:zG r.new a with
     |none=>rfl
     |some e'=>
      rcases hw.1 a e' hx with h1|⟨h1,_,_⟩
      .have:=se (p:=p) (q:=jo) (λ_ _ _=>rfl) h1.1
       rw[h]at this;cases this
      subst h1;have:=hs0 hq hp a hx;rw[hp,zcF,h]at this;cases this
    rw[zcT,zao hn];exact ih h
  |true=>
   rw[hpq r (by simp) hp,zcT];rw[hp,zcT]at h;cases hx:zG r.new a with
   |some e'=>rw[zan hx]at h⊢;exact h
   |none=>rw[zao hx]at h⊢;exact ih h
theorem uZ:∀(rs:List Rec),zrM (λ_=>false) M0 rs=M0
 |[]=>rfl
 |r::q=>by simp only[zrM,zcF];exact uZ q
theorem dq (h:zG M0 a=some e):∃e',zG (zrM p M0 rs) a=some e':=
 pH (p:=λ_=>false) (λ_ _ h=>by cases h) ⟨e,by rw[uZ];exact h⟩
theorem uY:∀{rs:List Rec},(∀r∈rs,q r.ix≠p r.ix->zG r.new a=none)->zG (zrM q M0 rs) a=zG (zrM p M0 rs) a
 |[],_=>rfl
 |r::t,h=>by
  have ih:=uY (rs:=t) λr' hr'=>h r' (mem_cons_of_mem _ hr');have h0:=h r (by simp);simp only[zrM];cases hq:q r.ix<;>cases hp:p r.ix
  .exact ih
  .rw[zcF,zcT,zao (h0 (by rw[hq,hp];simp))];exact ih
  .rw[zcF,zcT,zao (h0 (by rw[hq,hp];simp))];exact ih
  rw[zcT,zcT,aU,aU,ih]
def wB (rs:List Rec) (p:Nat->Bool):Prop:=∀x∈rs,p x.ix=true->∀k∈x.dep,p k=true
theorem zH:∀{rs:List Rec} (_:wfM M0 rs) {r:Rec} (_:r∈rs) (_:p r.ix=false) (_:wB rs p) (_:∀x∈rs,r.ix=x.ix->r=x) {a:Nat} {e:Ent},zG r.new a=some e->zG (zrM (kY p r.ix) M0 rs) a=some e
 |[],_,_,hr,_,_,_,_,_,_=>by simp at hr
 |r0::t,hw,r,hr,hp,hc,hu,a,e,h=>by
  simp only[zrM];rcases List.mem_cons.1 hr with h'|h'
  .subst h'
   rw[bE,zcT];exact zan h
  have ih:=zH hw.2 h' hp (λx hx=>hc x (mem_cons_of_mem _ hx)) (λx hx=>hu x (mem_cons_of_mem _ hx)) h;cases hp0:kY p r.ix r0.ix with
  |false=>rw[zcF];exact ih
  |true=>
   rw[zcT];rcases an hp0 with h0|h0
   .have:=hu r0 (by simp) h0.symm
    subst this;exact zan h
   rw[zao];·exact ih
   cases hx:zG r0.new a with
   |none=>rfl
   |some e'=>
    rcases hw.1 a e' hx with h1|⟨_,_,h1⟩
    .obtain⟨e2,he2⟩:=eu (M0:=M0) (p:=jo) h' rfl h
     rw[h1.1]at he2;cases he2
    by_cases hd:r.ix∈r0.dep
    .have:=hc r0 (by simp) h0 _ hd
     rw[hp]at this;cases this
    rw[(h1 r h' hd).1]at h;cases h
theorem ko (hw:wfM M0 rs) (hu:∀r∈rs,∀r'∈rs,r.ix=r'.ix->r=r') (hc:wB rs p) (hr:r∈rs) (hp:p r.ix=false) (a:Nat):
  zG (zrM (kY p r.ix) M0 rs) a=zG (r.new++zrM p M0 rs) a:=by
 cases hx:zG r.new a with
 |some e=>rw[zan hx];exact zH hw hr hp hc (hu r hr) hx
 |none=>
  rw[zao hx];refine uY λr' hr' hne=>?_;by_cases e:r'.ix=r.ix
  .have:=hu r' hr' r hr e;subst this;exact hx
  rw[mY e]at hne;exact absurd rfl hne
theorem aDQ:∀{rs:List Rec} (_:wfM M0 rs) {r:Rec} (_:r∈rs) {a:Nat} {e:Ent},zG r.new a=some e->e.loose=true
 |[],_,_,hr,_,_,_=>by simp at hr
 |r0::t,hw,r,hr,a,e,h=>by
  rcases List.mem_cons.1 hr with h'|h'
  .subst h'
   rcases hw.1 a e h with h1|⟨h1,_⟩
   .exact h1.2.1
   subst h1;rfl
  exact aDQ hw.2 h' h
theorem jL:∀{rs:List Rec} (_:wfM M0 rs) {r:Rec} (_:r∈rs) (_:p r.ix=false) (_:wB rs p) {b:Nat} {e:Ent},e≠ .dead->zG r.new b=some e->zG (zrM p M0 rs) b=none
 |[],_,_,h,_,_,_,_,_,_=>by simp at h
 |r0::t,hw,r,hr,hp,hc,b,e,hd,h=>by
  simp only[zrM];rcases List.mem_cons.1 hr with h'|h'
  .subst h'
   rw[hp,zcF];rcases hw.1 b e h with h1|⟨h1,_⟩
   .exact se (q:=jo) (λ_ _ _=>rfl) h1.1
   exact absurd h1 hd
  have ih:=jL hw.2 h' hp (λx hx=>hc x (mem_cons_of_mem _ hx)) hd h;cases hp0:p r0.ix with
  |false=>rw[zcF];exact ih
  |true=>
   rw[zcT,zao];·exact ih
   cases hx:zG r0.new b with
   |none=>rfl
   |some e'=>
    rcases hw.1 b e' hx with h1|⟨_,_,h1⟩
    .obtain⟨e2,he2⟩:=eu (M0:=M0) (p:=jo) h' rfl h
     rw[h1.1]at he2;cases he2
    by_cases hd':r.ix∈r0.dep
    .have:=hc r0 (by simp) hp0 _ hd'
     rw[hp]at this;cases this
    rw[(h1 r h' hd').1]at h;cases h
theorem fG:∀{rs:List Rec},(∀r∈rs,p r.ix=q r.ix)->zrM p M0 rs=zrM q M0 rs
 |[],_=>rfl
 |r::t,h=>by simp only[zrM];rw[h r (by simp),fG λr' hr'=>h r' (mem_cons_of_mem _ hr')]
theorem rY:∀{rs:List Rec},(∀r∈rs,p r.ix=q r.ix)->dM p T0 rs=dM q T0 rs
 |[],_=>rfl
 |r::t,h=>by simp only[dM];rw[h r (by simp),rY λr' hr'=>h r' (mem_cons_of_mem _ hr')]
end
theorem oA:∀(rs:List Rec) (s:Nat),
  (∃r∈rs,p r.ix=true/\r.dst=some s/\zX (dM p T0 rs) s=r.v)\/((∀r∈rs,p r.ix=true->r.dst≠some s)/\zX (dM p T0 rs) s=zX T0 s)
 |[],_=>Or.inr ⟨by simp,rfl⟩
 |r::t,s=>by
  simp only[dM];have lift:(∃r'∈t,p r'.ix=true/\r'.dst=some s/\zX (dM p T0 t) s=r'.v)\/((∀r'∈t,p r'.ix=true->r'.dst≠some s)/\zX (dM p T0 t) s=zX T0 s):=oA t s;cases hp:p r.ix with
  |false=>
   rw[zcF];rcases lift with⟨r',h1,h2,h3,h4⟩|⟨h1,h2⟩
   .exact Or.inl ⟨r',mem_cons_of_mem _ h1,h2,h3,h4⟩
   refine Or.inr ⟨λr' hr' hp'=>?_,h2⟩;rcases List.mem_cons.1 hr' with rfl|hr'
   .rw[hp]at hp';cases hp'
   exact h1 r' hr' hp'
  |true=>
   rw[zcT];cases hd:r.dst with
   |none=>
    simp only[zt];rcases lift with⟨r',h1,h2,h3,h4⟩|⟨h1,h2⟩
    .exact Or.inl ⟨r',mem_cons_of_mem _ h1,h2,h3,h4⟩
    refine Or.inr ⟨λr' hr' hp'=>?_,h2⟩;rcases List.mem_cons.1 hr' with rfl|hr'
    .rw[hd];simp
    exact h1 r' hr' hp'
   |some d=>
    simp only[zt];by_cases hs:s=d
    .subst hs
     exact Or.inl ⟨r,by simp,hp,hd,aK _ _ _⟩
    rw[aS hs];rcases lift with⟨r',h1,h2,h3,h4⟩|⟨h1,h2⟩
    .exact Or.inl ⟨r',mem_cons_of_mem _ h1,h2,h3,h4⟩
    refine Or.inr ⟨λr' hr' hp'=>?_,h2⟩;rcases List.mem_cons.1 hr' with rfl|hr'
    .rw[hd];simpa usingλh=>hs h.symm
    exact h1 r' hr' hp'
theorem uV:∀{l:List Nat} {s:Nat},s∈l->zX (zre T l) s=zX T s
 |[],_,h=>by simp at h
 |d::r,s,h=>by
  simp only[zre];by_cases hs:s=d
  .subst hs;rw[aK]
  rw[aS hs];exact uV ((List.mem_cons.1 h).resolve_left hs)
theorem uU:∀{l:List Nat} {s:Nat},s∉l->zX (zre T l) s= .und
 |[],_,_=>rfl
 |d::r,s,h=>by
  simp only[zre];rw[aS (λe=>h (by simp[e]))];exact uU λhr=>h (by simp[hr])
def aMW (r r':Rec):Prop:=
 (∀s,r'.dst=some s->s∈r.rd->r'.ix∈r.dep\/r.ix∈r'.dep)/\(∀s,r.dst=some s->s∈r'.rd->r.ix∈r'.dep\/r'.ix∈r.dep)/\∀s,r.dst=some s->r'.dst≠some s
theorem aMW.symm (h:aMW r r'):aMW r' r:=⟨h.2.1,h.1,λs h1 h2=>h.2.2 s h2 h1⟩
structure Inv (N:Nat) (dep:Nat->List Nat) (bf:List Nat) (T0:Tm) (M0:Mm) (rs:List Rec) (p:Nat->Bool) (ρ:Env) (a:Act) (w:World):Prop where
 wf:wfM M0 rs
 uniq:∀r∈rs,∀r'∈rs,r.ix=r'.ix->r=r'
 bfs:∀r∈rs,r.ix∈bf
 done:∀j,p j=true->j∈bf
 base:∀j∈bf,p j=true\/∃r∈rs,r.ix=j
 clos:∀j,p j=true->∀k∈dep j,p k=true
 deps:∀r∈rs,r.dep=dep r.ix
 trans:∀r∈rs,∀k∈r.dep,∀j∈dep k,j∈r.dep
 irr:∀r∈rs,r.ix∉r.dep
 below:∀r∈rs,∀k∈r.dep,k∈bf
 small:∀r∈rs,∀d,r.dst=some d->d<N
 pairs:∀r∈rs,∀r'∈rs,r.ix≠r'.ix->aMW r r'
 safe:∀x∈rs,∀k∈rs,k.ix∉x.dep->x.ix∉k.dep->k.ix≠x.ix->∀a,zG k.new a=some .dead->zG (zrM (inB x.dep) M0 rs) a=none
 kill:∀k∈rs,∀a,zG k.new a=some .dead->∃e0,zG (zrM (inB k.dep) M0 rs) a=some e0
 mem:zF ρ (zrM p M0 rs) w
 sz:a.tmps.size=N
 defers:a.defers=[]
 t0:∀s,nL M0 (zX T0 s)
 m0:∀b e,zG M0 b=some e->mA M0 e
 slot0:∀s,(∀r∈rs,p r.ix=true->r.dst≠some s)->zRT ρ (zX T0 s) (a.tmps.getD s undef)
 slotr:∀r∈rs,p r.ix=true->(∀d,r.dst=some d->zRT ρ r.v (a.tmps.getD d undef)/\nL (zrM (kY (inB r.dep) r.ix) M0 rs) r.v)/\
  ∀b e,zG r.new b=some e->mA (zrM (kY (inB r.dep) r.ix) M0 rs) e
section
variable {N:Nat} {dep:Nat->List Nat} {bf:List Nat} {T0:Tm} {M0:Mm} {rs:List Rec} {p:Nat->Bool} {ρ:Env} {a:Act} {w:World}
theorem Inv.closed (I:Inv N dep bf T0 M0 rs p ρ a w):wB rs p:=λx hx hp k hk=>I.clos x.ix hp k (by rw[<-I.deps x hx];exact hk)
theorem Inv.sees (I:Inv N dep bf T0 M0 rs p ρ a w) (hd:∀k∈dp,p k=true) (ht:∀k∈dp,∀j∈dep k,j∈dp)
  (hrd:∀r∈rs,∀s,r.dst=some s->s∈rd->p r.ix=true->r.ix∈dp)
  (hsf:∀k∈rs,p k.ix=true->k.ix∉dp->∀a,zG k.new a=some .dead->zG (zrM (inB dp) M0 rs) a=none):
  Sub (zrM (inB dp) M0 rs) (zrM p M0 rs)/\aZ N (ρ.lim (zrM (inB dp) M0 rs)) (zre (dM (inB dp) T0 rs) rd) (zrM (inB dp) M0 rs) a w:=by
 have hin:∀{j},inB dp j=true->j∈dp:=λ{j} h=>zmi.1 h;have up:∀r∈rs,r.ix∈dp->∀b e,zG (zrM (kY (inB r.dep) r.ix) M0 rs) b=some e->∃e',zG (zrM (inB dp) M0 rs) b=some e':=by
  intro r hr hrd' b e he;refine pH (λr' hr' h=>?_) ⟨e,he⟩;rcases an h with h|h
  .rw[h];exact zmi.2 hrd'
  have:=zmi.1 h;rw[I.deps r hr]at this;exact zmi.2 (ht r.ix hrd' _ this)
 have hs:Sub (zrM (inB dp) M0 rs) (zrM p M0 rs):=by
  refine⟨λb e he=>ua I.wf (λr _ h=>hd _ (hin h)) (λk hk h1 h2=>hsf k hk h1 (qB h2)) he,λb e he=>?_⟩;rcases jK he with h|⟨r,h1,h2,h3⟩
  .exact(I.m0 b e h).mono λb e h=>dq h
  exact((I.slotr r h1 (hd _ (hin h2))).2 b e h3).mono (up r h1 (hin h2))
 refine⟨hs,hs.conc I.mem,I.sz,I.defers,λs=>?_⟩;by_cases hsr:s∈rd
 .rw[uV hsr]
  rcases oA (p:=inB dp) (T0:=T0) rs s with⟨r,h1,h2,h3,h4⟩|⟨h1,h2⟩
  .rw[h4]
   obtain⟨k1,k2⟩:=(I.slotr r h1 (hd _ (hin h2))).1 s h3;exact(k2.mono (up r h1 (hin h2))).rel k1
  rw[h2];refine((I.t0 s).mono λb e h=>dq h).rel (I.slot0 s λr hr hp hds=>?_);exact h1 r hr (zmi.2 (hrd r hr s hds hsr hp)) hds
 rw[uU hsr];exact zR trivial
theorem Inv.mark (I:Inv N dep bf T0 M0 rs p ρ a w) (hr:r∈rs) (hi:p r.ix=false) (hd:∀k∈r.dep,p k=true)
  (ha:a'.tmps=(a.put r.dst x).tmps) (hdf:a'.defers=[]) (hle:ρ.le ρ') (hx:∀d,r.dst=some d->zRT ρ' r.v x/\nL (r.new++zrM (inB r.dep) M0 rs) r.v)
  (hn:∀b e,zG r.new b=some e->mA (r.new++zrM (inB r.dep) M0 rs) e) (hm:zF ρ' (r.new++zrM p M0 rs) w'):
  Inv N dep bf T0 M0 rs (kY p r.ix) ρ' a' w':=by
 have hself:inB r.dep r.ix=false:=by
  cases h:inB r.dep r.ix with
  |false=>rfl
  |true=>exact absurd (zmi.1 h) (I.irr r hr)
 have hup:∀b e,zG (r.new++zrM (inB r.dep) M0 rs) b=some e->∃e',zG (zrM (kY (inB r.dep) r.ix) M0 rs) b=some e':=λb e h=>
  by
   cases hx:zG r.new b with
   |some e'=>exact eu hr (bE _ _) hx
   |none=>
    rw[zao hx]at h;exact pH (λ_ _ h=>aO h) ⟨e,h⟩
 have hput:∀s,r.dst≠some s->a'.tmps.getD s undef=a.tmps.getD s undef:=by
  intro s hs;rw[ha];unfold Act.put;cases hd:r.dst with
  |none=>rfl
  |some d=>
   have hne:d≠s:=λe=>hs (by rw[hd,e]);simp only[getD_eq_getD_getElem?];rw[Array.getElem?_setIfInBounds_ne hne]
 have hput2:∀s,r.dst=some s->a'.tmps.getD s undef=x:=by
  intro s hs;rw[ha];have hlt:=I.small r hr s hs;unfold Act.put;rw[hs];simp only[getD_eq_getD_getElem?];rw[Array.getElem?_setIfInBounds_self_of_lt (by rw[I.sz];exact hlt)];rfl
 exact {
  wf:=I.wf,uniq:=I.uniq,bfs:=I.bfs,deps:=I.deps,trans:=I.trans,irr:=I.irr,below:=I.below,small:=I.small,pairs:=I.pairs,safe:=I.safe,kill:=I.kill,t0:=I.t0,m0:=I.m0,defers:=hdf
  done:=λj hj=>(an hj).elim (λh=>by rw[h];exact I.bfs r hr) (I.done j)
  base:=λj hj=>(I.base j hj).imp aO id
  clos:=λj hj k hk=>by
   rcases an hj with h|h
   .subst h
    rw[<-I.deps r hr]at hk;exact aO (hd k hk)
   exact aO (I.clos j h k hk)
  mem:=hm.congr λb=>(ko I.wf I.uniq I.closed hr hi b).symm
  sz:=by
   rw[ha];unfold Act.put;cases r.dst with
   |none=>exact I.sz
   |some d=>simp only[Array.size_setIfInBounds];exact I.sz
  slot0:=λs hs=>by
   have h1:=hs r hr (bE _ _);rw[hput s h1];exact(I.slot0 s λr' hr' hp'=>hs r' hr' (aO hp')).le hle
  slotr:=λr' hr' hp'=>by
   rcases an hp' with h|h
   .have:=I.uniq r' hr' r hr h;subst this
    refine⟨λd hds=>?_,λb e he=>(hn b e he).mono hup⟩;rw[hput2 d hds];exact⟨(hx d hds).1,(hx d hds).2.mono hup⟩
   have hne:r'.ix≠r.ix:=λe=>by rw[e,hi]at h;cases h
   obtain⟨k1,k2⟩:=I.slotr r' hr' h;refine⟨λd hds=>?_,k2⟩;rw[hput d ((I.pairs r' hr' r hr hne).2.2 d hds)];exact⟨(k1 d hds).1.le hle,(k1 d hds).2⟩}
theorem Inv.push (I:Inv N dep bf T0 M0 rs p ρ a w) (hb:r.ix∉bf) (hdep:r.dep=dep r.ix) (ht:∀k∈r.dep,∀j∈dep k,j∈r.dep) (hbl:∀k∈r.dep,k∈bf)
  (hsm:∀d,r.dst=some d->d<N) (hpr:∀r'∈rs,aMW r r') (hfr:aP0 M0 rs r)
  (hsf:∀k∈rs,k.ix∉r.dep->∀a,zG k.new a=some .dead->zG (zrM (inB r.dep) M0 rs) a=none):
  Inv N dep (r.ix::bf) T0 M0 (r::rs) p ρ a w:=by
 have hp:p r.ix=false:=by
  cases h:p r.ix with
  |false=>rfl
  |true=>exact absurd (I.done _ h) hb
 have hne:∀r'∈rs,r'.ix≠r.ix:=λr' hr' e=>hb (by rw[<-e];exact I.bfs r' hr');have hM:∀r'∈rs,zrM (kY (inB r'.dep) r'.ix) M0 (r::rs)=zrM (kY (inB r'.dep) r'.ix) M0 rs:=by
  intro r' hr';have h1:kY (inB r'.dep) r'.ix r.ix=false:=by
   rw[mY (hne r' hr').symm];cases h:inB r'.dep r.ix with
   |false=>rfl
   |true=>exact absurd (I.below r' hr' _ (zmi.1 h)) hb
  simp only[zrM,h1,zcF]
 have hV:∀x∈r::rs,zrM (inB x.dep) M0 (r::rs)=zrM (inB x.dep) M0 rs:=by
  intro x hx;have h1:inB x.dep r.ix=false:=by
   rcases List.mem_cons.1 hx with rfl|hx
   .exact qA λh=>hb (hbl _ h)
   exact qA λh=>hb (I.below x hx _ h)
  simp only[zrM,h1,zcF]
 exact {
  wf:=⟨hfr,I.wf⟩
  safe:=λx hx k hk h1 h2 h3 b hkb=>by
   rw[hV x hx];rcases List.mem_cons.1 hx with hx'|hx'
   .rcases List.mem_cons.1 hk with hk'|hk'
    .exact absurd (by rw[hk',hx']) h3
    subst hx';exact hsf k hk' h1 b hkb
   rcases List.mem_cons.1 hk with hk'|hk'
   .subst hk'
    rcases hfr b .dead hkb with h4|⟨_,_,h4⟩
    .exact absurd rfl h4.2.2
    exact(h4 x hx' h2).2
   exact I.safe x hx' k hk' h1 h2 h3 b hkb
  kill:=λk hk b hkb=>by
   rw[hV k hk];rcases List.mem_cons.1 hk with hk'|hk'
   .subst hk'
    rcases hfr b .dead hkb with h4|⟨_,h4,_⟩
    .exact absurd rfl h4.2.2
    exact h4
   exact I.kill k hk' b hkb
  uniq:=λx hx y hy e=>by
   rcases List.mem_cons.1 hx with hx'|hx'
   .rcases List.mem_cons.1 hy with hy'|hy'
    .rw[hx',hy']
    exact absurd (by rw[<-e,hx']) (hne y hy')
   rcases List.mem_cons.1 hy with hy'|hy'
   .exact absurd (by rw[e,hy']) (hne x hx')
   exact I.uniq x hx' y hy' e
  bfs:=λx hx=>by
   rcases List.mem_cons.1 hx with rfl|hx
   .simp
   exact mem_cons_of_mem _ (I.bfs x hx)
  done:=λj hj=>mem_cons_of_mem _ (I.done j hj)
  base:=λj hj=>by
   rcases List.mem_cons.1 hj with rfl|hj
   .exact Or.inr ⟨r,by simp,rfl⟩
   exact(I.base j hj).imp id λ⟨r',h1,h2⟩=>⟨r',mem_cons_of_mem _ h1,h2⟩
  clos:=I.clos
  deps:=λx hx=>by
   rcases List.mem_cons.1 hx with rfl|hx
   .exact hdep
   exact I.deps x hx
  trans:=λx hx=>by
   rcases List.mem_cons.1 hx with rfl|hx
   .exact ht
   exact I.trans x hx
  irr:=λx hx=>by
   rcases List.mem_cons.1 hx with rfl|hx
   .exactλh=>hb (hbl _ h)
   exact I.irr x hx
  below:=λx hx k hk=>by
   rcases List.mem_cons.1 hx with rfl|hx
   .exact mem_cons_of_mem _ (hbl k hk)
   exact mem_cons_of_mem _ (I.below x hx k hk)
  small:=λx hx=>by
   rcases List.mem_cons.1 hx with rfl|hx
   .exact hsm
   exact I.small x hx
  pairs:=λx hx y hy e=>by
   rcases List.mem_cons.1 hx with hx'|hx'
   .rcases List.mem_cons.1 hy with hy'|hy'
    .exact absurd (by rw[hx',hy']) e
    rw[hx'];exact hpr y hy'
   rcases List.mem_cons.1 hy with hy'|hy'
   .rw[hy'];exact(hpr x hx').symm
   exact I.pairs x hx' y hy' e
  mem:=by simp only[zrM,hp,zcF];exact I.mem
  sz:=I.sz
  defers:=I.defers
  t0:=I.t0
  m0:=I.m0
  slot0:=λs hs=>I.slot0 s λr' hr'=>hs r' (mem_cons_of_mem _ hr')
  slotr:=λx hx hpx=>by
   rcases List.mem_cons.1 hx with rfl|hx
   .rw[hp]at hpx;cases hpx
   rw[hM x hx];exact I.slotr x hx hpx}
theorem Inv.outP (I:Inv N dep bf T0 M0 rs p ρ a w):aZ N ρ (dM p T0 rs) (zrM p M0 rs) a w:=by
 refine⟨I.mem,I.sz,I.defers,λs=>?_⟩;rcases oA (p:=p) (T0:=T0) rs s with⟨r,h1,h2,h3,h4⟩|⟨h1,h2⟩
 .rw[h4];exact((I.slotr r h1 h2).1 s h3).1
 rw[h2];exact I.slot0 s λr hr hp=>h1 r hr hp
theorem Inv.out (I:Inv N dep bf T0 M0 rs p ρ a w) (h:∀r∈rs,p r.ix=true):aZ N ρ (dM jo T0 rs) (zrM jo M0 rs) a w:=by
 have hM:zrM p M0 rs=zrM jo M0 rs:=fG λr hr=>by rw[h r hr];rfl
 refine⟨hM▸I.mem,I.sz,I.defers,λs=>?_⟩;rcases oA (p:=jo) (T0:=T0) rs s with⟨r,h1,h2,h3,h4⟩|⟨h1,h2⟩
 .rw[h4];exact((I.slotr r h1 (h r h1)).1 s h3).1
 rw[h2];exact I.slot0 s λr hr _=>h1 r hr rfl
theorem Inv.start (hc:aZ N ρ T0 M0 a w) (hb:∀j,p j=true↔j∈bf) (hcl:∀j,p j=true->∀k∈dep j,p k=true):Inv N dep bf T0 M0 [] p ρ a w where
 wf:=trivial
 uniq:=by simp
 bfs:=by simp
 done j h:=(hb j).1 h
 base j h:=Or.inl ((hb j).2 h)
 clos:=hcl
 deps:=by simp
 trans:=by simp
 irr:=by simp
 below:=by simp
 small:=by simp
 pairs:=by simp
 safe:=by simp
 kill:=by simp
 mem:=hc.tozF
 sz:=hc.sz
 defers:=hc.defers
 t0 s:=hc.tozF.toldT (hc.tm s)
 m0 b e h:=hc.tozF.told h
 slot0 s _:=hc.tm s
 slotr:=by simp
end
def cC (dp:List Nat) (rs:List Rec):List Rec:=
 match rs with
 |[]=>[]
 |r::q=>⟨r.ix,r.dst,r.v,bif eY r.ix dp then[]else r.new,r.dep,r.rd⟩::cC dp q
theorem al:∀{rs:List Rec},r∈cC dp rs->∃r0∈rs,r.ix=r0.ix/\r.dst=r0.dst/\r.v=r0.v/\r.dep=r0.dep/\r.rd=r0.rd/\((r.ix∈dp/\r.new=[])\/(r.ix∉dp/\r=r0))
 |[],h=>by simp[cC]at h
 |x::q,h=>by
  simp only[cC,List.mem_cons]at h;rcases h with h|h
  .refine⟨x,by simp,?_⟩
   subst h;refine⟨rfl,rfl,rfl,rfl,rfl,?_⟩;by_cases hm:x.ix∈dp
   .refine Or.inl ⟨hm,?_⟩
    show(bif eY x.ix dp then[]else x.new)=[];rw[zmi.2 hm,zcT]
   refine Or.inr ⟨hm,?_⟩;have:eY x.ix dp=false:=qA hm;simp only[this,zcF]
  obtain⟨r0,h1,h2⟩:=al h;exact⟨r0,mem_cons_of_mem _ h1,h2⟩
theorem oH:∀{rs:List Rec},r∈rs->∃r1∈cC dp rs,r1.ix=r.ix/\r1.dst=r.dst/\r1.v=r.v/\r1.dep=r.dep/\r1.rd=r.rd/\(r.ix∉dp->r1=r)
 |[],h=>by simp at h
 |x::q,h=>by
  simp only[cC];rcases List.mem_cons.1 h with h|h
  .subst h
   refine⟨_,List.mem_cons_self,rfl,rfl,rfl,rfl,rfl,λhm=>?_⟩;have:eY r.ix dp=false:=qA hm;simp only[this,zcF]
  obtain⟨r1,h1,h2⟩:=oH h;exact⟨r1,mem_cons_of_mem _ h1,h2⟩
def je (dp:List Nat) (q:Nat->Bool) (j:Nat):Bool:=q j&& !eY j dp
theorem jM (a:Nat):∀{rs:List Rec},zG (zrM q B (cC dp rs)) a=zG (zrM (je dp q) [] rs++B) a
 |[]=>rfl
 |r::t=>by
  have ih:=jM (dp:=dp) (q:=q) (B:=B) a (rs:=t);simp only[cC,zrM,je];cases hq:q r.ix with
  |false=>simp only[zcF,Bool.false_and];exact ih
  |true=>
   cases hm:eY r.ix dp with
   |true=>
    simp only[zcT,Bool.true_and,Bool.not_true,zcF,List.nil_append];exact ih
   |false=>
    simp only[zcT,Bool.true_and,Bool.not_false,zcF,List.append_assoc];rw[aU,aU,ih]
theorem nz (h:zG (zrM (je dp q) [] rs) a=some e):∃r∈rs,q r.ix=true/\r.ix∉dp/\zG r.new a=some e:=by
 rcases jK h with h|⟨r,h1,h2,h3⟩
 .simp[zG]at h
 simp only[je,zbA,not_eq_true']at h2;exact⟨r,h1,h2.1,qB h2.2,h3⟩
theorem pG (hq:∀j∈dp,q j=true) (a:Nat):∀{rs:List Rec} (_:wfM M0 rs) (_:∀x∈rs,x.ix∈dp->∀k∈x.dep,k∈dp),zG (zrM q M0 rs) a=zG (zrM (je dp q) [] rs++zrM (inB dp) M0 rs) a
 |[],_,_=>rfl
 |r::t,hw,hc=>by
  have ih:=pG hq a hw.2 (λx hx=>hc x (mem_cons_of_mem _ hx));simp only[zrM,je,inB];cases hm:eY r.ix dp with
  |true=>
   simp only[hq _ (zmi.1 hm),Bool.not_true,Bool.and_false,zcF,zcT];cases hx:zG r.new a with
   |none=>rw[zao hx,ih,aU,aU,zao hx]
   |some e=>
    have hn:zG (zrM (je dp q) [] t) a=none:=by
     cases hy:zG (zrM (je dp q) [] t) a with
     |none=>rfl
     |some e'=>
      obtain⟨x,h1,_,h3,h4⟩:=nz hy;rcases hw.1 a e hx with h5|⟨_,_,h5⟩
      .obtain⟨e2,he2⟩:=eu (M0:=M0) (p:=jo) h1 rfl h4
       rw[h5.1]at he2;cases he2
      by_cases hd:x.ix∈r.dep
      .exact absurd (hc r (by simp) (zmi.1 hm) _ hd) h3
      rw[(h5 x h1 hd).1]at h4;cases h4
    rw[zan hx,zao hn,zan hx]
  |false=>
   cases hq':q r.ix with
   |false=>simp only[Bool.false_and,zcF];exact ih
   |true=>
    simp only[Bool.not_false,Bool.and_true,zcT,zcF,List.append_assoc];rw[aU,aU,ih]
section
variable {N:Nat} {dep:Nat->List Nat} {bf:List Nat} {T0:Tm} {M0:Mm} {rs:List Rec} {p:Nat->Bool} {ρ:Env} {a:Act} {w:World}
theorem Inv.turn (I:Inv N dep bf T0 M0 rs p ρ a w) (hr:r∈rs) (hi:p r.ix=false) (hd:∀k∈r.dep,p k=true) (hnew:r.new=[])
  (hE:∀b e,zG E b=some e->∀x∈rs,x.ix∉r.dep->zG x.new b=none) (hnd:∀x∈rs,x.ix∉r.dep->∀b,zG x.new b≠some .dead)
  (ha:a'.tmps=(a.put r.dst x).tmps) (hdf:a'.defers=[]) (hle:ρ.le ρ') (hx:∀d,r.dst=some d->zRT ρ' r.v x/\nL (E++zrM (inB r.dep) M0 rs) r.v)
  (hn:∀b e,zG E b=some e->mA (E++zrM (inB r.dep) M0 rs) e) (ht:∀b e,zG (zrM (inB r.dep) M0 rs) b=some e->mA (zrM (inB r.dep) M0 rs) e) (hm:zF ρ' (E++zrM p M0 rs) w'):
  Inv N dep bf T0 (E++zrM (inB r.dep) M0 rs) (cC r.dep rs) (kY p r.ix) ρ' a' w':=by
 have hself:r.ix∉r.dep:=I.irr r hr;have hcl:∀x∈rs,x.ix∈r.dep->∀k∈x.dep,k∈r.dep:=λx hx hxd k hk=>by rw[I.deps x hx]at hk;exact I.trans r hr _ hxd k hk
 have hput:∀s,r.dst≠some s->a'.tmps.getD s undef=a.tmps.getD s undef:=by
  intro s hs;rw[ha];unfold Act.put;cases hd:r.dst with
  |none=>rfl
  |some d=>
   have hne:d≠s:=λe=>hs (by rw[hd,e]);simp only[getD_eq_getD_getElem?];rw[Array.getElem?_setIfInBounds_ne hne]
 have hput2:∀s,r.dst=some s->a'.tmps.getD s undef=x:=by
  intro s hs;rw[ha];have hlt:=I.small r hr s hs;unfold Act.put;rw[hs];simp only[getD_eq_getD_getElem?];rw[Array.getElem?_setIfInBounds_self_of_lt (by rw[I.sz];exact hlt)];rfl
 have base:∀b e,zG (zrM (inB r.dep) M0 rs) b=some e->∃e',zG (E++zrM (inB r.dep) M0 rs) b=some e':=λb e he=>by
  cases hx:zG E b with
  |some e'=>exact⟨e',zan hx⟩
  |none=>exact⟨e,by rw[zao hx];exact he⟩
 have up:∀(q:Nat->Bool) b e,zG (zrM q M0 rs) b=some e->∃e',zG (zrM q (E++zrM (inB r.dep) M0 rs) (cC r.dep rs)) b=some e':=by
  intro q b e he;have ofB:(∃e,zG (E++zrM (inB r.dep) M0 rs) b=some e)->∃e',zG (zrM q (E++zrM (inB r.dep) M0 rs) (cC r.dep rs)) b=some e':=λ⟨e,h⟩=>dq h;rcases jK he with h|⟨y,h1,h2,h3⟩
  .obtain⟨e',h'⟩:=dq (rs:=rs) (p:=inB r.dep) h
   exact ofB (base b e' h')
  by_cases hy:y.ix∈r.dep
  .obtain⟨e',h'⟩:=eu (M0:=M0) (p:=inB r.dep) h1 (zmi.2 hy) h3
   exact ofB (base b e' h')
  obtain⟨y1,k1,k2,_,_,_,_,k3⟩:=oH (dp:=r.dep) h1;have:=k3 hy;subst this;exact eu k1 h2 h3
 have up0:∀b e,zG M0 b=some e->∃e',zG (E++zrM (inB r.dep) M0 rs) b=some e':=λb e he=>by
  obtain⟨e',h'⟩:=dq (rs:=rs) (p:=inB r.dep) he;exact base b e' h'
 have clsd:wB rs (inB r.dep):=λy hy hyd k hk=>zmi.2 (hcl y hy (zmi.1 hyd) k hk);have fresh:∀y∈rs,y.ix∉r.dep->∀b e,zG y.new b=some e->zG (E++zrM (inB r.dep) M0 rs) b=none:=by
  intro y hy hyd b e he;have h1:zG E b=none:=by
   cases h:zG E b with
   |none=>rfl
   |some e'=>rw[hE b e' h y hy hyd]at he;cases he
  rw[zao h1];exact jL I.wf hy (qA hyd) clsd (λh=>hnd y hy hyd b (by rw[he,h])) he
 have wf:∀{t:List Rec},(∀y∈t,y∈rs)->wfM M0 t->wfM (E++zrM (inB r.dep) M0 rs) (cC r.dep t):=by
  intro t;induction t with
  |nil=>intro _ _;trivial
  |cons y q ih=>
   intro hin hw;refine⟨λb e he=>?_,ih (λz hz=>hin z (mem_cons_of_mem _ hz)) hw.2⟩;simp only at he;cases hm:eY y.ix r.dep with
   |true=>rw[hm,zcT]at he;simp[zG]at he
   |false=>
    rw[hm,zcF]at he;have hyd:y.ix∉r.dep:=qB hm;have hne:e≠ .dead:=λh=>hnd y (hin y (by simp)) hyd b (by rw[he,h]);rcases hw.1 b e he with h1|⟨h1,_⟩
    .refine Or.inl ⟨?_,h1.2⟩
     rw[jM];rw[zao]
     .exact fresh y (hin y (by simp)) hyd b e he
     cases hz:zG (zrM (je r.dep jo) [] q) b with
     |none=>rfl
     |some e'=>
      obtain⟨z,k1,_,k3,k4⟩:=nz hz;obtain⟨e2,he2⟩:=eu (M0:=M0) (p:=jo) k1 rfl k4;rw[h1.1]at he2;cases he2
    exact absurd h1 hne
 have nodead:∀k∈cC r.dep rs,∀b,zG k.new b≠some .dead:=by
  intro k hk b hb;obtain⟨k0,h0,_,_,_,_,_,h|h⟩:=al hk
  .rw[h.2]at hb;simp[zG]at hb
  obtain⟨h1,h2⟩:=h;subst h2;exact hnd k h0 h1 b hb
 exact {
  wf:=wf (λ_ h=>h) I.wf
  uniq:=λy hy z hz e=>by
   obtain⟨y0,a1,a2,a3,a4,a5,a6,a7⟩:=al hy;obtain⟨z0,b1,b2,b3,b4,b5,b6,b7⟩:=al hz;have:=I.uniq y0 a1 z0 b1 (by rw[<-a2,<-b2,e]);subst this;rcases a7 with⟨c1,c2⟩|⟨c1,c2⟩
   .rcases b7 with⟨d1,d2⟩|⟨d1,d2⟩
    .cases y;cases z;simp_all
    rw[e]at c1;exact absurd c1 d1
   rcases b7 with⟨d1,d2⟩|⟨d1,d2⟩
   .rw[<-e]at d1;exact absurd d1 c1
   rw[c2,d2]
  bfs:=λy hy=>by
   obtain⟨y0,a1,a2,_⟩:=al hy;rw[a2];exact I.bfs y0 a1
  deps:=λy hy=>by
   obtain⟨y0,a1,a2,_,_,a5,_⟩:=al hy;rw[a2,a5];exact I.deps y0 a1
  trans:=λy hy=>by
   obtain⟨y0,a1,a2,_,_,a5,_⟩:=al hy;rw[a5];exact I.trans y0 a1
  irr:=λy hy=>by
   obtain⟨y0,a1,a2,_,_,a5,_⟩:=al hy;rw[a2,a5];exact I.irr y0 a1
  below:=λy hy=>by
   obtain⟨y0,a1,a2,_,_,a5,_⟩:=al hy;rw[a5];exact I.below y0 a1
  small:=λy hy=>by
   obtain⟨y0,a1,_,a3,_⟩:=al hy;rw[a3];exact I.small y0 a1
  pairs:=λy hy z hz hne=>by
   obtain⟨y0,a1,a2,a3,a4,a5,a6,_⟩:=al hy;obtain⟨z0,b1,b2,b3,b4,b5,b6,_⟩:=al hz;have:=I.pairs y0 a1 z0 b1 (by rw[<-a2,<-b2];exact hne);unfold aMW at this⊢;rw[a2,a3,a5,a6,b2,b3,b5,b6];exact this
  safe:=λy _ k hk _ _ _ b hb=>absurd hb (nodead k hk b)
  kill:=λk hk b hb=>absurd hb (nodead k hk b)
  t0:=λs=>(I.t0 s).mono up0
  m0:=λb e he=>by
   cases hx:zG E b with
   |some e'=>
    rw[zan hx]at he;simp only[zoI]at he;subst he;exact hn b e' hx
   |none=>
    rw[zao hx]at he;exact(ht b e he).mono base
  defers:=hdf
  done:=λj hj=>(an hj).elim (λh=>by rw[h];exact I.bfs r hr) (I.done j)
  base:=λj hj=>by
   rcases I.base j hj with h|⟨y,h1,h2⟩
   .exact Or.inl (aO h)
   obtain⟨y1,k1,k2,_⟩:=oH (dp:=r.dep) h1;exact Or.inr ⟨y1,k1,by rw[k2,h2]⟩
  clos:=λj hj k hk=>by
   rcases an hj with h|h
   .subst h
    rw[<-I.deps r hr]at hk;exact aO (hd k hk)
   exact aO (I.clos j h k hk)
  mem:=by
   refine hm.congr λb=>?_;rw[jM];have h1:zrM (kY p r.ix) M0 rs=zrM (kY p r.ix) M0 rs:=rfl;have h2:=ko I.wf I.uniq I.closed hr hi b;rw[hnew,List.nil_append]at h2;have h3:=pG (M0:=M0) (dp:=r.dep) (q:=kY p r.ix) (λj hj=>aO (hd j hj)) b I.wf hcl;cases hx:zG E b with
   |some e=>
    rw[zan hx,zao,zan hx];cases hy:zG (zrM (je r.dep (kY p r.ix)) [] rs) b with
    |none=>rfl
    |some e'=>
     obtain⟨z,k1,_,k3,k4⟩:=nz hy;rw[hE b e hx z k1 k3]at k4;cases k4
   |none=>
    rw[zao hx,<-h2,h3,aU,aU,zao hx]
  sz:=by
   rw[ha];unfold Act.put;cases r.dst with
   |none=>exact I.sz
   |some d=>simp only[Array.size_setIfInBounds];exact I.sz
  slot0:=λs hs=>by
   have hs':∀y∈rs,kY p r.ix y.ix=true->y.dst≠some s:=λy hy hp=>by
    obtain⟨y1,k1,k2,k3,_⟩:=oH (dp:=r.dep) hy;rw[<-k3];exact hs y1 k1 (by rw[k2];exact hp)
   have h1:=hs' r hr (bE _ _);rw[hput s h1];exact(I.slot0 s λr' hr' hp'=>hs' r' hr' (aO hp')).le hle
  slotr:=λy hy hp'=>by
   obtain⟨y0,a1,a2,a3,a4,a5,a6,a7⟩:=al hy;rw[a2]at hp';rw[a2,a3,a4,a5]
   have hnews:∀b e,zG y.new b=some e->zG y0.new b=some e:=λb e he=>by
    rcases a7 with⟨_,h⟩|⟨_,h⟩
    .rw[h]at he;simp[zG]at he
    rw[<-h];exact he
   rcases an hp' with h|h
   .have:=I.uniq y0 a1 r hr h;subst this
    refine⟨λd hds=>?_,λb e he=>?_⟩
    .rw[hput2 d hds]
     refine⟨(hx d hds).1,(hx d hds).2.mono λb e he=>dq he⟩
    have:=hnews b e he;rw[hnew]at this;simp[zG]at this
   have hne:y0.ix≠r.ix:=λe=>by rw[e,hi]at h;cases h
   obtain⟨k1,k2⟩:=I.slotr y0 a1 h;refine⟨λd hds=>?_,λb e he=>(k2 b e (hnews b e he)).mono (up _)⟩;rw[hput d ((I.pairs y0 a1 r hr hne).2.2 d hds)];exact⟨(k1 d hds).1.le hle,(k1 d hds).2.mono (up _)⟩}
end
def zdA:List (List Nat)->Nat->List Nat
 |[],_=>[]
 |d::_,0=>d
 |_::r,i+1=>zdA r i
def ka:List Operand->List Nat
 |[]=>[]
 | .tmp t::r=>t::ka r
 |_::r=>ka r
def aUG (ops:List Oper) (o:Oper):List Nat:=
 match o.guard with
 |none=>[]
 |some (j,_)=>match zgS ops j with
  |none=>[]
  |some d=>[d]
def aM (ops:List Oper) (o:Oper):List Nat:=aUG ops o++ka o.op.operands.toList
inductive GV where
 |bad|run|skip
 |split (p:Prop)
 |splitN (p:Prop)
def vL (ops:List Oper) (dp:List Nat) (o:Oper) (T:Tm):GV:=
 match o.guard with
 |none=>.run
 |some (j,want)=>bif eY j dp then match zgS ops j with
   |none=>.bad
   |some d=>match zX T d with
    | .tt=>bif want then .run else .skip
    | .ff=>bif want then .skip else .run
    | .bool p=>bif want then .split p else .splitN p
    | .tup []=>.skip
    |_=>.bad
  else .bad
def aAD (g:GV) (A B:Prop):Prop:=
 match g with
 | .bad=>False
 | .run=>A
 | .skip=>B
 | .split p=>zB p A B
 | .splitN p=>zB p B A
def fa (ops:List Oper) (o:Oper) (T:Tm) (b:Bool):Prop:=
 match o.guard with
 |none=>b=true
 |some (j,want)=>∃d,zgS ops j=some d/\match zX T d with
  | .tt=>b=want
  | .ff=>b= !want
  | .bool p=>(p↔b=want)
  | .tup []=>b=false
  |_=>False
theorem qF (h:aAD (vL ops dp o T) A B):∃b,fa ops o T b/\(b=true->A)/\(b=false->B):=by
 unfold vL at h;unfold fa;split at h
 .exact⟨true,rfl,λ_=>h,(λh=>by cases h)⟩
 rename_i j want hg;cases hm:eY j dp with
 |false=>rw[hm,zcF]at h;exact h.elim
 |true=>
  rw[hm,zcT]at h;split at h
  .exact h.elim
  rename_i d hd;split at h
  .rename_i hT
   cases want with
   |true=>exact⟨true,⟨d,hd,by rw[hT]⟩,λ_=>h,(λh=>by cases h)⟩
   |false=>exact⟨false,⟨d,hd,by rw[hT]⟩,(λh=>by cases h),λ_=>h⟩
  .rename_i hT
   cases want with
   |true=>exact⟨false,⟨d,hd,by rw[hT];rfl⟩,(λh=>by cases h),λ_=>h⟩
   |false=>exact⟨true,⟨d,hd,by rw[hT];rfl⟩,λ_=>h,(λh=>by cases h)⟩
  .rename_i p hT
   rcases Classical.em p with hp|hp
   .cases want with
    |true=>exact⟨true,⟨d,hd,by rw[hT];simp[hp]⟩,λ_=>zB.yes h hp,(λh=>by cases h)⟩
    |false=>exact⟨false,⟨d,hd,by rw[hT];simp[hp]⟩,(λh=>by cases h),λ_=>zB.yes h hp⟩
   cases want with
   |true=>exact⟨false,⟨d,hd,by rw[hT];simp[hp]⟩,(λh=>by cases h),λ_=>zB.no h hp⟩
   |false=>exact⟨true,⟨d,hd,by rw[hT];simp[hp]⟩,λ_=>zB.no h hp,(λh=>by cases h)⟩
  .rename_i hT
   exact⟨false,⟨d,hd,by rw[hT]⟩,(λh=>by cases h),λ_=>h⟩
  exact h.elim
theorem t7 (hc:aZ N ρ T M a w) (hall:iX N ops=true) (h:fa ops o T b):Region.wanted o (yielded ops.toArray a.tmps)=b:=by
 unfold fa at h;split at h
 .rename_i hg;subst h;simp[Region.wanted,hg]
 rename_i j want hg;obtain⟨d,hd,h⟩:=h;have hdN:d<N:=by
  unfold zgS at hd;split at hd
  .rename_i o' ho'
   exact eN hall (List.mem_of_getElem? ho') d hd
  cases hd
 have hw:∀{b:Bool},a.tmps.getD d undef= .bool b->Region.wanted o (yielded ops.toArray a.tmps)=(b==want):=by
  intro b hb;have:=rG hc hd hdN hb;simp only[Region.wanted,hg,this];cases b<;>cases want<;>rfl
 have hT:=hc.tm d;split at h
 .rename_i he;rw[he]at hT;rw[h]
  rw[hw (b:=true) hT];cases want<;>rfl
 .rename_i he;rw[he]at hT;rw[h]
  rw[hw (b:=false) hT];cases want<;>rfl
 .rename_i p he;rw[he]at hT
  obtain⟨b',hb,hbp⟩:=hT;rw[hw hb];have e:=hbp.trans h;clear hw h hbp hb he hg;revert e;cases b'<;>cases b<;>cases want<;>simp
 .rename_i he;rw[he]at hT;rw[h]
  exact rI hg hd (hT.elim λxs hx=>by have h1:=hx.1;have h2:=hx.2;simp only[nM]at h1;subst h1;exact h2)
 exact h.elim
def lM (ty:Nat->Ty) (o:Oper):Nat:=
 match o.op with
 | .alloc _=>1
 | .box _ _=>1
 | .makeSlice _ _ _=>1
 | .buildSlice _ _ _=>1
 | .makeMap _ _=>1
 | .mapUpdate _ _ _ _=>2
 | .store _ _ _=>2
 | .convert _ t _=>match(ty t).k with
  | .slice _=>2
  |_=>0
 | .call c=>match c.callee with
  | .builtin b=>match aN0 b with
   |true=>2
   |false=>match z9 b with
    |true=>2
    |false=>0
  |_=>2
 |_=>0
def aTT (Γ:Cfg) (o:Oper) (T:Tm):Option (List Prop×Nat×Ent×SV):=
 match o.op with
 | .alloc t=>match o.dst with
  |some d=>match(Γ.ty t).k with
   | .bad=>none
   |_=>match(Γ.ty t).zl with
    |[]=>none
    |zl=>some ([],d,.mem true 0 zl,.ptr d 0 none)
  |none=>none
 | .box t x=>match o.dst with
  |some d=>match iM (Γ.ty t) (ev T x)with
   |some (qs,ls)=>some (qs,d,.mem true 0 ls,.ptr d 0 none)
   |none=>none
  |none=>none
 | .makeSlice t l c=>match o.dst with
  |some d=>match aB5 Γ.ty T d t l c with
   |some (qs,e,v)=>some (qs,d,e,v)
   |none=>none
  |none=>none
 | .buildSlice t len parts=>bif xP len parts.toList then match o.dst with
   |some d=>match bsV Γ.ty T d t len parts.toList with
    |some (qs,e,v)=>some (qs,d,e,v)
    |none=>none
   |none=>none
  else none
 | .makeMap _ r=>match r with
  |none=>match o.dst with
   |some d=>some ([],d,.map (.si []),.mp d)
   |none=>none
  |some _=>none
 |_=>none
theorem aGJ (h:aB5 ty T d t l c=some (ps,e,v)):e.zW=true:=by
 unfold aB5 at h;split at h
 .split at h
  .cases h
  split at h
  .split at h
   .split at h
    .split at h
     .simp only[zoI,zpI]at h;obtain⟨_,rfl,_⟩:=h;rfl
     cases h
    rcases zs h with⟨_,h⟩|⟨_,h⟩
    .simp only[zoI,zpI]at h;obtain⟨_,rfl,_⟩:=h;rfl
    split at h
    .simp only[zoI,zpI]at h;obtain⟨_,rfl,_⟩:=h;rfl
    cases h
   cases h
  cases h
 cases h
theorem aRU (h:bsV ty T d t len parts=some (ps,e,v)):e.zW=true:=by
 unfold bsV at h;split at h
 .split at h
  .cases h
  replace h:=(zn h).2
  split at h
  .simp only[zoI,zpI]at h;obtain⟨_,rfl,_⟩:=h;rfl
  cases h
 cases h
def kL (o:Option Ent):Bool:=
 match o with
 |none=>true
 |some _=>false
def aAV (M0:Mm) (rs:List Rec) (dp:List Nat) (k:Nat):List Rec->Bool
 |[]=>true
 |x::q=>(eY x.ix dp||(kL (zG x.new k)&&kL (zG (zrM (inB x.dep) M0 rs) k)))&&aAV M0 rs dp k q
def vM (M0:Mm) (rs:List Rec) (dp:List Nat):Mm->Bool
 |[]=>true
 |(k,e)::r=>(match zG (zrM jo M0 rs) k with
  |none=>(match e with
   | .dead=>false
   | .mem own sp _=>own||sp !=0
   | .map _=>true)
  |some _=>(match e with
   | .dead=>!kL (zG (zrM (inB dp) M0 rs) k)&&aAV M0 rs dp k rs
   |_=>false))&&vM M0 rs dp r
def zc (M:Mm):Mm->Bool
 |[]=>true
 |(a,e)::r=>(match e with
  | .dead=>kL (zG M a)
  |_=>true)&&zc M r
def w9 (M0:Mm) (rs:List Rec) (dp:List Nat):List Rec->Bool
 |[]=>true
 |k::q=>(eY k.ix dp||zc (zrM (inB dp) M0 rs) k.new)&&w9 M0 rs dp q
theorem eI (h:kL o=true):o=none:=by
 cases o with
 |none=>rfl
 |some _=>cases h
theorem pY:∀{E:Mm},zc M E=true->∀a,zG E a=some .dead->zG M a=none
 |[],_,_,h=>by simp[zG]at h
 |(k,e)::r,hn,a,h=>by
  simp only[zc,zbA]at hn;by_cases hk:a=k
  .subst hk
   rw[zh]at h;simp only[zoI]at h;subst h;exact eI hn.1
  rw[zg hk]at h;exact pY hn.2 a h
theorem mT:∀{q:List Rec},w9 M0 rs dp q=true->∀k∈q,k.ix∉dp->∀a,zG k.new a=some .dead->zG (zrM (inB dp) M0 rs) a=none
 |[],_,_,h=>by simp at h
 |x::t,hs,k,hk=>by
  simp only[w9,zbA,or_eq_true]at hs;rcases List.mem_cons.1 hk with hk'|hk'
  .subst hk'
   intro hn a ha;exact pY (hs.1.resolve_left λh=>hn (zmi.1 h)) a ha
  exact mT hs.2 k hk'
theorem qa:∀{q:List Rec},aAV M0 rs dp a q=true->∀x∈q,x.ix∉dp->zG x.new a=none/\zG (zrM (inB x.dep) M0 rs) a=none
 |[],_,_,h=>by simp at h
 |y::t,hs,x,hx=>by
  simp only[aAV,zbA,or_eq_true]at hs;rcases List.mem_cons.1 hx with hx'|hx'
  .subst hx'
   intro hn;have:=hs.1.resolve_left λh=>hn (zmi.1 h);exact⟨eI this.1,eI this.2⟩
  exact qa hs.2 x hx'
@[irreducible] def cL (M M':Mm) (ok:Mm->Bool) (X:Mm->Prop) (ok2:Mm->Bool) (Y:Prop):Prop:=(∃E,M'=E++M/\ok E=true/\X E)\/∃E,M'=E++M/\ok2 E=true/\Y
theorem cL.i {M M':Mm} {ok:Mm->Bool} {X:Mm->Prop} {ok2:Mm->Bool} {Y:Prop} (E:Mm) (h1:M'=E++M) (h2:ok E=true) (h3:X E):cL M M' ok X ok2 Y:=by unfold cL;exact Or.inl ⟨E,h1,h2,h3⟩
def q9 (M M':Mm):Mm:=M'.take (M'.length-M.length)
theorem cL.auto (h1:M'=q9 M M'++M) (h2:ok (q9 M M')=true) (h3:zfM (q9 M M') X):cL M M' ok X ok2 Y:=by
 unfold cL;rw[gm]at h3;exact Or.inl ⟨_,h1,h2,h3⟩
theorem cL.turn (h1:M'=q9 M M'++M) (h2:ok2 (q9 M M')=true) (h3:Y):cL M M' ok X ok2 Y:=by
 unfold cL;exact Or.inr ⟨_,h1,h2,h3⟩
def rf (d:Option Nat) (l:List Nat):Bool:=
 match d with
 |none=>true
 |some s=>!eY s l
def aMC (d e:Option Nat):Bool:=
 match d,e with
 |some x,some y=>!beq x y
 |_,_=>true
def vo (o:Oper):Bool:=
 match o.op with
 | .move _=>true
 | .assign _=>true
 | .extract _ _=>true
 | .pick _ _ _=>true
 |_=>false
def aUB (o:Oper):Bool:=
 match o.op with
 | .select _ _=>true
 |_=>false
def zb:List Oper->Bool
 |[]=>true
 |o::r=>!aUB o&&zb r
def aK7 (i:Nat):List Nat->Bool
 |[]=>true
 |k::r=>blt k i&&aK7 i r
def t8 (i:Nat):List Edge->Bool
 |[]=>false
 |e::r=>(Region.binds .any e&&beq e.on i)||t8 i r
def aI0 (ops:List Oper) (x y:Oper):Bool:=rf x.dst (aM ops y)&&(aMC x.dst y.dst&&rf y.dst (aM ops x))
def oL (ops:List Oper) (dp:List Nat) (i:Nat) (o:Oper) (j:Nat):List Oper->Bool
 |[]=>true
 |oj::r=>(beq j i||(eY j dp||(t8 i oj.after.toList||aI0 ops o oj)))&&oL ops dp i o (j+1) r
def l9 (ops:List Oper) (dep:List (List Nat)) (i:Nat):Bool:=
 match ops[i]? with
 |none=>false
 |some o=>vo o&&(aK7 i (zdA dep i)&&(oL ops (zdA dep i) i o 0 ops&&zb ops))
def aVR (ops:List Oper) (dep:List (List Nat)) (dp:List Nat):List Rec->Bool
 |[]=>true
 |r::q=>(eY r.ix dp||l9 ops dep r.ix)&&aVR ops dep dp q
def qb (ops:List Oper) (i:Nat):Bool:=
 match ops[i]? with
 |some o=>(match o.op with
  | .alloc _=>(match o.guard with
   |none=>true
   |some _=>false)
  |_=>false)
 |none=>false
def u2 (ops:List Oper) (dep:List (List Nat)) (dp:List Nat):List Rec->List Rec
 |[]=>[]
 |r::q=>bif eY r.ix dp||l9 ops dep r.ix then u2 ops dep dp q else r::u2 ops dep dp q
def kr (i:Nat):List Rec->Bool
 |[]=>true
 |r::q=>!eY i r.dep&&kr i q
def aKV (M:Mm):Mm->Bool
 |[]=>true
 |(k,e)::r=>kL (zG M k)&&e.zW&&aKV M r
def ab6 (o:Oper):Bool:=
 match o.op with
 | .call c=>(match c.callee with
  | .value _=>true
  |_=>false)
 | .store _ _ _=>true
 |_=>false
def aBW (ty:Nat->Ty) (ops:List Oper) (i:Nat):Bool:=
 match ops[i]? with
 |some o=>(match o.guard with
  |none=>beq (lM ty o) 0
  |some _=>false)
 |none=>false
def zr (ty:Nat->Ty) (ops:List Oper) (dp:List Nat) (rs:List Rec):List Rec->Bool
 |[]=>true
 |x::q=>((qb ops x.ix||aBW ty ops x.ix)&&(!eY x.ix dp&&kr x.ix rs))&&zr ty ops dp rs q
def aZI (i:Nat) (l:List Nat):Bool:=
 match l with
 |[]=>true
 |x::r=>eY i (x::r)
def aGQ (ty:Nat->Ty) (i:Nat) (o:Oper) (ops:List Oper) (dep:List (List Nat)) (dp:List Nat) (rs:List Rec):Option (List Rec):=
 bif blt ops.length dep.length&&(ab6 o&&aZI i (zdA dep ops.length))then(bif zr ty ops dp rs (u2 ops dep dp rs)then some (u2 ops dep dp rs)else none)else none
def tp (S:List Rec) (j:Nat):Bool:=
 match S with
 |[]=>true
 |x::r=>!beq j x.ix&&tp r j
def lD (Γ:Cfg) (ops:List Oper) (T:Tm) (M:Mm) (next:Tm->Mm->List Rec->Prop) (S acc:List Rec):Prop:=
 match S with
 |[]=>next T M acc
 |x::r=>bif tp acc x.ix then(bif qb ops x.ix then(bif aKV (zrM jo M acc) x.new then lD Γ ops T M next r (x::acc)else False)else(match ops[x.ix]? with
  |some o=>match fo Γ.ty (zre T (aM ops o)) M o.op with
   |some (qs,v)=>zwP qs (lD Γ ops T M next r (⟨x.ix,x.dst,v,[],x.dep,aM ops o⟩::acc))
   |none=>False
  |none=>False))else False
def tL (Γ:Cfg) (ops:List Oper) (o:Oper) (T0:Tm) (M0:Mm) (rs:List Rec) (next:Tm->Mm->List Rec->Prop) (X S:List Rec):Prop:=
 match X with
 |[]=>bp Γ o (dM (tp S) T0 rs) (zrM (tp S) M0 rs) [] λqs v M'=>zwP qs (lD Γ ops (zt o.dst v (dM (tp S) T0 rs)) M' next S [])
 |x::r=>tL Γ ops o T0 M0 rs next r S/\tL Γ ops o T0 M0 rs next r (x::S)
def su (M:Mm):Bool:=
 match M with
 |[]=>true
 |(_,e)::r=>(match e with
  | .dead=>false
  |_=>true)&&su r
def aJR (dp:List Nat) (k:Nat) (rs:List Rec):Bool:=
 match rs with
 |[]=>true
 |x::q=>(eY x.ix dp||kL (zG x.new k))&&aJR dp k q
def aJT (dp:List Nat) (rs:List Rec):Bool:=
 match rs with
 |[]=>true
 |x::q=>(eY x.ix dp||su x.new)&&aJT dp q
def aJS (dp:List Nat) (rs:List Rec) (E:Mm):Bool:=
 match E with
 |[]=>true
 |(k,e)::r=>e.loose&&aJR dp k rs&&aJS dp rs r
def aJU (dp:List Nat) (rs:List Rec) (E:Mm):Bool:=aJT dp rs&&aJS dp rs E
def aa2 (M:Mm):Bool:=
 match M with
 |[]=>true
 |_=>false
def sV (Γ:Cfg) (ops:List Oper) (T0:Tm) (M1:Mm) (rs:List Rec) (dp:List Nat) (l:List Rec) (K:Prop):Prop:=
 match l with
 |[]=>K
 |x::q=>bif eY x.ix dp then sV Γ ops T0 M1 rs dp q K else match ops[x.ix]? with
  |none=>False
  |some o=>aAD (vL ops x.dep o (zre (dM (inB x.dep) T0 rs) (aM ops o)))
    (match lM Γ.ty o with
    |0=>match fo Γ.ty (zre (dM (inB x.dep) T0 rs) (aM ops o)) (zrM (inB x.dep) M1 rs) o.op with
     |some (qs,v)=>bif aa2 x.new then zwP ((v=x.v)::qs) (sV Γ ops T0 M1 rs dp q K)else False
     |none=>False
    |1=>match aTT Γ o (zre (dM (inB x.dep) T0 rs) (aM ops o))with
     |some (qs,d,e,v)=>zwP ((v=x.v)::([(d,e)]=x.new)::qs) (sV Γ ops T0 M1 rs dp q K)
     |none=>False
    |_=>False)
    (zwP [x.v= .tup [],x.new=[]] (sV Γ ops T0 M1 rs dp q K))
def aBB (Γ:Cfg) (ops:List Oper) (dep:List (List Nat)) (T0:Tm) (M0:Mm) (rs:List Rec) (i:Nat) (o:Oper) (next:Tm->Mm->List Rec->Prop):Prop:=
 match lM Γ.ty o with
 |0=>match fo Γ.ty (zre (dM (inB (zdA dep i)) T0 rs) (aM ops o)) (zrM (inB (zdA dep i)) M0 rs) o.op with
  |some (qs,v)=>zwP qs (next T0 M0 (⟨i,o.dst,v,[],zdA dep i,aM ops o⟩::rs))
  |none=>False
 |1=>match aTT Γ o (zre (dM (inB (zdA dep i)) T0 rs) (aM ops o))with
  |some (qs,d,e,v)=>match zG (zrM jo M0 rs) d with
   |none=>zwP qs (next T0 M0 (⟨i,o.dst,v,[(d,e)],zdA dep i,aM ops o⟩::rs))
   |some _=>False
  |none=>False
 |_=>bif aVR ops dep (zdA dep i) rs then
   bp Γ o (dM jo T0 rs) (zrM jo M0 rs) [] λqs v M'=>zwP qs (next (zt o.dst v (dM jo T0 rs)) M' [])
  else match aGQ Γ.ty i o ops dep (zdA dep i) rs with
  |some X=>tL Γ ops o T0 M0 rs next X []
  |none=>
   bp Γ o (zre (dM (inB (zdA dep i)) T0 rs) (aM ops o)) (zrM (inB (zdA dep i)) M0 rs) [] λqs v M'=>zwP qs
    (cL (zrM (inB (zdA dep i)) M0 rs) M' (vM M0 rs (zdA dep i)) (λE=>next T0 M0 (⟨i,o.dst,v,E,zdA dep i,aM ops o⟩::rs)) (aJU (zdA dep i) rs)
     (sV Γ ops T0 M' (cC (zdA dep i) rs) (zdA dep i) (cC (zdA dep i) rs) (next T0 M' (⟨i,o.dst,v,[],zdA dep i,aM ops o⟩::cC (zdA dep i) rs))))
def dB (Γ:Cfg) (ops:List Oper) (dep:List (List Nat)) (T0:Tm) (M0:Mm) (rs:List Rec) (ord:List Nat) (K:Tm->Mm->Prop):Prop:=
 match ord with
 |[]=>K (dM jo T0 rs) (zrM jo M0 rs)
 |i::r=>match ops[i]? with
  |none=>False
  |some o=>bif w9 M0 rs (zdA dep i) rs then aAD (vL ops (zdA dep i) o (zre (dM (inB (zdA dep i)) T0 rs) (aM ops o)))
    (aBB Γ ops dep T0 M0 rs i o λT M q=>dB Γ ops dep T M q r K)
    (dB Γ ops dep T0 M0 (⟨i,o.dst,.tup [],[],zdA dep i,aM ops o⟩::rs) r K)else False
def aFH (ops:List Oper) (dep:List (List Nat)) (i j:Nat) (oi oj:Oper):Bool:=
 (eY j (zdA dep i)||(rf oi.dst (aM ops oj)&&rf oj.dst (aM ops oi)))&&aMC oi.dst oj.dst
def kp (ty:Nat->Ty) (ops:List Oper) (dep:List (List Nat)):List Nat->List Nat->Bool
 |_,[]=>true
 |bf,i::r=>(match ops[i]? with
  |none=>false
  |some o=>!eY i bf&&(zdA dep i).all (λk=>eY k bf)&&(blt (lM ty o) 2||r.all λj=>eY i (zdA dep j))&&
   bf.all λj=>match ops[j]? with
    |some oj=>aFH ops dep i j o oj
    |none=>false)&&kp ty ops dep (i::bf) r
def aH9 (ops:List Oper) (dep:List (List Nat)):Bool:=
 (List.range ops.length).all λi=>match ops[i]? with
  |none=>false
  |some o=>(o.after.toList.all λe=>!Region.binds .any e||(blt e.on i&&eY e.on (zdA dep i)))&&
   ((zdA dep i).all λj=>o.after.toList.any λe=>Region.binds .any e&&(beq e.on j||eY j (zdA dep e.on)))&&
   (zdA dep i).all λk=>(zdA dep k).all λj=>eY j (zdA dep i)
def sm (ty:Nat->Ty) (ops:List Oper) (dep:List (List Nat)) (ord:List Nat):Bool:=
 aH9 ops dep&&kp ty ops dep [] ord&&(List.range ops.length).all λj=>eY j ord
@[irreducible] def aH (Γ:Cfg) (id:Nat) (ops:List Oper) (T:Tm) (M:Mm) (K:Tm->Mm->Prop):Prop:=
 ∃dep ord,sm Γ.ty ops dep ord=true/\dB Γ ops dep T M [] ord K
theorem aH.i {Γ:Cfg} {id:Nat} {ops:List Oper} {T:Tm} {M:Mm} {K:Tm->Mm->Prop} (dep:List (List Nat)) (ord:List Nat) (h:sm Γ.ty ops dep ord=true) (k:dB Γ ops dep T M [] ord K):
  aH Γ id ops T M K:=by unfold aH;exact⟨dep,ord,h,k⟩
theorem gh (h:eY a l=false):a∉l:=λhm=>by rw[zmi.2 hm]at h;cases h
theorem iE (h:rf d l=true):∀s,d=some s->s∉l:=by
 intro s hs;subst hs;simp only[rf,not_eq_true']at h;exact gh h
theorem r7 (h:aMC d e=true):∀s,d=some s->e≠some s:=by
 intro s hs he;subst hs;subst he;simp only[aMC,not_eq_true']at h;rw[show beq s s=true from Nat.beq_refl s]at h;cases h
theorem jz (h:kp ty ops dep bf (i::r)=true):∃o,ops[i]? =some o/\i∉bf/\(∀k∈zdA dep i,k∈bf)/\
  (lM ty o<2\/∀j∈r,i∈zdA dep j)/\(∀j∈bf,∀oj,ops[j]? =some oj->aFH ops dep i j o oj=true)/\kp ty ops dep (i::bf) r=true:=by
 simp only[kp,zbA]at h;obtain⟨h1,h2⟩:=h;split at h1
 .cases h1
 rename_i o ho;simp only[zbA,or_eq_true,not_eq_true',List.all_eq_true]at h1;obtain⟨⟨⟨a1,a2⟩,a3⟩,a4⟩:=h1;refine⟨o,ho,gh a1,λk hk=>zmi.1 (a2 k hk),a3.imp ay λh j hj=>zmi.1 (h j hj),λj hj oj hoj=>?_,h2⟩;have:=a4 j hj;rw[hoj]at this;exact this
theorem aFG (h:aFH ops dep i j oi oj=true):
  aMW ⟨i,oi.dst,v,n,zdA dep i,aM ops oi⟩ ⟨j,oj.dst,v',n',zdA dep j,aM ops oj⟩:=by
 simp only[aFH,zbA,or_eq_true]at h;refine⟨λs h1 h2=>?_,λs h1 h2=>?_,r7 h.2⟩
 .rcases h.1 with h|h
  .exact Or.inl (zmi.1 h)
  exact absurd h2 (iE h.2 s h1)
 rcases h.1 with h|h
 .exact Or.inr (zmi.1 h)
 exact absurd h2 (iE h.1 s h1)
theorem nD (hk:lM Γ.ty o=0) (h:fo Γ.ty T M o.op=some (qs,v)) (k:K (qs++[]) v M):
    bp Γ o T M [] K:=by
  unfold bp;unfold lM at hk;split
  · rename_i hop;rw[hop]at hk;cases hk
  · rename_i hop;rw[hop]at hk;cases hk
  · rename_i hop;rw[hop]at hk;cases hk
  · rename_i hop;rw[hop]at hk;cases hk
  · rename_i hop;rw[hop]at hk;cases hk
  · rename_i hop;rw[hop]at hk;cases hk
  · rename_i hop;rw[hop]at hk;cases hk
  · rename_i s t x hop
    simp only[hop]at hk;split
    · rename_i e he;rw[he]at hk;cases hk
    rw[h];exact k
  · rename_i c hop
    rw[hop]at hk;split
    · rename_i hc;simp only[hc]at hk;cases hk
    · rename_i b hb
      simp only[hb]at hk;split
      · rename_i hcp;rw[hcp]at hk;cases hk
      rename_i hcp;rw[hcp]at hk;split
      · rename_i hap;rw[hap]at hk;cases hk
      rw[h];exact k
    rename_i h1 h2;simp only at hk
    first
      |cases hk
      | (split at hk
         · rename_i b hb;exact(h2 b hb).elim
         cases hk)
  rw[h];exact k
theorem qO (h:aTT Γ o T=some (qs,d,e,v)) (hm:zG M d=none)
  (k:K (qs++[]) v ((d,e)::M)):bp Γ o T M [] K/\e.zW=true:=by
 unfold aTT at h;split at h
 .rename_i t hop
  split at h
  .rename_i d' hd
   split at h
   .cases h
   rename_i hk;split at h
   .cases h
   rename_i zl hz;obtain⟨rfl,rfl,rfl,rfl⟩:=sD h;refine⟨?_,rfl⟩;unfold bp;simp only[hop,hd,hm];exact k
  cases h
 .rename_i t x hop
  split at h
  .rename_i d' hd
   split at h
   .rename_i ps ls hl
    obtain⟨rfl,rfl,rfl,rfl⟩:=sD h;refine⟨?_,rfl⟩;unfold bp;simp only[hop,hd,hm,hl];exact k
   cases h
  cases h
 .rename_i t l c hop
  split at h
  .rename_i d' hd
   split at h
   .rename_i ps e' v' hv
    obtain⟨rfl,rfl,rfl,rfl⟩:=sD h;refine⟨?_,aGJ hv⟩;unfold bp;simp only[hop,hd,hm,hv];exact k
   cases h
  cases h
 .rename_i t len parts hop
  have hn:=(zn h).1
  replace h:=(zn h).2
  split at h
  .rename_i d' hd
   split at h
   .rename_i ps e' v' hv
    obtain⟨rfl,rfl,rfl,rfl⟩:=sD h;refine⟨?_,aRU hv⟩;unfold bp;simp only[hop,hd,hm,hv,hn,zcT];exact k
   cases h
  cases h
 .rename_i t r hop
  split at h
  .split at h
   .rename_i d' hd
    obtain⟨rfl,rfl,rfl,rfl⟩:=sD h;refine⟨?_,rfl⟩;unfold bp;simp only[hop,hd,hm];exact k
   cases h
  cases h
 cases h
theorem kP:∀{E:Mm},vM M0 rs dp E=true->∀a e,zG E a=some e->
  (zG (zrM jo M0 rs) a=none/\e.loose=true/\e≠ .dead)\/(e= .dead/\(∃e0,zG (zrM (inB dp) M0 rs) a=some e0)/\∀x∈rs,x.ix∉dp->zG x.new a=none/\zG (zrM (inB x.dep) M0 rs) a=none)
 |[],_,_,_,h=>by simp[zG]at h
 | (k,e0)::r,hf,a,e,h=>by
  simp only[vM,zbA]at hf;obtain⟨h1,h3⟩:=hf;by_cases hk:a=k
  .subst hk
   rw[zh]at h;simp only[zoI]at h;subst h;split at h1
   .rename_i hn
    left;refine⟨hn,?_⟩;split at h1
    .cases h1
    .exact⟨h1,by simp⟩
    exact⟨rfl,by simp⟩
   right;split at h1
   .simp only[zbA,not_eq_true']at h1
    refine⟨rfl,?_,qa h1.2⟩;cases hx:zG (zrM (inB dp) M0 rs) a with
    |none=>rw[hx]at h1;cases h1.1
    |some e0=>exact⟨e0,rfl⟩
   cases h1
  rw[zg hk]at h;exact kP h3 a e h
theorem lZ (h:aH9 ops dep=true) (ho:ops[i]? =some o):
  (∀e∈o.after,Region.binds .any e=true->e.on<i/\e.on∈zdA dep i)/\(∀j∈zdA dep i,∃e∈o.after,Region.binds .any e=true/\(e.on=j\/j∈zdA dep e.on))/\
  ∀k∈zdA dep i,∀j∈zdA dep k,j∈zdA dep i:=by
 have hlt:=(List.getElem?_eq_some_iff.1 ho).1;have:=List.all_eq_true.1 h i (List.mem_range.2 hlt);rw[ho]at this;simp only[zbA,List.all_eq_true,or_eq_true,not_eq_true',List.any_eq_true]at this;obtain⟨⟨h1,h2⟩,h3⟩:=this;refine⟨λe he hb=>?_,λj hj=>?_,λk hk j hj=>zmi.1 (h3 k hk j hj)⟩
 .rcases h1 e (by simpa using he)with h|h
  .rw[hb]at h;cases h
  exact⟨ay h.1,zmi.1 h.2⟩
 obtain⟨e,he,hb,hj⟩:=h2 j hj;exact⟨e,by simpa using he,hb,hj.imp zq zmi.1⟩
def aVZ (Γ:Cfg) (ops:List Oper) (r:Rec) (T:Tm) (M:Mm):Prop:=
 ∃o b,ops[r.ix]? =some o/\fa ops o T b/\o.dst=r.dst/\(b=true->bp Γ o T M [] λqs v M'=>All qs/\v=r.v/\M'=r.new++M)/\(b=false->r.v= .tup []/\r.new=[])
structure St (Γ:Cfg) (N:Nat) (ops:List Oper) (dep:List (List Nat)) (K:Tm->Mm->Prop) (bf:List Nat) (T0:Tm) (M0:Mm) (rs:List Rec) (ord:List Nat) (p:Nat->Bool) (ρ:Env) (a:Act) (w:World):Prop where
 I:Inv N (zdA dep) bf T0 M0 rs p ρ a w
 hops:∀r∈rs,∃o,ops[r.ix]? =some o/\r.dst=o.dst/\r.rd=aM ops o
 facts:∀r∈rs,p r.ix=false->aVZ Γ ops r (zre (dM (inB r.dep) T0 rs) r.rd) (zrM (inB r.dep) M0 rs)
 F:dB Γ ops dep T0 M0 rs ord K
 plan:kp Γ.ty ops dep bf ord=true
 cover:∀j,j<ops.length->j∈bf\/j∈ord
section
variable {Γ:Cfg} {N:Nat} {ops:List Oper} {dep:List (List Nat)} {K:Tm->Mm->Prop} {bf:List Nat} {T0:Tm} {M0:Mm} {rs:List Rec} {ord:List Nat} {p:Nat->Bool} {ρ:Env} {a:Act} {w:World}
theorem St.pairs (S:St Γ N ops dep K bf T0 M0 rs ord p ρ a w) (h:∀j∈bf,∀oj,ops[j]? =some oj->aFH ops dep i j o oj=true):
  ∀r∈rs,aMW ⟨i,o.dst,v,n,zdA dep i,aM ops o⟩ r:=by
 intro r hr;obtain⟨oj,h1,h2,h3⟩:=S.hops r hr;have:=aFG (v:=v) (n:=n) (v':=r.v) (n':=r.new) (h r.ix (S.I.bfs r hr) oj h1);rw[<-h2,<-h3,<-S.I.deps r hr]at this;exact this
theorem St.push (hd:aH9 ops dep=true) (hdst:iX N ops=true) (S:St Γ N ops dep K bf T0 M0 rs (i::r) p ρ a w) (ho:ops[i]? =some o) (hg:fa ops o (zre (dM (inB (zdA dep i)) T0 rs) (aM ops o)) b)
  (hfr:aP0 M0 rs ⟨i,o.dst,v,n,zdA dep i,aM ops o⟩) (hsf:∀k∈rs,k.ix∉zdA dep i->∀a,zG k.new a=some .dead->zG (zrM (inB (zdA dep i)) M0 rs) a=none)
  (hf:b=true->bp Γ o (zre (dM (inB (zdA dep i)) T0 rs) (aM ops o)) (zrM (inB (zdA dep i)) M0 rs) [] λqs v' M'=>All qs/\v'=v/\M'=n++zrM (inB (zdA dep i)) M0 rs)
  (hs:b=false->v= .tup []/\n=[])
  (hF:dB Γ ops dep T0 M0 (⟨i,o.dst,v,n,zdA dep i,aM ops o⟩::rs) r K):
  St Γ N ops dep K (i::bf) T0 M0 (⟨i,o.dst,v,n,zdA dep i,aM ops o⟩::rs) r p ρ a w/\p i=false:=by
 obtain⟨o',ho',h1,h2,_,h4,h5⟩:=jz S.plan;have:o'=o:=Option.some.inj (ho'.symm.trans ho);subst this;have hp:p i=false:=by
  cases h:p i with
  |false=>rfl
  |true=>exact absurd (S.I.done _ h) h1
 refine⟨⟨S.I.push h1 rfl (lZ hd ho).2.2 h2 (λd h=>eN hdst (List.mem_of_getElem? ho) d h) (S.pairs h4) hfr hsf,?_,?_,hF,h5,?_⟩,hp⟩
 .intro x hx
  rcases List.mem_cons.1 hx with hx'|hx'
  .subst hx';exact⟨o',ho,rfl,rfl⟩
  exact S.hops x hx'
 .intro x hx hpx
  have hno:inB x.dep i=false:=by
   cases h:inB x.dep i with
   |false=>rfl
   |true=>
    have hm:=zmi.1 h;rcases List.mem_cons.1 hx with hx'|hx'
    .subst hx';exact absurd (h2 _ hm) h1
    exact absurd (S.I.below x hx' _ hm) h1
  have e1:dM (inB x.dep) T0 (⟨i,o'.dst,v,n,zdA dep i,aM ops o'⟩::rs)=dM (inB x.dep) T0 rs:=by simp only[dM,hno,zcF]
  have e2:zrM (inB x.dep) M0 (⟨i,o'.dst,v,n,zdA dep i,aM ops o'⟩::rs)=zrM (inB x.dep) M0 rs:=by simp only[zrM,hno,zcF]
  rw[e1,e2];rcases List.mem_cons.1 hx with hx'|hx'
  .subst hx';exact⟨o',b,ho,hg,rfl,hf,hs⟩
  exact S.facts x hx' hpx
 intro j hj;rcases S.cover j hj with h|h
 .exact Or.inl (mem_cons_of_mem _ h)
 rcases List.mem_cons.1 h with h|h
 .exact Or.inl (by simp[h])
 exact Or.inr h
theorem St.advance (hd:aH9 ops dep=true) (hdst:iX N ops=true):∀(ord:List Nat) {bf:List Nat} {rs:List Rec},St Γ N ops dep K bf T0 M0 rs ord p ρ a w->
  ∃bf' rs' ord',St Γ N ops dep K bf' T0 M0 rs' ord' p ρ a w/\zrM p M0 rs'=zrM p M0 rs/\(ord'=[]\/∃i r o,ord'=i::r/\ops[i]? =some o/\2<=lM Γ.ty o/\w9 M0 rs' (zdA dep i) rs'=true/\fa ops o (zre (dM (inB (zdA dep i)) T0 rs') (aM ops o)) true/\aBB Γ ops dep T0 M0 rs' i o λT M q=>dB Γ ops dep T M q r K)
 |[],bf,rs,S=>⟨bf,rs,[],S,rfl,Or.inl rfl⟩
 |i::r,bf,rs,S=>by
  have F:=S.F;unfold dB at F;split at F
  .exact F.elim
  rename_i o ho
  obtain⟨hsb,F⟩:w9 M0 rs (zdA dep i) rs=true/\aAD (vL ops (zdA dep i) o (zre (dM (inB (zdA dep i)) T0 rs) (aM ops o)))
    (aBB Γ ops dep T0 M0 rs i o λT M q=>dB Γ ops dep T M q r K)
    (dB Γ ops dep T0 M0 (⟨i,o.dst,.tup [],[],zdA dep i,aM ops o⟩::rs) r K):=by
   rcases bm F with h|h
   .exact h
   exact h.2.elim
  have hsf:=mT hsb;obtain⟨b,hg,ht,hf⟩:=qF F;clear F
  have step:∀{v n},(St Γ N ops dep K (i::bf) T0 M0 (⟨i,o.dst,v,n,zdA dep i,aM ops o⟩::rs) r p ρ a w/\p i=false)->
    ∃bf' rs' ord',St Γ N ops dep K bf' T0 M0 rs' ord' p ρ a w/\zrM p M0 rs'=zrM p M0 rs/\(ord'=[]\/∃i r o,ord'=i::r/\ops[i]? =some o/\2<=lM Γ.ty o/\w9 M0 rs' (zdA dep i) rs'=true/\fa ops o (zre (dM (inB (zdA dep i)) T0 rs') (aM ops o)) true/\aBB Γ ops dep T0 M0 rs' i o λT M q=>dB Γ ops dep T M q r K):=by
   rintro v n ⟨S',hp⟩;obtain⟨bf',rs',ord',h1,h2,h3⟩:=St.advance hd hdst r S';refine⟨bf',rs',ord',h1,?_,h3⟩;rw[h2];simp only[zrM,hp,zcF]
  cases b with
  |false=>exact step (S.push hd hdst ho (n:=[]) hg (λb e h=>by simp[zG]at h) hsf (λh=>by cases h) (λ_=>⟨rfl,rfl⟩) (hf rfl))
  |true=>
  have F:=ht rfl;have F0:=F;unfold aBB at F;split at F
  .rename_i hk
   split at F
   .rename_i qs v hv
    refine step (S.push hd hdst ho (n:=[]) hg (λb e h=>by simp[zG]at h) hsf (λ_=>nD hk hv ⟨?_,rfl,rfl⟩) (λh=>by cases h) (zwP.rest F));rw[append_nil];exact zwP.all F
   exact F.elim
  .rename_i hk
   split at F
   .rename_i qs d e v he
    split at F
    .rename_i hm
     have hm2:zG (zrM (inB (zdA dep i)) M0 rs) d=none:=by
      cases h:zG (zrM (inB (zdA dep i)) M0 rs) d with
      |none=>rfl
      |some e'=>rw[se (p:=inB (zdA dep i)) (q:=jo) (λ_ _ _=>rfl) hm]at h;cases h
     have hnew:=qO (K:=λqs v' M'=>All qs/\v'=v/\M'=[(d,e)]++zrM (inB (zdA dep i)) M0 rs) he hm2 ⟨by rw[append_nil];exact zwP.all F,rfl,rfl⟩;refine step (S.push hd hdst ho hg (λb e' h=>Or.inl ?_) hsf (λ_=>hnew.1) (λh=>by cases h) (zwP.rest F));by_cases hb:b=d
     .subst hb
      rw[zh]at h;simp only[zoI]at h;subst h;exact⟨hm,Ent.loose_own hnew.2,λh=>by rw[h]at hnew;cases hnew.2⟩
     rw[zg hb]at h;simp[zG]at h
    exact F.elim
   exact F.elim
  rename_i h0 h1;refine⟨bf,rs,i::r,S,rfl,Or.inr ⟨i,r,o,rfl,ho,?_,hsb,hg,F0⟩⟩;rcases Nat.lt_or_ge (lM Γ.ty o) 2 with h|h
  .have h2:lM Γ.ty o=0\/lM Γ.ty o=1:=by omega
   exact h2.elim (λh=>(h0 h).elim) λh=>(h1 h).elim
  exact h
theorem Inv.run (I:Inv N (zdA dep) bf T0 M0 rs p ρ a w) {o:Oper} {dp:List Nat} (hdst:∀d,o.dst=some d->d<N) (hd:∀k∈dp,p k=true) (ht:∀k∈dp,∀j∈zdA dep k,j∈dp)
  (hrd:∀r∈rs,∀s,r.dst=some s->s∈aM ops o->p r.ix=true->r.ix∈dp)
  (hsf:∀k∈rs,p k.ix=true->k.ix∉dp->∀a,zG k.new a=some .dead->zG (zrM (inB dp) M0 rs) a=none) {G:SV->Mm->Prop} {C:List Prop->SV->Mm->Prop}
  (hC:∀qs v M',C qs v M'->All qs/\∃E,M'=E++zrM (inB dp) M0 rs/\(∀b e,zG E b=some e->(zG (zrM p M0 rs) b=none/\e.loose=true)\/(e.loose=true/\∃e0,zG (zrM (inB dp) M0 rs) b=some e0))/\G v E)
  (hf:bp Γ o (zre (dM (inB dp) T0 rs) (aM ops o)) (zrM (inB dp) M0 rs) [] C) {Q:Exit->Act->World->Prop}:
  o.wp Γ.P a w (λa' w'=>∃v E x ρ',G v E/\a'.tmps=(a.put o.dst x).tmps/\a'.defers=[]/\ρ.le ρ'/\
   (∀d,o.dst=some d->zRT ρ' v x/\nL (E++zrM (inB dp) M0 rs) v)/\(∀b e,zG E b=some e->mA (E++zrM (inB dp) M0 rs) e)/\
   zF ρ' (E++zrM p M0 rs) w'/\aV ρ (zrM p M0 rs) ρ' (E++zrM p M0 rs) w w') Q:=by
 obtain⟨hs,hc⟩:=I.sees (rd:=aM ops o) hd ht hrd hsf;refine Oper.wp_mono ?_ (Oper.wp_put (iQ hc hdst (λqs v M' h=>(hC qs v M' h).1) hf));rintro a' w' ⟨⟨x,hx⟩,ρ1,T',M',⟨qs,v,hk,rfl⟩,hle,hc',hst⟩;obtain⟨_,E,rfl,hfr,hG⟩:=hC qs v M' hk;obtain⟨ρ2,l1,l2,h1,h2⟩:=I.mem.frame hs hle hc'.tozF hst hfr;refine⟨v,E,x,ρ2,hG,hx,hc'.defers,l1,λd hdd=>?_,λb e h=>hc'.tozF.told (zan h),h1,h2⟩;have hr:=hc'.tm d;rw[hdd,zt,aK,hx,hdd]at hr;have hxx:(a.put (some d) x).tmps.getD d undef=x:=by
  have hlt:=hdst d hdd;unfold Act.put;simp only[getD_eq_getD_getElem?];rw[Array.getElem?_setIfInBounds_self_of_lt (by rw[I.sz];exact hlt)];rfl
 rw[hxx]at hr;exact⟨hr.le l2,hc'.tozF.toldT hr⟩
end
end Go.Sx
