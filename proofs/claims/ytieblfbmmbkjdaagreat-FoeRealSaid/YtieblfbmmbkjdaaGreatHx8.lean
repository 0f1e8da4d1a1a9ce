/- Executor, part 8. No condition. -/
import Derived.Test.YtieblfbmmbkjdaaGreatHx7
import Derived.ScopeJumps
import Derived.ProofKit
import Derived.OpenShut
import Derived.RangeFuncNested
import Derived.RangeFuncBound
import Derived.RangeFuncCalls
import Derived.RangeFuncLeaves
import Derived.OrdersIn
import Derived.TacticsIn
set_option linter.unusedSimpArgs false
set_option linter.unusedVariables false
set_option autoImplicit true
set_option relaxedAutoImplicit true
open Go.Result (andThen)
open Array (replicate)
namespace Go.Sx
open Go
def ii (c:Code) (l:Nat):Code:=(findLabel c l).getD .skip
def ltO (n:Nat) (b:Option Nat):Prop:=
 match b with
 |none=>True
 |some m=>n<m
def aT5 (ls:List Nat) (J:Nat->Nat->Act->World->Prop) (b:Option Nat) (Q:Exit->Act->World->Prop):Exit->Act->World->Prop
 | .goto l,a,w=>l∈ls/\∃n,ltO n b/\J l n a w
 |e,a,w=>Q e a w
theorem aA2 (ls:List Nat) (J:Nat->Nat->Act->World->Prop) (hf:∀l∈ls,findLabel c l=some (ii c l))
  (first:c.wp P (aT5 ls J none Q) a w) (pass:∀l∈ls,∀n a w,J l n a w->(ii c l).wp P (aT5 ls J (some n) Q) a w):(Code.scope c).wp P Q a w:=by
 intro b k cs
 have hg:∀l∈ls,gotoIn l (.inScope c::k)=some (.code (ii c l):: .inScope c::k):=λl hl=>by simp[gotoIn,hf l hl]
 have key:∀n l a w,l∈ls->J l n a w->∃e a' w',Q e a' w'/\Arrives P (lone (b.at a (.code (ii c l):: .inScope c::k)) cs w) b k cs e a' w':=by
  intro n
  induction n using Nat.strongRecOn with
  |_ n ih=>
   intro l a w hl hJ
   obtain⟨e,a₁,w₁,hq,harr⟩:=pass l hl n a w hJ b (.inScope c::k) cs
   cases e with
   |normal=>exact⟨.normal,a₁,w₁,hq,Steps.trans harr (.one step_inScope)⟩
   |exit id=>exact⟨.exit id,a₁,w₁,hq,λk' hk=>harr k' (by simp[exitTo,hk])⟩
   |goto l'=>
    obtain⟨hl',n',hlt,hJ'⟩:=hq
    obtain⟨e₂,a₂,w₂,hq₂,harr₂⟩:=ih n' hlt l' a₁ w₁ hl' hJ'
    exact⟨e₂,a₂,w₂,hq₂,.of_steps (harr _ (hg l' hl')) harr₂⟩
   |ret=>exact⟨_,a₁,w₁,hq,harr⟩
   |panic ch=>exact⟨_,a₁,w₁,hq,harr⟩
   |outgrown=>exact⟨_,a₁,w₁,hq,harr⟩
 obtain⟨e,a₁,w₁,hq,harr⟩:=first b (.inScope c::k) cs
 cases e with
 |normal=>exact⟨.normal,a₁,w₁,hq,.head step_scope (Steps.trans harr (.one step_inScope))⟩
 |exit id=>exact⟨.exit id,a₁,w₁,hq,λk' hk=>.head step_scope (harr k' (by simp[exitTo,hk]))⟩
 |goto l'=>
  obtain⟨hl',n',_,hJ'⟩:=hq
  obtain⟨e₂,a₂,w₂,hq₂,harr₂⟩:=key n' l' a₁ w₁ hl' hJ'
  exact⟨e₂,a₂,w₂,hq₂,.of_steps (.head step_scope (harr _ (hg l' hl'))) harr₂⟩
 |ret=>exact⟨_,a₁,w₁,hq,.of_steps (.one step_scope) harr⟩
 |panic ch=>exact⟨_,a₁,w₁,hq,.of_steps (.one step_scope) harr⟩
 |outgrown=>exact⟨_,a₁,w₁,hq,.of_steps (.one step_scope) harr⟩
def aLC {σ:Type} (Kn:List Nat) (ls:List Nat) (I:Nat->σ->Prop) (S:Nat->σ->Tm×Mm) (m:Nat->σ->Nat) (b:Option Nat) (Q:ti):ti:=λe T M=>match e with
 | .goto l=>eY l ls=true/\∃s,I l s/\ltO (m l s) b/\Le Kn (S l s).1 (S l s).2 T M
 |e=>Q e T M
def aZM (ls:List Nat) (p:Nat->Prop):Prop:=
 match ls with
 |[]=>True
 |l::r=>p l/\aZM r p
theorem aA0:∀{ls:List Nat},aZM ls p->∀{l:Nat},l∈ls->p l
 |[],_,_,h=>by cases h
 |_::_,h,_,hm=>(List.mem_cons.1 hm).elim (λe=>by rw[e];exact h.1) (λe=>aA0 h.2 e)
@[irreducible] def qd (Γ:Cfg) (N:Nat) (Cs Kn:List Nat) (c:Code) (T:Tm) (M:Mm) (Q:ti):Prop:=
 ∃(σ:Type) (ls:List Nat) (I:Nat->σ->Prop) (S:Nat->σ->Tm×Mm) (m:Nat->σ->Nat),(ls.all λl=>(findLabel c l).isSome&&cW N (ii c l))=true/\mE Γ Cs Kn c T M (aLC Kn ls I S m none Q)/\
  ∀l,eY l ls=true->∀s,I l s->mE Γ Cs Kn (ii c l) (S l s).1 (S l s).2 (aLC Kn ls I S m (some (m l s)) Q)
theorem qd.i {Γ:Cfg} {N:Nat} {Cs Kn:List Nat} {c:Code} {T:Tm} {M:Mm} {Q:ti} {σ:Type} (ls:List Nat) (I:Nat->σ->Prop) (S:Nat->σ->Tm×Mm) (m:Nat->σ->Nat) (h:(ls.all λl=>(findLabel c l).isSome&&cW N (ii c l))=true)
  (h1:mE Γ Cs Kn c T M (aLC Kn ls I S m none Q)) (h2:aZM ls λl=>∀s,I l s->mE Γ Cs Kn (ii c l) (S l s).1 (S l s).2 (aLC Kn ls I S m (some (m l s)) Q)):qd Γ N Cs Kn c T M Q:=by
 unfold qd;exact⟨σ,ls,I,S,m,h,h1,λl hl=>aA0 h2 (zmi.1 hl)⟩
theorem wx (hok:cW N c=true) (h:qd Γ N Cs Kn c T M Q) (hc:aZ N ρ T M a w) (ha:gJ Kn ρA ρ):
  (Code.scope c).wp Γ.P (aJB N Kn ρA ρ M w Q) a w:=by
 unfold qd at h
 obtain⟨σ,ls,I,S,m,hl,h1,h2⟩:=h
 have hl:∀l∈ls,findLabel c l=some (ii c l)/\cW N (ii c l)=true:=λl hm=>by
  have:=List.all_eq_true.1 hl l hm
  simp only[zbA]at this
  obtain⟨r,hr⟩:=Option.isSome_iff_exists.1 this.1
  exact⟨by unfold ii;rw[hr];rfl,this.2⟩
 refine aA2 ls (λl n a' w'=>∃s ρs,n=m l s/\I l s/\aZ N ρs (S l s).1 (S l s).2 a' w'/\gJ Kn ρA ρs/\aV ρ M ρs (S l s).2 w w') (λl hm=>(hl l hm).1) ?_ ?_
 ·refine wp_mono (jX hok h1 hc ha) ?_
  rintro e a' w' ⟨ρ',T',M',g1,g2,g3,g4⟩
  cases e with
  |goto l=>
   obtain⟨k1,s,k2,_,k4⟩:=g1
   obtain⟨ρ'',hc'',ha'',hst''⟩:=k4.sound g2 g3
   exact⟨zmi.1 k1,m l s,trivial,s,ρ'',rfl,k2,hc'',ha'',g4.trans hst''⟩
  |_=>exact⟨ρ',T',M',g1,g2,g3,g4⟩
 rintro l hm n a' w' ⟨s,ρs,rfl,hI,hcs,has,hsts⟩
 refine wp_mono (jX (hl l hm).2 (h2 l (zmi.2 hm) s hI) hcs has) ?_
 rintro e a'' w'' ⟨ρ',T',M',g1,g2,g3,g4⟩
 cases e with
 |goto l'=>
  obtain⟨k1,s',k2,k3,k4⟩:=g1
  obtain⟨ρ'',hc'',ha'',hst''⟩:=k4.sound g2 g3
  exact⟨zmi.1 k1,m l' s',k3,s',ρ'',rfl,k2,hc'',ha'',hsts.trans (g4.trans hst'')⟩
 |_=>exact⟨ρ',T',M',g1,g2,g3,hsts.trans g4⟩
theorem aLP (Cs:List Nat) (hf:Γ.P.funcs[f]? =some fn) (hb:fn.body=some (.seq r (.scope c)))
  (hok:(cW fn.ntmps r&&cW fn.ntmps c)=true) (hn:Nat.ble args.length fn.ntmps=true)
  (h:mE Γ Cs (gk M0) r (bG 0 args) M0 (aV1 (λT M=>qd Γ fn.ntmps Cs (gk M0) c T M (aSA Γ (gk M0) fn.results.toList R)) (aSA Γ (gk M0) fn.results.toList R))):Fn Γ.P f args M0 R:=by
 intro ρ xs w hM hargs
 refine calls_of_wp hf hb ?_
 simp only[zbA]at hok
 have hlen:=fZ hargs
 have hle:=aX hn
 have hc:aZ fn.ntmps ρ (bG 0 args) M0 {tmps:=xs.toArray++replicate (fn.ntmps-xs.toArray.size) undef,defers:=[]} w:=by
  refine⟨hM,by simp;omega,rfl,de 0 _ hargs λj x hj=>?_⟩
  have hlt:=(List.getElem?_eq_some_iff.1 hj).1
  rw[Nat.zero_add,Array.getElem?_append_left (by simpa using hlt)]
  simpa using hj
 have ha:gJ (gk M0) ρ ρ:=by
  refine⟨λk hk=>?_,λ_ _ _ h=>h⟩
  obtain⟨e,he⟩:=pz hk
  exact⟨hM.mod k e he,rfl⟩
 have all:(Code.seq r (.scope c)).wp Γ.P (aJB fn.ntmps (gk M0) ρ ρ M0 w (aSA Γ (gk M0) fn.results.toList R)) {tmps:=xs.toArray++replicate (fn.ntmps-xs.toArray.size) undef,defers:=[]} w:=by
  refine wp_seq (wp_mono (jX hok.1 h hc ha) ?_)
  rintro e a' w' ⟨ρ',T',M',h1,h2,h3,h4⟩
  cases e with
  |normal=>
   refine wp_mono (wx hok.2 h1 h2 h3) ?_
   rintro e a'' w'' ⟨ρ'',T'',M'',g1,g2,g3,g4⟩
   exact⟨ρ'',T'',M'',g1,g2,g3,h4.trans g4⟩
  |_=>exact⟨ρ',T',M',h1,h2,h3,h4⟩
 refine wp_mono all ?_
 rintro e a' w' ⟨ρ',T',M',h1,h2,h3,h4⟩
 have fin:Ret Γ (gk M0) fn.results.toList T' M' R->a'.defers=[]/\∃v,(results fn a'.tmps).run Γ.P w'= .ok v w'/\∃v' x ρ' M',Ending.returned v= .returned x/\zRT ρ' v' x/\R v' M'/\ρ.le ρ'/\zF ρ' M' w'/\aV ρ M0 ρ' M' w w':=by
  intro hr
  obtain⟨x,v,ρ2,M2,r1,r2,r3,r4,r5,r6⟩:=pA h2 h3 hr rfl
  refine⟨h2.defers,x,r1,v,x,ρ2,M2,rfl,r2,r3,⟨λk hk=>?_,r5.im⟩,r4,h4.trans r6⟩
  obtain⟨e,he⟩:=hM.dom k hk
  exact r5 k (lQ he)
 cases e with
 |normal=>exact fin h1
 |ret=>exact fin h1
 |_=>exact h1.elim
end Go.Sx
namespace Go.Sx
open Go Go.ChangeShapes Go.WideShapes Go.ChangeAt Go.RowKit
section
variable {H:Type} {enc:TypeId × Value->H} {P:Program} {w:World} {base:Nat} {sp:Nat->Bool} {held:Bool}
theorem ye (h:(Lit.int .u8 n).wf=true):∃x:UInt8,Value.int .u8 n=w8 x:=by
 have:=bounds_u8 h
 refine⟨UInt8.ofNat n.toNat,?_⟩
 unfold w8
 rw[UInt8.toNat_ofNat']
 congr 1
 omega
theorem re {n:Int} (h:(Lit.int .u16 n).wf=true):∃x:UInt16,Value.int .u16 n=w16 x:=by
 have:=bounds_u16 h
 refine⟨UInt16.ofNat n.toNat,?_⟩
 unfold w16
 rw[UInt16.toNat_ofNat']
 congr 1
 omega
theorem ro {α:Type} (f:α->Value):∀(cs:List Value),(∀(i:Nat),i<cs.length->∃x:α,cs[i]? =some (f x))->∃l:List α,cs=l.map f
 |[],_=>⟨[],rfl⟩
 |c::r,h=>by
  obtain⟨x,hx⟩:=h 0 (by simp)
  obtain⟨l,hl⟩:=ro f r (λi hi=>by simpa using h (i+1) (by simpa using hi))
  refine⟨x::l,?_⟩
  simp only[List.getElem?_cons_zero,zoI]at hx
  rw[hx,hl];rfl
theorem aJV {cs:List Value} {i:Nat} {v:Value} (h:(cs.drop i).take 1=[v]):cs[i]? =some v:=by
 have e:((cs.drop i).take 1)[0]? =some v:=by rw[h];rfl
 simpa using e
theorem aD8 {t e n:Nat} {fuel:Nat} {cs:List Value} {x:DataW H×List MemPlace} (ht:P.underlying t=some (.array n e)) (he:P.underlying e=some (.int .u8)) (hc:P.cellsOf e=1) (hct:P.cellsOf t=n)
  (h:DataW.trod enc P w base sp held fuel t cs=some x):∃l:List UInt8,l.length=n/\cs=l.map w8:=by
 obtain⟨xs,m,_,_,hl,hxs,hel⟩:=DataW.trod_array ht h
 rw[hct]at hl
 have hall:∀i,i<cs.length->∃x:UInt8,cs[i]? =some (w8 x):=by
  intro i hi
  have:=hel i (by omega)
  rw[hc,Nat.mul_one,List.getElem?_eq_getElem (by omega)]at this
  obtain⟨k,hk,_,hw⟩:=DataW.trod_int he this
  obtain⟨x,hx⟩:=ye hw
  exact⟨x,by rw[<-hx];exact aJV hk⟩
 obtain⟨l,hl'⟩:=ro w8 cs hall
 exact⟨l,by rw[<-hl,hl'];simp,hl'⟩
theorem aO5 {t e:Nat} {fuel:Nat} {cs:List Value} {x:DataW H×List MemPlace} (ht:P.underlying t=some (.slice e)) (hpos:0<P.cellsOf e)
  (h:DataW.trod enc P w base (λ_=>true) held fuel t cs=some x):
  cs=[.slice none 0 0]\/∃(a:Addr) (len cap b o:Nat),cs=[.slice (some a) len cap]/\len<=cap/\cap<=maxLen/\(cap≠0->a=⟨b,o,none⟩/\b<w.heap.size)/\
   ∀i,i<len->∃ce fuel y,ce.length=P.cellsOf e/\(∀j,j<P.cellsOf e->w.cell? ⟨b,o+(i*P.cellsOf e+j),none⟩=ce[j]?)/\DataW.trod enc P w base (λ_=>true) held fuel e ce=some y:=by
 rcases DataW.trod_slice ht h with⟨h0,_⟩|⟨a,len,cap,elems,rest,n,_,rfl,rfl,hb,hl,hm,hlen,hel,hsp,_⟩
 ·exact Or.inl h0
 right
 obtain⟨hrl,hr⟩:=hsp rfl
 have cellAt:∀i,i<cap->∃ce y,w.cells? base (a.add (i*P.cellsOf e)) (P.cellsOf e)=some ce/\DataW.trod enc P w base (λ_=>true) held n e ce=some y:=by
  intro i hi
  by_cases h1:i<len
  ·have:=hel i h1
   rw[List.getElem?_eq_getElem (by omega),Option.bind_eq_some_iff]at this
   obtain⟨ce,h2,h3⟩:=this
   exact⟨ce,_,h2,h3⟩
  have:=hr (i-len) (by omega)
  rw[List.getElem?_eq_getElem (by omega),Option.bind_eq_some_iff,show len+(i-len)=i by omega]at this
  obtain⟨ce,h2,h3⟩:=this
  exact⟨ce,_,h2,h3⟩
 have shape:cap≠0->a=⟨a.block,a.off,none⟩/\a.block<w.heap.size:=by
  intro hc
  obtain⟨ce,y,h1,_⟩:=cellAt 0 (by omega)
  obtain⟨_,hlen,hcell⟩:=World.cells?_some h1
  have g0:=hcell 0 hpos
  rw[List.getElem?_eq_getElem (by omega)]at g0
  have hs:=World.cell?_spot g0
  have:a.spot=none:=by simpa [Addr.add]using hs
  obtain⟨b,o,s⟩:=a
  simp only at this
  subst this
  refine⟨rfl,?_⟩
  simp only[Nat.zero_mul,Addr.add,if_true]at g0
  unfold World.cell? at g0
  simp only at g0⊢
  cases hb:w.heap[b]? with
  |none=>rw[hb]at g0;simp at g0
  |some _=>exact(Array.getElem?_eq_some_iff.1 hb).1
 refine⟨a,len,cap,a.block,a.off,rfl,hl,hm,shape,λi hi=>?_⟩
 obtain⟨ce,y,h1,h2⟩:=cellAt i (by omega)
 obtain⟨_,hlen,hcell⟩:=World.cells?_some h1
 refine⟨ce,n,y,hlen,λj hj=>?_,h2⟩
 have:=hcell j hj
 rw[(shape (by omega)).1]at this
 rw[fY,fY]at this
 rw[show a.off+(i*P.cellsOf e+j)=a.off+i*P.cellsOf e+j by omega]
 exact this
theorem lC {α:Type} (f:α->Value) {b o:Nat}:∀(n:Nat),(∀k,k<n->∃x:α,w.cell? ⟨b,o+k,none⟩=some (f x))->∃l:List α,l.length=n/\∀j v,(l.map f)[j]? =some v->w.cell? ⟨b,o+j,none⟩=some v
 |0,_=>⟨[],rfl,λj v h=>by simp at h⟩
 |n+1,h=>by
  obtain⟨l,hl,hc⟩:=lC f n (λk hk=>h k (by omega))
  obtain⟨x,hx⟩:=h n (by omega)
  refine⟨l++[x],by simp[hl],λj v hj=>?_⟩
  by_cases hj':j<n
  ·refine hc j v ?_
   rw[List.map_append,List.getElem?_append_left (by simp[hl,hj'])]at hj
   exact hj
  have hlt:=(List.getElem?_eq_some_iff.1 hj).1
  simp[hl]at hlt
  have:j=n:=by omega
  subst this
  rw[List.map_append,List.getElem?_append_right (by simp[hl])]at hj
  simp[hl]at hj
  rw[hx,hj]
end
def aV7 (w:World):Nat->Nat->Nat->List (Nat×SV)->Prop
 |0=>λ_ _ _=>False
 |k+1=>λb o ls=>(zL ls≠0->b<w.heap.size)/\∃cs,zC ⟨λ_=>False,λ_=>(0,0),aV7 w k⟩ ls cs/\∀j v,cs[j]? =some v->w.cell? ⟨b,o+j,none⟩=some v
def aJI (w:World) (k:Nat):Env:=⟨λ_=>False,λ_=>(0,0),aV7 w k⟩
theorem u7 (w:World):∀(k b o:Nat) (ls:List (Nat×SV)),aV7 w k b o ls->aV7 w (k+1) b o ls
 |0,_,_,_,h=>h.elim
 |k+1,b,o,ls,⟨h1,cs,h2,h3⟩=>⟨h1,cs,zC.le (ρ:=aJI w k) (ρ':=aJI w (k+1)) ⟨λ_ (h:False)=>h.elim,u7 w k⟩ h2,h3⟩
theorem aHZ (w:World) (k:Nat) (hg:∃n:Int,aV7 w k 0 0 [(1,.i .i64 n)]):zF (aJI w k) [] w where
 gl:=hg
 dom a h:=h.elim
 mod a e h:=by simp[zG]at h
 sat a e h:=by simp[zG]at h
 sep a b e e' h:=by simp[zG]at h
 imm b o ls h:=by
  cases k with
  |zero=>exact h.elim
  |succ k=>
   obtain⟨h1,cs,h2,h3⟩:=h
   exact⟨h1,cs,zC.le (ρ:=aJI w k) (ρ':=(aJI w (k+1)).bare) ⟨λ_ (h:False)=>h.elim,u7 w k⟩ h2,h3⟩
 isep b o _ h:=by obtain⟨a,e,h1,_⟩:=h;simp[zG]at h1
theorem un {w:World} {k:Nat} (h:∃n:Int,w.cell? ⟨0,0,none⟩=some (.int .i64 n)):∃n:Int,aV7 w (k+1) 0 0 [(1,.i .i64 n)]:=by
 obtain⟨n,hn⟩:=h
 refine⟨n,λ_=>?_,[.int .i64 n],⟨[.int .i64 n],[],rfl,rfl,?_,rfl⟩,λj v hj=>?_⟩
 ·unfold World.cell? at hn
  cases hb:w.heap[0]? with
  |none=>rw[hb]at hn;cases hn
  |some x=>exact(Array.getElem?_eq_some_iff.1 hb).1
 ·exact⟨_,rfl,rfl⟩
 cases j with
 |zero=>cases hj;exact hn
 |succ j=>cases hj
theorem aHY (w:World) (k b o:Nat):¬eU (aJI w k) [] b o:=by rintro⟨a,e,h1,_⟩;simp[zG]at h1
section
variable {H:Type} {enc:TypeId × Value->H} {P:Program}
theorem qw {f:Func} {s:ChangeSpec} {apart fresh handsOn again:Bool} {W W':World} {args:Array Value} {v:Value} {ds gs:List (DataW H)} {before pa pv:List MemPlace}
  (hW:DataW.Whole enc P f.params.toList s.vars apart W args.toList ds gs before)
  (hres:∀(b:Nat) (sp:Nat->Bool) (hd:Bool),DataW.TrodAll enc P W' b sp hd f.resultTypes.toList (v.resultList f.resultTypes.size) (s.fn H (ds++gs)).results [])
  (hargs:∀sp:Nat->Bool,(∀p∈before,sp p.block=true)->DataW.TrodAll enc P W' 0 sp true f.params.toList args.toList (s.fn H (ds++gs)).args pa)
  (hvars:∀sp:Nat->Bool,(∀p∈before,sp p.block=true)->DataW.TrodVars enc P W' sp s.vars (s.fn H (ds++gs)).vars pv)
  (hps:before=pa++pv) (hos:W'.os=W.os) (hout:W'.output=W.output) (hblk:∀b,b<W.heap.size->W'.heap[b]? =W.heap[b]?)
  (hok:∀(j:Nat) (t:TypeId) (r:Value),f.resultTypes[j]? =some t->(v.resultList f.resultTypes.size)[j]? =some r->Value.okWide P W' .any 0 t r):
  s.post enc P f apart fresh handsOn again W args v W':=by
 have hlt:∀p∈before,p.block<W.heap.size:=λp hp=>hW.lt p hp
 have hold:∀p∈before,(λb=>decide (b<W.heap.size)) p.block=true:=λp hp=>by simpa using hlt p hp
 have hkept:W.keptBut W' (·∈before):=by
  refine⟨hos,hout,λi hi=>?_⟩
  rw[hblk i hi]
  split <;>simp_all
 refine⟨ds,gs,before,[],pa,pv,hW,hres _ _ _,hargs _ hold,hvars _ hold,World.keptBut_mono (λp hp=>⟨hp,?_⟩) hkept,λ_=>?_⟩
 ·rw[hps,List.mem_append]at hp
  exact Or.inr hp
 obtain⟨_,_,_,_,_,hz,hn⟩:=hW
 refine⟨hok,_,_,([]++pa)++pv,⟨[]++pa,pv,trodAll_append (hargs _ (λ_ _=>rfl)) (hres _ _ _),hvars _ (λ_ _=>rfl),rfl,?_,?_⟩,?_⟩
 ·intro b off hp
  have hin:MemPlace.cell b off∈before:=by rw[hps];simpa using hp
  rw[World.frozen?_of_block (w:=W) (a:=⟨b,off,none⟩) (hblk b (hlt _ hin))]
  exact hz b off hin
 ·intro ha
  have:=hn ha
  rw[hps]at this
  simpa using this
 intro p hp _
 rw[hps]
 simpa using hp
end
theorem aGP {C:Checked} {f:FuncId} {fn:Func} {s:ChangeSpec} {apart fresh handsOn again:Bool} {H:Type} {enc:TypeId×Value->H} {ρ:Env} {M0:Mm} {svs:List SV} {R:SV->Mm->Prop} {tb:TypeId}
  {W:World} {args:Array Value} {ds gs:List (DataW H)} {before:List MemPlace}
  (hl:laidOutB C.prog=true) (hread:∀t∈fn.params.toList,C.prog.readableRec t=true/\t<C.prog.types.size) (hvars:s.vars=[])
  (hspec:(s.fn H (ds++gs))={results:=[.lit (.bool true)],args:=ds}) (hrt:fn.resultTypes= #[tb]) (htb:C.prog.underlying tb=some .bool)
  (hM:zF ρ M0 W) (hown:∀b o,¬eU ρ M0 b o) (hargs:nM ρ svs args.toList) (hf:Sx.Fn C.prog f svs M0 R) (htt:∀v M,R v M->v= .tt)
  (hW:DataW.Whole enc C.prog fn.params.toList s.vars apart W args.toList ds gs before):
  Calls C.prog f args W λe W'=>∃v,e= .returned v/\s.post enc C.prog fn apart fresh handsOn again W args v W':=by
 have hc:=hf ρ args.toList W hM hargs
 simp only[Array.toArray_toList]at hc
 refine hc.mono ?_
 rintro e W' ⟨v,x,ρ',M',rfl,h2,h3,_,_,hst⟩
 have hv:=htt v M' h3
 subst hv
 have hx:x= .bool true:=h2
 subst hx
 have hblk:∀b,b<W.heap.size->W'.heap[b]? =W.heap[b]?:=λb hb=>hst.blk b hb (hown b)
 have hW0:=hW
 rw[hvars]at hW
 obtain⟨p,q,hA,hV,rfl,hfz,hnd⟩:=hW
 obtain⟨rfl,rfl⟩:=trodVars_none hV
 refine⟨_,rfl,qw (pa:=p) (pv:=[]) hW0 ?_ ?_ ?_ rfl hst.os hst.output hblk ?_⟩
 ·intro b sp hd
  rw[hspec,hrt]
  exact trodAll_mk1 ⟨1,by simp[DataW.trod,Value.cells,htb]⟩
 ·intro sp hsp
  rw[hspec]
  have hlt:=hW0.lt
  have go:∀{ts:List TypeId} {vs:List Value} {es:List (DataW H)} {ps:List MemPlace},(∀t∈ts,C.prog.readableRec t=true/\t<C.prog.types.size)->(∀x∈ps,x.block<W.heap.size)->(∀x∈ps,sp x.block=true)->
    DataW.TrodAll enc C.prog W 0 (λ_=>true) true ts vs es ps->DataW.TrodAll enc C.prog W' 0 sp true ts vs es ps:=by
   intro ts
   induction ts with
   |nil=>
    intro vs es ps _ _ _ h
    obtain⟨rfl,rfl,rfl⟩:=trodAll_nil h
    exact trodAll_mk0
   |cons t ts ih=>
    intro vs es ps hr hlt hs h
    obtain⟨v,vs1,d,ds1,a,b,rfl,rfl,rfl,h1,h2⟩:=trodAll_cons h
    refine⟨a,b,WideElems.Trod_stays hl (hr t (by simp)).1 (hr t (by simp)).2 h1 (λx hx=>?_) (λx hx=>hs x (by simp[hx])),ih (λt ht=>hr t (by simp[ht])) (λx hx=>hlt x (by simp[hx])) (λx hx=>hs x (by simp[hx])) h2,rfl⟩
    have hb:=hblk x.block (hlt x (by simp[hx]))
    cases x with
    |cell b o=>exact World.cell?_of_block (w:=W) hb
    |map b=>exact hb
  exact go hread (λx hx=>hlt x (by simpa using hx)) (λx hx=>hsp x (by simpa using hx)) hA
 ·intro sp hsp
  rw[hvars,hspec]
  rfl
 intro j t r h1 h2
 rw[hrt]at h1 h2
 have:=ok_one (P:=C.prog) (W':=W') (f:=fn) (v:=.bool true) (t:=tb) hrt rfl (okWide_bool_mk htb true) j t r (by rw[hrt];exact h1) (by rw[hrt];exact h2)
 exact this
end Go.Sx
namespace Go.Sx
open Go Go.ChangeShapes Go.WideShapes Go.ChangeAt Go.RowKit
def aI4 (P:Program) (t:TypeId) (F:SV->Prop):Prop:=
 ∀(H:Type) (enc:TypeId×Value->H) (w:World) (base:Nat) (v:Value) (d:DataW H) (ps:List MemPlace),
  Value.okWide P w .any base t v->DataW.Trod enc P w 0 (λ_=>true) true t v d ps->∃s,F s/\Rel (aJI w 8) s v
def aAW (P:Program):List TypeId->List (SV->Prop)->Prop
 |[],[]=>True
 |t::ts,F::Fs=>aI4 P t F/\aAW P ts Fs
 |_,_=>False
def aWM:List (SV->Prop)->List SV->Prop
 |[],[]=>True
 |F::Fs,s::ss=>F s/\aWM Fs ss
 |_,_=>False
theorem yi {P:Program} {H:Type} {enc:TypeId×Value->H} {w:World} {base:Nat}:∀{ts:List TypeId} {Fs:List (SV->Prop)} {vs:List Value} {ds:List (DataW H)} {ps:List MemPlace},
  aAW P ts Fs->(∀(j:Nat) t v,ts[j]? =some t->vs[j]? =some v->Value.okWide P w .any base t v)->
  DataW.TrodAll enc P w 0 (λ_=>true) true ts vs ds ps->∃svs,aWM Fs svs/\nM (aJI w 8) svs vs/\ds.length=ts.length
 |[],[],vs,ds,ps,_,_,h=>by
  obtain⟨rfl,rfl,rfl⟩:=trodAll_nil h
  exact⟨[],trivial,rfl,rfl⟩
 |t::ts,F::Fs,vs,ds,ps,⟨h1,h2⟩,hv,h=>by
  obtain⟨v,vs',d,ds',p,q,rfl,rfl,rfl,h3,h4⟩:=trodAll_cons h
  obtain⟨s,hs,hr⟩:=h1 H enc w base v d p (hv 0 t v rfl rfl) h3
  obtain⟨ss,hss,hrs,hd⟩:=yi h2 (λj t v h5 h6=>hv (j+1) t v (by simpa using h5) (by simpa using h6)) h4
  exact⟨s::ss,⟨hs,hss⟩,⟨v,vs',rfl,hr,hrs⟩,by simp[hd]⟩
 |[],_::_,_,_,_,h,_,_=>h.elim
 |_::_,[],_,_,_,h,_,_=>h.elim
def aG2 (n:Nat) (s:SV):Prop:=∃l:List UInt8,l.length=n/\s= .a8 l
def aG0 (es:Nat) (s:SV):Prop:=∃(n:Nat) (l:List UInt8),l.length=n*es/\n<=maxLen/\s= .isl 0 n es [(n*es,.a8 l)]
def xI (s:SV):Prop:=∃x:UInt16,s= .u16 x
section
variable {P:Program}
theorem aA9 (ht:P.underlying t=some (.array n e)) (he:P.underlying e=some (.int .u8)) (hc:P.cellsOf e=1) (hct:P.cellsOf t=n):aI4 P t (aG2 n):=by
 intro H enc w base v d ps hv h
 unfold Value.okWide at hv
 rw[ht]at hv
 obtain⟨cs,rfl,_⟩:=hv
 obtain⟨fuel,h⟩:=h
 obtain⟨l,hl,hcs⟩:=aD8 ht he hc hct h
 refine⟨.a8 l,⟨l,hl,rfl⟩,?_⟩
 show Value.agg cs= .agg (l.map w8).toArray
 congr 1
 apply Array.ext'
 simpa [Value.cells]using hcs
theorem wl {t e es:Nat} (k:Nat) (ht:P.underlying t=some (.slice e)) (hes:P.cellsOf e=es) (hpos:0<es)
  {H:Type} {enc:TypeId×Value->H} {w:World}
  (hel:∀(fuel:Nat) (ce:List Value) (y:DataW H×List MemPlace),DataW.trod enc P w 0 (λ_=>true) true fuel e ce=some y->∀j,j<es->∃x:UInt8,ce[j]? =some (w8 x))
  {fuel:Nat} {c:List Value} {y:DataW H×List MemPlace} (h:DataW.trod enc P w 0 (λ_=>true) true fuel t c=some y):∃s v,aG0 es s/\c=[v]/\cg (aJI w (k+1)) s v:=by
 rcases aO5 ht (by omega) h with h0|⟨a',len,cap',b,o,hcs,hl,hm,ha,hels⟩
 ·exact⟨_,_,⟨0,[],by simp,by simp[maxLen],rfl⟩,h0,0,0,0,none,Or.inr ⟨by simp,rfl,trivial⟩,Nat.le_refl _,rfl,λhh=>absurd rfl hh⟩
 rw[hes]at hels
 have hcell:∀k,k<len*es->∃x:UInt8,w.cell? ⟨b,o+k,none⟩=some (w8 x):=by
  intro k hk
  obtain⟨h1,h2,h3⟩:=uS hk
  obtain⟨ce,fu,y,hce,hc,hy⟩:=hels (k/es) h1
  obtain⟨x,hx⟩:=hel fu ce y hy (k%es) h2
  refine⟨x,?_⟩
  have:=hc (k%es) h2
  rw[h3]at this
  rw[this,hx]
 obtain⟨l,hll,hlc⟩:=lC w8 (w:=w) (b:=b) (o:=o) (len*es) hcell
 refine⟨_,_,⟨len,l,hll,by omega,rfl⟩,hcs,b,o,cap',some a',?_,hl,rfl,λhc=>?_⟩
 ·by_cases h0:len*es=0
  ·refine Or.inr ⟨h0,?_,trivial⟩
   exact List.length_eq_zero_iff.1 (by omega)
  refine Env.immO.of ⟨λ_=>(ha (λhc=>h0 ?_)).2,l.map w8,⟨l.map w8,[],by simp,by simp[hll],rfl,rfl⟩,hlc⟩
  have:len=0:=by omega
  rw[this,Nat.zero_mul]
 rw[(ha hc).1];simp
theorem wg {t e es:Nat} (ht:P.underlying t=some (.slice e)) (hes:P.cellsOf e=es) (hpos:0<es)
  (hel:∀(H:Type) (enc:TypeId×Value->H) (w:World) (fuel:Nat) (ce:List Value) (y:DataW H×List MemPlace),DataW.trod enc P w 0 (λ_=>true) true fuel e ce=some y->∀j,j<es->∃x:UInt8,ce[j]? =some (w8 x)):aI4 P t (aG0 es):=by
 intro H enc w base v d ps hv h
 obtain⟨fuel,h⟩:=h
 obtain⟨a,n,cap,rfl⟩:=okWide_slice ht hv
 obtain⟨s,v',hs,hc,hr⟩:=wl 7 ht hes hpos (hel H enc w) h
 have:Value.slice a n cap=v':=by simpa [Value.cells]using hc
 obtain⟨n',l,h1,h2,rfl⟩:=hs
 refine⟨_,⟨n',l,h1,h2,rfl⟩,?_⟩
 rw[this]
 exact hr
theorem aEE {t e:Nat} (ht:P.underlying t=some (.slice e)) (he:P.underlying e=some (.int .u8)) (hc:P.cellsOf e=1):aI4 P t (aG0 1):=by
 refine wg ht hc (by omega) λH enc w fuel ce y h j hj=>?_
 obtain⟨k,hk,_,hw⟩:=DataW.trod_int he h
 obtain⟨x,hx⟩:=ye hw
 obtain rfl:j=0:=by omega
 exact⟨x,by rw[hk,hx];rfl⟩
end
theorem aQY {C:Checked} {f:FuncId} {fn:Func} {s:ChangeSpec} {apart fresh handsOn again:Bool} {H:Type} {enc:TypeId×Value->H} {tb:TypeId} {Fs:List (SV->Prop)} {ts:List TypeId}
  {W:World} {base:Nat} {args:Array Value} {ds gs:List (DataW H)} {before:List MemPlace}
  (hl:laidOutB C.prog=true) (hps:fn.params.toList=ts) (hread:(ts.all λt=>C.prog.readableRec t&&decide (t<C.prog.types.size))=true) (hvars:s.vars=[]) (hT:aAW C.prog ts Fs)
  (hspec:∀ds:List (DataW H),ds.length=ts.length->s.fn H ds={results:=[.lit (.bool true)],args:=ds}) (hrt:fn.resultTypes= #[tb]) (htb:C.prog.underlying tb=some .bool)
  (hg:∃n:Int,W.cell? ⟨0,0,none⟩=some (.int .i64 n))
  (hf:∀svs,aWM Fs svs->Sx.Fn C.prog f svs [] (λv _=>v= .tt))
  (hval:∀(j:Nat) t v,fn.params[j]? =some t->args[j]? =some v->Value.okWide C.prog W .any base t v)
  (hW:DataW.Whole enc C.prog fn.params.toList s.vars apart W args.toList ds gs before):
  Calls C.prog f args W λe W'=>∃v,e= .returned v/\s.post enc C.prog fn apart fresh handsOn again W args v W':=by
 have hW0:=hW
 rw[hvars]at hW0
 obtain⟨p,q,hA,hV,rfl,hfz,hnd⟩:=hW0
 obtain⟨rfl,rfl⟩:=trodVars_none hV
 rw[hps]at hA
 obtain⟨svs,hF,hR,hd⟩:=yi hT (λj t v h1 h2=>hval j t v (by rw[<-Array.getElem?_toList,hps];exact h1) (by rw[<-Array.getElem?_toList];exact h2)) hA
 refine aGP (ρ:=aJI W 8) (M0:=[]) (R:=λv _=>v= .tt) hl (by rw[hps];exactλt ht=>by have:=List.all_eq_true.1 hread t ht;simpa using this) hvars ?_ hrt htb (aHZ W 8 (un hg)) (aHY W 8) hR (hf svs hF) (λ_ _ h=>h) hW
 have:=hspec (ds++[]) (by simpa using hd)
 simpa using this
end Go.Sx
namespace Go.Sx
open Go Go.ChangeShapes Go.WideShapes Go.ChangeAt Go.RowKit
section
variable {P:Program}
end
end Go.Sx
namespace Go.Sx
open Go Go.ChangeShapes Go.WideShapes Go.ChangeAt Go.RowKit
section
variable {P:Program}
end
end Go.Sx
namespace Go.Sx
open Go Go.ChangeShapes Go.WideShapes Go.ChangeAt Go.RowKit
section
variable {P:Program}
theorem sP {t:Nat} (ht:P.underlying t=some (.int .u16)):aI4 P t xI:=by
 intro H enc w base v d ps hv h
 obtain⟨n,rfl,_,_,hw⟩:=open_int ht hv h
 obtain⟨x,hx⟩:=re hw
 exact⟨_,⟨x,rfl⟩,hx⟩
end
end Go.Sx
namespace Go.Sx
open Go
abbrev rnd (l:Nat):Fence:=Fence.wide.inRound l
def pX:List Oper->Bool
 |[]=>true
 |o::r=>(match o.op with
  | .defer _=>false
  |_=>true)&&pX r
theorem pW:∀{l:List Oper},pX l=true->∀o∈l,∀c,o.op≠ .defer c
 |[],_,_,h,_=>by simp at h
 |o::r,hn,o',h,c=>by
  simp only[pX,zbA]at hn
  rcases List.mem_cons.1 h with h|h
  ·subst h
   intro he
   have:=hn.1
   rw[he]at this
   cases this
  exact pW hn.2 o' h c
theorem aPJ {l n:Nat} {P:Program} {row:String} {args:Array Value} {w:World} {R:Value->World->Prop} (h:Go.Rows P row args w R):RowsIn (rnd l) n P row args w R:=by
 intro c cs _
 obtain⟨v,w',r,s⟩:=h c cs
 exact⟨v,w',r,stepsIn_wide.2 s⟩
theorem aO1 {l n:Nat} {P:Program} {o:Oper} {a:Act} {K:Act->World->Prop} {Q:Exit->Act->World->Prop} {r:Result Next} (h:o.upon P a K Q r):o.uponIn (rnd l) n P a K Q r:=by
 cases r with
 |ok nx w'=>
  cases nx with
  |value v=>exact h
  |skip=>exact h
  |defer d=>exact h
  |enter f args=>exact⟨λhd=>by simp[rnd,Fence.wide]at hd,(callsIn_wide.2 h).inRound l⟩
  |row row args=>exact⟨λhd=>by simp[rnd,Fence.wide]at hd,aPJ h⟩
  |_=>exact h.elim
 |halt x w'=>
  cases x with
  |panic v=>exact h
  |_=>exact h.elim
theorem aFO {l n:Nat} {P:Program} {o:Oper} (ho:∀c,o.op≠ .defer c) {a:Act} {w:World} {K:Act->World->Prop} {Q:Exit->Act->World->Prop} (h:o.wp P a w K Q):o.wpIn (rnd l) n P a w K Q:=by
 refine⟨λ_ _=>trivial,?_⟩
 rw[Oper.semAt_eq _ _ _ ho]
 exact aO1 h
theorem oS {l n:Nat} {P:Program} {ops:Array Oper} {Q:Exit->Act->World->Prop} (hlo:¬LetsOut Q):∀{r:List Oper},(∀o∈r,∀c,o.op≠ .defer c)->∀{a:Act} {w:World},wpList P ops Q r a w->wpListIn (rnd l) n P ops Q r a w
 |[],_,_,_,h=>h
 |o::r,hd,a,w,h=>by
  unfold wpList at h
  unfold wpListIn
  split at h
  ·rename_i hw
   rw[if_pos hw]
   rcases h with h|⟨_,h⟩
   ·exact Oper.wpIn_mono (λa' w' h'=>oS hlo (λo' ho'=>hd o' (by simp[ho'])) h') (aFO (hd o (by simp)) h)
   exact absurd h hlo
  rename_i hw
  rw[if_neg hw]
  exact⟨λ_ _=>trivial,oS hlo (λo' ho'=>hd o' (by simp[ho'])) h⟩
theorem aOU {l n:Nat} {P:Program} {ops:Array Oper} {Q:Exit->Act->World->Prop} (hlo:¬LetsOut Q) (hd:∀(i:Nat) (o:Oper),ops[i]? =some o->∀c,o.op≠ .defer c) {i:Nat} {K K':Act->World->Prop} (hk:∀a w,K a w->K' a w) {a:Act} {w:World}
  (h:wpOp P ops Q i K a w):wpOpIn (rnd l) n P ops Q i K' a w:=by
 unfold wpOp at h
 unfold wpOpIn
 split at h
 ·rename_i he;rw[he];exact hk _ _ h
 rename_i o he
 rw[he]
 simp only
 split at h
 ·rename_i hw
  rw[if_pos hw]
  rcases h with h|⟨_,h⟩
  ·exact Oper.wpIn_mono hk (aFO (hd i o he) h)
  exact absurd h hlo
 rename_i hw
 rw[if_neg hw]
 exact⟨λ_ _=>trivial,hk _ _ h⟩
theorem yb {l n:Nat} {P:Program} {md:Region.Mode} {ops:Array Oper} {Q:Exit->Act->World->Prop} (hlo:¬LetsOut Q) (hd:∀(i:Nat) (o:Oper),ops[i]? =some o->∀c,o.op≠ .defer c):∀(fuel:Nat) {listed:Array Bool} {a:Act} {w:World},
  wpAny P md ops Q fuel listed a w->wpAnyIn (rnd l) n P md ops Q fuel listed a w
 |0,_,_,_,h=>h
 |fuel+1,_,_,_,h=>⟨h.1,λi hi=>aOU hlo hd (λa w=>yb hlo hd fuel) (h.2 i hi)⟩
def qR:Code->Bool
 | .region _ ops _=>pX ops.toList
 | .seq a b=>qR a&&qR b
 | .cond _ x y=>qR x&&qR y
 | .skip=>true
 |_=>false
theorem aBT {Γ:Cfg} {N:Nat} {Kn:List Nat} {ρA:Env} {l n:Nat} {id:Nat} {ops:Array Oper} {draw:Bool} (hok:iX N ops.toList=true) (hnd:pX ops.toList=true) {T:Tm} {M:Mm} {K:Tm->Mm->Prop} {ρ:Env} {a:Act} {w:World}
  (h:g8 Γ id ops draw T M K) (hc:aZ N ρ T M a w) (ha:gJ Kn ρA ρ):
  (Code.region id ops draw).wpIn (rnd l) n Γ.P (λe a' w'=>e= .normal/\∃ρ' T' M',K T' M'/\aZ N ρ' T' M' a' w'/\gJ Kn ρA ρ'/\aV ρ M ρ' M' w w') a w:=by
 have hnd':=pW hnd
 have hlo:¬LetsOut (λ(e:Exit) (a':Act) (w':World)=>e= .normal/\∃ρ' T' M',K T' M'/\aZ N ρ' T' M' a' w'/\gJ Kn ρA ρ'/\aV ρ M ρ' M' w w'):=λ⟨_,_,h⟩=>by cases h.1
 cases draw with
 |false=>
  refine wpIn_region_list (oS hlo hnd' ?_)
  have:=fm (Γ:=Γ) (N:=N) (all:=ops.toList) hok (K:=K) (Q:=λe a' w'=>e= .normal/\∃ρ' T' M',K T' M'/\aZ N ρ' T' M' a' w'/\gJ Kn ρA ρ'/\aV ρ M ρ' M' w w') ops.toList (λo ho=>ho) hc h
   (λa' w' ⟨ρ',T',M',h1,h2,h3,h4⟩=>⟨rfl,ρ',T',M',h1,h3,ha.le h2,h4⟩)
  simpa using this
 |true=>
  simp only[g8]at h
  unfold aH at h
  obtain⟨dep,ord,hp,hF⟩:=h
  simp only[sm,zbA,List.all_eq_true]at hp
  obtain⟨⟨hd,hplan⟩,hcov⟩:=hp
  have hg:=eW.drew w
  have e0:pB (replicate ops.toList.toArray.size false)=λ_=>false:=by
   funext j;exact getD_replicate_false _ _
  have hleft:left ops.toList.length (λ_=>false)<=ops.toList.toArray.size:=by
   unfold left
   have:=List.length_filter_le (λj=>!(λ_:Nat=>false) j) (List.range ops.toList.length)
   simpa using this
  have e:ops=ops.toList.toArray:=by simp
  refine wpIn_region_any Γ.mixed (yb hlo (λi o ho=>hnd' o (List.mem_of_getElem? (by simpa using ho))) _ ?_)
  rw[e]
  refine fX (ρ0:=ρ) (M00:=M) (w0:=w) (K:=K) hd hok (λc a w h=>by cases h.1) hlo (λa' w' ⟨ρ',T',M',h1,h2,h3,h4⟩=>⟨rfl,ρ',T',M',h1,h3,ha.le h2,h4⟩) _ (by simp) (rs:=[]) (bf:=[]) (ord:=ord) (T0:=T) (M0:=M) (ρ:=ρ) ?_ ?_ (Env.le_refl _) ?_
  ·rw[e0]
   exact⟨Inv.start (hc.grows hg) (by simp) (by simp),by simp,by simp,hF,hplan,λj hj=>Or.inr (zmi.1 (hcov j (List.mem_range.2 hj)))⟩
  ·rw[e0];exact hleft
  rw[e0];exact hg.step
def aZL (N:Nat) (Kn:List Nat) (ρA ρ:Env) (M:Mm) (w:World) (Q:ti):Exit->Act->World->Prop:=
 λe a' w'=>e= .normal/\∃ρ' T' M',Q .normal T' M'/\aZ N ρ' T' M' a' w'/\gJ Kn ρA ρ'/\aV ρ M ρ' M' w w'
theorem aRF {Γ:Cfg} {N:Nat} {Kn:List Nat} {ρA:Env} {l n:Nat}:∀{c:Code},cW N c=true->qR c=true->∀{T:Tm} {M:Mm} {Q:ti} (_:∀e T M,Q e T M->e= .normal) {ρ:Env} {a:Act} {w:World},mE Γ [] Kn c T M Q->aZ N ρ T M a w->gJ Kn ρA ρ->
  c.wpIn (rnd l) n Γ.P (aZL N Kn ρA ρ M w Q) a w:=by
 intro c
 induction c with
 |skip=>intro _ _ T M Q _ ρ a w h hc ha;exact wpIn_skip ⟨rfl,ρ,T,M,h,hc,ha,aV.refl _ _ _⟩
 |region id ops draw=>
  intro hok hin T M Q _ ρ a w h hc ha
  have h:g8 Γ id ops draw T M (Q .normal):=h
  exact aBT hok hin h hc ha
 |seq x y ihx ihy=>
  intro hok hin T M Q hQ ρ a w h hc ha
  simp only[cW,zbA]at hok
  simp only[qR,zbA]at hin
  have hQ2:∀e T M,aV1 (λT' M'=>mE Γ [] Kn y T' M' Q) Q e T M->e= .normal:=by
   intro e T M h
   cases e with
   |normal=>rfl
   |_=>exact hQ _ _ _ h
  refine wpIn_seq (wpIn_mono (ihx hok.1 hin.1 hQ2 h hc ha) ?_)
  rintro e a' w' ⟨rfl,ρ',T',M',h1,h2,h3,h4⟩
  refine wpIn_mono (ihy hok.2 hin.2 hQ h1 h2 h3) ?_
  rintro e a'' w'' ⟨rfl,ρ'',T'',M'',g1,g2,g3,g4⟩
  exact⟨rfl,ρ'',T'',M'',g1,g2,g3,h4.trans g4⟩
 |cond c x y ihx ihy=>
  intro hok hin T M Q hQ ρ a w h hc ha
  simp only[cW,zbA]at hok
  simp only[qR,zbA]at hin
  have hr:=zev hc c
  simp only[mE]at h
  split at h
  ·rename_i he;rw[he]at hr
   exact wpIn_cond_true hr (ihx hok.1 hin.1 hQ h hc ha)
  ·rename_i he;rw[he]at hr
   exact wpIn_cond_false hr (ihy hok.2 hin.2 hQ h hc ha)
  ·rename_i p he;rw[he]at hr
   obtain⟨b,hb,hbp⟩:=hr
   cases b with
   |true=>exact wpIn_cond_true hb (ihx hok.1 hin.1 hQ (h.yes (hbp.1 rfl)) hc ha)
   |false=>exact wpIn_cond_false hb (ihy hok.2 hin.2 hQ (h.no λhp=>by have:=hbp.2 hp;cases this) hc ha)
  exact h.elim
 |_=>intro _ hin;cases hin
def mX (Γ:Cfg) (l:List Oper) (T:Tm) (M:Mm) (ps:List Prop) (K:Tm->Prop):Prop:=
 match l with
 |[]=>zwP ps (K T)
 |o::r=>match o.guard with
  |none=>match fo Γ.ty T M o.op with
   |some (qs,v)=>zfP (qs++ps) λqs=>zfV v λv=>mX Γ r (zt o.dst v T) M qs K
   |none=>False
  |some _=>False
theorem pJ {Γ:Cfg} {M:Mm} {K:Tm->Prop}:∀{l:List Oper} {T:Tm} {ps:List Prop},mX Γ l T M ps K->All ps
 |[],_,_,h=>zwP.all h
 |o::r,T,ps,h=>by
  unfold mX at h
  split at h
  ·split at h
   ·rw[cv,i8]at h
    exact(pJ h).right
   exact h.elim
  exact h.elim
theorem qv {ty:Nat->Ty} {T:Tm} {M:Mm} {op:Op} {r:List Prop×SV} (h:fo ty T M op=some r):∀c,op≠ .defer c:=by
 rintro c rfl
 simp[fo]at h
theorem ra {Γ:Cfg} {N:Nat} {F:Fence} (hF:∀f,F.fn f) {n:Nat} {ops:Array Oper} {M:Mm} {K:Tm->Prop} {ρ:Env} {w:World} {Q:Exit->Act->World->Prop} (l2:List Oper)
  (hQ:∀T' a',K T'->aZ N ρ T' M a' w->wpListIn F n Γ.P ops Q l2 a' w):∀{l:List Oper},iX N l=true->∀{T:Tm} {ps:List Prop} {a:Act},mX Γ l T M ps K->aZ N ρ T M a w->wpListIn F n Γ.P ops Q (l++l2) a w
 |[],_,T,ps,a,h,hc=>hQ T a (zwP.rest h) hc
 |o::r,hd,T,ps,a,h,hc=>by
  have hdd:=λd=>eN hd (o:=o) (by simp) d
  unfold mX at h
  split at h
  ·rename_i hg
   split at h
   ·rename_i qs v hv
    rw[cv,i8]at h
    obtain⟨x,hx,hr⟩:=nb hc hv (pJ h).left
    simp only[iX,zbA]at hd
    show wpListIn F n Γ.P ops Q (o::(r++l2)) a w
    unfold wpListIn
    rw[if_pos (by simp[Region.wanted,hg])]
    refine⟨λf _=>hF f,?_⟩
    rw[Oper.semAt_eq _ _ _ (qv hv),hr]
    show wpListIn F n Γ.P ops Q (r++l2) (a.put o.dst x) w
    refine ra hF l2 hQ hd.2 h ?_
    cases hdst:o.dst with
    |none=>exact hc.put_none x
    |some d=>exact hc.put (hdd d hdst) hx
   exact h.elim
  exact h.elim
theorem dO {Γ:Cfg} {N:Nat} {F:Fence} (hF:∀f,F.fn f) {n:Nat} {ops:Array Oper} {M:Mm} {K:Tm->Prop} {ρ:Env} {w:World} {Q:Exit->Act->World->Prop} (k:Nat) {l:List Oper} {T:Tm} {a:Act}
  (hd:iX N (l.take k)=true) (h:mX Γ (l.take k) T M [] K) (hc:aZ N ρ T M a w) (hQ:∀T' a',K T'->aZ N ρ T' M a' w->wpListIn F n Γ.P ops Q (l.drop k) a' w):wpListIn F n Γ.P ops Q l a w:=by
 have:=ra (Γ:=Γ) hF (n:=n) (ops:=ops) (Q:=Q) (l.drop k) hQ hd h hc
 rw[List.take_append_drop]at this
 exact this
theorem sA {N:Nat} {ρ:Env} {M:Mm} {w:World} {args:List SV} {xs:List Value} (hM:zF ρ M w) (hargs:nM ρ args xs) (hn:xs.length<=N):
  aZ N ρ (bG 0 args) M {tmps:=xs.toArray++replicate (N-xs.toArray.size) undef,defers:=[]} w:=by
 refine⟨hM,by simp;omega,rfl,de 0 _ hargs λj x hj=>?_⟩
 have hlt:=(List.getElem?_eq_some_iff.1 hj).1
 rw[Nat.zero_add,Array.getElem?_append_left (by simpa using hlt)]
 simpa using hj
theorem aZ.sub {N:Nat} {ρ:Env} {T T0:Tm} {M:Mm} {a:Act} {w:World} (hc:aZ N ρ T M a w) (h:∀d,zX T0 d= .und\/zX T0 d=zX T d):aZ N ρ T0 M a w:=
 ⟨hc.tozF,hc.sz,hc.defers,λd=>by
  rcases h d with h|h
  ·rw[h];exact zR trivial
  rw[h];exact hc.tm d⟩
theorem aZP {i j k:Nat} {A B C:SV} {T:Tm} (h0:zX T i=A) (h1:zX T j=B) (h2:zX T k=C):∀d,zX [(i,A),(j,B),(k,C)] d= .und\/zX [(i,A),(j,B),(k,C)] d=zX T d:=by
 intro d
 by_cases e0:d=i
 ·subst e0;rw[aK];exact Or.inr h0.symm
 rw[aS e0]
 by_cases e1:d=j
 ·subst e1;rw[aK];exact Or.inr h1.symm
 rw[aS e1]
 by_cases e2:d=k
 ·subst e2;rw[aK];exact Or.inr h2.symm
 rw[aS e2];exact Or.inl rfl
theorem aG8 {W W':World} {row:Option Nat} {a:Addr} {v:Value} (h:W.cell? a=some v) (hg:W.grownBy W' row) (hr:∀r,row=some r->∃o:Obj,W.heap[r]? =some o/\o.isCells=false):iO W' a=iO W a:=by
 obtain⟨o,ho,hc⟩:=cells_of_cell h
 have hne:some a.block≠row:=by
  intro e
  obtain⟨o',ho',hc'⟩:=hr a.block e.symm
  rw[ho]at ho'
  cases ho'
  rw[hc]at hc';cases hc'
 have:=hg.block a.block (Array.getElem?_eq_some_iff.1 ho).1 hne
 unfold iO
 rw[this]
def sw:Mm->Bool
 |[]=>true
 |(_,e)::r=>(match e with
  | .map _=>false
  |_=>true)&&sw r
theorem pV:∀{M:Mm},sw M=true->∀{a:Nat} {m:MpV},zG M a≠some (.map m)
 |[],_,_,_,h=>by simp[zG]at h
 |(b,e)::r,hn,a,m,h=>by
  simp only[sw,zbA]at hn
  by_cases hab:a=b
  ·subst hab
   rw[zh]at h
   simp only[zoI]at h;subst h
   cases hn.1
  rw[zg hab]at h
  exact pV hn.2 h
theorem zF.turned {ρ:Env} {M:Mm} {W W':World} {row:Option Nat} (h:zF ρ M W) (hg:W.grownBy W' row) (hr:∀r,row=some r->∃o:Obj,W.heap[r]? =some o/\o.isCells=false) (hnm:sw M=true:=by rfl):zF ρ M W':=by
 refine⟨h.dom,h.mod,λa e he=>?_,h.sep,λb o ls hi=>?_,h.isep,h.gl⟩
 ·have hs:=h.sat a e he
  cases e with
  |dead=>trivial
  |mem own sp ls=>
   obtain⟨cs,h1,h2,h3,h4⟩:=hs
   refine⟨cs,h1,⟨λhn=>Nat.lt_of_lt_of_le (h2.1 hn) hg.size,h2.2⟩,λj v hj=>cell_kept (h3 j v hj) hg hr,λho j hj=>?_⟩
   obtain⟨⟨v,hv⟩,hh⟩:=h4 ho j hj
   exact⟨⟨v,cell_kept hv hg hr⟩,by rw[aG8 hv hg hr];exact hh⟩
  |map m=>
   exact absurd he (pV hnm)
 obtain⟨h1,cs,h2,h3⟩:=h.imm b o ls hi
 exact⟨λhn=>Nat.lt_of_lt_of_le (h1 hn) hg.size,cs,h2,λj v hj=>cell_kept (h3 j v hj) hg hr⟩
theorem aV.turned {ρ ρ':Env} {M M':Mm} {w W W':World} {row:Option Nat} (h:aV ρ M ρ' M' w W) (hg:W.grownBy W' row) (hr:∀r,row=some r->w.heap.size<=r):aV ρ M ρ' M' w W':=by
 have key:∀b,b<w.heap.size->W'.heap[b]? =W.heap[b]?:=λb hb=>
  hg.block b (Nat.lt_of_lt_of_le hb h.size) λe=>by have:=hr b e.symm;omega
 refine⟨Nat.le_trans h.size hg.size,hg.os.trans h.os,hg.output.trans h.output,λb hb ho=>(key b hb).trans (h.blk b hb ho),λb o hb ho=>?_,h.own,h.immo⟩
 obtain⟨h1,h2⟩:=h.cell b o hb ho
 refine⟨?_,?_⟩
 ·rw[<-h1];exact World.cell?_of_block (key b hb)
 rw[<-h2];unfold iO;rw[key b hb]
theorem aFK {ρ:Env} {M:Mm} {w:World} (hM:zF ρ M w) (hnm:sw M=true) {b o:Nat} (h:eU ρ M b o):∃v,w.cell? ⟨b,o,none⟩=some v:=by
 obtain⟨a,e,he,hown,hf⟩:=h
 have hs:=hM.sat a e he
 cases e with
 |dead=>cases hown
 |map m=>exact absurd he (pV hnm)
 |mem own sp ls=>
  cases own with
  |false=>cases hown
  |true=>
   obtain⟨f1,f2,f3⟩:=hf
   simp only[if_true]at f3
   obtain⟨cs,h1,h2,h3,h4⟩:=hs
   obtain⟨⟨v,hv⟩,_⟩:=h4 rfl (o-(ρ.pos a).2) (by omega)
   refine⟨v,?_⟩
   rw[f1]
   rw[show(ρ.pos a).2+(o-(ρ.pos a).2)=o by omega]at hv
   exact hv
theorem aV.others {ρ ρ':Env} {M M':Mm} {w w':World} (h:aV ρ M ρ' M' w w') (hM:zF ρ M w) (hnm:sw M=true:=by rfl):KeepsOthers w w':=by
 refine⟨h.size,λk o hk ho=>?_⟩
 rw[h.blk k (Array.getElem?_eq_some_iff.1 hk).1 λj hj=>?_]
 ·exact hk
 obtain⟨v,hv⟩:=aFK hM hnm hj
 obtain⟨o',ho',hc⟩:=cells_of_cell hv
 rw[hk]at ho'
 cases ho'
 rw[ho]at hc;cases hc
theorem fR (a:Act) (D:List Deferred) (d:Option Nat) (v:Value):({a with defers:=D}:Act).put d v={a.put d v with defers:=D}:=by
 cases d<;>rfl
theorem aA7 {n:Nat} {P:Program} {o:Oper} (ho:∀c,o.op≠ .defer c) {D:List Deferred} {a:Act} {K:Act->World->Prop} {Q Q':Exit->Act->World->Prop} (hpa:∀c a w,¬Q (.panic c) a w) (hlo:¬LetsOut Q) {w:World} (hnd:∀d w',(execOp a.eval o).run P w≠ .ok (.defer d) w')
  (h:o.upon P a K Q ((execOp a.eval o).run P w)):o.uponIn Fence.wide n P {a with defers:=D} (λa' w'=>∃a0,K a0 w'/\a'={a0 with defers:=D}) Q' ((execOp a.eval o).run P w):=by
 generalize hr:(execOp a.eval o).run P w=r at *
 cases r with
 |ok nx w'=>
  cases nx with
  |value v=>exact⟨_,h,fR a D o.dst v⟩
  |skip=>exact⟨_,h,fR a D o.dst undef⟩
  |defer d=>exact absurd rfl (hnd d w')
  |enter f args=>
   refine⟨λhd=>by simp[Fence.wide]at hd,callsIn_wide.2 (Calls.mono h ?_)⟩
   intro e w'' he
   cases e with
   |returned v=>exact⟨_,he,fR a D o.dst v⟩
   |panicked c=>exact absurd he (hpa c _ _)
   |outgrown=>exact absurd he hlo
  |row row args=>exact⟨λhd=>by simp[Fence.wide]at hd,λc cs _=>let⟨v,w'',r,s⟩:=h c cs;⟨v,w'',⟨_,r,fR a D o.dst v⟩,stepsIn_wide.2 s⟩⟩
  |_=>exact h.elim
 |halt x w'=>
  cases x with
  |panic v=>exact absurd h (hpa _ _ _)
  |_=>exact h.elim
theorem nQ {n:Nat} {P:Program} {ops:Array Oper} {D:List Deferred} {Q:Exit->Act->World->Prop} (hpa:∀c a w,¬Q (.panic c) a w) (hlo:¬LetsOut Q):∀{r:List Oper},(∀o∈r,(∀c,o.op≠ .defer c)/\∀(ev:Operand->Value) w d w',(execOp ev o).run P w≠ .ok (.defer d) w')->
  ∀{a:Act} {w:World},wpList P ops Q r a w->wpListIn Fence.wide n P ops (λe a' w'=>∃a0,Q e a0 w'/\a'={a0 with defers:=D}) r {a with defers:=D} w
 |[],_,a,w,h=>⟨a,h,rfl⟩
 |o::r,hd,a,w,h=>by
  unfold wpList at h
  unfold wpListIn
  have ih:∀a' w',(∃a0,wpList P ops Q r a0 w'/\a'={a0 with defers:=D})->wpListIn Fence.wide n P ops (λe a' w'=>∃a0,Q e a0 w'/\a'={a0 with defers:=D}) r a' w':=by
   rintro a' w' ⟨a0,h,rfl⟩
   exact nQ hpa hlo (λo' ho'=>hd o' (by simp[ho'])) h
  split at h
  ·rename_i hw
   rw[if_pos hw]
   rcases h with h|⟨_,h⟩
   ·refine Oper.wpIn_mono ih ⟨λ_ _=>trivial,?_⟩
    rw[Oper.semAt_eq _ _ _ (hd o (by simp)).1]
    exact aA7 (hd o (by simp)).1 hpa hlo ((hd o (by simp)).2 _ _) h
   exact absurd h hlo
  rename_i hw
  rw[if_neg hw]
  refine⟨λ_ _=>trivial,ih _ _ ⟨_,h,?_⟩⟩
  exact fR a D o.dst undef
theorem aQS {P:Program} {o:Oper} {t:TypeId} {x:Operand} (h:o.op= .load t x):(∀c,o.op≠ .defer c)/\∀(ev:Operand->Value) w d w',(execOp ev o).run P w≠ .ok (.defer d) w':=by
 refine⟨λc hc=>(by rw[h]at hc;cases hc),λev w d w' hr=>?_⟩
 simp only[execOp,h,Sem.run_bind]at hr
 cases hq:(Instr.loadAt t (ev x)).run P w with
 |ok v w2=>rw[hq]at hr;simp[andThen]at hr
 |halt q w2=>rw[hq]at hr;simp[andThen]at hr
theorem aJ1 {P:Program} {o:Oper} {t:TypeId} {x y:Operand} (h:o.op= .store t x y):(∀c,o.op≠ .defer c)/\∀(ev:Operand->Value) w d w',(execOp ev o).run P w≠ .ok (.defer d) w':=by
 refine⟨λc hc=>(by rw[h]at hc;cases hc),λev w d w' hr=>?_⟩
 simp only[execOp,h,Sem.run_bind]at hr
 cases hq:(Instr.storeAt t (ev x) (ev y)).run P w with
 |ok v w2=>rw[hq]at hr;simp[andThen]at hr
 |halt q w2=>rw[hq]at hr;simp[andThen]at hr
theorem xG {Γ:Cfg} {N:Nat} {Kn:List Nat} {ρA:Env} {n:Nat} {id:Nat} {ops:Array Oper} {draw:Bool} (hok:iX N ops.toList=true) {T:Tm} {M:Mm} {K:Tm->Mm->Prop} {ρ:Env} {a:Act} {w:World} {Q:Exit->Act->World->Prop}
  (h:g8 Γ id ops draw T M K) (hc:aZ N ρ T M a w) (ha:gJ Kn ρA ρ) (hQ:∀ρ' T' M' a' w',K T' M'->aZ N ρ' T' M' a' w'->gJ Kn ρA ρ'->aV ρ M ρ' M' w w'->Q .normal a' w'):
  (Code.region id ops draw).wpIn Fence.wide n Γ.P Q a w:=by
 have:=g7 (Γ:=Γ) (N:=N) (Kn:=Kn) (id:=id) (draw:=draw) hok (Q:=λe=>match e with
  | .normal=>K
  |_=>λ_ _=>False) h hc ha
 refine wpIn_mono (wpIn_wide.2 this) ?_
 rintro e a' w' ⟨ρ',T',M',hk,h2,h3,h4⟩
 cases e with
 |normal=>exact hQ ρ' T' M' a' w' hk h2 h3 h4
 |_=>exact hk.elim
theorem pF {Γ:Cfg} {N:Nat} {Kn:List Nat} {ρA:Env} {n:Nat} {id:Nat} {ops:Array Oper} {draw:Bool} (T0:Tm) (M0:Mm) (hok:iX N ops.toList=true) {T:Tm} {M:Mm} {ρ:Env} {a:Act} {w:World} {Q:Exit->Act->World->Prop}
  (h:g8 Γ id ops draw T M (λT' M'=>Le Kn T0 M0 T' M')) (hc:aZ N ρ T M a w) (ha:gJ Kn ρA ρ) (hQ:∀ρ' a' w',aZ N ρ' T0 M0 a' w'->gJ Kn ρA ρ'->aV ρ M ρ' M0 w w'->Q .normal a' w'):
  (Code.region id ops draw).wpIn Fence.wide n Γ.P Q a w:=
 xG hok h hc ha λρ' T' M' a' w' hk h2 h3 h4=>by
  obtain⟨ρ0,l1,l2,l3⟩:=hk.sound h2 h3
  exact hQ ρ0 a' w' l1 l2 (h4.trans l3)
theorem gJ.trans' {Kn:List Nat} {a b c:Env} (h:gJ Kn a b) (k:gJ Kn b c):gJ Kn a c:=
 ⟨λx hx=>⟨(k.to x hx).1,(k.to x hx).2.trans (h.to x hx).2⟩,λb o ls hi=>k.im b o ls (h.im b o ls hi)⟩
theorem aZ.world {N:Nat} {ρ:Env} {T:Tm} {M:Mm} {a:Act} {w w':World} (hc:aZ N ρ T M a w) (h:zF ρ M w'):aZ N ρ T M a w':=⟨h,hc.sz,hc.defers,hc.tm⟩
end Go.Sx
