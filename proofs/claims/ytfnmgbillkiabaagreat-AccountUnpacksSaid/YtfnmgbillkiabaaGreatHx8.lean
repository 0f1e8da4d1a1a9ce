/- A symbolic executor over the code of this model: part 8. No condition. -/
import Derived.Test.YtfnmgbillkiabaaGreatHx7
import Derived.ScopeJumps
import Derived.ProofKit
import Derived.OpenShut
set_option linter.unusedSimpArgs false
set_option linter.unusedVariables false
namespace Go.Sx
open Go
def restAt (c:Code) (l:Nat):Code:=(findLabel c l).getD .skip
def ltO (n:Nat) (b:Option Nat):Prop:=
 match b with
 | none=>True
 | some m=>n < m
def jumpN (ls:List Nat) (J:Nat->Nat->Act->World->Prop) (b:Option Nat) (Q:Exit->Act->World->Prop):Exit->Act->World->Prop
 | .goto l,a,w=>l ∈ ls/\∃ n,ltO n b/\J l n a w
 | e,a,w=>Q e a w
theorem wp_scope_n {P:Program} {a:Act} {w:World} {Q:Exit->Act->World->Prop} {c:Code} (ls:List Nat) (J:Nat->Nat->Act->World->Prop) (hf:∀ l ∈ ls,findLabel c l = some (restAt c l))
  (first:c.wp P (jumpN ls J none Q) a w) (pass:∀ l ∈ ls,∀ n a w,J l n a w->(restAt c l).wp P (jumpN ls J (some n) Q) a w):(Code.scope c).wp P Q a w:=by
 intro b k cs
 have hg:∀ l ∈ ls,gotoIn l (.inScope c :: k) = some (.code (restAt c l) :: .inScope c :: k):=fun l hl=>by simp [gotoIn,hf l hl]
 have key:∀ n l a w,l ∈ ls->J l n a w->∃ e a' w',Q e a' w'/\Arrives P (lone (b.at a (.code (restAt c l) :: .inScope c :: k)) cs w) b k cs e a' w':=by
  intro n
  induction n using Nat.strongRecOn with
  | _ n ih=>
   intro l a w hl hJ
   obtain ⟨e,a₁,w₁,hq,harr⟩:=pass l hl n a w hJ b (.inScope c :: k) cs
   cases e with
   | normal=>exact ⟨.normal,a₁,w₁,hq,Steps.trans harr (.one step_inScope)⟩
   | exit id=>exact ⟨.exit id,a₁,w₁,hq,fun k' hk=>harr k' (by simp [exitTo,hk])⟩
   | goto l'=>
    obtain ⟨hl',n',hlt,hJ'⟩:=hq
    obtain ⟨e₂,a₂,w₂,hq₂,harr₂⟩:=ih n' hlt l' a₁ w₁ hl' hJ'
    exact ⟨e₂,a₂,w₂,hq₂,.of_steps (harr _ (hg l' hl')) harr₂⟩
   | ret=>exact ⟨_,a₁,w₁,hq,harr⟩
   | panic ch=>exact ⟨_,a₁,w₁,hq,harr⟩
   | outgrown=>exact ⟨_,a₁,w₁,hq,harr⟩
 obtain ⟨e,a₁,w₁,hq,harr⟩:=first b (.inScope c :: k) cs
 cases e with
 | normal=>exact ⟨.normal,a₁,w₁,hq,.head step_scope (Steps.trans harr (.one step_inScope))⟩
 | exit id=>exact ⟨.exit id,a₁,w₁,hq,fun k' hk=>.head step_scope (harr k' (by simp [exitTo,hk]))⟩
 | goto l'=>
  obtain ⟨hl',n',_,hJ'⟩:=hq
  obtain ⟨e₂,a₂,w₂,hq₂,harr₂⟩:=key n' l' a₁ w₁ hl' hJ'
  exact ⟨e₂,a₂,w₂,hq₂,.of_steps (.head step_scope (harr _ (hg l' hl'))) harr₂⟩
 | ret=>exact ⟨_,a₁,w₁,hq,.of_steps (.one step_scope) harr⟩
 | panic ch=>exact ⟨_,a₁,w₁,hq,.of_steps (.one step_scope) harr⟩
 | outgrown=>exact ⟨_,a₁,w₁,hq,.of_steps (.one step_scope) harr⟩
def jumpQ {σ:Type} (Kn:List Nat) (ls:List Nat) (I:Nat->σ->Prop) (S:Nat->σ->Tm × Mm) (m:Nat->σ->Nat) (b:Option Nat) (Q:Post):Post:=fun e T M=>match e with
 | .goto l=>memB l ls = true/\∃ s,I l s/\ltO (m l s) b/\Le Kn (S l s).1 (S l s).2 T M
 | e=>Q e T M
def AllL (ls:List Nat) (p:Nat->Prop):Prop:=
 match ls with
 | []=>True
 | l :: r=>p l/\AllL r p
theorem AllL_mem {p:Nat->Prop}:∀ {ls:List Nat},AllL ls p->∀ {l:Nat},l ∈ ls->p l
 | [],_,_,h=>by cases h
 | _ :: _,h,_,hm=>(List.mem_cons.1 hm).elim (fun e=>by rw [e];exact h.1) (fun e=>AllL_mem h.2 e)
@[irreducible] def ScopeG (Γ:Cfg) (N:Nat) (Cs Kn:List Nat) (c:Code) (T:Tm) (M:Mm) (Q:Post):Prop:=
 ∃ (σ:Type) (ls:List Nat) (I:Nat->σ->Prop) (S:Nat->σ->Tm × Mm) (m:Nat->σ->Nat),(ls.all fun l=>(findLabel c l).isSome && codeOK N (restAt c l)) = true/\exec Γ Cs Kn c T M (jumpQ Kn ls I S m none Q) /\
  ∀ l,memB l ls = true->∀ s,I l s->exec Γ Cs Kn (restAt c l) (S l s).1 (S l s).2 (jumpQ Kn ls I S m (some (m l s)) Q)
theorem ScopeG.intro {Γ:Cfg} {N:Nat} {Cs Kn:List Nat} {c:Code} {T:Tm} {M:Mm} {Q:Post} {σ:Type} (ls:List Nat) (I:Nat->σ->Prop) (S:Nat->σ->Tm × Mm) (m:Nat->σ->Nat) (h:(ls.all fun l=>(findLabel c l).isSome && codeOK N (restAt c l)) = true)
  (h1:exec Γ Cs Kn c T M (jumpQ Kn ls I S m none Q)) (h2:AllL ls fun l=>∀ s,I l s->exec Γ Cs Kn (restAt c l) (S l s).1 (S l s).2 (jumpQ Kn ls I S m (some (m l s)) Q)):ScopeG Γ N Cs Kn c T M Q:=by
 unfold ScopeG;exact ⟨σ,ls,I,S,m,h,h1,fun l hl=>AllL_mem h2 (zmi.1 hl)⟩
theorem scope_sound {Γ:Cfg} {N:Nat} {Cs Kn:List Nat} {ρA:Env} {c:Code} (hok:codeOK N c = true) {T:Tm} {M:Mm} {Q:Post} {ρ:Env} {a:Act} {w:World} (h:ScopeG Γ N Cs Kn c T M Q) (hc:Conc N ρ T M a w) (ha:Anch Kn ρA ρ) :
  (Code.scope c).wp Γ.P (Ended N Kn ρA ρ M w Q) a w:=by
 unfold ScopeG at h
 obtain ⟨σ,ls,I,S,m,hl,h1,h2⟩:=h
 have hl:∀ l ∈ ls,findLabel c l = some (restAt c l)/\codeOK N (restAt c l) = true:=fun l hm=>by
  have:=List.all_eq_true.1 hl l hm
  simp only [zbA] at this
  obtain ⟨r,hr⟩:=Option.isSome_iff_exists.1 this.1
  exact ⟨by unfold restAt;rw [hr];rfl,this.2⟩
 refine wp_scope_n ls (fun l n a' w'=>∃ s ρs,n = m l s/\I l s/\Conc N ρs (S l s).1 (S l s).2 a' w'/\Anch Kn ρA ρs/\Step ρ M ρs (S l s).2 w w') (fun l hm=>(hl l hm).1) ?_ ?_
 ·refine wp_mono (exec_sound hok h1 hc ha) ?_
  rintro e a' w' ⟨ρ',T',M',g1,g2,g3,g4⟩
  cases e with
  | goto l=>
   obtain ⟨k1,s,k2,_,k4⟩:=g1
   obtain ⟨ρ'',hc'',ha'',hst''⟩:=k4.sound g2 g3
   exact ⟨zmi.1 k1,m l s,trivial,s,ρ'',rfl,k2,hc'',ha'',g4.trans hst''⟩
  | _=>exact ⟨ρ',T',M',g1,g2,g3,g4⟩
 ·rintro l hm n a' w' ⟨s,ρs,rfl,hI,hcs,has,hsts⟩
  refine wp_mono (exec_sound (hl l hm).2 (h2 l (zmi.2 hm) s hI) hcs has) ?_
  rintro e a'' w'' ⟨ρ',T',M',g1,g2,g3,g4⟩
  cases e with
  | goto l'=>
   obtain ⟨k1,s',k2,k3,k4⟩:=g1
   obtain ⟨ρ'',hc'',ha'',hst''⟩:=k4.sound g2 g3
   exact ⟨zmi.1 k1,m l' s',k3,s',ρ'',rfl,k2,hc'',ha'',hsts.trans (g4.trans hst'')⟩
  | _=>exact ⟨ρ',T',M',g1,g2,g3,hsts.trans g4⟩
theorem fn_scope (Cs:List Nat) {Γ:Cfg} {f:FuncId} {fn:Func} {r c:Code} {args:List SV} {M0:Mm} {R:SV->Mm->Prop} (hf:Γ.P.funcs[f]? = some fn) (hb:fn.body = some (.seq r (.scope c)))
  (hok:(codeOK fn.ntmps r && codeOK fn.ntmps c) = true) (hn:Nat.ble args.length fn.ntmps = true)
  (h:exec Γ Cs (keysM M0) r (paramsFrom 0 args) M0 (seqQ (fun T M=>ScopeG Γ fn.ntmps Cs (keysM M0) c T M (retQ Γ (keysM M0) fn.results.toList R)) (retQ Γ (keysM M0) fn.results.toList R))):Fn Γ.P f args M0 R:=by
 intro ρ xs w hM hargs
 refine calls_of_wp hf hb ?_
 simp only [zbA] at hok
 have hlen:=RelL_length hargs
 have hle:=ble_le' hn
 have hc:Conc fn.ntmps ρ (paramsFrom 0 args) M0 { tmps:=xs.toArray ++ Array.replicate (fn.ntmps - xs.toArray.size) undef,defers:=[] } w:=by
  refine ⟨hM,by simp;omega,rfl,paramsFrom_rel 0 _ hargs fun j x hj=>?_⟩
  have hlt:=(List.getElem?_eq_some_iff.1 hj).1
  rw [Nat.zero_add,Array.getElem?_append_left (by simpa using hlt)]
  simpa using hj
 have ha:Anch (keysM M0) ρ ρ:=by
  refine ⟨fun k hk=>?_,fun _ _ _ h=>h⟩
  obtain ⟨e,he⟩:=keysM_get hk
  exact ⟨hM.mod k e he,rfl⟩
 have all:(Code.seq r (.scope c)).wp Γ.P (Ended fn.ntmps (keysM M0) ρ ρ M0 w (retQ Γ (keysM M0) fn.results.toList R)) { tmps:=xs.toArray ++ Array.replicate (fn.ntmps - xs.toArray.size) undef,defers:=[] } w:=by
  refine wp_seq (wp_mono (exec_sound hok.1 h hc ha) ?_)
  rintro e a' w' ⟨ρ',T',M',h1,h2,h3,h4⟩
  cases e with
  | normal=>
   refine wp_mono (scope_sound hok.2 h1 h2 h3) ?_
   rintro e a'' w'' ⟨ρ'',T'',M'',g1,g2,g3,g4⟩
   exact ⟨ρ'',T'',M'',g1,g2,g3,h4.trans g4⟩
  | _=>exact ⟨ρ',T',M',h1,h2,h3,h4⟩
 refine wp_mono all ?_
 rintro e a' w' ⟨ρ',T',M',h1,h2,h3,h4⟩
 have fin:Ret Γ (keysM M0) fn.results.toList T' M' R->a'.defers = []/\∃ v,(results fn a'.tmps).run Γ.P w' = .ok v w'/\∃ v' x ρ' M',Ending.returned v = .returned x/\zRT ρ' v' x/\R v' M'/\ρ.le ρ'/\zF ρ' M' w'/\Step ρ M0 ρ' M' w w':=by
  intro hr
  obtain ⟨x,v,ρ2,M2,r1,r2,r3,r4,r5,r6⟩:=ret_sound h2 h3 hr rfl
  refine ⟨h2.defers,x,r1,v,x,ρ2,M2,rfl,r2,r3,⟨fun k hk=>?_,r5.im⟩,r4,h4.trans r6⟩
  obtain ⟨e,he⟩:=hM.dom k hk
  exact r5 k (keysM_mem he)
 cases e with
 | normal=>exact fin h1
 | ret=>exact fin h1
 | _=>exact h1.elim
open Go Go.ChangeShapes Go.WideShapes Go.ChangeAt Go.RowKit
section
variable {H:Type} {enc:TypeId × Value->H} {P:Program} {w:World} {base:Nat} {sp:Nat->Bool} {held:Bool}
theorem w8_of_wf {n:Int} (h:(Lit.int .u8 n).wf = true):∃ x:UInt8,Value.int .u8 n = w8 x:=by
 have:=bounds_u8 h
 refine ⟨UInt8.ofNat n.toNat,?_⟩
 unfold w8
 rw [UInt8.toNat_ofNat']
 congr 1
 omega
theorem w16_of_wf {n:Int} (h:(Lit.int .u16 n).wf = true):∃ x:UInt16,Value.int .u16 n = w16 x:=by
 have:=bounds_u16 h
 refine ⟨UInt16.ofNat n.toNat,?_⟩
 unfold w16
 rw [UInt16.toNat_ofNat']
 congr 1
 omega
theorem map_of_all {α:Type} (f:α->Value):∀ (cs:List Value),(∀ (i:Nat),i < cs.length->∃ x:α,cs[i]? = some (f x))->∃ l:List α,cs = l.map f
 | [],_=>⟨[],rfl⟩
 | c :: r,h=>by
  obtain ⟨x,hx⟩:=h 0 (by simp)
  obtain ⟨l,hl⟩:=map_of_all f r (fun i hi=>by simpa using h (i + 1) (by simpa using hi))
  refine ⟨x :: l,?_⟩
  simp only [List.getElem?_cons_zero,zoI] at hx
  rw [hx,hl];rfl
theorem take_one {cs:List Value} {i:Nat} {v:Value} (h:(cs.drop i).take 1 = [v]):cs[i]? = some v:=by
 have e:((cs.drop i).take 1)[0]? = some v:=by rw [h];rfl
 simpa using e
theorem trod_arr8 {t e n:Nat} {fuel:Nat} {cs:List Value} {x:DataW H × List MemPlace} (ht:P.underlying t = some (.array n e)) (he:P.underlying e = some (.int .u8)) (hc:P.cellsOf e = 1) (hct:P.cellsOf t = n)
  (h:DataW.trod enc P w base sp held fuel t cs = some x):∃ l:List UInt8,l.length = n/\cs = l.map w8:=by
 obtain ⟨xs,m,_,_,hl,hxs,hel⟩:=DataW.trod_array ht h
 rw [hct] at hl
 have hall:∀ i,i < cs.length->∃ x:UInt8,cs[i]? = some (w8 x):=by
  intro i hi
  have:=hel i (by omega)
  rw [hc,Nat.mul_one,List.getElem?_eq_getElem (by omega)] at this
  obtain ⟨k,hk,_,hw⟩:=DataW.trod_int he this
  obtain ⟨x,hx⟩:=w8_of_wf hw
  exact ⟨x,by rw [<- hx];exact take_one hk⟩
 obtain ⟨l,hl'⟩:=map_of_all w8 cs hall
 exact ⟨l,by rw [<- hl,hl'];simp,hl'⟩
theorem trod_sl {t e:Nat} {fuel:Nat} {cs:List Value} {x:DataW H × List MemPlace} (ht:P.underlying t = some (.slice e)) (hpos:0 < P.cellsOf e)
  (h:DataW.trod enc P w base (fun _=>true) held fuel t cs = some x) :
  cs = [.slice none 0 0] \/ ∃ (a:Addr) (len cap b o:Nat),cs = [.slice (some a) len cap]/\len <= cap/\cap <= maxLen/\(cap ≠ 0->a = ⟨b,o,none⟩/\b < w.heap.size) /\
   ∀ i,i < len->∃ ce fuel y,ce.length = P.cellsOf e/\(∀ j,j < P.cellsOf e->w.cell? ⟨b,o + (i * P.cellsOf e + j),none⟩ = ce[j]?)/\DataW.trod enc P w base (fun _=>true) held fuel e ce = some y:=by
 rcases DataW.trod_slice ht h with ⟨h0,_⟩ | ⟨a,len,cap,elems,rest,n,_,rfl,rfl,hb,hl,hm,hlen,hel,hsp,_⟩
 ·exact Or.inl h0
 right
 obtain ⟨hrl,hr⟩:=hsp rfl
 have cellAt:∀ i,i < cap->∃ ce y,w.cells? base (a.add (i * P.cellsOf e)) (P.cellsOf e) = some ce/\DataW.trod enc P w base (fun _=>true) held n e ce = some y:=by
  intro i hi
  by_cases h1:i < len
  ·have:=hel i h1
   rw [List.getElem?_eq_getElem (by omega),Option.bind_eq_some_iff] at this
   obtain ⟨ce,h2,h3⟩:=this
   exact ⟨ce,_,h2,h3⟩
  ·have:=hr (i - len) (by omega)
   rw [List.getElem?_eq_getElem (by omega),Option.bind_eq_some_iff,show len + (i - len) = i by omega] at this
   obtain ⟨ce,h2,h3⟩:=this
   exact ⟨ce,_,h2,h3⟩
 have shape:cap ≠ 0->a = ⟨a.block,a.off,none⟩/\a.block < w.heap.size:=by
  intro hc
  obtain ⟨ce,y,h1,_⟩:=cellAt 0 (by omega)
  obtain ⟨_,hlen,hcell⟩:=World.cells?_some h1
  have g0:=hcell 0 hpos
  rw [List.getElem?_eq_getElem (by omega)] at g0
  have hs:=World.cell?_spot g0
  have:a.spot = none:=by simpa [Addr.add] using hs
  obtain ⟨b,o,s⟩:=a
  simp only at this
  subst this
  refine ⟨rfl,?_⟩
  simp only [Nat.zero_mul,Addr.add,if_true] at g0
  unfold World.cell? at g0
  simp only at g0 ⊢
  cases hb:w.heap[b]? with
  | none=>rw [hb] at g0;simp at g0
  | some _=>exact (Array.getElem?_eq_some_iff.1 hb).1
 refine ⟨a,len,cap,a.block,a.off,rfl,hl,hm,shape,fun i hi=>?_⟩
 obtain ⟨ce,y,h1,h2⟩:=cellAt i (by omega)
 obtain ⟨_,hlen,hcell⟩:=World.cells?_some h1
 refine ⟨ce,n,y,hlen,fun j hj=>?_,h2⟩
 have:=hcell j hj
 rw [(shape (by omega)).1] at this
 rw [add_lit,add_lit] at this
 rw [show a.off + (i * P.cellsOf e + j) = a.off + i * P.cellsOf e + j by omega]
 exact this
theorem list_of_cells {α:Type} (f:α->Value) {b o:Nat}:∀ (n:Nat),(∀ k,k < n->∃ x:α,w.cell? ⟨b,o + k,none⟩ = some (f x))->∃ l:List α,l.length = n/\∀ j v,(l.map f)[j]? = some v->w.cell? ⟨b,o + j,none⟩ = some v
 | 0,_=>⟨[],rfl,fun j v h=>by simp at h⟩
 | n + 1,h=>by
  obtain ⟨l,hl,hc⟩:=list_of_cells f n (fun k hk=>h k (by omega))
  obtain ⟨x,hx⟩:=h n (by omega)
  refine ⟨l ++ [x],by simp [hl],fun j v hj=>?_⟩
  by_cases hj':j < n
  ·refine hc j v ?_
   rw [List.map_append,List.getElem?_append_left (by simp [hl,hj'])] at hj
   exact hj
  ·have hlt:=(List.getElem?_eq_some_iff.1 hj).1
   simp [hl] at hlt
   have:j = n:=by omega
   subst this
   rw [List.map_append,List.getElem?_append_right (by simp [hl])] at hj
   simp [hl] at hj
   rw [hx,hj]
end
def immW (w:World):Nat->Nat->Nat->List (Nat × SV)->Prop
 | 0=>fun _ _ _=>False
 | k + 1=>fun b o ls=>(zL ls ≠ 0->b < w.heap.size)/\∃ cs,zC ⟨fun _=>False,fun _=>(0,0),immW w k⟩ ls cs/\∀ j v,cs[j]? = some v->w.cell? ⟨b,o + j,none⟩ = some v
def envW (w:World) (k:Nat):Env:=⟨fun _=>False,fun _=>(0,0),immW w k⟩
theorem immW_succ (w:World):∀ (k b o:Nat) (ls:List (Nat × SV)),immW w k b o ls->immW w (k + 1) b o ls
 | 0,_,_,_,h=>h.elim
 | k + 1,b,o,ls,⟨h1,cs,h2,h3⟩=>⟨h1,cs,zC.le (ρ:=envW w k) (ρ':=envW w (k + 1)) ⟨fun _ (h:False)=>h.elim,immW_succ w k⟩ h2,h3⟩
theorem envW_conc (w:World) (k:Nat):zF (envW w k) [] w where
 dom a h:=h.elim
 mod a e h:=by simp [zG] at h
 sat a e h:=by simp [zG] at h
 sep a b e e' h:=by simp [zG] at h
 imm b o ls h:=by
  cases k with
  | zero=>exact h.elim
  | succ k=>
   obtain ⟨h1,cs,h2,h3⟩:=h
   exact ⟨h1,cs,zC.le (ρ:=envW w k) (ρ':=(envW w (k + 1)).bare) ⟨fun _ (h:False)=>h.elim,immW_succ w k⟩ h2,h3⟩
 isep b o _ h:=by obtain ⟨a,e,h1,_⟩:=h;simp [zG] at h1
theorem envW_owns (w:World) (k b o:Nat):¬ Owns (envW w k) [] b o:=by rintro ⟨a,e,h1,_⟩;simp [zG] at h1
section
variable {H:Type} {enc:TypeId × Value->H} {P:Program}
theorem post_of_blocks {f:Func} {s:ChangeSpec} {apart fresh handsOn again:Bool} {W W':World} {args:Array Value} {v:Value} {ds gs:List (DataW H)} {before pa pv:List MemPlace}
  (hW:DataW.Whole enc P f.params.toList s.vars apart W args.toList ds gs before)
  (hres:∀ (b:Nat) (sp:Nat->Bool) (hd:Bool),DataW.TrodAll enc P W' b sp hd f.resultTypes.toList (v.resultList f.resultTypes.size) (s.fn H (ds ++ gs)).results [])
  (hargs:∀ sp:Nat->Bool,(∀ p ∈ before,sp p.block = true)->DataW.TrodAll enc P W' 0 sp true f.params.toList args.toList (s.fn H (ds ++ gs)).args pa)
  (hvars:∀ sp:Nat->Bool,(∀ p ∈ before,sp p.block = true)->DataW.TrodVars enc P W' sp s.vars (s.fn H (ds ++ gs)).vars pv)
  (hps:before = pa ++ pv) (hos:W'.os = W.os) (hout:W'.output = W.output) (hblk:∀ b,b < W.heap.size->W'.heap[b]? = W.heap[b]?)
  (hok:∀ (j:Nat) (t:TypeId) (r:Value),f.resultTypes[j]? = some t->(v.resultList f.resultTypes.size)[j]? = some r->Value.okWide P W' .any 0 t r) :
  s.post enc P f apart fresh handsOn again W args v W':=by
 have hlt:∀ p ∈ before,p.block < W.heap.size:=fun p hp=>hW.lt p hp
 have hold:∀ p ∈ before,(fun b=>decide (b < W.heap.size)) p.block = true:=fun p hp=>by simpa using hlt p hp
 have hkept:W.keptBut W' (· ∈ before):=by
  refine ⟨hos,hout,fun i hi=>?_⟩
  rw [hblk i hi]
  split <;> simp_all
 refine ⟨ds,gs,before,[],pa,pv,hW,hres _ _ _,hargs _ hold,hvars _ hold,World.keptBut_mono (fun p hp=>⟨hp,?_⟩) hkept,fun _=>?_⟩
 ·rw [hps,List.mem_append] at hp
  exact Or.inr hp
 ·obtain ⟨_,_,_,_,_,hz,hn⟩:=hW
  refine ⟨hok,_,_,([] ++ pa) ++ pv,⟨[] ++ pa,pv,trodAll_append (hargs _ (fun _ _=>rfl)) (hres _ _ _),hvars _ (fun _ _=>rfl),rfl,?_,?_⟩,?_⟩
  ·intro b off hp
   have hin:MemPlace.cell b off ∈ before:=by rw [hps];simpa using hp
   rw [World.frozen?_of_block (w:=W) (a:=⟨b,off,none⟩) (hblk b (hlt _ hin))]
   exact hz b off hin
  ·intro ha
   have:=hn ha
   rw [hps] at this
   simpa using this
  ·intro p hp _
   rw [hps]
   simpa using hp
end
theorem law_close {C:Checked} {f:FuncId} {fn:Func} {s:ChangeSpec} {apart fresh handsOn again:Bool} {H:Type} {enc:TypeId × Value->H} {ρ:Env} {M0:Mm} {svs:List SV} {R:SV->Mm->Prop} {tb:TypeId}
  {W:World} {args:Array Value} {ds gs:List (DataW H)} {before:List MemPlace}
  (hl:laidOutB C.prog = true) (hread:∀ t ∈ fn.params.toList,C.prog.readableRec t = true/\t < C.prog.types.size) (hvars:s.vars = [])
  (hspec:(s.fn H (ds ++ gs)) = { results:=[.lit (.bool true)],args:=ds }) (hrt:fn.resultTypes = #[tb]) (htb:C.prog.underlying tb = some .bool)
  (hM:zF ρ M0 W) (hown:∀ b o,¬ Owns ρ M0 b o) (hargs:RelL ρ svs args.toList) (hf:Sx.Fn C.prog f svs M0 R) (htt:∀ v M,R v M->v = .tt)
  (hW:DataW.Whole enc C.prog fn.params.toList s.vars apart W args.toList ds gs before) :
  Calls C.prog f args W fun e W'=>∃ v,e = .returned v/\s.post enc C.prog fn apart fresh handsOn again W args v W':=by
 have hc:=hf ρ args.toList W hM hargs
 simp only [Array.toArray_toList] at hc
 refine hc.mono ?_
 rintro e W' ⟨v,x,ρ',M',rfl,h2,h3,_,_,hst⟩
 have hv:=htt v M' h3
 subst hv
 have hx:x = .bool true:=h2
 subst hx
 have hblk:∀ b,b < W.heap.size->W'.heap[b]? = W.heap[b]?:=fun b hb=>hst.blk b hb (hown b)
 have hW0:=hW
 rw [hvars] at hW
 obtain ⟨p,q,hA,hV,rfl,hfz,hnd⟩:=hW
 obtain ⟨rfl,rfl⟩:=trodVars_none hV
 refine ⟨_,rfl,post_of_blocks (pa:=p) (pv:=[]) hW0 ?_ ?_ ?_ rfl hst.os hst.output hblk ?_⟩
 ·intro b sp hd
  rw [hspec,hrt]
  exact trodAll_mk1 ⟨1,by simp [DataW.trod,Value.cells,htb]⟩
 ·intro sp hsp
  rw [hspec]
  have hlt:=hW0.lt
  have go:∀ {ts:List TypeId} {vs:List Value} {es:List (DataW H)} {ps:List MemPlace},(∀ t ∈ ts,C.prog.readableRec t = true/\t < C.prog.types.size)->(∀ x ∈ ps,x.block < W.heap.size)->(∀ x ∈ ps,sp x.block = true) ->
    DataW.TrodAll enc C.prog W 0 (fun _=>true) true ts vs es ps->DataW.TrodAll enc C.prog W' 0 sp true ts vs es ps:=by
   intro ts
   induction ts with
   | nil=>
    intro vs es ps _ _ _ h
    obtain ⟨rfl,rfl,rfl⟩:=trodAll_nil h
    exact trodAll_mk0
   | cons t ts ih=>
    intro vs es ps hr hlt hs h
    obtain ⟨v,vs1,d,ds1,a,b,rfl,rfl,rfl,h1,h2⟩:=trodAll_cons h
    refine ⟨a,b,WideElems.Trod_stays hl (hr t (by simp)).1 (hr t (by simp)).2 h1 (fun x hx=>?_) (fun x hx=>hs x (by simp [hx])),ih (fun t ht=>hr t (by simp [ht])) (fun x hx=>hlt x (by simp [hx])) (fun x hx=>hs x (by simp [hx])) h2,rfl⟩
    have hb:=hblk x.block (hlt x (by simp [hx]))
    cases x with
    | cell b o=>exact World.cell?_of_block (w:=W) hb
    | map b=>exact hb
  exact go hread (fun x hx=>hlt x (by simpa using hx)) (fun x hx=>hsp x (by simpa using hx)) hA
 ·intro sp hsp
  rw [hvars,hspec]
  rfl
 ·intro j t r h1 h2
  rw [hrt] at h1 h2
  have:=ok_one (P:=C.prog) (W':=W') (f:=fn) (v:=.bool true) (t:=tb) hrt rfl (okWide_bool_mk htb true) j t r (by rw [hrt];exact h1) (by rw [hrt];exact h2)
  exact this
open Go Go.ChangeShapes Go.WideShapes Go.ChangeAt Go.RowKit
def Takes (P:Program) (t:TypeId) (F:SV->Prop):Prop:=
 ∀ (H:Type) (enc:TypeId × Value->H) (w:World) (base:Nat) (v:Value) (d:DataW H) (ps:List MemPlace),
  Value.okWide P w .any base t v->DataW.Trod enc P w 0 (fun _=>true) true t v d ps->∃ s,F s/\Rel (envW w 8) s v
def TakesL (P:Program):List TypeId->List (SV->Prop)->Prop
 | [],[]=>True
 | t :: ts,F :: Fs=>Takes P t F/\TakesL P ts Fs
 | _,_=>False
def AllF:List (SV->Prop)->List SV->Prop
 | [],[]=>True
 | F :: Fs,s :: ss=>F s/\AllF Fs ss
 | _,_=>False
theorem take_all {P:Program} {H:Type} {enc:TypeId × Value->H} {w:World} {base:Nat}:∀ {ts:List TypeId} {Fs:List (SV->Prop)} {vs:List Value} {ds:List (DataW H)} {ps:List MemPlace},
  TakesL P ts Fs->(∀ (j:Nat) t v,ts[j]? = some t->vs[j]? = some v->Value.okWide P w .any base t v) ->
  DataW.TrodAll enc P w 0 (fun _=>true) true ts vs ds ps->∃ svs,AllF Fs svs/\RelL (envW w 8) svs vs/\ds.length = ts.length
 | [],[],vs,ds,ps,_,_,h=>by
  obtain ⟨rfl,rfl,rfl⟩:=trodAll_nil h
  exact ⟨[],trivial,rfl,rfl⟩
 | t :: ts,F :: Fs,vs,ds,ps,⟨h1,h2⟩,hv,h=>by
  obtain ⟨v,vs',d,ds',p,q,rfl,rfl,rfl,h3,h4⟩:=trodAll_cons h
  obtain ⟨s,hs,hr⟩:=h1 H enc w base v d p (hv 0 t v rfl rfl) h3
  obtain ⟨ss,hss,hrs,hd⟩:=take_all h2 (fun j t v h5 h6=>hv (j + 1) t v (by simpa using h5) (by simpa using h6)) h4
  exact ⟨s :: ss,⟨hs,hss⟩,⟨v,vs',rfl,hr,hrs⟩,by simp [hd]⟩
 | [],_ :: _,_,_,_,h,_,_=>h.elim
 | _ :: _,[],_,_,_,h,_,_=>h.elim
def isSl8 (es:Nat) (s:SV):Prop:=∃ (n:Nat) (l:List UInt8),l.length = n * es/\n <= maxLen/\s = .isl 0 n es [(n * es,.a8 l)]
section
variable {P:Program}
theorem slice_cells {t e es:Nat} (k:Nat) (ht:P.underlying t = some (.slice e)) (hes:P.cellsOf e = es) (hpos:0 < es)
  {H:Type} {enc:TypeId × Value->H} {w:World}
  (hel:∀ (fuel:Nat) (ce:List Value) (y:DataW H × List MemPlace),DataW.trod enc P w 0 (fun _=>true) true fuel e ce = some y->∀ j,j < es->∃ x:UInt8,ce[j]? = some (w8 x))
  {fuel:Nat} {c:List Value} {y:DataW H × List MemPlace} (h:DataW.trod enc P w 0 (fun _=>true) true fuel t c = some y):∃ s v,isSl8 es s/\c = [v]/\RelS (envW w (k + 1)) s v:=by
 rcases trod_sl ht (by omega) h with h0 | ⟨a',len,cap',b,o,hcs,hl,hm,ha,hels⟩
 ·exact ⟨_,_,⟨0,[],by simp,by simp [maxLen],rfl⟩,h0,0,0,0,none,Or.inr ⟨by simp,rfl,trivial⟩,Nat.le_refl _,rfl,fun hh=>absurd rfl hh⟩
 ·rw [hes] at hels
  have hcell:∀ k,k < len * es->∃ x:UInt8,w.cell? ⟨b,o + k,none⟩ = some (w8 x):=by
   intro k hk
   obtain ⟨h1,h2,h3⟩:=row_index hk
   obtain ⟨ce,fu,y,hce,hc,hy⟩:=hels (k / es) h1
   obtain ⟨x,hx⟩:=hel fu ce y hy (k % es) h2
   refine ⟨x,?_⟩
   have:=hc (k % es) h2
   rw [h3] at this
   rw [this,hx]
  obtain ⟨l,hll,hlc⟩:=list_of_cells w8 (w:=w) (b:=b) (o:=o) (len * es) hcell
  refine ⟨_,_,⟨len,l,hll,by omega,rfl⟩,hcs,b,o,cap',some a',?_,hl,rfl,fun hc=>?_⟩
  ·by_cases h0:len * es = 0
   ·refine Or.inr ⟨h0,?_,trivial⟩
    exact List.length_eq_zero_iff.1 (by omega)
   ·refine Env.immO.of ⟨fun _=>(ha (fun hc=>h0 ?_)).2,l.map w8,⟨l.map w8,[],by simp,by simp [hll],rfl,rfl⟩,hlc⟩
    have:len = 0:=by omega
    rw [this,Nat.zero_mul]
  ·rw [(ha hc).1];simp
theorem takes_slice {t e es:Nat} (ht:P.underlying t = some (.slice e)) (hes:P.cellsOf e = es) (hpos:0 < es)
  (hel:∀ (H:Type) (enc:TypeId × Value->H) (w:World) (fuel:Nat) (ce:List Value) (y:DataW H × List MemPlace),DataW.trod enc P w 0 (fun _=>true) true fuel e ce = some y->∀ j,j < es->∃ x:UInt8,ce[j]? = some (w8 x)):Takes P t (isSl8 es):=by
 intro H enc w base v d ps hv h
 obtain ⟨fuel,h⟩:=h
 obtain ⟨a,n,cap,rfl⟩:=okWide_slice ht hv
 obtain ⟨s,v',hs,hc,hr⟩:=slice_cells 7 ht hes hpos (hel H enc w) h
 have:Value.slice a n cap = v':=by simpa [Value.cells] using hc
 obtain ⟨n',l,h1,h2,rfl⟩:=hs
 refine ⟨_,⟨n',l,h1,h2,rfl⟩,?_⟩
 rw [this]
 exact hr
theorem takes_sl8 {t e:Nat} (ht:P.underlying t = some (.slice e)) (he:P.underlying e = some (.int .u8)) (hc:P.cellsOf e = 1):Takes P t (isSl8 1):=by
 refine takes_slice ht hc (by omega) fun H enc w fuel ce y h j hj=>?_
 obtain ⟨k,hk,_,hw⟩:=DataW.trod_int he h
 obtain ⟨x,hx⟩:=w8_of_wf hw
 obtain rfl:j = 0:=by omega
 exact ⟨x,by rw [hk,hx];rfl⟩
end
theorem law_row {C:Checked} {f:FuncId} {fn:Func} {s:ChangeSpec} {apart fresh handsOn again:Bool} {H:Type} {enc:TypeId × Value->H} {tb:TypeId} {Fs:List (SV->Prop)} {ts:List TypeId}
  {W:World} {base:Nat} {args:Array Value} {ds gs:List (DataW H)} {before:List MemPlace}
  (hl:laidOutB C.prog = true) (hps:fn.params.toList = ts) (hread:(ts.all fun t=>C.prog.readableRec t && decide (t < C.prog.types.size)) = true) (hvars:s.vars = []) (hT:TakesL C.prog ts Fs)
  (hspec:∀ ds:List (DataW H),ds.length = ts.length->s.fn H ds = { results:=[.lit (.bool true)],args:=ds }) (hrt:fn.resultTypes = #[tb]) (htb:C.prog.underlying tb = some .bool)
  (hf:∀ svs,AllF Fs svs->Sx.Fn C.prog f svs [] (fun v _=>v = .tt))
  (hval:∀ (j:Nat) t v,fn.params[j]? = some t->args[j]? = some v->Value.okWide C.prog W .any base t v)
  (hW:DataW.Whole enc C.prog fn.params.toList s.vars apart W args.toList ds gs before) :
  Calls C.prog f args W fun e W'=>∃ v,e = .returned v/\s.post enc C.prog fn apart fresh handsOn again W args v W':=by
 have hW0:=hW
 rw [hvars] at hW0
 obtain ⟨p,q,hA,hV,rfl,hfz,hnd⟩:=hW0
 obtain ⟨rfl,rfl⟩:=trodVars_none hV
 rw [hps] at hA
 obtain ⟨svs,hF,hR,hd⟩:=take_all hT (fun j t v h1 h2=>hval j t v (by rw [<- Array.getElem?_toList,hps];exact h1) (by rw [<- Array.getElem?_toList];exact h2)) hA
 refine law_close (ρ:=envW W 8) (M0:=[]) (R:=fun v _=>v = .tt) hl (by rw [hps];exact fun t ht=>by have:=List.all_eq_true.1 hread t ht;simpa using this) hvars ?_ hrt htb (envW_conc W 8) (envW_owns W 8) hR (hf svs hF) (fun _ _ h=>h) hW
 have:=hspec (ds ++ []) (by simpa using hd)
 simpa using this
open Go Go.ChangeShapes Go.WideShapes Go.ChangeAt Go.RowKit
def TakesC (P:Program) (t:TypeId) (k:Nat) (F:List (Nat × SV)->Prop):Prop:=
 ∀ (H:Type) (enc:TypeId × Value->H) (w:World) (fuel:Nat) (c:List Value) (y:DataW H × List MemPlace),DataW.trod enc P w 0 (fun _=>true) true fuel t c = some y->∃ ls,F ls/\CellsL0 (envW w k) ls c
def cArr8 (n:Nat) (ls:List (Nat × SV)):Prop:=∃ l:List UInt8,l.length = n/\ls = [(n,.a8 l)]
def cSl (es:Nat) (D:List (Nat × SV)) (F:List (Nat × SV)->Prop) (ls:List (Nat × SV)):Prop:=∃ (n:Nat) (L:Nat->List (Nat × SV)),(∀ q,q < n->F (L q))/\(∀ q,n <= q->L q = D)/\n <= maxLen/\ls = [(1,.isl 0 n es [(n * es,.arr n es L)])]
def catF:List (List (Nat × SV)->Prop)->List (Nat × SV)->Prop
 | [],ls=>ls = []
 | F :: Fs,ls=>∃ l1 l2,F l1/\catF Fs l2/\ls = l1 ++ l2
theorem CellsL0_app {ρ:Env}:∀ {l1 l2:List (Nat × SV)} {c1 c2:List Value},CellsL0 ρ l1 c1->CellsL0 ρ l2 c2->CellsL0 ρ (l1 ++ l2) (c1 ++ c2)
 | [],l2,c1,c2,h1,h2=>by obtain rfl:c1 = []:=h1;exact h2
 | (s,v) :: r,l2,c,c2,⟨a,b,e,hl,h1,h2⟩,h3=>⟨a,b ++ c2,by rw [e,List.append_assoc],hl,h1,CellsL0_app h2 h3⟩
section
variable {P:Program}
theorem takesC_arr8 {t e n k:Nat} (ht:P.underlying t = some (.array n e)) (he:P.underlying e = some (.int .u8)) (hc:P.cellsOf e = 1) (hct:P.cellsOf t = n):TakesC P t k (cArr8 n):=by
 intro H enc w fuel c y h
 obtain ⟨l,hl,rfl⟩:=trod_arr8 ht he hc hct h
 exact ⟨_,⟨l,hl,rfl⟩,_,[],(List.append_nil _).symm,by simp [hl],rfl,rfl⟩
theorem slice_els {t e es:Nat} (ht:P.underlying t = some (.slice e)) (hes:P.cellsOf e = es) (hpos:0 < es) {H:Type} {enc:TypeId × Value->H} {w:World} {fuel:Nat} {c:List Value} {y:DataW H × List MemPlace}
  (h:DataW.trod enc P w 0 (fun _=>true) true fuel t c = some y) :
  c = [.slice none 0 0] \/ ∃ (a:Addr) (n cap b o:Nat) (C:Nat->List Value),c = [.slice (some a) n cap]/\n <= cap/\cap <= maxLen/\(cap ≠ 0->a = ⟨b,o,none⟩/\b < w.heap.size) /\
   ∀ q,q < n->(C q).length = es/\(∀ j,j < es->w.cell? ⟨b,o + (q * es + j),none⟩ = (C q)[j]?)/\∃ fu z,DataW.trod enc P w 0 (fun _=>true) true fu e (C q) = some z:=by
 rcases trod_sl ht (by omega) h with h0 | ⟨a,n,cap,b,o,hcs,hl,hm,ha,hels⟩
 ·exact Or.inl h0
 ·right
  have hq:∀ q:Nat,∃ ce:List Value,q < n->ce.length = es/\(∀ j,j < es->w.cell? ⟨b,o + (q * es + j),none⟩ = ce[j]?)/\∃ fu z,DataW.trod enc P w 0 (fun _=>true) true fu e ce = some z:=by
   intro q
   by_cases hlt:q < n
   ·obtain ⟨ce,fu,z,h1,h2,h3⟩:=hels q hlt
    rw [hes] at h1 h2
    exact ⟨ce,fun _=>⟨h1,h2,fu,z,h3⟩⟩
   ·exact ⟨[],fun h=>absurd h hlt⟩
  obtain ⟨C,hC⟩:=Classical.axiomOfChoice hq
  exact ⟨a,n,cap,b,o,C,hcs,hl,hm,ha,hC⟩
def catC (C:Nat->List Value):Nat->List Value
 | 0=>[]
 | n + 1=>catC C n ++ C n
theorem catC_length {C:Nat->List Value} {es:Nat}:∀ {n:Nat},(∀ q,q < n->(C q).length = es)->(catC C n).length = n * es
 | 0,_=>by simp [catC]
 | n + 1,h=>by simp only [catC,zlA];rw [catC_length fun q hq=>h q (by omega),h n (by omega),Nat.add_mul,Nat.one_mul]
theorem catC_row {C:Nat->List Value} {es:Nat}:∀ {n:Nat},(∀ q,q < n->(C q).length = es)->∀ q,q < n->((catC C n).drop (q * es)).take es = C q
 | 0,_,q,hq=>absurd hq (Nat.not_lt_zero _)
 | n + 1,h,q,hq=>by
  have hl:=catC_length (C:=C) (es:=es) (n:=n) fun q hq=>h q (by omega)
  have hn:=h n (by omega)
  simp only [catC]
  by_cases hqn:q = n
  ·subst hqn
   rw [List.drop_append,hl,Nat.sub_self,List.drop_of_length_le (by omega)]
   simp [<- hn]
  ·have hlt:q < n:=by omega
   have hle:(q + 1) * es <= n * es:=Nat.mul_le_mul_right _ hlt
   rw [Nat.add_mul,Nat.one_mul] at hle
   rw [List.drop_append_of_le_length (by omega),List.take_append_of_le_length (by rw [zlD];omega)]
   exact catC_row (fun q hq=>h q (by omega)) q hlt
theorem catC_get {C:Nat->List Value} {es:Nat} (hpos:0 < es) {n:Nat} (h:∀ q,q < n->(C q).length = es) {j:Nat} {v:Value} (hj:(catC C n)[j]? = some v):∃ q k,q < n/\k < es/\j = q * es + k/\(C q)[k]? = some v:=by
 have hlt:=(List.getElem?_eq_some_iff.1 hj).1
 rw [catC_length h] at hlt
 have hq:j / es < n:=Nat.div_lt_of_lt_mul (by rw [Nat.mul_comm];exact hlt)
 have hk:=Nat.mod_lt j hpos
 have hjq:j = j / es * es + j % es:=by rw [Nat.mul_comm];exact (Nat.div_add_mod j es).symm
 refine ⟨j / es,j % es,hq,hk,hjq,?_⟩
 rw [<- catC_row h (j / es) hq,List.getElem?_take,if_pos hk,List.getElem?_drop,<- hjq]
 exact hj
theorem takesC_sl {t e es k:Nat} {D:List (Nat × SV)} {F:List (Nat × SV)->Prop} (ht:P.underlying t = some (.slice e)) (hes:P.cellsOf e = es) (hpos:0 < es) (he:TakesC P e k F):TakesC P t (k + 1) (cSl es D F):=by
 intro H enc w fuel c y h
 rcases slice_els ht hes hpos h with rfl | ⟨a,n,cap,b,o,C,rfl,hl,hm,ha,hC⟩
 ·exact ⟨_,⟨0,fun _=>D,fun q hq=>absurd hq (Nat.not_lt_zero _),fun _ _=>rfl,by simp [maxLen],rfl⟩,[_],[],rfl,rfl,⟨_,⟨0,0,0,none,Or.inr ⟨by simp,rfl,trivial⟩,Nat.le_refl _,rfl,fun hh=>absurd rfl hh⟩,rfl⟩,rfl⟩
 ·have hq:∀ q:Nat,∃ ls:List (Nat × SV),(q < n->F ls/\CellsL0 (envW w k) ls (C q))/\(n <= q->ls = D):=by
   intro q
   by_cases hlt:q < n
   ·obtain ⟨_,_,fu,z,h3⟩:=hC q hlt
    obtain ⟨ls,k1,k2⟩:=he H enc w fu _ z h3
    exact ⟨ls,fun _=>⟨k1,k2⟩,fun h=>absurd h (by omega)⟩
   ·exact ⟨D,fun h=>absurd h hlt,fun _=>rfl⟩
  obtain ⟨L,hL⟩:=Classical.axiomOfChoice hq
  have hlen:∀ q,q < n->(C q).length = es:=fun q hq=>(hC q hq).1
  refine ⟨_,⟨n,L,fun q hq=>((hL q).1 hq).1,fun q hq=>(hL q).2 hq,by omega,rfl⟩,[_],[],rfl,rfl,⟨_,⟨b,o,cap,some a,?_,hl,rfl,fun hc=>?_⟩,rfl⟩,rfl⟩
  ·by_cases h0:n = 0
   ·subst h0
    exact Or.inr ⟨by simp,rfl,trivial⟩
   ·refine Env.immO.of ⟨fun _=>(ha (fun hc=>h0 (by omega))).2,catC C n,⟨catC C n,[],by simp,catC_length hlen,⟨catC_length hlen,fun q hq=>?_⟩,rfl⟩,fun j v hj=>?_⟩
    ·rw [catC_row hlen q hq]
     exact ((hL q).1 hq).2
    ·obtain ⟨q,x,h1,h2,rfl,h3⟩:=catC_get hpos hlen hj
     rw [(hC q h1).2.1 x h2,h3]
  ·rw [(ha hc).1];simp
def fitB (P:Program):Nat->List Field->Nat->Bool
 | off,[],tot=>Nat.beq off tot
 | off,f :: r,tot=>Nat.beq f.offset off && fitB P (off + P.cellsOf f.type) r tot
def TakesFs (P:Program) (k:Nat):List Field->List (List (Nat × SV)->Prop)->Prop
 | [],[]=>True
 | f :: r,F :: Fs=>TakesC P f.type k F/\TakesFs P k r Fs
 | _,_=>False
theorem takes_fields {k:Nat} {H:Type} {enc:TypeId × Value->H} {w:World} {cs:List Value}:∀ {fs:List Field} {Fs:List (List (Nat × SV)->Prop)} {off:Nat},fitB P off fs cs.length = true->TakesFs P k fs Fs ->
  (∀ f ∈ fs,∃ fu y,DataW.trod enc P w 0 (fun _=>true) true fu f.type ((cs.drop f.offset).take (P.cellsOf f.type)) = some y)->∃ ls,catF Fs ls/\CellsL0 (envW w k) ls (cs.drop off)
 | [],[],off,hf,_,_=>by
  have:=zq hf
  exact ⟨[],rfl,by rw [this,List.drop_length];rfl⟩
 | f :: r,F :: Fs,off,hf,⟨h1,h2⟩,hall=>by
  simp only [fitB,zbA] at hf
  have ho:=zq hf.1
  obtain ⟨ls2,k1,k2⟩:=takes_fields hf.2 h2 fun g hg=>hall g (List.mem_cons_of_mem _ hg)
  obtain ⟨fu,y,hy⟩:=hall f (by simp)
  obtain ⟨ls1,m1,m2⟩:=h1 H enc w fu _ y hy
  refine ⟨ls1 ++ ls2,⟨ls1,ls2,m1,k1,rfl⟩,?_⟩
  rw [ho] at m2
  have:cs.drop off = (cs.drop off).take (P.cellsOf f.type) ++ cs.drop (off + P.cellsOf f.type):=by
   rw [<- List.drop_drop,List.take_append_drop]
  rw [this]
  exact CellsL0_app m2 k2
 | [],_ :: _,_,_,h,_=>h.elim
 | _ :: _,[],_,_,h,_=>h.elim
theorem takesC_struct {t k:Nat} {fs:Array Field} {Fs:List (List (Nat × SV)->Prop)} (ht:P.underlying t = some (.struct fs)) (hfit:fitB P 0 fs.toList (P.cellsOf t) = true) (hfs:TakesFs P k fs.toList Fs):TakesC P t k (catF Fs):=by
 intro H enc w fuel c y h
 obtain ⟨xs,n,_,_,hl,hlen,hf⟩:=DataW.trod_struct ht h
 rw [<- hl] at hfit
 have:=takes_fields (enc:=enc) (w:=w) hfit hfs fun f hfm=>by
  obtain ⟨i,hi,hfi⟩:=List.getElem_of_mem hfm
  have h1:=hf i f (by rw [<- hfi];simp at hi ⊢)
  rw [List.getElem?_eq_getElem (by simp at hi;omega)] at h1
  exact ⟨n,_,h1⟩
 simpa using this
theorem rows_list {α:Type} (row:α->List (Nat × SV)) (d:α) (Pr:α->Prop) {n:Nat} {L:Nat->List (Nat × SV)} (h:∀ q,q < n->∃ x,Pr x/\L q = row x) (hD:∀ q,n <= q->L q = row d) :
  ∃ l:List α,l.length = n/\(∀ x ∈ l,Pr x)/\L = fun q=>row (l.getD q d):=by
 have h2:∀ q,∃ x,(q < n->Pr x/\L q = row x):=fun q=>by
  by_cases hq:q < n
  ·obtain ⟨x,hx⟩:=h q hq;exact ⟨x,fun _=>hx⟩
  ·exact ⟨d,fun h=>absurd h hq⟩
 obtain ⟨f,hf⟩:=Classical.axiomOfChoice h2
 refine ⟨(List.range n).map f,by simp,fun x hx=>?_,funext fun q=>?_⟩
 ·obtain ⟨q,hq,rfl⟩:=List.mem_map.1 hx
  exact (hf q (List.mem_range.1 hq)).1
 ·by_cases hq:q < n
  ·rw [List.getD_eq_getElem?_getD,List.getElem?_map,List.getElem?_range hq]
   exact (hf q hq).2
  ·rw [List.getD_eq_getElem?_getD,List.getElem?_eq_none (by simp;omega)]
   exact hD q (by omega)
def isOfStruct (F:List (Nat × SV)->Prop) (s:SV):Prop:=∃ ls,F ls/\s = .agg ls
theorem takes_ofStruct {t:Nat} {fs:Array Field} {F:List (Nat × SV)->Prop} (ht:P.underlying t = some (.struct fs)) (hF:TakesC P t 8 F):Takes P t (isOfStruct F):=by
 intro H enc w base v d ps hv h
 obtain ⟨fuel,h⟩:=h
 obtain ⟨cs,rfl,_⟩:=okWide_struct ht hv
 obtain ⟨ls,h1,h2⟩:=hF H enc w fuel _ _ h
 exact ⟨_,⟨ls,h1,rfl⟩,_,CellsL0_CellsL h2,by simp [Value.cells]⟩
end
open Go Go.ChangeShapes Go.WideShapes Go.ChangeAt Go.RowKit
def structB (P:Program) (t:TypeId) (l:List (Nat × Nat)):Bool:=
 match P.underlying t with
 | some (.struct fs)=>kindOf fs == l
 | _=>false
def fitP (P:Program):Nat->List (Nat × Nat)->Nat->Bool
 | off,[],tot=>Nat.beq off tot
 | off,f :: r,tot=>Nat.beq f.1 off && fitP P (off + P.cellsOf f.2) r tot
def TakesPs (P:Program) (k:Nat):List (Nat × Nat)->List (List (Nat × SV)->Prop)->Prop
 | [],[]=>True
 | f :: r,F :: Fs=>TakesC P f.2 k F/\TakesPs P k r Fs
 | _,_=>False
theorem fitP_fitB {P:Program}:∀ {fds:List Field} {off tot:Nat},fitP P off (fds.map fun f=>(f.offset,f.type)) tot = true->fitB P off fds tot = true
 | [],_,_,h=>h
 | f :: r,off,tot,h=>by
  simp only [List.map_cons,fitP,zbA] at h
  simp only [fitB,zbA]
  exact ⟨h.1,fitP_fitB h.2⟩
theorem TakesPs_Fs {P:Program} {k:Nat}:∀ {fds:List Field} {Fs:List (List (Nat × SV)->Prop)},TakesPs P k (fds.map fun f=>(f.offset,f.type)) Fs->TakesFs P k fds Fs
 | [],[],_=>trivial
 | f :: r,F :: Fs,h=>⟨h.1,TakesPs_Fs h.2⟩
 | [],_ :: _,h=>h.elim
 | _ :: _,[],h=>h.elim
section
variable {P:Program}
theorem structB_spec {t:TypeId} {l:List (Nat × Nat)} (h:structB P t l = true):∃ fs:Array Field,P.underlying t = some (.struct fs)/\(fs.toList.map fun f=>(f.offset,f.type)) = l:=by
 unfold structB at h
 split at h
 ·rename_i fs hfs
  exact ⟨fs,hfs,by simpa [kindOf] using h⟩
 ·cases h
theorem takesC_st {t k:Nat} (l:List (Nat × Nat)) {Fs:List (List (Nat × SV)->Prop)} (ht:structB P t l = true) (hfit:fitP P 0 l (P.cellsOf t) = true) (hfs:TakesPs P k l Fs):TakesC P t k (catF Fs):=by
 obtain ⟨fs,h1,h2⟩:=structB_spec ht
 subst h2
 exact takesC_struct h1 (fitP_fitB hfit) (TakesPs_Fs hfs)
theorem takes_st {t:Nat} (l:List (Nat × Nat)) {Fs:List (List (Nat × SV)->Prop)} (ht:structB P t l = true) (hfit:fitP P 0 l (P.cellsOf t) = true) (hfs:TakesPs P 8 l Fs):Takes P t (isOfStruct (catF Fs)):=by
 obtain ⟨fs,h1,h2⟩:=structB_spec ht
 exact takes_ofStruct h1 (takesC_st l ht hfit hfs)
end
open Go Go.ChangeShapes Go.WideShapes Go.ChangeAt Go.RowKit
def cU16 (ls:List (Nat × SV)):Prop:=∃ x:UInt16,ls = [(1,.u16 x)]
section
variable {P:Program}
theorem takesC_u16 {t k:Nat} (ht:P.underlying t = some (.int .u16)):TakesC P t k cU16:=by
 intro H enc w fuel c y h
 obtain ⟨n,rfl,_,hw⟩:=DataW.trod_int ht h
 obtain ⟨x,hx⟩:=w16_of_wf hw
 exact ⟨_,⟨x,rfl⟩,[_],[],rfl,rfl,⟨_,hx,rfl⟩,rfl⟩
end
end Go.Sx
