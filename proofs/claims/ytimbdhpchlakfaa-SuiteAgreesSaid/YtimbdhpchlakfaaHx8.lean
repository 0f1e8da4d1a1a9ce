/- A symbolic executor over the code of this model: part 8. No condition. -/
import Derived.Test.YtimbdhpchlakfaaHx7
import Derived.ScopeJumps
import Derived.ProofKit
import Derived.OpenShut
set_option linter.unusedSimpArgs false
set_option linter.unusedVariables false
namespace Go.Sx
open Go
def restAt (c:Code) (l:Nat):Code:=(findLabel c l).getD .skip
def ltO (n:Nat) (b:Option Nat):Prop:=
 match b with
 | none=>True
 | some m=>n < m
def jumpN (ls:List Nat) (J:Nat→Nat→Act→World→Prop) (b:Option Nat) (Q:Exit→Act→World→Prop):Exit→Act→World→Prop
 | .goto l,a,w=>l ∈ ls∧∃ n,ltO n b∧J l n a w
 | e,a,w=>Q e a w
theorem wp_scope_n {P:Program} {a:Act} {w:World} {Q:Exit→Act→World→Prop} {c:Code} (ls:List Nat) (J:Nat→Nat→Act→World→Prop) (hf:∀ l ∈ ls,findLabel c l = some (restAt c l))
  (first:c.wp P (jumpN ls J none Q) a w) (pass:∀ l ∈ ls,∀ n a w,J l n a w→(restAt c l).wp P (jumpN ls J (some n) Q) a w):(Code.scope c).wp P Q a w:=by
 intro b k cs
 have hg:∀ l ∈ ls,gotoIn l (.inScope c :: k) = some (.code (restAt c l) :: .inScope c :: k):=fun l hl=>by simp [gotoIn,hf l hl]
 have key:∀ n l a w,l ∈ ls→J l n a w→∃ e a' w',Q e a' w'∧Arrives P (lone (b.at a (.code (restAt c l) :: .inScope c :: k)) cs w) b k cs e a' w':=by
  intro n
  induction n using Nat.strongRecOn with
  | _ n ih=>
   intro l a w hl hJ
   obtain ⟨e,a₁,w₁,hq,harr⟩:=pass l hl n a w hJ b (.inScope c :: k) cs
   cases e with
   | normal=>exact ⟨.normal,a₁,w₁,hq,Steps.trans harr (.one step_inScope)⟩
   | exit id=>exact ⟨.exit id,a₁,w₁,hq,fun k' hk=>harr k' (by simp [exitTo,hk])⟩
   | goto l'=>
    obtain ⟨hl',n',hlt,hJ'⟩:=hq
    obtain ⟨e₂,a₂,w₂,hq₂,harr₂⟩:=ih n' hlt l' a₁ w₁ hl' hJ'
    exact ⟨e₂,a₂,w₂,hq₂,.of_steps (harr _ (hg l' hl')) harr₂⟩
   | ret=>exact ⟨_,a₁,w₁,hq,harr⟩
   | panic ch=>exact ⟨_,a₁,w₁,hq,harr⟩
   | outgrown=>exact ⟨_,a₁,w₁,hq,harr⟩
 obtain ⟨e,a₁,w₁,hq,harr⟩:=first b (.inScope c :: k) cs
 cases e with
 | normal=>exact ⟨.normal,a₁,w₁,hq,.head step_scope (Steps.trans harr (.one step_inScope))⟩
 | exit id=>exact ⟨.exit id,a₁,w₁,hq,fun k' hk=>.head step_scope (harr k' (by simp [exitTo,hk]))⟩
 | goto l'=>
  obtain ⟨hl',n',_,hJ'⟩:=hq
  obtain ⟨e₂,a₂,w₂,hq₂,harr₂⟩:=key n' l' a₁ w₁ hl' hJ'
  exact ⟨e₂,a₂,w₂,hq₂,.of_steps (.head step_scope (harr _ (hg l' hl'))) harr₂⟩
 | ret=>exact ⟨_,a₁,w₁,hq,.of_steps (.one step_scope) harr⟩
 | panic ch=>exact ⟨_,a₁,w₁,hq,.of_steps (.one step_scope) harr⟩
 | outgrown=>exact ⟨_,a₁,w₁,hq,.of_steps (.one step_scope) harr⟩
def jumpQ {σ:Type} (Kn:List Nat) (ls:List Nat) (I:Nat→σ→Prop) (S:Nat→σ→Tm × Mm) (m:Nat→σ→Nat) (b:Option Nat) (Q:Post):Post:=fun e T M=>match e with
 | .goto l=>memB l ls = true∧∃ s,I l s∧ltO (m l s) b∧Le Kn (S l s).1 (S l s).2 T M
 | e=>Q e T M
def AllL (ls:List Nat) (p:Nat→Prop):Prop:=
 match ls with
 | []=>True
 | l :: r=>p l∧AllL r p
theorem AllL_mem {p:Nat→Prop}:∀ {ls:List Nat},AllL ls p→∀ {l:Nat},l ∈ ls→p l
 | [],_,_,h=>by cases h
 | _ :: _,h,_,hm=>(List.mem_cons.1 hm).elim (fun e=>by rw [e];exact h.1) (fun e=>AllL_mem h.2 e)
@[irreducible] def ScopeG (Γ:Cfg) (N:Nat) (Cs Kn:List Nat) (c:Code) (T:Tm) (M:Mm) (Q:Post):Prop:=
 ∃ (σ:Type) (ls:List Nat) (I:Nat→σ→Prop) (S:Nat→σ→Tm × Mm) (m:Nat→σ→Nat),(ls.all fun l=>(findLabel c l).isSome && codeOK N (restAt c l)) = true∧exec Γ Cs Kn c T M (jumpQ Kn ls I S m none Q) ∧
  ∀ l,memB l ls = true→∀ s,I l s→exec Γ Cs Kn (restAt c l) (S l s).1 (S l s).2 (jumpQ Kn ls I S m (some (m l s)) Q)
theorem ScopeG.intro {Γ:Cfg} {N:Nat} {Cs Kn:List Nat} {c:Code} {T:Tm} {M:Mm} {Q:Post} {σ:Type} (ls:List Nat) (I:Nat→σ→Prop) (S:Nat→σ→Tm × Mm) (m:Nat→σ→Nat) (h:(ls.all fun l=>(findLabel c l).isSome && codeOK N (restAt c l)) = true)
  (h1:exec Γ Cs Kn c T M (jumpQ Kn ls I S m none Q)) (h2:AllL ls fun l=>∀ s,I l s→exec Γ Cs Kn (restAt c l) (S l s).1 (S l s).2 (jumpQ Kn ls I S m (some (m l s)) Q)):ScopeG Γ N Cs Kn c T M Q:=by
 unfold ScopeG;exact ⟨σ,ls,I,S,m,h,h1,fun l hl=>AllL_mem h2 (memB_iff.1 hl)⟩
theorem scope_sound {Γ:Cfg} {N:Nat} {Cs Kn:List Nat} {ρA:Env} {c:Code} (hok:codeOK N c = true) {T:Tm} {M:Mm} {Q:Post} {ρ:Env} {a:Act} {w:World} (h:ScopeG Γ N Cs Kn c T M Q) (hc:Conc N ρ T M a w) (ha:Anch Kn ρA ρ) :
  (Code.scope c).wp Γ.P (Ended N Kn ρA ρ M w Q) a w:=by
 unfold ScopeG at h
 obtain ⟨σ,ls,I,S,m,hl,h1,h2⟩:=h
 have hl:∀ l ∈ ls,findLabel c l = some (restAt c l)∧codeOK N (restAt c l) = true:=fun l hm=>by
  have:=List.all_eq_true.1 hl l hm
  simp only [Bool.and_eq_true] at this
  obtain ⟨r,hr⟩:=Option.isSome_iff_exists.1 this.1
  exact ⟨by unfold restAt;rw [hr];rfl,this.2⟩
 refine wp_scope_n ls (fun l n a' w'=>∃ s ρs,n = m l s∧I l s∧Conc N ρs (S l s).1 (S l s).2 a' w'∧Anch Kn ρA ρs∧Step ρ M ρs (S l s).2 w w') (fun l hm=>(hl l hm).1) ?_ ?_
 ·refine wp_mono (exec_sound hok h1 hc ha) ?_
  rintro e a' w' ⟨ρ',T',M',g1,g2,g3,g4⟩
  cases e with
  | goto l=>
   obtain ⟨k1,s,k2,_,k4⟩:=g1
   obtain ⟨ρ'',hc'',ha'',hst''⟩:=k4.sound g2 g3
   exact ⟨memB_iff.1 k1,m l s,trivial,s,ρ'',rfl,k2,hc'',ha'',g4.trans hst''⟩
  | _=>exact ⟨ρ',T',M',g1,g2,g3,g4⟩
 ·rintro l hm n a' w' ⟨s,ρs,rfl,hI,hcs,has,hsts⟩
  refine wp_mono (exec_sound (hl l hm).2 (h2 l (memB_iff.2 hm) s hI) hcs has) ?_
  rintro e a'' w'' ⟨ρ',T',M',g1,g2,g3,g4⟩
  cases e with
  | goto l'=>
   obtain ⟨k1,s',k2,k3,k4⟩:=g1
   obtain ⟨ρ'',hc'',ha'',hst''⟩:=k4.sound g2 g3
   exact ⟨memB_iff.1 k1,m l' s',k3,s',ρ'',rfl,k2,hc'',ha'',hsts.trans (g4.trans hst'')⟩
  | _=>exact ⟨ρ',T',M',g1,g2,g3,hsts.trans g4⟩
theorem fn_scope (Cs:List Nat) {Γ:Cfg} {f:FuncId} {fn:Func} {r c:Code} {args:List SV} {M0:Mm} {R:SV→Mm→Prop} (hf:Γ.P.funcs[f]? = some fn) (hb:fn.body = some (.seq r (.scope c)))
  (hok:(codeOK fn.ntmps r && codeOK fn.ntmps c) = true) (hn:Nat.ble args.length fn.ntmps = true)
  (h:exec Γ Cs (keysM M0) r (paramsFrom 0 args) M0 (seqQ (fun T M=>ScopeG Γ fn.ntmps Cs (keysM M0) c T M (retQ Γ (keysM M0) fn.results.toList R)) (retQ Γ (keysM M0) fn.results.toList R))):Fn Γ.P f args M0 R:=by
 intro ρ xs w hM hargs
 refine calls_of_wp hf hb ?_
 simp only [Bool.and_eq_true] at hok
 have hlen:=RelL_length hargs
 have hle:=ble_le' hn
 have hc:Conc fn.ntmps ρ (paramsFrom 0 args) M0 { tmps:=xs.toArray ++ Array.replicate (fn.ntmps - xs.toArray.size) undef,defers:=[] } w:=by
  refine ⟨hM,by simp;omega,rfl,paramsFrom_rel 0 _ hargs fun j x hj=>?_⟩
  have hlt:=(List.getElem?_eq_some_iff.1 hj).1
  rw [Nat.zero_add,Array.getElem?_append_left (by simpa using hlt)]
  simpa using hj
 have ha:Anch (keysM M0) ρ ρ:=by
  refine ⟨fun k hk=>?_,fun _ _ _ h=>h⟩
  obtain ⟨e,he⟩:=keysM_get hk
  exact ⟨hM.mod k e he,rfl⟩
 have all:(Code.seq r (.scope c)).wp Γ.P (Ended fn.ntmps (keysM M0) ρ ρ M0 w (retQ Γ (keysM M0) fn.results.toList R)) { tmps:=xs.toArray ++ Array.replicate (fn.ntmps - xs.toArray.size) undef,defers:=[] } w:=by
  refine wp_seq (wp_mono (exec_sound hok.1 h hc ha) ?_)
  rintro e a' w' ⟨ρ',T',M',h1,h2,h3,h4⟩
  cases e with
  | normal=>
   refine wp_mono (scope_sound hok.2 h1 h2 h3) ?_
   rintro e a'' w'' ⟨ρ'',T'',M'',g1,g2,g3,g4⟩
   exact ⟨ρ'',T'',M'',g1,g2,g3,h4.trans g4⟩
  | _=>exact ⟨ρ',T',M',h1,h2,h3,h4⟩
 refine wp_mono all ?_
 rintro e a' w' ⟨ρ',T',M',h1,h2,h3,h4⟩
 have fin:Ret Γ (keysM M0) fn.results.toList T' M' R→a'.defers = []∧∃ v,(results fn a'.tmps).run Γ.P w' = .ok v w'∧∃ v' x ρ' M',Ending.returned v = .returned x∧RelT ρ' v' x∧R v' M'∧ρ.le ρ'∧ConcM ρ' M' w'∧Step ρ M0 ρ' M' w w':=by
  intro hr
  obtain ⟨x,v,ρ2,M2,r1,r2,r3,r4,r5,r6⟩:=ret_sound h2 h3 hr rfl
  refine ⟨h2.defers,x,r1,v,x,ρ2,M2,rfl,r2,r3,⟨fun k hk=>?_,r5.im⟩,r4,h4.trans r6⟩
  obtain ⟨e,he⟩:=hM.dom k hk
  exact r5 k (keysM_mem he)
 cases e with
 | normal=>exact fin h1
 | ret=>exact fin h1
 | _=>exact h1.elim
end Go.Sx
namespace Go.Sx
open Go Go.ChangeShapes Go.WideShapes Go.ChangeAt Go.RowKit
section
variable {H:Type} {enc:TypeId × Value→H} {P:Program} {w:World} {base:Nat} {sp:Nat→Bool} {held:Bool}
theorem w8_of_wf {n:Int} (h:(Lit.int .u8 n).wf = true):∃ x:UInt8,Value.int .u8 n = w8 x:=by
 have:=bounds_u8 h
 refine ⟨UInt8.ofNat n.toNat,?_⟩
 unfold w8
 rw [UInt8.toNat_ofNat']
 congr 1
 omega
theorem map_of_all {α:Type} (f:α→Value):∀ (cs:List Value),(∀ (i:Nat),i < cs.length→∃ x:α,cs[i]? = some (f x))→∃ l:List α,cs = l.map f
 | [],_=>⟨[],rfl⟩
 | c :: r,h=>by
  obtain ⟨x,hx⟩:=h 0 (by simp)
  obtain ⟨l,hl⟩:=map_of_all f r (fun i hi=>by simpa using h (i + 1) (by simpa using hi))
  refine ⟨x :: l,?_⟩
  simp only [List.getElem?_cons_zero,Option.some.injEq] at hx
  rw [hx,hl];rfl
theorem take_one {cs:List Value} {i:Nat} {v:Value} (h:(cs.drop i).take 1 = [v]):cs[i]? = some v:=by
 have e:((cs.drop i).take 1)[0]? = some v:=by rw [h];rfl
 simpa using e
theorem trod_arr8 {t e n:Nat} {fuel:Nat} {cs:List Value} {x:DataW H × List MemPlace} (ht:P.underlying t = some (.array n e)) (he:P.underlying e = some (.int .u8)) (hc:P.cellsOf e = 1) (hct:P.cellsOf t = n)
  (h:DataW.trod enc P w base sp held fuel t cs = some x):∃ l:List UInt8,l.length = n∧cs = l.map w8:=by
 obtain ⟨xs,m,_,_,hl,hxs,hel⟩:=DataW.trod_array ht h
 rw [hct] at hl
 have hall:∀ i,i < cs.length→∃ x:UInt8,cs[i]? = some (w8 x):=by
  intro i hi
  have:=hel i (by omega)
  rw [hc,Nat.mul_one,List.getElem?_eq_getElem (by omega)] at this
  obtain ⟨k,hk,_,hw⟩:=DataW.trod_int he this
  obtain ⟨x,hx⟩:=w8_of_wf hw
  exact ⟨x,by rw [← hx];exact take_one hk⟩
 obtain ⟨l,hl'⟩:=map_of_all w8 cs hall
 exact ⟨l,by rw [← hl,hl'];simp,hl'⟩
end
def immW (w:World):Nat→Nat→Nat→List (Nat × SV)→Prop
 | 0=>fun _ _ _=>False
 | k + 1=>fun b o ls=>(sizeL ls ≠ 0→b < w.heap.size)∧∃ cs,CellsL ⟨fun _=>False,fun _=>(0,0),immW w k⟩ ls cs∧∀ j v,cs[j]? = some v→w.cell? ⟨b,o + j,none⟩ = some v
def envW (w:World) (k:Nat):Env:=⟨fun _=>False,fun _=>(0,0),immW w k⟩
theorem immW_succ (w:World):∀ (k b o:Nat) (ls:List (Nat × SV)),immW w k b o ls→immW w (k + 1) b o ls
 | 0,_,_,_,h=>h.elim
 | k + 1,b,o,ls,⟨h1,cs,h2,h3⟩=>⟨h1,cs,CellsL.le (ρ:=envW w k) (ρ':=envW w (k + 1)) ⟨fun _ (h:False)=>h.elim,immW_succ w k⟩ h2,h3⟩
theorem envW_conc (w:World) (k:Nat):ConcM (envW w k) [] w where
 dom a h:=h.elim
 mod a e h:=by simp [getM] at h
 sat a e h:=by simp [getM] at h
 sep a b e e' h:=by simp [getM] at h
 imm b o ls h:=by
  cases k with
  | zero=>exact h.elim
  | succ k=>
   obtain ⟨h1,cs,h2,h3⟩:=h
   exact ⟨h1,cs,CellsL.le (ρ:=envW w k) (ρ':=(envW w (k + 1)).bare) ⟨fun _ (h:False)=>h.elim,immW_succ w k⟩ h2,h3⟩
 isep b o _ h:=by obtain ⟨a,e,h1,_⟩:=h;simp [getM] at h1
theorem envW_owns (w:World) (k b o:Nat):¬ Owns (envW w k) [] b o:=by rintro ⟨a,e,h1,_⟩;simp [getM] at h1
section
variable {H:Type} {enc:TypeId × Value→H} {P:Program}
theorem post_of_blocks {f:Func} {s:ChangeSpec} {apart fresh handsOn again:Bool} {W W':World} {args:Array Value} {v:Value} {ds gs:List (DataW H)} {before pa pv:List MemPlace}
  (hW:DataW.Whole enc P f.params.toList s.vars apart W args.toList ds gs before)
  (hres:∀ (b:Nat) (sp:Nat→Bool) (hd:Bool),DataW.TrodAll enc P W' b sp hd f.resultTypes.toList (v.resultList f.resultTypes.size) (s.fn H (ds ++ gs)).results [])
  (hargs:∀ sp:Nat→Bool,(∀ p ∈ before,sp p.block = true)→DataW.TrodAll enc P W' 0 sp true f.params.toList args.toList (s.fn H (ds ++ gs)).args pa)
  (hvars:∀ sp:Nat→Bool,(∀ p ∈ before,sp p.block = true)→DataW.TrodVars enc P W' sp s.vars (s.fn H (ds ++ gs)).vars pv)
  (hps:before = pa ++ pv) (hos:W'.os = W.os) (hout:W'.output = W.output) (hblk:∀ b,b < W.heap.size→W'.heap[b]? = W.heap[b]?)
  (hok:∀ (j:Nat) (t:TypeId) (r:Value),f.resultTypes[j]? = some t→(v.resultList f.resultTypes.size)[j]? = some r→Value.okWide P W' .any 0 t r) :
  s.post enc P f apart fresh handsOn again W args v W':=by
 have hlt:∀ p ∈ before,p.block < W.heap.size:=fun p hp=>hW.lt p hp
 have hold:∀ p ∈ before,(fun b=>decide (b < W.heap.size)) p.block = true:=fun p hp=>by simpa using hlt p hp
 have hkept:W.keptBut W' (· ∈ before):=by
  refine ⟨hos,hout,fun i hi=>?_⟩
  rw [hblk i hi]
  split <;> simp_all
 refine ⟨ds,gs,before,[],pa,pv,hW,hres _ _ _,hargs _ hold,hvars _ hold,World.keptBut_mono (fun p hp=>⟨hp,?_⟩) hkept,fun _=>?_⟩
 ·rw [hps,List.mem_append] at hp
  exact Or.inr hp
 ·obtain ⟨_,_,_,_,_,hz,hn⟩:=hW
  refine ⟨hok,_,_,([] ++ pa) ++ pv,⟨[] ++ pa,pv,trodAll_append (hargs _ (fun _ _=>rfl)) (hres _ _ _),hvars _ (fun _ _=>rfl),rfl,?_,?_⟩,?_⟩
  ·intro b off hp
   have hin:MemPlace.cell b off ∈ before:=by rw [hps];simpa using hp
   rw [World.frozen?_of_block (w:=W) (a:=⟨b,off,none⟩) (hblk b (hlt _ hin))]
   exact hz b off hin
  ·intro ha
   have:=hn ha
   rw [hps] at this
   simpa using this
  ·intro p hp _
   rw [hps]
   simpa using hp
end
theorem law_close {C:Checked} {f:FuncId} {fn:Func} {s:ChangeSpec} {apart fresh handsOn again:Bool} {H:Type} {enc:TypeId × Value→H} {ρ:Env} {M0:Mm} {svs:List SV} {R:SV→Mm→Prop} {tb:TypeId}
  {W:World} {args:Array Value} {ds gs:List (DataW H)} {before:List MemPlace}
  (hl:laidOutB C.prog = true) (hread:∀ t ∈ fn.params.toList,C.prog.readableRec t = true∧t < C.prog.types.size) (hvars:s.vars = [])
  (hspec:(s.fn H (ds ++ gs)) = { results:=[.lit (.bool true)],args:=ds }) (hrt:fn.resultTypes = #[tb]) (htb:C.prog.underlying tb = some .bool)
  (hM:ConcM ρ M0 W) (hown:∀ b o,¬ Owns ρ M0 b o) (hargs:RelL ρ svs args.toList) (hf:Sx.Fn C.prog f svs M0 R) (htt:∀ v M,R v M→v = .tt)
  (hW:DataW.Whole enc C.prog fn.params.toList s.vars apart W args.toList ds gs before) :
  Calls C.prog f args W fun e W'=>∃ v,e = .returned v∧s.post enc C.prog fn apart fresh handsOn again W args v W':=by
 have hc:=hf ρ args.toList W hM hargs
 simp only [Array.toArray_toList] at hc
 refine hc.mono ?_
 rintro e W' ⟨v,x,ρ',M',rfl,h2,h3,_,_,hst⟩
 have hv:=htt v M' h3
 subst hv
 have hx:x = .bool true:=h2
 subst hx
 have hblk:∀ b,b < W.heap.size→W'.heap[b]? = W.heap[b]?:=fun b hb=>hst.blk b hb (hown b)
 have hW0:=hW
 rw [hvars] at hW
 obtain ⟨p,q,hA,hV,rfl,hfz,hnd⟩:=hW
 obtain ⟨rfl,rfl⟩:=trodVars_none hV
 refine ⟨_,rfl,post_of_blocks (pa:=p) (pv:=[]) hW0 ?_ ?_ ?_ rfl hst.os hst.output hblk ?_⟩
 ·intro b sp hd
  rw [hspec,hrt]
  exact trodAll_mk1 ⟨1,by simp [DataW.trod,Value.cells,htb]⟩
 ·intro sp hsp
  rw [hspec]
  have hlt:=hW0.lt
  have go:∀ {ts:List TypeId} {vs:List Value} {es:List (DataW H)} {ps:List MemPlace},(∀ t ∈ ts,C.prog.readableRec t = true∧t < C.prog.types.size)→(∀ x ∈ ps,x.block < W.heap.size)→(∀ x ∈ ps,sp x.block = true) →
    DataW.TrodAll enc C.prog W 0 (fun _=>true) true ts vs es ps→DataW.TrodAll enc C.prog W' 0 sp true ts vs es ps:=by
   intro ts
   induction ts with
   | nil=>
    intro vs es ps _ _ _ h
    obtain ⟨rfl,rfl,rfl⟩:=trodAll_nil h
    exact trodAll_mk0
   | cons t ts ih=>
    intro vs es ps hr hlt hs h
    obtain ⟨v,vs1,d,ds1,a,b,rfl,rfl,rfl,h1,h2⟩:=trodAll_cons h
    refine ⟨a,b,WideElems.Trod_stays hl (hr t (by simp)).1 (hr t (by simp)).2 h1 (fun x hx=>?_) (fun x hx=>hs x (by simp [hx])),ih (fun t ht=>hr t (by simp [ht])) (fun x hx=>hlt x (by simp [hx])) (fun x hx=>hs x (by simp [hx])) h2,rfl⟩
    have hb:=hblk x.block (hlt x (by simp [hx]))
    cases x with
    | cell b o=>exact World.cell?_of_block (w:=W) hb
    | map b=>exact hb
  exact go hread (fun x hx=>hlt x (by simpa using hx)) (fun x hx=>hsp x (by simpa using hx)) hA
 ·intro sp hsp
  rw [hvars,hspec]
  rfl
 ·intro j t r h1 h2
  rw [hrt] at h1 h2
  have:=ok_one (P:=C.prog) (W':=W') (f:=fn) (v:=.bool true) (t:=tb) hrt rfl (okWide_bool_mk htb true) j t r (by rw [hrt];exact h1) (by rw [hrt];exact h2)
  exact this
end Go.Sx
namespace Go.Sx
open Go Go.ChangeShapes Go.WideShapes Go.ChangeAt Go.RowKit
def Takes (P:Program) (t:TypeId) (F:SV→Prop):Prop:=
 ∀ (H:Type) (enc:TypeId × Value→H) (w:World) (base:Nat) (v:Value) (d:DataW H) (ps:List MemPlace),
  Value.okWide P w .any base t v→DataW.Trod enc P w 0 (fun _=>true) true t v d ps→∃ s,F s∧Rel (envW w 8) s v
def TakesL (P:Program):List TypeId→List (SV→Prop)→Prop
 | [],[]=>True
 | t :: ts,F :: Fs=>Takes P t F∧TakesL P ts Fs
 | _,_=>False
def AllF:List (SV→Prop)→List SV→Prop
 | [],[]=>True
 | F :: Fs,s :: ss=>F s∧AllF Fs ss
 | _,_=>False
theorem take_all {P:Program} {H:Type} {enc:TypeId × Value→H} {w:World} {base:Nat}:∀ {ts:List TypeId} {Fs:List (SV→Prop)} {vs:List Value} {ds:List (DataW H)} {ps:List MemPlace},
  TakesL P ts Fs→(∀ (j:Nat) t v,ts[j]? = some t→vs[j]? = some v→Value.okWide P w .any base t v) →
  DataW.TrodAll enc P w 0 (fun _=>true) true ts vs ds ps→∃ svs,AllF Fs svs∧RelL (envW w 8) svs vs∧ds.length = ts.length
 | [],[],vs,ds,ps,_,_,h=>by
  obtain ⟨rfl,rfl,rfl⟩:=trodAll_nil h
  exact ⟨[],trivial,rfl,rfl⟩
 | t :: ts,F :: Fs,vs,ds,ps,⟨h1,h2⟩,hv,h=>by
  obtain ⟨v,vs',d,ds',p,q,rfl,rfl,rfl,h3,h4⟩:=trodAll_cons h
  obtain ⟨s,hs,hr⟩:=h1 H enc w base v d p (hv 0 t v rfl rfl) h3
  obtain ⟨ss,hss,hrs,hd⟩:=take_all h2 (fun j t v h5 h6=>hv (j + 1) t v (by simpa using h5) (by simpa using h6)) h4
  exact ⟨s :: ss,⟨hs,hss⟩,⟨v,vs',rfl,hr,hrs⟩,by simp [hd]⟩
 | [],_ :: _,_,_,_,h,_,_=>h.elim
 | _ :: _,[],_,_,_,h,_,_=>h.elim
def isArr8 (n:Nat) (s:SV):Prop:=∃ l:List UInt8,l.length = n∧s = .a8 l
def isBool (s:SV):Prop:=∃ b:Bool,s = .bool (b = true)
section
variable {P:Program}
theorem takes_arr8 {t e n:Nat} (ht:P.underlying t = some (.array n e)) (he:P.underlying e = some (.int .u8)) (hc:P.cellsOf e = 1) (hct:P.cellsOf t = n):Takes P t (isArr8 n):=by
 intro H enc w base v d ps hv h
 unfold Value.okWide at hv
 rw [ht] at hv
 obtain ⟨cs,rfl,_⟩:=hv
 obtain ⟨fuel,h⟩:=h
 obtain ⟨l,hl,hcs⟩:=trod_arr8 ht he hc hct h
 refine ⟨.a8 l,⟨l,hl,rfl⟩,?_⟩
 show Value.agg cs = .agg (l.map w8).toArray
 congr 1
 apply Array.ext'
 simpa [Value.cells] using hcs
theorem takes_bool {t:Nat} (ht:P.underlying t = some .bool):Takes P t isBool:=by
 intro H enc w base v d ps hv h
 obtain ⟨b,rfl,_⟩:=open_bool ht hv h
 exact ⟨_,⟨b,rfl⟩,b,rfl,Iff.rfl⟩
end
theorem law_row {C:Checked} {f:FuncId} {fn:Func} {s:ChangeSpec} {apart fresh handsOn again:Bool} {H:Type} {enc:TypeId × Value→H} {tb:TypeId} {Fs:List (SV→Prop)} {ts:List TypeId}
  {W:World} {base:Nat} {args:Array Value} {ds gs:List (DataW H)} {before:List MemPlace}
  (hl:laidOutB C.prog = true) (hps:fn.params.toList = ts) (hread:(ts.all fun t=>C.prog.readableRec t && decide (t < C.prog.types.size)) = true) (hvars:s.vars = []) (hT:TakesL C.prog ts Fs)
  (hspec:∀ ds:List (DataW H),ds.length = ts.length→s.fn H ds = { results:=[.lit (.bool true)],args:=ds }) (hrt:fn.resultTypes = #[tb]) (htb:C.prog.underlying tb = some .bool)
  (hf:∀ svs,AllF Fs svs→Sx.Fn C.prog f svs [] (fun v _=>v = .tt))
  (hval:∀ (j:Nat) t v,fn.params[j]? = some t→args[j]? = some v→Value.okWide C.prog W .any base t v)
  (hW:DataW.Whole enc C.prog fn.params.toList s.vars apart W args.toList ds gs before) :
  Calls C.prog f args W fun e W'=>∃ v,e = .returned v∧s.post enc C.prog fn apart fresh handsOn again W args v W':=by
 have hW0:=hW
 rw [hvars] at hW0
 obtain ⟨p,q,hA,hV,rfl,hfz,hnd⟩:=hW0
 obtain ⟨rfl,rfl⟩:=trodVars_none hV
 rw [hps] at hA
 obtain ⟨svs,hF,hR,hd⟩:=take_all hT (fun j t v h1 h2=>hval j t v (by rw [← Array.getElem?_toList,hps];exact h1) (by rw [← Array.getElem?_toList];exact h2)) hA
 refine law_close (ρ:=envW W 8) (M0:=[]) (R:=fun v _=>v = .tt) hl (by rw [hps];exact fun t ht=>by have:=List.all_eq_true.1 hread t ht;simpa using this) hvars ?_ hrt htb (envW_conc W 8) (envW_owns W 8) hR (hf svs hF) (fun _ _ h=>h) hW
 have:=hspec (ds ++ []) (by simpa using hd)
 simpa using this
end Go.Sx
namespace Go.Sx
open Go Go.ChangeShapes Go.WideShapes Go.ChangeAt Go.RowKit
section
variable {P:Program}
end
end Go.Sx
namespace Go.Sx
open Go Go.ChangeShapes Go.WideShapes Go.ChangeAt Go.RowKit
section
variable {P:Program}
end
end Go.Sx
namespace Go.Sx
open Go Go.ChangeShapes Go.WideShapes Go.ChangeAt Go.RowKit
section
variable {P:Program}
end
end Go.Sx
