/- A symbolic executor over the code of this model: part 7. No condition. -/
import Derived.Test.YtlbmkjckbfeejaaHx6
import Derived.Test.YtlbmkjckbfeejaaHx5
import Derived.ProofKit
import Derived.OpenShut
import Derived.RangeFuncNested
import Derived.RangeFuncBound
import Derived.RangeFuncCalls
import Derived.RangeFuncLeaves
import Derived.OrdersIn
import Derived.TacticsIn
set_option linter.unusedSimpArgs false
set_option linter.unusedVariables false
namespace Go.Sx
open Go
def slotsSame (μ:Nm) (T0 T:Tm):Option (List Prop):=
 match T0 with
 | []=>some []
 | (d,v0) :: r=>match sameA μ v0 (getT T d) with
  | some ps=>match slotsSame μ r T with
   | some qs=>some (ps ++ qs)
   | none=>none
  | none=>none
def fillN (μ:Nm) (M0:Mm):Nm:=
 match M0 with
 | []=>[]
 | (k,_) :: r=>match look μ k with
  | some x=>(k,x) :: fillN μ r
  | none=>(k,(k,0,none)) :: fillN μ r
def keysOK (M M0:Mm):Nm→Bool
 | []=>true
 | (k,(b,_)) :: r=>isPar M0 k && (getM M b).isSome && keysOK M M0 r
def idOn (μ:Nm) (M0:Mm):List Nat→Bool
 | []=>true
 | k :: r=>(match look μ k with
  | some (b,0,none)=>Nat.beq b k
  | _=>false) && isPar M0 k && idOn μ M0 r
def leOK (Kn:List Nat) (μ:Nm) (M M0:Mm):Bool:=sepOK μ M0 && keysOK M M0 μ && idOn μ M0 Kn
def Le1 (Kn:List Nat) (T0:Tm) (M0:Mm) (T:Tm) (M:Mm):Prop:=
 ∃ (μ:Nm) (ps qs:List Prop),slotsSame (fillN μ M0) T0 T = some ps∧AllP ps∧viewsM (fillN μ M0) M M0 = some qs∧AllP qs∧leOK Kn (fillN μ M0) M M0 = true
@[irreducible] def Le (Kn:List Nat) (T0:Tm) (M0:Mm) (T:Tm) (M:Mm):Prop:=
 ∃ (gs:List Gh) (sl:List (Nat × Nat)) (ps:List Prop) (M1:Mm) (T1:Tm),ghostM gs M = some (ps,M1)∧AllP ps∧nilS sl T M1 = some T1∧Le1 Kn T0 M0 T1 M1
theorem Le.intro {Kn:List Nat} {T0:Tm} {M0:Mm} {T:Tm} {M:Mm} (μ:Nm) {ps qs:List Prop} (h1:slotsSame (fillN μ M0) T0 T = some ps) (h2:AllP ps) (h3:viewsM (fillN μ M0) M M0 = some qs) (h4:AllP qs)
  (h5:leOK Kn (fillN μ M0) M M0 = true):Le Kn T0 M0 T M:=by
 unfold Le;exact ⟨[],[],[],M,T,rfl,trivial,rfl,μ,ps,qs,h1,h2,h3,h4,h5⟩
theorem Le.ghost {Kn:List Nat} {T0:Tm} {M0:Mm} {T:Tm} {M:Mm} (gs:List Gh) (sl:List (Nat × Nat)) (μ:Nm) {rs:List Prop} {M1:Mm} {T1:Tm} (g1:ghostM gs M = some (rs,M1)) (g2:AllP rs) (g3:nilS sl T M1 = some T1)
  {ps qs:List Prop} (h1:slotsSame (fillN μ M0) T0 T1 = some ps) (h2:AllP ps) (h3:viewsM (fillN μ M0) M1 M0 = some qs) (h4:AllP qs) (h5:leOK Kn (fillN μ M0) M1 M0 = true):Le Kn T0 M0 T M:=by
 unfold Le;exact ⟨gs,sl,rs,M1,T1,g1,g2,g3,μ,ps,qs,h1,h2,h3,h4,h5⟩
structure Anch (Kn:List Nat) (ρA ρ:Env):Prop where
 to:∀ k ∈ Kn,ρ.dom k∧ρ.pos k = ρA.pos k
 im:∀ b o ls,ρA.imm b o ls→ρ.imm b o ls
instance (Kn:List Nat) (ρA ρ:Env):CoeFun (Anch Kn ρA ρ) (fun _=>∀ k ∈ Kn,ρ.dom k∧ρ.pos k = ρA.pos k):=⟨Anch.to⟩
theorem Anch.le {Kn:List Nat} {ρA ρ ρ':Env} (h:Anch Kn ρA ρ) (hle:ρ.le ρ'):Anch Kn ρA ρ':=
 ⟨fun k hk=>⟨(hle k (h k hk).1).1,((hle k (h k hk).1).2).trans (h k hk).2⟩,fun b o ls hi=>hle.im b o ls (h.im b o ls hi)⟩
theorem keysOK_get {M M0:Mm}:∀ {μ:Nm},keysOK M M0 μ = true→∀ {k b:Nat} {p:Nat × Option Nat},(k,(b,p)) ∈ μ→isPar M0 k = true∧(getM M b).isSome = true
 | [],_,_,_,_,h=>by simp at h
 | (c,(d,x)) :: r,hk,k,b,p,h=>by
  simp only [keysOK,Bool.and_eq_true] at hk
  rcases List.mem_cons.1 h with e | h
  ·simp only [Prod.mk.injEq] at e
   rw [e.1,e.2.1];exact ⟨hk.1.1,hk.1.2⟩
  ·exact keysOK_get hk.2 h
theorem idOn_get {μ:Nm} {M0:Mm}:∀ {Kn:List Nat},idOn μ M0 Kn = true→∀ k ∈ Kn,look μ k = some (k,0,none)∧isPar M0 k = true
 | [],_,_,h=>by simp at h
 | c :: r,hi,k,h=>by
  simp only [idOn,Bool.and_eq_true] at hi
  rcases List.mem_cons.1 h with rfl | h
  ·obtain ⟨⟨h1,h2⟩,_⟩:=hi
   split at h1
   ·rename_i b hl
    have:=beq_eq' h1
    subst this
    exact ⟨hl,h2⟩
   ·cases h1
  ·exact idOn_get hi.2 k h
theorem slotsSame_sound {μ:Nm} {ρ0 ρ:Env} (hb:Back μ ρ0 ρ) {T:Tm} {tmps:Array Value} (ht:∀ d,RelT ρ (getT T d) (tmps.getD d undef)) :
  ∀ {T0:Tm} {ps:List Prop},slotsSame μ T0 T = some ps→All ps→∀ d,RelT ρ0 (getT T0 d) (tmps.getD d undef)
 | [],_,_,_,d=>RelT_of_Rel trivial
 | (e,v0) :: r,ps,h,hp,d=>by
  simp only [slotsSame] at h
  split at h
  ·rename_i qs hq
   split at h
   ·rename_i rs hrs
    simp only [Option.some.injEq] at h;subst h
    by_cases hde:d = e
    ·subst hde
     rw [getT_cons_self]
     exact RelT_of_Rel (sameA_sound hb hq hp.left (ht d))
    ·rw [getT_cons_ne hde]
     exact slotsSame_sound hb ht hrs hp.right d
   ·cases h
  ·cases h
theorem Le1.sound {Kn:List Nat} {T0:Tm} {M0:Mm} {T:Tm} {M:Mm} (h:Le1 Kn T0 M0 T M) {N:Nat} {ρA ρ:Env} {a:Act} {w:World} (hc:Conc N ρ T M a w) (ha:Anch Kn ρA ρ) :
  ∃ ρ0,Conc N ρ0 T0 M0 a w∧Anch Kn ρA ρ0∧Step ρ M ρ0 M0 w w:=by
 unfold Le1 at h
 obtain ⟨μ0,ps,qs,h1,h2,h3,h4,h5⟩:=h
 generalize fillN μ0 M0 = μ at *
 simp only [leOK,Bool.and_eq_true] at h5
 obtain ⟨⟨hsep,hkeys⟩,hid⟩:=h5
 have hback:Back μ (viewEnv μ M0 ρ) ρ:=by
  constructor
  intro a b g j hl hb
  exact ⟨(keysOK_get hkeys (look_mem hl)).1,by simp only [viewEnv,hl],by simp only [viewEnv,hl]⟩
  exact fun _ _ _ h=>h
 obtain ⟨hM0,hown,_⟩:=view_conc hc.toConcM h3 (AllP_iff h4) hsep hback
 refine ⟨viewEnv μ M0 ρ,⟨hM0,hc.sz,hc.defers,slotsSame_sound hback hc.tm h1 (AllP_iff h2)⟩,⟨fun k hk=>?_,ha.im⟩,?_⟩
 ·obtain ⟨hl,hp⟩:=idOn_get hid k hk
  refine ⟨hp,?_⟩
  simp only [viewEnv,hl,Option.getD_none,Nat.add_zero]
  exact (ha k hk).2
 ·exact ⟨Nat.le_refl _,rfl,rfl,fun _ _ _=>rfl,fun _ _ _ _=>⟨rfl,rfl⟩,fun b o _ ho=>hown b o ho,fun _ _ _ h=>Or.inl h⟩
theorem Le.sound {Kn:List Nat} {T0:Tm} {M0:Mm} {T:Tm} {M:Mm} (h:Le Kn T0 M0 T M) {N:Nat} {ρA ρ:Env} {a:Act} {w:World} (hc:Conc N ρ T M a w) (ha:Anch Kn ρA ρ) :
  ∃ ρ0,Conc N ρ0 T0 M0 a w∧Anch Kn ρA ρ0∧Step ρ M ρ0 M0 w w:=by
 unfold Le at h
 obtain ⟨gs,sl,ps,M1,T1,h1,h2,h3,h4⟩:=h
 obtain ⟨ρ1,k1,k2,k3⟩:=ghostM_sound h1 (AllP_iff h2) hc.toConcM
 obtain ⟨ρ2,m1,m2,m3⟩:=nilS_sound h3 (hc.of_mem k1 k2)
 obtain ⟨ρ0,l1,l2,l3⟩:=h4.sound m2 ((ha.le k1).le m1)
 exact ⟨ρ0,l1,l2,k3.trans (m3.trans l3)⟩
abbrev Post:=Exit→Tm→Mm→Prop
@[irreducible] def Loop (Kn:List Nat) (T:Tm) (M:Mm) (body:Tm→Mm→Post→Prop) (Q:Post):Prop:=
 ∃ (σ:Type) (I:σ→Prop) (S:σ→Tm × Mm) (m:σ→Nat) (s0:σ),I s0∧Le Kn (S s0).1 (S s0).2 T M ∧
  ∀ s,I s→body (S s).1 (S s).2 fun e T' M'=>match e with
   | .normal=>∃ s',I s'∧m s' < m s∧Le Kn (S s').1 (S s').2 T' M'
   | e=>Q e T' M'
theorem Loop.intro {Kn:List Nat} {T:Tm} {M:Mm} {body:Tm→Mm→Post→Prop} {Q:Post} {σ:Type} (I:σ→Prop) (S:σ→Tm × Mm) (m:σ→Nat) (s0:σ) (h0:I s0) (h1:Le Kn (S s0).1 (S s0).2 T M)
  (h2:∀ s,I s→body (S s).1 (S s).2 fun e T' M'=>match e with
   | .normal=>∃ s',I s'∧m s' < m s∧Le Kn (S s').1 (S s').2 T' M'
   | e=>Q e T' M'):Loop Kn T M body Q:=by
 unfold Loop;exact ⟨σ,I,S,m,s0,h0,h1,h2⟩
@[irreducible] def Cut (Kn:List Nat) (T:Tm) (M:Mm) (B:Tm→Mm→Prop):Prop:=
 ∃ (σ:Type) (I:σ→Prop) (S:σ→Tm × Mm) (s0:σ),I s0∧Le Kn (S s0).1 (S s0).2 T M∧∀ s,I s→B (S s).1 (S s).2
theorem Cut.intro {Kn:List Nat} {T:Tm} {M:Mm} {B:Tm→Mm→Prop} {σ:Type} (I:σ→Prop) (S:σ→Tm × Mm) (s0:σ) (h0:I s0) (h1:Le Kn (S s0).1 (S s0).2 T M) (h2:∀ s,I s→B (S s).1 (S s).2):Cut Kn T M B:=by
 unfold Cut;exact ⟨σ,I,S,s0,h0,h1,h2⟩
@[irreducible] def Join (Kn:List Nat) (A:(Tm→Mm→Prop)→Prop) (B:Tm→Mm→Prop):Prop:=
 ∃ (σ:Type) (I:σ→Prop) (S:σ→Tm × Mm),A (fun T M=>∃ s,I s∧Le Kn (S s).1 (S s).2 T M)∧∀ s,I s→B (S s).1 (S s).2
theorem Join.intro {Kn:List Nat} {A:(Tm→Mm→Prop)→Prop} {B:Tm→Mm→Prop} {σ:Type} (I:σ→Prop) (S:σ→Tm × Mm) (h1:A (fun T M=>∃ s,I s∧Le Kn (S s).1 (S s).2 T M)) (h2:∀ s,I s→B (S s).1 (S s).2):Join Kn A B:=by
 unfold Join;exact ⟨σ,I,S,h1,h2⟩
def firstId:Code→Option Nat
 | .region id _ _=>some id
 | .seq a _=>firstId a
 | .block _ c=>firstId c
 | .loop c=>firstId c
 | _=>none
def joinB (Cs:List Nat) (c:Code):Bool:=
 match Cs with
 | []=>false
 | x :: r=>match firstId c with
  | some i=>memB (i + 1000000) (x :: r)
  | none=>false
def seqQ (k:Tm→Mm→Prop) (Q:Post):Post:=fun e T M=>match e with
 | .normal=>k T M
 | e=>Q e T M
def blockQ (id:Nat) (Q:Post):Post:=fun e T M=>match e with
 | .exit i=>bif Nat.beq i id then Q .normal T M else Q (.exit i) T M
 | e=>Q e T M
def regionP (Γ:Cfg) (id:Nat) (ops:Array Oper) (draw:Bool) (T:Tm) (M:Mm) (K:Tm→Mm→Prop):Prop:=
 match draw with
 | false=>runOps Γ ops.toList ops.toList T M [] K
 | true=>Draw Γ id ops.toList T M K
def exec (Γ:Cfg) (Cs Kn:List Nat) (c:Code) (T:Tm) (M:Mm) (Q:Post):Prop:=
 match c with
 | .skip=>Q .normal T M
 | .region id ops draw=>match memB id Cs with
  | false=>regionP Γ id ops draw T M (Q .normal)
  | true=>Cut Kn T M fun T' M'=>regionP Γ id ops draw T' M' (Q .normal)
 | .seq a b=>match joinB Cs b with
  | false=>exec Γ Cs Kn a T M (seqQ (fun T' M'=>exec Γ Cs Kn b T' M' Q) Q)
  | true=>Join Kn (fun J=>exec Γ Cs Kn a T M (seqQ J Q)) (fun T' M'=>exec Γ Cs Kn b T' M' Q)
 | .cond c x y=>match ev T c with
  | .tt=>exec Γ Cs Kn x T M Q
  | .ff=>exec Γ Cs Kn y T M Q
  | .bool p=>Branch p (exec Γ Cs Kn x T M Q) (exec Γ Cs Kn y T M Q)
  | _=>False
 | .block id c=>exec Γ Cs Kn c T M (blockQ id Q)
 | .loop c=>Loop Kn T M (fun T' M' Q'=>exec Γ Cs Kn c T' M' Q') Q
 | .exit id=>Q (.exit id) T M
 | .ret=>Q .ret T M
 | _=>False
def codeOK (N:Nat):Code→Bool
 | .region _ ops _=>dstOK N ops.toList
 | .seq a b=>codeOK N a && codeOK N b
 | .cond _ x y=>codeOK N x && codeOK N y
 | .block _ c=>codeOK N c
 | .loop c=>codeOK N c
 | _=>true
def Ended (N:Nat) (Kn:List Nat) (ρA ρ:Env) (M:Mm) (w:World) (Q:Post):Exit→Act→World→Prop:=
 fun e a' w'=>∃ ρ' T' M',Q e T' M'∧Conc N ρ' T' M' a' w'∧Anch Kn ρA ρ'∧Step ρ M ρ' M' w w'
theorem wp_loop_n {P:Program} {Q:Exit→Act→World→Prop} {c:Code} (I:Nat→Act→World→Prop)
  (round:∀ n a w,I n a w→c.wp P (Exit.then (fun a' w'=>∃ n',n' < n∧I n' a' w') Q) a w):∀ n a w,I n a w→(Code.loop c).wp P Q a w:=by
 intro n a w h0 b k cs
 have key:∀ n a w,I n a w→∃ e a' w',Q e a' w'∧Arrives P (lone (b.at a (.code c :: .inLoop c :: k)) cs w) b k cs e a' w':=by
  intro n
  induction n using Nat.strongRecOn with
  | _ n ih=>
   intro a w hI
   obtain ⟨e,a₁,w₁,hq,harr⟩:=round n a w hI b (.inLoop c :: k) cs
   cases e with
   | normal=>
    obtain ⟨n',hlt,hI₁⟩:=hq
    obtain ⟨e₂,a₂,w₂,hq₂,harr₂⟩:=ih n' hlt a₁ w₁ hI₁
    exact ⟨e₂,a₂,w₂,hq₂,.of_steps (Steps.trans harr (.one step_inLoop)) harr₂⟩
   | exit id=>exact ⟨_,a₁,w₁,hq,.pass (x:=.inLoop c) rfl (fun _ _=>.inl (by simp)) harr⟩
   | goto l=>exact ⟨_,a₁,w₁,hq,.pass (x:=.inLoop c) rfl (fun _ _=>.inl (by simp)) harr⟩
   | ret=>exact ⟨_,a₁,w₁,hq,.pass (x:=.inLoop c) rfl (fun _ _=>.inl (by simp)) harr⟩
   | panic ch=>exact ⟨_,a₁,w₁,hq,.pass (x:=.inLoop c) rfl (fun _ _=>.inl (by simp)) harr⟩
   | outgrown=>exact ⟨_,a₁,w₁,hq,.pass (x:=.inLoop c) rfl (fun _ _=>.inl (by simp)) harr⟩
 obtain ⟨e,a',w',hq,harr⟩:=key n a w h0
 exact ⟨e,a',w',hq,.of_steps (.one step_loop) harr⟩
theorem regionP_sound {Γ:Cfg} {N:Nat} {Kn:List Nat} {ρA:Env} {id:Nat} {ops:Array Oper} {draw:Bool} (hok:dstOK N ops.toList = true) {T:Tm} {M:Mm} {Q:Post} {ρ:Env} {a:Act} {w:World}
  (h:regionP Γ id ops draw T M (Q .normal)) (hc:Conc N ρ T M a w) (ha:Anch Kn ρA ρ):(Code.region id ops draw).wp Γ.P (Ended N Kn ρA ρ M w Q) a w:=by
 cases draw with
 | false=>
  refine wp_region_list ?_
  have e:ops = ops.toList.toArray:=by simp
  rw [e]
  have:=runOps_sound (Γ:=Γ) (N:=N) (all:=ops.toList) hok (K:=Q .normal) (Q:=Ended N Kn ρA ρ M w Q) ops.toList (fun o ho=>ho) hc h (fun a' w' ⟨ρ',T',M',h1,h2,h3,h4⟩=>⟨ρ',T',M',h1,h3,ha.le h2,h4⟩)
  simpa using this
 | true=>
  simp only [regionP] at h
  have e:ops = ops.toList.toArray:=by simp
  rw [e]
  exact Draw.sound (Γ:=Γ) (N:=N) hok h hc fun a' w' ⟨ρ',T',M',h1,h2,h3,h4⟩=>⟨ρ',T',M',h1,h3,ha.le h2,h4⟩
theorem exec_sound {Γ:Cfg} {N:Nat} {Cs Kn:List Nat} {ρA:Env}:∀ {c:Code},codeOK N c = true→∀ {T:Tm} {M:Mm} {Q:Post} {ρ:Env} {a:Act} {w:World},exec Γ Cs Kn c T M Q→Conc N ρ T M a w→Anch Kn ρA ρ →
  c.wp Γ.P (Ended N Kn ρA ρ M w Q) a w:=by
 intro c
 induction c with
 | skip=>intro _ T M Q ρ a w h hc ha;exact wp_skip ⟨ρ,T,M,h,hc,ha,Step.refl _ _ _⟩
 | region id ops draw=>
  intro hok T M Q ρ a w h hc ha
  unfold exec at h
  split at h
  ·exact regionP_sound hok h hc ha
  ·unfold Cut at h
   obtain ⟨σ,I,S,s0,h0,h1,h2⟩:=h
   obtain ⟨ρ0,hc0,ha0,hst0⟩:=h1.sound hc ha
   refine wp_mono (regionP_sound hok (h2 s0 h0) hc0 ha0) ?_
   rintro e a' w' ⟨ρ',T',M',g1,g2,g3,g4⟩
   exact ⟨ρ',T',M',g1,g2,g3,hst0.trans g4⟩
 | seq x y ihx ihy=>
  intro hok T M Q ρ a w h hc ha
  simp only [codeOK,Bool.and_eq_true] at hok
  simp only [exec] at h
  split at h
  ·refine wp_seq (wp_mono (ihx hok.1 h hc ha) ?_)
   rintro e a' w' ⟨ρ',T',M',h1,h2,h3,h4⟩
   cases e with
   | normal=>
    refine wp_mono (ihy hok.2 h1 h2 h3) ?_
    rintro e a'' w'' ⟨ρ'',T'',M'',g1,g2,g3,g4⟩
    exact ⟨ρ'',T'',M'',g1,g2,g3,h4.trans g4⟩
   | _=>exact ⟨ρ',T',M',h1,h2,h3,h4⟩
  ·unfold Join at h
   obtain ⟨σ,I,S,hA,hB⟩:=h
   refine wp_seq (wp_mono (ihx hok.1 hA hc ha) ?_)
   rintro e a' w' ⟨ρ',T',M',h1,h2,h3,h4⟩
   cases e with
   | normal=>
    obtain ⟨s,hs,hle⟩:=h1
    obtain ⟨ρ0,hc0,ha0,hst0⟩:=hle.sound h2 h3
    refine wp_mono (ihy hok.2 (hB s hs) hc0 ha0) ?_
    rintro e a'' w'' ⟨ρ'',T'',M'',g1,g2,g3,g4⟩
    exact ⟨ρ'',T'',M'',g1,g2,g3,(h4.trans hst0).trans g4⟩
   | _=>exact ⟨ρ',T',M',h1,h2,h3,h4⟩
 | cond c x y ihx ihy=>
  intro hok T M Q ρ a w h hc ha
  simp only [codeOK,Bool.and_eq_true] at hok
  have hr:=ev_rel hc c
  simp only [exec] at h
  split at h
  ·rename_i he;rw [he] at hr
   exact wp_cond_true hr (ihx hok.1 h hc ha)
  ·rename_i he;rw [he] at hr
   exact wp_cond_false hr (ihy hok.2 h hc ha)
  ·rename_i p he;rw [he] at hr
   obtain ⟨b,hb,hbp⟩:=hr
   cases b with
   | true=>exact wp_cond_true hb (ihx hok.1 (h.yes (hbp.1 rfl)) hc ha)
   | false=>exact wp_cond_false hb (ihy hok.2 (h.no fun hp=>by have:=hbp.2 hp;cases this) hc ha)
  ·exact h.elim
 | block id c ih=>
  intro hok T M Q ρ a w h hc ha
  refine wp_block (wp_mono (ih hok h hc ha) ?_)
  rintro e a' w' ⟨ρ',T',M',h1,h2,h3,h4⟩
  cases e with
  | exit i=>
   simp only [blockQ] at h1
   simp only [Exit.inBlock]
   by_cases hi:i = id
   ·subst hi
    rw [show Nat.beq i i = true from Nat.beq_refl i,cond_true] at h1
    rw [if_pos rfl]
    exact ⟨ρ',T',M',h1,h2,h3,h4⟩
   ·have:Nat.beq i id = false:=by
     cases hb:Nat.beq i id with
     | false=>rfl
     | true=>exact absurd (beq_eq' hb) hi
    rw [this,cond_false] at h1
    rw [if_neg hi]
    exact ⟨ρ',T',M',h1,h2,h3,h4⟩
  | _=>exact ⟨ρ',T',M',h1,h2,h3,h4⟩
 | loop c ih=>
  intro hok T M Q ρ a w h hc ha
  simp only [exec] at h
  unfold Loop at h
  obtain ⟨σ,I,S,m,s0,h0,h1,h2⟩:=h
  obtain ⟨ρ0,hc0,ha0,hst0⟩:=h1.sound hc ha
  refine wp_loop_n (fun n a' w'=>∃ s ρs,n = m s∧I s∧Conc N ρs (S s).1 (S s).2 a' w'∧Anch Kn ρA ρs∧Step ρ M ρs (S s).2 w w') ?_ (m s0) a w ⟨s0,ρ0,rfl,h0,hc0,ha0,hst0⟩
  rintro n a' w' ⟨s,ρs,rfl,hI,hcs,has,hsts⟩
  refine wp_mono (ih hok (h2 s hI) hcs has) ?_
  rintro e a'' w'' ⟨ρ',T',M',g1,g2,g3,g4⟩
  cases e with
  | normal=>
   obtain ⟨s',hI',hlt,hle⟩:=g1
   obtain ⟨ρ'',hc'',ha'',hst''⟩:=hle.sound g2 g3
   exact ⟨m s',hlt,s',ρ'',rfl,hI',hc'',ha'',hsts.trans (g4.trans hst'')⟩
  | _=>exact ⟨ρ',T',M',g1,g2,g3,hsts.trans g4⟩
 | exit id=>intro _ T M Q ρ a w h hc ha;exact wp_exit ⟨ρ,T,M,h,hc,ha,Step.refl _ _ _⟩
 | ret=>intro _ T M Q ρ a w h hc ha;exact wp_ret ⟨ρ,T,M,h,hc,ha,Step.refl _ _ _⟩
 | _=>intro _ T M Q ρ a w h;exact h.elim
end Go.Sx
namespace Go.Sx
open Go
def resV (Γ:Cfg) (T:Tm) (M:Mm) (r:ResultVar):Option (List Prop × SV):=
 match r with
 | .tmp t=>match getT T t with
  | .und=>none
  | .tup _=>none
  | v=>some ([],v)
 | .cell a t=>match getT T a with
  | .ptr b f i=>loadM M b f i (Γ.ty t)
  | _=>none
def resVs (Γ:Cfg) (T:Tm) (M:Mm) (rs:List ResultVar):Option (List Prop × List SV):=
 match rs with
 | []=>some ([],[])
 | r :: q=>match resV Γ T M r with
  | some (ps,v)=>match resVs Γ T M q with
   | some (qs,vs)=>some (ps ++ qs,v :: vs)
   | none=>none
  | none=>none
def oneOf (vs:List SV):SV:=
 match vs with
 | [v]=>v
 | vs=>.tup vs
def sameR (μ:Nm) (v0 v:SV):Option (List Prop):=
 match v0 with
 | .tup l0=>match v with
  | .tup l=>argsSame μ l0 l
  | _=>none
 | v0=>match v with
  | .tup _=>none
  | v=>sameA μ v0 v
def Ret1 (Γ:Cfg) (Kn:List Nat) (rs:List ResultVar) (T:Tm) (M:Mm) (R:SV→Mm→Prop):Prop:=
 ∃ ps vs v0 M0 μ qs us,resVs Γ T M rs = some (ps,vs)∧AllP ps∧R v0 M0∧sameR (fillN μ M0) v0 (oneOf vs) = some qs∧AllP qs∧viewsM (fillN μ M0) M M0 = some us∧AllP us∧leOK Kn (fillN μ M0) M M0 = true
@[irreducible] def Ret (Γ:Cfg) (Kn:List Nat) (rs:List ResultVar) (T:Tm) (M:Mm) (R:SV→Mm→Prop):Prop:=
 ∃ (gs:List Gh) (sl:List (Nat × Nat)) (ps:List Prop) (M1:Mm) (T1:Tm),ghostM gs M = some (ps,M1)∧AllP ps∧nilS sl T M1 = some T1∧Ret1 Γ Kn rs T1 M1 R
theorem Ret.ghost {Γ:Cfg} {Kn:List Nat} {rs:List ResultVar} {T:Tm} {M:Mm} {R:SV→Mm→Prop} (gs:List Gh) (sl:List (Nat × Nat)) {ts:List Prop} {M1:Mm} {T1:Tm} (g1:ghostM gs M = some (ts,M1)) (g2:AllP ts) (g3:nilS sl T M1 = some T1)
  {ps:List Prop} {vs:List SV} (v0:SV) (M0:Mm) (μ:Nm) {qs us:List Prop}
  (h1:resVs Γ T1 M1 rs = some (ps,vs)) (h2:AllP ps) (h3:R v0 M0) (h4:sameR (fillN μ M0) v0 (oneOf vs) = some qs) (h5:AllP qs) (h6:viewsM (fillN μ M0) M1 M0 = some us) (h7:AllP us)
  (h8:leOK Kn (fillN μ M0) M1 M0 = true):Ret Γ Kn rs T M R:=by
 unfold Ret;exact ⟨gs,sl,ts,M1,T1,g1,g2,g3,ps,vs,v0,M0,μ,qs,us,h1,h2,h3,h4,h5,h6,h7,h8⟩
theorem Ret.intro {Γ:Cfg} {Kn:List Nat} {rs:List ResultVar} {T:Tm} {M:Mm} {R:SV→Mm→Prop} {ps:List Prop} {vs:List SV} (v0:SV) (M0:Mm) (μ:Nm) {qs us:List Prop}
  (h1:resVs Γ T M rs = some (ps,vs)) (h2:AllP ps) (h3:R v0 M0) (h4:sameR (fillN μ M0) v0 (oneOf vs) = some qs) (h5:AllP qs) (h6:viewsM (fillN μ M0) M M0 = some us) (h7:AllP us)
  (h8:leOK Kn (fillN μ M0) M M0 = true):Ret Γ Kn rs T M R:=by
 unfold Ret;exact ⟨[],[],[],M,T,rfl,trivial,rfl,ps,vs,v0,M0,μ,qs,us,h1,h2,h3,h4,h5,h6,h7,h8⟩
def retQ (Γ:Cfg) (Kn:List Nat) (rs:List ResultVar) (R:SV→Mm→Prop):Post:=fun e T M=>match e with
 | .ret=>Ret Γ Kn rs T M R
 | .normal=>Ret Γ Kn rs T M R
 | _=>False
def paramsFrom (i:Nat):List SV→Tm
 | []=>[]
 | v :: r=>(i,v) :: paramsFrom (i + 1) r
def keysM:Mm→List Nat
 | []=>[]
 | (k,_) :: r=>k :: keysM r
theorem keysM_mem:∀ {M:Mm} {a:Nat} {e:Ent},getM M a = some e→a ∈ keysM M
 | [],_,_,h=>by simp [getM] at h
 | (b,e') :: r,a,e,h=>by
  simp only [keysM,List.mem_cons]
  by_cases hab:a = b
  ·exact Or.inl hab
  ·rw [getM_cons_ne hab] at h
   exact Or.inr (keysM_mem h)
theorem keysM_get:∀ {M:Mm} {a:Nat},a ∈ keysM M→∃ e,getM M a = some e
 | [],_,h=>by simp [keysM] at h
 | (b,e') :: r,a,h=>by
  by_cases hab:a = b
  ·subst hab;exact ⟨_,getM_cons_self _ _ _⟩
  ·rw [getM_cons_ne hab]
   simp only [keysM,List.mem_cons] at h
   exact keysM_get (h.resolve_left hab)
theorem paramsFrom_rel {ρ:Env}:∀ {vs:List SV} {xs:List Value} (i:Nat) (tmps:Array Value),RelL ρ vs xs→(∀ j x,xs[j]? = some x→tmps[i + j]? = some x)→∀ d,RelT ρ (getT (paramsFrom i vs) d) (tmps.getD d undef)
 | [],_,_,_,_,_,_=>RelT_of_Rel trivial
 | v :: r,xs,i,tmps,⟨x,ys,e,h1,h2⟩,ht,d=>by
  subst e
  simp only [paramsFrom]
  by_cases hd:d = i
  ·subst hd
   rw [getT_cons_self]
   have:=ht 0 x rfl
   rw [Nat.add_zero] at this
   rw [Array.getD_eq_getD_getElem?,this]
   exact RelT_of_Rel h1
  ·rw [getT_cons_ne hd]
   exact paramsFrom_rel (i + 1) tmps h2 (fun j y hj=>by
    have:=ht (j + 1) y (by simpa using hj)
    rw [show i + 1 + j = i + (j + 1) by omega];exact this) d
theorem RelL_length {ρ:Env}:∀ {vs:List SV} {xs:List Value},RelL ρ vs xs→xs.length = vs.length
 | [],xs,h=>by simp only [RelL] at h;subst h;rfl
 | _ :: _,_,⟨_,_,e,_,h⟩=>by subst e;simp [RelL_length h]
def resSem (tmps:Array Value):ResultVar→Sem Value
 | .tmp t=>pure (tmps.getD t undef)
 | .cell b t=>do loadVar t (← asAddr (tmps.getD b undef))
theorem results_resSem (fn:Func) (tmps:Array Value):results fn tmps = (do
  let out ← fn.results.mapM (resSem tmps)
  pure (if h:out.size = 1 then out[0] else .tuple out)):=by
 unfold results
 congr 1
theorem resV_sound {Γ:Cfg} {N:Nat} {ρ:Env} {T:Tm} {M:Mm} {a:Act} {w:World} (hc:Conc N ρ T M a w) {r:ResultVar} {ps:List Prop} {v:SV} (h:resV Γ T M r = some (ps,v)) (hp:All ps) :
  ∃ x,Rel ρ v x∧(resSem a.tmps r).run Γ.P w = .ok x w:=by
 unfold resV at h
 split at h
 ·rename_i t
  have hr:=hc.tm t
  split at h
  ·cases h
  ·cases h
  ·rename_i h1 h2
   simp only [Option.some.injEq,Prod.mk.injEq] at h;obtain ⟨rfl,rfl⟩:=h
   exact ⟨_,hr.s h2,rfl⟩
 ·rename_i b t
  have hr:=hc.tm b
  split at h
  ·rename_i d f i he
   rw [he] at hr
   obtain ⟨x,hx,hrun⟩:=loadM_sound hc.toConcM h hp
   exact ⟨x,hx,by simp only [resSem,hr.2,asAddr,Sem.run_bind,Sem.run_pure,Result.andThen_ok,hrun]⟩
  ·cases h
theorem resVs_sound {Γ:Cfg} {N:Nat} {ρ:Env} {T:Tm} {M:Mm} {a:Act} {w:World} (hc:Conc N ρ T M a w):∀ {rs:List ResultVar} {ps:List Prop} {vs:List SV},resVs Γ T M rs = some (ps,vs)→All ps →
  ∃ xs,RelL ρ vs xs∧(rs.mapM (resSem a.tmps)).run Γ.P w = .ok xs w
 | [],ps,vs,h,_=>by
  simp only [resVs,Option.some.injEq,Prod.mk.injEq] at h;obtain ⟨rfl,rfl⟩:=h
  exact ⟨[],rfl,rfl⟩
 | r :: q,ps,vs,h,hp=>by
  simp only [resVs] at h
  split at h
  ·rename_i qs v hv
   split at h
   ·rename_i us ws hws
    simp only [Option.some.injEq,Prod.mk.injEq] at h;obtain ⟨rfl,rfl⟩:=h
    obtain ⟨x,hx,h1⟩:=resV_sound hc hv hp.left
    obtain ⟨xs,hxs,h2⟩:=resVs_sound hc hws hp.right
    refine ⟨x :: xs,⟨x,xs,rfl,hx,hxs⟩,?_⟩
    rw [List.mapM_cons]
    simp only [Sem.run_bind]
    rw [h1]
    simp only [Result.andThen_ok]
    rw [h2]
    rfl
   ·cases h
  ·cases h
theorem sameR_sound {μ:Nm} {ρ0 ρ:Env} (hb:Back μ ρ0 ρ) {v0 v:SV} {ps:List Prop} (h:sameR μ v0 v = some ps) (hp:All ps) {x:Value} (hr:RelT ρ v x):RelT ρ0 v0 x:=by
 have conv:∀ {l:List SV} {xs:List Value},RelL ρ l xs→RelTL ρ l xs:=by
  intro l
  induction l with
  | nil=>intro xs h;exact h
  | cons v r ih=>intro xs ⟨x,ys,e,h1,h2⟩;exact ⟨x,ys,e,RelT_of_Rel h1,ih h2⟩
 unfold sameR at h
 split at h
 ·split at h
  ·obtain ⟨xs,h1,e⟩:=hr
   exact ⟨xs,argsSame_sound hb h hp (conv h1),e⟩
  ·cases h
 ·split at h
  ·cases h
  ·exact RelT_of_Rel (sameA_sound hb h hp hr)
theorem ret1_sound {Γ:Cfg} {N:Nat} {Kn:List Nat} {ρA ρ:Env} {rs:List ResultVar} {T:Tm} {M:Mm} {R:SV→Mm→Prop} {a:Act} {w:World} (hc:Conc N ρ T M a w) (ha:Anch Kn ρA ρ) (h:Ret1 Γ Kn rs T M R)
  {fn:Func} (hrs:fn.results.toList = rs) :
  ∃ x v ρ' M',(results fn a.tmps).run Γ.P w = .ok x w∧RelT ρ' v x∧R v M'∧ConcM ρ' M' w∧Anch Kn ρA ρ'∧Step ρ M ρ' M' w w:=by
 obtain ⟨ps,vs,v0,M0,μ0,qs,us,h1,h2,h3,h4,h5,h6,h7,h8⟩:=h
 generalize fillN μ0 M0 = μ at *
 simp only [leOK,Bool.and_eq_true] at h8
 obtain ⟨⟨hsep,hkeys⟩,hid⟩:=h8
 have hback:Back μ (viewEnv μ M0 ρ) ρ:=by
  constructor
  intro a b g j hl hb
  exact ⟨(keysOK_get hkeys (look_mem hl)).1,by simp only [viewEnv,hl],by simp only [viewEnv,hl]⟩
  exact fun _ _ _ h=>h
 obtain ⟨hM0,hown,_⟩:=view_conc hc.toConcM h6 (AllP_iff h7) hsep hback
 obtain ⟨xs,hxs,hrun⟩:=resVs_sound hc h1 (AllP_iff h2)
 have hlen:=RelL_length hxs
 have hrun2:(results fn a.tmps).run Γ.P w = .ok (if h:xs.toArray.size = 1 then xs.toArray[0] else .tuple xs.toArray) w:=by
  rw [results_resSem,Sem.run_bind]
  have e:fn.results = rs.toArray:=by rw [← hrs]
  rw [e,List.mapM_toArray,Sem.run_map,hrun]
  simp only [Result.andThen_ok]
  rfl
 have hone:RelT ρ (oneOf vs) (if h:xs.toArray.size = 1 then xs.toArray[0] else .tuple xs.toArray):=by
  unfold oneOf
  split
  ·rename_i v
   obtain ⟨x,ys,e,hx,hy⟩:=hxs
   simp only [RelL] at hy
   subst hy;subst e
   exact RelT_of_Rel hx
  ·rename_i hne
   rw [dif_neg (by
    simp only [List.size_toArray,hlen]
    intro h1
    match vs,h1 with
    | [v],_=>exact hne v rfl)]
   exact ⟨xs,hxs,rfl⟩
 refine ⟨_,v0,viewEnv μ M0 ρ,M0,hrun2,sameR_sound hback h4 (AllP_iff h5) hone,h3,hM0,⟨fun k hk=>?_,ha.im⟩,⟨Nat.le_refl _,rfl,rfl,fun _ _ _=>rfl,fun _ _ _ _=>⟨rfl,rfl⟩,fun b o _ ho=>hown b o ho,fun _ _ _ h=>Or.inl h⟩⟩
 obtain ⟨hl,hp⟩:=idOn_get hid k hk
 refine ⟨hp,?_⟩
 simp only [viewEnv,hl,Option.getD_none,Nat.add_zero]
 exact (ha k hk).2
theorem ret_sound {Γ:Cfg} {N:Nat} {Kn:List Nat} {ρA ρ:Env} {rs:List ResultVar} {T:Tm} {M:Mm} {R:SV→Mm→Prop} {a:Act} {w:World} (hc:Conc N ρ T M a w) (ha:Anch Kn ρA ρ) (h:Ret Γ Kn rs T M R)
  {fn:Func} (hrs:fn.results.toList = rs) :
  ∃ x v ρ' M',(results fn a.tmps).run Γ.P w = .ok x w∧RelT ρ' v x∧R v M'∧ConcM ρ' M' w∧Anch Kn ρA ρ'∧Step ρ M ρ' M' w w:=by
 unfold Ret at h
 obtain ⟨gs,sl,ts,M1,T1,g1,g2,g3,h⟩:=h
 obtain ⟨ρ1,k1,k2,k3⟩:=ghostM_sound g1 (AllP_iff g2) hc.toConcM
 obtain ⟨ρ2,m1,m2,m3⟩:=nilS_sound g3 (hc.of_mem k1 k2)
 obtain ⟨x,v,ρ',M',r1,r2,r3,r4,r5,r6⟩:=ret1_sound m2 ((ha.le k1).le m1) h hrs
 exact ⟨x,v,ρ',M',r1,r2,r3,r4,r5,k3.trans (m3.trans r6)⟩
theorem fn_cut (Cs:List Nat) {Γ:Cfg} {f:FuncId} {fn:Func} {c:Code} {args:List SV} {M0:Mm} {R:SV→Mm→Prop} (hf:Γ.P.funcs[f]? = some fn) (hb:fn.body = some c)
  (hok:codeOK fn.ntmps c = true) (hn:Nat.ble args.length fn.ntmps = true) (h:exec Γ Cs (keysM M0) c (paramsFrom 0 args) M0 (retQ Γ (keysM M0) fn.results.toList R)):Fn Γ.P f args M0 R:=by
 intro ρ xs w hM hargs
 refine calls_of_wp hf hb ?_
 have hlen:=RelL_length hargs
 have hle:=ble_le' hn
 have hc:Conc fn.ntmps ρ (paramsFrom 0 args) M0 { tmps:=xs.toArray ++ Array.replicate (fn.ntmps - xs.toArray.size) undef,defers:=[] } w:=by
  refine ⟨hM,by simp;omega,rfl,paramsFrom_rel 0 _ hargs fun j x hj=>?_⟩
  have hlt:=(List.getElem?_eq_some_iff.1 hj).1
  rw [Nat.zero_add,Array.getElem?_append_left (by simpa using hlt)]
  simpa using hj
 have ha:Anch (keysM M0) ρ ρ:=by
  refine ⟨fun k hk=>?_,fun _ _ _ h=>h⟩
  obtain ⟨e,he⟩:=keysM_get hk
  exact ⟨hM.mod k e he,rfl⟩
 refine wp_mono (exec_sound hok h hc ha) ?_
 rintro e a' w' ⟨ρ',T',M',h1,h2,h3,h4⟩
 have fin:Ret Γ (keysM M0) fn.results.toList T' M' R→a'.defers = []∧∃ v,(results fn a'.tmps).run Γ.P w' = .ok v w'∧∃ v' x ρ' M',Ending.returned v = .returned x∧RelT ρ' v' x∧R v' M'∧ρ.le ρ'∧ConcM ρ' M' w'∧Step ρ M0 ρ' M' w w':=by
  intro hr
  obtain ⟨x,v,ρ2,M2,r1,r2,r3,r4,r5,r6⟩:=ret_sound h2 h3 hr rfl
  refine ⟨h2.defers,x,r1,v,x,ρ2,M2,rfl,r2,r3,⟨fun k hk=>?_,r5.im⟩,r4,h4.trans r6⟩
  obtain ⟨e,he⟩:=hM.dom k hk
  exact r5 k (keysM_mem he)
 cases e with
 | normal=>exact fin h1
 | ret=>exact fin h1
 | _=>exact h1.elim
theorem fn_of {Γ:Cfg} {f:FuncId} {fn:Func} {c:Code} {args:List SV} {M0:Mm} {R:SV→Mm→Prop} (hf:Γ.P.funcs[f]? = some fn) (hb:fn.body = some c)
  (hok:codeOK fn.ntmps c = true) (hn:Nat.ble args.length fn.ntmps = true) (h:exec Γ [] (keysM M0) c (paramsFrom 0 args) M0 (retQ Γ (keysM M0) fn.results.toList R)):Fn Γ.P f args M0 R:=
 fn_cut [] hf hb hok hn h
theorem Fn.mono {P:Program} {f:FuncId} {args:List SV} {M0:Mm} {R R':SV→Mm→Prop} (h:Fn P f args M0 R) (hr:∀ v M,R v M→R' v M):Fn P f args M0 R':=by
 intro ρ xs w hM ha
 refine (h ρ xs w hM ha).mono ?_
 rintro e w' ⟨v,x,ρ',M',h1,h2,h3,h4⟩
 exact ⟨v,x,ρ',M',h1,h2,hr _ _ h3,h4⟩
theorem AllP.one {p:Prop} (h:p):AllP [p]:=h
theorem AllP.of:∀ {ps:List Prop},All ps→AllP ps
 | [],_=>trivial
 | [_],h=>h.head
 | _ :: _ :: _,h=>⟨h.head,AllP.of h.tail⟩
theorem AllP.cons {p:Prop} {r:List Prop} (h:p) (k:AllP r):AllP (p :: r):=AllP.of fun q hq=>by
 rcases List.mem_cons.1 hq with e | hq
 ·rw [e];exact h
 ·exact AllP_iff k q hq
theorem AllP.app {a b:List Prop} (h:AllP a) (k:AllP b):AllP (a ++ b):=AllP.of fun q hq=>(List.mem_append.1 hq).elim (AllP_iff h q) (AllP_iff k q)
theorem AllP.appd {a b:List Prop} (h:AllP a) (k:AllP b):AllP (a.append b):=AllP.app h k
end Go.Sx
namespace Go.Sx
open Go Go.ChangeShapes Go.WideShapes Go.ChangeAt Go.RowKit
section
variable {H:Type} {enc:TypeId × Value→H} {P:Program} {w:World} {base:Nat} {sp:Nat→Bool} {held:Bool}
theorem w8_of_wf {n:Int} (h:(Lit.int .u8 n).wf = true):∃ x:UInt8,Value.int .u8 n = w8 x:=by
 have:=bounds_u8 h
 refine ⟨UInt8.ofNat n.toNat,?_⟩
 unfold w8
 rw [UInt8.toNat_ofNat']
 congr 1
 omega
theorem map_of_all {α:Type} (f:α→Value):∀ (cs:List Value),(∀ (i:Nat),i < cs.length→∃ x:α,cs[i]? = some (f x))→∃ l:List α,cs = l.map f
 | [],_=>⟨[],rfl⟩
 | c :: r,h=>by
  obtain ⟨x,hx⟩:=h 0 (by simp)
  obtain ⟨l,hl⟩:=map_of_all f r (fun i hi=>by simpa using h (i + 1) (by simpa using hi))
  refine ⟨x :: l,?_⟩
  simp only [List.getElem?_cons_zero,Option.some.injEq] at hx
  rw [hx,hl];rfl
theorem take_one {cs:List Value} {i:Nat} {v:Value} (h:(cs.drop i).take 1 = [v]):cs[i]? = some v:=by
 have e:((cs.drop i).take 1)[0]? = some v:=by rw [h];rfl
 simpa using e
theorem trod_arr8 {t e n:Nat} {fuel:Nat} {cs:List Value} {x:DataW H × List MemPlace} (ht:P.underlying t = some (.array n e)) (he:P.underlying e = some (.int .u8)) (hc:P.cellsOf e = 1) (hct:P.cellsOf t = n)
  (h:DataW.trod enc P w base sp held fuel t cs = some x):∃ l:List UInt8,l.length = n∧cs = l.map w8:=by
 obtain ⟨xs,m,_,_,hl,hxs,hel⟩:=DataW.trod_array ht h
 rw [hct] at hl
 have hall:∀ i,i < cs.length→∃ x:UInt8,cs[i]? = some (w8 x):=by
  intro i hi
  have:=hel i (by omega)
  rw [hc,Nat.mul_one,List.getElem?_eq_getElem (by omega)] at this
  obtain ⟨k,hk,_,hw⟩:=DataW.trod_int he this
  obtain ⟨x,hx⟩:=w8_of_wf hw
  exact ⟨x,by rw [← hx];exact take_one hk⟩
 obtain ⟨l,hl'⟩:=map_of_all w8 cs hall
 exact ⟨l,by rw [← hl,hl'];simp,hl'⟩
theorem trod_sl {t e:Nat} {fuel:Nat} {cs:List Value} {x:DataW H × List MemPlace} (ht:P.underlying t = some (.slice e)) (hpos:0 < P.cellsOf e)
  (h:DataW.trod enc P w base (fun _=>true) held fuel t cs = some x) :
  cs = [.slice none 0 0] ∨ ∃ (a:Addr) (len cap b o:Nat),cs = [.slice (some a) len cap]∧len ≤ cap∧cap ≤ maxLen∧(cap ≠ 0→a = ⟨b,o,none⟩∧b < w.heap.size) ∧
   ∀ i,i < len→∃ ce fuel y,ce.length = P.cellsOf e∧(∀ j,j < P.cellsOf e→w.cell? ⟨b,o + (i * P.cellsOf e + j),none⟩ = ce[j]?)∧DataW.trod enc P w base (fun _=>true) held fuel e ce = some y:=by
 rcases DataW.trod_slice ht h with ⟨h0,_⟩ | ⟨a,len,cap,elems,rest,n,_,rfl,rfl,hb,hl,hm,hlen,hel,hsp,_⟩
 ·exact Or.inl h0
 right
 obtain ⟨hrl,hr⟩:=hsp rfl
 have cellAt:∀ i,i < cap→∃ ce y,w.cells? base (a.add (i * P.cellsOf e)) (P.cellsOf e) = some ce∧DataW.trod enc P w base (fun _=>true) held n e ce = some y:=by
  intro i hi
  by_cases h1:i < len
  ·have:=hel i h1
   rw [List.getElem?_eq_getElem (by omega),Option.bind_eq_some_iff] at this
   obtain ⟨ce,h2,h3⟩:=this
   exact ⟨ce,_,h2,h3⟩
  ·have:=hr (i - len) (by omega)
   rw [List.getElem?_eq_getElem (by omega),Option.bind_eq_some_iff,show len + (i - len) = i by omega] at this
   obtain ⟨ce,h2,h3⟩:=this
   exact ⟨ce,_,h2,h3⟩
 have shape:cap ≠ 0→a = ⟨a.block,a.off,none⟩∧a.block < w.heap.size:=by
  intro hc
  obtain ⟨ce,y,h1,_⟩:=cellAt 0 (by omega)
  obtain ⟨_,hlen,hcell⟩:=World.cells?_some h1
  have g0:=hcell 0 hpos
  rw [List.getElem?_eq_getElem (by omega)] at g0
  have hs:=World.cell?_spot g0
  have:a.spot = none:=by simpa [Addr.add] using hs
  obtain ⟨b,o,s⟩:=a
  simp only at this
  subst this
  refine ⟨rfl,?_⟩
  simp only [Nat.zero_mul,Addr.add,if_true] at g0
  unfold World.cell? at g0
  simp only at g0 ⊢
  cases hb:w.heap[b]? with
  | none=>rw [hb] at g0;simp at g0
  | some _=>exact (Array.getElem?_eq_some_iff.1 hb).1
 refine ⟨a,len,cap,a.block,a.off,rfl,hl,hm,shape,fun i hi=>?_⟩
 obtain ⟨ce,y,h1,h2⟩:=cellAt i (by omega)
 obtain ⟨_,hlen,hcell⟩:=World.cells?_some h1
 refine ⟨ce,n,y,hlen,fun j hj=>?_,h2⟩
 have:=hcell j hj
 rw [(shape (by omega)).1] at this
 rw [add_lit,add_lit] at this
 rw [show a.off + (i * P.cellsOf e + j) = a.off + i * P.cellsOf e + j by omega]
 exact this
theorem list_of_cells {α:Type} (f:α→Value) {b o:Nat}:∀ (n:Nat),(∀ k,k < n→∃ x:α,w.cell? ⟨b,o + k,none⟩ = some (f x))→∃ l:List α,l.length = n∧∀ j v,(l.map f)[j]? = some v→w.cell? ⟨b,o + j,none⟩ = some v
 | 0,_=>⟨[],rfl,fun j v h=>by simp at h⟩
 | n + 1,h=>by
  obtain ⟨l,hl,hc⟩:=list_of_cells f n (fun k hk=>h k (by omega))
  obtain ⟨x,hx⟩:=h n (by omega)
  refine ⟨l ++ [x],by simp [hl],fun j v hj=>?_⟩
  by_cases hj':j < n
  ·refine hc j v ?_
   rw [List.map_append,List.getElem?_append_left (by simp [hl,hj'])] at hj
   exact hj
  ·have hlt:=(List.getElem?_eq_some_iff.1 hj).1
   simp [hl] at hlt
   have:j = n:=by omega
   subst this
   rw [List.map_append,List.getElem?_append_right (by simp [hl])] at hj
   simp [hl] at hj
   rw [hx,hj]
end
def immW (w:World):Nat→Nat→Nat→List (Nat × SV)→Prop
 | 0=>fun _ _ _=>False
 | k + 1=>fun b o ls=>(sizeL ls ≠ 0→b < w.heap.size)∧∃ cs,CellsL ⟨fun _=>False,fun _=>(0,0),immW w k⟩ ls cs∧∀ j v,cs[j]? = some v→w.cell? ⟨b,o + j,none⟩ = some v
def envW (w:World) (k:Nat):Env:=⟨fun _=>False,fun _=>(0,0),immW w k⟩
theorem immW_succ (w:World):∀ (k b o:Nat) (ls:List (Nat × SV)),immW w k b o ls→immW w (k + 1) b o ls
 | 0,_,_,_,h=>h.elim
 | k + 1,b,o,ls,⟨h1,cs,h2,h3⟩=>⟨h1,cs,CellsL.le (ρ:=envW w k) (ρ':=envW w (k + 1)) ⟨fun _ (h:False)=>h.elim,immW_succ w k⟩ h2,h3⟩
theorem envW_conc (w:World) (k:Nat):ConcM (envW w k) [] w where
 dom a h:=h.elim
 mod a e h:=by simp [getM] at h
 sat a e h:=by simp [getM] at h
 sep a b e e' h:=by simp [getM] at h
 imm b o ls h:=by
  cases k with
  | zero=>exact h.elim
  | succ k=>
   obtain ⟨h1,cs,h2,h3⟩:=h
   exact ⟨h1,cs,CellsL.le (ρ:=envW w k) (ρ':=(envW w (k + 1)).bare) ⟨fun _ (h:False)=>h.elim,immW_succ w k⟩ h2,h3⟩
 isep b o _ h:=by obtain ⟨a,e,h1,_⟩:=h;simp [getM] at h1
theorem envW_owns (w:World) (k b o:Nat):¬ Owns (envW w k) [] b o:=by rintro ⟨a,e,h1,_⟩;simp [getM] at h1
section
variable {H:Type} {enc:TypeId × Value→H} {P:Program}
theorem post_of_blocks {f:Func} {s:ChangeSpec} {apart fresh handsOn again:Bool} {W W':World} {args:Array Value} {v:Value} {ds gs:List (DataW H)} {before pa pv:List MemPlace}
  (hW:DataW.Whole enc P f.params.toList s.vars apart W args.toList ds gs before)
  (hres:∀ (b:Nat) (sp:Nat→Bool) (hd:Bool),DataW.TrodAll enc P W' b sp hd f.resultTypes.toList (v.resultList f.resultTypes.size) (s.fn H (ds ++ gs)).results [])
  (hargs:∀ sp:Nat→Bool,(∀ p ∈ before,sp p.block = true)→DataW.TrodAll enc P W' 0 sp true f.params.toList args.toList (s.fn H (ds ++ gs)).args pa)
  (hvars:∀ sp:Nat→Bool,(∀ p ∈ before,sp p.block = true)→DataW.TrodVars enc P W' sp s.vars (s.fn H (ds ++ gs)).vars pv)
  (hps:before = pa ++ pv) (hos:W'.os = W.os) (hout:W'.output = W.output) (hblk:∀ b,b < W.heap.size→W'.heap[b]? = W.heap[b]?)
  (hok:∀ (j:Nat) (t:TypeId) (r:Value),f.resultTypes[j]? = some t→(v.resultList f.resultTypes.size)[j]? = some r→Value.okWide P W' .any 0 t r) :
  s.post enc P f apart fresh handsOn again W args v W':=by
 have hlt:∀ p ∈ before,p.block < W.heap.size:=fun p hp=>hW.lt p hp
 have hold:∀ p ∈ before,(fun b=>decide (b < W.heap.size)) p.block = true:=fun p hp=>by simpa using hlt p hp
 have hkept:W.keptBut W' (· ∈ before):=by
  refine ⟨hos,hout,fun i hi=>?_⟩
  rw [hblk i hi]
  split <;> simp_all
 refine ⟨ds,gs,before,[],pa,pv,hW,hres _ _ _,hargs _ hold,hvars _ hold,World.keptBut_mono (fun p hp=>⟨hp,?_⟩) hkept,fun _=>?_⟩
 ·rw [hps,List.mem_append] at hp
  exact Or.inr hp
 ·obtain ⟨_,_,_,_,_,hz,hn⟩:=hW
  refine ⟨hok,_,_,([] ++ pa) ++ pv,⟨[] ++ pa,pv,trodAll_append (hargs _ (fun _ _=>rfl)) (hres _ _ _),hvars _ (fun _ _=>rfl),rfl,?_,?_⟩,?_⟩
  ·intro b off hp
   have hin:MemPlace.cell b off ∈ before:=by rw [hps];simpa using hp
   rw [World.frozen?_of_block (w:=W) (a:=⟨b,off,none⟩) (hblk b (hlt _ hin))]
   exact hz b off hin
  ·intro ha
   have:=hn ha
   rw [hps] at this
   simpa using this
  ·intro p hp _
   rw [hps]
   simpa using hp
end
theorem law_close {C:Checked} {f:FuncId} {fn:Func} {s:ChangeSpec} {apart fresh handsOn again:Bool} {H:Type} {enc:TypeId × Value→H} {ρ:Env} {M0:Mm} {svs:List SV} {R:SV→Mm→Prop} {tb:TypeId}
  {W:World} {args:Array Value} {ds gs:List (DataW H)} {before:List MemPlace}
  (hl:laidOutB C.prog = true) (hread:∀ t ∈ fn.params.toList,C.prog.readableRec t = true∧t < C.prog.types.size) (hvars:s.vars = [])
  (hspec:(s.fn H (ds ++ gs)) = { results:=[.lit (.bool true)],args:=ds }) (hrt:fn.resultTypes = #[tb]) (htb:C.prog.underlying tb = some .bool)
  (hM:ConcM ρ M0 W) (hown:∀ b o,¬ Owns ρ M0 b o) (hargs:RelL ρ svs args.toList) (hf:Sx.Fn C.prog f svs M0 R) (htt:∀ v M,R v M→v = .tt)
  (hW:DataW.Whole enc C.prog fn.params.toList s.vars apart W args.toList ds gs before) :
  Calls C.prog f args W fun e W'=>∃ v,e = .returned v∧s.post enc C.prog fn apart fresh handsOn again W args v W':=by
 have hc:=hf ρ args.toList W hM hargs
 simp only [Array.toArray_toList] at hc
 refine hc.mono ?_
 rintro e W' ⟨v,x,ρ',M',rfl,h2,h3,_,_,hst⟩
 have hv:=htt v M' h3
 subst hv
 have hx:x = .bool true:=h2
 subst hx
 have hblk:∀ b,b < W.heap.size→W'.heap[b]? = W.heap[b]?:=fun b hb=>hst.blk b hb (hown b)
 have hW0:=hW
 rw [hvars] at hW
 obtain ⟨p,q,hA,hV,rfl,hfz,hnd⟩:=hW
 obtain ⟨rfl,rfl⟩:=trodVars_none hV
 refine ⟨_,rfl,post_of_blocks (pa:=p) (pv:=[]) hW0 ?_ ?_ ?_ rfl hst.os hst.output hblk ?_⟩
 ·intro b sp hd
  rw [hspec,hrt]
  exact trodAll_mk1 ⟨1,by simp [DataW.trod,Value.cells,htb]⟩
 ·intro sp hsp
  rw [hspec]
  have hlt:=hW0.lt
  have go:∀ {ts:List TypeId} {vs:List Value} {es:List (DataW H)} {ps:List MemPlace},(∀ t ∈ ts,C.prog.readableRec t = true∧t < C.prog.types.size)→(∀ x ∈ ps,x.block < W.heap.size)→(∀ x ∈ ps,sp x.block = true) →
    DataW.TrodAll enc C.prog W 0 (fun _=>true) true ts vs es ps→DataW.TrodAll enc C.prog W' 0 sp true ts vs es ps:=by
   intro ts
   induction ts with
   | nil=>
    intro vs es ps _ _ _ h
    obtain ⟨rfl,rfl,rfl⟩:=trodAll_nil h
    exact trodAll_mk0
   | cons t ts ih=>
    intro vs es ps hr hlt hs h
    obtain ⟨v,vs1,d,ds1,a,b,rfl,rfl,rfl,h1,h2⟩:=trodAll_cons h
    refine ⟨a,b,WideElems.Trod_stays hl (hr t (by simp)).1 (hr t (by simp)).2 h1 (fun x hx=>?_) (fun x hx=>hs x (by simp [hx])),ih (fun t ht=>hr t (by simp [ht])) (fun x hx=>hlt x (by simp [hx])) (fun x hx=>hs x (by simp [hx])) h2,rfl⟩
    have hb:=hblk x.block (hlt x (by simp [hx]))
    cases x with
    | cell b o=>exact World.cell?_of_block (w:=W) hb
    | map b=>exact hb
  exact go hread (fun x hx=>hlt x (by simpa using hx)) (fun x hx=>hsp x (by simpa using hx)) hA
 ·intro sp hsp
  rw [hvars,hspec]
  rfl
 ·intro j t r h1 h2
  rw [hrt] at h1 h2
  have:=ok_one (P:=C.prog) (W':=W') (f:=fn) (v:=.bool true) (t:=tb) hrt rfl (okWide_bool_mk htb true) j t r (by rw [hrt];exact h1) (by rw [hrt];exact h2)
  exact this
end Go.Sx
namespace Go.Sx
open Go Go.ChangeShapes Go.WideShapes Go.ChangeAt Go.RowKit
def Takes (P:Program) (t:TypeId) (F:SV→Prop):Prop:=
 ∀ (H:Type) (enc:TypeId × Value→H) (w:World) (base:Nat) (v:Value) (d:DataW H) (ps:List MemPlace),
  Value.okWide P w .any base t v→DataW.Trod enc P w 0 (fun _=>true) true t v d ps→∃ s,F s∧Rel (envW w 8) s v
def TakesL (P:Program):List TypeId→List (SV→Prop)→Prop
 | [],[]=>True
 | t :: ts,F :: Fs=>Takes P t F∧TakesL P ts Fs
 | _,_=>False
def AllF:List (SV→Prop)→List SV→Prop
 | [],[]=>True
 | F :: Fs,s :: ss=>F s∧AllF Fs ss
 | _,_=>False
theorem take_all {P:Program} {H:Type} {enc:TypeId × Value→H} {w:World} {base:Nat}:∀ {ts:List TypeId} {Fs:List (SV→Prop)} {vs:List Value} {ds:List (DataW H)} {ps:List MemPlace},
  TakesL P ts Fs→(∀ (j:Nat) t v,ts[j]? = some t→vs[j]? = some v→Value.okWide P w .any base t v) →
  DataW.TrodAll enc P w 0 (fun _=>true) true ts vs ds ps→∃ svs,AllF Fs svs∧RelL (envW w 8) svs vs∧ds.length = ts.length
 | [],[],vs,ds,ps,_,_,h=>by
  obtain ⟨rfl,rfl,rfl⟩:=trodAll_nil h
  exact ⟨[],trivial,rfl,rfl⟩
 | t :: ts,F :: Fs,vs,ds,ps,⟨h1,h2⟩,hv,h=>by
  obtain ⟨v,vs',d,ds',p,q,rfl,rfl,rfl,h3,h4⟩:=trodAll_cons h
  obtain ⟨s,hs,hr⟩:=h1 H enc w base v d p (hv 0 t v rfl rfl) h3
  obtain ⟨ss,hss,hrs,hd⟩:=take_all h2 (fun j t v h5 h6=>hv (j + 1) t v (by simpa using h5) (by simpa using h6)) h4
  exact ⟨s :: ss,⟨hs,hss⟩,⟨v,vs',rfl,hr,hrs⟩,by simp [hd]⟩
 | [],_ :: _,_,_,_,h,_,_=>h.elim
 | _ :: _,[],_,_,_,h,_,_=>h.elim
def isArr8 (n:Nat) (s:SV):Prop:=∃ l:List UInt8,l.length = n∧s = .a8 l
def isSl8 (es:Nat) (s:SV):Prop:=∃ (n:Nat) (l:List UInt8),l.length = n * es∧n ≤ maxLen∧s = .isl 0 n es [(n * es,.a8 l)]
def isInt (k:IntKind) (s:SV):Prop:=∃ n:Int,(Lit.int k n).wf = true∧s = .i k n
def isBool (s:SV):Prop:=∃ b:Bool,s = .bool (b = true)
def isU8 (s:SV):Prop:=∃ x:UInt8,s = .u8 x
section
variable {P:Program}
theorem takes_arr8 {t e n:Nat} (ht:P.underlying t = some (.array n e)) (he:P.underlying e = some (.int .u8)) (hc:P.cellsOf e = 1) (hct:P.cellsOf t = n):Takes P t (isArr8 n):=by
 intro H enc w base v d ps hv h
 unfold Value.okWide at hv
 rw [ht] at hv
 obtain ⟨cs,rfl,_⟩:=hv
 obtain ⟨fuel,h⟩:=h
 obtain ⟨l,hl,hcs⟩:=trod_arr8 ht he hc hct h
 refine ⟨.a8 l,⟨l,hl,rfl⟩,?_⟩
 show Value.agg cs = .agg (l.map w8).toArray
 congr 1
 apply Array.ext'
 simpa [Value.cells] using hcs
theorem takes_int {t:Nat} {k:IntKind} (ht:P.underlying t = some (.int k)):Takes P t (isInt k):=by
 intro H enc w base v d ps hv h
 obtain ⟨n,rfl,_,_,hw⟩:=open_int ht hv h
 exact ⟨.i k n,⟨n,hw,rfl⟩,rfl⟩
theorem takes_bool {t:Nat} (ht:P.underlying t = some .bool):Takes P t isBool:=by
 intro H enc w base v d ps hv h
 obtain ⟨b,rfl,_⟩:=open_bool ht hv h
 exact ⟨_,⟨b,rfl⟩,b,rfl,Iff.rfl⟩
theorem takes_u8 {t:Nat} (ht:P.underlying t = some (.int .u8)):Takes P t isU8:=by
 intro H enc w base v d ps hv h
 obtain ⟨n,rfl,_,_,hw⟩:=open_int ht hv h
 obtain ⟨x,hx⟩:=w8_of_wf hw
 exact ⟨_,⟨x,rfl⟩,hx⟩
theorem slice_cells {t e es:Nat} (k:Nat) (ht:P.underlying t = some (.slice e)) (hes:P.cellsOf e = es) (hpos:0 < es)
  {H:Type} {enc:TypeId × Value→H} {w:World}
  (hel:∀ (fuel:Nat) (ce:List Value) (y:DataW H × List MemPlace),DataW.trod enc P w 0 (fun _=>true) true fuel e ce = some y→∀ j,j < es→∃ x:UInt8,ce[j]? = some (w8 x))
  {fuel:Nat} {c:List Value} {y:DataW H × List MemPlace} (h:DataW.trod enc P w 0 (fun _=>true) true fuel t c = some y):∃ s v,isSl8 es s∧c = [v]∧RelS (envW w (k + 1)) s v:=by
 rcases trod_sl ht (by omega) h with h0 | ⟨a',len,cap',b,o,hcs,hl,hm,ha,hels⟩
 ·exact ⟨_,_,⟨0,[],by simp,by simp [maxLen],rfl⟩,h0,0,0,0,none,Or.inr ⟨by simp,rfl,trivial⟩,Nat.le_refl _,rfl,fun hh=>absurd rfl hh⟩
 ·rw [hes] at hels
  have hcell:∀ k,k < len * es→∃ x:UInt8,w.cell? ⟨b,o + k,none⟩ = some (w8 x):=by
   intro k hk
   obtain ⟨h1,h2,h3⟩:=row_index hk
   obtain ⟨ce,fu,y,hce,hc,hy⟩:=hels (k / es) h1
   obtain ⟨x,hx⟩:=hel fu ce y hy (k % es) h2
   refine ⟨x,?_⟩
   have:=hc (k % es) h2
   rw [h3] at this
   rw [this,hx]
  obtain ⟨l,hll,hlc⟩:=list_of_cells w8 (w:=w) (b:=b) (o:=o) (len * es) hcell
  refine ⟨_,_,⟨len,l,hll,by omega,rfl⟩,hcs,b,o,cap',some a',?_,hl,rfl,fun hc=>?_⟩
  ·by_cases h0:len * es = 0
   ·refine Or.inr ⟨h0,?_,trivial⟩
    exact List.length_eq_zero_iff.1 (by omega)
   ·refine Or.inl ⟨fun _=>(ha (fun hc=>h0 ?_)).2,l.map w8,⟨l.map w8,[],by simp,by simp [hll],rfl,rfl⟩,hlc⟩
    have:len = 0:=by omega
    rw [this,Nat.zero_mul]
  ·rw [(ha hc).1];simp
theorem takes_slice {t e es:Nat} (ht:P.underlying t = some (.slice e)) (hes:P.cellsOf e = es) (hpos:0 < es)
  (hel:∀ (H:Type) (enc:TypeId × Value→H) (w:World) (fuel:Nat) (ce:List Value) (y:DataW H × List MemPlace),DataW.trod enc P w 0 (fun _=>true) true fuel e ce = some y→∀ j,j < es→∃ x:UInt8,ce[j]? = some (w8 x)):Takes P t (isSl8 es):=by
 intro H enc w base v d ps hv h
 obtain ⟨fuel,h⟩:=h
 obtain ⟨a,n,cap,rfl⟩:=okWide_slice ht hv
 obtain ⟨s,v',hs,hc,hr⟩:=slice_cells 7 ht hes hpos (hel H enc w) h
 have:Value.slice a n cap = v':=by simpa [Value.cells] using hc
 obtain ⟨n',l,h1,h2,rfl⟩:=hs
 refine ⟨_,⟨n',l,h1,h2,rfl⟩,?_⟩
 rw [this]
 exact hr
theorem takes_sl8 {t e:Nat} (ht:P.underlying t = some (.slice e)) (he:P.underlying e = some (.int .u8)) (hc:P.cellsOf e = 1):Takes P t (isSl8 1):=by
 refine takes_slice ht hc (by omega) fun H enc w fuel ce y h j hj=>?_
 obtain ⟨k,hk,_,hw⟩:=DataW.trod_int he h
 obtain ⟨x,hx⟩:=w8_of_wf hw
 obtain rfl:j = 0:=by omega
 exact ⟨x,by rw [hk,hx];rfl⟩
end
theorem law_row {C:Checked} {f:FuncId} {fn:Func} {s:ChangeSpec} {apart fresh handsOn again:Bool} {H:Type} {enc:TypeId × Value→H} {tb:TypeId} {Fs:List (SV→Prop)} {ts:List TypeId}
  {W:World} {base:Nat} {args:Array Value} {ds gs:List (DataW H)} {before:List MemPlace}
  (hl:laidOutB C.prog = true) (hps:fn.params.toList = ts) (hread:(ts.all fun t=>C.prog.readableRec t && decide (t < C.prog.types.size)) = true) (hvars:s.vars = []) (hT:TakesL C.prog ts Fs)
  (hspec:∀ ds:List (DataW H),ds.length = ts.length→s.fn H ds = { results:=[.lit (.bool true)],args:=ds }) (hrt:fn.resultTypes = #[tb]) (htb:C.prog.underlying tb = some .bool)
  (hf:∀ svs,AllF Fs svs→Sx.Fn C.prog f svs [] (fun v _=>v = .tt))
  (hval:∀ (j:Nat) t v,fn.params[j]? = some t→args[j]? = some v→Value.okWide C.prog W .any base t v)
  (hW:DataW.Whole enc C.prog fn.params.toList s.vars apart W args.toList ds gs before) :
  Calls C.prog f args W fun e W'=>∃ v,e = .returned v∧s.post enc C.prog fn apart fresh handsOn again W args v W':=by
 have hW0:=hW
 rw [hvars] at hW0
 obtain ⟨p,q,hA,hV,rfl,hfz,hnd⟩:=hW0
 obtain ⟨rfl,rfl⟩:=trodVars_none hV
 rw [hps] at hA
 obtain ⟨svs,hF,hR,hd⟩:=take_all hT (fun j t v h1 h2=>hval j t v (by rw [← Array.getElem?_toList,hps];exact h1) (by rw [← Array.getElem?_toList];exact h2)) hA
 refine law_close (ρ:=envW W 8) (M0:=[]) (R:=fun v _=>v = .tt) hl (by rw [hps];exact fun t ht=>by have:=List.all_eq_true.1 hread t ht;simpa using this) hvars ?_ hrt htb (envW_conc W 8) (envW_owns W 8) hR (hf svs hF) (fun _ _ h=>h) hW
 have:=hspec (ds ++ []) (by simpa using hd)
 simpa using this
end Go.Sx
namespace Go.Sx
open Go Go.ChangeShapes Go.WideShapes Go.ChangeAt Go.RowKit
def TakesC (P:Program) (t:TypeId) (k:Nat) (F:List (Nat × SV)→Prop):Prop:=
 ∀ (H:Type) (enc:TypeId × Value→H) (w:World) (fuel:Nat) (c:List Value) (y:DataW H × List MemPlace),DataW.trod enc P w 0 (fun _=>true) true fuel t c = some y→∃ ls,F ls∧CellsL0 (envW w k) ls c
def cSl8 (es:Nat) (ls:List (Nat × SV)):Prop:=∃ (n:Nat) (l:List UInt8),l.length = n * es∧n ≤ maxLen∧ls = [(1,.isl 0 n es [(n * es,.a8 l)])]
def cSl (es:Nat) (D:List (Nat × SV)) (F:List (Nat × SV)→Prop) (ls:List (Nat × SV)):Prop:=∃ (n:Nat) (L:Nat→List (Nat × SV)),(∀ q,q < n→F (L q))∧(∀ q,n ≤ q→L q = D)∧n ≤ maxLen∧ls = [(1,.isl 0 n es [(n * es,.arr n es L)])]
section
variable {P:Program}
theorem takesC_sl8 {t e es k:Nat} (ht:P.underlying t = some (.slice e)) (hes:P.cellsOf e = es) (hpos:0 < es)
  (hel:∀ (H:Type) (enc:TypeId × Value→H) (w:World) (fuel:Nat) (ce:List Value) (y:DataW H × List MemPlace),DataW.trod enc P w 0 (fun _=>true) true fuel e ce = some y→∀ j,j < es→∃ x:UInt8,ce[j]? = some (w8 x)):TakesC P t (k + 1) (cSl8 es):=by
 intro H enc w fuel c y h
 obtain ⟨s,v,⟨n,l,h1,h2,rfl⟩,rfl,hr⟩:=slice_cells k ht hes hpos (hel H enc w) h
 exact ⟨_,⟨n,l,h1,h2,rfl⟩,[v],[],rfl,rfl,⟨v,hr,rfl⟩,rfl⟩
theorem takesC_slU8 {t e k:Nat} (ht:P.underlying t = some (.slice e)) (he:P.underlying e = some (.int .u8)) (hc:P.cellsOf e = 1):TakesC P t (k + 1) (cSl8 1):=by
 refine takesC_sl8 ht hc (by omega) fun H enc w fuel ce y h j hj=>?_
 obtain ⟨k,hk,_,hw⟩:=DataW.trod_int he h
 obtain ⟨x,hx⟩:=w8_of_wf hw
 obtain rfl:j = 0:=by omega
 exact ⟨x,by rw [hk,hx];rfl⟩
theorem slice_els {t e es:Nat} (ht:P.underlying t = some (.slice e)) (hes:P.cellsOf e = es) (hpos:0 < es) {H:Type} {enc:TypeId × Value→H} {w:World} {fuel:Nat} {c:List Value} {y:DataW H × List MemPlace}
  (h:DataW.trod enc P w 0 (fun _=>true) true fuel t c = some y) :
  c = [.slice none 0 0] ∨ ∃ (a:Addr) (n cap b o:Nat) (C:Nat→List Value),c = [.slice (some a) n cap]∧n ≤ cap∧cap ≤ maxLen∧(cap ≠ 0→a = ⟨b,o,none⟩∧b < w.heap.size) ∧
   ∀ q,q < n→(C q).length = es∧(∀ j,j < es→w.cell? ⟨b,o + (q * es + j),none⟩ = (C q)[j]?)∧∃ fu z,DataW.trod enc P w 0 (fun _=>true) true fu e (C q) = some z:=by
 rcases trod_sl ht (by omega) h with h0 | ⟨a,n,cap,b,o,hcs,hl,hm,ha,hels⟩
 ·exact Or.inl h0
 ·right
  have hq:∀ q:Nat,∃ ce:List Value,q < n→ce.length = es∧(∀ j,j < es→w.cell? ⟨b,o + (q * es + j),none⟩ = ce[j]?)∧∃ fu z,DataW.trod enc P w 0 (fun _=>true) true fu e ce = some z:=by
   intro q
   by_cases hlt:q < n
   ·obtain ⟨ce,fu,z,h1,h2,h3⟩:=hels q hlt
    rw [hes] at h1 h2
    exact ⟨ce,fun _=>⟨h1,h2,fu,z,h3⟩⟩
   ·exact ⟨[],fun h=>absurd h hlt⟩
  obtain ⟨C,hC⟩:=Classical.axiomOfChoice hq
  exact ⟨a,n,cap,b,o,C,hcs,hl,hm,ha,hC⟩
def catC (C:Nat→List Value):Nat→List Value
 | 0=>[]
 | n + 1=>catC C n ++ C n
theorem catC_length {C:Nat→List Value} {es:Nat}:∀ {n:Nat},(∀ q,q < n→(C q).length = es)→(catC C n).length = n * es
 | 0,_=>by simp [catC]
 | n + 1,h=>by simp only [catC,List.length_append];rw [catC_length fun q hq=>h q (by omega),h n (by omega),Nat.add_mul,Nat.one_mul]
theorem catC_row {C:Nat→List Value} {es:Nat}:∀ {n:Nat},(∀ q,q < n→(C q).length = es)→∀ q,q < n→((catC C n).drop (q * es)).take es = C q
 | 0,_,q,hq=>absurd hq (Nat.not_lt_zero _)
 | n + 1,h,q,hq=>by
  have hl:=catC_length (C:=C) (es:=es) (n:=n) fun q hq=>h q (by omega)
  have hn:=h n (by omega)
  simp only [catC]
  by_cases hqn:q = n
  ·subst hqn
   rw [List.drop_append,hl,Nat.sub_self,List.drop_of_length_le (by omega)]
   simp [← hn]
  ·have hlt:q < n:=by omega
   have hle:(q + 1) * es ≤ n * es:=Nat.mul_le_mul_right _ hlt
   rw [Nat.add_mul,Nat.one_mul] at hle
   rw [List.drop_append_of_le_length (by omega),List.take_append_of_le_length (by rw [List.length_drop];omega)]
   exact catC_row (fun q hq=>h q (by omega)) q hlt
theorem catC_get {C:Nat→List Value} {es:Nat} (hpos:0 < es) {n:Nat} (h:∀ q,q < n→(C q).length = es) {j:Nat} {v:Value} (hj:(catC C n)[j]? = some v):∃ q k,q < n∧k < es∧j = q * es + k∧(C q)[k]? = some v:=by
 have hlt:=(List.getElem?_eq_some_iff.1 hj).1
 rw [catC_length h] at hlt
 have hq:j / es < n:=Nat.div_lt_of_lt_mul (by rw [Nat.mul_comm];exact hlt)
 have hk:=Nat.mod_lt j hpos
 have hjq:j = j / es * es + j % es:=by rw [Nat.mul_comm];exact (Nat.div_add_mod j es).symm
 refine ⟨j / es,j % es,hq,hk,hjq,?_⟩
 rw [← catC_row h (j / es) hq,List.getElem?_take,if_pos hk,List.getElem?_drop,← hjq]
 exact hj
theorem takesC_sl {t e es k:Nat} {D:List (Nat × SV)} {F:List (Nat × SV)→Prop} (ht:P.underlying t = some (.slice e)) (hes:P.cellsOf e = es) (hpos:0 < es) (he:TakesC P e k F):TakesC P t (k + 1) (cSl es D F):=by
 intro H enc w fuel c y h
 rcases slice_els ht hes hpos h with rfl | ⟨a,n,cap,b,o,C,rfl,hl,hm,ha,hC⟩
 ·exact ⟨_,⟨0,fun _=>D,fun q hq=>absurd hq (Nat.not_lt_zero _),fun _ _=>rfl,by simp [maxLen],rfl⟩,[_],[],rfl,rfl,⟨_,⟨0,0,0,none,Or.inr ⟨by simp,rfl,trivial⟩,Nat.le_refl _,rfl,fun hh=>absurd rfl hh⟩,rfl⟩,rfl⟩
 ·have hq:∀ q:Nat,∃ ls:List (Nat × SV),(q < n→F ls∧CellsL0 (envW w k) ls (C q))∧(n ≤ q→ls = D):=by
   intro q
   by_cases hlt:q < n
   ·obtain ⟨_,_,fu,z,h3⟩:=hC q hlt
    obtain ⟨ls,k1,k2⟩:=he H enc w fu _ z h3
    exact ⟨ls,fun _=>⟨k1,k2⟩,fun h=>absurd h (by omega)⟩
   ·exact ⟨D,fun h=>absurd h hlt,fun _=>rfl⟩
  obtain ⟨L,hL⟩:=Classical.axiomOfChoice hq
  have hlen:∀ q,q < n→(C q).length = es:=fun q hq=>(hC q hq).1
  refine ⟨_,⟨n,L,fun q hq=>((hL q).1 hq).1,fun q hq=>(hL q).2 hq,by omega,rfl⟩,[_],[],rfl,rfl,⟨_,⟨b,o,cap,some a,?_,hl,rfl,fun hc=>?_⟩,rfl⟩,rfl⟩
  ·by_cases h0:n = 0
   ·subst h0
    exact Or.inr ⟨by simp,rfl,trivial⟩
   ·refine Or.inl ⟨fun _=>(ha (fun hc=>h0 (by omega))).2,catC C n,⟨catC C n,[],by simp,catC_length hlen,⟨catC_length hlen,fun q hq=>?_⟩,rfl⟩,fun j v hj=>?_⟩
    ·rw [catC_row hlen q hq]
     exact ((hL q).1 hq).2
    ·obtain ⟨q,x,h1,h2,rfl,h3⟩:=catC_get hpos hlen hj
     rw [(hC q h1).2.1 x h2,h3]
  ·rw [(ha hc).1];simp
theorem AllF_cons {F:SV→Prop} {Fs:List (SV→Prop)} {svs:List SV} (h:AllF (F :: Fs) svs):∃ s r,svs = s :: r∧F s∧AllF Fs r:=by
 cases svs with
 | nil=>exact h.elim
 | cons s r=>exact ⟨s,r,rfl,h.1,h.2⟩
theorem AllF_nil {svs:List SV} (h:AllF [] svs):svs = []:=by
 cases svs with
 | nil=>rfl
 | cons s r=>exact h.elim
def isOfSl (es:Nat) (D:List (Nat × SV)) (F:List (Nat × SV)→Prop) (s:SV):Prop:=∃ (n:Nat) (L:Nat→List (Nat × SV)),(∀ q,q < n→F (L q))∧(∀ q,n ≤ q→L q = D)∧n ≤ maxLen∧s = .isl 0 n es [(n * es,.arr n es L)]
theorem takes_ofSl {t e es:Nat} {D:List (Nat × SV)} {F:List (Nat × SV)→Prop} (ht:P.underlying t = some (.slice e)) (hes:P.cellsOf e = es) (hpos:0 < es) (he:TakesC P e 7 F):Takes P t (isOfSl es D F):=by
 intro H enc w base v d ps hv h
 obtain ⟨fuel,h⟩:=h
 obtain ⟨a,n,cap,rfl⟩:=okWide_slice ht hv
 obtain ⟨ls,⟨n',L,h1,h1d,h2,rfl⟩,c1,c2,e1,_,⟨x,hx,e3⟩,e2⟩:=takesC_sl (D:=D) ht hes hpos he H enc w fuel _ _ h
 have e2:c2 = []:=e2
 subst e2;subst e3
 have:Value.slice a n cap = x:=by simpa [Value.cells] using e1
 subst this
 exact ⟨_,⟨n',L,h1,h1d,h2,rfl⟩,hx⟩
end
end Go.Sx
namespace Go.Sx
open Go Go.ChangeShapes Go.WideShapes Go.ChangeAt Go.RowKit
section
variable {P:Program}
end
end Go.Sx
namespace Go.Sx
open Go Go.ChangeShapes Go.WideShapes Go.ChangeAt Go.RowKit
section
variable {P:Program}
end
end Go.Sx
namespace Go.Sx
open Go
abbrev rnd (l:Nat):Fence:=Fence.wide.inRound l
theorem Conc.sub {N:Nat} {ρ:Env} {T T0:Tm} {M:Mm} {a:Act} {w:World} (hc:Conc N ρ T M a w) (h:∀ d,getT T0 d = .und ∨ getT T0 d = getT T d):Conc N ρ T0 M a w:=
 ⟨hc.toConcM,hc.sz,hc.defers,fun d=>by
  rcases h d with h | h
  ·rw [h];exact RelT_of_Rel trivial
  ·rw [h];exact hc.tm d⟩
end Go.Sx
