/- A symbolic executor over the code of this model: part 6. No condition. -/
import Derived.Test.YtlbmkjckbfeejaaHx5
set_option linter.unusedSimpArgs false
set_option linter.unusedVariables false
namespace Go.Sx
open Go
def Env.lim (ρ:Env) (M:Mm):Env:=⟨fun a=>ρ.dom a∧(getM M a).isSome = true,ρ.pos,ρ.imm⟩
theorem Env.lim_le (ρ:Env) (M:Mm):(ρ.lim M).le ρ:=⟨fun _ h=>⟨h.1,rfl⟩,fun _ _ _ h=>h⟩
theorem getM_append:∀ (E M:Mm) (a:Nat),getM (E ++ M) a = match getM E a with
  | some e=>some e
  | none=>getM M a
 | [],M,a=>rfl
 | (k,e) :: r,M,a=>by
  by_cases h:a = k
  ·subst h;rw [List.cons_append,getM_cons_self,getM_cons_self]
  ·rw [List.cons_append,getM_cons_ne h,getM_cons_ne h];exact getM_append r M a
theorem getM_append_new {E M:Mm} {a:Nat} {e:Ent} (h:getM E a = some e):getM (E ++ M) a = some e:=by rw [getM_append,h]
theorem getM_append_old {E M:Mm} {a:Nat} (h:getM E a = none):getM (E ++ M) a = getM M a:=by rw [getM_append,h]
theorem SatE.lim {ρ:Env} {M:Mm} {w:World} {pos:Nat × Nat} {e:Ent} (h:SatE (ρ.lim M) w pos e):SatE ρ w pos e:=
 SatE.of_same (Env.lim_le ρ M) (Nat.le_refl _) (fun _ _ _=>⟨rfl,rfl⟩) (fun _ _ _=>rfl) h
theorem RelS.both {ρ ρ':Env} {M:Mm} (hd:∀ a,ρ'.dom a→(getM M a).isSome = true) {v:SV} {x x':Value} (r:RelS ρ v x) (r':RelS ρ' v x'):RelS (ρ.lim M) v x:=by
 cases v <;> simp only [RelS] at r r' ⊢ <;> try exact r
 case ptr a f i=>exact ⟨⟨r.1,hd _ r'.1⟩,r.2⟩
 case sl a f i n c=>exact ⟨⟨r.1,hd _ r'.1⟩,r.2⟩
 case slx a f i n=>exact ⟨⟨r.1,hd _ r'.1⟩,r.2⟩
 case fn f cap=>exact ⟨fun p hp=>⟨r.1 p hp,hd _ (r'.1 p hp)⟩,r.2⟩
 case mp a=>exact ⟨⟨r.1,hd _ r'.1⟩,r.2⟩
 case ep a f q s=>exact ⟨⟨r.1,hd _ r'.1⟩,r.2⟩
theorem Cells1.both {ρ ρ':Env} {M:Mm} (hd:∀ a,ρ'.dom a→(getM M a).isSome = true) {v:SV} {cs cs':List Value} (r:Cells1 ρ v cs) (r':Cells1 ρ' v cs'):Cells1 (ρ.lim M) v cs:=by
 cases v <;> simp only [Cells1] at r r' ⊢ <;> first | exact r | (obtain ⟨x,hx,rfl⟩:=r;obtain ⟨x',hx',_⟩:=r';exact ⟨x,hx.both hd hx',rfl⟩) | exact ⟨r.1,fun q hq=>r.2 q hq⟩
theorem CellsL.both {ρ ρ':Env} {M:Mm} (hd:∀ a,ρ'.dom a→(getM M a).isSome = true):∀ {ls:List (Nat × SV)} {cs cs':List Value},CellsL ρ ls cs→CellsL ρ' ls cs'→CellsL (ρ.lim M) ls cs
 | [],_,_,r,_=>r
 | (_,_) :: _,_,_,⟨c1,c2,e,hl,h1,h2⟩,⟨_,_,_,_,k1,k2⟩=>⟨c1,c2,e,hl,h1.both hd k1,CellsL.both hd h2 k2⟩
theorem Rel.both {ρ ρ':Env} {M:Mm} (hd:∀ a,ρ'.dom a→(getM M a).isSome = true) {v:SV} {x x':Value} (r:Rel ρ v x) (r':Rel ρ' v x'):Rel (ρ.lim M) v x:=by
 cases v <;> simp only [Rel] at r r' ⊢ <;> first | exact r | exact RelS.both hd r r' | (obtain ⟨cs,hc,e⟩:=r;obtain ⟨cs',hc',_⟩:=r';exact ⟨cs,hc.both hd hc',e⟩)
theorem RelL.both {ρ ρ':Env} {M:Mm} (hd:∀ a,ρ'.dom a→(getM M a).isSome = true):∀ {vs:List SV} {xs xs':List Value},RelL ρ vs xs→RelL ρ' vs xs'→RelL (ρ.lim M) vs xs
 | [],_,_,r,_=>r
 | _ :: _,_,_,⟨x,ys,e,h1,h2⟩,⟨_,_,_,k1,k2⟩=>⟨x,ys,e,h1.both hd k1,RelL.both hd h2 k2⟩
theorem RelT.both {ρ ρ':Env} {M:Mm} (hd:∀ a,ρ'.dom a→(getM M a).isSome = true) {v:SV} {x x':Value} (r:RelT ρ v x) (r':RelT ρ' v x'):RelT (ρ.lim M) v x:=by
 cases v <;> simp only [RelT] at r r' ⊢ <;> first | exact Rel.both hd r r' | (obtain ⟨xs,hx,e⟩:=r;obtain ⟨xs',hx',_⟩:=r';exact ⟨xs,hx.both hd hx',e⟩)
def ToldT (M:Mm) (v:SV):Prop:=∃ (ρ:Env) (x:Value),(∀ a,ρ.dom a→(getM M a).isSome = true)∧RelT ρ v x
def ToldE (M:Mm) (e:Ent):Prop:=∃ (ρ:Env) (w:World) (pos:Nat × Nat),(∀ a,ρ.dom a→(getM M a).isSome = true)∧SatE ρ w pos e
theorem ToldT.rel {M:Mm} {v:SV} (h:ToldT M v) {ρ:Env} {x:Value} (r:RelT ρ v x):RelT (ρ.lim M) v x:=by
 obtain ⟨ρ',x',hd,r'⟩:=h
 exact r.both hd r'
theorem ToldE.sat {M:Mm} {e:Ent} (h:ToldE M e) {ρ:Env} {w:World} {pos:Nat × Nat} (r:SatE ρ w pos e):SatE (ρ.lim M) w pos e:=by
 obtain ⟨ρ',w',pos',hd,r'⟩:=h
 cases e with
 | dead=>trivial
 | mem own sp ls=>
  obtain ⟨cs,h1,h2,h3,h4⟩:=r
  obtain ⟨cs',k1,_⟩:=r'
  exact ⟨cs,h1.both hd k1,h2,h3,h4⟩
 | map m=>exact r
theorem ToldT.mono {M M':Mm} (h:∀ a e,getM M a = some e→∃ e',getM M' a = some e') {v:SV} (t:ToldT M v):ToldT M' v:=by
 obtain ⟨ρ',x',hd,r'⟩:=t
 refine ⟨ρ',x',fun a ha=>?_,r'⟩
 obtain ⟨e,he⟩:=Option.isSome_iff_exists.1 (hd a ha)
 obtain ⟨e',he'⟩:=h a e he
 rw [he'];rfl
theorem ToldE.mono {M M':Mm} (h:∀ a e,getM M a = some e→∃ e',getM M' a = some e') {v:Ent} (t:ToldE M v):ToldE M' v:=by
 obtain ⟨ρ',w',x',hd,r'⟩:=t
 refine ⟨ρ',w',x',fun a ha=>?_,r'⟩
 obtain ⟨e,he⟩:=Option.isSome_iff_exists.1 (hd a ha)
 obtain ⟨e',he'⟩:=h a e he
 rw [he'];rfl
theorem ConcM.told {ρ:Env} {M:Mm} {w:World} (h:ConcM ρ M w) {a:Nat} {e:Ent} (he:getM M a = some e):ToldE M e:=
 ⟨ρ,w,_,fun b hb=>Option.isSome_iff_exists.2 (h.dom b hb),h.sat a e he⟩
theorem ConcM.toldT {ρ:Env} {M:Mm} {w:World} (h:ConcM ρ M w) {v:SV} {x:Value} (r:RelT ρ v x):ToldT M v:=
 ⟨ρ,x,fun b hb=>Option.isSome_iff_exists.2 (h.dom b hb),r⟩
structure Sub (Mi M:Mm):Prop where
 sub:∀ a e,getM Mi a = some e→getM M a = some e
 told:∀ a e,getM Mi a = some e→ToldE Mi e
theorem Sub.conc {ρ:Env} {Mi M:Mm} {w:World} (hs:Sub Mi M) (h:ConcM ρ M w):ConcM (ρ.lim Mi) Mi w where
 dom a ha:=Option.isSome_iff_exists.1 ha.2
 mod a e he:=⟨h.mod a e (hs.sub a e he),by rw [he];rfl⟩
 sat a e he:=(hs.told a e he).sat (h.sat a e (hs.sub a e he))
 sep a b e e' ha hb:=h.sep a b e e' (hs.sub a e ha) (hs.sub b e' hb)
 imm:=h.imm
 isep b o hi ho:=h.isep b o hi (by obtain ⟨a,e,h1,h2⟩:=ho;exact ⟨a,e,hs.sub a e h1,h2⟩)
theorem ConcM.frame {ρ ρ':Env} {M Mi E:Mm} {w w':World} (h:ConcM ρ M w) (hs:Sub Mi M) (hle:(ρ.lim Mi).le ρ') (h':ConcM ρ' (E ++ Mi) w') (hst:Step (ρ.lim Mi) Mi ρ' (E ++ Mi) w w')
  (hE:∀ a e,getM E a = some e→(getM M a = none∧e.loose = true) ∨ (e = .dead∧∃ e0,getM Mi a = some e0)) :
  ∃ ρ'',ρ.le ρ''∧ρ'.le ρ''∧ConcM ρ'' (E ++ M) w'∧Step ρ M ρ'' (E ++ M) w w':=by
 have hMi:∀ {a e},getM Mi a = some e→getM M a = some e:=fun {a e} he=>hs.sub a e he
 have hEi:∀ {a e},getM Mi a = some e→getM E a = none→getM (E ++ Mi) a = some e:=fun {a e} he hn=>by
  rw [getM_append_old hn];exact he
 have posi:∀ {a e},getM Mi a = some e→ρ'.pos a = ρ.pos a:=fun {a e} he=>(hle a ⟨h.mod a e (hMi he),by rw [he];rfl⟩).2
 have both:∀ {a},ρ.dom a→ρ'.dom a→ρ'.pos a = ρ.pos a:=by
  intro a h1 h2
  obtain ⟨e,he⟩:=h'.dom a h2
  obtain ⟨e0,he0⟩:=h.dom a h1
  cases hx:getM E a with
  | none=>
   rw [getM_append_old hx] at he
   exact posi he
  | some e'=>
   rcases hE a e' hx with h3 | ⟨_,e1,h3⟩
   ·rw [h3.1] at he0;cases he0
   ·exact posi h3
 classical
 let ρ2:Env:=⟨fun a=>ρ.dom a ∨ ρ'.dom a,fun a=>if ρ.dom a then ρ.pos a else ρ'.pos a,ρ'.imm⟩
 have p1:∀ {a},ρ.dom a→ρ2.pos a = ρ.pos a:=fun {a} ha=>by simp only [ρ2];rw [if_pos ha]
 have p2:∀ {a},ρ'.dom a→ρ2.pos a = ρ'.pos a:=fun {a} ha=>by
  by_cases hd:ρ.dom a
  ·rw [p1 hd,both hd ha]
  ·simp only [ρ2];rw [if_neg hd]
 have l1:ρ.le ρ2:=⟨fun a ha=>⟨Or.inl ha,p1 ha⟩,hle.im⟩
 have l2:ρ'.le ρ2:=⟨fun a ha=>⟨Or.inr ha,p2 ha⟩,fun _ _ _ h=>h⟩
 have ownI:∀ {b o},Owns (ρ.lim Mi) Mi b o→Owns ρ M b o:=by
  rintro b o ⟨a,e,h1,h2,h3⟩
  exact ⟨a,e,hMi h1,h2,h3⟩
 have rest:∀ {a e},getM M a = some e→getM Mi a = none→∀ b o,foot (ρ.pos a) e b o→b < w.heap.size∧¬ Owns (ρ.lim Mi) Mi b o:=by
  intro a e he hn b o hf
  refine ⟨foot_lt (h.sat a e he) hf,?_⟩
  rintro ⟨c,e',h1,h2,h3⟩
  have hne:c ≠ a:=by rintro rfl;rw [hn] at h1;cases h1
  exact h.sep c a e' e (hMi h1) he hne h2 b o h3 hf
 have cases':∀ {a e},getM (E ++ M) a = some e→(getM (E ++ Mi) a = some e∧ρ'.dom a∧(getM E a = some e ∨ getM Mi a = some e)) ∨ (getM M a = some e∧getM Mi a = none∧getM E a = none∧ρ.dom a):=by
  intro a e he
  cases hx:getM E a with
  | some e'=>
   rw [getM_append_new hx] at he
   have:getM (E ++ Mi) a = some e:=by rw [getM_append_new hx];exact he
   exact Or.inl ⟨this,h'.mod a e this,Or.inl (by rw [← he])⟩
  | none=>
   rw [getM_append_old hx] at he
   cases hy:getM Mi a with
   | some e'=>
    have:=hMi hy
    rw [he] at this
    simp only [Option.some.injEq] at this;subst this
    exact Or.inl ⟨hEi hy hx,h'.mod a e (hEi hy hx),Or.inr rfl⟩
   | none=>exact Or.inr ⟨he,rfl,rfl,h.mod a e he⟩
 have isep2:∀ b o,ImmC ρ2 b o→¬ Owns ρ2 (E ++ M) b o:=by
  rintro b o hi ⟨a,e,ha,ho,hf⟩
  rcases cases' ha with ⟨h1,h2,_⟩ | ⟨h1,h2,_,h4⟩
  ·rw [p2 h2] at hf
   exact h'.isep b o hi ⟨a,e,h1,ho,hf⟩
  ·rw [p1 h4] at hf
   obtain ⟨q1,q2⟩:=rest h1 h2 b o hf
   rcases hst.immo b o q1 hi with h5 | h5
   ·exact h.isep b o h5 ⟨a,e,h1,ho,hf⟩
   ·exact q2 h5
 refine ⟨ρ2,l1,l2,⟨?_,?_,?_,?_,h'.imm,isep2⟩,hst.size,hst.os,hst.output,?_,?_,?_,fun b o hb hi=>(hst.immo b o hb hi).imp (fun h=>h) ownI⟩
 ·rintro a (ha | ha)
  ·obtain ⟨e,he⟩:=h.dom a ha
   cases hx:getM E a with
   | some e'=>exact ⟨e',getM_append_new hx⟩
   | none=>exact ⟨e,by rw [getM_append_old hx];exact he⟩
  ·obtain ⟨e,he⟩:=h'.dom a ha
   cases hx:getM E a with
   | some e'=>exact ⟨e',getM_append_new hx⟩
   | none=>
    rw [getM_append_old hx] at he
    exact ⟨e,by rw [getM_append_old hx];exact hMi he⟩
 ·intro a e he
  rcases cases' he with ⟨_,h2,_⟩ | ⟨_,_,_,h2⟩
  ·exact Or.inr h2
  ·exact Or.inl h2
 ·intro a e he
  rcases cases' he with ⟨h1,h2,_⟩ | ⟨h1,h2,_,h4⟩
  ·rw [p2 h2]
   exact SatE.of_same l2 (Nat.le_refl _) (fun _ _ _=>⟨rfl,rfl⟩) (fun _ _ _=>rfl) (h'.sat a e h1)
  ·rw [p1 h4]
   exact SatE.of_same l1 hst.size (fun b o hf=>by
    obtain ⟨q1,q2⟩:=rest h1 h2 b o hf
    exact hst.cell b o q1 q2) (fun b hb hf=>hst.blk b hb fun o ho=>(rest h1 h2 b o (hf o)).2 ho) (h.sat a e h1)
 ·intro a b e e' ha hb hne ho k o hf hf'
  rcases cases' ha with ⟨a1,a2,a3⟩ | ⟨a1,a2,a3,a4⟩
  ·rw [p2 a2] at hf
   rcases cases' hb with ⟨b1,b2,_⟩ | ⟨b1,b2,b3,b4⟩
   ·rw [p2 b2] at hf'
    exact h'.sep a b e e' a1 b1 hne ho k o hf hf'
   ·rw [p1 b4] at hf'
    obtain ⟨q1,q2⟩:=rest b1 b2 k o hf'
    exact q2 (hst.own k o q1 ⟨a,e,a1,ho,hf⟩)
  ·rw [p1 a4] at hf
   rcases cases' hb with ⟨b1,b2,b3⟩ | ⟨b1,b2,b3,b4⟩
   ·rw [p2 b2] at hf'
    rcases b3 with b3 | b3
    ·obtain ⟨q1,q2⟩:=rest a1 a2 k o hf
     cases e' with
     | dead=>exact hf'
     | mem own' sp' ls'=>
      have hl:(Ent.mem own' sp' ls').loose = true:=by
       rcases hE b _ b3 with h5 | ⟨h5,_⟩
       ·exact h5.2
       ·cases h5
      cases own' with
      | true=>exact q2 (hst.own k o q1 ⟨b,_,b1,rfl,hf'⟩)
      | false=>
       simp only [Ent.loose,Bool.false_or,bne_iff_ne] at hl
       obtain ⟨_,_,k2,_⟩:=h'.sat b _ b1
       have hi:=h'.immO_sep (k2.2 rfl hl) (k:=k) (p:=o) hf'
       rcases hst.immo k o q1 hi with h5 | h5
       ·exact h.isep k o h5 ⟨a,e,a1,ho,hf⟩
       ·exact q2 h5
     | map m=>exact q2 (hst.own k o q1 ⟨b,_,b1,rfl,hf'⟩)
    ·rw [posi b3] at hf'
     exact h.sep a b e e' a1 (hMi b3) hne ho k o hf hf'
   ·rw [p1 b4] at hf'
    exact h.sep a b e e' a1 b1 hne ho k o hf hf'
 ·intro b hb ho
  exact hst.blk b hb fun o hc=>ho o (ownI hc)
 ·intro b o hb ho
  exact hst.cell b o hb fun hc=>ho (ownI hc)
 ·rintro b o hb ⟨a,e,ha,ho,hf⟩
  rcases cases' ha with ⟨h1,h2,_⟩ | ⟨h1,h2,_,h4⟩
  ·rw [p2 h2] at hf
   exact ownI (hst.own b o hb ⟨a,e,h1,ho,hf⟩)
  ·rw [p1 h4] at hf
   exact ⟨a,e,h1,ho,hf⟩
theorem Oper.wp_put {P:Program} {o:Oper} {a:Act} {w:World} {K:Act→World→Prop} {Q:Exit→Act→World→Prop} (h:o.wp P a w K Q) :
  o.wp P a w (fun a' w'=>(∃ x,a'.tmps = (a.put o.dst x).tmps)∧K a' w') Q:=by
 have hd:∀ d x,({ a with defers:=d :: a.defers }.put o.dst x).tmps = (a.put o.dst x).tmps:=by
  intro d x
  unfold Act.put
  cases o.dst <;> rfl
 unfold Oper.wp at *
 generalize (execOp a.eval o).run P w = r at *
 cases r with
 | ok n w'=>
  cases n <;> simp only [Oper.upon] at h ⊢
  case value v=>exact ⟨⟨v,rfl⟩,h⟩
  case skip=>exact ⟨⟨undef,rfl⟩,h⟩
  case defer d=>exact ⟨⟨undef,hd d _⟩,h⟩
  case enter f args=>
   refine Calls.mono h fun e w'' he=>?_
   cases e with
   | returned v=>exact ⟨⟨v,rfl⟩,he⟩
   | panicked c=>exact he
   | outgrown=>exact he
  case row row args=>exact Rows.mono h fun u w'' he=>⟨⟨u,rfl⟩,he⟩
 | halt x w'=>
  cases x <;> simp only [Oper.upon] at h ⊢
  exact h
end Go.Sx
namespace Go.Sx
open Go
structure Rec where
 ix:Nat
 dst:Option Nat
 v:SV
 new:Mm
 dep:List Nat
 rd:List Nat
def recT (p:Nat→Bool) (T0:Tm):List Rec→Tm
 | []=>T0
 | r :: q=>bif p r.ix then putT r.dst r.v (recT p T0 q) else recT p T0 q
def recM (p:Nat→Bool) (M0:Mm):List Rec→Mm
 | []=>M0
 | r :: q=>bif p r.ix then r.new ++ recM p M0 q else recM p M0 q
def restr (T:Tm):List Nat→Tm
 | []=>[]
 | s :: r=>(s,getT T s) :: restr T r
def allB (_:Nat):Bool:=true
def inB (l:List Nat) (j:Nat):Bool:=memB j l
def plus (p:Nat→Bool) (i:Nat):Nat→Bool:=fun j=>Nat.beq j i || p j
theorem plus_self (p:Nat→Bool) (i:Nat):plus p i i = true:=by simp [plus]
theorem plus_old {p:Nat→Bool} {i j:Nat} (h:p j = true):plus p i j = true:=by simp [plus,h]
theorem plus_ne {p:Nat→Bool} {i j:Nat} (h:j ≠ i):plus p i j = p j:=by
 have:Nat.beq j i = false:=by
  cases hb:Nat.beq j i with
  | false=>rfl
  | true=>exact absurd (beq_eq' hb) h
 simp [plus,this]
theorem plus_cases {p:Nat→Bool} {i j:Nat} (h:plus p i j = true):j = i ∨ p j = true:=by
 by_cases hj:j = i
 ·exact Or.inl hj
 ·rw [plus_ne hj] at h;exact Or.inr h
def okNew (M0:Mm) (q:List Rec) (r:Rec):Prop:=∀ a e,getM r.new a = some e →
 (getM (recM allB M0 q) a = none∧e.loose = true∧e ≠ .dead) ∨
 (e = .dead∧(∃ e0,getM (recM (inB r.dep) M0 q) a = some e0)∧∀ x ∈ q,x.ix ∉ r.dep→getM x.new a = none∧getM (recM (inB x.dep) M0 q) a = none)
def wfM (M0:Mm):List Rec→Prop
 | []=>True
 | r :: q=>okNew M0 q r∧wfM M0 q
theorem inB_false {l:List Nat} {j:Nat} (h:inB l j = false):j ∉ l:=fun hm=>by
 have:=memB_iff.2 hm
 unfold inB at h;rw [this] at h;cases h
theorem inB_no {l:List Nat} {j:Nat} (h:j ∉ l):inB l j = false:=by
 cases hb:inB l j with
 | false=>rfl
 | true=>exact absurd (memB_iff.1 hb) h
section
variable {M0:Mm}
theorem recM_inv {p:Nat→Bool}:∀ {rs:List Rec} {a:Nat} {e:Ent},getM (recM p M0 rs) a = some e→getM M0 a = some e ∨ ∃ r ∈ rs,p r.ix = true∧getM r.new a = some e
 | [],_,_,h=>Or.inl h
 | r :: q,a,e,h=>by
  simp only [recM] at h
  cases hp:p r.ix with
  | false=>
   rw [hp,cond_false] at h
   rcases recM_inv h with h | ⟨r',h1,h2⟩
   ·exact Or.inl h
   ·exact Or.inr ⟨r',List.mem_cons_of_mem _ h1,h2⟩
  | true=>
   rw [hp,cond_true] at h
   cases hx:getM r.new a with
   | some e'=>rw [getM_append_new hx] at h;exact Or.inr ⟨r,by simp,hp,by rw [hx,h]⟩
   | none=>
    rw [getM_append_old hx] at h
    rcases recM_inv h with h | ⟨r',h1,h2⟩
    ·exact Or.inl h
    ·exact Or.inr ⟨r',List.mem_cons_of_mem _ h1,h2⟩
theorem recM_ex {p q:Nat→Bool}:∀ {rs:List Rec} (_:∀ r ∈ rs,p r.ix = true→q r.ix = true) {a:Nat},(∃ e,getM (recM p M0 rs) a = some e)→∃ e,getM (recM q M0 rs) a = some e
 | [],_,_,h=>h
 | r :: t,hpq,a,h=>by
  simp only [recM] at h ⊢
  have ih:(∃ e,getM (recM p M0 t) a = some e)→∃ e,getM (recM q M0 t) a = some e:=recM_ex fun r' hr'=>hpq r' (List.mem_cons_of_mem _ hr')
  have up:(∃ e,getM (recM p M0 t) a = some e)→∃ e,getM (bif q r.ix then r.new ++ recM q M0 t else recM q M0 t) a = some e:=by
   intro h
   obtain ⟨e,he⟩:=ih h
   cases hq:q r.ix with
   | false=>exact ⟨e,he⟩
   | true=>
    rw [cond_true]
    cases hx:getM r.new a with
    | some e'=>exact ⟨e',getM_append_new hx⟩
    | none=>exact ⟨e,by rw [getM_append_old hx];exact he⟩
  cases hp:p r.ix with
  | false=>rw [hp] at h;exact up h
  | true=>
   rw [hp,cond_true] at h
   obtain ⟨e,he⟩:=h
   cases hx:getM r.new a with
   | some e'=>rw [hpq r (by simp) hp,cond_true];exact ⟨e',getM_append_new hx⟩
   | none=>rw [getM_append_old hx] at he;exact up ⟨e,he⟩
theorem recM_nx {p q:Nat→Bool} {rs:List Rec} (h:∀ r ∈ rs,p r.ix = true→q r.ix = true) {a:Nat} (hn:getM (recM q M0 rs) a = none):getM (recM p M0 rs) a = none:=by
 cases hx:getM (recM p M0 rs) a with
 | none=>rfl
 | some e=>
  obtain ⟨e',he⟩:=recM_ex h ⟨e,hx⟩
  rw [hn] at he;cases he
theorem recM_has {p:Nat→Bool}:∀ {rs:List Rec} {r:Rec} (_:r ∈ rs) (_:p r.ix = true) {a:Nat} {e:Ent},getM r.new a = some e→∃ e',getM (recM p M0 rs) a = some e'
 | [],_,hr,_,_,_,_=>by simp at hr
 | r0 :: t,r,hr,hp,a,e,h=>by
  simp only [recM]
  rcases List.mem_cons.1 hr with rfl | hr
  ·rw [hp,cond_true];exact ⟨e,getM_append_new h⟩
  ·obtain ⟨e',he⟩:=recM_has (p:=p) hr hp h
   cases hp0:p r0.ix with
   | false=>exact ⟨e',he⟩
   | true=>
    rw [cond_true]
    cases hx:getM r0.new a with
    | some e2=>exact ⟨e2,getM_append_new hx⟩
    | none=>exact ⟨e',by rw [getM_append_old hx];exact he⟩
def Safe (M0:Mm) (rs:List Rec) (p q:Nat→Bool):Prop:=∀ r ∈ rs,q r.ix = true→p r.ix = false→∀ a,getM r.new a = some .dead→getM (recM p M0 rs) a = none
theorem recM_mono {p:Nat→Bool}:∀ {rs:List Rec} {q:Nat→Bool} (_:wfM M0 rs) (_:∀ r ∈ rs,p r.ix = true→q r.ix = true) (_:Safe M0 rs p q) {a:Nat} {e:Ent},getM (recM p M0 rs) a = some e→getM (recM q M0 rs) a = some e
 | [],_,_,_,_,_,_,h=>h
 | r :: t,q,hw,hpq,hs,a,e,h=>by
  have hpt:∀ r' ∈ t,p r'.ix = true→q r'.ix = true:=fun r' hr'=>hpq r' (List.mem_cons_of_mem _ hr')
  have hst:Safe M0 t p q:=by
   intro r' hr' h1 h2 b hb
   have:=hs r' (List.mem_cons_of_mem _ hr') h1 h2 b hb
   simp only [recM] at this
   cases hp:p r.ix with
   | false=>rw [hp] at this;exact this
   | true=>
    rw [hp,cond_true] at this
    cases hx:getM r.new b with
    | some e'=>rw [getM_append_new hx] at this;cases this
    | none=>rw [getM_append_old hx] at this;exact this
  have ih:getM (recM p M0 t) a = some e→getM (recM q M0 t) a = some e:=recM_mono hw.2 hpt hst
  have hs0:=hs r (by simp)
  simp only [recM] at h hs0 ⊢
  cases hp:p r.ix with
  | false=>
   rw [hp,cond_false] at h
   cases hq:q r.ix with
   | false=>rw [cond_false];exact ih h
   | true=>
    have hn:getM r.new a = none:=by
     cases hx:getM r.new a with
     | none=>rfl
     | some e'=>
      rcases hw.1 a e' hx with h1 | ⟨h1,_,_⟩
      ·have:=recM_nx (p:=p) (q:=allB) (fun _ _ _=>rfl) h1.1
       rw [h] at this;cases this
      ·subst h1
       have:=hs0 hq hp a hx
       rw [hp,cond_false,h] at this;cases this
    rw [cond_true,getM_append_old hn];exact ih h
  | true=>
   rw [hpq r (by simp) hp,cond_true]
   rw [hp,cond_true] at h
   cases hx:getM r.new a with
   | some e'=>rw [getM_append_new hx] at h ⊢;exact h
   | none=>rw [getM_append_old hx] at h ⊢;exact ih h
theorem recM_none:∀ (rs:List Rec),recM (fun _=>false) M0 rs = M0
 | []=>rfl
 | r :: q=>by simp only [recM,cond_false];exact recM_none q
theorem recM_base {p:Nat→Bool} {rs:List Rec} {a:Nat} {e:Ent} (h:getM M0 a = some e):∃ e',getM (recM p M0 rs) a = some e':=
 recM_ex (p:=fun _=>false) (fun _ _ h=>by cases h) ⟨e,by rw [recM_none];exact h⟩
theorem recM_skip {p q:Nat→Bool} {a:Nat}:∀ {rs:List Rec},(∀ r ∈ rs,q r.ix ≠ p r.ix→getM r.new a = none)→getM (recM q M0 rs) a = getM (recM p M0 rs) a
 | [],_=>rfl
 | r :: t,h=>by
  have ih:=recM_skip (rs:=t) fun r' hr'=>h r' (List.mem_cons_of_mem _ hr')
  have h0:=h r (by simp)
  simp only [recM]
  cases hq:q r.ix <;> cases hp:p r.ix
  ·exact ih
  ·rw [cond_false,cond_true,getM_append_old (h0 (by rw [hq,hp];simp))];exact ih
  ·rw [cond_false,cond_true,getM_append_old (h0 (by rw [hq,hp];simp))];exact ih
  ·rw [cond_true,cond_true,getM_append,getM_append,ih]
def Closed (rs:List Rec) (p:Nat→Bool):Prop:=∀ x ∈ rs,p x.ix = true→∀ k ∈ x.dep,p k = true
theorem recM_rec {p:Nat→Bool}:∀ {rs:List Rec} (_:wfM M0 rs) {r:Rec} (_:r ∈ rs) (_:p r.ix = false) (_:Closed rs p) (_:∀ x ∈ rs,r.ix = x.ix→r = x) {a:Nat} {e:Ent},getM r.new a = some e→getM (recM (plus p r.ix) M0 rs) a = some e
 | [],_,_,hr,_,_,_,_,_,_=>by simp at hr
 | r0 :: t,hw,r,hr,hp,hc,hu,a,e,h=>by
  simp only [recM]
  rcases List.mem_cons.1 hr with h' | h'
  ·subst h'
   rw [plus_self,cond_true];exact getM_append_new h
  ·have ih:=recM_rec hw.2 h' hp (fun x hx=>hc x (List.mem_cons_of_mem _ hx)) (fun x hx=>hu x (List.mem_cons_of_mem _ hx)) h
   cases hp0:plus p r.ix r0.ix with
   | false=>rw [cond_false];exact ih
   | true=>
    rw [cond_true]
    rcases plus_cases hp0 with h0 | h0
    ·have:=hu r0 (by simp) h0.symm
     subst this
     exact getM_append_new h
    ·rw [getM_append_old];· exact ih
     cases hx:getM r0.new a with
     | none=>rfl
     | some e'=>
      rcases hw.1 a e' hx with h1 | ⟨_,_,h1⟩
      ·obtain ⟨e2,he2⟩:=recM_has (M0:=M0) (p:=allB) h' rfl h
       rw [h1.1] at he2;cases he2
      ·by_cases hd:r.ix ∈ r0.dep
       ·have:=hc r0 (by simp) h0 _ hd
        rw [hp] at this;cases this
       ·rw [(h1 r h' hd).1] at h;cases h
theorem recM_plus {p:Nat→Bool} {rs:List Rec} (hw:wfM M0 rs) (hu:∀ r ∈ rs,∀ r' ∈ rs,r.ix = r'.ix→r = r') (hc:Closed rs p) {r:Rec} (hr:r ∈ rs) (hp:p r.ix = false) (a:Nat) :
  getM (recM (plus p r.ix) M0 rs) a = getM (r.new ++ recM p M0 rs) a:=by
 cases hx:getM r.new a with
 | some e=>rw [getM_append_new hx];exact recM_rec hw hr hp hc (hu r hr) hx
 | none=>
  rw [getM_append_old hx]
  refine recM_skip fun r' hr' hne=>?_
  by_cases e:r'.ix = r.ix
  ·have:=hu r' hr' r hr e;subst this;exact hx
  ·rw [plus_ne e] at hne;exact absurd rfl hne
theorem wfM_mem:∀ {rs:List Rec} (_:wfM M0 rs) {r:Rec} (_:r ∈ rs) {a:Nat} {e:Ent},getM r.new a = some e→e.loose = true
 | [],_,_,hr,_,_,_=>by simp at hr
 | r0 :: t,hw,r,hr,a,e,h=>by
  rcases List.mem_cons.1 hr with h' | h'
  ·subst h'
   rcases hw.1 a e h with h1 | ⟨h1,_⟩
   ·exact h1.2.1
   ·subst h1;rfl
  ·exact wfM_mem hw.2 h' h
theorem recM_fresh {p:Nat→Bool}:∀ {rs:List Rec} (_:wfM M0 rs) {r:Rec} (_:r ∈ rs) (_:p r.ix = false) (_:Closed rs p) {b:Nat} {e:Ent},e ≠ .dead→getM r.new b = some e→getM (recM p M0 rs) b = none
 | [],_,_,h,_,_,_,_,_,_=>by simp at h
 | r0 :: t,hw,r,hr,hp,hc,b,e,hd,h=>by
  simp only [recM]
  rcases List.mem_cons.1 hr with h' | h'
  ·subst h'
   rw [hp,cond_false]
   rcases hw.1 b e h with h1 | ⟨h1,_⟩
   ·exact recM_nx (q:=allB) (fun _ _ _=>rfl) h1.1
   ·exact absurd h1 hd
  ·have ih:=recM_fresh hw.2 h' hp (fun x hx=>hc x (List.mem_cons_of_mem _ hx)) hd h
   cases hp0:p r0.ix with
   | false=>rw [cond_false];exact ih
   | true=>
    rw [cond_true,getM_append_old];· exact ih
    cases hx:getM r0.new b with
    | none=>rfl
    | some e'=>
     rcases hw.1 b e' hx with h1 | ⟨_,_,h1⟩
     ·obtain ⟨e2,he2⟩:=recM_has (M0:=M0) (p:=allB) h' rfl h
      rw [h1.1] at he2;cases he2
     ·by_cases hd':r.ix ∈ r0.dep
      ·have:=hc r0 (by simp) hp0 _ hd'
       rw [hp] at this;cases this
      ·rw [(h1 r h' hd').1] at h;cases h
theorem recM_congr {p q:Nat→Bool}:∀ {rs:List Rec},(∀ r ∈ rs,p r.ix = q r.ix)→recM p M0 rs = recM q M0 rs
 | [],_=>rfl
 | r :: t,h=>by simp only [recM];rw [h r (by simp),recM_congr fun r' hr'=>h r' (List.mem_cons_of_mem _ hr')]
theorem recT_congr {T0:Tm} {p q:Nat→Bool}:∀ {rs:List Rec},(∀ r ∈ rs,p r.ix = q r.ix)→recT p T0 rs = recT q T0 rs
 | [],_=>rfl
 | r :: t,h=>by simp only [recT];rw [h r (by simp),recT_congr fun r' hr'=>h r' (List.mem_cons_of_mem _ hr')]
end
theorem recT_get {p:Nat→Bool} {T0:Tm}:∀ (rs:List Rec) (s:Nat),
  (∃ r ∈ rs,p r.ix = true∧r.dst = some s∧getT (recT p T0 rs) s = r.v) ∨ ((∀ r ∈ rs,p r.ix = true→r.dst ≠ some s)∧getT (recT p T0 rs) s = getT T0 s)
 | [],_=>Or.inr ⟨by simp,rfl⟩
 | r :: t,s=>by
  simp only [recT]
  have lift:(∃ r' ∈ t,p r'.ix = true∧r'.dst = some s∧getT (recT p T0 t) s = r'.v) ∨ ((∀ r' ∈ t,p r'.ix = true→r'.dst ≠ some s)∧getT (recT p T0 t) s = getT T0 s):=recT_get t s
  cases hp:p r.ix with
  | false=>
   rw [cond_false]
   rcases lift with ⟨r',h1,h2,h3,h4⟩ | ⟨h1,h2⟩
   ·exact Or.inl ⟨r',List.mem_cons_of_mem _ h1,h2,h3,h4⟩
   ·refine Or.inr ⟨fun r' hr' hp'=>?_,h2⟩
    rcases List.mem_cons.1 hr' with rfl | hr'
    ·rw [hp] at hp';cases hp'
    ·exact h1 r' hr' hp'
  | true=>
   rw [cond_true]
   cases hd:r.dst with
   | none=>
    simp only [putT]
    rcases lift with ⟨r',h1,h2,h3,h4⟩ | ⟨h1,h2⟩
    ·exact Or.inl ⟨r',List.mem_cons_of_mem _ h1,h2,h3,h4⟩
    ·refine Or.inr ⟨fun r' hr' hp'=>?_,h2⟩
     rcases List.mem_cons.1 hr' with rfl | hr'
     ·rw [hd];simp
     ·exact h1 r' hr' hp'
   | some d=>
    simp only [putT]
    by_cases hs:s = d
    ·subst hs
     exact Or.inl ⟨r,by simp,hp,hd,getT_cons_self _ _ _⟩
    ·rw [getT_cons_ne hs]
     rcases lift with ⟨r',h1,h2,h3,h4⟩ | ⟨h1,h2⟩
     ·exact Or.inl ⟨r',List.mem_cons_of_mem _ h1,h2,h3,h4⟩
     ·refine Or.inr ⟨fun r' hr' hp'=>?_,h2⟩
      rcases List.mem_cons.1 hr' with rfl | hr'
      ·rw [hd];simpa using fun h=>hs h.symm
      ·exact h1 r' hr' hp'
theorem restr_get {T:Tm}:∀ {l:List Nat} {s:Nat},s ∈ l→getT (restr T l) s = getT T s
 | [],_,h=>by simp at h
 | d :: r,s,h=>by
  simp only [restr]
  by_cases hs:s = d
  ·subst hs;rw [getT_cons_self]
  ·rw [getT_cons_ne hs];exact restr_get ((List.mem_cons.1 h).resolve_left hs)
theorem restr_out {T:Tm}:∀ {l:List Nat} {s:Nat},s ∉ l→getT (restr T l) s = .und
 | [],_,_=>rfl
 | d :: r,s,h=>by
  simp only [restr]
  rw [getT_cons_ne (fun e=>h (by simp [e]))]
  exact restr_out fun hr=>h (by simp [hr])
def Pair (r r':Rec):Prop:=
 (∀ s,r'.dst = some s→s ∈ r.rd→r'.ix ∈ r.dep ∨ r.ix ∈ r'.dep)∧(∀ s,r.dst = some s→s ∈ r'.rd→r.ix ∈ r'.dep ∨ r'.ix ∈ r.dep)∧∀ s,r.dst = some s→r'.dst ≠ some s
theorem Pair.symm {r r':Rec} (h:Pair r r'):Pair r' r:=⟨h.2.1,h.1,fun s h1 h2=>h.2.2 s h2 h1⟩
structure Inv (N:Nat) (dep:Nat→List Nat) (bf:List Nat) (T0:Tm) (M0:Mm) (rs:List Rec) (p:Nat→Bool) (ρ:Env) (a:Act) (w:World):Prop where
 wf:wfM M0 rs
 uniq:∀ r ∈ rs,∀ r' ∈ rs,r.ix = r'.ix→r = r'
 bfs:∀ r ∈ rs,r.ix ∈ bf
 done:∀ j,p j = true→j ∈ bf
 base:∀ j ∈ bf,p j = true ∨ ∃ r ∈ rs,r.ix = j
 clos:∀ j,p j = true→∀ k ∈ dep j,p k = true
 deps:∀ r ∈ rs,r.dep = dep r.ix
 trans:∀ r ∈ rs,∀ k ∈ r.dep,∀ j ∈ dep k,j ∈ r.dep
 irr:∀ r ∈ rs,r.ix ∉ r.dep
 below:∀ r ∈ rs,∀ k ∈ r.dep,k ∈ bf
 small:∀ r ∈ rs,∀ d,r.dst = some d→d < N
 pairs:∀ r ∈ rs,∀ r' ∈ rs,r.ix ≠ r'.ix→Pair r r'
 safe:∀ x ∈ rs,∀ k ∈ rs,k.ix ∉ x.dep→x.ix ∉ k.dep→k.ix ≠ x.ix→∀ a,getM k.new a = some .dead→getM (recM (inB x.dep) M0 rs) a = none
 kill:∀ k ∈ rs,∀ a,getM k.new a = some .dead→∃ e0,getM (recM (inB k.dep) M0 rs) a = some e0
 mem:ConcM ρ (recM p M0 rs) w
 sz:a.tmps.size = N
 defers:a.defers = []
 t0:∀ s,ToldT M0 (getT T0 s)
 m0:∀ b e,getM M0 b = some e→ToldE M0 e
 slot0:∀ s,(∀ r ∈ rs,p r.ix = true→r.dst ≠ some s)→RelT ρ (getT T0 s) (a.tmps.getD s undef)
 slotr:∀ r ∈ rs,p r.ix = true→(∀ d,r.dst = some d→RelT ρ r.v (a.tmps.getD d undef)∧ToldT (recM (plus (inB r.dep) r.ix) M0 rs) r.v) ∧
  ∀ b e,getM r.new b = some e→ToldE (recM (plus (inB r.dep) r.ix) M0 rs) e
section
variable {N:Nat} {dep:Nat→List Nat} {bf:List Nat} {T0:Tm} {M0:Mm} {rs:List Rec} {p:Nat→Bool} {ρ:Env} {a:Act} {w:World}
theorem Inv.closed (I:Inv N dep bf T0 M0 rs p ρ a w):Closed rs p:=fun x hx hp k hk=>I.clos x.ix hp k (by rw [← I.deps x hx];exact hk)
theorem Inv.sees (I:Inv N dep bf T0 M0 rs p ρ a w) {dp rd:List Nat} (hd:∀ k ∈ dp,p k = true) (ht:∀ k ∈ dp,∀ j ∈ dep k,j ∈ dp)
  (hrd:∀ r ∈ rs,∀ s,r.dst = some s→s ∈ rd→p r.ix = true→r.ix ∈ dp)
  (hsf:∀ k ∈ rs,p k.ix = true→k.ix ∉ dp→∀ a,getM k.new a = some .dead→getM (recM (inB dp) M0 rs) a = none) :
  Sub (recM (inB dp) M0 rs) (recM p M0 rs)∧Conc N (ρ.lim (recM (inB dp) M0 rs)) (restr (recT (inB dp) T0 rs) rd) (recM (inB dp) M0 rs) a w:=by
 have hin:∀ {j},inB dp j = true→j ∈ dp:=fun {j} h=>memB_iff.1 h
 have up:∀ r ∈ rs,r.ix ∈ dp→∀ b e,getM (recM (plus (inB r.dep) r.ix) M0 rs) b = some e→∃ e',getM (recM (inB dp) M0 rs) b = some e':=by
  intro r hr hrd' b e he
  refine recM_ex (fun r' hr' h=>?_) ⟨e,he⟩
  rcases plus_cases h with h | h
  ·rw [h];exact memB_iff.2 hrd'
  ·have:=memB_iff.1 h
   rw [I.deps r hr] at this
   exact memB_iff.2 (ht r.ix hrd' _ this)
 have hs:Sub (recM (inB dp) M0 rs) (recM p M0 rs):=by
  refine ⟨fun b e he=>recM_mono I.wf (fun r _ h=>hd _ (hin h)) (fun k hk h1 h2=>hsf k hk h1 (inB_false h2)) he,fun b e he=>?_⟩
  rcases recM_inv he with h | ⟨r,h1,h2,h3⟩
  ·exact (I.m0 b e h).mono fun b e h=>recM_base h
  ·exact ((I.slotr r h1 (hd _ (hin h2))).2 b e h3).mono (up r h1 (hin h2))
 refine ⟨hs,hs.conc I.mem,I.sz,I.defers,fun s=>?_⟩
 by_cases hsr:s ∈ rd
 ·rw [restr_get hsr]
  rcases recT_get (p:=inB dp) (T0:=T0) rs s with ⟨r,h1,h2,h3,h4⟩ | ⟨h1,h2⟩
  ·rw [h4]
   obtain ⟨k1,k2⟩:=(I.slotr r h1 (hd _ (hin h2))).1 s h3
   exact (k2.mono (up r h1 (hin h2))).rel k1
  ·rw [h2]
   refine ((I.t0 s).mono fun b e h=>recM_base h).rel (I.slot0 s fun r hr hp hds=>?_)
   exact h1 r hr (memB_iff.2 (hrd r hr s hds hsr hp)) hds
 ·rw [restr_out hsr];exact RelT_of_Rel trivial
theorem Inv.mark (I:Inv N dep bf T0 M0 rs p ρ a w) {r:Rec} (hr:r ∈ rs) (hi:p r.ix = false) (hd:∀ k ∈ r.dep,p k = true) {x:Value} {ρ':Env} {a':Act} {w':World}
  (ha:a'.tmps = (a.put r.dst x).tmps) (hdf:a'.defers = []) (hle:ρ.le ρ') (hx:∀ d,r.dst = some d→RelT ρ' r.v x∧ToldT (r.new ++ recM (inB r.dep) M0 rs) r.v)
  (hn:∀ b e,getM r.new b = some e→ToldE (r.new ++ recM (inB r.dep) M0 rs) e) (hm:ConcM ρ' (r.new ++ recM p M0 rs) w') :
  Inv N dep bf T0 M0 rs (plus p r.ix) ρ' a' w':=by
 have hself:inB r.dep r.ix = false:=by
  cases h:inB r.dep r.ix with
  | false=>rfl
  | true=>exact absurd (memB_iff.1 h) (I.irr r hr)
 have hup:∀ b e,getM (r.new ++ recM (inB r.dep) M0 rs) b = some e→∃ e',getM (recM (plus (inB r.dep) r.ix) M0 rs) b = some e':=fun b e h=>
  by
   cases hx:getM r.new b with
   | some e'=>exact recM_has hr (plus_self _ _) hx
   | none=>
    rw [getM_append_old hx] at h
    exact recM_ex (fun _ _ h=>plus_old h) ⟨e,h⟩
 have hput:∀ s,r.dst ≠ some s→a'.tmps.getD s undef = a.tmps.getD s undef:=by
  intro s hs
  rw [ha]
  unfold Act.put
  cases hd:r.dst with
  | none=>rfl
  | some d=>
   have hne:d ≠ s:=fun e=>hs (by rw [hd,e])
   simp only [Array.getD_eq_getD_getElem?]
   rw [Array.getElem?_setIfInBounds_ne hne]
 have hput2:∀ s,r.dst = some s→a'.tmps.getD s undef = x:=by
  intro s hs
  rw [ha]
  have hlt:=I.small r hr s hs
  unfold Act.put
  rw [hs]
  simp only [Array.getD_eq_getD_getElem?]
  rw [Array.getElem?_setIfInBounds_self_of_lt (by rw [I.sz];exact hlt)]
  rfl
 exact {
  wf:=I.wf,uniq:=I.uniq,bfs:=I.bfs,deps:=I.deps,trans:=I.trans,irr:=I.irr,below:=I.below,small:=I.small,pairs:=I.pairs,safe:=I.safe,kill:=I.kill,t0:=I.t0,m0:=I.m0,defers:=hdf
  done:=fun j hj=>(plus_cases hj).elim (fun h=>by rw [h];exact I.bfs r hr) (I.done j)
  base:=fun j hj=>(I.base j hj).imp plus_old id
  clos:=fun j hj k hk=>by
   rcases plus_cases hj with h | h
   ·subst h
    rw [← I.deps r hr] at hk
    exact plus_old (hd k hk)
   ·exact plus_old (I.clos j h k hk)
  mem:=hm.congr fun b=>(recM_plus I.wf I.uniq I.closed hr hi b).symm
  sz:=by
   rw [ha]
   unfold Act.put
   cases r.dst with
   | none=>exact I.sz
   | some d=>simp only [Array.size_setIfInBounds];exact I.sz
  slot0:=fun s hs=>by
   have h1:=hs r hr (plus_self _ _)
   rw [hput s h1]
   exact (I.slot0 s fun r' hr' hp'=>hs r' hr' (plus_old hp')).le hle
  slotr:=fun r' hr' hp'=>by
   rcases plus_cases hp' with h | h
   ·have:=I.uniq r' hr' r hr h;subst this
    refine ⟨fun d hds=>?_,fun b e he=>(hn b e he).mono hup⟩
    rw [hput2 d hds]
    exact ⟨(hx d hds).1,(hx d hds).2.mono hup⟩
   ·have hne:r'.ix ≠ r.ix:=fun e=>by rw [e,hi] at h;cases h
    obtain ⟨k1,k2⟩:=I.slotr r' hr' h
    refine ⟨fun d hds=>?_,k2⟩
    rw [hput d ((I.pairs r' hr' r hr hne).2.2 d hds)]
    exact ⟨(k1 d hds).1.le hle,(k1 d hds).2⟩ }
theorem Inv.push (I:Inv N dep bf T0 M0 rs p ρ a w) {r:Rec} (hb:r.ix ∉ bf) (hdep:r.dep = dep r.ix) (ht:∀ k ∈ r.dep,∀ j ∈ dep k,j ∈ r.dep) (hbl:∀ k ∈ r.dep,k ∈ bf)
  (hsm:∀ d,r.dst = some d→d < N) (hpr:∀ r' ∈ rs,Pair r r') (hfr:okNew M0 rs r)
  (hsf:∀ k ∈ rs,k.ix ∉ r.dep→∀ a,getM k.new a = some .dead→getM (recM (inB r.dep) M0 rs) a = none) :
  Inv N dep (r.ix :: bf) T0 M0 (r :: rs) p ρ a w:=by
 have hp:p r.ix = false:=by
  cases h:p r.ix with
  | false=>rfl
  | true=>exact absurd (I.done _ h) hb
 have hne:∀ r' ∈ rs,r'.ix ≠ r.ix:=fun r' hr' e=>hb (by rw [← e];exact I.bfs r' hr')
 have hM:∀ r' ∈ rs,recM (plus (inB r'.dep) r'.ix) M0 (r :: rs) = recM (plus (inB r'.dep) r'.ix) M0 rs:=by
  intro r' hr'
  have h1:plus (inB r'.dep) r'.ix r.ix = false:=by
   rw [plus_ne (hne r' hr').symm]
   cases h:inB r'.dep r.ix with
   | false=>rfl
   | true=>exact absurd (I.below r' hr' _ (memB_iff.1 h)) hb
  simp only [recM,h1,cond_false]
 have hV:∀ x ∈ r :: rs,recM (inB x.dep) M0 (r :: rs) = recM (inB x.dep) M0 rs:=by
  intro x hx
  have h1:inB x.dep r.ix = false:=by
   rcases List.mem_cons.1 hx with rfl | hx
   ·exact inB_no fun h=>hb (hbl _ h)
   ·exact inB_no fun h=>hb (I.below x hx _ h)
  simp only [recM,h1,cond_false]
 exact {
  wf:=⟨hfr,I.wf⟩
  safe:=fun x hx k hk h1 h2 h3 b hkb=>by
   rw [hV x hx]
   rcases List.mem_cons.1 hx with hx' | hx'
   ·rcases List.mem_cons.1 hk with hk' | hk'
    ·exact absurd (by rw [hk',hx']) h3
    ·subst hx';exact hsf k hk' h1 b hkb
   ·rcases List.mem_cons.1 hk with hk' | hk'
    ·subst hk'
     rcases hfr b .dead hkb with h4 | ⟨_,_,h4⟩
     ·exact absurd rfl h4.2.2
     ·exact (h4 x hx' h2).2
    ·exact I.safe x hx' k hk' h1 h2 h3 b hkb
  kill:=fun k hk b hkb=>by
   rw [hV k hk]
   rcases List.mem_cons.1 hk with hk' | hk'
   ·subst hk'
    rcases hfr b .dead hkb with h4 | ⟨_,h4,_⟩
    ·exact absurd rfl h4.2.2
    ·exact h4
   ·exact I.kill k hk' b hkb
  uniq:=fun x hx y hy e=>by
   rcases List.mem_cons.1 hx with hx' | hx'
   ·rcases List.mem_cons.1 hy with hy' | hy'
    ·rw [hx',hy']
    ·exact absurd (by rw [← e,hx']) (hne y hy')
   ·rcases List.mem_cons.1 hy with hy' | hy'
    ·exact absurd (by rw [e,hy']) (hne x hx')
    ·exact I.uniq x hx' y hy' e
  bfs:=fun x hx=>by
   rcases List.mem_cons.1 hx with rfl | hx
   ·simp
   ·exact List.mem_cons_of_mem _ (I.bfs x hx)
  done:=fun j hj=>List.mem_cons_of_mem _ (I.done j hj)
  base:=fun j hj=>by
   rcases List.mem_cons.1 hj with rfl | hj
   ·exact Or.inr ⟨r,by simp,rfl⟩
   ·exact (I.base j hj).imp id fun ⟨r',h1,h2⟩=>⟨r',List.mem_cons_of_mem _ h1,h2⟩
  clos:=I.clos
  deps:=fun x hx=>by
   rcases List.mem_cons.1 hx with rfl | hx
   ·exact hdep
   ·exact I.deps x hx
  trans:=fun x hx=>by
   rcases List.mem_cons.1 hx with rfl | hx
   ·exact ht
   ·exact I.trans x hx
  irr:=fun x hx=>by
   rcases List.mem_cons.1 hx with rfl | hx
   ·exact fun h=>hb (hbl _ h)
   ·exact I.irr x hx
  below:=fun x hx k hk=>by
   rcases List.mem_cons.1 hx with rfl | hx
   ·exact List.mem_cons_of_mem _ (hbl k hk)
   ·exact List.mem_cons_of_mem _ (I.below x hx k hk)
  small:=fun x hx=>by
   rcases List.mem_cons.1 hx with rfl | hx
   ·exact hsm
   ·exact I.small x hx
  pairs:=fun x hx y hy e=>by
   rcases List.mem_cons.1 hx with hx' | hx'
   ·rcases List.mem_cons.1 hy with hy' | hy'
    ·exact absurd (by rw [hx',hy']) e
    ·rw [hx'];exact hpr y hy'
   ·rcases List.mem_cons.1 hy with hy' | hy'
    ·rw [hy'];exact (hpr x hx').symm
    ·exact I.pairs x hx' y hy' e
  mem:=by simp only [recM,hp,cond_false];exact I.mem
  sz:=I.sz
  defers:=I.defers
  t0:=I.t0
  m0:=I.m0
  slot0:=fun s hs=>I.slot0 s fun r' hr'=>hs r' (List.mem_cons_of_mem _ hr')
  slotr:=fun x hx hpx=>by
   rcases List.mem_cons.1 hx with rfl | hx
   ·rw [hp] at hpx;cases hpx
   ·rw [hM x hx];exact I.slotr x hx hpx }
theorem Inv.outP (I:Inv N dep bf T0 M0 rs p ρ a w):Conc N ρ (recT p T0 rs) (recM p M0 rs) a w:=by
 refine ⟨I.mem,I.sz,I.defers,fun s=>?_⟩
 rcases recT_get (p:=p) (T0:=T0) rs s with ⟨r,h1,h2,h3,h4⟩ | ⟨h1,h2⟩
 ·rw [h4];exact ((I.slotr r h1 h2).1 s h3).1
 ·rw [h2];exact I.slot0 s fun r hr hp=>h1 r hr hp
theorem Inv.out (I:Inv N dep bf T0 M0 rs p ρ a w) (h:∀ r ∈ rs,p r.ix = true):Conc N ρ (recT allB T0 rs) (recM allB M0 rs) a w:=by
 have hM:recM p M0 rs = recM allB M0 rs:=recM_congr fun r hr=>by rw [h r hr];rfl
 refine ⟨hM ▸ I.mem,I.sz,I.defers,fun s=>?_⟩
 rcases recT_get (p:=allB) (T0:=T0) rs s with ⟨r,h1,h2,h3,h4⟩ | ⟨h1,h2⟩
 ·rw [h4];exact ((I.slotr r h1 (h r h1)).1 s h3).1
 ·rw [h2];exact I.slot0 s fun r hr _=>h1 r hr rfl
theorem Inv.start {bf:List Nat} (hc:Conc N ρ T0 M0 a w) (hb:∀ j,p j = true ↔ j ∈ bf) (hcl:∀ j,p j = true→∀ k ∈ dep j,p k = true):Inv N dep bf T0 M0 [] p ρ a w where
 wf:=trivial
 uniq:=by simp
 bfs:=by simp
 done j h:=(hb j).1 h
 base j h:=Or.inl ((hb j).2 h)
 clos:=hcl
 deps:=by simp
 trans:=by simp
 irr:=by simp
 below:=by simp
 small:=by simp
 pairs:=by simp
 safe:=by simp
 kill:=by simp
 mem:=hc.toConcM
 sz:=hc.sz
 defers:=hc.defers
 t0 s:=hc.toConcM.toldT (hc.tm s)
 m0 b e h:=hc.toConcM.told h
 slot0 s _:=hc.tm s
 slotr:=by simp
end
end Go.Sx
namespace Go.Sx
open Go
def depAt:List (List Nat)→Nat→List Nat
 | [],_=>[]
 | d :: _,0=>d
 | _ :: r,i + 1=>depAt r i
def tmpsOf:List Operand→List Nat
 | []=>[]
 | .tmp t :: r=>t :: tmpsOf r
 | _ :: r=>tmpsOf r
def gSlot (ops:List Oper) (o:Oper):List Nat:=
 match o.guard with
 | none=>[]
 | some (j,_)=>match guardSlot ops j with
  | none=>[]
  | some d=>[d]
def looks (ops:List Oper) (o:Oper):List Nat:=gSlot ops o ++ tmpsOf o.op.operands.toList
inductive GV where
 | bad | run | skip
 | split (p:Prop)
 | splitN (p:Prop)
def guardV (ops:List Oper) (dp:List Nat) (o:Oper) (T:Tm):GV:=
 match o.guard with
 | none=>.run
 | some (j,want)=>bif memB j dp then match guardSlot ops j with
   | none=>.bad
   | some d=>match getT T d with
    | .tt=>bif want then .run else .skip
    | .ff=>bif want then .skip else .run
    | .bool p=>bif want then .split p else .splitN p
    | .tup []=>.skip
    | _=>.bad
  else .bad
def guardB (g:GV) (A B:Prop):Prop:=
 match g with
 | .bad=>False
 | .run=>A
 | .skip=>B
 | .split p=>Branch p A B
 | .splitN p=>Branch p B A
def GuardIs (ops:List Oper) (o:Oper) (T:Tm) (b:Bool):Prop:=
 match o.guard with
 | none=>b = true
 | some (j,want)=>∃ d,guardSlot ops j = some d∧match getT T d with
  | .tt=>b = want
  | .ff=>b = !want
  | .bool p=>(p ↔ b = want)
  | .tup []=>b = false
  | _=>False
theorem guardB_spec {ops:List Oper} {dp:List Nat} {o:Oper} {T:Tm} {A B:Prop} (h:guardB (guardV ops dp o T) A B):∃ b,GuardIs ops o T b∧(b = true→A)∧(b = false→B):=by
 unfold guardV at h
 unfold GuardIs
 split at h
 ·exact ⟨true,rfl,fun _=>h,(fun h=>by cases h)⟩
 ·rename_i j want hg
  cases hm:memB j dp with
  | false=>rw [hm,cond_false] at h;exact h.elim
  | true=>
   rw [hm,cond_true] at h
   split at h
   ·exact h.elim
   ·rename_i d hd
    split at h
    ·rename_i hT
     cases want with
     | true=>exact ⟨true,⟨d,hd,by rw [hT]⟩,fun _=>h,(fun h=>by cases h)⟩
     | false=>exact ⟨false,⟨d,hd,by rw [hT]⟩,(fun h=>by cases h),fun _=>h⟩
    ·rename_i hT
     cases want with
     | true=>exact ⟨false,⟨d,hd,by rw [hT];rfl⟩,(fun h=>by cases h),fun _=>h⟩
     | false=>exact ⟨true,⟨d,hd,by rw [hT];rfl⟩,fun _=>h,(fun h=>by cases h)⟩
    ·rename_i p hT
     rcases Classical.em p with hp | hp
     ·cases want with
      | true=>exact ⟨true,⟨d,hd,by rw [hT];simp [hp]⟩,fun _=>Branch.yes h hp,(fun h=>by cases h)⟩
      | false=>exact ⟨false,⟨d,hd,by rw [hT];simp [hp]⟩,(fun h=>by cases h),fun _=>Branch.yes h hp⟩
     ·cases want with
      | true=>exact ⟨false,⟨d,hd,by rw [hT];simp [hp]⟩,(fun h=>by cases h),fun _=>Branch.no h hp⟩
      | false=>exact ⟨true,⟨d,hd,by rw [hT];simp [hp]⟩,fun _=>Branch.no h hp,(fun h=>by cases h)⟩
    ·rename_i hT
     exact ⟨false,⟨d,hd,by rw [hT]⟩,(fun h=>by cases h),fun _=>h⟩
    ·exact h.elim
theorem wanted_of {N:Nat} {ρ:Env} {T:Tm} {M:Mm} {a:Act} {w:World} (hc:Conc N ρ T M a w) {ops:List Oper} (hall:dstOK N ops = true) {o:Oper} {b:Bool} (h:GuardIs ops o T b):Region.wanted o (yielded ops.toArray a.tmps) = b:=by
 unfold GuardIs at h
 split at h
 ·rename_i hg;subst h;simp [Region.wanted,hg]
 ·rename_i j want hg
  obtain ⟨d,hd,h⟩:=h
  have hdN:d < N:=by
   unfold guardSlot at hd
   split at hd
   ·rename_i o' ho'
    exact dstOK_get hall (List.mem_of_getElem? ho') d hd
   ·cases hd
  have hw:∀ {b:Bool},a.tmps.getD d undef = .bool b→Region.wanted o (yielded ops.toArray a.tmps) = (b == want):=by
   intro b hb
   have:=yielded_of hc hd hdN hb
   simp only [Region.wanted,hg,this]
   cases b <;> cases want <;> rfl
  have hT:=hc.tm d
  split at h
  ·rename_i he;rw [he] at hT;rw [h]
   rw [hw (b:=true) hT];cases want <;> rfl
  ·rename_i he;rw [he] at hT;rw [h]
   rw [hw (b:=false) hT];cases want <;> rfl
  ·rename_i p he;rw [he] at hT
   obtain ⟨b',hb,hbp⟩:=hT
   rw [hw hb]
   have e:=hbp.trans h
   clear hw h hbp hb he hg
   revert e
   cases b' <;> cases b <;> cases want <;> simp
  ·rename_i he;rw [he] at hT;rw [h]
   exact wanted_und hg hd (hT.elim fun xs hx=>by have h1:=hx.1;have h2:=hx.2;simp only [RelL] at h1;subst h1;exact h2)
  ·exact h.elim
def kindO (ty:Nat→Ty) (o:Oper):Nat:=
 match o.op with
 | .alloc _=>1
 | .box _ _=>1
 | .makeSlice _ _ _=>1
 | .buildSlice _ _ _=>1
 | .makeMap _ _=>1
 | .mapUpdate _ _ _ _=>2
 | .store _ _ _=>2
 | .convert _ t _=>match (ty t).k with
  | .slice _=>2
  | _=>0
 | .call c=>match c.callee with
  | .builtin b=>match isCopy b with
   | true=>2
   | false=>match isAppend b with
    | true=>2
    | false=>0
  | _=>2
 | _=>0
def newE (Γ:Cfg) (o:Oper) (T:Tm):Option (List Prop × Nat × Ent × SV):=
 match o.op with
 | .alloc t=>match o.dst with
  | some d=>match (Γ.ty t).k with
   | .bad=>none
   | _=>match (Γ.ty t).zl with
    | []=>none
    | zl=>some ([],d,.mem true 0 zl,.ptr d 0 none)
  | none=>none
 | .box t x=>match o.dst with
  | some d=>match leavesOf (Γ.ty t) (ev T x) with
   | some (qs,ls)=>some (qs,d,.mem true 0 ls,.ptr d 0 none)
   | none=>none
  | none=>none
 | .makeSlice t l c=>match o.dst with
  | some d=>match makeV Γ.ty T d t l c with
   | some (qs,e,v)=>some (qs,d,e,v)
   | none=>none
  | none=>none
 | .buildSlice t len parts=>bif noParts len parts.toList then match o.dst with
   | some d=>match bsV Γ.ty T d t len parts.toList with
    | some (qs,e,v)=>some (qs,d,e,v)
    | none=>none
   | none=>none
  else none
 | .makeMap _ r=>match r with
  | none=>match o.dst with
   | some d=>some ([],d,.map (.si []),.mp d)
   | none=>none
  | some _=>none
 | _=>none
theorem makeV_own {ty:Nat→Ty} {T:Tm} {d t:Nat} {l c:Operand} {ps:List Prop} {e:Ent} {v:SV} (h:makeV ty T d t l c = some (ps,e,v)):e.isOwn = true:=by
 unfold makeV at h
 split at h
 ·split at h
  ·cases h
  ·split at h
   ·split at h
    ·split at h
     ·split at h
      ·simp only [Option.some.injEq,Prod.mk.injEq] at h;obtain ⟨_,rfl,_⟩:=h;rfl
      ·cases h
     rcases bif_some h with ⟨_,h⟩ | ⟨_,h⟩
     ·simp only [Option.some.injEq,Prod.mk.injEq] at h;obtain ⟨_,rfl,_⟩:=h;rfl
     ·split at h
      ·simp only [Option.some.injEq,Prod.mk.injEq] at h;obtain ⟨_,rfl,_⟩:=h;rfl
      ·cases h
    ·cases h
   ·cases h
 ·cases h
theorem bsV_own {ty:Nat→Ty} {T:Tm} {d t len:Nat} {parts:List (Nat × Operand)} {ps:List Prop} {e:Ent} {v:SV} (h:bsV ty T d t len parts = some (ps,e,v)):e.isOwn = true:=by
 unfold bsV at h
 split at h
 ·split at h
  ·cases h
  ·replace h:=(bif_none h).2
   split at h
   ·simp only [Option.some.injEq,Prod.mk.injEq] at h;obtain ⟨_,rfl,_⟩:=h;rfl
   ·cases h
 ·cases h
def isNone? (o:Option Ent):Bool:=
 match o with
 | none=>true
 | some _=>false
def aloneB (M0:Mm) (rs:List Rec) (dp:List Nat) (k:Nat):List Rec→Bool
 | []=>true
 | x :: q=>(memB x.ix dp || (isNone? (getM x.new k) && isNone? (getM (recM (inB x.dep) M0 rs) k))) && aloneB M0 rs dp k q
def freshB (M0:Mm) (rs:List Rec) (dp:List Nat):Mm→Bool
 | []=>true
 | (k,e) :: r=>(match getM (recM allB M0 rs) k with
  | none=>(match e with
   | .dead=>false
   | .mem own sp _=>own || sp != 0
   | .map _=>true)
  | some _=>(match e with
   | .dead=>!isNone? (getM (recM (inB dp) M0 rs) k) && aloneB M0 rs dp k rs
   | _=>false)) && freshB M0 rs dp r
def noDead (M:Mm):Mm→Bool
 | []=>true
 | (a,e) :: r=>(match e with
  | .dead=>isNone? (getM M a)
  | _=>true) && noDead M r
def safeB (M0:Mm) (rs:List Rec) (dp:List Nat):List Rec→Bool
 | []=>true
 | k :: q=>(memB k.ix dp || noDead (recM (inB dp) M0 rs) k.new) && safeB M0 rs dp q
theorem isNone?_spec {o:Option Ent} (h:isNone? o = true):o = none:=by
 cases o with
 | none=>rfl
 | some _=>cases h
theorem noDead_spec {M:Mm}:∀ {E:Mm},noDead M E = true→∀ a,getM E a = some .dead→getM M a = none
 | [],_,_,h=>by simp [getM] at h
 | (k,e) :: r,hn,a,h=>by
  simp only [noDead,Bool.and_eq_true] at hn
  by_cases hk:a = k
  ·subst hk
   rw [getM_cons_self] at h
   simp only [Option.some.injEq] at h;subst h
   exact isNone?_spec hn.1
  ·rw [getM_cons_ne hk] at h
   exact noDead_spec hn.2 a h
theorem safeB_spec {M0:Mm} {rs:List Rec} {dp:List Nat}:∀ {q:List Rec},safeB M0 rs dp q = true→∀ k ∈ q,k.ix ∉ dp→∀ a,getM k.new a = some .dead→getM (recM (inB dp) M0 rs) a = none
 | [],_,_,h=>by simp at h
 | x :: t,hs,k,hk=>by
  simp only [safeB,Bool.and_eq_true,Bool.or_eq_true] at hs
  rcases List.mem_cons.1 hk with hk' | hk'
  ·subst hk'
   intro hn a ha
   exact noDead_spec (hs.1.resolve_left fun h=>hn (memB_iff.1 h)) a ha
  ·exact safeB_spec hs.2 k hk'
theorem aloneB_spec {M0:Mm} {rs:List Rec} {dp:List Nat} {a:Nat}:∀ {q:List Rec},aloneB M0 rs dp a q = true→∀ x ∈ q,x.ix ∉ dp→getM x.new a = none∧getM (recM (inB x.dep) M0 rs) a = none
 | [],_,_,h=>by simp at h
 | y :: t,hs,x,hx=>by
  simp only [aloneB,Bool.and_eq_true,Bool.or_eq_true] at hs
  rcases List.mem_cons.1 hx with hx' | hx'
  ·subst hx'
   intro hn
   have:=hs.1.resolve_left fun h=>hn (memB_iff.1 h)
   exact ⟨isNone?_spec this.1,isNone?_spec this.2⟩
  ·exact aloneB_spec hs.2 x hx'
@[irreducible] def Grow (M M':Mm) (ok:Mm→Bool) (X:Mm→Prop):Prop:=∃ E,M' = E ++ M∧ok E = true∧X E
theorem Grow.intro {M M':Mm} {ok:Mm→Bool} {X:Mm→Prop} (E:Mm) (h1:M' = E ++ M) (h2:ok E = true) (h3:X E):Grow M M' ok X:=by unfold Grow;exact ⟨E,h1,h2,h3⟩
def growE (M M':Mm):Mm:=M'.take (M'.length - M.length)
theorem Grow.auto {M M':Mm} {ok:Mm→Bool} {X:Mm→Prop} (h1:M' = growE M M' ++ M) (h2:ok (growE M M') = true) (h3:forceM (growE M M') X):Grow M M' ok X:=by
 unfold Grow;rw [forceM_eq] at h3;exact ⟨_,h1,h2,h3⟩
def noneIn (d:Option Nat) (l:List Nat):Bool:=
 match d with
 | none=>true
 | some s=>!memB s l
def dstNe (d e:Option Nat):Bool:=
 match d,e with
 | some x,some y=>!Nat.beq x y
 | _,_=>true
def blindO (o:Oper):Bool:=
 match o.op with
 | .move _=>true
 | .assign _=>true
 | .extract _ _=>true
 | .pick _ _ _=>true
 | _=>false
def isSel (o:Oper):Bool:=
 match o.op with
 | .select _ _=>true
 | _=>false
def noSelB:List Oper→Bool
 | []=>true
 | o :: r=>!isSel o && noSelB r
def lessB (i:Nat):List Nat→Bool
 | []=>true
 | k :: r=>Nat.blt k i && lessB i r
def waitsB (i:Nat):List Edge→Bool
 | []=>false
 | e :: r=>(Region.binds .any e && Nat.beq e.on i) || waitsB i r
def apartB (ops:List Oper) (x y:Oper):Bool:=noneIn x.dst (looks ops y) && (dstNe x.dst y.dst && noneIn y.dst (looks ops x))
def apartAll (ops:List Oper) (dp:List Nat) (i:Nat) (o:Oper) (j:Nat):List Oper→Bool
 | []=>true
 | oj :: r=>(Nat.beq j i || (memB j dp || (waitsB i oj.after.toList || apartB ops o oj))) && apartAll ops dp i o (j + 1) r
def aheadB (ops:List Oper) (dep:List (List Nat)) (i:Nat):Bool:=
 match ops[i]? with
 | none=>false
 | some o=>blindO o && (lessB i (depAt dep i) && (apartAll ops (depAt dep i) i o 0 ops && noSelB ops))
def barB (ops:List Oper) (dep:List (List Nat)) (dp:List Nat):List Rec→Bool
 | []=>true
 | r :: q=>(memB r.ix dp || aheadB ops dep r.ix) && barB ops dep dp q
def allocB (ops:List Oper) (i:Nat):Bool:=
 match ops[i]? with
 | some o=>(match o.op with
  | .alloc _=>(match o.guard with
   | none=>true
   | some _=>false)
  | _=>false)
 | none=>false
def lateL (ops:List Oper) (dep:List (List Nat)) (dp:List Nat):List Rec→List Rec
 | []=>[]
 | r :: q=>bif memB r.ix dp || aheadB ops dep r.ix then lateL ops dep dp q else r :: lateL ops dep dp q
def noneWaits (i:Nat):List Rec→Bool
 | []=>true
 | r :: q=>!memB i r.dep && noneWaits i q
def newOK (M:Mm):Mm→Bool
 | []=>true
 | (k,e) :: r=>isNone? (getM M k) && e.isOwn && newOK M r
def barK (o:Oper):Bool:=
 match o.op with
 | .call c=>(match c.callee with
  | .value _=>true
  | _=>false)
 | .store _ _ _=>true
 | _=>false
def pureB (ty:Nat→Ty) (ops:List Oper) (i:Nat):Bool:=
 match ops[i]? with
 | some o=>(match o.guard with
  | none=>Nat.beq (kindO ty o) 0
  | some _=>false)
 | none=>false
def lateOK (ty:Nat→Ty) (ops:List Oper) (dp:List Nat) (rs:List Rec):List Rec→Bool
 | []=>true
 | x :: q=>((allocB ops x.ix || pureB ty ops x.ix) && (!memB x.ix dp && noneWaits x.ix rs)) && lateOK ty ops dp rs q
def allOr (i:Nat) (l:List Nat):Bool:=
 match l with
 | []=>true
 | x :: r=>memB i (x :: r)
def lateOf (ty:Nat→Ty) (i:Nat) (o:Oper) (ops:List Oper) (dep:List (List Nat)) (dp:List Nat) (rs:List Rec):Option (List Rec):=
 bif Nat.blt ops.length dep.length && (barK o && allOr i (depAt dep ops.length)) then (bif lateOK ty ops dp rs (lateL ops dep dp rs) then some (lateL ops dep dp rs) else none) else none
def notS (S:List Rec) (j:Nat):Bool:=
 match S with
 | []=>true
 | x :: r=>!Nat.beq j x.ix && notS r j
def lateGo (Γ:Cfg) (ops:List Oper) (T:Tm) (M:Mm) (next:Tm→Mm→List Rec→Prop) (S acc:List Rec):Prop:=
 match S with
 | []=>next T M acc
 | x :: r=>bif notS acc x.ix then (bif allocB ops x.ix then (bif newOK (recM allB M acc) x.new then lateGo Γ ops T M next r (x :: acc) else False) else (match ops[x.ix]? with
  | some o=>match pureOp Γ.ty (restr T (looks ops o)) M o.op with
   | some (qs,v)=>withP qs (lateGo Γ ops T M next r (⟨x.ix,x.dst,v,[],x.dep,looks ops o⟩ :: acc))
   | none=>False
  | none=>False)) else False
def lateAll (Γ:Cfg) (ops:List Oper) (o:Oper) (T0:Tm) (M0:Mm) (rs:List Rec) (next:Tm→Mm→List Rec→Prop) (X S:List Rec):Prop:=
 match X with
 | []=>effOp Γ o (recT (notS S) T0 rs) (recM (notS S) M0 rs) [] fun qs v M'=>withP qs (lateGo Γ ops (putT o.dst v (recT (notS S) T0 rs)) M' next S [])
 | x :: r=>lateAll Γ ops o T0 M0 rs next r S∧lateAll Γ ops o T0 M0 rs next r (x :: S)
def stepD (Γ:Cfg) (ops:List Oper) (dep:List (List Nat)) (T0:Tm) (M0:Mm) (rs:List Rec) (i:Nat) (o:Oper) (next:Tm→Mm→List Rec→Prop):Prop:=
 match kindO Γ.ty o with
 | 0=>match pureOp Γ.ty (restr (recT (inB (depAt dep i)) T0 rs) (looks ops o)) (recM (inB (depAt dep i)) M0 rs) o.op with
  | some (qs,v)=>withP qs (next T0 M0 (⟨i,o.dst,v,[],depAt dep i,looks ops o⟩ :: rs))
  | none=>False
 | 1=>match newE Γ o (restr (recT (inB (depAt dep i)) T0 rs) (looks ops o)) with
  | some (qs,d,e,v)=>match getM (recM allB M0 rs) d with
   | none=>withP qs (next T0 M0 (⟨i,o.dst,v,[(d,e)],depAt dep i,looks ops o⟩ :: rs))
   | some _=>False
  | none=>False
 | _=>bif barB ops dep (depAt dep i) rs then
   effOp Γ o (recT allB T0 rs) (recM allB M0 rs) [] fun qs v M'=>withP qs (next (putT o.dst v (recT allB T0 rs)) M' [])
  else match lateOf Γ.ty i o ops dep (depAt dep i) rs with
  | some X=>lateAll Γ ops o T0 M0 rs next X []
  | none=>
   effOp Γ o (restr (recT (inB (depAt dep i)) T0 rs) (looks ops o)) (recM (inB (depAt dep i)) M0 rs) [] fun qs v M'=>withP qs
    (Grow (recM (inB (depAt dep i)) M0 rs) M' (freshB M0 rs (depAt dep i)) fun E=>next T0 M0 (⟨i,o.dst,v,E,depAt dep i,looks ops o⟩ :: rs))
def drawOps (Γ:Cfg) (ops:List Oper) (dep:List (List Nat)) (T0:Tm) (M0:Mm) (rs:List Rec) (ord:List Nat) (K:Tm→Mm→Prop):Prop:=
 match ord with
 | []=>K (recT allB T0 rs) (recM allB M0 rs)
 | i :: r=>match ops[i]? with
  | none=>False
  | some o=>bif safeB M0 rs (depAt dep i) rs then guardB (guardV ops (depAt dep i) o (restr (recT (inB (depAt dep i)) T0 rs) (looks ops o)))
    (stepD Γ ops dep T0 M0 rs i o fun T M q=>drawOps Γ ops dep T M q r K)
    (drawOps Γ ops dep T0 M0 (⟨i,o.dst,.tup [],[],depAt dep i,looks ops o⟩ :: rs) r K) else False
def pairB (ops:List Oper) (dep:List (List Nat)) (i j:Nat) (oi oj:Oper):Bool:=
 (memB j (depAt dep i) || (noneIn oi.dst (looks ops oj) && noneIn oj.dst (looks ops oi))) && dstNe oi.dst oj.dst
def planOK (ty:Nat→Ty) (ops:List Oper) (dep:List (List Nat)):List Nat→List Nat→Bool
 | _,[]=>true
 | bf,i :: r=>(match ops[i]? with
  | none=>false
  | some o=>!memB i bf && (depAt dep i).all (fun k=>memB k bf) && (Nat.blt (kindO ty o) 2 || r.all fun j=>memB i (depAt dep j)) &&
   bf.all fun j=>match ops[j]? with
    | some oj=>pairB ops dep i j o oj
    | none=>false) && planOK ty ops dep (i :: bf) r
def depOK (ops:List Oper) (dep:List (List Nat)):Bool:=
 (List.range ops.length).all fun i=>match ops[i]? with
  | none=>false
  | some o=>(o.after.toList.all fun e=>!Region.binds .any e || (Nat.blt e.on i && memB e.on (depAt dep i))) &&
   ((depAt dep i).all fun j=>o.after.toList.any fun e=>Region.binds .any e && (Nat.beq e.on j || memB j (depAt dep e.on))) &&
   (depAt dep i).all fun k=>(depAt dep k).all fun j=>memB j (depAt dep i)
def planAll (ty:Nat→Ty) (ops:List Oper) (dep:List (List Nat)) (ord:List Nat):Bool:=
 depOK ops dep && planOK ty ops dep [] ord && (List.range ops.length).all fun j=>memB j ord
@[irreducible] def Draw (Γ:Cfg) (id:Nat) (ops:List Oper) (T:Tm) (M:Mm) (K:Tm→Mm→Prop):Prop:=
 ∃ dep ord,planAll Γ.ty ops dep ord = true∧drawOps Γ ops dep T M [] ord K
theorem Draw.intro {Γ:Cfg} {id:Nat} {ops:List Oper} {T:Tm} {M:Mm} {K:Tm→Mm→Prop} (dep:List (List Nat)) (ord:List Nat) (h:planAll Γ.ty ops dep ord = true) (k:drawOps Γ ops dep T M [] ord K) :
  Draw Γ id ops T M K:=by unfold Draw;exact ⟨dep,ord,h,k⟩
theorem memB_false {a:Nat} {l:List Nat} (h:memB a l = false):a ∉ l:=fun hm=>by rw [memB_iff.2 hm] at h;cases h
theorem noneIn_spec {d:Option Nat} {l:List Nat} (h:noneIn d l = true):∀ s,d = some s→s ∉ l:=by
 intro s hs
 subst hs
 simp only [noneIn,Bool.not_eq_true'] at h
 exact memB_false h
theorem dstNe_spec {d e:Option Nat} (h:dstNe d e = true):∀ s,d = some s→e ≠ some s:=by
 intro s hs he
 subst hs;subst he
 simp only [dstNe,Bool.not_eq_true'] at h
 rw [show Nat.beq s s = true from Nat.beq_refl s] at h
 cases h
theorem planOK_cons {ty:Nat→Ty} {ops:List Oper} {dep:List (List Nat)} {bf:List Nat} {i:Nat} {r:List Nat} (h:planOK ty ops dep bf (i :: r) = true):∃ o,ops[i]? = some o∧i ∉ bf∧(∀ k ∈ depAt dep i,k ∈ bf) ∧
  (kindO ty o < 2 ∨ ∀ j ∈ r,i ∈ depAt dep j)∧(∀ j ∈ bf,∀ oj,ops[j]? = some oj→pairB ops dep i j o oj = true)∧planOK ty ops dep (i :: bf) r = true:=by
 simp only [planOK,Bool.and_eq_true] at h
 obtain ⟨h1,h2⟩:=h
 split at h1
 ·cases h1
 ·rename_i o ho
  simp only [Bool.and_eq_true,Bool.or_eq_true,Bool.not_eq_true',List.all_eq_true] at h1
  obtain ⟨⟨⟨a1,a2⟩,a3⟩,a4⟩:=h1
  refine ⟨o,ho,memB_false a1,fun k hk=>memB_iff.1 (a2 k hk),a3.imp u_lt_of fun h j hj=>memB_iff.1 (h j hj),fun j hj oj hoj=>?_,h2⟩
  have:=a4 j hj
  rw [hoj] at this
  exact this
theorem pair_of {ops:List Oper} {dep:List (List Nat)} {i j:Nat} {oi oj:Oper} (h:pairB ops dep i j oi oj = true) {v v':SV} {n n':Mm} :
  Pair ⟨i,oi.dst,v,n,depAt dep i,looks ops oi⟩ ⟨j,oj.dst,v',n',depAt dep j,looks ops oj⟩:=by
 simp only [pairB,Bool.and_eq_true,Bool.or_eq_true] at h
 refine ⟨fun s h1 h2=>?_,fun s h1 h2=>?_,dstNe_spec h.2⟩
 ·rcases h.1 with h | h
  ·exact Or.inl (memB_iff.1 h)
  ·exact absurd h2 (noneIn_spec h.2 s h1)
 ·rcases h.1 with h | h
  ·exact Or.inr (memB_iff.1 h)
  ·exact absurd h2 (noneIn_spec h.1 s h1)
theorem effOp_pure {Γ:Cfg} {o:Oper} {T:Tm} {M:Mm} {qs:List Prop} {v:SV} {K:List Prop→SV→Mm→Prop} (hk:kindO Γ.ty o = 0) (h:pureOp Γ.ty T M o.op = some (qs,v)) (k:K (qs ++ []) v M) :
    effOp Γ o T M [] K:=by
  unfold effOp
  unfold kindO at hk
  split
  · rename_i hop;rw [hop] at hk;cases hk
  · rename_i hop;rw [hop] at hk;cases hk
  · rename_i hop;rw [hop] at hk;cases hk
  · rename_i hop;rw [hop] at hk;cases hk
  · rename_i hop;rw [hop] at hk;cases hk
  · rename_i hop;rw [hop] at hk;cases hk
  · rename_i hop;rw [hop] at hk;cases hk
  · rename_i s t x hop
    simp only [hop] at hk
    split
    · rename_i e he;rw [he] at hk;cases hk
    · rw [h];exact k
  · rename_i c hop
    rw [hop] at hk
    split
    · rename_i hc;simp only [hc] at hk;cases hk
    · rename_i b hb
      simp only [hb] at hk
      split
      · rename_i hcp;rw [hcp] at hk;cases hk
      · rename_i hcp
        rw [hcp] at hk
        split
        · rename_i hap;rw [hap] at hk;cases hk
        · rw [h];exact k
    · rename_i h1 h2
      simp only at hk
      first
        | cases hk
        | (split at hk
           · rename_i b hb;exact (h2 b hb).elim
           · cases hk)
  · rw [h];exact k
theorem effOp_new {Γ:Cfg} {o:Oper} {T:Tm} {M:Mm} {qs:List Prop} {d:Nat} {e:Ent} {v:SV} {K:List Prop→SV→Mm→Prop} (h:newE Γ o T = some (qs,d,e,v)) (hm:getM M d = none)
  (k:K (qs ++ []) v ((d,e) :: M)):effOp Γ o T M [] K∧e.isOwn = true:=by
 unfold newE at h
 split at h
 ·rename_i t hop
  split at h
  ·rename_i d' hd
   split at h
   ·cases h
   ·rename_i hk
    split at h
    ·cases h
    ·rename_i zl hz
     simp only [Option.some.injEq,Prod.mk.injEq] at h;obtain ⟨rfl,rfl,rfl,rfl⟩:=h
     refine ⟨?_,rfl⟩
     unfold effOp
     simp only [hop,hd,hm]
     exact k
  ·cases h
 ·rename_i t x hop
  split at h
  ·rename_i d' hd
   split at h
   ·rename_i ps ls hl
    simp only [Option.some.injEq,Prod.mk.injEq] at h;obtain ⟨rfl,rfl,rfl,rfl⟩:=h
    refine ⟨?_,rfl⟩
    unfold effOp
    simp only [hop,hd,hm,hl]
    exact k
   ·cases h
  ·cases h
 ·rename_i t l c hop
  split at h
  ·rename_i d' hd
   split at h
   ·rename_i ps e' v' hv
    simp only [Option.some.injEq,Prod.mk.injEq] at h;obtain ⟨rfl,rfl,rfl,rfl⟩:=h
    refine ⟨?_,makeV_own hv⟩
    unfold effOp
    simp only [hop,hd,hm,hv]
    exact k
   ·cases h
  ·cases h
 ·rename_i t len parts hop
  have hn:=(bif_none h).1
  replace h:=(bif_none h).2
  split at h
  ·rename_i d' hd
   split at h
   ·rename_i ps e' v' hv
    simp only [Option.some.injEq,Prod.mk.injEq] at h;obtain ⟨rfl,rfl,rfl,rfl⟩:=h
    refine ⟨?_,bsV_own hv⟩
    unfold effOp
    simp only [hop,hd,hm,hv,hn,cond_true]
    exact k
   ·cases h
  ·cases h
 ·rename_i t r hop
  split at h
  ·split at h
   ·rename_i d' hd
    simp only [Option.some.injEq,Prod.mk.injEq] at h;obtain ⟨rfl,rfl,rfl,rfl⟩:=h
    refine ⟨?_,rfl⟩
    unfold effOp
    simp only [hop,hd,hm]
    exact k
   ·cases h
  ·cases h
 ·cases h
theorem freshB_spec {M0:Mm} {rs:List Rec} {dp:List Nat}:∀ {E:Mm},freshB M0 rs dp E = true→∀ a e,getM E a = some e →
  (getM (recM allB M0 rs) a = none∧e.loose = true∧e ≠ .dead) ∨ (e = .dead∧(∃ e0,getM (recM (inB dp) M0 rs) a = some e0)∧∀ x ∈ rs,x.ix ∉ dp→getM x.new a = none∧getM (recM (inB x.dep) M0 rs) a = none)
 | [],_,_,_,h=>by simp [getM] at h
 | (k,e0) :: r,hf,a,e,h=>by
  simp only [freshB,Bool.and_eq_true] at hf
  obtain ⟨h1,h3⟩:=hf
  by_cases hk:a = k
  ·subst hk
   rw [getM_cons_self] at h
   simp only [Option.some.injEq] at h;subst h
   split at h1
   ·rename_i hn
    left
    refine ⟨hn,?_⟩
    split at h1
    ·cases h1
    ·exact ⟨h1,by simp⟩
    ·exact ⟨rfl,by simp⟩
   ·right
    split at h1
    ·simp only [Bool.and_eq_true,Bool.not_eq_true'] at h1
     refine ⟨rfl,?_,aloneB_spec h1.2⟩
     cases hx:getM (recM (inB dp) M0 rs) a with
     | none=>rw [hx] at h1;cases h1.1
     | some e0=>exact ⟨e0,rfl⟩
    ·cases h1
  ·rw [getM_cons_ne hk] at h
   exact freshB_spec h3 a e h
theorem depOK_get {ops:List Oper} {dep:List (List Nat)} (h:depOK ops dep = true) {i:Nat} {o:Oper} (ho:ops[i]? = some o) :
  (∀ e ∈ o.after,Region.binds .any e = true→e.on < i∧e.on ∈ depAt dep i)∧(∀ j ∈ depAt dep i,∃ e ∈ o.after,Region.binds .any e = true∧(e.on = j ∨ j ∈ depAt dep e.on)) ∧
  ∀ k ∈ depAt dep i,∀ j ∈ depAt dep k,j ∈ depAt dep i:=by
 have hlt:=(List.getElem?_eq_some_iff.1 ho).1
 have:=List.all_eq_true.1 h i (List.mem_range.2 hlt)
 rw [ho] at this
 simp only [Bool.and_eq_true,List.all_eq_true,Bool.or_eq_true,Bool.not_eq_true',List.any_eq_true] at this
 obtain ⟨⟨h1,h2⟩,h3⟩:=this
 refine ⟨fun e he hb=>?_,fun j hj=>?_,fun k hk j hj=>memB_iff.1 (h3 k hk j hj)⟩
 ·rcases h1 e (by simpa using he) with h | h
  ·rw [hb] at h;cases h
  ·exact ⟨u_lt_of h.1,memB_iff.1 h.2⟩
 ·obtain ⟨e,he,hb,hj⟩:=h2 j hj
  exact ⟨e,by simpa using he,hb,hj.imp beq_eq' memB_iff.1⟩
def Facts (Γ:Cfg) (ops:List Oper) (r:Rec) (T:Tm) (M:Mm):Prop:=
 ∃ o b,ops[r.ix]? = some o∧GuardIs ops o T b∧o.dst = r.dst∧(b = true→effOp Γ o T M [] fun qs v M'=>All qs∧v = r.v∧M' = r.new ++ M)∧(b = false→r.v = .tup []∧r.new = [])
structure St (Γ:Cfg) (N:Nat) (ops:List Oper) (dep:List (List Nat)) (K:Tm→Mm→Prop) (bf:List Nat) (T0:Tm) (M0:Mm) (rs:List Rec) (ord:List Nat) (p:Nat→Bool) (ρ:Env) (a:Act) (w:World):Prop where
 I:Inv N (depAt dep) bf T0 M0 rs p ρ a w
 hops:∀ r ∈ rs,∃ o,ops[r.ix]? = some o∧r.dst = o.dst∧r.rd = looks ops o
 facts:∀ r ∈ rs,p r.ix = false→Facts Γ ops r (restr (recT (inB r.dep) T0 rs) r.rd) (recM (inB r.dep) M0 rs)
 F:drawOps Γ ops dep T0 M0 rs ord K
 plan:planOK Γ.ty ops dep bf ord = true
 cover:∀ j,j < ops.length→j ∈ bf ∨ j ∈ ord
section
variable {Γ:Cfg} {N:Nat} {ops:List Oper} {dep:List (List Nat)} {K:Tm→Mm→Prop} {bf:List Nat} {T0:Tm} {M0:Mm} {rs:List Rec} {ord:List Nat} {p:Nat→Bool} {ρ:Env} {a:Act} {w:World}
theorem St.pairs (S:St Γ N ops dep K bf T0 M0 rs ord p ρ a w) {i:Nat} {o:Oper} {v:SV} {n:Mm} (h:∀ j ∈ bf,∀ oj,ops[j]? = some oj→pairB ops dep i j o oj = true) :
  ∀ r ∈ rs,Pair ⟨i,o.dst,v,n,depAt dep i,looks ops o⟩ r:=by
 intro r hr
 obtain ⟨oj,h1,h2,h3⟩:=S.hops r hr
 have:=pair_of (v:=v) (n:=n) (v':=r.v) (n':=r.new) (h r.ix (S.I.bfs r hr) oj h1)
 rw [← h2,← h3,← S.I.deps r hr] at this
 exact this
theorem St.push (hd:depOK ops dep = true) (hdst:dstOK N ops = true) {i:Nat} {r:List Nat} (S:St Γ N ops dep K bf T0 M0 rs (i :: r) p ρ a w) {o:Oper} (ho:ops[i]? = some o) {v:SV} {n:Mm} {b:Bool} (hg:GuardIs ops o (restr (recT (inB (depAt dep i)) T0 rs) (looks ops o)) b)
  (hfr:okNew M0 rs ⟨i,o.dst,v,n,depAt dep i,looks ops o⟩) (hsf:∀ k ∈ rs,k.ix ∉ depAt dep i→∀ a,getM k.new a = some .dead→getM (recM (inB (depAt dep i)) M0 rs) a = none)
  (hf:b = true→effOp Γ o (restr (recT (inB (depAt dep i)) T0 rs) (looks ops o)) (recM (inB (depAt dep i)) M0 rs) [] fun qs v' M'=>All qs∧v' = v∧M' = n ++ recM (inB (depAt dep i)) M0 rs)
  (hs:b = false→v = .tup []∧n = [])
  (hF:drawOps Γ ops dep T0 M0 (⟨i,o.dst,v,n,depAt dep i,looks ops o⟩ :: rs) r K) :
  St Γ N ops dep K (i :: bf) T0 M0 (⟨i,o.dst,v,n,depAt dep i,looks ops o⟩ :: rs) r p ρ a w∧p i = false:=by
 obtain ⟨o',ho',h1,h2,_,h4,h5⟩:=planOK_cons S.plan
 have:o' = o:=Option.some.inj (ho'.symm.trans ho)
 subst this
 have hp:p i = false:=by
  cases h:p i with
  | false=>rfl
  | true=>exact absurd (S.I.done _ h) h1
 refine ⟨⟨S.I.push h1 rfl (depOK_get hd ho).2.2 h2 (fun d h=>dstOK_get hdst (List.mem_of_getElem? ho) d h) (S.pairs h4) hfr hsf,?_,?_,hF,h5,?_⟩,hp⟩
 ·intro x hx
  rcases List.mem_cons.1 hx with hx' | hx'
  ·subst hx';exact ⟨o',ho,rfl,rfl⟩
  ·exact S.hops x hx'
 ·intro x hx hpx
  have hno:inB x.dep i = false:=by
   cases h:inB x.dep i with
   | false=>rfl
   | true=>
    have hm:=memB_iff.1 h
    rcases List.mem_cons.1 hx with hx' | hx'
    ·subst hx';exact absurd (h2 _ hm) h1
    ·exact absurd (S.I.below x hx' _ hm) h1
  have e1:recT (inB x.dep) T0 (⟨i,o'.dst,v,n,depAt dep i,looks ops o'⟩ :: rs) = recT (inB x.dep) T0 rs:=by simp only [recT,hno,cond_false]
  have e2:recM (inB x.dep) M0 (⟨i,o'.dst,v,n,depAt dep i,looks ops o'⟩ :: rs) = recM (inB x.dep) M0 rs:=by simp only [recM,hno,cond_false]
  rw [e1,e2]
  rcases List.mem_cons.1 hx with hx' | hx'
  ·subst hx';exact ⟨o',b,ho,hg,rfl,hf,hs⟩
  ·exact S.facts x hx' hpx
 ·intro j hj
  rcases S.cover j hj with h | h
  ·exact Or.inl (List.mem_cons_of_mem _ h)
  ·rcases List.mem_cons.1 h with h | h
   ·exact Or.inl (by simp [h])
   ·exact Or.inr h
theorem St.advance (hd:depOK ops dep = true) (hdst:dstOK N ops = true):∀ (ord:List Nat) {bf:List Nat} {rs:List Rec},St Γ N ops dep K bf T0 M0 rs ord p ρ a w →
  ∃ bf' rs' ord',St Γ N ops dep K bf' T0 M0 rs' ord' p ρ a w∧recM p M0 rs' = recM p M0 rs∧(ord' = [] ∨ ∃ i r o,ord' = i :: r∧ops[i]? = some o∧2 ≤ kindO Γ.ty o∧safeB M0 rs' (depAt dep i) rs' = true∧GuardIs ops o (restr (recT (inB (depAt dep i)) T0 rs') (looks ops o)) true∧stepD Γ ops dep T0 M0 rs' i o fun T M q=>drawOps Γ ops dep T M q r K)
 | [],bf,rs,S=>⟨bf,rs,[],S,rfl,Or.inl rfl⟩
 | i :: r,bf,rs,S=>by
  have F:=S.F
  unfold drawOps at F
  split at F
  ·exact F.elim
  rename_i o ho
  obtain ⟨hsb,F⟩:safeB M0 rs (depAt dep i) rs = true∧guardB (guardV ops (depAt dep i) o (restr (recT (inB (depAt dep i)) T0 rs) (looks ops o)))
    (stepD Γ ops dep T0 M0 rs i o fun T M q=>drawOps Γ ops dep T M q r K)
    (drawOps Γ ops dep T0 M0 (⟨i,o.dst,.tup [],[],depAt dep i,looks ops o⟩ :: rs) r K):=by
   rcases bif_someP F with h | h
   ·exact h
   ·exact h.2.elim
  have hsf:=safeB_spec hsb
  obtain ⟨b,hg,ht,hf⟩:=guardB_spec F
  clear F
  have step:∀ {v n},(St Γ N ops dep K (i :: bf) T0 M0 (⟨i,o.dst,v,n,depAt dep i,looks ops o⟩ :: rs) r p ρ a w∧p i = false) →
    ∃ bf' rs' ord',St Γ N ops dep K bf' T0 M0 rs' ord' p ρ a w∧recM p M0 rs' = recM p M0 rs∧(ord' = [] ∨ ∃ i r o,ord' = i :: r∧ops[i]? = some o∧2 ≤ kindO Γ.ty o∧safeB M0 rs' (depAt dep i) rs' = true∧GuardIs ops o (restr (recT (inB (depAt dep i)) T0 rs') (looks ops o)) true∧stepD Γ ops dep T0 M0 rs' i o fun T M q=>drawOps Γ ops dep T M q r K):=by
   rintro v n ⟨S',hp⟩
   obtain ⟨bf',rs',ord',h1,h2,h3⟩:=St.advance hd hdst r S'
   refine ⟨bf',rs',ord',h1,?_,h3⟩
   rw [h2]
   simp only [recM,hp,cond_false]
  cases b with
  | false=>exact step (S.push hd hdst ho (n:=[]) hg (fun b e h=>by simp [getM] at h) hsf (fun h=>by cases h) (fun _=>⟨rfl,rfl⟩) (hf rfl))
  | true=>
  have F:=ht rfl
  have F0:=F
  unfold stepD at F
  split at F
  ·rename_i hk
   split at F
   ·rename_i qs v hv
    refine step (S.push hd hdst ho (n:=[]) hg (fun b e h=>by simp [getM] at h) hsf (fun _=>effOp_pure hk hv ⟨?_,rfl,rfl⟩) (fun h=>by cases h) (withP.rest F))
    rw [List.append_nil];exact withP.all F
   ·exact F.elim
  ·rename_i hk
   split at F
   ·rename_i qs d e v he
    split at F
    ·rename_i hm
     have hm2:getM (recM (inB (depAt dep i)) M0 rs) d = none:=by
      cases h:getM (recM (inB (depAt dep i)) M0 rs) d with
      | none=>rfl
      | some e'=>rw [recM_nx (p:=inB (depAt dep i)) (q:=allB) (fun _ _ _=>rfl) hm] at h;cases h
     have hnew:=effOp_new (K:=fun qs v' M'=>All qs∧v' = v∧M' = [(d,e)] ++ recM (inB (depAt dep i)) M0 rs) he hm2 ⟨by rw [List.append_nil];exact withP.all F,rfl,rfl⟩
     refine step (S.push hd hdst ho hg (fun b e' h=>Or.inl ?_) hsf (fun _=>hnew.1) (fun h=>by cases h) (withP.rest F))
     by_cases hb:b = d
     ·subst hb
      rw [getM_cons_self] at h
      simp only [Option.some.injEq] at h;subst h
      exact ⟨hm,Ent.loose_own hnew.2,fun h=>by rw [h] at hnew;cases hnew.2⟩
     ·rw [getM_cons_ne hb] at h;simp [getM] at h
    ·exact F.elim
   ·exact F.elim
  ·rename_i h0 h1
   refine ⟨bf,rs,i :: r,S,rfl,Or.inr ⟨i,r,o,rfl,ho,?_,hsb,hg,F0⟩⟩
   rcases Nat.lt_or_ge (kindO Γ.ty o) 2 with h | h
   ·have h2:kindO Γ.ty o = 0 ∨ kindO Γ.ty o = 1:=by omega
    exact h2.elim (fun h=>(h0 h).elim) fun h=>(h1 h).elim
   ·exact h
theorem Inv.run (I:Inv N (depAt dep) bf T0 M0 rs p ρ a w) {o:Oper} {dp:List Nat} (hdst:∀ d,o.dst = some d→d < N) (hd:∀ k ∈ dp,p k = true) (ht:∀ k ∈ dp,∀ j ∈ depAt dep k,j ∈ dp)
  (hrd:∀ r ∈ rs,∀ s,r.dst = some s→s ∈ looks ops o→p r.ix = true→r.ix ∈ dp)
  (hsf:∀ k ∈ rs,p k.ix = true→k.ix ∉ dp→∀ a,getM k.new a = some .dead→getM (recM (inB dp) M0 rs) a = none) {G:SV→Mm→Prop} {C:List Prop→SV→Mm→Prop}
  (hC:∀ qs v M',C qs v M'→All qs∧∃ E,M' = E ++ recM (inB dp) M0 rs∧(∀ b e,getM E b = some e→(getM (recM p M0 rs) b = none∧e.loose = true) ∨ (e = .dead∧∃ e0,getM (recM (inB dp) M0 rs) b = some e0))∧G v E)
  (hf:effOp Γ o (restr (recT (inB dp) T0 rs) (looks ops o)) (recM (inB dp) M0 rs) [] C) {Q:Exit→Act→World→Prop} :
  o.wp Γ.P a w (fun a' w'=>∃ v E x ρ',G v E∧a'.tmps = (a.put o.dst x).tmps∧a'.defers = []∧ρ.le ρ' ∧
   (∀ d,o.dst = some d→RelT ρ' v x∧ToldT (E ++ recM (inB dp) M0 rs) v)∧(∀ b e,getM E b = some e→ToldE (E ++ recM (inB dp) M0 rs) e) ∧
   ConcM ρ' (E ++ recM p M0 rs) w'∧Step ρ (recM p M0 rs) ρ' (E ++ recM p M0 rs) w w') Q:=by
 obtain ⟨hs,hc⟩:=I.sees (rd:=looks ops o) hd ht hrd hsf
 refine Oper.wp_mono ?_ (Oper.wp_put (effOp_sound hc hdst (fun qs v M' h=>(hC qs v M' h).1) hf))
 rintro a' w' ⟨⟨x,hx⟩,ρ1,T',M',⟨qs,v,hk,rfl⟩,hle,hc',hst⟩
 obtain ⟨_,E,rfl,hfr,hG⟩:=hC qs v M' hk
 obtain ⟨ρ2,l1,l2,h1,h2⟩:=I.mem.frame hs hle hc'.toConcM hst hfr
 refine ⟨v,E,x,ρ2,hG,hx,hc'.defers,l1,fun d hdd=>?_,fun b e h=>hc'.toConcM.told (getM_append_new h),h1,h2⟩
 have hr:=hc'.tm d
 rw [hdd,putT,getT_cons_self,hx,hdd] at hr
 have hxx:(a.put (some d) x).tmps.getD d undef = x:=by
  have hlt:=hdst d hdd
  unfold Act.put
  simp only [Array.getD_eq_getD_getElem?]
  rw [Array.getElem?_setIfInBounds_self_of_lt (by rw [I.sz];exact hlt)]
  rfl
 rw [hxx] at hr
 exact ⟨hr.le l2,hc'.toConcM.toldT hr⟩
end
end Go.Sx
namespace Go.Sx
open Go
theorem toldT_und (M:Mm):ToldT M (.tup []):=⟨⟨fun _=>False,fun _=>(0,0),fun _ _ _=>False⟩,undef,fun _ h=>h.elim,⟨[],rfl,rfl⟩⟩
def pB (l:Array Bool):Nat→Bool:=fun j=>l.getD j false
theorem pB_set {l:Array Bool} {i:Nat} (h:i < l.size):pB (l.setIfInBounds i true) = plus (pB l) i:=by
 funext j
 by_cases hj:j = i
 ·subst hj
  rw [plus_self]
  simp only [pB,Array.getD_eq_getD_getElem?]
  rw [Array.getElem?_setIfInBounds_self_of_lt h]
  rfl
 ·rw [plus_ne hj]
  simp only [pB]
  exact getD_set_ne false (Ne.symm hj)
theorem pB_true {l:Array Bool} {i:Nat} (h:i < l.size):l.getD i true = false ↔ pB l i = false:=by
 simp only [pB,Array.getD_eq_getD_getElem?,Array.getElem?_eq_getElem h,Option.getD_some]
theorem filter_le {α:Type} {p q:α→Bool}:∀ {l:List α},(∀ x ∈ l,q x = true→p x = true)→(l.filter q).length ≤ (l.filter p).length
 | [],_=>by simp
 | y :: t,hpq=>by
  have iht:=filter_le (p:=p) (q:=q) (l:=t) fun z hz=>hpq z (List.mem_cons_of_mem _ hz)
  have hy:=hpq y (by simp)
  rw [List.filter_cons,List.filter_cons]
  cases h:q y with
  | true=>rw [hy h];simpa using iht
  | false=>cases p y <;> simp <;> omega
theorem filter_lt {α:Type} {p q:α→Bool} {i:α}:∀ {l:List α},(∀ x ∈ l,q x = true→p x = true)→i ∈ l→p i = true→q i = false→(l.filter q).length < (l.filter p).length
 | [],_,h,_,_=>by simp at h
 | x :: r,hpq,hi,hp,hq=>by
  have le:(r.filter q).length ≤ (r.filter p).length:=filter_le fun y hy=>hpq y (List.mem_cons_of_mem _ hy)
  rw [List.filter_cons,List.filter_cons]
  rcases List.mem_cons.1 hi with h | h
  ·subst h;rw [hp,hq];simp;omega
  ·have ih:=filter_lt (fun y hy=>hpq y (List.mem_cons_of_mem _ hy)) h hp hq
   have hx:=hpq x (by simp)
   cases h:q x with
   | true=>rw [hx h];simpa using ih
   | false=>cases p x <;> simp <;> omega
def left (n:Nat) (p:Nat→Bool):Nat:=((List.range n).filter fun j=>!p j).length
theorem left_plus {n i:Nat} {p:Nat→Bool} (hi:i < n) (hp:p i = false):left n (plus p i) < left n p:=by
 refine filter_lt (i:=i) (fun x _ h=>?_) (List.mem_range.2 hi) (by simp [hp]) (by simp [plus_self])
 cases hx:p x with
 | false=>rfl
 | true=>rw [plus_old hx] at h;exact h
theorem left_zero {n:Nat} {p:Nat→Bool} (h:left n p ≤ 0):∀ j,j < n→p j = true:=by
 intro j hj
 cases hp:p j with
 | true=>rfl
 | false=>
  have:j ∈ (List.range n).filter fun j=>!p j:=List.mem_filter.2 ⟨List.mem_range.2 hj,by simp [hp]⟩
  have:=List.length_pos_of_mem this
  unfold left at h
  omega
theorem barB_spec {ops:List Oper} {dep:List (List Nat)} {dp:List Nat}:∀ {rs:List Rec},barB ops dep dp rs = true→∀ r ∈ rs,r.ix ∈ dp ∨ aheadB ops dep r.ix = true
 | [],_,_,h=>by simp at h
 | r0 :: t,hb,r,hr=>by
  simp only [barB,Bool.and_eq_true,Bool.or_eq_true] at hb
  rcases List.mem_cons.1 hr with h | h
  ·rw [h];exact hb.1.imp memB_iff.1 id
  ·exact barB_spec hb.2 r h
theorem noSelB_spec:∀ {ops:List Oper},noSelB ops = true→∀ o ∈ ops,∀ cs b,o.op ≠ .select cs b
 | [],_,_,h,_,_=>by simp at h
 | o :: r,hn,o',ho,cs,b=>by
  simp only [noSelB,Bool.and_eq_true,Bool.not_eq_true'] at hn
  rcases List.mem_cons.1 ho with h | h
  ·subst h
   intro he
   have:=hn.1
   unfold isSel at this
   rw [he] at this;cases this
  ·exact noSelB_spec hn.2 o' h cs b
theorem lessB_spec {i:Nat}:∀ {l:List Nat},lessB i l = true→∀ k ∈ l,k < i
 | [],_,_,h=>by simp at h
 | x :: r,hn,k,hk=>by
  simp only [lessB,Bool.and_eq_true] at hn
  rcases List.mem_cons.1 hk with h | h
  ·subst h;exact u_lt_of hn.1
  ·exact lessB_spec hn.2 k h
theorem waitsB_spec {i:Nat}:∀ {l:List Edge},waitsB i l = true→∃ e ∈ l,Region.binds .any e = true∧e.on = i
 | [],h=>by simp [waitsB] at h
 | e :: r,h=>by
  simp only [waitsB,Bool.or_eq_true,Bool.and_eq_true] at h
  rcases h with h | h
  ·exact ⟨e,by simp,h.1,beq_eq' h.2⟩
  ·obtain ⟨e',h1,h2⟩:=waitsB_spec h
   exact ⟨e',List.mem_cons_of_mem _ h1,h2⟩
theorem tmpsOf_mem {t:Nat}:∀ {l:List Operand},t ∈ tmpsOf l ↔ Operand.tmp t ∈ l
 | []=>by simp [tmpsOf]
 | .tmp s :: r=>by simp [tmpsOf,tmpsOf_mem (l:=r)]
 | .const _ :: r=>by simp [tmpsOf,tmpsOf_mem (l:=r)]
 | .global _ :: r=>by simp [tmpsOf,tmpsOf_mem (l:=r)]
 | .func _ :: r=>by simp [tmpsOf,tmpsOf_mem (l:=r)]
theorem looksAt_looks {ops:List Oper} {o:Oper} {d:Nat} (h:d ∈ o.looksAt ops.toArray):d ∈ looks ops o:=by
 unfold Oper.looksAt at h
 unfold looks
 rcases List.mem_append.1 h with h | h
 ·refine List.mem_append_right _ (tmpsOf_mem.2 ?_)
  obtain ⟨x,hx,he⟩:=List.mem_filterMap.1 h
  cases x <;> simp at he
  subst he;exact hx
 ·refine List.mem_append_left _ ?_
  unfold gSlot
  cases hg:o.guard with
  | none=>rw [hg] at h;simp at h
  | some gw=>
   obtain ⟨g,want⟩:=gw
   rw [hg] at h
   simp only [List.getElem?_toArray] at h
   simp only [guardSlot]
   cases hx:ops[g]? with
   | none=>rw [hx] at h;simp at h
   | some o'=>
    rw [hx] at h
    simp only [Option.bind_some] at h
    cases hd:o'.dst with
    | none=>rw [hd] at h;simp at h
    | some d'=>rw [hd] at h;simpa [hd] using h
theorem apartB_spec {ops:List Oper} {x y:Oper} (h:apartB ops x y = true):x.apart ops.toArray y = true:=by
 simp only [apartB,Bool.and_eq_true] at h
 obtain ⟨h1,h2,h3⟩:=h
 unfold Oper.apart
 simp only [Bool.and_eq_true]
 constructor
 ·cases hx:x.dst with
  | none=>rfl
  | some d=>
   simp only [Bool.and_eq_true,Bool.not_eq_true',bne_iff_ne,ne_eq]
   constructor
   ·cases hc:(Oper.looksAt ops.toArray y).contains d with
    | false=>rfl
    | true=>exact absurd (looksAt_looks (by simpa using hc)) (noneIn_spec h1 d hx)
   ·intro he
    exact dstNe_spec h2 d hx he
 ·cases hy:y.dst with
  | none=>rfl
  | some d=>
   simp only [Bool.not_eq_true']
   cases hc:(Oper.looksAt ops.toArray x).contains d with
   | false=>rfl
   | true=>exact absurd (looksAt_looks (by simpa using hc)) (noneIn_spec h3 d hy)
theorem apartAll_spec {ops:List Oper} {dp:List Nat} {i:Nat} {o:Oper}:∀ {l:List Oper} {k:Nat},apartAll ops dp i o k l = true→∀ j oj,l[j]? = some oj→k + j ≠ i→k + j ∉ dp→(∀ e ∈ oj.after,Region.binds .any e = true→e.on ≠ i) →
  o.apart ops.toArray oj = true
 | [],_,_,j,oj,hj,_,_,_=>by simp at hj
 | x :: r,k,h,j,oj,hj,hne,hdp,hw=>by
  simp only [apartAll,Bool.and_eq_true] at h
  cases j with
  | zero=>
   simp only [List.getElem?_cons_zero,Option.some.injEq] at hj
   subst hj
   rw [Nat.add_zero] at hne hdp
   have:=h.1
   simp only [Bool.or_eq_true] at this
   rcases this with h1 | h1 | h1 | h1
   ·exact absurd (beq_eq' h1) hne
   ·exact absurd (memB_iff.1 h1) hdp
   ·obtain ⟨e,he,hb,hon⟩:=waitsB_spec h1
    exact absurd hon (hw e (by simpa using he) hb)
   ·exact apartB_spec h1
  | succ j=>
   refine apartAll_spec h.2 j oj (by simpa using hj) ?_ ?_ hw
   ·rw [show k + 1 + j = k + (j + 1) by omega];exact hne
   ·rw [show k + 1 + j = k + (j + 1) by omega];exact hdp
theorem aheadB_spec {ops:List Oper} {dep:List (List Nat)} {i:Nat} (h:aheadB ops dep i = true):∃ o,ops[i]? = some o∧blindO o = true∧(∀ k ∈ depAt dep i,k < i) ∧
  (∀ j oj,ops[j]? = some oj→j ≠ i→j ∉ depAt dep i→(∀ e ∈ oj.after,Region.binds .any e = true→e.on ≠ i)→o.apart ops.toArray oj = true)∧∀ o ∈ ops,∀ cs b,o.op ≠ .select cs b:=by
 unfold aheadB at h
 split at h
 ·cases h
 ·rename_i o ho
  simp only [Bool.and_eq_true] at h
  obtain ⟨h1,h2,h3,h4⟩:=h
  refine ⟨o,ho,h1,lessB_spec h2,fun j oj hj hne hdp hw=>?_,noSelB_spec h4⟩
  have:=apartAll_spec h3 j oj hj
  rw [Nat.zero_add] at this
  exact this hne hdp hw
theorem blind_wp {P:Program} {o:Oper} (hb:blindO o = true) {a:Act} {w:World} {K:Act→World→Prop} {Q:Exit→Act→World→Prop} (h:o.wp P a w K Q) :
  ∃ v,(∀ w,(execOp a.eval o).run P w = .ok (.value v) w)∧K (a.put o.dst v) w:=by
 obtain ⟨dst,op,ty,pos,after,guard⟩:=o
 unfold Oper.wp at h
 cases op <;> simp only [blindO,Bool.false_eq_true] at hb
 case move x=>exact ⟨a.eval x,fun _=>rfl,h⟩
 case assign x=>exact ⟨a.eval x,fun _=>rfl,h⟩
 case pick c x y=>
  simp only [execOp] at h ⊢
  cases hx:a.eval c
  case bool b=>
   rw [hx] at h
   exact ⟨if b then a.eval x else a.eval y,fun _=>rfl,h⟩
  all_goals
   rw [hx] at h
   exact absurd h (by simp [asBool,stuck,Sem.run,Sem.run_bind,Oper.upon];try (intro h;exact h))
 case extract x k=>
  simp only [execOp,Instr.extract] at h ⊢
  cases hx:a.eval x
  case tuple vs=>
   rw [hx] at h
   simp only at h ⊢
   cases hv:vs[k]? with
   | some v=>
    rw [hv] at h
    exact ⟨v,fun _=>rfl,h⟩
   | none=>
    rw [hv] at h
    exact absurd h (by simp [stuck,Sem.run,Oper.upon])
  all_goals
   rw [hx] at h
   exact absurd h (by simp [stuck,Sem.run,Oper.upon];try (intro h;exact h))
theorem blind_wpOp {P:Program} {ops:Array Oper} {Q:Exit→Act→World→Prop} (hlo:¬ LetsOut Q) {i:Nat} {o:Oper} (ho:ops[i]? = some o) (hb:blindO o = true) {K:Act→World→Prop} {a:Act} {w:World} (h:wpOp P ops Q i K a w) :
  ∃ v,Yields P ops o v a∧K (a.put o.dst v) w:=by
 unfold wpOp at h
 simp only [ho] at h
 split at h
 ·rename_i hw
  rcases h with h | ⟨_,h⟩
  ·obtain ⟨v,h1,h2⟩:=blind_wp hb h
   exact ⟨v,Or.inl ⟨hw,h1⟩,h2⟩
  ·exact absurd h hlo
 ·rename_i hw
  exact ⟨undef,Or.inr ⟨by simpa using hw,rfl⟩,h⟩
section
variable {Γ:Cfg} {N:Nat} {ops:List Oper} {dep:List (List Nat)} {K:Tm→Mm→Prop}
theorem lateL_spec {ops:List Oper} {dep:List (List Nat)} {dp:List Nat}:∀ {rs:List Rec},(∀ x ∈ lateL ops dep dp rs,x ∈ rs)∧∀ r ∈ rs,r ∈ lateL ops dep dp rs ∨ r.ix ∈ dp ∨ aheadB ops dep r.ix = true
 | []=>by simp [lateL]
 | r :: q=>by
  obtain ⟨k1,k2⟩:=lateL_spec (ops:=ops) (dep:=dep) (dp:=dp) (rs:=q)
  simp only [lateL]
  cases hb:(memB r.ix dp || aheadB ops dep r.ix) with
  | true=>
   rw [cond_true]
   refine ⟨fun x hx=>List.mem_cons_of_mem _ (k1 x hx),fun r' hr'=>?_⟩
   rcases List.mem_cons.1 hr' with h | h
   ·rw [h]
    simp only [Bool.or_eq_true] at hb
    exact Or.inr (hb.imp memB_iff.1 id)
   ·exact k2 r' h
  | false=>
   rw [cond_false]
   refine ⟨fun x hx=>?_,fun r' hr'=>?_⟩
   ·rcases List.mem_cons.1 hx with h | h
    ·rw [h];simp
    ·exact List.mem_cons_of_mem _ (k1 x h)
   ·rcases List.mem_cons.1 hr' with h | h
    ·rw [h];exact Or.inl (by simp)
    ·exact (k2 r' h).imp (fun h=>List.mem_cons_of_mem _ h) id
theorem noneWaits_spec {i:Nat}:∀ {rs:List Rec},noneWaits i rs = true→∀ r ∈ rs,i ∉ r.dep
 | [],_,_,h=>by simp at h
 | r0 :: q,h,r,hr=>by
  simp only [noneWaits,Bool.and_eq_true,Bool.not_eq_true'] at h
  rcases List.mem_cons.1 hr with h' | h'
  ·rw [h'];exact memB_false h.1
  ·exact noneWaits_spec h.2 r h'
theorem newOK_spec {M:Mm}:∀ {E:Mm},newOK M E = true→∀ b e,getM E b = some e→getM M b = none∧e.isOwn = true
 | [],_,_,_,h=>by simp [getM] at h
 | (k,e0) :: r,h,b,e,he=>by
  simp only [newOK,Bool.and_eq_true] at h
  by_cases hk:b = k
  ·subst hk
   rw [getM_cons_self] at he
   simp only [Option.some.injEq] at he;subst he
   exact ⟨isNone?_spec h.1.1,h.1.2⟩
  ·rw [getM_cons_ne hk] at he
   exact newOK_spec h.2 b e he
theorem lateOK_spec {ty:Nat→Ty} {ops:List Oper} {dp:List Nat} {rs:List Rec}:∀ {X:List Rec},lateOK ty ops dp rs X = true→∀ x ∈ X,(allocB ops x.ix = true ∨ pureB ty ops x.ix = true)∧x.ix ∉ dp∧∀ r ∈ rs,x.ix ∉ r.dep
 | [],_,x,h=>by cases h
 | y :: q,h,x,hx=>by
  simp only [lateOK,Bool.and_eq_true,Bool.or_eq_true,Bool.not_eq_true'] at h
  rcases List.mem_cons.1 hx with h' | h'
  ·rw [h'];exact ⟨h.1.1,memB_false h.1.2.1,noneWaits_spec h.1.2.2⟩
  ·exact lateOK_spec h.2 x h'
theorem lateOf_spec {ty:Nat→Ty} {i0:Nat} {o0:Oper} {ops:List Oper} {dep:List (List Nat)} {dp:List Nat} {rs:List Rec} {X:List Rec} (h:lateOf ty i0 o0 ops dep dp rs = some X) :
  (∀ x ∈ X,x ∈ rs)∧(∀ r ∈ rs,r ∈ X ∨ r.ix ∈ dp ∨ aheadB ops dep r.ix = true)∧∀ x ∈ X,(allocB ops x.ix = true ∨ pureB ty ops x.ix = true)∧x.ix ∉ dp∧∀ r ∈ rs,x.ix ∉ r.dep:=by
 unfold lateOf at h
 have h:=(bif_none h).2
 have hb:=(bif_none h).1
 have h:=(bif_none h).2
 simp only [Option.some.injEq] at h
 subst h
 exact ⟨lateL_spec.1,lateL_spec.2,lateOK_spec hb⟩
theorem notS_spec {j:Nat}:∀ {S:List Rec},notS S j = true ↔ ∀ x ∈ S,x.ix ≠ j
 | []=>by simp [notS]
 | x :: r=>by
  simp only [notS,Bool.and_eq_true,Bool.not_eq_true',notS_spec (S:=r),List.mem_cons,forall_eq_or_imp]
  refine and_congr ⟨fun h e=>?_,fun h=>?_⟩ Iff.rfl
  ·rw [e,Nat.beq_refl] at h;cases h
  ·cases hb:Nat.beq j x.ix with
   | false=>rfl
   | true=>exact absurd (beq_eq' hb).symm h
theorem lateAll_get {Γ:Cfg} {ops:List Oper} {o:Oper} {T0:Tm} {M0:Mm} {rs:List Rec} {next:Tm→Mm→List Rec→Prop} (p:Rec→Bool):∀ {X S:List Rec},lateAll Γ ops o T0 M0 rs next X S →
  ∃ S',(∀ x,x ∈ S' ↔ (x ∈ X∧p x = true) ∨ x ∈ S)∧effOp Γ o (recT (notS S') T0 rs) (recM (notS S') M0 rs) [] fun qs v M'=>withP qs (lateGo Γ ops (putT o.dst v (recT (notS S') T0 rs)) M' next S' [])
 | [],S,h=>⟨S,fun x=>by simp,h⟩
 | y :: r,S,h=>by
  cases hp:p y with
  | true=>
   obtain ⟨S',h1,h2⟩:=lateAll_get p h.2
   refine ⟨S',fun x=>?_,h2⟩
   rw [h1,List.mem_cons,List.mem_cons]
   constructor
   ·rintro (h | h | h)
    ·exact Or.inl ⟨Or.inr h.1,h.2⟩
    ·exact Or.inl ⟨Or.inl h,by rw [h];exact hp⟩
    ·exact Or.inr h
   ·rintro (⟨h | h,hx⟩ | h)
    ·exact Or.inr (Or.inl h)
    ·exact Or.inl ⟨h,hx⟩
    ·exact Or.inr (Or.inr h)
  | false=>
   obtain ⟨S',h1,h2⟩:=lateAll_get p h.1
   refine ⟨S',fun x=>?_,h2⟩
   rw [h1,List.mem_cons]
   constructor
   ·rintro (h | h)
    ·exact Or.inl ⟨Or.inr h.1,h.2⟩
    ·exact Or.inr h
   ·rintro (⟨h | h,hx⟩ | h)
    ·rw [h,hp] at hx;cases hx
    ·exact Or.inl ⟨h,hx⟩
    ·exact Or.inr h
theorem pureB_spec {ty:Nat→Ty} {ops:List Oper} {i:Nat} (h:pureB ty ops i = true):∃ o,ops[i]? = some o∧kindO ty o = 0∧o.guard = none:=by
 unfold pureB at h
 split at h
 ·rename_i o ho
  split at h
  ·rename_i hg;exact ⟨o,ho,beq_eq' h,hg⟩
  ·cases h
 ·cases h
theorem allocB_spec {ops:List Oper} {i:Nat} (h:allocB ops i = true):∃ o t,ops[i]? = some o∧o.op = .alloc t∧o.guard = none:=by
 unfold allocB at h
 split at h
 ·rename_i o ho
  split at h
  ·rename_i t hop
   split at h
   ·rename_i hg;exact ⟨o,t,ho,hop,hg⟩
   ·cases h
  ·cases h
 ·cases h
theorem alloc_any {Γ:Cfg} {o:Oper} {t:TypeId} (ho:o.op = .alloc t) {T T2:Tm} {M M2 E:Mm} {v:SV} (h:effOp Γ o T M [] fun qs v' M'=>All qs∧v' = v∧M' = E ++ M) (hE:∀ b e,getM E b = some e→getM M2 b = none) :
  effOp Γ o T2 M2 [] fun qs v' M'=>All qs∧v' = v∧M' = E ++ M2:=by
 unfold effOp at h ⊢
 rw [ho] at h ⊢
 simp only at h ⊢
 split at h
 ·rename_i d hd
  split at h
  ·split at h
   ·exact h.elim
   ·rename_i hk
    split at h
    ·exact h.elim
    ·rename_i zl hz
     obtain ⟨h1,h2,h3⟩:=h
     have h4:E = [(d,.mem true 0 (Γ.ty t).zl)]:=by
      have:[(d,Ent.mem true 0 (Γ.ty t).zl)] ++ M = E ++ M:=h3
      exact (List.append_cancel_right this).symm
     rw [hE d (.mem true 0 (Γ.ty t).zl) (by rw [h4];exact getM_cons_self _ _ _)]
     simp only
     exact ⟨h1,h2,by rw [h4];rfl⟩
  ·exact h.elim
 ·exact h.elim
theorem planOK_congr {ty:Nat→Ty} {ops:List Oper} {dep:List (List Nat)}:∀ {r:List Nat} {bf bf2:List Nat},(∀ j,j ∈ bf ↔ j ∈ bf2)→planOK ty ops dep bf r = true→planOK ty ops dep bf2 r = true
 | [],_,_,_,_=>rfl
 | i :: r,bf,bf2,hm,h=>by
  have hmem:∀ j,memB j bf = memB j bf2:=fun j=>by
   cases h1:memB j bf with
   | true=>exact (memB_iff.2 ((hm j).1 (memB_iff.1 h1))).symm
   | false=>
    cases h2:memB j bf2 with
    | false=>rfl
    | true=>exact absurd ((hm j).2 (memB_iff.1 h2)) (memB_false h1)
  simp only [planOK,Bool.and_eq_true] at h ⊢
  obtain ⟨h1,h2⟩:=h
  refine ⟨?_,planOK_congr (fun j=>?_) h2⟩
  ·split
   ·rename_i ho;rw [ho] at h1;cases h1
   ·rename_i o ho
    rw [ho] at h1
    simp only [Bool.and_eq_true,Bool.or_eq_true,Bool.not_eq_true',List.all_eq_true] at h1 ⊢
    obtain ⟨⟨⟨a1,a2⟩,a3⟩,a4⟩:=h1
    exact ⟨⟨⟨by rw [← hmem];exact a1,fun k hk=>by rw [← hmem];exact a2 k hk⟩,a3⟩,fun j hj=>a4 j ((hm j).2 hj)⟩
  ·rw [List.mem_cons,List.mem_cons,hm j]
theorem recM_base_none {M:Mm} {rs:List Rec} {b:Nat} (h:getM (recM allB M rs) b = none):getM M b = none:=by
 cases hx:getM M b with
 | none=>rfl
 | some e=>
  obtain ⟨e',he⟩:=recM_base (rs:=rs) (p:=allB) hx
  rw [h] at he;cases he
theorem late_push {p:Nat→Bool} {T:Tm} {M:Mm} {next:Tm→Mm→List Rec→Prop} {rs':List Rec} {ρ:Env} {a:Act} {w:World}
  (huniq:∀ r ∈ rs',∀ r' ∈ rs',r.ix ≠ r'.ix→Pair r r'):∀ (S acc:List Rec) {bf:List Nat},lateGo Γ ops T M next S acc→Inv N (depAt dep) bf T M acc p ρ a w →
  (∀ y ∈ acc,(∃ o,ops[y.ix]? = some o∧y.dst = o.dst∧y.rd = looks ops o)∧(∃ o,ops[y.ix]? = some o∧o.guard = none∧o.dst = y.dst∧effOp Γ o (restr T y.rd) M [] fun qs v' M2=>All qs∧v' = y.v∧M2 = y.new ++ M)∧(∃ y0 ∈ rs',y0.ix = y.ix∧y0.dst = y.dst∧y0.dep = y.dep∧y0.rd = y.rd)∧(∀ b e,getM y.new b = some e→e.isOwn = true)∧p y.ix = false) →
  (∀ x ∈ S,x ∈ rs'∧p x.ix = false∧x.ix ∉ bf∧x.dep = depAt dep x.ix∧(∀ k ∈ x.dep,∀ j ∈ depAt dep k,j ∈ x.dep)∧(∀ k ∈ x.dep,p k = true)∧(∀ d,x.dst = some d→d < N) ∧
   (∃ o,ops[x.ix]? = some o∧x.dst = o.dst∧x.rd = looks ops o)∧(allocB ops x.ix = true ∨ pureB Γ.ty ops x.ix = true)∧(∃ T1 M1,Facts Γ ops x T1 M1)) →
  ∃ acc' bf',Inv N (depAt dep) bf' T M acc' p ρ a w∧next T M acc'∧(∀ j,j ∈ bf' ↔ j ∈ bf ∨ ∃ x ∈ S,x.ix = j) ∧
   (∀ y ∈ acc',(∃ o,ops[y.ix]? = some o∧y.dst = o.dst∧y.rd = looks ops o)∧(∃ o,ops[y.ix]? = some o∧o.guard = none∧o.dst = y.dst∧effOp Γ o (restr T y.rd) M [] fun qs v' M2=>All qs∧v' = y.v∧M2 = y.new ++ M)∧p y.ix = false)
 | [],acc,bf,h,I,hacc,_=>⟨acc,bf,I,h,fun j=>by simp,fun y hy=>⟨(hacc y hy).1,(hacc y hy).2.1,(hacc y hy).2.2.2.2⟩⟩
 | x :: r,acc,bf,h,I,hacc,hS=>by
  unfold lateGo at h
  obtain ⟨hns,h⟩:=bif_someP h |>.resolve_right fun h=>h.2.elim
  have hns:=notS_spec.1 hns
  obtain ⟨s1,s2,s3,s4,s5,s6,s7,⟨ox,s8,s9,s10⟩,s11,T1,M1,s12⟩:=hS x (by simp)
  have go:∀ (x2:Rec),x2.ix = x.ix→x2.dst = x.dst→x2.dep = x.dep→x2.rd = x.rd→(∀ b e',getM x2.new b = some e'→getM (recM allB M acc) b = none∧e'.isOwn = true)→lateGo Γ ops T M next r (x2 :: acc) →
    (∃ o,ops[x.ix]? = some o∧o.guard = none∧o.dst = x.dst∧effOp Γ o (restr T x.rd) M [] fun qs v' M2=>All qs∧v' = x2.v∧M2 = x2.new ++ M) →
    ∃ acc' bf',Inv N (depAt dep) bf' T M acc' p ρ a w∧next T M acc'∧(∀ j,j ∈ bf' ↔ j ∈ bf ∨ ∃ y ∈ x :: r,y.ix = j) ∧
     (∀ y ∈ acc',(∃ o,ops[y.ix]? = some o∧y.dst = o.dst∧y.rd = looks ops o)∧(∃ o,ops[y.ix]? = some o∧o.guard = none∧o.dst = y.dst∧effOp Γ o (restr T y.rd) M [] fun qs v' M2=>All qs∧v' = y.v∧M2 = y.new ++ M)∧p y.ix = false):=by
   intro x2 e1 e2 e3 e4 hnew hgo hfx
   have I1:=I.push (r:=x2) (by rw [e1];exact s3) (by rw [e1,e3];exact s4) (by rw [e3];exact s5) (fun k hk=>by rw [e3] at hk;exact I.done k (s6 k hk)) (by rw [e2];exact s7)
    (fun y hy=>by
     obtain ⟨_,_,⟨y0,y1,y2,y3,y4,y5⟩,_,_⟩:=hacc y hy
     have hne:x.ix ≠ y0.ix:=fun h=>hns y hy (by rw [← y2,h])
     have hp:=huniq x s1 y0 y1 hne
     obtain ⟨p1,p2,p3⟩:=hp
     refine ⟨fun s h1 h2=>?_,fun s h1 h2=>?_,fun s h1=>?_⟩
     ·rw [e3,e1,← y4,← y2];rw [e4] at h2;rw [← y3] at h1;exact p1 s h1 h2
     ·rw [e1,e3,← y2,← y4];rw [e2] at h1;rw [← y5] at h2;exact p2 s h1 h2
     ·rw [e2] at h1;rw [← y3];exact p3 s h1)
    (fun b e' he=>Or.inl ⟨(hnew b e' he).1,Ent.loose_own (hnew b e' he).2,fun h=>by have:=(hnew b e' he).2;rw [h] at this;cases this⟩)
    (fun y hy _ b hb=>by have:=(hacc y hy).2.2.2.1 b _ hb;cases this)
   obtain ⟨acc',bf',k1,k2,k3,k4⟩:=late_push huniq r (x2 :: acc) hgo I1
    (fun y hy=>by
     rcases List.mem_cons.1 hy with h' | h'
     ·subst h'
      obtain ⟨o,g1,g2,g3,g4⟩:=hfx
      refine ⟨⟨ox,by rw [e1];exact s8,by rw [e2];exact s9,by rw [e4];exact s10⟩,⟨o,by rw [e1];exact g1,g2,by rw [e2];exact g3,by rw [e4];exact g4⟩,⟨x,s1,e1.symm,e2.symm,e3.symm,e4.symm⟩,fun b e h=>(hnew b e h).2,by rw [e1];exact s2⟩
     ·exact hacc y h')
    (fun y hy=>by
     obtain ⟨z1,z2,z3,z⟩:=hS y (List.mem_cons_of_mem _ hy)
     refine ⟨z1,z2,?_,z⟩
     intro hm
     rcases List.mem_cons.1 hm with h' | h'
     ·-- the same twice: the list of what is foreseen says no
      have:∀ {S acc:List Rec},lateGo Γ ops T M next S acc→∀ y ∈ S,∀ q ∈ acc,q.ix ≠ y.ix:=by
       intro S
       induction S with
       | nil=>intro acc _ y hy;cases hy
       | cons z t ih=>
        intro acc hg y hy q hq
        unfold lateGo at hg
        obtain ⟨hz,hg⟩:=bif_someP hg |>.resolve_right fun h=>h.2.elim
        rcases List.mem_cons.1 hy with e | e
        ·rw [e];exact notS_spec.1 hz q hq
        ·rcases bif_someP hg with ⟨_,hg⟩ | ⟨_,hg⟩
         ·obtain ⟨_,hg⟩:=bif_someP hg |>.resolve_right fun h=>h.2.elim
          exact ih hg y e q (List.mem_cons_of_mem _ hq)
         ·split at hg
          ·split at hg
           ·exact ih (withP.rest hg) y e q (List.mem_cons_of_mem _ hq)
           ·exact hg.elim
          ·exact hg.elim
      exact this hgo y hy x2 (by simp) h'.symm
     ·exact z3 h')
   refine ⟨acc',bf',k1,k2,fun j=>?_,k4⟩
   rw [k3,List.mem_cons,e1]
   constructor
   ·rintro ((h | h) | ⟨y,h1,h2⟩)
    ·exact Or.inr ⟨x,by simp,h.symm⟩
    ·exact Or.inl h
    ·exact Or.inr ⟨y,List.mem_cons_of_mem _ h1,h2⟩
   ·rintro (h | ⟨y,h1,h2⟩)
    ·exact Or.inl (Or.inr h)
    ·rcases List.mem_cons.1 h1 with h' | h'
     ·exact Or.inl (Or.inl (by rw [← h2,h']))
     ·exact Or.inr ⟨y,h',h2⟩
  obtain ⟨o0,b0,f1,f2,f3,f4,_⟩:=s12
  rcases bif_someP h with ⟨hal,h⟩ | ⟨hal,h⟩
  ·obtain ⟨hnew,hF⟩:=bif_someP h |>.resolve_right fun h=>h.2.elim
   have hnew:=newOK_spec hnew
   obtain ⟨o3,t3,k1,k2,k3⟩:=allocB_spec hal
   have e3:o3 = o0:=Option.some.inj (k1.symm.trans f1)
   subst e3
   have hbx:b0 = true:=by
    unfold GuardIs at f2
    rw [k3] at f2;exact f2
   exact go x rfl rfl rfl rfl hnew hF ⟨o3,k1,k3,f3,alloc_any k2 (f4 hbx) (fun b e' he=>recM_base_none (hnew b e' he).1)⟩
  ·obtain ⟨o3,k1,k2,k3⟩:=pureB_spec (s11.resolve_left fun h=>by rw [hal] at h;cases h)
   have e3:o3 = o0:=Option.some.inj (k1.symm.trans f1)
   subst e3
   have e4:ox = o3:=Option.some.inj (s8.symm.trans k1)
   subst e4
   rw [k1] at h
   simp only at h
   split at h
   ·rename_i qs3 v3 hv3
    refine go ⟨x.ix,x.dst,v3,[],x.dep,looks ops ox⟩ rfl rfl rfl s10.symm (fun b e' he=>by simp [getM] at he) (withP.rest h)
     ⟨ox,k1,k3,f3,by rw [s10];exact effOp_pure k2 hv3 ⟨by simpa using withP.all h,rfl,rfl⟩⟩
   ·exact h.elim
theorem St.finish {listed:Array Bool} {bf:List Nat} {T0:Tm} {M0:Mm} {rs:List Rec} {ord:List Nat} {ρ:Env} {a:Act} {w:World} (S:St Γ N ops dep K bf T0 M0 rs ord (pB listed) ρ a w)
  (hall:∀ j,j < ops.length→pB listed j = true) {ρ0:Env} {M00:Mm} {w0:World} (hle:ρ0.le ρ) (hst:Step ρ0 M00 ρ (recM (pB listed) M0 rs) w0 w):After N ρ0 M00 w0 K a w:=by
 have hrs:∀ r ∈ rs,pB listed r.ix = true:=fun r hr=>by
  obtain ⟨o,ho,_⟩:=S.hops r hr
  exact hall _ (List.getElem?_eq_some_iff.1 ho).1
 cases ord with
 | cons i r=>
  obtain ⟨o,ho,h1,_⟩:=planOK_cons S.plan
  exact absurd (S.I.done i (hall i (List.getElem?_eq_some_iff.1 ho).1)) h1
 | nil=>
  have hM:recM (pB listed) M0 rs = recM allB M0 rs:=recM_congr fun r hr=>by rw [hrs r hr];rfl
  rw [hM] at hst
  exact ⟨ρ,_,_,S.F,hle,S.I.out hrs,hst⟩
theorem any_sound (hd:depOK ops dep = true) (hdst:dstOK N ops = true) {Q:Exit→Act→World→Prop} (hpa:∀ c a w,¬ Q (.panic c) a w) (hlo:¬ LetsOut Q) {ρ0:Env} {M00:Mm} {w0:World} (hQ:∀ a' w',After N ρ0 M00 w0 K a' w'→Q .normal a' w') :
  ∀ (fuel:Nat) {listed:Array Bool} {bf:List Nat} {T0:Tm} {M0:Mm} {rs:List Rec} {ord:List Nat} {ρ:Env} {a:Act} {w:World},listed.size = ops.length →
   St Γ N ops dep K bf T0 M0 rs ord (pB listed) ρ a w→left ops.length (pB listed) ≤ fuel→ρ0.le ρ→Step ρ0 M00 ρ (recM (pB listed) M0 rs) w0 w→wpAny Γ.P .any ops.toArray Q fuel listed a w
 | 0,listed,bf,T0,M0,rs,ord,ρ,a,w,hsz,S,hl,hle,hst=>by
  have hall:=left_zero hl
  refine ⟨?_,hQ _ _ (S.finish hall hle hst)⟩
  refine List.eq_nil_iff_forall_not_mem.2 fun i hi=>?_
  obtain ⟨h1,o,ho,_⟩:=mem_ready.1 hi
  have hlt:i < ops.length:=by
   have:=(Array.getElem?_eq_some_iff.1 ho).1
   simpa using this
  rw [pB_true (by omega)] at h1
  rw [hall i hlt] at h1;cases h1
 | fuel + 1,listed,bf,T0,M0,rs,ord,ρ,a,w,hsz,S,hl,hle,hst=>by
  have ready:∀ {i},i ∈ Region.ready .any ops.toArray listed→∃ o,ops[i]? = some o∧i < ops.length∧pB listed i = false∧∀ e ∈ o.after,Region.binds .any e = true→pB listed e.on = true:=by
   intro i hi
   obtain ⟨h1,o,ho,h2⟩:=mem_ready.1 hi
   have ho':ops[i]? = some o:=by simpa using ho
   have hlt:=(List.getElem?_eq_some_iff.1 ho').1
   exact ⟨o,ho',hlt,(pB_true (by omega)).1 h1,h2⟩
  obtain ⟨bf',rs',ord',S',hM,hord⟩:=S.advance hd hdst ord
  rw [← hM] at hst
  clear hM S
  have hfuelI:∀ {i},i < ops.length→pB listed i = false→left ops.length (pB (listed.setIfInBounds i true)) ≤ fuel:=by
   intro i hlt hpi
   rw [pB_set (by omega)]
   have:=left_plus hlt hpi
   omega
  have hopI:∀ {i:Nat} {o:Oper},ops[i]? = some o→∀ {X:Act→World→Prop},Region.wanted o (yielded ops.toArray a.tmps) = true→o.wp Γ.P a w X Q→wpOp Γ.P ops.toArray Q i X a w:=by
   intro i o ho X hg h
   unfold wpOp
   rw [show ops.toArray[i]? = some o by simpa using ho]
   simp only
   rw [if_pos hg]
   exact Or.inl h
  have hskipI:∀ {i:Nat} {o:Oper},ops[i]? = some o→∀ {X:Act→World→Prop},Region.wanted o (yielded ops.toArray a.tmps) = false→X (a.put o.dst undef) w→wpOp Γ.P ops.toArray Q i X a w:=by
   intro i o ho X hg h
   unfold wpOp
   rw [show ops.toArray[i]? = some o by simpa using ho]
   simp only
   rw [if_neg (by rw [hg];simp)]
   exact h
  have hnoI:∀ {i:Nat},pB listed i = false→∀ {r:Rec},r ∈ rs'→pB listed r.ix = true→i ∉ r.dep:=fun {i} hpi {r} hr hp h=>by
   rw [S'.I.deps r hr] at h
   have:=S'.I.clos _ hp i h
   rw [hpi] at this;cases this
  have foreseen:∀ r ∈ rs',pB listed r.ix = false→(∀ k ∈ r.dep,pB listed k = true)→wpOp Γ.P ops.toArray Q r.ix (wpAny Γ.P .any ops.toArray Q fuel (listed.setIfInBounds r.ix true)) a w:=by
   intro r hr hpi hdq
   obtain ⟨o,ho,_⟩:=S'.hops r hr
   have hlt:=(List.getElem?_eq_some_iff.1 ho).1
   have hno:∀ {r':Rec},r' ∈ rs'→pB listed r'.ix = true→r.ix ∉ r'.dep:=fun {r'} hr' hp=>hnoI hpi hr' hp
   have hds:∀ d,o.dst = some d→d < N:=fun d h=>dstOK_get hdst (List.mem_of_getElem? ho) d h
   have hfuel:=hfuelI hlt hpi
   have hop:=@hopI r.ix o ho
   have hskip:=@hskipI r.ix o ho
   obtain ⟨o',bg,ho',hg,hdd,heff,hskp⟩:=S'.facts r hr hpi
   have:o' = o:=Option.some.inj (ho'.symm.trans ho)
   subst this
   obtain ⟨o2,ho2,_,hrd⟩:=S'.hops r hr
   have:o2 = o':=Option.some.inj (ho2.symm.trans ho)
   subst this
   have hdp:=S'.I.deps r hr
   rw [hrd] at heff hg
   have hread:∀ r' ∈ rs',∀ s,r'.dst = some s→s ∈ looks ops o2→pB listed r'.ix = true→r'.ix ∈ r.dep:=by
    intro r' hr' s h1 h2 h3
    by_cases hne:r'.ix = r.ix
    ·rw [hne,hpi] at h3;cases h3
    ·rcases (S'.I.pairs r' hr' r hr hne).2.1 s h1 (by rw [hrd];exact h2) with h | h
     ·exact h
     ·exact absurd h (hno hr' h3)
   have hsf:∀ k ∈ rs',pB listed k.ix = true→k.ix ∉ r.dep→∀ a,getM k.new a = some .dead→getM (recM (inB r.dep) M0 rs') a = none:=by
    intro k hk h1 h2
    exact S'.I.safe r hr k hk h2 (hno hk h1) (fun h=>by rw [h,hpi] at h1;cases h1)
   have hwant:=wanted_of (S'.I.sees (rd:=looks ops o2) hdq (S'.I.trans r hr) hread hsf).2 hdst hg
   have e:=pB_set (l:=listed) (i:=r.ix) (by omega)
   have fin:∀ {x:Value} {ρ':Env} {a':Act} {w':World},a'.tmps = (a.put o2.dst x).tmps→a'.defers = []→ρ.le ρ' →
     (∀ d,o2.dst = some d→RelT ρ' r.v x∧ToldT (r.new ++ recM (inB r.dep) M0 rs') r.v)→(∀ b e,getM r.new b = some e→ToldE (r.new ++ recM (inB r.dep) M0 rs') e) →
     ConcM ρ' (r.new ++ recM (pB listed) M0 rs') w'→Step ρ (recM (pB listed) M0 rs') ρ' (r.new ++ recM (pB listed) M0 rs') w w'→wpAny Γ.P .any ops.toArray Q fuel (listed.setIfInBounds r.ix true) a' w':=by
    intro x ρ' a' w' h1 h2 h3 h4 h5 h6 h7
    rw [hdd] at h1 h4
    have I':=S'.I.mark hr hpi hdq h1 h2 h3 h4 h5 h6
    refine any_sound hd hdst hpa hlo hQ fuel (by simpa using hsz) (rs:=rs') (bf:=bf') (ord:=ord') (T0:=T0) (M0:=M0) (ρ:=ρ') ⟨by rw [e];exact I',S'.hops,fun r' hr' hp'=>?_,S'.F,S'.plan,S'.cover⟩ hfuel (Env.le_trans hle h3) ?_
    ·rw [e] at hp'
     refine S'.facts r' hr' ?_
     cases h:pB listed r'.ix with
     | false=>rfl
     | true=>rw [plus_old h] at hp';cases hp'
    ·rw [e]
     exact hst.trans (h7.congr fun b=>(recM_plus S'.I.wf S'.I.uniq S'.I.closed hr hpi b).symm)
   cases bg with
   | true=>
    refine hop hwant (Oper.wp_mono ?_ (S'.I.run (dp:=r.dep) (G:=fun v E=>v = r.v∧E = r.new) hds hdq (S'.I.trans r hr) hread hsf
     (fun qs v M' ⟨h1,h2,h3⟩=>⟨h1,r.new,h3,fun b e h=>?_,h2,rfl⟩) (heff rfl)))
    rotate_left
    ·by_cases hdead:e = .dead
     ·subst hdead;exact Or.inr ⟨rfl,S'.I.kill r hr b h⟩
     ·exact Or.inl ⟨recM_fresh S'.I.wf hr hpi S'.I.closed hdead h,wfM_mem S'.I.wf hr h⟩
    rintro a' w' ⟨v,E,x,ρ',⟨rfl,rfl⟩,h1,h2,h3,h4,h5,h6,h7⟩
    exact fin h1 h2 h3 h4 h5 h6 h7
   | false=>
    obtain ⟨hv,hn⟩:=hskp rfl
    refine hskip hwant (fin (x:=undef) (ρ':=ρ) rfl ?_ (Env.le_refl _) (fun d _=>?_) (fun b e h=>?_) ?_ ?_)
    ·cases hd:o2.dst <;> exact S'.I.defers
    ·rw [hv];exact ⟨⟨[],rfl,rfl⟩,toldT_und _⟩
    ·rw [hn] at h;simp [getM] at h
    ·rw [hn];exact S'.I.mem
    ·rw [hn];exact Step.refl _ _ _
  by_cases hE:∃ r ∈ rs',pB listed r.ix = false∧(∀ k ∈ r.dep,pB listed k = true)∧aheadB ops dep r.ix = true
  ·-- one that looks at slots alone is run first
   obtain ⟨r,hr,hpi,hdq,hah⟩:=hE
   obtain ⟨o,ho,hbl,_,hap,hsel⟩:=aheadB_spec hah
   have hlt:=(List.getElem?_eq_some_iff.1 ho).1
   have hoA:ops.toArray[r.ix]? = some o:=by simpa using ho
   obtain ⟨v,hy,hK⟩:=blind_wpOp hlo hoA hbl (foreseen r hr hpi hdq)
   refine wpAny_first hoA (fun j o' cs b h=>hsel o' (List.mem_of_getElem? (by simpa using h)) cs b) (fun c a' w' h=>absurd h (hpa c _ _)) fuel listed a w ?_ ?_ hy hK
   ·intro j oj hj hne hlj hw
    have hj':ops[j]? = some oj:=by simpa using hj
    have hjlt:=(List.getElem?_eq_some_iff.1 hj').1
    refine hap j oj hj' hne (fun hm=>?_) hw
    have h1:=hdq j (by rw [S'.I.deps r hr];exact hm)
    rw [pB_true (by omega)] at hlj
    rw [hlj] at h1;cases h1
   ·refine mem_ready.2 ⟨(pB_true (by omega)).2 hpi,o,hoA,fun e he hb=>?_⟩
    have:=(depOK_get hd ho).1 e he hb
    exact hdq e.on (by rw [S'.I.deps r hr];exact this.2)
  refine ⟨fun hnil=>hQ _ _ (S'.finish (fun j=>?_) hle hst),fun i hi=>?_⟩
  ·induction j using Nat.strongRecOn with
   | _ j ih=>
    intro hj
    cases hp:pB listed j with
    | true=>rfl
    | false=>
     have hr:j ∈ Region.ready .any ops.toArray listed:=by
      refine mem_ready.2 ⟨(pB_true (by omega)).2 hp,ops[j],by simp [hj],fun e he hb=>?_⟩
      have:=(depOK_get hd (List.getElem?_eq_getElem hj)).1 e he hb
      exact ih e.on this.1 (by omega)
     rw [hnil] at hr;cases hr
  ·obtain ⟨o,ho,hlt,hpi,haft⟩:=ready hi
   have hdo:=depOK_get hd ho
   have hdep:∀ k ∈ depAt dep i,pB listed k = true:=fun k hk=>by
    obtain ⟨e,he,hb,h⟩:=hdo.2.1 k hk
    rcases h with h | h
    ·rw [← h];exact haft e he hb
    ·exact S'.I.clos _ (haft e he hb) k h
   have hno:∀ {r:Rec},r ∈ rs'→pB listed r.ix = true→i ∉ r.dep:=fun {r} hr hp=>hnoI hpi hr hp
   have hds:∀ d,o.dst = some d→d < N:=fun d h=>dstOK_get hdst (List.mem_of_getElem? ho) d h
   have hfuel:=hfuelI hlt hpi
   have hop:=@hopI i o ho
   by_cases hbf:i ∈ bf'
   ·-- it was foreseen
    rcases S'.I.base i hbf with h | ⟨r,hr,hri⟩
    ·rw [hpi] at h;cases h
    subst hri
    exact foreseen r hr hpi fun k hk=>hdep k (by rw [← S'.I.deps r hr];exact hk)
   ·-- it is the next
    rcases hord with h | ⟨i0,r0,o0,h,ho0,hk0,hsb,hg0,F⟩
    ·subst h
     exact absurd ((S'.cover i hlt).resolve_left hbf) (by simp)
    subst h
    obtain ⟨o1,ho1,n1,n2,n3,n4,n5⟩:=planOK_cons S'.plan
    have e1:o1 = o0:=Option.some.inj (ho1.symm.trans ho0)
    have hii:i = i0:=by
     rcases List.mem_cons.1 ((S'.cover i hlt).resolve_left hbf) with h | h
     ·exact h
     ·rcases n3 with h3 | h3
      ·rw [e1] at h3;omega
      ·exact absurd (S'.I.done _ (hdep _ (h3 i h))) n1
    subst hii
    have e2:o0 = o:=Option.some.inj (ho0.symm.trans ho)
    subst e2;subst e1
    have e:=pB_set (l:=listed) (i:=i) (by omega)
    have hread:∀ r' ∈ rs',∀ s,r'.dst = some s→s ∈ looks ops o1→pB listed r'.ix = true→r'.ix ∈ depAt dep i:=by
     intro r' hr' s h1 h2 h3
     obtain ⟨oj,k1,k2,k3⟩:=S'.hops r' hr'
     have:=pair_of (v:=.und) (n:=[]) (v':=r'.v) (n':=r'.new) (n4 r'.ix (S'.I.bfs r' hr') oj k1)
     rcases this.1 s (by rw [← k2];exact h1) h2 with h | h
     ·exact h
     ·refine absurd ?_ (hno hr' h3)
      rw [S'.I.deps r' hr'];exact h
    have hsf0:=safeB_spec hsb
    have hsf:∀ k ∈ rs',pB listed k.ix = true→k.ix ∉ depAt dep i→∀ a,getM k.new a = some .dead→getM (recM (inB (depAt dep i)) M0 rs') a = none:=fun k hk _ h2=>hsf0 k hk h2
    have hwant:=wanted_of (S'.I.sees (rd:=looks ops o1) hdep hdo.2.2 hread hsf).2 hdst hg0
    unfold stepD at F
    split at F
    ·rename_i hk;omega
    ·rename_i hk;omega
    have bar:(∀ r ∈ rs',pB listed r.ix = true)→(effOp Γ o1 (recT allB T0 rs') (recM allB M0 rs') [] fun qs v M'=>withP qs (drawOps Γ ops dep (putT o1.dst v (recT allB T0 rs')) M' [] r0 K)) →
      wpOp Γ.P ops.toArray Q i (wpAny Γ.P .any ops.toArray Q fuel (listed.setIfInBounds i true)) a w:=by
     intro hrs F
     have hM:recM (pB listed) M0 rs' = recM allB M0 rs':=recM_congr fun r hr=>by rw [hrs r hr];rfl
     rw [hM] at hst
     refine hop hwant (Oper.wp_mono ?_ (effOp_sound (S'.I.out hrs) hds (fun qs v M' h=>withP.all h) F))
     rintro a' w' ⟨ρ',T',M',⟨qs,v,hk,rfl⟩,h1,h2,h3⟩
     refine any_sound hd hdst hpa hlo hQ fuel (by simpa using hsz) (rs:=[]) (bf:=i :: bf') (ord:=r0) (T0:=putT o1.dst v (recT allB T0 rs')) (M0:=M') (ρ:=ρ')
      ⟨Inv.start h2 (fun j=>?_) (fun j hj k hk=>?_),by simp,by simp,withP.rest hk,n5,fun j hj=>?_⟩ hfuel (Env.le_trans hle h1) (hst.trans h3)
     ·rw [e]
      constructor
      ·intro h
       rcases plus_cases h with h | h
       ·rw [h];simp
       ·exact List.mem_cons_of_mem _ (S'.I.done j h)
      ·intro h
       rcases List.mem_cons.1 h with h | h
       ·rw [h];exact plus_self _ _
       ·rcases S'.I.base j h with h | ⟨r,hr,hri⟩
        ·exact plus_old h
        ·rw [← hri];exact plus_old (hrs r hr)
     ·rw [e] at hj ⊢
      rcases plus_cases hj with h | h
      ·subst h;exact plus_old (hdep k hk)
      ·exact plus_old (S'.I.clos j h k hk)
     ·rcases S'.cover j hj with h | h
      ·exact Or.inl (List.mem_cons_of_mem _ h)
      ·rcases List.mem_cons.1 h with h | h
       ·exact Or.inl (by simp [h])
       ·exact Or.inr h
    cases hb:barB ops dep (depAt dep i) rs' with
    | true=>
     rw [hb,cond_true] at F
     refine bar ?_ F
     have key:∀ n,∀ r ∈ rs',r.ix = n→pB listed r.ix = true:=by
      intro n
      induction n using Nat.strongRecOn with
      | _ n ih=>
       intro r hr hn
       cases hp:pB listed r.ix with
       | true=>rfl
       | false=>
        rcases barB_spec hb r hr with h | h
        ·rw [hdep _ h] at hp;cases hp
        ·exfalso
         obtain ⟨_,_,_,hless,_,_⟩:=aheadB_spec h
         refine hE ⟨r,hr,hp,fun k hk=>?_,h⟩
         have hk':=hk
         rw [S'.I.deps r hr] at hk'
         rcases S'.I.base k (S'.I.below r hr k hk) with h1 | ⟨r2,hr2,h2⟩
         ·exact h1
         ·rw [← h2]
          exact ih r2.ix (by rw [h2,← hn];exact hless k hk') r2 hr2 rfl
     exact fun r hr=>key r.ix r hr rfl
    | false=>
     rw [hb,cond_false] at F
     split at F
     ·-- one that makes a variable is ahead of it or behind it
      rename_i X hX
      obtain ⟨hXr,hXa,hXo⟩:=lateOf_spec hX
      have key:∀ n,∀ r ∈ rs',r ∉ X→r.ix = n→pB listed r.ix = true:=by
       intro n
       induction n using Nat.strongRecOn with
       | _ n ih=>
        intro r hr hrx hn
        cases hp:pB listed r.ix with
        | true=>rfl
        | false=>
         rcases (hXa r hr).resolve_left hrx with h | h
         ·rw [hdep _ h] at hp;cases hp
         ·exfalso
          obtain ⟨_,_,_,hless,_,_⟩:=aheadB_spec h
          refine hE ⟨r,hr,hp,fun k hk=>?_,h⟩
          have hk':=hk
          rw [S'.I.deps r hr] at hk'
          rcases S'.I.base k (S'.I.below r hr k hk) with h1 | ⟨r2,hr2,h2⟩
          ·exact h1
          ·rw [← h2]
           exact ih r2.ix (by rw [h2,← hn];exact hless k hk') r2 hr2 (fun h=>(hXo r2 h).2.2 r hr (by rw [h2];exact hk)) rfl
      obtain ⟨S,hSm,F2⟩:=lateAll_get (fun x=>!pB listed x.ix) F
      have hSm:∀ x,x ∈ S ↔ x ∈ X∧pB listed x.ix = false:=fun x=>by rw [hSm];simp
      have hq:∀ r ∈ rs',pB listed r.ix = notS S r.ix:=by
       intro r hr
       cases hp:pB listed r.ix with
       | true=>
        refine (notS_spec.2 fun x hx h=>?_).symm
        have:=((hSm x).1 hx).2
        rw [h,hp] at this;cases this
       | false=>
        have hrX:r ∈ X:=Classical.byContradiction fun h=>by rw [key r.ix r hr h rfl] at hp;cases hp
        cases hn:notS S r.ix with
        | false=>rfl
        | true=>exact absurd rfl (notS_spec.1 hn r ((hSm r).2 ⟨hrX,hp⟩))
      have hM:recM (pB listed) M0 rs' = recM (notS S) M0 rs':=recM_congr hq
      have hT:recT (pB listed) T0 rs' = recT (notS S) T0 rs':=recT_congr hq
      have hout:=S'.I.outP
      rw [hM,hT] at hout
      rw [hM] at hst
      have hSr:∀ x ∈ S,x ∈ rs':=fun x hx=>hXr x ((hSm x).1 hx).1
      have hSp:∀ x ∈ S,pB listed x.ix = false:=fun x hx=>((hSm x).1 hx).2
      have hxi:∀ x ∈ S,x.ix ≠ i:=fun x hx h=>hbf (by rw [← h];exact S'.I.bfs x (hSr x hx))
      refine hop hwant (Oper.wp_mono ?_ (effOp_sound hout hds (fun qs v M' h=>withP.all h) F2))
      rintro a' w' ⟨ρ',T',M',⟨qs,v,hk,rfl⟩,h1,h2,h3⟩
      have hpi2:∀ x ∈ S,pB (listed.setIfInBounds i true) x.ix = false:=fun x hx=>by rw [e,plus_ne (hxi x hx)];exact hSp x hx
      let bf2:=i :: bf'.filter fun j=>notS S j
      have hbf2:∀ j,j ∈ bf2 ↔ (j = i ∨ (j ∈ bf'∧∀ x ∈ S,x.ix ≠ j)):=by
       intro j
       simp only [bf2,List.mem_cons,List.mem_filter]
       exact or_congr Iff.rfl (and_congr Iff.rfl notS_spec)
      have I0:Inv N (depAt dep) bf2 (putT o1.dst v (recT (notS S) T0 rs')) M' [] (pB (listed.setIfInBounds i true)) ρ' a' w':=by
       refine Inv.start h2 (fun j=>?_) (fun j hj k hk=>?_)
       ·rw [e,hbf2]
        constructor
        ·intro h
         rcases plus_cases h with h | h
         ·exact Or.inl h
         ·exact Or.inr ⟨S'.I.done j h,fun x hx hjx=>by rw [← hjx,hSp x hx] at h;cases h⟩
        ·rintro (h | ⟨h,hjx⟩)
         ·rw [h];exact plus_self _ _
         ·rcases S'.I.base j h with h | ⟨r,hr,hri⟩
          ·exact plus_old h
          ·rw [← hri]
           refine plus_old ?_
           rw [hq r hr]
           exact notS_spec.2 fun x hx=>by rw [hri];exact hjx x hx
       ·rw [e] at hj ⊢
        rcases plus_cases hj with h | h
        ·subst h;exact plus_old (hdep k hk)
        ·exact plus_old (S'.I.clos j h k hk)
      obtain ⟨acc,bf3,J1,J2,J3,J4⟩:=late_push (rs':=rs') S'.I.pairs S [] (withP.rest hk) I0 (fun y hy=>by cases hy) (fun x hx=>by
       refine ⟨hSr x hx,hpi2 x hx,fun h=>?_,S'.I.deps x (hSr x hx),S'.I.trans x (hSr x hx),fun k hk=>?_,S'.I.small x (hSr x hx),S'.hops x (hSr x hx),(hXo x ((hSm x).1 hx).1).1,_,_,S'.facts x (hSr x hx) (hSp x hx)⟩
       ·rcases (hbf2 _).1 h with h | h
        ·exact hxi x hx h
        ·exact h.2 x hx rfl
       ·rw [e]
        rcases S'.I.base k (S'.I.below x (hSr x hx) k hk) with h | ⟨r,hr,hri⟩
        ·exact plus_old h
        ·rw [← hri]
         refine plus_old ?_
         rw [hq r hr]
         exact notS_spec.2 fun y hy h=>(hXo y ((hSm y).1 hy).1).2.2 x (hSr x hx) (by rw [h,hri];exact hk))
      have hin:∀ y ∈ acc,∀ z ∈ acc,inB y.dep z.ix = false:=fun y hy z hz=>inB_no fun hm=>by
       have hz2:=(J4 z hz).2.2
       have:=J1.deps y hy
       have h5:=J1.below y hy z.ix hm
       rcases (J3 z.ix).1 h5 with h6 | ⟨x,hx,h6⟩
       ·have h7:=(J1.base z.ix h5)
        rcases (hbf2 _).1 h6 with h8 | h8
        ·have:pB (listed.setIfInBounds i true) z.ix = true:=by rw [e,h8];exact plus_self _ _
         rw [this] at hz2;cases hz2
        ·rcases S'.I.base z.ix h8.1 with h9 | ⟨r,hr,hri⟩
         ·have:pB (listed.setIfInBounds i true) z.ix = true:=by rw [e];exact plus_old h9
          rw [this] at hz2;cases hz2
         ·have:pB (listed.setIfInBounds i true) z.ix = true:=by
           rw [e,← hri]
           refine plus_old ?_
           rw [hq r hr]
           exact notS_spec.2 fun x hx=>by rw [hri];exact h8.2 x hx
          rw [this] at hz2;cases hz2
       ·obtain ⟨y0,hy0,hyi⟩:∃ y0 ∈ S,y0.ix = y.ix:=by
         rcases (J3 y.ix).1 (J1.bfs y hy) with h8 | ⟨x,hx,h8⟩
         ·exfalso
          have hy2:=(J4 y hy).2.2
          rcases (hbf2 _).1 h8 with h9 | h9
          ·have:pB (listed.setIfInBounds i true) y.ix = true:=by rw [e,h9];exact plus_self _ _
           rw [this] at hy2;cases hy2
          ·rcases S'.I.base y.ix h9.1 with h10 | ⟨r,hr,hri⟩
           ·have:pB (listed.setIfInBounds i true) y.ix = true:=by rw [e];exact plus_old h10
            rw [this] at hy2;cases hy2
           ·have:pB (listed.setIfInBounds i true) y.ix = true:=by
             rw [e,← hri]
             refine plus_old ?_
             rw [hq r hr]
             exact notS_spec.2 fun x hx=>by rw [hri];exact h9.2 x hx
            rw [this] at hy2;cases hy2
         ·exact ⟨x,hx,h8⟩
        refine (hXo x ((hSm x).1 hx).1).2.2 y0 (hSr y0 hy0) ?_
        rw [h6,S'.I.deps y0 (hSr y0 hy0),hyi,← this]
        exact hm
      have hrecM:∀ (q:Nat→Bool) (l:List Rec),(∀ z ∈ l,q z.ix = false)→recM q M' l = M':=by
       intro q l
       induction l with
       | nil=>intro _;rfl
       | cons z t ih=>intro h;simp only [recM,h z (by simp),cond_false];exact ih fun y hy=>h y (List.mem_cons_of_mem _ hy)
      have hrecT:∀ (q:Nat→Bool) (T2:Tm) (l:List Rec),(∀ z ∈ l,q z.ix = false)→recT q T2 l = T2:=by
       intro q T2 l
       induction l with
       | nil=>intro _;rfl
       | cons z t ih=>intro h;simp only [recT,h z (by simp),cond_false];exact ih fun y hy=>h y (List.mem_cons_of_mem _ hy)
      refine any_sound hd hdst hpa hlo hQ fuel (by simpa using hsz) (rs:=acc) (bf:=bf3) (ord:=r0) (T0:=putT o1.dst v (recT (notS S) T0 rs')) (M0:=M') (ρ:=ρ')
       ⟨J1,fun r hr=>(J4 r hr).1,fun r hr hp=>?_,J2,planOK_congr (fun j=>?_) n5,fun j hj=>?_⟩ hfuel (Env.le_trans hle h1) ?_
      ·obtain ⟨ox,g1,g2,g3,g4⟩:=(J4 r hr).2.1
       refine ⟨ox,true,g1,by unfold GuardIs;rw [g2],g3,fun _=>?_,fun h=>by cases h⟩
       rw [hrecM _ _ (fun z hz=>hin r hr z hz),hrecT _ _ _ (fun z hz=>hin r hr z hz)]
       exact g4
      ·rw [List.mem_cons,J3,hbf2]
       constructor
       ·rintro (h | h)
        ·exact Or.inl (Or.inl h)
        ·by_cases hjx:∃ x ∈ S,x.ix = j
         ·exact Or.inr hjx
         ·exact Or.inl (Or.inr ⟨h,fun x hx hxj=>hjx ⟨x,hx,hxj⟩⟩)
       ·rintro ((h | h) | ⟨x,hx,h⟩)
        ·exact Or.inl h
        ·exact Or.inr h.1
        ·rw [← h];exact Or.inr (S'.I.bfs x (hSr x hx))
      ·rw [J3,hbf2]
       rcases S'.cover j hj with h | h
       ·by_cases hjx:∃ x ∈ S,x.ix = j
        ·exact Or.inl (Or.inr hjx)
        ·exact Or.inl (Or.inl (Or.inr ⟨h,fun x hx hxj=>hjx ⟨x,hx,hxj⟩⟩))
       ·rcases List.mem_cons.1 h with h | h
        ·exact Or.inl (Or.inl (Or.inl h))
        ·exact Or.inr h
      ·rw [hrecM _ _ (fun z hz=>(J4 z hz).2.2)]
       exact hst.trans h3
     refine hop hwant (Oper.wp_mono ?_ (S'.I.run (dp:=depAt dep i)
      (G:=fun v E=>drawOps Γ ops dep T0 M0 (⟨i,o1.dst,v,E,depAt dep i,looks ops o1⟩ :: rs') r0 K∧freshB M0 rs' (depAt dep i) E = true) hds hdep hdo.2.2 hread hsf
      (fun qs v M' h=>?_) F))
     ·rintro a' w' ⟨v,E,x,ρ',⟨hF,hfr⟩,h1,h2,h3,h4,h5,h6,h7⟩
      have hfr:=freshB_spec hfr
      have I1:=S'.I.push (r:=⟨i,o1.dst,v,E,depAt dep i,looks ops o1⟩) n1 rfl hdo.2.2 n2 hds (S'.pairs n4) hfr hsf0
      have hself:inB (depAt dep i) i = false:=by
       cases h:inB (depAt dep i) i with
       | false=>rfl
       | true=>exact absurd (n2 _ (memB_iff.1 h)) n1
      have eM:recM (inB (depAt dep i)) M0 (⟨i,o1.dst,v,E,depAt dep i,looks ops o1⟩ :: rs') = recM (inB (depAt dep i)) M0 rs':=by simp only [recM,hself,cond_false]
      have eP:recM (pB listed) M0 (⟨i,o1.dst,v,E,depAt dep i,looks ops o1⟩ :: rs') = recM (pB listed) M0 rs':=by simp only [recM,hpi,cond_false]
      have I2:=I1.mark (r:=⟨i,o1.dst,v,E,depAt dep i,looks ops o1⟩) (by simp) hpi hdep h1 h2 h3 (by rw [eM];exact h4) (by rw [eM];exact h5) (by rw [eP];exact h6)
      refine any_sound hd hdst hpa hlo hQ fuel (by simpa using hsz) (rs:=⟨i,o1.dst,v,E,depAt dep i,looks ops o1⟩ :: rs') (bf:=i :: bf') (ord:=r0) (T0:=T0) (M0:=M0) (ρ:=ρ')
       ⟨by rw [e];exact I2,fun r hr=>?_,fun r hr hp=>?_,hF,n5,fun j hj=>?_⟩ hfuel (Env.le_trans hle h3) ?_
      ·rcases List.mem_cons.1 hr with h | h
       ·subst h;exact ⟨o1,ho,rfl,rfl⟩
       ·exact S'.hops r h
      ·rw [e] at hp
       rcases List.mem_cons.1 hr with h | h
       ·subst h;rw [plus_self] at hp;cases hp
       ·have hp2:pB listed r.ix = false:=by
         cases h:pB listed r.ix with
         | false=>rfl
         | true=>rw [plus_old h] at hp;cases hp
        have hno2:inB r.dep i = false:=by
         cases h':inB r.dep i with
         | false=>rfl
         | true=>exact absurd (S'.I.below r h _ (memB_iff.1 h')) n1
        have e1:recT (inB r.dep) T0 (⟨i,o1.dst,v,E,depAt dep i,looks ops o1⟩ :: rs') = recT (inB r.dep) T0 rs':=by simp only [recT,hno2,cond_false]
        have e2:recM (inB r.dep) M0 (⟨i,o1.dst,v,E,depAt dep i,looks ops o1⟩ :: rs') = recM (inB r.dep) M0 rs':=by simp only [recM,hno2,cond_false]
        rw [e1,e2]
        exact S'.facts r h hp2
      ·rcases S'.cover j hj with h | h
       ·exact Or.inl (List.mem_cons_of_mem _ h)
       ·rcases List.mem_cons.1 h with h | h
        ·exact Or.inl (by simp [h])
        ·exact Or.inr h
      ·rw [e]
       refine hst.trans (h7.congr fun b=>?_)
       have:=recM_plus (p:=pB listed) I1.wf I1.uniq I1.closed (r:=⟨i,o1.dst,v,E,depAt dep i,looks ops o1⟩) (by simp) hpi b
       rw [eP] at this
       exact this.symm
     ·have hG:=withP.rest h
      unfold Grow at hG
      obtain ⟨E,g1,g2,g3⟩:=hG
      refine ⟨withP.all h,E,g1,fun b e hb=>?_,g3,g2⟩
      rcases freshB_spec g2 b e hb with h1 | ⟨h1,h2,_⟩
      ·exact Or.inl ⟨recM_nx (q:=allB) (fun _ _ _=>rfl) h1.1,h1.2.1⟩
      ·exact Or.inr ⟨h1,h2⟩
theorem Draw.sound {id:Nat} {T:Tm} {M:Mm} (hdst:dstOK N ops = true) (h:Draw Γ id ops T M K) {ρ:Env} {a:Act} {w:World} (hc:Conc N ρ T M a w) {Q:Exit→Act→World→Prop}
  (hQ:∀ a' w',After N ρ M w K a' w'→Q .normal a' w'):(Code.region id ops.toArray true).wp Γ.P Q a w:=by
 unfold Draw at h
 obtain ⟨dep,ord,hp,hF⟩:=h
 simp only [planAll,Bool.and_eq_true,List.all_eq_true] at hp
 obtain ⟨⟨hd,hplan⟩,hcov⟩:=hp
 have hg:=Grows.drew w
 have e0:pB (Array.replicate ops.toArray.size false) = fun _=>false:=by
  funext j;exact getD_replicate_false _ _
 have hleft:left ops.length (fun _=>false) ≤ ops.toArray.size:=by
  unfold left
  have:=List.length_filter_le (fun j=>!(fun _:Nat=>false) j) (List.range ops.length)
  simpa using this
 refine wp_mono (Q:=fun e a' w'=>e = .normal∧Q .normal a' w') ?_ (fun e a' w' h=>by rw [h.1];exact h.2)
 refine wp_region_any Γ.mixed ?_
 refine any_sound (ρ0:=ρ) (M00:=M) (w0:=w) (K:=K) hd hdst (fun c a w h=>by cases h.1) (fun ⟨a,w,h⟩=>by cases h.1) (fun a' w' h=>⟨rfl,hQ a' w' h⟩) _ (by simp) (rs:=[]) (bf:=[]) (ord:=ord) (T0:=T) (M0:=M) (ρ:=ρ) ?_ ?_ (Env.le_refl _) ?_
 ·rw [e0]
  refine ⟨Inv.start (hc.grows hg) (by simp) (by simp),by simp,by simp,hF,hplan,fun j hj=>Or.inr (memB_iff.1 (hcov j (List.mem_range.2 hj)))⟩
 ·rw [e0];exact hleft
 ·rw [e0]
  exact hg.step
end
end Go.Sx
