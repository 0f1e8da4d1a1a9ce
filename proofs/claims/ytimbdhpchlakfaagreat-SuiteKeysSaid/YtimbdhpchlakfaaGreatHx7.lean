/- Executor, part 7. No condition. -/
import Derived.Test.YtimbdhpchlakfaaGreatHx6
import Derived.ScopeJumps
import Derived.ProofKit
import Derived.OpenShut
set_option linter.unusedSimpArgs false
set_option linter.unusedVariables false
set_option autoImplicit true
set_option relaxedAutoImplicit true
open List (mem_cons_of_mem mem_cons filter_cons)
open Bool (or_eq_true not_eq_true')
open Nat (beq strongRecOn ble)
open Array (replicate)
open Go.Result (andThen_ok)
namespace Go.Sx
open Go
theorem aBK (M:Mm):mE M (.tup []):=⟨⟨fun _=>False,fun _=>(0,0),fun _ _ _=>False⟩,undef,fun _ h=>h.elim,⟨[],rfl,rfl⟩⟩
def pB (l:Array Bool):Nat->Bool:=fun j=>l.getD j false
theorem aCM  (h:i < l.size):pB (l.setIfInBounds i true) = jk (pB l) i:=by
 funext j
 by_cases hj:j = i
 ·subst hj
  rw [ay]
  simp only [pB,Array.getD_eq_getD_getElem?]
  rw [Array.getElem?_setIfInBounds_self_of_lt h]
  rfl
 ·rw [kf hj]
  simp only [pB]
  exact getD_set_ne false (Ne.symm hj)
theorem nh  (h:i < l.size):l.getD i true = false ↔ pB l i = false:=by
 simp only [pB,Array.getD_eq_getD_getElem?,Array.getElem?_eq_getElem h,Option.getD_some]
theorem tf {α:Type} {p q:α->Bool}:∀ {l:List α},(∀ x ∈ l,q x = true->p x = true)->(l.filter q).length <= (l.filter p).length
 | [],_=>by simp
 | y :: t,hpq=>by
  have iht:=tf (p:=p) (q:=q) (l:=t) fun z hz=>hpq z (mem_cons_of_mem _ hz)
  have hy:=hpq y (by simp)
  rw [filter_cons,filter_cons]
  cases h:q y with
  | true=>rw [hy h];simpa using iht
  | false=>cases p y <;> simp <;> omega
theorem te {α:Type} {p q:α->Bool} {i:α}:∀ {l:List α},(∀ x ∈ l,q x = true->p x = true)->i ∈ l->p i = true->q i = false->(l.filter q).length < (l.filter p).length
 | [],_,h,_,_=>by simp at h
 | x :: r,hpq,hi,hp,hq=>by
  have le:(r.filter q).length <= (r.filter p).length:=tf fun y hy=>hpq y (mem_cons_of_mem _ hy)
  rw [filter_cons,filter_cons]
  rcases List.mem_cons.1 hi with h | h
  ·subst h;rw [hp,hq];simp;omega
  ·have ih:=te (fun y hy=>hpq y (mem_cons_of_mem _ hy)) h hp hq
   have hx:=hpq x (by simp)
   cases h:q x with
   | true=>rw [hx h];simpa using ih
   | false=>cases p x <;> simp <;> omega
def left (n:Nat) (p:Nat->Bool):Nat:=((List.range n).filter fun j=>!p j).length
theorem aDC  (hi:i < n) (hp:p i = false):left n (jk p i) < left n p:=by
 refine te (i:=i) (fun x _ h=>?_) (List.mem_range.2 hi) (by simp [hp]) (by simp [ay])
 cases hx:p x with
 | false=>rfl
 | true=>rw [aO hx] at h;exact h
theorem aDB  (h:left n p <= 0):∀ j,j < n->p j = true:=by
 intro j hj
 cases hp:p j with
 | true=>rfl
 | false=>
  have:j ∈ (List.range n).filter fun j=>!p j:=List.mem_filter.2 ⟨List.mem_range.2 hj,by simp [hp]⟩
  have:=List.length_pos_of_mem this
  unfold left at h
  omega
theorem uB:∀ {rs:List Rec},aQ4 ops dep dp rs = true->∀ r ∈ rs,r.ix ∈ dp \/ kN ops dep r.ix = true
 | [],_,_,h=>by simp at h
 | r0 :: t,hb,r,hr=>by
  simp only [aQ4,zbA,or_eq_true] at hb
  rcases List.mem_cons.1 hr with h | h
  ·rw [h];exact hb.1.imp zmi.1 id
  ·exact uB hb.2 r h
theorem np:∀ {ops:List Oper},xG ops = true->∀ o ∈ ops,∀ cs b,o.op ≠ .select cs b
 | [],_,_,h,_,_=>by simp at h
 | o :: r,hn,o',ho,cs,b=>by
  simp only [xG,zbA,not_eq_true'] at hn
  rcases List.mem_cons.1 ho with h | h
  ·subst h
   intro he
   have:=hn.1
   unfold aPO at this
   rw [he] at this;cases this
  ·exact np hn.2 o' h cs b
theorem qU:∀ {l:List Nat},aHE i l = true->∀ k ∈ l,k < i
 | [],_,_,h=>by simp at h
 | x :: r,hn,k,hk=>by
  simp only [aHE,zbA] at hn
  rcases List.mem_cons.1 hk with h | h
  ·subst h;exact aw hn.1
  ·exact qU hn.2 k h
theorem my:∀ {l:List Edge},sC i l = true->∃ e ∈ l,Region.binds .any e = true/\e.on = i
 | [],h=>by simp [sC] at h
 | e :: r,h=>by
  simp only [sC,or_eq_true,zbA] at h
  rcases h with h | h
  ·exact ⟨e,by simp,h.1,zq h.2⟩
  ·obtain ⟨e',h1,h2⟩:=my h
   exact ⟨e',mem_cons_of_mem _ h1,h2⟩
theorem fU:∀ {l:List Operand},t ∈ jn l ↔ Operand.tmp t ∈ l
 | []=>by simp [jn]
 | .tmp s :: r=>by simp [jn,fU (l:=r)]
 | .const _ :: r=>by simp [jn,fU (l:=r)]
 | .global _ :: r=>by simp [jn,fU (l:=r)]
 | .func _ :: r=>by simp [jn,fU (l:=r)]
theorem kB  (h:d ∈ o.looksAt ops.toArray):d ∈ aM ops o:=by
 unfold Oper.looksAt at h
 unfold aM
 rcases List.mem_append.1 h with h | h
 ·refine List.mem_append_right _ (fU.2 ?_)
  obtain ⟨x,hx,he⟩:=List.mem_filterMap.1 h
  cases x <;> simp at he
  subst he;exact hx
 ·refine List.mem_append_left _ ?_
  unfold aPT
  cases hg:o.guard with
  | none=>rw [hg] at h;simp at h
  | some gw=>
   obtain ⟨g,want⟩:=gw
   rw [hg] at h
   simp only [List.getElem?_toArray] at h
   simp only [zgS]
   cases hx:ops[g]? with
   | none=>rw [hx] at h;simp at h
   | some o'=>
    rw [hx] at h
    simp only [Option.bind_some] at h
    cases hd:o'.dst with
    | none=>rw [hd] at h;simp at h
    | some d'=>rw [hd] at h;simpa [hd] using h
theorem wX  (h:aFJ ops x y = true):x.apart ops.toArray y = true:=by
 simp only [aFJ,zbA] at h
 obtain ⟨h1,h2,h3⟩:=h
 unfold Oper.apart
 simp only [zbA]
 constructor
 ·cases hx:x.dst with
  | none=>rfl
  | some d=>
   simp only [zbA,not_eq_true',bne_iff_ne,ne_eq]
   constructor
   ·cases hc:(Oper.looksAt ops.toArray y).contains d with
    | false=>rfl
    | true=>exact absurd (kB (by simpa using hc)) (gI h1 d hx)
   ·intro he
    exact qd h2 d hx he
 ·cases hy:y.dst with
  | none=>rfl
  | some d=>
   simp only [not_eq_true']
   cases hc:(Oper.looksAt ops.toArray x).contains d with
   | false=>rfl
   | true=>exact absurd (kB (by simpa using hc)) (gI h3 d hy)
theorem kM:∀ {l:List Oper} {k:Nat},ms ops dp i o k l = true->∀ j oj,l[j]? = some oj->k + j ≠ i->k + j ∉ dp->(∀ e ∈ oj.after,Region.binds .any e = true->e.on ≠ i) ->
  o.apart ops.toArray oj = true
 | [],_,_,j,oj,hj,_,_,_=>by simp at hj
 | x :: r,k,h,j,oj,hj,hne,hdp,hw=>by
  simp only [ms,zbA] at h
  cases j with
  | zero=>
   simp only [List.getElem?_cons_zero,zoI] at hj
   subst hj
   rw [Nat.add_zero] at hne hdp
   have:=h.1
   simp only [or_eq_true] at this
   rcases this with h1 | h1 | h1 | h1
   ·exact absurd (zq h1) hne
   ·exact absurd (zmi.1 h1) hdp
   ·obtain ⟨e,he,hb,hon⟩:=my h1
    exact absurd hon (hw e (by simpa using he) hb)
   ·exact wX h1
  | succ j=>
   refine kM h.2 j oj (by simpa using hj) ?_ ?_ hw
   ·rw [show k + 1 + j = k + (j + 1) by omega];exact hne
   ·rw [show k + 1 + j = k + (j + 1) by omega];exact hdp
theorem jj  (h:kN ops dep i = true):∃ o,ops[i]? = some o/\t8 o = true/\(∀ k ∈ zdA dep i,k < i) /\
  (∀ j oj,ops[j]? = some oj->j ≠ i->j ∉ zdA dep i->(∀ e ∈ oj.after,Region.binds .any e = true->e.on ≠ i)->o.apart ops.toArray oj = true)/\∀ o ∈ ops,∀ cs b,o.op ≠ .select cs b:=by
 unfold kN at h
 split at h
 ·cases h
 ·rename_i o ho
  simp only [zbA] at h
  obtain ⟨h1,h2,h3,h4⟩:=h
  refine ⟨o,ho,h1,qU h2,fun j oj hj hne hdp hw=>?_,np h4⟩
  have:=kM h3 j oj hj
  rw [Nat.zero_add] at this
  exact this hne hdp hw
theorem aIM  (hb:t8 o = true)  (h:o.wp P a w K Q):
  ∃ v,(∀ w,(execOp a.eval o).run P w = .ok (.value v) w)/\K (a.put o.dst v) w:=by
 obtain ⟨dst,op,ty,pos,after,guard⟩:=o
 unfold Oper.wp at h
 cases op <;> simp only [t8,Bool.false_eq_true] at hb
 case move x=>exact ⟨a.eval x,fun _=>rfl,h⟩
 case assign x=>exact ⟨a.eval x,fun _=>rfl,h⟩
 case pick c x y=>
  simp only [execOp] at h ⊢
  cases hx:a.eval c
  case bool b=>
   rw [hx] at h
   exact ⟨if b then a.eval x else a.eval y,fun _=>rfl,h⟩
  all_goals
   rw [hx] at h
   exact absurd h (by simp [asBool,stuck,Sem.run,Sem.run_bind,Oper.upon];try (intro h;exact h))
 case extract x k=>
  simp only [execOp,Instr.extract] at h ⊢
  cases hx:a.eval x
  case tuple vs=>
   rw [hx] at h
   simp only at h ⊢
   cases hv:vs[k]? with
   | some v=>
    rw [hv] at h
    exact ⟨v,fun _=>rfl,h⟩
   | none=>
    rw [hv] at h
    exact absurd h (by simp [stuck,Sem.run,Oper.upon])
  all_goals
   rw [hx] at h
   exact absurd h (by simp [stuck,Sem.run,Oper.upon];try (intro h;exact h))
theorem z6  (hlo:¬ LetsOut Q)  (ho:ops[i]? = some o) (hb:t8 o = true)  (h:wpOp P ops Q i K a w):
  ∃ v,Yields P ops o v a/\K (a.put o.dst v) w:=by
 unfold wpOp at h
 simp only [ho] at h
 split at h
 ·rename_i hw
  rcases h with h | ⟨_,h⟩
  ·obtain ⟨v,h1,h2⟩:=aIM hb h
   exact ⟨v,Or.inl ⟨hw,h1⟩,h2⟩
  ·exact absurd h hlo
 ·rename_i hw
  exact ⟨undef,Or.inr ⟨by simpa using hw,rfl⟩,h⟩
section
variable {Γ:Cfg} {N:Nat} {ops:List Oper} {dep:List (List Nat)} {K:Tm->Mm->Prop}
theorem kr {ops:List Oper} {dep:List (List Nat)} {dp:List Nat}:∀ {rs:List Rec},(∀ x ∈ tL ops dep dp rs,x ∈ rs)/\∀ r ∈ rs,r ∈ tL ops dep dp rs \/ r.ix ∈ dp \/ kN ops dep r.ix = true
 | []=>by simp [tL]
 | r :: q=>by
  obtain ⟨k1,k2⟩:=kr (ops:=ops) (dep:=dep) (dp:=dp) (rs:=q)
  simp only [tL]
  cases hb:(dw r.ix dp || kN ops dep r.ix) with
  | true=>
   rw [zcT]
   refine ⟨fun x hx=>mem_cons_of_mem _ (k1 x hx),fun r' hr'=>?_⟩
   rcases List.mem_cons.1 hr' with h | h
   ·rw [h]
    simp only [or_eq_true] at hb
    exact Or.inr (hb.imp zmi.1 id)
   ·exact k2 r' h
  | false=>
   rw [zcF]
   refine ⟨fun x hx=>?_,fun r' hr'=>?_⟩
   ·rcases List.mem_cons.1 hx with h | h
    ·rw [h];simp
    ·exact mem_cons_of_mem _ (k1 x h)
   ·rcases List.mem_cons.1 hr' with h | h
    ·rw [h];exact Or.inl (by simp)
    ·exact (k2 r' h).imp (fun h=>mem_cons_of_mem _ h) id
theorem i6:∀ {rs:List Rec},j5 i rs = true->∀ r ∈ rs,i ∉ r.dep
 | [],_,_,h=>by simp at h
 | r0 :: q,h,r,hr=>by
  simp only [j5,zbA,not_eq_true'] at h
  rcases List.mem_cons.1 hr with h' | h'
  ·rw [h'];exact fm h.1
  ·exact i6 h.2 r h'
theorem qO:∀ {E:Mm},aG3 M E = true->∀ b e,zG E b = some e->zG M b = none/\e.zW = true
 | [],_,_,_,h=>by simp [zG] at h
 | (k,e0) :: r,h,b,e,he=>by
  simp only [aG3,zbA] at h
  by_cases hk:b = k
  ·subst hk
   rw [zh] at he
   simp only [zoI] at he;subst he
   exact ⟨dh h.1.1,h.1.2⟩
  ·rw [zg hk] at he
   exact qO h.2 b e he
theorem oE:∀ {X:List Rec},xP ty ops dp rs X = true->∀ x ∈ X,(pE ops x.ix = true \/ yu ty ops x.ix = true)/\x.ix ∉ dp/\∀ r ∈ rs,x.ix ∉ r.dep
 | [],_,x,h=>by cases h
 | y :: q,h,x,hx=>by
  simp only [xP,zbA,or_eq_true,not_eq_true'] at h
  rcases List.mem_cons.1 hx with h' | h'
  ·rw [h'];exact ⟨h.1.1,fm h.1.2.1,i6 h.1.2.2⟩
  ·exact oE h.2 x h'
theorem vl  (h:aDE ty i0 o0 ops dep dp rs = some X):
  (∀ x ∈ X,x ∈ rs)/\(∀ r ∈ rs,r ∈ X \/ r.ix ∈ dp \/ kN ops dep r.ix = true)/\∀ x ∈ X,(pE ops x.ix = true \/ yu ty ops x.ix = true)/\x.ix ∉ dp/\∀ r ∈ rs,x.ix ∉ r.dep:=by
 unfold aDE at h
 have h:=(zn h).2
 have hb:=(zn h).1
 have h:=(zn h).2
 simp only [zoI] at h
 subst h
 exact ⟨kr.1,kr.2,oE hb⟩
theorem br:∀ {S:List Rec},ry S j = true ↔ ∀ x ∈ S,x.ix ≠ j
 | []=>by simp [ry]
 | x :: r=>by
  simp only [ry,zbA,not_eq_true',br (S:=r),mem_cons,forall_eq_or_imp]
  refine and_congr ⟨fun h e=>?_,fun h=>?_⟩ Iff.rfl
  ·rw [e,Nat.beq_refl] at h;cases h
  ·cases hb:beq j x.ix with
   | false=>rfl
   | true=>exact absurd (zq hb).symm h
theorem jY  (p:Rec->Bool):∀ {X S:List Rec},rY Γ ops o T0 M0 rs next X S ->
  ∃ S',(∀ x,x ∈ S' ↔ (x ∈ X/\p x = true) \/ x ∈ S)/\bm Γ o (dI (ry S') T0 rs) (zrM (ry S') M0 rs) [] fun qs v M'=>zwP qs (kC Γ ops (zt o.dst v (dI (ry S') T0 rs)) M' next S' [])
 | [],S,h=>⟨S,fun x=>by simp,h⟩
 | y :: r,S,h=>by
  cases hp:p y with
  | true=>
   obtain ⟨S',h1,h2⟩:=jY p h.2
   refine ⟨S',fun x=>?_,h2⟩
   rw [h1,mem_cons,mem_cons]
   constructor
   ·rintro (h | h | h)
    ·exact Or.inl ⟨Or.inr h.1,h.2⟩
    ·exact Or.inl ⟨Or.inl h,by rw [h];exact hp⟩
    ·exact Or.inr h
   ·rintro (⟨h | h,hx⟩ | h)
    ·exact Or.inr (Or.inl h)
    ·exact Or.inl ⟨h,hx⟩
    ·exact Or.inr (Or.inr h)
  | false=>
   obtain ⟨S',h1,h2⟩:=jY p h.1
   refine ⟨S',fun x=>?_,h2⟩
   rw [h1,mem_cons]
   constructor
   ·rintro (h | h)
    ·exact Or.inl ⟨Or.inr h.1,h.2⟩
    ·exact Or.inr h
   ·rintro (⟨h | h,hx⟩ | h)
    ·rw [h,hp] at hx;cases hx
    ·exact Or.inl ⟨h,hx⟩
    ·exact Or.inr h
theorem yr  (h:yu ty ops i = true):∃ o,ops[i]? = some o/\kD ty o = 0/\o.guard = none:=by
 unfold yu at h
 split at h
 ·rename_i o ho
  split at h
  ·rename_i hg;exact ⟨o,ho,zq h,hg⟩
  ·cases h
 ·cases h
theorem wZ  (h:pE ops i = true):∃ o t,ops[i]? = some o/\o.op = .alloc t/\o.guard = none:=by
 unfold pE at h
 split at h
 ·rename_i o ho
  split at h
  ·rename_i t hop
   split at h
   ·rename_i hg;exact ⟨o,t,ho,hop,hg⟩
   ·cases h
  ·cases h
 ·cases h
theorem aFK  (ho:o.op = .alloc t)  (h:bm Γ o T M [] fun qs v' M'=>All qs/\v' = v/\M' = E ++ M) (hE:∀ b e,zG E b = some e->zG M2 b = none):
  bm Γ o T2 M2 [] fun qs v' M'=>All qs/\v' = v/\M' = E ++ M2:=by
 unfold bm at h ⊢
 rw [ho] at h ⊢
 simp only at h ⊢
 split at h
 ·rename_i d hd
  split at h
  ·split at h
   ·exact h.elim
   ·rename_i hk
    split at h
    ·exact h.elim
    ·rename_i zl hz
     obtain ⟨h1,h2,h3⟩:=h
     have h4:E = [(d,.mem true 0 (Γ.ty t).zl)]:=by
      have:[(d,Ent.mem true 0 (Γ.ty t).zl)] ++ M = E ++ M:=h3
      exact (List.append_cancel_right this).symm
     rw [hE d (.mem true 0 (Γ.ty t).zl) (by rw [h4];exact zh _ _ _)]
     simp only
     exact ⟨h1,h2,by rw [h4];rfl⟩
  ·exact h.elim
 ·exact h.elim
theorem mS:∀ {r:List Nat} {bf bf2:List Nat},(∀ j,j ∈ bf ↔ j ∈ bf2)->jz ty ops dep bf r = true->jz ty ops dep bf2 r = true
 | [],_,_,_,_=>rfl
 | i :: r,bf,bf2,hm,h=>by
  have hmem:∀ j,dw j bf = dw j bf2:=fun j=>by
   cases h1:dw j bf with
   | true=>exact (zmi.2 ((hm j).1 (zmi.1 h1))).symm
   | false=>
    cases h2:dw j bf2 with
    | false=>rfl
    | true=>exact absurd ((hm j).2 (zmi.1 h2)) (fm h1)
  simp only [jz,zbA] at h ⊢
  obtain ⟨h1,h2⟩:=h
  refine ⟨?_,mS (fun j=>?_) h2⟩
  ·split
   ·rename_i ho;rw [ho] at h1;cases h1
   ·rename_i o ho
    rw [ho] at h1
    simp only [zbA,or_eq_true,not_eq_true',List.all_eq_true] at h1 ⊢
    obtain ⟨⟨⟨a1,a2⟩,a3⟩,a4⟩:=h1
    exact ⟨⟨⟨by rw [<- hmem];exact a1,fun k hk=>by rw [<- hmem];exact a2 k hk⟩,a3⟩,fun j hj=>a4 j ((hm j).2 hj)⟩
  ·rw [mem_cons,mem_cons,hm j]
theorem pR  (h:zG (zrM jC M rs) b = none):zG M b = none:=by
 cases hx:zG M b with
 | none=>rfl
 | some e=>
  obtain ⟨e',he⟩:=dZ (rs:=rs) (p:=jC) hx
  rw [h] at he;cases he
theorem tK {p:Nat->Bool} {T:Tm} {M:Mm} {next:Tm->Mm->List Rec->Prop} {rs':List Rec} {ρ:Env} {a:Act} {w:World}
  (huniq:∀ r ∈ rs',∀ r' ∈ rs',r.ix ≠ r'.ix->aIS r r'):∀ (S acc:List Rec) {bf:List Nat},kC Γ ops T M next S acc->Inv N (zdA dep) bf T M acc p ρ a w ->
  (∀ y ∈ acc,(∃ o,ops[y.ix]? = some o/\y.dst = o.dst/\y.rd = aM ops o)/\(∃ o,ops[y.ix]? = some o/\o.guard = none/\o.dst = y.dst/\bm Γ o (zre T y.rd) M [] fun qs v' M2=>All qs/\v' = y.v/\M2 = y.new ++ M)/\(∃ y0 ∈ rs',y0.ix = y.ix/\y0.dst = y.dst/\y0.dep = y.dep/\y0.rd = y.rd)/\(∀ b e,zG y.new b = some e->e.zW = true)/\p y.ix = false) ->
  (∀ x ∈ S,x ∈ rs'/\p x.ix = false/\x.ix ∉ bf/\x.dep = zdA dep x.ix/\(∀ k ∈ x.dep,∀ j ∈ zdA dep k,j ∈ x.dep)/\(∀ k ∈ x.dep,p k = true)/\(∀ d,x.dst = some d->d < N) /\
   (∃ o,ops[x.ix]? = some o/\x.dst = o.dst/\x.rd = aM ops o)/\(pE ops x.ix = true \/ yu Γ.ty ops x.ix = true)/\(∃ T1 M1,aRE Γ ops x T1 M1)) ->
  ∃ acc' bf',Inv N (zdA dep) bf' T M acc' p ρ a w/\next T M acc'/\(∀ j,j ∈ bf' ↔ j ∈ bf \/ ∃ x ∈ S,x.ix = j) /\
   (∀ y ∈ acc',(∃ o,ops[y.ix]? = some o/\y.dst = o.dst/\y.rd = aM ops o)/\(∃ o,ops[y.ix]? = some o/\o.guard = none/\o.dst = y.dst/\bm Γ o (zre T y.rd) M [] fun qs v' M2=>All qs/\v' = y.v/\M2 = y.new ++ M)/\p y.ix = false)
 | [],acc,bf,h,I,hacc,_=>⟨acc,bf,I,h,fun j=>by simp,fun y hy=>⟨(hacc y hy).1,(hacc y hy).2.1,(hacc y hy).2.2.2.2⟩⟩
 | x :: r,acc,bf,h,I,hacc,hS=>by
  unfold kC at h
  obtain ⟨hns,h⟩:=be h |>.resolve_right fun h=>h.2.elim
  have hns:=br.1 hns
  obtain ⟨s1,s2,s3,s4,s5,s6,s7,⟨ox,s8,s9,s10⟩,s11,T1,M1,s12⟩:=hS x (by simp)
  have go:∀ (x2:Rec),x2.ix = x.ix->x2.dst = x.dst->x2.dep = x.dep->x2.rd = x.rd->(∀ b e',zG x2.new b = some e'->zG (zrM jC M acc) b = none/\e'.zW = true)->kC Γ ops T M next r (x2 :: acc) ->
    (∃ o,ops[x.ix]? = some o/\o.guard = none/\o.dst = x.dst/\bm Γ o (zre T x.rd) M [] fun qs v' M2=>All qs/\v' = x2.v/\M2 = x2.new ++ M) ->
    ∃ acc' bf',Inv N (zdA dep) bf' T M acc' p ρ a w/\next T M acc'/\(∀ j,j ∈ bf' ↔ j ∈ bf \/ ∃ y ∈ x :: r,y.ix = j) /\
     (∀ y ∈ acc',(∃ o,ops[y.ix]? = some o/\y.dst = o.dst/\y.rd = aM ops o)/\(∃ o,ops[y.ix]? = some o/\o.guard = none/\o.dst = y.dst/\bm Γ o (zre T y.rd) M [] fun qs v' M2=>All qs/\v' = y.v/\M2 = y.new ++ M)/\p y.ix = false):=by
   intro x2 e1 e2 e3 e4 hnew hgo hfx
   have I1:=I.push (r:=x2) (by rw [e1];exact s3) (by rw [e1,e3];exact s4) (by rw [e3];exact s5) (fun k hk=>by rw [e3] at hk;exact I.done k (s6 k hk)) (by rw [e2];exact s7)
    (fun y hy=>by
     obtain ⟨_,_,⟨y0,y1,y2,y3,y4,y5⟩,_,_⟩:=hacc y hy
     have hne:x.ix ≠ y0.ix:=fun h=>hns y hy (by rw [<- y2,h])
     have hp:=huniq x s1 y0 y1 hne
     obtain ⟨p1,p2,p3⟩:=hp
     refine ⟨fun s h1 h2=>?_,fun s h1 h2=>?_,fun s h1=>?_⟩
     ·rw [e3,e1,<- y4,<- y2];rw [e4] at h2;rw [<- y3] at h1;exact p1 s h1 h2
     ·rw [e1,e3,<- y2,<- y4];rw [e2] at h1;rw [<- y5] at h2;exact p2 s h1 h2
     ·rw [e2] at h1;rw [<- y3];exact p3 s h1)
    (fun b e' he=>Or.inl ⟨(hnew b e' he).1,Ent.loose_own (hnew b e' he).2,fun h=>by have:=(hnew b e' he).2;rw [h] at this;cases this⟩)
    (fun y hy _ b hb=>by have:=(hacc y hy).2.2.2.1 b _ hb;cases this)
   obtain ⟨acc',bf',k1,k2,k3,k4⟩:=tK huniq r (x2 :: acc) hgo I1
    (fun y hy=>by
     rcases List.mem_cons.1 hy with h' | h'
     ·subst h'
      obtain ⟨o,g1,g2,g3,g4⟩:=hfx
      refine ⟨⟨ox,by rw [e1];exact s8,by rw [e2];exact s9,by rw [e4];exact s10⟩,⟨o,by rw [e1];exact g1,g2,by rw [e2];exact g3,by rw [e4];exact g4⟩,⟨x,s1,e1.symm,e2.symm,e3.symm,e4.symm⟩,fun b e h=>(hnew b e h).2,by rw [e1];exact s2⟩
     ·exact hacc y h')
    (fun y hy=>by
     obtain ⟨z1,z2,z3,z⟩:=hS y (mem_cons_of_mem _ hy)
     refine ⟨z1,z2,?_,z⟩
     intro hm
     rcases List.mem_cons.1 hm with h' | h'
     ·-- the aAV twice: the list of what is foreseen says no
      have:∀ {S acc:List Rec},kC Γ ops T M next S acc->∀ y ∈ S,∀ q ∈ acc,q.ix ≠ y.ix:=by
       intro S
       induction S with
       | nil=>intro acc _ y hy;cases hy
       | cons z t ih=>
        intro acc hg y hy q hq
        unfold kC at hg
        obtain ⟨hz,hg⟩:=be hg |>.resolve_right fun h=>h.2.elim
        rcases List.mem_cons.1 hy with e | e
        ·rw [e];exact br.1 hz q hq
        ·rcases be hg with ⟨_,hg⟩ | ⟨_,hg⟩
         ·obtain ⟨_,hg⟩:=be hg |>.resolve_right fun h=>h.2.elim
          exact ih hg y e q (mem_cons_of_mem _ hq)
         ·split at hg
          ·split at hg
           ·exact ih (zwP.rest hg) y e q (mem_cons_of_mem _ hq)
           ·exact hg.elim
          ·exact hg.elim
      exact this hgo y hy x2 (by simp) h'.symm
     ·exact z3 h')
   refine ⟨acc',bf',k1,k2,fun j=>?_,k4⟩
   rw [k3,mem_cons,e1]
   constructor
   ·rintro ((h | h) | ⟨y,h1,h2⟩)
    ·exact Or.inr ⟨x,by simp,h.symm⟩
    ·exact Or.inl h
    ·exact Or.inr ⟨y,mem_cons_of_mem _ h1,h2⟩
   ·rintro (h | ⟨y,h1,h2⟩)
    ·exact Or.inl (Or.inr h)
    ·rcases List.mem_cons.1 h1 with h' | h'
     ·exact Or.inl (Or.inl (by rw [<- h2,h']))
     ·exact Or.inr ⟨y,h',h2⟩
  obtain ⟨o0,b0,f1,f2,f3,f4,_⟩:=s12
  rcases be h with ⟨hal,h⟩ | ⟨hal,h⟩
  ·obtain ⟨hnew,hF⟩:=be h |>.resolve_right fun h=>h.2.elim
   have hnew:=qO hnew
   obtain ⟨o3,t3,k1,k2,k3⟩:=wZ hal
   have e3:o3 = o0:=Option.some.inj (k1.symm.trans f1)
   subst e3
   have hbx:b0 = true:=by
    unfold fB at f2
    rw [k3] at f2;exact f2
   exact go x rfl rfl rfl rfl hnew hF ⟨o3,k1,k3,f3,aFK k2 (f4 hbx) (fun b e' he=>pR (hnew b e' he).1)⟩
  ·obtain ⟨o3,k1,k2,k3⟩:=yr (s11.resolve_left fun h=>by rw [hal] at h;cases h)
   have e3:o3 = o0:=Option.some.inj (k1.symm.trans f1)
   subst e3
   have e4:ox = o3:=Option.some.inj (s8.symm.trans k1)
   subst e4
   rw [k1] at h
   simp only at h
   split at h
   ·rename_i qs3 v3 hv3
    refine go ⟨x.ix,x.dst,v3,[],x.dep,aM ops ox⟩ rfl rfl rfl s10.symm (fun b e' he=>by simp [zG] at he) (zwP.rest h)
     ⟨ox,k1,k3,f3,by rw [s10];exact lg k2 hv3 ⟨by simpa using zwP.all h,rfl,rfl⟩⟩
   ·exact h.elim
theorem mT:∀ {M:Mm},rR M = true->zG M b ≠ some .dead
 | [],_=>by simp [zG]
 | (k,e) :: r,h=>by
  simp only [rR,zbA] at h
  by_cases hk:b = k
  ·subst hk
   rw [zh]
   intro he
   simp only [zoI] at he;subst he
   cases h.1
  ·rw [zg hk];exact mT h.2
theorem pq:∀ {rs:List Rec},aF7 dp k rs = true->∀ x ∈ rs,x.ix ∉ dp->zG x.new k = none
 | [],_,x,hx=>by simp at hx
 | y :: q,h,x,hx=>by
  simp only [aF7,zbA,or_eq_true] at h
  intro hd
  rcases List.mem_cons.1 hx with h' | h'
  ·subst h';exact dh (h.1.resolve_left fun h=>hd (zmi.1 h))
  ·exact pq h.2 x h' hd
theorem pu:∀ {rs:List Rec},aF9 dp rs = true->∀ x ∈ rs,x.ix ∉ dp->∀ b,zG x.new b ≠ some .dead
 | [],_,x,hx=>by simp at hx
 | y :: q,h,x,hx=>by
  simp only [aF9,zbA,or_eq_true] at h
  intro hd b
  rcases List.mem_cons.1 hx with h' | h'
  ·subst h';exact mT (h.1.resolve_left fun h=>hd (zmi.1 h))
  ·exact pu h.2 x h' hd b
theorem kU:∀ {E:Mm},aF8 dp rs E = true->∀ b e,zG E b = some e->e.loose = true/\∀ x ∈ rs,x.ix ∉ dp->zG x.new b = none
 | [],_,b,e,h=>by simp [zG] at h
 | (k,e0) :: r,h,b,e,he=>by
  simp only [aF8,zbA] at h
  by_cases hk:b = k
  ·subst hk
   rw [zh] at he
   simp only [zoI] at he;subst he
   exact ⟨h.1.1,pq h.1.2⟩
  ·rw [zg hk] at he
   exact kU h.2 b e he
def aNC (Γ:Cfg) (ops:List Oper) (T0:Tm) (M1:Mm) (rs:List Rec) (x:Rec):Prop:=
 ∃ o b,ops[x.ix]? = some o/\fB ops o (zre (dI (inB x.dep) T0 rs) (aM ops o)) b /\
  (b = true->(kD Γ.ty o = 0/\x.new = []/\∃ qs v,gr Γ.ty (zre (dI (inB x.dep) T0 rs) (aM ops o)) (zrM (inB x.dep) M1 rs) o.op = some (qs,v)/\All qs/\v = x.v) \/
   ∃ qs d e v,aO7 Γ o (zre (dI (inB x.dep) T0 rs) (aM ops o)) = some (qs,d,e,v)/\All qs/\v = x.v/\[(d,e)] = x.new)/\(b = false->x.v = .tup []/\x.new = [])
theorem ka {Γ:Cfg} {ops:List Oper} {T0:Tm} {M1:Mm} {rs:List Rec} {dp:List Nat} {K:Prop}:∀ {l:List Rec},rB Γ ops T0 M1 rs dp l K->K/\∀ x ∈ l,x.ix ∉ dp->aNC Γ ops T0 M1 rs x
 | [],h=>⟨h,fun x hx=>by simp at hx⟩
 | x :: q,h=>by
  unfold rB at h
  rcases be h with ⟨hb,h⟩ | ⟨hb,h⟩
  ·obtain ⟨k1,k2⟩:=ka h
   refine ⟨k1,fun y hy hyd=>?_⟩
   rcases List.mem_cons.1 hy with h' | h'
   ·subst h';exact absurd (zmi.1 hb) hyd
   ·exact k2 y h' hyd
  ·have fin:aNC Γ ops T0 M1 rs x->rB Γ ops T0 M1 rs dp q K->K/\∀ y ∈ x :: q,y.ix ∉ dp->aNC Γ ops T0 M1 rs y:=by
    intro hx h
    obtain ⟨k1,k2⟩:=ka h
    refine ⟨k1,fun y hy hyd=>?_⟩
    rcases List.mem_cons.1 hy with h' | h'
    ·rw [h'];exact hx
    ·exact k2 y h' hyd
   split at h
   ·exact h.elim
   ·rename_i o ho
    obtain ⟨b,hg,ht,hf⟩:=oU h
    cases b with
    | false=>
     have h:=hf rfl
     have a:=zwP.all h
     exact fin ⟨o,false,ho,hg,(fun h=>by cases h),fun _=>⟨a.head,a.tail.head⟩⟩ (zwP.rest h)
    | true=>
     have h:=ht rfl
     split at h
     ·rename_i hk
      split at h
      ·rename_i qs v hv
       obtain ⟨hn,h⟩:=(be h).resolve_right fun h=>h.2.elim
       have a:=zwP.all h
       have hn:x.new = []:=by
        revert hn
        cases x.new with
        | nil=>intro _;rfl
        | cons _ _=>intro h;cases h
       exact fin ⟨o,true,ho,hg,(fun _=>Or.inl ⟨hk,hn,qs,v,hv,a.tail,a.head⟩),fun h=>by cases h⟩ (zwP.rest h)
      ·exact h.elim
     ·split at h
      ·rename_i qs d e v hv
       have a:=zwP.all h
       exact fin ⟨o,true,ho,hg,(fun _=>Or.inr ⟨qs,d,e,v,hv,a.tail.tail,a.head,a.tail.head⟩),fun h=>by cases h⟩ (zwP.rest h)
      ·exact h.elim
     ·exact h.elim
theorem St.finish  (S:St Γ N ops dep K bf T0 M0 rs ord (pB listed) ρ a w)
  (hall:∀ j,j < ops.length->pB listed j = true)  (hle:ρ0.le ρ) (hst:aU ρ0 M00 ρ (zrM (pB listed) M0 rs) w0 w):dR N ρ0 M00 w0 K a w:=by
 have hrs:∀ r ∈ rs,pB listed r.ix = true:=fun r hr=>by
  obtain ⟨o,ho,_⟩:=S.hops r hr
  exact hall _ (List.getElem?_eq_some_iff.1 ho).1
 cases ord with
 | cons i r=>
  obtain ⟨o,ho,h1,_⟩:=jN S.plan
  exact absurd (S.I.done i (hall i (List.getElem?_eq_some_iff.1 ho).1)) h1
 | nil=>
  have hM:zrM (pB listed) M0 rs = zrM jC M0 rs:=eV fun r hr=>by rw [hrs r hr];rfl
  rw [hM] at hst
  exact ⟨ρ,_,_,S.F,hle,S.I.out hrs,hst⟩
theorem fr (hd:aEU ops dep = true) (hdst:ou N ops = true) {Q:Exit->Act->World->Prop} (hpa:∀ c a w,¬ Q (.panic c) a w) (hlo:¬ LetsOut Q) {ρ0:Env} {M00:Mm} {w0:World} (hQ:∀ a' w',dR N ρ0 M00 w0 K a' w'->Q .normal a' w') :
  ∀ (fuel:Nat) {listed:Array Bool} {bf:List Nat} {T0:Tm} {M0:Mm} {rs:List Rec} {ord:List Nat} {ρ:Env} {a:Act} {w:World},listed.size = ops.length ->
   St Γ N ops dep K bf T0 M0 rs ord (pB listed) ρ a w->left ops.length (pB listed) <= fuel->ρ0.le ρ->aU ρ0 M00 ρ (zrM (pB listed) M0 rs) w0 w->wpAny Γ.P .any ops.toArray Q fuel listed a w
 | 0,listed,bf,T0,M0,rs,ord,ρ,a,w,hsz,S,hl,hle,hst=>by
  have hall:=aDB hl
  refine ⟨?_,hQ _ _ (S.finish hall hle hst)⟩
  refine List.eq_nil_iff_forall_not_mem.2 fun i hi=>?_
  obtain ⟨h1,o,ho,_⟩:=mem_ready.1 hi
  have hlt:i < ops.length:=by
   have:=(Array.getElem?_eq_some_iff.1 ho).1
   simpa using this
  rw [nh (by omega)] at h1
  rw [hall i hlt] at h1;cases h1
 | fuel + 1,listed,bf,T0,M0,rs,ord,ρ,a,w,hsz,S,hl,hle,hst=>by
  have ready:∀ {i},i ∈ Region.ready .any ops.toArray listed->∃ o,ops[i]? = some o/\i < ops.length/\pB listed i = false/\∀ e ∈ o.after,Region.binds .any e = true->pB listed e.on = true:=by
   intro i hi
   obtain ⟨h1,o,ho,h2⟩:=mem_ready.1 hi
   have ho':ops[i]? = some o:=by simpa using ho
   have hlt:=(List.getElem?_eq_some_iff.1 ho').1
   exact ⟨o,ho',hlt,(nh (by omega)).1 h1,h2⟩
  obtain ⟨bf',rs',ord',S',hM,hord⟩:=S.advance hd hdst ord
  rw [<- hM] at hst
  clear hM S
  have hfuelI:∀ {i},i < ops.length->pB listed i = false->left ops.length (pB (listed.setIfInBounds i true)) <= fuel:=by
   intro i hlt hpi
   rw [aCM (by omega)]
   have:=aDC hlt hpi
   omega
  have hopI:∀ {i:Nat} {o:Oper},ops[i]? = some o->∀ {X:Act->World->Prop},Region.wanted o (yielded ops.toArray a.tmps) = true->o.wp Γ.P a w X Q->wpOp Γ.P ops.toArray Q i X a w:=by
   intro i o ho X hg h
   unfold wpOp
   rw [show ops.toArray[i]? = some o by simpa using ho]
   simp only
   rw [if_pos hg]
   exact Or.inl h
  have hskipI:∀ {i:Nat} {o:Oper},ops[i]? = some o->∀ {X:Act->World->Prop},Region.wanted o (yielded ops.toArray a.tmps) = false->X (a.put o.dst undef) w->wpOp Γ.P ops.toArray Q i X a w:=by
   intro i o ho X hg h
   unfold wpOp
   rw [show ops.toArray[i]? = some o by simpa using ho]
   simp only
   rw [if_neg (by rw [hg];simp)]
   exact h
  have hnoI:∀ {i:Nat},pB listed i = false->∀ {r:Rec},r ∈ rs'->pB listed r.ix = true->i ∉ r.dep:=fun {i} hpi {r} hr hp h=>by
   rw [S'.I.deps r hr] at h
   have:=S'.I.clos _ hp i h
   rw [hpi] at this;cases this
  have foreseen:∀ r ∈ rs',pB listed r.ix = false->(∀ k ∈ r.dep,pB listed k = true)->wpOp Γ.P ops.toArray Q r.ix (wpAny Γ.P .any ops.toArray Q fuel (listed.setIfInBounds r.ix true)) a w:=by
   intro r hr hpi hdq
   obtain ⟨o,ho,_⟩:=S'.hops r hr
   have hlt:=(List.getElem?_eq_some_iff.1 ho).1
   have hno:∀ {r':Rec},r' ∈ rs'->pB listed r'.ix = true->r.ix ∉ r'.dep:=fun {r'} hr' hp=>hnoI hpi hr' hp
   have hds:∀ d,o.dst = some d->d < N:=fun d h=>ew hdst (List.mem_of_getElem? ho) d h
   have hfuel:=hfuelI hlt hpi
   have hop:=@hopI r.ix o ho
   have hskip:=@hskipI r.ix o ho
   obtain ⟨o',bg,ho',hg,hdd,heff,hskp⟩:=S'.facts r hr hpi
   have:o' = o:=Option.some.inj (ho'.symm.trans ho)
   subst this
   obtain ⟨o2,ho2,_,hrd⟩:=S'.hops r hr
   have:o2 = o':=Option.some.inj (ho2.symm.trans ho)
   subst this
   have hdp:=S'.I.deps r hr
   rw [hrd] at heff hg
   have hread:∀ r' ∈ rs',∀ s,r'.dst = some s->s ∈ aM ops o2->pB listed r'.ix = true->r'.ix ∈ r.dep:=by
    intro r' hr' s h1 h2 h3
    by_cases hne:r'.ix = r.ix
    ·rw [hne,hpi] at h3;cases h3
    ·rcases (S'.I.pairs r' hr' r hr hne).2.1 s h1 (by rw [hrd];exact h2) with h | h
     ·exact h
     ·exact absurd h (hno hr' h3)
   have hsf:∀ k ∈ rs',pB listed k.ix = true->k.ix ∉ r.dep->∀ a,zG k.new a = some .dead->zG (zrM (inB r.dep) M0 rs') a = none:=by
    intro k hk h1 h2
    exact S'.I.safe r hr k hk h2 (hno hk h1) (fun h=>by rw [h,hpi] at h1;cases h1)
   have hwant:=sB (S'.I.sees (rd:=aM ops o2) hdq (S'.I.trans r hr) hread hsf).2 hdst hg
   have e:=aCM (l:=listed) (i:=r.ix) (by omega)
   have fin:∀ {x:Value} {ρ':Env} {a':Act} {w':World},a'.tmps = (a.put o2.dst x).tmps->a'.defers = []->ρ.le ρ' ->
     (∀ d,o2.dst = some d->zRT ρ' r.v x/\mE (r.new ++ zrM (inB r.dep) M0 rs') r.v)->(∀ b e,zG r.new b = some e->kO (r.new ++ zrM (inB r.dep) M0 rs') e) ->
     zF ρ' (r.new ++ zrM (pB listed) M0 rs') w'->aU ρ (zrM (pB listed) M0 rs') ρ' (r.new ++ zrM (pB listed) M0 rs') w w'->wpAny Γ.P .any ops.toArray Q fuel (listed.setIfInBounds r.ix true) a' w':=by
    intro x ρ' a' w' h1 h2 h3 h4 h5 h6 h7
    rw [hdd] at h1 h4
    have I':=S'.I.mark hr hpi hdq h1 h2 h3 h4 h5 h6
    refine fr hd hdst hpa hlo hQ fuel (by simpa using hsz) (rs:=rs') (bf:=bf') (ord:=ord') (T0:=T0) (M0:=M0) (ρ:=ρ') ⟨by rw [e];exact I',S'.hops,fun r' hr' hp'=>?_,S'.F,S'.plan,S'.cover⟩ hfuel (Env.le_trans hle h3) ?_
    ·rw [e] at hp'
     refine S'.facts r' hr' ?_
     cases h:pB listed r'.ix with
     | false=>rfl
     | true=>rw [aO h] at hp';cases hp'
    ·rw [e]
     exact hst.trans (h7.congr fun b=>(jy S'.I.wf S'.I.uniq S'.I.closed hr hpi b).symm)
   cases bg with
   | true=>
    refine hop hwant (Oper.wp_mono ?_ (S'.I.run (dp:=r.dep) (G:=fun v E=>v = r.v/\E = r.new) hds hdq (S'.I.trans r hr) hread hsf
     (fun qs v M' ⟨h1,h2,h3⟩=>⟨h1,r.new,h3,fun b e h=>?_,h2,rfl⟩) (heff rfl)))
    rotate_left
    ·by_cases hdead:e = .dead
     ·subst hdead;exact Or.inr ⟨rfl,S'.I.kill r hr b h⟩
     ·exact Or.inl ⟨iV S'.I.wf hr hpi S'.I.closed hdead h,aA4 S'.I.wf hr h⟩
    rintro a' w' ⟨v,E,x,ρ',⟨rfl,rfl⟩,h1,h2,h3,h4,h5,h6,h7⟩
    exact fin h1 h2 h3 h4 h5 h6 h7
   | false=>
    obtain ⟨hv,hn⟩:=hskp rfl
    refine hskip hwant (fin (x:=undef) (ρ':=ρ) rfl ?_ (Env.le_refl _) (fun d _=>?_) (fun b e h=>?_) ?_ ?_)
    ·cases hd:o2.dst <;> exact S'.I.defers
    ·rw [hv];exact ⟨⟨[],rfl,rfl⟩,aBK _⟩
    ·rw [hn] at h;simp [zG] at h
    ·rw [hn];exact S'.I.mem
    ·rw [hn];exact aU.refl _ _ _
  by_cases hE:∃ r ∈ rs',pB listed r.ix = false/\(∀ k ∈ r.dep,pB listed k = true)/\kN ops dep r.ix = true
  ·-- one that aM at slots alone is run first
   obtain ⟨r,hr,hpi,hdq,hah⟩:=hE
   obtain ⟨o,ho,hbl,_,hap,hsel⟩:=jj hah
   have hlt:=(List.getElem?_eq_some_iff.1 ho).1
   have hoA:ops.toArray[r.ix]? = some o:=by simpa using ho
   obtain ⟨v,hy,hK⟩:=z6 hlo hoA hbl (foreseen r hr hpi hdq)
   refine wpAny_first hoA (fun j o' cs b h=>hsel o' (List.mem_of_getElem? (by simpa using h)) cs b) (fun c a' w' h=>absurd h (hpa c _ _)) fuel listed a w ?_ ?_ hy hK
   ·intro j oj hj hne hlj hw
    have hj':ops[j]? = some oj:=by simpa using hj
    have hjlt:=(List.getElem?_eq_some_iff.1 hj').1
    refine hap j oj hj' hne (fun hm=>?_) hw
    have h1:=hdq j (by rw [S'.I.deps r hr];exact hm)
    rw [nh (by omega)] at hlj
    rw [hlj] at h1;cases h1
   ·refine mem_ready.2 ⟨(nh (by omega)).2 hpi,o,hoA,fun e he hb=>?_⟩
    have:=(kJ hd ho).1 e he hb
    exact hdq e.on (by rw [S'.I.deps r hr];exact this.2)
  refine ⟨fun hnil=>hQ _ _ (S'.finish (fun j=>?_) hle hst),fun i hi=>?_⟩
  ·induction j using strongRecOn with
   | _ j ih=>
    intro hj
    cases hp:pB listed j with
    | true=>rfl
    | false=>
     have hr:j ∈ Region.ready .any ops.toArray listed:=by
      refine mem_ready.2 ⟨(nh (by omega)).2 hp,ops[j],by simp [hj],fun e he hb=>?_⟩
      have:=(kJ hd (List.getElem?_eq_getElem hj)).1 e he hb
      exact ih e.on this.1 (by omega)
     rw [hnil] at hr;cases hr
  ·obtain ⟨o,ho,hlt,hpi,haft⟩:=ready hi
   have hdo:=kJ hd ho
   have hdep:∀ k ∈ zdA dep i,pB listed k = true:=fun k hk=>by
    obtain ⟨e,he,hb,h⟩:=hdo.2.1 k hk
    rcases h with h | h
    ·rw [<- h];exact haft e he hb
    ·exact S'.I.clos _ (haft e he hb) k h
   have hno:∀ {r:Rec},r ∈ rs'->pB listed r.ix = true->i ∉ r.dep:=fun {r} hr hp=>hnoI hpi hr hp
   have hds:∀ d,o.dst = some d->d < N:=fun d h=>ew hdst (List.mem_of_getElem? ho) d h
   have hfuel:=hfuelI hlt hpi
   have hop:=@hopI i o ho
   by_cases hbf:i ∈ bf'
   ·-- it was foreseen
    rcases S'.I.base i hbf with h | ⟨r,hr,hri⟩
    ·rw [hpi] at h;cases h
    subst hri
    exact foreseen r hr hpi fun k hk=>hdep k (by rw [<- S'.I.deps r hr];exact hk)
   ·-- it is the next
    rcases hord with h | ⟨i0,r0,o0,h,ho0,hk0,hsb,hg0,F⟩
    ·subst h
     exact absurd ((S'.cover i hlt).resolve_left hbf) (by simp)
    subst h
    obtain ⟨o1,ho1,n1,n2,n3,n4,n5⟩:=jN S'.plan
    have e1:o1 = o0:=Option.some.inj (ho1.symm.trans ho0)
    have hii:i = i0:=by
     rcases List.mem_cons.1 ((S'.cover i hlt).resolve_left hbf) with h | h
     ·exact h
     ·rcases n3 with h3 | h3
      ·rw [e1] at h3;omega
      ·exact absurd (S'.I.done _ (hdep _ (h3 i h))) n1
    subst hii
    have e2:o0 = o:=Option.some.inj (ho0.symm.trans ho)
    subst e2;subst e1
    have e:=aCM (l:=listed) (i:=i) (by omega)
    have hread:∀ r' ∈ rs',∀ s,r'.dst = some s->s ∈ aM ops o1->pB listed r'.ix = true->r'.ix ∈ zdA dep i:=by
     intro r' hr' s h1 h2 h3
     obtain ⟨oj,k1,k2,k3⟩:=S'.hops r' hr'
     have:=aCJ (v:=.und) (n:=[]) (v':=r'.v) (n':=r'.new) (n4 r'.ix (S'.I.bfs r' hr') oj k1)
     rcases this.1 s (by rw [<- k2];exact h1) h2 with h | h
     ·exact h
     ·refine absurd ?_ (hno hr' h3)
      rw [S'.I.deps r' hr'];exact h
    have hsf0:=kc hsb
    have hsf:∀ k ∈ rs',pB listed k.ix = true->k.ix ∉ zdA dep i->∀ a,zG k.new a = some .dead->zG (zrM (inB (zdA dep i)) M0 rs') a = none:=fun k hk _ h2=>hsf0 k hk h2
    have hwant:=sB (S'.I.sees (rd:=aM ops o1) hdep hdo.2.2 hread hsf).2 hdst hg0
    unfold yX at F
    split at F
    ·rename_i hk;omega
    ·rename_i hk;omega
    have bar:(∀ r ∈ rs',pB listed r.ix = true)->(bm Γ o1 (dI jC T0 rs') (zrM jC M0 rs') [] fun qs v M'=>zwP qs (cj Γ ops dep (zt o1.dst v (dI jC T0 rs')) M' [] r0 K)) ->
      wpOp Γ.P ops.toArray Q i (wpAny Γ.P .any ops.toArray Q fuel (listed.setIfInBounds i true)) a w:=by
     intro hrs F
     have hM:zrM (pB listed) M0 rs' = zrM jC M0 rs':=eV fun r hr=>by rw [hrs r hr];rfl
     rw [hM] at hst
     refine hop hwant (Oper.wp_mono ?_ (gT (S'.I.out hrs) hds (fun qs v M' h=>zwP.all h) F))
     rintro a' w' ⟨ρ',T',M',⟨qs,v,hk,rfl⟩,h1,h2,h3⟩
     refine fr hd hdst hpa hlo hQ fuel (by simpa using hsz) (rs:=[]) (bf:=i :: bf') (ord:=r0) (T0:=zt o1.dst v (dI jC T0 rs')) (M0:=M') (ρ:=ρ')
      ⟨Inv.start h2 (fun j=>?_) (fun j hj k hk=>?_),by simp,by simp,zwP.rest hk,n5,fun j hj=>?_⟩ hfuel (Env.le_trans hle h1) (hst.trans h3)
     ·rw [e]
      constructor
      ·intro h
       rcases am h with h | h
       ·rw [h];simp
       ·exact mem_cons_of_mem _ (S'.I.done j h)
      ·intro h
       rcases List.mem_cons.1 h with h | h
       ·rw [h];exact ay _ _
       ·rcases S'.I.base j h with h | ⟨r,hr,hri⟩
        ·exact aO h
        ·rw [<- hri];exact aO (hrs r hr)
     ·rw [e] at hj ⊢
      rcases am hj with h | h
      ·subst h;exact aO (hdep k hk)
      ·exact aO (S'.I.clos j h k hk)
     ·rcases S'.cover j hj with h | h
      ·exact Or.inl (mem_cons_of_mem _ h)
      ·rcases List.mem_cons.1 h with h | h
       ·exact Or.inl (by simp [h])
       ·exact Or.inr h
    cases hb:aQ4 ops dep (zdA dep i) rs' with
    | true=>
     rw [hb,zcT] at F
     refine bar ?_ F
     have key:∀ n,∀ r ∈ rs',r.ix = n->pB listed r.ix = true:=by
      intro n
      induction n using strongRecOn with
      | _ n ih=>
       intro r hr hn
       cases hp:pB listed r.ix with
       | true=>rfl
       | false=>
        rcases uB hb r hr with h | h
        ·rw [hdep _ h] at hp;cases hp
        ·exfalso
         obtain ⟨_,_,_,hless,_,_⟩:=jj h
         refine hE ⟨r,hr,hp,fun k hk=>?_,h⟩
         have hk':=hk
         rw [S'.I.deps r hr] at hk'
         rcases S'.I.base k (S'.I.below r hr k hk) with h1 | ⟨r2,hr2,h2⟩
         ·exact h1
         ·rw [<- h2]
          exact ih r2.ix (by rw [h2,<- hn];exact hless k hk') r2 hr2 rfl
     exact fun r hr=>key r.ix r hr rfl
    | false=>
     rw [hb,zcF] at F
     split at F
     ·-- one that makes a variable is ahead of it or behind it
      rename_i X hX
      obtain ⟨hXr,hXa,hXo⟩:=vl hX
      have key:∀ n,∀ r ∈ rs',r ∉ X->r.ix = n->pB listed r.ix = true:=by
       intro n
       induction n using strongRecOn with
       | _ n ih=>
        intro r hr hrx hn
        cases hp:pB listed r.ix with
        | true=>rfl
        | false=>
         rcases (hXa r hr).resolve_left hrx with h | h
         ·rw [hdep _ h] at hp;cases hp
         ·exfalso
          obtain ⟨_,_,_,hless,_,_⟩:=jj h
          refine hE ⟨r,hr,hp,fun k hk=>?_,h⟩
          have hk':=hk
          rw [S'.I.deps r hr] at hk'
          rcases S'.I.base k (S'.I.below r hr k hk) with h1 | ⟨r2,hr2,h2⟩
          ·exact h1
          ·rw [<- h2]
           exact ih r2.ix (by rw [h2,<- hn];exact hless k hk') r2 hr2 (fun h=>(hXo r2 h).2.2 r hr (by rw [h2];exact hk)) rfl
      obtain ⟨S,hSm,F2⟩:=jY (fun x=>!pB listed x.ix) F
      have hSm:∀ x,x ∈ S ↔ x ∈ X/\pB listed x.ix = false:=fun x=>by rw [hSm];simp
      have hq:∀ r ∈ rs',pB listed r.ix = ry S r.ix:=by
       intro r hr
       cases hp:pB listed r.ix with
       | true=>
        refine (br.2 fun x hx h=>?_).symm
        have:=((hSm x).1 hx).2
        rw [h,hp] at this;cases this
       | false=>
        have hrX:r ∈ X:=Classical.byContradiction fun h=>by rw [key r.ix r hr h rfl] at hp;cases hp
        cases hn:ry S r.ix with
        | false=>rfl
        | true=>exact absurd rfl (br.1 hn r ((hSm r).2 ⟨hrX,hp⟩))
      have hM:zrM (pB listed) M0 rs' = zrM (ry S) M0 rs':=eV hq
      have hT:dI (pB listed) T0 rs' = dI (ry S) T0 rs':=qF hq
      have hout:=S'.I.outP
      rw [hM,hT] at hout
      rw [hM] at hst
      have hSr:∀ x ∈ S,x ∈ rs':=fun x hx=>hXr x ((hSm x).1 hx).1
      have hSp:∀ x ∈ S,pB listed x.ix = false:=fun x hx=>((hSm x).1 hx).2
      have hxi:∀ x ∈ S,x.ix ≠ i:=fun x hx h=>hbf (by rw [<- h];exact S'.I.bfs x (hSr x hx))
      refine hop hwant (Oper.wp_mono ?_ (gT hout hds (fun qs v M' h=>zwP.all h) F2))
      rintro a' w' ⟨ρ',T',M',⟨qs,v,hk,rfl⟩,h1,h2,h3⟩
      have hpi2:∀ x ∈ S,pB (listed.setIfInBounds i true) x.ix = false:=fun x hx=>by rw [e,kf (hxi x hx)];exact hSp x hx
      let bf2:=i :: bf'.filter fun j=>ry S j
      have hbf2:∀ j,j ∈ bf2 ↔ (j = i \/ (j ∈ bf'/\∀ x ∈ S,x.ix ≠ j)):=by
       intro j
       simp only [bf2,mem_cons,List.mem_filter]
       exact or_congr Iff.rfl (and_congr Iff.rfl br)
      have I0:Inv N (zdA dep) bf2 (zt o1.dst v (dI (ry S) T0 rs')) M' [] (pB (listed.setIfInBounds i true)) ρ' a' w':=by
       refine Inv.start h2 (fun j=>?_) (fun j hj k hk=>?_)
       ·rw [e,hbf2]
        constructor
        ·intro h
         rcases am h with h | h
         ·exact Or.inl h
         ·exact Or.inr ⟨S'.I.done j h,fun x hx hjx=>by rw [<- hjx,hSp x hx] at h;cases h⟩
        ·rintro (h | ⟨h,hjx⟩)
         ·rw [h];exact ay _ _
         ·rcases S'.I.base j h with h | ⟨r,hr,hri⟩
          ·exact aO h
          ·rw [<- hri]
           refine aO ?_
           rw [hq r hr]
           exact br.2 fun x hx=>by rw [hri];exact hjx x hx
       ·rw [e] at hj ⊢
        rcases am hj with h | h
        ·subst h;exact aO (hdep k hk)
        ·exact aO (S'.I.clos j h k hk)
      obtain ⟨acc,bf3,J1,J2,J3,J4⟩:=tK (rs':=rs') S'.I.pairs S [] (zwP.rest hk) I0 (fun y hy=>by cases hy) (fun x hx=>by
       refine ⟨hSr x hx,hpi2 x hx,fun h=>?_,S'.I.deps x (hSr x hx),S'.I.trans x (hSr x hx),fun k hk=>?_,S'.I.small x (hSr x hx),S'.hops x (hSr x hx),(hXo x ((hSm x).1 hx).1).1,_,_,S'.facts x (hSr x hx) (hSp x hx)⟩
       ·rcases (hbf2 _).1 h with h | h
        ·exact hxi x hx h
        ·exact h.2 x hx rfl
       ·rw [e]
        rcases S'.I.base k (S'.I.below x (hSr x hx) k hk) with h | ⟨r,hr,hri⟩
        ·exact aO h
        ·rw [<- hri]
         refine aO ?_
         rw [hq r hr]
         exact br.2 fun y hy h=>(hXo y ((hSm y).1 hy).1).2.2 x (hSr x hx) (by rw [h,hri];exact hk))
      have hin:∀ y ∈ acc,∀ z ∈ acc,inB y.dep z.ix = false:=fun y hy z hz=>oO fun hm=>by
       have hz2:=(J4 z hz).2.2
       have:=J1.deps y hy
       have h5:=J1.below y hy z.ix hm
       rcases (J3 z.ix).1 h5 with h6 | ⟨x,hx,h6⟩
       ·have h7:=(J1.base z.ix h5)
        rcases (hbf2 _).1 h6 with h8 | h8
        ·have:pB (listed.setIfInBounds i true) z.ix = true:=by rw [e,h8];exact ay _ _
         rw [this] at hz2;cases hz2
        ·rcases S'.I.base z.ix h8.1 with h9 | ⟨r,hr,hri⟩
         ·have:pB (listed.setIfInBounds i true) z.ix = true:=by rw [e];exact aO h9
          rw [this] at hz2;cases hz2
         ·have:pB (listed.setIfInBounds i true) z.ix = true:=by
           rw [e,<- hri]
           refine aO ?_
           rw [hq r hr]
           exact br.2 fun x hx=>by rw [hri];exact h8.2 x hx
          rw [this] at hz2;cases hz2
       ·obtain ⟨y0,hy0,hyi⟩:∃ y0 ∈ S,y0.ix = y.ix:=by
         rcases (J3 y.ix).1 (J1.bfs y hy) with h8 | ⟨x,hx,h8⟩
         ·exfalso
          have hy2:=(J4 y hy).2.2
          rcases (hbf2 _).1 h8 with h9 | h9
          ·have:pB (listed.setIfInBounds i true) y.ix = true:=by rw [e,h9];exact ay _ _
           rw [this] at hy2;cases hy2
          ·rcases S'.I.base y.ix h9.1 with h10 | ⟨r,hr,hri⟩
           ·have:pB (listed.setIfInBounds i true) y.ix = true:=by rw [e];exact aO h10
            rw [this] at hy2;cases hy2
           ·have:pB (listed.setIfInBounds i true) y.ix = true:=by
             rw [e,<- hri]
             refine aO ?_
             rw [hq r hr]
             exact br.2 fun x hx=>by rw [hri];exact h9.2 x hx
            rw [this] at hy2;cases hy2
         ·exact ⟨x,hx,h8⟩
        refine (hXo x ((hSm x).1 hx).1).2.2 y0 (hSr y0 hy0) ?_
        rw [h6,S'.I.deps y0 (hSr y0 hy0),hyi,<- this]
        exact hm
      have hrecM:∀ (q:Nat->Bool) (l:List Rec),(∀ z ∈ l,q z.ix = false)->zrM q M' l = M':=by
       intro q l
       induction l with
       | nil=>intro _;rfl
       | cons z t ih=>intro h;simp only [zrM,h z (by simp),zcF];exact ih fun y hy=>h y (mem_cons_of_mem _ hy)
      have hrecT:∀ (q:Nat->Bool) (T2:Tm) (l:List Rec),(∀ z ∈ l,q z.ix = false)->dI q T2 l = T2:=by
       intro q T2 l
       induction l with
       | nil=>intro _;rfl
       | cons z t ih=>intro h;simp only [dI,h z (by simp),zcF];exact ih fun y hy=>h y (mem_cons_of_mem _ hy)
      refine fr hd hdst hpa hlo hQ fuel (by simpa using hsz) (rs:=acc) (bf:=bf3) (ord:=r0) (T0:=zt o1.dst v (dI (ry S) T0 rs')) (M0:=M') (ρ:=ρ')
       ⟨J1,fun r hr=>(J4 r hr).1,fun r hr hp=>?_,J2,mS (fun j=>?_) n5,fun j hj=>?_⟩ hfuel (Env.le_trans hle h1) ?_
      ·obtain ⟨ox,g1,g2,g3,g4⟩:=(J4 r hr).2.1
       refine ⟨ox,true,g1,by unfold fB;rw [g2],g3,fun _=>?_,fun h=>by cases h⟩
       rw [hrecM _ _ (fun z hz=>hin r hr z hz),hrecT _ _ _ (fun z hz=>hin r hr z hz)]
       exact g4
      ·rw [mem_cons,J3,hbf2]
       constructor
       ·rintro (h | h)
        ·exact Or.inl (Or.inl h)
        ·by_cases hjx:∃ x ∈ S,x.ix = j
         ·exact Or.inr hjx
         ·exact Or.inl (Or.inr ⟨h,fun x hx hxj=>hjx ⟨x,hx,hxj⟩⟩)
       ·rintro ((h | h) | ⟨x,hx,h⟩)
        ·exact Or.inl h
        ·exact Or.inr h.1
        ·rw [<- h];exact Or.inr (S'.I.bfs x (hSr x hx))
      ·rw [J3,hbf2]
       rcases S'.cover j hj with h | h
       ·by_cases hjx:∃ x ∈ S,x.ix = j
        ·exact Or.inl (Or.inr hjx)
        ·exact Or.inl (Or.inl (Or.inr ⟨h,fun x hx hxj=>hjx ⟨x,hx,hxj⟩⟩))
       ·rcases List.mem_cons.1 h with h | h
        ·exact Or.inl (Or.inl (Or.inl h))
        ·exact Or.inr h
      ·rw [hrecM _ _ (fun z hz=>(J4 z hz).2.2)]
       exact hst.trans h3
     have hself:inB (zdA dep i) i = false:=by
      cases h:inB (zdA dep i) i with
      | false=>rfl
      | true=>exact absurd (n2 _ (zmi.1 h)) n1
     refine hop hwant (Oper.wp_mono ?_ (S'.I.run (dp:=zdA dep i)
      (G:=fun v E=>(cj Γ ops dep T0 M0 (⟨i,o1.dst,v,E,zdA dep i,aM ops o1⟩ :: rs') r0 K/\tX M0 rs' (zdA dep i) E = true) \/
       aGA (zdA dep i) rs' E = true/\rB Γ ops T0 (E ++ zrM (inB (zdA dep i)) M0 rs') (bu (zdA dep i) rs') (zdA dep i) (bu (zdA dep i) rs') (cj Γ ops dep T0 (E ++ zrM (inB (zdA dep i)) M0 rs') (⟨i,o1.dst,v,[],zdA dep i,aM ops o1⟩ :: bu (zdA dep i) rs') r0 K)) hds hdep hdo.2.2 hread hsf
      (fun qs v M' h=>?_) F))
     ·rintro a' w' ⟨v,E,x,ρ',⟨hF,hfr⟩ | ⟨htb,hF⟩,h1,h2,h3,h4,h5,h6,h7⟩
      ·have hfr:=je hfr
       have I1:=S'.I.push (r:=⟨i,o1.dst,v,E,zdA dep i,aM ops o1⟩) n1 rfl hdo.2.2 n2 hds (S'.pairs n4) hfr hsf0
       have eM:zrM (inB (zdA dep i)) M0 (⟨i,o1.dst,v,E,zdA dep i,aM ops o1⟩ :: rs') = zrM (inB (zdA dep i)) M0 rs':=by simp only [zrM,hself,zcF]
       have eP:zrM (pB listed) M0 (⟨i,o1.dst,v,E,zdA dep i,aM ops o1⟩ :: rs') = zrM (pB listed) M0 rs':=by simp only [zrM,hpi,zcF]
       have I2:=I1.mark (r:=⟨i,o1.dst,v,E,zdA dep i,aM ops o1⟩) (by simp) hpi hdep h1 h2 h3 (by rw [eM];exact h4) (by rw [eM];exact h5) (by rw [eP];exact h6)
       refine fr hd hdst hpa hlo hQ fuel (by simpa using hsz) (rs:=⟨i,o1.dst,v,E,zdA dep i,aM ops o1⟩ :: rs') (bf:=i :: bf') (ord:=r0) (T0:=T0) (M0:=M0) (ρ:=ρ')
        ⟨by rw [e];exact I2,fun r hr=>?_,fun r hr hp=>?_,hF,n5,fun j hj=>?_⟩ hfuel (Env.le_trans hle h3) ?_
       ·rcases List.mem_cons.1 hr with h | h
        ·subst h;exact ⟨o1,ho,rfl,rfl⟩
        ·exact S'.hops r h
       ·rw [e] at hp
        rcases List.mem_cons.1 hr with h | h
        ·subst h;rw [ay] at hp;cases hp
        ·have hp2:pB listed r.ix = false:=by
          cases h:pB listed r.ix with
          | false=>rfl
          | true=>rw [aO h] at hp;cases hp
         have hno2:inB r.dep i = false:=by
          cases h':inB r.dep i with
          | false=>rfl
          | true=>exact absurd (S'.I.below r h _ (zmi.1 h')) n1
         have e1:dI (inB r.dep) T0 (⟨i,o1.dst,v,E,zdA dep i,aM ops o1⟩ :: rs') = dI (inB r.dep) T0 rs':=by simp only [dI,hno2,zcF]
         have e2:zrM (inB r.dep) M0 (⟨i,o1.dst,v,E,zdA dep i,aM ops o1⟩ :: rs') = zrM (inB r.dep) M0 rs':=by simp only [zrM,hno2,zcF]
         rw [e1,e2]
         exact S'.facts r h hp2
       ·rcases S'.cover j hj with h | h
        ·exact Or.inl (mem_cons_of_mem _ h)
        ·rcases List.mem_cons.1 h with h | h
         ·exact Or.inl (by simp [h])
         ·exact Or.inr h
       ·rw [e]
        refine hst.trans (h7.congr fun b=>?_)
        have:=jy (p:=pB listed) I1.wf I1.uniq I1.closed (r:=⟨i,o1.dst,v,E,zdA dep i,aM ops o1⟩) (by simp) hpi b
        rw [eP] at this
        exact this.symm
      ·-- it has changed what others may have seen
       have hb:=htb
       unfold aGA at hb
       simp only [zbA] at hb
       have hE:=kU hb.2
       have hnd:=pu hb.1
       obtain ⟨hK,hsame⟩:=ka hF
       have I1:=S'.I.push (r:=⟨i,o1.dst,v,[],zdA dep i,aM ops o1⟩) n1 rfl hdo.2.2 n2 hds (S'.pairs n4) (fun b e h=>by simp [zG] at h) hsf0
       have eM:zrM (inB (zdA dep i)) M0 (⟨i,o1.dst,v,[],zdA dep i,aM ops o1⟩ :: rs') = zrM (inB (zdA dep i)) M0 rs':=by simp only [zrM,hself,zcF]
       have eP:zrM (pB listed) M0 (⟨i,o1.dst,v,[],zdA dep i,aM ops o1⟩ :: rs') = zrM (pB listed) M0 rs':=by simp only [zrM,hpi,zcF]
       have told:=(S'.I.sees (rd:=aM ops o1) hdep hdo.2.2 hread hsf).1.told
       have I2:=I1.turn (r:=⟨i,o1.dst,v,[],zdA dep i,aM ops o1⟩) (by simp) hpi hdep rfl (E:=E)
        (fun b e' he y hy hyd=>by
         rcases List.mem_cons.1 hy with h | h
         ·subst h;rfl
         ·exact (hE b e' he).2 y h hyd)
        (fun y hy hyd b=>by
         rcases List.mem_cons.1 hy with h | h
         ·subst h;simp [zG]
         ·exact hnd y h hyd b)
        h1 h2 h3 (by rw [eM];exact h4) (by rw [eM];exact h5) (by rw [eM];exact told) (by rw [eP];exact h6)
       rw [eM] at I2
       have eF:bu (zdA dep i) (⟨i,o1.dst,v,[],zdA dep i,aM ops o1⟩ :: rs') = ⟨i,o1.dst,v,[],zdA dep i,aM ops o1⟩ :: bu (zdA dep i) rs':=by
        simp only [bu]
        cases dw i (zdA dep i) <;> rfl
       simp only [eF] at I2
       refine fr hd hdst hpa hlo hQ fuel (by simpa using hsz) (rs:=⟨i,o1.dst,v,[],zdA dep i,aM ops o1⟩ :: bu (zdA dep i) rs') (bf:=i :: bf') (ord:=r0) (T0:=T0) (M0:=E ++ zrM (inB (zdA dep i)) M0 rs') (ρ:=ρ')
        ⟨by rw [e];exact I2,fun r hr=>?_,fun r hr hp=>?_,hK,n5,fun j hj=>?_⟩ hfuel (Env.le_trans hle h3) ?_
       ·rcases List.mem_cons.1 hr with h | h
        ·subst h;exact ⟨o1,ho,rfl,rfl⟩
        ·obtain ⟨r1,a1,a2,a3,_,_,a6,_⟩:=aj h
         obtain ⟨oj,k1,k2,k3⟩:=S'.hops r1 a1
         exact ⟨oj,by rw [a2];exact k1,by rw [a3];exact k2,by rw [a6];exact k3⟩
       ·rw [e] at hp
        rcases List.mem_cons.1 hr with h | h
        ·subst h;rw [ay] at hp;cases hp
        ·obtain ⟨r1,a1,a2,a3,a4,a5,a6,a7⟩:=aj h
         have hrd:r.ix ∉ zdA dep i:=fun hm=>by
          have:=aO (i:=i) (hdep _ hm)
          rw [this] at hp;cases hp
         have hno2:inB r.dep i = false:=by
          cases h':inB r.dep i with
          | false=>rfl
          | true=>exact absurd (S'.I.below r1 a1 _ (by rw [<- a5];exact zmi.1 h')) n1
         have e1:∀ T0,dI (inB r.dep) T0 (⟨i,o1.dst,v,[],zdA dep i,aM ops o1⟩ :: bu (zdA dep i) rs') = dI (inB r.dep) T0 (bu (zdA dep i) rs'):=fun T0=>by simp only [dI,hno2,zcF]
         have e2:∀ M0,zrM (inB r.dep) M0 (⟨i,o1.dst,v,[],zdA dep i,aM ops o1⟩ :: bu (zdA dep i) rs') = zrM (inB r.dep) M0 (bu (zdA dep i) rs'):=fun M0=>by simp only [zrM,hno2,zcF]
         rw [e1,e2]
         obtain ⟨oj,bj,k1,k2,k3,k4⟩:=hsame r h hrd
         obtain ⟨oj2,g1,g2,g3⟩:=S'.hops r1 a1
         rw [<- a2] at g1
         have:oj2 = oj:=Option.some.inj (g1.symm.trans k1)
         subst this
         have hrdl:r.rd = aM ops oj2:=by rw [a6];exact g3
         refine ⟨oj2,bj,k1,by rw [hrdl];exact k2,by rw [a3];exact g2.symm,fun hb=>?_,k4⟩
         rw [hrdl]
         rcases k3 hb with ⟨m1,m2,qs,v',m3,m4,m5⟩ | ⟨qs,d,en,v',m3,m4,m5,m6⟩
         ·exact lg m1 m3 ⟨by rw [List.append_nil];exact m4,m5,by rw [m2];rfl⟩
         ·have hop2:en.zW = true:=(oq (Γ:=Γ) (M:=[]) (K:=fun _ _ _=>True) m3 rfl trivial).2
          have hmem:(r:Rec) ∈ (⟨i,o1.dst,v,[],zdA dep i,aM ops o1⟩ :: bu (zdA dep i) rs':List Rec):=hr
          have hnone:zG (zrM (inB r.dep) (E ++ zrM (inB (zdA dep i)) M0 rs') (bu (zdA dep i) rs')) d = none:=by
           have:=iV (p:=inB r.dep) (M0:=E ++ zrM (inB (zdA dep i)) M0 rs') I2.wf hmem (oO (I2.irr r hmem)) (fun y hy hyd k hk=>by
            have hyd:=zmi.1 hyd
            rw [I2.deps y hy] at hk
            exact zmi.2 (I2.trans r hmem _ hyd _ hk)) (b:=d) (e:=en) (fun h=>by rw [h] at hop2;cases hop2) (by rw [<- m6];exact zh _ _ _)
           rw [e2] at this
           exact this
          exact (oq (K:=fun qs v' M'=>All qs/\v' = r.v/\M' = r.new ++ zrM (inB r.dep) (E ++ zrM (inB (zdA dep i)) M0 rs') (bu (zdA dep i) rs')) m3 hnone ⟨by rw [List.append_nil];exact m4,m5,by rw [<- m6];rfl⟩).1
       ·rcases S'.cover j hj with h | h
        ·exact Or.inl (mem_cons_of_mem _ h)
        ·rcases List.mem_cons.1 h with h | h
         ·exact Or.inl (by simp [h])
         ·exact Or.inr h
       ·rw [e]
        refine hst.trans (h7.congr fun b=>?_)
        have e3:zrM (jk (pB listed) i) (E ++ zrM (inB (zdA dep i)) M0 rs') (⟨i,o1.dst,v,[],zdA dep i,aM ops o1⟩ :: bu (zdA dep i) rs') = zrM (jk (pB listed) i) (E ++ zrM (inB (zdA dep i)) M0 rs') (bu (zdA dep i) rs'):=by
         simp only [zrM,ay,zcT,List.nil_append]
        rw [e3,iW]
        have hcl:∀ y ∈ rs',y.ix ∈ zdA dep i->∀ k ∈ y.dep,k ∈ zdA dep i:=fun y hy hyd k hk=>by
         rw [S'.I.deps y hy] at hk;exact hdo.2.2 _ hyd _ hk
        have h8:=nZ (M0:=M0) (dp:=zdA dep i) (q:=pB listed) hdep b S'.I.wf hcl
        have h9:zG (zrM (iy (zdA dep i) (jk (pB listed) i)) [] rs') b = zG (zrM (iy (zdA dep i) (pB listed)) [] rs') b:=by
         have:zrM (iy (zdA dep i) (jk (pB listed) i)) [] rs' = zrM (iy (zdA dep i) (pB listed)) [] rs':=eV fun y hy=>by
          have hne:y.ix ≠ i:=fun h=>hbf (by rw [<- h];exact S'.I.bfs y hy)
          simp only [iy,kf hne]
         rw [this]
        cases hx:zG E b with
        | some e'=>
         rw [zan hx,zao,zan hx]
         rw [h9]
         cases hy:zG (zrM (iy (zdA dep i) (pB listed)) [] rs') b with
         | none=>rfl
         | some e2=>
          obtain ⟨z,k1,_,k3,k4⟩:=mg hy
          rw [(hE b e' hx).2 z k1 k3] at k4;cases k4
        | none=>
         rw [zao hx,h8,aR,aR,h9,zao hx]
     ·have hG:=zwP.rest h
      unfold dC at hG
      rcases hG with ⟨E,g1,g2,g3⟩ | ⟨E,g1,g2,g3⟩
      ·refine ⟨zwP.all h,E,g1,fun b e hb=>?_,Or.inl ⟨g3,g2⟩⟩
       rcases je g2 b e hb with h1 | ⟨h1,h2,_⟩
       ·exact Or.inl ⟨rK (q:=jC) (fun _ _ _=>rfl) h1.1,h1.2.1⟩
       ·exact Or.inr ⟨by rw [h1];rfl,h2⟩
      ·subst g1
       refine ⟨zwP.all h,E,rfl,fun b e hb=>?_,Or.inr ⟨g2,g3⟩⟩
       have hb2:=g2
       unfold aGA at hb2
       simp only [zbA] at hb2
       obtain ⟨t1,t2⟩:=kU hb2.2 b e hb
       cases hx:zG (zrM (pB listed) M0 rs') b with
       | none=>exact Or.inl ⟨rfl,t1⟩
       | some e1=>
        refine Or.inr ⟨t1,?_⟩
        rcases iU hx with h | ⟨y,h1,_,h3⟩
        ·exact dZ h
        ·by_cases hyd:y.ix ∈ zdA dep i
         ·exact eE h1 (zmi.2 hyd) h3
         ·rw [t2 y h1 hyd] at h3;cases h3
theorem aI.sound {id:Nat} {T:Tm} {M:Mm} (hdst:ou N ops = true) (h:aI Γ id ops T M K) {ρ:Env} {a:Act} {w:World} (hc:bH N ρ T M a w) {Q:Exit->Act->World->Prop}
  (hQ:∀ a' w',dR N ρ M w K a' w'->Q .normal a' w'):(Code.region id ops.toArray true).wp Γ.P Q a w:=by
 unfold aI at h
 obtain ⟨dep,ord,hp,hF⟩:=h
 simp only [u6,zbA,List.all_eq_true] at hp
 obtain ⟨⟨hd,hplan⟩,hcov⟩:=hp
 have hg:=dx.drew w
 have e0:pB (replicate ops.toArray.size false) = fun _=>false:=by
  funext j;exact getD_replicate_false _ _
 have hleft:left ops.length (fun _=>false) <= ops.toArray.size:=by
  unfold left
  have:=List.length_filter_le (fun j=>!(fun _:Nat=>false) j) (List.range ops.length)
  simpa using this
 refine wp_mono (Q:=fun e a' w'=>e = .normal/\Q .normal a' w') ?_ (fun e a' w' h=>by rw [h.1];exact h.2)
 refine wp_region_any Γ.mixed ?_
 refine fr (ρ0:=ρ) (M00:=M) (w0:=w) (K:=K) hd hdst (fun c a w h=>by cases h.1) (fun ⟨a,w,h⟩=>by cases h.1) (fun a' w' h=>⟨rfl,hQ a' w' h⟩) _ (by simp) (rs:=[]) (bf:=[]) (ord:=ord) (T0:=T) (M0:=M) (ρ:=ρ) ?_ ?_ (Env.le_refl _) ?_
 ·rw [e0]
  refine ⟨Inv.start (hc.grows hg) (by simp) (by simp),by simp,by simp,hF,hplan,fun j hj=>Or.inr (zmi.1 (hcov j (List.mem_range.2 hj)))⟩
 ·rw [e0];exact hleft
 ·rw [e0]
  exact hg.step
end
end Go.Sx
namespace Go.Sx
open Go
def fZ (μ:Nm) (T0 T:Tm):Option (List Prop):=
 match T0 with
 | []=>some []
 | (d,v0) :: r=>match aB6 μ v0 (zX T d) with
  | some ps=>match fZ μ r T with
   | some qs=>some (ps ++ qs)
   | none=>none
  | none=>none
def fD (μ:Nm) (M0:Mm):Nm:=
 match M0 with
 | []=>[]
 | (k,_) :: r=>match aS μ k with
  | some x=>(k,x) :: fD μ r
  | none=>(k,(k,0,none)) :: fD μ r
def xS (M M0:Mm):Nm->Bool
 | []=>true
 | (k,(b,_)) :: r=>zP M0 k && (zG M b).isSome && xS M M0 r
def aRR (μ:Nm) (M0:Mm):List Nat->Bool
 | []=>true
 | k :: r=>(match aS μ k with
  | some (b,0,none)=>beq b k
  | _=>false) && zP M0 k && aRR μ M0 r
def aJT (Kn:List Nat) (μ:Nm) (M M0:Mm):Bool:=aGI μ M0 && xS M M0 μ && aRR μ M0 Kn
def Le1 (Kn:List Nat) (T0:Tm) (M0:Mm) (T:Tm) (M:Mm):Prop:=
 ∃ (μ:Nm) (ps qs:List Prop),fZ (fD μ M0) T0 T = some ps/\zA ps/\fT (fD μ M0) M M0 = some qs/\zA qs/\aJT Kn (fD μ M0) M M0 = true
@[irreducible] def Le (Kn:List Nat) (T0:Tm) (M0:Mm) (T:Tm) (M:Mm):Prop:=
 ∃ (gs:List Gh) (sl:List (Nat × Nat)) (ps:List Prop) (M1:Mm) (T1:Tm),dz gs M = some (ps,M1)/\zA ps/\aG2 sl T M1 = some T1/\Le1 Kn T0 M0 T1 M1
theorem Le.intro  (μ:Nm)  (h1:fZ (fD μ M0) T0 T = some ps) (h2:zA ps) (h3:fT (fD μ M0) M M0 = some qs) (h4:zA qs)
  (h5:aJT Kn (fD μ M0) M M0 = true):Le Kn T0 M0 T M:=by
 unfold Le;exact ⟨[],[],[],M,T,rfl,trivial,rfl,μ,ps,qs,h1,h2,h3,h4,h5⟩
theorem Le.ghost  (gs:List Gh) (sl:List (Nat × Nat)) (μ:Nm)  (g1:dz gs M = some (rs,M1)) (g2:zA rs) (g3:aG2 sl T M1 = some T1)
  (h1:fZ (fD μ M0) T0 T1 = some ps) (h2:zA ps) (h3:fT (fD μ M0) M1 M0 = some qs) (h4:zA qs) (h5:aJT Kn (fD μ M0) M1 M0 = true):Le Kn T0 M0 T M:=by
 unfold Le;exact ⟨gs,sl,rs,M1,T1,g1,g2,g3,μ,ps,qs,h1,h2,h3,h4,h5⟩
structure pi (Kn:List Nat) (ρA ρ:Env):Prop where
 to:∀ k ∈ Kn,ρ.dom k/\ρ.pos k = ρA.pos k
 im:∀ b o ls,ρA.imm b o ls->ρ.imm b o ls
instance (Kn:List Nat) (ρA ρ:Env):CoeFun (pi Kn ρA ρ) (fun _=>∀ k ∈ Kn,ρ.dom k/\ρ.pos k = ρA.pos k):=⟨pi.to⟩
theorem pi.le  (h:pi Kn ρA ρ) (hle:ρ.le ρ'):pi Kn ρA ρ':=
 ⟨fun k hk=>⟨(hle k (h k hk).1).1,((hle k (h k hk).1).2).trans (h k hk).2⟩,fun b o ls hi=>hle.im b o ls (h.im b o ls hi)⟩
theorem kw:∀ {μ:Nm},xS M M0 μ = true->∀ {k b:Nat} {p:Nat × Option Nat},(k,(b,p)) ∈ μ->zP M0 k = true/\(zG M b).isSome = true
 | [],_,_,_,_,h=>by simp at h
 | (c,(d,x)) :: r,hk,k,b,p,h=>by
  simp only [xS,zbA] at hk
  rcases List.mem_cons.1 h with e | h
  ·simp only [zpI] at e
   rw [e.1,e.2.1];exact ⟨hk.1.1,hk.1.2⟩
  ·exact kw hk.2 h
theorem rc:∀ {Kn:List Nat},aRR μ M0 Kn = true->∀ k ∈ Kn,aS μ k = some (k,0,none)/\zP M0 k = true
 | [],_,_,h=>by simp at h
 | c :: r,hi,k,h=>by
  simp only [aRR,zbA] at hi
  rcases List.mem_cons.1 h with rfl | h
  ·obtain ⟨⟨h1,h2⟩,_⟩:=hi
   split at h1
   ·rename_i b hl
    have:=zq h1
    subst this
    exact ⟨hl,h2⟩
   ·cases h1
  ·exact rc hi.2 k h
theorem gl {μ:Nm} {ρ0 ρ:Env} (hb:wh μ ρ0 ρ) {T:Tm} {tmps:Array Value} (ht:∀ d,zRT ρ (zX T d) (tmps.getD d undef)) :
  ∀ {T0:Tm} {ps:List Prop},fZ μ T0 T = some ps->All ps->∀ d,zRT ρ0 (zX T0 d) (tmps.getD d undef)
 | [],_,_,_,d=>zR trivial
 | (e,v0) :: r,ps,h,hp,d=>by
  simp only [fZ] at h
  split at h
  ·rename_i qs hq
   split at h
   ·rename_i rs hrs
    simp only [zoI] at h;subst h
    by_cases hde:d = e
    ·subst hde
     rw [af]
     exact zR (jH hb hq hp.left (ht d))
    ·rw [bK hde]
     exact gl hb ht hrs hp.right d
   ·cases h
  ·cases h
theorem Le1.sound  (h:Le1 Kn T0 M0 T M)  (hc:bH N ρ T M a w) (ha:pi Kn ρA ρ):
  ∃ ρ0,bH N ρ0 T0 M0 a w/\pi Kn ρA ρ0/\aU ρ M ρ0 M0 w w:=by
 unfold Le1 at h
 obtain ⟨μ0,ps,qs,h1,h2,h3,h4,h5⟩:=h
 generalize fD μ0 M0 = μ at *
 simp only [aJT,zbA] at h5
 obtain ⟨⟨hsep,hkeys⟩,hid⟩:=h5
 have hback:wh μ (zve μ M0 ρ) ρ:=by
  constructor
  intro a b g j hl hb
  exact ⟨(kw hkeys (dS hl)).1,by simp only [zve,hl],by simp only [zve,hl]⟩
  exact fun _ _ _ h=>h
 obtain ⟨hM0,hown,_⟩:=nE hc.tozF h3 (zAi h4) hsep hback
 refine ⟨zve μ M0 ρ,⟨hM0,hc.sz,hc.defers,gl hback hc.tm h1 (zAi h2)⟩,⟨fun k hk=>?_,ha.im⟩,?_⟩
 ·obtain ⟨hl,hp⟩:=rc hid k hk
  refine ⟨hp,?_⟩
  simp only [zve,hl,Option.getD_none,Nat.add_zero]
  exact (ha k hk).2
 ·exact ⟨Nat.le_refl _,rfl,rfl,fun _ _ _=>rfl,fun _ _ _ _=>⟨rfl,rfl⟩,fun b o _ ho=>hown b o ho,fun _ _ _ h=>Or.inl h⟩
theorem Le.sound  (h:Le Kn T0 M0 T M)  (hc:bH N ρ T M a w) (ha:pi Kn ρA ρ):
  ∃ ρ0,bH N ρ0 T0 M0 a w/\pi Kn ρA ρ0/\aU ρ M ρ0 M0 w w:=by
 unfold Le at h
 obtain ⟨gs,sl,ps,M1,T1,h1,h2,h3,h4⟩:=h
 obtain ⟨ρ1,k1,k2,k3⟩:=ba h1 (zAi h2) hc.tozF
 obtain ⟨ρ2,m1,m2,m3⟩:=iY h3 (hc.of_mem k1 k2)
 obtain ⟨ρ0,l1,l2,l3⟩:=h4.sound m2 ((ha.le k1).le m1)
 exact ⟨ρ0,l1,l2,k3.trans (m3.trans l3)⟩
abbrev uG:=Exit->Tm->Mm->Prop
@[irreducible] def ac (Kn:List Nat) (T:Tm) (M:Mm) (body:Tm->Mm->uG->Prop) (Q:uG):Prop:=
 ∃ (σ:Type) (I:σ->Prop) (S:σ->Tm × Mm) (m:σ->Nat) (s0:σ),I s0/\Le Kn (S s0).1 (S s0).2 T M /\
  ∀ s,I s->body (S s).1 (S s).2 fun e T' M'=>match e with
   | .normal=>∃ s',I s'/\m s' < m s/\Le Kn (S s').1 (S s').2 T' M'
   | e=>Q e T' M'
theorem ac.intro {Kn:List Nat} {T:Tm} {M:Mm} {body:Tm->Mm->uG->Prop} {Q:uG} {σ:Type} (I:σ->Prop) (S:σ->Tm × Mm) (m:σ->Nat) (s0:σ) (h0:I s0) (h1:Le Kn (S s0).1 (S s0).2 T M)
  (h2:∀ s,I s->body (S s).1 (S s).2 fun e T' M'=>match e with
   | .normal=>∃ s',I s'/\m s' < m s/\Le Kn (S s').1 (S s').2 T' M'
   | e=>Q e T' M'):ac Kn T M body Q:=by
 unfold ac;exact ⟨σ,I,S,m,s0,h0,h1,h2⟩
@[irreducible] def Cut (Kn:List Nat) (T:Tm) (M:Mm) (B:Tm->Mm->Prop):Prop:=
 ∃ (σ:Type) (I:σ->Prop) (S:σ->Tm × Mm) (s0:σ),I s0/\Le Kn (S s0).1 (S s0).2 T M/\∀ s,I s->B (S s).1 (S s).2
theorem Cut.intro {Kn:List Nat} {T:Tm} {M:Mm} {B:Tm->Mm->Prop} {σ:Type} (I:σ->Prop) (S:σ->Tm × Mm) (s0:σ) (h0:I s0) (h1:Le Kn (S s0).1 (S s0).2 T M) (h2:∀ s,I s->B (S s).1 (S s).2):Cut Kn T M B:=by
 unfold Cut;exact ⟨σ,I,S,s0,h0,h1,h2⟩
@[irreducible] def aF2 (Kn:List Nat) (A:(Tm->Mm->Prop)->Prop) (B:Tm->Mm->Prop):Prop:=
 ∃ (σ:Type) (I:σ->Prop) (S:σ->Tm × Mm),A (fun T M=>∃ s,I s/\Le Kn (S s).1 (S s).2 T M)/\∀ s,I s->B (S s).1 (S s).2
theorem aF2.intro {Kn:List Nat} {A:(Tm->Mm->Prop)->Prop} {B:Tm->Mm->Prop} {σ:Type} (I:σ->Prop) (S:σ->Tm × Mm) (h1:A (fun T M=>∃ s,I s/\Le Kn (S s).1 (S s).2 T M)) (h2:∀ s,I s->B (S s).1 (S s).2):aF2 Kn A B:=by
 unfold aF2;exact ⟨σ,I,S,h1,h2⟩
def oc:Code->Option Nat
 | .region id _ _=>some id
 | .seq a _=>oc a
 | .block _ c=>oc c
 | .loop c=>oc c
 | _=>none
def aTE (Cs:List Nat) (c:Code):Bool:=
 match Cs with
 | []=>false
 | x :: r=>match oc c with
  | some i=>dw (i + 1000000) (x :: r)
  | none=>false
def aSF (k:Tm->Mm->Prop) (Q:uG):uG:=fun e T M=>match e with
 | .normal=>k T M
 | e=>Q e T M
def aKF (id:Nat) (Q:uG):uG:=fun e T M=>match e with
 | .exit i=>bif beq i id then Q .normal T M else Q (.exit i) T M
 | e=>Q e T M
def rJ (Γ:Cfg) (id:Nat) (ops:Array Oper) (draw:Bool) (T:Tm) (M:Mm) (K:Tm->Mm->Prop):Prop:=
 match draw with
 | false=>jt Γ ops.toList ops.toList T M [] K
 | true=>aI Γ id ops.toList T M K
def oh (Γ:Cfg) (Cs Kn:List Nat) (c:Code) (T:Tm) (M:Mm) (Q:uG):Prop:=
 match c with
 | .skip=>Q .normal T M
 | .region id ops draw=>match dw id Cs with
  | false=>rJ Γ id ops draw T M (Q .normal)
  | true=>Cut Kn T M fun T' M'=>rJ Γ id ops draw T' M' (Q .normal)
 | .seq a b=>match aTE Cs b with
  | false=>oh Γ Cs Kn a T M (aSF (fun T' M'=>oh Γ Cs Kn b T' M' Q) Q)
  | true=>aF2 Kn (fun J=>oh Γ Cs Kn a T M (aSF J Q)) (fun T' M'=>oh Γ Cs Kn b T' M' Q)
 | .cond c x y=>match ev T c with
  | .tt=>oh Γ Cs Kn x T M Q
  | .ff=>oh Γ Cs Kn y T M Q
  | .bool p=>zB p (oh Γ Cs Kn x T M Q) (oh Γ Cs Kn y T M Q)
  | _=>False
 | .block id c=>oh Γ Cs Kn c T M (aKF id Q)
 | .loop c=>ac Kn T M (fun T' M' Q'=>oh Γ Cs Kn c T' M' Q') Q
 | .exit id=>Q (.exit id) T M
 | .ret=>Q .ret T M
 | .label _=>Q .normal T M
 | .goto l=>Q (.goto l) T M
 | _=>False
def dj (N:Nat):Code->Bool
 | .region _ ops _=>ou N ops.toList
 | .seq a b=>dj N a && dj N b
 | .cond _ x y=>dj N x && dj N y
 | .block _ c=>dj N c
 | .loop c=>dj N c
 | _=>true
def aFV (N:Nat) (Kn:List Nat) (ρA ρ:Env) (M:Mm) (w:World) (Q:uG):Exit->Act->World->Prop:=
 fun e a' w'=>∃ ρ' T' M',Q e T' M'/\bH N ρ' T' M' a' w'/\pi Kn ρA ρ'/\aU ρ M ρ' M' w w'
theorem aA3  (I:Nat->Act->World->Prop)
  (round:∀ n a w,I n a w->c.wp P (Exit.then (fun a' w'=>∃ n',n' < n/\I n' a' w') Q) a w):∀ n a w,I n a w->(Code.loop c).wp P Q a w:=by
 intro n a w h0 b k cs
 have key:∀ n a w,I n a w->∃ e a' w',Q e a' w'/\Arrives P (lone (b.at a (.code c :: .inLoop c :: k)) cs w) b k cs e a' w':=by
  intro n
  induction n using strongRecOn with
  | _ n ih=>
   intro a w hI
   obtain ⟨e,a₁,w₁,hq,harr⟩:=round n a w hI b (.inLoop c :: k) cs
   cases e with
   | normal=>
    obtain ⟨n',hlt,hI₁⟩:=hq
    obtain ⟨e₂,a₂,w₂,hq₂,harr₂⟩:=ih n' hlt a₁ w₁ hI₁
    exact ⟨e₂,a₂,w₂,hq₂,.of_steps (Steps.trans harr (.one step_inLoop)) harr₂⟩
   | exit id=>exact ⟨_,a₁,w₁,hq,.pass (x:=.inLoop c) rfl (fun _ _=>.inl (by simp)) harr⟩
   | goto l=>exact ⟨_,a₁,w₁,hq,.pass (x:=.inLoop c) rfl (fun _ _=>.inl (by simp)) harr⟩
   | ret=>exact ⟨_,a₁,w₁,hq,.pass (x:=.inLoop c) rfl (fun _ _=>.inl (by simp)) harr⟩
   | panic ch=>exact ⟨_,a₁,w₁,hq,.pass (x:=.inLoop c) rfl (fun _ _=>.inl (by simp)) harr⟩
   | outgrown=>exact ⟨_,a₁,w₁,hq,.pass (x:=.inLoop c) rfl (fun _ _=>.inl (by simp)) harr⟩
 obtain ⟨e,a',w',hq,harr⟩:=key n a w h0
 exact ⟨e,a',w',hq,.of_steps (.one step_loop) harr⟩
theorem jx {Γ:Cfg} {N:Nat} {Kn:List Nat} {ρA:Env} {id:Nat} {ops:Array Oper} {draw:Bool} (hok:ou N ops.toList = true) {T:Tm} {M:Mm} {Q:uG} {ρ:Env} {a:Act} {w:World}
  (h:rJ Γ id ops draw T M (Q .normal)) (hc:bH N ρ T M a w) (ha:pi Kn ρA ρ):(Code.region id ops draw).wp Γ.P (aFV N Kn ρA ρ M w Q) a w:=by
 cases draw with
 | false=>
  refine wp_region_list ?_
  have e:ops = ops.toList.toArray:=by simp
  rw [e]
  have:=mO (Γ:=Γ) (N:=N) (all:=ops.toList) hok (K:=Q .normal) (Q:=aFV N Kn ρA ρ M w Q) ops.toList (fun o ho=>ho) hc h (fun a' w' ⟨ρ',T',M',h1,h2,h3,h4⟩=>⟨ρ',T',M',h1,h3,ha.le h2,h4⟩)
  simpa using this
 | true=>
  simp only [rJ] at h
  have e:ops = ops.toList.toArray:=by simp
  rw [e]
  exact aI.sound (Γ:=Γ) (N:=N) hok h hc fun a' w' ⟨ρ',T',M',h1,h2,h3,h4⟩=>⟨ρ',T',M',h1,h3,ha.le h2,h4⟩
theorem ii:∀ {c:Code},dj N c = true->∀ {T:Tm} {M:Mm} {Q:uG} {ρ:Env} {a:Act} {w:World},oh Γ Cs Kn c T M Q->bH N ρ T M a w->pi Kn ρA ρ ->
  c.wp Γ.P (aFV N Kn ρA ρ M w Q) a w:=by
 intro c
 induction c with
 | skip=>intro _ T M Q ρ a w h hc ha;exact wp_skip ⟨ρ,T,M,h,hc,ha,aU.refl _ _ _⟩
 | region id ops draw=>
  intro hok T M Q ρ a w h hc ha
  unfold oh at h
  split at h
  ·exact jx hok h hc ha
  ·unfold Cut at h
   obtain ⟨σ,I,S,s0,h0,h1,h2⟩:=h
   obtain ⟨ρ0,hc0,ha0,hst0⟩:=h1.sound hc ha
   refine wp_mono (jx hok (h2 s0 h0) hc0 ha0) ?_
   rintro e a' w' ⟨ρ',T',M',g1,g2,g3,g4⟩
   exact ⟨ρ',T',M',g1,g2,g3,hst0.trans g4⟩
 | seq x y ihx ihy=>
  intro hok T M Q ρ a w h hc ha
  simp only [dj,zbA] at hok
  simp only [oh] at h
  split at h
  ·refine wp_seq (wp_mono (ihx hok.1 h hc ha) ?_)
   rintro e a' w' ⟨ρ',T',M',h1,h2,h3,h4⟩
   cases e with
   | normal=>
    refine wp_mono (ihy hok.2 h1 h2 h3) ?_
    rintro e a'' w'' ⟨ρ'',T'',M'',g1,g2,g3,g4⟩
    exact ⟨ρ'',T'',M'',g1,g2,g3,h4.trans g4⟩
   | _=>exact ⟨ρ',T',M',h1,h2,h3,h4⟩
  ·unfold aF2 at h
   obtain ⟨σ,I,S,hA,hB⟩:=h
   refine wp_seq (wp_mono (ihx hok.1 hA hc ha) ?_)
   rintro e a' w' ⟨ρ',T',M',h1,h2,h3,h4⟩
   cases e with
   | normal=>
    obtain ⟨s,hs,hle⟩:=h1
    obtain ⟨ρ0,hc0,ha0,hst0⟩:=hle.sound h2 h3
    refine wp_mono (ihy hok.2 (hB s hs) hc0 ha0) ?_
    rintro e a'' w'' ⟨ρ'',T'',M'',g1,g2,g3,g4⟩
    exact ⟨ρ'',T'',M'',g1,g2,g3,(h4.trans hst0).trans g4⟩
   | _=>exact ⟨ρ',T',M',h1,h2,h3,h4⟩
 | cond c x y ihx ihy=>
  intro hok T M Q ρ a w h hc ha
  simp only [dj,zbA] at hok
  have hr:=zev hc c
  simp only [oh] at h
  split at h
  ·rename_i he;rw [he] at hr
   exact wp_cond_true hr (ihx hok.1 h hc ha)
  ·rename_i he;rw [he] at hr
   exact wp_cond_false hr (ihy hok.2 h hc ha)
  ·rename_i p he;rw [he] at hr
   obtain ⟨b,hb,hbp⟩:=hr
   cases b with
   | true=>exact wp_cond_true hb (ihx hok.1 (h.yes (hbp.1 rfl)) hc ha)
   | false=>exact wp_cond_false hb (ihy hok.2 (h.no fun hp=>by have:=hbp.2 hp;cases this) hc ha)
  ·exact h.elim
 | block id c ih=>
  intro hok T M Q ρ a w h hc ha
  refine wp_block (wp_mono (ih hok h hc ha) ?_)
  rintro e a' w' ⟨ρ',T',M',h1,h2,h3,h4⟩
  cases e with
  | exit i=>
   simp only [aKF] at h1
   simp only [Exit.inBlock]
   by_cases hi:i = id
   ·subst hi
    rw [show beq i i = true from Nat.beq_refl i,zcT] at h1
    rw [if_pos rfl]
    exact ⟨ρ',T',M',h1,h2,h3,h4⟩
   ·have:beq i id = false:=by
     cases hb:beq i id with
     | false=>rfl
     | true=>exact absurd (zq hb) hi
    rw [this,zcF] at h1
    rw [if_neg hi]
    exact ⟨ρ',T',M',h1,h2,h3,h4⟩
  | _=>exact ⟨ρ',T',M',h1,h2,h3,h4⟩
 | loop c ih=>
  intro hok T M Q ρ a w h hc ha
  simp only [oh] at h
  unfold ac at h
  obtain ⟨σ,I,S,m,s0,h0,h1,h2⟩:=h
  obtain ⟨ρ0,hc0,ha0,hst0⟩:=h1.sound hc ha
  refine aA3 (fun n a' w'=>∃ s ρs,n = m s/\I s/\bH N ρs (S s).1 (S s).2 a' w'/\pi Kn ρA ρs/\aU ρ M ρs (S s).2 w w') ?_ (m s0) a w ⟨s0,ρ0,rfl,h0,hc0,ha0,hst0⟩
  rintro n a' w' ⟨s,ρs,rfl,hI,hcs,has,hsts⟩
  refine wp_mono (ih hok (h2 s hI) hcs has) ?_
  rintro e a'' w'' ⟨ρ',T',M',g1,g2,g3,g4⟩
  cases e with
  | normal=>
   obtain ⟨s',hI',hlt,hle⟩:=g1
   obtain ⟨ρ'',hc'',ha'',hst''⟩:=hle.sound g2 g3
   exact ⟨m s',hlt,s',ρ'',rfl,hI',hc'',ha'',hsts.trans (g4.trans hst'')⟩
  | _=>exact ⟨ρ',T',M',g1,g2,g3,hsts.trans g4⟩
 | exit id=>intro _ T M Q ρ a w h hc ha;exact wp_exit ⟨ρ,T,M,h,hc,ha,aU.refl _ _ _⟩
 | ret=>intro _ T M Q ρ a w h hc ha;exact wp_ret ⟨ρ,T,M,h,hc,ha,aU.refl _ _ _⟩
 | label l=>intro _ T M Q ρ a w h hc ha;exact wp_label ⟨ρ,T,M,h,hc,ha,aU.refl _ _ _⟩
 | goto l=>intro _ T M Q ρ a w h hc ha;exact wp_goto ⟨ρ,T,M,h,hc,ha,aU.refl _ _ _⟩
 | _=>intro _ T M Q ρ a w h;exact h.elim
end Go.Sx
namespace Go.Sx
open Go
def aSG (Γ:Cfg) (T:Tm) (M:Mm) (r:ResultVar):Option (List Prop × SV):=
 match r with
 | .tmp t=>match zX T t with
  | .und=>none
  | .tup _=>none
  | v=>some ([],v)
 | .cell a t=>match zX T a with
  | .ptr b f i=>aHB M b f i (Γ.ty t)
  | _=>none
def uz (Γ:Cfg) (T:Tm) (M:Mm) (rs:List ResultVar):Option (List Prop × List SV):=
 match rs with
 | []=>some ([],[])
 | r :: q=>match aSG Γ T M r with
  | some (ps,v)=>match uz Γ T M q with
   | some (qs,vs)=>some (ps ++ qs,v :: vs)
   | none=>none
  | none=>none
def aCQ (vs:List SV):SV:=
 match vs with
 | [v]=>v
 | vs=>.tup vs
def aB5 (μ:Nm) (v0 v:SV):Option (List Prop):=
 match v0 with
 | .tup l0=>match v with
  | .tup l=>eN μ l0 l
  | _=>none
 | v0=>match v with
  | .tup _=>none
  | v=>aB6 μ v0 v
def aVQ (Γ:Cfg) (Kn:List Nat) (rs:List ResultVar) (T:Tm) (M:Mm) (R:SV->Mm->Prop):Prop:=
 ∃ ps vs v0 M0 μ qs us,uz Γ T M rs = some (ps,vs)/\zA ps/\R v0 M0/\aB5 (fD μ M0) v0 (aCQ vs) = some qs/\zA qs/\fT (fD μ M0) M M0 = some us/\zA us/\aJT Kn (fD μ M0) M M0 = true
@[irreducible] def Ret (Γ:Cfg) (Kn:List Nat) (rs:List ResultVar) (T:Tm) (M:Mm) (R:SV->Mm->Prop):Prop:=
 ∃ (gs:List Gh) (sl:List (Nat × Nat)) (ps:List Prop) (M1:Mm) (T1:Tm),dz gs M = some (ps,M1)/\zA ps/\aG2 sl T M1 = some T1/\aVQ Γ Kn rs T1 M1 R
theorem Ret.ghost  (gs:List Gh) (sl:List (Nat × Nat))  (g1:dz gs M = some (ts,M1)) (g2:zA ts) (g3:aG2 sl T M1 = some T1)
  (v0:SV) (M0:Mm) (μ:Nm) 
  (h1:uz Γ T1 M1 rs = some (ps,vs)) (h2:zA ps) (h3:R v0 M0) (h4:aB5 (fD μ M0) v0 (aCQ vs) = some qs) (h5:zA qs) (h6:fT (fD μ M0) M1 M0 = some us) (h7:zA us)
  (h8:aJT Kn (fD μ M0) M1 M0 = true):Ret Γ Kn rs T M R:=by
 unfold Ret;exact ⟨gs,sl,ts,M1,T1,g1,g2,g3,ps,vs,v0,M0,μ,qs,us,h1,h2,h3,h4,h5,h6,h7,h8⟩
theorem Ret.intro  (v0:SV) (M0:Mm) (μ:Nm) 
  (h1:uz Γ T M rs = some (ps,vs)) (h2:zA ps) (h3:R v0 M0) (h4:aB5 (fD μ M0) v0 (aCQ vs) = some qs) (h5:zA qs) (h6:fT (fD μ M0) M M0 = some us) (h7:zA us)
  (h8:aJT Kn (fD μ M0) M M0 = true):Ret Γ Kn rs T M R:=by
 unfold Ret;exact ⟨[],[],[],M,T,rfl,trivial,rfl,ps,vs,v0,M0,μ,qs,us,h1,h2,h3,h4,h5,h6,h7,h8⟩
def aNK (Γ:Cfg) (Kn:List Nat) (rs:List ResultVar) (R:SV->Mm->Prop):uG:=fun e T M=>match e with
 | .ret=>Ret Γ Kn rs T M R
 | .normal=>Ret Γ Kn rs T M R
 | _=>False
def cL (i:Nat):List SV->Tm
 | []=>[]
 | v :: r=>(i,v) :: cL (i + 1) r
def fo:Mm->List Nat
 | []=>[]
 | (k,_) :: r=>k :: fo r
theorem oH:∀ {M:Mm} {a:Nat} {e:Ent},zG M a = some e->a ∈ fo M
 | [],_,_,h=>by simp [zG] at h
 | (b,e') :: r,a,e,h=>by
  simp only [fo,mem_cons]
  by_cases hab:a = b
  ·exact Or.inl hab
  ·rw [zg hab] at h
   exact Or.inr (oH h)
theorem oI:∀ {M:Mm} {a:Nat},a ∈ fo M->∃ e,zG M a = some e
 | [],_,h=>by simp [fo] at h
 | (b,e') :: r,a,h=>by
  by_cases hab:a = b
  ·subst hab;exact ⟨_,zh _ _ _⟩
  ·rw [zg hab]
   simp only [fo,mem_cons] at h
   exact oI (h.resolve_left hab)
theorem fO:∀ {vs:List SV} {xs:List Value} (i:Nat) (tmps:Array Value),ma ρ vs xs->(∀ j x,xs[j]? = some x->tmps[i + j]? = some x)->∀ d,zRT ρ (zX (cL i vs) d) (tmps.getD d undef)
 | [],_,_,_,_,_,_=>zR trivial
 | v :: r,xs,i,tmps,⟨x,ys,e,h1,h2⟩,ht,d=>by
  subst e
  simp only [cL]
  by_cases hd:d = i
  ·subst hd
   rw [af]
   have:=ht 0 x rfl
   rw [Nat.add_zero] at this
   rw [Array.getD_eq_getD_getElem?,this]
   exact zR h1
  ·rw [bK hd]
   exact fO (i + 1) tmps h2 (fun j y hj=>by
    have:=ht (j + 1) y (by simpa using hj)
    rw [show i + 1 + j = i + (j + 1) by omega];exact this) d
theorem gY:∀ {vs:List SV} {xs:List Value},ma ρ vs xs->xs.length = vs.length
 | [],xs,h=>by simp only [ma] at h;subst h;rfl
 | _ :: _,_,⟨_,_,e,_,h⟩=>by subst e;simp [gY h]
def w5 (tmps:Array Value):ResultVar->Sem Value
 | .tmp t=>pure (tmps.getD t undef)
 | .cell b t=>do loadVar t (<- asAddr (tmps.getD b undef))
theorem pQ (fn:Func) (tmps:Array Value):results fn tmps = (do
  let out <- fn.results.mapM (w5 tmps)
  pure (if h:out.size = 1 then out[0] else .tuple out)):=by
 unfold results
 congr 1
theorem yn  (hc:bH N ρ T M a w)  (h:aSG Γ T M r = some (ps,v)) (hp:All ps):
  ∃ x,Rel ρ v x/\(w5 a.tmps r).run Γ.P w = .ok x w:=by
 unfold aSG at h
 split at h
 ·rename_i t
  have hr:=hc.tm t
  split at h
  ·cases h
  ·cases h
  ·rename_i h1 h2
   simp only [zoI,zpI] at h;obtain ⟨rfl,rfl⟩:=h
   exact ⟨_,hr.s h2,rfl⟩
 ·rename_i b t
  have hr:=hc.tm b
  split at h
  ·rename_i d f i he
   rw [he] at hr
   obtain ⟨x,hx,hrun⟩:=oB hc.tozF h hp
   exact ⟨x,hx,by simp only [w5,hr.2,asAddr,Sem.run_bind,Sem.run_pure,andThen_ok,hrun]⟩
  ·cases h
theorem nW  (hc:bH N ρ T M a w):∀ {rs:List ResultVar} {ps:List Prop} {vs:List SV},uz Γ T M rs = some (ps,vs)->All ps ->
  ∃ xs,ma ρ vs xs/\(rs.mapM (w5 a.tmps)).run Γ.P w = .ok xs w
 | [],ps,vs,h,_=>by
  simp only [uz,zoI,zpI] at h;obtain ⟨rfl,rfl⟩:=h
  exact ⟨[],rfl,rfl⟩
 | r :: q,ps,vs,h,hp=>by
  simp only [uz] at h
  split at h
  ·rename_i qs v hv
   split at h
   ·rename_i us ws hws
    simp only [zoI,zpI] at h;obtain ⟨rfl,rfl⟩:=h
    obtain ⟨x,hx,h1⟩:=yn hc hv hp.left
    obtain ⟨xs,hxs,h2⟩:=nW hc hws hp.right
    refine ⟨x :: xs,⟨x,xs,rfl,hx,hxs⟩,?_⟩
    rw [List.mapM_cons]
    simp only [Sem.run_bind]
    rw [h1]
    simp only [andThen_ok]
    rw [h2]
    rfl
   ·cases h
  ·cases h
theorem ur  (hb:wh μ ρ0 ρ)  (h:aB5 μ v0 v = some ps) (hp:All ps)  (hr:zRT ρ v x):zRT ρ0 v0 x:=by
 have conv:∀ {l:List SV} {xs:List Value},ma ρ l xs->gW ρ l xs:=by
  intro l
  induction l with
  | nil=>intro xs h;exact h
  | cons v r ih=>intro xs ⟨x,ys,e,h1,h2⟩;exact ⟨x,ys,e,zR h1,ih h2⟩
 unfold aB5 at h
 split at h
 ·split at h
  ·obtain ⟨xs,h1,e⟩:=hr
   exact ⟨xs,fP hb h hp (conv h1),e⟩
  ·cases h
 ·split at h
  ·cases h
  ·exact zR (jH hb h hp hr)
theorem ym  (hc:bH N ρ T M a w) (ha:pi Kn ρA ρ) (h:aVQ Γ Kn rs T M R)
  (hrs:fn.results.toList = rs):
  ∃ x v ρ' M',(results fn a.tmps).run Γ.P w = .ok x w/\zRT ρ' v x/\R v M'/\zF ρ' M' w/\pi Kn ρA ρ'/\aU ρ M ρ' M' w w:=by
 obtain ⟨ps,vs,v0,M0,μ0,qs,us,h1,h2,h3,h4,h5,h6,h7,h8⟩:=h
 generalize fD μ0 M0 = μ at *
 simp only [aJT,zbA] at h8
 obtain ⟨⟨hsep,hkeys⟩,hid⟩:=h8
 have hback:wh μ (zve μ M0 ρ) ρ:=by
  constructor
  intro a b g j hl hb
  exact ⟨(kw hkeys (dS hl)).1,by simp only [zve,hl],by simp only [zve,hl]⟩
  exact fun _ _ _ h=>h
 obtain ⟨hM0,hown,_⟩:=nE hc.tozF h6 (zAi h7) hsep hback
 obtain ⟨xs,hxs,hrun⟩:=nW hc h1 (zAi h2)
 have hlen:=gY hxs
 have hrun2:(results fn a.tmps).run Γ.P w = .ok (if h:xs.toArray.size = 1 then xs.toArray[0] else .tuple xs.toArray) w:=by
  rw [pQ,Sem.run_bind]
  have e:fn.results = rs.toArray:=by rw [<- hrs]
  rw [e,List.mapM_toArray,Sem.run_map,hrun]
  simp only [andThen_ok]
  rfl
 have hone:zRT ρ (aCQ vs) (if h:xs.toArray.size = 1 then xs.toArray[0] else .tuple xs.toArray):=by
  unfold aCQ
  split
  ·rename_i v
   obtain ⟨x,ys,e,hx,hy⟩:=hxs
   simp only [ma] at hy
   subst hy;subst e
   exact zR hx
  ·rename_i hne
   rw [dif_neg (by
    simp only [List.size_toArray,hlen]
    intro h1
    match vs,h1 with
    | [v],_=>exact hne v rfl)]
   exact ⟨xs,hxs,rfl⟩
 refine ⟨_,v0,zve μ M0 ρ,M0,hrun2,ur hback h4 (zAi h5) hone,h3,hM0,⟨fun k hk=>?_,ha.im⟩,⟨Nat.le_refl _,rfl,rfl,fun _ _ _=>rfl,fun _ _ _ _=>⟨rfl,rfl⟩,fun b o _ ho=>hown b o ho,fun _ _ _ h=>Or.inl h⟩⟩
 obtain ⟨hl,hp⟩:=rc hid k hk
 refine ⟨hp,?_⟩
 simp only [zve,hl,Option.getD_none,Nat.add_zero]
 exact (ha k hk).2
theorem sV  (hc:bH N ρ T M a w) (ha:pi Kn ρA ρ) (h:Ret Γ Kn rs T M R)
  (hrs:fn.results.toList = rs):
  ∃ x v ρ' M',(results fn a.tmps).run Γ.P w = .ok x w/\zRT ρ' v x/\R v M'/\zF ρ' M' w/\pi Kn ρA ρ'/\aU ρ M ρ' M' w w:=by
 unfold Ret at h
 obtain ⟨gs,sl,ts,M1,T1,g1,g2,g3,h⟩:=h
 obtain ⟨ρ1,k1,k2,k3⟩:=ba g1 (zAi g2) hc.tozF
 obtain ⟨ρ2,m1,m2,m3⟩:=iY g3 (hc.of_mem k1 k2)
 obtain ⟨x,v,ρ',M',r1,r2,r3,r4,r5,r6⟩:=ym m2 ((ha.le k1).le m1) h hrs
 exact ⟨x,v,ρ',M',r1,r2,r3,r4,r5,k3.trans (m3.trans r6)⟩
theorem ci (Cs:List Nat)  (hf:Γ.P.funcs[f]? = some fn) (hb:fn.body = some c)
  (hok:dj fn.ntmps c = true) (hn:ble args.length fn.ntmps = true) (h:oh Γ Cs (fo M0) c (cL 0 args) M0 (aNK Γ (fo M0) fn.results.toList R)):Fn Γ.P f args M0 R:=by
 intro ρ xs w hM hargs
 refine calls_of_wp hf hb ?_
 have hlen:=gY hargs
 have hle:=aT hn
 have hc:bH fn.ntmps ρ (cL 0 args) M0 { tmps:=xs.toArray ++ replicate (fn.ntmps - xs.toArray.size) undef,defers:=[] } w:=by
  refine ⟨hM,by simp;omega,rfl,fO 0 _ hargs fun j x hj=>?_⟩
  have hlt:=(List.getElem?_eq_some_iff.1 hj).1
  rw [Nat.zero_add,Array.getElem?_append_left (by simpa using hlt)]
  simpa using hj
 have ha:pi (fo M0) ρ ρ:=by
  refine ⟨fun k hk=>?_,fun _ _ _ h=>h⟩
  obtain ⟨e,he⟩:=oI hk
  exact ⟨hM.mod k e he,rfl⟩
 refine wp_mono (ii hok h hc ha) ?_
 rintro e a' w' ⟨ρ',T',M',h1,h2,h3,h4⟩
 have fin:Ret Γ (fo M0) fn.results.toList T' M' R->a'.defers = []/\∃ v,(results fn a'.tmps).run Γ.P w' = .ok v w'/\∃ v' x ρ' M',Ending.returned v = .returned x/\zRT ρ' v' x/\R v' M'/\ρ.le ρ'/\zF ρ' M' w'/\aU ρ M0 ρ' M' w w':=by
  intro hr
  obtain ⟨x,v,ρ2,M2,r1,r2,r3,r4,r5,r6⟩:=sV h2 h3 hr rfl
  refine ⟨h2.defers,x,r1,v,x,ρ2,M2,rfl,r2,r3,⟨fun k hk=>?_,r5.im⟩,r4,h4.trans r6⟩
  obtain ⟨e,he⟩:=hM.dom k hk
  exact r5 k (oH he)
 cases e with
 | normal=>exact fin h1
 | ret=>exact fin h1
 | _=>exact h1.elim
theorem aF  (hf:Γ.P.funcs[f]? = some fn) (hb:fn.body = some c)
  (hok:dj fn.ntmps c = true) (hn:ble args.length fn.ntmps = true) (h:oh Γ [] (fo M0) c (cL 0 args) M0 (aNK Γ (fo M0) fn.results.toList R)):Fn Γ.P f args M0 R:=
 ci [] hf hb hok hn h
theorem Fn.mono  (h:Fn P f args M0 R) (hr:∀ v M,R v M->R' v M):Fn P f args M0 R':=by
 intro ρ xs w hM ha
 refine (h ρ xs w hM ha).mono ?_
 rintro e w' ⟨v,x,ρ',M',h1,h2,h3,h4⟩
 exact ⟨v,x,ρ',M',h1,h2,hr _ _ h3,h4⟩
theorem zA.one  (h:p):zA [p]:=h
theorem zA.of:∀ {ps:List Prop},All ps->zA ps
 | [],_=>trivial
 | [_],h=>h.head
 | _ :: _ :: _,h=>⟨h.head,zA.of h.tail⟩
theorem zA.cons  (h:p) (k:zA r):zA (p :: r):=zA.of fun q hq=>by
 rcases List.mem_cons.1 hq with e | hq
 ·rw [e];exact h
 ·exact zAi k q hq
theorem zA.app  (h:zA a) (k:zA b):zA (a ++ b):=zA.of fun q hq=>(List.mem_append.1 hq).elim (zAi h q) (zAi k q)
theorem zA.zd  (h:zA a) (k:zA b):zA (a.append b):=zA.app h k
end Go.Sx
namespace Go.Sx
open Go
def i5 (id:Nat) (c:Code):Option Code:=
 match c with
 | .region i o d=>bif beq i id then some (.region i o d) else none
 | .seq a b=>match oc (.seq a b) with
  | some i=>bif beq i id then some (.seq a b) else match i5 id a with
   | some x=>some x
   | none=>i5 id b
  | none=>match i5 id a with
   | some x=>some x
   | none=>i5 id b
 | .cond _ x y=>match i5 id x with
  | some z=>some z
  | none=>i5 id y
 | .block _ c=>i5 id c
 | .loop c=>i5 id c
 | .scope c=>i5 id c
 | _=>none
def aR6 (fn:Func) (id:Nat):Code:=match fn.body with
 | some c=>(i5 id c).getD .skip
 | none=>.skip
def aRC (Γ:Cfg) (Cs:List Nat) (fn:Func) (id:Nat) (Kn:List Nat) (T:Tm) (M:Mm) (R:SV->Mm->Prop):Prop:=
 oh Γ Cs Kn (aR6 fn id) T M (aNK Γ Kn fn.results.toList R)
end Go.Sx
namespace Go.Sx
open Go
def gp (c:Code) (l:Nat):Code:=(findLabel c l).getD .skip
def ltO (n:Nat) (b:Option Nat):Prop:=
 match b with
 | none=>True
 | some m=>n < m
def aPJ (ls:List Nat) (J:Nat->Nat->Act->World->Prop) (b:Option Nat) (Q:Exit->Act->World->Prop):Exit->Act->World->Prop
 | .goto l,a,w=>l ∈ ls/\∃ n,ltO n b/\J l n a w
 | e,a,w=>Q e a w
theorem yQ  (ls:List Nat) (J:Nat->Nat->Act->World->Prop) (hf:∀ l ∈ ls,findLabel c l = some (gp c l))
  (first:c.wp P (aPJ ls J none Q) a w) (pass:∀ l ∈ ls,∀ n a w,J l n a w->(gp c l).wp P (aPJ ls J (some n) Q) a w):(Code.scope c).wp P Q a w:=by
 intro b k cs
 have hg:∀ l ∈ ls,gotoIn l (.inScope c :: k) = some (.code (gp c l) :: .inScope c :: k):=fun l hl=>by simp [gotoIn,hf l hl]
 have key:∀ n l a w,l ∈ ls->J l n a w->∃ e a' w',Q e a' w'/\Arrives P (lone (b.at a (.code (gp c l) :: .inScope c :: k)) cs w) b k cs e a' w':=by
  intro n
  induction n using strongRecOn with
  | _ n ih=>
   intro l a w hl hJ
   obtain ⟨e,a₁,w₁,hq,harr⟩:=pass l hl n a w hJ b (.inScope c :: k) cs
   cases e with
   | normal=>exact ⟨.normal,a₁,w₁,hq,Steps.trans harr (.one step_inScope)⟩
   | exit id=>exact ⟨.exit id,a₁,w₁,hq,fun k' hk=>harr k' (by simp [exitTo,hk])⟩
   | goto l'=>
    obtain ⟨hl',n',hlt,hJ'⟩:=hq
    obtain ⟨e₂,a₂,w₂,hq₂,harr₂⟩:=ih n' hlt l' a₁ w₁ hl' hJ'
    exact ⟨e₂,a₂,w₂,hq₂,.of_steps (harr _ (hg l' hl')) harr₂⟩
   | ret=>exact ⟨_,a₁,w₁,hq,harr⟩
   | panic ch=>exact ⟨_,a₁,w₁,hq,harr⟩
   | outgrown=>exact ⟨_,a₁,w₁,hq,harr⟩
 obtain ⟨e,a₁,w₁,hq,harr⟩:=first b (.inScope c :: k) cs
 cases e with
 | normal=>exact ⟨.normal,a₁,w₁,hq,.head step_scope (Steps.trans harr (.one step_inScope))⟩
 | exit id=>exact ⟨.exit id,a₁,w₁,hq,fun k' hk=>.head step_scope (harr k' (by simp [exitTo,hk]))⟩
 | goto l'=>
  obtain ⟨hl',n',_,hJ'⟩:=hq
  obtain ⟨e₂,a₂,w₂,hq₂,harr₂⟩:=key n' l' a₁ w₁ hl' hJ'
  exact ⟨e₂,a₂,w₂,hq₂,.of_steps (.head step_scope (harr _ (hg l' hl'))) harr₂⟩
 | ret=>exact ⟨_,a₁,w₁,hq,.of_steps (.one step_scope) harr⟩
 | panic ch=>exact ⟨_,a₁,w₁,hq,.of_steps (.one step_scope) harr⟩
 | outgrown=>exact ⟨_,a₁,w₁,hq,.of_steps (.one step_scope) harr⟩
def aHJ {σ:Type} (Kn:List Nat) (ls:List Nat) (I:Nat->σ->Prop) (S:Nat->σ->Tm × Mm) (m:Nat->σ->Nat) (b:Option Nat) (Q:uG):uG:=fun e T M=>match e with
 | .goto l=>dw l ls = true/\∃ s,I l s/\ltO (m l s) b/\Le Kn (S l s).1 (S l s).2 T M
 | e=>Q e T M
def aUX (ls:List Nat) (p:Nat->Prop):Prop:=
 match ls with
 | []=>True
 | l :: r=>p l/\aUX r p
theorem yO:∀ {ls:List Nat},aUX ls p->∀ {l:Nat},l ∈ ls->p l
 | [],_,_,h=>by cases h
 | _ :: _,h,_,hm=>(List.mem_cons.1 hm).elim (fun e=>by rw [e];exact h.1) (fun e=>yO h.2 e)
@[irreducible] def mZ (Γ:Cfg) (N:Nat) (Cs Kn:List Nat) (c:Code) (T:Tm) (M:Mm) (Q:uG):Prop:=
 ∃ (σ:Type) (ls:List Nat) (I:Nat->σ->Prop) (S:Nat->σ->Tm × Mm) (m:Nat->σ->Nat),(ls.all fun l=>(findLabel c l).isSome && dj N (gp c l)) = true/\oh Γ Cs Kn c T M (aHJ Kn ls I S m none Q) /\
  ∀ l,dw l ls = true->∀ s,I l s->oh Γ Cs Kn (gp c l) (S l s).1 (S l s).2 (aHJ Kn ls I S m (some (m l s)) Q)
theorem mZ.intro {Γ:Cfg} {N:Nat} {Cs Kn:List Nat} {c:Code} {T:Tm} {M:Mm} {Q:uG} {σ:Type} (ls:List Nat) (I:Nat->σ->Prop) (S:Nat->σ->Tm × Mm) (m:Nat->σ->Nat) (h:(ls.all fun l=>(findLabel c l).isSome && dj N (gp c l)) = true)
  (h1:oh Γ Cs Kn c T M (aHJ Kn ls I S m none Q)) (h2:aUX ls fun l=>∀ s,I l s->oh Γ Cs Kn (gp c l) (S l s).1 (S l s).2 (aHJ Kn ls I S m (some (m l s)) Q)):mZ Γ N Cs Kn c T M Q:=by
 unfold mZ;exact ⟨σ,ls,I,S,m,h,h1,fun l hl=>yO h2 (zmi.1 hl)⟩
theorem uo  (hok:dj N c = true)  (h:mZ Γ N Cs Kn c T M Q) (hc:bH N ρ T M a w) (ha:pi Kn ρA ρ):
  (Code.scope c).wp Γ.P (aFV N Kn ρA ρ M w Q) a w:=by
 unfold mZ at h
 obtain ⟨σ,ls,I,S,m,hl,h1,h2⟩:=h
 have hl:∀ l ∈ ls,findLabel c l = some (gp c l)/\dj N (gp c l) = true:=fun l hm=>by
  have:=List.all_eq_true.1 hl l hm
  simp only [zbA] at this
  obtain ⟨r,hr⟩:=Option.isSome_iff_exists.1 this.1
  exact ⟨by unfold gp;rw [hr];rfl,this.2⟩
 refine yQ ls (fun l n a' w'=>∃ s ρs,n = m l s/\I l s/\bH N ρs (S l s).1 (S l s).2 a' w'/\pi Kn ρA ρs/\aU ρ M ρs (S l s).2 w w') (fun l hm=>(hl l hm).1) ?_ ?_
 ·refine wp_mono (ii hok h1 hc ha) ?_
  rintro e a' w' ⟨ρ',T',M',g1,g2,g3,g4⟩
  cases e with
  | goto l=>
   obtain ⟨k1,s,k2,_,k4⟩:=g1
   obtain ⟨ρ'',hc'',ha'',hst''⟩:=k4.sound g2 g3
   exact ⟨zmi.1 k1,m l s,trivial,s,ρ'',rfl,k2,hc'',ha'',g4.trans hst''⟩
  | _=>exact ⟨ρ',T',M',g1,g2,g3,g4⟩
 ·rintro l hm n a' w' ⟨s,ρs,rfl,hI,hcs,has,hsts⟩
  refine wp_mono (ii (hl l hm).2 (h2 l (zmi.2 hm) s hI) hcs has) ?_
  rintro e a'' w'' ⟨ρ',T',M',g1,g2,g3,g4⟩
  cases e with
  | goto l'=>
   obtain ⟨k1,s',k2,k3,k4⟩:=g1
   obtain ⟨ρ'',hc'',ha'',hst''⟩:=k4.sound g2 g3
   exact ⟨zmi.1 k1,m l' s',k3,s',ρ'',rfl,k2,hc'',ha'',hsts.trans (g4.trans hst'')⟩
  | _=>exact ⟨ρ',T',M',g1,g2,g3,hsts.trans g4⟩
theorem xi (Cs:List Nat)  (hf:Γ.P.funcs[f]? = some fn) (hb:fn.body = some (.seq r (.scope c)))
  (hok:(dj fn.ntmps r && dj fn.ntmps c) = true) (hn:ble args.length fn.ntmps = true)
  (h:oh Γ Cs (fo M0) r (cL 0 args) M0 (aSF (fun T M=>mZ Γ fn.ntmps Cs (fo M0) c T M (aNK Γ (fo M0) fn.results.toList R)) (aNK Γ (fo M0) fn.results.toList R))):Fn Γ.P f args M0 R:=by
 intro ρ xs w hM hargs
 refine calls_of_wp hf hb ?_
 simp only [zbA] at hok
 have hlen:=gY hargs
 have hle:=aT hn
 have hc:bH fn.ntmps ρ (cL 0 args) M0 { tmps:=xs.toArray ++ replicate (fn.ntmps - xs.toArray.size) undef,defers:=[] } w:=by
  refine ⟨hM,by simp;omega,rfl,fO 0 _ hargs fun j x hj=>?_⟩
  have hlt:=(List.getElem?_eq_some_iff.1 hj).1
  rw [Nat.zero_add,Array.getElem?_append_left (by simpa using hlt)]
  simpa using hj
 have ha:pi (fo M0) ρ ρ:=by
  refine ⟨fun k hk=>?_,fun _ _ _ h=>h⟩
  obtain ⟨e,he⟩:=oI hk
  exact ⟨hM.mod k e he,rfl⟩
 have all:(Code.seq r (.scope c)).wp Γ.P (aFV fn.ntmps (fo M0) ρ ρ M0 w (aNK Γ (fo M0) fn.results.toList R)) { tmps:=xs.toArray ++ replicate (fn.ntmps - xs.toArray.size) undef,defers:=[] } w:=by
  refine wp_seq (wp_mono (ii hok.1 h hc ha) ?_)
  rintro e a' w' ⟨ρ',T',M',h1,h2,h3,h4⟩
  cases e with
  | normal=>
   refine wp_mono (uo hok.2 h1 h2 h3) ?_
   rintro e a'' w'' ⟨ρ'',T'',M'',g1,g2,g3,g4⟩
   exact ⟨ρ'',T'',M'',g1,g2,g3,h4.trans g4⟩
  | _=>exact ⟨ρ',T',M',h1,h2,h3,h4⟩
 refine wp_mono all ?_
 rintro e a' w' ⟨ρ',T',M',h1,h2,h3,h4⟩
 have fin:Ret Γ (fo M0) fn.results.toList T' M' R->a'.defers = []/\∃ v,(results fn a'.tmps).run Γ.P w' = .ok v w'/\∃ v' x ρ' M',Ending.returned v = .returned x/\zRT ρ' v' x/\R v' M'/\ρ.le ρ'/\zF ρ' M' w'/\aU ρ M0 ρ' M' w w':=by
  intro hr
  obtain ⟨x,v,ρ2,M2,r1,r2,r3,r4,r5,r6⟩:=sV h2 h3 hr rfl
  refine ⟨h2.defers,x,r1,v,x,ρ2,M2,rfl,r2,r3,⟨fun k hk=>?_,r5.im⟩,r4,h4.trans r6⟩
  obtain ⟨e,he⟩:=hM.dom k hk
  exact r5 k (oH he)
 cases e with
 | normal=>exact fin h1
 | ret=>exact fin h1
 | _=>exact h1.elim
end Go.Sx
namespace Go.Sx
open Go Go.ChangeShapes Go.WideShapes Go.ChangeAt Go.RowKit
section
variable {H:Type} {enc:TypeId × Value->H} {P:Program} {w:World} {base:Nat} {sp:Nat->Bool} {held:Bool}
theorem aF4  (h:(Lit.int .u8 n).wf = true):∃ x:UInt8,Value.int .u8 n = w8 x:=by
 have:=bounds_u8 h
 refine ⟨UInt8.ofNat n.toNat,?_⟩
 unfold w8
 rw [UInt8.toNat_ofNat']
 congr 1
 omega
theorem qQ {α:Type} (f:α->Value):∀ (cs:List Value),(∀ (i:Nat),i < cs.length->∃ x:α,cs[i]? = some (f x))->∃ l:List α,cs = l.map f
 | [],_=>⟨[],rfl⟩
 | c :: r,h=>by
  obtain ⟨x,hx⟩:=h 0 (by simp)
  obtain ⟨l,hl⟩:=qQ f r (fun i hi=>by simpa using h (i + 1) (by simpa using hi))
  refine ⟨x :: l,?_⟩
  simp only [List.getElem?_cons_zero,zoI] at hx
  rw [hx,hl];rfl
theorem aGB {cs:List Value} {i:Nat} {v:Value} (h:(cs.drop i).take 1 = [v]):cs[i]? = some v:=by
 have e:((cs.drop i).take 1)[0]? = some v:=by rw [h];rfl
 simpa using e
theorem aBJ {t e n:Nat} {fuel:Nat} {cs:List Value} {x:DataW H × List MemPlace} (ht:P.underlying t = some (.array n e)) (he:P.underlying e = some (.int .u8)) (hc:P.cellsOf e = 1) (hct:P.cellsOf t = n)
  (h:DataW.trod enc P w base sp held fuel t cs = some x):∃ l:List UInt8,l.length = n/\cs = l.map w8:=by
 obtain ⟨xs,m,_,_,hl,hxs,hel⟩:=DataW.trod_array ht h
 rw [hct] at hl
 have hall:∀ i,i < cs.length->∃ x:UInt8,cs[i]? = some (w8 x):=by
  intro i hi
  have:=hel i (by omega)
  rw [hc,Nat.mul_one,List.getElem?_eq_getElem (by omega)] at this
  obtain ⟨k,hk,_,hw⟩:=DataW.trod_int he this
  obtain ⟨x,hx⟩:=aF4 hw
  exact ⟨x,by rw [<- hx];exact aGB hk⟩
 obtain ⟨l,hl'⟩:=qQ w8 cs hall
 exact ⟨l,by rw [<- hl,hl'];simp,hl'⟩
end
def aRQ (w:World):Nat->Nat->Nat->List (Nat × SV)->Prop
 | 0=>fun _ _ _=>False
 | k + 1=>fun b o ls=>(zL ls ≠ 0->b < w.heap.size)/\∃ cs,zC ⟨fun _=>False,fun _=>(0,0),aRQ w k⟩ ls cs/\∀ j v,cs[j]? = some v->w.cell? ⟨b,o + j,none⟩ = some v
def aH7 (w:World) (k:Nat):Env:=⟨fun _=>False,fun _=>(0,0),aRQ w k⟩
theorem tQ (w:World):∀ (k b o:Nat) (ls:List (Nat × SV)),aRQ w k b o ls->aRQ w (k + 1) b o ls
 | 0,_,_,_,h=>h.elim
 | k + 1,b,o,ls,⟨h1,cs,h2,h3⟩=>⟨h1,cs,zC.le (ρ:=aH7 w k) (ρ':=aH7 w (k + 1)) ⟨fun _ (h:False)=>h.elim,tQ w k⟩ h2,h3⟩
theorem aEL (w:World) (k:Nat):zF (aH7 w k) [] w where
 dom a h:=h.elim
 mod a e h:=by simp [zG] at h
 sat a e h:=by simp [zG] at h
 sep a b e e' h:=by simp [zG] at h
 imm b o ls h:=by
  cases k with
  | zero=>exact h.elim
  | succ k=>
   obtain ⟨h1,cs,h2,h3⟩:=h
   exact ⟨h1,cs,zC.le (ρ:=aH7 w k) (ρ':=(aH7 w (k + 1)).bare) ⟨fun _ (h:False)=>h.elim,tQ w k⟩ h2,h3⟩
 isep b o _ h:=by obtain ⟨a,e,h1,_⟩:=h;simp [zG] at h1
theorem aEK (w:World) (k b o:Nat):¬ dn (aH7 w k) [] b o:=by rintro ⟨a,e,h1,_⟩;simp [zG] at h1
section
variable {H:Type} {enc:TypeId × Value->H} {P:Program}
theorem pS {f:Func} {s:ChangeSpec} {apart fresh handsOn again:Bool} {W W':World} {args:Array Value} {v:Value} {ds gs:List (DataW H)} {before pa pv:List MemPlace}
  (hW:DataW.Whole enc P f.params.toList s.vars apart W args.toList ds gs before)
  (hres:∀ (b:Nat) (sp:Nat->Bool) (hd:Bool),DataW.TrodAll enc P W' b sp hd f.resultTypes.toList (v.resultList f.resultTypes.size) (s.fn H (ds ++ gs)).results [])
  (hargs:∀ sp:Nat->Bool,(∀ p ∈ before,sp p.block = true)->DataW.TrodAll enc P W' 0 sp true f.params.toList args.toList (s.fn H (ds ++ gs)).args pa)
  (hvars:∀ sp:Nat->Bool,(∀ p ∈ before,sp p.block = true)->DataW.TrodVars enc P W' sp s.vars (s.fn H (ds ++ gs)).vars pv)
  (hps:before = pa ++ pv) (hos:W'.os = W.os) (hout:W'.output = W.output) (hblk:∀ b,b < W.heap.size->W'.heap[b]? = W.heap[b]?)
  (hok:∀ (j:Nat) (t:TypeId) (r:Value),f.resultTypes[j]? = some t->(v.resultList f.resultTypes.size)[j]? = some r->Value.okWide P W' .any 0 t r) :
  s.post enc P f apart fresh handsOn again W args v W':=by
 have hlt:∀ p ∈ before,p.block < W.heap.size:=fun p hp=>hW.lt p hp
 have hold:∀ p ∈ before,(fun b=>decide (b < W.heap.size)) p.block = true:=fun p hp=>by simpa using hlt p hp
 have hkept:W.keptBut W' (· ∈ before):=by
  refine ⟨hos,hout,fun i hi=>?_⟩
  rw [hblk i hi]
  split <;> simp_all
 refine ⟨ds,gs,before,[],pa,pv,hW,hres _ _ _,hargs _ hold,hvars _ hold,World.keptBut_mono (fun p hp=>⟨hp,?_⟩) hkept,fun _=>?_⟩
 ·rw [hps,List.mem_append] at hp
  exact Or.inr hp
 ·obtain ⟨_,_,_,_,_,hz,hn⟩:=hW
  refine ⟨hok,_,_,([] ++ pa) ++ pv,⟨[] ++ pa,pv,trodAll_append (hargs _ (fun _ _=>rfl)) (hres _ _ _),hvars _ (fun _ _=>rfl),rfl,?_,?_⟩,?_⟩
  ·intro b off hp
   have hin:MemPlace.cell b off ∈ before:=by rw [hps];simpa using hp
   rw [World.frozen?_of_block (w:=W) (a:=⟨b,off,none⟩) (hblk b (hlt _ hin))]
   exact hz b off hin
  ·intro ha
   have:=hn ha
   rw [hps] at this
   simpa using this
  ·intro p hp _
   rw [hps]
   simpa using hp
end
theorem aDD {C:Checked} {f:FuncId} {fn:Func} {s:ChangeSpec} {apart fresh handsOn again:Bool} {H:Type} {enc:TypeId × Value->H} {ρ:Env} {M0:Mm} {svs:List SV} {R:SV->Mm->Prop} {tb:TypeId}
  {W:World} {args:Array Value} {ds gs:List (DataW H)} {before:List MemPlace}
  (hl:laidOutB C.prog = true) (hread:∀ t ∈ fn.params.toList,C.prog.readableRec t = true/\t < C.prog.types.size) (hvars:s.vars = [])
  (hspec:(s.fn H (ds ++ gs)) = { results:=[.lit (.bool true)],args:=ds }) (hrt:fn.resultTypes = #[tb]) (htb:C.prog.underlying tb = some .bool)
  (hM:zF ρ M0 W) (hown:∀ b o,¬ dn ρ M0 b o) (hargs:ma ρ svs args.toList) (hf:Sx.Fn C.prog f svs M0 R) (htt:∀ v M,R v M->v = .tt)
  (hW:DataW.Whole enc C.prog fn.params.toList s.vars apart W args.toList ds gs before) :
  Calls C.prog f args W fun e W'=>∃ v,e = .returned v/\s.post enc C.prog fn apart fresh handsOn again W args v W':=by
 have hc:=hf ρ args.toList W hM hargs
 simp only [Array.toArray_toList] at hc
 refine hc.mono ?_
 rintro e W' ⟨v,x,ρ',M',rfl,h2,h3,_,_,hst⟩
 have hv:=htt v M' h3
 subst hv
 have hx:x = .bool true:=h2
 subst hx
 have hblk:∀ b,b < W.heap.size->W'.heap[b]? = W.heap[b]?:=fun b hb=>hst.blk b hb (hown b)
 have hW0:=hW
 rw [hvars] at hW
 obtain ⟨p,q,hA,hV,rfl,hfz,hnd⟩:=hW
 obtain ⟨rfl,rfl⟩:=trodVars_none hV
 refine ⟨_,rfl,pS (pa:=p) (pv:=[]) hW0 ?_ ?_ ?_ rfl hst.os hst.output hblk ?_⟩
 ·intro b sp hd
  rw [hspec,hrt]
  exact trodAll_mk1 ⟨1,by simp [DataW.trod,Value.cells,htb]⟩
 ·intro sp hsp
  rw [hspec]
  have hlt:=hW0.lt
  have go:∀ {ts:List TypeId} {vs:List Value} {es:List (DataW H)} {ps:List MemPlace},(∀ t ∈ ts,C.prog.readableRec t = true/\t < C.prog.types.size)->(∀ x ∈ ps,x.block < W.heap.size)->(∀ x ∈ ps,sp x.block = true) ->
    DataW.TrodAll enc C.prog W 0 (fun _=>true) true ts vs es ps->DataW.TrodAll enc C.prog W' 0 sp true ts vs es ps:=by
   intro ts
   induction ts with
   | nil=>
    intro vs es ps _ _ _ h
    obtain ⟨rfl,rfl,rfl⟩:=trodAll_nil h
    exact trodAll_mk0
   | cons t ts ih=>
    intro vs es ps hr hlt hs h
    obtain ⟨v,vs1,d,ds1,a,b,rfl,rfl,rfl,h1,h2⟩:=trodAll_cons h
    refine ⟨a,b,WideElems.Trod_stays hl (hr t (by simp)).1 (hr t (by simp)).2 h1 (fun x hx=>?_) (fun x hx=>hs x (by simp [hx])),ih (fun t ht=>hr t (by simp [ht])) (fun x hx=>hlt x (by simp [hx])) (fun x hx=>hs x (by simp [hx])) h2,rfl⟩
    have hb:=hblk x.block (hlt x (by simp [hx]))
    cases x with
    | cell b o=>exact World.cell?_of_block (w:=W) hb
    | map b=>exact hb
  exact go hread (fun x hx=>hlt x (by simpa using hx)) (fun x hx=>hsp x (by simpa using hx)) hA
 ·intro sp hsp
  rw [hvars,hspec]
  rfl
 ·intro j t r h1 h2
  rw [hrt] at h1 h2
  have:=ok_one (P:=C.prog) (W':=W') (f:=fn) (v:=.bool true) (t:=tb) hrt rfl (okWide_bool_mk htb true) j t r (by rw [hrt];exact h1) (by rw [hrt];exact h2)
  exact this
end Go.Sx
namespace Go.Sx
open Go Go.ChangeShapes Go.WideShapes Go.ChangeAt Go.RowKit
def aNB (P:Program) (t:TypeId) (F:SV->Prop):Prop:=
 ∀ (H:Type) (enc:TypeId × Value->H) (w:World) (base:Nat) (v:Value) (d:DataW H) (ps:List MemPlace),
  Value.okWide P w .any base t v->DataW.Trod enc P w 0 (fun _=>true) true t v d ps->∃ s,F s/\Rel (aH7 w 8) s v
def yK (P:Program):List TypeId->List (SV->Prop)->Prop
 | [],[]=>True
 | t :: ts,F :: Fs=>aNB P t F/\yK P ts Fs
 | _,_=>False
def aR0:List (SV->Prop)->List SV->Prop
 | [],[]=>True
 | F :: Fs,s :: ss=>F s/\aR0 Fs ss
 | _,_=>False
theorem wn {P:Program} {H:Type} {enc:TypeId × Value->H} {w:World} {base:Nat}:∀ {ts:List TypeId} {Fs:List (SV->Prop)} {vs:List Value} {ds:List (DataW H)} {ps:List MemPlace},
  yK P ts Fs->(∀ (j:Nat) t v,ts[j]? = some t->vs[j]? = some v->Value.okWide P w .any base t v) ->
  DataW.TrodAll enc P w 0 (fun _=>true) true ts vs ds ps->∃ svs,aR0 Fs svs/\ma (aH7 w 8) svs vs/\ds.length = ts.length
 | [],[],vs,ds,ps,_,_,h=>by
  obtain ⟨rfl,rfl,rfl⟩:=trodAll_nil h
  exact ⟨[],trivial,rfl,rfl⟩
 | t :: ts,F :: Fs,vs,ds,ps,⟨h1,h2⟩,hv,h=>by
  obtain ⟨v,vs',d,ds',p,q,rfl,rfl,rfl,h3,h4⟩:=trodAll_cons h
  obtain ⟨s,hs,hr⟩:=h1 H enc w base v d p (hv 0 t v rfl rfl) h3
  obtain ⟨ss,hss,hrs,hd⟩:=wn h2 (fun j t v h5 h6=>hv (j + 1) t v (by simpa using h5) (by simpa using h6)) h4
  exact ⟨s :: ss,⟨hs,hss⟩,⟨v,vs',rfl,hr,hrs⟩,by simp [hd]⟩
 | [],_ :: _,_,_,_,h,_,_=>h.elim
 | _ :: _,[],_,_,_,h,_,_=>h.elim
def oM (n:Nat) (s:SV):Prop:=∃ l:List UInt8,l.length = n/\s = .a8 l
def aDR (s:SV):Prop:=∃ b:Bool,s = .bool (b = true)
section
variable {P:Program}
theorem kV  (ht:P.underlying t = some (.array n e)) (he:P.underlying e = some (.int .u8)) (hc:P.cellsOf e = 1) (hct:P.cellsOf t = n):aNB P t (oM n):=by
 intro H enc w base v d ps hv h
 unfold Value.okWide at hv
 rw [ht] at hv
 obtain ⟨cs,rfl,_⟩:=hv
 obtain ⟨fuel,h⟩:=h
 obtain ⟨l,hl,hcs⟩:=aBJ ht he hc hct h
 refine ⟨.a8 l,⟨l,hl,rfl⟩,?_⟩
 show Value.agg cs = .agg (l.map w8).toArray
 congr 1
 apply Array.ext'
 simpa [Value.cells] using hcs
theorem yT  (ht:P.underlying t = some .bool):aNB P t aDR:=by
 intro H enc w base v d ps hv h
 obtain ⟨b,rfl,_⟩:=open_bool ht hv h
 exact ⟨_,⟨b,rfl⟩,b,rfl,Iff.rfl⟩
end
theorem aL6 {C:Checked} {f:FuncId} {fn:Func} {s:ChangeSpec} {apart fresh handsOn again:Bool} {H:Type} {enc:TypeId × Value->H} {tb:TypeId} {Fs:List (SV->Prop)} {ts:List TypeId}
  {W:World} {base:Nat} {args:Array Value} {ds gs:List (DataW H)} {before:List MemPlace}
  (hl:laidOutB C.prog = true) (hps:fn.params.toList = ts) (hread:(ts.all fun t=>C.prog.readableRec t && decide (t < C.prog.types.size)) = true) (hvars:s.vars = []) (hT:yK C.prog ts Fs)
  (hspec:∀ ds:List (DataW H),ds.length = ts.length->s.fn H ds = { results:=[.lit (.bool true)],args:=ds }) (hrt:fn.resultTypes = #[tb]) (htb:C.prog.underlying tb = some .bool)
  (hf:∀ svs,aR0 Fs svs->Sx.Fn C.prog f svs [] (fun v _=>v = .tt))
  (hval:∀ (j:Nat) t v,fn.params[j]? = some t->args[j]? = some v->Value.okWide C.prog W .any base t v)
  (hW:DataW.Whole enc C.prog fn.params.toList s.vars apart W args.toList ds gs before) :
  Calls C.prog f args W fun e W'=>∃ v,e = .returned v/\s.post enc C.prog fn apart fresh handsOn again W args v W':=by
 have hW0:=hW
 rw [hvars] at hW0
 obtain ⟨p,q,hA,hV,rfl,hfz,hnd⟩:=hW0
 obtain ⟨rfl,rfl⟩:=trodVars_none hV
 rw [hps] at hA
 obtain ⟨svs,hF,hR,hd⟩:=wn hT (fun j t v h1 h2=>hval j t v (by rw [<- Array.getElem?_toList,hps];exact h1) (by rw [<- Array.getElem?_toList];exact h2)) hA
 refine aDD (ρ:=aH7 W 8) (M0:=[]) (R:=fun v _=>v = .tt) hl (by rw [hps];exact fun t ht=>by have:=List.all_eq_true.1 hread t ht;simpa using this) hvars ?_ hrt htb (aEL W 8) (aEK W 8) hR (hf svs hF) (fun _ _ h=>h) hW
 have:=hspec (ds ++ []) (by simpa using hd)
 simpa using this
end Go.Sx
namespace Go.Sx
open Go Go.ChangeShapes Go.WideShapes Go.ChangeAt Go.RowKit
section
variable {P:Program}
end
end Go.Sx
namespace Go.Sx
open Go Go.ChangeShapes Go.WideShapes Go.ChangeAt Go.RowKit
section
variable {P:Program}
end
end Go.Sx
namespace Go.Sx
open Go Go.ChangeShapes Go.WideShapes Go.ChangeAt Go.RowKit
section
variable {P:Program}
end
end Go.Sx
