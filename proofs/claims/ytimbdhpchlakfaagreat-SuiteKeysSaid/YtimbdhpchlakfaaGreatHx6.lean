/- Executor, part 6. No condition. -/
import Derived.Test.YtimbdhpchlakfaaGreatHx5
set_option linter.unusedSimpArgs false
set_option linter.unusedVariables false
set_option autoImplicit true
set_option relaxedAutoImplicit true
open List (mem_cons_of_mem append_nil)
open Nat (beq le_refl blt)
open Array (getD_eq_getD_getElem?)
open Bool (not_eq_true' or_eq_true)
namespace Go.Sx
open Go
inductive Gh where
 | own (nm:Nat) (l0:List (Nat × SV))
 | leaf (a k nm:Nat)
 | keep (a:Nat)
 | ice (a k:Nat)
 | mark (a:Nat)
def pU (nm:Nat):Nat->List (Nat × SV)->Option (List (Nat × SV))
 | _,[]=>none
 | 0,(s,v) :: r=>match v with
  | .nsl=>some ((s,.sl nm 0 0 0 0) :: r)
  | _=>none
 | k + 1,x :: r=>match pU nm k r with
  | some q=>some (x :: q)
  | none=>none
def aNQ (M:Mm) (a f i n:Nat):Option SV:=
 match zG M a with
 | some (.mem false (_ + 1) ls)=>(match aLZ ls f (i + n) with
  | some l0=>de i n l0
  | none=>match f with
   | 0=>de i n ls
   | _=>none)
 | _=>none
def aPP (M:Mm) (v:SV):Option SV:=
 match v with
 | .ptr a f i=>match zG M a with
  | some (.mem false (_ + 1) ls)=>some (.iep f (i.getD 0) 1 ls)
  | _=>none
 | .sl a f i n _=>aNQ M a f i n
 | .slx a f i n=>aNQ M a f i n
 | _=>none
def tR (M:Mm) (ls:List (Nat × SV)):List (Nat × SV):=
 match ls with
 | []=>[]
 | (s,v) :: r=>match aPP M v with
  | some v'=>(s,v') :: tR M r
  | none=>(s,v) :: tR M r
def aTG (M:Mm) (v:SV):Option SV:=
 match v with
 | .agg ls=>some (.agg (tR M ls))
 | v=>aPP M v
theorem xc  (h:aNQ M a f i n = some v'):∃ q s l2,v' = .isl q n s l2:=by
 have key:∀ {ls:List (Nat × SV)},de i n ls = some v'->∃ q s l2,v' = .isl q n s l2:=by
  intro ls hk
  unfold de at hk
  split at hk
  ·simp only [zoI] at hk;subst hk;exact ⟨_,_,_,rfl⟩
  ·split at hk
   ·simp only [zoI] at hk;subst hk;exact ⟨_,_,_,rfl⟩
   ·cases hk
 unfold aNQ at h
 split at h
 ·split at h
  ·exact key h
  ·split at h
   ·exact key h
   ·cases h
 ·cases h
theorem qW  (hM:zF ρ M w)  (h:aNQ M a f i n = some v'):
  ∃ ρ',ρ.le ρ'/\zF ρ' M w/\aU ρ M ρ' M w w/\∀ c y,n <= c->(c ≠ 0->y = some (ρ.addr a f i))->cR ρ' v' (.slice y n c):=by
 unfold aNQ at h
 split at h
 ·rename_i sp ls ha
  obtain ⟨cs,_,c2,_,_⟩:=hM.sat a _ ha
  have hi:=c2.2 rfl (Nat.succ_ne_zero _)
  split at h
  ·rename_i l0 hm
   obtain ⟨r,m1,m2⟩:=iD hm
   obtain ⟨ρ2,p1,p2,p3,p4,p5⟩:=hM.part hi m1 m2
   exact ⟨ρ2,p1,p2,p3,fun c y hnc hy=>bT h p4 hnc fun hc=>by rw [hy hc,aN,Nat.add_assoc]⟩
  ·split at h
   ·exact ⟨ρ,Env.le_refl _,hM,aU.refl _ _ _,fun c y hnc hy=>bT h hi hnc fun hc=>by rw [hy hc,aN,Nat.zero_add]⟩
   ·cases h
 ·cases h
theorem lD  (hM:zF ρ M w)  (h:aPP M v = some v'):
  ∃ ρ',ρ.le ρ'/\zF ρ' M w/\aU ρ M ρ' M w w/\(∀ x,zRT ρ v x->zRT ρ' v' x)/\∀ c,zD ρ v c->zD ρ' v' c:=by
 unfold aPP at h
 split at h
 ·rename_i a f i
  split at h
  ·rename_i sp ls ha
   simp only [zoI] at h;subst h
   obtain ⟨cs,_,c2,_,_⟩:=hM.sat a _ ha
   have key:∀ x,cR ρ (.ptr a f i) x->cR ρ (.iep f (i.getD 0) 1 ls) x:=by
    rintro x ⟨_,rfl⟩
    refine ⟨_,_,?_,c2.2 rfl (Nat.succ_ne_zero _)⟩
    rw [aN,Nat.mul_one]
   exact ⟨ρ,Env.le_refl _,hM,aU.refl _ _ _,fun x hx=>key x hx,fun c ⟨x,hx,e⟩=>⟨x,key x hx,e⟩⟩
  ·cases h
 ·rename_i a f i n c0
  obtain ⟨ρ',k1,k2,k3,k4⟩:=qW hM h
  obtain ⟨q,s,l2,rfl⟩:=xc h
  have key:∀ x,cR ρ (.sl a f i n c0) x->cR ρ' (.isl q n s l2) x:=by
   rintro x ⟨_,hnc,y,rfl,hy⟩
   exact k4 _ _ hnc hy
  exact ⟨ρ',k1,k2,k3,fun x hx=>key x hx,fun c ⟨x,hx,e⟩=>⟨x,key x hx,e⟩⟩
 ·rename_i a f i n
  obtain ⟨ρ',k1,k2,k3,k4⟩:=qW hM h
  obtain ⟨q,s,l2,rfl⟩:=xc h
  have key:∀ x,cR ρ (.slx a f i n) x->cR ρ' (.isl q n s l2) x:=by
   rintro x ⟨_,c,y,hnc,rfl,hy⟩
   exact k4 _ _ hnc hy
  exact ⟨ρ',k1,k2,k3,fun x hx=>key x hx,fun c ⟨x,hx,e⟩=>⟨x,key x hx,e⟩⟩
 ·cases h
theorem iJ:∀ {ls:List (Nat × SV)} {ρ:Env},zF ρ M w->∃ ρ',ρ.le ρ'/\zF ρ' M w/\aU ρ M ρ' M w w/\∀ cs,zC ρ ls cs->zC ρ' (tR M ls) cs
 | [],ρ,hM=>⟨ρ,Env.le_refl _,hM,aU.refl _ _ _,fun cs h=>h⟩
 | (s,v) :: r,ρ,hM=>by
  simp only [tR]
  split
  ·rename_i v' hv
   obtain ⟨ρ1,k1,k2,k3,_,k5⟩:=lD hM hv
   obtain ⟨ρ2,l1,l2,l3,l4⟩:=iJ (ls:=r) k2
   exact ⟨ρ2,Env.le_trans k1 l1,l2,k3.trans l3,fun cs ⟨c1,c2,e,hl,h1,h2⟩=>⟨c1,c2,e,hl,(k5 _ h1).le l1,l4 _ (h2.le k1)⟩⟩
  ·obtain ⟨ρ2,l1,l2,l3,l4⟩:=iJ (ls:=r) hM
   exact ⟨ρ2,l1,l2,l3,fun cs ⟨c1,c2,e,hl,h1,h2⟩=>⟨c1,c2,e,hl,h1.le l1,l4 _ h2⟩⟩
theorem zY  (hM:zF ρ M w)  (h:aTG M v = some v'):
  ∃ ρ',ρ.le ρ'/\zF ρ' M w/\aU ρ M ρ' M w w/\∀ x,zRT ρ v x->zRT ρ' v' x:=by
 unfold aTG at h
 split at h
 ·rename_i ls
  simp only [zoI] at h;subst h
  obtain ⟨ρ2,l1,l2,l3,l4⟩:=iJ (ls:=ls) hM
  exact ⟨ρ2,l1,l2,l3,fun x ⟨cs,hc,e⟩=>⟨cs,l4 _ hc,e⟩⟩
 ·obtain ⟨ρ',k1,k2,k3,k4,_⟩:=lD hM h
  exact ⟨ρ',k1,k2,k3,k4⟩
def pW (M:Mm):Nat->List (Nat × SV)->Option (List (Nat × SV))
 | _,[]=>none
 | 0,(s,v) :: r=>match aPP M v with
  | some v'=>some ((s,v') :: r)
  | none=>none
 | k + 1,x :: r=>match pW M k r with
  | some q=>some (x :: q)
  | none=>none
theorem oQ  (hM:zF ρ M w):∀ {k:Nat} {ls ls':List (Nat × SV)},pW M k ls = some ls' ->
  ∃ ρ',ρ.le ρ'/\zF ρ' M w/\aU ρ M ρ' M w w/\∀ cs,zC ρ ls cs->zC ρ' ls' cs
 | _,[],_,h=>by simp [pW] at h
 | 0,(s,v) :: r,ls',h=>by
  simp only [pW] at h
  split at h
  ·rename_i v' hv
   simp only [zoI] at h;subst h
   obtain ⟨ρ1,k1,k2,k3,_,k5⟩:=lD hM hv
   exact ⟨ρ1,k1,k2,k3,fun cs ⟨c1,c2,e,hl,h1,h2⟩=>⟨c1,c2,e,hl,k5 _ h1,h2.le k1⟩⟩
  ·cases h
 | k + 1,(s,v) :: r,ls',h=>by
  simp only [pW] at h
  split at h
  ·rename_i q hq
   simp only [zoI] at h;subst h
   obtain ⟨ρ1,k1,k2,k3,k5⟩:=oQ hM hq
   exact ⟨ρ1,k1,k2,k3,fun cs ⟨c1,c2,e,hl,h1,h2⟩=>⟨c1,c2,e,hl,h1.le k1,k5 _ h2⟩⟩
  ·cases h
theorem qX:∀ {k:Nat} {ls ls':List (Nat × SV)},pW M k ls = some ls'->zL ls' = zL ls
 | _,[],_,h=>by simp [pW] at h
 | 0,(s,v) :: r,ls',h=>by
  simp only [pW] at h
  split at h
  ·simp only [zoI] at h;subst h;rfl
  ·cases h
 | k + 1,(s,v) :: r,ls',h=>by
  simp only [pW] at h
  split at h
  ·rename_i q hq
   simp only [zoI] at h;subst h
   simp only [zL,qX hq]
  ·cases h
def dz (gs:List Gh) (M:Mm):Option (List Prop × Mm):=
 match gs with
 | []=>some ([],M)
 | .own nm l0 :: r=>match zG M nm with
  | some _=>none
  | none=>match dz r ((nm,.mem true 0 l0) :: M) with
   | some (ps,M')=>some (aF0 l0 :: ps,M')
   | none=>none
 | .leaf a k nm :: r=>match zG M nm with
  | none=>none
  | some _=>match zG M a with
   | some (.mem true sp ls)=>match pU nm k ls with
    | some ls'=>dz r ((a,.mem true sp ls') :: M)
    | none=>none
   | _=>none
 | .keep a :: r=>match zG M a with
  | some (.mem true _ ls)=>bif pA ls then dz r ((a,.mem false 1 ls) :: M) else none
  | _=>none
 | .ice a k :: r=>match zG M a with
  | some (.mem true sp ls)=>match pW M k ls with
   | some ls'=>dz r ((a,.mem true sp ls') :: M)
   | none=>none
  | _=>none
 | .mark a :: r=>match zG M a with
  | some (.mem true sp ls)=>dz r ((a,.mem true sp (ls ++ [(0,.a8 [])])) :: M)
  | _=>none
def aG2 (sl:List (Nat × Nat)) (T:Tm) (M:Mm):Option Tm:=
 match sl with
 | []=>some T
 | (d,nm) :: r=>match nm with
  | 0=>match aTG M (zX T d) with
   | some v=>match aG2 r T M with
    | some T'=>some ((d,v) :: T')
    | none=>none
   | none=>none
  | nm=>match zG M nm with
   | none=>none
   | some _=>match zX T d with
    | .nsl=>match aG2 r T M with
     | some T'=>some ((d,.sl nm 0 0 0 0) :: T')
     | none=>none
    | _=>none
theorem nv  (hd:ρ.dom nm):∀ {k:Nat} {ls ls':List (Nat × SV)} {cs:List Value},pU nm k ls = some ls'->zC ρ ls cs->zC ρ ls' cs
 | _,[],_,_,h,_=>by simp [pU] at h
 | 0,(s,v) :: r,ls',cs,h,hc=>by
  simp only [pU] at h
  split at h
  ·simp only [zoI] at h;subst h
   obtain ⟨c1,c2,e,hl,⟨x,hx,e1⟩,h2⟩:=hc
   exact ⟨c1,c2,e,hl,⟨x,⟨hd,le_refl _,none,hx,fun hc=>absurd rfl hc⟩,e1⟩,h2⟩
  ·cases h
 | k + 1,(s,v) :: r,ls',cs,h,hc=>by
  simp only [pU] at h
  split at h
  ·rename_i q hq
   simp only [zoI] at h;subst h
   obtain ⟨c1,c2,e,hl,h1,h2⟩:=hc
   exact ⟨c1,c2,e,hl,h1,nv hd hq h2⟩
  ·cases h
theorem qN:∀ {k:Nat} {ls ls':List (Nat × SV)},pU nm k ls = some ls'->zL ls' = zL ls
 | _,[],_,h=>by simp [pU] at h
 | 0,(s,v) :: r,ls',h=>by
  simp only [pU] at h
  split at h
  ·simp only [zoI] at h;subst h;rfl
  ·cases h
 | k + 1,(s,v) :: r,ls',h=>by
  simp only [pU] at h
  split at h
  ·rename_i q hq
   simp only [zoI] at h;subst h
   simp only [zL,qN hq]
  ·cases h
theorem ba:∀ {gs:List Gh} {M:Mm} {ps:List Prop} {M':Mm},dz gs M = some (ps,M')->All ps->∀ {ρ:Env},zF ρ M w->∃ ρ',ρ.le ρ'/\zF ρ' M' w/\aU ρ M ρ' M' w w
 | [],M,ps,M',h,_,ρ,hM=>by
  simp only [dz,zoI,zpI] at h
  obtain ⟨_,rfl⟩:=h
  exact ⟨ρ,Env.le_refl _,hM,aU.refl _ _ _⟩
 | .own nm l0 :: r,M,ps,M',h,hp,ρ,hM=>by
  simp only [dz] at h
  split at h
  ·cases h
  ·rename_i hn
   split at h
   ·rename_i qs M1 hr
    simp only [zoI,zpI] at h;obtain ⟨rfl,rfl⟩:=h
    have hnil:=hp.head
    have hz:=j6 hnil
    obtain ⟨k1,k2,k3⟩:=hM.claim (b:=0) (o:=0) (sp:=0) hn (ki ρ hnil) (fun j v hj=>by simp at hj) (fun p h1 h2=>by rw [hz] at h2;omega) (fun j hj=>by rw [hz] at hj;omega)
    have hst:aU ρ M (ρ.add nm (0,0)) ((nm,.mem true 0 l0) :: M) w w:=by
     refine ⟨le_refl _,rfl,rfl,fun _ _ _=>rfl,fun _ _ _ _=>⟨rfl,rfl⟩,fun k p _ ho=>?_,fun _ _ _ h=>Or.inl h⟩
     rcases k3 k p ho with h | ⟨_,h1,h2⟩
     ·exact h
     ·rw [hz] at h2;omega
    obtain ⟨ρ',l1,l2,l3⟩:=ba hr hp.tail k2
    exact ⟨ρ',Env.le_trans k1 l1,l2,hst.trans l3⟩
   ·cases h
 | .keep a :: r,M,ps,M',h,hp,ρ,hM=>by
  simp only [dz] at h
  split at h
  ·rename_i sp ls ha
   have hb:=(zn h).1
   replace h:=(zn h).2
   obtain ⟨k1,k2⟩:=hM.keep ha hb
   obtain ⟨ρ',l1,l2,l3⟩:=ba h hp k1
   exact ⟨ρ',Env.le_trans (Env.le_addI _ _ _ _) l1,l2,k2.trans l3⟩
  ·cases h
 | .ice a k :: r,M,ps,M',h,hp,ρ,hM=>by
  simp only [dz] at h
  split at h
  ·rename_i sp ls ha
   split at h
   ·rename_i ls' hl
    obtain ⟨cs,c1,_,c3,_⟩:=hM.sat a _ ha
    obtain ⟨ρ1,i1,i2,i3,i4⟩:=oQ hM hl
    obtain ⟨k1,k2⟩:=i2.tell ha (qX hl) (i4 _ c1) (fun j v hj=>by rw [(i1.dm a (hM.mod a _ ha)).2];exact c3 j v hj)
    obtain ⟨ρ',l1,l2,l3⟩:=ba h hp k1
    exact ⟨ρ',Env.le_trans i1 l1,l2,i3.trans (k2.trans l3)⟩
   ·cases h
  ·cases h
 | .leaf a k nm :: r,M,ps,M',h,hp,ρ,hM=>by
  simp only [dz] at h
  split at h
  ·cases h
  ·rename_i e hn
   split at h
   ·rename_i sp ls ha
    split at h
    ·rename_i ls' hl
     obtain ⟨cs,c1,_,c3,_⟩:=hM.sat a _ ha
     obtain ⟨k1,k2⟩:=hM.tell ha (qN hl) (nv (hM.mod nm e hn) hl c1) c3
     obtain ⟨ρ',l1,l2,l3⟩:=ba h hp k1
     exact ⟨ρ',l1,l2,k2.trans l3⟩
    ·cases h
   ·cases h
 | .mark a :: r,M,ps,M',h,hp,ρ,hM=>by
  simp only [dz] at h
  split at h
  ·rename_i sp ls ha
   obtain ⟨cs,c1,_,c3,_⟩:=hM.sat a _ ha
   have hcl:zC ρ (ls ++ [(0,.a8 [])]) (cs ++ []):=eS c1 ⟨[],[],rfl,rfl,rfl,rfl⟩
   have hsz:zL (ls ++ [(0,SV.a8 [])]) = zL ls:=by rw [<- hcl.length,<- c1.length,append_nil]
   rw [append_nil] at hcl
   obtain ⟨k1,k2⟩:=hM.tell ha hsz hcl c3
   obtain ⟨ρ',l1,l2,l3⟩:=ba h hp k1
   exact ⟨ρ',l1,l2,k2.trans l3⟩
  ·cases h
theorem iY:∀ {sl:List (Nat × Nat)} {T T':Tm},aG2 sl T M = some T'->∀ {ρ:Env},bH N ρ T M a w->∃ ρ',ρ.le ρ'/\bH N ρ' T' M a w/\aU ρ M ρ' M w w
 | [],T,T',h,ρ,hc=>by
  simp only [aG2,zoI] at h;subst h;exact ⟨ρ,Env.le_refl _,hc,aU.refl _ _ _⟩
 | (d,nm) :: r,T,T',h,ρ,hc=>by
  have put:∀ {ρ:Env} {v:SV} {T1:Tm},zRT ρ v (a.tmps.getD d undef)->bH N ρ T1 M a w->bH N ρ ((d,v) :: T1) M a w:=by
   intro ρ v T1 hv h1
   refine ⟨h1.tozF,h1.sz,h1.defers,fun s=>?_⟩
   by_cases hs:s = d
   ·subst hs
    rw [af]
    exact hv
   ·rw [bK hs];exact h1.tm s
  simp only [aG2] at h
  split at h
  ·split at h
   ·rename_i v hv
    split at h
    ·rename_i T1 hr
     simp only [zoI] at h;subst h
     obtain ⟨ρ1,k1,k2,k3⟩:=iY hr hc
     obtain ⟨ρ2,l1,l2,l3,l4⟩:=zY k2.tozF hv
     exact ⟨ρ2,Env.le_trans k1 l1,put (l4 _ ((hc.tm d).le k1)) (k2.of_mem l1 l2),k3.trans l3⟩
    ·cases h
   ·cases h
  ·split at h
   ·cases h
   ·rename_i e hn
    split at h
    ·rename_i hd
     split at h
     ·rename_i T1 hr
      simp only [zoI] at h;subst h
      obtain ⟨ρ1,k1,k2,k3⟩:=iY hr hc
      have ht:=(hc.tm d).le k1
      rw [hd] at ht
      exact ⟨ρ1,k1,put (zR ⟨k2.tozF.mod _ e hn,le_refl _,none,ht,fun hc=>absurd rfl hc⟩) k2,k3⟩
     ·cases h
    ·cases h
def Env.lim (ρ:Env) (M:Mm):Env:=⟨fun a=>ρ.dom a/\(zG M a).isSome = true,ρ.pos,ρ.imm⟩
theorem Env.lim_le (ρ:Env) (M:Mm):(ρ.lim M).le ρ:=⟨fun _ h=>⟨h.1,rfl⟩,fun _ _ _ h=>h⟩
theorem aR:∀ (E M:Mm) (a:Nat),zG (E ++ M) a = match zG E a with
  | some e=>some e
  | none=>zG M a
 | [],M,a=>rfl
 | (k,e) :: r,M,a=>by
  by_cases h:a = k
  ·subst h;rw [List.cons_append,zh,zh]
  ·rw [List.cons_append,zg h,zg h];exact aR r M a
theorem zan  (h:zG E a = some e):zG (E ++ M) a = some e:=by rw [aR,h]
theorem zao  (h:zG E a = none):zG (E ++ M) a = zG M a:=by rw [aR,h]
theorem kP.lim  (h:kP (ρ.lim M) w pos e):kP ρ w pos e:=
 kP.of_same (Env.lim_le ρ M) (le_refl _) (fun _ _ _=>⟨rfl,rfl⟩) (fun _ _ _=>rfl) h
theorem cR.both  (hd:∀ a,ρ'.dom a->(zG M a).isSome = true)  (r:cR ρ v x) (r':cR ρ' v x'):cR (ρ.lim M) v x:=by
 cases v <;> simp only [cR] at r r' ⊢ <;> try exact r
 case ptr a f i=>exact ⟨⟨r.1,hd _ r'.1⟩,r.2⟩
 case sl a f i n c=>exact ⟨⟨r.1,hd _ r'.1⟩,r.2⟩
 case slx a f i n=>exact ⟨⟨r.1,hd _ r'.1⟩,r.2⟩
 case fn f cap=>exact ⟨fun p hp=>⟨r.1 p hp,hd _ (r'.1 p hp)⟩,r.2⟩
 case mp a=>exact ⟨⟨r.1,hd _ r'.1⟩,r.2⟩
 case ep a f q s=>exact ⟨⟨r.1,hd _ r'.1⟩,r.2⟩
theorem zD.both  (hd:∀ a,ρ'.dom a->(zG M a).isSome = true)  (r:zD ρ v cs) (r':zD ρ' v cs'):zD (ρ.lim M) v cs:=by
 cases v <;> simp only [zD] at r r' ⊢ <;> first | exact r | (obtain ⟨x,hx,rfl⟩:=r;obtain ⟨x',hx',_⟩:=r';exact ⟨x,hx.both hd hx',rfl⟩) | exact ⟨r.1,fun q hq=>r.2 q hq⟩
theorem zC.both  (hd:∀ a,ρ'.dom a->(zG M a).isSome = true):∀ {ls:List (Nat × SV)} {cs cs':List Value},zC ρ ls cs->zC ρ' ls cs'->zC (ρ.lim M) ls cs
 | [],_,_,r,_=>r
 | (_,_) :: _,_,_,⟨c1,c2,e,hl,h1,h2⟩,⟨_,_,_,_,k1,k2⟩=>⟨c1,c2,e,hl,h1.both hd k1,zC.both hd h2 k2⟩
theorem Rel.both  (hd:∀ a,ρ'.dom a->(zG M a).isSome = true)  (r:Rel ρ v x) (r':Rel ρ' v x'):Rel (ρ.lim M) v x:=by
 cases v <;> simp only [Rel] at r r' ⊢ <;> first | exact r | exact cR.both hd r r' | (obtain ⟨cs,hc,e⟩:=r;obtain ⟨cs',hc',_⟩:=r';exact ⟨cs,hc.both hd hc',e⟩)
theorem ma.both  (hd:∀ a,ρ'.dom a->(zG M a).isSome = true):∀ {vs:List SV} {xs xs':List Value},ma ρ vs xs->ma ρ' vs xs'->ma (ρ.lim M) vs xs
 | [],_,_,r,_=>r
 | _ :: _,_,_,⟨x,ys,e,h1,h2⟩,⟨_,_,_,k1,k2⟩=>⟨x,ys,e,h1.both hd k1,ma.both hd h2 k2⟩
theorem zRT.both  (hd:∀ a,ρ'.dom a->(zG M a).isSome = true)  (r:zRT ρ v x) (r':zRT ρ' v x'):zRT (ρ.lim M) v x:=by
 cases v <;> simp only [zRT] at r r' ⊢ <;> first | exact Rel.both hd r r' | (obtain ⟨xs,hx,e⟩:=r;obtain ⟨xs',hx',_⟩:=r';exact ⟨xs,hx.both hd hx',e⟩)
def mE (M:Mm) (v:SV):Prop:=∃ (ρ:Env) (x:Value),(∀ a,ρ.dom a->(zG M a).isSome = true)/\zRT ρ v x
def kO (M:Mm) (e:Ent):Prop:=∃ (ρ:Env) (w:World) (pos:Nat × Nat),(∀ a,ρ.dom a->(zG M a).isSome = true)/\kP ρ w pos e
theorem mE.rel  (h:mE M v)  (r:zRT ρ v x):zRT (ρ.lim M) v x:=by
 obtain ⟨ρ',x',hd,r'⟩:=h
 exact r.both hd r'
theorem kO.sat  (h:kO M e)  (r:kP ρ w pos e):kP (ρ.lim M) w pos e:=by
 obtain ⟨ρ',w',pos',hd,r'⟩:=h
 cases e with
 | dead=>trivial
 | mem own sp ls=>
  obtain ⟨cs,h1,h2,h3,h4⟩:=r
  obtain ⟨cs',k1,_⟩:=r'
  exact ⟨cs,h1.both hd k1,h2,h3,h4⟩
 | map m=>exact r
theorem mE.mono  (h:∀ a e,zG M a = some e->∃ e',zG M' a = some e')  (t:mE M v):mE M' v:=by
 obtain ⟨ρ',x',hd,r'⟩:=t
 refine ⟨ρ',x',fun a ha=>?_,r'⟩
 obtain ⟨e,he⟩:=Option.isSome_iff_exists.1 (hd a ha)
 obtain ⟨e',he'⟩:=h a e he
 rw [he'];rfl
theorem kO.mono  (h:∀ a e,zG M a = some e->∃ e',zG M' a = some e')  (t:kO M v):kO M' v:=by
 obtain ⟨ρ',w',x',hd,r'⟩:=t
 refine ⟨ρ',w',x',fun a ha=>?_,r'⟩
 obtain ⟨e,he⟩:=Option.isSome_iff_exists.1 (hd a ha)
 obtain ⟨e',he'⟩:=h a e he
 rw [he'];rfl
theorem zF.told  (h:zF ρ M w)  (he:zG M a = some e):kO M e:=
 ⟨ρ,w,_,fun b hb=>Option.isSome_iff_exists.2 (h.dom b hb),h.sat a e he⟩
theorem zF.toldT  (h:zF ρ M w)  (r:zRT ρ v x):mE M v:=
 ⟨ρ,x,fun b hb=>Option.isSome_iff_exists.2 (h.dom b hb),r⟩
structure Sub (Mi M:Mm):Prop where
 sub:∀ a e,zG Mi a = some e->zG M a = some e
 told:∀ a e,zG Mi a = some e->kO Mi e
theorem Sub.conc  (hs:Sub Mi M) (h:zF ρ M w):zF (ρ.lim Mi) Mi w where
 dom a ha:=Option.isSome_iff_exists.1 ha.2
 mod a e he:=⟨h.mod a e (hs.sub a e he),by rw [he];rfl⟩
 sat a e he:=(hs.told a e he).sat (h.sat a e (hs.sub a e he))
 sep a b e e' ha hb:=h.sep a b e e' (hs.sub a e ha) (hs.sub b e' hb)
 imm:=h.imm
 isep b o hi ho:=h.isep b o hi (by obtain ⟨a,e,h1,h2⟩:=ho;exact ⟨a,e,hs.sub a e h1,h2⟩)
theorem zF.frame  (h:zF ρ M w) (hs:Sub Mi M) (hle:(ρ.lim Mi).le ρ') (h':zF ρ' (E ++ Mi) w') (hst:aU (ρ.lim Mi) Mi ρ' (E ++ Mi) w w')
  (hE:∀ a e,zG E a = some e->(zG M a = none/\e.loose = true) \/ (e.loose = true/\∃ e0,zG Mi a = some e0)):
  ∃ ρ'',ρ.le ρ''/\ρ'.le ρ''/\zF ρ'' (E ++ M) w'/\aU ρ M ρ'' (E ++ M) w w':=by
 have hMi:∀ {a e},zG Mi a = some e->zG M a = some e:=fun {a e} he=>hs.sub a e he
 have hEi:∀ {a e},zG Mi a = some e->zG E a = none->zG (E ++ Mi) a = some e:=fun {a e} he hn=>by
  rw [zao hn];exact he
 have posi:∀ {a e},zG Mi a = some e->ρ'.pos a = ρ.pos a:=fun {a e} he=>(hle a ⟨h.mod a e (hMi he),by rw [he];rfl⟩).2
 have both:∀ {a},ρ.dom a->ρ'.dom a->ρ'.pos a = ρ.pos a:=by
  intro a h1 h2
  obtain ⟨e,he⟩:=h'.dom a h2
  obtain ⟨e0,he0⟩:=h.dom a h1
  cases hx:zG E a with
  | none=>
   rw [zao hx] at he
   exact posi he
  | some e'=>
   rcases hE a e' hx with h3 | ⟨_,e1,h3⟩
   ·rw [h3.1] at he0;cases he0
   ·exact posi h3
 classical
 let ρ2:Env:=⟨fun a=>ρ.dom a \/ ρ'.dom a,fun a=>if ρ.dom a then ρ.pos a else ρ'.pos a,ρ'.imm⟩
 have p1:∀ {a},ρ.dom a->ρ2.pos a = ρ.pos a:=fun {a} ha=>by simp only [ρ2];rw [if_pos ha]
 have p2:∀ {a},ρ'.dom a->ρ2.pos a = ρ'.pos a:=fun {a} ha=>by
  by_cases hd:ρ.dom a
  ·rw [p1 hd,both hd ha]
  ·simp only [ρ2];rw [if_neg hd]
 have l1:ρ.le ρ2:=⟨fun a ha=>⟨Or.inl ha,p1 ha⟩,hle.im⟩
 have l2:ρ'.le ρ2:=⟨fun a ha=>⟨Or.inr ha,p2 ha⟩,fun _ _ _ h=>h⟩
 have ownI:∀ {b o},dn (ρ.lim Mi) Mi b o->dn ρ M b o:=by
  rintro b o ⟨a,e,h1,h2,h3⟩
  exact ⟨a,e,hMi h1,h2,h3⟩
 have rest:∀ {a e},zG M a = some e->zG Mi a = none->∀ b o,dk (ρ.pos a) e b o->b < w.heap.size/\¬ dn (ρ.lim Mi) Mi b o:=by
  intro a e he hn b o hf
  refine ⟨gS (h.sat a e he) hf,?_⟩
  rintro ⟨c,e',h1,h2,h3⟩
  have hne:c ≠ a:=by rintro rfl;rw [hn] at h1;cases h1
  exact h.sep c a e' e (hMi h1) he hne h2 b o h3 hf
 have cases':∀ {a e},zG (E ++ M) a = some e->(zG (E ++ Mi) a = some e/\ρ'.dom a/\(zG E a = some e \/ zG Mi a = some e)) \/ (zG M a = some e/\zG Mi a = none/\zG E a = none/\ρ.dom a):=by
  intro a e he
  cases hx:zG E a with
  | some e'=>
   rw [zan hx] at he
   have:zG (E ++ Mi) a = some e:=by rw [zan hx];exact he
   exact Or.inl ⟨this,h'.mod a e this,Or.inl (by rw [<- he])⟩
  | none=>
   rw [zao hx] at he
   cases hy:zG Mi a with
   | some e'=>
    have:=hMi hy
    rw [he] at this
    simp only [zoI] at this;subst this
    exact Or.inl ⟨hEi hy hx,h'.mod a e (hEi hy hx),Or.inr rfl⟩
   | none=>exact Or.inr ⟨he,rfl,rfl,h.mod a e he⟩
 have isep2:∀ b o,ph ρ2 b o->¬ dn ρ2 (E ++ M) b o:=by
  rintro b o hi ⟨a,e,ha,ho,hf⟩
  rcases cases' ha with ⟨h1,h2,_⟩ | ⟨h1,h2,_,h4⟩
  ·rw [p2 h2] at hf
   exact h'.isep b o hi ⟨a,e,h1,ho,hf⟩
  ·rw [p1 h4] at hf
   obtain ⟨q1,q2⟩:=rest h1 h2 b o hf
   rcases hst.immo b o q1 hi with h5 | h5
   ·exact h.isep b o h5 ⟨a,e,h1,ho,hf⟩
   ·exact q2 h5
 refine ⟨ρ2,l1,l2,⟨?_,?_,?_,?_,h'.imm,isep2⟩,hst.size,hst.os,hst.output,?_,?_,?_,fun b o hb hi=>(hst.immo b o hb hi).imp (fun h=>h) ownI⟩
 ·rintro a (ha | ha)
  ·obtain ⟨e,he⟩:=h.dom a ha
   cases hx:zG E a with
   | some e'=>exact ⟨e',zan hx⟩
   | none=>exact ⟨e,by rw [zao hx];exact he⟩
  ·obtain ⟨e,he⟩:=h'.dom a ha
   cases hx:zG E a with
   | some e'=>exact ⟨e',zan hx⟩
   | none=>
    rw [zao hx] at he
    exact ⟨e,by rw [zao hx];exact hMi he⟩
 ·intro a e he
  rcases cases' he with ⟨_,h2,_⟩ | ⟨_,_,_,h2⟩
  ·exact Or.inr h2
  ·exact Or.inl h2
 ·intro a e he
  rcases cases' he with ⟨h1,h2,_⟩ | ⟨h1,h2,_,h4⟩
  ·rw [p2 h2]
   exact kP.of_same l2 (le_refl _) (fun _ _ _=>⟨rfl,rfl⟩) (fun _ _ _=>rfl) (h'.sat a e h1)
  ·rw [p1 h4]
   exact kP.of_same l1 hst.size (fun b o hf=>by
    obtain ⟨q1,q2⟩:=rest h1 h2 b o hf
    exact hst.cell b o q1 q2) (fun b hb hf=>hst.blk b hb fun o ho=>(rest h1 h2 b o (hf o)).2 ho) (h.sat a e h1)
 ·intro a b e e' ha hb hne ho k o hf hf'
  rcases cases' ha with ⟨a1,a2,a3⟩ | ⟨a1,a2,a3,a4⟩
  ·rw [p2 a2] at hf
   rcases cases' hb with ⟨b1,b2,_⟩ | ⟨b1,b2,b3,b4⟩
   ·rw [p2 b2] at hf'
    exact h'.sep a b e e' a1 b1 hne ho k o hf hf'
   ·rw [p1 b4] at hf'
    obtain ⟨q1,q2⟩:=rest b1 b2 k o hf'
    exact q2 (hst.own k o q1 ⟨a,e,a1,ho,hf⟩)
  ·rw [p1 a4] at hf
   rcases cases' hb with ⟨b1,b2,b3⟩ | ⟨b1,b2,b3,b4⟩
   ·rw [p2 b2] at hf'
    rcases b3 with b3 | b3
    ·obtain ⟨q1,q2⟩:=rest a1 a2 k o hf
     cases e' with
     | dead=>exact hf'
     | mem own' sp' ls'=>
      have hl:(Ent.mem own' sp' ls').loose = true:=by
       rcases hE b _ b3 with h5 | ⟨h5,_⟩
       ·exact h5.2
       ·exact h5
      cases own' with
      | true=>exact q2 (hst.own k o q1 ⟨b,_,b1,rfl,hf'⟩)
      | false=>
       simp only [Ent.loose,Bool.false_or,bne_iff_ne] at hl
       obtain ⟨_,_,k2,_⟩:=h'.sat b _ b1
       have hi:=h'.immO_sep (k2.2 rfl hl) (k:=k) (p:=o) hf'
       rcases hst.immo k o q1 hi with h5 | h5
       ·exact h.isep k o h5 ⟨a,e,a1,ho,hf⟩
       ·exact q2 h5
     | map m=>exact q2 (hst.own k o q1 ⟨b,_,b1,rfl,hf'⟩)
    ·rw [posi b3] at hf'
     exact h.sep a b e e' a1 (hMi b3) hne ho k o hf hf'
   ·rw [p1 b4] at hf'
    exact h.sep a b e e' a1 b1 hne ho k o hf hf'
 ·intro b hb ho
  exact hst.blk b hb fun o hc=>ho o (ownI hc)
 ·intro b o hb ho
  exact hst.cell b o hb fun hc=>ho (ownI hc)
 ·rintro b o hb ⟨a,e,ha,ho,hf⟩
  rcases cases' ha with ⟨h1,h2,_⟩ | ⟨h1,h2,_,h4⟩
  ·rw [p2 h2] at hf
   exact ownI (hst.own b o hb ⟨a,e,h1,ho,hf⟩)
  ·rw [p1 h4] at hf
   exact ⟨a,e,h1,ho,hf⟩
theorem Oper.wp_put {P:Program} {o:Oper} {a:Act} {w:World} {K:Act->World->Prop} {Q:Exit->Act->World->Prop} (h:o.wp P a w K Q) :
  o.wp P a w (fun a' w'=>(∃ x,a'.tmps = (a.put o.dst x).tmps)/\K a' w') Q:=by
 have hd:∀ d x,({ a with defers:=d :: a.defers }.put o.dst x).tmps = (a.put o.dst x).tmps:=by
  intro d x
  unfold Act.put
  cases o.dst <;> rfl
 unfold Oper.wp at *
 generalize (execOp a.eval o).run P w = r at *
 cases r with
 | ok n w'=>
  cases n <;> simp only [Oper.upon] at h ⊢
  case value v=>exact ⟨⟨v,rfl⟩,h⟩
  case skip=>exact ⟨⟨undef,rfl⟩,h⟩
  case defer d=>exact ⟨⟨undef,hd d _⟩,h⟩
  case enter f args=>
   refine Calls.mono h fun e w'' he=>?_
   cases e with
   | returned v=>exact ⟨⟨v,rfl⟩,he⟩
   | panicked c=>exact he
   | outgrown=>exact he
  case row row args=>exact Rows.mono h fun u w'' he=>⟨⟨u,rfl⟩,he⟩
 | halt x w'=>
  cases x <;> simp only [Oper.upon] at h ⊢
  exact h
structure Rec where
 ix:Nat
 dst:Option Nat
 v:SV
 new:Mm
 dep:List Nat
 rd:List Nat
def dI (p:Nat->Bool) (T0:Tm):List Rec->Tm
 | []=>T0
 | r :: q=>bif p r.ix then zt r.dst r.v (dI p T0 q) else dI p T0 q
def zrM (p:Nat->Bool) (M0:Mm):List Rec->Mm
 | []=>M0
 | r :: q=>bif p r.ix then r.new ++ zrM p M0 q else zrM p M0 q
def zre (T:Tm):List Nat->Tm
 | []=>[]
 | s :: r=>(s,zX T s) :: zre T r
def jC (_:Nat):Bool:=true
def inB (l:List Nat) (j:Nat):Bool:=dw j l
def jk (p:Nat->Bool) (i:Nat):Nat->Bool:=fun j=>beq j i || p j
theorem ay (p:Nat->Bool) (i:Nat):jk p i i = true:=by simp [jk]
theorem aO  (h:p j = true):jk p i j = true:=by simp [jk,h]
theorem kf  (h:j ≠ i):jk p i j = p j:=by
 have:beq j i = false:=by
  cases hb:beq j i with
  | false=>rfl
  | true=>exact absurd (zq hb) h
 simp [jk,this]
theorem am  (h:jk p i j = true):j = i \/ p j = true:=by
 by_cases hj:j = i
 ·exact Or.inl hj
 ·rw [kf hj] at h;exact Or.inr h
def aLD (M0:Mm) (q:List Rec) (r:Rec):Prop:=∀ a e,zG r.new a = some e ->
 (zG (zrM jC M0 q) a = none/\e.loose = true/\e ≠ .dead) \/
 (e = .dead/\(∃ e0,zG (zrM (inB r.dep) M0 q) a = some e0)/\∀ x ∈ q,x.ix ∉ r.dep->zG x.new a = none/\zG (zrM (inB x.dep) M0 q) a = none)
def wfM (M0:Mm):List Rec->Prop
 | []=>True
 | r :: q=>aLD M0 q r/\wfM M0 q
theorem oP  (h:inB l j = false):j ∉ l:=fun hm=>by
 have:=zmi.2 hm
 unfold inB at h;rw [this] at h;cases h
theorem oO  (h:j ∉ l):inB l j = false:=by
 cases hb:inB l j with
 | false=>rfl
 | true=>exact absurd (zmi.1 hb) h
section
variable {M0:Mm}
theorem iU:∀ {rs:List Rec} {a:Nat} {e:Ent},zG (zrM p M0 rs) a = some e->zG M0 a = some e \/ ∃ r ∈ rs,p r.ix = true/\zG r.new a = some e
 | [],_,_,h=>Or.inl h
 | r :: q,a,e,h=>by
  simp only [zrM] at h
  cases hp:p r.ix with
  | false=>
   rw [hp,zcF] at h
   rcases iU h with h | ⟨r',h1,h2⟩
   ·exact Or.inl h
   ·exact Or.inr ⟨r',mem_cons_of_mem _ h1,h2⟩
  | true=>
   rw [hp,zcT] at h
   cases hx:zG r.new a with
   | some e'=>rw [zan hx] at h;exact Or.inr ⟨r,by simp,hp,by rw [hx,h]⟩
   | none=>
    rw [zao hx] at h
    rcases iU h with h | ⟨r',h1,h2⟩
    ·exact Or.inl h
    ·exact Or.inr ⟨r',mem_cons_of_mem _ h1,h2⟩
theorem na:∀ {rs:List Rec} (_:∀ r ∈ rs,p r.ix = true->q r.ix = true) {a:Nat},(∃ e,zG (zrM p M0 rs) a = some e)->∃ e,zG (zrM q M0 rs) a = some e
 | [],_,_,h=>h
 | r :: t,hpq,a,h=>by
  simp only [zrM] at h ⊢
  have ih:(∃ e,zG (zrM p M0 t) a = some e)->∃ e,zG (zrM q M0 t) a = some e:=na fun r' hr'=>hpq r' (mem_cons_of_mem _ hr')
  have up:(∃ e,zG (zrM p M0 t) a = some e)->∃ e,zG (bif q r.ix then r.new ++ zrM q M0 t else zrM q M0 t) a = some e:=by
   intro h
   obtain ⟨e,he⟩:=ih h
   cases hq:q r.ix with
   | false=>exact ⟨e,he⟩
   | true=>
    rw [zcT]
    cases hx:zG r.new a with
    | some e'=>exact ⟨e',zan hx⟩
    | none=>exact ⟨e,by rw [zao hx];exact he⟩
  cases hp:p r.ix with
  | false=>rw [hp] at h;exact up h
  | true=>
   rw [hp,zcT] at h
   obtain ⟨e,he⟩:=h
   cases hx:zG r.new a with
   | some e'=>rw [hpq r (by simp) hp,zcT];exact ⟨e',zan hx⟩
   | none=>rw [zao hx] at he;exact up ⟨e,he⟩
theorem rK  (h:∀ r ∈ rs,p r.ix = true->q r.ix = true)  (hn:zG (zrM q M0 rs) a = none):zG (zrM p M0 rs) a = none:=by
 cases hx:zG (zrM p M0 rs) a with
 | none=>rfl
 | some e=>
  obtain ⟨e',he⟩:=na h ⟨e,hx⟩
  rw [hn] at he;cases he
theorem eE:∀ {rs:List Rec} {r:Rec} (_:r ∈ rs) (_:p r.ix = true) {a:Nat} {e:Ent},zG r.new a = some e->∃ e',zG (zrM p M0 rs) a = some e'
 | [],_,hr,_,_,_,_=>by simp at hr
 | r0 :: t,r,hr,hp,a,e,h=>by
  simp only [zrM]
  rcases List.mem_cons.1 hr with rfl | hr
  ·rw [hp,zcT];exact ⟨e,zan h⟩
  ·obtain ⟨e',he⟩:=eE (p:=p) hr hp h
   cases hp0:p r0.ix with
   | false=>exact ⟨e',he⟩
   | true=>
    rw [zcT]
    cases hx:zG r0.new a with
    | some e2=>exact ⟨e2,zan hx⟩
    | none=>exact ⟨e',by rw [zao hx];exact he⟩
def aVP (M0:Mm) (rs:List Rec) (p q:Nat->Bool):Prop:=∀ r ∈ rs,q r.ix = true->p r.ix = false->∀ a,zG r.new a = some .dead->zG (zrM p M0 rs) a = none
theorem sf:∀ {rs:List Rec} {q:Nat->Bool} (_:wfM M0 rs) (_:∀ r ∈ rs,p r.ix = true->q r.ix = true) (_:aVP M0 rs p q) {a:Nat} {e:Ent},zG (zrM p M0 rs) a = some e->zG (zrM q M0 rs) a = some e
 | [],_,_,_,_,_,_,h=>h
 | r :: t,q,hw,hpq,hs,a,e,h=>by
  have hpt:∀ r' ∈ t,p r'.ix = true->q r'.ix = true:=fun r' hr'=>hpq r' (mem_cons_of_mem _ hr')
  have hst:aVP M0 t p q:=by
   intro r' hr' h1 h2 b hb
   have:=hs r' (mem_cons_of_mem _ hr') h1 h2 b hb
   simp only [zrM] at this
   cases hp:p r.ix with
   | false=>rw [hp] at this;exact this
   | true=>
    rw [hp,zcT] at this
    cases hx:zG r.new b with
    | some e'=>rw [zan hx] at this;cases this
    | none=>rw [zao hx] at this;exact this
  have ih:zG (zrM p M0 t) a = some e->zG (zrM q M0 t) a = some e:=sf hw.2 hpt hst
  have hs0:=hs r (by simp)
  simp only [zrM] at h hs0 ⊢
  cases hp:p r.ix with
  | false=>
   rw [hp,zcF] at h
   cases hq:q r.ix with
   | false=>rw [zcF];exact ih h
   | true=>
    have hn:zG r.new a = none:=by
     cases hx:zG r.new a with
     | none=>rfl
     | some e'=>
      rcases hw.1 a e' hx with h1 | ⟨h1,_,_⟩
      ·have:=rK (p:=p) (q:=jC) (fun _ _ _=>rfl) h1.1
       rw [h] at this;cases this
      ·subst h1
       have:=hs0 hq hp a hx
       rw [hp,zcF,h] at this;cases this
    rw [zcT,zao hn];exact ih h
  | true=>
   rw [hpq r (by simp) hp,zcT]
   rw [hp,zcT] at h
   cases hx:zG r.new a with
   | some e'=>rw [zan hx] at h ⊢;exact h
   | none=>rw [zao hx] at h ⊢;exact ih h
theorem se:∀ (rs:List Rec),zrM (fun _=>false) M0 rs = M0
 | []=>rfl
 | r :: q=>by simp only [zrM,zcF];exact se q
theorem dZ  (h:zG M0 a = some e):∃ e',zG (zrM p M0 rs) a = some e':=
 na (p:=fun _=>false) (fun _ _ h=>by cases h) ⟨e,by rw [se];exact h⟩
theorem sa:∀ {rs:List Rec},(∀ r ∈ rs,q r.ix ≠ p r.ix->zG r.new a = none)->zG (zrM q M0 rs) a = zG (zrM p M0 rs) a
 | [],_=>rfl
 | r :: t,h=>by
  have ih:=sa (rs:=t) fun r' hr'=>h r' (mem_cons_of_mem _ hr')
  have h0:=h r (by simp)
  simp only [zrM]
  cases hq:q r.ix <;> cases hp:p r.ix
  ·exact ih
  ·rw [zcF,zcT,zao (h0 (by rw [hq,hp];simp))];exact ih
  ·rw [zcF,zcT,zao (h0 (by rw [hq,hp];simp))];exact ih
  ·rw [zcT,zcT,aR,aR,ih]
def uH (rs:List Rec) (p:Nat->Bool):Prop:=∀ x ∈ rs,p x.ix = true->∀ k ∈ x.dep,p k = true
theorem w7:∀ {rs:List Rec} (_:wfM M0 rs) {r:Rec} (_:r ∈ rs) (_:p r.ix = false) (_:uH rs p) (_:∀ x ∈ rs,r.ix = x.ix->r = x) {a:Nat} {e:Ent},zG r.new a = some e->zG (zrM (jk p r.ix) M0 rs) a = some e
 | [],_,_,hr,_,_,_,_,_,_=>by simp at hr
 | r0 :: t,hw,r,hr,hp,hc,hu,a,e,h=>by
  simp only [zrM]
  rcases List.mem_cons.1 hr with h' | h'
  ·subst h'
   rw [ay,zcT];exact zan h
  ·have ih:=w7 hw.2 h' hp (fun x hx=>hc x (mem_cons_of_mem _ hx)) (fun x hx=>hu x (mem_cons_of_mem _ hx)) h
   cases hp0:jk p r.ix r0.ix with
   | false=>rw [zcF];exact ih
   | true=>
    rw [zcT]
    rcases am hp0 with h0 | h0
    ·have:=hu r0 (by simp) h0.symm
     subst this
     exact zan h
    ·rw [zao];· exact ih
     cases hx:zG r0.new a with
     | none=>rfl
     | some e'=>
      rcases hw.1 a e' hx with h1 | ⟨_,_,h1⟩
      ·obtain ⟨e2,he2⟩:=eE (M0:=M0) (p:=jC) h' rfl h
       rw [h1.1] at he2;cases he2
      ·by_cases hd:r.ix ∈ r0.dep
       ·have:=hc r0 (by simp) h0 _ hd
        rw [hp] at this;cases this
       ·rw [(h1 r h' hd).1] at h;cases h
theorem jy  (hw:wfM M0 rs) (hu:∀ r ∈ rs,∀ r' ∈ rs,r.ix = r'.ix->r = r') (hc:uH rs p)  (hr:r ∈ rs) (hp:p r.ix = false) (a:Nat):
  zG (zrM (jk p r.ix) M0 rs) a = zG (r.new ++ zrM p M0 rs) a:=by
 cases hx:zG r.new a with
 | some e=>rw [zan hx];exact w7 hw hr hp hc (hu r hr) hx
 | none=>
  rw [zao hx]
  refine sa fun r' hr' hne=>?_
  by_cases e:r'.ix = r.ix
  ·have:=hu r' hr' r hr e;subst this;exact hx
  ·rw [kf e] at hne;exact absurd rfl hne
theorem aA4:∀ {rs:List Rec} (_:wfM M0 rs) {r:Rec} (_:r ∈ rs) {a:Nat} {e:Ent},zG r.new a = some e->e.loose = true
 | [],_,_,hr,_,_,_=>by simp at hr
 | r0 :: t,hw,r,hr,a,e,h=>by
  rcases List.mem_cons.1 hr with h' | h'
  ·subst h'
   rcases hw.1 a e h with h1 | ⟨h1,_⟩
   ·exact h1.2.1
   ·subst h1;rfl
  ·exact aA4 hw.2 h' h
theorem iV:∀ {rs:List Rec} (_:wfM M0 rs) {r:Rec} (_:r ∈ rs) (_:p r.ix = false) (_:uH rs p) {b:Nat} {e:Ent},e ≠ .dead->zG r.new b = some e->zG (zrM p M0 rs) b = none
 | [],_,_,h,_,_,_,_,_,_=>by simp at h
 | r0 :: t,hw,r,hr,hp,hc,b,e,hd,h=>by
  simp only [zrM]
  rcases List.mem_cons.1 hr with h' | h'
  ·subst h'
   rw [hp,zcF]
   rcases hw.1 b e h with h1 | ⟨h1,_⟩
   ·exact rK (q:=jC) (fun _ _ _=>rfl) h1.1
   ·exact absurd h1 hd
  ·have ih:=iV hw.2 h' hp (fun x hx=>hc x (mem_cons_of_mem _ hx)) hd h
   cases hp0:p r0.ix with
   | false=>rw [zcF];exact ih
   | true=>
    rw [zcT,zao];· exact ih
    cases hx:zG r0.new b with
    | none=>rfl
    | some e'=>
     rcases hw.1 b e' hx with h1 | ⟨_,_,h1⟩
     ·obtain ⟨e2,he2⟩:=eE (M0:=M0) (p:=jC) h' rfl h
      rw [h1.1] at he2;cases he2
     ·by_cases hd':r.ix ∈ r0.dep
      ·have:=hc r0 (by simp) hp0 _ hd'
       rw [hp] at this;cases this
      ·rw [(h1 r h' hd').1] at h;cases h
theorem eV:∀ {rs:List Rec},(∀ r ∈ rs,p r.ix = q r.ix)->zrM p M0 rs = zrM q M0 rs
 | [],_=>rfl
 | r :: t,h=>by simp only [zrM];rw [h r (by simp),eV fun r' hr'=>h r' (mem_cons_of_mem _ hr')]
theorem qF:∀ {rs:List Rec},(∀ r ∈ rs,p r.ix = q r.ix)->dI p T0 rs = dI q T0 rs
 | [],_=>rfl
 | r :: t,h=>by simp only [dI];rw [h r (by simp),qF fun r' hr'=>h r' (mem_cons_of_mem _ hr')]
end
theorem mh:∀ (rs:List Rec) (s:Nat),
  (∃ r ∈ rs,p r.ix = true/\r.dst = some s/\zX (dI p T0 rs) s = r.v) \/ ((∀ r ∈ rs,p r.ix = true->r.dst ≠ some s)/\zX (dI p T0 rs) s = zX T0 s)
 | [],_=>Or.inr ⟨by simp,rfl⟩
 | r :: t,s=>by
  simp only [dI]
  have lift:(∃ r' ∈ t,p r'.ix = true/\r'.dst = some s/\zX (dI p T0 t) s = r'.v) \/ ((∀ r' ∈ t,p r'.ix = true->r'.dst ≠ some s)/\zX (dI p T0 t) s = zX T0 s):=mh t s
  cases hp:p r.ix with
  | false=>
   rw [zcF]
   rcases lift with ⟨r',h1,h2,h3,h4⟩ | ⟨h1,h2⟩
   ·exact Or.inl ⟨r',mem_cons_of_mem _ h1,h2,h3,h4⟩
   ·refine Or.inr ⟨fun r' hr' hp'=>?_,h2⟩
    rcases List.mem_cons.1 hr' with rfl | hr'
    ·rw [hp] at hp';cases hp'
    ·exact h1 r' hr' hp'
  | true=>
   rw [zcT]
   cases hd:r.dst with
   | none=>
    simp only [zt]
    rcases lift with ⟨r',h1,h2,h3,h4⟩ | ⟨h1,h2⟩
    ·exact Or.inl ⟨r',mem_cons_of_mem _ h1,h2,h3,h4⟩
    ·refine Or.inr ⟨fun r' hr' hp'=>?_,h2⟩
     rcases List.mem_cons.1 hr' with rfl | hr'
     ·rw [hd];simp
     ·exact h1 r' hr' hp'
   | some d=>
    simp only [zt]
    by_cases hs:s = d
    ·subst hs
     exact Or.inl ⟨r,by simp,hp,hd,af _ _ _⟩
    ·rw [bK hs]
     rcases lift with ⟨r',h1,h2,h3,h4⟩ | ⟨h1,h2⟩
     ·exact Or.inl ⟨r',mem_cons_of_mem _ h1,h2,h3,h4⟩
     ·refine Or.inr ⟨fun r' hr' hp'=>?_,h2⟩
      rcases List.mem_cons.1 hr' with rfl | hr'
      ·rw [hd];simpa using fun h=>hs h.symm
      ·exact h1 r' hr' hp'
theorem sX:∀ {l:List Nat} {s:Nat},s ∈ l->zX (zre T l) s = zX T s
 | [],_,h=>by simp at h
 | d :: r,s,h=>by
  simp only [zre]
  by_cases hs:s = d
  ·subst hs;rw [af]
  ·rw [bK hs];exact sX ((List.mem_cons.1 h).resolve_left hs)
theorem sW:∀ {l:List Nat} {s:Nat},s ∉ l->zX (zre T l) s = .und
 | [],_,_=>rfl
 | d :: r,s,h=>by
  simp only [zre]
  rw [bK (fun e=>h (by simp [e]))]
  exact sW fun hr=>h (by simp [hr])
def aIS (r r':Rec):Prop:=
 (∀ s,r'.dst = some s->s ∈ r.rd->r'.ix ∈ r.dep \/ r.ix ∈ r'.dep)/\(∀ s,r.dst = some s->s ∈ r'.rd->r.ix ∈ r'.dep \/ r'.ix ∈ r.dep)/\∀ s,r.dst = some s->r'.dst ≠ some s
theorem aIS.symm  (h:aIS r r'):aIS r' r:=⟨h.2.1,h.1,fun s h1 h2=>h.2.2 s h2 h1⟩
structure Inv (N:Nat) (dep:Nat->List Nat) (bf:List Nat) (T0:Tm) (M0:Mm) (rs:List Rec) (p:Nat->Bool) (ρ:Env) (a:Act) (w:World):Prop where
 wf:wfM M0 rs
 uniq:∀ r ∈ rs,∀ r' ∈ rs,r.ix = r'.ix->r = r'
 bfs:∀ r ∈ rs,r.ix ∈ bf
 done:∀ j,p j = true->j ∈ bf
 base:∀ j ∈ bf,p j = true \/ ∃ r ∈ rs,r.ix = j
 clos:∀ j,p j = true->∀ k ∈ dep j,p k = true
 deps:∀ r ∈ rs,r.dep = dep r.ix
 trans:∀ r ∈ rs,∀ k ∈ r.dep,∀ j ∈ dep k,j ∈ r.dep
 irr:∀ r ∈ rs,r.ix ∉ r.dep
 below:∀ r ∈ rs,∀ k ∈ r.dep,k ∈ bf
 small:∀ r ∈ rs,∀ d,r.dst = some d->d < N
 pairs:∀ r ∈ rs,∀ r' ∈ rs,r.ix ≠ r'.ix->aIS r r'
 safe:∀ x ∈ rs,∀ k ∈ rs,k.ix ∉ x.dep->x.ix ∉ k.dep->k.ix ≠ x.ix->∀ a,zG k.new a = some .dead->zG (zrM (inB x.dep) M0 rs) a = none
 kill:∀ k ∈ rs,∀ a,zG k.new a = some .dead->∃ e0,zG (zrM (inB k.dep) M0 rs) a = some e0
 mem:zF ρ (zrM p M0 rs) w
 sz:a.tmps.size = N
 defers:a.defers = []
 t0:∀ s,mE M0 (zX T0 s)
 m0:∀ b e,zG M0 b = some e->kO M0 e
 slot0:∀ s,(∀ r ∈ rs,p r.ix = true->r.dst ≠ some s)->zRT ρ (zX T0 s) (a.tmps.getD s undef)
 slotr:∀ r ∈ rs,p r.ix = true->(∀ d,r.dst = some d->zRT ρ r.v (a.tmps.getD d undef)/\mE (zrM (jk (inB r.dep) r.ix) M0 rs) r.v) /\
  ∀ b e,zG r.new b = some e->kO (zrM (jk (inB r.dep) r.ix) M0 rs) e
section
variable {N:Nat} {dep:Nat->List Nat} {bf:List Nat} {T0:Tm} {M0:Mm} {rs:List Rec} {p:Nat->Bool} {ρ:Env} {a:Act} {w:World}
theorem Inv.closed (I:Inv N dep bf T0 M0 rs p ρ a w):uH rs p:=fun x hx hp k hk=>I.clos x.ix hp k (by rw [<- I.deps x hx];exact hk)
theorem Inv.sees (I:Inv N dep bf T0 M0 rs p ρ a w)  (hd:∀ k ∈ dp,p k = true) (ht:∀ k ∈ dp,∀ j ∈ dep k,j ∈ dp)
  (hrd:∀ r ∈ rs,∀ s,r.dst = some s->s ∈ rd->p r.ix = true->r.ix ∈ dp)
  (hsf:∀ k ∈ rs,p k.ix = true->k.ix ∉ dp->∀ a,zG k.new a = some .dead->zG (zrM (inB dp) M0 rs) a = none):
  Sub (zrM (inB dp) M0 rs) (zrM p M0 rs)/\bH N (ρ.lim (zrM (inB dp) M0 rs)) (zre (dI (inB dp) T0 rs) rd) (zrM (inB dp) M0 rs) a w:=by
 have hin:∀ {j},inB dp j = true->j ∈ dp:=fun {j} h=>zmi.1 h
 have up:∀ r ∈ rs,r.ix ∈ dp->∀ b e,zG (zrM (jk (inB r.dep) r.ix) M0 rs) b = some e->∃ e',zG (zrM (inB dp) M0 rs) b = some e':=by
  intro r hr hrd' b e he
  refine na (fun r' hr' h=>?_) ⟨e,he⟩
  rcases am h with h | h
  ·rw [h];exact zmi.2 hrd'
  ·have:=zmi.1 h
   rw [I.deps r hr] at this
   exact zmi.2 (ht r.ix hrd' _ this)
 have hs:Sub (zrM (inB dp) M0 rs) (zrM p M0 rs):=by
  refine ⟨fun b e he=>sf I.wf (fun r _ h=>hd _ (hin h)) (fun k hk h1 h2=>hsf k hk h1 (oP h2)) he,fun b e he=>?_⟩
  rcases iU he with h | ⟨r,h1,h2,h3⟩
  ·exact (I.m0 b e h).mono fun b e h=>dZ h
  ·exact ((I.slotr r h1 (hd _ (hin h2))).2 b e h3).mono (up r h1 (hin h2))
 refine ⟨hs,hs.conc I.mem,I.sz,I.defers,fun s=>?_⟩
 by_cases hsr:s ∈ rd
 ·rw [sX hsr]
  rcases mh (p:=inB dp) (T0:=T0) rs s with ⟨r,h1,h2,h3,h4⟩ | ⟨h1,h2⟩
  ·rw [h4]
   obtain ⟨k1,k2⟩:=(I.slotr r h1 (hd _ (hin h2))).1 s h3
   exact (k2.mono (up r h1 (hin h2))).rel k1
  ·rw [h2]
   refine ((I.t0 s).mono fun b e h=>dZ h).rel (I.slot0 s fun r hr hp hds=>?_)
   exact h1 r hr (zmi.2 (hrd r hr s hds hsr hp)) hds
 ·rw [sW hsr];exact zR trivial
theorem Inv.mark (I:Inv N dep bf T0 M0 rs p ρ a w)  (hr:r ∈ rs) (hi:p r.ix = false) (hd:∀ k ∈ r.dep,p k = true) 
  (ha:a'.tmps = (a.put r.dst x).tmps) (hdf:a'.defers = []) (hle:ρ.le ρ') (hx:∀ d,r.dst = some d->zRT ρ' r.v x/\mE (r.new ++ zrM (inB r.dep) M0 rs) r.v)
  (hn:∀ b e,zG r.new b = some e->kO (r.new ++ zrM (inB r.dep) M0 rs) e) (hm:zF ρ' (r.new ++ zrM p M0 rs) w'):
  Inv N dep bf T0 M0 rs (jk p r.ix) ρ' a' w':=by
 have hself:inB r.dep r.ix = false:=by
  cases h:inB r.dep r.ix with
  | false=>rfl
  | true=>exact absurd (zmi.1 h) (I.irr r hr)
 have hup:∀ b e,zG (r.new ++ zrM (inB r.dep) M0 rs) b = some e->∃ e',zG (zrM (jk (inB r.dep) r.ix) M0 rs) b = some e':=fun b e h=>
  by
   cases hx:zG r.new b with
   | some e'=>exact eE hr (ay _ _) hx
   | none=>
    rw [zao hx] at h
    exact na (fun _ _ h=>aO h) ⟨e,h⟩
 have hput:∀ s,r.dst ≠ some s->a'.tmps.getD s undef = a.tmps.getD s undef:=by
  intro s hs
  rw [ha]
  unfold Act.put
  cases hd:r.dst with
  | none=>rfl
  | some d=>
   have hne:d ≠ s:=fun e=>hs (by rw [hd,e])
   simp only [getD_eq_getD_getElem?]
   rw [Array.getElem?_setIfInBounds_ne hne]
 have hput2:∀ s,r.dst = some s->a'.tmps.getD s undef = x:=by
  intro s hs
  rw [ha]
  have hlt:=I.small r hr s hs
  unfold Act.put
  rw [hs]
  simp only [getD_eq_getD_getElem?]
  rw [Array.getElem?_setIfInBounds_self_of_lt (by rw [I.sz];exact hlt)]
  rfl
 exact {
  wf:=I.wf,uniq:=I.uniq,bfs:=I.bfs,deps:=I.deps,trans:=I.trans,irr:=I.irr,below:=I.below,small:=I.small,pairs:=I.pairs,safe:=I.safe,kill:=I.kill,t0:=I.t0,m0:=I.m0,defers:=hdf
  done:=fun j hj=>(am hj).elim (fun h=>by rw [h];exact I.bfs r hr) (I.done j)
  base:=fun j hj=>(I.base j hj).imp aO id
  clos:=fun j hj k hk=>by
   rcases am hj with h | h
   ·subst h
    rw [<- I.deps r hr] at hk
    exact aO (hd k hk)
   ·exact aO (I.clos j h k hk)
  mem:=hm.congr fun b=>(jy I.wf I.uniq I.closed hr hi b).symm
  sz:=by
   rw [ha]
   unfold Act.put
   cases r.dst with
   | none=>exact I.sz
   | some d=>simp only [Array.size_setIfInBounds];exact I.sz
  slot0:=fun s hs=>by
   have h1:=hs r hr (ay _ _)
   rw [hput s h1]
   exact (I.slot0 s fun r' hr' hp'=>hs r' hr' (aO hp')).le hle
  slotr:=fun r' hr' hp'=>by
   rcases am hp' with h | h
   ·have:=I.uniq r' hr' r hr h;subst this
    refine ⟨fun d hds=>?_,fun b e he=>(hn b e he).mono hup⟩
    rw [hput2 d hds]
    exact ⟨(hx d hds).1,(hx d hds).2.mono hup⟩
   ·have hne:r'.ix ≠ r.ix:=fun e=>by rw [e,hi] at h;cases h
    obtain ⟨k1,k2⟩:=I.slotr r' hr' h
    refine ⟨fun d hds=>?_,k2⟩
    rw [hput d ((I.pairs r' hr' r hr hne).2.2 d hds)]
    exact ⟨(k1 d hds).1.le hle,(k1 d hds).2⟩ }
theorem Inv.push (I:Inv N dep bf T0 M0 rs p ρ a w)  (hb:r.ix ∉ bf) (hdep:r.dep = dep r.ix) (ht:∀ k ∈ r.dep,∀ j ∈ dep k,j ∈ r.dep) (hbl:∀ k ∈ r.dep,k ∈ bf)
  (hsm:∀ d,r.dst = some d->d < N) (hpr:∀ r' ∈ rs,aIS r r') (hfr:aLD M0 rs r)
  (hsf:∀ k ∈ rs,k.ix ∉ r.dep->∀ a,zG k.new a = some .dead->zG (zrM (inB r.dep) M0 rs) a = none):
  Inv N dep (r.ix :: bf) T0 M0 (r :: rs) p ρ a w:=by
 have hp:p r.ix = false:=by
  cases h:p r.ix with
  | false=>rfl
  | true=>exact absurd (I.done _ h) hb
 have hne:∀ r' ∈ rs,r'.ix ≠ r.ix:=fun r' hr' e=>hb (by rw [<- e];exact I.bfs r' hr')
 have hM:∀ r' ∈ rs,zrM (jk (inB r'.dep) r'.ix) M0 (r :: rs) = zrM (jk (inB r'.dep) r'.ix) M0 rs:=by
  intro r' hr'
  have h1:jk (inB r'.dep) r'.ix r.ix = false:=by
   rw [kf (hne r' hr').symm]
   cases h:inB r'.dep r.ix with
   | false=>rfl
   | true=>exact absurd (I.below r' hr' _ (zmi.1 h)) hb
  simp only [zrM,h1,zcF]
 have hV:∀ x ∈ r :: rs,zrM (inB x.dep) M0 (r :: rs) = zrM (inB x.dep) M0 rs:=by
  intro x hx
  have h1:inB x.dep r.ix = false:=by
   rcases List.mem_cons.1 hx with rfl | hx
   ·exact oO fun h=>hb (hbl _ h)
   ·exact oO fun h=>hb (I.below x hx _ h)
  simp only [zrM,h1,zcF]
 exact {
  wf:=⟨hfr,I.wf⟩
  safe:=fun x hx k hk h1 h2 h3 b hkb=>by
   rw [hV x hx]
   rcases List.mem_cons.1 hx with hx' | hx'
   ·rcases List.mem_cons.1 hk with hk' | hk'
    ·exact absurd (by rw [hk',hx']) h3
    ·subst hx';exact hsf k hk' h1 b hkb
   ·rcases List.mem_cons.1 hk with hk' | hk'
    ·subst hk'
     rcases hfr b .dead hkb with h4 | ⟨_,_,h4⟩
     ·exact absurd rfl h4.2.2
     ·exact (h4 x hx' h2).2
    ·exact I.safe x hx' k hk' h1 h2 h3 b hkb
  kill:=fun k hk b hkb=>by
   rw [hV k hk]
   rcases List.mem_cons.1 hk with hk' | hk'
   ·subst hk'
    rcases hfr b .dead hkb with h4 | ⟨_,h4,_⟩
    ·exact absurd rfl h4.2.2
    ·exact h4
   ·exact I.kill k hk' b hkb
  uniq:=fun x hx y hy e=>by
   rcases List.mem_cons.1 hx with hx' | hx'
   ·rcases List.mem_cons.1 hy with hy' | hy'
    ·rw [hx',hy']
    ·exact absurd (by rw [<- e,hx']) (hne y hy')
   ·rcases List.mem_cons.1 hy with hy' | hy'
    ·exact absurd (by rw [e,hy']) (hne x hx')
    ·exact I.uniq x hx' y hy' e
  bfs:=fun x hx=>by
   rcases List.mem_cons.1 hx with rfl | hx
   ·simp
   ·exact mem_cons_of_mem _ (I.bfs x hx)
  done:=fun j hj=>mem_cons_of_mem _ (I.done j hj)
  base:=fun j hj=>by
   rcases List.mem_cons.1 hj with rfl | hj
   ·exact Or.inr ⟨r,by simp,rfl⟩
   ·exact (I.base j hj).imp id fun ⟨r',h1,h2⟩=>⟨r',mem_cons_of_mem _ h1,h2⟩
  clos:=I.clos
  deps:=fun x hx=>by
   rcases List.mem_cons.1 hx with rfl | hx
   ·exact hdep
   ·exact I.deps x hx
  trans:=fun x hx=>by
   rcases List.mem_cons.1 hx with rfl | hx
   ·exact ht
   ·exact I.trans x hx
  irr:=fun x hx=>by
   rcases List.mem_cons.1 hx with rfl | hx
   ·exact fun h=>hb (hbl _ h)
   ·exact I.irr x hx
  below:=fun x hx k hk=>by
   rcases List.mem_cons.1 hx with rfl | hx
   ·exact mem_cons_of_mem _ (hbl k hk)
   ·exact mem_cons_of_mem _ (I.below x hx k hk)
  small:=fun x hx=>by
   rcases List.mem_cons.1 hx with rfl | hx
   ·exact hsm
   ·exact I.small x hx
  pairs:=fun x hx y hy e=>by
   rcases List.mem_cons.1 hx with hx' | hx'
   ·rcases List.mem_cons.1 hy with hy' | hy'
    ·exact absurd (by rw [hx',hy']) e
    ·rw [hx'];exact hpr y hy'
   ·rcases List.mem_cons.1 hy with hy' | hy'
    ·rw [hy'];exact (hpr x hx').symm
    ·exact I.pairs x hx' y hy' e
  mem:=by simp only [zrM,hp,zcF];exact I.mem
  sz:=I.sz
  defers:=I.defers
  t0:=I.t0
  m0:=I.m0
  slot0:=fun s hs=>I.slot0 s fun r' hr'=>hs r' (mem_cons_of_mem _ hr')
  slotr:=fun x hx hpx=>by
   rcases List.mem_cons.1 hx with rfl | hx
   ·rw [hp] at hpx;cases hpx
   ·rw [hM x hx];exact I.slotr x hx hpx }
theorem Inv.outP (I:Inv N dep bf T0 M0 rs p ρ a w):bH N ρ (dI p T0 rs) (zrM p M0 rs) a w:=by
 refine ⟨I.mem,I.sz,I.defers,fun s=>?_⟩
 rcases mh (p:=p) (T0:=T0) rs s with ⟨r,h1,h2,h3,h4⟩ | ⟨h1,h2⟩
 ·rw [h4];exact ((I.slotr r h1 h2).1 s h3).1
 ·rw [h2];exact I.slot0 s fun r hr hp=>h1 r hr hp
theorem Inv.out (I:Inv N dep bf T0 M0 rs p ρ a w) (h:∀ r ∈ rs,p r.ix = true):bH N ρ (dI jC T0 rs) (zrM jC M0 rs) a w:=by
 have hM:zrM p M0 rs = zrM jC M0 rs:=eV fun r hr=>by rw [h r hr];rfl
 refine ⟨hM ▸ I.mem,I.sz,I.defers,fun s=>?_⟩
 rcases mh (p:=jC) (T0:=T0) rs s with ⟨r,h1,h2,h3,h4⟩ | ⟨h1,h2⟩
 ·rw [h4];exact ((I.slotr r h1 (h r h1)).1 s h3).1
 ·rw [h2];exact I.slot0 s fun r hr _=>h1 r hr rfl
theorem Inv.start  (hc:bH N ρ T0 M0 a w) (hb:∀ j,p j = true ↔ j ∈ bf) (hcl:∀ j,p j = true->∀ k ∈ dep j,p k = true):Inv N dep bf T0 M0 [] p ρ a w where
 wf:=trivial
 uniq:=by simp
 bfs:=by simp
 done j h:=(hb j).1 h
 base j h:=Or.inl ((hb j).2 h)
 clos:=hcl
 deps:=by simp
 trans:=by simp
 irr:=by simp
 below:=by simp
 small:=by simp
 pairs:=by simp
 safe:=by simp
 kill:=by simp
 mem:=hc.tozF
 sz:=hc.sz
 defers:=hc.defers
 t0 s:=hc.tozF.toldT (hc.tm s)
 m0 b e h:=hc.tozF.told h
 slot0 s _:=hc.tm s
 slotr:=by simp
end
def bu (dp:List Nat) (rs:List Rec):List Rec:=
 match rs with
 | []=>[]
 | r :: q=>⟨r.ix,r.dst,r.v,bif dw r.ix dp then [] else r.new,r.dep,r.rd⟩ :: bu dp q
theorem aj:∀ {rs:List Rec},r ∈ bu dp rs->∃ r0 ∈ rs,r.ix = r0.ix/\r.dst = r0.dst/\r.v = r0.v/\r.dep = r0.dep/\r.rd = r0.rd/\((r.ix ∈ dp/\r.new = []) \/ (r.ix ∉ dp/\r = r0))
 | [],h=>by simp [bu] at h
 | x :: q,h=>by
  simp only [bu,List.mem_cons] at h
  rcases h with h | h
  ·refine ⟨x,by simp,?_⟩
   subst h
   refine ⟨rfl,rfl,rfl,rfl,rfl,?_⟩
   by_cases hm:x.ix ∈ dp
   ·refine Or.inl ⟨hm,?_⟩
    show (bif dw x.ix dp then [] else x.new) = []
    rw [zmi.2 hm,zcT]
   ·refine Or.inr ⟨hm,?_⟩
    have:dw x.ix dp = false:=oO hm
    simp only [this,zcF]
  ·obtain ⟨r0,h1,h2⟩:=aj h
   exact ⟨r0,mem_cons_of_mem _ h1,h2⟩
theorem mo:∀ {rs:List Rec},r ∈ rs->∃ r1 ∈ bu dp rs,r1.ix = r.ix/\r1.dst = r.dst/\r1.v = r.v/\r1.dep = r.dep/\r1.rd = r.rd/\(r.ix ∉ dp->r1 = r)
 | [],h=>by simp at h
 | x :: q,h=>by
  simp only [bu]
  rcases List.mem_cons.1 h with h | h
  ·subst h
   refine ⟨_,List.mem_cons_self,rfl,rfl,rfl,rfl,rfl,fun hm=>?_⟩
   have:dw r.ix dp = false:=oO hm
   simp only [this,zcF]
  ·obtain ⟨r1,h1,h2⟩:=mo h
   exact ⟨r1,mem_cons_of_mem _ h1,h2⟩
def iy (dp:List Nat) (q:Nat->Bool) (j:Nat):Bool:=q j && !dw j dp
theorem iW  (a:Nat):∀ {rs:List Rec},zG (zrM q B (bu dp rs)) a = zG (zrM (iy dp q) [] rs ++ B) a
 | []=>rfl
 | r :: t=>by
  have ih:=iW (dp:=dp) (q:=q) (B:=B) a (rs:=t)
  simp only [bu,zrM,iy]
  cases hq:q r.ix with
  | false=>simp only [zcF,Bool.false_and];exact ih
  | true=>
   cases hm:dw r.ix dp with
   | true=>
    simp only [zcT,Bool.true_and,Bool.not_true,zcF,List.nil_append];exact ih
   | false=>
    simp only [zcT,Bool.true_and,Bool.not_false,zcF,List.append_assoc]
    rw [aR,aR,ih]
theorem mg  (h:zG (zrM (iy dp q) [] rs) a = some e):∃ r ∈ rs,q r.ix = true/\r.ix ∉ dp/\zG r.new a = some e:=by
 rcases iU h with h | ⟨r,h1,h2,h3⟩
 ·simp [zG] at h
 ·simp only [iy,zbA,not_eq_true'] at h2
  exact ⟨r,h1,h2.1,oP h2.2,h3⟩
theorem nZ  (hq:∀ j ∈ dp,q j = true) (a:Nat):∀ {rs:List Rec} (_:wfM M0 rs) (_:∀ x ∈ rs,x.ix ∈ dp->∀ k ∈ x.dep,k ∈ dp),zG (zrM q M0 rs) a = zG (zrM (iy dp q) [] rs ++ zrM (inB dp) M0 rs) a
 | [],_,_=>rfl
 | r :: t,hw,hc=>by
  have ih:=nZ hq a hw.2 (fun x hx=>hc x (mem_cons_of_mem _ hx))
  simp only [zrM,iy,inB]
  cases hm:dw r.ix dp with
  | true=>
   simp only [hq _ (zmi.1 hm),Bool.not_true,Bool.and_false,zcF,zcT]
   cases hx:zG r.new a with
   | none=>rw [zao hx,ih,aR,aR,zao hx]
   | some e=>
    have hn:zG (zrM (iy dp q) [] t) a = none:=by
     cases hy:zG (zrM (iy dp q) [] t) a with
     | none=>rfl
     | some e'=>
      obtain ⟨x,h1,_,h3,h4⟩:=mg hy
      rcases hw.1 a e hx with h5 | ⟨_,_,h5⟩
      ·obtain ⟨e2,he2⟩:=eE (M0:=M0) (p:=jC) h1 rfl h4
       rw [h5.1] at he2;cases he2
      ·by_cases hd:x.ix ∈ r.dep
       ·exact absurd (hc r (by simp) (zmi.1 hm) _ hd) h3
       ·rw [(h5 x h1 hd).1] at h4;cases h4
    rw [zan hx,zao hn,zan hx]
  | false=>
   cases hq':q r.ix with
   | false=>simp only [Bool.false_and,zcF];exact ih
   | true=>
    simp only [Bool.not_false,Bool.and_true,zcT,zcF,List.append_assoc]
    rw [aR,aR,ih]
section
variable {N:Nat} {dep:Nat->List Nat} {bf:List Nat} {T0:Tm} {M0:Mm} {rs:List Rec} {p:Nat->Bool} {ρ:Env} {a:Act} {w:World}
theorem Inv.turn (I:Inv N dep bf T0 M0 rs p ρ a w)  (hr:r ∈ rs) (hi:p r.ix = false) (hd:∀ k ∈ r.dep,p k = true) (hnew:r.new = []) 
  (hE:∀ b e,zG E b = some e->∀ x ∈ rs,x.ix ∉ r.dep->zG x.new b = none) (hnd:∀ x ∈ rs,x.ix ∉ r.dep->∀ b,zG x.new b ≠ some .dead) 
  (ha:a'.tmps = (a.put r.dst x).tmps) (hdf:a'.defers = []) (hle:ρ.le ρ') (hx:∀ d,r.dst = some d->zRT ρ' r.v x/\mE (E ++ zrM (inB r.dep) M0 rs) r.v)
  (hn:∀ b e,zG E b = some e->kO (E ++ zrM (inB r.dep) M0 rs) e) (ht:∀ b e,zG (zrM (inB r.dep) M0 rs) b = some e->kO (zrM (inB r.dep) M0 rs) e) (hm:zF ρ' (E ++ zrM p M0 rs) w'):
  Inv N dep bf T0 (E ++ zrM (inB r.dep) M0 rs) (bu r.dep rs) (jk p r.ix) ρ' a' w':=by
 have hself:r.ix ∉ r.dep:=I.irr r hr
 have hcl:∀ x ∈ rs,x.ix ∈ r.dep->∀ k ∈ x.dep,k ∈ r.dep:=fun x hx hxd k hk=>by rw [I.deps x hx] at hk;exact I.trans r hr _ hxd k hk
 have hput:∀ s,r.dst ≠ some s->a'.tmps.getD s undef = a.tmps.getD s undef:=by
  intro s hs
  rw [ha]
  unfold Act.put
  cases hd:r.dst with
  | none=>rfl
  | some d=>
   have hne:d ≠ s:=fun e=>hs (by rw [hd,e])
   simp only [getD_eq_getD_getElem?]
   rw [Array.getElem?_setIfInBounds_ne hne]
 have hput2:∀ s,r.dst = some s->a'.tmps.getD s undef = x:=by
  intro s hs
  rw [ha]
  have hlt:=I.small r hr s hs
  unfold Act.put
  rw [hs]
  simp only [getD_eq_getD_getElem?]
  rw [Array.getElem?_setIfInBounds_self_of_lt (by rw [I.sz];exact hlt)]
  rfl
 have base:∀ b e,zG (zrM (inB r.dep) M0 rs) b = some e->∃ e',zG (E ++ zrM (inB r.dep) M0 rs) b = some e':=fun b e he=>by
  cases hx:zG E b with
  | some e'=>exact ⟨e',zan hx⟩
  | none=>exact ⟨e,by rw [zao hx];exact he⟩
 have up:∀ (q:Nat->Bool) b e,zG (zrM q M0 rs) b = some e->∃ e',zG (zrM q (E ++ zrM (inB r.dep) M0 rs) (bu r.dep rs)) b = some e':=by
  intro q b e he
  have ofB:(∃ e,zG (E ++ zrM (inB r.dep) M0 rs) b = some e)->∃ e',zG (zrM q (E ++ zrM (inB r.dep) M0 rs) (bu r.dep rs)) b = some e':=fun ⟨e,h⟩=>dZ h
  rcases iU he with h | ⟨y,h1,h2,h3⟩
  ·obtain ⟨e',h'⟩:=dZ (rs:=rs) (p:=inB r.dep) h
   exact ofB (base b e' h')
  ·by_cases hy:y.ix ∈ r.dep
   ·obtain ⟨e',h'⟩:=eE (M0:=M0) (p:=inB r.dep) h1 (zmi.2 hy) h3
    exact ofB (base b e' h')
   ·obtain ⟨y1,k1,k2,_,_,_,_,k3⟩:=mo (dp:=r.dep) h1
    have:=k3 hy
    subst this
    exact eE k1 h2 h3
 have up0:∀ b e,zG M0 b = some e->∃ e',zG (E ++ zrM (inB r.dep) M0 rs) b = some e':=fun b e he=>by
  obtain ⟨e',h'⟩:=dZ (rs:=rs) (p:=inB r.dep) he
  exact base b e' h'
 have clsd:uH rs (inB r.dep):=fun y hy hyd k hk=>zmi.2 (hcl y hy (zmi.1 hyd) k hk)
 have fresh:∀ y ∈ rs,y.ix ∉ r.dep->∀ b e,zG y.new b = some e->zG (E ++ zrM (inB r.dep) M0 rs) b = none:=by
  intro y hy hyd b e he
  have h1:zG E b = none:=by
   cases h:zG E b with
   | none=>rfl
   | some e'=>rw [hE b e' h y hy hyd] at he;cases he
  rw [zao h1]
  exact iV I.wf hy (oO hyd) clsd (fun h=>hnd y hy hyd b (by rw [he,h])) he
 have wf:∀ {t:List Rec},(∀ y ∈ t,y ∈ rs)->wfM M0 t->wfM (E ++ zrM (inB r.dep) M0 rs) (bu r.dep t):=by
  intro t
  induction t with
  | nil=>intro _ _;trivial
  | cons y q ih=>
   intro hin hw
   refine ⟨fun b e he=>?_,ih (fun z hz=>hin z (mem_cons_of_mem _ hz)) hw.2⟩
   simp only at he
   cases hm:dw y.ix r.dep with
   | true=>rw [hm,zcT] at he;simp [zG] at he
   | false=>
    rw [hm,zcF] at he
    have hyd:y.ix ∉ r.dep:=oP hm
    have hne:e ≠ .dead:=fun h=>hnd y (hin y (by simp)) hyd b (by rw [he,h])
    rcases hw.1 b e he with h1 | ⟨h1,_⟩
    ·refine Or.inl ⟨?_,h1.2⟩
     rw [iW]
     rw [zao]
     ·exact fresh y (hin y (by simp)) hyd b e he
     ·cases hz:zG (zrM (iy r.dep jC) [] q) b with
      | none=>rfl
      | some e'=>
       obtain ⟨z,k1,_,k3,k4⟩:=mg hz
       obtain ⟨e2,he2⟩:=eE (M0:=M0) (p:=jC) k1 rfl k4
       rw [h1.1] at he2;cases he2
    ·exact absurd h1 hne
 have nodead:∀ k ∈ bu r.dep rs,∀ b,zG k.new b ≠ some .dead:=by
  intro k hk b hb
  obtain ⟨k0,h0,_,_,_,_,_,h | h⟩:=aj hk
  ·rw [h.2] at hb;simp [zG] at hb
  ·obtain ⟨h1,h2⟩:=h
   subst h2
   exact hnd k h0 h1 b hb
 exact {
  wf:=wf (fun _ h=>h) I.wf
  uniq:=fun y hy z hz e=>by
   obtain ⟨y0,a1,a2,a3,a4,a5,a6,a7⟩:=aj hy
   obtain ⟨z0,b1,b2,b3,b4,b5,b6,b7⟩:=aj hz
   have:=I.uniq y0 a1 z0 b1 (by rw [<- a2,<- b2,e])
   subst this
   rcases a7 with ⟨c1,c2⟩ | ⟨c1,c2⟩
   ·rcases b7 with ⟨d1,d2⟩ | ⟨d1,d2⟩
    ·cases y;cases z;simp_all
    ·rw [e] at c1;exact absurd c1 d1
   ·rcases b7 with ⟨d1,d2⟩ | ⟨d1,d2⟩
    ·rw [<- e] at d1;exact absurd d1 c1
    ·rw [c2,d2]
  bfs:=fun y hy=>by
   obtain ⟨y0,a1,a2,_⟩:=aj hy
   rw [a2];exact I.bfs y0 a1
  deps:=fun y hy=>by
   obtain ⟨y0,a1,a2,_,_,a5,_⟩:=aj hy
   rw [a2,a5];exact I.deps y0 a1
  trans:=fun y hy=>by
   obtain ⟨y0,a1,a2,_,_,a5,_⟩:=aj hy
   rw [a5];exact I.trans y0 a1
  irr:=fun y hy=>by
   obtain ⟨y0,a1,a2,_,_,a5,_⟩:=aj hy
   rw [a2,a5];exact I.irr y0 a1
  below:=fun y hy=>by
   obtain ⟨y0,a1,a2,_,_,a5,_⟩:=aj hy
   rw [a5];exact I.below y0 a1
  small:=fun y hy=>by
   obtain ⟨y0,a1,_,a3,_⟩:=aj hy
   rw [a3];exact I.small y0 a1
  pairs:=fun y hy z hz hne=>by
   obtain ⟨y0,a1,a2,a3,a4,a5,a6,_⟩:=aj hy
   obtain ⟨z0,b1,b2,b3,b4,b5,b6,_⟩:=aj hz
   have:=I.pairs y0 a1 z0 b1 (by rw [<- a2,<- b2];exact hne)
   unfold aIS at this ⊢
   rw [a2,a3,a5,a6,b2,b3,b5,b6];exact this
  safe:=fun y _ k hk _ _ _ b hb=>absurd hb (nodead k hk b)
  kill:=fun k hk b hb=>absurd hb (nodead k hk b)
  t0:=fun s=>(I.t0 s).mono up0
  m0:=fun b e he=>by
   cases hx:zG E b with
   | some e'=>
    rw [zan hx] at he
    simp only [zoI] at he;subst he
    exact hn b e' hx
   | none=>
    rw [zao hx] at he
    exact (ht b e he).mono base
  defers:=hdf
  done:=fun j hj=>(am hj).elim (fun h=>by rw [h];exact I.bfs r hr) (I.done j)
  base:=fun j hj=>by
   rcases I.base j hj with h | ⟨y,h1,h2⟩
   ·exact Or.inl (aO h)
   ·obtain ⟨y1,k1,k2,_⟩:=mo (dp:=r.dep) h1
    exact Or.inr ⟨y1,k1,by rw [k2,h2]⟩
  clos:=fun j hj k hk=>by
   rcases am hj with h | h
   ·subst h
    rw [<- I.deps r hr] at hk
    exact aO (hd k hk)
   ·exact aO (I.clos j h k hk)
  mem:=by
   refine hm.congr fun b=>?_
   rw [iW]
   have h1:zrM (jk p r.ix) M0 rs = zrM (jk p r.ix) M0 rs:=rfl
   have h2:=jy I.wf I.uniq I.closed hr hi b
   rw [hnew,List.nil_append] at h2
   have h3:=nZ (M0:=M0) (dp:=r.dep) (q:=jk p r.ix) (fun j hj=>aO (hd j hj)) b I.wf hcl
   cases hx:zG E b with
   | some e=>
    rw [zan hx,zao,zan hx]
    cases hy:zG (zrM (iy r.dep (jk p r.ix)) [] rs) b with
    | none=>rfl
    | some e'=>
     obtain ⟨z,k1,_,k3,k4⟩:=mg hy
     rw [hE b e hx z k1 k3] at k4;cases k4
   | none=>
    rw [zao hx,<- h2,h3,aR,aR,zao hx]
  sz:=by
   rw [ha]
   unfold Act.put
   cases r.dst with
   | none=>exact I.sz
   | some d=>simp only [Array.size_setIfInBounds];exact I.sz
  slot0:=fun s hs=>by
   have hs':∀ y ∈ rs,jk p r.ix y.ix = true->y.dst ≠ some s:=fun y hy hp=>by
    obtain ⟨y1,k1,k2,k3,_⟩:=mo (dp:=r.dep) hy
    rw [<- k3];exact hs y1 k1 (by rw [k2];exact hp)
   have h1:=hs' r hr (ay _ _)
   rw [hput s h1]
   exact (I.slot0 s fun r' hr' hp'=>hs' r' hr' (aO hp')).le hle
  slotr:=fun y hy hp'=>by
   obtain ⟨y0,a1,a2,a3,a4,a5,a6,a7⟩:=aj hy
   rw [a2] at hp'
   rw [a2,a3,a4,a5]
   have hnews:∀ b e,zG y.new b = some e->zG y0.new b = some e:=fun b e he=>by
    rcases a7 with ⟨_,h⟩ | ⟨_,h⟩
    ·rw [h] at he;simp [zG] at he
    ·rw [<- h];exact he
   rcases am hp' with h | h
   ·have:=I.uniq y0 a1 r hr h;subst this
    refine ⟨fun d hds=>?_,fun b e he=>?_⟩
    ·rw [hput2 d hds]
     refine ⟨(hx d hds).1,(hx d hds).2.mono fun b e he=>dZ he⟩
    ·have:=hnews b e he
     rw [hnew] at this;simp [zG] at this
   ·have hne:y0.ix ≠ r.ix:=fun e=>by rw [e,hi] at h;cases h
    obtain ⟨k1,k2⟩:=I.slotr y0 a1 h
    refine ⟨fun d hds=>?_,fun b e he=>(k2 b e (hnews b e he)).mono (up _)⟩
    rw [hput d ((I.pairs y0 a1 r hr hne).2.2 d hds)]
    exact ⟨(k1 d hds).1.le hle,(k1 d hds).2.mono (up _)⟩ }
end
def zdA:List (List Nat)->Nat->List Nat
 | [],_=>[]
 | d :: _,0=>d
 | _ :: r,i + 1=>zdA r i
def jn:List Operand->List Nat
 | []=>[]
 | .tmp t :: r=>t :: jn r
 | _ :: r=>jn r
def aPT (ops:List Oper) (o:Oper):List Nat:=
 match o.guard with
 | none=>[]
 | some (j,_)=>match zgS ops j with
  | none=>[]
  | some d=>[d]
def aM (ops:List Oper) (o:Oper):List Nat:=aPT ops o ++ jn o.op.operands.toList
inductive GV where
 | bad | run | skip
 | split (p:Prop)
 | splitN (p:Prop)
def tW (ops:List Oper) (dp:List Nat) (o:Oper) (T:Tm):GV:=
 match o.guard with
 | none=>.run
 | some (j,want)=>bif dw j dp then match zgS ops j with
   | none=>.bad
   | some d=>match zX T d with
    | .tt=>bif want then .run else .skip
    | .ff=>bif want then .skip else .run
    | .bool p=>bif want then .split p else .splitN p
    | .tup []=>.skip
    | _=>.bad
  else .bad
def xf (g:GV) (A B:Prop):Prop:=
 match g with
 | .bad=>False
 | .run=>A
 | .skip=>B
 | .split p=>zB p A B
 | .splitN p=>zB p B A
def fB (ops:List Oper) (o:Oper) (T:Tm) (b:Bool):Prop:=
 match o.guard with
 | none=>b = true
 | some (j,want)=>∃ d,zgS ops j = some d/\match zX T d with
  | .tt=>b = want
  | .ff=>b = !want
  | .bool p=>(p ↔ b = want)
  | .tup []=>b = false
  | _=>False
theorem oU  (h:xf (tW ops dp o T) A B):∃ b,fB ops o T b/\(b = true->A)/\(b = false->B):=by
 unfold tW at h
 unfold fB
 split at h
 ·exact ⟨true,rfl,fun _=>h,(fun h=>by cases h)⟩
 ·rename_i j want hg
  cases hm:dw j dp with
  | false=>rw [hm,zcF] at h;exact h.elim
  | true=>
   rw [hm,zcT] at h
   split at h
   ·exact h.elim
   ·rename_i d hd
    split at h
    ·rename_i hT
     cases want with
     | true=>exact ⟨true,⟨d,hd,by rw [hT]⟩,fun _=>h,(fun h=>by cases h)⟩
     | false=>exact ⟨false,⟨d,hd,by rw [hT]⟩,(fun h=>by cases h),fun _=>h⟩
    ·rename_i hT
     cases want with
     | true=>exact ⟨false,⟨d,hd,by rw [hT];rfl⟩,(fun h=>by cases h),fun _=>h⟩
     | false=>exact ⟨true,⟨d,hd,by rw [hT];rfl⟩,fun _=>h,(fun h=>by cases h)⟩
    ·rename_i p hT
     rcases Classical.em p with hp | hp
     ·cases want with
      | true=>exact ⟨true,⟨d,hd,by rw [hT];simp [hp]⟩,fun _=>zB.yes h hp,(fun h=>by cases h)⟩
      | false=>exact ⟨false,⟨d,hd,by rw [hT];simp [hp]⟩,(fun h=>by cases h),fun _=>zB.yes h hp⟩
     ·cases want with
      | true=>exact ⟨false,⟨d,hd,by rw [hT];simp [hp]⟩,(fun h=>by cases h),fun _=>zB.no h hp⟩
      | false=>exact ⟨true,⟨d,hd,by rw [hT];simp [hp]⟩,fun _=>zB.no h hp,(fun h=>by cases h)⟩
    ·rename_i hT
     exact ⟨false,⟨d,hd,by rw [hT]⟩,(fun h=>by cases h),fun _=>h⟩
    ·exact h.elim
theorem sB  (hc:bH N ρ T M a w)  (hall:ou N ops = true)  (h:fB ops o T b):Region.wanted o (yielded ops.toArray a.tmps) = b:=by
 unfold fB at h
 split at h
 ·rename_i hg;subst h;simp [Region.wanted,hg]
 ·rename_i j want hg
  obtain ⟨d,hd,h⟩:=h
  have hdN:d < N:=by
   unfold zgS at hd
   split at hd
   ·rename_i o' ho'
    exact ew hall (List.mem_of_getElem? ho') d hd
   ·cases hd
  have hw:∀ {b:Bool},a.tmps.getD d undef = .bool b->Region.wanted o (yielded ops.toArray a.tmps) = (b == want):=by
   intro b hb
   have:=pj hc hd hdN hb
   simp only [Region.wanted,hg,this]
   cases b <;> cases want <;> rfl
  have hT:=hc.tm d
  split at h
  ·rename_i he;rw [he] at hT;rw [h]
   rw [hw (b:=true) hT];cases want <;> rfl
  ·rename_i he;rw [he] at hT;rw [h]
   rw [hw (b:=false) hT];cases want <;> rfl
  ·rename_i p he;rw [he] at hT
   obtain ⟨b',hb,hbp⟩:=hT
   rw [hw hb]
   have e:=hbp.trans h
   clear hw h hbp hb he hg
   revert e
   cases b' <;> cases b <;> cases want <;> simp
  ·rename_i he;rw [he] at hT;rw [h]
   exact pl hg hd (hT.elim fun xs hx=>by have h1:=hx.1;have h2:=hx.2;simp only [ma] at h1;subst h1;exact h2)
  ·exact h.elim
def kD (ty:Nat->Ty) (o:Oper):Nat:=
 match o.op with
 | .alloc _=>1
 | .box _ _=>1
 | .makeSlice _ _ _=>1
 | .buildSlice _ _ _=>1
 | .makeMap _ _=>1
 | .mapUpdate _ _ _ _=>2
 | .store _ _ _=>2
 | .convert _ t _=>match (ty t).k with
  | .slice _=>2
  | _=>0
 | .call c=>match c.callee with
  | .builtin b=>match aJZ b with
   | true=>2
   | false=>match xY b with
    | true=>2
    | false=>0
  | _=>2
 | _=>0
def aO7 (Γ:Cfg) (o:Oper) (T:Tm):Option (List Prop × Nat × Ent × SV):=
 match o.op with
 | .alloc t=>match o.dst with
  | some d=>match (Γ.ty t).k with
   | .bad=>none
   | _=>match (Γ.ty t).zl with
    | []=>none
    | zl=>some ([],d,.mem true 0 zl,.ptr d 0 none)
  | none=>none
 | .box t x=>match o.dst with
  | some d=>match gP (Γ.ty t) (ev T x) with
   | some (qs,ls)=>some (qs,d,.mem true 0 ls,.ptr d 0 none)
   | none=>none
  | none=>none
 | .makeSlice t l c=>match o.dst with
  | some d=>match zI Γ.ty T d t l c with
   | some (qs,e,v)=>some (qs,d,e,v)
   | none=>none
  | none=>none
 | .buildSlice t len parts=>bif vK len parts.toList then match o.dst with
   | some d=>match bsV Γ.ty T d t len parts.toList with
    | some (qs,e,v)=>some (qs,d,e,v)
    | none=>none
   | none=>none
  else none
 | .makeMap _ r=>match r with
  | none=>match o.dst with
   | some d=>some ([],d,.map (.si []),.mp d)
   | none=>none
  | some _=>none
 | _=>none
theorem aC8  (h:zI ty T d t l c = some (ps,e,v)):e.zW = true:=by
 unfold zI at h
 split at h
 ·split at h
  ·cases h
  ·split at h
   ·split at h
    ·split at h
     ·split at h
      ·simp only [zoI,zpI] at h;obtain ⟨_,rfl,_⟩:=h;rfl
      ·cases h
     rcases zs h with ⟨_,h⟩ | ⟨_,h⟩
     ·simp only [zoI,zpI] at h;obtain ⟨_,rfl,_⟩:=h;rfl
     ·split at h
      ·simp only [zoI,zpI] at h;obtain ⟨_,rfl,_⟩:=h;rfl
      ·cases h
    ·cases h
   ·cases h
 ·cases h
theorem aM1  (h:bsV ty T d t len parts = some (ps,e,v)):e.zW = true:=by
 unfold bsV at h
 split at h
 ·split at h
  ·cases h
  ·replace h:=(zn h).2
   split at h
   ·simp only [zoI,zpI] at h;obtain ⟨_,rfl,_⟩:=h;rfl
   ·cases h
 ·cases h
def ja (o:Option Ent):Bool:=
 match o with
 | none=>true
 | some _=>false
def yI (M0:Mm) (rs:List Rec) (dp:List Nat) (k:Nat):List Rec->Bool
 | []=>true
 | x :: q=>(dw x.ix dp || (ja (zG x.new k) && ja (zG (zrM (inB x.dep) M0 rs) k))) && yI M0 rs dp k q
def tX (M0:Mm) (rs:List Rec) (dp:List Nat):Mm->Bool
 | []=>true
 | (k,e) :: r=>(match zG (zrM jC M0 rs) k with
  | none=>(match e with
   | .dead=>false
   | .mem own sp _=>own || sp != 0
   | .map _=>true)
  | some _=>(match e with
   | .dead=>!ja (zG (zrM (inB dp) M0 rs) k) && yI M0 rs dp k rs
   | _=>false)) && tX M0 rs dp r
def xH (M:Mm):Mm->Bool
 | []=>true
 | (a,e) :: r=>(match e with
  | .dead=>ja (zG M a)
  | _=>true) && xH M r
def uw (M0:Mm) (rs:List Rec) (dp:List Nat):List Rec->Bool
 | []=>true
 | k :: q=>(dw k.ix dp || xH (zrM (inB dp) M0 rs) k.new) && uw M0 rs dp q
theorem dh  (h:ja o = true):o = none:=by
 cases o with
 | none=>rfl
 | some _=>cases h
theorem nr:∀ {E:Mm},xH M E = true->∀ a,zG E a = some .dead->zG M a = none
 | [],_,_,h=>by simp [zG] at h
 | (k,e) :: r,hn,a,h=>by
  simp only [xH,zbA] at hn
  by_cases hk:a = k
  ·subst hk
   rw [zh] at h
   simp only [zoI] at h;subst h
   exact dh hn.1
  ·rw [zg hk] at h
   exact nr hn.2 a h
theorem kc:∀ {q:List Rec},uw M0 rs dp q = true->∀ k ∈ q,k.ix ∉ dp->∀ a,zG k.new a = some .dead->zG (zrM (inB dp) M0 rs) a = none
 | [],_,_,h=>by simp at h
 | x :: t,hs,k,hk=>by
  simp only [uw,zbA,or_eq_true] at hs
  rcases List.mem_cons.1 hk with hk' | hk'
  ·subst hk'
   intro hn a ha
   exact nr (hs.1.resolve_left fun h=>hn (zmi.1 h)) a ha
  ·exact kc hs.2 k hk'
theorem pD:∀ {q:List Rec},yI M0 rs dp a q = true->∀ x ∈ q,x.ix ∉ dp->zG x.new a = none/\zG (zrM (inB x.dep) M0 rs) a = none
 | [],_,_,h=>by simp at h
 | y :: t,hs,x,hx=>by
  simp only [yI,zbA,or_eq_true] at hs
  rcases List.mem_cons.1 hx with hx' | hx'
  ·subst hx'
   intro hn
   have:=hs.1.resolve_left fun h=>hn (zmi.1 h)
   exact ⟨dh this.1,dh this.2⟩
  ·exact pD hs.2 x hx'
@[irreducible] def dC (M M':Mm) (ok:Mm->Bool) (X:Mm->Prop) (ok2:Mm->Bool) (Y:Prop):Prop:=(∃ E,M' = E ++ M/\ok E = true/\X E) \/ ∃ E,M' = E ++ M/\ok2 E = true/\Y
theorem dC.intro  (E:Mm) (h1:M' = E ++ M) (h2:ok E = true) (h3:X E):dC M M' ok X ok2 Y:=by unfold dC;exact Or.inl ⟨E,h1,h2,h3⟩
def pZ (M M':Mm):Mm:=M'.take (M'.length - M.length)
theorem dC.auto  (h1:M' = pZ M M' ++ M) (h2:ok (pZ M M') = true) (h3:zfM (pZ M M') X):dC M M' ok X ok2 Y:=by
 unfold dC;rw [fp] at h3;exact Or.inl ⟨_,h1,h2,h3⟩
theorem dC.turn  (h1:M' = pZ M M' ++ M) (h2:ok2 (pZ M M') = true) (h3:Y):dC M M' ok X ok2 Y:=by
 unfold dC;exact Or.inr ⟨_,h1,h2,h3⟩
def qJ (d:Option Nat) (l:List Nat):Bool:=
 match d with
 | none=>true
 | some s=>!dw s l
def aIC (d e:Option Nat):Bool:=
 match d,e with
 | some x,some y=>!beq x y
 | _,_=>true
def t8 (o:Oper):Bool:=
 match o.op with
 | .move _=>true
 | .assign _=>true
 | .extract _ _=>true
 | .pick _ _ _=>true
 | _=>false
def aPO (o:Oper):Bool:=
 match o.op with
 | .select _ _=>true
 | _=>false
def xG:List Oper->Bool
 | []=>true
 | o :: r=>!aPO o && xG r
def aHE (i:Nat):List Nat->Bool
 | []=>true
 | k :: r=>blt k i && aHE i r
def sC (i:Nat):List Edge->Bool
 | []=>false
 | e :: r=>(Region.binds .any e && beq e.on i) || sC i r
def aFJ (ops:List Oper) (x y:Oper):Bool:=qJ x.dst (aM ops y) && (aIC x.dst y.dst && qJ y.dst (aM ops x))
def ms (ops:List Oper) (dp:List Nat) (i:Nat) (o:Oper) (j:Nat):List Oper->Bool
 | []=>true
 | oj :: r=>(beq j i || (dw j dp || (sC i oj.after.toList || aFJ ops o oj))) && ms ops dp i o (j + 1) r
def kN (ops:List Oper) (dep:List (List Nat)) (i:Nat):Bool:=
 match ops[i]? with
 | none=>false
 | some o=>t8 o && (aHE i (zdA dep i) && (ms ops (zdA dep i) i o 0 ops && xG ops))
def aQ4 (ops:List Oper) (dep:List (List Nat)) (dp:List Nat):List Rec->Bool
 | []=>true
 | r :: q=>(dw r.ix dp || kN ops dep r.ix) && aQ4 ops dep dp q
def pE (ops:List Oper) (i:Nat):Bool:=
 match ops[i]? with
 | some o=>(match o.op with
  | .alloc _=>(match o.guard with
   | none=>true
   | some _=>false)
  | _=>false)
 | none=>false
def tL (ops:List Oper) (dep:List (List Nat)) (dp:List Nat):List Rec->List Rec
 | []=>[]
 | r :: q=>bif dw r.ix dp || kN ops dep r.ix then tL ops dep dp q else r :: tL ops dep dp q
def j5 (i:Nat):List Rec->Bool
 | []=>true
 | r :: q=>!dw i r.dep && j5 i q
def aG3 (M:Mm):Mm->Bool
 | []=>true
 | (k,e) :: r=>ja (zG M k) && e.zW && aG3 M r
def aW3 (o:Oper):Bool:=
 match o.op with
 | .call c=>(match c.callee with
  | .value _=>true
  | _=>false)
 | .store _ _ _=>true
 | _=>false
def yu (ty:Nat->Ty) (ops:List Oper) (i:Nat):Bool:=
 match ops[i]? with
 | some o=>(match o.guard with
  | none=>beq (kD ty o) 0
  | some _=>false)
 | none=>false
def xP (ty:Nat->Ty) (ops:List Oper) (dp:List Nat) (rs:List Rec):List Rec->Bool
 | []=>true
 | x :: q=>((pE ops x.ix || yu ty ops x.ix) && (!dw x.ix dp && j5 x.ix rs)) && xP ty ops dp rs q
def aUT (i:Nat) (l:List Nat):Bool:=
 match l with
 | []=>true
 | x :: r=>dw i (x :: r)
def aDE (ty:Nat->Ty) (i:Nat) (o:Oper) (ops:List Oper) (dep:List (List Nat)) (dp:List Nat) (rs:List Rec):Option (List Rec):=
 bif blt ops.length dep.length && (aW3 o && aUT i (zdA dep ops.length)) then (bif xP ty ops dp rs (tL ops dep dp rs) then some (tL ops dep dp rs) else none) else none
def ry (S:List Rec) (j:Nat):Bool:=
 match S with
 | []=>true
 | x :: r=>!beq j x.ix && ry r j
def kC (Γ:Cfg) (ops:List Oper) (T:Tm) (M:Mm) (next:Tm->Mm->List Rec->Prop) (S acc:List Rec):Prop:=
 match S with
 | []=>next T M acc
 | x :: r=>bif ry acc x.ix then (bif pE ops x.ix then (bif aG3 (zrM jC M acc) x.new then kC Γ ops T M next r (x :: acc) else False) else (match ops[x.ix]? with
  | some o=>match gr Γ.ty (zre T (aM ops o)) M o.op with
   | some (qs,v)=>zwP qs (kC Γ ops T M next r (⟨x.ix,x.dst,v,[],x.dep,aM ops o⟩ :: acc))
   | none=>False
  | none=>False)) else False
def rY (Γ:Cfg) (ops:List Oper) (o:Oper) (T0:Tm) (M0:Mm) (rs:List Rec) (next:Tm->Mm->List Rec->Prop) (X S:List Rec):Prop:=
 match X with
 | []=>bm Γ o (dI (ry S) T0 rs) (zrM (ry S) M0 rs) [] fun qs v M'=>zwP qs (kC Γ ops (zt o.dst v (dI (ry S) T0 rs)) M' next S [])
 | x :: r=>rY Γ ops o T0 M0 rs next r S/\rY Γ ops o T0 M0 rs next r (x :: S)
def rR (M:Mm):Bool:=
 match M with
 | []=>true
 | (_,e) :: r=>(match e with
  | .dead=>false
  | _=>true) && rR r
def aF7 (dp:List Nat) (k:Nat) (rs:List Rec):Bool:=
 match rs with
 | []=>true
 | x :: q=>(dw x.ix dp || ja (zG x.new k)) && aF7 dp k q
def aF9 (dp:List Nat) (rs:List Rec):Bool:=
 match rs with
 | []=>true
 | x :: q=>(dw x.ix dp || rR x.new) && aF9 dp q
def aF8 (dp:List Nat) (rs:List Rec) (E:Mm):Bool:=
 match E with
 | []=>true
 | (k,e) :: r=>e.loose && aF7 dp k rs && aF8 dp rs r
def aGA (dp:List Nat) (rs:List Rec) (E:Mm):Bool:=aF9 dp rs && aF8 dp rs E
def aVW (M:Mm):Bool:=
 match M with
 | []=>true
 | _=>false
def rB (Γ:Cfg) (ops:List Oper) (T0:Tm) (M1:Mm) (rs:List Rec) (dp:List Nat) (l:List Rec) (K:Prop):Prop:=
 match l with
 | []=>K
 | x :: q=>bif dw x.ix dp then rB Γ ops T0 M1 rs dp q K else match ops[x.ix]? with
  | none=>False
  | some o=>xf (tW ops x.dep o (zre (dI (inB x.dep) T0 rs) (aM ops o)))
    (match kD Γ.ty o with
    | 0=>match gr Γ.ty (zre (dI (inB x.dep) T0 rs) (aM ops o)) (zrM (inB x.dep) M1 rs) o.op with
     | some (qs,v)=>bif aVW x.new then zwP ((v = x.v) :: qs) (rB Γ ops T0 M1 rs dp q K) else False
     | none=>False
    | 1=>match aO7 Γ o (zre (dI (inB x.dep) T0 rs) (aM ops o)) with
     | some (qs,d,e,v)=>zwP ((v = x.v) :: ([(d,e)] = x.new) :: qs) (rB Γ ops T0 M1 rs dp q K)
     | none=>False
    | _=>False)
    (zwP [x.v = .tup [],x.new = []] (rB Γ ops T0 M1 rs dp q K))
def yX (Γ:Cfg) (ops:List Oper) (dep:List (List Nat)) (T0:Tm) (M0:Mm) (rs:List Rec) (i:Nat) (o:Oper) (next:Tm->Mm->List Rec->Prop):Prop:=
 match kD Γ.ty o with
 | 0=>match gr Γ.ty (zre (dI (inB (zdA dep i)) T0 rs) (aM ops o)) (zrM (inB (zdA dep i)) M0 rs) o.op with
  | some (qs,v)=>zwP qs (next T0 M0 (⟨i,o.dst,v,[],zdA dep i,aM ops o⟩ :: rs))
  | none=>False
 | 1=>match aO7 Γ o (zre (dI (inB (zdA dep i)) T0 rs) (aM ops o)) with
  | some (qs,d,e,v)=>match zG (zrM jC M0 rs) d with
   | none=>zwP qs (next T0 M0 (⟨i,o.dst,v,[(d,e)],zdA dep i,aM ops o⟩ :: rs))
   | some _=>False
  | none=>False
 | _=>bif aQ4 ops dep (zdA dep i) rs then
   bm Γ o (dI jC T0 rs) (zrM jC M0 rs) [] fun qs v M'=>zwP qs (next (zt o.dst v (dI jC T0 rs)) M' [])
  else match aDE Γ.ty i o ops dep (zdA dep i) rs with
  | some X=>rY Γ ops o T0 M0 rs next X []
  | none=>
   bm Γ o (zre (dI (inB (zdA dep i)) T0 rs) (aM ops o)) (zrM (inB (zdA dep i)) M0 rs) [] fun qs v M'=>zwP qs
    (dC (zrM (inB (zdA dep i)) M0 rs) M' (tX M0 rs (zdA dep i)) (fun E=>next T0 M0 (⟨i,o.dst,v,E,zdA dep i,aM ops o⟩ :: rs)) (aGA (zdA dep i) rs)
     (rB Γ ops T0 M' (bu (zdA dep i) rs) (zdA dep i) (bu (zdA dep i) rs) (next T0 M' (⟨i,o.dst,v,[],zdA dep i,aM ops o⟩ :: bu (zdA dep i) rs))))
def cj (Γ:Cfg) (ops:List Oper) (dep:List (List Nat)) (T0:Tm) (M0:Mm) (rs:List Rec) (ord:List Nat) (K:Tm->Mm->Prop):Prop:=
 match ord with
 | []=>K (dI jC T0 rs) (zrM jC M0 rs)
 | i :: r=>match ops[i]? with
  | none=>False
  | some o=>bif uw M0 rs (zdA dep i) rs then xf (tW ops (zdA dep i) o (zre (dI (inB (zdA dep i)) T0 rs) (aM ops o)))
    (yX Γ ops dep T0 M0 rs i o fun T M q=>cj Γ ops dep T M q r K)
    (cj Γ ops dep T0 M0 (⟨i,o.dst,.tup [],[],zdA dep i,aM ops o⟩ :: rs) r K) else False
def aCK (ops:List Oper) (dep:List (List Nat)) (i j:Nat) (oi oj:Oper):Bool:=
 (dw j (zdA dep i) || (qJ oi.dst (aM ops oj) && qJ oj.dst (aM ops oi))) && aIC oi.dst oj.dst
def jz (ty:Nat->Ty) (ops:List Oper) (dep:List (List Nat)):List Nat->List Nat->Bool
 | _,[]=>true
 | bf,i :: r=>(match ops[i]? with
  | none=>false
  | some o=>!dw i bf && (zdA dep i).all (fun k=>dw k bf) && (blt (kD ty o) 2 || r.all fun j=>dw i (zdA dep j)) &&
   bf.all fun j=>match ops[j]? with
    | some oj=>aCK ops dep i j o oj
    | none=>false) && jz ty ops dep (i :: bf) r
def aEU (ops:List Oper) (dep:List (List Nat)):Bool:=
 (List.range ops.length).all fun i=>match ops[i]? with
  | none=>false
  | some o=>(o.after.toList.all fun e=>!Region.binds .any e || (blt e.on i && dw e.on (zdA dep i))) &&
   ((zdA dep i).all fun j=>o.after.toList.any fun e=>Region.binds .any e && (beq e.on j || dw j (zdA dep e.on))) &&
   (zdA dep i).all fun k=>(zdA dep k).all fun j=>dw j (zdA dep i)
def u6 (ty:Nat->Ty) (ops:List Oper) (dep:List (List Nat)) (ord:List Nat):Bool:=
 aEU ops dep && jz ty ops dep [] ord && (List.range ops.length).all fun j=>dw j ord
@[irreducible] def aI (Γ:Cfg) (id:Nat) (ops:List Oper) (T:Tm) (M:Mm) (K:Tm->Mm->Prop):Prop:=
 ∃ dep ord,u6 Γ.ty ops dep ord = true/\cj Γ ops dep T M [] ord K
theorem aI.intro {Γ:Cfg} {id:Nat} {ops:List Oper} {T:Tm} {M:Mm} {K:Tm->Mm->Prop} (dep:List (List Nat)) (ord:List Nat) (h:u6 Γ.ty ops dep ord = true) (k:cj Γ ops dep T M [] ord K) :
  aI Γ id ops T M K:=by unfold aI;exact ⟨dep,ord,h,k⟩
theorem fm  (h:dw a l = false):a ∉ l:=fun hm=>by rw [zmi.2 hm] at h;cases h
theorem gI  (h:qJ d l = true):∀ s,d = some s->s ∉ l:=by
 intro s hs
 subst hs
 simp only [qJ,not_eq_true'] at h
 exact fm h
theorem qd  (h:aIC d e = true):∀ s,d = some s->e ≠ some s:=by
 intro s hs he
 subst hs;subst he
 simp only [aIC,not_eq_true'] at h
 rw [show beq s s = true from Nat.beq_refl s] at h
 cases h
theorem jN  (h:jz ty ops dep bf (i :: r) = true):∃ o,ops[i]? = some o/\i ∉ bf/\(∀ k ∈ zdA dep i,k ∈ bf) /\
  (kD ty o < 2 \/ ∀ j ∈ r,i ∈ zdA dep j)/\(∀ j ∈ bf,∀ oj,ops[j]? = some oj->aCK ops dep i j o oj = true)/\jz ty ops dep (i :: bf) r = true:=by
 simp only [jz,zbA] at h
 obtain ⟨h1,h2⟩:=h
 split at h1
 ·cases h1
 ·rename_i o ho
  simp only [zbA,or_eq_true,not_eq_true',List.all_eq_true] at h1
  obtain ⟨⟨⟨a1,a2⟩,a3⟩,a4⟩:=h1
  refine ⟨o,ho,fm a1,fun k hk=>zmi.1 (a2 k hk),a3.imp aw fun h j hj=>zmi.1 (h j hj),fun j hj oj hoj=>?_,h2⟩
  have:=a4 j hj
  rw [hoj] at this
  exact this
theorem aCJ  (h:aCK ops dep i j oi oj = true):
  aIS ⟨i,oi.dst,v,n,zdA dep i,aM ops oi⟩ ⟨j,oj.dst,v',n',zdA dep j,aM ops oj⟩:=by
 simp only [aCK,zbA,or_eq_true] at h
 refine ⟨fun s h1 h2=>?_,fun s h1 h2=>?_,qd h.2⟩
 ·rcases h.1 with h | h
  ·exact Or.inl (zmi.1 h)
  ·exact absurd h2 (gI h.2 s h1)
 ·rcases h.1 with h | h
  ·exact Or.inr (zmi.1 h)
  ·exact absurd h2 (gI h.1 s h1)
theorem lg  (hk:kD Γ.ty o = 0) (h:gr Γ.ty T M o.op = some (qs,v)) (k:K (qs ++ []) v M):
    bm Γ o T M [] K:=by
  unfold bm
  unfold kD at hk
  split
  · rename_i hop;rw [hop] at hk;cases hk
  · rename_i hop;rw [hop] at hk;cases hk
  · rename_i hop;rw [hop] at hk;cases hk
  · rename_i hop;rw [hop] at hk;cases hk
  · rename_i hop;rw [hop] at hk;cases hk
  · rename_i hop;rw [hop] at hk;cases hk
  · rename_i hop;rw [hop] at hk;cases hk
  · rename_i s t x hop
    simp only [hop] at hk
    split
    · rename_i e he;rw [he] at hk;cases hk
    · rw [h];exact k
  · rename_i c hop
    rw [hop] at hk
    split
    · rename_i hc;simp only [hc] at hk;cases hk
    · rename_i b hb
      simp only [hb] at hk
      split
      · rename_i hcp;rw [hcp] at hk;cases hk
      · rename_i hcp
        rw [hcp] at hk
        split
        · rename_i hap;rw [hap] at hk;cases hk
        · rw [h];exact k
    · rename_i h1 h2
      simp only at hk
      first
        | cases hk
        | (split at hk
           · rename_i b hb;exact (h2 b hb).elim
           · cases hk)
  · rw [h];exact k
theorem oq  (h:aO7 Γ o T = some (qs,d,e,v)) (hm:zG M d = none)
  (k:K (qs ++ []) v ((d,e) :: M)):bm Γ o T M [] K/\e.zW = true:=by
 unfold aO7 at h
 split at h
 ·rename_i t hop
  split at h
  ·rename_i d' hd
   split at h
   ·cases h
   ·rename_i hk
    split at h
    ·cases h
    ·rename_i zl hz
     simp only [zoI,zpI] at h;obtain ⟨rfl,rfl,rfl,rfl⟩:=h
     refine ⟨?_,rfl⟩
     unfold bm
     simp only [hop,hd,hm]
     exact k
  ·cases h
 ·rename_i t x hop
  split at h
  ·rename_i d' hd
   split at h
   ·rename_i ps ls hl
    simp only [zoI,zpI] at h;obtain ⟨rfl,rfl,rfl,rfl⟩:=h
    refine ⟨?_,rfl⟩
    unfold bm
    simp only [hop,hd,hm,hl]
    exact k
   ·cases h
  ·cases h
 ·rename_i t l c hop
  split at h
  ·rename_i d' hd
   split at h
   ·rename_i ps e' v' hv
    simp only [zoI,zpI] at h;obtain ⟨rfl,rfl,rfl,rfl⟩:=h
    refine ⟨?_,aC8 hv⟩
    unfold bm
    simp only [hop,hd,hm,hv]
    exact k
   ·cases h
  ·cases h
 ·rename_i t len parts hop
  have hn:=(zn h).1
  replace h:=(zn h).2
  split at h
  ·rename_i d' hd
   split at h
   ·rename_i ps e' v' hv
    simp only [zoI,zpI] at h;obtain ⟨rfl,rfl,rfl,rfl⟩:=h
    refine ⟨?_,aM1 hv⟩
    unfold bm
    simp only [hop,hd,hm,hv,hn,zcT]
    exact k
   ·cases h
  ·cases h
 ·rename_i t r hop
  split at h
  ·split at h
   ·rename_i d' hd
    simp only [zoI,zpI] at h;obtain ⟨rfl,rfl,rfl,rfl⟩:=h
    refine ⟨?_,rfl⟩
    unfold bm
    simp only [hop,hd,hm]
    exact k
   ·cases h
  ·cases h
 ·cases h
theorem je:∀ {E:Mm},tX M0 rs dp E = true->∀ a e,zG E a = some e ->
  (zG (zrM jC M0 rs) a = none/\e.loose = true/\e ≠ .dead) \/ (e = .dead/\(∃ e0,zG (zrM (inB dp) M0 rs) a = some e0)/\∀ x ∈ rs,x.ix ∉ dp->zG x.new a = none/\zG (zrM (inB x.dep) M0 rs) a = none)
 | [],_,_,_,h=>by simp [zG] at h
 | (k,e0) :: r,hf,a,e,h=>by
  simp only [tX,zbA] at hf
  obtain ⟨h1,h3⟩:=hf
  by_cases hk:a = k
  ·subst hk
   rw [zh] at h
   simp only [zoI] at h;subst h
   split at h1
   ·rename_i hn
    left
    refine ⟨hn,?_⟩
    split at h1
    ·cases h1
    ·exact ⟨h1,by simp⟩
    ·exact ⟨rfl,by simp⟩
   ·right
    split at h1
    ·simp only [zbA,not_eq_true'] at h1
     refine ⟨rfl,?_,pD h1.2⟩
     cases hx:zG (zrM (inB dp) M0 rs) a with
     | none=>rw [hx] at h1;cases h1.1
     | some e0=>exact ⟨e0,rfl⟩
    ·cases h1
  ·rw [zg hk] at h
   exact je h3 a e h
theorem kJ  (h:aEU ops dep = true)  (ho:ops[i]? = some o):
  (∀ e ∈ o.after,Region.binds .any e = true->e.on < i/\e.on ∈ zdA dep i)/\(∀ j ∈ zdA dep i,∃ e ∈ o.after,Region.binds .any e = true/\(e.on = j \/ j ∈ zdA dep e.on)) /\
  ∀ k ∈ zdA dep i,∀ j ∈ zdA dep k,j ∈ zdA dep i:=by
 have hlt:=(List.getElem?_eq_some_iff.1 ho).1
 have:=List.all_eq_true.1 h i (List.mem_range.2 hlt)
 rw [ho] at this
 simp only [zbA,List.all_eq_true,or_eq_true,not_eq_true',List.any_eq_true] at this
 obtain ⟨⟨h1,h2⟩,h3⟩:=this
 refine ⟨fun e he hb=>?_,fun j hj=>?_,fun k hk j hj=>zmi.1 (h3 k hk j hj)⟩
 ·rcases h1 e (by simpa using he) with h | h
  ·rw [hb] at h;cases h
  ·exact ⟨aw h.1,zmi.1 h.2⟩
 ·obtain ⟨e,he,hb,hj⟩:=h2 j hj
  exact ⟨e,by simpa using he,hb,hj.imp zq zmi.1⟩
def aRE (Γ:Cfg) (ops:List Oper) (r:Rec) (T:Tm) (M:Mm):Prop:=
 ∃ o b,ops[r.ix]? = some o/\fB ops o T b/\o.dst = r.dst/\(b = true->bm Γ o T M [] fun qs v M'=>All qs/\v = r.v/\M' = r.new ++ M)/\(b = false->r.v = .tup []/\r.new = [])
structure St (Γ:Cfg) (N:Nat) (ops:List Oper) (dep:List (List Nat)) (K:Tm->Mm->Prop) (bf:List Nat) (T0:Tm) (M0:Mm) (rs:List Rec) (ord:List Nat) (p:Nat->Bool) (ρ:Env) (a:Act) (w:World):Prop where
 I:Inv N (zdA dep) bf T0 M0 rs p ρ a w
 hops:∀ r ∈ rs,∃ o,ops[r.ix]? = some o/\r.dst = o.dst/\r.rd = aM ops o
 facts:∀ r ∈ rs,p r.ix = false->aRE Γ ops r (zre (dI (inB r.dep) T0 rs) r.rd) (zrM (inB r.dep) M0 rs)
 F:cj Γ ops dep T0 M0 rs ord K
 plan:jz Γ.ty ops dep bf ord = true
 cover:∀ j,j < ops.length->j ∈ bf \/ j ∈ ord
section
variable {Γ:Cfg} {N:Nat} {ops:List Oper} {dep:List (List Nat)} {K:Tm->Mm->Prop} {bf:List Nat} {T0:Tm} {M0:Mm} {rs:List Rec} {ord:List Nat} {p:Nat->Bool} {ρ:Env} {a:Act} {w:World}
theorem St.pairs (S:St Γ N ops dep K bf T0 M0 rs ord p ρ a w)  (h:∀ j ∈ bf,∀ oj,ops[j]? = some oj->aCK ops dep i j o oj = true):
  ∀ r ∈ rs,aIS ⟨i,o.dst,v,n,zdA dep i,aM ops o⟩ r:=by
 intro r hr
 obtain ⟨oj,h1,h2,h3⟩:=S.hops r hr
 have:=aCJ (v:=v) (n:=n) (v':=r.v) (n':=r.new) (h r.ix (S.I.bfs r hr) oj h1)
 rw [<- h2,<- h3,<- S.I.deps r hr] at this
 exact this
theorem St.push (hd:aEU ops dep = true) (hdst:ou N ops = true)  (S:St Γ N ops dep K bf T0 M0 rs (i :: r) p ρ a w)  (ho:ops[i]? = some o)  (hg:fB ops o (zre (dI (inB (zdA dep i)) T0 rs) (aM ops o)) b)
  (hfr:aLD M0 rs ⟨i,o.dst,v,n,zdA dep i,aM ops o⟩) (hsf:∀ k ∈ rs,k.ix ∉ zdA dep i->∀ a,zG k.new a = some .dead->zG (zrM (inB (zdA dep i)) M0 rs) a = none)
  (hf:b = true->bm Γ o (zre (dI (inB (zdA dep i)) T0 rs) (aM ops o)) (zrM (inB (zdA dep i)) M0 rs) [] fun qs v' M'=>All qs/\v' = v/\M' = n ++ zrM (inB (zdA dep i)) M0 rs)
  (hs:b = false->v = .tup []/\n = [])
  (hF:cj Γ ops dep T0 M0 (⟨i,o.dst,v,n,zdA dep i,aM ops o⟩ :: rs) r K):
  St Γ N ops dep K (i :: bf) T0 M0 (⟨i,o.dst,v,n,zdA dep i,aM ops o⟩ :: rs) r p ρ a w/\p i = false:=by
 obtain ⟨o',ho',h1,h2,_,h4,h5⟩:=jN S.plan
 have:o' = o:=Option.some.inj (ho'.symm.trans ho)
 subst this
 have hp:p i = false:=by
  cases h:p i with
  | false=>rfl
  | true=>exact absurd (S.I.done _ h) h1
 refine ⟨⟨S.I.push h1 rfl (kJ hd ho).2.2 h2 (fun d h=>ew hdst (List.mem_of_getElem? ho) d h) (S.pairs h4) hfr hsf,?_,?_,hF,h5,?_⟩,hp⟩
 ·intro x hx
  rcases List.mem_cons.1 hx with hx' | hx'
  ·subst hx';exact ⟨o',ho,rfl,rfl⟩
  ·exact S.hops x hx'
 ·intro x hx hpx
  have hno:inB x.dep i = false:=by
   cases h:inB x.dep i with
   | false=>rfl
   | true=>
    have hm:=zmi.1 h
    rcases List.mem_cons.1 hx with hx' | hx'
    ·subst hx';exact absurd (h2 _ hm) h1
    ·exact absurd (S.I.below x hx' _ hm) h1
  have e1:dI (inB x.dep) T0 (⟨i,o'.dst,v,n,zdA dep i,aM ops o'⟩ :: rs) = dI (inB x.dep) T0 rs:=by simp only [dI,hno,zcF]
  have e2:zrM (inB x.dep) M0 (⟨i,o'.dst,v,n,zdA dep i,aM ops o'⟩ :: rs) = zrM (inB x.dep) M0 rs:=by simp only [zrM,hno,zcF]
  rw [e1,e2]
  rcases List.mem_cons.1 hx with hx' | hx'
  ·subst hx';exact ⟨o',b,ho,hg,rfl,hf,hs⟩
  ·exact S.facts x hx' hpx
 ·intro j hj
  rcases S.cover j hj with h | h
  ·exact Or.inl (mem_cons_of_mem _ h)
  ·rcases List.mem_cons.1 h with h | h
   ·exact Or.inl (by simp [h])
   ·exact Or.inr h
theorem St.advance (hd:aEU ops dep = true) (hdst:ou N ops = true):∀ (ord:List Nat) {bf:List Nat} {rs:List Rec},St Γ N ops dep K bf T0 M0 rs ord p ρ a w ->
  ∃ bf' rs' ord',St Γ N ops dep K bf' T0 M0 rs' ord' p ρ a w/\zrM p M0 rs' = zrM p M0 rs/\(ord' = [] \/ ∃ i r o,ord' = i :: r/\ops[i]? = some o/\2 <= kD Γ.ty o/\uw M0 rs' (zdA dep i) rs' = true/\fB ops o (zre (dI (inB (zdA dep i)) T0 rs') (aM ops o)) true/\yX Γ ops dep T0 M0 rs' i o fun T M q=>cj Γ ops dep T M q r K)
 | [],bf,rs,S=>⟨bf,rs,[],S,rfl,Or.inl rfl⟩
 | i :: r,bf,rs,S=>by
  have F:=S.F
  unfold cj at F
  split at F
  ·exact F.elim
  rename_i o ho
  obtain ⟨hsb,F⟩:uw M0 rs (zdA dep i) rs = true/\xf (tW ops (zdA dep i) o (zre (dI (inB (zdA dep i)) T0 rs) (aM ops o)))
    (yX Γ ops dep T0 M0 rs i o fun T M q=>cj Γ ops dep T M q r K)
    (cj Γ ops dep T0 M0 (⟨i,o.dst,.tup [],[],zdA dep i,aM ops o⟩ :: rs) r K):=by
   rcases be F with h | h
   ·exact h
   ·exact h.2.elim
  have hsf:=kc hsb
  obtain ⟨b,hg,ht,hf⟩:=oU F
  clear F
  have step:∀ {v n},(St Γ N ops dep K (i :: bf) T0 M0 (⟨i,o.dst,v,n,zdA dep i,aM ops o⟩ :: rs) r p ρ a w/\p i = false) ->
    ∃ bf' rs' ord',St Γ N ops dep K bf' T0 M0 rs' ord' p ρ a w/\zrM p M0 rs' = zrM p M0 rs/\(ord' = [] \/ ∃ i r o,ord' = i :: r/\ops[i]? = some o/\2 <= kD Γ.ty o/\uw M0 rs' (zdA dep i) rs' = true/\fB ops o (zre (dI (inB (zdA dep i)) T0 rs') (aM ops o)) true/\yX Γ ops dep T0 M0 rs' i o fun T M q=>cj Γ ops dep T M q r K):=by
   rintro v n ⟨S',hp⟩
   obtain ⟨bf',rs',ord',h1,h2,h3⟩:=St.advance hd hdst r S'
   refine ⟨bf',rs',ord',h1,?_,h3⟩
   rw [h2]
   simp only [zrM,hp,zcF]
  cases b with
  | false=>exact step (S.push hd hdst ho (n:=[]) hg (fun b e h=>by simp [zG] at h) hsf (fun h=>by cases h) (fun _=>⟨rfl,rfl⟩) (hf rfl))
  | true=>
  have F:=ht rfl
  have F0:=F
  unfold yX at F
  split at F
  ·rename_i hk
   split at F
   ·rename_i qs v hv
    refine step (S.push hd hdst ho (n:=[]) hg (fun b e h=>by simp [zG] at h) hsf (fun _=>lg hk hv ⟨?_,rfl,rfl⟩) (fun h=>by cases h) (zwP.rest F))
    rw [append_nil];exact zwP.all F
   ·exact F.elim
  ·rename_i hk
   split at F
   ·rename_i qs d e v he
    split at F
    ·rename_i hm
     have hm2:zG (zrM (inB (zdA dep i)) M0 rs) d = none:=by
      cases h:zG (zrM (inB (zdA dep i)) M0 rs) d with
      | none=>rfl
      | some e'=>rw [rK (p:=inB (zdA dep i)) (q:=jC) (fun _ _ _=>rfl) hm] at h;cases h
     have hnew:=oq (K:=fun qs v' M'=>All qs/\v' = v/\M' = [(d,e)] ++ zrM (inB (zdA dep i)) M0 rs) he hm2 ⟨by rw [append_nil];exact zwP.all F,rfl,rfl⟩
     refine step (S.push hd hdst ho hg (fun b e' h=>Or.inl ?_) hsf (fun _=>hnew.1) (fun h=>by cases h) (zwP.rest F))
     by_cases hb:b = d
     ·subst hb
      rw [zh] at h
      simp only [zoI] at h;subst h
      exact ⟨hm,Ent.loose_own hnew.2,fun h=>by rw [h] at hnew;cases hnew.2⟩
     ·rw [zg hb] at h;simp [zG] at h
    ·exact F.elim
   ·exact F.elim
  ·rename_i h0 h1
   refine ⟨bf,rs,i :: r,S,rfl,Or.inr ⟨i,r,o,rfl,ho,?_,hsb,hg,F0⟩⟩
   rcases Nat.lt_or_ge (kD Γ.ty o) 2 with h | h
   ·have h2:kD Γ.ty o = 0 \/ kD Γ.ty o = 1:=by omega
    exact h2.elim (fun h=>(h0 h).elim) fun h=>(h1 h).elim
   ·exact h
theorem Inv.run (I:Inv N (zdA dep) bf T0 M0 rs p ρ a w) {o:Oper} {dp:List Nat} (hdst:∀ d,o.dst = some d->d < N) (hd:∀ k ∈ dp,p k = true) (ht:∀ k ∈ dp,∀ j ∈ zdA dep k,j ∈ dp)
  (hrd:∀ r ∈ rs,∀ s,r.dst = some s->s ∈ aM ops o->p r.ix = true->r.ix ∈ dp)
  (hsf:∀ k ∈ rs,p k.ix = true->k.ix ∉ dp->∀ a,zG k.new a = some .dead->zG (zrM (inB dp) M0 rs) a = none) {G:SV->Mm->Prop} {C:List Prop->SV->Mm->Prop}
  (hC:∀ qs v M',C qs v M'->All qs/\∃ E,M' = E ++ zrM (inB dp) M0 rs/\(∀ b e,zG E b = some e->(zG (zrM p M0 rs) b = none/\e.loose = true) \/ (e.loose = true/\∃ e0,zG (zrM (inB dp) M0 rs) b = some e0))/\G v E)
  (hf:bm Γ o (zre (dI (inB dp) T0 rs) (aM ops o)) (zrM (inB dp) M0 rs) [] C) {Q:Exit->Act->World->Prop} :
  o.wp Γ.P a w (fun a' w'=>∃ v E x ρ',G v E/\a'.tmps = (a.put o.dst x).tmps/\a'.defers = []/\ρ.le ρ' /\
   (∀ d,o.dst = some d->zRT ρ' v x/\mE (E ++ zrM (inB dp) M0 rs) v)/\(∀ b e,zG E b = some e->kO (E ++ zrM (inB dp) M0 rs) e) /\
   zF ρ' (E ++ zrM p M0 rs) w'/\aU ρ (zrM p M0 rs) ρ' (E ++ zrM p M0 rs) w w') Q:=by
 obtain ⟨hs,hc⟩:=I.sees (rd:=aM ops o) hd ht hrd hsf
 refine Oper.wp_mono ?_ (Oper.wp_put (gT hc hdst (fun qs v M' h=>(hC qs v M' h).1) hf))
 rintro a' w' ⟨⟨x,hx⟩,ρ1,T',M',⟨qs,v,hk,rfl⟩,hle,hc',hst⟩
 obtain ⟨_,E,rfl,hfr,hG⟩:=hC qs v M' hk
 obtain ⟨ρ2,l1,l2,h1,h2⟩:=I.mem.frame hs hle hc'.tozF hst hfr
 refine ⟨v,E,x,ρ2,hG,hx,hc'.defers,l1,fun d hdd=>?_,fun b e h=>hc'.tozF.told (zan h),h1,h2⟩
 have hr:=hc'.tm d
 rw [hdd,zt,af,hx,hdd] at hr
 have hxx:(a.put (some d) x).tmps.getD d undef = x:=by
  have hlt:=hdst d hdd
  unfold Act.put
  simp only [getD_eq_getD_getElem?]
  rw [Array.getElem?_setIfInBounds_self_of_lt (by rw [I.sz];exact hlt)]
  rfl
 rw [hxx] at hr
 exact ⟨hr.le l2,hc'.tozF.toldT hr⟩
end
end Go.Sx
