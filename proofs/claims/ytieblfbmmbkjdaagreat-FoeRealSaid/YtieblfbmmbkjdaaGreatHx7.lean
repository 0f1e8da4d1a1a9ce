/- Executor, part 7. No condition. -/
import Derived.Test.YtieblfbmmbkjdaaGreatHx6
set_option linter.unusedSimpArgs false
set_option linter.unusedVariables false
set_option autoImplicit true
set_option relaxedAutoImplicit true
open List (mem_cons_of_mem mem_cons mem_of_getElem? all_eq_true append_nil filter_cons)
open Bool (or_eq_true not_eq_true')
open Nat (beq blt)
open Go.Result (andThen_ok)
namespace Go.Sx
open Go
def zdA:List (List Nat)->Nat->List Nat
 |[],_=>[]
 |d::_,0=>d
 |_::r,i+1=>zdA r i
def ka:List Operand->List Nat
 |[]=>[]
 | .tmp t::r=>t::ka r
 |_::r=>ka r
def aUG (ops:List Oper) (o:Oper):List Nat:=
 match o.guard with
 |none=>[]
 |some (j,_)=>match zgS ops j with
  |none=>[]
  |some d=>[d]
def aM (ops:List Oper) (o:Oper):List Nat:=aUG ops o++ka o.op.operands.toList
inductive GV where
 |bad|run|skip
 |split (p:Prop)
 |splitN (p:Prop)
def vL (ops:List Oper) (dp:List Nat) (o:Oper) (T:Tm):GV:=
 match o.guard with
 |none=>.run
 |some (j,want)=>bif eY j dp then match zgS ops j with
   |none=>.bad
   |some d=>match zX T d with
    | .tt=>bif want then .run else .skip
    | .ff=>bif want then .skip else .run
    | .bool p=>bif want then .split p else .splitN p
    | .tup []=>.skip
    |_=>.bad
  else .bad
def aAD (g:GV) (A B:Prop):Prop:=
 match g with
 | .bad=>False
 | .run=>A
 | .skip=>B
 | .split p=>zB p A B
 | .splitN p=>zB p B A
def fa (ops:List Oper) (o:Oper) (T:Tm) (b:Bool):Prop:=
 match o.guard with
 |none=>b=true
 |some (j,want)=>∃d,zgS ops j=some d/\match zX T d with
  | .tt=>b=want
  | .ff=>b= !want
  | .bool p=>(p↔b=want)
  | .tup []=>b=false
  |_=>False
theorem qF (h:aAD (vL ops dp o T) A B):∃b,fa ops o T b/\(b=true->A)/\(b=false->B):=by
 unfold vL at h
 unfold fa
 split at h
 ·exact⟨true,rfl,λ_=>h,(λh=>by cases h)⟩
 rename_i j want hg
 cases hm:eY j dp with
 |false=>rw[hm,zcF]at h;exact h.elim
 |true=>
  rw[hm,zcT]at h
  split at h
  ·exact h.elim
  rename_i d hd
  split at h
  ·rename_i hT
   cases want with
   |true=>exact⟨true,⟨d,hd,by rw[hT]⟩,λ_=>h,(λh=>by cases h)⟩
   |false=>exact⟨false,⟨d,hd,by rw[hT]⟩,(λh=>by cases h),λ_=>h⟩
  ·rename_i hT
   cases want with
   |true=>exact⟨false,⟨d,hd,by rw[hT];rfl⟩,(λh=>by cases h),λ_=>h⟩
   |false=>exact⟨true,⟨d,hd,by rw[hT];rfl⟩,λ_=>h,(λh=>by cases h)⟩
  ·rename_i p hT
   rcases Classical.em p with hp|hp
   ·cases want with
    |true=>exact⟨true,⟨d,hd,by rw[hT];simp[hp]⟩,λ_=>zB.yes h hp,(λh=>by cases h)⟩
    |false=>exact⟨false,⟨d,hd,by rw[hT];simp[hp]⟩,(λh=>by cases h),λ_=>zB.yes h hp⟩
   cases want with
   |true=>exact⟨false,⟨d,hd,by rw[hT];simp[hp]⟩,(λh=>by cases h),λ_=>zB.no h hp⟩
   |false=>exact⟨true,⟨d,hd,by rw[hT];simp[hp]⟩,λ_=>zB.no h hp,(λh=>by cases h)⟩
  ·rename_i hT
   exact⟨false,⟨d,hd,by rw[hT]⟩,(λh=>by cases h),λ_=>h⟩
  exact h.elim
theorem t7 (hc:aZ N ρ T M a w) (hall:iX N ops=true) (h:fa ops o T b):Region.wanted o (yielded ops.toArray a.tmps)=b:=by
 unfold fa at h
 split at h
 ·rename_i hg;subst h;simp[Region.wanted,hg]
 rename_i j want hg
 obtain⟨d,hd,h⟩:=h
 have hdN:d<N:=by
  unfold zgS at hd
  split at hd
  ·rename_i o' ho'
   exact eN hall (mem_of_getElem? ho') d hd
  cases hd
 have hw:∀{b:Bool},a.tmps.getD d undef= .bool b->Region.wanted o (yielded ops.toArray a.tmps)=(b==want):=by
  intro b hb
  have:=rG hc hd hdN hb
  simp only[Region.wanted,hg,this]
  cases b<;>cases want<;>rfl
 have hT:=hc.tm d
 split at h
 ·rename_i he;rw[he]at hT;rw[h]
  rw[hw (b:=true) hT];cases want<;>rfl
 ·rename_i he;rw[he]at hT;rw[h]
  rw[hw (b:=false) hT];cases want<;>rfl
 ·rename_i p he;rw[he]at hT
  obtain⟨b',hb,hbp⟩:=hT
  rw[hw hb]
  have e:=hbp.trans h
  clear hw h hbp hb he hg
  revert e
  cases b'<;>cases b<;>cases want<;>simp
 ·rename_i he;rw[he]at hT;rw[h]
  exact rI hg hd (hT.elim λxs hx=>by have h1:=hx.1;have h2:=hx.2;simp only[nM]at h1;subst h1;exact h2)
 exact h.elim
def dy (ty:Nat->Ty) (o:Oper):Nat:=
 match o.op with
 | .alloc _=>1
 | .box _ _=>1
 | .makeSlice _ _ _=>1
 | .buildSlice _ _ _=>1
 | .makeMap _ _=>1
 | .mapUpdate _ _ _ _=>2
 | .store _ _ _=>2
 | .convert _ t _=>match(ty t).k with
  | .slice _=>2
  |_=>0
 | .call c=>match c.callee with
  | .builtin b=>match aN0 b with
   |true=>2
   |false=>match pK b with
    |true=>2
    |false=>0
  |_=>2
 |_=>0
def aTT (Γ:Cfg) (o:Oper) (T:Tm):Option (List Prop×Nat×Ent×SV):=
 match o.op with
 | .alloc t=>match o.dst with
  |some d=>match(Γ.ty t).k with
   | .bad=>none
   |_=>match(Γ.ty t).zl with
    |[]=>none
    |zl=>some ([],d,.mem true 0 zl,.ptr d 0 none)
  |none=>none
 | .box t x=>match o.dst with
  |some d=>match iM (Γ.ty t) (ev T x)with
   |some (qs,ls)=>some (qs,d,.mem true 0 ls,.ptr d 0 none)
   |none=>none
  |none=>none
 | .makeSlice t l c=>match o.dst with
  |some d=>match aB5 Γ.ty T d t l c with
   |some (qs,e,v)=>some (qs,d,e,v)
   |none=>none
  |none=>none
 | .buildSlice t len parts=>bif xP len parts.toList then match o.dst with
   |some d=>match bsV Γ.ty T d t len parts.toList with
    |some (qs,e,v)=>some (qs,d,e,v)
    |none=>none
   |none=>none
  else none
 | .makeMap _ r=>match r with
  |none=>match o.dst with
   |some d=>some ([],d,.map (.si []),.mp d)
   |none=>none
  |some _=>none
 |_=>none
theorem aGJ (h:aB5 ty T d t l c=some (ps,e,v)):e.zW=true:=by
 unfold aB5 at h
 split at h
 ·split at h
  ·cases h
  split at h
  ·split at h
   ·split at h
    ·split at h
     ·simp only[zoI,zpI]at h;obtain⟨_,rfl,_⟩:=h;rfl
     cases h
    rcases zs h with⟨_,h⟩|⟨_,h⟩
    ·simp only[zoI,zpI]at h;obtain⟨_,rfl,_⟩:=h;rfl
    split at h
    ·simp only[zoI,zpI]at h;obtain⟨_,rfl,_⟩:=h;rfl
    cases h
   cases h
  cases h
 cases h
theorem aRU (h:bsV ty T d t len parts=some (ps,e,v)):e.zW=true:=by
 unfold bsV at h
 split at h
 ·split at h
  ·cases h
  replace h:=(zn h).2
  split at h
  ·simp only[zoI,zpI]at h;obtain⟨_,rfl,_⟩:=h;rfl
  cases h
 cases h
def kL (o:Option Ent):Bool:=
 match o with
 |none=>true
 |some _=>false
def aAV (M0:Mm) (rs:List Rec) (dp:List Nat) (k:Nat):List Rec->Bool
 |[]=>true
 |x::q=>(eY x.ix dp||(kL (zG x.new k)&&kL (zG (zrM (inB x.dep) M0 rs) k)))&&aAV M0 rs dp k q
def vM (M0:Mm) (rs:List Rec) (dp:List Nat):Mm->Bool
 |[]=>true
 |(k,e)::r=>(match zG (zrM jo M0 rs) k with
  |none=>(match e with
   | .dead=>false
   | .mem own sp _=>own||sp !=0
   | .map _=>true)
  |some _=>(match e with
   | .dead=>!kL (zG (zrM (inB dp) M0 rs) k)&&aAV M0 rs dp k rs
   |_=>false))&&vM M0 rs dp r
def zc (M:Mm):Mm->Bool
 |[]=>true
 |(a,e)::r=>(match e with
  | .dead=>kL (zG M a)
  |_=>true)&&zc M r
def w9 (M0:Mm) (rs:List Rec) (dp:List Nat):List Rec->Bool
 |[]=>true
 |k::q=>(eY k.ix dp||zc (zrM (inB dp) M0 rs) k.new)&&w9 M0 rs dp q
theorem eI (h:kL o=true):o=none:=by
 cases o with
 |none=>rfl
 |some _=>cases h
theorem pY:∀{E:Mm},zc M E=true->∀a,zG E a=some .dead->zG M a=none
 |[],_,_,h=>by simp[zG]at h
 |(k,e)::r,hn,a,h=>by
  simp only[zc,zbA]at hn
  by_cases hk:a=k
  ·subst hk
   rw[zh]at h
   simp only[zoI]at h;subst h
   exact eI hn.1
  rw[zg hk]at h
  exact pY hn.2 a h
theorem mT:∀{q:List Rec},w9 M0 rs dp q=true->∀k∈q,k.ix∉dp->∀a,zG k.new a=some .dead->zG (zrM (inB dp) M0 rs) a=none
 |[],_,_,h=>by simp at h
 |x::t,hs,k,hk=>by
  simp only[w9,zbA,or_eq_true]at hs
  rcases List.mem_cons.1 hk with hk'|hk'
  ·subst hk'
   intro hn a ha
   exact pY (hs.1.resolve_left λh=>hn (zmi.1 h)) a ha
  exact mT hs.2 k hk'
theorem qa:∀{q:List Rec},aAV M0 rs dp a q=true->∀x∈q,x.ix∉dp->zG x.new a=none/\zG (zrM (inB x.dep) M0 rs) a=none
 |[],_,_,h=>by simp at h
 |y::t,hs,x,hx=>by
  simp only[aAV,zbA,or_eq_true]at hs
  rcases List.mem_cons.1 hx with hx'|hx'
  ·subst hx'
   intro hn
   have:=hs.1.resolve_left λh=>hn (zmi.1 h)
   exact⟨eI this.1,eI this.2⟩
  exact qa hs.2 x hx'
@[irreducible] def cL (M M':Mm) (ok:Mm->Bool) (X:Mm->Prop) (ok2:Mm->Bool) (Y:Prop):Prop:=(∃E,M'=E++M/\ok E=true/\X E)\/∃E,M'=E++M/\ok2 E=true/\Y
theorem cL.i {M M':Mm} {ok:Mm->Bool} {X:Mm->Prop} {ok2:Mm->Bool} {Y:Prop} (E:Mm) (h1:M'=E++M) (h2:ok E=true) (h3:X E):cL M M' ok X ok2 Y:=by unfold cL;exact Or.inl ⟨E,h1,h2,h3⟩
def q9 (M M':Mm):Mm:=M'.take (M'.length-M.length)
theorem cL.auto (h1:M'=q9 M M'++M) (h2:ok (q9 M M')=true) (h3:zfM (q9 M M') X):cL M M' ok X ok2 Y:=by
 unfold cL;rw[gm]at h3;exact Or.inl ⟨_,h1,h2,h3⟩
theorem cL.turn (h1:M'=q9 M M'++M) (h2:ok2 (q9 M M')=true) (h3:Y):cL M M' ok X ok2 Y:=by
 unfold cL;exact Or.inr ⟨_,h1,h2,h3⟩
def rf (d:Option Nat) (l:List Nat):Bool:=
 match d with
 |none=>true
 |some s=>!eY s l
def aMC (d e:Option Nat):Bool:=
 match d,e with
 |some x,some y=>!beq x y
 |_,_=>true
def vo (o:Oper):Bool:=
 match o.op with
 | .move _=>true
 | .assign _=>true
 | .extract _ _=>true
 | .pick _ _ _=>true
 |_=>false
def aUB (o:Oper):Bool:=
 match o.op with
 | .select _ _=>true
 |_=>false
def zb:List Oper->Bool
 |[]=>true
 |o::r=>!aUB o&&zb r
def aK7 (i:Nat):List Nat->Bool
 |[]=>true
 |k::r=>blt k i&&aK7 i r
def t8 (i:Nat):List Edge->Bool
 |[]=>false
 |e::r=>(Region.binds .any e&&beq e.on i)||t8 i r
def aI0 (ops:List Oper) (x y:Oper):Bool:=rf x.dst (aM ops y)&&(aMC x.dst y.dst&&rf y.dst (aM ops x))
def oL (ops:List Oper) (dp:List Nat) (i:Nat) (o:Oper) (j:Nat):List Oper->Bool
 |[]=>true
 |oj::r=>(beq j i||(eY j dp||(t8 i oj.after.toList||aI0 ops o oj)))&&oL ops dp i o (j+1) r
def eA (ops:List Oper) (dep:List (List Nat)) (i:Nat):Bool:=
 match ops[i]? with
 |none=>false
 |some o=>vo o&&(aK7 i (zdA dep i)&&(oL ops (zdA dep i) i o 0 ops&&zb ops))
def aVR (ops:List Oper) (dep:List (List Nat)) (dp:List Nat):List Rec->Bool
 |[]=>true
 |r::q=>(eY r.ix dp||eA ops dep r.ix)&&aVR ops dep dp q
def qb (ops:List Oper) (i:Nat):Bool:=
 match ops[i]? with
 |some o=>(match o.op with
  | .alloc _=>(match o.guard with
   |none=>true
   |some _=>false)
  |_=>false)
 |none=>false
def u2 (ops:List Oper) (dep:List (List Nat)) (dp:List Nat):List Rec->List Rec
 |[]=>[]
 |r::q=>bif eY r.ix dp||eA ops dep r.ix then u2 ops dep dp q else r::u2 ops dep dp q
def kr (i:Nat):List Rec->Bool
 |[]=>true
 |r::q=>!eY i r.dep&&kr i q
def aKV (M:Mm):Mm->Bool
 |[]=>true
 |(k,e)::r=>kL (zG M k)&&e.zW&&aKV M r
def ab6 (o:Oper):Bool:=
 match o.op with
 | .call c=>(match c.callee with
  | .value _=>true
  |_=>false)
 | .store _ _ _=>true
 |_=>false
def aBW (ty:Nat->Ty) (ops:List Oper) (i:Nat):Bool:=
 match ops[i]? with
 |some o=>(match o.guard with
  |none=>beq (dy ty o) 0
  |some _=>false)
 |none=>false
def zr (ty:Nat->Ty) (ops:List Oper) (dp:List Nat) (rs:List Rec):List Rec->Bool
 |[]=>true
 |x::q=>((qb ops x.ix||aBW ty ops x.ix)&&(!eY x.ix dp&&kr x.ix rs))&&zr ty ops dp rs q
def aZI (i:Nat) (l:List Nat):Bool:=
 match l with
 |[]=>true
 |x::r=>eY i (x::r)
def aGQ (ty:Nat->Ty) (i:Nat) (o:Oper) (ops:List Oper) (dep:List (List Nat)) (dp:List Nat) (rs:List Rec):Option (List Rec):=
 bif blt ops.length dep.length&&(ab6 o&&aZI i (zdA dep ops.length))then(bif zr ty ops dp rs (u2 ops dep dp rs)then some (u2 ops dep dp rs)else none)else none
def tp (S:List Rec) (j:Nat):Bool:=
 match S with
 |[]=>true
 |x::r=>!beq j x.ix&&tp r j
def lD (Γ:Cfg) (ops:List Oper) (T:Tm) (M:Mm) (next:Tm->Mm->List Rec->Prop) (S acc:List Rec):Prop:=
 match S with
 |[]=>next T M acc
 |x::r=>bif tp acc x.ix then(bif qb ops x.ix then(bif aKV (zrM jo M acc) x.new then lD Γ ops T M next r (x::acc)else False)else(match ops[x.ix]? with
  |some o=>match fo Γ.ty (zre T (aM ops o)) M o.op with
   |some (qs,v)=>zwP qs (lD Γ ops T M next r (⟨x.ix,x.dst,v,[],x.dep,aM ops o⟩::acc))
   |none=>False
  |none=>False))else False
def tL (Γ:Cfg) (ops:List Oper) (o:Oper) (T0:Tm) (M0:Mm) (rs:List Rec) (next:Tm->Mm->List Rec->Prop) (X S:List Rec):Prop:=
 match X with
 |[]=>bp Γ o (dM (tp S) T0 rs) (zrM (tp S) M0 rs) [] λqs v M'=>zwP qs (lD Γ ops (zt o.dst v (dM (tp S) T0 rs)) M' next S [])
 |x::r=>tL Γ ops o T0 M0 rs next r S/\tL Γ ops o T0 M0 rs next r (x::S)
def su (M:Mm):Bool:=
 match M with
 |[]=>true
 |(_,e)::r=>(match e with
  | .dead=>false
  |_=>true)&&su r
def aJR (dp:List Nat) (k:Nat) (rs:List Rec):Bool:=
 match rs with
 |[]=>true
 |x::q=>(eY x.ix dp||kL (zG x.new k))&&aJR dp k q
def aJT (dp:List Nat) (rs:List Rec):Bool:=
 match rs with
 |[]=>true
 |x::q=>(eY x.ix dp||su x.new)&&aJT dp q
def aJS (dp:List Nat) (rs:List Rec) (E:Mm):Bool:=
 match E with
 |[]=>true
 |(k,e)::r=>e.loose&&aJR dp k rs&&aJS dp rs r
def aJU (dp:List Nat) (rs:List Rec) (E:Mm):Bool:=aJT dp rs&&aJS dp rs E
def aa2 (M:Mm):Bool:=
 match M with
 |[]=>true
 |_=>false
def sV (Γ:Cfg) (ops:List Oper) (T0:Tm) (M1:Mm) (rs:List Rec) (dp:List Nat) (l:List Rec) (K:Prop):Prop:=
 match l with
 |[]=>K
 |x::q=>bif eY x.ix dp then sV Γ ops T0 M1 rs dp q K else match ops[x.ix]? with
  |none=>False
  |some o=>aAD (vL ops x.dep o (zre (dM (inB x.dep) T0 rs) (aM ops o)))
    (match dy Γ.ty o with
    |0=>match fo Γ.ty (zre (dM (inB x.dep) T0 rs) (aM ops o)) (zrM (inB x.dep) M1 rs) o.op with
     |some (qs,v)=>bif aa2 x.new then zwP ((v=x.v)::qs) (sV Γ ops T0 M1 rs dp q K)else False
     |none=>False
    |1=>match aTT Γ o (zre (dM (inB x.dep) T0 rs) (aM ops o))with
     |some (qs,d,e,v)=>zwP ((v=x.v)::([(d,e)]=x.new)::qs) (sV Γ ops T0 M1 rs dp q K)
     |none=>False
    |_=>False)
    (zwP [x.v= .tup [],x.new=[]] (sV Γ ops T0 M1 rs dp q K))
def aBB (Γ:Cfg) (ops:List Oper) (dep:List (List Nat)) (T0:Tm) (M0:Mm) (rs:List Rec) (i:Nat) (o:Oper) (next:Tm->Mm->List Rec->Prop):Prop:=
 match dy Γ.ty o with
 |0=>match fo Γ.ty (zre (dM (inB (zdA dep i)) T0 rs) (aM ops o)) (zrM (inB (zdA dep i)) M0 rs) o.op with
  |some (qs,v)=>zwP qs (next T0 M0 (⟨i,o.dst,v,[],zdA dep i,aM ops o⟩::rs))
  |none=>False
 |1=>match aTT Γ o (zre (dM (inB (zdA dep i)) T0 rs) (aM ops o))with
  |some (qs,d,e,v)=>match zG (zrM jo M0 rs) d with
   |none=>zwP qs (next T0 M0 (⟨i,o.dst,v,[(d,e)],zdA dep i,aM ops o⟩::rs))
   |some _=>False
  |none=>False
 |_=>bif aVR ops dep (zdA dep i) rs then
   bp Γ o (dM jo T0 rs) (zrM jo M0 rs) [] λqs v M'=>zwP qs (next (zt o.dst v (dM jo T0 rs)) M' [])
  else match aGQ Γ.ty i o ops dep (zdA dep i) rs with
  |some X=>tL Γ ops o T0 M0 rs next X []
  |none=>
   bp Γ o (zre (dM (inB (zdA dep i)) T0 rs) (aM ops o)) (zrM (inB (zdA dep i)) M0 rs) [] λqs v M'=>zwP qs
    (cL (zrM (inB (zdA dep i)) M0 rs) M' (vM M0 rs (zdA dep i)) (λE=>next T0 M0 (⟨i,o.dst,v,E,zdA dep i,aM ops o⟩::rs)) (aJU (zdA dep i) rs)
     (sV Γ ops T0 M' (cC (zdA dep i) rs) (zdA dep i) (cC (zdA dep i) rs) (next T0 M' (⟨i,o.dst,v,[],zdA dep i,aM ops o⟩::cC (zdA dep i) rs))))
def dB (Γ:Cfg) (ops:List Oper) (dep:List (List Nat)) (T0:Tm) (M0:Mm) (rs:List Rec) (ord:List Nat) (K:Tm->Mm->Prop):Prop:=
 match ord with
 |[]=>K (dM jo T0 rs) (zrM jo M0 rs)
 |i::r=>match ops[i]? with
  |none=>False
  |some o=>bif w9 M0 rs (zdA dep i) rs then aAD (vL ops (zdA dep i) o (zre (dM (inB (zdA dep i)) T0 rs) (aM ops o)))
    (aBB Γ ops dep T0 M0 rs i o λT M q=>dB Γ ops dep T M q r K)
    (dB Γ ops dep T0 M0 (⟨i,o.dst,.tup [],[],zdA dep i,aM ops o⟩::rs) r K)else False
def aFH (ops:List Oper) (dep:List (List Nat)) (i j:Nat) (oi oj:Oper):Bool:=
 (eY j (zdA dep i)||(rf oi.dst (aM ops oj)&&rf oj.dst (aM ops oi)))&&aMC oi.dst oj.dst
def kp (ty:Nat->Ty) (ops:List Oper) (dep:List (List Nat)):List Nat->List Nat->Bool
 |_,[]=>true
 |bf,i::r=>(match ops[i]? with
  |none=>false
  |some o=>!eY i bf&&(zdA dep i).all (λk=>eY k bf)&&(blt (dy ty o) 2||r.all λj=>eY i (zdA dep j))&&
   bf.all λj=>match ops[j]? with
    |some oj=>aFH ops dep i j o oj
    |none=>false)&&kp ty ops dep (i::bf) r
def aH9 (ops:List Oper) (dep:List (List Nat)):Bool:=
 (List.range ops.length).all λi=>match ops[i]? with
  |none=>false
  |some o=>(o.after.toList.all λe=>!Region.binds .any e||(blt e.on i&&eY e.on (zdA dep i)))&&
   ((zdA dep i).all λj=>o.after.toList.any λe=>Region.binds .any e&&(beq e.on j||eY j (zdA dep e.on)))&&
   (zdA dep i).all λk=>(zdA dep k).all λj=>eY j (zdA dep i)
def sm (ty:Nat->Ty) (ops:List Oper) (dep:List (List Nat)) (ord:List Nat):Bool:=
 aH9 ops dep&&kp ty ops dep [] ord&&(List.range ops.length).all λj=>eY j ord
@[irreducible] def aH (Γ:Cfg) (id:Nat) (ops:List Oper) (T:Tm) (M:Mm) (K:Tm->Mm->Prop):Prop:=
 ∃dep ord,sm Γ.ty ops dep ord=true/\dB Γ ops dep T M [] ord K
theorem aH.i {Γ:Cfg} {id:Nat} {ops:List Oper} {T:Tm} {M:Mm} {K:Tm->Mm->Prop} (dep:List (List Nat)) (ord:List Nat) (h:sm Γ.ty ops dep ord=true) (k:dB Γ ops dep T M [] ord K):
  aH Γ id ops T M K:=by unfold aH;exact⟨dep,ord,h,k⟩
theorem gh (h:eY a l=false):a∉l:=λhm=>by rw[zmi.2 hm]at h;cases h
theorem iE (h:rf d l=true):∀s,d=some s->s∉l:=by
 intro s hs
 subst hs
 simp only[rf,not_eq_true']at h
 exact gh h
theorem r7 (h:aMC d e=true):∀s,d=some s->e≠some s:=by
 intro s hs he
 subst hs;subst he
 simp only[aMC,not_eq_true']at h
 rw[show beq s s=true from Nat.beq_refl s]at h
 cases h
theorem jz (h:kp ty ops dep bf (i::r)=true):∃o,ops[i]? =some o/\i∉bf/\(∀k∈zdA dep i,k∈bf)/\
  (dy ty o<2\/∀j∈r,i∈zdA dep j)/\(∀j∈bf,∀oj,ops[j]? =some oj->aFH ops dep i j o oj=true)/\kp ty ops dep (i::bf) r=true:=by
 simp only[kp,zbA]at h
 obtain⟨h1,h2⟩:=h
 split at h1
 ·cases h1
 rename_i o ho
 simp only[zbA,or_eq_true,not_eq_true',all_eq_true]at h1
 obtain⟨⟨⟨a1,a2⟩,a3⟩,a4⟩:=h1
 refine⟨o,ho,gh a1,λk hk=>zmi.1 (a2 k hk),a3.imp ay λh j hj=>zmi.1 (h j hj),λj hj oj hoj=>?_,h2⟩
 have:=a4 j hj
 rw[hoj]at this
 exact this
theorem aFG (h:aFH ops dep i j oi oj=true):
  aMW ⟨i,oi.dst,v,n,zdA dep i,aM ops oi⟩ ⟨j,oj.dst,v',n',zdA dep j,aM ops oj⟩:=by
 simp only[aFH,zbA,or_eq_true]at h
 refine⟨λs h1 h2=>?_,λs h1 h2=>?_,r7 h.2⟩
 ·rcases h.1 with h|h
  ·exact Or.inl (zmi.1 h)
  exact absurd h2 (iE h.2 s h1)
 rcases h.1 with h|h
 ·exact Or.inr (zmi.1 h)
 exact absurd h2 (iE h.1 s h1)
theorem nD (hk:dy Γ.ty o=0) (h:fo Γ.ty T M o.op=some (qs,v)) (k:K (qs++[]) v M):
    bp Γ o T M [] K:=by
  unfold bp
  unfold dy at hk
  split
  · rename_i hop;rw[hop]at hk;cases hk
  · rename_i hop;rw[hop]at hk;cases hk
  · rename_i hop;rw[hop]at hk;cases hk
  · rename_i hop;rw[hop]at hk;cases hk
  · rename_i hop;rw[hop]at hk;cases hk
  · rename_i hop;rw[hop]at hk;cases hk
  · rename_i hop;rw[hop]at hk;cases hk
  · rename_i s t x hop
    simp only[hop]at hk
    split
    · rename_i e he;rw[he]at hk;cases hk
    rw[h];exact k
  · rename_i c hop
    rw[hop]at hk
    split
    · rename_i hc;simp only[hc]at hk;cases hk
    · rename_i b hb
      simp only[hb]at hk
      split
      · rename_i hcp;rw[hcp]at hk;cases hk
      rename_i hcp
      rw[hcp]at hk
      split
      · rename_i hap;rw[hap]at hk;cases hk
      rw[h];exact k
    rename_i h1 h2
    simp only at hk
    first
      |cases hk
      | (split at hk
         · rename_i b hb;exact(h2 b hb).elim
         cases hk)
  rw[h];exact k
theorem qO (h:aTT Γ o T=some (qs,d,e,v)) (hm:zG M d=none)
  (k:K (qs++[]) v ((d,e)::M)):bp Γ o T M [] K/\e.zW=true:=by
 unfold aTT at h
 split at h
 ·rename_i t hop
  split at h
  ·rename_i d' hd
   split at h
   ·cases h
   rename_i hk
   split at h
   ·cases h
   rename_i zl hz
   obtain⟨rfl,rfl,rfl,rfl⟩:=sD h
   refine⟨?_,rfl⟩
   unfold bp
   simp only[hop,hd,hm]
   exact k
  cases h
 ·rename_i t x hop
  split at h
  ·rename_i d' hd
   split at h
   ·rename_i ps ls hl
    obtain⟨rfl,rfl,rfl,rfl⟩:=sD h
    refine⟨?_,rfl⟩
    unfold bp
    simp only[hop,hd,hm,hl]
    exact k
   cases h
  cases h
 ·rename_i t l c hop
  split at h
  ·rename_i d' hd
   split at h
   ·rename_i ps e' v' hv
    obtain⟨rfl,rfl,rfl,rfl⟩:=sD h
    refine⟨?_,aGJ hv⟩
    unfold bp
    simp only[hop,hd,hm,hv]
    exact k
   cases h
  cases h
 ·rename_i t len parts hop
  have hn:=(zn h).1
  replace h:=(zn h).2
  split at h
  ·rename_i d' hd
   split at h
   ·rename_i ps e' v' hv
    obtain⟨rfl,rfl,rfl,rfl⟩:=sD h
    refine⟨?_,aRU hv⟩
    unfold bp
    simp only[hop,hd,hm,hv,hn,zcT]
    exact k
   cases h
  cases h
 ·rename_i t r hop
  split at h
  ·split at h
   ·rename_i d' hd
    obtain⟨rfl,rfl,rfl,rfl⟩:=sD h
    refine⟨?_,rfl⟩
    unfold bp
    simp only[hop,hd,hm]
    exact k
   cases h
  cases h
 cases h
theorem kP:∀{E:Mm},vM M0 rs dp E=true->∀a e,zG E a=some e->
  (zG (zrM jo M0 rs) a=none/\e.loose=true/\e≠ .dead)\/(e= .dead/\(∃e0,zG (zrM (inB dp) M0 rs) a=some e0)/\∀x∈rs,x.ix∉dp->zG x.new a=none/\zG (zrM (inB x.dep) M0 rs) a=none)
 |[],_,_,_,h=>by simp[zG]at h
 | (k,e0)::r,hf,a,e,h=>by
  simp only[vM,zbA]at hf
  obtain⟨h1,h3⟩:=hf
  by_cases hk:a=k
  ·subst hk
   rw[zh]at h
   simp only[zoI]at h;subst h
   split at h1
   ·rename_i hn
    left
    refine⟨hn,?_⟩
    split at h1
    ·cases h1
    ·exact⟨h1,by simp⟩
    exact⟨rfl,by simp⟩
   right
   split at h1
   ·simp only[zbA,not_eq_true']at h1
    refine⟨rfl,?_,qa h1.2⟩
    cases hx:zG (zrM (inB dp) M0 rs) a with
    |none=>rw[hx]at h1;cases h1.1
    |some e0=>exact⟨e0,rfl⟩
   cases h1
  rw[zg hk]at h
  exact kP h3 a e h
theorem lZ (h:aH9 ops dep=true) (ho:ops[i]? =some o):
  (∀e∈o.after,Region.binds .any e=true->e.on<i/\e.on∈zdA dep i)/\(∀j∈zdA dep i,∃e∈o.after,Region.binds .any e=true/\(e.on=j\/j∈zdA dep e.on))/\
  ∀k∈zdA dep i,∀j∈zdA dep k,j∈zdA dep i:=by
 have hlt:=(List.getElem?_eq_some_iff.1 ho).1
 have:=List.all_eq_true.1 h i (List.mem_range.2 hlt)
 rw[ho]at this
 simp only[zbA,all_eq_true,or_eq_true,not_eq_true',List.any_eq_true]at this
 obtain⟨⟨h1,h2⟩,h3⟩:=this
 refine⟨λe he hb=>?_,λj hj=>?_,λk hk j hj=>zmi.1 (h3 k hk j hj)⟩
 ·rcases h1 e (by simpa using he)with h|h
  ·rw[hb]at h;cases h
  exact⟨ay h.1,zmi.1 h.2⟩
 obtain⟨e,he,hb,hj⟩:=h2 j hj
 exact⟨e,by simpa using he,hb,hj.imp zq zmi.1⟩
def aVZ (Γ:Cfg) (ops:List Oper) (r:Rec) (T:Tm) (M:Mm):Prop:=
 ∃o b,ops[r.ix]? =some o/\fa ops o T b/\o.dst=r.dst/\(b=true->bp Γ o T M [] λqs v M'=>All qs/\v=r.v/\M'=r.new++M)/\(b=false->r.v= .tup []/\r.new=[])
structure St (Γ:Cfg) (N:Nat) (ops:List Oper) (dep:List (List Nat)) (K:Tm->Mm->Prop) (bf:List Nat) (T0:Tm) (M0:Mm) (rs:List Rec) (ord:List Nat) (p:Nat->Bool) (ρ:Env) (a:Act) (w:World):Prop where
 I:Inv N (zdA dep) bf T0 M0 rs p ρ a w
 hops:∀r∈rs,∃o,ops[r.ix]? =some o/\r.dst=o.dst/\r.rd=aM ops o
 facts:∀r∈rs,p r.ix=false->aVZ Γ ops r (zre (dM (inB r.dep) T0 rs) r.rd) (zrM (inB r.dep) M0 rs)
 F:dB Γ ops dep T0 M0 rs ord K
 plan:kp Γ.ty ops dep bf ord=true
 cover:∀j,j<ops.length->j∈bf\/j∈ord
section
variable {Γ:Cfg} {N:Nat} {ops:List Oper} {dep:List (List Nat)} {K:Tm->Mm->Prop} {bf:List Nat} {T0:Tm} {M0:Mm} {rs:List Rec} {ord:List Nat} {p:Nat->Bool} {ρ:Env} {a:Act} {w:World}
theorem St.pairs (S:St Γ N ops dep K bf T0 M0 rs ord p ρ a w) (h:∀j∈bf,∀oj,ops[j]? =some oj->aFH ops dep i j o oj=true):
  ∀r∈rs,aMW ⟨i,o.dst,v,n,zdA dep i,aM ops o⟩ r:=by
 intro r hr
 obtain⟨oj,h1,h2,h3⟩:=S.hops r hr
 have:=aFG (v:=v) (n:=n) (v':=r.v) (n':=r.new) (h r.ix (S.I.bfs r hr) oj h1)
 rw[<-h2,<-h3,<-S.I.deps r hr]at this
 exact this
theorem St.push (hd:aH9 ops dep=true) (hdst:iX N ops=true) (S:St Γ N ops dep K bf T0 M0 rs (i::r) p ρ a w) (ho:ops[i]? =some o) (hg:fa ops o (zre (dM (inB (zdA dep i)) T0 rs) (aM ops o)) b)
  (hfr:aP0 M0 rs ⟨i,o.dst,v,n,zdA dep i,aM ops o⟩) (hsf:∀k∈rs,k.ix∉zdA dep i->∀a,zG k.new a=some .dead->zG (zrM (inB (zdA dep i)) M0 rs) a=none)
  (hf:b=true->bp Γ o (zre (dM (inB (zdA dep i)) T0 rs) (aM ops o)) (zrM (inB (zdA dep i)) M0 rs) [] λqs v' M'=>All qs/\v'=v/\M'=n++zrM (inB (zdA dep i)) M0 rs)
  (hs:b=false->v= .tup []/\n=[])
  (hF:dB Γ ops dep T0 M0 (⟨i,o.dst,v,n,zdA dep i,aM ops o⟩::rs) r K):
  St Γ N ops dep K (i::bf) T0 M0 (⟨i,o.dst,v,n,zdA dep i,aM ops o⟩::rs) r p ρ a w/\p i=false:=by
 obtain⟨o',ho',h1,h2,_,h4,h5⟩:=jz S.plan
 have:o'=o:=Option.some.inj (ho'.symm.trans ho)
 subst this
 have hp:p i=false:=by
  cases h:p i with
  |false=>rfl
  |true=>exact absurd (S.I.done _ h) h1
 refine⟨⟨S.I.push h1 rfl (lZ hd ho).2.2 h2 (λd h=>eN hdst (mem_of_getElem? ho) d h) (S.pairs h4) hfr hsf,?_,?_,hF,h5,?_⟩,hp⟩
 ·intro x hx
  rcases List.mem_cons.1 hx with hx'|hx'
  ·subst hx';exact⟨o',ho,rfl,rfl⟩
  exact S.hops x hx'
 ·intro x hx hpx
  have hno:inB x.dep i=false:=by
   cases h:inB x.dep i with
   |false=>rfl
   |true=>
    have hm:=zmi.1 h
    rcases List.mem_cons.1 hx with hx'|hx'
    ·subst hx';exact absurd (h2 _ hm) h1
    exact absurd (S.I.below x hx' _ hm) h1
  have e1:dM (inB x.dep) T0 (⟨i,o'.dst,v,n,zdA dep i,aM ops o'⟩::rs)=dM (inB x.dep) T0 rs:=by simp only[dM,hno,zcF]
  have e2:zrM (inB x.dep) M0 (⟨i,o'.dst,v,n,zdA dep i,aM ops o'⟩::rs)=zrM (inB x.dep) M0 rs:=by simp only[zrM,hno,zcF]
  rw[e1,e2]
  rcases List.mem_cons.1 hx with hx'|hx'
  ·subst hx';exact⟨o',b,ho,hg,rfl,hf,hs⟩
  exact S.facts x hx' hpx
 intro j hj
 rcases S.cover j hj with h|h
 ·exact Or.inl (mem_cons_of_mem _ h)
 rcases List.mem_cons.1 h with h|h
 ·exact Or.inl (by simp[h])
 exact Or.inr h
theorem St.advance (hd:aH9 ops dep=true) (hdst:iX N ops=true):∀(ord:List Nat) {bf:List Nat} {rs:List Rec},St Γ N ops dep K bf T0 M0 rs ord p ρ a w->
  ∃bf' rs' ord',St Γ N ops dep K bf' T0 M0 rs' ord' p ρ a w/\zrM p M0 rs'=zrM p M0 rs/\(ord'=[]\/∃i r o,ord'=i::r/\ops[i]? =some o/\2<=dy Γ.ty o/\w9 M0 rs' (zdA dep i) rs'=true/\fa ops o (zre (dM (inB (zdA dep i)) T0 rs') (aM ops o)) true/\aBB Γ ops dep T0 M0 rs' i o λT M q=>dB Γ ops dep T M q r K)
 |[],bf,rs,S=>⟨bf,rs,[],S,rfl,Or.inl rfl⟩
 |i::r,bf,rs,S=>by
  have F:=S.F
  unfold dB at F
  split at F
  ·exact F.elim
  rename_i o ho
  obtain⟨hsb,F⟩:w9 M0 rs (zdA dep i) rs=true/\aAD (vL ops (zdA dep i) o (zre (dM (inB (zdA dep i)) T0 rs) (aM ops o)))
    (aBB Γ ops dep T0 M0 rs i o λT M q=>dB Γ ops dep T M q r K)
    (dB Γ ops dep T0 M0 (⟨i,o.dst,.tup [],[],zdA dep i,aM ops o⟩::rs) r K):=by
   rcases bm F with h|h
   ·exact h
   exact h.2.elim
  have hsf:=mT hsb
  obtain⟨b,hg,ht,hf⟩:=qF F
  clear F
  have step:∀{v n},(St Γ N ops dep K (i::bf) T0 M0 (⟨i,o.dst,v,n,zdA dep i,aM ops o⟩::rs) r p ρ a w/\p i=false)->
    ∃bf' rs' ord',St Γ N ops dep K bf' T0 M0 rs' ord' p ρ a w/\zrM p M0 rs'=zrM p M0 rs/\(ord'=[]\/∃i r o,ord'=i::r/\ops[i]? =some o/\2<=dy Γ.ty o/\w9 M0 rs' (zdA dep i) rs'=true/\fa ops o (zre (dM (inB (zdA dep i)) T0 rs') (aM ops o)) true/\aBB Γ ops dep T0 M0 rs' i o λT M q=>dB Γ ops dep T M q r K):=by
   rintro v n ⟨S',hp⟩
   obtain⟨bf',rs',ord',h1,h2,h3⟩:=St.advance hd hdst r S'
   refine⟨bf',rs',ord',h1,?_,h3⟩
   rw[h2]
   simp only[zrM,hp,zcF]
  cases b with
  |false=>exact step (S.push hd hdst ho (n:=[]) hg (λb e h=>by simp[zG]at h) hsf (λh=>by cases h) (λ_=>⟨rfl,rfl⟩) (hf rfl))
  |true=>
  have F:=ht rfl
  have F0:=F
  unfold aBB at F
  split at F
  ·rename_i hk
   split at F
   ·rename_i qs v hv
    refine step (S.push hd hdst ho (n:=[]) hg (λb e h=>by simp[zG]at h) hsf (λ_=>nD hk hv ⟨?_,rfl,rfl⟩) (λh=>by cases h) (zwP.rest F))
    rw[append_nil];exact zwP.all F
   exact F.elim
  ·rename_i hk
   split at F
   ·rename_i qs d e v he
    split at F
    ·rename_i hm
     have hm2:zG (zrM (inB (zdA dep i)) M0 rs) d=none:=by
      cases h:zG (zrM (inB (zdA dep i)) M0 rs) d with
      |none=>rfl
      |some e'=>rw[se (p:=inB (zdA dep i)) (q:=jo) (λ_ _ _=>rfl) hm]at h;cases h
     have hnew:=qO (K:=λqs v' M'=>All qs/\v'=v/\M'=[(d,e)]++zrM (inB (zdA dep i)) M0 rs) he hm2 ⟨by rw[append_nil];exact zwP.all F,rfl,rfl⟩
     refine step (S.push hd hdst ho hg (λb e' h=>Or.inl ?_) hsf (λ_=>hnew.1) (λh=>by cases h) (zwP.rest F))
     by_cases hb:b=d
     ·subst hb
      rw[zh]at h
      simp only[zoI]at h;subst h
      exact⟨hm,Ent.loose_own hnew.2,λh=>by rw[h]at hnew;cases hnew.2⟩
     rw[zg hb]at h;simp[zG]at h
    exact F.elim
   exact F.elim
  rename_i h0 h1
  refine⟨bf,rs,i::r,S,rfl,Or.inr ⟨i,r,o,rfl,ho,?_,hsb,hg,F0⟩⟩
  rcases Nat.lt_or_ge (dy Γ.ty o) 2 with h|h
  ·have h2:dy Γ.ty o=0\/dy Γ.ty o=1:=by omega
   exact h2.elim (λh=>(h0 h).elim) λh=>(h1 h).elim
  exact h
theorem Inv.run (I:Inv N (zdA dep) bf T0 M0 rs p ρ a w) {o:Oper} {dp:List Nat} (hdst:∀d,o.dst=some d->d<N) (hd:∀k∈dp,p k=true) (ht:∀k∈dp,∀j∈zdA dep k,j∈dp)
  (hrd:∀r∈rs,∀s,r.dst=some s->s∈aM ops o->p r.ix=true->r.ix∈dp)
  (hsf:∀k∈rs,p k.ix=true->k.ix∉dp->∀a,zG k.new a=some .dead->zG (zrM (inB dp) M0 rs) a=none) {G:SV->Mm->Prop} {C:List Prop->SV->Mm->Prop}
  (hC:∀qs v M',C qs v M'->All qs/\∃E,M'=E++zrM (inB dp) M0 rs/\(∀b e,zG E b=some e->(zG (zrM p M0 rs) b=none/\e.loose=true)\/(e.loose=true/\∃e0,zG (zrM (inB dp) M0 rs) b=some e0))/\G v E)
  (hf:bp Γ o (zre (dM (inB dp) T0 rs) (aM ops o)) (zrM (inB dp) M0 rs) [] C) {Q:Exit->Act->World->Prop}:
  o.wp Γ.P a w (λa' w'=>∃v E x ρ',G v E/\a'.tmps=(a.put o.dst x).tmps/\a'.defers=[]/\ρ.le ρ'/\
   (∀d,o.dst=some d->zRT ρ' v x/\nL (E++zrM (inB dp) M0 rs) v)/\(∀b e,zG E b=some e->mA (E++zrM (inB dp) M0 rs) e)/\
   zF ρ' (E++zrM p M0 rs) w'/\aV ρ (zrM p M0 rs) ρ' (E++zrM p M0 rs) w w') Q:=by
 obtain⟨hs,hc⟩:=I.sees (rd:=aM ops o) hd ht hrd hsf
 refine Oper.wp_mono ?_ (Oper.wp_put (iQ hc hdst (λqs v M' h=>(hC qs v M' h).1) hf))
 rintro a' w' ⟨⟨x,hx⟩,ρ1,T',M',⟨qs,v,hk,rfl⟩,hle,hc',hst⟩
 obtain⟨_,E,rfl,hfr,hG⟩:=hC qs v M' hk
 obtain⟨ρ2,l1,l2,h1,h2⟩:=I.mem.frame hs hle hc'.tozF hst hfr
 refine⟨v,E,x,ρ2,hG,hx,hc'.defers,l1,λd hdd=>?_,λb e h=>hc'.tozF.told (zan h),h1,h2⟩
 have hr:=hc'.tm d
 rw[hdd,zt,aK,hx,hdd]at hr
 have hxx:(a.put (some d) x).tmps.getD d undef=x:=by
  have hlt:=hdst d hdd
  unfold Act.put
  simp only[Array.getD_eq_getD_getElem?]
  rw[Array.getElem?_setIfInBounds_self_of_lt (by rw[I.sz];exact hlt)]
  rfl
 rw[hxx]at hr
 exact⟨hr.le l2,hc'.tozF.toldT hr⟩
end
theorem aD9 (M:Mm):nL M (.tup []):=⟨⟨λ_=>False,λ_=>(0,0),λ_ _ _=>False⟩,undef,λ_ h=>h.elim,⟨[],rfl,rfl⟩⟩
def pB (l:Array Bool):Nat->Bool:=λj=>l.getD j false
theorem aFJ (h:i<l.size):pB (l.setIfInBounds i true)=kY (pB l) i:=by
 funext j
 by_cases hj:j=i
 ·subst hj
  rw[bE]
  simp only[pB,Array.getD_eq_getD_getElem?]
  rw[Array.getElem?_setIfInBounds_self_of_lt h]
  rfl
 rw[mY hj]
 simp only[pB]
 exact getD_set_ne false (Ne.symm hj)
theorem pO (h:i<l.size):l.getD i true=false↔pB l i=false:=by
 simp only[pB,Array.getD_eq_getD_getElem?,Array.getElem?_eq_getElem h,Option.getD_some]
theorem vS {α:Type} {p q:α->Bool}:∀{l:List α},(∀x∈l,q x=true->p x=true)->(l.filter q).length<=(l.filter p).length
 |[],_=>by simp
 |y::t,hpq=>by
  have iht:=vS (p:=p) (q:=q) (l:=t) λz hz=>hpq z (mem_cons_of_mem _ hz)
  have hy:=hpq y (by simp)
  rw[filter_cons,filter_cons]
  cases h:q y with
  |true=>rw[hy h];simpa using iht
  |false=>cases p y<;>simp <;>omega
theorem vQ {α:Type} {p q:α->Bool} {i:α}:∀{l:List α},(∀x∈l,q x=true->p x=true)->i∈l->p i=true->q i=false->(l.filter q).length<(l.filter p).length
 |[],_,h,_,_=>by simp at h
 |x::r,hpq,hi,hp,hq=>by
  have le:(r.filter q).length<=(r.filter p).length:=vS λy hy=>hpq y (mem_cons_of_mem _ hy)
  rw[filter_cons,filter_cons]
  rcases List.mem_cons.1 hi with h|h
  ·subst h;rw[hp,hq];simp;omega
  have ih:=vQ (λy hy=>hpq y (mem_cons_of_mem _ hy)) h hp hq
  have hx:=hpq x (by simp)
  cases h:q x with
  |true=>rw[hx h];simpa using ih
  |false=>cases p x<;>simp <;>omega
def left (n:Nat) (p:Nat->Bool):Nat:=((List.range n).filter λj=>!p j).length
theorem aGO (hi:i<n) (hp:p i=false):left n (kY p i)<left n p:=by
 refine vQ (i:=i) (λx _ h=>?_) (List.mem_range.2 hi) (by simp[hp]) (by simp[bE])
 cases hx:p x with
 |false=>rfl
 |true=>rw[aO hx]at h;exact h
theorem aGN (h:left n p<=0):∀j,j<n->p j=true:=by
 intro j hj
 cases hp:p j with
 |true=>rfl
 |false=>
  have:j∈(List.range n).filter λj=>!p j:=List.mem_filter.2 ⟨List.mem_range.2 hj,by simp[hp]⟩
  have:=List.length_pos_of_mem this
  unfold left at h
  omega
theorem vt:∀{rs:List Rec},aVR ops dep dp rs=true->∀r∈rs,r.ix∈dp\/eA ops dep r.ix=true
 |[],_,_,h=>by simp at h
 |r0::t,hb,r,hr=>by
  simp only[aVR,zbA,or_eq_true]at hb
  rcases List.mem_cons.1 hr with h|h
  ·rw[h];exact hb.1.imp zmi.1 id
  exact vt hb.2 r h
theorem pT:∀{ops:List Oper},zb ops=true->∀o∈ops,∀cs b,o.op≠ .select cs b
 |[],_,_,h,_,_=>by simp at h
 |o::r,hn,o',ho,cs,b=>by
  simp only[zb,zbA,not_eq_true']at hn
  rcases List.mem_cons.1 ho with h|h
  ·subst h
   intro he
   have:=hn.1
   unfold aUB at this
   rw[he]at this;cases this
  exact pT hn.2 o' h cs b
theorem rq:∀{l:List Nat},aK7 i l=true->∀k∈l,k<i
 |[],_,_,h=>by simp at h
 |x::r,hn,k,hk=>by
  simp only[aK7,zbA]at hn
  rcases List.mem_cons.1 hk with h|h
  ·subst h;exact ay hn.1
  exact rq hn.2 k h
theorem oT:∀{l:List Edge},t8 i l=true->∃e∈l,Region.binds .any e=true/\e.on=i
 |[],h=>by simp[t8]at h
 |e::r,h=>by
  simp only[t8,or_eq_true,zbA]at h
  rcases h with h|h
  ·exact⟨e,by simp,h.1,zq h.2⟩
  obtain⟨e',h1,h2⟩:=oT h
  exact⟨e',mem_cons_of_mem _ h1,h2⟩
theorem gQ:∀{l:List Operand},t∈ka l↔Operand.tmp t∈l
 |[]=>by simp[ka]
 | .tmp s::r=>by simp[ka,gQ (l:=r)]
 | .const _::r=>by simp[ka,gQ (l:=r)]
 | .global _::r=>by simp[ka,gQ (l:=r)]
 | .func _::r=>by simp[ka,gQ (l:=r)]
theorem kz (h:d∈o.looksAt ops.toArray):d∈aM ops o:=by
 unfold Oper.looksAt at h
 unfold aM
 rcases List.mem_append.1 h with h|h
 ·refine List.mem_append_right _ (gQ.2 ?_)
  obtain⟨x,hx,he⟩:=List.mem_filterMap.1 h
  cases x<;>simp at he
  subst he;exact hx
 refine List.mem_append_left _ ?_
 unfold aUG
 cases hg:o.guard with
 |none=>rw[hg]at h;simp at h
 |some gw=>
  obtain⟨g,want⟩:=gw
  rw[hg]at h
  simp only[List.getElem?_toArray]at h
  simp only[zgS]
  cases hx:ops[g]? with
  |none=>rw[hx]at h;simp at h
  |some o'=>
   rw[hx]at h
   simp only[Option.bind_some]at h
   cases hd:o'.dst with
   |none=>rw[hd]at h;simp at h
   |some d'=>rw[hd]at h;simpa [hd]using h
theorem yT (h:aI0 ops x y=true):x.apart ops.toArray y=true:=by
 simp only[aI0,zbA]at h
 obtain⟨h1,h2,h3⟩:=h
 unfold Oper.apart
 simp only[zbA]
 constructor
 ·cases hx:x.dst with
  |none=>rfl
  |some d=>
   simp only[zbA,not_eq_true',bne_iff_ne,ne_eq]
   constructor
   ·cases hc:(Oper.looksAt ops.toArray y).contains d with
    |false=>rfl
    |true=>exact absurd (kz (by simpa using hc)) (iE h1 d hx)
   intro he
   exact r7 h2 d hx he
 cases hy:y.dst with
 |none=>rfl
 |some d=>
  simp only[not_eq_true']
  cases hc:(Oper.looksAt ops.toArray x).contains d with
  |false=>rfl
  |true=>exact absurd (kz (by simpa using hc)) (iE h3 d hy)
theorem dz:∀{l:List Oper} {k:Nat},oL ops dp i o k l=true->∀j oj,l[j]? =some oj->k+j≠i->k+j∉dp->(∀e∈oj.after,Region.binds .any e=true->e.on≠i)->
  o.apart ops.toArray oj=true
 |[],_,_,j,oj,hj,_,_,_=>by simp at hj
 |x::r,k,h,j,oj,hj,hne,hdp,hw=>by
  simp only[oL,zbA]at h
  cases j with
  |zero=>
   simp only[List.getElem?_cons_zero,zoI]at hj
   subst hj
   rw[Nat.add_zero]at hne hdp
   have:=h.1
   simp only[or_eq_true]at this
   rcases this with h1|h1|h1|h1
   ·exact absurd (zq h1) hne
   ·exact absurd (zmi.1 h1) hdp
   ·obtain⟨e,he,hb,hon⟩:=oT h1
    exact absurd hon (hw e (by simpa using he) hb)
   exact yT h1
  |succ j=>
   refine dz h.2 j oj (by simpa using hj) ?_ ?_ hw
   ·rw[show k+1+j=k+(j+1) by omega];exact hne
   rw[show k+1+j=k+(j+1) by omega];exact hdp
theorem kU (h:eA ops dep i=true):∃o,ops[i]? =some o/\vo o=true/\(∀k∈zdA dep i,k<i)/\
  (∀j oj,ops[j]? =some oj->j≠i->j∉zdA dep i->(∀e∈oj.after,Region.binds .any e=true->e.on≠i)->o.apart ops.toArray oj=true)/\∀o∈ops,∀cs b,o.op≠ .select cs b:=by
 unfold eA at h
 split at h
 ·cases h
 rename_i o ho
 simp only[zbA]at h
 obtain⟨h1,h2,h3,h4⟩:=h
 refine⟨o,ho,h1,rq h2,λj oj hj hne hdp hw=>?_,pT h4⟩
 have:=dz h3 j oj hj
 rw[Nat.zero_add]at this
 exact this hne hdp hw
theorem aMP (hb:vo o=true) (h:o.wp P a w K Q):
  ∃v,(∀w,(execOp a.eval o).run P w= .ok (.value v) w)/\K (a.put o.dst v) w:=by
 obtain⟨dst,op,ty,pos,after,guard⟩:=o
 unfold Oper.wp at h
 cases op<;>simp only[vo,Bool.false_eq_true]at hb
 case move x=>exact⟨a.eval x,λ_=>rfl,h⟩
 case assign x=>exact⟨a.eval x,λ_=>rfl,h⟩
 case pick c x y=>
  simp only[execOp]at h⊢
  cases hx:a.eval c
  case bool b=>
   rw[hx]at h
   exact⟨if b then a.eval x else a.eval y,λ_=>rfl,h⟩
  all_goals
   rw[hx]at h
   exact absurd h (by simp[asBool,stuck,Sem.run,Sem.run_bind,Oper.upon];try(intro h;exact h))
 case extract x k=>
  simp only[execOp,Instr.extract]at h⊢
  cases hx:a.eval x
  case tuple vs=>
   rw[hx]at h
   simp only at h⊢
   cases hv:vs[k]? with
   |some v=>
    rw[hv]at h
    exact⟨v,λ_=>rfl,h⟩
   |none=>
    rw[hv]at h
    exact absurd h (by simp[stuck,Sem.run,Oper.upon])
  all_goals
   rw[hx]at h
   exact absurd h (by simp[stuck,Sem.run,Oper.upon];try(intro h;exact h))
theorem aCS (hlo:¬LetsOut Q) (ho:ops[i]? =some o) (hb:vo o=true) (h:wpOp P ops Q i K a w):
  ∃v,Yields P ops o v a/\K (a.put o.dst v) w:=by
 unfold wpOp at h
 simp only[ho]at h
 split at h
 ·rename_i hw
  rcases h with h|⟨_,h⟩
  ·obtain⟨v,h1,h2⟩:=aMP hb h
   exact⟨v,Or.inl ⟨hw,h1⟩,h2⟩
  exact absurd h hlo
 rename_i hw
 exact⟨undef,Or.inr ⟨by simpa using hw,rfl⟩,h⟩
section
variable {Γ:Cfg} {N:Nat} {ops:List Oper} {dep:List (List Nat)} {K:Tm->Mm->Prop}
theorem mq {ops:List Oper} {dep:List (List Nat)} {dp:List Nat}:∀{rs:List Rec},(∀x∈u2 ops dep dp rs,x∈rs)/\∀r∈rs,r∈u2 ops dep dp rs\/r.ix∈dp\/eA ops dep r.ix=true
 |[]=>by simp[u2]
 |r::q=>by
  obtain⟨k1,k2⟩:=mq (ops:=ops) (dep:=dep) (dp:=dp) (rs:=q)
  simp only[u2]
  cases hb:(eY r.ix dp||eA ops dep r.ix)with
  |true=>
   rw[zcT]
   refine⟨λx hx=>mem_cons_of_mem _ (k1 x hx),λr' hr'=>?_⟩
   rcases List.mem_cons.1 hr' with h|h
   ·rw[h]
    simp only[or_eq_true]at hb
    exact Or.inr (hb.imp zmi.1 id)
   exact k2 r' h
  |false=>
   rw[zcF]
   refine⟨λx hx=>?_,λr' hr'=>?_⟩
   ·rcases List.mem_cons.1 hx with h|h
    ·rw[h];simp
    exact mem_cons_of_mem _ (k1 x h)
   rcases List.mem_cons.1 hr' with h|h
   ·rw[h];exact Or.inl (by simp)
   exact(k2 r' h).imp (λh=>mem_cons_of_mem _ h) id
theorem ji:∀{rs:List Rec},kr i rs=true->∀r∈rs,i∉r.dep
 |[],_,_,h=>by simp at h
 |r0::q,h,r,hr=>by
  simp only[kr,zbA,not_eq_true']at h
  rcases List.mem_cons.1 hr with h'|h'
  ·rw[h'];exact gh h.1
  exact ji h.2 r h'
theorem rj:∀{E:Mm},aKV M E=true->∀b e,zG E b=some e->zG M b=none/\e.zW=true
 |[],_,_,_,h=>by simp[zG]at h
 |(k,e0)::r,h,b,e,he=>by
  simp only[aKV,zbA]at h
  by_cases hk:b=k
  ·subst hk
   rw[zh]at he
   simp only[zoI]at he;subst he
   exact⟨eI h.1.1,h.1.2⟩
  rw[zg hk]at he
  exact rj h.2 b e he
theorem px:∀{X:List Rec},zr ty ops dp rs X=true->∀x∈X,(qb ops x.ix=true\/aBW ty ops x.ix=true)/\x.ix∉dp/\∀r∈rs,x.ix∉r.dep
 |[],_,x,h=>by cases h
 |y::q,h,x,hx=>by
  simp only[zr,zbA,or_eq_true,not_eq_true']at h
  rcases List.mem_cons.1 hx with h'|h'
  ·rw[h'];exact⟨h.1.1,gh h.1.2.1,ji h.1.2.2⟩
  exact px h.2 x h'
theorem xm (h:aGQ ty i0 o0 ops dep dp rs=some X):
  (∀x∈X,x∈rs)/\(∀r∈rs,r∈X\/r.ix∈dp\/eA ops dep r.ix=true)/\∀x∈X,(qb ops x.ix=true\/aBW ty ops x.ix=true)/\x.ix∉dp/\∀r∈rs,x.ix∉r.dep:=by
 unfold aGQ at h
 have h:=(zn h).2
 have hb:=(zn h).1
 have h:=(zn h).2
 simp only[zoI]at h
 subst h
 exact⟨mq.1,mq.2,px hb⟩
theorem b8:∀{S:List Rec},tp S j=true↔∀x∈S,x.ix≠j
 |[]=>by simp[tp]
 |x::r=>by
  simp only[tp,zbA,not_eq_true',b8 (S:=r),mem_cons,forall_eq_or_imp]
  refine and_congr ⟨λh e=>?_,λh=>?_⟩ Iff.rfl
  ·rw[e,Nat.beq_refl]at h;cases h
  cases hb:beq j x.ix with
  |false=>rfl
  |true=>exact absurd (zq hb).symm h
theorem kJ (p:Rec->Bool):∀{X S:List Rec},tL Γ ops o T0 M0 rs next X S->
  ∃S',(∀x,x∈S'↔(x∈X/\p x=true)\/x∈S)/\bp Γ o (dM (tp S') T0 rs) (zrM (tp S') M0 rs) [] λqs v M'=>zwP qs (lD Γ ops (zt o.dst v (dM (tp S') T0 rs)) M' next S' [])
 |[],S,h=>⟨S,λx=>by simp,h⟩
 |y::r,S,h=>by
  cases hp:p y with
  |true=>
   obtain⟨S',h1,h2⟩:=kJ p h.2
   refine⟨S',λx=>?_,h2⟩
   rw[h1,mem_cons,mem_cons]
   constructor
   ·rintro(h|h|h)
    ·exact Or.inl ⟨Or.inr h.1,h.2⟩
    ·exact Or.inl ⟨Or.inl h,by rw[h];exact hp⟩
    exact Or.inr h
   rintro(⟨h|h,hx⟩|h)
   ·exact Or.inr (Or.inl h)
   ·exact Or.inl ⟨h,hx⟩
   exact Or.inr (Or.inr h)
  |false=>
   obtain⟨S',h1,h2⟩:=kJ p h.1
   refine⟨S',λx=>?_,h2⟩
   rw[h1,mem_cons]
   constructor
   ·rintro(h|h)
    ·exact Or.inl ⟨Or.inr h.1,h.2⟩
    exact Or.inr h
   rintro(⟨h|h,hx⟩|h)
   ·rw[h,hp]at hx;cases hx
   ·exact Or.inl ⟨h,hx⟩
   exact Or.inr h
theorem aBV (h:aBW ty ops i=true):∃o,ops[i]? =some o/\dy ty o=0/\o.guard=none:=by
 unfold aBW at h
 split at h
 ·rename_i o ho
  split at h
  ·rename_i hg;exact⟨o,ho,zq h,hg⟩
  cases h
 cases h
theorem yV (h:qb ops i=true):∃o t,ops[i]? =some o/\o.op= .alloc t/\o.guard=none:=by
 unfold qb at h
 split at h
 ·rename_i o ho
  split at h
  ·rename_i t hop
   split at h
   ·rename_i hg;exact⟨o,t,ho,hop,hg⟩
   cases h
  cases h
 cases h
theorem aI1 (ho:o.op= .alloc t) (h:bp Γ o T M [] λqs v' M'=>All qs/\v'=v/\M'=E++M) (hE:∀b e,zG E b=some e->zG M2 b=none):
  bp Γ o T2 M2 [] λqs v' M'=>All qs/\v'=v/\M'=E++M2:=by
 unfold bp at h⊢
 rw[ho]at h⊢
 simp only at h⊢
 split at h
 ·rename_i d hd
  split at h
  ·split at h
   ·exact h.elim
   rename_i hk
   split at h
   ·exact h.elim
   rename_i zl hz
   obtain⟨h1,h2,h3⟩:=h
   have h4:E=[(d,.mem true 0 (Γ.ty t).zl)]:=by
    have:[(d,Ent.mem true 0 (Γ.ty t).zl)]++M=E++M:=h3
    exact(List.append_cancel_right this).symm
   rw[hE d (.mem true 0 (Γ.ty t).zl) (by rw[h4];exact zh _ _ _)]
   simp only
   exact⟨h1,h2,by rw[h4];rfl⟩
  exact h.elim
 exact h.elim
theorem nd:∀{r:List Nat} {bf bf2:List Nat},(∀j,j∈bf↔j∈bf2)->kp ty ops dep bf r=true->kp ty ops dep bf2 r=true
 |[],_,_,_,_=>rfl
 |i::r,bf,bf2,hm,h=>by
  have hmem:∀j,eY j bf=eY j bf2:=λj=>by
   cases h1:eY j bf with
   |true=>exact(zmi.2 ((hm j).1 (zmi.1 h1))).symm
   |false=>
    cases h2:eY j bf2 with
    |false=>rfl
    |true=>exact absurd ((hm j).2 (zmi.1 h2)) (gh h1)
  simp only[kp,zbA]at h⊢
  obtain⟨h1,h2⟩:=h
  refine⟨?_,nd (λj=>?_) h2⟩
  ·split
   ·rename_i ho;rw[ho]at h1;cases h1
   rename_i o ho
   rw[ho]at h1
   simp only[zbA,or_eq_true,not_eq_true',all_eq_true]at h1⊢
   obtain⟨⟨⟨a1,a2⟩,a3⟩,a4⟩:=h1
   exact⟨⟨⟨by rw[<-hmem];exact a1,λk hk=>by rw[<-hmem];exact a2 k hk⟩,a3⟩,λj hj=>a4 j ((hm j).2 hj)⟩
  rw[mem_cons,mem_cons,hm j]
theorem qu (h:zG (zrM jo M rs) b=none):zG M b=none:=by
 cases hx:zG M b with
 |none=>rfl
 |some e=>
  obtain⟨e',he⟩:=dq (rs:=rs) (p:=jo) hx
  rw[h]at he;cases he
theorem u1 {p:Nat->Bool} {T:Tm} {M:Mm} {next:Tm->Mm->List Rec->Prop} {rs':List Rec} {ρ:Env} {a:Act} {w:World}
  (huniq:∀r∈rs',∀r'∈rs',r.ix≠r'.ix->aMW r r'):∀(S acc:List Rec) {bf:List Nat},lD Γ ops T M next S acc->Inv N (zdA dep) bf T M acc p ρ a w->
  (∀y∈acc,(∃o,ops[y.ix]? =some o/\y.dst=o.dst/\y.rd=aM ops o)/\(∃o,ops[y.ix]? =some o/\o.guard=none/\o.dst=y.dst/\bp Γ o (zre T y.rd) M [] λqs v' M2=>All qs/\v'=y.v/\M2=y.new++M)/\(∃y0∈rs',y0.ix=y.ix/\y0.dst=y.dst/\y0.dep=y.dep/\y0.rd=y.rd)/\(∀b e,zG y.new b=some e->e.zW=true)/\p y.ix=false)->
  (∀x∈S,x∈rs'/\p x.ix=false/\x.ix∉bf/\x.dep=zdA dep x.ix/\(∀k∈x.dep,∀j∈zdA dep k,j∈x.dep)/\(∀k∈x.dep,p k=true)/\(∀d,x.dst=some d->d<N)/\
   (∃o,ops[x.ix]? =some o/\x.dst=o.dst/\x.rd=aM ops o)/\(qb ops x.ix=true\/aBW Γ.ty ops x.ix=true)/\(∃T1 M1,aVZ Γ ops x T1 M1))->
  ∃acc' bf',Inv N (zdA dep) bf' T M acc' p ρ a w/\next T M acc'/\(∀j,j∈bf'↔j∈bf\/∃x∈S,x.ix=j)/\
   (∀y∈acc',(∃o,ops[y.ix]? =some o/\y.dst=o.dst/\y.rd=aM ops o)/\(∃o,ops[y.ix]? =some o/\o.guard=none/\o.dst=y.dst/\bp Γ o (zre T y.rd) M [] λqs v' M2=>All qs/\v'=y.v/\M2=y.new++M)/\p y.ix=false)
 |[],acc,bf,h,I,hacc,_=>⟨acc,bf,I,h,λj=>by simp,λy hy=>⟨(hacc y hy).1,(hacc y hy).2.1,(hacc y hy).2.2.2.2⟩⟩
 |x::r,acc,bf,h,I,hacc,hS=>by
  unfold lD at h
  obtain⟨hns,h⟩:=bm h|>.resolve_right λh=>h.2.elim
  have hns:=b8.1 hns
  obtain⟨s1,s2,s3,s4,s5,s6,s7,⟨ox,s8,s9,s10⟩,s11,T1,M1,s12⟩:=hS x (by simp)
  have go:∀(x2:Rec),x2.ix=x.ix->x2.dst=x.dst->x2.dep=x.dep->x2.rd=x.rd->(∀b e',zG x2.new b=some e'->zG (zrM jo M acc) b=none/\e'.zW=true)->lD Γ ops T M next r (x2::acc)->
    (∃o,ops[x.ix]? =some o/\o.guard=none/\o.dst=x.dst/\bp Γ o (zre T x.rd) M [] λqs v' M2=>All qs/\v'=x2.v/\M2=x2.new++M)->
    ∃acc' bf',Inv N (zdA dep) bf' T M acc' p ρ a w/\next T M acc'/\(∀j,j∈bf'↔j∈bf\/∃y∈x::r,y.ix=j)/\
     (∀y∈acc',(∃o,ops[y.ix]? =some o/\y.dst=o.dst/\y.rd=aM ops o)/\(∃o,ops[y.ix]? =some o/\o.guard=none/\o.dst=y.dst/\bp Γ o (zre T y.rd) M [] λqs v' M2=>All qs/\v'=y.v/\M2=y.new++M)/\p y.ix=false):=by
   intro x2 e1 e2 e3 e4 hnew hgo hfx
   have I1:=I.push (r:=x2) (by rw[e1];exact s3) (by rw[e1,e3];exact s4) (by rw[e3];exact s5) (λk hk=>by rw[e3]at hk;exact I.done k (s6 k hk)) (by rw[e2];exact s7)
    (λy hy=>by
     obtain⟨_,_,⟨y0,y1,y2,y3,y4,y5⟩,_,_⟩:=hacc y hy
     have hne:x.ix≠y0.ix:=λh=>hns y hy (by rw[<-y2,h])
     have hp:=huniq x s1 y0 y1 hne
     obtain⟨p1,p2,p3⟩:=hp
     refine⟨λs h1 h2=>?_,λs h1 h2=>?_,λs h1=>?_⟩
     ·rw[e3,e1,<-y4,<-y2];rw[e4]at h2;rw[<-y3]at h1;exact p1 s h1 h2
     ·rw[e1,e3,<-y2,<-y4];rw[e2]at h1;rw[<-y5]at h2;exact p2 s h1 h2
     rw[e2]at h1;rw[<-y3];exact p3 s h1)
    (λb e' he=>Or.inl ⟨(hnew b e' he).1,Ent.loose_own (hnew b e' he).2,λh=>by have:=(hnew b e' he).2;rw[h]at this;cases this⟩)
    (λy hy _ b hb=>by have:=(hacc y hy).2.2.2.1 b _ hb;cases this)
   obtain⟨acc',bf',k1,k2,k3,k4⟩:=u1 huniq r (x2::acc) hgo I1
    (λy hy=>by
     rcases List.mem_cons.1 hy with h'|h'
     ·subst h'
      obtain⟨o,g1,g2,g3,g4⟩:=hfx
      refine⟨⟨ox,by rw[e1];exact s8,by rw[e2];exact s9,by rw[e4];exact s10⟩,⟨o,by rw[e1];exact g1,g2,by rw[e2];exact g3,by rw[e4];exact g4⟩,⟨x,s1,e1.symm,e2.symm,e3.symm,e4.symm⟩,λb e h=>(hnew b e h).2,by rw[e1];exact s2⟩
     exact hacc y h')
    (λy hy=>by
     obtain⟨z1,z2,z3,z⟩:=hS y (mem_cons_of_mem _ hy)
     refine⟨z1,z2,?_,z⟩
     intro hm
     rcases List.mem_cons.1 hm with h'|h'
     ·-- the same twice: the list of what is foreseen says no
      have:∀{S acc:List Rec},lD Γ ops T M next S acc->∀y∈S,∀q∈acc,q.ix≠y.ix:=by
       intro S
       induction S with
       |nil=>intro acc _ y hy;cases hy
       |cons z t ih=>
        intro acc hg y hy q hq
        unfold lD at hg
        obtain⟨hz,hg⟩:=bm hg|>.resolve_right λh=>h.2.elim
        rcases List.mem_cons.1 hy with e|e
        ·rw[e];exact b8.1 hz q hq
        rcases bm hg with⟨_,hg⟩|⟨_,hg⟩
        ·obtain⟨_,hg⟩:=bm hg|>.resolve_right λh=>h.2.elim
         exact ih hg y e q (mem_cons_of_mem _ hq)
        split at hg
        ·split at hg
         ·exact ih (zwP.rest hg) y e q (mem_cons_of_mem _ hq)
         exact hg.elim
        exact hg.elim
      exact this hgo y hy x2 (by simp) h'.symm
     exact z3 h')
   refine⟨acc',bf',k1,k2,λj=>?_,k4⟩
   rw[k3,mem_cons,e1]
   constructor
   ·rintro((h|h)|⟨y,h1,h2⟩)
    ·exact Or.inr ⟨x,by simp,h.symm⟩
    ·exact Or.inl h
    exact Or.inr ⟨y,mem_cons_of_mem _ h1,h2⟩
   rintro(h|⟨y,h1,h2⟩)
   ·exact Or.inl (Or.inr h)
   rcases List.mem_cons.1 h1 with h'|h'
   ·exact Or.inl (Or.inl (by rw[<-h2,h']))
   exact Or.inr ⟨y,h',h2⟩
  obtain⟨o0,b0,f1,f2,f3,f4,_⟩:=s12
  rcases bm h with⟨hal,h⟩|⟨hal,h⟩
  ·obtain⟨hnew,hF⟩:=bm h|>.resolve_right λh=>h.2.elim
   have hnew:=rj hnew
   obtain⟨o3,t3,k1,k2,k3⟩:=yV hal
   have e3:o3=o0:=Option.some.inj (k1.symm.trans f1)
   subst e3
   have hbx:b0=true:=by
    unfold fa at f2
    rw[k3]at f2;exact f2
   exact go x rfl rfl rfl rfl hnew hF ⟨o3,k1,k3,f3,aI1 k2 (f4 hbx) (λb e' he=>qu (hnew b e' he).1)⟩
  obtain⟨o3,k1,k2,k3⟩:=aBV (s11.resolve_left λh=>by rw[hal]at h;cases h)
  have e3:o3=o0:=Option.some.inj (k1.symm.trans f1)
  subst e3
  have e4:ox=o3:=Option.some.inj (s8.symm.trans k1)
  subst e4
  rw[k1]at h
  simp only at h
  split at h
  ·rename_i qs3 v3 hv3
   refine go ⟨x.ix,x.dst,v3,[],x.dep,aM ops ox⟩ rfl rfl rfl s10.symm (λb e' he=>by simp[zG]at he) (zwP.rest h)
    ⟨ox,k1,k3,f3,by rw[s10];exact nD k2 hv3 ⟨by simpa using zwP.all h,rfl,rfl⟩⟩
  exact h.elim
theorem nf:∀{M:Mm},su M=true->zG M b≠some .dead
 |[],_=>by simp[zG]
 |(k,e)::r,h=>by
  simp only[su,zbA]at h
  by_cases hk:b=k
  ·subst hk
   rw[zh]
   intro he
   simp only[zoI]at he;subst he
   cases h.1
  rw[zg hk];exact nf h.2
theorem rL:∀{rs:List Rec},aJR dp k rs=true->∀x∈rs,x.ix∉dp->zG x.new k=none
 |[],_,x,hx=>by simp at hx
 |y::q,h,x,hx=>by
  simp only[aJR,zbA,or_eq_true]at h
  intro hd
  rcases List.mem_cons.1 hx with h'|h'
  ·subst h';exact eI (h.1.resolve_left λh=>hd (zmi.1 h))
  exact rL h.2 x h' hd
theorem rM:∀{rs:List Rec},aJT dp rs=true->∀x∈rs,x.ix∉dp->∀b,zG x.new b≠some .dead
 |[],_,x,hx=>by simp at hx
 |y::q,h,x,hx=>by
  simp only[aJT,zbA,or_eq_true]at h
  intro hd b
  rcases List.mem_cons.1 hx with h'|h'
  ·subst h';exact nf (h.1.resolve_left λh=>hd (zmi.1 h))
  exact rM h.2 x h' hd b
theorem mK:∀{E:Mm},aJS dp rs E=true->∀b e,zG E b=some e->e.loose=true/\∀x∈rs,x.ix∉dp->zG x.new b=none
 |[],_,b,e,h=>by simp[zG]at h
 |(k,e0)::r,h,b,e,he=>by
  simp only[aJS,zbA]at h
  by_cases hk:b=k
  ·subst hk
   rw[zh]at he
   simp only[zoI]at he;subst he
   exact⟨h.1.1,rL h.1.2⟩
  rw[zg hk]at he
  exact mK h.2 b e he
def aR3 (Γ:Cfg) (ops:List Oper) (T0:Tm) (M1:Mm) (rs:List Rec) (x:Rec):Prop:=
 ∃o b,ops[x.ix]? =some o/\fa ops o (zre (dM (inB x.dep) T0 rs) (aM ops o)) b/\
  (b=true->(dy Γ.ty o=0/\x.new=[]/\∃qs v,fo Γ.ty (zre (dM (inB x.dep) T0 rs) (aM ops o)) (zrM (inB x.dep) M1 rs) o.op=some (qs,v)/\All qs/\v=x.v)\/
   ∃qs d e v,aTT Γ o (zre (dM (inB x.dep) T0 rs) (aM ops o))=some (qs,d,e,v)/\All qs/\v=x.v/\[(d,e)]=x.new)/\(b=false->x.v= .tup []/\x.new=[])
theorem mS {Γ:Cfg} {ops:List Oper} {T0:Tm} {M1:Mm} {rs:List Rec} {dp:List Nat} {K:Prop}:∀{l:List Rec},sV Γ ops T0 M1 rs dp l K->K/\∀x∈l,x.ix∉dp->aR3 Γ ops T0 M1 rs x
 |[],h=>⟨h,λx hx=>by simp at hx⟩
 |x::q,h=>by
  unfold sV at h
  rcases bm h with⟨hb,h⟩|⟨hb,h⟩
  ·obtain⟨k1,k2⟩:=mS h
   refine⟨k1,λy hy hyd=>?_⟩
   rcases List.mem_cons.1 hy with h'|h'
   ·subst h';exact absurd (zmi.1 hb) hyd
   exact k2 y h' hyd
  have fin:aR3 Γ ops T0 M1 rs x->sV Γ ops T0 M1 rs dp q K->K/\∀y∈x::q,y.ix∉dp->aR3 Γ ops T0 M1 rs y:=by
   intro hx h
   obtain⟨k1,k2⟩:=mS h
   refine⟨k1,λy hy hyd=>?_⟩
   rcases List.mem_cons.1 hy with h'|h'
   ·rw[h'];exact hx
   exact k2 y h' hyd
  split at h
  ·exact h.elim
  rename_i o ho
  obtain⟨b,hg,ht,hf⟩:=qF h
  cases b with
  |false=>
   have h:=hf rfl
   have a:=zwP.all h
   exact fin ⟨o,false,ho,hg,(λh=>by cases h),λ_=>⟨a.head,a.tail.head⟩⟩ (zwP.rest h)
  |true=>
   have h:=ht rfl
   split at h
   ·rename_i hk
    split at h
    ·rename_i qs v hv
     obtain⟨hn,h⟩:=(bm h).resolve_right λh=>h.2.elim
     have a:=zwP.all h
     have hn:x.new=[]:=by
      revert hn
      cases x.new with
      |nil=>intro _;rfl
      |cons _ _=>intro h;cases h
     exact fin ⟨o,true,ho,hg,(λ_=>Or.inl ⟨hk,hn,qs,v,hv,a.tail,a.head⟩),λh=>by cases h⟩ (zwP.rest h)
    exact h.elim
   ·split at h
    ·rename_i qs d e v hv
     have a:=zwP.all h
     exact fin ⟨o,true,ho,hg,(λ_=>Or.inr ⟨qs,d,e,v,hv,a.tail.tail,a.head,a.tail.head⟩),λh=>by cases h⟩ (zwP.rest h)
    exact h.elim
   exact h.elim
theorem St.finish (S:St Γ N ops dep K bf T0 M0 rs ord (pB listed) ρ a w)
  (hall:∀j,j<ops.length->pB listed j=true) (hle:ρ0.le ρ) (hst:aV ρ0 M00 ρ (zrM (pB listed) M0 rs) w0 w):dZ N ρ0 M00 w0 K a w:=by
 have hrs:∀r∈rs,pB listed r.ix=true:=λr hr=>by
  obtain⟨o,ho,_⟩:=S.hops r hr
  exact hall _ (List.getElem?_eq_some_iff.1 ho).1
 cases ord with
 |cons i r=>
  obtain⟨o,ho,h1,_⟩:=jz S.plan
  exact absurd (S.I.done i (hall i (List.getElem?_eq_some_iff.1 ho).1)) h1
 |nil=>
  have hM:zrM (pB listed) M0 rs=zrM jo M0 rs:=fG λr hr=>by rw[hrs r hr];rfl
  rw[hM]at hst
  exact⟨ρ,_,_,S.F,hle,S.I.out hrs,hst⟩
theorem fX (hd:aH9 ops dep=true) (hdst:iX N ops=true) {Q:Exit->Act->World->Prop} (hpa:∀c a w,¬Q (.panic c) a w) (hlo:¬LetsOut Q) {ρ0:Env} {M00:Mm} {w0:World} (hQ:∀a' w',dZ N ρ0 M00 w0 K a' w'->Q .normal a' w'):
  ∀(fuel:Nat) {listed:Array Bool} {bf:List Nat} {T0:Tm} {M0:Mm} {rs:List Rec} {ord:List Nat} {ρ:Env} {a:Act} {w:World},listed.size=ops.length->
   St Γ N ops dep K bf T0 M0 rs ord (pB listed) ρ a w->left ops.length (pB listed)<=fuel->ρ0.le ρ->aV ρ0 M00 ρ (zrM (pB listed) M0 rs) w0 w->wpAny Γ.P .any ops.toArray Q fuel listed a w
 |0,listed,bf,T0,M0,rs,ord,ρ,a,w,hsz,S,hl,hle,hst=>by
  have hall:=aGN hl
  refine⟨?_,hQ _ _ (S.finish hall hle hst)⟩
  refine List.eq_nil_iff_forall_not_mem.2 λi hi=>?_
  obtain⟨h1,o,ho,_⟩:=mem_ready.1 hi
  have hlt:i<ops.length:=by
   have:=(Array.getElem?_eq_some_iff.1 ho).1
   simpa using this
  rw[pO (by omega)]at h1
  rw[hall i hlt]at h1;cases h1
 |fuel+1,listed,bf,T0,M0,rs,ord,ρ,a,w,hsz,S,hl,hle,hst=>by
  have ready:∀{i},i∈Region.ready .any ops.toArray listed->∃o,ops[i]? =some o/\i<ops.length/\pB listed i=false/\∀e∈o.after,Region.binds .any e=true->pB listed e.on=true:=by
   intro i hi
   obtain⟨h1,o,ho,h2⟩:=mem_ready.1 hi
   have ho':ops[i]? =some o:=by simpa using ho
   have hlt:=(List.getElem?_eq_some_iff.1 ho').1
   exact⟨o,ho',hlt,(pO (by omega)).1 h1,h2⟩
  obtain⟨bf',rs',ord',S',hM,hord⟩:=S.advance hd hdst ord
  rw[<-hM]at hst
  clear hM S
  have hfuelI:∀{i},i<ops.length->pB listed i=false->left ops.length (pB (listed.setIfInBounds i true))<=fuel:=by
   intro i hlt hpi
   rw[aFJ (by omega)]
   have:=aGO hlt hpi
   omega
  have hopI:∀{i:Nat} {o:Oper},ops[i]? =some o->∀{X:Act->World->Prop},Region.wanted o (yielded ops.toArray a.tmps)=true->o.wp Γ.P a w X Q->wpOp Γ.P ops.toArray Q i X a w:=by
   intro i o ho X hg h
   unfold wpOp
   rw[show ops.toArray[i]? =some o by simpa using ho]
   simp only
   rw[if_pos hg]
   exact Or.inl h
  have hskipI:∀{i:Nat} {o:Oper},ops[i]? =some o->∀{X:Act->World->Prop},Region.wanted o (yielded ops.toArray a.tmps)=false->X (a.put o.dst undef) w->wpOp Γ.P ops.toArray Q i X a w:=by
   intro i o ho X hg h
   unfold wpOp
   rw[show ops.toArray[i]? =some o by simpa using ho]
   simp only
   rw[if_neg (by rw[hg];simp)]
   exact h
  have hnoI:∀{i:Nat},pB listed i=false->∀{r:Rec},r∈rs'->pB listed r.ix=true->i∉r.dep:=λ{i} hpi {r} hr hp h=>by
   rw[S'.I.deps r hr]at h
   have:=S'.I.clos _ hp i h
   rw[hpi]at this;cases this
  have foreseen:∀r∈rs',pB listed r.ix=false->(∀k∈r.dep,pB listed k=true)->wpOp Γ.P ops.toArray Q r.ix (wpAny Γ.P .any ops.toArray Q fuel (listed.setIfInBounds r.ix true)) a w:=by
   intro r hr hpi hdq
   obtain⟨o,ho,_⟩:=S'.hops r hr
   have hlt:=(List.getElem?_eq_some_iff.1 ho).1
   have hno:∀{r':Rec},r'∈rs'->pB listed r'.ix=true->r.ix∉r'.dep:=λ{r'} hr' hp=>hnoI hpi hr' hp
   have hds:∀d,o.dst=some d->d<N:=λd h=>eN hdst (mem_of_getElem? ho) d h
   have hfuel:=hfuelI hlt hpi
   have hop:=@hopI r.ix o ho
   have hskip:=@hskipI r.ix o ho
   obtain⟨o',bg,ho',hg,hdd,heff,hskp⟩:=S'.facts r hr hpi
   have:o'=o:=Option.some.inj (ho'.symm.trans ho)
   subst this
   obtain⟨o2,ho2,_,hrd⟩:=S'.hops r hr
   have:o2=o':=Option.some.inj (ho2.symm.trans ho)
   subst this
   have hdp:=S'.I.deps r hr
   rw[hrd]at heff hg
   have hread:∀r'∈rs',∀s,r'.dst=some s->s∈aM ops o2->pB listed r'.ix=true->r'.ix∈r.dep:=by
    intro r' hr' s h1 h2 h3
    by_cases hne:r'.ix=r.ix
    ·rw[hne,hpi]at h3;cases h3
    rcases(S'.I.pairs r' hr' r hr hne).2.1 s h1 (by rw[hrd];exact h2)with h|h
    ·exact h
    exact absurd h (hno hr' h3)
   have hsf:∀k∈rs',pB listed k.ix=true->k.ix∉r.dep->∀a,zG k.new a=some .dead->zG (zrM (inB r.dep) M0 rs') a=none:=by
    intro k hk h1 h2
    exact S'.I.safe r hr k hk h2 (hno hk h1) (λh=>by rw[h,hpi]at h1;cases h1)
   have hwant:=t7 (S'.I.sees (rd:=aM ops o2) hdq (S'.I.trans r hr) hread hsf).2 hdst hg
   have e:=aFJ (l:=listed) (i:=r.ix) (by omega)
   have fin:∀{x:Value} {ρ':Env} {a':Act} {w':World},a'.tmps=(a.put o2.dst x).tmps->a'.defers=[]->ρ.le ρ'->
     (∀d,o2.dst=some d->zRT ρ' r.v x/\nL (r.new++zrM (inB r.dep) M0 rs') r.v)->(∀b e,zG r.new b=some e->mA (r.new++zrM (inB r.dep) M0 rs') e)->
     zF ρ' (r.new++zrM (pB listed) M0 rs') w'->aV ρ (zrM (pB listed) M0 rs') ρ' (r.new++zrM (pB listed) M0 rs') w w'->wpAny Γ.P .any ops.toArray Q fuel (listed.setIfInBounds r.ix true) a' w':=by
    intro x ρ' a' w' h1 h2 h3 h4 h5 h6 h7
    rw[hdd]at h1 h4
    have I':=S'.I.mark hr hpi hdq h1 h2 h3 h4 h5 h6
    refine fX hd hdst hpa hlo hQ fuel (by simpa using hsz) (rs:=rs') (bf:=bf') (ord:=ord') (T0:=T0) (M0:=M0) (ρ:=ρ') ⟨by rw[e];exact I',S'.hops,λr' hr' hp'=>?_,S'.F,S'.plan,S'.cover⟩ hfuel (Env.le_trans hle h3) ?_
    ·rw[e]at hp'
     refine S'.facts r' hr' ?_
     cases h:pB listed r'.ix with
     |false=>rfl
     |true=>rw[aO h]at hp';cases hp'
    rw[e]
    exact hst.trans (h7.congr λb=>(ko S'.I.wf S'.I.uniq S'.I.closed hr hpi b).symm)
   cases bg with
   |true=>
    refine hop hwant (Oper.wp_mono ?_ (S'.I.run (dp:=r.dep) (G:=λv E=>v=r.v/\E=r.new) hds hdq (S'.I.trans r hr) hread hsf
     (λqs v M' ⟨h1,h2,h3⟩=>⟨h1,r.new,h3,λb e h=>?_,h2,rfl⟩) (heff rfl)))
    rotate_left
    ·by_cases hdead:e= .dead
     ·subst hdead;exact Or.inr ⟨rfl,S'.I.kill r hr b h⟩
     exact Or.inl ⟨jL S'.I.wf hr hpi S'.I.closed hdead h,aDQ S'.I.wf hr h⟩
    rintro a' w' ⟨v,E,x,ρ',⟨rfl,rfl⟩,h1,h2,h3,h4,h5,h6,h7⟩
    exact fin h1 h2 h3 h4 h5 h6 h7
   |false=>
    obtain⟨hv,hn⟩:=hskp rfl
    refine hskip hwant (fin (x:=undef) (ρ':=ρ) rfl ?_ (Env.le_refl _) (λd _=>?_) (λb e h=>?_) ?_ ?_)
    ·cases hd:o2.dst<;>exact S'.I.defers
    ·rw[hv];exact⟨⟨[],rfl,rfl⟩,aD9 _⟩
    ·rw[hn]at h;simp[zG]at h
    ·rw[hn];exact S'.I.mem
    rw[hn];exact aV.refl _ _ _
  by_cases hE:∃r∈rs',pB listed r.ix=false/\(∀k∈r.dep,pB listed k=true)/\eA ops dep r.ix=true
  ·-- one that aM at slots alone is run first
   obtain⟨r,hr,hpi,hdq,hah⟩:=hE
   obtain⟨o,ho,hbl,_,hap,hsel⟩:=kU hah
   have hlt:=(List.getElem?_eq_some_iff.1 ho).1
   have hoA:ops.toArray[r.ix]? =some o:=by simpa using ho
   obtain⟨v,hy,hK⟩:=aCS hlo hoA hbl (foreseen r hr hpi hdq)
   refine wpAny_first hoA (λj o' cs b h=>hsel o' (mem_of_getElem? (by simpa using h)) cs b) (λc a' w' h=>absurd h (hpa c _ _)) fuel listed a w ?_ ?_ hy hK
   ·intro j oj hj hne hlj hw
    have hj':ops[j]? =some oj:=by simpa using hj
    have hjlt:=(List.getElem?_eq_some_iff.1 hj').1
    refine hap j oj hj' hne (λhm=>?_) hw
    have h1:=hdq j (by rw[S'.I.deps r hr];exact hm)
    rw[pO (by omega)]at hlj
    rw[hlj]at h1;cases h1
   refine mem_ready.2 ⟨(pO (by omega)).2 hpi,o,hoA,λe he hb=>?_⟩
   have:=(lZ hd ho).1 e he hb
   exact hdq e.on (by rw[S'.I.deps r hr];exact this.2)
  refine⟨λhnil=>hQ _ _ (S'.finish (λj=>?_) hle hst),λi hi=>?_⟩
  ·induction j using Nat.strongRecOn with
   |_ j ih=>
    intro hj
    cases hp:pB listed j with
    |true=>rfl
    |false=>
     have hr:j∈Region.ready .any ops.toArray listed:=by
      refine mem_ready.2 ⟨(pO (by omega)).2 hp,ops[j],by simp[hj],λe he hb=>?_⟩
      have:=(lZ hd (List.getElem?_eq_getElem hj)).1 e he hb
      exact ih e.on this.1 (by omega)
     rw[hnil]at hr;cases hr
  obtain⟨o,ho,hlt,hpi,haft⟩:=ready hi
  have hdo:=lZ hd ho
  have hdep:∀k∈zdA dep i,pB listed k=true:=λk hk=>by
   obtain⟨e,he,hb,h⟩:=hdo.2.1 k hk
   rcases h with h|h
   ·rw[<-h];exact haft e he hb
   exact S'.I.clos _ (haft e he hb) k h
  have hno:∀{r:Rec},r∈rs'->pB listed r.ix=true->i∉r.dep:=λ{r} hr hp=>hnoI hpi hr hp
  have hds:∀d,o.dst=some d->d<N:=λd h=>eN hdst (mem_of_getElem? ho) d h
  have hfuel:=hfuelI hlt hpi
  have hop:=@hopI i o ho
  by_cases hbf:i∈bf'
  ·-- it was foreseen
   rcases S'.I.base i hbf with h|⟨r,hr,hri⟩
   ·rw[hpi]at h;cases h
   subst hri
   exact foreseen r hr hpi λk hk=>hdep k (by rw[<-S'.I.deps r hr];exact hk)
  -- it is the next
  rcases hord with h|⟨i0,r0,o0,h,ho0,hk0,hsb,hg0,F⟩
  ·subst h
   exact absurd ((S'.cover i hlt).resolve_left hbf) (by simp)
  subst h
  obtain⟨o1,ho1,n1,n2,n3,n4,n5⟩:=jz S'.plan
  have e1:o1=o0:=Option.some.inj (ho1.symm.trans ho0)
  have hii:i=i0:=by
   rcases List.mem_cons.1 ((S'.cover i hlt).resolve_left hbf)with h|h
   ·exact h
   rcases n3 with h3|h3
   ·rw[e1]at h3;omega
   exact absurd (S'.I.done _ (hdep _ (h3 i h))) n1
  subst hii
  have e2:o0=o:=Option.some.inj (ho0.symm.trans ho)
  subst e2;subst e1
  have e:=aFJ (l:=listed) (i:=i) (by omega)
  have hread:∀r'∈rs',∀s,r'.dst=some s->s∈aM ops o1->pB listed r'.ix=true->r'.ix∈zdA dep i:=by
   intro r' hr' s h1 h2 h3
   obtain⟨oj,k1,k2,k3⟩:=S'.hops r' hr'
   have:=aFG (v:=.und) (n:=[]) (v':=r'.v) (n':=r'.new) (n4 r'.ix (S'.I.bfs r' hr') oj k1)
   rcases this.1 s (by rw[<-k2];exact h1) h2 with h|h
   ·exact h
   refine absurd ?_ (hno hr' h3)
   rw[S'.I.deps r' hr'];exact h
  have hsf0:=mT hsb
  have hsf:∀k∈rs',pB listed k.ix=true->k.ix∉zdA dep i->∀a,zG k.new a=some .dead->zG (zrM (inB (zdA dep i)) M0 rs') a=none:=λk hk _ h2=>hsf0 k hk h2
  have hwant:=t7 (S'.I.sees (rd:=aM ops o1) hdep hdo.2.2 hread hsf).2 hdst hg0
  unfold aBB at F
  split at F
  ·rename_i hk;omega
  ·rename_i hk;omega
  have bar:(∀r∈rs',pB listed r.ix=true)->(bp Γ o1 (dM jo T0 rs') (zrM jo M0 rs') [] λqs v M'=>zwP qs (dB Γ ops dep (zt o1.dst v (dM jo T0 rs')) M' [] r0 K))->
    wpOp Γ.P ops.toArray Q i (wpAny Γ.P .any ops.toArray Q fuel (listed.setIfInBounds i true)) a w:=by
   intro hrs F
   have hM:zrM (pB listed) M0 rs'=zrM jo M0 rs':=fG λr hr=>by rw[hrs r hr];rfl
   rw[hM]at hst
   refine hop hwant (Oper.wp_mono ?_ (iQ (S'.I.out hrs) hds (λqs v M' h=>zwP.all h) F))
   rintro a' w' ⟨ρ',T',M',⟨qs,v,hk,rfl⟩,h1,h2,h3⟩
   refine fX hd hdst hpa hlo hQ fuel (by simpa using hsz) (rs:=[]) (bf:=i::bf') (ord:=r0) (T0:=zt o1.dst v (dM jo T0 rs')) (M0:=M') (ρ:=ρ')
    ⟨Inv.start h2 (λj=>?_) (λj hj k hk=>?_),by simp,by simp,zwP.rest hk,n5,λj hj=>?_⟩ hfuel (Env.le_trans hle h1) (hst.trans h3)
   ·rw[e]
    constructor
    ·intro h
     rcases an h with h|h
     ·rw[h];simp
     exact mem_cons_of_mem _ (S'.I.done j h)
    intro h
    rcases List.mem_cons.1 h with h|h
    ·rw[h];exact bE _ _
    rcases S'.I.base j h with h|⟨r,hr,hri⟩
    ·exact aO h
    rw[<-hri];exact aO (hrs r hr)
   ·rw[e]at hj⊢
    rcases an hj with h|h
    ·subst h;exact aO (hdep k hk)
    exact aO (S'.I.clos j h k hk)
   rcases S'.cover j hj with h|h
   ·exact Or.inl (mem_cons_of_mem _ h)
   rcases List.mem_cons.1 h with h|h
   ·exact Or.inl (by simp[h])
   exact Or.inr h
  cases hb:aVR ops dep (zdA dep i) rs' with
  |true=>
   rw[hb,zcT]at F
   refine bar ?_ F
   have key:∀n,∀r∈rs',r.ix=n->pB listed r.ix=true:=by
    intro n
    induction n using Nat.strongRecOn with
    |_ n ih=>
     intro r hr hn
     cases hp:pB listed r.ix with
     |true=>rfl
     |false=>
      rcases vt hb r hr with h|h
      ·rw[hdep _ h]at hp;cases hp
      exfalso
      obtain⟨_,_,_,hless,_,_⟩:=kU h
      refine hE ⟨r,hr,hp,λk hk=>?_,h⟩
      have hk':=hk
      rw[S'.I.deps r hr]at hk'
      rcases S'.I.base k (S'.I.below r hr k hk)with h1|⟨r2,hr2,h2⟩
      ·exact h1
      rw[<-h2]
      exact ih r2.ix (by rw[h2,<-hn];exact hless k hk') r2 hr2 rfl
   exactλr hr=>key r.ix r hr rfl
  |false=>
   rw[hb,zcF]at F
   split at F
   ·-- one that makes a variable is ahead of it or behind it
    rename_i X hX
    obtain⟨hXr,hXa,hXo⟩:=xm hX
    have key:∀n,∀r∈rs',r∉X->r.ix=n->pB listed r.ix=true:=by
     intro n
     induction n using Nat.strongRecOn with
     |_ n ih=>
      intro r hr hrx hn
      cases hp:pB listed r.ix with
      |true=>rfl
      |false=>
       rcases(hXa r hr).resolve_left hrx with h|h
       ·rw[hdep _ h]at hp;cases hp
       exfalso
       obtain⟨_,_,_,hless,_,_⟩:=kU h
       refine hE ⟨r,hr,hp,λk hk=>?_,h⟩
       have hk':=hk
       rw[S'.I.deps r hr]at hk'
       rcases S'.I.base k (S'.I.below r hr k hk)with h1|⟨r2,hr2,h2⟩
       ·exact h1
       rw[<-h2]
       exact ih r2.ix (by rw[h2,<-hn];exact hless k hk') r2 hr2 (λh=>(hXo r2 h).2.2 r hr (by rw[h2];exact hk)) rfl
    obtain⟨S,hSm,F2⟩:=kJ (λx=>!pB listed x.ix) F
    have hSm:∀x,x∈S↔x∈X/\pB listed x.ix=false:=λx=>by rw[hSm];simp
    have hq:∀r∈rs',pB listed r.ix=tp S r.ix:=by
     intro r hr
     cases hp:pB listed r.ix with
     |true=>
      refine(b8.2 λx hx h=>?_).symm
      have:=((hSm x).1 hx).2
      rw[h,hp]at this;cases this
     |false=>
      have hrX:r∈X:=Classical.byContradiction λh=>by rw[key r.ix r hr h rfl]at hp;cases hp
      cases hn:tp S r.ix with
      |false=>rfl
      |true=>exact absurd rfl (b8.1 hn r ((hSm r).2 ⟨hrX,hp⟩))
    have hM:zrM (pB listed) M0 rs'=zrM (tp S) M0 rs':=fG hq
    have hT:dM (pB listed) T0 rs'=dM (tp S) T0 rs':=rY hq
    have hout:=S'.I.outP
    rw[hM,hT]at hout
    rw[hM]at hst
    have hSr:∀x∈S,x∈rs':=λx hx=>hXr x ((hSm x).1 hx).1
    have hSp:∀x∈S,pB listed x.ix=false:=λx hx=>((hSm x).1 hx).2
    have hxi:∀x∈S,x.ix≠i:=λx hx h=>hbf (by rw[<-h];exact S'.I.bfs x (hSr x hx))
    refine hop hwant (Oper.wp_mono ?_ (iQ hout hds (λqs v M' h=>zwP.all h) F2))
    rintro a' w' ⟨ρ',T',M',⟨qs,v,hk,rfl⟩,h1,h2,h3⟩
    have hpi2:∀x∈S,pB (listed.setIfInBounds i true) x.ix=false:=λx hx=>by rw[e,mY (hxi x hx)];exact hSp x hx
    let bf2:=i::bf'.filter λj=>tp S j
    have hbf2:∀j,j∈bf2↔(j=i\/(j∈bf'/\∀x∈S,x.ix≠j)):=by
     intro j
     simp only[bf2,mem_cons,List.mem_filter]
     exact or_congr Iff.rfl (and_congr Iff.rfl b8)
    have I0:Inv N (zdA dep) bf2 (zt o1.dst v (dM (tp S) T0 rs')) M' [] (pB (listed.setIfInBounds i true)) ρ' a' w':=by
     refine Inv.start h2 (λj=>?_) (λj hj k hk=>?_)
     ·rw[e,hbf2]
      constructor
      ·intro h
       rcases an h with h|h
       ·exact Or.inl h
       exact Or.inr ⟨S'.I.done j h,λx hx hjx=>by rw[<-hjx,hSp x hx]at h;cases h⟩
      rintro(h|⟨h,hjx⟩)
      ·rw[h];exact bE _ _
      rcases S'.I.base j h with h|⟨r,hr,hri⟩
      ·exact aO h
      rw[<-hri]
      refine aO ?_
      rw[hq r hr]
      exact b8.2 λx hx=>by rw[hri];exact hjx x hx
     rw[e]at hj⊢
     rcases an hj with h|h
     ·subst h;exact aO (hdep k hk)
     exact aO (S'.I.clos j h k hk)
    obtain⟨acc,bf3,J1,J2,J3,J4⟩:=u1 (rs':=rs') S'.I.pairs S [] (zwP.rest hk) I0 (λy hy=>by cases hy) (λx hx=>by
     refine⟨hSr x hx,hpi2 x hx,λh=>?_,S'.I.deps x (hSr x hx),S'.I.trans x (hSr x hx),λk hk=>?_,S'.I.small x (hSr x hx),S'.hops x (hSr x hx),(hXo x ((hSm x).1 hx).1).1,_,_,S'.facts x (hSr x hx) (hSp x hx)⟩
     ·rcases(hbf2 _).1 h with h|h
      ·exact hxi x hx h
      exact h.2 x hx rfl
     rw[e]
     rcases S'.I.base k (S'.I.below x (hSr x hx) k hk)with h|⟨r,hr,hri⟩
     ·exact aO h
     rw[<-hri]
     refine aO ?_
     rw[hq r hr]
     exact b8.2 λy hy h=>(hXo y ((hSm y).1 hy).1).2.2 x (hSr x hx) (by rw[h,hri];exact hk))
    have hin:∀y∈acc,∀z∈acc,inB y.dep z.ix=false:=λy hy z hz=>qA λhm=>by
     have hz2:=(J4 z hz).2.2
     have:=J1.deps y hy
     have h5:=J1.below y hy z.ix hm
     rcases(J3 z.ix).1 h5 with h6|⟨x,hx,h6⟩
     ·have h7:=(J1.base z.ix h5)
      rcases(hbf2 _).1 h6 with h8|h8
      ·have:pB (listed.setIfInBounds i true) z.ix=true:=by rw[e,h8];exact bE _ _
       rw[this]at hz2;cases hz2
      rcases S'.I.base z.ix h8.1 with h9|⟨r,hr,hri⟩
      ·have:pB (listed.setIfInBounds i true) z.ix=true:=by rw[e];exact aO h9
       rw[this]at hz2;cases hz2
      have:pB (listed.setIfInBounds i true) z.ix=true:=by
       rw[e,<-hri]
       refine aO ?_
       rw[hq r hr]
       exact b8.2 λx hx=>by rw[hri];exact h8.2 x hx
      rw[this]at hz2;cases hz2
     obtain⟨y0,hy0,hyi⟩:∃y0∈S,y0.ix=y.ix:=by
      rcases(J3 y.ix).1 (J1.bfs y hy)with h8|⟨x,hx,h8⟩
      ·exfalso
       have hy2:=(J4 y hy).2.2
       rcases(hbf2 _).1 h8 with h9|h9
       ·have:pB (listed.setIfInBounds i true) y.ix=true:=by rw[e,h9];exact bE _ _
        rw[this]at hy2;cases hy2
       rcases S'.I.base y.ix h9.1 with h10|⟨r,hr,hri⟩
       ·have:pB (listed.setIfInBounds i true) y.ix=true:=by rw[e];exact aO h10
        rw[this]at hy2;cases hy2
       have:pB (listed.setIfInBounds i true) y.ix=true:=by
        rw[e,<-hri]
        refine aO ?_
        rw[hq r hr]
        exact b8.2 λx hx=>by rw[hri];exact h9.2 x hx
       rw[this]at hy2;cases hy2
      exact⟨x,hx,h8⟩
     refine(hXo x ((hSm x).1 hx).1).2.2 y0 (hSr y0 hy0) ?_
     rw[h6,S'.I.deps y0 (hSr y0 hy0),hyi,<-this]
     exact hm
    have hrecM:∀(q:Nat->Bool) (l:List Rec),(∀z∈l,q z.ix=false)->zrM q M' l=M':=by
     intro q l
     induction l with
     |nil=>intro _;rfl
     |cons z t ih=>intro h;simp only[zrM,h z (by simp),zcF];exact ih λy hy=>h y (mem_cons_of_mem _ hy)
    have hrecT:∀(q:Nat->Bool) (T2:Tm) (l:List Rec),(∀z∈l,q z.ix=false)->dM q T2 l=T2:=by
     intro q T2 l
     induction l with
     |nil=>intro _;rfl
     |cons z t ih=>intro h;simp only[dM,h z (by simp),zcF];exact ih λy hy=>h y (mem_cons_of_mem _ hy)
    refine fX hd hdst hpa hlo hQ fuel (by simpa using hsz) (rs:=acc) (bf:=bf3) (ord:=r0) (T0:=zt o1.dst v (dM (tp S) T0 rs')) (M0:=M') (ρ:=ρ')
     ⟨J1,λr hr=>(J4 r hr).1,λr hr hp=>?_,J2,nd (λj=>?_) n5,λj hj=>?_⟩ hfuel (Env.le_trans hle h1) ?_
    ·obtain⟨ox,g1,g2,g3,g4⟩:=(J4 r hr).2.1
     refine⟨ox,true,g1,by unfold fa;rw[g2],g3,λ_=>?_,λh=>by cases h⟩
     rw[hrecM _ _ (λz hz=>hin r hr z hz),hrecT _ _ _ (λz hz=>hin r hr z hz)]
     exact g4
    ·rw[mem_cons,J3,hbf2]
     constructor
     ·rintro(h|h)
      ·exact Or.inl (Or.inl h)
      by_cases hjx:∃x∈S,x.ix=j
      ·exact Or.inr hjx
      exact Or.inl (Or.inr ⟨h,λx hx hxj=>hjx ⟨x,hx,hxj⟩⟩)
     rintro((h|h)|⟨x,hx,h⟩)
     ·exact Or.inl h
     ·exact Or.inr h.1
     rw[<-h];exact Or.inr (S'.I.bfs x (hSr x hx))
    ·rw[J3,hbf2]
     rcases S'.cover j hj with h|h
     ·by_cases hjx:∃x∈S,x.ix=j
      ·exact Or.inl (Or.inr hjx)
      exact Or.inl (Or.inl (Or.inr ⟨h,λx hx hxj=>hjx ⟨x,hx,hxj⟩⟩))
     rcases List.mem_cons.1 h with h|h
     ·exact Or.inl (Or.inl (Or.inl h))
     exact Or.inr h
    rw[hrecM _ _ (λz hz=>(J4 z hz).2.2)]
    exact hst.trans h3
   have hself:inB (zdA dep i) i=false:=by
    cases h:inB (zdA dep i) i with
    |false=>rfl
    |true=>exact absurd (n2 _ (zmi.1 h)) n1
   refine hop hwant (Oper.wp_mono ?_ (S'.I.run (dp:=zdA dep i)
    (G:=λv E=>(dB Γ ops dep T0 M0 (⟨i,o1.dst,v,E,zdA dep i,aM ops o1⟩::rs') r0 K/\vM M0 rs' (zdA dep i) E=true)\/
     aJU (zdA dep i) rs' E=true/\sV Γ ops T0 (E++zrM (inB (zdA dep i)) M0 rs') (cC (zdA dep i) rs') (zdA dep i) (cC (zdA dep i) rs') (dB Γ ops dep T0 (E++zrM (inB (zdA dep i)) M0 rs') (⟨i,o1.dst,v,[],zdA dep i,aM ops o1⟩::cC (zdA dep i) rs') r0 K)) hds hdep hdo.2.2 hread hsf
    (λqs v M' h=>?_) F))
   ·rintro a' w' ⟨v,E,x,ρ',⟨hF,hfr⟩|⟨htb,hF⟩,h1,h2,h3,h4,h5,h6,h7⟩
    ·have hfr:=kP hfr
     have I1:=S'.I.push (r:=⟨i,o1.dst,v,E,zdA dep i,aM ops o1⟩) n1 rfl hdo.2.2 n2 hds (S'.pairs n4) hfr hsf0
     have eM:zrM (inB (zdA dep i)) M0 (⟨i,o1.dst,v,E,zdA dep i,aM ops o1⟩::rs')=zrM (inB (zdA dep i)) M0 rs':=by simp only[zrM,hself,zcF]
     have eP:zrM (pB listed) M0 (⟨i,o1.dst,v,E,zdA dep i,aM ops o1⟩::rs')=zrM (pB listed) M0 rs':=by simp only[zrM,hpi,zcF]
     have I2:=I1.mark (r:=⟨i,o1.dst,v,E,zdA dep i,aM ops o1⟩) (by simp) hpi hdep h1 h2 h3 (by rw[eM];exact h4) (by rw[eM];exact h5) (by rw[eP];exact h6)
     refine fX hd hdst hpa hlo hQ fuel (by simpa using hsz) (rs:=⟨i,o1.dst,v,E,zdA dep i,aM ops o1⟩::rs') (bf:=i::bf') (ord:=r0) (T0:=T0) (M0:=M0) (ρ:=ρ')
      ⟨by rw[e];exact I2,λr hr=>?_,λr hr hp=>?_,hF,n5,λj hj=>?_⟩ hfuel (Env.le_trans hle h3) ?_
     ·rcases List.mem_cons.1 hr with h|h
      ·subst h;exact⟨o1,ho,rfl,rfl⟩
      exact S'.hops r h
     ·rw[e]at hp
      rcases List.mem_cons.1 hr with h|h
      ·subst h;rw[bE]at hp;cases hp
      have hp2:pB listed r.ix=false:=by
       cases h:pB listed r.ix with
       |false=>rfl
       |true=>rw[aO h]at hp;cases hp
      have hno2:inB r.dep i=false:=by
       cases h':inB r.dep i with
       |false=>rfl
       |true=>exact absurd (S'.I.below r h _ (zmi.1 h')) n1
      have e1:dM (inB r.dep) T0 (⟨i,o1.dst,v,E,zdA dep i,aM ops o1⟩::rs')=dM (inB r.dep) T0 rs':=by simp only[dM,hno2,zcF]
      have e2:zrM (inB r.dep) M0 (⟨i,o1.dst,v,E,zdA dep i,aM ops o1⟩::rs')=zrM (inB r.dep) M0 rs':=by simp only[zrM,hno2,zcF]
      rw[e1,e2]
      exact S'.facts r h hp2
     ·rcases S'.cover j hj with h|h
      ·exact Or.inl (mem_cons_of_mem _ h)
      rcases List.mem_cons.1 h with h|h
      ·exact Or.inl (by simp[h])
      exact Or.inr h
     rw[e]
     refine hst.trans (h7.congr λb=>?_)
     have:=ko (p:=pB listed) I1.wf I1.uniq I1.closed (r:=⟨i,o1.dst,v,E,zdA dep i,aM ops o1⟩) (by simp) hpi b
     rw[eP]at this
     exact this.symm
    -- it has changed what others may have seen
    have hb:=htb
    unfold aJU at hb
    simp only[zbA]at hb
    have hE:=mK hb.2
    have hnd:=rM hb.1
    obtain⟨hK,hsame⟩:=mS hF
    have I1:=S'.I.push (r:=⟨i,o1.dst,v,[],zdA dep i,aM ops o1⟩) n1 rfl hdo.2.2 n2 hds (S'.pairs n4) (λb e h=>by simp[zG]at h) hsf0
    have eM:zrM (inB (zdA dep i)) M0 (⟨i,o1.dst,v,[],zdA dep i,aM ops o1⟩::rs')=zrM (inB (zdA dep i)) M0 rs':=by simp only[zrM,hself,zcF]
    have eP:zrM (pB listed) M0 (⟨i,o1.dst,v,[],zdA dep i,aM ops o1⟩::rs')=zrM (pB listed) M0 rs':=by simp only[zrM,hpi,zcF]
    have told:=(S'.I.sees (rd:=aM ops o1) hdep hdo.2.2 hread hsf).1.told
    have I2:=I1.turn (r:=⟨i,o1.dst,v,[],zdA dep i,aM ops o1⟩) (by simp) hpi hdep rfl (E:=E)
     (λb e' he y hy hyd=>by
      rcases List.mem_cons.1 hy with h|h
      ·subst h;rfl
      exact(hE b e' he).2 y h hyd)
     (λy hy hyd b=>by
      rcases List.mem_cons.1 hy with h|h
      ·subst h;simp[zG]
      exact hnd y h hyd b)
     h1 h2 h3 (by rw[eM];exact h4) (by rw[eM];exact h5) (by rw[eM];exact told) (by rw[eP];exact h6)
    rw[eM]at I2
    have eF:cC (zdA dep i) (⟨i,o1.dst,v,[],zdA dep i,aM ops o1⟩::rs')=⟨i,o1.dst,v,[],zdA dep i,aM ops o1⟩::cC (zdA dep i) rs':=by
     simp only[cC]
     cases eY i (zdA dep i)<;>rfl
    simp only[eF]at I2
    refine fX hd hdst hpa hlo hQ fuel (by simpa using hsz) (rs:=⟨i,o1.dst,v,[],zdA dep i,aM ops o1⟩::cC (zdA dep i) rs') (bf:=i::bf') (ord:=r0) (T0:=T0) (M0:=E++zrM (inB (zdA dep i)) M0 rs') (ρ:=ρ')
     ⟨by rw[e];exact I2,λr hr=>?_,λr hr hp=>?_,hK,n5,λj hj=>?_⟩ hfuel (Env.le_trans hle h3) ?_
    ·rcases List.mem_cons.1 hr with h|h
     ·subst h;exact⟨o1,ho,rfl,rfl⟩
     obtain⟨r1,a1,a2,a3,_,_,a6,_⟩:=al h
     obtain⟨oj,k1,k2,k3⟩:=S'.hops r1 a1
     exact⟨oj,by rw[a2];exact k1,by rw[a3];exact k2,by rw[a6];exact k3⟩
    ·rw[e]at hp
     rcases List.mem_cons.1 hr with h|h
     ·subst h;rw[bE]at hp;cases hp
     obtain⟨r1,a1,a2,a3,a4,a5,a6,a7⟩:=al h
     have hrd:r.ix∉zdA dep i:=λhm=>by
      have:=aO (i:=i) (hdep _ hm)
      rw[this]at hp;cases hp
     have hno2:inB r.dep i=false:=by
      cases h':inB r.dep i with
      |false=>rfl
      |true=>exact absurd (S'.I.below r1 a1 _ (by rw[<-a5];exact zmi.1 h')) n1
     have e1:∀T0,dM (inB r.dep) T0 (⟨i,o1.dst,v,[],zdA dep i,aM ops o1⟩::cC (zdA dep i) rs')=dM (inB r.dep) T0 (cC (zdA dep i) rs'):=λT0=>by simp only[dM,hno2,zcF]
     have e2:∀M0,zrM (inB r.dep) M0 (⟨i,o1.dst,v,[],zdA dep i,aM ops o1⟩::cC (zdA dep i) rs')=zrM (inB r.dep) M0 (cC (zdA dep i) rs'):=λM0=>by simp only[zrM,hno2,zcF]
     rw[e1,e2]
     obtain⟨oj,bj,k1,k2,k3,k4⟩:=hsame r h hrd
     obtain⟨oj2,g1,g2,g3⟩:=S'.hops r1 a1
     rw[<-a2]at g1
     have:oj2=oj:=Option.some.inj (g1.symm.trans k1)
     subst this
     have hrdl:r.rd=aM ops oj2:=by rw[a6];exact g3
     refine⟨oj2,bj,k1,by rw[hrdl];exact k2,by rw[a3];exact g2.symm,λhb=>?_,k4⟩
     rw[hrdl]
     rcases k3 hb with⟨m1,m2,qs,v',m3,m4,m5⟩|⟨qs,d,en,v',m3,m4,m5,m6⟩
     ·exact nD m1 m3 ⟨by rw[append_nil];exact m4,m5,by rw[m2];rfl⟩
     have hop2:en.zW=true:=(qO (Γ:=Γ) (M:=[]) (K:=λ_ _ _=>True) m3 rfl trivial).2
     have hmem:(r:Rec)∈(⟨i,o1.dst,v,[],zdA dep i,aM ops o1⟩::cC (zdA dep i) rs':List Rec):=hr
     have hnone:zG (zrM (inB r.dep) (E++zrM (inB (zdA dep i)) M0 rs') (cC (zdA dep i) rs')) d=none:=by
      have:=jL (p:=inB r.dep) (M0:=E++zrM (inB (zdA dep i)) M0 rs') I2.wf hmem (qA (I2.irr r hmem)) (λy hy hyd k hk=>by
       have hyd:=zmi.1 hyd
       rw[I2.deps y hy]at hk
       exact zmi.2 (I2.trans r hmem _ hyd _ hk)) (b:=d) (e:=en) (λh=>by rw[h]at hop2;cases hop2) (by rw[<-m6];exact zh _ _ _)
      rw[e2]at this
      exact this
     exact(qO (K:=λqs v' M'=>All qs/\v'=r.v/\M'=r.new++zrM (inB r.dep) (E++zrM (inB (zdA dep i)) M0 rs') (cC (zdA dep i) rs')) m3 hnone ⟨by rw[append_nil];exact m4,m5,by rw[<-m6];rfl⟩).1
    ·rcases S'.cover j hj with h|h
     ·exact Or.inl (mem_cons_of_mem _ h)
     rcases List.mem_cons.1 h with h|h
     ·exact Or.inl (by simp[h])
     exact Or.inr h
    rw[e]
    refine hst.trans (h7.congr λb=>?_)
    have e3:zrM (kY (pB listed) i) (E++zrM (inB (zdA dep i)) M0 rs') (⟨i,o1.dst,v,[],zdA dep i,aM ops o1⟩::cC (zdA dep i) rs')=zrM (kY (pB listed) i) (E++zrM (inB (zdA dep i)) M0 rs') (cC (zdA dep i) rs'):=by
     simp only[zrM,bE,zcT,List.nil_append]
    rw[e3,jM]
    have hcl:∀y∈rs',y.ix∈zdA dep i->∀k∈y.dep,k∈zdA dep i:=λy hy hyd k hk=>by
     rw[S'.I.deps y hy]at hk;exact hdo.2.2 _ hyd _ hk
    have h8:=pG (M0:=M0) (dp:=zdA dep i) (q:=pB listed) hdep b S'.I.wf hcl
    have h9:zG (zrM (je (zdA dep i) (kY (pB listed) i)) [] rs') b=zG (zrM (je (zdA dep i) (pB listed)) [] rs') b:=by
     have:zrM (je (zdA dep i) (kY (pB listed) i)) [] rs'=zrM (je (zdA dep i) (pB listed)) [] rs':=fG λy hy=>by
      have hne:y.ix≠i:=λh=>hbf (by rw[<-h];exact S'.I.bfs y hy)
      simp only[je,mY hne]
     rw[this]
    cases hx:zG E b with
    |some e'=>
     rw[zan hx,zao,zan hx]
     rw[h9]
     cases hy:zG (zrM (je (zdA dep i) (pB listed)) [] rs') b with
     |none=>rfl
     |some e2=>
      obtain⟨z,k1,_,k3,k4⟩:=nz hy
      rw[(hE b e' hx).2 z k1 k3]at k4;cases k4
    |none=>
     rw[zao hx,h8,aU,aU,h9,zao hx]
   have hG:=zwP.rest h
   unfold cL at hG
   rcases hG with⟨E,g1,g2,g3⟩|⟨E,g1,g2,g3⟩
   ·refine⟨zwP.all h,E,g1,λb e hb=>?_,Or.inl ⟨g3,g2⟩⟩
    rcases kP g2 b e hb with h1|⟨h1,h2,_⟩
    ·exact Or.inl ⟨se (q:=jo) (λ_ _ _=>rfl) h1.1,h1.2.1⟩
    exact Or.inr ⟨by rw[h1];rfl,h2⟩
   subst g1
   refine⟨zwP.all h,E,rfl,λb e hb=>?_,Or.inr ⟨g2,g3⟩⟩
   have hb2:=g2
   unfold aJU at hb2
   simp only[zbA]at hb2
   obtain⟨t1,t2⟩:=mK hb2.2 b e hb
   cases hx:zG (zrM (pB listed) M0 rs') b with
   |none=>exact Or.inl ⟨rfl,t1⟩
   |some e1=>
    refine Or.inr ⟨t1,?_⟩
    rcases jK hx with h|⟨y,h1,_,h3⟩
    ·exact dq h
    by_cases hyd:y.ix∈zdA dep i
    ·exact eu h1 (zmi.2 hyd) h3
    rw[t2 y h1 hyd]at h3;cases h3
theorem aH.sound {id:Nat} {T:Tm} {M:Mm} (hdst:iX N ops=true) (h:aH Γ id ops T M K) {ρ:Env} {a:Act} {w:World} (hc:aZ N ρ T M a w) {Q:Exit->Act->World->Prop}
  (hQ:∀a' w',dZ N ρ M w K a' w'->Q .normal a' w'):(Code.region id ops.toArray true).wp Γ.P Q a w:=by
 unfold aH at h
 obtain⟨dep,ord,hp,hF⟩:=h
 simp only[sm,zbA,all_eq_true]at hp
 obtain⟨⟨hd,hplan⟩,hcov⟩:=hp
 have hg:=eW.drew w
 have e0:pB (Array.replicate ops.toArray.size false)=λ_=>false:=by
  funext j;exact getD_replicate_false _ _
 have hleft:left ops.length (λ_=>false)<=ops.toArray.size:=by
  unfold left
  have:=List.length_filter_le (λj=>!(λ_:Nat=>false) j) (List.range ops.length)
  simpa using this
 refine wp_mono (Q:=λe a' w'=>e= .normal/\Q .normal a' w') ?_ (λe a' w' h=>by rw[h.1];exact h.2)
 refine wp_region_any Γ.mixed ?_
 refine fX (ρ0:=ρ) (M00:=M) (w0:=w) (K:=K) hd hdst (λc a w h=>by cases h.1) (λ⟨a,w,h⟩=>by cases h.1) (λa' w' h=>⟨rfl,hQ a' w' h⟩) _ (by simp) (rs:=[]) (bf:=[]) (ord:=ord) (T0:=T) (M0:=M) (ρ:=ρ) ?_ ?_ (Env.le_refl _) ?_
 ·rw[e0]
  refine⟨Inv.start (hc.grows hg) (by simp) (by simp),by simp,by simp,hF,hplan,λj hj=>Or.inr (zmi.1 (hcov j (List.mem_range.2 hj)))⟩
 ·rw[e0];exact hleft
 rw[e0]
 exact hg.step
end
def co (μ:Nm) (T0 T:Tm):Option (List Prop):=
 match T0 with
 |[]=>some []
 |(d,v0)::r=>match aEX μ v0 (zX T d)with
  |some ps=>match co μ r T with
   |some qs=>some (ps++qs)
   |none=>none
  |none=>none
def fh (μ:Nm) (M0:Mm):Nm:=
 match M0 with
 |[]=>[]
 |(k,_)::r=>match jf μ k with
  |some x=>(k,x)::fh μ r
  |none=>(k,(k,0,none))::fh μ r
def oy (M M0:Mm):Nm->Bool
 |[]=>true
 |(k,(b,_))::r=>zP M0 k&&(zG M b).isSome&&oy M M0 r
def aV8 (μ:Nm) (M0:Mm):List Nat->Bool
 |[]=>true
 |k::r=>(match jf μ k with
  |some (b,0,none)=>beq b k
  |_=>false)&&zP M0 k&&aV8 μ M0 r
def aNW (Kn:List Nat) (μ:Nm) (M M0:Mm):Bool:=aJ6 μ M0&&oy M M0 μ&&aV8 μ M0 Kn
def Le1 (Kn:List Nat) (T0:Tm) (M0:Mm) (T:Tm) (M:Mm):Prop:=
 ∃(μ:Nm) (ps qs:List Prop),co (fh μ M0) T0 T=some ps/\zA ps/\gO (fh μ M0) M M0=some qs/\zA qs/\aNW Kn (fh μ M0) M M0=true
@[irreducible] def Le (Kn:List Nat) (T0:Tm) (M0:Mm) (T:Tm) (M:Mm):Prop:=
 ∃(gs:List Gh) (sl:List (Nat×Nat)) (ps:List Prop) (M1:Mm) (T1:Tm),eo gs M=some (ps,M1)/\zA ps/\aKU sl T M1=some T1/\Le1 Kn T0 M0 T1 M1
theorem Le.i {Kn:List Nat} {T0:Tm} {M0:Mm} {T:Tm} {M:Mm} (μ:Nm) {ps qs:List Prop} (h1:co (fh μ M0) T0 T=some ps) (h2:zA ps) (h3:gO (fh μ M0) M M0=some qs) (h4:zA qs)
  (h5:aNW Kn (fh μ M0) M M0=true):Le Kn T0 M0 T M:=by
 unfold Le;exact⟨[],[],[],M,T,rfl,trivial,rfl,μ,ps,qs,h1,h2,h3,h4,h5⟩
theorem Le.ghost (gs:List Gh) (sl:List (Nat×Nat)) (μ:Nm) (g1:eo gs M=some (rs,M1)) (g2:zA rs) (g3:aKU sl T M1=some T1)
  (h1:co (fh μ M0) T0 T1=some ps) (h2:zA ps) (h3:gO (fh μ M0) M1 M0=some qs) (h4:zA qs) (h5:aNW Kn (fh μ M0) M1 M0=true):Le Kn T0 M0 T M:=by
 unfold Le;exact⟨gs,sl,rs,M1,T1,g1,g2,g3,μ,ps,qs,h1,h2,h3,h4,h5⟩
structure gJ (Kn:List Nat) (ρA ρ:Env):Prop where
 to:∀k∈Kn,ρ.dom k/\ρ.pos k=ρA.pos k
 im:∀b o ls,ρA.imm b o ls->ρ.imm b o ls
instance (Kn:List Nat) (ρA ρ:Env):CoeFun (gJ Kn ρA ρ) (fun _=>∀ k ∈ Kn,ρ.dom k/\ρ.pos k = ρA.pos k):=⟨gJ.to⟩
theorem gJ.le (h:gJ Kn ρA ρ) (hle:ρ.le ρ'):gJ Kn ρA ρ':=
 ⟨λk hk=>⟨(hle k (h k hk).1).1,((hle k (h k hk).1).2).trans (h k hk).2⟩,λb o ls hi=>hle.im b o ls (h.im b o ls hi)⟩
theorem mu:∀{μ:Nm},oy M M0 μ=true->∀{k b:Nat} {p:Nat×Option Nat},(k,(b,p))∈μ->zP M0 k=true/\(zG M b).isSome=true
 |[],_,_,_,_,h=>by simp at h
 |(c,(d,x))::r,hk,k,b,p,h=>by
  simp only[oy,zbA]at hk
  rcases List.mem_cons.1 h with e|h
  ·simp only[zpI]at e
   rw[e.1,e.2.1];exact⟨hk.1.1,hk.1.2⟩
  exact mu hk.2 h
theorem tM:∀{Kn:List Nat},aV8 μ M0 Kn=true->∀k∈Kn,jf μ k=some (k,0,none)/\zP M0 k=true
 |[],_,_,h=>by simp at h
 |c::r,hi,k,h=>by
  simp only[aV8,zbA]at hi
  rcases List.mem_cons.1 h with rfl|h
  ·obtain⟨⟨h1,h2⟩,_⟩:=hi
   split at h1
   ·rename_i b hl
    have:=zq h1
    subst this
    exact⟨hl,h2⟩
   cases h1
  exact tM hi.2 k h
theorem ie {μ:Nm} {ρ0 ρ:Env} (hb:yZ μ ρ0 ρ) {T:Tm} {tmps:Array Value} (ht:∀d,zRT ρ (zX T d) (tmps.getD d undef)):
  ∀{T0:Tm} {ps:List Prop},co μ T0 T=some ps->All ps->∀d,zRT ρ0 (zX T0 d) (tmps.getD d undef)
 |[],_,_,_,d=>zR trivial
 | (e,v0)::r,ps,h,hp,d=>by
  simp only[co]at h
  split at h
  ·rename_i qs hq
   split at h
   ·rename_i rs hrs
    simp only[zoI]at h;subst h
    by_cases hde:d=e
    ·subst hde
     rw[aK]
     exact zR (jt hb hq hp.left (ht d))
    rw[aS hde]
    exact ie hb ht hrs hp.right d
   cases h
  cases h
theorem Le1.sound (h:Le1 Kn T0 M0 T M) (hc:aZ N ρ T M a w) (ha:gJ Kn ρA ρ):
  ∃ρ0,aZ N ρ0 T0 M0 a w/\gJ Kn ρA ρ0/\aV ρ M ρ0 M0 w w:=by
 unfold Le1 at h
 obtain⟨μ0,ps,qs,h1,h2,h3,h4,h5⟩:=h
 generalize fh μ0 M0=μ at *
 simp only[aNW,zbA]at h5
 obtain⟨⟨hsep,hkeys⟩,hid⟩:=h5
 have hback:yZ μ (zve μ M0 ρ) ρ:=by
  constructor
  intro a b g j hl hb
  exact⟨(mu hkeys (df hl)).1,by simp only[zve,hl],by simp only[zve,hl]⟩
  exactλ_ _ _ h=>h
 obtain⟨hM0,hown,_⟩:=oZ hc.tozF h3 (zAi h4) hsep hback
 refine⟨zve μ M0 ρ,⟨hM0,hc.sz,hc.defers,ie hback hc.tm h1 (zAi h2)⟩,⟨λk hk=>?_,ha.im⟩,?_⟩
 ·obtain⟨hl,hp⟩:=tM hid k hk
  refine⟨hp,?_⟩
  simp only[zve,hl,Option.getD_none,Nat.add_zero]
  exact(ha k hk).2
 exact⟨Nat.le_refl _,rfl,rfl,λ_ _ _=>rfl,λ_ _ _ _=>⟨rfl,rfl⟩,λb o _ ho=>hown b o ho,λ_ _ _ h=>Or.inl h⟩
theorem Le.sound (h:Le Kn T0 M0 T M) (hc:aZ N ρ T M a w) (ha:gJ Kn ρA ρ):
  ∃ρ0,aZ N ρ0 T0 M0 a w/\gJ Kn ρA ρ0/\aV ρ M ρ0 M0 w w:=by
 unfold Le at h
 obtain⟨gs,sl,ps,M1,T1,h1,h2,h3,h4⟩:=h
 obtain⟨ρ1,k1,k2,k3⟩:=bh h1 (zAi h2) hc.tozF
 obtain⟨ρ2,m1,m2,m3⟩:=jR h3 (hc.of_mem k1 k2)
 obtain⟨ρ0,l1,l2,l3⟩:=h4.sound m2 ((ha.le k1).le m1)
 exact⟨ρ0,l1,l2,k3.trans (m3.trans l3)⟩
abbrev ti:=Exit->Tm->Mm->Prop
@[irreducible] def aY (Kn:List Nat) (T:Tm) (M:Mm) (body:Tm->Mm->ti->Prop) (Q:ti):Prop:=
 ∃(σ:Type) (I:σ->Prop) (S:σ->Tm×Mm) (m:σ->Nat) (s0:σ),I s0/\Le Kn (S s0).1 (S s0).2 T M/\
  ∀s,I s->body (S s).1 (S s).2 λe T' M'=>match e with
   | .normal=>∃s',I s'/\m s'<m s/\Le Kn (S s').1 (S s').2 T' M'
   |e=>Q e T' M'
theorem aY.i {Kn:List Nat} {T:Tm} {M:Mm} {body:Tm->Mm->ti->Prop} {Q:ti} {σ:Type} (I:σ->Prop) (S:σ->Tm×Mm) (m:σ->Nat) (s0:σ) (h0:I s0) (h1:Le Kn (S s0).1 (S s0).2 T M)
  (h2:∀s,I s->body (S s).1 (S s).2 λe T' M'=>match e with
   | .normal=>∃s',I s'/\m s'<m s/\Le Kn (S s').1 (S s').2 T' M'
   |e=>Q e T' M'):aY Kn T M body Q:=by
 unfold aY;exact⟨σ,I,S,m,s0,h0,h1,h2⟩
@[irreducible] def Cut (Kn:List Nat) (T:Tm) (M:Mm) (B:Tm->Mm->Prop):Prop:=
 ∃(σ:Type) (I:σ->Prop) (S:σ->Tm×Mm) (s0:σ),I s0/\Le Kn (S s0).1 (S s0).2 T M/\∀s,I s->B (S s).1 (S s).2
theorem Cut.i {Kn:List Nat} {T:Tm} {M:Mm} {B:Tm->Mm->Prop} {σ:Type} (I:σ->Prop) (S:σ->Tm×Mm) (s0:σ) (h0:I s0) (h1:Le Kn (S s0).1 (S s0).2 T M) (h2:∀s,I s->B (S s).1 (S s).2):Cut Kn T M B:=by
 unfold Cut;exact⟨σ,I,S,s0,h0,h1,h2⟩
@[irreducible] def aOR (Kn:List Nat) (A:(Tm->Mm->Prop)->Prop) (B:Tm->Mm->Prop):Prop:=
 ∃(σ:Type) (I:σ->Prop) (S:σ->Tm×Mm),A (λT M=>∃s,I s/\Le Kn (S s).1 (S s).2 T M)/\∀s,I s->B (S s).1 (S s).2
theorem aOR.i {Kn:List Nat} {A:(Tm->Mm->Prop)->Prop} {B:Tm->Mm->Prop} {σ:Type} (I:σ->Prop) (S:σ->Tm×Mm) (h1:A (λT M=>∃s,I s/\Le Kn (S s).1 (S s).2 T M)) (h2:∀s,I s->B (S s).1 (S s).2):aOR Kn A B:=by
 unfold aOR;exact⟨σ,I,S,h1,h2⟩
def sq:Code->Option Nat
 | .region id _ _=>some id
 | .seq a _=>sq a
 | .block _ c=>sq c
 | .loop c=>sq c
 |_=>none
def aX1 (Cs:List Nat) (c:Code):Bool:=
 match Cs with
 |[]=>false
 |x::r=>match sq c with
  |some i=>eY (i+1000000) (x::r)
  |none=>false
def aV1 (k:Tm->Mm->Prop) (Q:ti):ti:=λe T M=>match e with
 | .normal=>k T M
 |e=>Q e T M
def aON (id:Nat) (Q:ti):ti:=λe T M=>match e with
 | .exit i=>bif beq i id then Q .normal T M else Q (.exit i) T M
 |e=>Q e T M
def g8 (Γ:Cfg) (id:Nat) (ops:Array Oper) (draw:Bool) (T:Tm) (M:Mm) (K:Tm->Mm->Prop):Prop:=
 match draw with
 |false=>jh Γ ops.toList ops.toList T M [] K
 |true=>aH Γ id ops.toList T M K
def mE (Γ:Cfg) (Cs Kn:List Nat) (c:Code) (T:Tm) (M:Mm) (Q:ti):Prop:=
 match c with
 | .skip=>Q .normal T M
 | .region id ops draw=>match eY id Cs with
  |false=>g8 Γ id ops draw T M (Q .normal)
  |true=>Cut Kn T M λT' M'=>g8 Γ id ops draw T' M' (Q .normal)
 | .seq a b=>match aX1 Cs b with
  |false=>mE Γ Cs Kn a T M (aV1 (λT' M'=>mE Γ Cs Kn b T' M' Q) Q)
  |true=>aOR Kn (λJ=>mE Γ Cs Kn a T M (aV1 J Q)) (λT' M'=>mE Γ Cs Kn b T' M' Q)
 | .cond c x y=>match ev T c with
  | .tt=>mE Γ Cs Kn x T M Q
  | .ff=>mE Γ Cs Kn y T M Q
  | .bool p=>zB p (mE Γ Cs Kn x T M Q) (mE Γ Cs Kn y T M Q)
  |_=>False
 | .block id c=>mE Γ Cs Kn c T M (aON id Q)
 | .loop c=>aY Kn T M (λT' M' Q'=>mE Γ Cs Kn c T' M' Q') Q
 | .exit id=>Q (.exit id) T M
 | .ret=>Q .ret T M
 | .label _=>Q .normal T M
 | .goto l=>Q (.goto l) T M
 |_=>False
def cW (N:Nat):Code->Bool
 | .region _ ops _=>iX N ops.toList
 | .seq a b=>cW N a&&cW N b
 | .cond _ x y=>cW N x&&cW N y
 | .block _ c=>cW N c
 | .loop c=>cW N c
 |_=>true
def aJB (N:Nat) (Kn:List Nat) (ρA ρ:Env) (M:Mm) (w:World) (Q:ti):Exit->Act->World->Prop:=
 λe a' w'=>∃ρ' T' M',Q e T' M'/\aZ N ρ' T' M' a' w'/\gJ Kn ρA ρ'/\aV ρ M ρ' M' w w'
theorem aDP (I:Nat->Act->World->Prop)
  (round:∀n a w,I n a w->c.wp P (Exit.then (λa' w'=>∃n',n'<n/\I n' a' w') Q) a w):∀n a w,I n a w->(Code.loop c).wp P Q a w:=by
 intro n a w h0 b k cs
 have key:∀n a w,I n a w->∃e a' w',Q e a' w'/\Arrives P (lone (b.at a (.code c:: .inLoop c::k)) cs w) b k cs e a' w':=by
  intro n
  induction n using Nat.strongRecOn with
  |_ n ih=>
   intro a w hI
   obtain⟨e,a₁,w₁,hq,harr⟩:=round n a w hI b (.inLoop c::k) cs
   cases e with
   |normal=>
    obtain⟨n',hlt,hI₁⟩:=hq
    obtain⟨e₂,a₂,w₂,hq₂,harr₂⟩:=ih n' hlt a₁ w₁ hI₁
    exact⟨e₂,a₂,w₂,hq₂,.of_steps (Steps.trans harr (.one step_inLoop)) harr₂⟩
   |exit id=>exact⟨_,a₁,w₁,hq,.pass (x:=.inLoop c) rfl (λ_ _=>.inl (by simp)) harr⟩
   |goto l=>exact⟨_,a₁,w₁,hq,.pass (x:=.inLoop c) rfl (λ_ _=>.inl (by simp)) harr⟩
   |ret=>exact⟨_,a₁,w₁,hq,.pass (x:=.inLoop c) rfl (λ_ _=>.inl (by simp)) harr⟩
   |panic ch=>exact⟨_,a₁,w₁,hq,.pass (x:=.inLoop c) rfl (λ_ _=>.inl (by simp)) harr⟩
   |outgrown=>exact⟨_,a₁,w₁,hq,.pass (x:=.inLoop c) rfl (λ_ _=>.inl (by simp)) harr⟩
 obtain⟨e,a',w',hq,harr⟩:=key n a w h0
 exact⟨e,a',w',hq,.of_steps (.one step_loop) harr⟩
theorem g7 {Γ:Cfg} {N:Nat} {Kn:List Nat} {ρA:Env} {id:Nat} {ops:Array Oper} {draw:Bool} (hok:iX N ops.toList=true) {T:Tm} {M:Mm} {Q:ti} {ρ:Env} {a:Act} {w:World}
  (h:g8 Γ id ops draw T M (Q .normal)) (hc:aZ N ρ T M a w) (ha:gJ Kn ρA ρ):(Code.region id ops draw).wp Γ.P (aJB N Kn ρA ρ M w Q) a w:=by
 cases draw with
 |false=>
  refine wp_region_list ?_
  have e:ops=ops.toList.toArray:=by simp
  rw[e]
  have:=fm (Γ:=Γ) (N:=N) (all:=ops.toList) hok (K:=Q .normal) (Q:=aJB N Kn ρA ρ M w Q) ops.toList (λo ho=>ho) hc h (λa' w' ⟨ρ',T',M',h1,h2,h3,h4⟩=>⟨ρ',T',M',h1,h3,ha.le h2,h4⟩)
  simpa using this
 |true=>
  simp only[g8]at h
  have e:ops=ops.toList.toArray:=by simp
  rw[e]
  exact aH.sound (Γ:=Γ) (N:=N) hok h hc λa' w' ⟨ρ',T',M',h1,h2,h3,h4⟩=>⟨ρ',T',M',h1,h3,ha.le h2,h4⟩
theorem jX:∀{c:Code},cW N c=true->∀{T:Tm} {M:Mm} {Q:ti} {ρ:Env} {a:Act} {w:World},mE Γ Cs Kn c T M Q->aZ N ρ T M a w->gJ Kn ρA ρ->
  c.wp Γ.P (aJB N Kn ρA ρ M w Q) a w:=by
 intro c
 induction c with
 |skip=>intro _ T M Q ρ a w h hc ha;exact wp_skip ⟨ρ,T,M,h,hc,ha,aV.refl _ _ _⟩
 |region id ops draw=>
  intro hok T M Q ρ a w h hc ha
  unfold mE at h
  split at h
  ·exact g7 hok h hc ha
  unfold Cut at h
  obtain⟨σ,I,S,s0,h0,h1,h2⟩:=h
  obtain⟨ρ0,hc0,ha0,hst0⟩:=h1.sound hc ha
  refine wp_mono (g7 hok (h2 s0 h0) hc0 ha0) ?_
  rintro e a' w' ⟨ρ',T',M',g1,g2,g3,g4⟩
  exact⟨ρ',T',M',g1,g2,g3,hst0.trans g4⟩
 |seq x y ihx ihy=>
  intro hok T M Q ρ a w h hc ha
  simp only[cW,zbA]at hok
  simp only[mE]at h
  split at h
  ·refine wp_seq (wp_mono (ihx hok.1 h hc ha) ?_)
   rintro e a' w' ⟨ρ',T',M',h1,h2,h3,h4⟩
   cases e with
   |normal=>
    refine wp_mono (ihy hok.2 h1 h2 h3) ?_
    rintro e a'' w'' ⟨ρ'',T'',M'',g1,g2,g3,g4⟩
    exact⟨ρ'',T'',M'',g1,g2,g3,h4.trans g4⟩
   |_=>exact⟨ρ',T',M',h1,h2,h3,h4⟩
  unfold aOR at h
  obtain⟨σ,I,S,hA,hB⟩:=h
  refine wp_seq (wp_mono (ihx hok.1 hA hc ha) ?_)
  rintro e a' w' ⟨ρ',T',M',h1,h2,h3,h4⟩
  cases e with
  |normal=>
   obtain⟨s,hs,hle⟩:=h1
   obtain⟨ρ0,hc0,ha0,hst0⟩:=hle.sound h2 h3
   refine wp_mono (ihy hok.2 (hB s hs) hc0 ha0) ?_
   rintro e a'' w'' ⟨ρ'',T'',M'',g1,g2,g3,g4⟩
   exact⟨ρ'',T'',M'',g1,g2,g3,(h4.trans hst0).trans g4⟩
  |_=>exact⟨ρ',T',M',h1,h2,h3,h4⟩
 |cond c x y ihx ihy=>
  intro hok T M Q ρ a w h hc ha
  simp only[cW,zbA]at hok
  have hr:=zev hc c
  simp only[mE]at h
  split at h
  ·rename_i he;rw[he]at hr
   exact wp_cond_true hr (ihx hok.1 h hc ha)
  ·rename_i he;rw[he]at hr
   exact wp_cond_false hr (ihy hok.2 h hc ha)
  ·rename_i p he;rw[he]at hr
   obtain⟨b,hb,hbp⟩:=hr
   cases b with
   |true=>exact wp_cond_true hb (ihx hok.1 (h.yes (hbp.1 rfl)) hc ha)
   |false=>exact wp_cond_false hb (ihy hok.2 (h.no λhp=>by have:=hbp.2 hp;cases this) hc ha)
  exact h.elim
 |block id c ih=>
  intro hok T M Q ρ a w h hc ha
  refine wp_block (wp_mono (ih hok h hc ha) ?_)
  rintro e a' w' ⟨ρ',T',M',h1,h2,h3,h4⟩
  cases e with
  |exit i=>
   simp only[aON]at h1
   simp only[Exit.inBlock]
   by_cases hi:i=id
   ·subst hi
    rw[show beq i i=true from Nat.beq_refl i,zcT]at h1
    rw[if_pos rfl]
    exact⟨ρ',T',M',h1,h2,h3,h4⟩
   have:beq i id=false:=by
    cases hb:beq i id with
    |false=>rfl
    |true=>exact absurd (zq hb) hi
   rw[this,zcF]at h1
   rw[if_neg hi]
   exact⟨ρ',T',M',h1,h2,h3,h4⟩
  |_=>exact⟨ρ',T',M',h1,h2,h3,h4⟩
 |loop c ih=>
  intro hok T M Q ρ a w h hc ha
  simp only[mE]at h
  unfold aY at h
  obtain⟨σ,I,S,m,s0,h0,h1,h2⟩:=h
  obtain⟨ρ0,hc0,ha0,hst0⟩:=h1.sound hc ha
  refine aDP (λn a' w'=>∃s ρs,n=m s/\I s/\aZ N ρs (S s).1 (S s).2 a' w'/\gJ Kn ρA ρs/\aV ρ M ρs (S s).2 w w') ?_ (m s0) a w ⟨s0,ρ0,rfl,h0,hc0,ha0,hst0⟩
  rintro n a' w' ⟨s,ρs,rfl,hI,hcs,has,hsts⟩
  refine wp_mono (ih hok (h2 s hI) hcs has) ?_
  rintro e a'' w'' ⟨ρ',T',M',g1,g2,g3,g4⟩
  cases e with
  |normal=>
   obtain⟨s',hI',hlt,hle⟩:=g1
   obtain⟨ρ'',hc'',ha'',hst''⟩:=hle.sound g2 g3
   exact⟨m s',hlt,s',ρ'',rfl,hI',hc'',ha'',hsts.trans (g4.trans hst'')⟩
  |_=>exact⟨ρ',T',M',g1,g2,g3,hsts.trans g4⟩
 |exit id=>intro _ T M Q ρ a w h hc ha;exact wp_exit ⟨ρ,T,M,h,hc,ha,aV.refl _ _ _⟩
 |ret=>intro _ T M Q ρ a w h hc ha;exact wp_ret ⟨ρ,T,M,h,hc,ha,aV.refl _ _ _⟩
 |label l=>intro _ T M Q ρ a w h hc ha;exact wp_label ⟨ρ,T,M,h,hc,ha,aV.refl _ _ _⟩
 |goto l=>intro _ T M Q ρ a w h hc ha;exact wp_goto ⟨ρ,T,M,h,hc,ha,aV.refl _ _ _⟩
 |_=>intro _ T M Q ρ a w h;exact h.elim
def aW0 (Γ:Cfg) (T:Tm) (M:Mm) (r:ResultVar):Option (List Prop×SV):=
 match r with
 | .tmp t=>match zX T t with
  | .und=>none
  | .tup _=>none
  |v=>some ([],v)
 | .cell a t=>match zX T a with
  | .ptr b f i=>aK4 M b f i (Γ.ty t)
  |_=>none
def xF (Γ:Cfg) (T:Tm) (M:Mm) (rs:List ResultVar):Option (List Prop×List SV):=
 match rs with
 |[]=>some ([],[])
 |r::q=>match aW0 Γ T M r with
  |some (ps,v)=>match xF Γ T M q with
   |some (qs,vs)=>some (ps++qs,v::vs)
   |none=>none
  |none=>none
def aFQ (vs:List SV):SV:=
 match vs with
 |[v]=>v
 |vs=>.tup vs
def aEW (μ:Nm) (v0 v:SV):Option (List Prop):=
 match v0 with
 | .tup l0=>match v with
  | .tup l=>fD μ l0 l
  |_=>none
 |v0=>match v with
  | .tup _=>none
  |v=>aEX μ v0 v
def aaV (Γ:Cfg) (Kn:List Nat) (rs:List ResultVar) (T:Tm) (M:Mm) (R:SV->Mm->Prop):Prop:=
 ∃ps vs v0 M0 μ qs us,xF Γ T M rs=some (ps,vs)/\zA ps/\R v0 M0/\aEW (fh μ M0) v0 (aFQ vs)=some qs/\zA qs/\gO (fh μ M0) M M0=some us/\zA us/\aNW Kn (fh μ M0) M M0=true
@[irreducible] def Ret (Γ:Cfg) (Kn:List Nat) (rs:List ResultVar) (T:Tm) (M:Mm) (R:SV->Mm->Prop):Prop:=
 ∃(gs:List Gh) (sl:List (Nat×Nat)) (ps:List Prop) (M1:Mm) (T1:Tm),eo gs M=some (ps,M1)/\zA ps/\aKU sl T M1=some T1/\aaV Γ Kn rs T1 M1 R
theorem Ret.ghost (gs:List Gh) (sl:List (Nat×Nat)) (g1:eo gs M=some (ts,M1)) (g2:zA ts) (g3:aKU sl T M1=some T1)
  (v0:SV) (M0:Mm) (μ:Nm)
  (h1:xF Γ T1 M1 rs=some (ps,vs)) (h2:zA ps) (h3:R v0 M0) (h4:aEW (fh μ M0) v0 (aFQ vs)=some qs) (h5:zA qs) (h6:gO (fh μ M0) M1 M0=some us) (h7:zA us)
  (h8:aNW Kn (fh μ M0) M1 M0=true):Ret Γ Kn rs T M R:=by
 unfold Ret;exact⟨gs,sl,ts,M1,T1,g1,g2,g3,ps,vs,v0,M0,μ,qs,us,h1,h2,h3,h4,h5,h6,h7,h8⟩
theorem Ret.i {Γ:Cfg} {Kn:List Nat} {rs:List ResultVar} {T:Tm} {M:Mm} {R:SV->Mm->Prop} {ps:List Prop} {vs:List SV} (v0:SV) (M0:Mm) (μ:Nm) {qs us:List Prop}
  (h1:xF Γ T M rs=some (ps,vs)) (h2:zA ps) (h3:R v0 M0) (h4:aEW (fh μ M0) v0 (aFQ vs)=some qs) (h5:zA qs) (h6:gO (fh μ M0) M M0=some us) (h7:zA us)
  (h8:aNW Kn (fh μ M0) M M0=true):Ret Γ Kn rs T M R:=by
 unfold Ret;exact⟨[],[],[],M,T,rfl,trivial,rfl,ps,vs,v0,M0,μ,qs,us,h1,h2,h3,h4,h5,h6,h7,h8⟩
def aSA (Γ:Cfg) (Kn:List Nat) (rs:List ResultVar) (R:SV->Mm->Prop):ti:=λe T M=>match e with
 | .ret=>Ret Γ Kn rs T M R
 | .normal=>Ret Γ Kn rs T M R
 |_=>False
def bG (i:Nat):List SV->Tm
 |[]=>[]
 |v::r=>(i,v)::bG (i+1) r
def gk:Mm->List Nat
 |[]=>[]
 |(k,_)::r=>k::gk r
theorem lQ:∀{M:Mm} {a:Nat} {e:Ent},zG M a=some e->a∈gk M
 |[],_,_,h=>by simp[zG]at h
 |(b,e')::r,a,e,h=>by
  simp only[gk,mem_cons]
  by_cases hab:a=b
  ·exact Or.inl hab
  rw[zg hab]at h
  exact Or.inr (lQ h)
theorem pz:∀{M:Mm} {a:Nat},a∈gk M->∃e,zG M a=some e
 |[],_,h=>by simp[gk]at h
 |(b,e')::r,a,h=>by
  by_cases hab:a=b
  ·subst hab;exact⟨_,zh _ _ _⟩
  rw[zg hab]
  simp only[gk,mem_cons]at h
  exact pz (h.resolve_left hab)
theorem de:∀{vs:List SV} {xs:List Value} (i:Nat) (tmps:Array Value),nM ρ vs xs->(∀j x,xs[j]? =some x->tmps[i+j]? =some x)->∀d,zRT ρ (zX (bG i vs) d) (tmps.getD d undef)
 |[],_,_,_,_,_,_=>zR trivial
 |v::r,xs,i,tmps,⟨x,ys,e,h1,h2⟩,ht,d=>by
  subst e
  simp only[bG]
  by_cases hd:d=i
  ·subst hd
   rw[aK]
   have:=ht 0 x rfl
   rw[Nat.add_zero]at this
   rw[Array.getD_eq_getD_getElem?,this]
   exact zR h1
  rw[aS hd]
  exact de (i+1) tmps h2 (λj y hj=>by
   have:=ht (j+1) y (by simpa using hj)
   rw[show i+1+j=i+(j+1) by omega];exact this) d
theorem fZ:∀{vs:List SV} {xs:List Value},nM ρ vs xs->xs.length=vs.length
 |[],xs,h=>by simp only[nM]at h;subst h;rfl
 |_::_,_,⟨_,_,e,_,h⟩=>by subst e;simp[fZ h]
def y8 (tmps:Array Value):ResultVar->Sem Value
 | .tmp t=>pure (tmps.getD t undef)
 | .cell b t=>do loadVar t (<-asAddr (tmps.getD b undef))
theorem qq (fn:Func) (tmps:Array Value):results fn tmps=(do
  let out<-fn.results.mapM (y8 tmps)
  pure (if h:out.size=1 then out[0]else .tuple out)):=by
 unfold results
 congr 1
theorem aBR (hc:aZ N ρ T M a w) (h:aW0 Γ T M r=some (ps,v)) (hp:All ps):
  ∃x,Rel ρ v x/\(y8 a.tmps r).run Γ.P w= .ok x w:=by
 unfold aW0 at h
 split at h
 ·rename_i t
  have hr:=hc.tm t
  split at h
  ·cases h
  ·cases h
  rename_i h1 h2
  obtain⟨rfl,rfl⟩:=sB h
  exact⟨_,hr.s h2,rfl⟩
 rename_i b t
 have hr:=hc.tm b
 split at h
 ·rename_i d f i he
  rw[he]at hr
  obtain⟨x,hx,hrun⟩:=pn hc.tozF h hp
  exact⟨x,hx,by simp only[y8,hr.2,asAddr,Sem.run_bind,Sem.run_pure,andThen_ok,hrun]⟩
 cases h
theorem pC (hc:aZ N ρ T M a w):∀{rs:List ResultVar} {ps:List Prop} {vs:List SV},xF Γ T M rs=some (ps,vs)->All ps->
  ∃xs,nM ρ vs xs/\(rs.mapM (y8 a.tmps)).run Γ.P w= .ok xs w
 |[],ps,vs,h,_=>by
  simp only[xF,zoI,zpI]at h;obtain⟨rfl,rfl⟩:=h
  exact⟨[],rfl,rfl⟩
 |r::q,ps,vs,h,hp=>by
  simp only[xF]at h
  split at h
  ·rename_i qs v hv
   split at h
   ·rename_i us ws hws
    obtain⟨rfl,rfl⟩:=sB h
    obtain⟨x,hx,h1⟩:=aBR hc hv hp.left
    obtain⟨xs,hxs,h2⟩:=pC hc hws hp.right
    refine⟨x::xs,⟨x,xs,rfl,hx,hxs⟩,?_⟩
    rw[List.mapM_cons]
    simp only[Sem.run_bind]
    rw[h1]
    simp only[andThen_ok]
    rw[h2]
    rfl
   cases h
  cases h
theorem wz (hb:yZ μ ρ0 ρ) (h:aEW μ v0 v=some ps) (hp:All ps) (hr:zRT ρ v x):zRT ρ0 v0 x:=by
 have conv:∀{l:List SV} {xs:List Value},nM ρ l xs->iR ρ l xs:=by
  intro l
  induction l with
  |nil=>intro xs h;exact h
  |cons v r ih=>intro xs ⟨x,ys,e,h1,h2⟩;exact⟨x,ys,e,zR h1,ih h2⟩
 unfold aEW at h
 split at h
 ·split at h
  ·obtain⟨xs,h1,e⟩:=hr
   exact⟨xs,gH hb h hp (conv h1),e⟩
  cases h
 split at h
 ·cases h
 exact zR (jt hb h hp hr)
theorem aBQ (hc:aZ N ρ T M a w) (ha:gJ Kn ρA ρ) (h:aaV Γ Kn rs T M R)
  (hrs:fn.results.toList=rs):
  ∃x v ρ' M',(results fn a.tmps).run Γ.P w= .ok x w/\zRT ρ' v x/\R v M'/\zF ρ' M' w/\gJ Kn ρA ρ'/\aV ρ M ρ' M' w w:=by
 obtain⟨ps,vs,v0,M0,μ0,qs,us,h1,h2,h3,h4,h5,h6,h7,h8⟩:=h
 generalize fh μ0 M0=μ at *
 simp only[aNW,zbA]at h8
 obtain⟨⟨hsep,hkeys⟩,hid⟩:=h8
 have hback:yZ μ (zve μ M0 ρ) ρ:=by
  constructor
  intro a b g j hl hb
  exact⟨(mu hkeys (df hl)).1,by simp only[zve,hl],by simp only[zve,hl]⟩
  exactλ_ _ _ h=>h
 obtain⟨hM0,hown,_⟩:=oZ hc.tozF h6 (zAi h7) hsep hback
 obtain⟨xs,hxs,hrun⟩:=pC hc h1 (zAi h2)
 have hlen:=fZ hxs
 have hrun2:(results fn a.tmps).run Γ.P w= .ok (if h:xs.toArray.size=1 then xs.toArray[0]else .tuple xs.toArray) w:=by
  rw[qq,Sem.run_bind]
  have e:fn.results=rs.toArray:=by rw[<-hrs]
  rw[e,List.mapM_toArray,Sem.run_map,hrun]
  simp only[andThen_ok]
  rfl
 have hone:zRT ρ (aFQ vs) (if h:xs.toArray.size=1 then xs.toArray[0]else .tuple xs.toArray):=by
  unfold aFQ
  split
  ·rename_i v
   obtain⟨x,ys,e,hx,hy⟩:=hxs
   simp only[nM]at hy
   subst hy;subst e
   exact zR hx
  rename_i hne
  rw[dif_neg (by
   simp only[List.size_toArray,hlen]
   intro h1
   match vs,h1 with
   |[v],_=>exact hne v rfl)]
  exact⟨xs,hxs,rfl⟩
 refine⟨_,v0,zve μ M0 ρ,M0,hrun2,wz hback h4 (zAi h5) hone,h3,hM0,⟨λk hk=>?_,ha.im⟩,⟨Nat.le_refl _,rfl,rfl,λ_ _ _=>rfl,λ_ _ _ _=>⟨rfl,rfl⟩,λb o _ ho=>hown b o ho,λ_ _ _ h=>Or.inl h⟩⟩
 obtain⟨hl,hp⟩:=tM hid k hk
 refine⟨hp,?_⟩
 simp only[zve,hl,Option.getD_none,Nat.add_zero]
 exact(ha k hk).2
theorem pA (hc:aZ N ρ T M a w) (ha:gJ Kn ρA ρ) (h:Ret Γ Kn rs T M R)
  (hrs:fn.results.toList=rs):
  ∃x v ρ' M',(results fn a.tmps).run Γ.P w= .ok x w/\zRT ρ' v x/\R v M'/\zF ρ' M' w/\gJ Kn ρA ρ'/\aV ρ M ρ' M' w w:=by
 unfold Ret at h
 obtain⟨gs,sl,ts,M1,T1,g1,g2,g3,h⟩:=h
 obtain⟨ρ1,k1,k2,k3⟩:=bh g1 (zAi g2) hc.tozF
 obtain⟨ρ2,m1,m2,m3⟩:=jR g3 (hc.of_mem k1 k2)
 obtain⟨x,v,ρ',M',r1,r2,r3,r4,r5,r6⟩:=aBQ m2 ((ha.le k1).le m1) h hrs
 exact⟨x,v,ρ',M',r1,r2,r3,r4,r5,k3.trans (m3.trans r6)⟩
theorem cV (Cs:List Nat) (hf:Γ.P.funcs[f]? =some fn) (hb:fn.body=some c)
  (hok:cW fn.ntmps c=true) (hn:Nat.ble args.length fn.ntmps=true) (h:mE Γ Cs (gk M0) c (bG 0 args) M0 (aSA Γ (gk M0) fn.results.toList R)):Fn Γ.P f args M0 R:=by
 intro ρ xs w hM hargs
 refine calls_of_wp hf hb ?_
 have hlen:=fZ hargs
 have hle:=aX hn
 have hc:aZ fn.ntmps ρ (bG 0 args) M0 {tmps:=xs.toArray++Array.replicate (fn.ntmps-xs.toArray.size) undef,defers:=[]} w:=by
  refine⟨hM,by simp;omega,rfl,de 0 _ hargs λj x hj=>?_⟩
  have hlt:=(List.getElem?_eq_some_iff.1 hj).1
  rw[Nat.zero_add,Array.getElem?_append_left (by simpa using hlt)]
  simpa using hj
 have ha:gJ (gk M0) ρ ρ:=by
  refine⟨λk hk=>?_,λ_ _ _ h=>h⟩
  obtain⟨e,he⟩:=pz hk
  exact⟨hM.mod k e he,rfl⟩
 refine wp_mono (jX hok h hc ha) ?_
 rintro e a' w' ⟨ρ',T',M',h1,h2,h3,h4⟩
 have fin:Ret Γ (gk M0) fn.results.toList T' M' R->a'.defers=[]/\∃v,(results fn a'.tmps).run Γ.P w'= .ok v w'/\∃v' x ρ' M',Ending.returned v= .returned x/\zRT ρ' v' x/\R v' M'/\ρ.le ρ'/\zF ρ' M' w'/\aV ρ M0 ρ' M' w w':=by
  intro hr
  obtain⟨x,v,ρ2,M2,r1,r2,r3,r4,r5,r6⟩:=pA h2 h3 hr rfl
  refine⟨h2.defers,x,r1,v,x,ρ2,M2,rfl,r2,r3,⟨λk hk=>?_,r5.im⟩,r4,h4.trans r6⟩
  obtain⟨e,he⟩:=hM.dom k hk
  exact r5 k (lQ he)
 cases e with
 |normal=>exact fin h1
 |ret=>exact fin h1
 |_=>exact h1.elim
theorem aG (hf:Γ.P.funcs[f]? =some fn) (hb:fn.body=some c)
  (hok:cW fn.ntmps c=true) (hn:Nat.ble args.length fn.ntmps=true) (h:mE Γ [] (gk M0) c (bG 0 args) M0 (aSA Γ (gk M0) fn.results.toList R)):Fn Γ.P f args M0 R:=
 cV [] hf hb hok hn h
theorem Fn.mono (h:Fn P f args M0 R) (hr:∀v M,R v M->R' v M):Fn P f args M0 R':=by
 intro ρ xs w hM ha
 refine(h ρ xs w hM ha).mono ?_
 rintro e w' ⟨v,x,ρ',M',h1,h2,h3,h4⟩
 exact⟨v,x,ρ',M',h1,h2,hr _ _ h3,h4⟩
theorem zA.one (h:p):zA [p]:=h
theorem zA.of:∀{ps:List Prop},All ps->zA ps
 |[],_=>trivial
 |[_],h=>h.head
 |_::_::_,h=>⟨h.head,zA.of h.tail⟩
theorem zA.cons (h:p) (k:zA r):zA (p::r):=zA.of λq hq=>by
 rcases List.mem_cons.1 hq with e|hq
 ·rw[e];exact h
 exact zAi k q hq
theorem zA.app (h:zA a) (k:zA b):zA (a++b):=zA.of λq hq=>(List.mem_append.1 hq).elim (zAi h q) (zAi k q)
theorem zA.zd (h:zA a) (k:zA b):zA (a.append b):=zA.app h k
def jg (id:Nat) (c:Code):Option Code:=
 match c with
 | .region i o d=>bif beq i id then some (.region i o d)else none
 | .seq a b=>match sq (.seq a b)with
  |some i=>bif beq i id then some (.seq a b)else match jg id a with
   |some x=>some x
   |none=>jg id b
  |none=>match jg id a with
   |some x=>some x
   |none=>jg id b
 | .cond _ x y=>match jg id x with
  |some z=>some z
  |none=>jg id y
 | .block _ c=>jg id c
 | .loop c=>jg id c
 | .scope c=>jg id c
 |_=>none
def aWT (fn:Func) (id:Nat):Code:=match fn.body with
 |some c=>(jg id c).getD .skip
 |none=>.skip
def aSJ (Γ:Cfg) (Cs:List Nat) (fn:Func) (id:Nat) (Kn:List Nat) (T:Tm) (M:Mm) (R:SV->Mm->Prop):Prop:=
 mE Γ Cs Kn (aWT fn id) T M (aSA Γ Kn fn.results.toList R)
end Go.Sx
