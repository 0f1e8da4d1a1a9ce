/- A symbolic executor over the code of this model: part 7. No condition. -/
import Derived.Test.YtimbdhpchlakfaaHx6
set_option linter.unusedSimpArgs false
set_option linter.unusedVariables false
namespace Go.Sx
open Go
def depAt:List (List Nat)→Nat→List Nat
 | [],_=>[]
 | d :: _,0=>d
 | _ :: r,i + 1=>depAt r i
def tmpsOf:List Operand→List Nat
 | []=>[]
 | .tmp t :: r=>t :: tmpsOf r
 | _ :: r=>tmpsOf r
def gSlot (ops:List Oper) (o:Oper):List Nat:=
 match o.guard with
 | none=>[]
 | some (j,_)=>match guardSlot ops j with
  | none=>[]
  | some d=>[d]
def looks (ops:List Oper) (o:Oper):List Nat:=gSlot ops o ++ tmpsOf o.op.operands.toList
inductive GV where
 | bad | run | skip
 | split (p:Prop)
 | splitN (p:Prop)
def guardV (ops:List Oper) (dp:List Nat) (o:Oper) (T:Tm):GV:=
 match o.guard with
 | none=>.run
 | some (j,want)=>bif memB j dp then match guardSlot ops j with
   | none=>.bad
   | some d=>match getT T d with
    | .tt=>bif want then .run else .skip
    | .ff=>bif want then .skip else .run
    | .bool p=>bif want then .split p else .splitN p
    | .tup []=>.skip
    | _=>.bad
  else .bad
def guardB (g:GV) (A B:Prop):Prop:=
 match g with
 | .bad=>False
 | .run=>A
 | .skip=>B
 | .split p=>Branch p A B
 | .splitN p=>Branch p B A
def GuardIs (ops:List Oper) (o:Oper) (T:Tm) (b:Bool):Prop:=
 match o.guard with
 | none=>b = true
 | some (j,want)=>∃ d,guardSlot ops j = some d∧match getT T d with
  | .tt=>b = want
  | .ff=>b = !want
  | .bool p=>(p ↔ b = want)
  | .tup []=>b = false
  | _=>False
theorem guardB_spec {ops:List Oper} {dp:List Nat} {o:Oper} {T:Tm} {A B:Prop} (h:guardB (guardV ops dp o T) A B):∃ b,GuardIs ops o T b∧(b = true→A)∧(b = false→B):=by
 unfold guardV at h
 unfold GuardIs
 split at h
 ·exact ⟨true,rfl,fun _=>h,(fun h=>by cases h)⟩
 ·rename_i j want hg
  cases hm:memB j dp with
  | false=>rw [hm,cond_false] at h;exact h.elim
  | true=>
   rw [hm,cond_true] at h
   split at h
   ·exact h.elim
   ·rename_i d hd
    split at h
    ·rename_i hT
     cases want with
     | true=>exact ⟨true,⟨d,hd,by rw [hT]⟩,fun _=>h,(fun h=>by cases h)⟩
     | false=>exact ⟨false,⟨d,hd,by rw [hT]⟩,(fun h=>by cases h),fun _=>h⟩
    ·rename_i hT
     cases want with
     | true=>exact ⟨false,⟨d,hd,by rw [hT];rfl⟩,(fun h=>by cases h),fun _=>h⟩
     | false=>exact ⟨true,⟨d,hd,by rw [hT];rfl⟩,fun _=>h,(fun h=>by cases h)⟩
    ·rename_i p hT
     rcases Classical.em p with hp | hp
     ·cases want with
      | true=>exact ⟨true,⟨d,hd,by rw [hT];simp [hp]⟩,fun _=>Branch.yes h hp,(fun h=>by cases h)⟩
      | false=>exact ⟨false,⟨d,hd,by rw [hT];simp [hp]⟩,(fun h=>by cases h),fun _=>Branch.yes h hp⟩
     ·cases want with
      | true=>exact ⟨false,⟨d,hd,by rw [hT];simp [hp]⟩,(fun h=>by cases h),fun _=>Branch.no h hp⟩
      | false=>exact ⟨true,⟨d,hd,by rw [hT];simp [hp]⟩,fun _=>Branch.no h hp,(fun h=>by cases h)⟩
    ·rename_i hT
     exact ⟨false,⟨d,hd,by rw [hT]⟩,(fun h=>by cases h),fun _=>h⟩
    ·exact h.elim
theorem wanted_of {N:Nat} {ρ:Env} {T:Tm} {M:Mm} {a:Act} {w:World} (hc:Conc N ρ T M a w) {ops:List Oper} (hall:dstOK N ops = true) {o:Oper} {b:Bool} (h:GuardIs ops o T b):Region.wanted o (yielded ops.toArray a.tmps) = b:=by
 unfold GuardIs at h
 split at h
 ·rename_i hg;subst h;simp [Region.wanted,hg]
 ·rename_i j want hg
  obtain ⟨d,hd,h⟩:=h
  have hdN:d < N:=by
   unfold guardSlot at hd
   split at hd
   ·rename_i o' ho'
    exact dstOK_get hall (List.mem_of_getElem? ho') d hd
   ·cases hd
  have hw:∀ {b:Bool},a.tmps.getD d undef = .bool b→Region.wanted o (yielded ops.toArray a.tmps) = (b == want):=by
   intro b hb
   have:=yielded_of hc hd hdN hb
   simp only [Region.wanted,hg,this]
   cases b <;> cases want <;> rfl
  have hT:=hc.tm d
  split at h
  ·rename_i he;rw [he] at hT;rw [h]
   rw [hw (b:=true) hT];cases want <;> rfl
  ·rename_i he;rw [he] at hT;rw [h]
   rw [hw (b:=false) hT];cases want <;> rfl
  ·rename_i p he;rw [he] at hT
   obtain ⟨b',hb,hbp⟩:=hT
   rw [hw hb]
   have e:=hbp.trans h
   clear hw h hbp hb he hg
   revert e
   cases b' <;> cases b <;> cases want <;> simp
  ·rename_i he;rw [he] at hT;rw [h]
   exact wanted_und hg hd (hT.elim fun xs hx=>by have h1:=hx.1;have h2:=hx.2;simp only [RelL] at h1;subst h1;exact h2)
  ·exact h.elim
def kindO (ty:Nat→Ty) (o:Oper):Nat:=
 match o.op with
 | .alloc _=>1
 | .box _ _=>1
 | .makeSlice _ _ _=>1
 | .buildSlice _ _ _=>1
 | .makeMap _ _=>1
 | .mapUpdate _ _ _ _=>2
 | .store _ _ _=>2
 | .convert _ t _=>match (ty t).k with
  | .slice _=>2
  | _=>0
 | .call c=>match c.callee with
  | .builtin b=>match isCopy b with
   | true=>2
   | false=>match isAppend b with
    | true=>2
    | false=>0
  | _=>2
 | _=>0
def newE (Γ:Cfg) (o:Oper) (T:Tm):Option (List Prop × Nat × Ent × SV):=
 match o.op with
 | .alloc t=>match o.dst with
  | some d=>match (Γ.ty t).k with
   | .bad=>none
   | _=>match (Γ.ty t).zl with
    | []=>none
    | zl=>some ([],d,.mem true 0 zl,.ptr d 0 none)
  | none=>none
 | .box t x=>match o.dst with
  | some d=>match leavesOf (Γ.ty t) (ev T x) with
   | some (qs,ls)=>some (qs,d,.mem true 0 ls,.ptr d 0 none)
   | none=>none
  | none=>none
 | .makeSlice t l c=>match o.dst with
  | some d=>match makeV Γ.ty T d t l c with
   | some (qs,e,v)=>some (qs,d,e,v)
   | none=>none
  | none=>none
 | .buildSlice t len parts=>bif noParts len parts.toList then match o.dst with
   | some d=>match bsV Γ.ty T d t len parts.toList with
    | some (qs,e,v)=>some (qs,d,e,v)
    | none=>none
   | none=>none
  else none
 | .makeMap _ r=>match r with
  | none=>match o.dst with
   | some d=>some ([],d,.map (.si []),.mp d)
   | none=>none
  | some _=>none
 | _=>none
theorem makeV_own {ty:Nat→Ty} {T:Tm} {d t:Nat} {l c:Operand} {ps:List Prop} {e:Ent} {v:SV} (h:makeV ty T d t l c = some (ps,e,v)):e.isOwn = true:=by
 unfold makeV at h
 split at h
 ·split at h
  ·cases h
  ·split at h
   ·split at h
    ·split at h
     ·split at h
      ·simp only [Option.some.injEq,Prod.mk.injEq] at h;obtain ⟨_,rfl,_⟩:=h;rfl
      ·cases h
     rcases bif_some h with ⟨_,h⟩ | ⟨_,h⟩
     ·simp only [Option.some.injEq,Prod.mk.injEq] at h;obtain ⟨_,rfl,_⟩:=h;rfl
     ·split at h
      ·simp only [Option.some.injEq,Prod.mk.injEq] at h;obtain ⟨_,rfl,_⟩:=h;rfl
      ·cases h
    ·cases h
   ·cases h
 ·cases h
theorem bsV_own {ty:Nat→Ty} {T:Tm} {d t len:Nat} {parts:List (Nat × Operand)} {ps:List Prop} {e:Ent} {v:SV} (h:bsV ty T d t len parts = some (ps,e,v)):e.isOwn = true:=by
 unfold bsV at h
 split at h
 ·split at h
  ·cases h
  ·replace h:=(bif_none h).2
   split at h
   ·simp only [Option.some.injEq,Prod.mk.injEq] at h;obtain ⟨_,rfl,_⟩:=h;rfl
   ·cases h
 ·cases h
def isNone? (o:Option Ent):Bool:=
 match o with
 | none=>true
 | some _=>false
def aloneB (M0:Mm) (rs:List Rec) (dp:List Nat) (k:Nat):List Rec→Bool
 | []=>true
 | x :: q=>(memB x.ix dp || (isNone? (getM x.new k) && isNone? (getM (recM (inB x.dep) M0 rs) k))) && aloneB M0 rs dp k q
def freshB (M0:Mm) (rs:List Rec) (dp:List Nat):Mm→Bool
 | []=>true
 | (k,e) :: r=>(match getM (recM allB M0 rs) k with
  | none=>(match e with
   | .dead=>false
   | .mem own sp _=>own || sp != 0
   | .map _=>true)
  | some _=>(match e with
   | .dead=>!isNone? (getM (recM (inB dp) M0 rs) k) && aloneB M0 rs dp k rs
   | _=>false)) && freshB M0 rs dp r
def noDead (M:Mm):Mm→Bool
 | []=>true
 | (a,e) :: r=>(match e with
  | .dead=>isNone? (getM M a)
  | _=>true) && noDead M r
def safeB (M0:Mm) (rs:List Rec) (dp:List Nat):List Rec→Bool
 | []=>true
 | k :: q=>(memB k.ix dp || noDead (recM (inB dp) M0 rs) k.new) && safeB M0 rs dp q
theorem isNone?_spec {o:Option Ent} (h:isNone? o = true):o = none:=by
 cases o with
 | none=>rfl
 | some _=>cases h
theorem noDead_spec {M:Mm}:∀ {E:Mm},noDead M E = true→∀ a,getM E a = some .dead→getM M a = none
 | [],_,_,h=>by simp [getM] at h
 | (k,e) :: r,hn,a,h=>by
  simp only [noDead,Bool.and_eq_true] at hn
  by_cases hk:a = k
  ·subst hk
   rw [getM_cons_self] at h
   simp only [Option.some.injEq] at h;subst h
   exact isNone?_spec hn.1
  ·rw [getM_cons_ne hk] at h
   exact noDead_spec hn.2 a h
theorem safeB_spec {M0:Mm} {rs:List Rec} {dp:List Nat}:∀ {q:List Rec},safeB M0 rs dp q = true→∀ k ∈ q,k.ix ∉ dp→∀ a,getM k.new a = some .dead→getM (recM (inB dp) M0 rs) a = none
 | [],_,_,h=>by simp at h
 | x :: t,hs,k,hk=>by
  simp only [safeB,Bool.and_eq_true,Bool.or_eq_true] at hs
  rcases List.mem_cons.1 hk with hk' | hk'
  ·subst hk'
   intro hn a ha
   exact noDead_spec (hs.1.resolve_left fun h=>hn (memB_iff.1 h)) a ha
  ·exact safeB_spec hs.2 k hk'
theorem aloneB_spec {M0:Mm} {rs:List Rec} {dp:List Nat} {a:Nat}:∀ {q:List Rec},aloneB M0 rs dp a q = true→∀ x ∈ q,x.ix ∉ dp→getM x.new a = none∧getM (recM (inB x.dep) M0 rs) a = none
 | [],_,_,h=>by simp at h
 | y :: t,hs,x,hx=>by
  simp only [aloneB,Bool.and_eq_true,Bool.or_eq_true] at hs
  rcases List.mem_cons.1 hx with hx' | hx'
  ·subst hx'
   intro hn
   have:=hs.1.resolve_left fun h=>hn (memB_iff.1 h)
   exact ⟨isNone?_spec this.1,isNone?_spec this.2⟩
  ·exact aloneB_spec hs.2 x hx'
@[irreducible] def Grow (M M':Mm) (ok:Mm→Bool) (X:Mm→Prop) (ok2:Mm→Bool) (Y:Prop):Prop:=(∃ E,M' = E ++ M∧ok E = true∧X E) ∨ ∃ E,M' = E ++ M∧ok2 E = true∧Y
theorem Grow.intro {M M':Mm} {ok:Mm→Bool} {X:Mm→Prop} {ok2:Mm→Bool} {Y:Prop} (E:Mm) (h1:M' = E ++ M) (h2:ok E = true) (h3:X E):Grow M M' ok X ok2 Y:=by unfold Grow;exact Or.inl ⟨E,h1,h2,h3⟩
def growE (M M':Mm):Mm:=M'.take (M'.length - M.length)
theorem Grow.auto {M M':Mm} {ok:Mm→Bool} {X:Mm→Prop} {ok2:Mm→Bool} {Y:Prop} (h1:M' = growE M M' ++ M) (h2:ok (growE M M') = true) (h3:forceM (growE M M') X):Grow M M' ok X ok2 Y:=by
 unfold Grow;rw [forceM_eq] at h3;exact Or.inl ⟨_,h1,h2,h3⟩
theorem Grow.turn {M M':Mm} {ok:Mm→Bool} {X:Mm→Prop} {ok2:Mm→Bool} {Y:Prop} (h1:M' = growE M M' ++ M) (h2:ok2 (growE M M') = true) (h3:Y):Grow M M' ok X ok2 Y:=by
 unfold Grow;exact Or.inr ⟨_,h1,h2,h3⟩
def noneIn (d:Option Nat) (l:List Nat):Bool:=
 match d with
 | none=>true
 | some s=>!memB s l
def dstNe (d e:Option Nat):Bool:=
 match d,e with
 | some x,some y=>!Nat.beq x y
 | _,_=>true
def blindO (o:Oper):Bool:=
 match o.op with
 | .move _=>true
 | .assign _=>true
 | .extract _ _=>true
 | .pick _ _ _=>true
 | _=>false
def isSel (o:Oper):Bool:=
 match o.op with
 | .select _ _=>true
 | _=>false
def noSelB:List Oper→Bool
 | []=>true
 | o :: r=>!isSel o && noSelB r
def lessB (i:Nat):List Nat→Bool
 | []=>true
 | k :: r=>Nat.blt k i && lessB i r
def waitsB (i:Nat):List Edge→Bool
 | []=>false
 | e :: r=>(Region.binds .any e && Nat.beq e.on i) || waitsB i r
def apartB (ops:List Oper) (x y:Oper):Bool:=noneIn x.dst (looks ops y) && (dstNe x.dst y.dst && noneIn y.dst (looks ops x))
def apartAll (ops:List Oper) (dp:List Nat) (i:Nat) (o:Oper) (j:Nat):List Oper→Bool
 | []=>true
 | oj :: r=>(Nat.beq j i || (memB j dp || (waitsB i oj.after.toList || apartB ops o oj))) && apartAll ops dp i o (j + 1) r
def aheadB (ops:List Oper) (dep:List (List Nat)) (i:Nat):Bool:=
 match ops[i]? with
 | none=>false
 | some o=>blindO o && (lessB i (depAt dep i) && (apartAll ops (depAt dep i) i o 0 ops && noSelB ops))
def barB (ops:List Oper) (dep:List (List Nat)) (dp:List Nat):List Rec→Bool
 | []=>true
 | r :: q=>(memB r.ix dp || aheadB ops dep r.ix) && barB ops dep dp q
def allocB (ops:List Oper) (i:Nat):Bool:=
 match ops[i]? with
 | some o=>(match o.op with
  | .alloc _=>(match o.guard with
   | none=>true
   | some _=>false)
  | _=>false)
 | none=>false
def lateL (ops:List Oper) (dep:List (List Nat)) (dp:List Nat):List Rec→List Rec
 | []=>[]
 | r :: q=>bif memB r.ix dp || aheadB ops dep r.ix then lateL ops dep dp q else r :: lateL ops dep dp q
def noneWaits (i:Nat):List Rec→Bool
 | []=>true
 | r :: q=>!memB i r.dep && noneWaits i q
def newOK (M:Mm):Mm→Bool
 | []=>true
 | (k,e) :: r=>isNone? (getM M k) && e.isOwn && newOK M r
def barK (o:Oper):Bool:=
 match o.op with
 | .call c=>(match c.callee with
  | .value _=>true
  | _=>false)
 | .store _ _ _=>true
 | _=>false
def pureB (ty:Nat→Ty) (ops:List Oper) (i:Nat):Bool:=
 match ops[i]? with
 | some o=>(match o.guard with
  | none=>Nat.beq (kindO ty o) 0
  | some _=>false)
 | none=>false
def lateOK (ty:Nat→Ty) (ops:List Oper) (dp:List Nat) (rs:List Rec):List Rec→Bool
 | []=>true
 | x :: q=>((allocB ops x.ix || pureB ty ops x.ix) && (!memB x.ix dp && noneWaits x.ix rs)) && lateOK ty ops dp rs q
def allOr (i:Nat) (l:List Nat):Bool:=
 match l with
 | []=>true
 | x :: r=>memB i (x :: r)
def lateOf (ty:Nat→Ty) (i:Nat) (o:Oper) (ops:List Oper) (dep:List (List Nat)) (dp:List Nat) (rs:List Rec):Option (List Rec):=
 bif Nat.blt ops.length dep.length && (barK o && allOr i (depAt dep ops.length)) then (bif lateOK ty ops dp rs (lateL ops dep dp rs) then some (lateL ops dep dp rs) else none) else none
def notS (S:List Rec) (j:Nat):Bool:=
 match S with
 | []=>true
 | x :: r=>!Nat.beq j x.ix && notS r j
def lateGo (Γ:Cfg) (ops:List Oper) (T:Tm) (M:Mm) (next:Tm→Mm→List Rec→Prop) (S acc:List Rec):Prop:=
 match S with
 | []=>next T M acc
 | x :: r=>bif notS acc x.ix then (bif allocB ops x.ix then (bif newOK (recM allB M acc) x.new then lateGo Γ ops T M next r (x :: acc) else False) else (match ops[x.ix]? with
  | some o=>match pureOp Γ.ty (restr T (looks ops o)) M o.op with
   | some (qs,v)=>withP qs (lateGo Γ ops T M next r (⟨x.ix,x.dst,v,[],x.dep,looks ops o⟩ :: acc))
   | none=>False
  | none=>False)) else False
def lateAll (Γ:Cfg) (ops:List Oper) (o:Oper) (T0:Tm) (M0:Mm) (rs:List Rec) (next:Tm→Mm→List Rec→Prop) (X S:List Rec):Prop:=
 match X with
 | []=>effOp Γ o (recT (notS S) T0 rs) (recM (notS S) M0 rs) [] fun qs v M'=>withP qs (lateGo Γ ops (putT o.dst v (recT (notS S) T0 rs)) M' next S [])
 | x :: r=>lateAll Γ ops o T0 M0 rs next r S∧lateAll Γ ops o T0 M0 rs next r (x :: S)
def notDead (M:Mm):Bool:=
 match M with
 | []=>true
 | (_,e) :: r=>(match e with
  | .dead=>false
  | _=>true) && notDead r
def turnK (dp:List Nat) (k:Nat) (rs:List Rec):Bool:=
 match rs with
 | []=>true
 | x :: q=>(memB x.ix dp || isNone? (getM x.new k)) && turnK dp k q
def turnD (dp:List Nat) (rs:List Rec):Bool:=
 match rs with
 | []=>true
 | x :: q=>(memB x.ix dp || notDead x.new) && turnD dp q
def turnE (dp:List Nat) (rs:List Rec) (E:Mm):Bool:=
 match E with
 | []=>true
 | (k,e) :: r=>e.loose && turnK dp k rs && turnE dp rs r
def turnB (dp:List Nat) (rs:List Rec) (E:Mm):Bool:=turnD dp rs && turnE dp rs E
def nilE (M:Mm):Bool:=
 match M with
 | []=>true
 | _=>false
def sameL (Γ:Cfg) (ops:List Oper) (T0:Tm) (M1:Mm) (rs:List Rec) (dp:List Nat) (l:List Rec) (K:Prop):Prop:=
 match l with
 | []=>K
 | x :: q=>bif memB x.ix dp then sameL Γ ops T0 M1 rs dp q K else match ops[x.ix]? with
  | none=>False
  | some o=>guardB (guardV ops x.dep o (restr (recT (inB x.dep) T0 rs) (looks ops o)))
    (match kindO Γ.ty o with
    | 0=>match pureOp Γ.ty (restr (recT (inB x.dep) T0 rs) (looks ops o)) (recM (inB x.dep) M1 rs) o.op with
     | some (qs,v)=>bif nilE x.new then withP ((v = x.v) :: qs) (sameL Γ ops T0 M1 rs dp q K) else False
     | none=>False
    | 1=>match newE Γ o (restr (recT (inB x.dep) T0 rs) (looks ops o)) with
     | some (qs,d,e,v)=>withP ((v = x.v) :: ([(d,e)] = x.new) :: qs) (sameL Γ ops T0 M1 rs dp q K)
     | none=>False
    | _=>False)
    (withP [x.v = .tup [],x.new = []] (sameL Γ ops T0 M1 rs dp q K))
def stepD (Γ:Cfg) (ops:List Oper) (dep:List (List Nat)) (T0:Tm) (M0:Mm) (rs:List Rec) (i:Nat) (o:Oper) (next:Tm→Mm→List Rec→Prop):Prop:=
 match kindO Γ.ty o with
 | 0=>match pureOp Γ.ty (restr (recT (inB (depAt dep i)) T0 rs) (looks ops o)) (recM (inB (depAt dep i)) M0 rs) o.op with
  | some (qs,v)=>withP qs (next T0 M0 (⟨i,o.dst,v,[],depAt dep i,looks ops o⟩ :: rs))
  | none=>False
 | 1=>match newE Γ o (restr (recT (inB (depAt dep i)) T0 rs) (looks ops o)) with
  | some (qs,d,e,v)=>match getM (recM allB M0 rs) d with
   | none=>withP qs (next T0 M0 (⟨i,o.dst,v,[(d,e)],depAt dep i,looks ops o⟩ :: rs))
   | some _=>False
  | none=>False
 | _=>bif barB ops dep (depAt dep i) rs then
   effOp Γ o (recT allB T0 rs) (recM allB M0 rs) [] fun qs v M'=>withP qs (next (putT o.dst v (recT allB T0 rs)) M' [])
  else match lateOf Γ.ty i o ops dep (depAt dep i) rs with
  | some X=>lateAll Γ ops o T0 M0 rs next X []
  | none=>
   effOp Γ o (restr (recT (inB (depAt dep i)) T0 rs) (looks ops o)) (recM (inB (depAt dep i)) M0 rs) [] fun qs v M'=>withP qs
    (Grow (recM (inB (depAt dep i)) M0 rs) M' (freshB M0 rs (depAt dep i)) (fun E=>next T0 M0 (⟨i,o.dst,v,E,depAt dep i,looks ops o⟩ :: rs)) (turnB (depAt dep i) rs)
     (sameL Γ ops T0 M' (foldR (depAt dep i) rs) (depAt dep i) (foldR (depAt dep i) rs) (next T0 M' (⟨i,o.dst,v,[],depAt dep i,looks ops o⟩ :: foldR (depAt dep i) rs))))
def drawOps (Γ:Cfg) (ops:List Oper) (dep:List (List Nat)) (T0:Tm) (M0:Mm) (rs:List Rec) (ord:List Nat) (K:Tm→Mm→Prop):Prop:=
 match ord with
 | []=>K (recT allB T0 rs) (recM allB M0 rs)
 | i :: r=>match ops[i]? with
  | none=>False
  | some o=>bif safeB M0 rs (depAt dep i) rs then guardB (guardV ops (depAt dep i) o (restr (recT (inB (depAt dep i)) T0 rs) (looks ops o)))
    (stepD Γ ops dep T0 M0 rs i o fun T M q=>drawOps Γ ops dep T M q r K)
    (drawOps Γ ops dep T0 M0 (⟨i,o.dst,.tup [],[],depAt dep i,looks ops o⟩ :: rs) r K) else False
def pairB (ops:List Oper) (dep:List (List Nat)) (i j:Nat) (oi oj:Oper):Bool:=
 (memB j (depAt dep i) || (noneIn oi.dst (looks ops oj) && noneIn oj.dst (looks ops oi))) && dstNe oi.dst oj.dst
def planOK (ty:Nat→Ty) (ops:List Oper) (dep:List (List Nat)):List Nat→List Nat→Bool
 | _,[]=>true
 | bf,i :: r=>(match ops[i]? with
  | none=>false
  | some o=>!memB i bf && (depAt dep i).all (fun k=>memB k bf) && (Nat.blt (kindO ty o) 2 || r.all fun j=>memB i (depAt dep j)) &&
   bf.all fun j=>match ops[j]? with
    | some oj=>pairB ops dep i j o oj
    | none=>false) && planOK ty ops dep (i :: bf) r
def depOK (ops:List Oper) (dep:List (List Nat)):Bool:=
 (List.range ops.length).all fun i=>match ops[i]? with
  | none=>false
  | some o=>(o.after.toList.all fun e=>!Region.binds .any e || (Nat.blt e.on i && memB e.on (depAt dep i))) &&
   ((depAt dep i).all fun j=>o.after.toList.any fun e=>Region.binds .any e && (Nat.beq e.on j || memB j (depAt dep e.on))) &&
   (depAt dep i).all fun k=>(depAt dep k).all fun j=>memB j (depAt dep i)
def planAll (ty:Nat→Ty) (ops:List Oper) (dep:List (List Nat)) (ord:List Nat):Bool:=
 depOK ops dep && planOK ty ops dep [] ord && (List.range ops.length).all fun j=>memB j ord
@[irreducible] def Draw (Γ:Cfg) (id:Nat) (ops:List Oper) (T:Tm) (M:Mm) (K:Tm→Mm→Prop):Prop:=
 ∃ dep ord,planAll Γ.ty ops dep ord = true∧drawOps Γ ops dep T M [] ord K
theorem Draw.intro {Γ:Cfg} {id:Nat} {ops:List Oper} {T:Tm} {M:Mm} {K:Tm→Mm→Prop} (dep:List (List Nat)) (ord:List Nat) (h:planAll Γ.ty ops dep ord = true) (k:drawOps Γ ops dep T M [] ord K) :
  Draw Γ id ops T M K:=by unfold Draw;exact ⟨dep,ord,h,k⟩
theorem memB_false {a:Nat} {l:List Nat} (h:memB a l = false):a ∉ l:=fun hm=>by rw [memB_iff.2 hm] at h;cases h
theorem noneIn_spec {d:Option Nat} {l:List Nat} (h:noneIn d l = true):∀ s,d = some s→s ∉ l:=by
 intro s hs
 subst hs
 simp only [noneIn,Bool.not_eq_true'] at h
 exact memB_false h
theorem dstNe_spec {d e:Option Nat} (h:dstNe d e = true):∀ s,d = some s→e ≠ some s:=by
 intro s hs he
 subst hs;subst he
 simp only [dstNe,Bool.not_eq_true'] at h
 rw [show Nat.beq s s = true from Nat.beq_refl s] at h
 cases h
theorem planOK_cons {ty:Nat→Ty} {ops:List Oper} {dep:List (List Nat)} {bf:List Nat} {i:Nat} {r:List Nat} (h:planOK ty ops dep bf (i :: r) = true):∃ o,ops[i]? = some o∧i ∉ bf∧(∀ k ∈ depAt dep i,k ∈ bf) ∧
  (kindO ty o < 2 ∨ ∀ j ∈ r,i ∈ depAt dep j)∧(∀ j ∈ bf,∀ oj,ops[j]? = some oj→pairB ops dep i j o oj = true)∧planOK ty ops dep (i :: bf) r = true:=by
 simp only [planOK,Bool.and_eq_true] at h
 obtain ⟨h1,h2⟩:=h
 split at h1
 ·cases h1
 ·rename_i o ho
  simp only [Bool.and_eq_true,Bool.or_eq_true,Bool.not_eq_true',List.all_eq_true] at h1
  obtain ⟨⟨⟨a1,a2⟩,a3⟩,a4⟩:=h1
  refine ⟨o,ho,memB_false a1,fun k hk=>memB_iff.1 (a2 k hk),a3.imp u_lt_of fun h j hj=>memB_iff.1 (h j hj),fun j hj oj hoj=>?_,h2⟩
  have:=a4 j hj
  rw [hoj] at this
  exact this
theorem pair_of {ops:List Oper} {dep:List (List Nat)} {i j:Nat} {oi oj:Oper} (h:pairB ops dep i j oi oj = true) {v v':SV} {n n':Mm} :
  Pair ⟨i,oi.dst,v,n,depAt dep i,looks ops oi⟩ ⟨j,oj.dst,v',n',depAt dep j,looks ops oj⟩:=by
 simp only [pairB,Bool.and_eq_true,Bool.or_eq_true] at h
 refine ⟨fun s h1 h2=>?_,fun s h1 h2=>?_,dstNe_spec h.2⟩
 ·rcases h.1 with h | h
  ·exact Or.inl (memB_iff.1 h)
  ·exact absurd h2 (noneIn_spec h.2 s h1)
 ·rcases h.1 with h | h
  ·exact Or.inr (memB_iff.1 h)
  ·exact absurd h2 (noneIn_spec h.1 s h1)
theorem effOp_pure {Γ:Cfg} {o:Oper} {T:Tm} {M:Mm} {qs:List Prop} {v:SV} {K:List Prop→SV→Mm→Prop} (hk:kindO Γ.ty o = 0) (h:pureOp Γ.ty T M o.op = some (qs,v)) (k:K (qs ++ []) v M) :
    effOp Γ o T M [] K:=by
  unfold effOp
  unfold kindO at hk
  split
  · rename_i hop;rw [hop] at hk;cases hk
  · rename_i hop;rw [hop] at hk;cases hk
  · rename_i hop;rw [hop] at hk;cases hk
  · rename_i hop;rw [hop] at hk;cases hk
  · rename_i hop;rw [hop] at hk;cases hk
  · rename_i hop;rw [hop] at hk;cases hk
  · rename_i hop;rw [hop] at hk;cases hk
  · rename_i s t x hop
    simp only [hop] at hk
    split
    · rename_i e he;rw [he] at hk;cases hk
    · rw [h];exact k
  · rename_i c hop
    rw [hop] at hk
    split
    · rename_i hc;simp only [hc] at hk;cases hk
    · rename_i b hb
      simp only [hb] at hk
      split
      · rename_i hcp;rw [hcp] at hk;cases hk
      · rename_i hcp
        rw [hcp] at hk
        split
        · rename_i hap;rw [hap] at hk;cases hk
        · rw [h];exact k
    · rename_i h1 h2
      simp only at hk
      first
        | cases hk
        | (split at hk
           · rename_i b hb;exact (h2 b hb).elim
           · cases hk)
  · rw [h];exact k
theorem effOp_new {Γ:Cfg} {o:Oper} {T:Tm} {M:Mm} {qs:List Prop} {d:Nat} {e:Ent} {v:SV} {K:List Prop→SV→Mm→Prop} (h:newE Γ o T = some (qs,d,e,v)) (hm:getM M d = none)
  (k:K (qs ++ []) v ((d,e) :: M)):effOp Γ o T M [] K∧e.isOwn = true:=by
 unfold newE at h
 split at h
 ·rename_i t hop
  split at h
  ·rename_i d' hd
   split at h
   ·cases h
   ·rename_i hk
    split at h
    ·cases h
    ·rename_i zl hz
     simp only [Option.some.injEq,Prod.mk.injEq] at h;obtain ⟨rfl,rfl,rfl,rfl⟩:=h
     refine ⟨?_,rfl⟩
     unfold effOp
     simp only [hop,hd,hm]
     exact k
  ·cases h
 ·rename_i t x hop
  split at h
  ·rename_i d' hd
   split at h
   ·rename_i ps ls hl
    simp only [Option.some.injEq,Prod.mk.injEq] at h;obtain ⟨rfl,rfl,rfl,rfl⟩:=h
    refine ⟨?_,rfl⟩
    unfold effOp
    simp only [hop,hd,hm,hl]
    exact k
   ·cases h
  ·cases h
 ·rename_i t l c hop
  split at h
  ·rename_i d' hd
   split at h
   ·rename_i ps e' v' hv
    simp only [Option.some.injEq,Prod.mk.injEq] at h;obtain ⟨rfl,rfl,rfl,rfl⟩:=h
    refine ⟨?_,makeV_own hv⟩
    unfold effOp
    simp only [hop,hd,hm,hv]
    exact k
   ·cases h
  ·cases h
 ·rename_i t len parts hop
  have hn:=(bif_none h).1
  replace h:=(bif_none h).2
  split at h
  ·rename_i d' hd
   split at h
   ·rename_i ps e' v' hv
    simp only [Option.some.injEq,Prod.mk.injEq] at h;obtain ⟨rfl,rfl,rfl,rfl⟩:=h
    refine ⟨?_,bsV_own hv⟩
    unfold effOp
    simp only [hop,hd,hm,hv,hn,cond_true]
    exact k
   ·cases h
  ·cases h
 ·rename_i t r hop
  split at h
  ·split at h
   ·rename_i d' hd
    simp only [Option.some.injEq,Prod.mk.injEq] at h;obtain ⟨rfl,rfl,rfl,rfl⟩:=h
    refine ⟨?_,rfl⟩
    unfold effOp
    simp only [hop,hd,hm]
    exact k
   ·cases h
  ·cases h
 ·cases h
theorem freshB_spec {M0:Mm} {rs:List Rec} {dp:List Nat}:∀ {E:Mm},freshB M0 rs dp E = true→∀ a e,getM E a = some e →
  (getM (recM allB M0 rs) a = none∧e.loose = true∧e ≠ .dead) ∨ (e = .dead∧(∃ e0,getM (recM (inB dp) M0 rs) a = some e0)∧∀ x ∈ rs,x.ix ∉ dp→getM x.new a = none∧getM (recM (inB x.dep) M0 rs) a = none)
 | [],_,_,_,h=>by simp [getM] at h
 | (k,e0) :: r,hf,a,e,h=>by
  simp only [freshB,Bool.and_eq_true] at hf
  obtain ⟨h1,h3⟩:=hf
  by_cases hk:a = k
  ·subst hk
   rw [getM_cons_self] at h
   simp only [Option.some.injEq] at h;subst h
   split at h1
   ·rename_i hn
    left
    refine ⟨hn,?_⟩
    split at h1
    ·cases h1
    ·exact ⟨h1,by simp⟩
    ·exact ⟨rfl,by simp⟩
   ·right
    split at h1
    ·simp only [Bool.and_eq_true,Bool.not_eq_true'] at h1
     refine ⟨rfl,?_,aloneB_spec h1.2⟩
     cases hx:getM (recM (inB dp) M0 rs) a with
     | none=>rw [hx] at h1;cases h1.1
     | some e0=>exact ⟨e0,rfl⟩
    ·cases h1
  ·rw [getM_cons_ne hk] at h
   exact freshB_spec h3 a e h
theorem depOK_get {ops:List Oper} {dep:List (List Nat)} (h:depOK ops dep = true) {i:Nat} {o:Oper} (ho:ops[i]? = some o) :
  (∀ e ∈ o.after,Region.binds .any e = true→e.on < i∧e.on ∈ depAt dep i)∧(∀ j ∈ depAt dep i,∃ e ∈ o.after,Region.binds .any e = true∧(e.on = j ∨ j ∈ depAt dep e.on)) ∧
  ∀ k ∈ depAt dep i,∀ j ∈ depAt dep k,j ∈ depAt dep i:=by
 have hlt:=(List.getElem?_eq_some_iff.1 ho).1
 have:=List.all_eq_true.1 h i (List.mem_range.2 hlt)
 rw [ho] at this
 simp only [Bool.and_eq_true,List.all_eq_true,Bool.or_eq_true,Bool.not_eq_true',List.any_eq_true] at this
 obtain ⟨⟨h1,h2⟩,h3⟩:=this
 refine ⟨fun e he hb=>?_,fun j hj=>?_,fun k hk j hj=>memB_iff.1 (h3 k hk j hj)⟩
 ·rcases h1 e (by simpa using he) with h | h
  ·rw [hb] at h;cases h
  ·exact ⟨u_lt_of h.1,memB_iff.1 h.2⟩
 ·obtain ⟨e,he,hb,hj⟩:=h2 j hj
  exact ⟨e,by simpa using he,hb,hj.imp beq_eq' memB_iff.1⟩
def Facts (Γ:Cfg) (ops:List Oper) (r:Rec) (T:Tm) (M:Mm):Prop:=
 ∃ o b,ops[r.ix]? = some o∧GuardIs ops o T b∧o.dst = r.dst∧(b = true→effOp Γ o T M [] fun qs v M'=>All qs∧v = r.v∧M' = r.new ++ M)∧(b = false→r.v = .tup []∧r.new = [])
structure St (Γ:Cfg) (N:Nat) (ops:List Oper) (dep:List (List Nat)) (K:Tm→Mm→Prop) (bf:List Nat) (T0:Tm) (M0:Mm) (rs:List Rec) (ord:List Nat) (p:Nat→Bool) (ρ:Env) (a:Act) (w:World):Prop where
 I:Inv N (depAt dep) bf T0 M0 rs p ρ a w
 hops:∀ r ∈ rs,∃ o,ops[r.ix]? = some o∧r.dst = o.dst∧r.rd = looks ops o
 facts:∀ r ∈ rs,p r.ix = false→Facts Γ ops r (restr (recT (inB r.dep) T0 rs) r.rd) (recM (inB r.dep) M0 rs)
 F:drawOps Γ ops dep T0 M0 rs ord K
 plan:planOK Γ.ty ops dep bf ord = true
 cover:∀ j,j < ops.length→j ∈ bf ∨ j ∈ ord
section
variable {Γ:Cfg} {N:Nat} {ops:List Oper} {dep:List (List Nat)} {K:Tm→Mm→Prop} {bf:List Nat} {T0:Tm} {M0:Mm} {rs:List Rec} {ord:List Nat} {p:Nat→Bool} {ρ:Env} {a:Act} {w:World}
theorem St.pairs (S:St Γ N ops dep K bf T0 M0 rs ord p ρ a w) {i:Nat} {o:Oper} {v:SV} {n:Mm} (h:∀ j ∈ bf,∀ oj,ops[j]? = some oj→pairB ops dep i j o oj = true) :
  ∀ r ∈ rs,Pair ⟨i,o.dst,v,n,depAt dep i,looks ops o⟩ r:=by
 intro r hr
 obtain ⟨oj,h1,h2,h3⟩:=S.hops r hr
 have:=pair_of (v:=v) (n:=n) (v':=r.v) (n':=r.new) (h r.ix (S.I.bfs r hr) oj h1)
 rw [← h2,← h3,← S.I.deps r hr] at this
 exact this
theorem St.push (hd:depOK ops dep = true) (hdst:dstOK N ops = true) {i:Nat} {r:List Nat} (S:St Γ N ops dep K bf T0 M0 rs (i :: r) p ρ a w) {o:Oper} (ho:ops[i]? = some o) {v:SV} {n:Mm} {b:Bool} (hg:GuardIs ops o (restr (recT (inB (depAt dep i)) T0 rs) (looks ops o)) b)
  (hfr:okNew M0 rs ⟨i,o.dst,v,n,depAt dep i,looks ops o⟩) (hsf:∀ k ∈ rs,k.ix ∉ depAt dep i→∀ a,getM k.new a = some .dead→getM (recM (inB (depAt dep i)) M0 rs) a = none)
  (hf:b = true→effOp Γ o (restr (recT (inB (depAt dep i)) T0 rs) (looks ops o)) (recM (inB (depAt dep i)) M0 rs) [] fun qs v' M'=>All qs∧v' = v∧M' = n ++ recM (inB (depAt dep i)) M0 rs)
  (hs:b = false→v = .tup []∧n = [])
  (hF:drawOps Γ ops dep T0 M0 (⟨i,o.dst,v,n,depAt dep i,looks ops o⟩ :: rs) r K) :
  St Γ N ops dep K (i :: bf) T0 M0 (⟨i,o.dst,v,n,depAt dep i,looks ops o⟩ :: rs) r p ρ a w∧p i = false:=by
 obtain ⟨o',ho',h1,h2,_,h4,h5⟩:=planOK_cons S.plan
 have:o' = o:=Option.some.inj (ho'.symm.trans ho)
 subst this
 have hp:p i = false:=by
  cases h:p i with
  | false=>rfl
  | true=>exact absurd (S.I.done _ h) h1
 refine ⟨⟨S.I.push h1 rfl (depOK_get hd ho).2.2 h2 (fun d h=>dstOK_get hdst (List.mem_of_getElem? ho) d h) (S.pairs h4) hfr hsf,?_,?_,hF,h5,?_⟩,hp⟩
 ·intro x hx
  rcases List.mem_cons.1 hx with hx' | hx'
  ·subst hx';exact ⟨o',ho,rfl,rfl⟩
  ·exact S.hops x hx'
 ·intro x hx hpx
  have hno:inB x.dep i = false:=by
   cases h:inB x.dep i with
   | false=>rfl
   | true=>
    have hm:=memB_iff.1 h
    rcases List.mem_cons.1 hx with hx' | hx'
    ·subst hx';exact absurd (h2 _ hm) h1
    ·exact absurd (S.I.below x hx' _ hm) h1
  have e1:recT (inB x.dep) T0 (⟨i,o'.dst,v,n,depAt dep i,looks ops o'⟩ :: rs) = recT (inB x.dep) T0 rs:=by simp only [recT,hno,cond_false]
  have e2:recM (inB x.dep) M0 (⟨i,o'.dst,v,n,depAt dep i,looks ops o'⟩ :: rs) = recM (inB x.dep) M0 rs:=by simp only [recM,hno,cond_false]
  rw [e1,e2]
  rcases List.mem_cons.1 hx with hx' | hx'
  ·subst hx';exact ⟨o',b,ho,hg,rfl,hf,hs⟩
  ·exact S.facts x hx' hpx
 ·intro j hj
  rcases S.cover j hj with h | h
  ·exact Or.inl (List.mem_cons_of_mem _ h)
  ·rcases List.mem_cons.1 h with h | h
   ·exact Or.inl (by simp [h])
   ·exact Or.inr h
theorem St.advance (hd:depOK ops dep = true) (hdst:dstOK N ops = true):∀ (ord:List Nat) {bf:List Nat} {rs:List Rec},St Γ N ops dep K bf T0 M0 rs ord p ρ a w →
  ∃ bf' rs' ord',St Γ N ops dep K bf' T0 M0 rs' ord' p ρ a w∧recM p M0 rs' = recM p M0 rs∧(ord' = [] ∨ ∃ i r o,ord' = i :: r∧ops[i]? = some o∧2 ≤ kindO Γ.ty o∧safeB M0 rs' (depAt dep i) rs' = true∧GuardIs ops o (restr (recT (inB (depAt dep i)) T0 rs') (looks ops o)) true∧stepD Γ ops dep T0 M0 rs' i o fun T M q=>drawOps Γ ops dep T M q r K)
 | [],bf,rs,S=>⟨bf,rs,[],S,rfl,Or.inl rfl⟩
 | i :: r,bf,rs,S=>by
  have F:=S.F
  unfold drawOps at F
  split at F
  ·exact F.elim
  rename_i o ho
  obtain ⟨hsb,F⟩:safeB M0 rs (depAt dep i) rs = true∧guardB (guardV ops (depAt dep i) o (restr (recT (inB (depAt dep i)) T0 rs) (looks ops o)))
    (stepD Γ ops dep T0 M0 rs i o fun T M q=>drawOps Γ ops dep T M q r K)
    (drawOps Γ ops dep T0 M0 (⟨i,o.dst,.tup [],[],depAt dep i,looks ops o⟩ :: rs) r K):=by
   rcases bif_someP F with h | h
   ·exact h
   ·exact h.2.elim
  have hsf:=safeB_spec hsb
  obtain ⟨b,hg,ht,hf⟩:=guardB_spec F
  clear F
  have step:∀ {v n},(St Γ N ops dep K (i :: bf) T0 M0 (⟨i,o.dst,v,n,depAt dep i,looks ops o⟩ :: rs) r p ρ a w∧p i = false) →
    ∃ bf' rs' ord',St Γ N ops dep K bf' T0 M0 rs' ord' p ρ a w∧recM p M0 rs' = recM p M0 rs∧(ord' = [] ∨ ∃ i r o,ord' = i :: r∧ops[i]? = some o∧2 ≤ kindO Γ.ty o∧safeB M0 rs' (depAt dep i) rs' = true∧GuardIs ops o (restr (recT (inB (depAt dep i)) T0 rs') (looks ops o)) true∧stepD Γ ops dep T0 M0 rs' i o fun T M q=>drawOps Γ ops dep T M q r K):=by
   rintro v n ⟨S',hp⟩
   obtain ⟨bf',rs',ord',h1,h2,h3⟩:=St.advance hd hdst r S'
   refine ⟨bf',rs',ord',h1,?_,h3⟩
   rw [h2]
   simp only [recM,hp,cond_false]
  cases b with
  | false=>exact step (S.push hd hdst ho (n:=[]) hg (fun b e h=>by simp [getM] at h) hsf (fun h=>by cases h) (fun _=>⟨rfl,rfl⟩) (hf rfl))
  | true=>
  have F:=ht rfl
  have F0:=F
  unfold stepD at F
  split at F
  ·rename_i hk
   split at F
   ·rename_i qs v hv
    refine step (S.push hd hdst ho (n:=[]) hg (fun b e h=>by simp [getM] at h) hsf (fun _=>effOp_pure hk hv ⟨?_,rfl,rfl⟩) (fun h=>by cases h) (withP.rest F))
    rw [List.append_nil];exact withP.all F
   ·exact F.elim
  ·rename_i hk
   split at F
   ·rename_i qs d e v he
    split at F
    ·rename_i hm
     have hm2:getM (recM (inB (depAt dep i)) M0 rs) d = none:=by
      cases h:getM (recM (inB (depAt dep i)) M0 rs) d with
      | none=>rfl
      | some e'=>rw [recM_nx (p:=inB (depAt dep i)) (q:=allB) (fun _ _ _=>rfl) hm] at h;cases h
     have hnew:=effOp_new (K:=fun qs v' M'=>All qs∧v' = v∧M' = [(d,e)] ++ recM (inB (depAt dep i)) M0 rs) he hm2 ⟨by rw [List.append_nil];exact withP.all F,rfl,rfl⟩
     refine step (S.push hd hdst ho hg (fun b e' h=>Or.inl ?_) hsf (fun _=>hnew.1) (fun h=>by cases h) (withP.rest F))
     by_cases hb:b = d
     ·subst hb
      rw [getM_cons_self] at h
      simp only [Option.some.injEq] at h;subst h
      exact ⟨hm,Ent.loose_own hnew.2,fun h=>by rw [h] at hnew;cases hnew.2⟩
     ·rw [getM_cons_ne hb] at h;simp [getM] at h
    ·exact F.elim
   ·exact F.elim
  ·rename_i h0 h1
   refine ⟨bf,rs,i :: r,S,rfl,Or.inr ⟨i,r,o,rfl,ho,?_,hsb,hg,F0⟩⟩
   rcases Nat.lt_or_ge (kindO Γ.ty o) 2 with h | h
   ·have h2:kindO Γ.ty o = 0 ∨ kindO Γ.ty o = 1:=by omega
    exact h2.elim (fun h=>(h0 h).elim) fun h=>(h1 h).elim
   ·exact h
theorem Inv.run (I:Inv N (depAt dep) bf T0 M0 rs p ρ a w) {o:Oper} {dp:List Nat} (hdst:∀ d,o.dst = some d→d < N) (hd:∀ k ∈ dp,p k = true) (ht:∀ k ∈ dp,∀ j ∈ depAt dep k,j ∈ dp)
  (hrd:∀ r ∈ rs,∀ s,r.dst = some s→s ∈ looks ops o→p r.ix = true→r.ix ∈ dp)
  (hsf:∀ k ∈ rs,p k.ix = true→k.ix ∉ dp→∀ a,getM k.new a = some .dead→getM (recM (inB dp) M0 rs) a = none) {G:SV→Mm→Prop} {C:List Prop→SV→Mm→Prop}
  (hC:∀ qs v M',C qs v M'→All qs∧∃ E,M' = E ++ recM (inB dp) M0 rs∧(∀ b e,getM E b = some e→(getM (recM p M0 rs) b = none∧e.loose = true) ∨ (e.loose = true∧∃ e0,getM (recM (inB dp) M0 rs) b = some e0))∧G v E)
  (hf:effOp Γ o (restr (recT (inB dp) T0 rs) (looks ops o)) (recM (inB dp) M0 rs) [] C) {Q:Exit→Act→World→Prop} :
  o.wp Γ.P a w (fun a' w'=>∃ v E x ρ',G v E∧a'.tmps = (a.put o.dst x).tmps∧a'.defers = []∧ρ.le ρ' ∧
   (∀ d,o.dst = some d→RelT ρ' v x∧ToldT (E ++ recM (inB dp) M0 rs) v)∧(∀ b e,getM E b = some e→ToldE (E ++ recM (inB dp) M0 rs) e) ∧
   ConcM ρ' (E ++ recM p M0 rs) w'∧Step ρ (recM p M0 rs) ρ' (E ++ recM p M0 rs) w w') Q:=by
 obtain ⟨hs,hc⟩:=I.sees (rd:=looks ops o) hd ht hrd hsf
 refine Oper.wp_mono ?_ (Oper.wp_put (effOp_sound hc hdst (fun qs v M' h=>(hC qs v M' h).1) hf))
 rintro a' w' ⟨⟨x,hx⟩,ρ1,T',M',⟨qs,v,hk,rfl⟩,hle,hc',hst⟩
 obtain ⟨_,E,rfl,hfr,hG⟩:=hC qs v M' hk
 obtain ⟨ρ2,l1,l2,h1,h2⟩:=I.mem.frame hs hle hc'.toConcM hst hfr
 refine ⟨v,E,x,ρ2,hG,hx,hc'.defers,l1,fun d hdd=>?_,fun b e h=>hc'.toConcM.told (getM_append_new h),h1,h2⟩
 have hr:=hc'.tm d
 rw [hdd,putT,getT_cons_self,hx,hdd] at hr
 have hxx:(a.put (some d) x).tmps.getD d undef = x:=by
  have hlt:=hdst d hdd
  unfold Act.put
  simp only [Array.getD_eq_getD_getElem?]
  rw [Array.getElem?_setIfInBounds_self_of_lt (by rw [I.sz];exact hlt)]
  rfl
 rw [hxx] at hr
 exact ⟨hr.le l2,hc'.toConcM.toldT hr⟩
end
end Go.Sx
namespace Go.Sx
open Go
theorem toldT_und (M:Mm):ToldT M (.tup []):=⟨⟨fun _=>False,fun _=>(0,0),fun _ _ _=>False⟩,undef,fun _ h=>h.elim,⟨[],rfl,rfl⟩⟩
def pB (l:Array Bool):Nat→Bool:=fun j=>l.getD j false
theorem pB_set {l:Array Bool} {i:Nat} (h:i < l.size):pB (l.setIfInBounds i true) = plus (pB l) i:=by
 funext j
 by_cases hj:j = i
 ·subst hj
  rw [plus_self]
  simp only [pB,Array.getD_eq_getD_getElem?]
  rw [Array.getElem?_setIfInBounds_self_of_lt h]
  rfl
 ·rw [plus_ne hj]
  simp only [pB]
  exact getD_set_ne false (Ne.symm hj)
theorem pB_true {l:Array Bool} {i:Nat} (h:i < l.size):l.getD i true = false ↔ pB l i = false:=by
 simp only [pB,Array.getD_eq_getD_getElem?,Array.getElem?_eq_getElem h,Option.getD_some]
theorem filter_le {α:Type} {p q:α→Bool}:∀ {l:List α},(∀ x ∈ l,q x = true→p x = true)→(l.filter q).length ≤ (l.filter p).length
 | [],_=>by simp
 | y :: t,hpq=>by
  have iht:=filter_le (p:=p) (q:=q) (l:=t) fun z hz=>hpq z (List.mem_cons_of_mem _ hz)
  have hy:=hpq y (by simp)
  rw [List.filter_cons,List.filter_cons]
  cases h:q y with
  | true=>rw [hy h];simpa using iht
  | false=>cases p y <;> simp <;> omega
theorem filter_lt {α:Type} {p q:α→Bool} {i:α}:∀ {l:List α},(∀ x ∈ l,q x = true→p x = true)→i ∈ l→p i = true→q i = false→(l.filter q).length < (l.filter p).length
 | [],_,h,_,_=>by simp at h
 | x :: r,hpq,hi,hp,hq=>by
  have le:(r.filter q).length ≤ (r.filter p).length:=filter_le fun y hy=>hpq y (List.mem_cons_of_mem _ hy)
  rw [List.filter_cons,List.filter_cons]
  rcases List.mem_cons.1 hi with h | h
  ·subst h;rw [hp,hq];simp;omega
  ·have ih:=filter_lt (fun y hy=>hpq y (List.mem_cons_of_mem _ hy)) h hp hq
   have hx:=hpq x (by simp)
   cases h:q x with
   | true=>rw [hx h];simpa using ih
   | false=>cases p x <;> simp <;> omega
def left (n:Nat) (p:Nat→Bool):Nat:=((List.range n).filter fun j=>!p j).length
theorem left_plus {n i:Nat} {p:Nat→Bool} (hi:i < n) (hp:p i = false):left n (plus p i) < left n p:=by
 refine filter_lt (i:=i) (fun x _ h=>?_) (List.mem_range.2 hi) (by simp [hp]) (by simp [plus_self])
 cases hx:p x with
 | false=>rfl
 | true=>rw [plus_old hx] at h;exact h
theorem left_zero {n:Nat} {p:Nat→Bool} (h:left n p ≤ 0):∀ j,j < n→p j = true:=by
 intro j hj
 cases hp:p j with
 | true=>rfl
 | false=>
  have:j ∈ (List.range n).filter fun j=>!p j:=List.mem_filter.2 ⟨List.mem_range.2 hj,by simp [hp]⟩
  have:=List.length_pos_of_mem this
  unfold left at h
  omega
theorem barB_spec {ops:List Oper} {dep:List (List Nat)} {dp:List Nat}:∀ {rs:List Rec},barB ops dep dp rs = true→∀ r ∈ rs,r.ix ∈ dp ∨ aheadB ops dep r.ix = true
 | [],_,_,h=>by simp at h
 | r0 :: t,hb,r,hr=>by
  simp only [barB,Bool.and_eq_true,Bool.or_eq_true] at hb
  rcases List.mem_cons.1 hr with h | h
  ·rw [h];exact hb.1.imp memB_iff.1 id
  ·exact barB_spec hb.2 r h
theorem noSelB_spec:∀ {ops:List Oper},noSelB ops = true→∀ o ∈ ops,∀ cs b,o.op ≠ .select cs b
 | [],_,_,h,_,_=>by simp at h
 | o :: r,hn,o',ho,cs,b=>by
  simp only [noSelB,Bool.and_eq_true,Bool.not_eq_true'] at hn
  rcases List.mem_cons.1 ho with h | h
  ·subst h
   intro he
   have:=hn.1
   unfold isSel at this
   rw [he] at this;cases this
  ·exact noSelB_spec hn.2 o' h cs b
theorem lessB_spec {i:Nat}:∀ {l:List Nat},lessB i l = true→∀ k ∈ l,k < i
 | [],_,_,h=>by simp at h
 | x :: r,hn,k,hk=>by
  simp only [lessB,Bool.and_eq_true] at hn
  rcases List.mem_cons.1 hk with h | h
  ·subst h;exact u_lt_of hn.1
  ·exact lessB_spec hn.2 k h
theorem waitsB_spec {i:Nat}:∀ {l:List Edge},waitsB i l = true→∃ e ∈ l,Region.binds .any e = true∧e.on = i
 | [],h=>by simp [waitsB] at h
 | e :: r,h=>by
  simp only [waitsB,Bool.or_eq_true,Bool.and_eq_true] at h
  rcases h with h | h
  ·exact ⟨e,by simp,h.1,beq_eq' h.2⟩
  ·obtain ⟨e',h1,h2⟩:=waitsB_spec h
   exact ⟨e',List.mem_cons_of_mem _ h1,h2⟩
theorem tmpsOf_mem {t:Nat}:∀ {l:List Operand},t ∈ tmpsOf l ↔ Operand.tmp t ∈ l
 | []=>by simp [tmpsOf]
 | .tmp s :: r=>by simp [tmpsOf,tmpsOf_mem (l:=r)]
 | .const _ :: r=>by simp [tmpsOf,tmpsOf_mem (l:=r)]
 | .global _ :: r=>by simp [tmpsOf,tmpsOf_mem (l:=r)]
 | .func _ :: r=>by simp [tmpsOf,tmpsOf_mem (l:=r)]
theorem looksAt_looks {ops:List Oper} {o:Oper} {d:Nat} (h:d ∈ o.looksAt ops.toArray):d ∈ looks ops o:=by
 unfold Oper.looksAt at h
 unfold looks
 rcases List.mem_append.1 h with h | h
 ·refine List.mem_append_right _ (tmpsOf_mem.2 ?_)
  obtain ⟨x,hx,he⟩:=List.mem_filterMap.1 h
  cases x <;> simp at he
  subst he;exact hx
 ·refine List.mem_append_left _ ?_
  unfold gSlot
  cases hg:o.guard with
  | none=>rw [hg] at h;simp at h
  | some gw=>
   obtain ⟨g,want⟩:=gw
   rw [hg] at h
   simp only [List.getElem?_toArray] at h
   simp only [guardSlot]
   cases hx:ops[g]? with
   | none=>rw [hx] at h;simp at h
   | some o'=>
    rw [hx] at h
    simp only [Option.bind_some] at h
    cases hd:o'.dst with
    | none=>rw [hd] at h;simp at h
    | some d'=>rw [hd] at h;simpa [hd] using h
theorem apartB_spec {ops:List Oper} {x y:Oper} (h:apartB ops x y = true):x.apart ops.toArray y = true:=by
 simp only [apartB,Bool.and_eq_true] at h
 obtain ⟨h1,h2,h3⟩:=h
 unfold Oper.apart
 simp only [Bool.and_eq_true]
 constructor
 ·cases hx:x.dst with
  | none=>rfl
  | some d=>
   simp only [Bool.and_eq_true,Bool.not_eq_true',bne_iff_ne,ne_eq]
   constructor
   ·cases hc:(Oper.looksAt ops.toArray y).contains d with
    | false=>rfl
    | true=>exact absurd (looksAt_looks (by simpa using hc)) (noneIn_spec h1 d hx)
   ·intro he
    exact dstNe_spec h2 d hx he
 ·cases hy:y.dst with
  | none=>rfl
  | some d=>
   simp only [Bool.not_eq_true']
   cases hc:(Oper.looksAt ops.toArray x).contains d with
   | false=>rfl
   | true=>exact absurd (looksAt_looks (by simpa using hc)) (noneIn_spec h3 d hy)
theorem apartAll_spec {ops:List Oper} {dp:List Nat} {i:Nat} {o:Oper}:∀ {l:List Oper} {k:Nat},apartAll ops dp i o k l = true→∀ j oj,l[j]? = some oj→k + j ≠ i→k + j ∉ dp→(∀ e ∈ oj.after,Region.binds .any e = true→e.on ≠ i) →
  o.apart ops.toArray oj = true
 | [],_,_,j,oj,hj,_,_,_=>by simp at hj
 | x :: r,k,h,j,oj,hj,hne,hdp,hw=>by
  simp only [apartAll,Bool.and_eq_true] at h
  cases j with
  | zero=>
   simp only [List.getElem?_cons_zero,Option.some.injEq] at hj
   subst hj
   rw [Nat.add_zero] at hne hdp
   have:=h.1
   simp only [Bool.or_eq_true] at this
   rcases this with h1 | h1 | h1 | h1
   ·exact absurd (beq_eq' h1) hne
   ·exact absurd (memB_iff.1 h1) hdp
   ·obtain ⟨e,he,hb,hon⟩:=waitsB_spec h1
    exact absurd hon (hw e (by simpa using he) hb)
   ·exact apartB_spec h1
  | succ j=>
   refine apartAll_spec h.2 j oj (by simpa using hj) ?_ ?_ hw
   ·rw [show k + 1 + j = k + (j + 1) by omega];exact hne
   ·rw [show k + 1 + j = k + (j + 1) by omega];exact hdp
theorem aheadB_spec {ops:List Oper} {dep:List (List Nat)} {i:Nat} (h:aheadB ops dep i = true):∃ o,ops[i]? = some o∧blindO o = true∧(∀ k ∈ depAt dep i,k < i) ∧
  (∀ j oj,ops[j]? = some oj→j ≠ i→j ∉ depAt dep i→(∀ e ∈ oj.after,Region.binds .any e = true→e.on ≠ i)→o.apart ops.toArray oj = true)∧∀ o ∈ ops,∀ cs b,o.op ≠ .select cs b:=by
 unfold aheadB at h
 split at h
 ·cases h
 ·rename_i o ho
  simp only [Bool.and_eq_true] at h
  obtain ⟨h1,h2,h3,h4⟩:=h
  refine ⟨o,ho,h1,lessB_spec h2,fun j oj hj hne hdp hw=>?_,noSelB_spec h4⟩
  have:=apartAll_spec h3 j oj hj
  rw [Nat.zero_add] at this
  exact this hne hdp hw
theorem blind_wp {P:Program} {o:Oper} (hb:blindO o = true) {a:Act} {w:World} {K:Act→World→Prop} {Q:Exit→Act→World→Prop} (h:o.wp P a w K Q) :
  ∃ v,(∀ w,(execOp a.eval o).run P w = .ok (.value v) w)∧K (a.put o.dst v) w:=by
 obtain ⟨dst,op,ty,pos,after,guard⟩:=o
 unfold Oper.wp at h
 cases op <;> simp only [blindO,Bool.false_eq_true] at hb
 case move x=>exact ⟨a.eval x,fun _=>rfl,h⟩
 case assign x=>exact ⟨a.eval x,fun _=>rfl,h⟩
 case pick c x y=>
  simp only [execOp] at h ⊢
  cases hx:a.eval c
  case bool b=>
   rw [hx] at h
   exact ⟨if b then a.eval x else a.eval y,fun _=>rfl,h⟩
  all_goals
   rw [hx] at h
   exact absurd h (by simp [asBool,stuck,Sem.run,Sem.run_bind,Oper.upon];try (intro h;exact h))
 case extract x k=>
  simp only [execOp,Instr.extract] at h ⊢
  cases hx:a.eval x
  case tuple vs=>
   rw [hx] at h
   simp only at h ⊢
   cases hv:vs[k]? with
   | some v=>
    rw [hv] at h
    exact ⟨v,fun _=>rfl,h⟩
   | none=>
    rw [hv] at h
    exact absurd h (by simp [stuck,Sem.run,Oper.upon])
  all_goals
   rw [hx] at h
   exact absurd h (by simp [stuck,Sem.run,Oper.upon];try (intro h;exact h))
theorem blind_wpOp {P:Program} {ops:Array Oper} {Q:Exit→Act→World→Prop} (hlo:¬ LetsOut Q) {i:Nat} {o:Oper} (ho:ops[i]? = some o) (hb:blindO o = true) {K:Act→World→Prop} {a:Act} {w:World} (h:wpOp P ops Q i K a w) :
  ∃ v,Yields P ops o v a∧K (a.put o.dst v) w:=by
 unfold wpOp at h
 simp only [ho] at h
 split at h
 ·rename_i hw
  rcases h with h | ⟨_,h⟩
  ·obtain ⟨v,h1,h2⟩:=blind_wp hb h
   exact ⟨v,Or.inl ⟨hw,h1⟩,h2⟩
  ·exact absurd h hlo
 ·rename_i hw
  exact ⟨undef,Or.inr ⟨by simpa using hw,rfl⟩,h⟩
section
variable {Γ:Cfg} {N:Nat} {ops:List Oper} {dep:List (List Nat)} {K:Tm→Mm→Prop}
theorem lateL_spec {ops:List Oper} {dep:List (List Nat)} {dp:List Nat}:∀ {rs:List Rec},(∀ x ∈ lateL ops dep dp rs,x ∈ rs)∧∀ r ∈ rs,r ∈ lateL ops dep dp rs ∨ r.ix ∈ dp ∨ aheadB ops dep r.ix = true
 | []=>by simp [lateL]
 | r :: q=>by
  obtain ⟨k1,k2⟩:=lateL_spec (ops:=ops) (dep:=dep) (dp:=dp) (rs:=q)
  simp only [lateL]
  cases hb:(memB r.ix dp || aheadB ops dep r.ix) with
  | true=>
   rw [cond_true]
   refine ⟨fun x hx=>List.mem_cons_of_mem _ (k1 x hx),fun r' hr'=>?_⟩
   rcases List.mem_cons.1 hr' with h | h
   ·rw [h]
    simp only [Bool.or_eq_true] at hb
    exact Or.inr (hb.imp memB_iff.1 id)
   ·exact k2 r' h
  | false=>
   rw [cond_false]
   refine ⟨fun x hx=>?_,fun r' hr'=>?_⟩
   ·rcases List.mem_cons.1 hx with h | h
    ·rw [h];simp
    ·exact List.mem_cons_of_mem _ (k1 x h)
   ·rcases List.mem_cons.1 hr' with h | h
    ·rw [h];exact Or.inl (by simp)
    ·exact (k2 r' h).imp (fun h=>List.mem_cons_of_mem _ h) id
theorem noneWaits_spec {i:Nat}:∀ {rs:List Rec},noneWaits i rs = true→∀ r ∈ rs,i ∉ r.dep
 | [],_,_,h=>by simp at h
 | r0 :: q,h,r,hr=>by
  simp only [noneWaits,Bool.and_eq_true,Bool.not_eq_true'] at h
  rcases List.mem_cons.1 hr with h' | h'
  ·rw [h'];exact memB_false h.1
  ·exact noneWaits_spec h.2 r h'
theorem newOK_spec {M:Mm}:∀ {E:Mm},newOK M E = true→∀ b e,getM E b = some e→getM M b = none∧e.isOwn = true
 | [],_,_,_,h=>by simp [getM] at h
 | (k,e0) :: r,h,b,e,he=>by
  simp only [newOK,Bool.and_eq_true] at h
  by_cases hk:b = k
  ·subst hk
   rw [getM_cons_self] at he
   simp only [Option.some.injEq] at he;subst he
   exact ⟨isNone?_spec h.1.1,h.1.2⟩
  ·rw [getM_cons_ne hk] at he
   exact newOK_spec h.2 b e he
theorem lateOK_spec {ty:Nat→Ty} {ops:List Oper} {dp:List Nat} {rs:List Rec}:∀ {X:List Rec},lateOK ty ops dp rs X = true→∀ x ∈ X,(allocB ops x.ix = true ∨ pureB ty ops x.ix = true)∧x.ix ∉ dp∧∀ r ∈ rs,x.ix ∉ r.dep
 | [],_,x,h=>by cases h
 | y :: q,h,x,hx=>by
  simp only [lateOK,Bool.and_eq_true,Bool.or_eq_true,Bool.not_eq_true'] at h
  rcases List.mem_cons.1 hx with h' | h'
  ·rw [h'];exact ⟨h.1.1,memB_false h.1.2.1,noneWaits_spec h.1.2.2⟩
  ·exact lateOK_spec h.2 x h'
theorem lateOf_spec {ty:Nat→Ty} {i0:Nat} {o0:Oper} {ops:List Oper} {dep:List (List Nat)} {dp:List Nat} {rs:List Rec} {X:List Rec} (h:lateOf ty i0 o0 ops dep dp rs = some X) :
  (∀ x ∈ X,x ∈ rs)∧(∀ r ∈ rs,r ∈ X ∨ r.ix ∈ dp ∨ aheadB ops dep r.ix = true)∧∀ x ∈ X,(allocB ops x.ix = true ∨ pureB ty ops x.ix = true)∧x.ix ∉ dp∧∀ r ∈ rs,x.ix ∉ r.dep:=by
 unfold lateOf at h
 have h:=(bif_none h).2
 have hb:=(bif_none h).1
 have h:=(bif_none h).2
 simp only [Option.some.injEq] at h
 subst h
 exact ⟨lateL_spec.1,lateL_spec.2,lateOK_spec hb⟩
theorem notS_spec {j:Nat}:∀ {S:List Rec},notS S j = true ↔ ∀ x ∈ S,x.ix ≠ j
 | []=>by simp [notS]
 | x :: r=>by
  simp only [notS,Bool.and_eq_true,Bool.not_eq_true',notS_spec (S:=r),List.mem_cons,forall_eq_or_imp]
  refine and_congr ⟨fun h e=>?_,fun h=>?_⟩ Iff.rfl
  ·rw [e,Nat.beq_refl] at h;cases h
  ·cases hb:Nat.beq j x.ix with
   | false=>rfl
   | true=>exact absurd (beq_eq' hb).symm h
theorem lateAll_get {Γ:Cfg} {ops:List Oper} {o:Oper} {T0:Tm} {M0:Mm} {rs:List Rec} {next:Tm→Mm→List Rec→Prop} (p:Rec→Bool):∀ {X S:List Rec},lateAll Γ ops o T0 M0 rs next X S →
  ∃ S',(∀ x,x ∈ S' ↔ (x ∈ X∧p x = true) ∨ x ∈ S)∧effOp Γ o (recT (notS S') T0 rs) (recM (notS S') M0 rs) [] fun qs v M'=>withP qs (lateGo Γ ops (putT o.dst v (recT (notS S') T0 rs)) M' next S' [])
 | [],S,h=>⟨S,fun x=>by simp,h⟩
 | y :: r,S,h=>by
  cases hp:p y with
  | true=>
   obtain ⟨S',h1,h2⟩:=lateAll_get p h.2
   refine ⟨S',fun x=>?_,h2⟩
   rw [h1,List.mem_cons,List.mem_cons]
   constructor
   ·rintro (h | h | h)
    ·exact Or.inl ⟨Or.inr h.1,h.2⟩
    ·exact Or.inl ⟨Or.inl h,by rw [h];exact hp⟩
    ·exact Or.inr h
   ·rintro (⟨h | h,hx⟩ | h)
    ·exact Or.inr (Or.inl h)
    ·exact Or.inl ⟨h,hx⟩
    ·exact Or.inr (Or.inr h)
  | false=>
   obtain ⟨S',h1,h2⟩:=lateAll_get p h.1
   refine ⟨S',fun x=>?_,h2⟩
   rw [h1,List.mem_cons]
   constructor
   ·rintro (h | h)
    ·exact Or.inl ⟨Or.inr h.1,h.2⟩
    ·exact Or.inr h
   ·rintro (⟨h | h,hx⟩ | h)
    ·rw [h,hp] at hx;cases hx
    ·exact Or.inl ⟨h,hx⟩
    ·exact Or.inr h
theorem pureB_spec {ty:Nat→Ty} {ops:List Oper} {i:Nat} (h:pureB ty ops i = true):∃ o,ops[i]? = some o∧kindO ty o = 0∧o.guard = none:=by
 unfold pureB at h
 split at h
 ·rename_i o ho
  split at h
  ·rename_i hg;exact ⟨o,ho,beq_eq' h,hg⟩
  ·cases h
 ·cases h
theorem allocB_spec {ops:List Oper} {i:Nat} (h:allocB ops i = true):∃ o t,ops[i]? = some o∧o.op = .alloc t∧o.guard = none:=by
 unfold allocB at h
 split at h
 ·rename_i o ho
  split at h
  ·rename_i t hop
   split at h
   ·rename_i hg;exact ⟨o,t,ho,hop,hg⟩
   ·cases h
  ·cases h
 ·cases h
theorem alloc_any {Γ:Cfg} {o:Oper} {t:TypeId} (ho:o.op = .alloc t) {T T2:Tm} {M M2 E:Mm} {v:SV} (h:effOp Γ o T M [] fun qs v' M'=>All qs∧v' = v∧M' = E ++ M) (hE:∀ b e,getM E b = some e→getM M2 b = none) :
  effOp Γ o T2 M2 [] fun qs v' M'=>All qs∧v' = v∧M' = E ++ M2:=by
 unfold effOp at h ⊢
 rw [ho] at h ⊢
 simp only at h ⊢
 split at h
 ·rename_i d hd
  split at h
  ·split at h
   ·exact h.elim
   ·rename_i hk
    split at h
    ·exact h.elim
    ·rename_i zl hz
     obtain ⟨h1,h2,h3⟩:=h
     have h4:E = [(d,.mem true 0 (Γ.ty t).zl)]:=by
      have:[(d,Ent.mem true 0 (Γ.ty t).zl)] ++ M = E ++ M:=h3
      exact (List.append_cancel_right this).symm
     rw [hE d (.mem true 0 (Γ.ty t).zl) (by rw [h4];exact getM_cons_self _ _ _)]
     simp only
     exact ⟨h1,h2,by rw [h4];rfl⟩
  ·exact h.elim
 ·exact h.elim
theorem planOK_congr {ty:Nat→Ty} {ops:List Oper} {dep:List (List Nat)}:∀ {r:List Nat} {bf bf2:List Nat},(∀ j,j ∈ bf ↔ j ∈ bf2)→planOK ty ops dep bf r = true→planOK ty ops dep bf2 r = true
 | [],_,_,_,_=>rfl
 | i :: r,bf,bf2,hm,h=>by
  have hmem:∀ j,memB j bf = memB j bf2:=fun j=>by
   cases h1:memB j bf with
   | true=>exact (memB_iff.2 ((hm j).1 (memB_iff.1 h1))).symm
   | false=>
    cases h2:memB j bf2 with
    | false=>rfl
    | true=>exact absurd ((hm j).2 (memB_iff.1 h2)) (memB_false h1)
  simp only [planOK,Bool.and_eq_true] at h ⊢
  obtain ⟨h1,h2⟩:=h
  refine ⟨?_,planOK_congr (fun j=>?_) h2⟩
  ·split
   ·rename_i ho;rw [ho] at h1;cases h1
   ·rename_i o ho
    rw [ho] at h1
    simp only [Bool.and_eq_true,Bool.or_eq_true,Bool.not_eq_true',List.all_eq_true] at h1 ⊢
    obtain ⟨⟨⟨a1,a2⟩,a3⟩,a4⟩:=h1
    exact ⟨⟨⟨by rw [← hmem];exact a1,fun k hk=>by rw [← hmem];exact a2 k hk⟩,a3⟩,fun j hj=>a4 j ((hm j).2 hj)⟩
  ·rw [List.mem_cons,List.mem_cons,hm j]
theorem recM_base_none {M:Mm} {rs:List Rec} {b:Nat} (h:getM (recM allB M rs) b = none):getM M b = none:=by
 cases hx:getM M b with
 | none=>rfl
 | some e=>
  obtain ⟨e',he⟩:=recM_base (rs:=rs) (p:=allB) hx
  rw [h] at he;cases he
theorem late_push {p:Nat→Bool} {T:Tm} {M:Mm} {next:Tm→Mm→List Rec→Prop} {rs':List Rec} {ρ:Env} {a:Act} {w:World}
  (huniq:∀ r ∈ rs',∀ r' ∈ rs',r.ix ≠ r'.ix→Pair r r'):∀ (S acc:List Rec) {bf:List Nat},lateGo Γ ops T M next S acc→Inv N (depAt dep) bf T M acc p ρ a w →
  (∀ y ∈ acc,(∃ o,ops[y.ix]? = some o∧y.dst = o.dst∧y.rd = looks ops o)∧(∃ o,ops[y.ix]? = some o∧o.guard = none∧o.dst = y.dst∧effOp Γ o (restr T y.rd) M [] fun qs v' M2=>All qs∧v' = y.v∧M2 = y.new ++ M)∧(∃ y0 ∈ rs',y0.ix = y.ix∧y0.dst = y.dst∧y0.dep = y.dep∧y0.rd = y.rd)∧(∀ b e,getM y.new b = some e→e.isOwn = true)∧p y.ix = false) →
  (∀ x ∈ S,x ∈ rs'∧p x.ix = false∧x.ix ∉ bf∧x.dep = depAt dep x.ix∧(∀ k ∈ x.dep,∀ j ∈ depAt dep k,j ∈ x.dep)∧(∀ k ∈ x.dep,p k = true)∧(∀ d,x.dst = some d→d < N) ∧
   (∃ o,ops[x.ix]? = some o∧x.dst = o.dst∧x.rd = looks ops o)∧(allocB ops x.ix = true ∨ pureB Γ.ty ops x.ix = true)∧(∃ T1 M1,Facts Γ ops x T1 M1)) →
  ∃ acc' bf',Inv N (depAt dep) bf' T M acc' p ρ a w∧next T M acc'∧(∀ j,j ∈ bf' ↔ j ∈ bf ∨ ∃ x ∈ S,x.ix = j) ∧
   (∀ y ∈ acc',(∃ o,ops[y.ix]? = some o∧y.dst = o.dst∧y.rd = looks ops o)∧(∃ o,ops[y.ix]? = some o∧o.guard = none∧o.dst = y.dst∧effOp Γ o (restr T y.rd) M [] fun qs v' M2=>All qs∧v' = y.v∧M2 = y.new ++ M)∧p y.ix = false)
 | [],acc,bf,h,I,hacc,_=>⟨acc,bf,I,h,fun j=>by simp,fun y hy=>⟨(hacc y hy).1,(hacc y hy).2.1,(hacc y hy).2.2.2.2⟩⟩
 | x :: r,acc,bf,h,I,hacc,hS=>by
  unfold lateGo at h
  obtain ⟨hns,h⟩:=bif_someP h |>.resolve_right fun h=>h.2.elim
  have hns:=notS_spec.1 hns
  obtain ⟨s1,s2,s3,s4,s5,s6,s7,⟨ox,s8,s9,s10⟩,s11,T1,M1,s12⟩:=hS x (by simp)
  have go:∀ (x2:Rec),x2.ix = x.ix→x2.dst = x.dst→x2.dep = x.dep→x2.rd = x.rd→(∀ b e',getM x2.new b = some e'→getM (recM allB M acc) b = none∧e'.isOwn = true)→lateGo Γ ops T M next r (x2 :: acc) →
    (∃ o,ops[x.ix]? = some o∧o.guard = none∧o.dst = x.dst∧effOp Γ o (restr T x.rd) M [] fun qs v' M2=>All qs∧v' = x2.v∧M2 = x2.new ++ M) →
    ∃ acc' bf',Inv N (depAt dep) bf' T M acc' p ρ a w∧next T M acc'∧(∀ j,j ∈ bf' ↔ j ∈ bf ∨ ∃ y ∈ x :: r,y.ix = j) ∧
     (∀ y ∈ acc',(∃ o,ops[y.ix]? = some o∧y.dst = o.dst∧y.rd = looks ops o)∧(∃ o,ops[y.ix]? = some o∧o.guard = none∧o.dst = y.dst∧effOp Γ o (restr T y.rd) M [] fun qs v' M2=>All qs∧v' = y.v∧M2 = y.new ++ M)∧p y.ix = false):=by
   intro x2 e1 e2 e3 e4 hnew hgo hfx
   have I1:=I.push (r:=x2) (by rw [e1];exact s3) (by rw [e1,e3];exact s4) (by rw [e3];exact s5) (fun k hk=>by rw [e3] at hk;exact I.done k (s6 k hk)) (by rw [e2];exact s7)
    (fun y hy=>by
     obtain ⟨_,_,⟨y0,y1,y2,y3,y4,y5⟩,_,_⟩:=hacc y hy
     have hne:x.ix ≠ y0.ix:=fun h=>hns y hy (by rw [← y2,h])
     have hp:=huniq x s1 y0 y1 hne
     obtain ⟨p1,p2,p3⟩:=hp
     refine ⟨fun s h1 h2=>?_,fun s h1 h2=>?_,fun s h1=>?_⟩
     ·rw [e3,e1,← y4,← y2];rw [e4] at h2;rw [← y3] at h1;exact p1 s h1 h2
     ·rw [e1,e3,← y2,← y4];rw [e2] at h1;rw [← y5] at h2;exact p2 s h1 h2
     ·rw [e2] at h1;rw [← y3];exact p3 s h1)
    (fun b e' he=>Or.inl ⟨(hnew b e' he).1,Ent.loose_own (hnew b e' he).2,fun h=>by have:=(hnew b e' he).2;rw [h] at this;cases this⟩)
    (fun y hy _ b hb=>by have:=(hacc y hy).2.2.2.1 b _ hb;cases this)
   obtain ⟨acc',bf',k1,k2,k3,k4⟩:=late_push huniq r (x2 :: acc) hgo I1
    (fun y hy=>by
     rcases List.mem_cons.1 hy with h' | h'
     ·subst h'
      obtain ⟨o,g1,g2,g3,g4⟩:=hfx
      refine ⟨⟨ox,by rw [e1];exact s8,by rw [e2];exact s9,by rw [e4];exact s10⟩,⟨o,by rw [e1];exact g1,g2,by rw [e2];exact g3,by rw [e4];exact g4⟩,⟨x,s1,e1.symm,e2.symm,e3.symm,e4.symm⟩,fun b e h=>(hnew b e h).2,by rw [e1];exact s2⟩
     ·exact hacc y h')
    (fun y hy=>by
     obtain ⟨z1,z2,z3,z⟩:=hS y (List.mem_cons_of_mem _ hy)
     refine ⟨z1,z2,?_,z⟩
     intro hm
     rcases List.mem_cons.1 hm with h' | h'
     ·-- the same twice: the list of what is foreseen says no
      have:∀ {S acc:List Rec},lateGo Γ ops T M next S acc→∀ y ∈ S,∀ q ∈ acc,q.ix ≠ y.ix:=by
       intro S
       induction S with
       | nil=>intro acc _ y hy;cases hy
       | cons z t ih=>
        intro acc hg y hy q hq
        unfold lateGo at hg
        obtain ⟨hz,hg⟩:=bif_someP hg |>.resolve_right fun h=>h.2.elim
        rcases List.mem_cons.1 hy with e | e
        ·rw [e];exact notS_spec.1 hz q hq
        ·rcases bif_someP hg with ⟨_,hg⟩ | ⟨_,hg⟩
         ·obtain ⟨_,hg⟩:=bif_someP hg |>.resolve_right fun h=>h.2.elim
          exact ih hg y e q (List.mem_cons_of_mem _ hq)
         ·split at hg
          ·split at hg
           ·exact ih (withP.rest hg) y e q (List.mem_cons_of_mem _ hq)
           ·exact hg.elim
          ·exact hg.elim
      exact this hgo y hy x2 (by simp) h'.symm
     ·exact z3 h')
   refine ⟨acc',bf',k1,k2,fun j=>?_,k4⟩
   rw [k3,List.mem_cons,e1]
   constructor
   ·rintro ((h | h) | ⟨y,h1,h2⟩)
    ·exact Or.inr ⟨x,by simp,h.symm⟩
    ·exact Or.inl h
    ·exact Or.inr ⟨y,List.mem_cons_of_mem _ h1,h2⟩
   ·rintro (h | ⟨y,h1,h2⟩)
    ·exact Or.inl (Or.inr h)
    ·rcases List.mem_cons.1 h1 with h' | h'
     ·exact Or.inl (Or.inl (by rw [← h2,h']))
     ·exact Or.inr ⟨y,h',h2⟩
  obtain ⟨o0,b0,f1,f2,f3,f4,_⟩:=s12
  rcases bif_someP h with ⟨hal,h⟩ | ⟨hal,h⟩
  ·obtain ⟨hnew,hF⟩:=bif_someP h |>.resolve_right fun h=>h.2.elim
   have hnew:=newOK_spec hnew
   obtain ⟨o3,t3,k1,k2,k3⟩:=allocB_spec hal
   have e3:o3 = o0:=Option.some.inj (k1.symm.trans f1)
   subst e3
   have hbx:b0 = true:=by
    unfold GuardIs at f2
    rw [k3] at f2;exact f2
   exact go x rfl rfl rfl rfl hnew hF ⟨o3,k1,k3,f3,alloc_any k2 (f4 hbx) (fun b e' he=>recM_base_none (hnew b e' he).1)⟩
  ·obtain ⟨o3,k1,k2,k3⟩:=pureB_spec (s11.resolve_left fun h=>by rw [hal] at h;cases h)
   have e3:o3 = o0:=Option.some.inj (k1.symm.trans f1)
   subst e3
   have e4:ox = o3:=Option.some.inj (s8.symm.trans k1)
   subst e4
   rw [k1] at h
   simp only at h
   split at h
   ·rename_i qs3 v3 hv3
    refine go ⟨x.ix,x.dst,v3,[],x.dep,looks ops ox⟩ rfl rfl rfl s10.symm (fun b e' he=>by simp [getM] at he) (withP.rest h)
     ⟨ox,k1,k3,f3,by rw [s10];exact effOp_pure k2 hv3 ⟨by simpa using withP.all h,rfl,rfl⟩⟩
   ·exact h.elim
theorem notDead_spec {b:Nat}:∀ {M:Mm},notDead M = true→getM M b ≠ some .dead
 | [],_=>by simp [getM]
 | (k,e) :: r,h=>by
  simp only [notDead,Bool.and_eq_true] at h
  by_cases hk:b = k
  ·subst hk
   rw [getM_cons_self]
   intro he
   simp only [Option.some.injEq] at he;subst he
   cases h.1
  ·rw [getM_cons_ne hk];exact notDead_spec h.2
theorem turnK_spec {dp:List Nat} {k:Nat}:∀ {rs:List Rec},turnK dp k rs = true→∀ x ∈ rs,x.ix ∉ dp→getM x.new k = none
 | [],_,x,hx=>by simp at hx
 | y :: q,h,x,hx=>by
  simp only [turnK,Bool.and_eq_true,Bool.or_eq_true] at h
  intro hd
  rcases List.mem_cons.1 hx with h' | h'
  ·subst h';exact isNone?_spec (h.1.resolve_left fun h=>hd (memB_iff.1 h))
  ·exact turnK_spec h.2 x h' hd
theorem turnD_spec {dp:List Nat}:∀ {rs:List Rec},turnD dp rs = true→∀ x ∈ rs,x.ix ∉ dp→∀ b,getM x.new b ≠ some .dead
 | [],_,x,hx=>by simp at hx
 | y :: q,h,x,hx=>by
  simp only [turnD,Bool.and_eq_true,Bool.or_eq_true] at h
  intro hd b
  rcases List.mem_cons.1 hx with h' | h'
  ·subst h';exact notDead_spec (h.1.resolve_left fun h=>hd (memB_iff.1 h))
  ·exact turnD_spec h.2 x h' hd b
theorem turnE_spec {dp:List Nat} {rs:List Rec}:∀ {E:Mm},turnE dp rs E = true→∀ b e,getM E b = some e→e.loose = true∧∀ x ∈ rs,x.ix ∉ dp→getM x.new b = none
 | [],_,b,e,h=>by simp [getM] at h
 | (k,e0) :: r,h,b,e,he=>by
  simp only [turnE,Bool.and_eq_true] at h
  by_cases hk:b = k
  ·subst hk
   rw [getM_cons_self] at he
   simp only [Option.some.injEq] at he;subst he
   exact ⟨h.1.1,turnK_spec h.1.2⟩
  ·rw [getM_cons_ne hk] at he
   exact turnE_spec h.2 b e he
def SameR (Γ:Cfg) (ops:List Oper) (T0:Tm) (M1:Mm) (rs:List Rec) (x:Rec):Prop:=
 ∃ o b,ops[x.ix]? = some o∧GuardIs ops o (restr (recT (inB x.dep) T0 rs) (looks ops o)) b ∧
  (b = true→(kindO Γ.ty o = 0∧x.new = []∧∃ qs v,pureOp Γ.ty (restr (recT (inB x.dep) T0 rs) (looks ops o)) (recM (inB x.dep) M1 rs) o.op = some (qs,v)∧All qs∧v = x.v) ∨
   ∃ qs d e v,newE Γ o (restr (recT (inB x.dep) T0 rs) (looks ops o)) = some (qs,d,e,v)∧All qs∧v = x.v∧[(d,e)] = x.new)∧(b = false→x.v = .tup []∧x.new = [])
theorem sameL_spec {Γ:Cfg} {ops:List Oper} {T0:Tm} {M1:Mm} {rs:List Rec} {dp:List Nat} {K:Prop}:∀ {l:List Rec},sameL Γ ops T0 M1 rs dp l K→K∧∀ x ∈ l,x.ix ∉ dp→SameR Γ ops T0 M1 rs x
 | [],h=>⟨h,fun x hx=>by simp at hx⟩
 | x :: q,h=>by
  unfold sameL at h
  rcases bif_someP h with ⟨hb,h⟩ | ⟨hb,h⟩
  ·obtain ⟨k1,k2⟩:=sameL_spec h
   refine ⟨k1,fun y hy hyd=>?_⟩
   rcases List.mem_cons.1 hy with h' | h'
   ·subst h';exact absurd (memB_iff.1 hb) hyd
   ·exact k2 y h' hyd
  ·have fin:SameR Γ ops T0 M1 rs x→sameL Γ ops T0 M1 rs dp q K→K∧∀ y ∈ x :: q,y.ix ∉ dp→SameR Γ ops T0 M1 rs y:=by
    intro hx h
    obtain ⟨k1,k2⟩:=sameL_spec h
    refine ⟨k1,fun y hy hyd=>?_⟩
    rcases List.mem_cons.1 hy with h' | h'
    ·rw [h'];exact hx
    ·exact k2 y h' hyd
   split at h
   ·exact h.elim
   ·rename_i o ho
    obtain ⟨b,hg,ht,hf⟩:=guardB_spec h
    cases b with
    | false=>
     have h:=hf rfl
     have a:=withP.all h
     exact fin ⟨o,false,ho,hg,(fun h=>by cases h),fun _=>⟨a.head,a.tail.head⟩⟩ (withP.rest h)
    | true=>
     have h:=ht rfl
     split at h
     ·rename_i hk
      split at h
      ·rename_i qs v hv
       obtain ⟨hn,h⟩:=(bif_someP h).resolve_right fun h=>h.2.elim
       have a:=withP.all h
       have hn:x.new = []:=by
        revert hn
        cases x.new with
        | nil=>intro _;rfl
        | cons _ _=>intro h;cases h
       exact fin ⟨o,true,ho,hg,(fun _=>Or.inl ⟨hk,hn,qs,v,hv,a.tail,a.head⟩),fun h=>by cases h⟩ (withP.rest h)
      ·exact h.elim
     ·split at h
      ·rename_i qs d e v hv
       have a:=withP.all h
       exact fin ⟨o,true,ho,hg,(fun _=>Or.inr ⟨qs,d,e,v,hv,a.tail.tail,a.head,a.tail.head⟩),fun h=>by cases h⟩ (withP.rest h)
      ·exact h.elim
     ·exact h.elim
theorem St.finish {listed:Array Bool} {bf:List Nat} {T0:Tm} {M0:Mm} {rs:List Rec} {ord:List Nat} {ρ:Env} {a:Act} {w:World} (S:St Γ N ops dep K bf T0 M0 rs ord (pB listed) ρ a w)
  (hall:∀ j,j < ops.length→pB listed j = true) {ρ0:Env} {M00:Mm} {w0:World} (hle:ρ0.le ρ) (hst:Step ρ0 M00 ρ (recM (pB listed) M0 rs) w0 w):After N ρ0 M00 w0 K a w:=by
 have hrs:∀ r ∈ rs,pB listed r.ix = true:=fun r hr=>by
  obtain ⟨o,ho,_⟩:=S.hops r hr
  exact hall _ (List.getElem?_eq_some_iff.1 ho).1
 cases ord with
 | cons i r=>
  obtain ⟨o,ho,h1,_⟩:=planOK_cons S.plan
  exact absurd (S.I.done i (hall i (List.getElem?_eq_some_iff.1 ho).1)) h1
 | nil=>
  have hM:recM (pB listed) M0 rs = recM allB M0 rs:=recM_congr fun r hr=>by rw [hrs r hr];rfl
  rw [hM] at hst
  exact ⟨ρ,_,_,S.F,hle,S.I.out hrs,hst⟩
theorem any_sound (hd:depOK ops dep = true) (hdst:dstOK N ops = true) {Q:Exit→Act→World→Prop} (hpa:∀ c a w,¬ Q (.panic c) a w) (hlo:¬ LetsOut Q) {ρ0:Env} {M00:Mm} {w0:World} (hQ:∀ a' w',After N ρ0 M00 w0 K a' w'→Q .normal a' w') :
  ∀ (fuel:Nat) {listed:Array Bool} {bf:List Nat} {T0:Tm} {M0:Mm} {rs:List Rec} {ord:List Nat} {ρ:Env} {a:Act} {w:World},listed.size = ops.length →
   St Γ N ops dep K bf T0 M0 rs ord (pB listed) ρ a w→left ops.length (pB listed) ≤ fuel→ρ0.le ρ→Step ρ0 M00 ρ (recM (pB listed) M0 rs) w0 w→wpAny Γ.P .any ops.toArray Q fuel listed a w
 | 0,listed,bf,T0,M0,rs,ord,ρ,a,w,hsz,S,hl,hle,hst=>by
  have hall:=left_zero hl
  refine ⟨?_,hQ _ _ (S.finish hall hle hst)⟩
  refine List.eq_nil_iff_forall_not_mem.2 fun i hi=>?_
  obtain ⟨h1,o,ho,_⟩:=mem_ready.1 hi
  have hlt:i < ops.length:=by
   have:=(Array.getElem?_eq_some_iff.1 ho).1
   simpa using this
  rw [pB_true (by omega)] at h1
  rw [hall i hlt] at h1;cases h1
 | fuel + 1,listed,bf,T0,M0,rs,ord,ρ,a,w,hsz,S,hl,hle,hst=>by
  have ready:∀ {i},i ∈ Region.ready .any ops.toArray listed→∃ o,ops[i]? = some o∧i < ops.length∧pB listed i = false∧∀ e ∈ o.after,Region.binds .any e = true→pB listed e.on = true:=by
   intro i hi
   obtain ⟨h1,o,ho,h2⟩:=mem_ready.1 hi
   have ho':ops[i]? = some o:=by simpa using ho
   have hlt:=(List.getElem?_eq_some_iff.1 ho').1
   exact ⟨o,ho',hlt,(pB_true (by omega)).1 h1,h2⟩
  obtain ⟨bf',rs',ord',S',hM,hord⟩:=S.advance hd hdst ord
  rw [← hM] at hst
  clear hM S
  have hfuelI:∀ {i},i < ops.length→pB listed i = false→left ops.length (pB (listed.setIfInBounds i true)) ≤ fuel:=by
   intro i hlt hpi
   rw [pB_set (by omega)]
   have:=left_plus hlt hpi
   omega
  have hopI:∀ {i:Nat} {o:Oper},ops[i]? = some o→∀ {X:Act→World→Prop},Region.wanted o (yielded ops.toArray a.tmps) = true→o.wp Γ.P a w X Q→wpOp Γ.P ops.toArray Q i X a w:=by
   intro i o ho X hg h
   unfold wpOp
   rw [show ops.toArray[i]? = some o by simpa using ho]
   simp only
   rw [if_pos hg]
   exact Or.inl h
  have hskipI:∀ {i:Nat} {o:Oper},ops[i]? = some o→∀ {X:Act→World→Prop},Region.wanted o (yielded ops.toArray a.tmps) = false→X (a.put o.dst undef) w→wpOp Γ.P ops.toArray Q i X a w:=by
   intro i o ho X hg h
   unfold wpOp
   rw [show ops.toArray[i]? = some o by simpa using ho]
   simp only
   rw [if_neg (by rw [hg];simp)]
   exact h
  have hnoI:∀ {i:Nat},pB listed i = false→∀ {r:Rec},r ∈ rs'→pB listed r.ix = true→i ∉ r.dep:=fun {i} hpi {r} hr hp h=>by
   rw [S'.I.deps r hr] at h
   have:=S'.I.clos _ hp i h
   rw [hpi] at this;cases this
  have foreseen:∀ r ∈ rs',pB listed r.ix = false→(∀ k ∈ r.dep,pB listed k = true)→wpOp Γ.P ops.toArray Q r.ix (wpAny Γ.P .any ops.toArray Q fuel (listed.setIfInBounds r.ix true)) a w:=by
   intro r hr hpi hdq
   obtain ⟨o,ho,_⟩:=S'.hops r hr
   have hlt:=(List.getElem?_eq_some_iff.1 ho).1
   have hno:∀ {r':Rec},r' ∈ rs'→pB listed r'.ix = true→r.ix ∉ r'.dep:=fun {r'} hr' hp=>hnoI hpi hr' hp
   have hds:∀ d,o.dst = some d→d < N:=fun d h=>dstOK_get hdst (List.mem_of_getElem? ho) d h
   have hfuel:=hfuelI hlt hpi
   have hop:=@hopI r.ix o ho
   have hskip:=@hskipI r.ix o ho
   obtain ⟨o',bg,ho',hg,hdd,heff,hskp⟩:=S'.facts r hr hpi
   have:o' = o:=Option.some.inj (ho'.symm.trans ho)
   subst this
   obtain ⟨o2,ho2,_,hrd⟩:=S'.hops r hr
   have:o2 = o':=Option.some.inj (ho2.symm.trans ho)
   subst this
   have hdp:=S'.I.deps r hr
   rw [hrd] at heff hg
   have hread:∀ r' ∈ rs',∀ s,r'.dst = some s→s ∈ looks ops o2→pB listed r'.ix = true→r'.ix ∈ r.dep:=by
    intro r' hr' s h1 h2 h3
    by_cases hne:r'.ix = r.ix
    ·rw [hne,hpi] at h3;cases h3
    ·rcases (S'.I.pairs r' hr' r hr hne).2.1 s h1 (by rw [hrd];exact h2) with h | h
     ·exact h
     ·exact absurd h (hno hr' h3)
   have hsf:∀ k ∈ rs',pB listed k.ix = true→k.ix ∉ r.dep→∀ a,getM k.new a = some .dead→getM (recM (inB r.dep) M0 rs') a = none:=by
    intro k hk h1 h2
    exact S'.I.safe r hr k hk h2 (hno hk h1) (fun h=>by rw [h,hpi] at h1;cases h1)
   have hwant:=wanted_of (S'.I.sees (rd:=looks ops o2) hdq (S'.I.trans r hr) hread hsf).2 hdst hg
   have e:=pB_set (l:=listed) (i:=r.ix) (by omega)
   have fin:∀ {x:Value} {ρ':Env} {a':Act} {w':World},a'.tmps = (a.put o2.dst x).tmps→a'.defers = []→ρ.le ρ' →
     (∀ d,o2.dst = some d→RelT ρ' r.v x∧ToldT (r.new ++ recM (inB r.dep) M0 rs') r.v)→(∀ b e,getM r.new b = some e→ToldE (r.new ++ recM (inB r.dep) M0 rs') e) →
     ConcM ρ' (r.new ++ recM (pB listed) M0 rs') w'→Step ρ (recM (pB listed) M0 rs') ρ' (r.new ++ recM (pB listed) M0 rs') w w'→wpAny Γ.P .any ops.toArray Q fuel (listed.setIfInBounds r.ix true) a' w':=by
    intro x ρ' a' w' h1 h2 h3 h4 h5 h6 h7
    rw [hdd] at h1 h4
    have I':=S'.I.mark hr hpi hdq h1 h2 h3 h4 h5 h6
    refine any_sound hd hdst hpa hlo hQ fuel (by simpa using hsz) (rs:=rs') (bf:=bf') (ord:=ord') (T0:=T0) (M0:=M0) (ρ:=ρ') ⟨by rw [e];exact I',S'.hops,fun r' hr' hp'=>?_,S'.F,S'.plan,S'.cover⟩ hfuel (Env.le_trans hle h3) ?_
    ·rw [e] at hp'
     refine S'.facts r' hr' ?_
     cases h:pB listed r'.ix with
     | false=>rfl
     | true=>rw [plus_old h] at hp';cases hp'
    ·rw [e]
     exact hst.trans (h7.congr fun b=>(recM_plus S'.I.wf S'.I.uniq S'.I.closed hr hpi b).symm)
   cases bg with
   | true=>
    refine hop hwant (Oper.wp_mono ?_ (S'.I.run (dp:=r.dep) (G:=fun v E=>v = r.v∧E = r.new) hds hdq (S'.I.trans r hr) hread hsf
     (fun qs v M' ⟨h1,h2,h3⟩=>⟨h1,r.new,h3,fun b e h=>?_,h2,rfl⟩) (heff rfl)))
    rotate_left
    ·by_cases hdead:e = .dead
     ·subst hdead;exact Or.inr ⟨rfl,S'.I.kill r hr b h⟩
     ·exact Or.inl ⟨recM_fresh S'.I.wf hr hpi S'.I.closed hdead h,wfM_mem S'.I.wf hr h⟩
    rintro a' w' ⟨v,E,x,ρ',⟨rfl,rfl⟩,h1,h2,h3,h4,h5,h6,h7⟩
    exact fin h1 h2 h3 h4 h5 h6 h7
   | false=>
    obtain ⟨hv,hn⟩:=hskp rfl
    refine hskip hwant (fin (x:=undef) (ρ':=ρ) rfl ?_ (Env.le_refl _) (fun d _=>?_) (fun b e h=>?_) ?_ ?_)
    ·cases hd:o2.dst <;> exact S'.I.defers
    ·rw [hv];exact ⟨⟨[],rfl,rfl⟩,toldT_und _⟩
    ·rw [hn] at h;simp [getM] at h
    ·rw [hn];exact S'.I.mem
    ·rw [hn];exact Step.refl _ _ _
  by_cases hE:∃ r ∈ rs',pB listed r.ix = false∧(∀ k ∈ r.dep,pB listed k = true)∧aheadB ops dep r.ix = true
  ·-- one that looks at slots alone is run first
   obtain ⟨r,hr,hpi,hdq,hah⟩:=hE
   obtain ⟨o,ho,hbl,_,hap,hsel⟩:=aheadB_spec hah
   have hlt:=(List.getElem?_eq_some_iff.1 ho).1
   have hoA:ops.toArray[r.ix]? = some o:=by simpa using ho
   obtain ⟨v,hy,hK⟩:=blind_wpOp hlo hoA hbl (foreseen r hr hpi hdq)
   refine wpAny_first hoA (fun j o' cs b h=>hsel o' (List.mem_of_getElem? (by simpa using h)) cs b) (fun c a' w' h=>absurd h (hpa c _ _)) fuel listed a w ?_ ?_ hy hK
   ·intro j oj hj hne hlj hw
    have hj':ops[j]? = some oj:=by simpa using hj
    have hjlt:=(List.getElem?_eq_some_iff.1 hj').1
    refine hap j oj hj' hne (fun hm=>?_) hw
    have h1:=hdq j (by rw [S'.I.deps r hr];exact hm)
    rw [pB_true (by omega)] at hlj
    rw [hlj] at h1;cases h1
   ·refine mem_ready.2 ⟨(pB_true (by omega)).2 hpi,o,hoA,fun e he hb=>?_⟩
    have:=(depOK_get hd ho).1 e he hb
    exact hdq e.on (by rw [S'.I.deps r hr];exact this.2)
  refine ⟨fun hnil=>hQ _ _ (S'.finish (fun j=>?_) hle hst),fun i hi=>?_⟩
  ·induction j using Nat.strongRecOn with
   | _ j ih=>
    intro hj
    cases hp:pB listed j with
    | true=>rfl
    | false=>
     have hr:j ∈ Region.ready .any ops.toArray listed:=by
      refine mem_ready.2 ⟨(pB_true (by omega)).2 hp,ops[j],by simp [hj],fun e he hb=>?_⟩
      have:=(depOK_get hd (List.getElem?_eq_getElem hj)).1 e he hb
      exact ih e.on this.1 (by omega)
     rw [hnil] at hr;cases hr
  ·obtain ⟨o,ho,hlt,hpi,haft⟩:=ready hi
   have hdo:=depOK_get hd ho
   have hdep:∀ k ∈ depAt dep i,pB listed k = true:=fun k hk=>by
    obtain ⟨e,he,hb,h⟩:=hdo.2.1 k hk
    rcases h with h | h
    ·rw [← h];exact haft e he hb
    ·exact S'.I.clos _ (haft e he hb) k h
   have hno:∀ {r:Rec},r ∈ rs'→pB listed r.ix = true→i ∉ r.dep:=fun {r} hr hp=>hnoI hpi hr hp
   have hds:∀ d,o.dst = some d→d < N:=fun d h=>dstOK_get hdst (List.mem_of_getElem? ho) d h
   have hfuel:=hfuelI hlt hpi
   have hop:=@hopI i o ho
   by_cases hbf:i ∈ bf'
   ·-- it was foreseen
    rcases S'.I.base i hbf with h | ⟨r,hr,hri⟩
    ·rw [hpi] at h;cases h
    subst hri
    exact foreseen r hr hpi fun k hk=>hdep k (by rw [← S'.I.deps r hr];exact hk)
   ·-- it is the next
    rcases hord with h | ⟨i0,r0,o0,h,ho0,hk0,hsb,hg0,F⟩
    ·subst h
     exact absurd ((S'.cover i hlt).resolve_left hbf) (by simp)
    subst h
    obtain ⟨o1,ho1,n1,n2,n3,n4,n5⟩:=planOK_cons S'.plan
    have e1:o1 = o0:=Option.some.inj (ho1.symm.trans ho0)
    have hii:i = i0:=by
     rcases List.mem_cons.1 ((S'.cover i hlt).resolve_left hbf) with h | h
     ·exact h
     ·rcases n3 with h3 | h3
      ·rw [e1] at h3;omega
      ·exact absurd (S'.I.done _ (hdep _ (h3 i h))) n1
    subst hii
    have e2:o0 = o:=Option.some.inj (ho0.symm.trans ho)
    subst e2;subst e1
    have e:=pB_set (l:=listed) (i:=i) (by omega)
    have hread:∀ r' ∈ rs',∀ s,r'.dst = some s→s ∈ looks ops o1→pB listed r'.ix = true→r'.ix ∈ depAt dep i:=by
     intro r' hr' s h1 h2 h3
     obtain ⟨oj,k1,k2,k3⟩:=S'.hops r' hr'
     have:=pair_of (v:=.und) (n:=[]) (v':=r'.v) (n':=r'.new) (n4 r'.ix (S'.I.bfs r' hr') oj k1)
     rcases this.1 s (by rw [← k2];exact h1) h2 with h | h
     ·exact h
     ·refine absurd ?_ (hno hr' h3)
      rw [S'.I.deps r' hr'];exact h
    have hsf0:=safeB_spec hsb
    have hsf:∀ k ∈ rs',pB listed k.ix = true→k.ix ∉ depAt dep i→∀ a,getM k.new a = some .dead→getM (recM (inB (depAt dep i)) M0 rs') a = none:=fun k hk _ h2=>hsf0 k hk h2
    have hwant:=wanted_of (S'.I.sees (rd:=looks ops o1) hdep hdo.2.2 hread hsf).2 hdst hg0
    unfold stepD at F
    split at F
    ·rename_i hk;omega
    ·rename_i hk;omega
    have bar:(∀ r ∈ rs',pB listed r.ix = true)→(effOp Γ o1 (recT allB T0 rs') (recM allB M0 rs') [] fun qs v M'=>withP qs (drawOps Γ ops dep (putT o1.dst v (recT allB T0 rs')) M' [] r0 K)) →
      wpOp Γ.P ops.toArray Q i (wpAny Γ.P .any ops.toArray Q fuel (listed.setIfInBounds i true)) a w:=by
     intro hrs F
     have hM:recM (pB listed) M0 rs' = recM allB M0 rs':=recM_congr fun r hr=>by rw [hrs r hr];rfl
     rw [hM] at hst
     refine hop hwant (Oper.wp_mono ?_ (effOp_sound (S'.I.out hrs) hds (fun qs v M' h=>withP.all h) F))
     rintro a' w' ⟨ρ',T',M',⟨qs,v,hk,rfl⟩,h1,h2,h3⟩
     refine any_sound hd hdst hpa hlo hQ fuel (by simpa using hsz) (rs:=[]) (bf:=i :: bf') (ord:=r0) (T0:=putT o1.dst v (recT allB T0 rs')) (M0:=M') (ρ:=ρ')
      ⟨Inv.start h2 (fun j=>?_) (fun j hj k hk=>?_),by simp,by simp,withP.rest hk,n5,fun j hj=>?_⟩ hfuel (Env.le_trans hle h1) (hst.trans h3)
     ·rw [e]
      constructor
      ·intro h
       rcases plus_cases h with h | h
       ·rw [h];simp
       ·exact List.mem_cons_of_mem _ (S'.I.done j h)
      ·intro h
       rcases List.mem_cons.1 h with h | h
       ·rw [h];exact plus_self _ _
       ·rcases S'.I.base j h with h | ⟨r,hr,hri⟩
        ·exact plus_old h
        ·rw [← hri];exact plus_old (hrs r hr)
     ·rw [e] at hj ⊢
      rcases plus_cases hj with h | h
      ·subst h;exact plus_old (hdep k hk)
      ·exact plus_old (S'.I.clos j h k hk)
     ·rcases S'.cover j hj with h | h
      ·exact Or.inl (List.mem_cons_of_mem _ h)
      ·rcases List.mem_cons.1 h with h | h
       ·exact Or.inl (by simp [h])
       ·exact Or.inr h
    cases hb:barB ops dep (depAt dep i) rs' with
    | true=>
     rw [hb,cond_true] at F
     refine bar ?_ F
     have key:∀ n,∀ r ∈ rs',r.ix = n→pB listed r.ix = true:=by
      intro n
      induction n using Nat.strongRecOn with
      | _ n ih=>
       intro r hr hn
       cases hp:pB listed r.ix with
       | true=>rfl
       | false=>
        rcases barB_spec hb r hr with h | h
        ·rw [hdep _ h] at hp;cases hp
        ·exfalso
         obtain ⟨_,_,_,hless,_,_⟩:=aheadB_spec h
         refine hE ⟨r,hr,hp,fun k hk=>?_,h⟩
         have hk':=hk
         rw [S'.I.deps r hr] at hk'
         rcases S'.I.base k (S'.I.below r hr k hk) with h1 | ⟨r2,hr2,h2⟩
         ·exact h1
         ·rw [← h2]
          exact ih r2.ix (by rw [h2,← hn];exact hless k hk') r2 hr2 rfl
     exact fun r hr=>key r.ix r hr rfl
    | false=>
     rw [hb,cond_false] at F
     split at F
     ·-- one that makes a variable is ahead of it or behind it
      rename_i X hX
      obtain ⟨hXr,hXa,hXo⟩:=lateOf_spec hX
      have key:∀ n,∀ r ∈ rs',r ∉ X→r.ix = n→pB listed r.ix = true:=by
       intro n
       induction n using Nat.strongRecOn with
       | _ n ih=>
        intro r hr hrx hn
        cases hp:pB listed r.ix with
        | true=>rfl
        | false=>
         rcases (hXa r hr).resolve_left hrx with h | h
         ·rw [hdep _ h] at hp;cases hp
         ·exfalso
          obtain ⟨_,_,_,hless,_,_⟩:=aheadB_spec h
          refine hE ⟨r,hr,hp,fun k hk=>?_,h⟩
          have hk':=hk
          rw [S'.I.deps r hr] at hk'
          rcases S'.I.base k (S'.I.below r hr k hk) with h1 | ⟨r2,hr2,h2⟩
          ·exact h1
          ·rw [← h2]
           exact ih r2.ix (by rw [h2,← hn];exact hless k hk') r2 hr2 (fun h=>(hXo r2 h).2.2 r hr (by rw [h2];exact hk)) rfl
      obtain ⟨S,hSm,F2⟩:=lateAll_get (fun x=>!pB listed x.ix) F
      have hSm:∀ x,x ∈ S ↔ x ∈ X∧pB listed x.ix = false:=fun x=>by rw [hSm];simp
      have hq:∀ r ∈ rs',pB listed r.ix = notS S r.ix:=by
       intro r hr
       cases hp:pB listed r.ix with
       | true=>
        refine (notS_spec.2 fun x hx h=>?_).symm
        have:=((hSm x).1 hx).2
        rw [h,hp] at this;cases this
       | false=>
        have hrX:r ∈ X:=Classical.byContradiction fun h=>by rw [key r.ix r hr h rfl] at hp;cases hp
        cases hn:notS S r.ix with
        | false=>rfl
        | true=>exact absurd rfl (notS_spec.1 hn r ((hSm r).2 ⟨hrX,hp⟩))
      have hM:recM (pB listed) M0 rs' = recM (notS S) M0 rs':=recM_congr hq
      have hT:recT (pB listed) T0 rs' = recT (notS S) T0 rs':=recT_congr hq
      have hout:=S'.I.outP
      rw [hM,hT] at hout
      rw [hM] at hst
      have hSr:∀ x ∈ S,x ∈ rs':=fun x hx=>hXr x ((hSm x).1 hx).1
      have hSp:∀ x ∈ S,pB listed x.ix = false:=fun x hx=>((hSm x).1 hx).2
      have hxi:∀ x ∈ S,x.ix ≠ i:=fun x hx h=>hbf (by rw [← h];exact S'.I.bfs x (hSr x hx))
      refine hop hwant (Oper.wp_mono ?_ (effOp_sound hout hds (fun qs v M' h=>withP.all h) F2))
      rintro a' w' ⟨ρ',T',M',⟨qs,v,hk,rfl⟩,h1,h2,h3⟩
      have hpi2:∀ x ∈ S,pB (listed.setIfInBounds i true) x.ix = false:=fun x hx=>by rw [e,plus_ne (hxi x hx)];exact hSp x hx
      let bf2:=i :: bf'.filter fun j=>notS S j
      have hbf2:∀ j,j ∈ bf2 ↔ (j = i ∨ (j ∈ bf'∧∀ x ∈ S,x.ix ≠ j)):=by
       intro j
       simp only [bf2,List.mem_cons,List.mem_filter]
       exact or_congr Iff.rfl (and_congr Iff.rfl notS_spec)
      have I0:Inv N (depAt dep) bf2 (putT o1.dst v (recT (notS S) T0 rs')) M' [] (pB (listed.setIfInBounds i true)) ρ' a' w':=by
       refine Inv.start h2 (fun j=>?_) (fun j hj k hk=>?_)
       ·rw [e,hbf2]
        constructor
        ·intro h
         rcases plus_cases h with h | h
         ·exact Or.inl h
         ·exact Or.inr ⟨S'.I.done j h,fun x hx hjx=>by rw [← hjx,hSp x hx] at h;cases h⟩
        ·rintro (h | ⟨h,hjx⟩)
         ·rw [h];exact plus_self _ _
         ·rcases S'.I.base j h with h | ⟨r,hr,hri⟩
          ·exact plus_old h
          ·rw [← hri]
           refine plus_old ?_
           rw [hq r hr]
           exact notS_spec.2 fun x hx=>by rw [hri];exact hjx x hx
       ·rw [e] at hj ⊢
        rcases plus_cases hj with h | h
        ·subst h;exact plus_old (hdep k hk)
        ·exact plus_old (S'.I.clos j h k hk)
      obtain ⟨acc,bf3,J1,J2,J3,J4⟩:=late_push (rs':=rs') S'.I.pairs S [] (withP.rest hk) I0 (fun y hy=>by cases hy) (fun x hx=>by
       refine ⟨hSr x hx,hpi2 x hx,fun h=>?_,S'.I.deps x (hSr x hx),S'.I.trans x (hSr x hx),fun k hk=>?_,S'.I.small x (hSr x hx),S'.hops x (hSr x hx),(hXo x ((hSm x).1 hx).1).1,_,_,S'.facts x (hSr x hx) (hSp x hx)⟩
       ·rcases (hbf2 _).1 h with h | h
        ·exact hxi x hx h
        ·exact h.2 x hx rfl
       ·rw [e]
        rcases S'.I.base k (S'.I.below x (hSr x hx) k hk) with h | ⟨r,hr,hri⟩
        ·exact plus_old h
        ·rw [← hri]
         refine plus_old ?_
         rw [hq r hr]
         exact notS_spec.2 fun y hy h=>(hXo y ((hSm y).1 hy).1).2.2 x (hSr x hx) (by rw [h,hri];exact hk))
      have hin:∀ y ∈ acc,∀ z ∈ acc,inB y.dep z.ix = false:=fun y hy z hz=>inB_no fun hm=>by
       have hz2:=(J4 z hz).2.2
       have:=J1.deps y hy
       have h5:=J1.below y hy z.ix hm
       rcases (J3 z.ix).1 h5 with h6 | ⟨x,hx,h6⟩
       ·have h7:=(J1.base z.ix h5)
        rcases (hbf2 _).1 h6 with h8 | h8
        ·have:pB (listed.setIfInBounds i true) z.ix = true:=by rw [e,h8];exact plus_self _ _
         rw [this] at hz2;cases hz2
        ·rcases S'.I.base z.ix h8.1 with h9 | ⟨r,hr,hri⟩
         ·have:pB (listed.setIfInBounds i true) z.ix = true:=by rw [e];exact plus_old h9
          rw [this] at hz2;cases hz2
         ·have:pB (listed.setIfInBounds i true) z.ix = true:=by
           rw [e,← hri]
           refine plus_old ?_
           rw [hq r hr]
           exact notS_spec.2 fun x hx=>by rw [hri];exact h8.2 x hx
          rw [this] at hz2;cases hz2
       ·obtain ⟨y0,hy0,hyi⟩:∃ y0 ∈ S,y0.ix = y.ix:=by
         rcases (J3 y.ix).1 (J1.bfs y hy) with h8 | ⟨x,hx,h8⟩
         ·exfalso
          have hy2:=(J4 y hy).2.2
          rcases (hbf2 _).1 h8 with h9 | h9
          ·have:pB (listed.setIfInBounds i true) y.ix = true:=by rw [e,h9];exact plus_self _ _
           rw [this] at hy2;cases hy2
          ·rcases S'.I.base y.ix h9.1 with h10 | ⟨r,hr,hri⟩
           ·have:pB (listed.setIfInBounds i true) y.ix = true:=by rw [e];exact plus_old h10
            rw [this] at hy2;cases hy2
           ·have:pB (listed.setIfInBounds i true) y.ix = true:=by
             rw [e,← hri]
             refine plus_old ?_
             rw [hq r hr]
             exact notS_spec.2 fun x hx=>by rw [hri];exact h9.2 x hx
            rw [this] at hy2;cases hy2
         ·exact ⟨x,hx,h8⟩
        refine (hXo x ((hSm x).1 hx).1).2.2 y0 (hSr y0 hy0) ?_
        rw [h6,S'.I.deps y0 (hSr y0 hy0),hyi,← this]
        exact hm
      have hrecM:∀ (q:Nat→Bool) (l:List Rec),(∀ z ∈ l,q z.ix = false)→recM q M' l = M':=by
       intro q l
       induction l with
       | nil=>intro _;rfl
       | cons z t ih=>intro h;simp only [recM,h z (by simp),cond_false];exact ih fun y hy=>h y (List.mem_cons_of_mem _ hy)
      have hrecT:∀ (q:Nat→Bool) (T2:Tm) (l:List Rec),(∀ z ∈ l,q z.ix = false)→recT q T2 l = T2:=by
       intro q T2 l
       induction l with
       | nil=>intro _;rfl
       | cons z t ih=>intro h;simp only [recT,h z (by simp),cond_false];exact ih fun y hy=>h y (List.mem_cons_of_mem _ hy)
      refine any_sound hd hdst hpa hlo hQ fuel (by simpa using hsz) (rs:=acc) (bf:=bf3) (ord:=r0) (T0:=putT o1.dst v (recT (notS S) T0 rs')) (M0:=M') (ρ:=ρ')
       ⟨J1,fun r hr=>(J4 r hr).1,fun r hr hp=>?_,J2,planOK_congr (fun j=>?_) n5,fun j hj=>?_⟩ hfuel (Env.le_trans hle h1) ?_
      ·obtain ⟨ox,g1,g2,g3,g4⟩:=(J4 r hr).2.1
       refine ⟨ox,true,g1,by unfold GuardIs;rw [g2],g3,fun _=>?_,fun h=>by cases h⟩
       rw [hrecM _ _ (fun z hz=>hin r hr z hz),hrecT _ _ _ (fun z hz=>hin r hr z hz)]
       exact g4
      ·rw [List.mem_cons,J3,hbf2]
       constructor
       ·rintro (h | h)
        ·exact Or.inl (Or.inl h)
        ·by_cases hjx:∃ x ∈ S,x.ix = j
         ·exact Or.inr hjx
         ·exact Or.inl (Or.inr ⟨h,fun x hx hxj=>hjx ⟨x,hx,hxj⟩⟩)
       ·rintro ((h | h) | ⟨x,hx,h⟩)
        ·exact Or.inl h
        ·exact Or.inr h.1
        ·rw [← h];exact Or.inr (S'.I.bfs x (hSr x hx))
      ·rw [J3,hbf2]
       rcases S'.cover j hj with h | h
       ·by_cases hjx:∃ x ∈ S,x.ix = j
        ·exact Or.inl (Or.inr hjx)
        ·exact Or.inl (Or.inl (Or.inr ⟨h,fun x hx hxj=>hjx ⟨x,hx,hxj⟩⟩))
       ·rcases List.mem_cons.1 h with h | h
        ·exact Or.inl (Or.inl (Or.inl h))
        ·exact Or.inr h
      ·rw [hrecM _ _ (fun z hz=>(J4 z hz).2.2)]
       exact hst.trans h3
     have hself:inB (depAt dep i) i = false:=by
      cases h:inB (depAt dep i) i with
      | false=>rfl
      | true=>exact absurd (n2 _ (memB_iff.1 h)) n1
     refine hop hwant (Oper.wp_mono ?_ (S'.I.run (dp:=depAt dep i)
      (G:=fun v E=>(drawOps Γ ops dep T0 M0 (⟨i,o1.dst,v,E,depAt dep i,looks ops o1⟩ :: rs') r0 K∧freshB M0 rs' (depAt dep i) E = true) ∨
       turnB (depAt dep i) rs' E = true∧sameL Γ ops T0 (E ++ recM (inB (depAt dep i)) M0 rs') (foldR (depAt dep i) rs') (depAt dep i) (foldR (depAt dep i) rs') (drawOps Γ ops dep T0 (E ++ recM (inB (depAt dep i)) M0 rs') (⟨i,o1.dst,v,[],depAt dep i,looks ops o1⟩ :: foldR (depAt dep i) rs') r0 K)) hds hdep hdo.2.2 hread hsf
      (fun qs v M' h=>?_) F))
     ·rintro a' w' ⟨v,E,x,ρ',⟨hF,hfr⟩ | ⟨htb,hF⟩,h1,h2,h3,h4,h5,h6,h7⟩
      ·have hfr:=freshB_spec hfr
       have I1:=S'.I.push (r:=⟨i,o1.dst,v,E,depAt dep i,looks ops o1⟩) n1 rfl hdo.2.2 n2 hds (S'.pairs n4) hfr hsf0
       have eM:recM (inB (depAt dep i)) M0 (⟨i,o1.dst,v,E,depAt dep i,looks ops o1⟩ :: rs') = recM (inB (depAt dep i)) M0 rs':=by simp only [recM,hself,cond_false]
       have eP:recM (pB listed) M0 (⟨i,o1.dst,v,E,depAt dep i,looks ops o1⟩ :: rs') = recM (pB listed) M0 rs':=by simp only [recM,hpi,cond_false]
       have I2:=I1.mark (r:=⟨i,o1.dst,v,E,depAt dep i,looks ops o1⟩) (by simp) hpi hdep h1 h2 h3 (by rw [eM];exact h4) (by rw [eM];exact h5) (by rw [eP];exact h6)
       refine any_sound hd hdst hpa hlo hQ fuel (by simpa using hsz) (rs:=⟨i,o1.dst,v,E,depAt dep i,looks ops o1⟩ :: rs') (bf:=i :: bf') (ord:=r0) (T0:=T0) (M0:=M0) (ρ:=ρ')
        ⟨by rw [e];exact I2,fun r hr=>?_,fun r hr hp=>?_,hF,n5,fun j hj=>?_⟩ hfuel (Env.le_trans hle h3) ?_
       ·rcases List.mem_cons.1 hr with h | h
        ·subst h;exact ⟨o1,ho,rfl,rfl⟩
        ·exact S'.hops r h
       ·rw [e] at hp
        rcases List.mem_cons.1 hr with h | h
        ·subst h;rw [plus_self] at hp;cases hp
        ·have hp2:pB listed r.ix = false:=by
          cases h:pB listed r.ix with
          | false=>rfl
          | true=>rw [plus_old h] at hp;cases hp
         have hno2:inB r.dep i = false:=by
          cases h':inB r.dep i with
          | false=>rfl
          | true=>exact absurd (S'.I.below r h _ (memB_iff.1 h')) n1
         have e1:recT (inB r.dep) T0 (⟨i,o1.dst,v,E,depAt dep i,looks ops o1⟩ :: rs') = recT (inB r.dep) T0 rs':=by simp only [recT,hno2,cond_false]
         have e2:recM (inB r.dep) M0 (⟨i,o1.dst,v,E,depAt dep i,looks ops o1⟩ :: rs') = recM (inB r.dep) M0 rs':=by simp only [recM,hno2,cond_false]
         rw [e1,e2]
         exact S'.facts r h hp2
       ·rcases S'.cover j hj with h | h
        ·exact Or.inl (List.mem_cons_of_mem _ h)
        ·rcases List.mem_cons.1 h with h | h
         ·exact Or.inl (by simp [h])
         ·exact Or.inr h
       ·rw [e]
        refine hst.trans (h7.congr fun b=>?_)
        have:=recM_plus (p:=pB listed) I1.wf I1.uniq I1.closed (r:=⟨i,o1.dst,v,E,depAt dep i,looks ops o1⟩) (by simp) hpi b
        rw [eP] at this
        exact this.symm
      ·-- it has changed what others may have seen
       have hb:=htb
       unfold turnB at hb
       simp only [Bool.and_eq_true] at hb
       have hE:=turnE_spec hb.2
       have hnd:=turnD_spec hb.1
       obtain ⟨hK,hsame⟩:=sameL_spec hF
       have I1:=S'.I.push (r:=⟨i,o1.dst,v,[],depAt dep i,looks ops o1⟩) n1 rfl hdo.2.2 n2 hds (S'.pairs n4) (fun b e h=>by simp [getM] at h) hsf0
       have eM:recM (inB (depAt dep i)) M0 (⟨i,o1.dst,v,[],depAt dep i,looks ops o1⟩ :: rs') = recM (inB (depAt dep i)) M0 rs':=by simp only [recM,hself,cond_false]
       have eP:recM (pB listed) M0 (⟨i,o1.dst,v,[],depAt dep i,looks ops o1⟩ :: rs') = recM (pB listed) M0 rs':=by simp only [recM,hpi,cond_false]
       have told:=(S'.I.sees (rd:=looks ops o1) hdep hdo.2.2 hread hsf).1.told
       have I2:=I1.turn (r:=⟨i,o1.dst,v,[],depAt dep i,looks ops o1⟩) (by simp) hpi hdep rfl (E:=E)
        (fun b e' he y hy hyd=>by
         rcases List.mem_cons.1 hy with h | h
         ·subst h;rfl
         ·exact (hE b e' he).2 y h hyd)
        (fun y hy hyd b=>by
         rcases List.mem_cons.1 hy with h | h
         ·subst h;simp [getM]
         ·exact hnd y h hyd b)
        h1 h2 h3 (by rw [eM];exact h4) (by rw [eM];exact h5) (by rw [eM];exact told) (by rw [eP];exact h6)
       rw [eM] at I2
       have eF:foldR (depAt dep i) (⟨i,o1.dst,v,[],depAt dep i,looks ops o1⟩ :: rs') = ⟨i,o1.dst,v,[],depAt dep i,looks ops o1⟩ :: foldR (depAt dep i) rs':=by
        simp only [foldR]
        cases memB i (depAt dep i) <;> rfl
       simp only [eF] at I2
       refine any_sound hd hdst hpa hlo hQ fuel (by simpa using hsz) (rs:=⟨i,o1.dst,v,[],depAt dep i,looks ops o1⟩ :: foldR (depAt dep i) rs') (bf:=i :: bf') (ord:=r0) (T0:=T0) (M0:=E ++ recM (inB (depAt dep i)) M0 rs') (ρ:=ρ')
        ⟨by rw [e];exact I2,fun r hr=>?_,fun r hr hp=>?_,hK,n5,fun j hj=>?_⟩ hfuel (Env.le_trans hle h3) ?_
       ·rcases List.mem_cons.1 hr with h | h
        ·subst h;exact ⟨o1,ho,rfl,rfl⟩
        ·obtain ⟨r1,a1,a2,a3,_,_,a6,_⟩:=foldR_mem h
         obtain ⟨oj,k1,k2,k3⟩:=S'.hops r1 a1
         exact ⟨oj,by rw [a2];exact k1,by rw [a3];exact k2,by rw [a6];exact k3⟩
       ·rw [e] at hp
        rcases List.mem_cons.1 hr with h | h
        ·subst h;rw [plus_self] at hp;cases hp
        ·obtain ⟨r1,a1,a2,a3,a4,a5,a6,a7⟩:=foldR_mem h
         have hrd:r.ix ∉ depAt dep i:=fun hm=>by
          have:=plus_old (i:=i) (hdep _ hm)
          rw [this] at hp;cases hp
         have hno2:inB r.dep i = false:=by
          cases h':inB r.dep i with
          | false=>rfl
          | true=>exact absurd (S'.I.below r1 a1 _ (by rw [← a5];exact memB_iff.1 h')) n1
         have e1:∀ T0,recT (inB r.dep) T0 (⟨i,o1.dst,v,[],depAt dep i,looks ops o1⟩ :: foldR (depAt dep i) rs') = recT (inB r.dep) T0 (foldR (depAt dep i) rs'):=fun T0=>by simp only [recT,hno2,cond_false]
         have e2:∀ M0,recM (inB r.dep) M0 (⟨i,o1.dst,v,[],depAt dep i,looks ops o1⟩ :: foldR (depAt dep i) rs') = recM (inB r.dep) M0 (foldR (depAt dep i) rs'):=fun M0=>by simp only [recM,hno2,cond_false]
         rw [e1,e2]
         obtain ⟨oj,bj,k1,k2,k3,k4⟩:=hsame r h hrd
         obtain ⟨oj2,g1,g2,g3⟩:=S'.hops r1 a1
         rw [← a2] at g1
         have:oj2 = oj:=Option.some.inj (g1.symm.trans k1)
         subst this
         have hrdl:r.rd = looks ops oj2:=by rw [a6];exact g3
         refine ⟨oj2,bj,k1,by rw [hrdl];exact k2,by rw [a3];exact g2.symm,fun hb=>?_,k4⟩
         rw [hrdl]
         rcases k3 hb with ⟨m1,m2,qs,v',m3,m4,m5⟩ | ⟨qs,d,en,v',m3,m4,m5,m6⟩
         ·exact effOp_pure m1 m3 ⟨by rw [List.append_nil];exact m4,m5,by rw [m2];rfl⟩
         ·have hop2:en.isOwn = true:=(effOp_new (Γ:=Γ) (M:=[]) (K:=fun _ _ _=>True) m3 rfl trivial).2
          have hmem:(r:Rec) ∈ (⟨i,o1.dst,v,[],depAt dep i,looks ops o1⟩ :: foldR (depAt dep i) rs':List Rec):=hr
          have hnone:getM (recM (inB r.dep) (E ++ recM (inB (depAt dep i)) M0 rs') (foldR (depAt dep i) rs')) d = none:=by
           have:=recM_fresh (p:=inB r.dep) (M0:=E ++ recM (inB (depAt dep i)) M0 rs') I2.wf hmem (inB_no (I2.irr r hmem)) (fun y hy hyd k hk=>by
            have hyd:=memB_iff.1 hyd
            rw [I2.deps y hy] at hk
            exact memB_iff.2 (I2.trans r hmem _ hyd _ hk)) (b:=d) (e:=en) (fun h=>by rw [h] at hop2;cases hop2) (by rw [← m6];exact getM_cons_self _ _ _)
           rw [e2] at this
           exact this
          exact (effOp_new (K:=fun qs v' M'=>All qs∧v' = r.v∧M' = r.new ++ recM (inB r.dep) (E ++ recM (inB (depAt dep i)) M0 rs') (foldR (depAt dep i) rs')) m3 hnone ⟨by rw [List.append_nil];exact m4,m5,by rw [← m6];rfl⟩).1
       ·rcases S'.cover j hj with h | h
        ·exact Or.inl (List.mem_cons_of_mem _ h)
        ·rcases List.mem_cons.1 h with h | h
         ·exact Or.inl (by simp [h])
         ·exact Or.inr h
       ·rw [e]
        refine hst.trans (h7.congr fun b=>?_)
        have e3:recM (plus (pB listed) i) (E ++ recM (inB (depAt dep i)) M0 rs') (⟨i,o1.dst,v,[],depAt dep i,looks ops o1⟩ :: foldR (depAt dep i) rs') = recM (plus (pB listed) i) (E ++ recM (inB (depAt dep i)) M0 rs') (foldR (depAt dep i) rs'):=by
         simp only [recM,plus_self,cond_true,List.nil_append]
        rw [e3,recM_foldR]
        have hcl:∀ y ∈ rs',y.ix ∈ depAt dep i→∀ k ∈ y.dep,k ∈ depAt dep i:=fun y hy hyd k hk=>by
         rw [S'.I.deps y hy] at hk;exact hdo.2.2 _ hyd _ hk
        have h8:=recM_part (M0:=M0) (dp:=depAt dep i) (q:=pB listed) hdep b S'.I.wf hcl
        have h9:getM (recM (restP (depAt dep i) (plus (pB listed) i)) [] rs') b = getM (recM (restP (depAt dep i) (pB listed)) [] rs') b:=by
         have:recM (restP (depAt dep i) (plus (pB listed) i)) [] rs' = recM (restP (depAt dep i) (pB listed)) [] rs':=recM_congr fun y hy=>by
          have hne:y.ix ≠ i:=fun h=>hbf (by rw [← h];exact S'.I.bfs y hy)
          simp only [restP,plus_ne hne]
         rw [this]
        cases hx:getM E b with
        | some e'=>
         rw [getM_append_new hx,getM_append_old,getM_append_new hx]
         rw [h9]
         cases hy:getM (recM (restP (depAt dep i) (pB listed)) [] rs') b with
         | none=>rfl
         | some e2=>
          obtain ⟨z,k1,_,k3,k4⟩:=rest_inv hy
          rw [(hE b e' hx).2 z k1 k3] at k4;cases k4
        | none=>
         rw [getM_append_old hx,h8,getM_append,getM_append,h9,getM_append_old hx]
     ·have hG:=withP.rest h
      unfold Grow at hG
      rcases hG with ⟨E,g1,g2,g3⟩ | ⟨E,g1,g2,g3⟩
      ·refine ⟨withP.all h,E,g1,fun b e hb=>?_,Or.inl ⟨g3,g2⟩⟩
       rcases freshB_spec g2 b e hb with h1 | ⟨h1,h2,_⟩
       ·exact Or.inl ⟨recM_nx (q:=allB) (fun _ _ _=>rfl) h1.1,h1.2.1⟩
       ·exact Or.inr ⟨by rw [h1];rfl,h2⟩
      ·subst g1
       refine ⟨withP.all h,E,rfl,fun b e hb=>?_,Or.inr ⟨g2,g3⟩⟩
       have hb2:=g2
       unfold turnB at hb2
       simp only [Bool.and_eq_true] at hb2
       obtain ⟨t1,t2⟩:=turnE_spec hb2.2 b e hb
       cases hx:getM (recM (pB listed) M0 rs') b with
       | none=>exact Or.inl ⟨rfl,t1⟩
       | some e1=>
        refine Or.inr ⟨t1,?_⟩
        rcases recM_inv hx with h | ⟨y,h1,_,h3⟩
        ·exact recM_base h
        ·by_cases hyd:y.ix ∈ depAt dep i
         ·exact recM_has h1 (memB_iff.2 hyd) h3
         ·rw [t2 y h1 hyd] at h3;cases h3
theorem Draw.sound {id:Nat} {T:Tm} {M:Mm} (hdst:dstOK N ops = true) (h:Draw Γ id ops T M K) {ρ:Env} {a:Act} {w:World} (hc:Conc N ρ T M a w) {Q:Exit→Act→World→Prop}
  (hQ:∀ a' w',After N ρ M w K a' w'→Q .normal a' w'):(Code.region id ops.toArray true).wp Γ.P Q a w:=by
 unfold Draw at h
 obtain ⟨dep,ord,hp,hF⟩:=h
 simp only [planAll,Bool.and_eq_true,List.all_eq_true] at hp
 obtain ⟨⟨hd,hplan⟩,hcov⟩:=hp
 have hg:=Grows.drew w
 have e0:pB (Array.replicate ops.toArray.size false) = fun _=>false:=by
  funext j;exact getD_replicate_false _ _
 have hleft:left ops.length (fun _=>false) ≤ ops.toArray.size:=by
  unfold left
  have:=List.length_filter_le (fun j=>!(fun _:Nat=>false) j) (List.range ops.length)
  simpa using this
 refine wp_mono (Q:=fun e a' w'=>e = .normal∧Q .normal a' w') ?_ (fun e a' w' h=>by rw [h.1];exact h.2)
 refine wp_region_any Γ.mixed ?_
 refine any_sound (ρ0:=ρ) (M00:=M) (w0:=w) (K:=K) hd hdst (fun c a w h=>by cases h.1) (fun ⟨a,w,h⟩=>by cases h.1) (fun a' w' h=>⟨rfl,hQ a' w' h⟩) _ (by simp) (rs:=[]) (bf:=[]) (ord:=ord) (T0:=T) (M0:=M) (ρ:=ρ) ?_ ?_ (Env.le_refl _) ?_
 ·rw [e0]
  refine ⟨Inv.start (hc.grows hg) (by simp) (by simp),by simp,by simp,hF,hplan,fun j hj=>Or.inr (memB_iff.1 (hcov j (List.mem_range.2 hj)))⟩
 ·rw [e0];exact hleft
 ·rw [e0]
  exact hg.step
end
end Go.Sx
namespace Go.Sx
open Go
def slotsSame (μ:Nm) (T0 T:Tm):Option (List Prop):=
 match T0 with
 | []=>some []
 | (d,v0) :: r=>match sameA μ v0 (getT T d) with
  | some ps=>match slotsSame μ r T with
   | some qs=>some (ps ++ qs)
   | none=>none
  | none=>none
def fillN (μ:Nm) (M0:Mm):Nm:=
 match M0 with
 | []=>[]
 | (k,_) :: r=>match look μ k with
  | some x=>(k,x) :: fillN μ r
  | none=>(k,(k,0,none)) :: fillN μ r
def keysOK (M M0:Mm):Nm→Bool
 | []=>true
 | (k,(b,_)) :: r=>isPar M0 k && (getM M b).isSome && keysOK M M0 r
def idOn (μ:Nm) (M0:Mm):List Nat→Bool
 | []=>true
 | k :: r=>(match look μ k with
  | some (b,0,none)=>Nat.beq b k
  | _=>false) && isPar M0 k && idOn μ M0 r
def leOK (Kn:List Nat) (μ:Nm) (M M0:Mm):Bool:=sepOK μ M0 && keysOK M M0 μ && idOn μ M0 Kn
def Le1 (Kn:List Nat) (T0:Tm) (M0:Mm) (T:Tm) (M:Mm):Prop:=
 ∃ (μ:Nm) (ps qs:List Prop),slotsSame (fillN μ M0) T0 T = some ps∧AllP ps∧viewsM (fillN μ M0) M M0 = some qs∧AllP qs∧leOK Kn (fillN μ M0) M M0 = true
@[irreducible] def Le (Kn:List Nat) (T0:Tm) (M0:Mm) (T:Tm) (M:Mm):Prop:=
 ∃ (gs:List Gh) (sl:List (Nat × Nat)) (ps:List Prop) (M1:Mm) (T1:Tm),ghostM gs M = some (ps,M1)∧AllP ps∧nilS sl T M1 = some T1∧Le1 Kn T0 M0 T1 M1
theorem Le.intro {Kn:List Nat} {T0:Tm} {M0:Mm} {T:Tm} {M:Mm} (μ:Nm) {ps qs:List Prop} (h1:slotsSame (fillN μ M0) T0 T = some ps) (h2:AllP ps) (h3:viewsM (fillN μ M0) M M0 = some qs) (h4:AllP qs)
  (h5:leOK Kn (fillN μ M0) M M0 = true):Le Kn T0 M0 T M:=by
 unfold Le;exact ⟨[],[],[],M,T,rfl,trivial,rfl,μ,ps,qs,h1,h2,h3,h4,h5⟩
theorem Le.ghost {Kn:List Nat} {T0:Tm} {M0:Mm} {T:Tm} {M:Mm} (gs:List Gh) (sl:List (Nat × Nat)) (μ:Nm) {rs:List Prop} {M1:Mm} {T1:Tm} (g1:ghostM gs M = some (rs,M1)) (g2:AllP rs) (g3:nilS sl T M1 = some T1)
  {ps qs:List Prop} (h1:slotsSame (fillN μ M0) T0 T1 = some ps) (h2:AllP ps) (h3:viewsM (fillN μ M0) M1 M0 = some qs) (h4:AllP qs) (h5:leOK Kn (fillN μ M0) M1 M0 = true):Le Kn T0 M0 T M:=by
 unfold Le;exact ⟨gs,sl,rs,M1,T1,g1,g2,g3,μ,ps,qs,h1,h2,h3,h4,h5⟩
structure Anch (Kn:List Nat) (ρA ρ:Env):Prop where
 to:∀ k ∈ Kn,ρ.dom k∧ρ.pos k = ρA.pos k
 im:∀ b o ls,ρA.imm b o ls→ρ.imm b o ls
instance (Kn:List Nat) (ρA ρ:Env):CoeFun (Anch Kn ρA ρ) (fun _=>∀ k ∈ Kn,ρ.dom k∧ρ.pos k = ρA.pos k):=⟨Anch.to⟩
theorem Anch.le {Kn:List Nat} {ρA ρ ρ':Env} (h:Anch Kn ρA ρ) (hle:ρ.le ρ'):Anch Kn ρA ρ':=
 ⟨fun k hk=>⟨(hle k (h k hk).1).1,((hle k (h k hk).1).2).trans (h k hk).2⟩,fun b o ls hi=>hle.im b o ls (h.im b o ls hi)⟩
theorem keysOK_get {M M0:Mm}:∀ {μ:Nm},keysOK M M0 μ = true→∀ {k b:Nat} {p:Nat × Option Nat},(k,(b,p)) ∈ μ→isPar M0 k = true∧(getM M b).isSome = true
 | [],_,_,_,_,h=>by simp at h
 | (c,(d,x)) :: r,hk,k,b,p,h=>by
  simp only [keysOK,Bool.and_eq_true] at hk
  rcases List.mem_cons.1 h with e | h
  ·simp only [Prod.mk.injEq] at e
   rw [e.1,e.2.1];exact ⟨hk.1.1,hk.1.2⟩
  ·exact keysOK_get hk.2 h
theorem idOn_get {μ:Nm} {M0:Mm}:∀ {Kn:List Nat},idOn μ M0 Kn = true→∀ k ∈ Kn,look μ k = some (k,0,none)∧isPar M0 k = true
 | [],_,_,h=>by simp at h
 | c :: r,hi,k,h=>by
  simp only [idOn,Bool.and_eq_true] at hi
  rcases List.mem_cons.1 h with rfl | h
  ·obtain ⟨⟨h1,h2⟩,_⟩:=hi
   split at h1
   ·rename_i b hl
    have:=beq_eq' h1
    subst this
    exact ⟨hl,h2⟩
   ·cases h1
  ·exact idOn_get hi.2 k h
theorem slotsSame_sound {μ:Nm} {ρ0 ρ:Env} (hb:Back μ ρ0 ρ) {T:Tm} {tmps:Array Value} (ht:∀ d,RelT ρ (getT T d) (tmps.getD d undef)) :
  ∀ {T0:Tm} {ps:List Prop},slotsSame μ T0 T = some ps→All ps→∀ d,RelT ρ0 (getT T0 d) (tmps.getD d undef)
 | [],_,_,_,d=>RelT_of_Rel trivial
 | (e,v0) :: r,ps,h,hp,d=>by
  simp only [slotsSame] at h
  split at h
  ·rename_i qs hq
   split at h
   ·rename_i rs hrs
    simp only [Option.some.injEq] at h;subst h
    by_cases hde:d = e
    ·subst hde
     rw [getT_cons_self]
     exact RelT_of_Rel (sameA_sound hb hq hp.left (ht d))
    ·rw [getT_cons_ne hde]
     exact slotsSame_sound hb ht hrs hp.right d
   ·cases h
  ·cases h
theorem Le1.sound {Kn:List Nat} {T0:Tm} {M0:Mm} {T:Tm} {M:Mm} (h:Le1 Kn T0 M0 T M) {N:Nat} {ρA ρ:Env} {a:Act} {w:World} (hc:Conc N ρ T M a w) (ha:Anch Kn ρA ρ) :
  ∃ ρ0,Conc N ρ0 T0 M0 a w∧Anch Kn ρA ρ0∧Step ρ M ρ0 M0 w w:=by
 unfold Le1 at h
 obtain ⟨μ0,ps,qs,h1,h2,h3,h4,h5⟩:=h
 generalize fillN μ0 M0 = μ at *
 simp only [leOK,Bool.and_eq_true] at h5
 obtain ⟨⟨hsep,hkeys⟩,hid⟩:=h5
 have hback:Back μ (viewEnv μ M0 ρ) ρ:=by
  constructor
  intro a b g j hl hb
  exact ⟨(keysOK_get hkeys (look_mem hl)).1,by simp only [viewEnv,hl],by simp only [viewEnv,hl]⟩
  exact fun _ _ _ h=>h
 obtain ⟨hM0,hown,_⟩:=view_conc hc.toConcM h3 (AllP_iff h4) hsep hback
 refine ⟨viewEnv μ M0 ρ,⟨hM0,hc.sz,hc.defers,slotsSame_sound hback hc.tm h1 (AllP_iff h2)⟩,⟨fun k hk=>?_,ha.im⟩,?_⟩
 ·obtain ⟨hl,hp⟩:=idOn_get hid k hk
  refine ⟨hp,?_⟩
  simp only [viewEnv,hl,Option.getD_none,Nat.add_zero]
  exact (ha k hk).2
 ·exact ⟨Nat.le_refl _,rfl,rfl,fun _ _ _=>rfl,fun _ _ _ _=>⟨rfl,rfl⟩,fun b o _ ho=>hown b o ho,fun _ _ _ h=>Or.inl h⟩
theorem Le.sound {Kn:List Nat} {T0:Tm} {M0:Mm} {T:Tm} {M:Mm} (h:Le Kn T0 M0 T M) {N:Nat} {ρA ρ:Env} {a:Act} {w:World} (hc:Conc N ρ T M a w) (ha:Anch Kn ρA ρ) :
  ∃ ρ0,Conc N ρ0 T0 M0 a w∧Anch Kn ρA ρ0∧Step ρ M ρ0 M0 w w:=by
 unfold Le at h
 obtain ⟨gs,sl,ps,M1,T1,h1,h2,h3,h4⟩:=h
 obtain ⟨ρ1,k1,k2,k3⟩:=ghostM_sound h1 (AllP_iff h2) hc.toConcM
 obtain ⟨ρ2,m1,m2,m3⟩:=nilS_sound h3 (hc.of_mem k1 k2)
 obtain ⟨ρ0,l1,l2,l3⟩:=h4.sound m2 ((ha.le k1).le m1)
 exact ⟨ρ0,l1,l2,k3.trans (m3.trans l3)⟩
abbrev Post:=Exit→Tm→Mm→Prop
@[irreducible] def Loop (Kn:List Nat) (T:Tm) (M:Mm) (body:Tm→Mm→Post→Prop) (Q:Post):Prop:=
 ∃ (σ:Type) (I:σ→Prop) (S:σ→Tm × Mm) (m:σ→Nat) (s0:σ),I s0∧Le Kn (S s0).1 (S s0).2 T M ∧
  ∀ s,I s→body (S s).1 (S s).2 fun e T' M'=>match e with
   | .normal=>∃ s',I s'∧m s' < m s∧Le Kn (S s').1 (S s').2 T' M'
   | e=>Q e T' M'
theorem Loop.intro {Kn:List Nat} {T:Tm} {M:Mm} {body:Tm→Mm→Post→Prop} {Q:Post} {σ:Type} (I:σ→Prop) (S:σ→Tm × Mm) (m:σ→Nat) (s0:σ) (h0:I s0) (h1:Le Kn (S s0).1 (S s0).2 T M)
  (h2:∀ s,I s→body (S s).1 (S s).2 fun e T' M'=>match e with
   | .normal=>∃ s',I s'∧m s' < m s∧Le Kn (S s').1 (S s').2 T' M'
   | e=>Q e T' M'):Loop Kn T M body Q:=by
 unfold Loop;exact ⟨σ,I,S,m,s0,h0,h1,h2⟩
@[irreducible] def Cut (Kn:List Nat) (T:Tm) (M:Mm) (B:Tm→Mm→Prop):Prop:=
 ∃ (σ:Type) (I:σ→Prop) (S:σ→Tm × Mm) (s0:σ),I s0∧Le Kn (S s0).1 (S s0).2 T M∧∀ s,I s→B (S s).1 (S s).2
theorem Cut.intro {Kn:List Nat} {T:Tm} {M:Mm} {B:Tm→Mm→Prop} {σ:Type} (I:σ→Prop) (S:σ→Tm × Mm) (s0:σ) (h0:I s0) (h1:Le Kn (S s0).1 (S s0).2 T M) (h2:∀ s,I s→B (S s).1 (S s).2):Cut Kn T M B:=by
 unfold Cut;exact ⟨σ,I,S,s0,h0,h1,h2⟩
@[irreducible] def Join (Kn:List Nat) (A:(Tm→Mm→Prop)→Prop) (B:Tm→Mm→Prop):Prop:=
 ∃ (σ:Type) (I:σ→Prop) (S:σ→Tm × Mm),A (fun T M=>∃ s,I s∧Le Kn (S s).1 (S s).2 T M)∧∀ s,I s→B (S s).1 (S s).2
theorem Join.intro {Kn:List Nat} {A:(Tm→Mm→Prop)→Prop} {B:Tm→Mm→Prop} {σ:Type} (I:σ→Prop) (S:σ→Tm × Mm) (h1:A (fun T M=>∃ s,I s∧Le Kn (S s).1 (S s).2 T M)) (h2:∀ s,I s→B (S s).1 (S s).2):Join Kn A B:=by
 unfold Join;exact ⟨σ,I,S,h1,h2⟩
def firstId:Code→Option Nat
 | .region id _ _=>some id
 | .seq a _=>firstId a
 | .block _ c=>firstId c
 | .loop c=>firstId c
 | _=>none
def joinB (Cs:List Nat) (c:Code):Bool:=
 match Cs with
 | []=>false
 | x :: r=>match firstId c with
  | some i=>memB (i + 1000000) (x :: r)
  | none=>false
def seqQ (k:Tm→Mm→Prop) (Q:Post):Post:=fun e T M=>match e with
 | .normal=>k T M
 | e=>Q e T M
def blockQ (id:Nat) (Q:Post):Post:=fun e T M=>match e with
 | .exit i=>bif Nat.beq i id then Q .normal T M else Q (.exit i) T M
 | e=>Q e T M
def regionP (Γ:Cfg) (id:Nat) (ops:Array Oper) (draw:Bool) (T:Tm) (M:Mm) (K:Tm→Mm→Prop):Prop:=
 match draw with
 | false=>runOps Γ ops.toList ops.toList T M [] K
 | true=>Draw Γ id ops.toList T M K
def exec (Γ:Cfg) (Cs Kn:List Nat) (c:Code) (T:Tm) (M:Mm) (Q:Post):Prop:=
 match c with
 | .skip=>Q .normal T M
 | .region id ops draw=>match memB id Cs with
  | false=>regionP Γ id ops draw T M (Q .normal)
  | true=>Cut Kn T M fun T' M'=>regionP Γ id ops draw T' M' (Q .normal)
 | .seq a b=>match joinB Cs b with
  | false=>exec Γ Cs Kn a T M (seqQ (fun T' M'=>exec Γ Cs Kn b T' M' Q) Q)
  | true=>Join Kn (fun J=>exec Γ Cs Kn a T M (seqQ J Q)) (fun T' M'=>exec Γ Cs Kn b T' M' Q)
 | .cond c x y=>match ev T c with
  | .tt=>exec Γ Cs Kn x T M Q
  | .ff=>exec Γ Cs Kn y T M Q
  | .bool p=>Branch p (exec Γ Cs Kn x T M Q) (exec Γ Cs Kn y T M Q)
  | _=>False
 | .block id c=>exec Γ Cs Kn c T M (blockQ id Q)
 | .loop c=>Loop Kn T M (fun T' M' Q'=>exec Γ Cs Kn c T' M' Q') Q
 | .exit id=>Q (.exit id) T M
 | .ret=>Q .ret T M
 | .label _=>Q .normal T M
 | .goto l=>Q (.goto l) T M
 | _=>False
def codeOK (N:Nat):Code→Bool
 | .region _ ops _=>dstOK N ops.toList
 | .seq a b=>codeOK N a && codeOK N b
 | .cond _ x y=>codeOK N x && codeOK N y
 | .block _ c=>codeOK N c
 | .loop c=>codeOK N c
 | _=>true
def Ended (N:Nat) (Kn:List Nat) (ρA ρ:Env) (M:Mm) (w:World) (Q:Post):Exit→Act→World→Prop:=
 fun e a' w'=>∃ ρ' T' M',Q e T' M'∧Conc N ρ' T' M' a' w'∧Anch Kn ρA ρ'∧Step ρ M ρ' M' w w'
theorem wp_loop_n {P:Program} {Q:Exit→Act→World→Prop} {c:Code} (I:Nat→Act→World→Prop)
  (round:∀ n a w,I n a w→c.wp P (Exit.then (fun a' w'=>∃ n',n' < n∧I n' a' w') Q) a w):∀ n a w,I n a w→(Code.loop c).wp P Q a w:=by
 intro n a w h0 b k cs
 have key:∀ n a w,I n a w→∃ e a' w',Q e a' w'∧Arrives P (lone (b.at a (.code c :: .inLoop c :: k)) cs w) b k cs e a' w':=by
  intro n
  induction n using Nat.strongRecOn with
  | _ n ih=>
   intro a w hI
   obtain ⟨e,a₁,w₁,hq,harr⟩:=round n a w hI b (.inLoop c :: k) cs
   cases e with
   | normal=>
    obtain ⟨n',hlt,hI₁⟩:=hq
    obtain ⟨e₂,a₂,w₂,hq₂,harr₂⟩:=ih n' hlt a₁ w₁ hI₁
    exact ⟨e₂,a₂,w₂,hq₂,.of_steps (Steps.trans harr (.one step_inLoop)) harr₂⟩
   | exit id=>exact ⟨_,a₁,w₁,hq,.pass (x:=.inLoop c) rfl (fun _ _=>.inl (by simp)) harr⟩
   | goto l=>exact ⟨_,a₁,w₁,hq,.pass (x:=.inLoop c) rfl (fun _ _=>.inl (by simp)) harr⟩
   | ret=>exact ⟨_,a₁,w₁,hq,.pass (x:=.inLoop c) rfl (fun _ _=>.inl (by simp)) harr⟩
   | panic ch=>exact ⟨_,a₁,w₁,hq,.pass (x:=.inLoop c) rfl (fun _ _=>.inl (by simp)) harr⟩
   | outgrown=>exact ⟨_,a₁,w₁,hq,.pass (x:=.inLoop c) rfl (fun _ _=>.inl (by simp)) harr⟩
 obtain ⟨e,a',w',hq,harr⟩:=key n a w h0
 exact ⟨e,a',w',hq,.of_steps (.one step_loop) harr⟩
theorem regionP_sound {Γ:Cfg} {N:Nat} {Kn:List Nat} {ρA:Env} {id:Nat} {ops:Array Oper} {draw:Bool} (hok:dstOK N ops.toList = true) {T:Tm} {M:Mm} {Q:Post} {ρ:Env} {a:Act} {w:World}
  (h:regionP Γ id ops draw T M (Q .normal)) (hc:Conc N ρ T M a w) (ha:Anch Kn ρA ρ):(Code.region id ops draw).wp Γ.P (Ended N Kn ρA ρ M w Q) a w:=by
 cases draw with
 | false=>
  refine wp_region_list ?_
  have e:ops = ops.toList.toArray:=by simp
  rw [e]
  have:=runOps_sound (Γ:=Γ) (N:=N) (all:=ops.toList) hok (K:=Q .normal) (Q:=Ended N Kn ρA ρ M w Q) ops.toList (fun o ho=>ho) hc h (fun a' w' ⟨ρ',T',M',h1,h2,h3,h4⟩=>⟨ρ',T',M',h1,h3,ha.le h2,h4⟩)
  simpa using this
 | true=>
  simp only [regionP] at h
  have e:ops = ops.toList.toArray:=by simp
  rw [e]
  exact Draw.sound (Γ:=Γ) (N:=N) hok h hc fun a' w' ⟨ρ',T',M',h1,h2,h3,h4⟩=>⟨ρ',T',M',h1,h3,ha.le h2,h4⟩
theorem exec_sound {Γ:Cfg} {N:Nat} {Cs Kn:List Nat} {ρA:Env}:∀ {c:Code},codeOK N c = true→∀ {T:Tm} {M:Mm} {Q:Post} {ρ:Env} {a:Act} {w:World},exec Γ Cs Kn c T M Q→Conc N ρ T M a w→Anch Kn ρA ρ →
  c.wp Γ.P (Ended N Kn ρA ρ M w Q) a w:=by
 intro c
 induction c with
 | skip=>intro _ T M Q ρ a w h hc ha;exact wp_skip ⟨ρ,T,M,h,hc,ha,Step.refl _ _ _⟩
 | region id ops draw=>
  intro hok T M Q ρ a w h hc ha
  unfold exec at h
  split at h
  ·exact regionP_sound hok h hc ha
  ·unfold Cut at h
   obtain ⟨σ,I,S,s0,h0,h1,h2⟩:=h
   obtain ⟨ρ0,hc0,ha0,hst0⟩:=h1.sound hc ha
   refine wp_mono (regionP_sound hok (h2 s0 h0) hc0 ha0) ?_
   rintro e a' w' ⟨ρ',T',M',g1,g2,g3,g4⟩
   exact ⟨ρ',T',M',g1,g2,g3,hst0.trans g4⟩
 | seq x y ihx ihy=>
  intro hok T M Q ρ a w h hc ha
  simp only [codeOK,Bool.and_eq_true] at hok
  simp only [exec] at h
  split at h
  ·refine wp_seq (wp_mono (ihx hok.1 h hc ha) ?_)
   rintro e a' w' ⟨ρ',T',M',h1,h2,h3,h4⟩
   cases e with
   | normal=>
    refine wp_mono (ihy hok.2 h1 h2 h3) ?_
    rintro e a'' w'' ⟨ρ'',T'',M'',g1,g2,g3,g4⟩
    exact ⟨ρ'',T'',M'',g1,g2,g3,h4.trans g4⟩
   | _=>exact ⟨ρ',T',M',h1,h2,h3,h4⟩
  ·unfold Join at h
   obtain ⟨σ,I,S,hA,hB⟩:=h
   refine wp_seq (wp_mono (ihx hok.1 hA hc ha) ?_)
   rintro e a' w' ⟨ρ',T',M',h1,h2,h3,h4⟩
   cases e with
   | normal=>
    obtain ⟨s,hs,hle⟩:=h1
    obtain ⟨ρ0,hc0,ha0,hst0⟩:=hle.sound h2 h3
    refine wp_mono (ihy hok.2 (hB s hs) hc0 ha0) ?_
    rintro e a'' w'' ⟨ρ'',T'',M'',g1,g2,g3,g4⟩
    exact ⟨ρ'',T'',M'',g1,g2,g3,(h4.trans hst0).trans g4⟩
   | _=>exact ⟨ρ',T',M',h1,h2,h3,h4⟩
 | cond c x y ihx ihy=>
  intro hok T M Q ρ a w h hc ha
  simp only [codeOK,Bool.and_eq_true] at hok
  have hr:=ev_rel hc c
  simp only [exec] at h
  split at h
  ·rename_i he;rw [he] at hr
   exact wp_cond_true hr (ihx hok.1 h hc ha)
  ·rename_i he;rw [he] at hr
   exact wp_cond_false hr (ihy hok.2 h hc ha)
  ·rename_i p he;rw [he] at hr
   obtain ⟨b,hb,hbp⟩:=hr
   cases b with
   | true=>exact wp_cond_true hb (ihx hok.1 (h.yes (hbp.1 rfl)) hc ha)
   | false=>exact wp_cond_false hb (ihy hok.2 (h.no fun hp=>by have:=hbp.2 hp;cases this) hc ha)
  ·exact h.elim
 | block id c ih=>
  intro hok T M Q ρ a w h hc ha
  refine wp_block (wp_mono (ih hok h hc ha) ?_)
  rintro e a' w' ⟨ρ',T',M',h1,h2,h3,h4⟩
  cases e with
  | exit i=>
   simp only [blockQ] at h1
   simp only [Exit.inBlock]
   by_cases hi:i = id
   ·subst hi
    rw [show Nat.beq i i = true from Nat.beq_refl i,cond_true] at h1
    rw [if_pos rfl]
    exact ⟨ρ',T',M',h1,h2,h3,h4⟩
   ·have:Nat.beq i id = false:=by
     cases hb:Nat.beq i id with
     | false=>rfl
     | true=>exact absurd (beq_eq' hb) hi
    rw [this,cond_false] at h1
    rw [if_neg hi]
    exact ⟨ρ',T',M',h1,h2,h3,h4⟩
  | _=>exact ⟨ρ',T',M',h1,h2,h3,h4⟩
 | loop c ih=>
  intro hok T M Q ρ a w h hc ha
  simp only [exec] at h
  unfold Loop at h
  obtain ⟨σ,I,S,m,s0,h0,h1,h2⟩:=h
  obtain ⟨ρ0,hc0,ha0,hst0⟩:=h1.sound hc ha
  refine wp_loop_n (fun n a' w'=>∃ s ρs,n = m s∧I s∧Conc N ρs (S s).1 (S s).2 a' w'∧Anch Kn ρA ρs∧Step ρ M ρs (S s).2 w w') ?_ (m s0) a w ⟨s0,ρ0,rfl,h0,hc0,ha0,hst0⟩
  rintro n a' w' ⟨s,ρs,rfl,hI,hcs,has,hsts⟩
  refine wp_mono (ih hok (h2 s hI) hcs has) ?_
  rintro e a'' w'' ⟨ρ',T',M',g1,g2,g3,g4⟩
  cases e with
  | normal=>
   obtain ⟨s',hI',hlt,hle⟩:=g1
   obtain ⟨ρ'',hc'',ha'',hst''⟩:=hle.sound g2 g3
   exact ⟨m s',hlt,s',ρ'',rfl,hI',hc'',ha'',hsts.trans (g4.trans hst'')⟩
  | _=>exact ⟨ρ',T',M',g1,g2,g3,hsts.trans g4⟩
 | exit id=>intro _ T M Q ρ a w h hc ha;exact wp_exit ⟨ρ,T,M,h,hc,ha,Step.refl _ _ _⟩
 | ret=>intro _ T M Q ρ a w h hc ha;exact wp_ret ⟨ρ,T,M,h,hc,ha,Step.refl _ _ _⟩
 | label l=>intro _ T M Q ρ a w h hc ha;exact wp_label ⟨ρ,T,M,h,hc,ha,Step.refl _ _ _⟩
 | goto l=>intro _ T M Q ρ a w h hc ha;exact wp_goto ⟨ρ,T,M,h,hc,ha,Step.refl _ _ _⟩
 | _=>intro _ T M Q ρ a w h;exact h.elim
end Go.Sx
namespace Go.Sx
open Go
def resV (Γ:Cfg) (T:Tm) (M:Mm) (r:ResultVar):Option (List Prop × SV):=
 match r with
 | .tmp t=>match getT T t with
  | .und=>none
  | .tup _=>none
  | v=>some ([],v)
 | .cell a t=>match getT T a with
  | .ptr b f i=>loadM M b f i (Γ.ty t)
  | _=>none
def resVs (Γ:Cfg) (T:Tm) (M:Mm) (rs:List ResultVar):Option (List Prop × List SV):=
 match rs with
 | []=>some ([],[])
 | r :: q=>match resV Γ T M r with
  | some (ps,v)=>match resVs Γ T M q with
   | some (qs,vs)=>some (ps ++ qs,v :: vs)
   | none=>none
  | none=>none
def oneOf (vs:List SV):SV:=
 match vs with
 | [v]=>v
 | vs=>.tup vs
def sameR (μ:Nm) (v0 v:SV):Option (List Prop):=
 match v0 with
 | .tup l0=>match v with
  | .tup l=>argsSame μ l0 l
  | _=>none
 | v0=>match v with
  | .tup _=>none
  | v=>sameA μ v0 v
def Ret1 (Γ:Cfg) (Kn:List Nat) (rs:List ResultVar) (T:Tm) (M:Mm) (R:SV→Mm→Prop):Prop:=
 ∃ ps vs v0 M0 μ qs us,resVs Γ T M rs = some (ps,vs)∧AllP ps∧R v0 M0∧sameR (fillN μ M0) v0 (oneOf vs) = some qs∧AllP qs∧viewsM (fillN μ M0) M M0 = some us∧AllP us∧leOK Kn (fillN μ M0) M M0 = true
@[irreducible] def Ret (Γ:Cfg) (Kn:List Nat) (rs:List ResultVar) (T:Tm) (M:Mm) (R:SV→Mm→Prop):Prop:=
 ∃ (gs:List Gh) (sl:List (Nat × Nat)) (ps:List Prop) (M1:Mm) (T1:Tm),ghostM gs M = some (ps,M1)∧AllP ps∧nilS sl T M1 = some T1∧Ret1 Γ Kn rs T1 M1 R
theorem Ret.ghost {Γ:Cfg} {Kn:List Nat} {rs:List ResultVar} {T:Tm} {M:Mm} {R:SV→Mm→Prop} (gs:List Gh) (sl:List (Nat × Nat)) {ts:List Prop} {M1:Mm} {T1:Tm} (g1:ghostM gs M = some (ts,M1)) (g2:AllP ts) (g3:nilS sl T M1 = some T1)
  {ps:List Prop} {vs:List SV} (v0:SV) (M0:Mm) (μ:Nm) {qs us:List Prop}
  (h1:resVs Γ T1 M1 rs = some (ps,vs)) (h2:AllP ps) (h3:R v0 M0) (h4:sameR (fillN μ M0) v0 (oneOf vs) = some qs) (h5:AllP qs) (h6:viewsM (fillN μ M0) M1 M0 = some us) (h7:AllP us)
  (h8:leOK Kn (fillN μ M0) M1 M0 = true):Ret Γ Kn rs T M R:=by
 unfold Ret;exact ⟨gs,sl,ts,M1,T1,g1,g2,g3,ps,vs,v0,M0,μ,qs,us,h1,h2,h3,h4,h5,h6,h7,h8⟩
theorem Ret.intro {Γ:Cfg} {Kn:List Nat} {rs:List ResultVar} {T:Tm} {M:Mm} {R:SV→Mm→Prop} {ps:List Prop} {vs:List SV} (v0:SV) (M0:Mm) (μ:Nm) {qs us:List Prop}
  (h1:resVs Γ T M rs = some (ps,vs)) (h2:AllP ps) (h3:R v0 M0) (h4:sameR (fillN μ M0) v0 (oneOf vs) = some qs) (h5:AllP qs) (h6:viewsM (fillN μ M0) M M0 = some us) (h7:AllP us)
  (h8:leOK Kn (fillN μ M0) M M0 = true):Ret Γ Kn rs T M R:=by
 unfold Ret;exact ⟨[],[],[],M,T,rfl,trivial,rfl,ps,vs,v0,M0,μ,qs,us,h1,h2,h3,h4,h5,h6,h7,h8⟩
def retQ (Γ:Cfg) (Kn:List Nat) (rs:List ResultVar) (R:SV→Mm→Prop):Post:=fun e T M=>match e with
 | .ret=>Ret Γ Kn rs T M R
 | .normal=>Ret Γ Kn rs T M R
 | _=>False
def paramsFrom (i:Nat):List SV→Tm
 | []=>[]
 | v :: r=>(i,v) :: paramsFrom (i + 1) r
def keysM:Mm→List Nat
 | []=>[]
 | (k,_) :: r=>k :: keysM r
theorem keysM_mem:∀ {M:Mm} {a:Nat} {e:Ent},getM M a = some e→a ∈ keysM M
 | [],_,_,h=>by simp [getM] at h
 | (b,e') :: r,a,e,h=>by
  simp only [keysM,List.mem_cons]
  by_cases hab:a = b
  ·exact Or.inl hab
  ·rw [getM_cons_ne hab] at h
   exact Or.inr (keysM_mem h)
theorem keysM_get:∀ {M:Mm} {a:Nat},a ∈ keysM M→∃ e,getM M a = some e
 | [],_,h=>by simp [keysM] at h
 | (b,e') :: r,a,h=>by
  by_cases hab:a = b
  ·subst hab;exact ⟨_,getM_cons_self _ _ _⟩
  ·rw [getM_cons_ne hab]
   simp only [keysM,List.mem_cons] at h
   exact keysM_get (h.resolve_left hab)
theorem paramsFrom_rel {ρ:Env}:∀ {vs:List SV} {xs:List Value} (i:Nat) (tmps:Array Value),RelL ρ vs xs→(∀ j x,xs[j]? = some x→tmps[i + j]? = some x)→∀ d,RelT ρ (getT (paramsFrom i vs) d) (tmps.getD d undef)
 | [],_,_,_,_,_,_=>RelT_of_Rel trivial
 | v :: r,xs,i,tmps,⟨x,ys,e,h1,h2⟩,ht,d=>by
  subst e
  simp only [paramsFrom]
  by_cases hd:d = i
  ·subst hd
   rw [getT_cons_self]
   have:=ht 0 x rfl
   rw [Nat.add_zero] at this
   rw [Array.getD_eq_getD_getElem?,this]
   exact RelT_of_Rel h1
  ·rw [getT_cons_ne hd]
   exact paramsFrom_rel (i + 1) tmps h2 (fun j y hj=>by
    have:=ht (j + 1) y (by simpa using hj)
    rw [show i + 1 + j = i + (j + 1) by omega];exact this) d
theorem RelL_length {ρ:Env}:∀ {vs:List SV} {xs:List Value},RelL ρ vs xs→xs.length = vs.length
 | [],xs,h=>by simp only [RelL] at h;subst h;rfl
 | _ :: _,_,⟨_,_,e,_,h⟩=>by subst e;simp [RelL_length h]
def resSem (tmps:Array Value):ResultVar→Sem Value
 | .tmp t=>pure (tmps.getD t undef)
 | .cell b t=>do loadVar t (← asAddr (tmps.getD b undef))
theorem results_resSem (fn:Func) (tmps:Array Value):results fn tmps = (do
  let out ← fn.results.mapM (resSem tmps)
  pure (if h:out.size = 1 then out[0] else .tuple out)):=by
 unfold results
 congr 1
theorem resV_sound {Γ:Cfg} {N:Nat} {ρ:Env} {T:Tm} {M:Mm} {a:Act} {w:World} (hc:Conc N ρ T M a w) {r:ResultVar} {ps:List Prop} {v:SV} (h:resV Γ T M r = some (ps,v)) (hp:All ps) :
  ∃ x,Rel ρ v x∧(resSem a.tmps r).run Γ.P w = .ok x w:=by
 unfold resV at h
 split at h
 ·rename_i t
  have hr:=hc.tm t
  split at h
  ·cases h
  ·cases h
  ·rename_i h1 h2
   simp only [Option.some.injEq,Prod.mk.injEq] at h;obtain ⟨rfl,rfl⟩:=h
   exact ⟨_,hr.s h2,rfl⟩
 ·rename_i b t
  have hr:=hc.tm b
  split at h
  ·rename_i d f i he
   rw [he] at hr
   obtain ⟨x,hx,hrun⟩:=loadM_sound hc.toConcM h hp
   exact ⟨x,hx,by simp only [resSem,hr.2,asAddr,Sem.run_bind,Sem.run_pure,Result.andThen_ok,hrun]⟩
  ·cases h
theorem resVs_sound {Γ:Cfg} {N:Nat} {ρ:Env} {T:Tm} {M:Mm} {a:Act} {w:World} (hc:Conc N ρ T M a w):∀ {rs:List ResultVar} {ps:List Prop} {vs:List SV},resVs Γ T M rs = some (ps,vs)→All ps →
  ∃ xs,RelL ρ vs xs∧(rs.mapM (resSem a.tmps)).run Γ.P w = .ok xs w
 | [],ps,vs,h,_=>by
  simp only [resVs,Option.some.injEq,Prod.mk.injEq] at h;obtain ⟨rfl,rfl⟩:=h
  exact ⟨[],rfl,rfl⟩
 | r :: q,ps,vs,h,hp=>by
  simp only [resVs] at h
  split at h
  ·rename_i qs v hv
   split at h
   ·rename_i us ws hws
    simp only [Option.some.injEq,Prod.mk.injEq] at h;obtain ⟨rfl,rfl⟩:=h
    obtain ⟨x,hx,h1⟩:=resV_sound hc hv hp.left
    obtain ⟨xs,hxs,h2⟩:=resVs_sound hc hws hp.right
    refine ⟨x :: xs,⟨x,xs,rfl,hx,hxs⟩,?_⟩
    rw [List.mapM_cons]
    simp only [Sem.run_bind]
    rw [h1]
    simp only [Result.andThen_ok]
    rw [h2]
    rfl
   ·cases h
  ·cases h
theorem sameR_sound {μ:Nm} {ρ0 ρ:Env} (hb:Back μ ρ0 ρ) {v0 v:SV} {ps:List Prop} (h:sameR μ v0 v = some ps) (hp:All ps) {x:Value} (hr:RelT ρ v x):RelT ρ0 v0 x:=by
 have conv:∀ {l:List SV} {xs:List Value},RelL ρ l xs→RelTL ρ l xs:=by
  intro l
  induction l with
  | nil=>intro xs h;exact h
  | cons v r ih=>intro xs ⟨x,ys,e,h1,h2⟩;exact ⟨x,ys,e,RelT_of_Rel h1,ih h2⟩
 unfold sameR at h
 split at h
 ·split at h
  ·obtain ⟨xs,h1,e⟩:=hr
   exact ⟨xs,argsSame_sound hb h hp (conv h1),e⟩
  ·cases h
 ·split at h
  ·cases h
  ·exact RelT_of_Rel (sameA_sound hb h hp hr)
theorem ret1_sound {Γ:Cfg} {N:Nat} {Kn:List Nat} {ρA ρ:Env} {rs:List ResultVar} {T:Tm} {M:Mm} {R:SV→Mm→Prop} {a:Act} {w:World} (hc:Conc N ρ T M a w) (ha:Anch Kn ρA ρ) (h:Ret1 Γ Kn rs T M R)
  {fn:Func} (hrs:fn.results.toList = rs) :
  ∃ x v ρ' M',(results fn a.tmps).run Γ.P w = .ok x w∧RelT ρ' v x∧R v M'∧ConcM ρ' M' w∧Anch Kn ρA ρ'∧Step ρ M ρ' M' w w:=by
 obtain ⟨ps,vs,v0,M0,μ0,qs,us,h1,h2,h3,h4,h5,h6,h7,h8⟩:=h
 generalize fillN μ0 M0 = μ at *
 simp only [leOK,Bool.and_eq_true] at h8
 obtain ⟨⟨hsep,hkeys⟩,hid⟩:=h8
 have hback:Back μ (viewEnv μ M0 ρ) ρ:=by
  constructor
  intro a b g j hl hb
  exact ⟨(keysOK_get hkeys (look_mem hl)).1,by simp only [viewEnv,hl],by simp only [viewEnv,hl]⟩
  exact fun _ _ _ h=>h
 obtain ⟨hM0,hown,_⟩:=view_conc hc.toConcM h6 (AllP_iff h7) hsep hback
 obtain ⟨xs,hxs,hrun⟩:=resVs_sound hc h1 (AllP_iff h2)
 have hlen:=RelL_length hxs
 have hrun2:(results fn a.tmps).run Γ.P w = .ok (if h:xs.toArray.size = 1 then xs.toArray[0] else .tuple xs.toArray) w:=by
  rw [results_resSem,Sem.run_bind]
  have e:fn.results = rs.toArray:=by rw [← hrs]
  rw [e,List.mapM_toArray,Sem.run_map,hrun]
  simp only [Result.andThen_ok]
  rfl
 have hone:RelT ρ (oneOf vs) (if h:xs.toArray.size = 1 then xs.toArray[0] else .tuple xs.toArray):=by
  unfold oneOf
  split
  ·rename_i v
   obtain ⟨x,ys,e,hx,hy⟩:=hxs
   simp only [RelL] at hy
   subst hy;subst e
   exact RelT_of_Rel hx
  ·rename_i hne
   rw [dif_neg (by
    simp only [List.size_toArray,hlen]
    intro h1
    match vs,h1 with
    | [v],_=>exact hne v rfl)]
   exact ⟨xs,hxs,rfl⟩
 refine ⟨_,v0,viewEnv μ M0 ρ,M0,hrun2,sameR_sound hback h4 (AllP_iff h5) hone,h3,hM0,⟨fun k hk=>?_,ha.im⟩,⟨Nat.le_refl _,rfl,rfl,fun _ _ _=>rfl,fun _ _ _ _=>⟨rfl,rfl⟩,fun b o _ ho=>hown b o ho,fun _ _ _ h=>Or.inl h⟩⟩
 obtain ⟨hl,hp⟩:=idOn_get hid k hk
 refine ⟨hp,?_⟩
 simp only [viewEnv,hl,Option.getD_none,Nat.add_zero]
 exact (ha k hk).2
theorem ret_sound {Γ:Cfg} {N:Nat} {Kn:List Nat} {ρA ρ:Env} {rs:List ResultVar} {T:Tm} {M:Mm} {R:SV→Mm→Prop} {a:Act} {w:World} (hc:Conc N ρ T M a w) (ha:Anch Kn ρA ρ) (h:Ret Γ Kn rs T M R)
  {fn:Func} (hrs:fn.results.toList = rs) :
  ∃ x v ρ' M',(results fn a.tmps).run Γ.P w = .ok x w∧RelT ρ' v x∧R v M'∧ConcM ρ' M' w∧Anch Kn ρA ρ'∧Step ρ M ρ' M' w w:=by
 unfold Ret at h
 obtain ⟨gs,sl,ts,M1,T1,g1,g2,g3,h⟩:=h
 obtain ⟨ρ1,k1,k2,k3⟩:=ghostM_sound g1 (AllP_iff g2) hc.toConcM
 obtain ⟨ρ2,m1,m2,m3⟩:=nilS_sound g3 (hc.of_mem k1 k2)
 obtain ⟨x,v,ρ',M',r1,r2,r3,r4,r5,r6⟩:=ret1_sound m2 ((ha.le k1).le m1) h hrs
 exact ⟨x,v,ρ',M',r1,r2,r3,r4,r5,k3.trans (m3.trans r6)⟩
theorem fn_cut (Cs:List Nat) {Γ:Cfg} {f:FuncId} {fn:Func} {c:Code} {args:List SV} {M0:Mm} {R:SV→Mm→Prop} (hf:Γ.P.funcs[f]? = some fn) (hb:fn.body = some c)
  (hok:codeOK fn.ntmps c = true) (hn:Nat.ble args.length fn.ntmps = true) (h:exec Γ Cs (keysM M0) c (paramsFrom 0 args) M0 (retQ Γ (keysM M0) fn.results.toList R)):Fn Γ.P f args M0 R:=by
 intro ρ xs w hM hargs
 refine calls_of_wp hf hb ?_
 have hlen:=RelL_length hargs
 have hle:=ble_le' hn
 have hc:Conc fn.ntmps ρ (paramsFrom 0 args) M0 { tmps:=xs.toArray ++ Array.replicate (fn.ntmps - xs.toArray.size) undef,defers:=[] } w:=by
  refine ⟨hM,by simp;omega,rfl,paramsFrom_rel 0 _ hargs fun j x hj=>?_⟩
  have hlt:=(List.getElem?_eq_some_iff.1 hj).1
  rw [Nat.zero_add,Array.getElem?_append_left (by simpa using hlt)]
  simpa using hj
 have ha:Anch (keysM M0) ρ ρ:=by
  refine ⟨fun k hk=>?_,fun _ _ _ h=>h⟩
  obtain ⟨e,he⟩:=keysM_get hk
  exact ⟨hM.mod k e he,rfl⟩
 refine wp_mono (exec_sound hok h hc ha) ?_
 rintro e a' w' ⟨ρ',T',M',h1,h2,h3,h4⟩
 have fin:Ret Γ (keysM M0) fn.results.toList T' M' R→a'.defers = []∧∃ v,(results fn a'.tmps).run Γ.P w' = .ok v w'∧∃ v' x ρ' M',Ending.returned v = .returned x∧RelT ρ' v' x∧R v' M'∧ρ.le ρ'∧ConcM ρ' M' w'∧Step ρ M0 ρ' M' w w':=by
  intro hr
  obtain ⟨x,v,ρ2,M2,r1,r2,r3,r4,r5,r6⟩:=ret_sound h2 h3 hr rfl
  refine ⟨h2.defers,x,r1,v,x,ρ2,M2,rfl,r2,r3,⟨fun k hk=>?_,r5.im⟩,r4,h4.trans r6⟩
  obtain ⟨e,he⟩:=hM.dom k hk
  exact r5 k (keysM_mem he)
 cases e with
 | normal=>exact fin h1
 | ret=>exact fin h1
 | _=>exact h1.elim
theorem fn_of {Γ:Cfg} {f:FuncId} {fn:Func} {c:Code} {args:List SV} {M0:Mm} {R:SV→Mm→Prop} (hf:Γ.P.funcs[f]? = some fn) (hb:fn.body = some c)
  (hok:codeOK fn.ntmps c = true) (hn:Nat.ble args.length fn.ntmps = true) (h:exec Γ [] (keysM M0) c (paramsFrom 0 args) M0 (retQ Γ (keysM M0) fn.results.toList R)):Fn Γ.P f args M0 R:=
 fn_cut [] hf hb hok hn h
theorem Fn.mono {P:Program} {f:FuncId} {args:List SV} {M0:Mm} {R R':SV→Mm→Prop} (h:Fn P f args M0 R) (hr:∀ v M,R v M→R' v M):Fn P f args M0 R':=by
 intro ρ xs w hM ha
 refine (h ρ xs w hM ha).mono ?_
 rintro e w' ⟨v,x,ρ',M',h1,h2,h3,h4⟩
 exact ⟨v,x,ρ',M',h1,h2,hr _ _ h3,h4⟩
theorem AllP.one {p:Prop} (h:p):AllP [p]:=h
theorem AllP.of:∀ {ps:List Prop},All ps→AllP ps
 | [],_=>trivial
 | [_],h=>h.head
 | _ :: _ :: _,h=>⟨h.head,AllP.of h.tail⟩
theorem AllP.cons {p:Prop} {r:List Prop} (h:p) (k:AllP r):AllP (p :: r):=AllP.of fun q hq=>by
 rcases List.mem_cons.1 hq with e | hq
 ·rw [e];exact h
 ·exact AllP_iff k q hq
theorem AllP.app {a b:List Prop} (h:AllP a) (k:AllP b):AllP (a ++ b):=AllP.of fun q hq=>(List.mem_append.1 hq).elim (AllP_iff h q) (AllP_iff k q)
theorem AllP.appd {a b:List Prop} (h:AllP a) (k:AllP b):AllP (a.append b):=AllP.app h k
end Go.Sx
namespace Go.Sx
open Go
end Go.Sx
