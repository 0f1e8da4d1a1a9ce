/- A symbolic executor over the code of this model: part 6. No condition. -/
import Derived.Test.YtimbdhpchlakfaaHx5
import Derived.Test.YtimbdhpchlakfaaHx3
import Derived.Tactics
import Derived.Laws.Externs
set_option linter.unusedSimpArgs false
set_option linter.unusedVariables false
namespace Go.Sx
open Go
@[irreducible] def Side (ps:List Prop) (K:Prop):Prop:=AllP ps∧K
theorem Side.intro {ps:List Prop} {K:Prop} (h:AllP ps) (k:K):Side ps K:=by unfold Side;exact ⟨h,k⟩
theorem Side.all {ps:List Prop} {K:Prop} (h:Side ps K):All ps:=by unfold Side at h;exact AllP_iff h.1
theorem Side.rest {ps:List Prop} {K:Prop} (h:Side ps K):K:=by unfold Side at h;exact h.2
def withP (ps:List Prop) (K:Prop):Prop:=
 match ps with
 | []=>K
 | p :: r=>Side (p :: r) K
theorem withP.all {ps:List Prop} {K:Prop} (h:withP ps K):All ps:=by
 cases ps with
 | nil=>exact All.nil
 | cons p r=>exact Side.all h
theorem withP.rest {ps:List Prop} {K:Prop} (h:withP ps K):K:=by
 cases ps with
 | nil=>exact h
 | cons p r=>exact Side.rest h
@[irreducible] def Branch (p A B:Prop):Prop:=(p→A)∧(¬ p→B)
theorem Branch.intro {p A B:Prop} (h:p→A) (k:¬ p→B):Branch p A B:=by unfold Branch;exact ⟨h,k⟩
theorem Branch.yes {p A B:Prop} (h:Branch p A B) (hp:p):A:=by unfold Branch at h;exact h.1 hp
theorem Branch.no {p A B:Prop} (h:Branch p A B) (hp:¬ p):B:=by unfold Branch at h;exact h.2 hp
@[irreducible] def Call (P:Program) (f:FuncId) (args:List SV) (M:Mm) (K:SV→Mm→Prop):Prop:=CallX P f args M K
theorem Call.out {P:Program} {f:FuncId} {args:List SV} {M:Mm} {K:SV→Mm→Prop} (h:Call P f args M K):CallX P f args M K:=by unfold Call at h;exact h
theorem Call.name {P:Program} {f:FuncId} {args:List SV} {M:Mm} {K:SV→Mm→Prop} (nms:List (Nat × List (Nat × SV))) {ps:List Prop} {args':List SV} {M':Mm} (h1:nameA nms args M = some (ps,args',M')) (h2:AllP ps)
  (h3:CallP P f args' M' K):Call P f args M K:=by
 unfold Call;exact ⟨nms,ps,args',M',h1,h2,h3⟩
theorem CallP.intro {P:Program} {f:FuncId} {args:List SV} {M:Mm} {K:SV→Mm→Prop} {args0:List SV} {M0:Mm} {R:SV→Mm→Prop} (h:Fn P f args0 M0 R) (μ:Nm) {ps qs:List Prop}
  (h1:argsSame μ args0 args = some ps) (h2:AllP ps) (h3:viewsM μ M M0 = some qs) (h4:AllP qs) (h5:namesOK μ M M0 = true) (h6:∀ v M',R v M'→K (ren μ v) (afterM μ M M0 M' μ)) :
  CallP P f args M K:=⟨args0,M0,R,μ,ps,qs,h,h1,h2,h3,h4,h5,h6⟩
theorem Call.intro {P:Program} {f:FuncId} {args:List SV} {M:Mm} {K:SV→Mm→Prop} {args0:List SV} {M0:Mm} {R:SV→Mm→Prop} (h:Fn P f args0 M0 R) (μ:Nm) {ps qs:List Prop}
  (h1:argsSame μ args0 args = some ps) (h2:AllP ps) (h3:viewsM μ M M0 = some qs) (h4:AllP qs) (h5:namesOK μ M M0 = true) (h6:∀ v M',R v M'→K (ren μ v) (afterM μ M M0 M' μ)) :
  Call P f args M K:=by
 unfold Call;exact ⟨[],[],args,M,rfl,trivial,args0,M0,R,μ,ps,qs,h,h1,h2,h3,h4,h5,h6⟩
theorem Call.pure {P:Program} {f:FuncId} {args args0:List SV} {M:Mm} {K:SV→Mm→Prop} {R:SV→Prop} (h:Fn P f args0 [] (fun v _=>R v)) {ps:List Prop}
  (h1:argsSame [] args0 args = some ps) (h2:AllP ps) (h6:∀ v,R v→K (ren [] v) M):Call P f args M K:=
 Call.intro h [] h1 h2 rfl trivial rfl fun v _ hR=>h6 v hR
def callOK (P:Program) (g:FuncId):Bool:=
 match P.funcs[g]? with
 | some fn => !(fn.name == "runtime.NumGoroutine") && fn.body.isSome
 | none=>false
inductive ExtK where
 | add64 | sub64
def addS (x y c:UInt64):UInt64:=UInt64.ofNat (x.toNat + y.toNat + c.toNat)
def addC (x y c:UInt64):UInt64:=UInt64.ofNat ((x.toNat + y.toNat + c.toNat) / 18446744073709551616)
def subS (x y c:UInt64):UInt64:=UInt64.ofNat (x.toNat + 18446744073709551616 - y.toNat - c.toNat)
def subC (x y c:UInt64):UInt64:=if x.toNat < y.toNat + c.toNat then 1 else 0
def ExtK.val (k:ExtK) (x y c:UInt64):SV:=
 match k with
 | .add64=>.tup [.u64 (addS x y c),.u64 (addC x y c)]
 | .sub64=>.tup [.u64 (subS x y c),.u64 (subC x y c)]
def ExtK.res (k:ExtK) (x y c:UInt64):Value:=
 match k with
 | .add64=>.tuple #[w64 (addS x y c),w64 (addC x y c)]
 | .sub64=>.tuple #[w64 (subS x y c),w64 (subC x y c)]
def ExtIs (P:Program) (g:Nat) (k:ExtK):Prop:=∀ (x y c:UInt64),c.toNat ≤ 1→∀ w:World,(callFunc g #[w64 x,w64 y,w64 c]).run P w = .ok (.value (k.res x y c)) w
theorem extIs_add {P : Program} {g : Nat} {fn : Func} (hf : P.funcs[g]? = some fn) (hname : (fn.name == "runtime.NumGoroutine") = false) (hb : fn.body.isNone = true) (hn : Extern.findNext fn = none) (he : Extern.find fn = some add64Entry) : ExtIs P g .add64 := by
 intro x y c hc w
 rw [run_callFunc_extern hf hname hb hn he]
 unfold w64
 rw [run_add64 _ _ _ (by omega) (by omega) (by omega) (by omega)]
 simp only [Result.andThen_ok,ExtK.res,w64,addS,addC,UInt64.toNat_ofNat']
 have h1:=x.toNat_lt
 have h2:=y.toNat_lt
 rw [Nat.mod_eq_of_lt (show (x.toNat + y.toNat + c.toNat) / 18446744073709551616 < 2 ^ 64 by omega)]
 congr 5
structure Cfg extends Ctx where
 calls:List Nat
 callsOK:(calls.all fun g=>callOK P g) = true
 exts:List (Nat × ExtK):=[]
 extsOK:∀ p ∈ exts,ExtIs P p.1 p.2:=by exact fun p hp=>absurd hp (by simp)
def extAt (l:List (Nat × ExtK)) (g:Nat):Option ExtK:=
 match l with
 | []=>none
 | (k,e) :: r=>bif Nat.beq g k then some e else extAt r g
theorem extAt_mem:∀ {l:List (Nat × ExtK)} {g:Nat} {e:ExtK},extAt l g = some e→(g,e) ∈ l
 | [],_,_,h=>by simp [extAt] at h
 | (k,e') :: r,g,e,h=>by
  simp only [extAt] at h
  rcases bif_some h with ⟨hb,h⟩ | ⟨_,h⟩
  ·have:=beq_eq' hb
   simp only [Option.some.injEq] at h;subst h;subst this
   simp
  ·exact List.mem_cons_of_mem _ (extAt_mem h)
def ext3 (k:ExtK) (as:List SV):Out:=
 match as with
 | [.u64 x,.u64 y,.u64 c]=>some ([c.toNat ≤ 1],k.val x y c)
 | _=>none
def extV (l:List (Nat × ExtK)) (g:Nat) (as:List SV):Out:=
 match extAt l g with
 | some k=>ext3 k as
 | none=>none
theorem extV_sound {Γ:Cfg} {g:Nat} {as:List SV} {ps:List Prop} {v:SV} (h:extV Γ.exts g as = some (ps,v)) (hp:All ps) {ρ:Env} {xs:List Value} (hr:RelTL ρ as xs) (w:World) :
  ∃ x,RelT ρ v x∧(callFunc g xs.toArray).run Γ.P w = .ok (.value x) w:=by
 unfold extV at h
 split at h
 ·rename_i k hk
  have hx:=Γ.extsOK _ (extAt_mem hk)
  unfold ext3 at h
  split at h
  ·rename_i x y c
   simp only [Option.some.injEq,Prod.mk.injEq] at h;obtain ⟨rfl,rfl⟩:=h
   obtain ⟨v1,r1,e1,h1,v2,r2,e2,h2,v3,r3,e3,h3,h4⟩:=hr
   simp only [RelTL] at h4
   subst h4;subst e3;subst e2;subst e1
   have h1:v1 = w64 x:=h1
   have h2:v2 = w64 y:=h2
   have h3:v3 = w64 c:=h3
   subst h1;subst h2;subst h3
   refine ⟨_,?_,hx x y c hp.head w⟩
   cases k
   ·exact ⟨_,⟨_,_,rfl,rfl,_,_,rfl,rfl,rfl⟩,rfl⟩
   ·exact ⟨_,⟨_,_,rfl,rfl,_,_,rfl,rfl,rfl⟩,rfl⟩
  ·cases h
 ·cases h
def evL (T:Tm):List Operand→List SV
 | []=>[]
 | x :: r=>ev T x :: evL T r
def capL:List (Nat × Nat)→List SV
 | []=>[]
 | (a,f) :: r=>.ptr a f none :: capL r
def putT (dst:Option Nat) (v:SV) (T:Tm):Tm:=
 match dst with
 | some d=>(d,v) :: T
 | none=>T
def isCopy:Builtin→Bool
 | .copy=>true
 | _=>false
def isAppend:Builtin→Bool
 | .append=>true
 | _=>false
def noParts (len:Nat) (parts:List (Nat × Operand)):Bool:=
 match len with
 | 0=>match parts with
  | []=>true
  | _=>false
 | _=>true
def strOf (ty:Nat→Ty) (s e:Nat) (v:SV):Option (List UInt8):=
 match (ty s).k with
 | .string=>match (ty e).k with
  | .int .u8=>match v with
   | .str l=>some l
   | _=>none
  | _=>none
 | _=>none
def isByte (k:TyK):Bool:=
 match k with
 | .int .u8=>true
 | _=>false
def markArg (M:Mm) (s t:Nat) (k:TyK) (v:SV):Option SV:=
 match v with
 | .sl a f i n c=>match getM M a with
  | some (.mem true sp ls)=>bif Nat.beq s t && (isByte k && (Nat.blt 0 n && Nat.blt 0 (sizeL ls + sp))) then some (.sl a f i n c) else none
  | _=>none
 | _=>none
theorem markArg_some {M:Mm} {s t:Nat} {k:TyK} {v v':SV} (h:markArg M s t k v = some v'):∃ a f i n c sp ls,v = .sl a f i n c∧v' = .sl a f i n c∧getM M a = some (.mem true sp ls)∧s = t∧k = .int .u8∧0 < n∧0 < sizeL ls + sp:=by
 unfold markArg at h
 split at h
 ·rename_i a f i n c
  split at h
  ·rename_i sp ls hm
   rcases bif_some h with ⟨hb,h⟩ | ⟨_,h⟩
   ·simp only [Bool.and_eq_true] at hb
    simp only [Option.some.injEq] at h
    refine ⟨a,f,i,n,c,sp,ls,rfl,h.symm,hm,beq_eq' hb.1,?_,u_lt_of hb.2.2.1,u_lt_of hb.2.2.2⟩
    have:=hb.2.1
    unfold isByte at this
    split at this
    ·rfl
    ·cases this
   ·cases h
  ·cases h
 ·cases h
def forceV (v:SV) (k:SV→Prop):Prop:=
 match v with
 | .und=>k .und
 | .tt=>k .tt
 | .ff=>k .ff
 | .bool p=>k (.bool p)
 | .u8 x=>k (.u8 x)
 | .u16 x=>k (.u16 x)
 | .u32 x=>k (.u32 x)
 | .u64 x=>k (.u64 x)
 | .i q n=>k (.i q n)
 | .str l=>k (.str l)
 | .ptr a f i=>k (.ptr a f i)
 | .nilp=>k .nilp
 | .sl a f i n c=>k (.sl a f i n c)
 | .slx a f i n=>k (.slx a f i n)
 | .nsl=>k .nsl
 | .a8 l=>k (.a8 l)
 | .a16 l=>k (.a16 l)
 | .a32 l=>k (.a32 l)
 | .a64 l=>k (.a64 l)
 | .ai l=>k (.ai l)
 | .isl q n s ls=>k (.isl q n s ls)
 | .iep f q s ls=>k (.iep f q s ls)
 | .ep a f q s=>k (.ep a f q s)
 | .agg ls=>k (.agg ls)
 | .tup []=>k (.tup [])
 | v=>k v
theorem forceV_eq (v:SV) (k:SV→Prop):forceV v k = k v:=by
 unfold forceV;split <;> rfl
def forceP (ps:List Prop) (k:List Prop→Prop):Prop:=
 match ps with
 | []=>k []
 | p :: r=>forceP r fun r=>k (p :: r)
theorem forceP_eq:∀ (ps:List Prop) (k:List Prop→Prop),forceP ps k = k ps
 | [],k=>rfl
 | p :: r,k=>by simp only [forceP];rw [forceP_eq r]
def forceM (M:Mm) (k:Mm→Prop):Prop:=
 match M with
 | []=>k []
 | (a,e) :: r=>match e with
  | .dead=>forceM r fun r=>k ((a,.dead) :: r)
  | .mem own sp ls=>match own with
   | true=>forceM r fun r=>k ((a,.mem true sp ls) :: r)
   | false=>forceM r fun r=>k ((a,.mem false sp ls) :: r)
  | .map m=>forceM r fun r=>k ((a,.map m) :: r)
theorem forceM_eq:∀ (M:Mm) (k:Mm→Prop),forceM M k = k M
 | [],k=>rfl
 | (a,.dead) :: r,k=>by simp only [forceM];rw [forceM_eq r]
 | (a,.mem true sp ls) :: r,k=>by simp only [forceM];rw [forceM_eq r]
 | (a,.mem false sp ls) :: r,k=>by simp only [forceM];rw [forceM_eq r]
 | (a,.map m) :: r,k=>by simp only [forceM];rw [forceM_eq r]
def lenS (v:SV):Option Nat:=
 match v with
 | .sl _ _ _ n _=>some n
 | .slx _ _ _ n=>some n
 | .isl _ n _ _=>some n
 | _=>none
def nilC (ty:Nat→Ty) (T:Tm) (op:Op):Option Nat:=
 match op with
 | .binOp op t x y _=>match op with
  | .eql=>match (ty t).k with
   | .slice _=>match ev T y with
    | .nsl=>lenS (ev T x)
    | _=>none
   | _=>none
  | _=>none
 | _=>none
theorem run_eqSd {P:Program} (w:World) (d:Nat) (t e:TypeId) (x:Option Addr) (n c:Nat) (h:P.underlying t = some (.slice e)) :
  (Op.equalIn (d + 1) t (.slice x n c) (.slice none 0 0)).run P w = .ok x.isNone w:=by
 cases x <;> simp [Op.equalIn,run_und h]
theorem run_eqSn {P:Program} (w:World) (t e:TypeId) (x:Option Addr) (n c:Nat) (h:P.underlying t = some (.slice e)) :
  (binOp .eql t (.slice x n c) (.slice none 0 0)).run P w = .ok (.bool x.isNone) w:=by
 simp only [binOp,Op.equal,Op.maxDepth,Sem.run_bind,run_eqSd w 9999 t e x n c h,Result.andThen_ok,Sem.run_pure]
theorem lenS_rel {ρ:Env} {v:SV} {n:Nat} (h:lenS v = some n) {x:Value} (hx:RelT ρ v x):∃ y c,n ≤ c∧x = .slice y n c∧(c ≠ 0→y ≠ none):=by
 unfold lenS at h
 split at h <;> simp only [Option.some.injEq,reduceCtorEq] at h <;> subst h
 ·obtain ⟨_,h1,y,rfl,h2⟩:=hx
  exact ⟨y,_,h1,rfl,fun hc hy=>by rw [h2 hc] at hy;cases hy⟩
 ·obtain ⟨_,c,y,h1,rfl,h2⟩:=hx
  exact ⟨y,c,h1,rfl,fun hc hy=>by rw [h2 hc] at hy;cases hy⟩
 ·obtain ⟨b,o,c,y,_,h1,rfl,h2⟩:=hx
  exact ⟨y,c,h1,rfl,fun hc hy=>by rw [h2 hc] at hy;cases hy⟩
theorem nilC_sound {Γ:Ctx} {N:Nat} {ρ:Env} {T:Tm} {M:Mm} {a:Act} {w:World} (hc:Conc N ρ T M a w) {o:Oper} {op:Op} (ho:o.op = op) {n:Nat} (h:nilC Γ.ty T op = some n) :
  ∃ b:Bool,(0 < n→b = false)∧(execOp a.eval o).run Γ.P w = .ok (.value (.bool b)) w:=by
 subst ho
 obtain ⟨dst,op,ty,pos,after,guard⟩:=o
 simp only at h
 unfold nilC at h
 split at h
 ·rename_i op t x y yt
  split at h
  ·split at h
   ·rename_i e hk
    split at h
    ·rename_i hy
     have hy2:=ev_rel hc y
     rw [hy] at hy2
     obtain ⟨z,c,h1,h2,h3⟩:=lenS_rel h (ev_rel hc x)
     have u:=und_slice (Γ.ok (t:=t) (by rw [hk];simp)) hk
     refine ⟨z.isNone,fun h0=>?_,?_⟩
     ·have:=h3 (by omega)
      cases z with
      | none=>exact absurd rfl this
      | some _=>rfl
     ·have hy3:a.eval y = .slice none 0 0:=hy2
      simp only [execOp,Sem.run_bind,h2,hy3,eqGuard_plain .eql t x y (.slice z n c) _ (by simp) (by simp),Result.andThen_ok,run_eqSn w t e z n c u,Sem.run_pure]
    ·cases h
   ·cases h
  ·cases h
 ·cases h
def effOp (Γ:Cfg) (o:Oper) (T:Tm) (M:Mm) (ps:List Prop) (K:List Prop→SV→Mm→Prop):Prop:=
 match o.op with
 | .alloc t=>match o.dst with
  | some d=>match getM M d with
   | none=>match (Γ.ty t).k with
    | .bad=>False
    | _=>match (Γ.ty t).zl with
     | []=>False
     | zl=>K ps (.ptr d 0 none) ((d,.mem true 0 zl) :: M)
   | some _=>False
  | none=>False
 | .box t x=>match o.dst with
  | some d=>match getM M d with
   | none=>match leavesOf (Γ.ty t) (ev T x) with
    | some (qs,ls)=>K (qs ++ ps) (.ptr d 0 none) ((d,.mem true 0 ls) :: M)
    | none=>False
   | some _=>False
  | none=>False
 | .store t ad x=>match o.dst with
  | none=>match ev T ad with
   | .ptr a f i=>match getM M a with
    | some (.mem true sp ls)=>match (Γ.ty t).k with
     | .bad=>False
     | _=>match storeL ls f i (Γ.ty t) (ev T x) with
      | some (qs,l)=>K (qs ++ ps) .und ((a,.mem true sp l) :: M)
      | none=>False
    | _=>False
   | .ep a f q s=>match getM M a with
    | some (.mem true sp ls)=>match (Γ.ty t).k with
     | .bad=>False
     | _=>match storeI ls f q s (Γ.ty t) (ev T x) with
      | some (qs,l)=>K (qs ++ ps) .und ((a,.mem true sp l) :: M)
      | none=>False
    | _=>False
   | _=>False
  | some _=>False
 | .makeSlice t l c=>match o.dst with
  | some d=>match getM M d with
   | none=>match makeV Γ.ty T d t l c with
    | some (qs,e,v)=>K (qs ++ ps) v ((d,e) :: M)
    | none=>False
   | some _=>False
  | none=>False
 | .buildSlice t len parts=>bif noParts len parts.toList then match o.dst with
   | some d=>match getM M d with
    | none=>match bsV Γ.ty T d t len parts.toList with
     | some (qs,e,v)=>K (qs ++ ps) v ((d,e) :: M)
     | none=>False
    | some _=>False
   | none=>False
  else False
 | .makeMap _ r=>match r with
  | none=>match o.dst with
   | some d=>match getM M d with
    | none=>K ps (.mp d) ((d,.map (.si [])) :: M)
    | some _=>False
   | none=>False
  | some _=>False
 | .mapUpdate t x k v=>match o.dst with
  | none=>match setV Γ.ty M t (ev T x) (ev T k) (ev T v) with
   | some (qs,a,l)=>K (qs ++ ps) .und ((a,.map (.si l)) :: M)
   | none=>False
  | some _=>False
 | .convert s t x=>match (Γ.ty t).k with
  | .slice e=>match (Γ.ty s).k with
   | .slice _=>match markArg M s t (Γ.ty e).k (ev T x) with
    | some v=>K ps v M
    | none=>False
   | _=>match o.dst with
    | some d=>match getM M d with
     | none=>match strOf Γ.ty s e (ev T x) with
      | some l=>∀ c',l.length ≤ c'→K ps (.sl d 0 0 l.length c') ((d,.mem true (c' - l.length) [(l.length,.a8 l)]) :: M)
      | none=>False
     | some _=>False
    | none=>False
  | _=>match pureOp Γ.ty T M o.op with
   | some (qs,v)=>K (qs ++ ps) v M
   | none=>False
 | .call c=>match c.callee with
  | .value f=>match ev T f with
   | .fn g cap=>bif memB g Γ.calls then withP ps (Call Γ.P g (evL T c.args.toList ++ capL cap) M (fun v M'=>forceM M' fun M'=>K [] v M')) else match extV Γ.exts g (evL T c.args.toList ++ capL cap) with
    | some (qs,v)=>K (qs ++ ps) v M
    | none=>False
   | _=>False
  | .builtin b=>match isCopy b with
   | true=>match copyE Γ.ty M T c with
    | some (qs,m,b,E)=>K (qs ++ ps) (.i .i64 (m:Int)) ((b,E) :: M)
    | none=>False
   | false=>match isAppend b with
    | true=>match o.dst with
     | some d=>match getM M d with
      | none=>match appV Γ.ty T M c with
       | some (qs,n,es,leaf,k,M')=>match getM M' d with
        | none=>match appE Γ.ty T M c with
         | none=>∀ c',n ≤ c'→K (qs ++ ps) (.sl d 0 0 n c') ((d,.mem true (mulE (c' - n) es) [(mulE n es,leaf)]) :: killM k M')
         | some (qe,m,v,Me)=>Branch (0 < m) (∀ c',n ≤ c'→K (qs ++ ps) (.sl d 0 0 n c') ((d,.mem true (mulE (c' - n) es) [(mulE n es,leaf)]) :: killM k M')) (K (qe ++ ps) v Me)
        | some _=>False
       | none=>match appP Γ.ty T M c with
        | some (qs,n,cp,b,E,M')=>K (qs ++ ps) (.sl b 0 0 n cp) ((b,E) :: M')
        | none=>False
      | some _=>False
     | none=>False
    | false=>match pureOp Γ.ty T M o.op with
     | some (qs,v)=>K (qs ++ ps) v M
     | none=>match isClear b with
      | true=>match o.dst with
       | none=>match clearE Γ.ty M T c with
        | some (qs,a,E)=>K (qs ++ ps) .und ((a,E) :: M)
        | none=>False
       | some _=>False
      | false=>False
  | _=>False
 | op=>match pureOp Γ.ty T M op with
  | some (qs,v)=>K (qs ++ ps) v M
  | none=>match nilC Γ.ty T op with
   | some n=>∀ p:Prop,(0 < n→¬ p)→K ps (.bool p) M
   | none=>False
def guardSlot (all:List Oper) (j:Nat):Option Nat:=
 match all[j]? with
 | some o=>o.dst
 | none=>none
def stepOp (Γ:Cfg) (all:List Oper) (o:Oper) (rest:Tm→Mm→List Prop→(Tm→Mm→Prop)→Prop) (T:Tm) (M:Mm) (ps:List Prop) (K:Tm→Mm→Prop):Prop:=
 match o.guard with
  | none=>effOp Γ o T M ps fun qs v M'=>forceP qs fun qs=>forceV v fun v=>rest (putT o.dst v T) M' qs K
  | some (j,want)=>match guardSlot all j with
   | none=>False
   | some d=>match getT T d with
    | .tt=>match want with
     | true=>effOp Γ o T M ps fun qs v M'=>forceP qs fun qs=>forceV v fun v=>rest (putT o.dst v T) M' qs K
     | false=>rest (putT o.dst (.tup []) T) M ps K
    | .ff=>match want with
     | false=>effOp Γ o T M ps fun qs v M'=>forceP qs fun qs=>forceV v fun v=>rest (putT o.dst v T) M' qs K
     | true=>rest (putT o.dst (.tup []) T) M ps K
    | .bool p=>match want with
     | true=>withP ps (Branch p (effOp Γ o ((d,.tt) :: T) M [] fun qs v M'=>forceP qs fun qs=>forceV v fun v=>rest (putT o.dst v ((d,.tt) :: T)) M' qs K) (rest (putT o.dst (.tup []) ((d,.ff) :: T)) M [] K))
     | false=>withP ps (Branch p (rest (putT o.dst (.tup []) ((d,.tt) :: T)) M [] K) (effOp Γ o ((d,.ff) :: T) M [] fun qs v M'=>forceP qs fun qs=>forceV v fun v=>rest (putT o.dst v ((d,.ff) :: T)) M' qs K))
    | .tup []=>rest (putT o.dst (.tup []) T) M ps K
    | _=>False
def endOp (T:Tm) (M:Mm) (ps:List Prop) (K:Tm→Mm→Prop):Prop:=withP ps (K T M)
def runOps (Γ:Cfg) (all:List Oper) (l:List Oper) (T:Tm) (M:Mm) (ps:List Prop) (K:Tm→Mm→Prop):Prop:=
 match l with
 | []=>endOp T M ps K
 | o :: r=>stepOp Γ all o (runOps Γ all r) T M ps K
theorem bif_someP {b:Bool} {A B:Prop} (h:bif b then A else B):(b = true∧A) ∨ (b = false∧B):=by
 cases b with
 | true=>exact Or.inl ⟨rfl,h⟩
 | false=>exact Or.inr ⟨rfl,h⟩
theorem mark_sound {P:Program} {ρ:Env} {M:Mm} {w:World} (h:ConcM ρ M w) {a sp:Nat} {ls:List (Nat × SV)} (ha:getM M a = some (.mem true sp ls)) (hpos:0 < sizeL ls + sp) (q:Nat) {t e n c:Nat}
  (ut:P.underlying t = some (.slice e)) (ue:P.underlying e = some (.int .u8)) :
  ∃ w',(convert t t (.slice (some ⟨(ρ.pos a).1,q,none⟩) n c)).run P w = .ok (.slice (some ⟨(ρ.pos a).1,q,none⟩) n c) w'∧ConcM ρ M w'∧Step ρ M ρ M w w':=by
 obtain ⟨cs,c1,c2,c3,c4⟩:=h.sat a _ ha
 obtain ⟨⟨v0,hv0⟩,hh⟩:=c4 rfl 0 hpos
 have hlt:(ρ.pos a).1 < w.heap.size:=c2.1 (by simp only [if_true];omega)
 obtain ⟨C,E,lo,hi,hb⟩:∃ C E lo hi,w.heap[(ρ.pos a).1]? = some (.cells C E (lo,hi)):=by
  unfold World.cell? at hv0
  simp only at hv0
  cases hb:w.heap[(ρ.pos a).1]? with
  | none=>rw [hb] at hv0;cases hv0
  | some x=>
   rw [hb] at hv0
   cases x
   case cells C E fz=>exact ⟨C,E,fz.1,fz.2,rfl⟩
   all_goals cases hv0
 have hfz:lo = hi ∨ C.size ≤ lo:=by
  unfold hard at hh
  simp only [hb,Bool.not_eq_false',Bool.or_eq_true,beq_iff_eq] at hh
  exact hh.imp id Nat.le_of_ble_eq_true
 have hsh:w.shape? (ρ.pos a).1 = some (E,C.size):=by unfold World.shape?;rw [hb]
 refine ⟨w.freeze ⟨(ρ.pos a).1,C.size,none⟩ 1,?_,?_⟩
 ·simp [convert,run_und ut,run_und ue,markStringish,hsh]
 generalize hw:w.freeze ⟨(ρ.pos a).1,C.size,none⟩ 1 = w'
 have hheap:∀ k:Nat,w'.heap[k]? = if k = (ρ.pos a).1 then some (.cells C E (if lo == hi then (C.size,C.size + 1) else (min lo C.size,max hi (C.size + 1)))) else w.heap[k]?:=by
  intro k
  rw [← hw]
  unfold World.freeze
  rw [if_neg (by decide)]
  simp only [Array.getElem?_modify]
  by_cases hk:k = (ρ.pos a).1
  ·subst hk
   rw [if_pos rfl,if_pos rfl,hb]
   rfl
  ·rw [if_neg (fun e=>hk e.symm),if_neg hk]
 have hsz:w'.heap.size = w.heap.size:=by
  rw [← hw];unfold World.freeze;rw [if_neg (by decide)];simp
 have hos:w'.os = w.os∧w'.output = w.output:=by
  rw [← hw];unfold World.freeze;rw [if_neg (by decide)];exact ⟨rfl,rfl⟩
 have hcell:∀ k o,w'.cell? ⟨k,o,none⟩ = w.cell? ⟨k,o,none⟩:=by
  intro k o
  unfold World.cell?
  simp only [hheap]
  by_cases hk:k = (ρ.pos a).1
  ·subst hk;rw [if_pos rfl,hb]
  ·rw [if_neg hk]
 have hhard:∀ k o,hard w' ⟨k,o,none⟩ = hard w ⟨k,o,none⟩:=by
  intro k o
  unfold hard
  simp only [hheap]
  by_cases hk:k = (ρ.pos a).1
  ·subst hk
   rw [if_pos rfl,hb]
   have e1:(!(lo == hi || Nat.ble C.size lo)) = false:=by
    rcases hfz with h | h
    ·simp [h]
    ·simp [Nat.ble_eq_true_of_le h]
   simp only [e1]
   by_cases hl:lo = hi
   ·simp [hl]
   ·have:(lo == hi) = false:=by simpa using hl
    have hle:C.size ≤ lo:=hfz.resolve_left hl
    simp only [this,Bool.false_eq_true,if_false]
    rw [Nat.min_eq_right hle]
    simp
  ·rw [if_neg hk]
 refine ⟨⟨h.dom,h.mod,fun b e he=>SatE.of_same (Env.le_refl _) (Nat.le_of_eq hsz.symm) (fun k o _=>⟨hcell k o,hhard k o⟩) (fun k hk hf=>?_) (h.sat b e he),h.sep,fun b o ls hi=>(h.imm b o ls hi).keep (fun _ _ _ h=>h) (Nat.le_of_eq hsz.symm) (fun j _=>hcell _ _),h.isep⟩,
  ⟨Nat.le_of_eq hsz.symm,hos.1,hos.2,fun b hb' hn=>?_,fun b o _ _=>⟨hcell b o,hhard b o⟩,fun _ _ _ h=>h,fun _ _ _ h=>Or.inl h⟩⟩
 ·rw [hheap,if_neg]
  intro hka
  subst hka
  by_cases hba:b = a
  ·subst hba
   rw [ha] at he
   obtain rfl:Ent.mem true sp ls = e:=by simpa using he
   obtain ⟨_,_,f3⟩:=hf ((ρ.pos b).2 + (sizeL ls + sp))
   simp only [if_true] at f3
   omega
  ·exact h.sep a b _ e ha he (fun e=>hba e.symm) rfl _ (ρ.pos a).2 ⟨rfl,Nat.le_refl _,by simp only [if_true];omega⟩ (hf _)
 ·rw [hheap,if_neg]
  intro hk
  exact hn (ρ.pos a).2 ⟨a,_,ha,rfl,hk,Nat.le_refl _,by simp only [if_true];omega⟩
theorem strB_sound {Γ:Ctx} {N:Nat} {ρ:Env} {T:Tm} {M:Mm} {a:Act} {w:World} (hc:Conc N ρ T M a w) {d s t e:Nat} (hd:getM M d = none) (hk:(Γ.ty t).k = .slice e) {x:Operand} {l:List UInt8} (h:strOf Γ.ty s e (ev T x) = some l) :
  ∃ w' ρ' c',l.length ≤ c'∧(convert s t (a.eval x)).run Γ.P w = .ok (.slice (some ⟨w.heap.size,0,none⟩) l.length c') w'∧ρ.le ρ'∧ConcM ρ' ((d,.mem true (c' - l.length) [(l.length,.a8 l)]) :: M) w' ∧
   Step ρ M ρ' ((d,.mem true (c' - l.length) [(l.length,.a8 l)]) :: M) w w'∧RelT ρ' (.sl d 0 0 l.length c') (.slice (some ⟨w.heap.size,0,none⟩) l.length c'):=by
 unfold strOf at h
 split at h
 ·rename_i hs
  split at h
  ·rename_i he
   split at h
   ·rename_i l' hv
    simp only [Option.some.injEq] at h;subst h
    have hr:=ev_rel hc x
    rw [hv] at hr
    have hx:a.eval x = .string ⟨l'.toArray⟩:=hr
    have us:=und_string (Γ.ok (t:=s) (by rw [hs];simp)) hs
    have ut:=und_slice (Γ.ok (t:=t) (by rw [hk];simp)) hk
    have ue:=und_int (Γ.ok (t:=e) (by rw [he];simp)) he
    have hrun:=Lib.run_convert_string_bytes (P:=Γ.P) w s t e ⟨l'.toArray⟩ us ut ue
    have hsz:(⟨l'.toArray⟩:ByteArray).size = l'.length:=by simp [ByteArray.size]
    rw [hsz] at hrun
    have hge:=grownCap_ge w l'.length 0 e
    have hbs:(Lib.bytesCells w e ⟨l'.toArray⟩).size = grownCap w l'.length 0 e:=by
     simp only [Lib.bytesCells,hsz]
     simp
     omega
    have hg:Grows w (Lib.bytesWorld w e ⟨l'.toArray⟩):=⟨by rw [Lib.bytesWorld_size];omega,rfl,rfl,fun b hb=>Lib.bytesWorld_at_old w e _ b hb⟩
    have hnew:=Lib.bytesWorld_at_new w e ⟨l'.toArray⟩
    obtain ⟨k1,k2,k3⟩:=hc.toConcM.fresh hg (by rw [Lib.bytesWorld_size];omega) (d:=d) hd (cs:=l'.map w8) (ls:=[(l'.length,.a8 l')]) (sp:=grownCap w l'.length 0 e - l'.length)
     ⟨_,[],(List.append_nil _).symm,by simp,rfl,rfl⟩ (fun j v hj=>by
      have hlt:j < l'.length:=by simpa using (List.getElem?_eq_some_iff.1 hj).1
      have:=Lib.bytesWorld_cell w e ⟨l'.toArray⟩ j (by rw [hsz];exact hlt)
      rw [this]
      rw [List.getElem?_map,List.getElem?_eq_getElem hlt] at hj
      simp only [Option.map_some,Option.some.injEq] at hj
      rw [← hj]
      simp [w8,List.getD,hlt]) (fun j hj=>by
      have hlt:j < grownCap w l'.length 0 e:=by simp only [List.length_map] at hj;omega
      refine ⟨⟨(Lib.bytesCells w e ⟨l'.toArray⟩)[j]'(by omega),?_⟩,?_⟩
      ·simp only [World.cell?,hnew]
       simp [hbs,hlt]
      ·simp only [hard,hnew]
       simp [hbs])
    refine ⟨_,_,_,hge,by rw [hx];exact hrun,k1,k2,k3,RelT_of_Rel ⟨Or.inl rfl,hge,_,rfl,fun _=>?_⟩⟩
    simp [Env.addr,Env.add]
   ·cases h
  ·cases h
 ·cases h
theorem run_newVar {P:Program} {w:World} (t:TypeId) (x:Value):(newVar t x).run P w = .ok ⟨w.heap.size,0,none⟩ (w.alloc (.cells x.cells t)):=rfl
theorem evL_rel {N:Nat} {ρ:Env} {T:Tm} {M:Mm} {a:Act} {w:World} (hc:Conc N ρ T M a w):∀ l:List Operand,RelTL ρ (evL T l) (l.map a.eval)
 | []=>rfl
 | x :: r=>⟨_,_,rfl,ev_rel hc x,evL_rel hc r⟩
theorem RelTL_append {ρ:Env}:∀ {l1 l2:List SV} {x1 x2:List Value},RelTL ρ l1 x1→RelTL ρ l2 x2→RelTL ρ (l1 ++ l2) (x1 ++ x2)
 | [],_,_,_,h1,h2=>by simp only [RelTL] at h1;subst h1;simpa using h2
 | _ :: _,_,_,_,⟨x,ys,e,h,hr⟩,h2=>⟨x,ys ++ _,by rw [e];rfl,h,RelTL_append hr h2⟩
theorem capL_rel {ρ:Env}:∀ {cap:List (Nat × Nat)},(∀ p ∈ cap,ρ.dom p.1)→RelTL ρ (capL cap) (cap.map fun p=>Value.pointer (some (ρ.addr p.1 p.2 0)))
 | [],_=>rfl
 | (a,f) :: r,h=>⟨_,_,rfl,RelT_of_Rel ⟨h (a,f) (by simp),rfl⟩,capL_rel fun p hp=>h p (by simp [hp])⟩
def After (N:Nat) (ρ:Env) (M:Mm) (w:World) (K:Tm→Mm→Prop):Act→World→Prop:=
 fun a' w'=>∃ ρ' T' M',K T' M'∧ρ.le ρ'∧Conc N ρ' T' M' a' w'∧Step ρ M ρ' M' w w'
theorem memB_calls {Γ : Cfg} {g : Nat} (h : memB g Γ.calls = true) : ∃ fn, Γ.P.funcs[g]? = some fn ∧ (fn.name == "runtime.NumGoroutine") = false ∧ fn.body.isNone = false := by
 have:=List.all_eq_true.1 Γ.callsOK g (memB_iff.1 h)
 unfold callOK at this
 split at this
 ·rename_i fn hfn
  simp only [Bool.and_eq_true,Bool.not_eq_true'] at this
  refine ⟨fn,hfn,this.1,?_⟩
  cases hb:fn.body with
  | none=>rw [hb] at this;simp at this
  | some c=>rfl
 ·cases this
theorem effOp_sound {Γ:Cfg} {N:Nat} {ρ:Env} {T:Tm} {M:Mm} {a:Act} {w:World} (hc:Conc N ρ T M a w) {o:Oper} (hd:∀ d,o.dst = some d→d < N)
  {ps:List Prop} {K:List Prop→SV→Mm→Prop} (hK:∀ qs v M',K qs v M'→All qs) (h:effOp Γ o T M ps K) {Q:Exit→Act→World→Prop} :
  o.wp Γ.P a w (After N ρ M w fun T' M'=>∃ qs v,K qs v M'∧T' = putT o.dst v T) Q:=by
 have pure:∀ {op:Op} {qs v},o.op = op→pureOp Γ.ty T M op = some (qs,v)→K (qs ++ ps) v M→o.wp Γ.P a w (After N ρ M w fun T' M'=>∃ qs v,K qs v M'∧T' = putT o.dst v T) Q:=by
  intro op qs v ho hp hk
  subst ho
  obtain ⟨x,hx,hr⟩:=pureOp_sound hc hp (hK _ _ _ hk).left
  unfold Oper.wp
  rw [hr]
  show After N ρ M w _ (a.put o.dst x) w
  refine ⟨ρ,putT o.dst v T,M,⟨_,v,hk,rfl⟩,Env.le_refl _,?_,Step.refl _ _ _⟩
  cases hdst:o.dst with
  | none=>exact hc.put_none x
  | some d=>exact hc.put (hd d hdst) hx
 have fresh:∀ {d:Nat} {ls:List (Nat × SV)} {x:Value} {t:TypeId} {qs:List Prop},o.dst = some d→getM M d = none→CellsL ρ ls x.cells.toList→K qs (.ptr d 0 none) ((d,.mem true 0 ls) :: M) →
   (execOp a.eval o).run Γ.P w = .ok (.value (.pointer (some ⟨w.heap.size,0,none⟩))) (w.alloc (.cells x.cells t))→o.wp Γ.P a w (After N ρ M w fun T' M'=>∃ qs v,K qs v M'∧T' = putT o.dst v T) Q:=by
  intro d ls x t qs hdst hm hcs hk hr
  obtain ⟨h1,h2,h3⟩:=hc.toConcM.alloc (t:=t) (sp:=0) hm hcs (fun j v hj=>by simpa using hj) (by simp)
  unfold Oper.wp
  rw [hr]
  show After N ρ M w _ (a.put o.dst _) _
  refine ⟨_,putT o.dst (.ptr d 0 none) T,_,⟨qs,_,hk,rfl⟩,h1,?_,h3⟩
  rw [hdst]
  refine (hc.of_mem h1 h2).put (hd d hdst) (RelT_of_Rel ⟨Or.inl rfl,?_⟩)
  simp [Env.addr,Env.add]
 have made:∀ {d:Nat} {x:Value} {w':World} {ρ':Env} {qs:List Prop} {v:SV} {M':Mm},o.dst = some d→(execOp a.eval o).run Γ.P w = .ok (.value x) w'→ρ.le ρ'→ConcM ρ' M' w'→Step ρ M ρ' M' w w'→RelT ρ' v x→K qs v M' →
   o.wp Γ.P a w (After N ρ M w fun T' M'=>∃ qs v,K qs v M'∧T' = putT o.dst v T) Q:=by
  intro d x w' ρ' qs v M' hdst hr hle hM' hst hx hk
  unfold Oper.wp
  rw [hr]
  show After N ρ M w _ (a.put o.dst x) w'
  refine ⟨ρ',putT o.dst v T,M',⟨qs,v,hk,rfl⟩,hle,?_,hst⟩
  rw [hdst]
  exact (hc.of_mem hle hM').put (hd d hdst) hx
 have stored:∀ {t:TypeId} {ad x:Operand} {b q sp:Nat} {ls l:List (Nat × SV)} {qs:List Prop},o.op = .store t ad x→o.dst = none→(Γ.ty t).k ≠ .bad→getM M b = some (.mem true sp ls) →
   a.eval ad = .pointer (some ⟨(ρ.pos b).1,(ρ.pos b).2 + q,none⟩)→sizeL l = sizeL ls →
   (∀ cs,CellsL ρ ls cs→q + (Γ.ty t).size ≤ cs.length∧(a.eval x).cells.size = (Γ.ty t).size∧(∀ z ∈ (a.eval x).cells.toList,one z)∧CellsL ρ l (cs.take q ++ (a.eval x).cells.toList ++ cs.drop (q + (Γ.ty t).size))) →
   K qs .und ((b,.mem true sp l) :: M)→o.wp Γ.P a w (After N ρ M w fun T' M'=>∃ qs v,K qs v M'∧T' = putT o.dst v T) Q:=by
  intro t ad x b q sp ls l qs hop hdst hk hm hv q4 hst hkk
  obtain ⟨cs,c1,c2,c3,c4⟩:=hc.sat b _ hm
  obtain ⟨q1,q2,q3,q5⟩:=hst cs c1
  have hlen:=c1.length
  have hxl:(a.eval x).cells.toList.length = (Γ.ty t).size:=by simpa using q2
  have c4:=c4 rfl
  obtain ⟨w',hr,hw⟩:=run_storeCells (P:=Γ.P) (b:=(ρ.pos b).1) (o:=(ρ.pos b).2 + q) (a.eval x).cells.toList 0 w q3 (fun j hj=>by
   have:=c4 (q + j) (by omega)
   rw [show (ρ.pos b).2 + q + (0 + j) = (ρ.pos b).2 + (q + j) by omega]
   exact this)
  rw [Nat.add_zero] at hw
  have hrun:(execOp a.eval o).run Γ.P w = .ok .skip w':=by
   simp only [execOp,hop,Instr.storeAt,Sem.run_bind,hv,Instr.sureAddr,Sem.run_pure,Result.andThen_ok,storeVar,run_sizeOf (Γ.ok hk),q2,ne_eq,not_true,if_false]
   rw [hr];rfl
  obtain ⟨m1,m2⟩:=hc.toConcM.write (sp':=sp) hm hw (by omega) q5 (by omega) (fun cs' d1 d2 j v hj=>by
   have e0:cs' = cs ∨ True:=Or.inr trivial
   have hl':=d1.length
   have hin:∀ j,¬ (q ≤ j∧j < q + (Γ.ty t).size)→w'.cell? ⟨(ρ.pos b).1,(ρ.pos b).2 + j,none⟩ = w.cell? ⟨(ρ.pos b).1,(ρ.pos b).2 + j,none⟩:=by
    intro j hn
    refine hw.old _ _ (fun _=>?_)
    omega
   rcases Nat.lt_or_ge j q with hlt | hge
   ·rw [List.append_assoc,List.getElem?_append_left (by rw [List.length_take];omega),List.getElem?_take,if_pos hlt] at hj
    rw [hin j (by omega)];exact c3 j v hj
   ·rcases Nat.lt_or_ge j (q + (Γ.ty t).size) with hlt2 | hge2
    ·rw [List.append_assoc,List.getElem?_append_right (by rw [List.length_take];omega),List.getElem?_append_left (by rw [List.length_take];omega),List.length_take,Nat.min_eq_left (by omega)] at hj
     have:=hw.new (j - q) v hj
     rw [show (ρ.pos b).2 + q + (j - q) = (ρ.pos b).2 + j by omega] at this
     exact this
    ·rw [List.getElem?_append_right (by simp only [List.length_append,List.length_take];omega),List.getElem?_drop] at hj
     simp only [List.length_append,List.length_take,hxl] at hj
     rw [show q + (Γ.ty t).size + (j - (min q cs.length + (Γ.ty t).size)) = j by omega] at hj
     rw [hin j (by omega)];exact c3 j v hj)
  unfold Oper.wp
  rw [hrun]
  show After N ρ M w _ (a.put o.dst undef) w'
  rw [hdst]
  exact ⟨ρ,T,_,⟨_,.und,hkk,rfl⟩,Env.le_refl _,(hc.of_mem (Env.le_refl _) m1).put_none _,m2⟩
 unfold effOp at h
 split at h
 ·-- alloc
  rename_i t hop
  split at h
  ·rename_i d hdst
   split at h
   ·rename_i hm
    split at h
    ·exact h.elim
    ·rename_i hk
     split at h
     ·exact h.elim
     ·rename_i hz
      obtain ⟨z,hz1,hz2,hz3,_⟩:=run_zero (w:=w) (Γ.ok hk) hz
      refine fresh hdst hm (x:=z) (t:=t) (by rw [hz2];exact zeroL_cells ρ hz3) h ?_
      simp only [execOp,hop,Instr.alloc,Sem.run_bind,hz1,Result.andThen_ok,run_newVar,Sem.run_pure]
   ·exact h.elim
  ·exact h.elim
 ·-- box
  rename_i t x hop
  split at h
  ·rename_i d hdst
   split at h
   ·rename_i hm
    split at h
    ·rename_i ps ls hl
     refine fresh hdst hm (x:=a.eval x) (t:=t) (leavesOf_sound (ev_rel hc x) hl (hK _ _ _ h).left) h ?_
     simp only [execOp,hop,Instr.box,Sem.run_bind,Result.andThen_ok,run_newVar,Sem.run_pure]
    ·exact h.elim
   ·exact h.elim
  ·exact h.elim
 ·-- store
  rename_i t ad x hop
  split at h
  ·rename_i hdst
   split at h
   ·rename_i b f i he
    split at h
    ·rename_i sp ls hm
     split at h
     ·exact h.elim
     ·rename_i hk
      split at h
      ·rename_i ps l hs
       have hr:=ev_rel hc ad
       rw [he] at hr
       obtain ⟨_,hv⟩:=hr
       obtain ⟨cs,c1,_⟩:=hc.sat b _ hm
       obtain ⟨_,_,_,q4,_⟩:=storeL_sound c1 (ev_rel hc x) hs (hK _ _ _ h).left
       refine stored (q:=f + i.getD 0) hop hdst hk hm (by rw [hv,addr_eq]) q4 (fun cs hcs=>?_) h
       obtain ⟨q1,q2,q3,_,q5⟩:=storeL_sound hcs (ev_rel hc x) hs (hK _ _ _ h).left
       exact ⟨q1,q2,q3,q5⟩
      ·exact h.elim
    ·exact h.elim
   ·rename_i b f q s he
    split at h
    ·rename_i sp ls hm
     split at h
     ·exact h.elim
     ·rename_i hk
      split at h
      ·rename_i ps l hs
       have hr:=ev_rel hc ad
       rw [he] at hr
       obtain ⟨_,hv⟩:=hr
       obtain ⟨cs,c1,_⟩:=hc.sat b _ hm
       obtain ⟨_,_,_,q4,_⟩:=storeI_sound c1 (ev_rel hc x) hs (hK _ _ _ h).left
       refine stored (q:=f + q * s) hop hdst hk hm (by rw [hv,addr_eq]) q4 (fun cs hcs=>?_) h
       obtain ⟨q1,q2,q3,_,q5⟩:=storeI_sound hcs (ev_rel hc x) hs (hK _ _ _ h).left
       exact ⟨q1,q2,q3,q5⟩
      ·exact h.elim
    ·exact h.elim
   ·exact h.elim
  ·exact h.elim
 ·-- make
  rename_i t l c hop
  split at h
  ·rename_i d hdst
   split at h
   ·rename_i hm
    split at h
    ·rename_i qs e v hv
     obtain ⟨x,w',ρ',h1,h2,h3,h4,h5⟩:=makeV_sound (Γ:=Γ.toCtx) hc hm hv (hK _ _ _ h).left
     exact made hdst (by simp only [execOp,hop,Sem.run_bind,h1,Result.andThen_ok,Sem.run_pure]) h2 h3 h4 h5 h
    ·exact h.elim
   ·exact h.elim
  ·exact h.elim
 ·-- a slice that is written out
  rename_i t len parts hop
  rcases bif_someP h with ⟨hn,h⟩ | ⟨_,h⟩
  ·split at h
   ·rename_i d hdst
    split at h
    ·rename_i hm
     split at h
     ·rename_i qs e v hv
      obtain ⟨x,w',ρ',h1,h2,h3,h4,h5⟩:=bsV_sound (Γ:=Γ.toCtx) hc hm hv (hK _ _ _ h).left (fun h0=>by
       subst h0
       unfold noParts at hn
       split at hn
       ·rename_i hp0;split at hn
        ·assumption
        ·cases hn
       ·rename_i hne;exact absurd rfl hne)
      refine made hdst ?_ h2 h3 h4 h5 h
      have:parts.map (fun (p:Nat × Operand)=>(p.1,a.eval p.2)) = (parts.toList.map fun (p:Nat × Operand)=>(p.1,a.eval p.2)).toArray:=by
       apply Array.ext';simp
      simp only [execOp,hop,Sem.run_bind,this,h1,Result.andThen_ok,Sem.run_pure]
     ·exact h.elim
    ·exact h.elim
   ·exact h.elim
  ·exact h.elim
 ·-- a map
  rename_i t r hop
  split at h
  ·split at h
   ·rename_i d hdst
    split at h
    ·rename_i hm
     obtain ⟨h1,h2,h3⟩:=hc.toConcM.allocMap hm
     refine made (x:=.map (some w.heap.size)) hdst ?_ h1 h2 h3 (RelT_of_Rel (v:=.mp d) ⟨Or.inl rfl,?_⟩) h
     ·simp only [execOp,hop,Option.map_none,Instr.makeMap,Sem.run_bind,Sem.run_pure,Result.andThen_ok]
      rfl
     ·simp [Env.add]
    ·exact h.elim
   ·exact h.elim
  ·exact h.elim
 ·-- a string's number is laid into a map
  rename_i t x k v hop
  split at h
  ·rename_i hdst
   split at h
   ·rename_i qs b l hv
    obtain ⟨w',h1,h2,h3⟩:=setV_sound (Γ:=Γ.toCtx) hc hv (hK _ _ _ h).left
    unfold Oper.wp
    have hrun:(execOp a.eval o).run Γ.P w = .ok .skip w':=by
     simp only [execOp,hop,Sem.run_bind,h1,Result.andThen_ok,Sem.run_pure]
    rw [hrun]
    show After N ρ M w _ (a.put o.dst undef) w'
    rw [hdst]
    exact ⟨ρ,T,_,⟨_,.und,h,rfl⟩,Env.le_refl _,(hc.of_mem (Env.le_refl _) h2).put_none _,h3⟩
   ·exact h.elim
  ·exact h.elim
 ·-- convert
  rename_i s t x hop
  split at h
  ·rename_i e hk
   split at h
   ·rename_i e0 hk0
    split at h
    ·rename_i v' hv'
     obtain ⟨b,f,i,n,c,sp,ls,hx,rfl,hm,hst,hke,hn0,hpos⟩:=markArg_some hv'
     subst hst
     have hr:=ev_rel hc x
     rw [hx] at hr
     obtain ⟨hdom,hnc,y,hv,hy⟩:=hr
     have hy:=hy (by omega)
     subst hy
     have us:=und_slice (Γ.ok (t:=s) (by rw [hk];simp)) hk
     have ue:=und_int (Γ.ok (t:=e) (by rw [hke];simp)) hke
     obtain ⟨w',h1,h2,h3⟩:=mark_sound hc.toConcM hm hpos ((ρ.pos b).2 + (f + i)) (n:=n) (c:=c) us ue
     have hrun:(execOp a.eval o).run Γ.P w = .ok (.value (.slice (some (ρ.addr b f i)) n c)) w':=by
      simp only [execOp,hop,Sem.run_bind,hv]
      have:(convert s s (.slice (some (ρ.addr b f i)) n c)).run Γ.P w = .ok (.slice (some (ρ.addr b f i)) n c) w':=h1
      rw [this]
      simp only [Result.andThen_ok,Sem.run_pure]
     unfold Oper.wp
     rw [hrun]
     show After N ρ M w _ (a.put o.dst _) w'
     refine ⟨ρ,putT o.dst (.sl b f i n c) T,M,⟨_,_,h,rfl⟩,Env.le_refl _,?_,h3⟩
     have hx':RelT ρ (.sl b f i n c) (.slice (some (ρ.addr b f i)) n c):=RelT_of_Rel ⟨hdom,hnc,_,rfl,fun _=>rfl⟩
     cases hdst:o.dst with
     | none=>exact (hc.of_mem (Env.le_refl _) h2).put_none _
     | some d=>exact (hc.of_mem (Env.le_refl _) h2).put (hd d hdst) hx'
    ·exact h.elim
   ·split at h
    ·rename_i d hdst
     split at h
     ·rename_i hm
      split at h
      ·rename_i l hl
       obtain ⟨w',ρ',c',hn,h1,h2,h3,h4,h5⟩:=strB_sound (Γ:=Γ.toCtx) hc hm hk hl
       exact made hdst (by simp only [execOp,hop,Sem.run_bind,h1,Result.andThen_ok,Sem.run_pure]) h2 h3 h4 h5 (h c' hn)
      ·exact h.elim
     ·exact h.elim
    ·exact h.elim
  ·split at h
   ·rename_i qs v hv
    exact pure rfl hv h
   ·exact h.elim
 ·-- call
  rename_i c hop
  split at h
  ·rename_i f hcal
   split at h
   ·rename_i g cap he
    have hr:=ev_rel hc f
    rw [he] at hr
    obtain ⟨hcap,hv⟩:=hr
    cases hmem:memB g Γ.calls with
    | false=>
     rw [hmem,cond_false] at h
     split at h
     ·rename_i qs v hv'
      have hargs:=RelTL_append (evL_rel hc c.args.toList) (capL_rel hcap)
      obtain ⟨x,hx,hrun⟩:=extV_sound hv' (hK _ _ _ h).left hargs w
      have hex:(execOp a.eval o).run Γ.P w = .ok (.value x) w:=by
       have e1:c.args.map a.eval ++ (cap.map fun p=>Value.pointer (some (ρ.addr p.1 p.2 0))).toArray = ((c.args.toList.map a.eval) ++ (cap.map fun p=>Value.pointer (some (ρ.addr p.1 p.2 0)))).toArray:=by
        apply Array.ext';simp
       simp only [execOp,hop,resolve,hcal,hv,Deferred.ofValue,Sem.run_bind,Sem.run_pure,Result.andThen_ok,invoke]
       simp only [Array.empty_append,e1]
       exact hrun
      unfold Oper.wp
      rw [hex]
      show After N ρ M w _ (a.put o.dst x) w
      refine ⟨ρ,putT o.dst v T,M,⟨_,v,h,rfl⟩,Env.le_refl _,?_,Step.refl _ _ _⟩
      cases hdst:o.dst with
      | none=>exact hc.put_none x
      | some d=>exact hc.put (hd d hdst) hx
     ·exact h.elim
    | true=>
     rw [hmem,cond_true] at h
     obtain ⟨fn,hfn,hname,hbody⟩:=memB_calls hmem
     have hargs:=RelTL_append (evL_rel hc c.args.toList) (capL_rel hcap)
     have hcall:=callX_sound hc.toConcM hargs (withP.rest h).out
     have hrun:(execOp a.eval o).run Γ.P w = .ok (.enter g ((c.args.toList.map a.eval) ++ (cap.map fun p=>Value.pointer (some (ρ.addr p.1 p.2 0)))).toArray) w:=by
      have e1:c.args.map a.eval = (c.args.toList.map a.eval).toArray:=by apply Array.ext';simp
      simp only [execOp,hop,resolve,hcal,hv,Deferred.ofValue,Sem.run_bind,Sem.run_pure,Result.andThen_ok,invoke,callFunc,run_program,hfn,hname,hbody,Bool.false_eq_true,if_false]
      congr 2
      rw [e1];simp
     unfold Oper.wp
     rw [hrun]
     show Calls Γ.P g _ w _
     refine hcall.mono ?_
     rintro e w' ⟨v,x,ρ',M',rfl,hx,hk,hle,hM',hst⟩
     show After N ρ M w _ (a.put o.dst x) w'
     refine ⟨ρ',putT o.dst v T,M',⟨[],v,by rw [forceM_eq] at hk;exact hk,rfl⟩,hle,?_,hst⟩
     cases hdst:o.dst with
     | none=>exact (hc.of_mem hle hM').put_none x
     | some d=>exact (hc.of_mem hle hM').put (hd d hdst) hx
   ·exact h.elim
  ·rename_i b hcal
   split at h
   ·rename_i hb
    split at h
    ·rename_i qs m b' E he
     have hbc:b = .copy:=by cases b <;> first | rfl | cases hb
     subst hbc
     obtain ⟨w',hrun,hM',hst⟩:=copyE_sound (Γ:=Γ.toCtx) hc he (hK _ _ _ h).left o.type
     have hex:(execOp a.eval o).run Γ.P w = .ok (.value (.int .i64 (m:Int))) w':=by
      simp only [execOp,hop,resolve,hcal,Sem.run_bind,Sem.run_pure,Result.andThen_ok,invoke]
      exact hrun
     unfold Oper.wp
     rw [hex]
     show After N ρ M w _ (a.put o.dst _) w'
     refine ⟨ρ,putT o.dst (.i .i64 (m:Int)) T,_,⟨_,_,h,rfl⟩,Env.le_refl _,?_,hst⟩
     have hc':=hc.of_mem (Env.le_refl _) hM'
     cases hdst:o.dst with
     | none=>exact hc'.put_none _
     | some d=>exact hc'.put (hd d hdst) (RelT_of_Rel rfl)
    ·exact h.elim
   ·split at h
    ·rename_i hb
     split at h
     ·rename_i d hdst
      split at h
      ·rename_i hm
       split at h
       ·rename_i qs n es leaf k M' hap
        split at h
        ·rename_i hm'
         have hba:b = .append:=by cases b <;> first | rfl | cases hb
         subst hba
         have go:(∀ c',n ≤ c'→K (qs ++ ps) (.sl d 0 0 n c') ((d,.mem true (mulE (c' - n) es) [(mulE n es,leaf)]) :: killM k M'))→o.wp Γ.P a w (After N ρ M w fun T' M'=>∃ qs v,K qs v M'∧T' = putT o.dst v T) Q:=by
          intro h
          obtain ⟨x,w',ρ',c',h1,hn,h2,h3,h4,h5⟩:=appV_sound (Γ:=Γ.toCtx) hc hm hap (hK _ _ _ (h n (Nat.le_refl _))).left hm' o.type
          exact made hdst (by
           simp only [execOp,hop,resolve,hcal,Sem.run_bind,Sem.run_pure,Result.andThen_ok,invoke]
           show (Builtin.append_ c.argTypes o.type (c.args.map a.eval) >>= fun v=>Pure.pure (Next.value v):Sem Next).run Γ.P w = _
           simp only [Sem.run_bind,h1,Result.andThen_ok,Sem.run_pure]) h2 h3 h4 h5 (h c' hn)
         split at h
         ·exact go h
         ·rename_i qe m v Me he
          by_cases h0:0 < m
          ·exact go (h.yes h0)
          ·have h:=h.no h0
           obtain ⟨x,ρ',h1,h2,h3,h4,h5⟩:=appE_sound (Γ:=Γ.toCtx) hc he (hK _ _ _ h).left (by omega) o.type
           exact made hdst (by
            simp only [execOp,hop,resolve,hcal,Sem.run_bind,Sem.run_pure,Result.andThen_ok,invoke]
            show (Builtin.append_ c.argTypes o.type (c.args.map a.eval) >>= fun v=>Pure.pure (Next.value v):Sem Next).run Γ.P w = _
            simp only [Sem.run_bind,h1,Result.andThen_ok,Sem.run_pure]) h2 h3 h4 h5 h
        ·exact h.elim
       ·split at h
        ·rename_i qs n cp b2 E M' hap
         have hba:b = .append:=by cases b <;> first | rfl | cases hb
         subst hba
         obtain ⟨x,w',ρ',h1,h2,h3,h4,h5⟩:=appP_sound (Γ:=Γ.toCtx) hc hap (hK _ _ _ h).left o.type
         exact made hdst (by
          simp only [execOp,hop,resolve,hcal,Sem.run_bind,Sem.run_pure,Result.andThen_ok,invoke]
          show (Builtin.append_ c.argTypes o.type (c.args.map a.eval) >>= fun v=>Pure.pure (Next.value v):Sem Next).run Γ.P w = _
          simp only [Sem.run_bind,h1,Result.andThen_ok,Sem.run_pure]) h2 h3 h4 h5 h
        ·exact h.elim
      ·exact h.elim
     ·exact h.elim
    split at h
    ·rename_i ps v hp
     exact pure rfl hp h
    ·split at h
     ·rename_i hb
      split at h
      ·rename_i hdst
       split at h
       ·rename_i qs a' E he
        have hbc:b = .clear:=by cases b <;> first | rfl | cases hb
        subst hbc
        obtain ⟨w',hrun,hM',hst⟩:=clearE_sound (Γ:=Γ.toCtx) hc he (hK _ _ _ h).left o.type
        have hex:(execOp a.eval o).run Γ.P w = .ok (.value (.tuple #[])) w':=by
         simp only [execOp,hop,resolve,hcal,Sem.run_bind,Sem.run_pure,Result.andThen_ok,invoke]
         show (Builtin.clear_ c.argTypes o.type (c.args.map a.eval) >>= fun v=>Pure.pure (Next.value v):Sem Next).run Γ.P w = _
         simp only [Sem.run_bind,hrun,Result.andThen_ok,Sem.run_pure]
        unfold Oper.wp
        rw [hex]
        show After N ρ M w _ (a.put o.dst _) w'
        refine ⟨ρ,putT o.dst .und T,_,⟨_,_,h,rfl⟩,Env.le_refl _,?_,hst⟩
        have hc':=hc.of_mem (Env.le_refl _) hM'
        rw [hdst];exact hc'.put_none _
       ·exact h.elim
      ·exact h.elim
     ·exact h.elim
  ·exact h.elim
 ·split at h
  ·rename_i ps v hp
   exact pure rfl hp h
  ·split at h
   ·rename_i n hn
    obtain ⟨b,hb,hr⟩:=nilC_sound (Γ:=Γ.toCtx) hc rfl hn
    have hk:=h (b = true) (fun h0 hb'=>by rw [hb h0] at hb';cases hb')
    unfold Oper.wp
    rw [hr]
    show After N ρ M w _ (a.put o.dst (.bool b)) w
    refine ⟨ρ,putT o.dst (.bool (b = true)) T,M,⟨_,_,hk,rfl⟩,Env.le_refl _,?_,Step.refl _ _ _⟩
    have hx:RelT ρ (.bool (b = true)) (.bool b):=RelT_of_Rel ⟨b,rfl,Iff.rfl⟩
    cases hdst:o.dst with
    | none=>exact hc.put_none _
    | some d=>exact hc.put (hd d hdst) hx
   ·exact h.elim
theorem effOp_all {Γ:Cfg} {o:Oper} {T:Tm} {M:Mm} {ps:List Prop} {K:List Prop→SV→Mm→Prop} (hK:∀ qs v M',K qs v M'→All qs) (h:effOp Γ o T M ps K):All ps:=by
 unfold effOp at h
 split at h
 ·repeat' (first | exact h.elim | exact hK _ _ _ h | split at h)
 ·repeat' (first | exact h.elim | exact (hK _ _ _ h).right | split at h)
 ·repeat' (first | exact h.elim | exact (hK _ _ _ h).right | split at h)
 ·repeat' (first | exact h.elim | exact (hK _ _ _ h).right | split at h)
 ·rcases bif_someP h with ⟨_,h⟩ | ⟨_,h⟩
  ·repeat' (first | exact h.elim | exact (hK _ _ _ h).right | split at h)
  ·exact h.elim
 ·repeat' (first | exact h.elim | exact hK _ _ _ h | split at h)
 ·repeat' (first | exact h.elim | exact (hK _ _ _ h).right | split at h)
 ·split at h
  ·split at h
   ·split at h
    ·exact hK _ _ _ h
    ·exact h.elim
   ·split at h
    ·split at h
     ·split at h
      ·exact hK _ _ _ (h _ (Nat.le_refl _))
      ·exact h.elim
     ·exact h.elim
    ·exact h.elim
  ·split at h
   ·exact (hK _ _ _ h).right
   ·exact h.elim
 ·split at h
  ·split at h
   ·rename_i g cap _
    cases hm:memB g Γ.calls with
    | false=>
     rw [hm,cond_false] at h
     split at h
     ·exact (hK _ _ _ h).right
     ·exact h.elim
    | true=>rw [hm] at h;exact withP.all h
   ·exact h.elim
  ·split at h
   ·split at h
    ·exact (hK _ _ _ h).right
    ·exact h.elim
   ·split at h
    ·split at h
     ·split at h
      ·split at h
       ·split at h
        ·split at h
         ·exact (hK _ _ _ (h _ (Nat.le_refl _))).right
         ·rename_i m _ _ _
          by_cases h0:0 < m
          ·exact (hK _ _ _ (h.yes h0 _ (Nat.le_refl _))).right
          ·exact (hK _ _ _ (h.no h0)).right
        ·exact h.elim
       ·split at h
        ·exact (hK _ _ _ h).right
        ·exact h.elim
      ·exact h.elim
     ·exact h.elim
    ·split at h
     ·exact (hK _ _ _ h).right
     ·split at h
      ·split at h
       ·split at h
        ·exact (hK _ _ _ h).right
        ·exact h.elim
       ·exact h.elim
      ·exact h.elim
  ·exact h.elim
 ·split at h
  ·exact (hK _ _ _ h).right
  ·split at h
   ·exact hK _ _ _ (h False (fun _=>id))
   ·exact h.elim
theorem runOps_all {Γ:Cfg} {all:List Oper} {K:Tm→Mm→Prop}:∀ {l:List Oper} {T:Tm} {M:Mm} {ps:List Prop},runOps Γ all l T M ps K→All ps
 | [],_,_,_,h=>withP.all h
 | o :: r,T,M,ps,h=>by
  unfold runOps stepOp at h
  have e:∀ {T':Tm} {qs:List Prop},(effOp Γ o T' M qs fun qs v M'=>forceP qs fun qs=>forceV v fun v=>runOps Γ all r (putT o.dst v T') M' qs K)→All qs:=
   fun h=>effOp_all (fun qs v M' hk=>runOps_all (by rw [forceP_eq,forceV_eq] at hk;exact hk)) h
  split at h
  ·exact e h
  ·split at h
   ·exact h.elim
   ·split at h
    ·split at h
     ·exact e h
     ·exact runOps_all h
    ·split at h
     ·exact e h
     ·exact runOps_all h
    ·split at h
     ·exact withP.all h
     ·exact withP.all h
    ·exact runOps_all h
    ·exact h.elim
theorem yielded_of {N:Nat} {ρ:Env} {T:Tm} {M:Mm} {a:Act} {w:World} (hc:Conc N ρ T M a w) {all:List Oper} {j d:Nat} (hd:guardSlot all j = some d) (hN:d < N) {b:Bool}
  (hv:a.tmps.getD d undef = .bool b):yielded all.toArray a.tmps j = some b:=by
 unfold guardSlot at hd
 unfold yielded
 split at hd
 ·rename_i o ho
  have h1:all.toArray[j]? = some o:=by simpa using ho
  have h2:a.tmps[d]? = some (.bool b):=by
   have:d < a.tmps.size:=by rw [hc.sz];exact hN
   rw [Array.getD_eq_getD_getElem?,Array.getElem?_eq_getElem this] at hv
   rw [Array.getElem?_eq_getElem this]
   simpa using hv
  simp only [h1,Option.bind_some,hd,h2]
 ·cases hd
theorem wanted_und {o:Oper} {all:List Oper} {j d:Nat} {want:Bool} {tmps:Array Value} (hg:o.guard = some (j,want)) (hd:guardSlot all j = some d) (hv:tmps.getD d undef = .tuple #[]):Region.wanted o (yielded all.toArray tmps) = false:=by
 have:yielded all.toArray tmps j = none:=by
  unfold guardSlot at hd
  unfold yielded
  split at hd
  ·rename_i o' ho
   have h1:all.toArray[j]? = some o':=by simpa using ho
   simp only [h1,Option.bind_some,hd]
   rw [Array.getD_eq_getD_getElem?] at hv
   cases hx:tmps[d]? with
   | none=>rfl
   | some x=>rw [hx,Option.getD_some] at hv;subst hv;rfl
  ·cases hd
 simp [Region.wanted,hg,this]
theorem Conc.know {N:Nat} {ρ:Env} {T:Tm} {M:Mm} {a:Act} {w:World} (hc:Conc N ρ T M a w) {d:Nat} {v:SV} (h:RelT ρ v (a.tmps.getD d undef)):Conc N ρ ((d,v) :: T) M a w where
 toConcM:=hc.toConcM
 sz:=hc.sz
 defers:=hc.defers
 tm e:=by
  by_cases he:e = d
  ·subst he;rw [getT_cons_self];exact h
  ·rw [getT_cons_ne he];exact hc.tm e
def dstOK (N:Nat):List Oper→Bool
 | []=>true
 | o :: r=>(match o.dst with
  | some d=>Nat.blt d N
  | none=>true) && dstOK N r
theorem dstOK_get {N:Nat}:∀ {l:List Oper},dstOK N l = true→∀ {o:Oper},o ∈ l→∀ d,o.dst = some d→d < N
 | [],_,_,h,_,_=>by simp at h
 | o' :: r,hn,o,h,d,hd=>by
  simp only [dstOK,Bool.and_eq_true] at hn
  rcases List.mem_cons.1 h with rfl | h
  ·rw [hd] at hn;exact u_lt_of hn.1
  ·exact dstOK_get hn.2 h d hd
theorem After.mono {N:Nat} {ρ:Env} {M:Mm} {w:World} {K K':Tm→Mm→Prop} {a:Act} {w':World} (hk:∀ T M,K T M→K' T M) (h:After N ρ M w K a w'):After N ρ M w K' a w':=by
 obtain ⟨ρ',T',M',h1,h2⟩:=h
 exact ⟨ρ',T',M',hk _ _ h1,h2⟩
theorem After.trans {N:Nat} {ρ:Env} {M:Mm} {w:World} {ρ1:Env} {M1:Mm} {w1:World} (hle:ρ.le ρ1) (hst:Step ρ M ρ1 M1 w w1) {K:Tm→Mm→Prop} {a:Act} {w':World} (h:After N ρ1 M1 w1 K a w'):After N ρ M w K a w':=by
 obtain ⟨ρ',T',M',h1,h2,h3,h4⟩:=h
 exact ⟨ρ',T',M',h1,Env.le_trans hle h2,h3,hst.trans h4⟩
theorem runOps_sound {Γ:Cfg} {N:Nat} {all:List Oper} (hall:dstOK N all = true) {K:Tm→Mm→Prop} {Q:Exit→Act→World→Prop}:∀ (l:List Oper),(∀ o ∈ l,o ∈ all) →
  ∀ {ρ:Env} {T:Tm} {M:Mm} {a:Act} {w:World} {ps:List Prop},Conc N ρ T M a w→runOps Γ all l T M ps K→(∀ a' w',After N ρ M w K a' w'→Q .normal a' w')→wpList Γ.P all.toArray Q l a w
 | [],_,ρ,T,M,a,w,ps,hc,h,hQ=>hQ a w ⟨ρ,T,M,withP.rest h,Env.le_refl _,hc,Step.refl _ _ _⟩
 | o :: r,hin,ρ,T,M,a,w,ps,hc,h,hQ=>by
  have hmem:=hin o (by simp)
  have hdst:=dstOK_get hall hmem
  have ih:=@runOps_sound Γ N all hall K Q r (fun o ho=>hin o (by simp [ho]))
  have go:∀ {T':Tm} {qs:List Prop},Conc N ρ T' M a w→Region.wanted o (yielded all.toArray a.tmps) = true→(effOp Γ o T' M qs fun qs v M'=>forceP qs fun qs=>forceV v fun v=>runOps Γ all r (putT o.dst v T') M' qs K)→wpList Γ.P all.toArray Q (o :: r) a w:=by
   intro T' qs hc' hw he
   refine wpList_step fun K' hK'=>?_
   rw [if_pos hw]
   have:=effOp_sound hc' hdst (fun qs v M' hk=>runOps_all (by rw [forceP_eq,forceV_eq] at hk;exact hk)) he (Q:=Q)
   refine Oper.wp_mono (fun a' w' haf=>hK' a' w' ?_) this
   obtain ⟨ρ',T'',M',⟨qs',v,hk,rfl⟩,hle,hc'',hst⟩:=haf
   rw [forceP_eq,forceV_eq] at hk
   exact ih hc'' hk fun a2 w2 h2=>hQ a2 w2 (h2.trans hle hst)
  have skip:∀ {T':Tm} {qs:List Prop},Conc N ρ T' M a w→Region.wanted o (yielded all.toArray a.tmps) = false→runOps Γ all r (putT o.dst (.tup []) T') M qs K→wpList Γ.P all.toArray Q (o :: r) a w:=by
   intro T' qs hc' hw he
   refine wpList_step fun K' hK'=>?_
   rw [if_neg (by rw [hw];simp)]
   refine hK' _ _ (ih (ρ:=ρ) (T:=putT o.dst (.tup []) T') ?_ he hQ)
   cases hd:o.dst with
   | none=>exact hc'.put_none _
   | some d=>exact hc'.put (hdst d hd) ⟨[],rfl,rfl⟩
  unfold runOps stepOp at h
  split at h
  ·rename_i hg
   exact go hc (by simp [Region.wanted,hg]) h
  ·rename_i j want hg
   split at h
   ·exact h.elim
   ·rename_i d hd
    have hdN:d < N:=by
     unfold guardSlot at hd
     split at hd
     ·rename_i o' ho'
      exact dstOK_get hall (List.mem_of_getElem? ho') d hd
     ·cases hd
    have hw:∀ {b:Bool},a.tmps.getD d undef = .bool b→Region.wanted o (yielded all.toArray a.tmps) = (b == want):=by
     intro b hb
     have:=yielded_of hc hd hdN hb
     simp only [Region.wanted,hg,this]
     cases b <;> cases want <;> rfl
    have hT:=hc.tm d
    split at h
    ·rename_i he;rw [he] at hT
     have hb:a.tmps.getD d undef = .bool true:=hT
     split at h
     ·exact go hc (by rw [hw hb];rfl) h
     ·exact skip hc (by rw [hw hb];rfl) h
    ·rename_i he;rw [he] at hT
     have hb:a.tmps.getD d undef = .bool false:=hT
     split at h
     ·exact go hc (by rw [hw hb];rfl) h
     ·exact skip hc (by rw [hw hb];rfl) h
    ·rename_i p he;rw [he] at hT
     obtain ⟨b,hb,hbp⟩:=hT
     split at h
     ·have h:=withP.rest h
      cases b with
      | true=>exact go (hc.know (v:=.tt) (RelT_of_Rel hb)) (by rw [hw hb];rfl) (h.yes (hbp.1 rfl))
      | false=>exact skip (hc.know (v:=.ff) (RelT_of_Rel hb)) (by rw [hw hb];rfl) (h.no fun hp=>by have:=hbp.2 hp;cases this)
     ·have h:=withP.rest h
      cases b with
      | true=>exact skip (hc.know (v:=.tt) (RelT_of_Rel hb)) (by rw [hw hb];rfl) (h.yes (hbp.1 rfl))
      | false=>exact go (hc.know (v:=.ff) (RelT_of_Rel hb)) (by rw [hw hb];rfl) (h.no fun hp=>by have:=hbp.2 hp;cases this)
    ·rename_i he;rw [he] at hT
     exact skip hc (wanted_und hg hd (hT.elim fun xs hx=>by have h1:=hx.1;have h2:=hx.2;simp only [RelL] at h1;subst h1;exact h2)) h
    ·exact h.elim
end Go.Sx
namespace Go.Sx
open Go
inductive Gh where
 | own (nm:Nat) (l0:List (Nat × SV))
 | leaf (a k nm:Nat)
 | keep (a:Nat)
 | ice (a k:Nat)
 | mark (a:Nat)
def nilAt (nm:Nat):Nat→List (Nat × SV)→Option (List (Nat × SV))
 | _,[]=>none
 | 0,(s,v) :: r=>match v with
  | .nsl=>some ((s,.sl nm 0 0 0 0) :: r)
  | _=>none
 | k + 1,x :: r=>match nilAt nm k r with
  | some q=>some (x :: q)
  | none=>none
def iceS (M:Mm) (a f i n:Nat):Option SV:=
 match getM M a with
 | some (.mem false (_ + 1) ls)=>(match midL ls f (i + n) with
  | some l0=>keepAs i n l0
  | none=>match f with
   | 0=>keepAs i n ls
   | _=>none)
 | _=>none
def ice1 (M:Mm) (v:SV):Option SV:=
 match v with
 | .ptr a f i=>match getM M a with
  | some (.mem false (_ + 1) ls)=>some (.iep f (i.getD 0) 1 ls)
  | _=>none
 | .sl a f i n _=>iceS M a f i n
 | .slx a f i n=>iceS M a f i n
 | _=>none
def iceAll (M:Mm) (ls:List (Nat × SV)):List (Nat × SV):=
 match ls with
 | []=>[]
 | (s,v) :: r=>match ice1 M v with
  | some v'=>(s,v') :: iceAll M r
  | none=>(s,v) :: iceAll M r
def iceV (M:Mm) (v:SV):Option SV:=
 match v with
 | .agg ls=>some (.agg (iceAll M ls))
 | v=>ice1 M v
theorem iceS_isl {M:Mm} {a f i n:Nat} {v':SV} (h:iceS M a f i n = some v'):∃ q s l2,v' = .isl q n s l2:=by
 have key:∀ {ls:List (Nat × SV)},keepAs i n ls = some v'→∃ q s l2,v' = .isl q n s l2:=by
  intro ls hk
  unfold keepAs at hk
  split at hk
  ·simp only [Option.some.injEq] at hk;subst hk;exact ⟨_,_,_,rfl⟩
  ·split at hk
   ·simp only [Option.some.injEq] at hk;subst hk;exact ⟨_,_,_,rfl⟩
   ·cases hk
 unfold iceS at h
 split at h
 ·split at h
  ·exact key h
  ·split at h
   ·exact key h
   ·cases h
 ·cases h
theorem iceS_sound {ρ:Env} {M:Mm} {w:World} (hM:ConcM ρ M w) {a f i n:Nat} {v':SV} (h:iceS M a f i n = some v') :
  ∃ ρ',ρ.le ρ'∧ConcM ρ' M w∧Step ρ M ρ' M w w∧∀ c y,n ≤ c→(c ≠ 0→y = some (ρ.addr a f i))→RelS ρ' v' (.slice y n c):=by
 unfold iceS at h
 split at h
 ·rename_i sp ls ha
  obtain ⟨cs,_,c2,_,_⟩:=hM.sat a _ ha
  have hi:=c2.2 rfl (Nat.succ_ne_zero _)
  split at h
  ·rename_i l0 hm
   obtain ⟨r,m1,m2⟩:=midL_spec hm
   obtain ⟨ρ2,p1,p2,p3,p4,p5⟩:=hM.part hi m1 m2
   exact ⟨ρ2,p1,p2,p3,fun c y hnc hy=>keepAs_rel h p4 hnc fun hc=>by rw [hy hc,addr_eq,Nat.add_assoc]⟩
  ·split at h
   ·exact ⟨ρ,Env.le_refl _,hM,Step.refl _ _ _,fun c y hnc hy=>keepAs_rel h hi hnc fun hc=>by rw [hy hc,addr_eq,Nat.zero_add]⟩
   ·cases h
 ·cases h
theorem ice1_sound {ρ:Env} {M:Mm} {w:World} (hM:ConcM ρ M w) {v v':SV} (h:ice1 M v = some v') :
  ∃ ρ',ρ.le ρ'∧ConcM ρ' M w∧Step ρ M ρ' M w w∧(∀ x,RelT ρ v x→RelT ρ' v' x)∧∀ c,Cells1 ρ v c→Cells1 ρ' v' c:=by
 unfold ice1 at h
 split at h
 ·rename_i a f i
  split at h
  ·rename_i sp ls ha
   simp only [Option.some.injEq] at h;subst h
   obtain ⟨cs,_,c2,_,_⟩:=hM.sat a _ ha
   have key:∀ x,RelS ρ (.ptr a f i) x→RelS ρ (.iep f (i.getD 0) 1 ls) x:=by
    rintro x ⟨_,rfl⟩
    refine ⟨_,_,?_,c2.2 rfl (Nat.succ_ne_zero _)⟩
    rw [addr_eq,Nat.mul_one]
   exact ⟨ρ,Env.le_refl _,hM,Step.refl _ _ _,fun x hx=>key x hx,fun c ⟨x,hx,e⟩=>⟨x,key x hx,e⟩⟩
  ·cases h
 ·rename_i a f i n c0
  obtain ⟨ρ',k1,k2,k3,k4⟩:=iceS_sound hM h
  obtain ⟨q,s,l2,rfl⟩:=iceS_isl h
  have key:∀ x,RelS ρ (.sl a f i n c0) x→RelS ρ' (.isl q n s l2) x:=by
   rintro x ⟨_,hnc,y,rfl,hy⟩
   exact k4 _ _ hnc hy
  exact ⟨ρ',k1,k2,k3,fun x hx=>key x hx,fun c ⟨x,hx,e⟩=>⟨x,key x hx,e⟩⟩
 ·rename_i a f i n
  obtain ⟨ρ',k1,k2,k3,k4⟩:=iceS_sound hM h
  obtain ⟨q,s,l2,rfl⟩:=iceS_isl h
  have key:∀ x,RelS ρ (.slx a f i n) x→RelS ρ' (.isl q n s l2) x:=by
   rintro x ⟨_,c,y,hnc,rfl,hy⟩
   exact k4 _ _ hnc hy
  exact ⟨ρ',k1,k2,k3,fun x hx=>key x hx,fun c ⟨x,hx,e⟩=>⟨x,key x hx,e⟩⟩
 ·cases h
theorem iceAll_sound {M:Mm} {w:World}:∀ {ls:List (Nat × SV)} {ρ:Env},ConcM ρ M w→∃ ρ',ρ.le ρ'∧ConcM ρ' M w∧Step ρ M ρ' M w w∧∀ cs,CellsL ρ ls cs→CellsL ρ' (iceAll M ls) cs
 | [],ρ,hM=>⟨ρ,Env.le_refl _,hM,Step.refl _ _ _,fun cs h=>h⟩
 | (s,v) :: r,ρ,hM=>by
  simp only [iceAll]
  split
  ·rename_i v' hv
   obtain ⟨ρ1,k1,k2,k3,_,k5⟩:=ice1_sound hM hv
   obtain ⟨ρ2,l1,l2,l3,l4⟩:=iceAll_sound (ls:=r) k2
   exact ⟨ρ2,Env.le_trans k1 l1,l2,k3.trans l3,fun cs ⟨c1,c2,e,hl,h1,h2⟩=>⟨c1,c2,e,hl,(k5 _ h1).le l1,l4 _ (h2.le k1)⟩⟩
  ·obtain ⟨ρ2,l1,l2,l3,l4⟩:=iceAll_sound (ls:=r) hM
   exact ⟨ρ2,l1,l2,l3,fun cs ⟨c1,c2,e,hl,h1,h2⟩=>⟨c1,c2,e,hl,h1.le l1,l4 _ h2⟩⟩
theorem iceV_sound {ρ:Env} {M:Mm} {w:World} (hM:ConcM ρ M w) {v v':SV} (h:iceV M v = some v') :
  ∃ ρ',ρ.le ρ'∧ConcM ρ' M w∧Step ρ M ρ' M w w∧∀ x,RelT ρ v x→RelT ρ' v' x:=by
 unfold iceV at h
 split at h
 ·rename_i ls
  simp only [Option.some.injEq] at h;subst h
  obtain ⟨ρ2,l1,l2,l3,l4⟩:=iceAll_sound (ls:=ls) hM
  exact ⟨ρ2,l1,l2,l3,fun x ⟨cs,hc,e⟩=>⟨cs,l4 _ hc,e⟩⟩
 ·obtain ⟨ρ',k1,k2,k3,k4,_⟩:=ice1_sound hM h
  exact ⟨ρ',k1,k2,k3,k4⟩
def iceAt (M:Mm):Nat→List (Nat × SV)→Option (List (Nat × SV))
 | _,[]=>none
 | 0,(s,v) :: r=>match ice1 M v with
  | some v'=>some ((s,v') :: r)
  | none=>none
 | k + 1,x :: r=>match iceAt M k r with
  | some q=>some (x :: q)
  | none=>none
theorem iceAt_cells {ρ:Env} {M:Mm} {w:World} (hM:ConcM ρ M w):∀ {k:Nat} {ls ls':List (Nat × SV)},iceAt M k ls = some ls' →
  ∃ ρ',ρ.le ρ'∧ConcM ρ' M w∧Step ρ M ρ' M w w∧∀ cs,CellsL ρ ls cs→CellsL ρ' ls' cs
 | _,[],_,h=>by simp [iceAt] at h
 | 0,(s,v) :: r,ls',h=>by
  simp only [iceAt] at h
  split at h
  ·rename_i v' hv
   simp only [Option.some.injEq] at h;subst h
   obtain ⟨ρ1,k1,k2,k3,_,k5⟩:=ice1_sound hM hv
   exact ⟨ρ1,k1,k2,k3,fun cs ⟨c1,c2,e,hl,h1,h2⟩=>⟨c1,c2,e,hl,k5 _ h1,h2.le k1⟩⟩
  ·cases h
 | k + 1,(s,v) :: r,ls',h=>by
  simp only [iceAt] at h
  split at h
  ·rename_i q hq
   simp only [Option.some.injEq] at h;subst h
   obtain ⟨ρ1,k1,k2,k3,k5⟩:=iceAt_cells hM hq
   exact ⟨ρ1,k1,k2,k3,fun cs ⟨c1,c2,e,hl,h1,h2⟩=>⟨c1,c2,e,hl,h1.le k1,k5 _ h2⟩⟩
  ·cases h
theorem iceAt_size {M:Mm}:∀ {k:Nat} {ls ls':List (Nat × SV)},iceAt M k ls = some ls'→sizeL ls' = sizeL ls
 | _,[],_,h=>by simp [iceAt] at h
 | 0,(s,v) :: r,ls',h=>by
  simp only [iceAt] at h
  split at h
  ·simp only [Option.some.injEq] at h;subst h;rfl
  ·cases h
 | k + 1,(s,v) :: r,ls',h=>by
  simp only [iceAt] at h
  split at h
  ·rename_i q hq
   simp only [Option.some.injEq] at h;subst h
   simp only [sizeL,iceAt_size hq]
  ·cases h
def ghostM (gs:List Gh) (M:Mm):Option (List Prop × Mm):=
 match gs with
 | []=>some ([],M)
 | .own nm l0 :: r=>match getM M nm with
  | some _=>none
  | none=>match ghostM r ((nm,.mem true 0 l0) :: M) with
   | some (ps,M')=>some (nilL l0 :: ps,M')
   | none=>none
 | .leaf a k nm :: r=>match getM M nm with
  | none=>none
  | some _=>match getM M a with
   | some (.mem true sp ls)=>match nilAt nm k ls with
    | some ls'=>ghostM r ((a,.mem true sp ls') :: M)
    | none=>none
   | _=>none
 | .keep a :: r=>match getM M a with
  | some (.mem true _ ls)=>bif bareR ls then ghostM r ((a,.mem false 1 ls) :: M) else none
  | _=>none
 | .ice a k :: r=>match getM M a with
  | some (.mem true sp ls)=>match iceAt M k ls with
   | some ls'=>ghostM r ((a,.mem true sp ls') :: M)
   | none=>none
  | _=>none
 | .mark a :: r=>match getM M a with
  | some (.mem true sp ls)=>ghostM r ((a,.mem true sp (ls ++ [(0,.a8 [])])) :: M)
  | _=>none
def nilS (sl:List (Nat × Nat)) (T:Tm) (M:Mm):Option Tm:=
 match sl with
 | []=>some T
 | (d,nm) :: r=>match nm with
  | 0=>match iceV M (getT T d) with
   | some v=>match nilS r T M with
    | some T'=>some ((d,v) :: T')
    | none=>none
   | none=>none
  | nm=>match getM M nm with
   | none=>none
   | some _=>match getT T d with
    | .nsl=>match nilS r T M with
     | some T'=>some ((d,.sl nm 0 0 0 0) :: T')
     | none=>none
    | _=>none
theorem nilAt_cells {ρ:Env} {nm:Nat} (hd:ρ.dom nm):∀ {k:Nat} {ls ls':List (Nat × SV)} {cs:List Value},nilAt nm k ls = some ls'→CellsL ρ ls cs→CellsL ρ ls' cs
 | _,[],_,_,h,_=>by simp [nilAt] at h
 | 0,(s,v) :: r,ls',cs,h,hc=>by
  simp only [nilAt] at h
  split at h
  ·simp only [Option.some.injEq] at h;subst h
   obtain ⟨c1,c2,e,hl,⟨x,hx,e1⟩,h2⟩:=hc
   exact ⟨c1,c2,e,hl,⟨x,⟨hd,Nat.le_refl _,none,hx,fun hc=>absurd rfl hc⟩,e1⟩,h2⟩
  ·cases h
 | k + 1,(s,v) :: r,ls',cs,h,hc=>by
  simp only [nilAt] at h
  split at h
  ·rename_i q hq
   simp only [Option.some.injEq] at h;subst h
   obtain ⟨c1,c2,e,hl,h1,h2⟩:=hc
   exact ⟨c1,c2,e,hl,h1,nilAt_cells hd hq h2⟩
  ·cases h
theorem nilAt_size {nm:Nat}:∀ {k:Nat} {ls ls':List (Nat × SV)},nilAt nm k ls = some ls'→sizeL ls' = sizeL ls
 | _,[],_,h=>by simp [nilAt] at h
 | 0,(s,v) :: r,ls',h=>by
  simp only [nilAt] at h
  split at h
  ·simp only [Option.some.injEq] at h;subst h;rfl
  ·cases h
 | k + 1,(s,v) :: r,ls',h=>by
  simp only [nilAt] at h
  split at h
  ·rename_i q hq
   simp only [Option.some.injEq] at h;subst h
   simp only [sizeL,nilAt_size hq]
  ·cases h
theorem ghostM_sound {w:World}:∀ {gs:List Gh} {M:Mm} {ps:List Prop} {M':Mm},ghostM gs M = some (ps,M')→All ps→∀ {ρ:Env},ConcM ρ M w→∃ ρ',ρ.le ρ'∧ConcM ρ' M' w∧Step ρ M ρ' M' w w
 | [],M,ps,M',h,_,ρ,hM=>by
  simp only [ghostM,Option.some.injEq,Prod.mk.injEq] at h
  obtain ⟨_,rfl⟩:=h
  exact ⟨ρ,Env.le_refl _,hM,Step.refl _ _ _⟩
 | .own nm l0 :: r,M,ps,M',h,hp,ρ,hM=>by
  simp only [ghostM] at h
  split at h
  ·cases h
  ·rename_i hn
   split at h
   ·rename_i qs M1 hr
    simp only [Option.some.injEq,Prod.mk.injEq] at h;obtain ⟨rfl,rfl⟩:=h
    have hnil:=hp.head
    have hz:=nilL_size hnil
    obtain ⟨k1,k2,k3⟩:=hM.claim (b:=0) (o:=0) (sp:=0) hn (nilL_cells ρ hnil) (fun j v hj=>by simp at hj) (fun p h1 h2=>by rw [hz] at h2;omega) (fun j hj=>by rw [hz] at hj;omega)
    have hst:Step ρ M (ρ.add nm (0,0)) ((nm,.mem true 0 l0) :: M) w w:=by
     refine ⟨Nat.le_refl _,rfl,rfl,fun _ _ _=>rfl,fun _ _ _ _=>⟨rfl,rfl⟩,fun k p _ ho=>?_,fun _ _ _ h=>Or.inl h⟩
     rcases k3 k p ho with h | ⟨_,h1,h2⟩
     ·exact h
     ·rw [hz] at h2;omega
    obtain ⟨ρ',l1,l2,l3⟩:=ghostM_sound hr hp.tail k2
    exact ⟨ρ',Env.le_trans k1 l1,l2,hst.trans l3⟩
   ·cases h
 | .keep a :: r,M,ps,M',h,hp,ρ,hM=>by
  simp only [ghostM] at h
  split at h
  ·rename_i sp ls ha
   have hb:=(bif_none h).1
   replace h:=(bif_none h).2
   obtain ⟨k1,k2⟩:=hM.keep ha hb
   obtain ⟨ρ',l1,l2,l3⟩:=ghostM_sound h hp k1
   exact ⟨ρ',Env.le_trans (Env.le_addI _ _ _ _) l1,l2,k2.trans l3⟩
  ·cases h
 | .ice a k :: r,M,ps,M',h,hp,ρ,hM=>by
  simp only [ghostM] at h
  split at h
  ·rename_i sp ls ha
   split at h
   ·rename_i ls' hl
    obtain ⟨cs,c1,_,c3,_⟩:=hM.sat a _ ha
    obtain ⟨ρ1,i1,i2,i3,i4⟩:=iceAt_cells hM hl
    obtain ⟨k1,k2⟩:=i2.tell ha (iceAt_size hl) (i4 _ c1) (fun j v hj=>by rw [(i1.dm a (hM.mod a _ ha)).2];exact c3 j v hj)
    obtain ⟨ρ',l1,l2,l3⟩:=ghostM_sound h hp k1
    exact ⟨ρ',Env.le_trans i1 l1,l2,i3.trans (k2.trans l3)⟩
   ·cases h
  ·cases h
 | .leaf a k nm :: r,M,ps,M',h,hp,ρ,hM=>by
  simp only [ghostM] at h
  split at h
  ·cases h
  ·rename_i e hn
   split at h
   ·rename_i sp ls ha
    split at h
    ·rename_i ls' hl
     obtain ⟨cs,c1,_,c3,_⟩:=hM.sat a _ ha
     obtain ⟨k1,k2⟩:=hM.tell ha (nilAt_size hl) (nilAt_cells (hM.mod nm e hn) hl c1) c3
     obtain ⟨ρ',l1,l2,l3⟩:=ghostM_sound h hp k1
     exact ⟨ρ',l1,l2,k2.trans l3⟩
    ·cases h
   ·cases h
 | .mark a :: r,M,ps,M',h,hp,ρ,hM=>by
  simp only [ghostM] at h
  split at h
  ·rename_i sp ls ha
   obtain ⟨cs,c1,_,c3,_⟩:=hM.sat a _ ha
   have hcl:CellsL ρ (ls ++ [(0,.a8 [])]) (cs ++ []):=CellsL_append c1 ⟨[],[],rfl,rfl,rfl,rfl⟩
   have hsz:sizeL (ls ++ [(0,SV.a8 [])]) = sizeL ls:=by rw [← hcl.length,← c1.length,List.append_nil]
   rw [List.append_nil] at hcl
   obtain ⟨k1,k2⟩:=hM.tell ha hsz hcl c3
   obtain ⟨ρ',l1,l2,l3⟩:=ghostM_sound h hp k1
   exact ⟨ρ',l1,l2,k2.trans l3⟩
  ·cases h
theorem nilS_sound {N:Nat} {M:Mm} {a:Act} {w:World}:∀ {sl:List (Nat × Nat)} {T T':Tm},nilS sl T M = some T'→∀ {ρ:Env},Conc N ρ T M a w→∃ ρ',ρ.le ρ'∧Conc N ρ' T' M a w∧Step ρ M ρ' M w w
 | [],T,T',h,ρ,hc=>by
  simp only [nilS,Option.some.injEq] at h;subst h;exact ⟨ρ,Env.le_refl _,hc,Step.refl _ _ _⟩
 | (d,nm) :: r,T,T',h,ρ,hc=>by
  have put:∀ {ρ:Env} {v:SV} {T1:Tm},RelT ρ v (a.tmps.getD d undef)→Conc N ρ T1 M a w→Conc N ρ ((d,v) :: T1) M a w:=by
   intro ρ v T1 hv h1
   refine ⟨h1.toConcM,h1.sz,h1.defers,fun s=>?_⟩
   by_cases hs:s = d
   ·subst hs
    rw [getT_cons_self]
    exact hv
   ·rw [getT_cons_ne hs];exact h1.tm s
  simp only [nilS] at h
  split at h
  ·split at h
   ·rename_i v hv
    split at h
    ·rename_i T1 hr
     simp only [Option.some.injEq] at h;subst h
     obtain ⟨ρ1,k1,k2,k3⟩:=nilS_sound hr hc
     obtain ⟨ρ2,l1,l2,l3,l4⟩:=iceV_sound k2.toConcM hv
     exact ⟨ρ2,Env.le_trans k1 l1,put (l4 _ ((hc.tm d).le k1)) (k2.of_mem l1 l2),k3.trans l3⟩
    ·cases h
   ·cases h
  ·split at h
   ·cases h
   ·rename_i e hn
    split at h
    ·rename_i hd
     split at h
     ·rename_i T1 hr
      simp only [Option.some.injEq] at h;subst h
      obtain ⟨ρ1,k1,k2,k3⟩:=nilS_sound hr hc
      have ht:=(hc.tm d).le k1
      rw [hd] at ht
      exact ⟨ρ1,k1,put (RelT_of_Rel ⟨k2.toConcM.mod _ e hn,Nat.le_refl _,none,ht,fun hc=>absurd rfl hc⟩) k2,k3⟩
     ·cases h
    ·cases h
end Go.Sx
namespace Go.Sx
open Go
def Env.lim (ρ:Env) (M:Mm):Env:=⟨fun a=>ρ.dom a∧(getM M a).isSome = true,ρ.pos,ρ.imm⟩
theorem Env.lim_le (ρ:Env) (M:Mm):(ρ.lim M).le ρ:=⟨fun _ h=>⟨h.1,rfl⟩,fun _ _ _ h=>h⟩
theorem getM_append:∀ (E M:Mm) (a:Nat),getM (E ++ M) a = match getM E a with
  | some e=>some e
  | none=>getM M a
 | [],M,a=>rfl
 | (k,e) :: r,M,a=>by
  by_cases h:a = k
  ·subst h;rw [List.cons_append,getM_cons_self,getM_cons_self]
  ·rw [List.cons_append,getM_cons_ne h,getM_cons_ne h];exact getM_append r M a
theorem getM_append_new {E M:Mm} {a:Nat} {e:Ent} (h:getM E a = some e):getM (E ++ M) a = some e:=by rw [getM_append,h]
theorem getM_append_old {E M:Mm} {a:Nat} (h:getM E a = none):getM (E ++ M) a = getM M a:=by rw [getM_append,h]
theorem SatE.lim {ρ:Env} {M:Mm} {w:World} {pos:Nat × Nat} {e:Ent} (h:SatE (ρ.lim M) w pos e):SatE ρ w pos e:=
 SatE.of_same (Env.lim_le ρ M) (Nat.le_refl _) (fun _ _ _=>⟨rfl,rfl⟩) (fun _ _ _=>rfl) h
theorem RelS.both {ρ ρ':Env} {M:Mm} (hd:∀ a,ρ'.dom a→(getM M a).isSome = true) {v:SV} {x x':Value} (r:RelS ρ v x) (r':RelS ρ' v x'):RelS (ρ.lim M) v x:=by
 cases v <;> simp only [RelS] at r r' ⊢ <;> try exact r
 case ptr a f i=>exact ⟨⟨r.1,hd _ r'.1⟩,r.2⟩
 case sl a f i n c=>exact ⟨⟨r.1,hd _ r'.1⟩,r.2⟩
 case slx a f i n=>exact ⟨⟨r.1,hd _ r'.1⟩,r.2⟩
 case fn f cap=>exact ⟨fun p hp=>⟨r.1 p hp,hd _ (r'.1 p hp)⟩,r.2⟩
 case mp a=>exact ⟨⟨r.1,hd _ r'.1⟩,r.2⟩
 case ep a f q s=>exact ⟨⟨r.1,hd _ r'.1⟩,r.2⟩
theorem Cells1.both {ρ ρ':Env} {M:Mm} (hd:∀ a,ρ'.dom a→(getM M a).isSome = true) {v:SV} {cs cs':List Value} (r:Cells1 ρ v cs) (r':Cells1 ρ' v cs'):Cells1 (ρ.lim M) v cs:=by
 cases v <;> simp only [Cells1] at r r' ⊢ <;> first | exact r | (obtain ⟨x,hx,rfl⟩:=r;obtain ⟨x',hx',_⟩:=r';exact ⟨x,hx.both hd hx',rfl⟩) | exact ⟨r.1,fun q hq=>r.2 q hq⟩
theorem CellsL.both {ρ ρ':Env} {M:Mm} (hd:∀ a,ρ'.dom a→(getM M a).isSome = true):∀ {ls:List (Nat × SV)} {cs cs':List Value},CellsL ρ ls cs→CellsL ρ' ls cs'→CellsL (ρ.lim M) ls cs
 | [],_,_,r,_=>r
 | (_,_) :: _,_,_,⟨c1,c2,e,hl,h1,h2⟩,⟨_,_,_,_,k1,k2⟩=>⟨c1,c2,e,hl,h1.both hd k1,CellsL.both hd h2 k2⟩
theorem Rel.both {ρ ρ':Env} {M:Mm} (hd:∀ a,ρ'.dom a→(getM M a).isSome = true) {v:SV} {x x':Value} (r:Rel ρ v x) (r':Rel ρ' v x'):Rel (ρ.lim M) v x:=by
 cases v <;> simp only [Rel] at r r' ⊢ <;> first | exact r | exact RelS.both hd r r' | (obtain ⟨cs,hc,e⟩:=r;obtain ⟨cs',hc',_⟩:=r';exact ⟨cs,hc.both hd hc',e⟩)
theorem RelL.both {ρ ρ':Env} {M:Mm} (hd:∀ a,ρ'.dom a→(getM M a).isSome = true):∀ {vs:List SV} {xs xs':List Value},RelL ρ vs xs→RelL ρ' vs xs'→RelL (ρ.lim M) vs xs
 | [],_,_,r,_=>r
 | _ :: _,_,_,⟨x,ys,e,h1,h2⟩,⟨_,_,_,k1,k2⟩=>⟨x,ys,e,h1.both hd k1,RelL.both hd h2 k2⟩
theorem RelT.both {ρ ρ':Env} {M:Mm} (hd:∀ a,ρ'.dom a→(getM M a).isSome = true) {v:SV} {x x':Value} (r:RelT ρ v x) (r':RelT ρ' v x'):RelT (ρ.lim M) v x:=by
 cases v <;> simp only [RelT] at r r' ⊢ <;> first | exact Rel.both hd r r' | (obtain ⟨xs,hx,e⟩:=r;obtain ⟨xs',hx',_⟩:=r';exact ⟨xs,hx.both hd hx',e⟩)
def ToldT (M:Mm) (v:SV):Prop:=∃ (ρ:Env) (x:Value),(∀ a,ρ.dom a→(getM M a).isSome = true)∧RelT ρ v x
def ToldE (M:Mm) (e:Ent):Prop:=∃ (ρ:Env) (w:World) (pos:Nat × Nat),(∀ a,ρ.dom a→(getM M a).isSome = true)∧SatE ρ w pos e
theorem ToldT.rel {M:Mm} {v:SV} (h:ToldT M v) {ρ:Env} {x:Value} (r:RelT ρ v x):RelT (ρ.lim M) v x:=by
 obtain ⟨ρ',x',hd,r'⟩:=h
 exact r.both hd r'
theorem ToldE.sat {M:Mm} {e:Ent} (h:ToldE M e) {ρ:Env} {w:World} {pos:Nat × Nat} (r:SatE ρ w pos e):SatE (ρ.lim M) w pos e:=by
 obtain ⟨ρ',w',pos',hd,r'⟩:=h
 cases e with
 | dead=>trivial
 | mem own sp ls=>
  obtain ⟨cs,h1,h2,h3,h4⟩:=r
  obtain ⟨cs',k1,_⟩:=r'
  exact ⟨cs,h1.both hd k1,h2,h3,h4⟩
 | map m=>exact r
theorem ToldT.mono {M M':Mm} (h:∀ a e,getM M a = some e→∃ e',getM M' a = some e') {v:SV} (t:ToldT M v):ToldT M' v:=by
 obtain ⟨ρ',x',hd,r'⟩:=t
 refine ⟨ρ',x',fun a ha=>?_,r'⟩
 obtain ⟨e,he⟩:=Option.isSome_iff_exists.1 (hd a ha)
 obtain ⟨e',he'⟩:=h a e he
 rw [he'];rfl
theorem ToldE.mono {M M':Mm} (h:∀ a e,getM M a = some e→∃ e',getM M' a = some e') {v:Ent} (t:ToldE M v):ToldE M' v:=by
 obtain ⟨ρ',w',x',hd,r'⟩:=t
 refine ⟨ρ',w',x',fun a ha=>?_,r'⟩
 obtain ⟨e,he⟩:=Option.isSome_iff_exists.1 (hd a ha)
 obtain ⟨e',he'⟩:=h a e he
 rw [he'];rfl
theorem ConcM.told {ρ:Env} {M:Mm} {w:World} (h:ConcM ρ M w) {a:Nat} {e:Ent} (he:getM M a = some e):ToldE M e:=
 ⟨ρ,w,_,fun b hb=>Option.isSome_iff_exists.2 (h.dom b hb),h.sat a e he⟩
theorem ConcM.toldT {ρ:Env} {M:Mm} {w:World} (h:ConcM ρ M w) {v:SV} {x:Value} (r:RelT ρ v x):ToldT M v:=
 ⟨ρ,x,fun b hb=>Option.isSome_iff_exists.2 (h.dom b hb),r⟩
structure Sub (Mi M:Mm):Prop where
 sub:∀ a e,getM Mi a = some e→getM M a = some e
 told:∀ a e,getM Mi a = some e→ToldE Mi e
theorem Sub.conc {ρ:Env} {Mi M:Mm} {w:World} (hs:Sub Mi M) (h:ConcM ρ M w):ConcM (ρ.lim Mi) Mi w where
 dom a ha:=Option.isSome_iff_exists.1 ha.2
 mod a e he:=⟨h.mod a e (hs.sub a e he),by rw [he];rfl⟩
 sat a e he:=(hs.told a e he).sat (h.sat a e (hs.sub a e he))
 sep a b e e' ha hb:=h.sep a b e e' (hs.sub a e ha) (hs.sub b e' hb)
 imm:=h.imm
 isep b o hi ho:=h.isep b o hi (by obtain ⟨a,e,h1,h2⟩:=ho;exact ⟨a,e,hs.sub a e h1,h2⟩)
theorem ConcM.frame {ρ ρ':Env} {M Mi E:Mm} {w w':World} (h:ConcM ρ M w) (hs:Sub Mi M) (hle:(ρ.lim Mi).le ρ') (h':ConcM ρ' (E ++ Mi) w') (hst:Step (ρ.lim Mi) Mi ρ' (E ++ Mi) w w')
  (hE:∀ a e,getM E a = some e→(getM M a = none∧e.loose = true) ∨ (e.loose = true∧∃ e0,getM Mi a = some e0)) :
  ∃ ρ'',ρ.le ρ''∧ρ'.le ρ''∧ConcM ρ'' (E ++ M) w'∧Step ρ M ρ'' (E ++ M) w w':=by
 have hMi:∀ {a e},getM Mi a = some e→getM M a = some e:=fun {a e} he=>hs.sub a e he
 have hEi:∀ {a e},getM Mi a = some e→getM E a = none→getM (E ++ Mi) a = some e:=fun {a e} he hn=>by
  rw [getM_append_old hn];exact he
 have posi:∀ {a e},getM Mi a = some e→ρ'.pos a = ρ.pos a:=fun {a e} he=>(hle a ⟨h.mod a e (hMi he),by rw [he];rfl⟩).2
 have both:∀ {a},ρ.dom a→ρ'.dom a→ρ'.pos a = ρ.pos a:=by
  intro a h1 h2
  obtain ⟨e,he⟩:=h'.dom a h2
  obtain ⟨e0,he0⟩:=h.dom a h1
  cases hx:getM E a with
  | none=>
   rw [getM_append_old hx] at he
   exact posi he
  | some e'=>
   rcases hE a e' hx with h3 | ⟨_,e1,h3⟩
   ·rw [h3.1] at he0;cases he0
   ·exact posi h3
 classical
 let ρ2:Env:=⟨fun a=>ρ.dom a ∨ ρ'.dom a,fun a=>if ρ.dom a then ρ.pos a else ρ'.pos a,ρ'.imm⟩
 have p1:∀ {a},ρ.dom a→ρ2.pos a = ρ.pos a:=fun {a} ha=>by simp only [ρ2];rw [if_pos ha]
 have p2:∀ {a},ρ'.dom a→ρ2.pos a = ρ'.pos a:=fun {a} ha=>by
  by_cases hd:ρ.dom a
  ·rw [p1 hd,both hd ha]
  ·simp only [ρ2];rw [if_neg hd]
 have l1:ρ.le ρ2:=⟨fun a ha=>⟨Or.inl ha,p1 ha⟩,hle.im⟩
 have l2:ρ'.le ρ2:=⟨fun a ha=>⟨Or.inr ha,p2 ha⟩,fun _ _ _ h=>h⟩
 have ownI:∀ {b o},Owns (ρ.lim Mi) Mi b o→Owns ρ M b o:=by
  rintro b o ⟨a,e,h1,h2,h3⟩
  exact ⟨a,e,hMi h1,h2,h3⟩
 have rest:∀ {a e},getM M a = some e→getM Mi a = none→∀ b o,foot (ρ.pos a) e b o→b < w.heap.size∧¬ Owns (ρ.lim Mi) Mi b o:=by
  intro a e he hn b o hf
  refine ⟨foot_lt (h.sat a e he) hf,?_⟩
  rintro ⟨c,e',h1,h2,h3⟩
  have hne:c ≠ a:=by rintro rfl;rw [hn] at h1;cases h1
  exact h.sep c a e' e (hMi h1) he hne h2 b o h3 hf
 have cases':∀ {a e},getM (E ++ M) a = some e→(getM (E ++ Mi) a = some e∧ρ'.dom a∧(getM E a = some e ∨ getM Mi a = some e)) ∨ (getM M a = some e∧getM Mi a = none∧getM E a = none∧ρ.dom a):=by
  intro a e he
  cases hx:getM E a with
  | some e'=>
   rw [getM_append_new hx] at he
   have:getM (E ++ Mi) a = some e:=by rw [getM_append_new hx];exact he
   exact Or.inl ⟨this,h'.mod a e this,Or.inl (by rw [← he])⟩
  | none=>
   rw [getM_append_old hx] at he
   cases hy:getM Mi a with
   | some e'=>
    have:=hMi hy
    rw [he] at this
    simp only [Option.some.injEq] at this;subst this
    exact Or.inl ⟨hEi hy hx,h'.mod a e (hEi hy hx),Or.inr rfl⟩
   | none=>exact Or.inr ⟨he,rfl,rfl,h.mod a e he⟩
 have isep2:∀ b o,ImmC ρ2 b o→¬ Owns ρ2 (E ++ M) b o:=by
  rintro b o hi ⟨a,e,ha,ho,hf⟩
  rcases cases' ha with ⟨h1,h2,_⟩ | ⟨h1,h2,_,h4⟩
  ·rw [p2 h2] at hf
   exact h'.isep b o hi ⟨a,e,h1,ho,hf⟩
  ·rw [p1 h4] at hf
   obtain ⟨q1,q2⟩:=rest h1 h2 b o hf
   rcases hst.immo b o q1 hi with h5 | h5
   ·exact h.isep b o h5 ⟨a,e,h1,ho,hf⟩
   ·exact q2 h5
 refine ⟨ρ2,l1,l2,⟨?_,?_,?_,?_,h'.imm,isep2⟩,hst.size,hst.os,hst.output,?_,?_,?_,fun b o hb hi=>(hst.immo b o hb hi).imp (fun h=>h) ownI⟩
 ·rintro a (ha | ha)
  ·obtain ⟨e,he⟩:=h.dom a ha
   cases hx:getM E a with
   | some e'=>exact ⟨e',getM_append_new hx⟩
   | none=>exact ⟨e,by rw [getM_append_old hx];exact he⟩
  ·obtain ⟨e,he⟩:=h'.dom a ha
   cases hx:getM E a with
   | some e'=>exact ⟨e',getM_append_new hx⟩
   | none=>
    rw [getM_append_old hx] at he
    exact ⟨e,by rw [getM_append_old hx];exact hMi he⟩
 ·intro a e he
  rcases cases' he with ⟨_,h2,_⟩ | ⟨_,_,_,h2⟩
  ·exact Or.inr h2
  ·exact Or.inl h2
 ·intro a e he
  rcases cases' he with ⟨h1,h2,_⟩ | ⟨h1,h2,_,h4⟩
  ·rw [p2 h2]
   exact SatE.of_same l2 (Nat.le_refl _) (fun _ _ _=>⟨rfl,rfl⟩) (fun _ _ _=>rfl) (h'.sat a e h1)
  ·rw [p1 h4]
   exact SatE.of_same l1 hst.size (fun b o hf=>by
    obtain ⟨q1,q2⟩:=rest h1 h2 b o hf
    exact hst.cell b o q1 q2) (fun b hb hf=>hst.blk b hb fun o ho=>(rest h1 h2 b o (hf o)).2 ho) (h.sat a e h1)
 ·intro a b e e' ha hb hne ho k o hf hf'
  rcases cases' ha with ⟨a1,a2,a3⟩ | ⟨a1,a2,a3,a4⟩
  ·rw [p2 a2] at hf
   rcases cases' hb with ⟨b1,b2,_⟩ | ⟨b1,b2,b3,b4⟩
   ·rw [p2 b2] at hf'
    exact h'.sep a b e e' a1 b1 hne ho k o hf hf'
   ·rw [p1 b4] at hf'
    obtain ⟨q1,q2⟩:=rest b1 b2 k o hf'
    exact q2 (hst.own k o q1 ⟨a,e,a1,ho,hf⟩)
  ·rw [p1 a4] at hf
   rcases cases' hb with ⟨b1,b2,b3⟩ | ⟨b1,b2,b3,b4⟩
   ·rw [p2 b2] at hf'
    rcases b3 with b3 | b3
    ·obtain ⟨q1,q2⟩:=rest a1 a2 k o hf
     cases e' with
     | dead=>exact hf'
     | mem own' sp' ls'=>
      have hl:(Ent.mem own' sp' ls').loose = true:=by
       rcases hE b _ b3 with h5 | ⟨h5,_⟩
       ·exact h5.2
       ·exact h5
      cases own' with
      | true=>exact q2 (hst.own k o q1 ⟨b,_,b1,rfl,hf'⟩)
      | false=>
       simp only [Ent.loose,Bool.false_or,bne_iff_ne] at hl
       obtain ⟨_,_,k2,_⟩:=h'.sat b _ b1
       have hi:=h'.immO_sep (k2.2 rfl hl) (k:=k) (p:=o) hf'
       rcases hst.immo k o q1 hi with h5 | h5
       ·exact h.isep k o h5 ⟨a,e,a1,ho,hf⟩
       ·exact q2 h5
     | map m=>exact q2 (hst.own k o q1 ⟨b,_,b1,rfl,hf'⟩)
    ·rw [posi b3] at hf'
     exact h.sep a b e e' a1 (hMi b3) hne ho k o hf hf'
   ·rw [p1 b4] at hf'
    exact h.sep a b e e' a1 b1 hne ho k o hf hf'
 ·intro b hb ho
  exact hst.blk b hb fun o hc=>ho o (ownI hc)
 ·intro b o hb ho
  exact hst.cell b o hb fun hc=>ho (ownI hc)
 ·rintro b o hb ⟨a,e,ha,ho,hf⟩
  rcases cases' ha with ⟨h1,h2,_⟩ | ⟨h1,h2,_,h4⟩
  ·rw [p2 h2] at hf
   exact ownI (hst.own b o hb ⟨a,e,h1,ho,hf⟩)
  ·rw [p1 h4] at hf
   exact ⟨a,e,h1,ho,hf⟩
theorem Oper.wp_put {P:Program} {o:Oper} {a:Act} {w:World} {K:Act→World→Prop} {Q:Exit→Act→World→Prop} (h:o.wp P a w K Q) :
  o.wp P a w (fun a' w'=>(∃ x,a'.tmps = (a.put o.dst x).tmps)∧K a' w') Q:=by
 have hd:∀ d x,({ a with defers:=d :: a.defers }.put o.dst x).tmps = (a.put o.dst x).tmps:=by
  intro d x
  unfold Act.put
  cases o.dst <;> rfl
 unfold Oper.wp at *
 generalize (execOp a.eval o).run P w = r at *
 cases r with
 | ok n w'=>
  cases n <;> simp only [Oper.upon] at h ⊢
  case value v=>exact ⟨⟨v,rfl⟩,h⟩
  case skip=>exact ⟨⟨undef,rfl⟩,h⟩
  case defer d=>exact ⟨⟨undef,hd d _⟩,h⟩
  case enter f args=>
   refine Calls.mono h fun e w'' he=>?_
   cases e with
   | returned v=>exact ⟨⟨v,rfl⟩,he⟩
   | panicked c=>exact he
   | outgrown=>exact he
  case row row args=>exact Rows.mono h fun u w'' he=>⟨⟨u,rfl⟩,he⟩
 | halt x w'=>
  cases x <;> simp only [Oper.upon] at h ⊢
  exact h
end Go.Sx
namespace Go.Sx
open Go
structure Rec where
 ix:Nat
 dst:Option Nat
 v:SV
 new:Mm
 dep:List Nat
 rd:List Nat
def recT (p:Nat→Bool) (T0:Tm):List Rec→Tm
 | []=>T0
 | r :: q=>bif p r.ix then putT r.dst r.v (recT p T0 q) else recT p T0 q
def recM (p:Nat→Bool) (M0:Mm):List Rec→Mm
 | []=>M0
 | r :: q=>bif p r.ix then r.new ++ recM p M0 q else recM p M0 q
def restr (T:Tm):List Nat→Tm
 | []=>[]
 | s :: r=>(s,getT T s) :: restr T r
def allB (_:Nat):Bool:=true
def inB (l:List Nat) (j:Nat):Bool:=memB j l
def plus (p:Nat→Bool) (i:Nat):Nat→Bool:=fun j=>Nat.beq j i || p j
theorem plus_self (p:Nat→Bool) (i:Nat):plus p i i = true:=by simp [plus]
theorem plus_old {p:Nat→Bool} {i j:Nat} (h:p j = true):plus p i j = true:=by simp [plus,h]
theorem plus_ne {p:Nat→Bool} {i j:Nat} (h:j ≠ i):plus p i j = p j:=by
 have:Nat.beq j i = false:=by
  cases hb:Nat.beq j i with
  | false=>rfl
  | true=>exact absurd (beq_eq' hb) h
 simp [plus,this]
theorem plus_cases {p:Nat→Bool} {i j:Nat} (h:plus p i j = true):j = i ∨ p j = true:=by
 by_cases hj:j = i
 ·exact Or.inl hj
 ·rw [plus_ne hj] at h;exact Or.inr h
def okNew (M0:Mm) (q:List Rec) (r:Rec):Prop:=∀ a e,getM r.new a = some e →
 (getM (recM allB M0 q) a = none∧e.loose = true∧e ≠ .dead) ∨
 (e = .dead∧(∃ e0,getM (recM (inB r.dep) M0 q) a = some e0)∧∀ x ∈ q,x.ix ∉ r.dep→getM x.new a = none∧getM (recM (inB x.dep) M0 q) a = none)
def wfM (M0:Mm):List Rec→Prop
 | []=>True
 | r :: q=>okNew M0 q r∧wfM M0 q
theorem inB_false {l:List Nat} {j:Nat} (h:inB l j = false):j ∉ l:=fun hm=>by
 have:=memB_iff.2 hm
 unfold inB at h;rw [this] at h;cases h
theorem inB_no {l:List Nat} {j:Nat} (h:j ∉ l):inB l j = false:=by
 cases hb:inB l j with
 | false=>rfl
 | true=>exact absurd (memB_iff.1 hb) h
section
variable {M0:Mm}
theorem recM_inv {p:Nat→Bool}:∀ {rs:List Rec} {a:Nat} {e:Ent},getM (recM p M0 rs) a = some e→getM M0 a = some e ∨ ∃ r ∈ rs,p r.ix = true∧getM r.new a = some e
 | [],_,_,h=>Or.inl h
 | r :: q,a,e,h=>by
  simp only [recM] at h
  cases hp:p r.ix with
  | false=>
   rw [hp,cond_false] at h
   rcases recM_inv h with h | ⟨r',h1,h2⟩
   ·exact Or.inl h
   ·exact Or.inr ⟨r',List.mem_cons_of_mem _ h1,h2⟩
  | true=>
   rw [hp,cond_true] at h
   cases hx:getM r.new a with
   | some e'=>rw [getM_append_new hx] at h;exact Or.inr ⟨r,by simp,hp,by rw [hx,h]⟩
   | none=>
    rw [getM_append_old hx] at h
    rcases recM_inv h with h | ⟨r',h1,h2⟩
    ·exact Or.inl h
    ·exact Or.inr ⟨r',List.mem_cons_of_mem _ h1,h2⟩
theorem recM_ex {p q:Nat→Bool}:∀ {rs:List Rec} (_:∀ r ∈ rs,p r.ix = true→q r.ix = true) {a:Nat},(∃ e,getM (recM p M0 rs) a = some e)→∃ e,getM (recM q M0 rs) a = some e
 | [],_,_,h=>h
 | r :: t,hpq,a,h=>by
  simp only [recM] at h ⊢
  have ih:(∃ e,getM (recM p M0 t) a = some e)→∃ e,getM (recM q M0 t) a = some e:=recM_ex fun r' hr'=>hpq r' (List.mem_cons_of_mem _ hr')
  have up:(∃ e,getM (recM p M0 t) a = some e)→∃ e,getM (bif q r.ix then r.new ++ recM q M0 t else recM q M0 t) a = some e:=by
   intro h
   obtain ⟨e,he⟩:=ih h
   cases hq:q r.ix with
   | false=>exact ⟨e,he⟩
   | true=>
    rw [cond_true]
    cases hx:getM r.new a with
    | some e'=>exact ⟨e',getM_append_new hx⟩
    | none=>exact ⟨e,by rw [getM_append_old hx];exact he⟩
  cases hp:p r.ix with
  | false=>rw [hp] at h;exact up h
  | true=>
   rw [hp,cond_true] at h
   obtain ⟨e,he⟩:=h
   cases hx:getM r.new a with
   | some e'=>rw [hpq r (by simp) hp,cond_true];exact ⟨e',getM_append_new hx⟩
   | none=>rw [getM_append_old hx] at he;exact up ⟨e,he⟩
theorem recM_nx {p q:Nat→Bool} {rs:List Rec} (h:∀ r ∈ rs,p r.ix = true→q r.ix = true) {a:Nat} (hn:getM (recM q M0 rs) a = none):getM (recM p M0 rs) a = none:=by
 cases hx:getM (recM p M0 rs) a with
 | none=>rfl
 | some e=>
  obtain ⟨e',he⟩:=recM_ex h ⟨e,hx⟩
  rw [hn] at he;cases he
theorem recM_has {p:Nat→Bool}:∀ {rs:List Rec} {r:Rec} (_:r ∈ rs) (_:p r.ix = true) {a:Nat} {e:Ent},getM r.new a = some e→∃ e',getM (recM p M0 rs) a = some e'
 | [],_,hr,_,_,_,_=>by simp at hr
 | r0 :: t,r,hr,hp,a,e,h=>by
  simp only [recM]
  rcases List.mem_cons.1 hr with rfl | hr
  ·rw [hp,cond_true];exact ⟨e,getM_append_new h⟩
  ·obtain ⟨e',he⟩:=recM_has (p:=p) hr hp h
   cases hp0:p r0.ix with
   | false=>exact ⟨e',he⟩
   | true=>
    rw [cond_true]
    cases hx:getM r0.new a with
    | some e2=>exact ⟨e2,getM_append_new hx⟩
    | none=>exact ⟨e',by rw [getM_append_old hx];exact he⟩
def Safe (M0:Mm) (rs:List Rec) (p q:Nat→Bool):Prop:=∀ r ∈ rs,q r.ix = true→p r.ix = false→∀ a,getM r.new a = some .dead→getM (recM p M0 rs) a = none
theorem recM_mono {p:Nat→Bool}:∀ {rs:List Rec} {q:Nat→Bool} (_:wfM M0 rs) (_:∀ r ∈ rs,p r.ix = true→q r.ix = true) (_:Safe M0 rs p q) {a:Nat} {e:Ent},getM (recM p M0 rs) a = some e→getM (recM q M0 rs) a = some e
 | [],_,_,_,_,_,_,h=>h
 | r :: t,q,hw,hpq,hs,a,e,h=>by
  have hpt:∀ r' ∈ t,p r'.ix = true→q r'.ix = true:=fun r' hr'=>hpq r' (List.mem_cons_of_mem _ hr')
  have hst:Safe M0 t p q:=by
   intro r' hr' h1 h2 b hb
   have:=hs r' (List.mem_cons_of_mem _ hr') h1 h2 b hb
   simp only [recM] at this
   cases hp:p r.ix with
   | false=>rw [hp] at this;exact this
   | true=>
    rw [hp,cond_true] at this
    cases hx:getM r.new b with
    | some e'=>rw [getM_append_new hx] at this;cases this
    | none=>rw [getM_append_old hx] at this;exact this
  have ih:getM (recM p M0 t) a = some e→getM (recM q M0 t) a = some e:=recM_mono hw.2 hpt hst
  have hs0:=hs r (by simp)
  simp only [recM] at h hs0 ⊢
  cases hp:p r.ix with
  | false=>
   rw [hp,cond_false] at h
   cases hq:q r.ix with
   | false=>rw [cond_false];exact ih h
   | true=>
    have hn:getM r.new a = none:=by
     cases hx:getM r.new a with
     | none=>rfl
     | some e'=>
      rcases hw.1 a e' hx with h1 | ⟨h1,_,_⟩
      ·have:=recM_nx (p:=p) (q:=allB) (fun _ _ _=>rfl) h1.1
       rw [h] at this;cases this
      ·subst h1
       have:=hs0 hq hp a hx
       rw [hp,cond_false,h] at this;cases this
    rw [cond_true,getM_append_old hn];exact ih h
  | true=>
   rw [hpq r (by simp) hp,cond_true]
   rw [hp,cond_true] at h
   cases hx:getM r.new a with
   | some e'=>rw [getM_append_new hx] at h ⊢;exact h
   | none=>rw [getM_append_old hx] at h ⊢;exact ih h
theorem recM_none:∀ (rs:List Rec),recM (fun _=>false) M0 rs = M0
 | []=>rfl
 | r :: q=>by simp only [recM,cond_false];exact recM_none q
theorem recM_base {p:Nat→Bool} {rs:List Rec} {a:Nat} {e:Ent} (h:getM M0 a = some e):∃ e',getM (recM p M0 rs) a = some e':=
 recM_ex (p:=fun _=>false) (fun _ _ h=>by cases h) ⟨e,by rw [recM_none];exact h⟩
theorem recM_skip {p q:Nat→Bool} {a:Nat}:∀ {rs:List Rec},(∀ r ∈ rs,q r.ix ≠ p r.ix→getM r.new a = none)→getM (recM q M0 rs) a = getM (recM p M0 rs) a
 | [],_=>rfl
 | r :: t,h=>by
  have ih:=recM_skip (rs:=t) fun r' hr'=>h r' (List.mem_cons_of_mem _ hr')
  have h0:=h r (by simp)
  simp only [recM]
  cases hq:q r.ix <;> cases hp:p r.ix
  ·exact ih
  ·rw [cond_false,cond_true,getM_append_old (h0 (by rw [hq,hp];simp))];exact ih
  ·rw [cond_false,cond_true,getM_append_old (h0 (by rw [hq,hp];simp))];exact ih
  ·rw [cond_true,cond_true,getM_append,getM_append,ih]
def Closed (rs:List Rec) (p:Nat→Bool):Prop:=∀ x ∈ rs,p x.ix = true→∀ k ∈ x.dep,p k = true
theorem recM_rec {p:Nat→Bool}:∀ {rs:List Rec} (_:wfM M0 rs) {r:Rec} (_:r ∈ rs) (_:p r.ix = false) (_:Closed rs p) (_:∀ x ∈ rs,r.ix = x.ix→r = x) {a:Nat} {e:Ent},getM r.new a = some e→getM (recM (plus p r.ix) M0 rs) a = some e
 | [],_,_,hr,_,_,_,_,_,_=>by simp at hr
 | r0 :: t,hw,r,hr,hp,hc,hu,a,e,h=>by
  simp only [recM]
  rcases List.mem_cons.1 hr with h' | h'
  ·subst h'
   rw [plus_self,cond_true];exact getM_append_new h
  ·have ih:=recM_rec hw.2 h' hp (fun x hx=>hc x (List.mem_cons_of_mem _ hx)) (fun x hx=>hu x (List.mem_cons_of_mem _ hx)) h
   cases hp0:plus p r.ix r0.ix with
   | false=>rw [cond_false];exact ih
   | true=>
    rw [cond_true]
    rcases plus_cases hp0 with h0 | h0
    ·have:=hu r0 (by simp) h0.symm
     subst this
     exact getM_append_new h
    ·rw [getM_append_old];· exact ih
     cases hx:getM r0.new a with
     | none=>rfl
     | some e'=>
      rcases hw.1 a e' hx with h1 | ⟨_,_,h1⟩
      ·obtain ⟨e2,he2⟩:=recM_has (M0:=M0) (p:=allB) h' rfl h
       rw [h1.1] at he2;cases he2
      ·by_cases hd:r.ix ∈ r0.dep
       ·have:=hc r0 (by simp) h0 _ hd
        rw [hp] at this;cases this
       ·rw [(h1 r h' hd).1] at h;cases h
theorem recM_plus {p:Nat→Bool} {rs:List Rec} (hw:wfM M0 rs) (hu:∀ r ∈ rs,∀ r' ∈ rs,r.ix = r'.ix→r = r') (hc:Closed rs p) {r:Rec} (hr:r ∈ rs) (hp:p r.ix = false) (a:Nat) :
  getM (recM (plus p r.ix) M0 rs) a = getM (r.new ++ recM p M0 rs) a:=by
 cases hx:getM r.new a with
 | some e=>rw [getM_append_new hx];exact recM_rec hw hr hp hc (hu r hr) hx
 | none=>
  rw [getM_append_old hx]
  refine recM_skip fun r' hr' hne=>?_
  by_cases e:r'.ix = r.ix
  ·have:=hu r' hr' r hr e;subst this;exact hx
  ·rw [plus_ne e] at hne;exact absurd rfl hne
theorem wfM_mem:∀ {rs:List Rec} (_:wfM M0 rs) {r:Rec} (_:r ∈ rs) {a:Nat} {e:Ent},getM r.new a = some e→e.loose = true
 | [],_,_,hr,_,_,_=>by simp at hr
 | r0 :: t,hw,r,hr,a,e,h=>by
  rcases List.mem_cons.1 hr with h' | h'
  ·subst h'
   rcases hw.1 a e h with h1 | ⟨h1,_⟩
   ·exact h1.2.1
   ·subst h1;rfl
  ·exact wfM_mem hw.2 h' h
theorem recM_fresh {p:Nat→Bool}:∀ {rs:List Rec} (_:wfM M0 rs) {r:Rec} (_:r ∈ rs) (_:p r.ix = false) (_:Closed rs p) {b:Nat} {e:Ent},e ≠ .dead→getM r.new b = some e→getM (recM p M0 rs) b = none
 | [],_,_,h,_,_,_,_,_,_=>by simp at h
 | r0 :: t,hw,r,hr,hp,hc,b,e,hd,h=>by
  simp only [recM]
  rcases List.mem_cons.1 hr with h' | h'
  ·subst h'
   rw [hp,cond_false]
   rcases hw.1 b e h with h1 | ⟨h1,_⟩
   ·exact recM_nx (q:=allB) (fun _ _ _=>rfl) h1.1
   ·exact absurd h1 hd
  ·have ih:=recM_fresh hw.2 h' hp (fun x hx=>hc x (List.mem_cons_of_mem _ hx)) hd h
   cases hp0:p r0.ix with
   | false=>rw [cond_false];exact ih
   | true=>
    rw [cond_true,getM_append_old];· exact ih
    cases hx:getM r0.new b with
    | none=>rfl
    | some e'=>
     rcases hw.1 b e' hx with h1 | ⟨_,_,h1⟩
     ·obtain ⟨e2,he2⟩:=recM_has (M0:=M0) (p:=allB) h' rfl h
      rw [h1.1] at he2;cases he2
     ·by_cases hd':r.ix ∈ r0.dep
      ·have:=hc r0 (by simp) hp0 _ hd'
       rw [hp] at this;cases this
      ·rw [(h1 r h' hd').1] at h;cases h
theorem recM_congr {p q:Nat→Bool}:∀ {rs:List Rec},(∀ r ∈ rs,p r.ix = q r.ix)→recM p M0 rs = recM q M0 rs
 | [],_=>rfl
 | r :: t,h=>by simp only [recM];rw [h r (by simp),recM_congr fun r' hr'=>h r' (List.mem_cons_of_mem _ hr')]
theorem recT_congr {T0:Tm} {p q:Nat→Bool}:∀ {rs:List Rec},(∀ r ∈ rs,p r.ix = q r.ix)→recT p T0 rs = recT q T0 rs
 | [],_=>rfl
 | r :: t,h=>by simp only [recT];rw [h r (by simp),recT_congr fun r' hr'=>h r' (List.mem_cons_of_mem _ hr')]
end
theorem recT_get {p:Nat→Bool} {T0:Tm}:∀ (rs:List Rec) (s:Nat),
  (∃ r ∈ rs,p r.ix = true∧r.dst = some s∧getT (recT p T0 rs) s = r.v) ∨ ((∀ r ∈ rs,p r.ix = true→r.dst ≠ some s)∧getT (recT p T0 rs) s = getT T0 s)
 | [],_=>Or.inr ⟨by simp,rfl⟩
 | r :: t,s=>by
  simp only [recT]
  have lift:(∃ r' ∈ t,p r'.ix = true∧r'.dst = some s∧getT (recT p T0 t) s = r'.v) ∨ ((∀ r' ∈ t,p r'.ix = true→r'.dst ≠ some s)∧getT (recT p T0 t) s = getT T0 s):=recT_get t s
  cases hp:p r.ix with
  | false=>
   rw [cond_false]
   rcases lift with ⟨r',h1,h2,h3,h4⟩ | ⟨h1,h2⟩
   ·exact Or.inl ⟨r',List.mem_cons_of_mem _ h1,h2,h3,h4⟩
   ·refine Or.inr ⟨fun r' hr' hp'=>?_,h2⟩
    rcases List.mem_cons.1 hr' with rfl | hr'
    ·rw [hp] at hp';cases hp'
    ·exact h1 r' hr' hp'
  | true=>
   rw [cond_true]
   cases hd:r.dst with
   | none=>
    simp only [putT]
    rcases lift with ⟨r',h1,h2,h3,h4⟩ | ⟨h1,h2⟩
    ·exact Or.inl ⟨r',List.mem_cons_of_mem _ h1,h2,h3,h4⟩
    ·refine Or.inr ⟨fun r' hr' hp'=>?_,h2⟩
     rcases List.mem_cons.1 hr' with rfl | hr'
     ·rw [hd];simp
     ·exact h1 r' hr' hp'
   | some d=>
    simp only [putT]
    by_cases hs:s = d
    ·subst hs
     exact Or.inl ⟨r,by simp,hp,hd,getT_cons_self _ _ _⟩
    ·rw [getT_cons_ne hs]
     rcases lift with ⟨r',h1,h2,h3,h4⟩ | ⟨h1,h2⟩
     ·exact Or.inl ⟨r',List.mem_cons_of_mem _ h1,h2,h3,h4⟩
     ·refine Or.inr ⟨fun r' hr' hp'=>?_,h2⟩
      rcases List.mem_cons.1 hr' with rfl | hr'
      ·rw [hd];simpa using fun h=>hs h.symm
      ·exact h1 r' hr' hp'
theorem restr_get {T:Tm}:∀ {l:List Nat} {s:Nat},s ∈ l→getT (restr T l) s = getT T s
 | [],_,h=>by simp at h
 | d :: r,s,h=>by
  simp only [restr]
  by_cases hs:s = d
  ·subst hs;rw [getT_cons_self]
  ·rw [getT_cons_ne hs];exact restr_get ((List.mem_cons.1 h).resolve_left hs)
theorem restr_out {T:Tm}:∀ {l:List Nat} {s:Nat},s ∉ l→getT (restr T l) s = .und
 | [],_,_=>rfl
 | d :: r,s,h=>by
  simp only [restr]
  rw [getT_cons_ne (fun e=>h (by simp [e]))]
  exact restr_out fun hr=>h (by simp [hr])
def Pair (r r':Rec):Prop:=
 (∀ s,r'.dst = some s→s ∈ r.rd→r'.ix ∈ r.dep ∨ r.ix ∈ r'.dep)∧(∀ s,r.dst = some s→s ∈ r'.rd→r.ix ∈ r'.dep ∨ r'.ix ∈ r.dep)∧∀ s,r.dst = some s→r'.dst ≠ some s
theorem Pair.symm {r r':Rec} (h:Pair r r'):Pair r' r:=⟨h.2.1,h.1,fun s h1 h2=>h.2.2 s h2 h1⟩
structure Inv (N:Nat) (dep:Nat→List Nat) (bf:List Nat) (T0:Tm) (M0:Mm) (rs:List Rec) (p:Nat→Bool) (ρ:Env) (a:Act) (w:World):Prop where
 wf:wfM M0 rs
 uniq:∀ r ∈ rs,∀ r' ∈ rs,r.ix = r'.ix→r = r'
 bfs:∀ r ∈ rs,r.ix ∈ bf
 done:∀ j,p j = true→j ∈ bf
 base:∀ j ∈ bf,p j = true ∨ ∃ r ∈ rs,r.ix = j
 clos:∀ j,p j = true→∀ k ∈ dep j,p k = true
 deps:∀ r ∈ rs,r.dep = dep r.ix
 trans:∀ r ∈ rs,∀ k ∈ r.dep,∀ j ∈ dep k,j ∈ r.dep
 irr:∀ r ∈ rs,r.ix ∉ r.dep
 below:∀ r ∈ rs,∀ k ∈ r.dep,k ∈ bf
 small:∀ r ∈ rs,∀ d,r.dst = some d→d < N
 pairs:∀ r ∈ rs,∀ r' ∈ rs,r.ix ≠ r'.ix→Pair r r'
 safe:∀ x ∈ rs,∀ k ∈ rs,k.ix ∉ x.dep→x.ix ∉ k.dep→k.ix ≠ x.ix→∀ a,getM k.new a = some .dead→getM (recM (inB x.dep) M0 rs) a = none
 kill:∀ k ∈ rs,∀ a,getM k.new a = some .dead→∃ e0,getM (recM (inB k.dep) M0 rs) a = some e0
 mem:ConcM ρ (recM p M0 rs) w
 sz:a.tmps.size = N
 defers:a.defers = []
 t0:∀ s,ToldT M0 (getT T0 s)
 m0:∀ b e,getM M0 b = some e→ToldE M0 e
 slot0:∀ s,(∀ r ∈ rs,p r.ix = true→r.dst ≠ some s)→RelT ρ (getT T0 s) (a.tmps.getD s undef)
 slotr:∀ r ∈ rs,p r.ix = true→(∀ d,r.dst = some d→RelT ρ r.v (a.tmps.getD d undef)∧ToldT (recM (plus (inB r.dep) r.ix) M0 rs) r.v) ∧
  ∀ b e,getM r.new b = some e→ToldE (recM (plus (inB r.dep) r.ix) M0 rs) e
section
variable {N:Nat} {dep:Nat→List Nat} {bf:List Nat} {T0:Tm} {M0:Mm} {rs:List Rec} {p:Nat→Bool} {ρ:Env} {a:Act} {w:World}
theorem Inv.closed (I:Inv N dep bf T0 M0 rs p ρ a w):Closed rs p:=fun x hx hp k hk=>I.clos x.ix hp k (by rw [← I.deps x hx];exact hk)
theorem Inv.sees (I:Inv N dep bf T0 M0 rs p ρ a w) {dp rd:List Nat} (hd:∀ k ∈ dp,p k = true) (ht:∀ k ∈ dp,∀ j ∈ dep k,j ∈ dp)
  (hrd:∀ r ∈ rs,∀ s,r.dst = some s→s ∈ rd→p r.ix = true→r.ix ∈ dp)
  (hsf:∀ k ∈ rs,p k.ix = true→k.ix ∉ dp→∀ a,getM k.new a = some .dead→getM (recM (inB dp) M0 rs) a = none) :
  Sub (recM (inB dp) M0 rs) (recM p M0 rs)∧Conc N (ρ.lim (recM (inB dp) M0 rs)) (restr (recT (inB dp) T0 rs) rd) (recM (inB dp) M0 rs) a w:=by
 have hin:∀ {j},inB dp j = true→j ∈ dp:=fun {j} h=>memB_iff.1 h
 have up:∀ r ∈ rs,r.ix ∈ dp→∀ b e,getM (recM (plus (inB r.dep) r.ix) M0 rs) b = some e→∃ e',getM (recM (inB dp) M0 rs) b = some e':=by
  intro r hr hrd' b e he
  refine recM_ex (fun r' hr' h=>?_) ⟨e,he⟩
  rcases plus_cases h with h | h
  ·rw [h];exact memB_iff.2 hrd'
  ·have:=memB_iff.1 h
   rw [I.deps r hr] at this
   exact memB_iff.2 (ht r.ix hrd' _ this)
 have hs:Sub (recM (inB dp) M0 rs) (recM p M0 rs):=by
  refine ⟨fun b e he=>recM_mono I.wf (fun r _ h=>hd _ (hin h)) (fun k hk h1 h2=>hsf k hk h1 (inB_false h2)) he,fun b e he=>?_⟩
  rcases recM_inv he with h | ⟨r,h1,h2,h3⟩
  ·exact (I.m0 b e h).mono fun b e h=>recM_base h
  ·exact ((I.slotr r h1 (hd _ (hin h2))).2 b e h3).mono (up r h1 (hin h2))
 refine ⟨hs,hs.conc I.mem,I.sz,I.defers,fun s=>?_⟩
 by_cases hsr:s ∈ rd
 ·rw [restr_get hsr]
  rcases recT_get (p:=inB dp) (T0:=T0) rs s with ⟨r,h1,h2,h3,h4⟩ | ⟨h1,h2⟩
  ·rw [h4]
   obtain ⟨k1,k2⟩:=(I.slotr r h1 (hd _ (hin h2))).1 s h3
   exact (k2.mono (up r h1 (hin h2))).rel k1
  ·rw [h2]
   refine ((I.t0 s).mono fun b e h=>recM_base h).rel (I.slot0 s fun r hr hp hds=>?_)
   exact h1 r hr (memB_iff.2 (hrd r hr s hds hsr hp)) hds
 ·rw [restr_out hsr];exact RelT_of_Rel trivial
theorem Inv.mark (I:Inv N dep bf T0 M0 rs p ρ a w) {r:Rec} (hr:r ∈ rs) (hi:p r.ix = false) (hd:∀ k ∈ r.dep,p k = true) {x:Value} {ρ':Env} {a':Act} {w':World}
  (ha:a'.tmps = (a.put r.dst x).tmps) (hdf:a'.defers = []) (hle:ρ.le ρ') (hx:∀ d,r.dst = some d→RelT ρ' r.v x∧ToldT (r.new ++ recM (inB r.dep) M0 rs) r.v)
  (hn:∀ b e,getM r.new b = some e→ToldE (r.new ++ recM (inB r.dep) M0 rs) e) (hm:ConcM ρ' (r.new ++ recM p M0 rs) w') :
  Inv N dep bf T0 M0 rs (plus p r.ix) ρ' a' w':=by
 have hself:inB r.dep r.ix = false:=by
  cases h:inB r.dep r.ix with
  | false=>rfl
  | true=>exact absurd (memB_iff.1 h) (I.irr r hr)
 have hup:∀ b e,getM (r.new ++ recM (inB r.dep) M0 rs) b = some e→∃ e',getM (recM (plus (inB r.dep) r.ix) M0 rs) b = some e':=fun b e h=>
  by
   cases hx:getM r.new b with
   | some e'=>exact recM_has hr (plus_self _ _) hx
   | none=>
    rw [getM_append_old hx] at h
    exact recM_ex (fun _ _ h=>plus_old h) ⟨e,h⟩
 have hput:∀ s,r.dst ≠ some s→a'.tmps.getD s undef = a.tmps.getD s undef:=by
  intro s hs
  rw [ha]
  unfold Act.put
  cases hd:r.dst with
  | none=>rfl
  | some d=>
   have hne:d ≠ s:=fun e=>hs (by rw [hd,e])
   simp only [Array.getD_eq_getD_getElem?]
   rw [Array.getElem?_setIfInBounds_ne hne]
 have hput2:∀ s,r.dst = some s→a'.tmps.getD s undef = x:=by
  intro s hs
  rw [ha]
  have hlt:=I.small r hr s hs
  unfold Act.put
  rw [hs]
  simp only [Array.getD_eq_getD_getElem?]
  rw [Array.getElem?_setIfInBounds_self_of_lt (by rw [I.sz];exact hlt)]
  rfl
 exact {
  wf:=I.wf,uniq:=I.uniq,bfs:=I.bfs,deps:=I.deps,trans:=I.trans,irr:=I.irr,below:=I.below,small:=I.small,pairs:=I.pairs,safe:=I.safe,kill:=I.kill,t0:=I.t0,m0:=I.m0,defers:=hdf
  done:=fun j hj=>(plus_cases hj).elim (fun h=>by rw [h];exact I.bfs r hr) (I.done j)
  base:=fun j hj=>(I.base j hj).imp plus_old id
  clos:=fun j hj k hk=>by
   rcases plus_cases hj with h | h
   ·subst h
    rw [← I.deps r hr] at hk
    exact plus_old (hd k hk)
   ·exact plus_old (I.clos j h k hk)
  mem:=hm.congr fun b=>(recM_plus I.wf I.uniq I.closed hr hi b).symm
  sz:=by
   rw [ha]
   unfold Act.put
   cases r.dst with
   | none=>exact I.sz
   | some d=>simp only [Array.size_setIfInBounds];exact I.sz
  slot0:=fun s hs=>by
   have h1:=hs r hr (plus_self _ _)
   rw [hput s h1]
   exact (I.slot0 s fun r' hr' hp'=>hs r' hr' (plus_old hp')).le hle
  slotr:=fun r' hr' hp'=>by
   rcases plus_cases hp' with h | h
   ·have:=I.uniq r' hr' r hr h;subst this
    refine ⟨fun d hds=>?_,fun b e he=>(hn b e he).mono hup⟩
    rw [hput2 d hds]
    exact ⟨(hx d hds).1,(hx d hds).2.mono hup⟩
   ·have hne:r'.ix ≠ r.ix:=fun e=>by rw [e,hi] at h;cases h
    obtain ⟨k1,k2⟩:=I.slotr r' hr' h
    refine ⟨fun d hds=>?_,k2⟩
    rw [hput d ((I.pairs r' hr' r hr hne).2.2 d hds)]
    exact ⟨(k1 d hds).1.le hle,(k1 d hds).2⟩ }
theorem Inv.push (I:Inv N dep bf T0 M0 rs p ρ a w) {r:Rec} (hb:r.ix ∉ bf) (hdep:r.dep = dep r.ix) (ht:∀ k ∈ r.dep,∀ j ∈ dep k,j ∈ r.dep) (hbl:∀ k ∈ r.dep,k ∈ bf)
  (hsm:∀ d,r.dst = some d→d < N) (hpr:∀ r' ∈ rs,Pair r r') (hfr:okNew M0 rs r)
  (hsf:∀ k ∈ rs,k.ix ∉ r.dep→∀ a,getM k.new a = some .dead→getM (recM (inB r.dep) M0 rs) a = none) :
  Inv N dep (r.ix :: bf) T0 M0 (r :: rs) p ρ a w:=by
 have hp:p r.ix = false:=by
  cases h:p r.ix with
  | false=>rfl
  | true=>exact absurd (I.done _ h) hb
 have hne:∀ r' ∈ rs,r'.ix ≠ r.ix:=fun r' hr' e=>hb (by rw [← e];exact I.bfs r' hr')
 have hM:∀ r' ∈ rs,recM (plus (inB r'.dep) r'.ix) M0 (r :: rs) = recM (plus (inB r'.dep) r'.ix) M0 rs:=by
  intro r' hr'
  have h1:plus (inB r'.dep) r'.ix r.ix = false:=by
   rw [plus_ne (hne r' hr').symm]
   cases h:inB r'.dep r.ix with
   | false=>rfl
   | true=>exact absurd (I.below r' hr' _ (memB_iff.1 h)) hb
  simp only [recM,h1,cond_false]
 have hV:∀ x ∈ r :: rs,recM (inB x.dep) M0 (r :: rs) = recM (inB x.dep) M0 rs:=by
  intro x hx
  have h1:inB x.dep r.ix = false:=by
   rcases List.mem_cons.1 hx with rfl | hx
   ·exact inB_no fun h=>hb (hbl _ h)
   ·exact inB_no fun h=>hb (I.below x hx _ h)
  simp only [recM,h1,cond_false]
 exact {
  wf:=⟨hfr,I.wf⟩
  safe:=fun x hx k hk h1 h2 h3 b hkb=>by
   rw [hV x hx]
   rcases List.mem_cons.1 hx with hx' | hx'
   ·rcases List.mem_cons.1 hk with hk' | hk'
    ·exact absurd (by rw [hk',hx']) h3
    ·subst hx';exact hsf k hk' h1 b hkb
   ·rcases List.mem_cons.1 hk with hk' | hk'
    ·subst hk'
     rcases hfr b .dead hkb with h4 | ⟨_,_,h4⟩
     ·exact absurd rfl h4.2.2
     ·exact (h4 x hx' h2).2
    ·exact I.safe x hx' k hk' h1 h2 h3 b hkb
  kill:=fun k hk b hkb=>by
   rw [hV k hk]
   rcases List.mem_cons.1 hk with hk' | hk'
   ·subst hk'
    rcases hfr b .dead hkb with h4 | ⟨_,h4,_⟩
    ·exact absurd rfl h4.2.2
    ·exact h4
   ·exact I.kill k hk' b hkb
  uniq:=fun x hx y hy e=>by
   rcases List.mem_cons.1 hx with hx' | hx'
   ·rcases List.mem_cons.1 hy with hy' | hy'
    ·rw [hx',hy']
    ·exact absurd (by rw [← e,hx']) (hne y hy')
   ·rcases List.mem_cons.1 hy with hy' | hy'
    ·exact absurd (by rw [e,hy']) (hne x hx')
    ·exact I.uniq x hx' y hy' e
  bfs:=fun x hx=>by
   rcases List.mem_cons.1 hx with rfl | hx
   ·simp
   ·exact List.mem_cons_of_mem _ (I.bfs x hx)
  done:=fun j hj=>List.mem_cons_of_mem _ (I.done j hj)
  base:=fun j hj=>by
   rcases List.mem_cons.1 hj with rfl | hj
   ·exact Or.inr ⟨r,by simp,rfl⟩
   ·exact (I.base j hj).imp id fun ⟨r',h1,h2⟩=>⟨r',List.mem_cons_of_mem _ h1,h2⟩
  clos:=I.clos
  deps:=fun x hx=>by
   rcases List.mem_cons.1 hx with rfl | hx
   ·exact hdep
   ·exact I.deps x hx
  trans:=fun x hx=>by
   rcases List.mem_cons.1 hx with rfl | hx
   ·exact ht
   ·exact I.trans x hx
  irr:=fun x hx=>by
   rcases List.mem_cons.1 hx with rfl | hx
   ·exact fun h=>hb (hbl _ h)
   ·exact I.irr x hx
  below:=fun x hx k hk=>by
   rcases List.mem_cons.1 hx with rfl | hx
   ·exact List.mem_cons_of_mem _ (hbl k hk)
   ·exact List.mem_cons_of_mem _ (I.below x hx k hk)
  small:=fun x hx=>by
   rcases List.mem_cons.1 hx with rfl | hx
   ·exact hsm
   ·exact I.small x hx
  pairs:=fun x hx y hy e=>by
   rcases List.mem_cons.1 hx with hx' | hx'
   ·rcases List.mem_cons.1 hy with hy' | hy'
    ·exact absurd (by rw [hx',hy']) e
    ·rw [hx'];exact hpr y hy'
   ·rcases List.mem_cons.1 hy with hy' | hy'
    ·rw [hy'];exact (hpr x hx').symm
    ·exact I.pairs x hx' y hy' e
  mem:=by simp only [recM,hp,cond_false];exact I.mem
  sz:=I.sz
  defers:=I.defers
  t0:=I.t0
  m0:=I.m0
  slot0:=fun s hs=>I.slot0 s fun r' hr'=>hs r' (List.mem_cons_of_mem _ hr')
  slotr:=fun x hx hpx=>by
   rcases List.mem_cons.1 hx with rfl | hx
   ·rw [hp] at hpx;cases hpx
   ·rw [hM x hx];exact I.slotr x hx hpx }
theorem Inv.outP (I:Inv N dep bf T0 M0 rs p ρ a w):Conc N ρ (recT p T0 rs) (recM p M0 rs) a w:=by
 refine ⟨I.mem,I.sz,I.defers,fun s=>?_⟩
 rcases recT_get (p:=p) (T0:=T0) rs s with ⟨r,h1,h2,h3,h4⟩ | ⟨h1,h2⟩
 ·rw [h4];exact ((I.slotr r h1 h2).1 s h3).1
 ·rw [h2];exact I.slot0 s fun r hr hp=>h1 r hr hp
theorem Inv.out (I:Inv N dep bf T0 M0 rs p ρ a w) (h:∀ r ∈ rs,p r.ix = true):Conc N ρ (recT allB T0 rs) (recM allB M0 rs) a w:=by
 have hM:recM p M0 rs = recM allB M0 rs:=recM_congr fun r hr=>by rw [h r hr];rfl
 refine ⟨hM ▸ I.mem,I.sz,I.defers,fun s=>?_⟩
 rcases recT_get (p:=allB) (T0:=T0) rs s with ⟨r,h1,h2,h3,h4⟩ | ⟨h1,h2⟩
 ·rw [h4];exact ((I.slotr r h1 (h r h1)).1 s h3).1
 ·rw [h2];exact I.slot0 s fun r hr _=>h1 r hr rfl
theorem Inv.start {bf:List Nat} (hc:Conc N ρ T0 M0 a w) (hb:∀ j,p j = true ↔ j ∈ bf) (hcl:∀ j,p j = true→∀ k ∈ dep j,p k = true):Inv N dep bf T0 M0 [] p ρ a w where
 wf:=trivial
 uniq:=by simp
 bfs:=by simp
 done j h:=(hb j).1 h
 base j h:=Or.inl ((hb j).2 h)
 clos:=hcl
 deps:=by simp
 trans:=by simp
 irr:=by simp
 below:=by simp
 small:=by simp
 pairs:=by simp
 safe:=by simp
 kill:=by simp
 mem:=hc.toConcM
 sz:=hc.sz
 defers:=hc.defers
 t0 s:=hc.toConcM.toldT (hc.tm s)
 m0 b e h:=hc.toConcM.told h
 slot0 s _:=hc.tm s
 slotr:=by simp
end
def foldR (dp:List Nat) (rs:List Rec):List Rec:=
 match rs with
 | []=>[]
 | r :: q=>⟨r.ix,r.dst,r.v,bif memB r.ix dp then [] else r.new,r.dep,r.rd⟩ :: foldR dp q
theorem foldR_mem {dp:List Nat} {r:Rec}:∀ {rs:List Rec},r ∈ foldR dp rs→∃ r0 ∈ rs,r.ix = r0.ix∧r.dst = r0.dst∧r.v = r0.v∧r.dep = r0.dep∧r.rd = r0.rd∧((r.ix ∈ dp∧r.new = []) ∨ (r.ix ∉ dp∧r = r0))
 | [],h=>by simp [foldR] at h
 | x :: q,h=>by
  simp only [foldR,List.mem_cons] at h
  rcases h with h | h
  ·refine ⟨x,by simp,?_⟩
   subst h
   refine ⟨rfl,rfl,rfl,rfl,rfl,?_⟩
   by_cases hm:x.ix ∈ dp
   ·refine Or.inl ⟨hm,?_⟩
    show (bif memB x.ix dp then [] else x.new) = []
    rw [memB_iff.2 hm,cond_true]
   ·refine Or.inr ⟨hm,?_⟩
    have:memB x.ix dp = false:=inB_no hm
    simp only [this,cond_false]
  ·obtain ⟨r0,h1,h2⟩:=foldR_mem h
   exact ⟨r0,List.mem_cons_of_mem _ h1,h2⟩
theorem foldR_of {dp:List Nat} {r:Rec}:∀ {rs:List Rec},r ∈ rs→∃ r1 ∈ foldR dp rs,r1.ix = r.ix∧r1.dst = r.dst∧r1.v = r.v∧r1.dep = r.dep∧r1.rd = r.rd∧(r.ix ∉ dp→r1 = r)
 | [],h=>by simp at h
 | x :: q,h=>by
  simp only [foldR]
  rcases List.mem_cons.1 h with h | h
  ·subst h
   refine ⟨_,List.mem_cons_self,rfl,rfl,rfl,rfl,rfl,fun hm=>?_⟩
   have:memB r.ix dp = false:=inB_no hm
   simp only [this,cond_false]
  ·obtain ⟨r1,h1,h2⟩:=foldR_of h
   exact ⟨r1,List.mem_cons_of_mem _ h1,h2⟩
def restP (dp:List Nat) (q:Nat→Bool) (j:Nat):Bool:=q j && !memB j dp
theorem recM_foldR {dp:List Nat} {q:Nat→Bool} {B:Mm} (a:Nat):∀ {rs:List Rec},getM (recM q B (foldR dp rs)) a = getM (recM (restP dp q) [] rs ++ B) a
 | []=>rfl
 | r :: t=>by
  have ih:=recM_foldR (dp:=dp) (q:=q) (B:=B) a (rs:=t)
  simp only [foldR,recM,restP]
  cases hq:q r.ix with
  | false=>simp only [cond_false,Bool.false_and];exact ih
  | true=>
   cases hm:memB r.ix dp with
   | true=>
    simp only [cond_true,Bool.true_and,Bool.not_true,cond_false,List.nil_append];exact ih
   | false=>
    simp only [cond_true,Bool.true_and,Bool.not_false,cond_false,List.append_assoc]
    rw [getM_append,getM_append,ih]
theorem rest_inv {dp:List Nat} {q:Nat→Bool} {rs:List Rec} {a:Nat} {e:Ent} (h:getM (recM (restP dp q) [] rs) a = some e):∃ r ∈ rs,q r.ix = true∧r.ix ∉ dp∧getM r.new a = some e:=by
 rcases recM_inv h with h | ⟨r,h1,h2,h3⟩
 ·simp [getM] at h
 ·simp only [restP,Bool.and_eq_true,Bool.not_eq_true'] at h2
  exact ⟨r,h1,h2.1,inB_false h2.2,h3⟩
theorem recM_part {M0:Mm} {dp:List Nat} {q:Nat→Bool} (hq:∀ j ∈ dp,q j = true) (a:Nat):∀ {rs:List Rec} (_:wfM M0 rs) (_:∀ x ∈ rs,x.ix ∈ dp→∀ k ∈ x.dep,k ∈ dp),getM (recM q M0 rs) a = getM (recM (restP dp q) [] rs ++ recM (inB dp) M0 rs) a
 | [],_,_=>rfl
 | r :: t,hw,hc=>by
  have ih:=recM_part hq a hw.2 (fun x hx=>hc x (List.mem_cons_of_mem _ hx))
  simp only [recM,restP,inB]
  cases hm:memB r.ix dp with
  | true=>
   simp only [hq _ (memB_iff.1 hm),Bool.not_true,Bool.and_false,cond_false,cond_true]
   cases hx:getM r.new a with
   | none=>rw [getM_append_old hx,ih,getM_append,getM_append,getM_append_old hx]
   | some e=>
    have hn:getM (recM (restP dp q) [] t) a = none:=by
     cases hy:getM (recM (restP dp q) [] t) a with
     | none=>rfl
     | some e'=>
      obtain ⟨x,h1,_,h3,h4⟩:=rest_inv hy
      rcases hw.1 a e hx with h5 | ⟨_,_,h5⟩
      ·obtain ⟨e2,he2⟩:=recM_has (M0:=M0) (p:=allB) h1 rfl h4
       rw [h5.1] at he2;cases he2
      ·by_cases hd:x.ix ∈ r.dep
       ·exact absurd (hc r (by simp) (memB_iff.1 hm) _ hd) h3
       ·rw [(h5 x h1 hd).1] at h4;cases h4
    rw [getM_append_new hx,getM_append_old hn,getM_append_new hx]
  | false=>
   cases hq':q r.ix with
   | false=>simp only [Bool.false_and,cond_false];exact ih
   | true=>
    simp only [Bool.not_false,Bool.and_true,cond_true,cond_false,List.append_assoc]
    rw [getM_append,getM_append,ih]
section
variable {N:Nat} {dep:Nat→List Nat} {bf:List Nat} {T0:Tm} {M0:Mm} {rs:List Rec} {p:Nat→Bool} {ρ:Env} {a:Act} {w:World}
theorem Inv.turn (I:Inv N dep bf T0 M0 rs p ρ a w) {r:Rec} (hr:r ∈ rs) (hi:p r.ix = false) (hd:∀ k ∈ r.dep,p k = true) (hnew:r.new = []) {E:Mm}
  (hE:∀ b e,getM E b = some e→∀ x ∈ rs,x.ix ∉ r.dep→getM x.new b = none) (hnd:∀ x ∈ rs,x.ix ∉ r.dep→∀ b,getM x.new b ≠ some .dead) {x:Value} {ρ':Env} {a':Act} {w':World}
  (ha:a'.tmps = (a.put r.dst x).tmps) (hdf:a'.defers = []) (hle:ρ.le ρ') (hx:∀ d,r.dst = some d→RelT ρ' r.v x∧ToldT (E ++ recM (inB r.dep) M0 rs) r.v)
  (hn:∀ b e,getM E b = some e→ToldE (E ++ recM (inB r.dep) M0 rs) e) (ht:∀ b e,getM (recM (inB r.dep) M0 rs) b = some e→ToldE (recM (inB r.dep) M0 rs) e) (hm:ConcM ρ' (E ++ recM p M0 rs) w') :
  Inv N dep bf T0 (E ++ recM (inB r.dep) M0 rs) (foldR r.dep rs) (plus p r.ix) ρ' a' w':=by
 have hself:r.ix ∉ r.dep:=I.irr r hr
 have hcl:∀ x ∈ rs,x.ix ∈ r.dep→∀ k ∈ x.dep,k ∈ r.dep:=fun x hx hxd k hk=>by rw [I.deps x hx] at hk;exact I.trans r hr _ hxd k hk
 have hput:∀ s,r.dst ≠ some s→a'.tmps.getD s undef = a.tmps.getD s undef:=by
  intro s hs
  rw [ha]
  unfold Act.put
  cases hd:r.dst with
  | none=>rfl
  | some d=>
   have hne:d ≠ s:=fun e=>hs (by rw [hd,e])
   simp only [Array.getD_eq_getD_getElem?]
   rw [Array.getElem?_setIfInBounds_ne hne]
 have hput2:∀ s,r.dst = some s→a'.tmps.getD s undef = x:=by
  intro s hs
  rw [ha]
  have hlt:=I.small r hr s hs
  unfold Act.put
  rw [hs]
  simp only [Array.getD_eq_getD_getElem?]
  rw [Array.getElem?_setIfInBounds_self_of_lt (by rw [I.sz];exact hlt)]
  rfl
 have base:∀ b e,getM (recM (inB r.dep) M0 rs) b = some e→∃ e',getM (E ++ recM (inB r.dep) M0 rs) b = some e':=fun b e he=>by
  cases hx:getM E b with
  | some e'=>exact ⟨e',getM_append_new hx⟩
  | none=>exact ⟨e,by rw [getM_append_old hx];exact he⟩
 have up:∀ (q:Nat→Bool) b e,getM (recM q M0 rs) b = some e→∃ e',getM (recM q (E ++ recM (inB r.dep) M0 rs) (foldR r.dep rs)) b = some e':=by
  intro q b e he
  have ofB:(∃ e,getM (E ++ recM (inB r.dep) M0 rs) b = some e)→∃ e',getM (recM q (E ++ recM (inB r.dep) M0 rs) (foldR r.dep rs)) b = some e':=fun ⟨e,h⟩=>recM_base h
  rcases recM_inv he with h | ⟨y,h1,h2,h3⟩
  ·obtain ⟨e',h'⟩:=recM_base (rs:=rs) (p:=inB r.dep) h
   exact ofB (base b e' h')
  ·by_cases hy:y.ix ∈ r.dep
   ·obtain ⟨e',h'⟩:=recM_has (M0:=M0) (p:=inB r.dep) h1 (memB_iff.2 hy) h3
    exact ofB (base b e' h')
   ·obtain ⟨y1,k1,k2,_,_,_,_,k3⟩:=foldR_of (dp:=r.dep) h1
    have:=k3 hy
    subst this
    exact recM_has k1 h2 h3
 have up0:∀ b e,getM M0 b = some e→∃ e',getM (E ++ recM (inB r.dep) M0 rs) b = some e':=fun b e he=>by
  obtain ⟨e',h'⟩:=recM_base (rs:=rs) (p:=inB r.dep) he
  exact base b e' h'
 have clsd:Closed rs (inB r.dep):=fun y hy hyd k hk=>memB_iff.2 (hcl y hy (memB_iff.1 hyd) k hk)
 have fresh:∀ y ∈ rs,y.ix ∉ r.dep→∀ b e,getM y.new b = some e→getM (E ++ recM (inB r.dep) M0 rs) b = none:=by
  intro y hy hyd b e he
  have h1:getM E b = none:=by
   cases h:getM E b with
   | none=>rfl
   | some e'=>rw [hE b e' h y hy hyd] at he;cases he
  rw [getM_append_old h1]
  exact recM_fresh I.wf hy (inB_no hyd) clsd (fun h=>hnd y hy hyd b (by rw [he,h])) he
 have wf:∀ {t:List Rec},(∀ y ∈ t,y ∈ rs)→wfM M0 t→wfM (E ++ recM (inB r.dep) M0 rs) (foldR r.dep t):=by
  intro t
  induction t with
  | nil=>intro _ _;trivial
  | cons y q ih=>
   intro hin hw
   refine ⟨fun b e he=>?_,ih (fun z hz=>hin z (List.mem_cons_of_mem _ hz)) hw.2⟩
   simp only at he
   cases hm:memB y.ix r.dep with
   | true=>rw [hm,cond_true] at he;simp [getM] at he
   | false=>
    rw [hm,cond_false] at he
    have hyd:y.ix ∉ r.dep:=inB_false hm
    have hne:e ≠ .dead:=fun h=>hnd y (hin y (by simp)) hyd b (by rw [he,h])
    rcases hw.1 b e he with h1 | ⟨h1,_⟩
    ·refine Or.inl ⟨?_,h1.2⟩
     rw [recM_foldR]
     rw [getM_append_old]
     ·exact fresh y (hin y (by simp)) hyd b e he
     ·cases hz:getM (recM (restP r.dep allB) [] q) b with
      | none=>rfl
      | some e'=>
       obtain ⟨z,k1,_,k3,k4⟩:=rest_inv hz
       obtain ⟨e2,he2⟩:=recM_has (M0:=M0) (p:=allB) k1 rfl k4
       rw [h1.1] at he2;cases he2
    ·exact absurd h1 hne
 have nodead:∀ k ∈ foldR r.dep rs,∀ b,getM k.new b ≠ some .dead:=by
  intro k hk b hb
  obtain ⟨k0,h0,_,_,_,_,_,h | h⟩:=foldR_mem hk
  ·rw [h.2] at hb;simp [getM] at hb
  ·obtain ⟨h1,h2⟩:=h
   subst h2
   exact hnd k h0 h1 b hb
 exact {
  wf:=wf (fun _ h=>h) I.wf
  uniq:=fun y hy z hz e=>by
   obtain ⟨y0,a1,a2,a3,a4,a5,a6,a7⟩:=foldR_mem hy
   obtain ⟨z0,b1,b2,b3,b4,b5,b6,b7⟩:=foldR_mem hz
   have:=I.uniq y0 a1 z0 b1 (by rw [← a2,← b2,e])
   subst this
   rcases a7 with ⟨c1,c2⟩ | ⟨c1,c2⟩
   ·rcases b7 with ⟨d1,d2⟩ | ⟨d1,d2⟩
    ·cases y;cases z;simp_all
    ·rw [e] at c1;exact absurd c1 d1
   ·rcases b7 with ⟨d1,d2⟩ | ⟨d1,d2⟩
    ·rw [← e] at d1;exact absurd d1 c1
    ·rw [c2,d2]
  bfs:=fun y hy=>by
   obtain ⟨y0,a1,a2,_⟩:=foldR_mem hy
   rw [a2];exact I.bfs y0 a1
  deps:=fun y hy=>by
   obtain ⟨y0,a1,a2,_,_,a5,_⟩:=foldR_mem hy
   rw [a2,a5];exact I.deps y0 a1
  trans:=fun y hy=>by
   obtain ⟨y0,a1,a2,_,_,a5,_⟩:=foldR_mem hy
   rw [a5];exact I.trans y0 a1
  irr:=fun y hy=>by
   obtain ⟨y0,a1,a2,_,_,a5,_⟩:=foldR_mem hy
   rw [a2,a5];exact I.irr y0 a1
  below:=fun y hy=>by
   obtain ⟨y0,a1,a2,_,_,a5,_⟩:=foldR_mem hy
   rw [a5];exact I.below y0 a1
  small:=fun y hy=>by
   obtain ⟨y0,a1,_,a3,_⟩:=foldR_mem hy
   rw [a3];exact I.small y0 a1
  pairs:=fun y hy z hz hne=>by
   obtain ⟨y0,a1,a2,a3,a4,a5,a6,_⟩:=foldR_mem hy
   obtain ⟨z0,b1,b2,b3,b4,b5,b6,_⟩:=foldR_mem hz
   have:=I.pairs y0 a1 z0 b1 (by rw [← a2,← b2];exact hne)
   unfold Pair at this ⊢
   rw [a2,a3,a5,a6,b2,b3,b5,b6];exact this
  safe:=fun y _ k hk _ _ _ b hb=>absurd hb (nodead k hk b)
  kill:=fun k hk b hb=>absurd hb (nodead k hk b)
  t0:=fun s=>(I.t0 s).mono up0
  m0:=fun b e he=>by
   cases hx:getM E b with
   | some e'=>
    rw [getM_append_new hx] at he
    simp only [Option.some.injEq] at he;subst he
    exact hn b e' hx
   | none=>
    rw [getM_append_old hx] at he
    exact (ht b e he).mono base
  defers:=hdf
  done:=fun j hj=>(plus_cases hj).elim (fun h=>by rw [h];exact I.bfs r hr) (I.done j)
  base:=fun j hj=>by
   rcases I.base j hj with h | ⟨y,h1,h2⟩
   ·exact Or.inl (plus_old h)
   ·obtain ⟨y1,k1,k2,_⟩:=foldR_of (dp:=r.dep) h1
    exact Or.inr ⟨y1,k1,by rw [k2,h2]⟩
  clos:=fun j hj k hk=>by
   rcases plus_cases hj with h | h
   ·subst h
    rw [← I.deps r hr] at hk
    exact plus_old (hd k hk)
   ·exact plus_old (I.clos j h k hk)
  mem:=by
   refine hm.congr fun b=>?_
   rw [recM_foldR]
   have h1:recM (plus p r.ix) M0 rs = recM (plus p r.ix) M0 rs:=rfl
   have h2:=recM_plus I.wf I.uniq I.closed hr hi b
   rw [hnew,List.nil_append] at h2
   have h3:=recM_part (M0:=M0) (dp:=r.dep) (q:=plus p r.ix) (fun j hj=>plus_old (hd j hj)) b I.wf hcl
   cases hx:getM E b with
   | some e=>
    rw [getM_append_new hx,getM_append_old,getM_append_new hx]
    cases hy:getM (recM (restP r.dep (plus p r.ix)) [] rs) b with
    | none=>rfl
    | some e'=>
     obtain ⟨z,k1,_,k3,k4⟩:=rest_inv hy
     rw [hE b e hx z k1 k3] at k4;cases k4
   | none=>
    rw [getM_append_old hx,← h2,h3,getM_append,getM_append,getM_append_old hx]
  sz:=by
   rw [ha]
   unfold Act.put
   cases r.dst with
   | none=>exact I.sz
   | some d=>simp only [Array.size_setIfInBounds];exact I.sz
  slot0:=fun s hs=>by
   have hs':∀ y ∈ rs,plus p r.ix y.ix = true→y.dst ≠ some s:=fun y hy hp=>by
    obtain ⟨y1,k1,k2,k3,_⟩:=foldR_of (dp:=r.dep) hy
    rw [← k3];exact hs y1 k1 (by rw [k2];exact hp)
   have h1:=hs' r hr (plus_self _ _)
   rw [hput s h1]
   exact (I.slot0 s fun r' hr' hp'=>hs' r' hr' (plus_old hp')).le hle
  slotr:=fun y hy hp'=>by
   obtain ⟨y0,a1,a2,a3,a4,a5,a6,a7⟩:=foldR_mem hy
   rw [a2] at hp'
   rw [a2,a3,a4,a5]
   have hnews:∀ b e,getM y.new b = some e→getM y0.new b = some e:=fun b e he=>by
    rcases a7 with ⟨_,h⟩ | ⟨_,h⟩
    ·rw [h] at he;simp [getM] at he
    ·rw [← h];exact he
   rcases plus_cases hp' with h | h
   ·have:=I.uniq y0 a1 r hr h;subst this
    refine ⟨fun d hds=>?_,fun b e he=>?_⟩
    ·rw [hput2 d hds]
     refine ⟨(hx d hds).1,(hx d hds).2.mono fun b e he=>recM_base he⟩
    ·have:=hnews b e he
     rw [hnew] at this;simp [getM] at this
   ·have hne:y0.ix ≠ r.ix:=fun e=>by rw [e,hi] at h;cases h
    obtain ⟨k1,k2⟩:=I.slotr y0 a1 h
    refine ⟨fun d hds=>?_,fun b e he=>(k2 b e (hnews b e he)).mono (up _)⟩
    rw [hput d ((I.pairs y0 a1 r hr hne).2.2 d hds)]
    exact ⟨(k1 d hds).1.le hle,(k1 d hds).2.mono (up _)⟩ }
end
end Go.Sx
