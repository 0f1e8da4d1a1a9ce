/- Executor, part 6. No condition. -/
import Derived.Test.YtieblfbmmbkjdaaGreatHx5
import Derived.Test.YtieblfbmmbkjdaaGreatHx3
import Derived.Tactics
import Derived.Laws.Externs
set_option linter.unusedSimpArgs false
set_option linter.unusedVariables false
set_option autoImplicit true
set_option relaxedAutoImplicit true
open Go.Result (andThen_ok)
open List (mem_cons_of_mem)
open Go.Sem (run_bind run_pure)
open Nat (le_refl beq blt)
open Array (getD_eq_getD_getElem? ext')
open UInt64 (ofNat)
namespace Go.Sx
open Go
@[irreducible] def fg (ps:List Prop) (K:Prop):Prop:=zA ps/\K
theorem fg.i {ps:List Prop} {K:Prop} (h:zA ps) (k:K):fg ps K:=by unfold fg;exact⟨h,k⟩
theorem fg.all (h:fg ps K):All ps:=by unfold fg at h;exact zAi h.1
theorem fg.rest (h:fg ps K):K:=by unfold fg at h;exact h.2
def zwP (ps:List Prop) (K:Prop):Prop:=
 match ps with
 |[]=>K
 |p::r=>fg (p::r) K
theorem zwP.all (h:zwP ps K):All ps:=by
 cases ps with
 |nil=>exact All.nil
 |cons p r=>exact fg.all h
theorem zwP.rest (h:zwP ps K):K:=by
 cases ps with
 |nil=>exact h
 |cons p r=>exact fg.rest h
@[irreducible] def zB (p A B:Prop):Prop:=(p->A)/\(¬p->B)
theorem zB.i {p A B:Prop} (h:p->A) (k:¬p->B):zB p A B:=by unfold zB;exact⟨h,k⟩
theorem zB.yes (h:zB p A B) (hp:p):A:=by unfold zB at h;exact h.1 hp
theorem zB.no (h:zB p A B) (hp:¬p):B:=by unfold zB at h;exact h.2 hp
@[irreducible] def Call (P:Program) (f:FuncId) (args:List SV) (M:Mm) (K:SV->Mm->Prop):Prop:=aR6 P f args M K
theorem Call.out (h:Call P f args M K):aR6 P f args M K:=by unfold Call at h;exact h
theorem Call.name (nms:List (Nat×List (Nat×SV))) (h1:qz nms args M=some (ps,args',M')) (h2:zA ps)
  (h3:kW P f args' M' K):Call P f args M K:=by
 unfold Call;exact⟨nms,ps,args',M',h1,h2,h3⟩
theorem kW.i {P:Program} {f:FuncId} {args:List SV} {M:Mm} {K:SV->Mm->Prop} {args0:List SV} {M0:Mm} {R:SV->Mm->Prop} (h:Fn P f args0 M0 R) (μ:Nm) {ps qs:List Prop}
  (h1:fD μ args0 args=some ps) (h2:zA ps) (h3:gO μ M M0=some qs) (h4:zA qs) (h5:tD μ M M0=true) (h6:∀v M',R v M'->K (ren μ v) (zM μ M M0 M' μ)):
  kW P f args M K:=⟨args0,M0,R,μ,ps,qs,h,h1,h2,h3,h4,h5,h6⟩
theorem Call.i {P:Program} {f:FuncId} {args:List SV} {M:Mm} {K:SV->Mm->Prop} {args0:List SV} {M0:Mm} {R:SV->Mm->Prop} (h:Fn P f args0 M0 R) (μ:Nm) {ps qs:List Prop}
  (h1:fD μ args0 args=some ps) (h2:zA ps) (h3:gO μ M M0=some qs) (h4:zA qs) (h5:tD μ M M0=true) (h6:∀v M',R v M'->K (ren μ v) (zM μ M M0 M' μ)):
  Call P f args M K:=by
 unfold Call;exact⟨[],[],args,M,rfl,trivial,args0,M0,R,μ,ps,qs,h,h1,h2,h3,h4,h5,h6⟩
theorem Call.pure {P:Program} {f:FuncId} {args args0:List SV} {M:Mm} {K:SV->Mm->Prop} {R:SV->Prop} (h:Fn P f args0 [] (λv _=>R v)) {ps:List Prop}
  (h1:fD [] args0 args=some ps) (h2:zA ps) (h6:∀v,R v->K (ren [] v) M):Call P f args M K:=
 Call.i h [] h1 h2 rfl trivial rfl λv _ hR=>h6 v hR
def aOJ (P:Program) (g:FuncId):Bool:=
 match P.funcs[g]? with
 |some fn=> !(fn.name== "runtime.NumGoroutine")&&fn.body.isSome
 |none=>false
inductive aAZ where
 |add64|sub64
def gF (x y c:UInt64):UInt64:=ofNat (x.toNat+y.toNat+c.toNat)
def oO (x y c:UInt64):UInt64:=ofNat ((x.toNat+y.toNat+c.toNat)/18446744073709551616)
def aJ0 (x y c:UInt64):UInt64:=ofNat (x.toNat+18446744073709551616-y.toNat-c.toNat)
def aEF (x y c:UInt64):UInt64:=if x.toNat<y.toNat+c.toNat then 1 else 0
def aAZ.val (k:aAZ) (x y c:UInt64):SV:=
 match k with
 | .add64=>.tup [.u64 (gF x y c),.u64 (oO x y c)]
 | .sub64=>.tup [.u64 (aJ0 x y c),.u64 (aEF x y c)]
def aAZ.res (k:aAZ) (x y c:UInt64):Value:=
 match k with
 | .add64=>.tuple #[w64 (gF x y c),w64 (oO x y c)]
 | .sub64=>.tuple #[w64 (aJ0 x y c),w64 (aEF x y c)]
def aJA (P:Program) (g:Nat) (k:aAZ):Prop:=∀(x y c:UInt64),c.toNat<=1->∀w:World,(callFunc g #[w64 x,w64 y,w64 c]).run P w= .ok (.value (k.res x y c)) w
theorem aHW (hf:P.funcs[g]? =some fn) (hname:(fn.name== "runtime.NumGoroutine")=false) (hb:fn.body.isNone=true) (hn:Extern.findNext fn=none) (he:Extern.find fn=some add64Entry):aJA P g .add64:=by
 intro x y c hc w
 rw[run_callFunc_extern hf hname hb hn he]
 unfold w64
 rw[run_add64 _ _ _ (by omega) (by omega) (by omega) (by omega)]
 simp only[andThen_ok,aAZ.res,w64,gF,oO,UInt64.toNat_ofNat']
 have h1:=x.toNat_lt
 have h2:=y.toNat_lt
 rw[Nat.mod_eq_of_lt (show(x.toNat+y.toNat+c.toNat)/18446744073709551616<2^64 by omega)]
 congr 5
def yl:Array Value->Sem Value:=λargs=>do
 let(x,y,b)←Extern.MathBitsCarry.three "Sub64" args
 pure (Extern.MathBitsCarry.pair ((x+Extern.MathBitsCarry.m64-y-b)%Extern.MathBitsCarry.m64) (if x<y+b then 1 else 0))
theorem uO (x y b:Nat) (hb:b<=1) (w:World):
  (yl #[.int .u64 x,.int .u64 y,.int .u64 b]).run P w=
   .ok (.tuple #[.int .u64 (((x+18446744073709551616-y-b)%18446744073709551616:Nat):Int),.int .u64 ((if x<y+b then 1 else 0:Nat):Int)]) w:=by
 have:b=0\/b=1:=by omega
 rcases this with rfl|rfl<;>rfl
theorem aHV (hf:P.funcs[g]? =some fn) (hname:(fn.name== "runtime.NumGoroutine")=false) (hb:fn.body.isNone=true) (hn:Extern.findNext fn=none) (he:Extern.find fn=some yl):aJA P g .sub64:=by
 intro x y c hc w
 rw[run_callFunc_extern hf hname hb hn he]
 unfold w64
 rw[uO _ _ _ hc]
 simp only[andThen_ok,aAZ.res,w64,aJ0,aEF,UInt64.toNat_ofNat']
 congr 5
 split <;>rfl
structure Cfg extends Ctx where
 calls:List Nat
 callsOK:(calls.all λg=>aOJ P g)=true
 exts:List (Nat×aAZ):=[]
 extsOK:∀p∈exts,aJA P p.1 p.2:=by exactλp hp=>absurd hp (by simp)
def aHX (l:List (Nat×aAZ)) (g:Nat):Option aAZ:=
 match l with
 |[]=>none
 |(k,e)::r=>bif beq g k then some e else aHX r g
theorem vc:∀{l:List (Nat×aAZ)} {g:Nat} {e:aAZ},aHX l g=some e->(g,e)∈l
 |[],_,_,h=>by simp[aHX]at h
 |(k,e')::r,g,e,h=>by
  simp only[aHX]at h
  rcases zs h with⟨hb,h⟩|⟨_,h⟩
  ·have:=zq hb
   simp only[zoI]at h;subst h;subst this
   simp
  exact mem_cons_of_mem _ (vc h)
def aaM (k:aAZ) (as:List SV):Out:=
 match as with
 |[.u64 x,.u64 y,.u64 c]=>some ([c.toNat<=1],k.val x y c)
 |_=>none
def aYZ (l:List (Nat×aAZ)) (g:Nat) (as:List SV):Out:=
 match aHX l g with
 |some k=>aaM k as
 |none=>none
theorem aCG {Γ:Cfg} {g:Nat} {as:List SV} {ps:List Prop} {v:SV} (h:aYZ Γ.exts g as=some (ps,v)) (hp:All ps) {ρ:Env} {xs:List Value} (hr:iR ρ as xs) (w:World):
  ∃x,zRT ρ v x/\(callFunc g xs.toArray).run Γ.P w= .ok (.value x) w:=by
 unfold aYZ at h
 split at h
 ·rename_i k hk
  have hx:=Γ.extsOK _ (vc hk)
  unfold aaM at h
  split at h
  ·rename_i x y c
   obtain⟨rfl,rfl⟩:=sB h
   obtain⟨v1,r1,e1,h1,v2,r2,e2,h2,v3,r3,e3,h3,h4⟩:=hr
   simp only[iR]at h4
   subst h4;subst e3;subst e2;subst e1
   have h1:v1=w64 x:=h1
   have h2:v2=w64 y:=h2
   have h3:v3=w64 c:=h3
   subst h1;subst h2;subst h3
   refine⟨_,?_,hx x y c hp.head w⟩
   cases k
   ·exact⟨_,⟨_,_,rfl,rfl,_,_,rfl,rfl,rfl⟩,rfl⟩
   exact⟨_,⟨_,_,rfl,rfl,_,_,rfl,rfl,rfl⟩,rfl⟩
  cases h
 cases h
def evL (T:Tm):List Operand->List SV
 |[]=>[]
 |x::r=>ev T x::evL T r
def aWK:List (Nat×Nat)->List SV
 |[]=>[]
 |(a,f)::r=>.ptr a f none::aWK r
def zt (dst:Option Nat) (v:SV) (T:Tm):Tm:=
 match dst with
 |some d=>(d,v)::T
 |none=>T
def aN0:Builtin->Bool
 | .copy=>true
 |_=>false
def pK:Builtin->Bool
 | .append=>true
 |_=>false
def xP (len:Nat) (parts:List (Nat×Operand)):Bool:=
 match len with
 |0=>match parts with
  |[]=>true
  |_=>false
 |_=>true
def aO9 (ty:Nat->Ty) (s e:Nat) (v:SV):Option (List UInt8):=
 match(ty s).k with
 | .string=>match(ty e).k with
  | .int .u8=>match v with
   | .str l=>some l
   |_=>none
  |_=>none
 |_=>none
def aN1 (k:TyK):Bool:=
 match k with
 | .int .u8=>true
 |_=>false
def xW (M:Mm) (s t:Nat) (k:TyK) (v:SV):Option SV:=
 match v with
 | .sl a f i n c=>match zG M a with
  |some (.mem true sp ls)=>bif beq s t&&(aN1 k&&(blt 0 n&&blt 0 (zL ls+sp)))then some (.sl a f i n c)else none
  |_=>none
 |_=>none
theorem uw (h:xW M s t k v=some v'):∃a f i n c sp ls,v= .sl a f i n c/\v'= .sl a f i n c/\zG M a=some (.mem true sp ls)/\s=t/\k= .int .u8/\0<n/\0<zL ls+sp:=by
 unfold xW at h
 split at h
 ·rename_i a f i n c
  split at h
  ·rename_i sp ls hm
   rcases zs h with⟨hb,h⟩|⟨_,h⟩
   ·simp only[zbA]at hb
    simp only[zoI]at h
    refine⟨a,f,i,n,c,sp,ls,rfl,h.symm,hm,zq hb.1,?_,ay hb.2.2.1,ay hb.2.2.2⟩
    have:=hb.2.1
    unfold aN1 at this
    split at this
    ·rfl
    cases this
   cases h
  cases h
 cases h
def zfV (v:SV) (k:SV->Prop):Prop:=
 match v with
 | .und=>k .und
 | .tt=>k .tt
 | .ff=>k .ff
 | .bool p=>k (.bool p)
 | .u8 x=>k (.u8 x)
 | .u16 x=>k (.u16 x)
 | .u32 x=>k (.u32 x)
 | .u64 x=>k (.u64 x)
 | .i q n=>k (.i q n)
 | .str l=>k (.str l)
 | .ptr a f i=>k (.ptr a f i)
 | .nilp=>k .nilp
 | .sl a f i n c=>k (.sl a f i n c)
 | .slx a f i n=>k (.slx a f i n)
 | .nsl=>k .nsl
 | .a8 l=>k (.a8 l)
 | .a16 l=>k (.a16 l)
 | .a32 l=>k (.a32 l)
 | .a64 l=>k (.a64 l)
 | .ai l=>k (.ai l)
 | .isl q n s ls=>k (.isl q n s ls)
 | .iep f q s ls=>k (.iep f q s ls)
 | .ep a f q s=>k (.ep a f q s)
 | .agg ls=>k (.agg ls)
 | .tup []=>k (.tup [])
 |v=>k v
theorem i8 (v:SV) (k:SV->Prop):zfV v k=k v:=by
 unfold zfV;split <;>rfl
def zfP (ps:List Prop) (k:List Prop->Prop):Prop:=
 match ps with
 |[]=>k []
 |p::r=>zfP r λr=>k (p::r)
theorem cv:∀(ps:List Prop) (k:List Prop->Prop),zfP ps k=k ps
 |[],k=>rfl
 |p::r,k=>by simp only[zfP];rw[cv r]
def zfM (M:Mm) (k:Mm->Prop):Prop:=
 match M with
 |[]=>k []
 |(a,e)::r=>match e with
  | .dead=>zfM r λr=>k ((a,.dead)::r)
  | .mem own sp ls=>match own with
   |true=>zfM r λr=>k ((a,.mem true sp ls)::r)
   |false=>zfM r λr=>k ((a,.mem false sp ls)::r)
  | .map m=>zfM r λr=>k ((a,.map m)::r)
theorem gm:∀(M:Mm) (k:Mm->Prop),zfM M k=k M
 |[],k=>rfl
 |(a,.dead)::r,k=>by simp only[zfM];rw[gm r]
 |(a,.mem true sp ls)::r,k=>by simp only[zfM];rw[gm r]
 |(a,.mem false sp ls)::r,k=>by simp only[zfM];rw[gm r]
 |(a,.map m)::r,k=>by simp only[zfM];rw[gm r]
def aXZ (v:SV):Option Nat:=
 match v with
 | .sl _ _ _ n _=>some n
 | .slx _ _ _ n=>some n
 | .isl _ n _ _=>some n
 |_=>none
def aXI (ty:Nat->Ty) (T:Tm) (op:Op):Option Nat:=
 match op with
 | .binOp op t x y _=>match op with
  | .eql=>match(ty t).k with
   | .slice _=>match ev T y with
    | .nsl=>aXZ (ev T x)
    |_=>none
   |_=>none
  |_=>none
 |_=>none
theorem aKC (w:World) (d:Nat) (t e:TypeId) (x:Option Addr) (n c:Nat) (h:P.underlying t=some (.slice e)):
  (Op.equalIn (d+1) t (.slice x n c) (.slice none 0 0)).run P w= .ok x.isNone w:=by
 cases x<;>simp[Op.equalIn,zru h]
theorem aKB (w:World) (t e:TypeId) (x:Option Addr) (n c:Nat) (h:P.underlying t=some (.slice e)):
  (binOp .eql t (.slice x n c) (.slice none 0 0)).run P w= .ok (.bool x.isNone) w:=by
 simp only[binOp,Op.equal,Op.maxDepth,run_bind,aKC w 9999 t e x n c h,andThen_ok,run_pure]
theorem aK8 (h:aXZ v=some n) (hx:zRT ρ v x):∃y c,n<=c/\x= .slice y n c/\(c≠0->y≠none):=by
 unfold aXZ at h
 split at h<;>simp only[zoI,reduceCtorEq]at h<;>subst h
 ·obtain⟨_,h1,y,rfl,h2⟩:=hx
  exact⟨y,_,h1,rfl,λhc hy=>by rw[h2 hc]at hy;cases hy⟩
 ·obtain⟨_,c,y,h1,rfl,h2⟩:=hx
  exact⟨y,c,h1,rfl,λhc hy=>by rw[h2 hc]at hy;cases hy⟩
 obtain⟨b,o,c,y,_,h1,rfl,h2⟩:=hx
 exact⟨y,c,h1,rfl,λhc hy=>by rw[h2 hc]at hy;cases hy⟩
theorem aB0 {Γ:Ctx} {N:Nat} {ρ:Env} {T:Tm} {M:Mm} {a:Act} {w:World} (hc:aZ N ρ T M a w) {o:Oper} {op:Op} (ho:o.op=op) {n:Nat} (h:aXI Γ.ty T op=some n):
  ∃b:Bool,(0<n->b=false)/\(execOp a.eval o).run Γ.P w= .ok (.value (.bool b)) w:=by
 subst ho
 obtain⟨dst,op,ty,pos,after,guard⟩:=o
 simp only at h
 unfold aXI at h
 split at h
 ·rename_i op t x y yt
  split at h
  ·split at h
   ·rename_i e hk
    split at h
    ·rename_i hy
     have hy2:=zev hc y
     rw[hy]at hy2
     obtain⟨z,c,h1,h2,h3⟩:=aK8 h (zev hc x)
     have u:=zus (Γ.ok (t:=t) (by rw[hk];simp)) hk
     refine⟨z.isNone,λh0=>?_,?_⟩
     ·have:=h3 (by omega)
      cases z with
      |none=>exact absurd rfl this
      |some _=>rfl
     have hy3:a.eval y= .slice none 0 0:=hy2
     simp only[execOp,run_bind,h2,hy3,zeg .eql t x y (.slice z n c) _ (by simp) (by simp),andThen_ok,aKB w t e z n c u,run_pure]
    cases h
   cases h
  cases h
 cases h
def bp (Γ:Cfg) (o:Oper) (T:Tm) (M:Mm) (ps:List Prop) (K:List Prop->SV->Mm->Prop):Prop:=
 match o.op with
 | .alloc t=>match o.dst with
  |some d=>match zG M d with
   |none=>match(Γ.ty t).k with
    | .bad=>False
    |_=>match(Γ.ty t).zl with
     |[]=>False
     |zl=>K ps (.ptr d 0 none) ((d,.mem true 0 zl)::M)
   |some _=>False
  |none=>False
 | .box t x=>match o.dst with
  |some d=>match zG M d with
   |none=>match iM (Γ.ty t) (ev T x)with
    |some (qs,ls)=>K (qs++ps) (.ptr d 0 none) ((d,.mem true 0 ls)::M)
    |none=>False
   |some _=>False
  |none=>False
 | .store t ad x=>match o.dst with
  |none=>match ev T ad with
   | .ptr a f i=>match zG M a with
    |some (.mem true sp ls)=>match(Γ.ty t).k with
     | .bad=>False
     |_=>match rN ls f i (Γ.ty t) (ev T x)with
      |some (qs,l)=>K (qs++ps) .und ((a,.mem true sp l)::M)
      |none=>False
    |_=>False
   | .ep a f q s=>match zG M a with
    |some (.mem true sp ls)=>match(Γ.ty t).k with
     | .bad=>False
     |_=>match aEG ls f q s (Γ.ty t) (ev T x)with
      |some (qs,l)=>K (qs++ps) .und ((a,.mem true sp l)::M)
      |none=>False
    |_=>False
   |_=>False
  |some _=>False
 | .makeSlice t l c=>match o.dst with
  |some d=>match zG M d with
   |none=>match aB5 Γ.ty T d t l c with
    |some (qs,e,v)=>K (qs++ps) v ((d,e)::M)
    |none=>False
   |some _=>False
  |none=>False
 | .buildSlice t len parts=>bif xP len parts.toList then match o.dst with
   |some d=>match zG M d with
    |none=>match bsV Γ.ty T d t len parts.toList with
     |some (qs,e,v)=>K (qs++ps) v ((d,e)::M)
     |none=>False
    |some _=>False
   |none=>False
  else False
 | .makeMap _ r=>match r with
  |none=>match o.dst with
   |some d=>match zG M d with
    |none=>K ps (.mp d) ((d,.map (.si []))::M)
    |some _=>False
   |none=>False
  |some _=>False
 | .mapUpdate t x k v=>match o.dst with
  |none=>match aWZ Γ.ty M t (ev T x) (ev T k) (ev T v)with
   |some (qs,a,l)=>K (qs++ps) .und ((a,.map (.si l))::M)
   |none=>False
  |some _=>False
 | .convert s t x=>match(Γ.ty t).k with
  | .slice e=>match(Γ.ty s).k with
   | .slice _=>match xW M s t (Γ.ty e).k (ev T x)with
    |some v=>K ps v M
    |none=>False
   |_=>match o.dst with
    |some d=>match zG M d with
     |none=>match aO9 Γ.ty s e (ev T x)with
      |some l=>∀c',l.length<=c'->K ps (.sl d 0 0 l.length c') ((d,.mem true (c'-l.length) [(l.length,.a8 l)])::M)
      |none=>False
     |some _=>False
    |none=>False
  |_=>match fo Γ.ty T M o.op with
   |some (qs,v)=>K (qs++ps) v M
   |none=>False
 | .call c=>match c.callee with
  | .value f=>match ev T f with
   | .fn g cap=>bif eY g Γ.calls then zwP ps (Call Γ.P g (evL T c.args.toList++aWK cap) M (λv M'=>zfM M' λM'=>K [] v M'))else match aYZ Γ.exts g (evL T c.args.toList++aWK cap)with
    |some (qs,v)=>K (qs++ps) v M
    |none=>False
   |_=>False
  | .builtin b=>match aN0 b with
   |true=>match copyE Γ.ty M T c with
    |some (qs,m,b,E)=>K (qs++ps) (.i .i64 (m:Int)) ((b,E)::M)
    |none=>False
   |false=>match pK b with
    |true=>match o.dst with
     |some d=>match zG M d with
      |none=>match appV Γ.ty T M c with
       |some (qs,n,es,leaf,k,M')=>match zG M' d with
        |none=>match aZH Γ.ty T M c with
         |none=>∀c',n<=c'->K (qs++ps) (.sl d 0 0 n c') ((d,.mem true (zmE (c'-n) es) [(zmE n es,leaf)])::xn k M')
         |some (qe,m,v,Me)=>zB (0<m) (∀c',n<=c'->K (qs++ps) (.sl d 0 0 n c') ((d,.mem true (zmE (c'-n) es) [(zmE n es,leaf)])::xn k M')) (K (qe++ps) v Me)
        |some _=>False
       |none=>match aZG Γ.ty T M c with
        |some (qs,n,cp,b,E,M')=>K (qs++ps) (.sl b 0 0 n cp) ((b,E)::M')
        |none=>False
      |some _=>False
     |none=>False
    |false=>match fo Γ.ty T M o.op with
     |some (qs,v)=>K (qs++ps) v M
     |none=>match aQ1 b with
      |true=>match o.dst with
       |none=>match aIF Γ.ty M T c with
        |some (qs,a,E)=>K (qs++ps) .und ((a,E)::M)
        |none=>False
       |some _=>False
      |false=>False
  |_=>False
 |op=>match fo Γ.ty T M op with
  |some (qs,v)=>K (qs++ps) v M
  |none=>match aXI Γ.ty T op with
   |some n=>∀p:Prop,(0<n->¬p)->K ps (.bool p) M
   |none=>False
def zgS (all:List Oper) (j:Nat):Option Nat:=
 match all[j]? with
 |some o=>o.dst
 |none=>none
def aEH (Γ:Cfg) (all:List Oper) (o:Oper) (rest:Tm->Mm->List Prop->(Tm->Mm->Prop)->Prop) (T:Tm) (M:Mm) (ps:List Prop) (K:Tm->Mm->Prop):Prop:=
 match o.guard with
  |none=>bp Γ o T M ps λqs v M'=>zfP qs λqs=>zfV v λv=>rest (zt o.dst v T) M' qs K
  |some (j,want)=>match zgS all j with
   |none=>False
   |some d=>match zX T d with
    | .tt=>match want with
     |true=>bp Γ o T M ps λqs v M'=>zfP qs λqs=>zfV v λv=>rest (zt o.dst v T) M' qs K
     |false=>rest (zt o.dst (.tup []) T) M ps K
    | .ff=>match want with
     |false=>bp Γ o T M ps λqs v M'=>zfP qs λqs=>zfV v λv=>rest (zt o.dst v T) M' qs K
     |true=>rest (zt o.dst (.tup []) T) M ps K
    | .bool p=>match want with
     |true=>zwP ps (zB p (bp Γ o ((d,.tt)::T) M [] λqs v M'=>zfP qs λqs=>zfV v λv=>rest (zt o.dst v ((d,.tt)::T)) M' qs K) (rest (zt o.dst (.tup []) ((d,.ff)::T)) M [] K))
     |false=>zwP ps (zB p (rest (zt o.dst (.tup []) ((d,.tt)::T)) M [] K) (bp Γ o ((d,.ff)::T) M [] λqs v M'=>zfP qs λqs=>zfV v λv=>rest (zt o.dst v ((d,.ff)::T)) M' qs K))
    | .tup []=>rest (zt o.dst (.tup []) T) M ps K
    |_=>False
def aY6 (T:Tm) (M:Mm) (ps:List Prop) (K:Tm->Mm->Prop):Prop:=zwP ps (K T M)
def jh (Γ:Cfg) (all:List Oper) (l:List Oper) (T:Tm) (M:Mm) (ps:List Prop) (K:Tm->Mm->Prop):Prop:=
 match l with
 |[]=>aY6 T M ps K
 |o::r=>aEH Γ all o (jh Γ all r) T M ps K
theorem bm (h:bif b then A else B):(b=true/\A)\/(b=false/\B):=by
 cases b with
 |true=>exact Or.inl ⟨rfl,h⟩
 |false=>exact Or.inr ⟨rfl,h⟩
theorem aB4 (h:zF ρ M w) (ha:zG M a=some (.mem true sp ls)) (hpos:0<zL ls+sp) (q:Nat)
  (ut:P.underlying t=some (.slice e)) (ue:P.underlying e=some (.int .u8)):
  ∃w',(convert t t (.slice (some ⟨(ρ.pos a).1,q,none⟩) n c)).run P w= .ok (.slice (some ⟨(ρ.pos a).1,q,none⟩) n c) w'/\zF ρ M w'/\aV ρ M ρ M w w':=by
 obtain⟨cs,c1,c2,c3,c4⟩:=h.sat a _ ha
 obtain⟨⟨v0,hv0⟩,hh⟩:=c4 rfl 0 hpos
 have hlt:(ρ.pos a).1<w.heap.size:=c2.1 (by simp only[if_true];omega)
 obtain⟨C,E,lo,hi,hb⟩:∃C E lo hi,w.heap[(ρ.pos a).1]? =some (.cells C E (lo,hi)):=by
  unfold World.cell? at hv0
  simp only at hv0
  cases hb:w.heap[(ρ.pos a).1]? with
  |none=>rw[hb]at hv0;cases hv0
  |some x=>
   rw[hb]at hv0
   cases x
   case cells C E fz=>exact⟨C,E,fz.1,fz.2,rfl⟩
   all_goals cases hv0
 have hfz:lo=hi\/C.size<=lo:=by
  unfold iO at hh
  simp only[hb,Bool.not_eq_false',Bool.or_eq_true,beq_iff_eq]at hh
  exact hh.imp id Nat.le_of_ble_eq_true
 have hsh:w.shape? (ρ.pos a).1=some (E,C.size):=by unfold World.shape?;rw[hb]
 refine⟨w.freeze ⟨(ρ.pos a).1,C.size,none⟩ 1,?_,?_⟩
 ·simp[convert,zru ut,zru ue,markStringish,hsh]
 generalize hw:w.freeze ⟨(ρ.pos a).1,C.size,none⟩ 1=w'
 have hheap:∀k:Nat,w'.heap[k]? =if k=(ρ.pos a).1 then some (.cells C E (if lo==hi then(C.size,C.size+1)else(min lo C.size,max hi (C.size+1))))else w.heap[k]?:=by
  intro k
  rw[<-hw]
  unfold World.freeze
  rw[if_neg (by decide)]
  simp only[Array.getElem?_modify]
  by_cases hk:k=(ρ.pos a).1
  ·subst hk
   rw[if_pos rfl,if_pos rfl,hb]
   rfl
  rw[if_neg (λe=>hk e.symm),if_neg hk]
 have hsz:w'.heap.size=w.heap.size:=by
  rw[<-hw];unfold World.freeze;rw[if_neg (by decide)];simp
 have hos:w'.os=w.os/\w'.output=w.output:=by
  rw[<-hw];unfold World.freeze;rw[if_neg (by decide)];exact⟨rfl,rfl⟩
 have hcell:∀k o,w'.cell? ⟨k,o,none⟩=w.cell? ⟨k,o,none⟩:=by
  intro k o
  unfold World.cell?
  simp only[hheap]
  by_cases hk:k=(ρ.pos a).1
  ·subst hk;rw[if_pos rfl,hb]
  rw[if_neg hk]
 have hhard:∀k o,iO w' ⟨k,o,none⟩=iO w ⟨k,o,none⟩:=by
  intro k o
  unfold iO
  simp only[hheap]
  by_cases hk:k=(ρ.pos a).1
  ·subst hk
   rw[if_pos rfl,hb]
   have e1:(!(lo==hi||Nat.ble C.size lo))=false:=by
    rcases hfz with h|h
    ·simp[h]
    simp[Nat.ble_eq_true_of_le h]
   simp only[e1]
   by_cases hl:lo=hi
   ·simp[hl]
   have:(lo==hi)=false:=by simpa using hl
   have hle:C.size<=lo:=hfz.resolve_left hl
   simp only[this,Bool.false_eq_true,if_false]
   rw[Nat.min_eq_right hle]
   simp
  rw[if_neg hk]
 refine⟨⟨h.dom,h.mod,λb e he=>mB.of_same (Env.le_refl _) (Nat.le_of_eq hsz.symm) (λk o _=>⟨hcell k o,hhard k o⟩) (λk hk hf=>?_) (h.sat b e he),h.sep,λb o ls hi=>(h.imm b o ls hi).keep (λ_ _ _ h=>h) (Nat.le_of_eq hsz.symm) (λj _=>hcell _ _),h.isep,h.gl⟩,
  ⟨Nat.le_of_eq hsz.symm,hos.1,hos.2,λb hb' hn=>?_,λb o _ _=>⟨hcell b o,hhard b o⟩,λ_ _ _ h=>h,λ_ _ _ h=>Or.inl h⟩⟩
 ·rw[hheap,if_neg]
  intro hka
  subst hka
  by_cases hba:b=a
  ·subst hba
   rw[ha]at he
   obtain rfl:Ent.mem true sp ls=e:=by simpa using he
   obtain⟨_,_,f3⟩:=hf ((ρ.pos b).2+(zL ls+sp))
   simp only[if_true]at f3
   omega
  exact h.sep a b _ e ha he (λe=>hba e.symm) rfl _ (ρ.pos a).2 ⟨rfl,le_refl _,by simp only[if_true];omega⟩ (hf _)
 rw[hheap,if_neg]
 intro hk
 exact hn (ρ.pos a).2 ⟨a,_,ha,rfl,hk,le_refl _,by simp only[if_true];omega⟩
theorem aBA {Γ:Ctx} {N:Nat} {ρ:Env} {T:Tm} {M:Mm} {a:Act} {w:World} (hc:aZ N ρ T M a w) {d s t e:Nat} (hd:zG M d=none) (hk:(Γ.ty t).k= .slice e) {x:Operand} {l:List UInt8} (h:aO9 Γ.ty s e (ev T x)=some l):
  ∃w' ρ' c',l.length<=c'/\(convert s t (a.eval x)).run Γ.P w= .ok (.slice (some ⟨w.heap.size,0,none⟩) l.length c') w'/\ρ.le ρ'/\zF ρ' ((d,.mem true (c'-l.length) [(l.length,.a8 l)])::M) w'/\
   aV ρ M ρ' ((d,.mem true (c'-l.length) [(l.length,.a8 l)])::M) w w'/\zRT ρ' (.sl d 0 0 l.length c') (.slice (some ⟨w.heap.size,0,none⟩) l.length c'):=by
 unfold aO9 at h
 split at h
 ·rename_i hs
  split at h
  ·rename_i he
   split at h
   ·rename_i l' hv
    simp only[zoI]at h;subst h
    have hr:=zev hc x
    rw[hv]at hr
    have hx:a.eval x= .string ⟨l'.toArray⟩:=hr
    have us:=bS (Γ.ok (t:=s) (by rw[hs];simp)) hs
    have ut:=zus (Γ.ok (t:=t) (by rw[hk];simp)) hk
    have ue:=ia (Γ.ok (t:=e) (by rw[he];simp)) he
    have hrun:=Lib.run_convert_string_bytes (P:=Γ.P) w s t e ⟨l'.toArray⟩ us ut ue
    have hsz:(⟨l'.toArray⟩:ByteArray).size=l'.length:=by simp[ByteArray.size]
    rw[hsz]at hrun
    have hge:=grownCap_ge w l'.length 0 e
    have hbs:(Lib.bytesCells w e ⟨l'.toArray⟩).size=grownCap w l'.length 0 e:=by
     simp only[Lib.bytesCells,hsz]
     simp
     omega
    have hg:eW w (Lib.bytesWorld w e ⟨l'.toArray⟩):=⟨by rw[Lib.bytesWorld_size];omega,rfl,rfl,λb hb=>Lib.bytesWorld_at_old w e _ b hb⟩
    have hnew:=Lib.bytesWorld_at_new w e ⟨l'.toArray⟩
    obtain⟨k1,k2,k3⟩:=hc.tozF.fresh hg (by rw[Lib.bytesWorld_size];omega) (d:=d) hd (cs:=l'.map w8) (ls:=[(l'.length,.a8 l')]) (sp:=grownCap w l'.length 0 e-l'.length)
     ⟨_,[],(List.append_nil _).symm,by simp,rfl,rfl⟩ (λj v hj=>by
      have hlt:j<l'.length:=by simpa using(List.getElem?_eq_some_iff.1 hj).1
      have:=Lib.bytesWorld_cell w e ⟨l'.toArray⟩ j (by rw[hsz];exact hlt)
      rw[this]
      rw[List.getElem?_map,List.getElem?_eq_getElem hlt]at hj
      simp only[Option.map_some,zoI]at hj
      rw[<-hj]
      simp[w8,List.getD,hlt]) (λj hj=>by
      have hlt:j<grownCap w l'.length 0 e:=by simp only[List.length_map]at hj;omega
      refine⟨⟨(Lib.bytesCells w e ⟨l'.toArray⟩)[j]'(by omega),?_⟩,?_⟩
      ·simp only[World.cell?,hnew]
       simp[hbs,hlt]
      simp only[iO,hnew]
      simp[hbs])
    refine⟨_,_,_,hge,by rw[hx];exact hrun,k1,k2,k3,zR ⟨Or.inl rfl,hge,_,rfl,λ_=>?_⟩⟩
    simp[Env.addr,Env.add]
   cases h
  cases h
 cases h
theorem rR (t:TypeId) (x:Value):(newVar t x).run P w= .ok ⟨w.heap.size,0,none⟩ (w.alloc (.cells x.cells t)):=rfl
theorem x7 (hc:aZ N ρ T M a w):∀l:List Operand,iR ρ (evL T l) (l.map a.eval)
 |[]=>rfl
 |x::r=>⟨_,_,rfl,zev hc x,x7 hc r⟩
theorem jF:∀{l1 l2:List SV} {x1 x2:List Value},iR ρ l1 x1->iR ρ l2 x2->iR ρ (l1++l2) (x1++x2)
 |[],_,_,_,h1,h2=>by simp only[iR]at h1;subst h1;simpa using h2
 |_::_,_,_,_,⟨x,ys,e,h,hr⟩,h2=>⟨x,ys++_,by rw[e];rfl,h,jF hr h2⟩
theorem tX:∀{cap:List (Nat×Nat)},(∀p∈cap,ρ.dom p.1)->iR ρ (aWK cap) (cap.map λp=>Value.pointer (some (ρ.addr p.1 p.2 0)))
 |[],_=>rfl
 |(a,f)::r,h=>⟨_,_,rfl,zR ⟨h (a,f) (by simp),rfl⟩,tX λp hp=>h p (by simp[hp])⟩
def dZ (N:Nat) (ρ:Env) (M:Mm) (w:World) (K:Tm->Mm->Prop):Act->World->Prop:=
 λa' w'=>∃ρ' T' M',K T' M'/\ρ.le ρ'/\aZ N ρ' T' M' a' w'/\aV ρ M ρ' M' w w'
theorem aB2 {Γ:Cfg} {g:Nat} (h:eY g Γ.calls=true):∃fn,Γ.P.funcs[g]? =some fn∧(fn.name== "runtime.NumGoroutine")=false∧fn.body.isNone=false:=by
 have:=List.all_eq_true.1 Γ.callsOK g (zmi.1 h)
 unfold aOJ at this
 split at this
 ·rename_i fn hfn
  simp only[zbA,Bool.not_eq_true']at this
  refine⟨fn,hfn,this.1,?_⟩
  cases hb:fn.body with
  |none=>rw[hb]at this;simp at this
  |some c=>rfl
 cases this
theorem iQ {Γ:Cfg} {N:Nat} {ρ:Env} {T:Tm} {M:Mm} {a:Act} {w:World} (hc:aZ N ρ T M a w) {o:Oper} (hd:∀d,o.dst=some d->d<N)
  {ps:List Prop} {K:List Prop->SV->Mm->Prop} (hK:∀qs v M',K qs v M'->All qs) (h:bp Γ o T M ps K) {Q:Exit->Act->World->Prop}:
  o.wp Γ.P a w (dZ N ρ M w λT' M'=>∃qs v,K qs v M'/\T'=zt o.dst v T) Q:=by
 have pure:∀{op:Op} {qs v},o.op=op->fo Γ.ty T M op=some (qs,v)->K (qs++ps) v M->o.wp Γ.P a w (dZ N ρ M w λT' M'=>∃qs v,K qs v M'/\T'=zt o.dst v T) Q:=by
  intro op qs v ho hp hk
  subst ho
  obtain⟨x,hx,hr⟩:=nb hc hp (hK _ _ _ hk).left
  unfold Oper.wp
  rw[hr]
  show dZ N ρ M w _ (a.put o.dst x) w
  refine⟨ρ,zt o.dst v T,M,⟨_,v,hk,rfl⟩,Env.le_refl _,?_,aV.refl _ _ _⟩
  cases hdst:o.dst with
  |none=>exact hc.put_none x
  |some d=>exact hc.put (hd d hdst) hx
 have fresh:∀{d:Nat} {ls:List (Nat×SV)} {x:Value} {t:TypeId} {qs:List Prop},o.dst=some d->zG M d=none->zC ρ ls x.cells.toList->K qs (.ptr d 0 none) ((d,.mem true 0 ls)::M)->
   (execOp a.eval o).run Γ.P w= .ok (.value (.pointer (some ⟨w.heap.size,0,none⟩))) (w.alloc (.cells x.cells t))->o.wp Γ.P a w (dZ N ρ M w λT' M'=>∃qs v,K qs v M'/\T'=zt o.dst v T) Q:=by
  intro d ls x t qs hdst hm hcs hk hr
  obtain⟨h1,h2,h3⟩:=hc.tozF.alloc (t:=t) (sp:=0) hm hcs (λj v hj=>by simpa using hj) (by simp)
  unfold Oper.wp
  rw[hr]
  show dZ N ρ M w _ (a.put o.dst _) _
  refine⟨_,zt o.dst (.ptr d 0 none) T,_,⟨qs,_,hk,rfl⟩,h1,?_,h3⟩
  rw[hdst]
  refine(hc.of_mem h1 h2).put (hd d hdst) (zR ⟨Or.inl rfl,?_⟩)
  simp[Env.addr,Env.add]
 have made:∀{d:Nat} {x:Value} {w':World} {ρ':Env} {qs:List Prop} {v:SV} {M':Mm},o.dst=some d->(execOp a.eval o).run Γ.P w= .ok (.value x) w'->ρ.le ρ'->zF ρ' M' w'->aV ρ M ρ' M' w w'->zRT ρ' v x->K qs v M'->
   o.wp Γ.P a w (dZ N ρ M w λT' M'=>∃qs v,K qs v M'/\T'=zt o.dst v T) Q:=by
  intro d x w' ρ' qs v M' hdst hr hle hM' hst hx hk
  unfold Oper.wp
  rw[hr]
  show dZ N ρ M w _ (a.put o.dst x) w'
  refine⟨ρ',zt o.dst v T,M',⟨qs,v,hk,rfl⟩,hle,?_,hst⟩
  rw[hdst]
  exact(hc.of_mem hle hM').put (hd d hdst) hx
 have stored:∀{t:TypeId} {ad x:Operand} {b q sp:Nat} {ls l:List (Nat×SV)} {qs:List Prop},o.op= .store t ad x->o.dst=none->(Γ.ty t).k≠ .bad->zG M b=some (.mem true sp ls)->
   a.eval ad= .pointer (some ⟨(ρ.pos b).1,(ρ.pos b).2+q,none⟩)->zL l=zL ls->
   (∀cs,zC ρ ls cs->q+(Γ.ty t).size<=cs.length/\(a.eval x).cells.size=(Γ.ty t).size/\(∀z∈(a.eval x).cells.toList,one z)/\zC ρ l (cs.take q++(a.eval x).cells.toList++cs.drop (q+(Γ.ty t).size)))->
   K qs .und ((b,.mem true sp l)::M)->o.wp Γ.P a w (dZ N ρ M w λT' M'=>∃qs v,K qs v M'/\T'=zt o.dst v T) Q:=by
  intro t ad x b q sp ls l qs hop hdst hk hm hv q4 hst hkk
  obtain⟨cs,c1,c2,c3,c4⟩:=hc.sat b _ hm
  obtain⟨q1,q2,q3,q5⟩:=hst cs c1
  have hlen:=c1.length
  have hxl:(a.eval x).cells.toList.length=(Γ.ty t).size:=by simpa using q2
  have c4:=c4 rfl
  obtain⟨w',hr,hw⟩:=bw (P:=Γ.P) (b:=(ρ.pos b).1) (o:=(ρ.pos b).2+q) (a.eval x).cells.toList 0 w q3 (λj hj=>by
   have:=c4 (q+j) (by omega)
   rw[show(ρ.pos b).2+q+(0+j)=(ρ.pos b).2+(q+j) by omega]
   exact this)
  rw[Nat.add_zero]at hw
  have hrun:(execOp a.eval o).run Γ.P w= .ok .skip w':=by
   simp only[execOp,hop,Instr.storeAt,run_bind,hv,Instr.sureAddr,run_pure,andThen_ok,storeVar,aT (Γ.ok hk),q2,ne_eq,not_true,if_false]
   rw[hr];rfl
  obtain⟨m1,m2⟩:=hc.tozF.write (sp':=sp) hm hw (by omega) q5 (by omega) (λcs' d1 d2 j v hj=>by
   have e0:cs'=cs\/True:=Or.inr trivial
   have hl':=d1.length
   have hin:∀j,¬(q<=j/\j<q+(Γ.ty t).size)->w'.cell? ⟨(ρ.pos b).1,(ρ.pos b).2+j,none⟩=w.cell? ⟨(ρ.pos b).1,(ρ.pos b).2+j,none⟩:=by
    intro j hn
    refine hw.old _ _ (λ_=>?_)
    omega
   rcases Nat.lt_or_ge j q with hlt|hge
   ·rw[List.append_assoc,List.getElem?_append_left (by rw[zlT];omega),List.getElem?_take,if_pos hlt]at hj
    rw[hin j (by omega)];exact c3 j v hj
   rcases Nat.lt_or_ge j (q+(Γ.ty t).size)with hlt2|hge2
   ·rw[List.append_assoc,List.getElem?_append_right (by rw[zlT];omega),List.getElem?_append_left (by rw[zlT];omega),zlT,Nat.min_eq_left (by omega)]at hj
    have:=hw.new (j-q) v hj
    rw[show(ρ.pos b).2+q+(j-q)=(ρ.pos b).2+j by omega]at this
    exact this
   rw[List.getElem?_append_right (by simp only[zlA,zlT];omega),List.getElem?_drop]at hj
   simp only[zlA,zlT,hxl]at hj
   rw[show q+(Γ.ty t).size+(j-(min q cs.length+(Γ.ty t).size))=j by omega]at hj
   rw[hin j (by omega)];exact c3 j v hj)
  unfold Oper.wp
  rw[hrun]
  show dZ N ρ M w _ (a.put o.dst undef) w'
  rw[hdst]
  exact⟨ρ,T,_,⟨_,.und,hkk,rfl⟩,Env.le_refl _,(hc.of_mem (Env.le_refl _) m1).put_none _,m2⟩
 unfold bp at h
 split at h
 ·-- alloc
  rename_i t hop
  split at h
  ·rename_i d hdst
   split at h
   ·rename_i hm
    split at h
    ·exact h.elim
    rename_i hk
    split at h
    ·exact h.elim
    rename_i hz
    obtain⟨z,hz1,hz2,hz3,_⟩:=kf (w:=w) (Γ.ok hk) hz
    refine fresh hdst hm (x:=z) (t:=t) (by rw[hz2];exact zzc ρ hz3) h ?_
    simp only[execOp,hop,Instr.alloc,run_bind,hz1,andThen_ok,rR,run_pure]
   exact h.elim
  exact h.elim
 ·-- box
  rename_i t x hop
  split at h
  ·rename_i d hdst
   split at h
   ·rename_i hm
    split at h
    ·rename_i ps ls hl
     refine fresh hdst hm (x:=a.eval x) (t:=t) (b9 (zev hc x) hl (hK _ _ _ h).left) h ?_
     simp only[execOp,hop,Instr.box,run_bind,andThen_ok,rR,run_pure]
    exact h.elim
   exact h.elim
  exact h.elim
 ·-- store
  rename_i t ad x hop
  split at h
  ·rename_i hdst
   split at h
   ·rename_i b f i he
    split at h
    ·rename_i sp ls hm
     split at h
     ·exact h.elim
     rename_i hk
     split at h
     ·rename_i ps l hs
      have hr:=zev hc ad
      rw[he]at hr
      obtain⟨_,hv⟩:=hr
      obtain⟨cs,c1,_⟩:=hc.sat b _ hm
      obtain⟨_,_,_,q4,_⟩:=fl c1 (zev hc x) hs (hK _ _ _ h).left
      refine stored (q:=f+i.getD 0) hop hdst hk hm (by rw[hv,aN]) q4 (λcs hcs=>?_) h
      obtain⟨q1,q2,q3,_,q5⟩:=fl hcs (zev hc x) hs (hK _ _ _ h).left
      exact⟨q1,q2,q3,q5⟩
     exact h.elim
    exact h.elim
   ·rename_i b f q s he
    split at h
    ·rename_i sp ls hm
     split at h
     ·exact h.elim
     rename_i hk
     split at h
     ·rename_i ps l hs
      have hr:=zev hc ad
      rw[he]at hr
      obtain⟨_,hv⟩:=hr
      obtain⟨cs,c1,_⟩:=hc.sat b _ hm
      obtain⟨_,_,_,q4,_⟩:=nU c1 (zev hc x) hs (hK _ _ _ h).left
      refine stored (q:=f+q*s) hop hdst hk hm (by rw[hv,aN]) q4 (λcs hcs=>?_) h
      obtain⟨q1,q2,q3,_,q5⟩:=nU hcs (zev hc x) hs (hK _ _ _ h).left
      exact⟨q1,q2,q3,q5⟩
     exact h.elim
    exact h.elim
   exact h.elim
  exact h.elim
 ·-- make
  rename_i t l c hop
  split at h
  ·rename_i d hdst
   split at h
   ·rename_i hm
    split at h
    ·rename_i qs e v hv
     obtain⟨x,w',ρ',h1,h2,h3,h4,h5⟩:=xY (Γ:=Γ.toCtx) hc hm hv (hK _ _ _ h).left
     exact made hdst (by simp only[execOp,hop,run_bind,h1,andThen_ok,run_pure]) h2 h3 h4 h5 h
    exact h.elim
   exact h.elim
  exact h.elim
 ·-- a slice that is written out
  rename_i t len parts hop
  rcases bm h with⟨hn,h⟩|⟨_,h⟩
  ·split at h
   ·rename_i d hdst
    split at h
    ·rename_i hm
     split at h
     ·rename_i qs e v hv
      obtain⟨x,w',ρ',h1,h2,h3,h4,h5⟩:=aIM (Γ:=Γ.toCtx) hc hm hv (hK _ _ _ h).left (λh0=>by
       subst h0
       unfold xP at hn
       split at hn
       ·rename_i hp0;split at hn
        ·assumption
        cases hn
       rename_i hne;exact absurd rfl hne)
      refine made hdst ?_ h2 h3 h4 h5 h
      have:parts.map (λ(p:Nat×Operand)=>(p.1,a.eval p.2))=(parts.toList.map λ(p:Nat×Operand)=>(p.1,a.eval p.2)).toArray:=by
       apply ext';simp
      simp only[execOp,hop,run_bind,this,h1,andThen_ok,run_pure]
     exact h.elim
    exact h.elim
   exact h.elim
  exact h.elim
 ·-- a map
  rename_i t r hop
  split at h
  ·split at h
   ·rename_i d hdst
    split at h
    ·rename_i hm
     obtain⟨h1,h2,h3⟩:=hc.tozF.allocMap hm
     refine made (x:=.map (some w.heap.size)) hdst ?_ h1 h2 h3 (zR (v:=.mp d) ⟨Or.inl rfl,?_⟩) h
     ·simp only[execOp,hop,Option.map_none,Instr.makeMap,run_bind,run_pure,andThen_ok]
      rfl
     simp[Env.add]
    exact h.elim
   exact h.elim
  exact h.elim
 ·-- a string's number is laid into a map
  rename_i t x k v hop
  split at h
  ·rename_i hdst
   split at h
   ·rename_i qs b l hv
    obtain⟨w',h1,h2,h3⟩:=aBM (Γ:=Γ.toCtx) hc hv (hK _ _ _ h).left
    unfold Oper.wp
    have hrun:(execOp a.eval o).run Γ.P w= .ok .skip w':=by
     simp only[execOp,hop,run_bind,h1,andThen_ok,run_pure]
    rw[hrun]
    show dZ N ρ M w _ (a.put o.dst undef) w'
    rw[hdst]
    exact⟨ρ,T,_,⟨_,.und,h,rfl⟩,Env.le_refl _,(hc.of_mem (Env.le_refl _) h2).put_none _,h3⟩
   exact h.elim
  exact h.elim
 ·-- convert
  rename_i s t x hop
  split at h
  ·rename_i e hk
   split at h
   ·rename_i e0 hk0
    split at h
    ·rename_i v' hv'
     obtain⟨b,f,i,n,c,sp,ls,hx,rfl,hm,hst,hke,hn0,hpos⟩:=uw hv'
     subst hst
     have hr:=zev hc x
     rw[hx]at hr
     obtain⟨hdom,hnc,y,hv,hy⟩:=hr
     have hy:=hy (by omega)
     subst hy
     have us:=zus (Γ.ok (t:=s) (by rw[hk];simp)) hk
     have ue:=ia (Γ.ok (t:=e) (by rw[hke];simp)) hke
     obtain⟨w',h1,h2,h3⟩:=aB4 hc.tozF hm hpos ((ρ.pos b).2+(f+i)) (n:=n) (c:=c) us ue
     have hrun:(execOp a.eval o).run Γ.P w= .ok (.value (.slice (some (ρ.addr b f i)) n c)) w':=by
      simp only[execOp,hop,run_bind,hv]
      have:(convert s s (.slice (some (ρ.addr b f i)) n c)).run Γ.P w= .ok (.slice (some (ρ.addr b f i)) n c) w':=h1
      rw[this]
      simp only[andThen_ok,run_pure]
     unfold Oper.wp
     rw[hrun]
     show dZ N ρ M w _ (a.put o.dst _) w'
     refine⟨ρ,zt o.dst (.sl b f i n c) T,M,⟨_,_,h,rfl⟩,Env.le_refl _,?_,h3⟩
     have hx':zRT ρ (.sl b f i n c) (.slice (some (ρ.addr b f i)) n c):=zR ⟨hdom,hnc,_,rfl,λ_=>rfl⟩
     cases hdst:o.dst with
     |none=>exact(hc.of_mem (Env.le_refl _) h2).put_none _
     |some d=>exact(hc.of_mem (Env.le_refl _) h2).put (hd d hdst) hx'
    exact h.elim
   split at h
   ·rename_i d hdst
    split at h
    ·rename_i hm
     split at h
     ·rename_i l hl
      obtain⟨w',ρ',c',hn,h1,h2,h3,h4,h5⟩:=aBA (Γ:=Γ.toCtx) hc hm hk hl
      exact made hdst (by simp only[execOp,hop,run_bind,h1,andThen_ok,run_pure]) h2 h3 h4 h5 (h c' hn)
     exact h.elim
    exact h.elim
   exact h.elim
  split at h
  ·rename_i qs v hv
   exact pure rfl hv h
  exact h.elim
 ·-- call
  rename_i c hop
  split at h
  ·rename_i f hcal
   split at h
   ·rename_i g cap he
    have hr:=zev hc f
    rw[he]at hr
    obtain⟨hcap,hv⟩:=hr
    cases hmem:eY g Γ.calls with
    |false=>
     rw[hmem,zcF]at h
     split at h
     ·rename_i qs v hv'
      have hargs:=jF (x7 hc c.args.toList) (tX hcap)
      obtain⟨x,hx,hrun⟩:=aCG hv' (hK _ _ _ h).left hargs w
      have hex:(execOp a.eval o).run Γ.P w= .ok (.value x) w:=by
       have e1:c.args.map a.eval++(cap.map λp=>Value.pointer (some (ρ.addr p.1 p.2 0))).toArray=((c.args.toList.map a.eval)++(cap.map λp=>Value.pointer (some (ρ.addr p.1 p.2 0)))).toArray:=by
        apply ext';simp
       simp only[execOp,hop,resolve,hcal,hv,Deferred.ofValue,run_bind,run_pure,andThen_ok,invoke]
       simp only[Array.empty_append,e1]
       exact hrun
      unfold Oper.wp
      rw[hex]
      show dZ N ρ M w _ (a.put o.dst x) w
      refine⟨ρ,zt o.dst v T,M,⟨_,v,h,rfl⟩,Env.le_refl _,?_,aV.refl _ _ _⟩
      cases hdst:o.dst with
      |none=>exact hc.put_none x
      |some d=>exact hc.put (hd d hdst) hx
     exact h.elim
    |true=>
     rw[hmem,zcT]at h
     obtain⟨fn,hfn,hname,hbody⟩:=aB2 hmem
     have hargs:=jF (x7 hc c.args.toList) (tX hcap)
     have hcall:=yG hc.tozF hargs (zwP.rest h).out
     have hrun:(execOp a.eval o).run Γ.P w= .ok (.enter g ((c.args.toList.map a.eval)++(cap.map λp=>Value.pointer (some (ρ.addr p.1 p.2 0)))).toArray) w:=by
      have e1:c.args.map a.eval=(c.args.toList.map a.eval).toArray:=by apply ext';simp
      simp only[execOp,hop,resolve,hcal,hv,Deferred.ofValue,run_bind,run_pure,andThen_ok,invoke,callFunc,run_program,hfn,hname,hbody,Bool.false_eq_true,if_false]
      congr 2
      rw[e1];simp
     unfold Oper.wp
     rw[hrun]
     show Calls Γ.P g _ w _
     refine hcall.mono ?_
     rintro e w' ⟨v,x,ρ',M',rfl,hx,hk,hle,hM',hst⟩
     show dZ N ρ M w _ (a.put o.dst x) w'
     refine⟨ρ',zt o.dst v T,M',⟨[],v,by rw[gm]at hk;exact hk,rfl⟩,hle,?_,hst⟩
     cases hdst:o.dst with
     |none=>exact(hc.of_mem hle hM').put_none x
     |some d=>exact(hc.of_mem hle hM').put (hd d hdst) hx
   exact h.elim
  ·rename_i b hcal
   split at h
   ·rename_i hb
    split at h
    ·rename_i qs m b' E he
     have hbc:b= .copy:=by cases b<;>first|rfl|cases hb
     subst hbc
     obtain⟨w',hrun,hM',hst⟩:=yD (Γ:=Γ.toCtx) hc he (hK _ _ _ h).left o.type
     have hex:(execOp a.eval o).run Γ.P w= .ok (.value (.int .i64 (m:Int))) w':=by
      simp only[execOp,hop,resolve,hcal,run_bind,run_pure,andThen_ok,invoke]
      exact hrun
     unfold Oper.wp
     rw[hex]
     show dZ N ρ M w _ (a.put o.dst _) w'
     refine⟨ρ,zt o.dst (.i .i64 (m:Int)) T,_,⟨_,_,h,rfl⟩,Env.le_refl _,?_,hst⟩
     have hc':=hc.of_mem (Env.le_refl _) hM'
     cases hdst:o.dst with
     |none=>exact hc'.put_none _
     |some d=>exact hc'.put (hd d hdst) (zR rfl)
    exact h.elim
   split at h
   ·rename_i hb
    split at h
    ·rename_i d hdst
     split at h
     ·rename_i hm
      split at h
      ·rename_i qs n es leaf k M' hap
       split at h
       ·rename_i hm'
        have hba:b= .append:=by cases b<;>first|rfl|cases hb
        subst hba
        have go:(∀c',n<=c'->K (qs++ps) (.sl d 0 0 n c') ((d,.mem true (zmE (c'-n) es) [(zmE n es,leaf)])::xn k M'))->o.wp Γ.P a w (dZ N ρ M w λT' M'=>∃qs v,K qs v M'/\T'=zt o.dst v T) Q:=by
         intro h
         obtain⟨x,w',ρ',c',h1,hn,h2,h3,h4,h5⟩:=aC3 (Γ:=Γ.toCtx) hc hm hap (hK _ _ _ (h n (le_refl _))).left hm' o.type
         exact made hdst (by
          simp only[execOp,hop,resolve,hcal,run_bind,run_pure,andThen_ok,invoke]
          show(Builtin.append_ c.argTypes o.type (c.args.map a.eval)>>=λv=>Pure.pure (Next.value v):Sem Next).run Γ.P w=_
          simp only[run_bind,h1,andThen_ok,run_pure]) h2 h3 h4 h5 (h c' hn)
        split at h
        ·exact go h
        rename_i qe m v Me he
        by_cases h0:0<m
        ·exact go (h.yes h0)
        have h:=h.no h0
        obtain⟨x,ρ',h1,h2,h3,h4,h5⟩:=aC5 (Γ:=Γ.toCtx) hc he (hK _ _ _ h).left (by omega) o.type
        exact made hdst (by
         simp only[execOp,hop,resolve,hcal,run_bind,run_pure,andThen_ok,invoke]
         show(Builtin.append_ c.argTypes o.type (c.args.map a.eval)>>=λv=>Pure.pure (Next.value v):Sem Next).run Γ.P w=_
         simp only[run_bind,h1,andThen_ok,run_pure]) h2 h3 h4 h5 h
       exact h.elim
      split at h
      ·rename_i qs n cp b2 E M' hap
       have hba:b= .append:=by cases b<;>first|rfl|cases hb
       subst hba
       obtain⟨x,w',ρ',h1,h2,h3,h4,h5⟩:=aC4 (Γ:=Γ.toCtx) hc hap (hK _ _ _ h).left o.type
       exact made hdst (by
        simp only[execOp,hop,resolve,hcal,run_bind,run_pure,andThen_ok,invoke]
        show(Builtin.append_ c.argTypes o.type (c.args.map a.eval)>>=λv=>Pure.pure (Next.value v):Sem Next).run Γ.P w=_
        simp only[run_bind,h1,andThen_ok,run_pure]) h2 h3 h4 h5 h
      exact h.elim
     exact h.elim
    exact h.elim
   split at h
   ·rename_i ps v hp
    exact pure rfl hp h
   split at h
   ·rename_i hb
    split at h
    ·rename_i hdst
     split at h
     ·rename_i qs a' E he
      have hbc:b= .clear:=by cases b<;>first|rfl|cases hb
      subst hbc
      obtain⟨w',hrun,hM',hst⟩:=vh (Γ:=Γ.toCtx) hc he (hK _ _ _ h).left o.type
      have hex:(execOp a.eval o).run Γ.P w= .ok (.value (.tuple #[])) w':=by
       simp only[execOp,hop,resolve,hcal,run_bind,run_pure,andThen_ok,invoke]
       show(Builtin.clear_ c.argTypes o.type (c.args.map a.eval)>>=λv=>Pure.pure (Next.value v):Sem Next).run Γ.P w=_
       simp only[run_bind,hrun,andThen_ok,run_pure]
      unfold Oper.wp
      rw[hex]
      show dZ N ρ M w _ (a.put o.dst _) w'
      refine⟨ρ,zt o.dst .und T,_,⟨_,_,h,rfl⟩,Env.le_refl _,?_,hst⟩
      have hc':=hc.of_mem (Env.le_refl _) hM'
      rw[hdst];exact hc'.put_none _
     exact h.elim
    exact h.elim
   exact h.elim
  exact h.elim
 split at h
 ·rename_i ps v hp
  exact pure rfl hp h
 split at h
 ·rename_i n hn
  obtain⟨b,hb,hr⟩:=aB0 (Γ:=Γ.toCtx) hc rfl hn
  have hk:=h (b=true) (λh0 hb'=>by rw[hb h0]at hb';cases hb')
  unfold Oper.wp
  rw[hr]
  show dZ N ρ M w _ (a.put o.dst (.bool b)) w
  refine⟨ρ,zt o.dst (.bool (b=true)) T,M,⟨_,_,hk,rfl⟩,Env.le_refl _,?_,aV.refl _ _ _⟩
  have hx:zRT ρ (.bool (b=true)) (.bool b):=zR ⟨b,rfl,Iff.rfl⟩
  cases hdst:o.dst with
  |none=>exact hc.put_none _
  |some d=>exact hc.put (hd d hdst) hx
 exact h.elim
theorem aH3 (hK:∀qs v M',K qs v M'->All qs) (h:bp Γ o T M ps K):All ps:=by
 unfold bp at h
 split at h
 ·repeat' (first|exact h.elim|exact hK _ _ _ h|split at h)
 ·repeat' (first|exact h.elim|exact(hK _ _ _ h).right|split at h)
 ·repeat' (first|exact h.elim|exact(hK _ _ _ h).right|split at h)
 ·repeat' (first|exact h.elim|exact(hK _ _ _ h).right|split at h)
 ·rcases bm h with⟨_,h⟩|⟨_,h⟩
  ·repeat' (first|exact h.elim|exact(hK _ _ _ h).right|split at h)
  exact h.elim
 ·repeat' (first|exact h.elim|exact hK _ _ _ h|split at h)
 ·repeat' (first|exact h.elim|exact(hK _ _ _ h).right|split at h)
 ·split at h
  ·split at h
   ·split at h
    ·exact hK _ _ _ h
    exact h.elim
   split at h
   ·split at h
    ·split at h
     ·exact hK _ _ _ (h _ (le_refl _))
     exact h.elim
    exact h.elim
   exact h.elim
  split at h
  ·exact(hK _ _ _ h).right
  exact h.elim
 ·split at h
  ·split at h
   ·rename_i g cap _
    cases hm:eY g Γ.calls with
    |false=>
     rw[hm,zcF]at h
     split at h
     ·exact(hK _ _ _ h).right
     exact h.elim
    |true=>rw[hm]at h;exact zwP.all h
   exact h.elim
  ·split at h
   ·split at h
    ·exact(hK _ _ _ h).right
    exact h.elim
   split at h
   ·split at h
    ·split at h
     ·split at h
      ·split at h
       ·split at h
        ·exact(hK _ _ _ (h _ (le_refl _))).right
        rename_i m _ _ _
        by_cases h0:0<m
        ·exact(hK _ _ _ (h.yes h0 _ (le_refl _))).right
        exact(hK _ _ _ (h.no h0)).right
       exact h.elim
      split at h
      ·exact(hK _ _ _ h).right
      exact h.elim
     exact h.elim
    exact h.elim
   split at h
   ·exact(hK _ _ _ h).right
   split at h
   ·split at h
    ·split at h
     ·exact(hK _ _ _ h).right
     exact h.elim
    exact h.elim
   exact h.elim
  exact h.elim
 split at h
 ·exact(hK _ _ _ h).right
 split at h
 ·exact hK _ _ _ (h False (λ_=>id))
 exact h.elim
theorem gc:∀{l:List Oper} {T:Tm} {M:Mm} {ps:List Prop},jh Γ all l T M ps K->All ps
 |[],_,_,_,h=>zwP.all h
 |o::r,T,M,ps,h=>by
  unfold jh aEH at h
  have e:∀{T':Tm} {qs:List Prop},(bp Γ o T' M qs λqs v M'=>zfP qs λqs=>zfV v λv=>jh Γ all r (zt o.dst v T') M' qs K)->All qs:=
   λh=>aH3 (λqs v M' hk=>gc (by rw[cv,i8]at hk;exact hk)) h
  split at h
  ·exact e h
  split at h
  ·exact h.elim
  split at h
  ·split at h
   ·exact e h
   exact gc h
  ·split at h
   ·exact e h
   exact gc h
  ·split at h
   ·exact zwP.all h
   exact zwP.all h
  ·exact gc h
  exact h.elim
theorem rG (hc:aZ N ρ T M a w) (hd:zgS all j=some d) (hN:d<N)
  (hv:a.tmps.getD d undef= .bool b):yielded all.toArray a.tmps j=some b:=by
 unfold zgS at hd
 unfold yielded
 split at hd
 ·rename_i o ho
  have h1:all.toArray[j]? =some o:=by simpa using ho
  have h2:a.tmps[d]? =some (.bool b):=by
   have:d<a.tmps.size:=by rw[hc.sz];exact hN
   rw[getD_eq_getD_getElem?,Array.getElem?_eq_getElem this]at hv
   rw[Array.getElem?_eq_getElem this]
   simpa using hv
  simp only[h1,Option.bind_some,hd,h2]
 cases hd
theorem rI (hg:o.guard=some (j,want)) (hd:zgS all j=some d) (hv:tmps.getD d undef= .tuple #[]):Region.wanted o (yielded all.toArray tmps)=false:=by
 have:yielded all.toArray tmps j=none:=by
  unfold zgS at hd
  unfold yielded
  split at hd
  ·rename_i o' ho
   have h1:all.toArray[j]? =some o':=by simpa using ho
   simp only[h1,Option.bind_some,hd]
   rw[getD_eq_getD_getElem?]at hv
   cases hx:tmps[d]? with
   |none=>rfl
   |some x=>rw[hx,Option.getD_some]at hv;subst hv;rfl
  cases hd
 simp[Region.wanted,hg,this]
theorem aZ.know (hc:aZ N ρ T M a w) (h:zRT ρ v (a.tmps.getD d undef)):aZ N ρ ((d,v)::T) M a w where
 tozF:=hc.tozF
 sz:=hc.sz
 defers:=hc.defers
 tm e:=by
  by_cases he:e=d
  ·subst he;rw[aK];exact h
  rw[aS he];exact hc.tm e
def iX (N:Nat):List Oper->Bool
 |[]=>true
 |o::r=>(match o.dst with
  |some d=>blt d N
  |none=>true)&&iX N r
theorem eN:∀{l:List Oper},iX N l=true->∀{o:Oper},o∈l->∀d,o.dst=some d->d<N
 |[],_,_,h,_,_=>by simp at h
 |o'::r,hn,o,h,d,hd=>by
  simp only[iX,zbA]at hn
  rcases List.mem_cons.1 h with rfl|h
  ·rw[hd]at hn;exact ay hn.1
  exact eN hn.2 h d hd
theorem dZ.mono (hk:∀T M,K T M->K' T M) (h:dZ N ρ M w K a w'):dZ N ρ M w K' a w':=by
 obtain⟨ρ',T',M',h1,h2⟩:=h
 exact⟨ρ',T',M',hk _ _ h1,h2⟩
theorem dZ.trans (hle:ρ.le ρ1) (hst:aV ρ M ρ1 M1 w w1) (h:dZ N ρ1 M1 w1 K a w'):dZ N ρ M w K a w':=by
 obtain⟨ρ',T',M',h1,h2,h3,h4⟩:=h
 exact⟨ρ',T',M',h1,Env.le_trans hle h2,h3,hst.trans h4⟩
theorem fm {Γ:Cfg} {N:Nat} {all:List Oper} (hall:iX N all=true) {K:Tm->Mm->Prop} {Q:Exit->Act->World->Prop}:∀(l:List Oper),(∀o∈l,o∈all)->
  ∀{ρ:Env} {T:Tm} {M:Mm} {a:Act} {w:World} {ps:List Prop},aZ N ρ T M a w->jh Γ all l T M ps K->(∀a' w',dZ N ρ M w K a' w'->Q .normal a' w')->wpList Γ.P all.toArray Q l a w
 |[],_,ρ,T,M,a,w,ps,hc,h,hQ=>hQ a w ⟨ρ,T,M,zwP.rest h,Env.le_refl _,hc,aV.refl _ _ _⟩
 |o::r,hin,ρ,T,M,a,w,ps,hc,h,hQ=>by
  have hmem:=hin o (by simp)
  have hdst:=eN hall hmem
  have ih:=@fm Γ N all hall K Q r (λo ho=>hin o (by simp[ho]))
  have go:∀{T':Tm} {qs:List Prop},aZ N ρ T' M a w->Region.wanted o (yielded all.toArray a.tmps)=true->(bp Γ o T' M qs λqs v M'=>zfP qs λqs=>zfV v λv=>jh Γ all r (zt o.dst v T') M' qs K)->wpList Γ.P all.toArray Q (o::r) a w:=by
   intro T' qs hc' hw he
   refine wpList_step λK' hK'=>?_
   rw[if_pos hw]
   have:=iQ hc' hdst (λqs v M' hk=>gc (by rw[cv,i8]at hk;exact hk)) he (Q:=Q)
   refine Oper.wp_mono (λa' w' haf=>hK' a' w' ?_) this
   obtain⟨ρ',T'',M',⟨qs',v,hk,rfl⟩,hle,hc'',hst⟩:=haf
   rw[cv,i8]at hk
   exact ih hc'' hk λa2 w2 h2=>hQ a2 w2 (h2.trans hle hst)
  have skip:∀{T':Tm} {qs:List Prop},aZ N ρ T' M a w->Region.wanted o (yielded all.toArray a.tmps)=false->jh Γ all r (zt o.dst (.tup []) T') M qs K->wpList Γ.P all.toArray Q (o::r) a w:=by
   intro T' qs hc' hw he
   refine wpList_step λK' hK'=>?_
   rw[if_neg (by rw[hw];simp)]
   refine hK' _ _ (ih (ρ:=ρ) (T:=zt o.dst (.tup []) T') ?_ he hQ)
   cases hd:o.dst with
   |none=>exact hc'.put_none _
   |some d=>exact hc'.put (hdst d hd) ⟨[],rfl,rfl⟩
  unfold jh aEH at h
  split at h
  ·rename_i hg
   exact go hc (by simp[Region.wanted,hg]) h
  rename_i j want hg
  split at h
  ·exact h.elim
  rename_i d hd
  have hdN:d<N:=by
   unfold zgS at hd
   split at hd
   ·rename_i o' ho'
    exact eN hall (List.mem_of_getElem? ho') d hd
   cases hd
  have hw:∀{b:Bool},a.tmps.getD d undef= .bool b->Region.wanted o (yielded all.toArray a.tmps)=(b==want):=by
   intro b hb
   have:=rG hc hd hdN hb
   simp only[Region.wanted,hg,this]
   cases b<;>cases want<;>rfl
  have hT:=hc.tm d
  split at h
  ·rename_i he;rw[he]at hT
   have hb:a.tmps.getD d undef= .bool true:=hT
   split at h
   ·exact go hc (by rw[hw hb];rfl) h
   exact skip hc (by rw[hw hb];rfl) h
  ·rename_i he;rw[he]at hT
   have hb:a.tmps.getD d undef= .bool false:=hT
   split at h
   ·exact go hc (by rw[hw hb];rfl) h
   exact skip hc (by rw[hw hb];rfl) h
  ·rename_i p he;rw[he]at hT
   obtain⟨b,hb,hbp⟩:=hT
   split at h
   ·have h:=zwP.rest h
    cases b with
    |true=>exact go (hc.know (v:=.tt) (zR hb)) (by rw[hw hb];rfl) (h.yes (hbp.1 rfl))
    |false=>exact skip (hc.know (v:=.ff) (zR hb)) (by rw[hw hb];rfl) (h.no λhp=>by have:=hbp.2 hp;cases this)
   have h:=zwP.rest h
   cases b with
   |true=>exact skip (hc.know (v:=.tt) (zR hb)) (by rw[hw hb];rfl) (h.yes (hbp.1 rfl))
   |false=>exact go (hc.know (v:=.ff) (zR hb)) (by rw[hw hb];rfl) (h.no λhp=>by have:=hbp.2 hp;cases this)
  ·rename_i he;rw[he]at hT
   exact skip hc (rI hg hd (hT.elim λxs hx=>by have h1:=hx.1;have h2:=hx.2;simp only[nM]at h1;subst h1;exact h2)) h
  exact h.elim
inductive Gh where
 |own (nm:Nat) (l0:List (Nat×SV))
 |leaf (a k nm:Nat)
 |keep (a:Nat)
 |ice (a k:Nat)
 |mark (a:Nat)
def qy (nm:Nat):Nat->List (Nat×SV)->Option (List (Nat×SV))
 |_,[]=>none
 |0,(s,v)::r=>match v with
  | .nsl=>some ((s,.sl nm 0 0 0 0)::r)
  |_=>none
 |k+1,x::r=>match qy nm k r with
  |some q=>some (x::q)
  |none=>none
def aSD (M:Mm) (a f i n:Nat):Option SV:=
 match zG M a with
 |some (.mem false (_+1) ls)=>(match aQP ls f (i+n)with
  |some l0=>ck i n l0
  |none=>match f with
   |0=>ck i n ls
   |_=>none)
 |_=>none
def aUC (M:Mm) (v:SV):Option SV:=
 match v with
 | .ptr a f i=>match zG M a with
  |some (.mem false (_+1) ls)=>some (.iep f (i.getD 0) 1 ls)
  |_=>none
 | .sl a f i n _=>aSD M a f i n
 | .slx a f i n=>aSD M a f i n
 |_=>none
def u9 (M:Mm) (ls:List (Nat×SV)):List (Nat×SV):=
 match ls with
 |[]=>[]
 |(s,v)::r=>match aUC M v with
  |some v'=>(s,v')::u9 M r
  |none=>(s,v)::u9 M r
def aX3 (M:Mm) (v:SV):Option SV:=
 match v with
 | .agg ls=>some (.agg (u9 M ls))
 |v=>aUC M v
theorem aAB (h:aSD M a f i n=some v'):∃q s l2,v'= .isl q n s l2:=by
 have key:∀{ls:List (Nat×SV)},ck i n ls=some v'->∃q s l2,v'= .isl q n s l2:=by
  intro ls hk
  unfold ck at hk
  split at hk
  ·simp only[zoI]at hk;subst hk;exact⟨_,_,_,rfl⟩
  split at hk
  ·simp only[zoI]at hk;subst hk;exact⟨_,_,_,rfl⟩
  cases hk
 unfold aSD at h
 split at h
 ·split at h
  ·exact key h
  split at h
  ·exact key h
  cases h
 cases h
theorem rr (hM:zF ρ M w) (h:aSD M a f i n=some v'):
  ∃ρ',ρ.le ρ'/\zF ρ' M w/\aV ρ M ρ' M w w/\∀c y,n<=c->(c≠0->y=some (ρ.addr a f i))->cg ρ' v' (.slice y n c):=by
 unfold aSD at h
 split at h
 ·rename_i sp ls ha
  obtain⟨cs,_,c2,_,_⟩:=hM.sat a _ ha
  have hi:=c2.2 rfl (Nat.succ_ne_zero _)
  split at h
  ·rename_i l0 hm
   obtain⟨r,m1,m2⟩:=iw hm
   obtain⟨ρ2,p1,p2,p3,p4,p5⟩:=hM.part hi m1 m2
   exact⟨ρ2,p1,p2,p3,λc y hnc hy=>bU h p4 hnc λhc=>by rw[hy hc,aN,Nat.add_assoc]⟩
  split at h
  ·exact⟨ρ,Env.le_refl _,hM,aV.refl _ _ _,λc y hnc hy=>bU h hi hnc λhc=>by rw[hy hc,aN,Nat.zero_add]⟩
  cases h
 cases h
theorem my (hM:zF ρ M w) (h:aUC M v=some v'):
  ∃ρ',ρ.le ρ'/\zF ρ' M w/\aV ρ M ρ' M w w/\(∀x,zRT ρ v x->zRT ρ' v' x)/\∀c,zD ρ v c->zD ρ' v' c:=by
 unfold aUC at h
 split at h
 ·rename_i a f i
  split at h
  ·rename_i sp ls ha
   simp only[zoI]at h;subst h
   obtain⟨cs,_,c2,_,_⟩:=hM.sat a _ ha
   have key:∀x,cg ρ (.ptr a f i) x->cg ρ (.iep f (i.getD 0) 1 ls) x:=by
    rintro x ⟨_,rfl⟩
    refine⟨_,_,?_,c2.2 rfl (Nat.succ_ne_zero _)⟩
    rw[aN,Nat.mul_one]
   exact⟨ρ,Env.le_refl _,hM,aV.refl _ _ _,λx hx=>key x hx,λc ⟨x,hx,e⟩=>⟨x,key x hx,e⟩⟩
  cases h
 ·rename_i a f i n c0
  obtain⟨ρ',k1,k2,k3,k4⟩:=rr hM h
  obtain⟨q,s,l2,rfl⟩:=aAB h
  have key:∀x,cg ρ (.sl a f i n c0) x->cg ρ' (.isl q n s l2) x:=by
   rintro x ⟨_,hnc,y,rfl,hy⟩
   exact k4 _ _ hnc hy
  exact⟨ρ',k1,k2,k3,λx hx=>key x hx,λc ⟨x,hx,e⟩=>⟨x,key x hx,e⟩⟩
 ·rename_i a f i n
  obtain⟨ρ',k1,k2,k3,k4⟩:=rr hM h
  obtain⟨q,s,l2,rfl⟩:=aAB h
  have key:∀x,cg ρ (.slx a f i n) x->cg ρ' (.isl q n s l2) x:=by
   rintro x ⟨_,c,y,hnc,rfl,hy⟩
   exact k4 _ _ hnc hy
  exact⟨ρ',k1,k2,k3,λx hx=>key x hx,λc ⟨x,hx,e⟩=>⟨x,key x hx,e⟩⟩
 cases h
theorem i7:∀{ls:List (Nat×SV)} {ρ:Env},zF ρ M w->∃ρ',ρ.le ρ'/\zF ρ' M w/\aV ρ M ρ' M w w/\∀cs,zC ρ ls cs->zC ρ' (u9 M ls) cs
 |[],ρ,hM=>⟨ρ,Env.le_refl _,hM,aV.refl _ _ _,λcs h=>h⟩
 |(s,v)::r,ρ,hM=>by
  simp only[u9]
  split
  ·rename_i v' hv
   obtain⟨ρ1,k1,k2,k3,_,k5⟩:=my hM hv
   obtain⟨ρ2,l1,l2,l3,l4⟩:=i7 (ls:=r) k2
   exact⟨ρ2,Env.le_trans k1 l1,l2,k3.trans l3,λcs ⟨c1,c2,e,hl,h1,h2⟩=>⟨c1,c2,e,hl,(k5 _ h1).le l1,l4 _ (h2.le k1)⟩⟩
  obtain⟨ρ2,l1,l2,l3,l4⟩:=i7 (ls:=r) hM
  exact⟨ρ2,l1,l2,l3,λcs ⟨c1,c2,e,hl,h1,h2⟩=>⟨c1,c2,e,hl,h1.le l1,l4 _ h2⟩⟩
theorem aCB (hM:zF ρ M w) (h:aX3 M v=some v'):
  ∃ρ',ρ.le ρ'/\zF ρ' M w/\aV ρ M ρ' M w w/\∀x,zRT ρ v x->zRT ρ' v' x:=by
 unfold aX3 at h
 split at h
 ·rename_i ls
  simp only[zoI]at h;subst h
  obtain⟨ρ2,l1,l2,l3,l4⟩:=i7 (ls:=ls) hM
  exact⟨ρ2,l1,l2,l3,λx ⟨cs,hc,e⟩=>⟨cs,l4 _ hc,e⟩⟩
 obtain⟨ρ',k1,k2,k3,k4,_⟩:=my hM h
 exact⟨ρ',k1,k2,k3,k4⟩
def q6 (M:Mm):Nat->List (Nat×SV)->Option (List (Nat×SV))
 |_,[]=>none
 |0,(s,v)::r=>match aUC M v with
  |some v'=>some ((s,v')::r)
  |none=>none
 |k+1,x::r=>match q6 M k r with
  |some q=>some (x::q)
  |none=>none
theorem qC (hM:zF ρ M w):∀{k:Nat} {ls ls':List (Nat×SV)},q6 M k ls=some ls'->
  ∃ρ',ρ.le ρ'/\zF ρ' M w/\aV ρ M ρ' M w w/\∀cs,zC ρ ls cs->zC ρ' ls' cs
 |_,[],_,h=>by simp[q6]at h
 |0,(s,v)::r,ls',h=>by
  simp only[q6]at h
  split at h
  ·rename_i v' hv
   simp only[zoI]at h;subst h
   obtain⟨ρ1,k1,k2,k3,_,k5⟩:=my hM hv
   exact⟨ρ1,k1,k2,k3,λcs ⟨c1,c2,e,hl,h1,h2⟩=>⟨c1,c2,e,hl,k5 _ h1,h2.le k1⟩⟩
  cases h
 |k+1,(s,v)::r,ls',h=>by
  simp only[q6]at h
  split at h
  ·rename_i q hq
   simp only[zoI]at h;subst h
   obtain⟨ρ1,k1,k2,k3,k5⟩:=qC hM hq
   exact⟨ρ1,k1,k2,k3,λcs ⟨c1,c2,e,hl,h1,h2⟩=>⟨c1,c2,e,hl,h1.le k1,k5 _ h2⟩⟩
  cases h
theorem rt:∀{k:Nat} {ls ls':List (Nat×SV)},q6 M k ls=some ls'->zL ls'=zL ls
 |_,[],_,h=>by simp[q6]at h
 |0,(s,v)::r,ls',h=>by
  simp only[q6]at h
  split at h
  ·simp only[zoI]at h;subst h;rfl
  cases h
 |k+1,(s,v)::r,ls',h=>by
  simp only[q6]at h
  split at h
  ·rename_i q hq
   simp only[zoI]at h;subst h
   simp only[zL,rt hq]
  cases h
def eo (gs:List Gh) (M:Mm):Option (List Prop×Mm):=
 match gs with
 |[]=>some ([],M)
 | .own nm l0::r=>match zG M nm with
  |some _=>none
  |none=>match eo r ((nm,.mem true 0 l0)::M)with
   |some (ps,M')=>some (aJH l0::ps,M')
   |none=>none
 | .leaf a k nm::r=>match zG M nm with
  |none=>none
  |some _=>match zG M a with
   |some (.mem true sp ls)=>match qy nm k ls with
    |some ls'=>eo r ((a,.mem true sp ls')::M)
    |none=>none
   |_=>none
 | .keep a::r=>match zG M a with
  |some (.mem true _ ls)=>bif qY ls then eo r ((a,.mem false 1 ls)::M)else none
  |_=>none
 | .ice a k::r=>match zG M a with
  |some (.mem true sp ls)=>match q6 M k ls with
   |some ls'=>eo r ((a,.mem true sp ls')::M)
   |none=>none
  |_=>none
 | .mark a::r=>match zG M a with
  |some (.mem true sp ls)=>eo r ((a,.mem true sp (ls++[(0,.a8 [])]))::M)
  |_=>none
def aKU (sl:List (Nat×Nat)) (T:Tm) (M:Mm):Option Tm:=
 match sl with
 |[]=>some T
 | (d,nm)::r=>match nm with
  |0=>match aX3 M (zX T d)with
   |some v=>match aKU r T M with
    |some T'=>some ((d,v)::T')
    |none=>none
   |none=>none
  |nm=>match zG M nm with
   |none=>none
   |some _=>match zX T d with
    | .nsl=>match aKU r T M with
     |some T'=>some ((d,.sl nm 0 0 0 0)::T')
     |none=>none
    |_=>none
theorem pe (hd:ρ.dom nm):∀{k:Nat} {ls ls':List (Nat×SV)} {cs:List Value},qy nm k ls=some ls'->zC ρ ls cs->zC ρ ls' cs
 |_,[],_,_,h,_=>by simp[qy]at h
 |0,(s,v)::r,ls',cs,h,hc=>by
  simp only[qy]at h
  split at h
  ·simp only[zoI]at h;subst h
   obtain⟨c1,c2,e,hl,⟨x,hx,e1⟩,h2⟩:=hc
   exact⟨c1,c2,e,hl,⟨x,⟨hd,le_refl _,none,hx,λhc=>absurd rfl hc⟩,e1⟩,h2⟩
  cases h
 |k+1,(s,v)::r,ls',cs,h,hc=>by
  simp only[qy]at h
  split at h
  ·rename_i q hq
   simp only[zoI]at h;subst h
   obtain⟨c1,c2,e,hl,h1,h2⟩:=hc
   exact⟨c1,c2,e,hl,h1,pe hd hq h2⟩
  cases h
theorem ri:∀{k:Nat} {ls ls':List (Nat×SV)},qy nm k ls=some ls'->zL ls'=zL ls
 |_,[],_,h=>by simp[qy]at h
 |0,(s,v)::r,ls',h=>by
  simp only[qy]at h
  split at h
  ·simp only[zoI]at h;subst h;rfl
  cases h
 |k+1,(s,v)::r,ls',h=>by
  simp only[qy]at h
  split at h
  ·rename_i q hq
   simp only[zoI]at h;subst h
   simp only[zL,ri hq]
  cases h
theorem bh:∀{gs:List Gh} {M:Mm} {ps:List Prop} {M':Mm},eo gs M=some (ps,M')->All ps->∀{ρ:Env},zF ρ M w->∃ρ',ρ.le ρ'/\zF ρ' M' w/\aV ρ M ρ' M' w w
 |[],M,ps,M',h,_,ρ,hM=>by
  simp only[eo,zoI,zpI]at h
  obtain⟨_,rfl⟩:=h
  exact⟨ρ,Env.le_refl _,hM,aV.refl _ _ _⟩
 | .own nm l0::r,M,ps,M',h,hp,ρ,hM=>by
  simp only[eo]at h
  split at h
  ·cases h
  rename_i hn
  split at h
  ·rename_i qs M1 hr
   obtain⟨rfl,rfl⟩:=sB h
   have hnil:=hp.head
   have hz:=ku hnil
   obtain⟨k1,k2,k3⟩:=hM.claim (b:=0) (o:=0) (sp:=0) hn (mb ρ hnil) (λj v hj=>by simp at hj) (λp h1 h2=>by rw[hz]at h2;omega) (λj hj=>by rw[hz]at hj;omega)
   have hst:aV ρ M (ρ.add nm (0,0)) ((nm,.mem true 0 l0)::M) w w:=by
    refine⟨le_refl _,rfl,rfl,λ_ _ _=>rfl,λ_ _ _ _=>⟨rfl,rfl⟩,λk p _ ho=>?_,λ_ _ _ h=>Or.inl h⟩
    rcases k3 k p ho with h|⟨_,h1,h2⟩
    ·exact h
    rw[hz]at h2;omega
   obtain⟨ρ',l1,l2,l3⟩:=bh hr hp.tail k2
   exact⟨ρ',Env.le_trans k1 l1,l2,hst.trans l3⟩
  cases h
 | .keep a::r,M,ps,M',h,hp,ρ,hM=>by
  simp only[eo]at h
  split at h
  ·rename_i sp ls ha
   have hb:=(zn h).1
   replace h:=(zn h).2
   obtain⟨k1,k2⟩:=hM.keep ha hb
   obtain⟨ρ',l1,l2,l3⟩:=bh h hp k1
   exact⟨ρ',Env.le_trans (Env.le_addI _ _ _ _) l1,l2,k2.trans l3⟩
  cases h
 | .ice a k::r,M,ps,M',h,hp,ρ,hM=>by
  simp only[eo]at h
  split at h
  ·rename_i sp ls ha
   split at h
   ·rename_i ls' hl
    obtain⟨cs,c1,_,c3,_⟩:=hM.sat a _ ha
    obtain⟨ρ1,i1,i2,i3,i4⟩:=qC hM hl
    obtain⟨k1,k2⟩:=i2.tell ha (rt hl) (i4 _ c1) (λj v hj=>by rw[(i1.dm a (hM.mod a _ ha)).2];exact c3 j v hj)
    obtain⟨ρ',l1,l2,l3⟩:=bh h hp k1
    exact⟨ρ',Env.le_trans i1 l1,l2,i3.trans (k2.trans l3)⟩
   cases h
  cases h
 | .leaf a k nm::r,M,ps,M',h,hp,ρ,hM=>by
  simp only[eo]at h
  split at h
  ·cases h
  rename_i e hn
  split at h
  ·rename_i sp ls ha
   split at h
   ·rename_i ls' hl
    obtain⟨cs,c1,_,c3,_⟩:=hM.sat a _ ha
    obtain⟨k1,k2⟩:=hM.tell ha (ri hl) (pe (hM.mod nm e hn) hl c1) c3
    obtain⟨ρ',l1,l2,l3⟩:=bh h hp k1
    exact⟨ρ',l1,l2,k2.trans l3⟩
   cases h
  cases h
 | .mark a::r,M,ps,M',h,hp,ρ,hM=>by
  simp only[eo]at h
  split at h
  ·rename_i sp ls ha
   obtain⟨cs,c1,_,c3,_⟩:=hM.sat a _ ha
   have hcl:zC ρ (ls++[(0,.a8 [])]) (cs++[]):=fE c1 ⟨[],[],rfl,rfl,rfl,rfl⟩
   have hsz:zL (ls++[(0,SV.a8 [])])=zL ls:=by rw[<-hcl.length,<-c1.length,List.append_nil]
   rw[List.append_nil]at hcl
   obtain⟨k1,k2⟩:=hM.tell ha hsz hcl c3
   obtain⟨ρ',l1,l2,l3⟩:=bh h hp k1
   exact⟨ρ',l1,l2,k2.trans l3⟩
  cases h
theorem jR:∀{sl:List (Nat×Nat)} {T T':Tm},aKU sl T M=some T'->∀{ρ:Env},aZ N ρ T M a w->∃ρ',ρ.le ρ'/\aZ N ρ' T' M a w/\aV ρ M ρ' M w w
 |[],T,T',h,ρ,hc=>by
  simp only[aKU,zoI]at h;subst h;exact⟨ρ,Env.le_refl _,hc,aV.refl _ _ _⟩
 | (d,nm)::r,T,T',h,ρ,hc=>by
  have put:∀{ρ:Env} {v:SV} {T1:Tm},zRT ρ v (a.tmps.getD d undef)->aZ N ρ T1 M a w->aZ N ρ ((d,v)::T1) M a w:=by
   intro ρ v T1 hv h1
   refine⟨h1.tozF,h1.sz,h1.defers,λs=>?_⟩
   by_cases hs:s=d
   ·subst hs
    rw[aK]
    exact hv
   rw[aS hs];exact h1.tm s
  simp only[aKU]at h
  split at h
  ·split at h
   ·rename_i v hv
    split at h
    ·rename_i T1 hr
     simp only[zoI]at h;subst h
     obtain⟨ρ1,k1,k2,k3⟩:=jR hr hc
     obtain⟨ρ2,l1,l2,l3,l4⟩:=aCB k2.tozF hv
     exact⟨ρ2,Env.le_trans k1 l1,put (l4 _ ((hc.tm d).le k1)) (k2.of_mem l1 l2),k3.trans l3⟩
    cases h
   cases h
  split at h
  ·cases h
  rename_i e hn
  split at h
  ·rename_i hd
   split at h
   ·rename_i T1 hr
    simp only[zoI]at h;subst h
    obtain⟨ρ1,k1,k2,k3⟩:=jR hr hc
    have ht:=(hc.tm d).le k1
    rw[hd]at ht
    exact⟨ρ1,k1,put (zR ⟨k2.tozF.mod _ e hn,le_refl _,none,ht,λhc=>absurd rfl hc⟩) k2,k3⟩
   cases h
  cases h
def Env.lim (ρ:Env) (M:Mm):Env:=⟨λa=>ρ.dom a/\(zG M a).isSome=true,ρ.pos,ρ.imm⟩
theorem Env.lim_le (ρ:Env) (M:Mm):(ρ.lim M).le ρ:=⟨λ_ h=>⟨h.1,rfl⟩,λ_ _ _ h=>h⟩
theorem aU:∀(E M:Mm) (a:Nat),zG (E++M) a=match zG E a with
  |some e=>some e
  |none=>zG M a
 |[],M,a=>rfl
 |(k,e)::r,M,a=>by
  by_cases h:a=k
  ·subst h;rw[List.cons_append,zh,zh]
  rw[List.cons_append,zg h,zg h];exact aU r M a
theorem zan (h:zG E a=some e):zG (E++M) a=some e:=by rw[aU,h]
theorem zao (h:zG E a=none):zG (E++M) a=zG M a:=by rw[aU,h]
theorem mB.lim (h:mB (ρ.lim M) w pos e):mB ρ w pos e:=
 mB.of_same (Env.lim_le ρ M) (le_refl _) (λ_ _ _=>⟨rfl,rfl⟩) (λ_ _ _=>rfl) h
theorem cg.both (hd:∀a,ρ'.dom a->(zG M a).isSome=true) (r:cg ρ v x) (r':cg ρ' v x'):cg (ρ.lim M) v x:=by
 cases v<;>simp only[cg]at r r'⊢<;>try exact r
 case ptr a f i=>exact⟨⟨r.1,hd _ r'.1⟩,r.2⟩
 case sl a f i n c=>exact⟨⟨r.1,hd _ r'.1⟩,r.2⟩
 case slx a f i n=>exact⟨⟨r.1,hd _ r'.1⟩,r.2⟩
 case fn f cap=>exact⟨λp hp=>⟨r.1 p hp,hd _ (r'.1 p hp)⟩,r.2⟩
 case mp a=>exact⟨⟨r.1,hd _ r'.1⟩,r.2⟩
 case ep a f q s=>exact⟨⟨r.1,hd _ r'.1⟩,r.2⟩
theorem zD.both (hd:∀a,ρ'.dom a->(zG M a).isSome=true) (r:zD ρ v cs) (r':zD ρ' v cs'):zD (ρ.lim M) v cs:=by
 cases v<;>simp only[zD]at r r'⊢<;>first|exact r|(obtain⟨x,hx,rfl⟩:=r;obtain⟨x',hx',_⟩:=r';exact⟨x,hx.both hd hx',rfl⟩)|exact⟨r.1,λq hq=>r.2 q hq⟩
theorem zC.both (hd:∀a,ρ'.dom a->(zG M a).isSome=true):∀{ls:List (Nat×SV)} {cs cs':List Value},zC ρ ls cs->zC ρ' ls cs'->zC (ρ.lim M) ls cs
 |[],_,_,r,_=>r
 |(_,_)::_,_,_,⟨c1,c2,e,hl,h1,h2⟩,⟨_,_,_,_,k1,k2⟩=>⟨c1,c2,e,hl,h1.both hd k1,zC.both hd h2 k2⟩
theorem Rel.both (hd:∀a,ρ'.dom a->(zG M a).isSome=true) (r:Rel ρ v x) (r':Rel ρ' v x'):Rel (ρ.lim M) v x:=by
 cases v<;>simp only[Rel]at r r'⊢<;>first|exact r|exact cg.both hd r r'|(obtain⟨cs,hc,e⟩:=r;obtain⟨cs',hc',_⟩:=r';exact⟨cs,hc.both hd hc',e⟩)
theorem nM.both (hd:∀a,ρ'.dom a->(zG M a).isSome=true):∀{vs:List SV} {xs xs':List Value},nM ρ vs xs->nM ρ' vs xs'->nM (ρ.lim M) vs xs
 |[],_,_,r,_=>r
 |_::_,_,_,⟨x,ys,e,h1,h2⟩,⟨_,_,_,k1,k2⟩=>⟨x,ys,e,h1.both hd k1,nM.both hd h2 k2⟩
theorem zRT.both (hd:∀a,ρ'.dom a->(zG M a).isSome=true) (r:zRT ρ v x) (r':zRT ρ' v x'):zRT (ρ.lim M) v x:=by
 cases v<;>simp only[zRT]at r r'⊢<;>first|exact Rel.both hd r r'|(obtain⟨xs,hx,e⟩:=r;obtain⟨xs',hx',_⟩:=r';exact⟨xs,hx.both hd hx',e⟩)
def nL (M:Mm) (v:SV):Prop:=∃(ρ:Env) (x:Value),(∀a,ρ.dom a->(zG M a).isSome=true)/\zRT ρ v x
def mA (M:Mm) (e:Ent):Prop:=∃(ρ:Env) (w:World) (pos:Nat×Nat),(∀a,ρ.dom a->(zG M a).isSome=true)/\mB ρ w pos e
theorem nL.rel (h:nL M v) (r:zRT ρ v x):zRT (ρ.lim M) v x:=by
 obtain⟨ρ',x',hd,r'⟩:=h
 exact r.both hd r'
theorem mA.sat (h:mA M e) (r:mB ρ w pos e):mB (ρ.lim M) w pos e:=by
 obtain⟨ρ',w',pos',hd,r'⟩:=h
 cases e with
 |dead=>trivial
 |mem own sp ls=>
  obtain⟨cs,h1,h2,h3,h4⟩:=r
  obtain⟨cs',k1,_⟩:=r'
  exact⟨cs,h1.both hd k1,h2,h3,h4⟩
 |map m=>exact r
theorem nL.mono (h:∀a e,zG M a=some e->∃e',zG M' a=some e') (t:nL M v):nL M' v:=by
 obtain⟨ρ',x',hd,r'⟩:=t
 refine⟨ρ',x',λa ha=>?_,r'⟩
 obtain⟨e,he⟩:=Option.isSome_iff_exists.1 (hd a ha)
 obtain⟨e',he'⟩:=h a e he
 rw[he'];rfl
theorem mA.mono (h:∀a e,zG M a=some e->∃e',zG M' a=some e') (t:mA M v):mA M' v:=by
 obtain⟨ρ',w',x',hd,r'⟩:=t
 refine⟨ρ',w',x',λa ha=>?_,r'⟩
 obtain⟨e,he⟩:=Option.isSome_iff_exists.1 (hd a ha)
 obtain⟨e',he'⟩:=h a e he
 rw[he'];rfl
theorem zF.told (h:zF ρ M w) (he:zG M a=some e):mA M e:=
 ⟨ρ,w,_,λb hb=>Option.isSome_iff_exists.2 (h.dom b hb),h.sat a e he⟩
theorem zF.toldT (h:zF ρ M w) (r:zRT ρ v x):nL M v:=
 ⟨ρ,x,λb hb=>Option.isSome_iff_exists.2 (h.dom b hb),r⟩
structure Sub (Mi M:Mm):Prop where
 sub:∀a e,zG Mi a=some e->zG M a=some e
 told:∀a e,zG Mi a=some e->mA Mi e
theorem Sub.conc (hs:Sub Mi M) (h:zF ρ M w):zF (ρ.lim Mi) Mi w where
 dom a ha:=Option.isSome_iff_exists.1 ha.2
 mod a e he:=⟨h.mod a e (hs.sub a e he),by rw[he];rfl⟩
 sat a e he:=(hs.told a e he).sat (h.sat a e (hs.sub a e he))
 sep a b e e' ha hb:=h.sep a b e e' (hs.sub a e ha) (hs.sub b e' hb)
 imm:=h.imm
 isep b o hi ho:=h.isep b o hi (by obtain⟨a,e,h1,h2⟩:=ho;exact⟨a,e,hs.sub a e h1,h2⟩)
 gl:=h.gl
theorem zF.frame (h:zF ρ M w) (hs:Sub Mi M) (hle:(ρ.lim Mi).le ρ') (h':zF ρ' (E++Mi) w') (hst:aV (ρ.lim Mi) Mi ρ' (E++Mi) w w')
  (hE:∀a e,zG E a=some e->(zG M a=none/\e.loose=true)\/(e.loose=true/\∃e0,zG Mi a=some e0)):
  ∃ρ'',ρ.le ρ''/\ρ'.le ρ''/\zF ρ'' (E++M) w'/\aV ρ M ρ'' (E++M) w w':=by
 have hMi:∀{a e},zG Mi a=some e->zG M a=some e:=λ{a e} he=>hs.sub a e he
 have hEi:∀{a e},zG Mi a=some e->zG E a=none->zG (E++Mi) a=some e:=λ{a e} he hn=>by
  rw[zao hn];exact he
 have posi:∀{a e},zG Mi a=some e->ρ'.pos a=ρ.pos a:=λ{a e} he=>(hle a ⟨h.mod a e (hMi he),by rw[he];rfl⟩).2
 have both:∀{a},ρ.dom a->ρ'.dom a->ρ'.pos a=ρ.pos a:=by
  intro a h1 h2
  obtain⟨e,he⟩:=h'.dom a h2
  obtain⟨e0,he0⟩:=h.dom a h1
  cases hx:zG E a with
  |none=>
   rw[zao hx]at he
   exact posi he
  |some e'=>
   rcases hE a e' hx with h3|⟨_,e1,h3⟩
   ·rw[h3.1]at he0;cases he0
   exact posi h3
 classical
 let ρ2:Env:=⟨λa=>ρ.dom a\/ρ'.dom a,λa=>if ρ.dom a then ρ.pos a else ρ'.pos a,ρ'.imm⟩
 have p1:∀{a},ρ.dom a->ρ2.pos a=ρ.pos a:=λ{a} ha=>by simp only[ρ2];rw[if_pos ha]
 have p2:∀{a},ρ'.dom a->ρ2.pos a=ρ'.pos a:=λ{a} ha=>by
  by_cases hd:ρ.dom a
  ·rw[p1 hd,both hd ha]
  simp only[ρ2];rw[if_neg hd]
 have l1:ρ.le ρ2:=⟨λa ha=>⟨Or.inl ha,p1 ha⟩,hle.im⟩
 have l2:ρ'.le ρ2:=⟨λa ha=>⟨Or.inr ha,p2 ha⟩,λ_ _ _ h=>h⟩
 have ownI:∀{b o},eU (ρ.lim Mi) Mi b o->eU ρ M b o:=by
  rintro b o ⟨a,e,h1,h2,h3⟩
  exact⟨a,e,hMi h1,h2,h3⟩
 have rest:∀{a e},zG M a=some e->zG Mi a=none->∀b o,eJ (ρ.pos a) e b o->b<w.heap.size/\¬eU (ρ.lim Mi) Mi b o:=by
  intro a e he hn b o hf
  refine⟨iP (h.sat a e he) hf,?_⟩
  rintro⟨c,e',h1,h2,h3⟩
  have hne:c≠a:=by rintro rfl;rw[hn]at h1;cases h1
  exact h.sep c a e' e (hMi h1) he hne h2 b o h3 hf
 have cases':∀{a e},zG (E++M) a=some e->(zG (E++Mi) a=some e/\ρ'.dom a/\(zG E a=some e\/zG Mi a=some e))\/(zG M a=some e/\zG Mi a=none/\zG E a=none/\ρ.dom a):=by
  intro a e he
  cases hx:zG E a with
  |some e'=>
   rw[zan hx]at he
   have:zG (E++Mi) a=some e:=by rw[zan hx];exact he
   exact Or.inl ⟨this,h'.mod a e this,Or.inl (by rw[<-he])⟩
  |none=>
   rw[zao hx]at he
   cases hy:zG Mi a with
   |some e'=>
    have:=hMi hy
    rw[he]at this
    simp only[zoI]at this;subst this
    exact Or.inl ⟨hEi hy hx,h'.mod a e (hEi hy hx),Or.inr rfl⟩
   |none=>exact Or.inr ⟨he,rfl,rfl,h.mod a e he⟩
 have isep2:∀b o,rE ρ2 b o->¬eU ρ2 (E++M) b o:=by
  rintro b o hi ⟨a,e,ha,ho,hf⟩
  rcases cases' ha with⟨h1,h2,_⟩|⟨h1,h2,_,h4⟩
  ·rw[p2 h2]at hf
   exact h'.isep b o hi ⟨a,e,h1,ho,hf⟩
  rw[p1 h4]at hf
  obtain⟨q1,q2⟩:=rest h1 h2 b o hf
  rcases hst.immo b o q1 hi with h5|h5
  ·exact h.isep b o h5 ⟨a,e,h1,ho,hf⟩
  exact q2 h5
 refine⟨ρ2,l1,l2,⟨?_,?_,?_,?_,h'.imm,isep2,h'.gl⟩,hst.size,hst.os,hst.output,?_,?_,?_,λb o hb hi=>(hst.immo b o hb hi).imp (λh=>h) ownI⟩
 ·rintro a (ha|ha)
  ·obtain⟨e,he⟩:=h.dom a ha
   cases hx:zG E a with
   |some e'=>exact⟨e',zan hx⟩
   |none=>exact⟨e,by rw[zao hx];exact he⟩
  obtain⟨e,he⟩:=h'.dom a ha
  cases hx:zG E a with
  |some e'=>exact⟨e',zan hx⟩
  |none=>
   rw[zao hx]at he
   exact⟨e,by rw[zao hx];exact hMi he⟩
 ·intro a e he
  rcases cases' he with⟨_,h2,_⟩|⟨_,_,_,h2⟩
  ·exact Or.inr h2
  exact Or.inl h2
 ·intro a e he
  rcases cases' he with⟨h1,h2,_⟩|⟨h1,h2,_,h4⟩
  ·rw[p2 h2]
   exact mB.of_same l2 (le_refl _) (λ_ _ _=>⟨rfl,rfl⟩) (λ_ _ _=>rfl) (h'.sat a e h1)
  rw[p1 h4]
  exact mB.of_same l1 hst.size (λb o hf=>by
   obtain⟨q1,q2⟩:=rest h1 h2 b o hf
   exact hst.cell b o q1 q2) (λb hb hf=>hst.blk b hb λo ho=>(rest h1 h2 b o (hf o)).2 ho) (h.sat a e h1)
 ·intro a b e e' ha hb hne ho k o hf hf'
  rcases cases' ha with⟨a1,a2,a3⟩|⟨a1,a2,a3,a4⟩
  ·rw[p2 a2]at hf
   rcases cases' hb with⟨b1,b2,_⟩|⟨b1,b2,b3,b4⟩
   ·rw[p2 b2]at hf'
    exact h'.sep a b e e' a1 b1 hne ho k o hf hf'
   rw[p1 b4]at hf'
   obtain⟨q1,q2⟩:=rest b1 b2 k o hf'
   exact q2 (hst.own k o q1 ⟨a,e,a1,ho,hf⟩)
  rw[p1 a4]at hf
  rcases cases' hb with⟨b1,b2,b3⟩|⟨b1,b2,b3,b4⟩
  ·rw[p2 b2]at hf'
   rcases b3 with b3|b3
   ·obtain⟨q1,q2⟩:=rest a1 a2 k o hf
    cases e' with
    |dead=>exact hf'
    |mem own' sp' ls'=>
     have hl:(Ent.mem own' sp' ls').loose=true:=by
      rcases hE b _ b3 with h5|⟨h5,_⟩
      ·exact h5.2
      exact h5
     cases own' with
     |true=>exact q2 (hst.own k o q1 ⟨b,_,b1,rfl,hf'⟩)
     |false=>
      simp only[Ent.loose,Bool.false_or,bne_iff_ne]at hl
      obtain⟨_,_,k2,_⟩:=h'.sat b _ b1
      have hi:=h'.immO_sep (k2.2 rfl hl) (k:=k) (p:=o) hf'
      rcases hst.immo k o q1 hi with h5|h5
      ·exact h.isep k o h5 ⟨a,e,a1,ho,hf⟩
      exact q2 h5
    |map m=>exact q2 (hst.own k o q1 ⟨b,_,b1,rfl,hf'⟩)
   rw[posi b3]at hf'
   exact h.sep a b e e' a1 (hMi b3) hne ho k o hf hf'
  rw[p1 b4]at hf'
  exact h.sep a b e e' a1 b1 hne ho k o hf hf'
 ·intro b hb ho
  exact hst.blk b hb λo hc=>ho o (ownI hc)
 ·intro b o hb ho
  exact hst.cell b o hb λhc=>ho (ownI hc)
 rintro b o hb ⟨a,e,ha,ho,hf⟩
 rcases cases' ha with⟨h1,h2,_⟩|⟨h1,h2,_,h4⟩
 ·rw[p2 h2]at hf
  exact ownI (hst.own b o hb ⟨a,e,h1,ho,hf⟩)
 rw[p1 h4]at hf
 exact⟨a,e,h1,ho,hf⟩
theorem Oper.wp_put {P:Program} {o:Oper} {a:Act} {w:World} {K:Act->World->Prop} {Q:Exit->Act->World->Prop} (h:o.wp P a w K Q):
  o.wp P a w (λa' w'=>(∃x,a'.tmps=(a.put o.dst x).tmps)/\K a' w') Q:=by
 have hd:∀d x,({a with defers:=d::a.defers}.put o.dst x).tmps=(a.put o.dst x).tmps:=by
  intro d x
  unfold Act.put
  cases o.dst<;>rfl
 unfold Oper.wp at *
 generalize (execOp a.eval o).run P w=r at *
 cases r with
 |ok n w'=>
  cases n<;>simp only[Oper.upon]at h⊢
  case value v=>exact⟨⟨v,rfl⟩,h⟩
  case skip=>exact⟨⟨undef,rfl⟩,h⟩
  case defer d=>exact⟨⟨undef,hd d _⟩,h⟩
  case enter f args=>
   refine Calls.mono h λe w'' he=>?_
   cases e with
   |returned v=>exact⟨⟨v,rfl⟩,he⟩
   |panicked c=>exact he
   |outgrown=>exact he
  case row row args=>exact Rows.mono h λu w'' he=>⟨⟨u,rfl⟩,he⟩
 |halt x w'=>
  cases x<;>simp only[Oper.upon]at h⊢
  exact h
structure Rec where
 ix:Nat
 dst:Option Nat
 v:SV
 new:Mm
 dep:List Nat
 rd:List Nat
def dM (p:Nat->Bool) (T0:Tm):List Rec->Tm
 |[]=>T0
 |r::q=>bif p r.ix then zt r.dst r.v (dM p T0 q)else dM p T0 q
def zrM (p:Nat->Bool) (M0:Mm):List Rec->Mm
 |[]=>M0
 |r::q=>bif p r.ix then r.new++zrM p M0 q else zrM p M0 q
def zre (T:Tm):List Nat->Tm
 |[]=>[]
 |s::r=>(s,zX T s)::zre T r
def jo (_:Nat):Bool:=true
def inB (l:List Nat) (j:Nat):Bool:=eY j l
def kY (p:Nat->Bool) (i:Nat):Nat->Bool:=λj=>beq j i||p j
theorem bE (p:Nat->Bool) (i:Nat):kY p i i=true:=by simp[kY]
theorem aO (h:p j=true):kY p i j=true:=by simp[kY,h]
theorem mY (h:j≠i):kY p i j=p j:=by
 have:beq j i=false:=by
  cases hb:beq j i with
  |false=>rfl
  |true=>exact absurd (zq hb) h
 simp[kY,this]
theorem an (h:kY p i j=true):j=i\/p j=true:=by
 by_cases hj:j=i
 ·exact Or.inl hj
 rw[mY hj]at h;exact Or.inr h
def aP0 (M0:Mm) (q:List Rec) (r:Rec):Prop:=∀a e,zG r.new a=some e->
 (zG (zrM jo M0 q) a=none/\e.loose=true/\e≠ .dead)\/
 (e= .dead/\(∃e0,zG (zrM (inB r.dep) M0 q) a=some e0)/\∀x∈q,x.ix∉r.dep->zG x.new a=none/\zG (zrM (inB x.dep) M0 q) a=none)
def wfM (M0:Mm):List Rec->Prop
 |[]=>True
 |r::q=>aP0 M0 q r/\wfM M0 q
theorem qB (h:inB l j=false):j∉l:=λhm=>by
 have:=zmi.2 hm
 unfold inB at h;rw[this]at h;cases h
theorem qA (h:j∉l):inB l j=false:=by
 cases hb:inB l j with
 |false=>rfl
 |true=>exact absurd (zmi.1 hb) h
section
variable {M0:Mm}
theorem jK:∀{rs:List Rec} {a:Nat} {e:Ent},zG (zrM p M0 rs) a=some e->zG M0 a=some e\/∃r∈rs,p r.ix=true/\zG r.new a=some e
 |[],_,_,h=>Or.inl h
 |r::q,a,e,h=>by
  simp only[zrM]at h
  cases hp:p r.ix with
  |false=>
   rw[hp,zcF]at h
   rcases jK h with h|⟨r',h1,h2⟩
   ·exact Or.inl h
   exact Or.inr ⟨r',mem_cons_of_mem _ h1,h2⟩
  |true=>
   rw[hp,zcT]at h
   cases hx:zG r.new a with
   |some e'=>rw[zan hx]at h;exact Or.inr ⟨r,by simp,hp,by rw[hx,h]⟩
   |none=>
    rw[zao hx]at h
    rcases jK h with h|⟨r',h1,h2⟩
    ·exact Or.inl h
    exact Or.inr ⟨r',mem_cons_of_mem _ h1,h2⟩
theorem pH:∀{rs:List Rec} (_:∀r∈rs,p r.ix=true->q r.ix=true) {a:Nat},(∃e,zG (zrM p M0 rs) a=some e)->∃e,zG (zrM q M0 rs) a=some e
 |[],_,_,h=>h
 |r::t,hpq,a,h=>by
  simp only[zrM]at h⊢
  have ih:(∃e,zG (zrM p M0 t) a=some e)->∃e,zG (zrM q M0 t) a=some e:=pH λr' hr'=>hpq r' (mem_cons_of_mem _ hr')
  have up:(∃e,zG (zrM p M0 t) a=some e)->∃e,zG (bif q r.ix then r.new++zrM q M0 t else zrM q M0 t) a=some e:=by
   intro h
   obtain⟨e,he⟩:=ih h
   cases hq:q r.ix with
   |false=>exact⟨e,he⟩
   |true=>
    rw[zcT]
    cases hx:zG r.new a with
    |some e'=>exact⟨e',zan hx⟩
    |none=>exact⟨e,by rw[zao hx];exact he⟩
  cases hp:p r.ix with
  |false=>rw[hp]at h;exact up h
  |true=>
   rw[hp,zcT]at h
   obtain⟨e,he⟩:=h
   cases hx:zG r.new a with
   |some e'=>rw[hpq r (by simp) hp,zcT];exact⟨e',zan hx⟩
   |none=>rw[zao hx]at he;exact up ⟨e,he⟩
theorem se (h:∀r∈rs,p r.ix=true->q r.ix=true) (hn:zG (zrM q M0 rs) a=none):zG (zrM p M0 rs) a=none:=by
 cases hx:zG (zrM p M0 rs) a with
 |none=>rfl
 |some e=>
  obtain⟨e',he⟩:=pH h ⟨e,hx⟩
  rw[hn]at he;cases he
theorem eu:∀{rs:List Rec} {r:Rec} (_:r∈rs) (_:p r.ix=true) {a:Nat} {e:Ent},zG r.new a=some e->∃e',zG (zrM p M0 rs) a=some e'
 |[],_,hr,_,_,_,_=>by simp at hr
 |r0::t,r,hr,hp,a,e,h=>by
  simp only[zrM]
  rcases List.mem_cons.1 hr with rfl|hr
  ·rw[hp,zcT];exact⟨e,zan h⟩
  obtain⟨e',he⟩:=eu (p:=p) hr hp h
  cases hp0:p r0.ix with
  |false=>exact⟨e',he⟩
  |true=>
   rw[zcT]
   cases hx:zG r0.new a with
   |some e2=>exact⟨e2,zan hx⟩
   |none=>exact⟨e',by rw[zao hx];exact he⟩
def aaU (M0:Mm) (rs:List Rec) (p q:Nat->Bool):Prop:=∀r∈rs,q r.ix=true->p r.ix=false->∀a,zG r.new a=some .dead->zG (zrM p M0 rs) a=none
theorem ua:∀{rs:List Rec} {q:Nat->Bool} (_:wfM M0 rs) (_:∀r∈rs,p r.ix=true->q r.ix=true) (_:aaU M0 rs p q) {a:Nat} {e:Ent},zG (zrM p M0 rs) a=some e->zG (zrM q M0 rs) a=some e
 |[],_,_,_,_,_,_,h=>h
 |r::t,q,hw,hpq,hs,a,e,h=>by
  have hpt:∀r'∈t,p r'.ix=true->q r'.ix=true:=λr' hr'=>hpq r' (mem_cons_of_mem _ hr')
  have hst:aaU M0 t p q:=by
   intro r' hr' h1 h2 b hb
   have:=hs r' (mem_cons_of_mem _ hr') h1 h2 b hb
   simp only[zrM]at this
   cases hp:p r.ix with
   |false=>rw[hp]at this;exact this
   |true=>
    rw[hp,zcT]at this
    cases hx:zG r.new b with
    |some e'=>rw[zan hx]at this;cases this
    |none=>rw[zao hx]at this;exact this
  have ih:zG (zrM p M0 t) a=some e->zG (zrM q M0 t) a=some e:=ua hw.2 hpt hst
  have hs0:=hs r (by simp)
  simp only[zrM]at h hs0⊢
  cases hp:p r.ix with
  |false=>
   rw[hp,zcF]at h
   cases hq:q r.ix with
   |false=>rw[zcF];exact ih h
   |true=>
    have hn:zG r.new a=none:=by
     cases hx:zG r.new a with
     |none=>rfl
     |some e'=>
      rcases hw.1 a e' hx with h1|⟨h1,_,_⟩
      ·have:=se (p:=p) (q:=jo) (λ_ _ _=>rfl) h1.1
       rw[h]at this;cases this
      subst h1
      have:=hs0 hq hp a hx
      rw[hp,zcF,h]at this;cases this
    rw[zcT,zao hn];exact ih h
  |true=>
   rw[hpq r (by simp) hp,zcT]
   rw[hp,zcT]at h
   cases hx:zG r.new a with
   |some e'=>rw[zan hx]at h⊢;exact h
   |none=>rw[zao hx]at h⊢;exact ih h
theorem uZ:∀(rs:List Rec),zrM (λ_=>false) M0 rs=M0
 |[]=>rfl
 |r::q=>by simp only[zrM,zcF];exact uZ q
theorem dq (h:zG M0 a=some e):∃e',zG (zrM p M0 rs) a=some e':=
 pH (p:=λ_=>false) (λ_ _ h=>by cases h) ⟨e,by rw[uZ];exact h⟩
theorem uY:∀{rs:List Rec},(∀r∈rs,q r.ix≠p r.ix->zG r.new a=none)->zG (zrM q M0 rs) a=zG (zrM p M0 rs) a
 |[],_=>rfl
 |r::t,h=>by
  have ih:=uY (rs:=t) λr' hr'=>h r' (mem_cons_of_mem _ hr')
  have h0:=h r (by simp)
  simp only[zrM]
  cases hq:q r.ix<;>cases hp:p r.ix
  ·exact ih
  ·rw[zcF,zcT,zao (h0 (by rw[hq,hp];simp))];exact ih
  ·rw[zcF,zcT,zao (h0 (by rw[hq,hp];simp))];exact ih
  rw[zcT,zcT,aU,aU,ih]
def wB (rs:List Rec) (p:Nat->Bool):Prop:=∀x∈rs,p x.ix=true->∀k∈x.dep,p k=true
theorem zH:∀{rs:List Rec} (_:wfM M0 rs) {r:Rec} (_:r∈rs) (_:p r.ix=false) (_:wB rs p) (_:∀x∈rs,r.ix=x.ix->r=x) {a:Nat} {e:Ent},zG r.new a=some e->zG (zrM (kY p r.ix) M0 rs) a=some e
 |[],_,_,hr,_,_,_,_,_,_=>by simp at hr
 |r0::t,hw,r,hr,hp,hc,hu,a,e,h=>by
  simp only[zrM]
  rcases List.mem_cons.1 hr with h'|h'
  ·subst h'
   rw[bE,zcT];exact zan h
  have ih:=zH hw.2 h' hp (λx hx=>hc x (mem_cons_of_mem _ hx)) (λx hx=>hu x (mem_cons_of_mem _ hx)) h
  cases hp0:kY p r.ix r0.ix with
  |false=>rw[zcF];exact ih
  |true=>
   rw[zcT]
   rcases an hp0 with h0|h0
   ·have:=hu r0 (by simp) h0.symm
    subst this
    exact zan h
   rw[zao];·exact ih
   cases hx:zG r0.new a with
   |none=>rfl
   |some e'=>
    rcases hw.1 a e' hx with h1|⟨_,_,h1⟩
    ·obtain⟨e2,he2⟩:=eu (M0:=M0) (p:=jo) h' rfl h
     rw[h1.1]at he2;cases he2
    by_cases hd:r.ix∈r0.dep
    ·have:=hc r0 (by simp) h0 _ hd
     rw[hp]at this;cases this
    rw[(h1 r h' hd).1]at h;cases h
theorem ko (hw:wfM M0 rs) (hu:∀r∈rs,∀r'∈rs,r.ix=r'.ix->r=r') (hc:wB rs p) (hr:r∈rs) (hp:p r.ix=false) (a:Nat):
  zG (zrM (kY p r.ix) M0 rs) a=zG (r.new++zrM p M0 rs) a:=by
 cases hx:zG r.new a with
 |some e=>rw[zan hx];exact zH hw hr hp hc (hu r hr) hx
 |none=>
  rw[zao hx]
  refine uY λr' hr' hne=>?_
  by_cases e:r'.ix=r.ix
  ·have:=hu r' hr' r hr e;subst this;exact hx
  rw[mY e]at hne;exact absurd rfl hne
theorem aDQ:∀{rs:List Rec} (_:wfM M0 rs) {r:Rec} (_:r∈rs) {a:Nat} {e:Ent},zG r.new a=some e->e.loose=true
 |[],_,_,hr,_,_,_=>by simp at hr
 |r0::t,hw,r,hr,a,e,h=>by
  rcases List.mem_cons.1 hr with h'|h'
  ·subst h'
   rcases hw.1 a e h with h1|⟨h1,_⟩
   ·exact h1.2.1
   subst h1;rfl
  exact aDQ hw.2 h' h
theorem jL:∀{rs:List Rec} (_:wfM M0 rs) {r:Rec} (_:r∈rs) (_:p r.ix=false) (_:wB rs p) {b:Nat} {e:Ent},e≠ .dead->zG r.new b=some e->zG (zrM p M0 rs) b=none
 |[],_,_,h,_,_,_,_,_,_=>by simp at h
 |r0::t,hw,r,hr,hp,hc,b,e,hd,h=>by
  simp only[zrM]
  rcases List.mem_cons.1 hr with h'|h'
  ·subst h'
   rw[hp,zcF]
   rcases hw.1 b e h with h1|⟨h1,_⟩
   ·exact se (q:=jo) (λ_ _ _=>rfl) h1.1
   exact absurd h1 hd
  have ih:=jL hw.2 h' hp (λx hx=>hc x (mem_cons_of_mem _ hx)) hd h
  cases hp0:p r0.ix with
  |false=>rw[zcF];exact ih
  |true=>
   rw[zcT,zao];·exact ih
   cases hx:zG r0.new b with
   |none=>rfl
   |some e'=>
    rcases hw.1 b e' hx with h1|⟨_,_,h1⟩
    ·obtain⟨e2,he2⟩:=eu (M0:=M0) (p:=jo) h' rfl h
     rw[h1.1]at he2;cases he2
    by_cases hd':r.ix∈r0.dep
    ·have:=hc r0 (by simp) hp0 _ hd'
     rw[hp]at this;cases this
    rw[(h1 r h' hd').1]at h;cases h
theorem fG:∀{rs:List Rec},(∀r∈rs,p r.ix=q r.ix)->zrM p M0 rs=zrM q M0 rs
 |[],_=>rfl
 |r::t,h=>by simp only[zrM];rw[h r (by simp),fG λr' hr'=>h r' (mem_cons_of_mem _ hr')]
theorem rY:∀{rs:List Rec},(∀r∈rs,p r.ix=q r.ix)->dM p T0 rs=dM q T0 rs
 |[],_=>rfl
 |r::t,h=>by simp only[dM];rw[h r (by simp),rY λr' hr'=>h r' (mem_cons_of_mem _ hr')]
end
theorem oA:∀(rs:List Rec) (s:Nat),
  (∃r∈rs,p r.ix=true/\r.dst=some s/\zX (dM p T0 rs) s=r.v)\/((∀r∈rs,p r.ix=true->r.dst≠some s)/\zX (dM p T0 rs) s=zX T0 s)
 |[],_=>Or.inr ⟨by simp,rfl⟩
 |r::t,s=>by
  simp only[dM]
  have lift:(∃r'∈t,p r'.ix=true/\r'.dst=some s/\zX (dM p T0 t) s=r'.v)\/((∀r'∈t,p r'.ix=true->r'.dst≠some s)/\zX (dM p T0 t) s=zX T0 s):=oA t s
  cases hp:p r.ix with
  |false=>
   rw[zcF]
   rcases lift with⟨r',h1,h2,h3,h4⟩|⟨h1,h2⟩
   ·exact Or.inl ⟨r',mem_cons_of_mem _ h1,h2,h3,h4⟩
   refine Or.inr ⟨λr' hr' hp'=>?_,h2⟩
   rcases List.mem_cons.1 hr' with rfl|hr'
   ·rw[hp]at hp';cases hp'
   exact h1 r' hr' hp'
  |true=>
   rw[zcT]
   cases hd:r.dst with
   |none=>
    simp only[zt]
    rcases lift with⟨r',h1,h2,h3,h4⟩|⟨h1,h2⟩
    ·exact Or.inl ⟨r',mem_cons_of_mem _ h1,h2,h3,h4⟩
    refine Or.inr ⟨λr' hr' hp'=>?_,h2⟩
    rcases List.mem_cons.1 hr' with rfl|hr'
    ·rw[hd];simp
    exact h1 r' hr' hp'
   |some d=>
    simp only[zt]
    by_cases hs:s=d
    ·subst hs
     exact Or.inl ⟨r,by simp,hp,hd,aK _ _ _⟩
    rw[aS hs]
    rcases lift with⟨r',h1,h2,h3,h4⟩|⟨h1,h2⟩
    ·exact Or.inl ⟨r',mem_cons_of_mem _ h1,h2,h3,h4⟩
    refine Or.inr ⟨λr' hr' hp'=>?_,h2⟩
    rcases List.mem_cons.1 hr' with rfl|hr'
    ·rw[hd];simpa usingλh=>hs h.symm
    exact h1 r' hr' hp'
theorem uV:∀{l:List Nat} {s:Nat},s∈l->zX (zre T l) s=zX T s
 |[],_,h=>by simp at h
 |d::r,s,h=>by
  simp only[zre]
  by_cases hs:s=d
  ·subst hs;rw[aK]
  rw[aS hs];exact uV ((List.mem_cons.1 h).resolve_left hs)
theorem uU:∀{l:List Nat} {s:Nat},s∉l->zX (zre T l) s= .und
 |[],_,_=>rfl
 |d::r,s,h=>by
  simp only[zre]
  rw[aS (λe=>h (by simp[e]))]
  exact uU λhr=>h (by simp[hr])
def aMW (r r':Rec):Prop:=
 (∀s,r'.dst=some s->s∈r.rd->r'.ix∈r.dep\/r.ix∈r'.dep)/\(∀s,r.dst=some s->s∈r'.rd->r.ix∈r'.dep\/r'.ix∈r.dep)/\∀s,r.dst=some s->r'.dst≠some s
theorem aMW.symm (h:aMW r r'):aMW r' r:=⟨h.2.1,h.1,λs h1 h2=>h.2.2 s h2 h1⟩
structure Inv (N:Nat) (dep:Nat->List Nat) (bf:List Nat) (T0:Tm) (M0:Mm) (rs:List Rec) (p:Nat->Bool) (ρ:Env) (a:Act) (w:World):Prop where
 wf:wfM M0 rs
 uniq:∀r∈rs,∀r'∈rs,r.ix=r'.ix->r=r'
 bfs:∀r∈rs,r.ix∈bf
 done:∀j,p j=true->j∈bf
 base:∀j∈bf,p j=true\/∃r∈rs,r.ix=j
 clos:∀j,p j=true->∀k∈dep j,p k=true
 deps:∀r∈rs,r.dep=dep r.ix
 trans:∀r∈rs,∀k∈r.dep,∀j∈dep k,j∈r.dep
 irr:∀r∈rs,r.ix∉r.dep
 below:∀r∈rs,∀k∈r.dep,k∈bf
 small:∀r∈rs,∀d,r.dst=some d->d<N
 pairs:∀r∈rs,∀r'∈rs,r.ix≠r'.ix->aMW r r'
 safe:∀x∈rs,∀k∈rs,k.ix∉x.dep->x.ix∉k.dep->k.ix≠x.ix->∀a,zG k.new a=some .dead->zG (zrM (inB x.dep) M0 rs) a=none
 kill:∀k∈rs,∀a,zG k.new a=some .dead->∃e0,zG (zrM (inB k.dep) M0 rs) a=some e0
 mem:zF ρ (zrM p M0 rs) w
 sz:a.tmps.size=N
 defers:a.defers=[]
 t0:∀s,nL M0 (zX T0 s)
 m0:∀b e,zG M0 b=some e->mA M0 e
 slot0:∀s,(∀r∈rs,p r.ix=true->r.dst≠some s)->zRT ρ (zX T0 s) (a.tmps.getD s undef)
 slotr:∀r∈rs,p r.ix=true->(∀d,r.dst=some d->zRT ρ r.v (a.tmps.getD d undef)/\nL (zrM (kY (inB r.dep) r.ix) M0 rs) r.v)/\
  ∀b e,zG r.new b=some e->mA (zrM (kY (inB r.dep) r.ix) M0 rs) e
section
variable {N:Nat} {dep:Nat->List Nat} {bf:List Nat} {T0:Tm} {M0:Mm} {rs:List Rec} {p:Nat->Bool} {ρ:Env} {a:Act} {w:World}
theorem Inv.closed (I:Inv N dep bf T0 M0 rs p ρ a w):wB rs p:=λx hx hp k hk=>I.clos x.ix hp k (by rw[<-I.deps x hx];exact hk)
theorem Inv.sees (I:Inv N dep bf T0 M0 rs p ρ a w) (hd:∀k∈dp,p k=true) (ht:∀k∈dp,∀j∈dep k,j∈dp)
  (hrd:∀r∈rs,∀s,r.dst=some s->s∈rd->p r.ix=true->r.ix∈dp)
  (hsf:∀k∈rs,p k.ix=true->k.ix∉dp->∀a,zG k.new a=some .dead->zG (zrM (inB dp) M0 rs) a=none):
  Sub (zrM (inB dp) M0 rs) (zrM p M0 rs)/\aZ N (ρ.lim (zrM (inB dp) M0 rs)) (zre (dM (inB dp) T0 rs) rd) (zrM (inB dp) M0 rs) a w:=by
 have hin:∀{j},inB dp j=true->j∈dp:=λ{j} h=>zmi.1 h
 have up:∀r∈rs,r.ix∈dp->∀b e,zG (zrM (kY (inB r.dep) r.ix) M0 rs) b=some e->∃e',zG (zrM (inB dp) M0 rs) b=some e':=by
  intro r hr hrd' b e he
  refine pH (λr' hr' h=>?_) ⟨e,he⟩
  rcases an h with h|h
  ·rw[h];exact zmi.2 hrd'
  have:=zmi.1 h
  rw[I.deps r hr]at this
  exact zmi.2 (ht r.ix hrd' _ this)
 have hs:Sub (zrM (inB dp) M0 rs) (zrM p M0 rs):=by
  refine⟨λb e he=>ua I.wf (λr _ h=>hd _ (hin h)) (λk hk h1 h2=>hsf k hk h1 (qB h2)) he,λb e he=>?_⟩
  rcases jK he with h|⟨r,h1,h2,h3⟩
  ·exact(I.m0 b e h).mono λb e h=>dq h
  exact((I.slotr r h1 (hd _ (hin h2))).2 b e h3).mono (up r h1 (hin h2))
 refine⟨hs,hs.conc I.mem,I.sz,I.defers,λs=>?_⟩
 by_cases hsr:s∈rd
 ·rw[uV hsr]
  rcases oA (p:=inB dp) (T0:=T0) rs s with⟨r,h1,h2,h3,h4⟩|⟨h1,h2⟩
  ·rw[h4]
   obtain⟨k1,k2⟩:=(I.slotr r h1 (hd _ (hin h2))).1 s h3
   exact(k2.mono (up r h1 (hin h2))).rel k1
  rw[h2]
  refine((I.t0 s).mono λb e h=>dq h).rel (I.slot0 s λr hr hp hds=>?_)
  exact h1 r hr (zmi.2 (hrd r hr s hds hsr hp)) hds
 rw[uU hsr];exact zR trivial
theorem Inv.mark (I:Inv N dep bf T0 M0 rs p ρ a w) (hr:r∈rs) (hi:p r.ix=false) (hd:∀k∈r.dep,p k=true)
  (ha:a'.tmps=(a.put r.dst x).tmps) (hdf:a'.defers=[]) (hle:ρ.le ρ') (hx:∀d,r.dst=some d->zRT ρ' r.v x/\nL (r.new++zrM (inB r.dep) M0 rs) r.v)
  (hn:∀b e,zG r.new b=some e->mA (r.new++zrM (inB r.dep) M0 rs) e) (hm:zF ρ' (r.new++zrM p M0 rs) w'):
  Inv N dep bf T0 M0 rs (kY p r.ix) ρ' a' w':=by
 have hself:inB r.dep r.ix=false:=by
  cases h:inB r.dep r.ix with
  |false=>rfl
  |true=>exact absurd (zmi.1 h) (I.irr r hr)
 have hup:∀b e,zG (r.new++zrM (inB r.dep) M0 rs) b=some e->∃e',zG (zrM (kY (inB r.dep) r.ix) M0 rs) b=some e':=λb e h=>
  by
   cases hx:zG r.new b with
   |some e'=>exact eu hr (bE _ _) hx
   |none=>
    rw[zao hx]at h
    exact pH (λ_ _ h=>aO h) ⟨e,h⟩
 have hput:∀s,r.dst≠some s->a'.tmps.getD s undef=a.tmps.getD s undef:=by
  intro s hs
  rw[ha]
  unfold Act.put
  cases hd:r.dst with
  |none=>rfl
  |some d=>
   have hne:d≠s:=λe=>hs (by rw[hd,e])
   simp only[getD_eq_getD_getElem?]
   rw[Array.getElem?_setIfInBounds_ne hne]
 have hput2:∀s,r.dst=some s->a'.tmps.getD s undef=x:=by
  intro s hs
  rw[ha]
  have hlt:=I.small r hr s hs
  unfold Act.put
  rw[hs]
  simp only[getD_eq_getD_getElem?]
  rw[Array.getElem?_setIfInBounds_self_of_lt (by rw[I.sz];exact hlt)]
  rfl
 exact {
  wf:=I.wf,uniq:=I.uniq,bfs:=I.bfs,deps:=I.deps,trans:=I.trans,irr:=I.irr,below:=I.below,small:=I.small,pairs:=I.pairs,safe:=I.safe,kill:=I.kill,t0:=I.t0,m0:=I.m0,defers:=hdf
  done:=λj hj=>(an hj).elim (λh=>by rw[h];exact I.bfs r hr) (I.done j)
  base:=λj hj=>(I.base j hj).imp aO id
  clos:=λj hj k hk=>by
   rcases an hj with h|h
   ·subst h
    rw[<-I.deps r hr]at hk
    exact aO (hd k hk)
   exact aO (I.clos j h k hk)
  mem:=hm.congr λb=>(ko I.wf I.uniq I.closed hr hi b).symm
  sz:=by
   rw[ha]
   unfold Act.put
   cases r.dst with
   |none=>exact I.sz
   |some d=>simp only[Array.size_setIfInBounds];exact I.sz
  slot0:=λs hs=>by
   have h1:=hs r hr (bE _ _)
   rw[hput s h1]
   exact(I.slot0 s λr' hr' hp'=>hs r' hr' (aO hp')).le hle
  slotr:=λr' hr' hp'=>by
   rcases an hp' with h|h
   ·have:=I.uniq r' hr' r hr h;subst this
    refine⟨λd hds=>?_,λb e he=>(hn b e he).mono hup⟩
    rw[hput2 d hds]
    exact⟨(hx d hds).1,(hx d hds).2.mono hup⟩
   have hne:r'.ix≠r.ix:=λe=>by rw[e,hi]at h;cases h
   obtain⟨k1,k2⟩:=I.slotr r' hr' h
   refine⟨λd hds=>?_,k2⟩
   rw[hput d ((I.pairs r' hr' r hr hne).2.2 d hds)]
   exact⟨(k1 d hds).1.le hle,(k1 d hds).2⟩}
theorem Inv.push (I:Inv N dep bf T0 M0 rs p ρ a w) (hb:r.ix∉bf) (hdep:r.dep=dep r.ix) (ht:∀k∈r.dep,∀j∈dep k,j∈r.dep) (hbl:∀k∈r.dep,k∈bf)
  (hsm:∀d,r.dst=some d->d<N) (hpr:∀r'∈rs,aMW r r') (hfr:aP0 M0 rs r)
  (hsf:∀k∈rs,k.ix∉r.dep->∀a,zG k.new a=some .dead->zG (zrM (inB r.dep) M0 rs) a=none):
  Inv N dep (r.ix::bf) T0 M0 (r::rs) p ρ a w:=by
 have hp:p r.ix=false:=by
  cases h:p r.ix with
  |false=>rfl
  |true=>exact absurd (I.done _ h) hb
 have hne:∀r'∈rs,r'.ix≠r.ix:=λr' hr' e=>hb (by rw[<-e];exact I.bfs r' hr')
 have hM:∀r'∈rs,zrM (kY (inB r'.dep) r'.ix) M0 (r::rs)=zrM (kY (inB r'.dep) r'.ix) M0 rs:=by
  intro r' hr'
  have h1:kY (inB r'.dep) r'.ix r.ix=false:=by
   rw[mY (hne r' hr').symm]
   cases h:inB r'.dep r.ix with
   |false=>rfl
   |true=>exact absurd (I.below r' hr' _ (zmi.1 h)) hb
  simp only[zrM,h1,zcF]
 have hV:∀x∈r::rs,zrM (inB x.dep) M0 (r::rs)=zrM (inB x.dep) M0 rs:=by
  intro x hx
  have h1:inB x.dep r.ix=false:=by
   rcases List.mem_cons.1 hx with rfl|hx
   ·exact qA λh=>hb (hbl _ h)
   exact qA λh=>hb (I.below x hx _ h)
  simp only[zrM,h1,zcF]
 exact {
  wf:=⟨hfr,I.wf⟩
  safe:=λx hx k hk h1 h2 h3 b hkb=>by
   rw[hV x hx]
   rcases List.mem_cons.1 hx with hx'|hx'
   ·rcases List.mem_cons.1 hk with hk'|hk'
    ·exact absurd (by rw[hk',hx']) h3
    subst hx';exact hsf k hk' h1 b hkb
   rcases List.mem_cons.1 hk with hk'|hk'
   ·subst hk'
    rcases hfr b .dead hkb with h4|⟨_,_,h4⟩
    ·exact absurd rfl h4.2.2
    exact(h4 x hx' h2).2
   exact I.safe x hx' k hk' h1 h2 h3 b hkb
  kill:=λk hk b hkb=>by
   rw[hV k hk]
   rcases List.mem_cons.1 hk with hk'|hk'
   ·subst hk'
    rcases hfr b .dead hkb with h4|⟨_,h4,_⟩
    ·exact absurd rfl h4.2.2
    exact h4
   exact I.kill k hk' b hkb
  uniq:=λx hx y hy e=>by
   rcases List.mem_cons.1 hx with hx'|hx'
   ·rcases List.mem_cons.1 hy with hy'|hy'
    ·rw[hx',hy']
    exact absurd (by rw[<-e,hx']) (hne y hy')
   rcases List.mem_cons.1 hy with hy'|hy'
   ·exact absurd (by rw[e,hy']) (hne x hx')
   exact I.uniq x hx' y hy' e
  bfs:=λx hx=>by
   rcases List.mem_cons.1 hx with rfl|hx
   ·simp
   exact mem_cons_of_mem _ (I.bfs x hx)
  done:=λj hj=>mem_cons_of_mem _ (I.done j hj)
  base:=λj hj=>by
   rcases List.mem_cons.1 hj with rfl|hj
   ·exact Or.inr ⟨r,by simp,rfl⟩
   exact(I.base j hj).imp id λ⟨r',h1,h2⟩=>⟨r',mem_cons_of_mem _ h1,h2⟩
  clos:=I.clos
  deps:=λx hx=>by
   rcases List.mem_cons.1 hx with rfl|hx
   ·exact hdep
   exact I.deps x hx
  trans:=λx hx=>by
   rcases List.mem_cons.1 hx with rfl|hx
   ·exact ht
   exact I.trans x hx
  irr:=λx hx=>by
   rcases List.mem_cons.1 hx with rfl|hx
   ·exactλh=>hb (hbl _ h)
   exact I.irr x hx
  below:=λx hx k hk=>by
   rcases List.mem_cons.1 hx with rfl|hx
   ·exact mem_cons_of_mem _ (hbl k hk)
   exact mem_cons_of_mem _ (I.below x hx k hk)
  small:=λx hx=>by
   rcases List.mem_cons.1 hx with rfl|hx
   ·exact hsm
   exact I.small x hx
  pairs:=λx hx y hy e=>by
   rcases List.mem_cons.1 hx with hx'|hx'
   ·rcases List.mem_cons.1 hy with hy'|hy'
    ·exact absurd (by rw[hx',hy']) e
    rw[hx'];exact hpr y hy'
   rcases List.mem_cons.1 hy with hy'|hy'
   ·rw[hy'];exact(hpr x hx').symm
   exact I.pairs x hx' y hy' e
  mem:=by simp only[zrM,hp,zcF];exact I.mem
  sz:=I.sz
  defers:=I.defers
  t0:=I.t0
  m0:=I.m0
  slot0:=λs hs=>I.slot0 s λr' hr'=>hs r' (mem_cons_of_mem _ hr')
  slotr:=λx hx hpx=>by
   rcases List.mem_cons.1 hx with rfl|hx
   ·rw[hp]at hpx;cases hpx
   rw[hM x hx];exact I.slotr x hx hpx}
theorem Inv.outP (I:Inv N dep bf T0 M0 rs p ρ a w):aZ N ρ (dM p T0 rs) (zrM p M0 rs) a w:=by
 refine⟨I.mem,I.sz,I.defers,λs=>?_⟩
 rcases oA (p:=p) (T0:=T0) rs s with⟨r,h1,h2,h3,h4⟩|⟨h1,h2⟩
 ·rw[h4];exact((I.slotr r h1 h2).1 s h3).1
 rw[h2];exact I.slot0 s λr hr hp=>h1 r hr hp
theorem Inv.out (I:Inv N dep bf T0 M0 rs p ρ a w) (h:∀r∈rs,p r.ix=true):aZ N ρ (dM jo T0 rs) (zrM jo M0 rs) a w:=by
 have hM:zrM p M0 rs=zrM jo M0 rs:=fG λr hr=>by rw[h r hr];rfl
 refine⟨hM▸I.mem,I.sz,I.defers,λs=>?_⟩
 rcases oA (p:=jo) (T0:=T0) rs s with⟨r,h1,h2,h3,h4⟩|⟨h1,h2⟩
 ·rw[h4];exact((I.slotr r h1 (h r h1)).1 s h3).1
 rw[h2];exact I.slot0 s λr hr _=>h1 r hr rfl
theorem Inv.start (hc:aZ N ρ T0 M0 a w) (hb:∀j,p j=true↔j∈bf) (hcl:∀j,p j=true->∀k∈dep j,p k=true):Inv N dep bf T0 M0 [] p ρ a w where
 wf:=trivial
 uniq:=by simp
 bfs:=by simp
 done j h:=(hb j).1 h
 base j h:=Or.inl ((hb j).2 h)
 clos:=hcl
 deps:=by simp
 trans:=by simp
 irr:=by simp
 below:=by simp
 small:=by simp
 pairs:=by simp
 safe:=by simp
 kill:=by simp
 mem:=hc.tozF
 sz:=hc.sz
 defers:=hc.defers
 t0 s:=hc.tozF.toldT (hc.tm s)
 m0 b e h:=hc.tozF.told h
 slot0 s _:=hc.tm s
 slotr:=by simp
end
def cC (dp:List Nat) (rs:List Rec):List Rec:=
 match rs with
 |[]=>[]
 |r::q=>⟨r.ix,r.dst,r.v,bif eY r.ix dp then[]else r.new,r.dep,r.rd⟩::cC dp q
theorem al:∀{rs:List Rec},r∈cC dp rs->∃r0∈rs,r.ix=r0.ix/\r.dst=r0.dst/\r.v=r0.v/\r.dep=r0.dep/\r.rd=r0.rd/\((r.ix∈dp/\r.new=[])\/(r.ix∉dp/\r=r0))
 |[],h=>by simp[cC]at h
 |x::q,h=>by
  simp only[cC,List.mem_cons]at h
  rcases h with h|h
  ·refine⟨x,by simp,?_⟩
   subst h
   refine⟨rfl,rfl,rfl,rfl,rfl,?_⟩
   by_cases hm:x.ix∈dp
   ·refine Or.inl ⟨hm,?_⟩
    show(bif eY x.ix dp then[]else x.new)=[]
    rw[zmi.2 hm,zcT]
   refine Or.inr ⟨hm,?_⟩
   have:eY x.ix dp=false:=qA hm
   simp only[this,zcF]
  obtain⟨r0,h1,h2⟩:=al h
  exact⟨r0,mem_cons_of_mem _ h1,h2⟩
theorem oH:∀{rs:List Rec},r∈rs->∃r1∈cC dp rs,r1.ix=r.ix/\r1.dst=r.dst/\r1.v=r.v/\r1.dep=r.dep/\r1.rd=r.rd/\(r.ix∉dp->r1=r)
 |[],h=>by simp at h
 |x::q,h=>by
  simp only[cC]
  rcases List.mem_cons.1 h with h|h
  ·subst h
   refine⟨_,List.mem_cons_self,rfl,rfl,rfl,rfl,rfl,λhm=>?_⟩
   have:eY r.ix dp=false:=qA hm
   simp only[this,zcF]
  obtain⟨r1,h1,h2⟩:=oH h
  exact⟨r1,mem_cons_of_mem _ h1,h2⟩
def je (dp:List Nat) (q:Nat->Bool) (j:Nat):Bool:=q j&& !eY j dp
theorem jM (a:Nat):∀{rs:List Rec},zG (zrM q B (cC dp rs)) a=zG (zrM (je dp q) [] rs++B) a
 |[]=>rfl
 |r::t=>by
  have ih:=jM (dp:=dp) (q:=q) (B:=B) a (rs:=t)
  simp only[cC,zrM,je]
  cases hq:q r.ix with
  |false=>simp only[zcF,Bool.false_and];exact ih
  |true=>
   cases hm:eY r.ix dp with
   |true=>
    simp only[zcT,Bool.true_and,Bool.not_true,zcF,List.nil_append];exact ih
   |false=>
    simp only[zcT,Bool.true_and,Bool.not_false,zcF,List.append_assoc]
    rw[aU,aU,ih]
theorem nz (h:zG (zrM (je dp q) [] rs) a=some e):∃r∈rs,q r.ix=true/\r.ix∉dp/\zG r.new a=some e:=by
 rcases jK h with h|⟨r,h1,h2,h3⟩
 ·simp[zG]at h
 simp only[je,zbA,Bool.not_eq_true']at h2
 exact⟨r,h1,h2.1,qB h2.2,h3⟩
theorem pG (hq:∀j∈dp,q j=true) (a:Nat):∀{rs:List Rec} (_:wfM M0 rs) (_:∀x∈rs,x.ix∈dp->∀k∈x.dep,k∈dp),zG (zrM q M0 rs) a=zG (zrM (je dp q) [] rs++zrM (inB dp) M0 rs) a
 |[],_,_=>rfl
 |r::t,hw,hc=>by
  have ih:=pG hq a hw.2 (λx hx=>hc x (mem_cons_of_mem _ hx))
  simp only[zrM,je,inB]
  cases hm:eY r.ix dp with
  |true=>
   simp only[hq _ (zmi.1 hm),Bool.not_true,Bool.and_false,zcF,zcT]
   cases hx:zG r.new a with
   |none=>rw[zao hx,ih,aU,aU,zao hx]
   |some e=>
    have hn:zG (zrM (je dp q) [] t) a=none:=by
     cases hy:zG (zrM (je dp q) [] t) a with
     |none=>rfl
     |some e'=>
      obtain⟨x,h1,_,h3,h4⟩:=nz hy
      rcases hw.1 a e hx with h5|⟨_,_,h5⟩
      ·obtain⟨e2,he2⟩:=eu (M0:=M0) (p:=jo) h1 rfl h4
       rw[h5.1]at he2;cases he2
      by_cases hd:x.ix∈r.dep
      ·exact absurd (hc r (by simp) (zmi.1 hm) _ hd) h3
      rw[(h5 x h1 hd).1]at h4;cases h4
    rw[zan hx,zao hn,zan hx]
  |false=>
   cases hq':q r.ix with
   |false=>simp only[Bool.false_and,zcF];exact ih
   |true=>
    simp only[Bool.not_false,Bool.and_true,zcT,zcF,List.append_assoc]
    rw[aU,aU,ih]
section
variable {N:Nat} {dep:Nat->List Nat} {bf:List Nat} {T0:Tm} {M0:Mm} {rs:List Rec} {p:Nat->Bool} {ρ:Env} {a:Act} {w:World}
theorem Inv.turn (I:Inv N dep bf T0 M0 rs p ρ a w) (hr:r∈rs) (hi:p r.ix=false) (hd:∀k∈r.dep,p k=true) (hnew:r.new=[])
  (hE:∀b e,zG E b=some e->∀x∈rs,x.ix∉r.dep->zG x.new b=none) (hnd:∀x∈rs,x.ix∉r.dep->∀b,zG x.new b≠some .dead)
  (ha:a'.tmps=(a.put r.dst x).tmps) (hdf:a'.defers=[]) (hle:ρ.le ρ') (hx:∀d,r.dst=some d->zRT ρ' r.v x/\nL (E++zrM (inB r.dep) M0 rs) r.v)
  (hn:∀b e,zG E b=some e->mA (E++zrM (inB r.dep) M0 rs) e) (ht:∀b e,zG (zrM (inB r.dep) M0 rs) b=some e->mA (zrM (inB r.dep) M0 rs) e) (hm:zF ρ' (E++zrM p M0 rs) w'):
  Inv N dep bf T0 (E++zrM (inB r.dep) M0 rs) (cC r.dep rs) (kY p r.ix) ρ' a' w':=by
 have hself:r.ix∉r.dep:=I.irr r hr
 have hcl:∀x∈rs,x.ix∈r.dep->∀k∈x.dep,k∈r.dep:=λx hx hxd k hk=>by rw[I.deps x hx]at hk;exact I.trans r hr _ hxd k hk
 have hput:∀s,r.dst≠some s->a'.tmps.getD s undef=a.tmps.getD s undef:=by
  intro s hs
  rw[ha]
  unfold Act.put
  cases hd:r.dst with
  |none=>rfl
  |some d=>
   have hne:d≠s:=λe=>hs (by rw[hd,e])
   simp only[getD_eq_getD_getElem?]
   rw[Array.getElem?_setIfInBounds_ne hne]
 have hput2:∀s,r.dst=some s->a'.tmps.getD s undef=x:=by
  intro s hs
  rw[ha]
  have hlt:=I.small r hr s hs
  unfold Act.put
  rw[hs]
  simp only[getD_eq_getD_getElem?]
  rw[Array.getElem?_setIfInBounds_self_of_lt (by rw[I.sz];exact hlt)]
  rfl
 have base:∀b e,zG (zrM (inB r.dep) M0 rs) b=some e->∃e',zG (E++zrM (inB r.dep) M0 rs) b=some e':=λb e he=>by
  cases hx:zG E b with
  |some e'=>exact⟨e',zan hx⟩
  |none=>exact⟨e,by rw[zao hx];exact he⟩
 have up:∀(q:Nat->Bool) b e,zG (zrM q M0 rs) b=some e->∃e',zG (zrM q (E++zrM (inB r.dep) M0 rs) (cC r.dep rs)) b=some e':=by
  intro q b e he
  have ofB:(∃e,zG (E++zrM (inB r.dep) M0 rs) b=some e)->∃e',zG (zrM q (E++zrM (inB r.dep) M0 rs) (cC r.dep rs)) b=some e':=λ⟨e,h⟩=>dq h
  rcases jK he with h|⟨y,h1,h2,h3⟩
  ·obtain⟨e',h'⟩:=dq (rs:=rs) (p:=inB r.dep) h
   exact ofB (base b e' h')
  by_cases hy:y.ix∈r.dep
  ·obtain⟨e',h'⟩:=eu (M0:=M0) (p:=inB r.dep) h1 (zmi.2 hy) h3
   exact ofB (base b e' h')
  obtain⟨y1,k1,k2,_,_,_,_,k3⟩:=oH (dp:=r.dep) h1
  have:=k3 hy
  subst this
  exact eu k1 h2 h3
 have up0:∀b e,zG M0 b=some e->∃e',zG (E++zrM (inB r.dep) M0 rs) b=some e':=λb e he=>by
  obtain⟨e',h'⟩:=dq (rs:=rs) (p:=inB r.dep) he
  exact base b e' h'
 have clsd:wB rs (inB r.dep):=λy hy hyd k hk=>zmi.2 (hcl y hy (zmi.1 hyd) k hk)
 have fresh:∀y∈rs,y.ix∉r.dep->∀b e,zG y.new b=some e->zG (E++zrM (inB r.dep) M0 rs) b=none:=by
  intro y hy hyd b e he
  have h1:zG E b=none:=by
   cases h:zG E b with
   |none=>rfl
   |some e'=>rw[hE b e' h y hy hyd]at he;cases he
  rw[zao h1]
  exact jL I.wf hy (qA hyd) clsd (λh=>hnd y hy hyd b (by rw[he,h])) he
 have wf:∀{t:List Rec},(∀y∈t,y∈rs)->wfM M0 t->wfM (E++zrM (inB r.dep) M0 rs) (cC r.dep t):=by
  intro t
  induction t with
  |nil=>intro _ _;trivial
  |cons y q ih=>
   intro hin hw
   refine⟨λb e he=>?_,ih (λz hz=>hin z (mem_cons_of_mem _ hz)) hw.2⟩
   simp only at he
   cases hm:eY y.ix r.dep with
   |true=>rw[hm,zcT]at he;simp[zG]at he
   |false=>
    rw[hm,zcF]at he
    have hyd:y.ix∉r.dep:=qB hm
    have hne:e≠ .dead:=λh=>hnd y (hin y (by simp)) hyd b (by rw[he,h])
    rcases hw.1 b e he with h1|⟨h1,_⟩
    ·refine Or.inl ⟨?_,h1.2⟩
     rw[jM]
     rw[zao]
     ·exact fresh y (hin y (by simp)) hyd b e he
     cases hz:zG (zrM (je r.dep jo) [] q) b with
     |none=>rfl
     |some e'=>
      obtain⟨z,k1,_,k3,k4⟩:=nz hz
      obtain⟨e2,he2⟩:=eu (M0:=M0) (p:=jo) k1 rfl k4
      rw[h1.1]at he2;cases he2
    exact absurd h1 hne
 have nodead:∀k∈cC r.dep rs,∀b,zG k.new b≠some .dead:=by
  intro k hk b hb
  obtain⟨k0,h0,_,_,_,_,_,h|h⟩:=al hk
  ·rw[h.2]at hb;simp[zG]at hb
  obtain⟨h1,h2⟩:=h
  subst h2
  exact hnd k h0 h1 b hb
 exact {
  wf:=wf (λ_ h=>h) I.wf
  uniq:=λy hy z hz e=>by
   obtain⟨y0,a1,a2,a3,a4,a5,a6,a7⟩:=al hy
   obtain⟨z0,b1,b2,b3,b4,b5,b6,b7⟩:=al hz
   have:=I.uniq y0 a1 z0 b1 (by rw[<-a2,<-b2,e])
   subst this
   rcases a7 with⟨c1,c2⟩|⟨c1,c2⟩
   ·rcases b7 with⟨d1,d2⟩|⟨d1,d2⟩
    ·cases y;cases z;simp_all
    rw[e]at c1;exact absurd c1 d1
   rcases b7 with⟨d1,d2⟩|⟨d1,d2⟩
   ·rw[<-e]at d1;exact absurd d1 c1
   rw[c2,d2]
  bfs:=λy hy=>by
   obtain⟨y0,a1,a2,_⟩:=al hy
   rw[a2];exact I.bfs y0 a1
  deps:=λy hy=>by
   obtain⟨y0,a1,a2,_,_,a5,_⟩:=al hy
   rw[a2,a5];exact I.deps y0 a1
  trans:=λy hy=>by
   obtain⟨y0,a1,a2,_,_,a5,_⟩:=al hy
   rw[a5];exact I.trans y0 a1
  irr:=λy hy=>by
   obtain⟨y0,a1,a2,_,_,a5,_⟩:=al hy
   rw[a2,a5];exact I.irr y0 a1
  below:=λy hy=>by
   obtain⟨y0,a1,a2,_,_,a5,_⟩:=al hy
   rw[a5];exact I.below y0 a1
  small:=λy hy=>by
   obtain⟨y0,a1,_,a3,_⟩:=al hy
   rw[a3];exact I.small y0 a1
  pairs:=λy hy z hz hne=>by
   obtain⟨y0,a1,a2,a3,a4,a5,a6,_⟩:=al hy
   obtain⟨z0,b1,b2,b3,b4,b5,b6,_⟩:=al hz
   have:=I.pairs y0 a1 z0 b1 (by rw[<-a2,<-b2];exact hne)
   unfold aMW at this⊢
   rw[a2,a3,a5,a6,b2,b3,b5,b6];exact this
  safe:=λy _ k hk _ _ _ b hb=>absurd hb (nodead k hk b)
  kill:=λk hk b hb=>absurd hb (nodead k hk b)
  t0:=λs=>(I.t0 s).mono up0
  m0:=λb e he=>by
   cases hx:zG E b with
   |some e'=>
    rw[zan hx]at he
    simp only[zoI]at he;subst he
    exact hn b e' hx
   |none=>
    rw[zao hx]at he
    exact(ht b e he).mono base
  defers:=hdf
  done:=λj hj=>(an hj).elim (λh=>by rw[h];exact I.bfs r hr) (I.done j)
  base:=λj hj=>by
   rcases I.base j hj with h|⟨y,h1,h2⟩
   ·exact Or.inl (aO h)
   obtain⟨y1,k1,k2,_⟩:=oH (dp:=r.dep) h1
   exact Or.inr ⟨y1,k1,by rw[k2,h2]⟩
  clos:=λj hj k hk=>by
   rcases an hj with h|h
   ·subst h
    rw[<-I.deps r hr]at hk
    exact aO (hd k hk)
   exact aO (I.clos j h k hk)
  mem:=by
   refine hm.congr λb=>?_
   rw[jM]
   have h1:zrM (kY p r.ix) M0 rs=zrM (kY p r.ix) M0 rs:=rfl
   have h2:=ko I.wf I.uniq I.closed hr hi b
   rw[hnew,List.nil_append]at h2
   have h3:=pG (M0:=M0) (dp:=r.dep) (q:=kY p r.ix) (λj hj=>aO (hd j hj)) b I.wf hcl
   cases hx:zG E b with
   |some e=>
    rw[zan hx,zao,zan hx]
    cases hy:zG (zrM (je r.dep (kY p r.ix)) [] rs) b with
    |none=>rfl
    |some e'=>
     obtain⟨z,k1,_,k3,k4⟩:=nz hy
     rw[hE b e hx z k1 k3]at k4;cases k4
   |none=>
    rw[zao hx,<-h2,h3,aU,aU,zao hx]
  sz:=by
   rw[ha]
   unfold Act.put
   cases r.dst with
   |none=>exact I.sz
   |some d=>simp only[Array.size_setIfInBounds];exact I.sz
  slot0:=λs hs=>by
   have hs':∀y∈rs,kY p r.ix y.ix=true->y.dst≠some s:=λy hy hp=>by
    obtain⟨y1,k1,k2,k3,_⟩:=oH (dp:=r.dep) hy
    rw[<-k3];exact hs y1 k1 (by rw[k2];exact hp)
   have h1:=hs' r hr (bE _ _)
   rw[hput s h1]
   exact(I.slot0 s λr' hr' hp'=>hs' r' hr' (aO hp')).le hle
  slotr:=λy hy hp'=>by
   obtain⟨y0,a1,a2,a3,a4,a5,a6,a7⟩:=al hy
   rw[a2]at hp'
   rw[a2,a3,a4,a5]
   have hnews:∀b e,zG y.new b=some e->zG y0.new b=some e:=λb e he=>by
    rcases a7 with⟨_,h⟩|⟨_,h⟩
    ·rw[h]at he;simp[zG]at he
    rw[<-h];exact he
   rcases an hp' with h|h
   ·have:=I.uniq y0 a1 r hr h;subst this
    refine⟨λd hds=>?_,λb e he=>?_⟩
    ·rw[hput2 d hds]
     refine⟨(hx d hds).1,(hx d hds).2.mono λb e he=>dq he⟩
    have:=hnews b e he
    rw[hnew]at this;simp[zG]at this
   have hne:y0.ix≠r.ix:=λe=>by rw[e,hi]at h;cases h
   obtain⟨k1,k2⟩:=I.slotr y0 a1 h
   refine⟨λd hds=>?_,λb e he=>(k2 b e (hnews b e he)).mono (up _)⟩
   rw[hput d ((I.pairs y0 a1 r hr hne).2.2 d hds)]
   exact⟨(k1 d hds).1.le hle,(k1 d hds).2.mono (up _)⟩}
end
end Go.Sx
