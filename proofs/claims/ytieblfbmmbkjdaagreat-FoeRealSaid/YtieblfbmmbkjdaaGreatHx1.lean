/- Executor, part 1. No condition. -/
import Derived.Orders
import Derived.StillTail
import Derived.Below
import Derived.Laws.StructEq
import Derived.Laws.Bits
import Derived.Laws.BytesString
import Derived.Laws.Strings
import Derived.Laws.Small
import Derived.Laws.Pointers
import Derived.Laws.Concat
set_option linter.unusedSimpArgs false
set_option linter.unusedVariables false
set_option autoImplicit true
set_option relaxedAutoImplicit true
open Go.Sem (run_pure run_bind)
open Nat (beq ble blt min_eq_left le_refl div_le_self min_eq_right mod_eq_of_lt lt_of_lt_of_le)
open Go.Result (andThen_ok)
open List (drop)
open UInt32 (toNat_ofNat' ofNat ofNat_toNat)
open Bool (false_eq_true)
open Option (isSome_none)
namespace Go.Sx
theorem sB {α:Type _} {β:Type _} {a c:α} {b d:β} (h:some (a,b)=some (c,d)):a=c∧b=d:=by cases h;exact⟨rfl,rfl⟩
theorem sC {α:Type _} {β:Type _} {γ:Type _} {a c:α} {b d:β} {e f:γ} (h:some (a,b,e)=some (c,d,f)):a=c∧b=d∧e=f:=by cases h;exact⟨rfl,rfl,rfl⟩
theorem sD {α:Type _} {β:Type _} {γ:Type _} {δ:Type _} {a c:α} {b d:β} {e f:γ} {g i:δ} (h:some (a,b,e,g)=some (c,d,f,i)):a=c∧b=d∧e=f∧g=i:=by cases h;exact⟨rfl,rfl,rfl,rfl⟩
theorem zoI {α:Type _} {a b:α}:(some a=some b)=(a=b):=Option.some.injEq a b
theorem zpI {α:Type _} {β:Type _} {a c:α} {b d:β}:((a,b)=(c,d))=(a=c∧b=d):=Prod.mk.injEq a b c d
theorem zcT {α:Sort _} (a b:α):cond true a b=a:=rfl
theorem zcF {α:Sort _} (a b:α):cond false a b=b:=rfl
theorem zIn (n:Nat):((n:Int)).toNat=n:=Int.toNat_natCast n
theorem zbA (a b:Bool):((a&&b)=true)=(a=true∧b=true):=Bool.and_eq_true a b
theorem zlT {α:Type _} {i:Nat} {l:List α}:(List.take i l).length=min i l.length:=List.length_take
theorem zlD {α:Type _} {i:Nat} {l:List α}:(drop i l).length=l.length-i:=List.length_drop
theorem zlA {α:Type _} {a b:List α}:(a++b).length=a.length+b.length:=List.length_append
open Go
def iO (w:World) (a:Addr):Bool:=
 match w.heap[a.block]? with
 |some (.cells c _ (lo,hi))=>!(lo==hi||ble c.size lo)
 |_=>false
theorem rA (h:w.cell? ⟨b,o,none⟩=some v) (hh:iO w ⟨b,o,none⟩=false):w.frozen? ⟨b,o,none⟩=false:=by
 unfold World.cell? at h
 unfold iO at hh
 unfold World.frozen?
 simp only at h hh⊢
 cases hb:w.heap[b]? with
 |none=>rfl
 |some x=>
  rw[hb]at h hh
  cases x
  case cells c e fz=>
   obtain⟨lo,hi⟩:=fz
   simp only[isSome_none,false_eq_true,if_false,Bool.not_eq_false',Bool.or_eq_true,beq_iff_eq]at h hh
   have hlt:o<c.size:=(Array.getElem?_eq_some_iff.1 h).1
   simp only[Bool.and_eq_false_iff,decide_eq_false_iff_not]
   rcases hh with hh|hh
   ·omega
   have:=Nat.le_of_ble_eq_true hh
   omega
  all_goals rfl
inductive SV where
 |und
 |tt|ff
 |bool (p:Prop)
 |u8 (x:UInt8)|u16 (x:UInt16)|u32 (x:UInt32)|u64 (x:UInt64)
 |i (k:IntKind) (n:Int)
 |str (l:List UInt8)
 |ptr (a f:Nat) (i:Option Nat)
 |nilp
 |sl (a f i n c:Nat)
 |slx (a f i n:Nat)
 |nsl
 |a8 (l:List UInt8)|a16 (l:List UInt16)|a32 (l:List UInt32)|a64 (l:List UInt64)|ai (l:List Int)
 |fn (f:FuncId) (cap:List (Nat×Nat))
 |mp (a:Nat)
 |nilmp
 |raw (v:Value)
 |isl (q n s:Nat) (ls:List (Nat×SV))
 |iep (f q s:Nat) (ls:List (Nat×SV))
 |ep (a f q s:Nat)
 |arr (n es:Nat) (F:Nat->List (Nat×SV))
 |agg (ls:List (Nat×SV))
 |tup (vs:List SV)
structure Env where
 dom:Nat->Prop
 pos:Nat->Nat×Nat
 imm:Nat->Nat->List (Nat×SV)->Prop
def Env.bare (ρ:Env):Env:=⟨λ_=>False,λ_=>(0,0),ρ.imm⟩
def Env.addr (ρ:Env) (a f i:Nat):Addr:=⟨(ρ.pos a).1,(ρ.pos a).2+(f+i),none⟩
structure Env.le (ρ ρ':Env):Prop where
 dm:∀a,ρ.dom a->ρ'.dom a/\ρ'.pos a=ρ.pos a
 im:∀b o ls,ρ.imm b o ls->ρ'.imm b o ls
instance (ρ ρ':Env):CoeFun (Env.le ρ ρ') (fun _=>∀ a,ρ.dom a->ρ'.dom a/\ρ'.pos a = ρ.pos a):=⟨Env.le.dm⟩
theorem Env.le_refl (ρ:Env):ρ.le ρ:=⟨λ_ h=>⟨h,rfl⟩,λ_ _ _ h=>h⟩
theorem Env.le_trans {a b c:Env} (h:a.le b) (k:b.le c):a.le c:=
 ⟨λx hx=>⟨(k x (h x hx).1).1,((k x (h x hx).1).2).trans (h x hx).2⟩,λb o ls hi=>k.im b o ls (h.im b o ls hi)⟩
theorem Env.bare_le (ρ:Env):ρ.bare.le ρ:=⟨λ_ h=>h.elim,λ_ _ _ h=>h⟩
theorem Env.bare_mono {ρ ρ':Env} (h:∀b o ls,ρ.imm b o ls->ρ'.imm b o ls):ρ.bare.le ρ'.bare:=⟨λ_ h=>h.elim,h⟩
theorem Env.bare_any {ρ ρ':Env} (h:∀b o ls,ρ.imm b o ls->ρ'.imm b o ls):ρ.bare.le ρ':=⟨λ_ h=>h.elim,h⟩
theorem Env.addr_le {ρ ρ':Env} (h:ρ.le ρ') {a:Nat} (ha:ρ.dom a) (f i:Nat):ρ'.addr a f i=ρ.addr a f i:=by
 unfold Env.addr;rw[(h a ha).2]
def w8 (x:UInt8):Value:=.int .u8 (x.toNat:Int)
def w16 (x:UInt16):Value:=.int .u16 (x.toNat:Int)
def w32 (x:UInt32):Value:=.int .u32 (x.toNat:Int)
def w64 (x:UInt64):Value:=.int .u64 (x.toNat:Int)
def wi (n:Int):Value:=.int .i64 n
def aZV:SV->Prop
 | .a8 l=>l=[]| .a16 l=>l=[]| .a32 l=>l=[]| .a64 l=>l=[]| .ai l=>l=[]
 | .arr n _ _=>n=0
 |_=>False
def aJH:List (Nat×SV)->Prop
 |[]=>True
 |(s,v)::r=>s=0/\aZV v/\aJH r
def zL:List (Nat×SV)->Nat
 |[]=>0
 |(s,_)::r=>s+zL r
def aU0:SV->Bool
 | .arr _ _ _=>false
 |_=>true
def tP:List (Nat×SV)->Bool
 |[]=>true
 |(_,v)::r=>aU0 v&&tP r
theorem lW:∀{a b:List (Nat×SV)},tP (a++b)=true->tP a=true/\tP b=true
 |[],_,h=>⟨rfl,h⟩
 |(_,v)::r,b,h=>by
  simp only[List.cons_append,tP,zbA]at h⊢
  exact⟨⟨h.1,(lW h.2).1⟩,(lW h.2).2⟩
def Env.immO (ρ:Env) (b o:Nat) (ls:List (Nat×SV)):Prop:=((∃o0 pre post,ρ.imm b o0 (pre++(ls++post))/\o=o0+zL pre)\/
 (tP ls=true/\∃o0 pre0 post0 t m es F q pre post,ρ.imm b o0 (pre0++((t,.arr m es F)::post0))/\q<m/\F q=pre++(ls++post)/\o=o0+zL pre0+q*es+zL pre))\/aJH ls
theorem Env.immO.of {ρ:Env} {b o:Nat} {ls:List (Nat×SV)} (h:ρ.imm b o ls):ρ.immO b o ls:=Or.inl (Or.inl ⟨o,[],[],by simpa using h,rfl⟩)
theorem Env.immO.mono {ρ ρ':Env} (h:∀b o ls,ρ.imm b o ls->ρ'.imm b o ls) {b o:Nat} {ls:List (Nat×SV)} (k:ρ.immO b o ls):ρ'.immO b o ls:=
 k.imp (λk=>k.imp (λ⟨o0,pre,post,h1,h2⟩=>⟨o0,pre,post,h _ _ _ h1,h2⟩) (λ⟨hf,o0,pre0,post0,t,m,es,F,q,pre,post,h1,h2⟩=>⟨hf,o0,pre0,post0,t,m,es,F,q,pre,post,h _ _ _ h1,h2⟩)) id
theorem ba:∀(a b:List (Nat×SV)),zL (a++b)=zL a+zL b
 |[],b=>by simp[zL]
 |(s,v)::r,b=>by simp only[List.cons_append,zL,ba r b];omega
theorem kv:∀{a b:List (Nat×SV)},aJH (a++b)->aJH a/\aJH b
 |[],_,h=>⟨trivial,h⟩
 |(_,_)::_,_,⟨h1,h2,h3⟩=>⟨⟨h1,h2,(kv h3).1⟩,(kv h3).2⟩
theorem Env.immO.part {ρ:Env} {b o:Nat} {pre l0 post:List (Nat×SV)} (h:ρ.immO b o (pre++(l0++post))):ρ.immO b (o+zL pre) l0:=by
 rcases h with(⟨o0,p,q,h1,h2⟩|⟨hf,o0,pre0,post0,t,m,es,F,r,p,q,h1,h2,h3,h4⟩)|h
 ·refine Or.inl (Or.inl ⟨o0,p++pre,post++q,?_,by rw[ba];omega⟩)
  simpa [List.append_assoc]using h1
 ·exact Or.inl (Or.inr ⟨(lW (lW hf).2).1,o0,pre0,post0,t,m,es,F,r,p++pre,post++q,h1,h2,by rw[h3];simp[List.append_assoc],by rw[ba];omega⟩)
 exact Or.inr (kv (kv h).2).1
theorem Env.immO.row {ρ:Env} {b o t m es q:Nat} {F:Nat->List (Nat×SV)} (h:ρ.immO b o [(t,.arr m es F)]) (hq:q<m) (hf:tP (F q)=true):ρ.immO b (o+q*es) (F q):=by
 rcases h with(⟨o0,pre,post,h1,rfl⟩|⟨hf',_⟩)|⟨_,h2,_⟩
 ·exact Or.inl (Or.inr ⟨hf,o0,pre,post,t,m,es,F,q,[],[],h1,hq,by simp,by simp only[zL];omega⟩)
 ·simp[tP,aU0]at hf'
 have:m=0:=h2
 omega
def one:Value->Prop
 | .agg _| .tuple _=>False
 |_=>True
def cg (ρ:Env):SV->Value->Prop
 | .tt,v=>v= .bool true
 | .ff,v=>v= .bool false
 | .bool p,v=>∃b:Bool,v= .bool b/\(b=true↔p)
 | .u8 x,v=>v=w8 x
 | .u16 x,v=>v=w16 x
 | .u32 x,v=>v=w32 x
 | .u64 x,v=>v=w64 x
 | .i k n,v=>v= .int k n
 | .str l,v=>v= .string ⟨l.toArray⟩
 | .ptr a f i,v=>ρ.dom a/\v= .pointer (some (ρ.addr a f (i.getD 0)))
 | .nilp,v=>v= .pointer none
 | .sl a f i n c,v=>ρ.dom a/\n<=c/\∃x,v= .slice x n c/\(c≠0->x=some (ρ.addr a f i))
 | .slx a f i n,v=>ρ.dom a/\∃c x,n<=c/\v= .slice x n c/\(c≠0->x=some (ρ.addr a f i))
 | .nsl,v=>v= .slice none 0 0
 | .fn f cap,v=>(∀p∈cap,ρ.dom p.1)/\v= .func (.func f) #[] (cap.map λp=>Value.pointer (some (ρ.addr p.1 p.2 0))).toArray
 | .mp a,v=>ρ.dom a/\v= .map (some (ρ.pos a).1)
 | .nilmp,v=>v= .map none
 | .raw x,v=>v=x/\one x
 | .isl q n s ls,v=>∃b o c x,ρ.immO b o ls/\n<=c/\v= .slice x n c/\(c≠0->x=some ⟨b,o+q*s,none⟩)
 | .iep f q s ls,v=>∃b o,v= .pointer (some ⟨b,o+(f+q*s),none⟩)/\ρ.immO b o ls
 | .ep a f q s,v=>ρ.dom a/\v= .pointer (some (ρ.addr a f (q*s)))
 |_,_=>False
def fb (ρ:Env):SV->List Value->Prop
 | .a8 l,cs=>cs=l.map w8
 | .a16 l,cs=>cs=l.map w16
 | .a32 l,cs=>cs=l.map w32
 | .a64 l,cs=>cs=l.map w64
 | .ai l,cs=>cs=l.map wi
 |v,cs=>∃x,cg ρ v x/\cs=[x]
def bH (ρ:Env):List (Nat×SV)->List Value->Prop
 |[],cs=>cs=[]
 |(s,v)::r,cs=>∃c1 c2,cs=c1++c2/\c1.length=s/\fb ρ v c1/\bH ρ r c2
def zD (ρ:Env):SV->List Value->Prop
 | .arr n es F,cs=>cs.length=n*es/\∀q,q<n->bH ρ.bare (F q) ((cs.drop (q*es)).take es)
 | .a8 l,cs=>cs=l.map w8
 | .a16 l,cs=>cs=l.map w16
 | .a32 l,cs=>cs=l.map w32
 | .a64 l,cs=>cs=l.map w64
 | .ai l,cs=>cs=l.map wi
 |v,cs=>∃x,cg ρ v x/\cs=[x]
def zC (ρ:Env):List (Nat×SV)->List Value->Prop
 |[],cs=>cs=[]
 |(s,v)::r,cs=>∃c1 c2,cs=c1++c2/\c1.length=s/\zD ρ v c1/\zC ρ r c2
def Rel (ρ:Env):SV->Value->Prop
 | .und,_=>True
 | .a8 l,v=>v= .agg (l.map w8).toArray
 | .a16 l,v=>v= .agg (l.map w16).toArray
 | .a32 l,v=>v= .agg (l.map w32).toArray
 | .a64 l,v=>v= .agg (l.map w64).toArray
 | .ai l,v=>v= .agg (l.map wi).toArray
 | .agg ls,v=>∃cs,zC ρ ls cs/\v= .agg cs.toArray
 |v,x=>cg ρ v x
def nM (ρ:Env):List SV->List Value->Prop
 |[],xs=>xs=[]
 |v::r,xs=>∃x ys,xs=x::ys/\Rel ρ v x/\nM ρ r ys
def zRT (ρ:Env):SV->Value->Prop
 | .tup vs,x=>∃xs,nM ρ vs xs/\x= .tuple xs.toArray
 |v,x=>Rel ρ v x
theorem cg.le {ρ ρ':Env} (h:ρ.le ρ') {v:SV} {x:Value} (r:cg ρ v x):cg ρ' v x:=by
 cases v<;>simp only[cg]at r⊢<;>try exact r
 case ptr a f i=>exact⟨(h _ r.1).1,by rw[r.2,Env.addr_le h r.1]⟩
 case sl a f i n c=>
  obtain⟨h1,h2,x',h3,h4⟩:=r
  exact⟨(h _ h1).1,h2,x',h3,λhc=>by rw[h4 hc,Env.addr_le h h1]⟩
 case slx a f i n=>
  obtain⟨h1,c,x',h2,h3,h4⟩:=r
  exact⟨(h _ h1).1,c,x',h2,h3,λhc=>by rw[h4 hc,Env.addr_le h h1]⟩
 case fn f cap=>
  refine⟨λp hp=>(h _ (r.1 p hp)).1,?_⟩
  rw[r.2]
  congr 2
  refine List.map_congr_left λp hp=>?_
  rw[Env.addr_le h (r.1 p hp)]
 case mp a=>exact⟨(h _ r.1).1,by rw[r.2,(h _ r.1).2]⟩
 case isl q n s ls=>
  obtain⟨b,o,c,x',h0,h1⟩:=r
  exact⟨b,o,c,x',h0.mono h.im,h1⟩
 case iep f q s ls=>
  obtain⟨b,o,e,hi⟩:=r
  exact⟨b,o,e,hi.mono h.im⟩
 case ep a f q s=>exact⟨(h _ r.1).1,by rw[r.2,Env.addr_le h r.1]⟩
theorem fb.le (h:ρ.le ρ') (r:fb ρ v cs):fb ρ' v cs:=by
 cases v<;>simp only[fb]at r⊢<;>first|exact r|(obtain⟨x,hx,rfl⟩:=r;exact⟨x,hx.le h,rfl⟩)
theorem bH.le (h:ρ.le ρ'):∀{ls:List (Nat×SV)} {cs:List Value},bH ρ ls cs->bH ρ' ls cs
 |[],_,r=>r
 |(_,_)::_,_,⟨c1,c2,e,hl,h1,h2⟩=>⟨c1,c2,e,hl,h1.le h,bH.le h h2⟩
theorem zD.le {ρ ρ':Env} (h:ρ.le ρ') {v:SV} {cs:List Value} (r:zD ρ v cs):zD ρ' v cs:=by
 cases v<;>simp only[zD]at r⊢<;>first|exact r|(obtain⟨x,hx,rfl⟩:=r;exact⟨x,hx.le h,rfl⟩)|exact⟨r.1,λq hq=>(r.2 q hq).le (Env.bare_mono h.im)⟩
theorem zC.le (h:ρ.le ρ'):∀{ls:List (Nat×SV)} {cs:List Value},zC ρ ls cs->zC ρ' ls cs
 |[],_,r=>r
 |(_,_)::_,_,⟨c1,c2,e,hl,h1,h2⟩=>⟨c1,c2,e,hl,h1.le h,zC.le h h2⟩
theorem Rel.le (h:ρ.le ρ') (r:Rel ρ v x):Rel ρ' v x:=by
 cases v<;>simp only[Rel]at r⊢<;>first|exact r|exact cg.le h r|(obtain⟨cs,hc,e⟩:=r;exact⟨cs,hc.le h,e⟩)
theorem nM.le (h:ρ.le ρ'):∀{vs:List SV} {xs:List Value},nM ρ vs xs->nM ρ' vs xs
 |[],_,r=>r
 |_::_,_,⟨x,ys,e,h1,h2⟩=>⟨x,ys,e,h1.le h,nM.le h h2⟩
theorem zRT.le (h:ρ.le ρ') (r:zRT ρ v x):zRT ρ' v x:=by
 cases v<;>simp only[zRT]at r⊢<;>first|exact Rel.le h r|(obtain⟨xs,hx,e⟩:=r;exact⟨xs,hx.le h,e⟩)
theorem zR (r:Rel ρ v x):zRT ρ v x:=by
 cases v<;>simp only[zRT]<;>first|exact r|(simp only[Rel,cg]at r)
theorem cg.one (r:cg ρ v x):one x:=by
 cases v<;>simp only[cg]at r<;>try(exact r.elim)
 case raw y=>rw[r.1];exact r.2
 all_goals first
  |(subst r;trivial)
  |(obtain⟨_,r⟩:=r;subst r;trivial)
  |(obtain⟨_,r,_⟩:=r;subst r;trivial)
  |(obtain⟨_,_,_,r,_⟩:=r;subst r;trivial)
  |(obtain⟨_,_,_,_,r,_⟩:=r;subst r;trivial)
  |(obtain⟨_,_,r,_⟩:=r;subst r;trivial)
  |(obtain⟨_,_,_,_,_,_,r,_⟩:=r;subst r;trivial)
theorem um (h:one x):x.cells= #[x]:=by cases x<;>first|rfl|exact h.elim
theorem fb.one (r:fb ρ v cs):∀x∈cs,one x:=by
 cases v<;>simp only[fb]at r
 case a8|a16|a32|a64|ai=>subst r;intro x hx;obtain⟨_,_,rfl⟩:=List.mem_map.1 hx;trivial
 all_goals(obtain⟨x,hx,rfl⟩:=r;intro y hy;rw[List.mem_singleton.1 hy];exact hx.one)
theorem bH.one:∀{ls:List (Nat×SV)} {cs:List Value},bH ρ ls cs->∀x∈cs,Go.Sx.one x
 |[],cs,r=>by intro x hx;simp only[bH]at r;subst r;cases hx
 |(_,_)::_,_,⟨c1,c2,e,_,h1,h2⟩=>by
  intro x hx;subst e
  rcases List.mem_append.1 hx with hx|hx
  ·exact h1.one x hx
  exact bH.one h2 x hx
theorem uS {n es i:Nat} (h:i<n*es):i/es<n/\i%es<es/\i/es*es+i%es=i:=by
 have he:0<es:=by
  rcases Nat.eq_zero_or_pos es with h0|h0
  ·subst h0;simp at h
  exact h0
 refine⟨Nat.div_lt_of_lt_mul (by rw[Nat.mul_comm];exact h),Nat.mod_lt _ he,?_⟩
 rw[Nat.mul_comm];exact Nat.div_add_mod i es
theorem aPK {cs:List Value} {n es:Nat} (hl:cs.length=n*es) {i:Nat} {x:Value} (hx:cs[i]? =some x):i/es<n/\((cs.drop (i/es*es)).take es)[i%es]? =some x:=by
 have hi:=(List.getElem?_eq_some_iff.1 hx).1
 obtain⟨h1,h2,h3⟩:=uS (n:=n) (es:=es) (i:=i) (by omega)
 refine⟨h1,?_⟩
 rw[List.getElem?_take,if_pos h2,List.getElem?_drop,h3];exact hx
theorem zD.one {ρ:Env} {v:SV} {cs:List Value} (r:zD ρ v cs):∀x∈cs,one x:=by
 cases v<;>simp only[zD]at r
 case a8|a16|a32|a64|ai=>subst r;intro x hx;obtain⟨_,_,rfl⟩:=List.mem_map.1 hx;trivial
 case arr n es F=>
  intro x hx
  obtain⟨i,hi⟩:=List.getElem?_of_mem hx
  obtain⟨h1,h2⟩:=aPK r.1 hi
  exact(r.2 _ h1).one x (List.mem_of_getElem? h2)
 all_goals(obtain⟨x,hx,rfl⟩:=r;intro y hy;rw[List.mem_singleton.1 hy];exact hx.one)
theorem zC.one:∀{ls:List (Nat×SV)} {cs:List Value},zC ρ ls cs->∀x∈cs,one x
 |[],cs,r=>by intro x hx;simp only[zC]at r;subst r;cases hx
 |(_,_)::_,_,⟨c1,c2,e,_,h1,h2⟩=>by
  intro x hx;subst e
  rcases List.mem_append.1 hx with hx|hx
  ·exact h1.one x hx
  exact zC.one h2 x hx
theorem zC.length:∀{ls:List (Nat×SV)} {cs:List Value},zC ρ ls cs->cs.length=zL ls
 |[],cs,r=>by simp only[zC]at r;subst r;rfl
 |(_,_)::_,_,⟨c1,c2,e,hl,_,h2⟩=>by subst e;simp[zL,hl,zC.length h2]
inductive MpV where
 |si (l:List (List UInt8×Int))
def MpV.Is:MpV->List MapEntry->Prop
 | .si l,es=>es.map (λe=>(e.key,e.val))=l.map λp=>(Value.string ⟨p.1.toArray⟩,wi p.2)
def iA (l:List (List UInt8×Int)) (k:List UInt8):Option Int:=
 match l with
 |[]=>none
 |(q,n)::r=>if k=q then some n else iA r k
inductive Ent where
 |dead
 |mem (own:Bool) (sp:Nat) (ls:List (Nat×SV))
 |map (m:MpV)
def Ent.zW:Ent->Bool
 | .mem true _ _=>true
 | .map _=>true
 |_=>false
def Ent.loose:Ent->Bool
 | .dead=>true
 | .mem own sp _=>own||sp !=0
 | .map _=>true
theorem Ent.loose_own {e:Ent} (h:e.zW=true):e.loose=true:=by
 cases e with
 |dead=>rfl
 |mem own sp ls=>cases own<;>simp_all [Ent.zW,Ent.loose]
 |map m=>rfl
def Ent.live:Ent->Bool
 | .dead=>false
 |_=>true
abbrev Tm:=List (Nat×SV)
abbrev Mm:=List (Nat×Ent)
def zX (T:Tm) (d:Nat):SV:=
 match T with
 |[]=>.und
 |(e,v)::r=>bif beq d e then v else zX r d
def zG (M:Mm) (a:Nat):Option Ent:=
 match M with
 |[]=>none
 |(e,v)::r=>bif beq a e then some v else zG r a
def eJ (pos:Nat×Nat):Ent->Nat->Nat->Prop
 | .dead,_,_=>False
 | .mem own sp ls,b,o=>b=pos.1/\pos.2<=o/\o<pos.2+(zL ls+if own then sp else 0)
 | .map _,b,_=>b=pos.1
def mB (ρ:Env) (w:World) (pos:Nat×Nat):Ent->Prop
 | .dead=>True
 | .mem own sp ls=>∃cs,zC ρ ls cs/\((zL ls+(if own then sp else 0)≠0->pos.1<w.heap.size)/\(own=false->sp≠0->ρ.immO pos.1 pos.2 ls))/\(∀j v,cs[j]? =some v->w.cell? ⟨pos.1,pos.2+j,none⟩=some v)/\
   (own=true->∀j,j<zL ls+sp->(∃v,w.cell? ⟨pos.1,pos.2+j,none⟩=some v)/\iO w ⟨pos.1,pos.2+j,none⟩=false)
 | .map m=>∃es clock,w.heap[pos.1]? =some (.map es clock)/\m.Is es.toList
def eU (ρ:Env) (M:Mm) (b o:Nat):Prop:=∃a e,zG M a=some e/\e.zW=true/\eJ (ρ.pos a) e b o
def aMX (ρ:Env) (w:World) (b o:Nat) (ls:List (Nat×SV)):Prop:=
 (zL ls≠0->b<w.heap.size)/\∃cs,zC ρ.bare ls cs/\∀j v,cs[j]? =some v->w.cell? ⟨b,o+j,none⟩=some v
def rE (ρ:Env) (b o:Nat):Prop:=∃o' ls j,ρ.imm b o' ls/\j<zL ls/\o=o'+j
structure zF (ρ:Env) (M:Mm) (w:World):Prop where
 dom:∀a,ρ.dom a->∃e,zG M a=some e
 mod:∀a e,zG M a=some e->ρ.dom a
 sat:∀a e,zG M a=some e->mB ρ w (ρ.pos a) e
 sep:∀a b e e',zG M a=some e->zG M b=some e'->a≠b->e.zW=true->∀k o,eJ (ρ.pos a) e k o->¬eJ (ρ.pos b) e' k o
 imm:∀b o ls,ρ.imm b o ls->aMX ρ w b o ls
 isep:∀b o,rE ρ b o->¬eU ρ M b o
 gl:∃n:Int,ρ.imm 0 0 [(1,.i .i64 n)]
structure aV (ρ:Env) (M:Mm) (ρ':Env) (M':Mm) (w w':World):Prop where
 size:w.heap.size<=w'.heap.size
 os:w'.os=w.os
 output:w'.output=w.output
 blk:∀b,b<w.heap.size->(∀o,¬eU ρ M b o)->w'.heap[b]? =w.heap[b]?
 cell:∀b o,b<w.heap.size->¬eU ρ M b o->w'.cell? ⟨b,o,none⟩=w.cell? ⟨b,o,none⟩/\iO w' ⟨b,o,none⟩=iO w ⟨b,o,none⟩
 own:∀b o,b<w.heap.size->eU ρ' M' b o->eU ρ M b o
 immo:∀b o,b<w.heap.size->rE ρ' b o->rE ρ b o\/eU ρ M b o
theorem aV.refl (ρ:Env) (M:Mm) (w:World):aV ρ M ρ M w w:=
 ⟨le_refl _,rfl,rfl,λ_ _ _=>rfl,λ_ _ _ _=>⟨rfl,rfl⟩,λ_ _ _ h=>h,λ_ _ _ h=>Or.inl h⟩
theorem aV.trans (h:aV ρ M ρ' M' w w') (k:aV ρ' M' ρ'' M'' w' w''):aV ρ M ρ'' M'' w w'' where
 size:=Nat.le_trans h.size k.size
 os:=k.os.trans h.os
 output:=k.output.trans h.output
 blk b hb ho:=(k.blk b (lt_of_lt_of_le hb h.size) λo hc=>ho o (h.own b o hb hc)).trans (h.blk b hb ho)
 cell b o hb ho:=by
  have h1:=h.cell b o hb ho
  have h2:=k.cell b o (lt_of_lt_of_le hb h.size) (λhc=>ho (h.own b o hb hc))
  exact⟨h2.1.trans h1.1,h2.2.trans h1.2⟩
 own b o hb ho:=h.own b o hb (k.own b o (lt_of_lt_of_le hb h.size) ho)
 immo b o hb hi:=(k.immo b o (lt_of_lt_of_le hb h.size) hi).elim (λh1=>h.immo b o hb h1) (λh1=>Or.inr (h.own b o hb h1))
structure aZ (N:Nat) (ρ:Env) (T:Tm) (M:Mm) (a:Act) (w:World):Prop extends zF ρ M w where
 sz:a.tmps.size=N
 defers:a.defers=[]
 tm:∀d,zRT ρ (zX T d) (a.tmps.getD d undef)
theorem mB.of_same {ρ ρ':Env} {w w':World} {pos:Nat×Nat} {e:Ent} (hρ:ρ.le ρ') (hs:w.heap.size<=w'.heap.size)
  (hc:∀b o,eJ pos e b o->w'.cell? ⟨b,o,none⟩=w.cell? ⟨b,o,none⟩/\iO w' ⟨b,o,none⟩=iO w ⟨b,o,none⟩)
  (hb:∀b,b<w.heap.size->(∀o,eJ pos e b o)->w'.heap[b]? =w.heap[b]?)
  (h:mB ρ w pos e):mB ρ' w' pos e:=by
 cases e with
 |dead=>trivial
 |mem own sp ls=>
  obtain⟨cs,h1,h2,h3,h4⟩:=h
  refine⟨cs,h1.le hρ,⟨λhn=>lt_of_lt_of_le (h2.1 hn) hs,λho hs=>(h2.2 ho hs).mono hρ.im⟩,λj v hj=>?_,λho j hj=>?_⟩
  ·have hlt:j<cs.length:=(List.getElem?_eq_some_iff.1 hj).1
   rw[(hc pos.1 (pos.2+j) ⟨rfl,by omega,by rw[h1.length]at hlt;omega⟩).1]
   exact h3 j v hj
  have:=hc pos.1 (pos.2+j) ⟨rfl,by omega,by simp only[ho,if_true];omega⟩
  rw[this.1,this.2]
  exact h4 ho j hj
 |map m=>
  obtain⟨es,clock,h1,h2⟩:=h
  exact⟨es,clock,by rw[hb pos.1 (Array.getElem?_eq_some_iff.1 h1).1 (λ_=>rfl)];exact h1,h2⟩
theorem aMX.keep {ρ ρ':Env} {w w':World} {b o:Nat} {ls:List (Nat×SV)} (h:aMX ρ w b o ls) (him:∀b o ls,ρ.imm b o ls->ρ'.imm b o ls) (hs:w.heap.size<=w'.heap.size)
  (hc:∀j,j<zL ls->w'.cell? ⟨b,o+j,none⟩=w.cell? ⟨b,o+j,none⟩):aMX ρ' w' b o ls:=by
 obtain⟨h1,cs,h2,h3⟩:=h
 refine⟨λhn=>lt_of_lt_of_le (h1 hn) hs,cs,h2.le (Env.bare_mono him),λj v hj=>?_⟩
 have hlt:j<cs.length:=(List.getElem?_eq_some_iff.1 hj).1
 rw[h2.length]at hlt
 rw[hc j hlt];exact h3 j v hj
theorem mb (ρ:Env):∀{ls:List (Nat×SV)},aJH ls->zC ρ ls []
 |[],_=>rfl
 |(s,v)::r,⟨h1,h2,h3⟩=>by
  refine⟨[],[],rfl,h1.symm,?_,mb ρ h3⟩
  cases v<;>simp only[aZV]at h2<;>first
   |(subst h2;rfl)
   |(subst h2;exact⟨by simp,λq hq=>absurd hq (Nat.not_lt_zero _)⟩)
theorem ku:∀{ls:List (Nat×SV)},aJH ls->zL ls=0
 |[],_=>rfl
 |(_,_)::_,⟨h1,_,h3⟩=>by simp only[zL,h1,ku h3]
theorem bn:∀{a b:List (Nat×SV)} {cs:List Value},zC ρ (a++b) cs->∃c1 c2,cs=c1++c2/\zC ρ a c1/\zC ρ b c2
 |[],_,cs,h=>⟨[],cs,rfl,rfl,h⟩
 |(_,_)::_,_,_,⟨c1,c2,e,hl,h1,h2⟩=>by
  obtain⟨d1,d2,e',k1,k2⟩:=bn h2
  exact⟨c1++d1,d2,by rw[e,e',List.append_assoc],⟨c1,d1,rfl,hl,h1,k1⟩,k2⟩
theorem aJC (h:fb ρ v cs):zD ρ v cs:=by
 cases v<;>first|exact h|(simp only[fb,cg]at h;obtain⟨_,h,_⟩:=h;exact h.elim)
theorem nN:∀{ls:List (Nat×SV)} {cs:List Value},bH ρ ls cs->zC ρ ls cs
 |[],_,h=>h
 |(_,_)::_,_,⟨c1,c2,e,hl,h1,h2⟩=>⟨c1,c2,e,hl,aJC h1,nN h2⟩
theorem zF.immO (h:zF ρ M w) (hi:ρ.immO b o ls):
  (zL ls≠0->b<w.heap.size)/\∃cs,zC ρ.bare ls cs/\∀j v,cs[j]? =some v->w.cell? ⟨b,o+j,none⟩=some v:=by
 rcases hi with(⟨o0,pre,post,hi,rfl⟩|⟨_,o0,pre0,post0,t,m,es,F,q,pre,post,hi,hq,hF,rfl⟩)|hi
 ·obtain⟨k1,cs,k2,k3⟩:=h.imm b o0 _ hi
  obtain⟨c1,c2,rfl,m1,m2⟩:=bn k2
  obtain⟨c3,c4,rfl,m3,m4⟩:=bn m2
  refine⟨λhn=>k1 (by rw[ba,ba];omega),c3,m3,λj v hj=>?_⟩
  have hlt:j<c3.length:=(List.getElem?_eq_some_iff.1 hj).1
  have:=k3 (c1.length+j) v (by rw[List.getElem?_append_right (by omega),Nat.add_sub_cancel_left,List.getElem?_append_left hlt];exact hj)
  rw[m1.length,<-Nat.add_assoc]at this
  exact this
 ·obtain⟨k1,cs,k2,k3⟩:=h.imm b o0 _ hi
  obtain⟨c1,c2,rfl,m1,m2⟩:=bn k2
  obtain⟨d1,d2,rfl,e1,⟨g1,g2⟩,e3⟩:=m2
  have hr:zC ρ.bare (F q) ((d1.drop (q*es)).take es):=nN (g2 q hq)
  rw[hF]at hr
  obtain⟨a1,a2,ea,n1,n2⟩:=bn hr
  obtain⟨a3,a4,eb,n3,n4⟩:=bn n2
  subst eb
  have hlen:=congrArg List.length ea
  rw[zlT,zlD,zlA,zlA]at hlen
  have hsz:=n3.length
  refine⟨λhn=>k1 (by rw[ba];simp only[zL];omega),a3,n3,λj v hj=>?_⟩
  have hlt:j<a3.length:=(List.getElem?_eq_some_iff.1 hj).1
  have hrow:((d1.drop (q*es)).take es)[a1.length+j]? =some v:=by
   rw[ea,List.getElem?_append_right (by omega),Nat.add_sub_cancel_left,List.getElem?_append_left hlt];exact hj
  have hd:d1[q*es+(a1.length+j)]? =some v:=by
   rw[List.getElem?_take]at hrow
   split at hrow
   ·rw[List.getElem?_drop]at hrow;exact hrow
   cases hrow
  have:=k3 (c1.length+(q*es+(a1.length+j))) v (by
   rw[List.getElem?_append_right (by omega),Nat.add_sub_cancel_left,List.getElem?_append_left (List.getElem?_eq_some_iff.1 hd).1];exact hd)
  rw[m1.length,n1.length]at this
  rw[show o0+zL pre0+q*es+zL pre+j=o0+(zL pre0+(q*es+(zL pre+j))) by omega]
  exact this
 exact⟨λhn=>absurd (ku hi) hn,[],mb _ hi,λj v hj=>by simp at hj⟩
theorem zF.immO_sep (h:zF ρ M w) (hi:ρ.immO b o ls) (hf:eJ (b,o) (.mem false 0 ls) k p):rE ρ k p:=by
 obtain⟨f1,f2,f3⟩:=hf
 simp only[false_eq_true,if_false,Nat.add_zero]at f1 f2 f3
 rcases hi with(⟨o0,pre,post,hi,rfl⟩|⟨_,o0,pre0,post0,t,m,es,F,q,pre,post,hi,hq,hF,rfl⟩)|hi
 ·exact⟨o0,_,p-o0,by rw[f1];exact hi,by rw[ba,ba];omega,by omega⟩
 ·obtain⟨_,cs,k2,_⟩:=h.imm b o0 _ hi
  obtain⟨c1,c2,rfl,m1,m2⟩:=bn k2
  obtain⟨d1,d2,rfl,e1,⟨g1,g2⟩,e3⟩:=m2
  have hr:zC ρ.bare (F q) ((d1.drop (q*es)).take es):=nN (g2 q hq)
  have hl:=hr.length
  rw[zlT,zlD,hF,ba,ba]at hl
  have hm:(q+1)*es<=m*es:=Nat.mul_le_mul_right _ hq
  rw[Nat.add_mul,Nat.one_mul]at hm
  exact⟨o0,_,p-o0,by rw[f1];exact hi,by rw[ba];simp only[zL];omega,by omega⟩
 rw[ku hi]at f3;omega
theorem rE.mk (h:ρ.imm b o ls) (hj:j<zL ls):rE ρ b (o+j):=⟨o,ls,j,h,hj,rfl⟩
theorem rE.mono (him:∀b o ls,ρ.imm b o ls->ρ'.imm b o ls) (h:rE ρ b o):rE ρ' b o:=by
 obtain⟨o',ls,j,h1,h2,h3⟩:=h
 exact⟨o',ls,j,him _ _ _ h1,h2,h3⟩
theorem zF.immc_lt (h:zF ρ M w) (hi:rE ρ b o):b<w.heap.size:=by
 obtain⟨o',ls,j,h1,hj,_⟩:=hi
 exact(h.imm _ _ _ h1).1 (by omega)
inductive TyK where
 |bad
 |bool|int (k:IntKind)|string
 |pointer (e:Nat)|slice (e:Nat)|array (len e:Nat)|map (k e:Nat)
 |struct (fs:List (Nat×Nat))
 |other
structure Ty where
 k:TyK
 size:Nat
 bytes:Nat
 zl:List (Nat×SV)
 eq:Bool
def jc:SV->List Value
 | .ff=>[.bool false]
 | .u8 x=>[w8 x]| .u16 x=>[w16 x]| .u32 x=>[w32 x]| .u64 x=>[w64 x]
 | .i k n=>[.int k n]
 | .str []=>[.string ⟨#[]⟩]
 | .nilp=>[.pointer none]
 | .nsl=>[.slice none 0 0]
 | .nilmp=>[.map none]
 | .a8 l=>l.map w8| .a16 l=>l.map w16| .a32 l=>l.map w32| .a64 l=>l.map w64| .ai l=>l.map wi
 | .raw .nilFunc=>[.nilFunc]
 | .raw .nilIface=>[.nilIface]
 |_=>[]
def gv:List (Nat×SV)->List Value
 |[]=>[]
 |(_,v)::r=>jc v++gv r
def dj:List (Nat×SV)->Bool
 |[]=>true
 |(s,v)::r=>(jc v).length==s&&s !=0&&dj r
def vEq:Value->Value->Bool
 | .bool a,.bool b=>a==b
 | .int k a,.int j b=>k==j&&a==b
 | .string a,.string b=>a.data.toList==b.data.toList
 | .pointer none,.pointer none=>true
 | .slice none 0 0,.slice none 0 0=>true
 | .map none,.map none=>true
 | .nilFunc,.nilFunc=>true
 | .nilIface,.nilIface=>true
 |_,_=>false
def aR7:List Value->List Value->Bool
 |[],[]=>true
 |a::x,b::y=>vEq a b&&aR7 x y
 |_,_=>false
theorem aDZ (h:vEq a b=true):a=b:=by
 unfold vEq at h
 split at h<;>simp_all
 rename_i a b
 cases a;cases b
 simp_all
theorem rK:∀{x y:List Value},aR7 x y=true->x=y
 |[],[],_=>rfl
 |a::x,b::y,h=>by
  simp only[aR7,zbA]at h
  rw[aDZ h.1,rK h.2]
 |[],_::_,h=>by simp[aR7]at h
 |_::_,[],h=>by simp[aR7]at h
def py (fs:Array Field):List (Nat×Nat):=fs.toList.map λf=>(f.offset,f.type)
def kEq:TypeDesc->TyK->Bool
 | .bool,.bool=>true
 | .int k,.int j=>k==j
 | .string,.string=>true
 | .pointer e,.pointer e'=>e==e'
 | .slice e,.slice e'=>e==e'
 | .array n e,.array n' e'=>n==n'&&e==e'
 | .map k e,.map k' e'=>k==k'&&e==e'
 | .struct fs, .struct l=>py fs==l&&fs.toList.all λf=>f.name != "_"
 | .func ..,.other| .interface ..,.other| .tuple ..,.other| .chan ..,.other=>true
 |_,_=>false
def bZ:TyK->Bool
 | .array _ _| .struct _=>true
 |_=>false
def Value.isAgg:Value->Bool
 | .agg _=>true
 |_=>false
def aO3 (P:Program) (t:Nat) (y:Ty):Bool:=
  match y.k with
  | .bad=>true
  |k=>
    match P.info? t,P.underlying t with
    |some i,some d=>
      (!y.eq||(!P.stoodInHeld t&& !P.eqGuardType P.depth t))&&kEq d k&&i.size==y.size&&i.bytes==y.bytes&&
      (match i.zero with
       |some z=>aR7 z.cells.toList (gv y.zl)&&dj y.zl&&Value.isAgg z==bZ k
       |none=>y.zl.isEmpty)
    |_,_=>false
structure wL (P:Program) (t:Nat) (y:Ty):Prop where
 info:∃i,P.info? t=some i/\i.size=y.size/\i.bytes=y.bytes/\
  (y.zl≠[]->∃z,i.zero=some z/\z.cells.toList=gv y.zl/\dj y.zl=true/\Value.isAgg z=bZ y.k)
 und:∃d,P.underlying t=some d/\kEq d y.k=true
 eqs:y.eq=true->P.stoodInHeld t=false/\P.eqGuardType P.depth t=false
theorem wc (hb:y.k≠ .bad) (h:aO3 P t y=true):wL P t y:=by
 unfold aO3 at h
 split at h
 ·contradiction
 split at h
 ·rename_i i d hi hd
  simp only[zbA,beq_iff_eq]at h
  obtain⟨⟨⟨⟨he,hk⟩,hs⟩,hby⟩,hz⟩:=h
  refine⟨⟨i,hi,hs,hby,λhne=>?_⟩,⟨d,hd,hk⟩,λhq=>by rw[hq]at he;simpa using he⟩
  split at hz
  ·rename_i z hzz
   simp only[zbA,beq_iff_eq]at hz
   exact⟨z,hzz,rK hz.1.1,hz.1.2,hz.2⟩
  cases hl:y.zl with
  |nil=>exact absurd hl hne
  |cons a b=>rw[hl]at hz;simp at hz
 simp at h
theorem wP (ρ:Env) (h:(jc v).length≠0):zD ρ v (jc v):=by
 unfold jc at *
 split at h<;>simp_all [zD,cg,one]
theorem zzc (ρ:Env):∀{ls:List (Nat×SV)},dj ls=true->zC ρ ls (gv ls)
 |[],_=>rfl
 |(s,v)::r,h=>by
  simp only[dj,zbA,beq_iff_eq,bne_iff_ne]at h
  exact⟨jc v,gv r,rfl,h.1.1,wP ρ (by rw[h.1.1];exact h.1.2),zzc ρ h.2⟩
structure Ctx where
 P:Program
 tys:List Ty
 chk:(tys.zipIdx.all λx=>aO3 P x.2 x.1)=true
 mixed:P.follows .mixedOrders=true
def zT:Ty:=⟨.bad,0,0,[],false⟩
def aR8 (l:List Ty) (t:Nat):Ty:=
 match l,t with
 |[],_=>zT
 |y::_,0=>y
 |_::r,t+1=>aR8 r t
theorem aD3:∀(l:List Ty) (t:Nat) (k:Nat),(aR8 l t).k≠ .bad->(aR8 l t,t+k)∈l.zipIdx k
 |[],t,k,h=>absurd rfl h
 |y::r,0,k,h=>by simp[aR8,List.zipIdx_cons]
 |y::r,t+1,k,h=>by
  simp only[aR8]at h⊢
  rw[List.zipIdx_cons]
  have:=aD3 r t (k+1) h
  rw[show t+1+k=t+(k+1) by omega]
  exact List.mem_cons_of_mem _ this
def Ctx.ty (Γ:Ctx) (t:Nat):Ty:=aR8 Γ.tys t
theorem Ctx.ok (Γ:Ctx) (h:(Γ.ty t).k≠ .bad):wL Γ.P t (Γ.ty t):=by
 have h1:=aD3 Γ.tys t 0 h
 have h2:=List.all_eq_true.1 Γ.chk _ h1
 exact wc h h2
abbrev Out:=Option (List Prop×SV)
def zV:Value->SV
 | .bool true=>.tt
 | .bool false=>.ff
 | .int .u8 (.ofNat n)=>bif blt n (2^8)then .u8 (UInt8.ofNat n)else .und
 | .int .u16 (.ofNat n)=>bif blt n (2^16)then .u16 (UInt16.ofNat n)else .und
 | .int .u32 (.ofNat n)=>bif blt n (2^32)then .u32 (ofNat n)else .und
 | .int .u64 (.ofNat n)=>bif blt n (2^64)then .u64 (UInt64.ofNat n)else .und
 | .int .i64 n=>.i .i64 n
 | .int .i32 n=>.i .i32 n
 | .string s=>.str s.data.toList
 | .pointer none=>.nilp
 | .slice none 0 0=>.nsl
 | .map none=>.nilmp
 | .nilFunc=>.raw .nilFunc
 | .nilIface=>.raw .nilIface
 |_=>.und
def ev (T:Tm):Operand->SV
 | .tmp t=>zX T t
 | .const v=>zV v
 | .func f=>.fn f []
 | .global _=>.und
inductive Ix where
 |lit (n:Nat)
 |dyn (n:Nat)
def Ix.val:Ix->Nat
 | .lit n=>n
 | .dyn n=>n
def ixV:SV->Option (List Prop×Ix)
 | .u8 x=>some ([],.dyn x.toNat)
 | .u16 x=>some ([],.dyn x.toNat)
 | .u32 x=>some ([],.dyn x.toNat)
 | .u64 x=>some ([],.dyn x.toNat)
 | .i _ n=>some ([0<=n],.dyn n.toNat)
 |_=>none
def ixO (T:Tm):Operand->Option (List Prop×Ix)
 | .const (.int _ (.ofNat n))=>some ([],.lit n)
 | .const _=>none
 |o=>ixV (ev T o)
def rng:IntKind->Int->Prop
 | .i64,n=>-9223372036854775808<=n/\n<=9223372036854775807
 | .i32,n=>-2147483648<=n/\n<=2147483647
 |_,_=>False
def qh (x:UInt8) (n:Nat):UInt8:=UInt8.ofNat (x.toNat<<<n)
def mD (x:UInt8) (n:Nat):UInt8:=UInt8.ofNat (x.toNat>>>n)
def aZF (op:BinOp) (x y:UInt8):Out:=
 match op with
 | .add=>some ([],.u8 (x+y))
 | .sub=>some ([],.u8 (x-y))
 | .mul=>some ([],.u8 (x*y))
 | .quo=>some ([y≠0],.u8 (x/y))
 | .rem=>some ([y≠0],.u8 (x%y))
 | .and=>some ([],.u8 (x&&&y))
 | .or=>some ([],.u8 (x|||y))
 | .xor=>some ([],.u8 (x^^^y))
 | .andNot=>some ([],.u8 (x&&& ~~~y))
 | .eql=>some ([],.bool (x=y))
 | .neq=>some ([],.bool (¬x=y))
 | .lss=>some ([],.bool (x.toNat<y.toNat))
 | .leq=>some ([],.bool (x.toNat<=y.toNat))
 | .gtr=>some ([],.bool (y.toNat<x.toNat))
 | .geq=>some ([],.bool (y.toNat<=x.toNat))
 |_=>none
def aPD (x:UInt16) (n:Nat):UInt16:=UInt16.ofNat (x.toNat<<<n)
def aPC (x:UInt16) (n:Nat):UInt16:=UInt16.ofNat (x.toNat>>>n)
def aRY (op:BinOp) (x y:UInt16):Out:=
 match op with
 | .add=>some ([],.u16 (x+y))
 | .sub=>some ([],.u16 (x-y))
 | .mul=>some ([],.u16 (x*y))
 | .quo=>some ([y≠0],.u16 (x/y))
 | .rem=>some ([y≠0],.u16 (x%y))
 | .and=>some ([],.u16 (x&&&y))
 | .or=>some ([],.u16 (x|||y))
 | .xor=>some ([],.u16 (x^^^y))
 | .andNot=>some ([],.u16 (x&&& ~~~y))
 | .eql=>some ([],.bool (x=y))
 | .neq=>some ([],.bool (¬x=y))
 | .lss=>some ([],.bool (x.toNat<y.toNat))
 | .leq=>some ([],.bool (x.toNat<=y.toNat))
 | .gtr=>some ([],.bool (y.toNat<x.toNat))
 | .geq=>some ([],.bool (y.toNat<=x.toNat))
 |_=>none
def uM (x:UInt32) (n:Nat):UInt32:=ofNat (x.toNat<<<n)
def uL (x:UInt32) (n:Nat):UInt32:=ofNat (x.toNat>>>n)
def aRX (op:BinOp) (x y:UInt32):Out:=
 match op with
 | .add=>some ([],.u32 (x+y))
 | .sub=>some ([],.u32 (x-y))
 | .mul=>some ([],.u32 (x*y))
 | .quo=>some ([y≠0],.u32 (x/y))
 | .rem=>some ([y≠0],.u32 (x%y))
 | .and=>some ([],.u32 (x&&&y))
 | .or=>some ([],.u32 (x|||y))
 | .xor=>some ([],.u32 (x^^^y))
 | .andNot=>some ([],.u32 (x&&& ~~~y))
 | .eql=>some ([],.bool (x=y))
 | .neq=>some ([],.bool (¬x=y))
 | .lss=>some ([],.bool (x.toNat<y.toNat))
 | .leq=>some ([],.bool (x.toNat<=y.toNat))
 | .gtr=>some ([],.bool (y.toNat<x.toNat))
 | .geq=>some ([],.bool (y.toNat<=x.toNat))
 |_=>none
def aQ (x:UInt64) (n:Nat):UInt64:=UInt64.ofNat (x.toNat<<<n)
def aF (x:UInt64) (n:Nat):UInt64:=UInt64.ofNat (x.toNat>>>n)
def aRW (op:BinOp) (x y:UInt64):Out:=
 match op with
 | .add=>some ([],.u64 (x+y))
 | .sub=>some ([],.u64 (x-y))
 | .mul=>some ([],.u64 (x*y))
 | .quo=>some ([y≠0],.u64 (x/y))
 | .rem=>some ([y≠0],.u64 (x%y))
 | .and=>some ([],.u64 (x&&&y))
 | .or=>some ([],.u64 (x|||y))
 | .xor=>some ([],.u64 (x^^^y))
 | .andNot=>some ([],.u64 (x&&& ~~~y))
 | .eql=>some ([],.bool (x=y))
 | .neq=>some ([],.bool (¬x=y))
 | .lss=>some ([],.bool (x.toNat<y.toNat))
 | .leq=>some ([],.bool (x.toNat<=y.toNat))
 | .gtr=>some ([],.bool (y.toNat<x.toNat))
 | .geq=>some ([],.bool (y.toNat<=x.toNat))
 |_=>none
def aZE (k:IntKind) (op:BinOp) (x y:Int):Out:=
 match op with
 | .add=>some ([rng k (x+y)],.i k (x+y))
 | .sub=>some ([rng k (x-y)],.i k (x-y))
 | .mul=>some ([rng k (x*y)],.i k (x*y))
 | .quo=>some ([0<=x,0<y,rng k x],.i k (x/y))
 | .rem=>some ([0<=x,0<y],.i k (x%y))
 | .and=>some ([0<=x,0<=y,rng k x,rng k y],.i k ((x.toNat&&&y.toNat:Nat):Int))
 | .or=>some ([0<=x,0<=y,rng k x,rng k y],.i k ((x.toNat|||y.toNat:Nat):Int))
 | .xor=>some ([0<=x,0<=y,rng k x,rng k y],.i k ((x.toNat^^^y.toNat:Nat):Int))
 | .eql=>some ([],.bool (x=y))
 | .neq=>some ([],.bool (¬x=y))
 | .lss=>some ([],.bool (x<y))
 | .leq=>some ([],.bool (x<=y))
 | .gtr=>some ([],.bool (y<x))
 | .geq=>some ([],.bool (y<=x))
 |_=>none
def yg:SV->Option Prop
 | .tt=>some True
 | .ff=>some False
 | .bool p=>some p
 |_=>none
def aWJ (T:Tm):Operand->Option (List Prop×Nat)
 | .const (.int _ (.ofNat n))=>some ([],n)
 | .const _=>none
 |o=>match ixV (ev T o)with
  |some (ps,.dyn n)=>some (ps,n)
  |_=>none
def aWY (x:SV) (n:Nat):Out:=
 match x with
 | .u8 x=>some ([],.u8 (qh x n))
 | .u16 x=>some ([],.u16 (aPD x n))
 | .u32 x=>some ([],.u32 (uM x n))
 | .u64 x=>some ([],.u64 (aQ x n))
 | .i k x=>some ([rng k (x*2^n),n<32],.i k (x*2^n))
 |_=>none
def aWX (x:SV) (n:Nat):Out:=
 match x with
 | .u8 x=>some ([],.u8 (mD x n))
 | .u16 x=>some ([],.u16 (aPC x n))
 | .u32 x=>some ([],.u32 (uL x n))
 | .u64 x=>some ([],.u64 (aF x n))
 | .i .i64 x=>some ([n<32\/0<=x/\x<9223372036854775808],.i .i64 (x/2^n))
 | .i .i32 x=>some ([n<32],.i .i32 (x/2^n))
 |_=>none
def aY3 (x y:SV):Option Prop:=
 match x,y with
 | .tt,.tt=>some True
 | .ff,.ff=>some True
 | .tt,.ff=>some False
 | .ff,.tt=>some False
 | .bool p,.tt=>some p
 | .tt,.bool p=>some p
 | .bool p,.ff=>some (¬p)
 | .ff,.bool p=>some (¬p)
 | .bool p,.bool q=>some (p↔q)
 |_,_=>none
def aaO (x y:SV):Option Prop:=
 match x,y with
 | .ptr _ _ _,.nilp=>some False
 | .nilp,.ptr _ _ _=>some False
 | .ep _ _ _ _,.nilp=>some False
 | .iep _ _ _ _,.nilp=>some False
 | .nilp,.nilp=>some True
 |_,_=>none
def aaN (x y:SV):Option Prop:=
 match x,y with
 | .str a,.str b=>some (a=b)
 |_,_=>none
def aY4 (n:Nat) (k:TyK) (x y:SV):Option (List Prop×Prop):=
 match k,x,y with
 | .int .u8,.a8 a,.a8 b=>some ([a.length=n,b.length=n],a=b)
 | .int .u16,.a16 a,.a16 b=>some ([a.length=n,b.length=n],a=b)
 | .int .u32,.a32 a,.a32 b=>some ([a.length=n,b.length=n],a=b)
 | .int .u64,.a64 a,.a64 b=>some ([a.length=n,b.length=n],a=b)
 | .int .i64,.ai a,.ai b=>some ([a.length=n,b.length=n],a=b)
 |_,_,_=>none
def i6:TyK->Bool
 | .bad=>true
 |_=>false
def aNZ:TyK->Bool
 | .int _=>true
 |_=>false
def aWG (ty:Nat->Ty) (t:Nat) (x y:SV):Option (List Prop×Prop):=
 match(ty t).k with
 | .array n e=>bif beq (ty e).size 1 then aY4 n (ty e).k x y else none
 | .bool=>(aY3 x y).map λp=>([],p)
 | .pointer _=>(aaO x y).map λp=>([],p)
 | .string=>(aaN x y).map λp=>([],p)
 |_=>none
def aZD (ty:Nat->Ty) (op:BinOp) (t:Nat) (x y:SV):Out:=
 match x,y with
 | .u8 a,.u8 b=>aZF op a b
 | .u16 a,.u16 b=>aRY op a b
 | .u32 a,.u32 b=>aRX op a b
 | .u64 a,.u64 b=>aRW op a b
 | .i k a,.i j b=>bif k==j then aZE k op a b else none
 |x,y=>match op with
  | .eql=>(aWG ty t x y).map λr=>(r.1,.bool r.2)
  | .neq=>(aWG ty t x y).map λr=>(r.1,.bool (¬r.2))
  | .add=>match x,y with
   | .str a,.str b=>some ([a.length+b.length<=9223372036854775807],.str (a++b))
   |_,_=>none
  | .lss=>match x,y with
   | .str a,.str b=>some ([],.bool (Op.bytesLess a b=true))
   |_,_=>none
  | .gtr=>match x,y with
   | .str a,.str b=>some ([],.bool (¬(Op.bytesLess a b=true\/a=b)))
   |_,_=>none
  |_=>none
def aXF:SV->Out
 | .tt=>some ([],.ff)
 | .ff=>some ([],.tt)
 | .bool p=>some ([],.bool (¬p))
 |_=>none
def unV (op:UnOp) (x:SV):Out:=
 match op with
 | .not=>aXF x
 | .xor=>match x with
  | .u8 x=>some ([],.u8 (~~~x))
  | .u16 x=>some ([],.u16 (~~~x))
  | .u32 x=>some ([],.u32 (~~~x))
  | .u64 x=>some ([],.u64 (~~~x))
  |_=>none
 | .neg=>match x with
  | .i k n=>some ([rng k (-n)],.i k (-n))
  |_=>none
 |_=>none
def aRP (k:IntKind) (x:SV):Out:=
 match k with
 | .u8=>match x with
  | .u8 x=>some ([],.u8 x)
  | .u16 x=>some ([],.u8 x.toUInt8)
  | .u32 x=>some ([],.u8 x.toUInt8)
  | .u64 x=>some ([],.u8 x.toUInt8)
  | .i _ n=>some ([],.u8 (UInt8.ofInt n))
  |_=>none
 | .u16=>match x with
  | .u8 x=>some ([],.u16 x.toUInt16)
  | .u16 x=>some ([],.u16 x)
  | .u32 x=>some ([],.u16 x.toUInt16)
  | .u64 x=>some ([],.u16 x.toUInt16)
  | .i _ n=>some ([],.u16 (UInt16.ofInt n))
  |_=>none
 | .u32=>match x with
  | .u8 x=>some ([],.u32 x.toUInt32)
  | .u16 x=>some ([],.u32 x.toUInt32)
  | .u32 x=>some ([],.u32 x)
  | .u64 x=>some ([],.u32 x.toUInt32)
  | .i _ n=>some ([],.u32 (UInt32.ofInt n))
  |_=>none
 | .u64=>match x with
  | .u8 x=>some ([],.u64 x.toUInt64)
  | .u16 x=>some ([],.u64 x.toUInt64)
  | .u32 x=>some ([],.u64 x.toUInt64)
  | .u64 x=>some ([],.u64 x)
  | .i _ n=>some ([],.u64 (UInt64.ofInt n))
  |_=>none
 | .i64=>match x with
  | .u8 x=>some ([],.i .i64 (x.toNat:Int))
  | .u16 x=>some ([],.i .i64 (x.toNat:Int))
  | .u32 x=>some ([],.i .i64 (x.toNat:Int))
  | .u64 x=>some ([x.toNat<=9223372036854775807],.i .i64 (x.toNat:Int))
  | .i _ n=>some ([rng .i64 n],.i .i64 n)
  |_=>none
 | .i32=>match x with
  | .u8 x=>some ([],.i .i32 (x.toNat:Int))
  | .i _ n=>some ([rng .i32 n],.i .i32 n)
  |_=>none
 |_=>none
def aq:SV->Bool
 | .a8 _| .a16 _| .a32 _| .a64 _| .ai _=>true
 |_=>false
def cw:SV->Bool
 | .arr _ _ _=>true
 |_=>false
def sH (v:SV) (s off:Nat) (i:Option Nat):Out:=
 match v,i with
 | .a8 l,none=>bif blt off s then some ([],.u8 (l.getD off 0))else none
 | .a8 l,some i=>match off with
  |0=>some ([i<s],.u8 (l.getD i 0))
  |o=>some ([i+o<s],.u8 (l.getD (i+o) 0))
 | .a16 l,none=>bif blt off s then some ([],.u16 (l.getD off 0))else none
 | .a16 l,some i=>match off with
  |0=>some ([i<s],.u16 (l.getD i 0))
  |o=>some ([i+o<s],.u16 (l.getD (i+o) 0))
 | .a32 l,none=>bif blt off s then some ([],.u32 (l.getD off 0))else none
 | .a32 l,some i=>match off with
  |0=>some ([i<s],.u32 (l.getD i 0))
  |o=>some ([i+o<s],.u32 (l.getD (i+o) 0))
 | .a64 l,none=>bif blt off s then some ([],.u64 (l.getD off 0))else none
 | .a64 l,some i=>match off with
  |0=>some ([i<s],.u64 (l.getD i 0))
  |o=>some ([i+o<s],.u64 (l.getD (i+o) 0))
 | .ai l,none=>bif blt off s then some ([],.i .i64 (l.getD off 0))else none
 | .ai l,some i=>match off with
  |0=>some ([i<s],.i .i64 (l.getD i 0))
  |o=>some ([i+o<s],.i .i64 (l.getD (i+o) 0))
 | .arr _ _ _,none=>none
 | .arr n es F,some i=>match es with
  |1=>match off with
   |0=>match F i with
    |[(_,v)]=>bif aq v then none else some ([i<n],v)
    |_=>none
   |_=>none
  |_=>none
 |v,none=>match off with
  |0=>some ([],v)
  |_=>none
 |_,some _=>none
def ol (v:SV) (s off:Nat) (i:Option Nat) (n:Nat):Out:=
 match v,i with
 | .a8 l,none=>match off with
  |0=>bif beq n s then some ([],.a8 l)else bif ble n s then some ([],.a8 (l.take n))else none
  |o=>bif ble (o+n) s then some ([],.a8 ((l.drop o).take n))else none
 | .a8 l,some i=>match off with
  |0=>some ([i+n<=s],.a8 ((l.drop i).take n))
  |o=>some ([i+o+n<=s],.a8 ((l.drop (i+o)).take n))
 | .a16 l,none=>match off with
  |0=>bif beq n s then some ([],.a16 l)else bif ble n s then some ([],.a16 (l.take n))else none
  |o=>bif ble (o+n) s then some ([],.a16 ((l.drop o).take n))else none
 | .a16 l,some i=>match off with
  |0=>some ([i+n<=s],.a16 ((l.drop i).take n))
  |o=>some ([i+o+n<=s],.a16 ((l.drop (i+o)).take n))
 | .a32 l,none=>match off with
  |0=>bif beq n s then some ([],.a32 l)else bif ble n s then some ([],.a32 (l.take n))else none
  |o=>bif ble (o+n) s then some ([],.a32 ((l.drop o).take n))else none
 | .a32 l,some i=>match off with
  |0=>some ([i+n<=s],.a32 ((l.drop i).take n))
  |o=>some ([i+o+n<=s],.a32 ((l.drop (i+o)).take n))
 | .a64 l,none=>match off with
  |0=>bif beq n s then some ([],.a64 l)else bif ble n s then some ([],.a64 (l.take n))else none
  |o=>bif ble (o+n) s then some ([],.a64 ((l.drop o).take n))else none
 | .a64 l,some i=>match off with
  |0=>some ([i+n<=s],.a64 ((l.drop i).take n))
  |o=>some ([i+o+n<=s],.a64 ((l.drop (i+o)).take n))
 | .ai l,none=>match off with
  |0=>bif beq n s then some ([],.ai l)else bif ble n s then some ([],.ai (l.take n))else none
  |o=>bif ble (o+n) s then some ([],.ai ((l.drop o).take n))else none
 | .ai l,some i=>match off with
  |0=>some ([i+n<=s],.ai ((l.drop i).take n))
  |o=>some ([i+o+n<=s],.ai ((l.drop (i+o)).take n))
 |_,_=>none
def gy (ls:List (Nat×SV)) (n:Nat):Option (List (Nat×SV)):=
 match n with
 |0=>some []
 |n+1=>match ls with
  |[]=>none
  |(s,v)::r=>match s with
   |0=>none
   |s+1=>bif ble (s+1) (n+1)then(gy r (n+1-(s+1))).map ((s+1,v)::·)else none
def rH (ls:List (Nat×SV)) (n:Nat):Bool:=
 match n with
 |0=>match ls with
  |[]=>true
  |_::_=>false
 |n+1=>match ls with
  |[]=>false
  |(s,_)::r=>match s with
   |0=>false
   |s+1=>bif ble (s+1) (n+1)then rH r (n+1-(s+1))else false
theorem jp:∀{n:Nat} {ls:List (Nat×SV)},rH ls n=true->zL ls=n:=by
 intro n
 induction n using Nat.strongRecOn with
 |_ n ih=>
  intro ls h
  unfold rH at h
  split at h
  ·split at h
   ·rfl
   cases h
  rename_i n
  split at h
  ·cases h
  split at h
  ·cases h
  rename_i s r v s'
  cases hb:ble (s'+1) (n+1)with
  |false=>rw[hb]at h;cases h
  |true=>
   rw[hb]at h
   have hle:=Nat.le_of_ble_eq_true hb
   have:=ih _ (by omega) h
   show s'+1+zL r=n+1
   rw[this];omega
def xg (ls:List (Nat×SV)) (f:Nat) (i:Option Nat) (k:TyK) (n:Nat):Out:=
 match ls with
 |[]=>none
 | (s,v)::r=>
  match f with
  |0=>match k with
   | .struct _=>match i with
    |none=>bif rH ((s,v)::r) n then some ([],.agg ((s,v)::r))else(gy ((s,v)::r) n).map λl=>([],.agg l)
    |some _=>none
   | .array _ _=>bif aq v then ol v s 0 i n else match i with
    |none=>(gy ((s,v)::r) n).map λl=>([],.agg l)
    |some _=>none
   |_=>match i with
    |none=>sH v s 0 none
    |some j=>bif aq v||cw v then sH v s 0 (some j)else match j with
     |0=>some ([],v)
     |j+1=>xg r 0 (some j) k n
  |f+1=>bif blt (f+1) s
    then match k with
     | .struct _=>none
     | .array _ _=>bif aq v then ol v s (f+1) i n else none
     |_=>sH v s (f+1) i
    else xg r (f+1-s) i k n
def dG (ls:List (Nat×SV)) (n:Nat):Option (List (Nat×SV)):=
 match n with
 |0=>some ls
 |n+1=>match ls with
  |[]=>none
  |(s,_)::r=>bif ble s (n+1)then dG r (n+1-s)else none
def aV0 (k:TyK) (ls:List (Nat×SV)):Option SV:=
 match k with
 | .struct _=>some (.agg ls)
 | .array _ _=>match ls with
  |[(s,v)]=>bif aq v then some v else some (.agg [(s,v)])
  |ls=>some (.agg ls)
 |_=>match ls with
  |[(_,v)]=>bif aq v||cw v then none else some v
  |_=>none
def aK5 (ls:List (Nat×SV)) (f q s:Nat) (k:TyK) (n:Nat):Out:=
 match ls with
 | [(t,v)]=>match v with
  | .arr m es F=>bif beq es s then match dG (F q) f with
    |some r=>match gy r n with
     |some l=>match aV0 k l with
      |some z=>some ([q<m],z)
      |none=>none
     |none=>none
    |none=>none
   else none
  |v=>bif aq v then match f with
    |0=>match k with
     | .struct _=>none
     | .array _ _=>ol v t 0 (some (q*s)) n
     |_=>match s with
      |1=>sH v t 0 (some q)
      |_=>none
    |_=>none
   else none
 |_=>none
def aQU (M:Mm) (a f q s:Nat) (y:Ty):Out:=
 match y.k with
 | .bad=>none
 |k=>match zG M a with
  |some (.mem _ _ ls)=>aK5 ls f q s k y.size
  |_=>none
def aQT (ls:List (Nat×SV)) (f q s:Nat) (y:Ty):Out:=
 match y.k with
 | .bad=>none
 |k=>match aK5 ls f q s k y.size with
  |some r=>some r
  |none=>match q with
   |0=>xg ls f none k y.size
   |_=>none
def aK4 (M:Mm) (a f:Nat) (i:Option Nat) (y:Ty):Out:=
 match y.k with
 | .bad=>none
 |k=>match zG M a with
  |some (.mem _ _ ls)=>xg ls f i k y.size
  |_=>none
def u6:TyK->Bool
 | .struct _=>true
 |_=>false
def fL (q k:Nat):Nat:=
 match q with
 |0=>k
 |q=>q+k
def aRG (a f:Nat) (i:Option Nat) (es:Nat) (n:Nat):SV:=
 match es,i with
 |1,none=>.ptr a f (some n)
 |1,some j=>.ptr a f (some (n+j))
 |s,none=>.ptr a f (some (n*s))
 |s,some j=>.ptr a f (some (n*s+j))
def aU8 (a f:Nat) (i:Option Nat) (es:Nat) (n:Nat):Option SV:=
 match n with
 |0=>some (.ptr a f i)
 |1=>some (.ptr a (f+es) i)
 |_=>none
def aU9 (rw:Bool) (a f:Nat) (i:Option Nat) (es:Nat) (n:Nat):Option SV:=
 match rw with
 |true=>match i with
  |none=>some (.ep a f n es)
  |some _=>none
 |false=>aU8 a f i es n
def aMA (a f i es n:Nat):SV:=
 match es with
 |1=>.ptr a f (some (fL i n))
 |s=>.ptr a f (some (fL i (n*s)))
def aSY (M:Mm) (x:SV):Bool:=
 match x with
 | .sl a _ _ _ _=>match zG M a with
  |some (.mem _ _ [(_,.arr _ es _)])=>!beq es 1
  |_=>false
 | .slx a _ _ _=>match zG M a with
  |some (.mem _ _ [(_,.arr _ es _)])=>!beq es 1
  |_=>false
 | .ptr a _ _=>match zG M a with
  |some (.mem _ _ [(_,.arr _ es _)])=>!beq es 1
  |_=>false
 |_=>false
def mw (ty:Nat->Ty) (rw:Bool) (t:Nat) (x:SV) (ix:List Prop×Ix):Out:=
 match(ty t).k with
 | .array len e=>match x with
  | .ptr a f i=>match ix.2 with
   | .lit n=>bif blt n len then match(ty e).k with
    | .bad=>none
    |_=>some (ix.1,.ptr a (f+n*(ty e).size) i)else none
   | .dyn n=>match(ty e).k with
    | .bad=>none
    | .struct _=>match aU9 rw a f i (ty e).size n with
     |some v=>some ((n<len)::ix.1,v)
     |none=>none
    |_=>some ((n<len)::ix.1,aRG a f i (ty e).size n)
  |_=>none
 | .slice e=>match(ty e).k with
  | .bad=>none
  |_=>match x with
  | .sl a f i n' _=>bif u6 (ty e).k||rw then some ((ix.2.val<n')::(i=0)::ix.1,.ep a f ix.2.val (ty e).size)else some ((ix.2.val<n')::ix.1,aMA a f i (ty e).size ix.2.val)
  | .slx a f i n'=>bif u6 (ty e).k||rw then some ((ix.2.val<n')::(i=0)::ix.1,.ep a f ix.2.val (ty e).size)else some ((ix.2.val<n')::ix.1,aMA a f i (ty e).size ix.2.val)
  | .isl q n' s ls=>bif beq s (ty e).size then some ((ix.2.val<n')::ix.1,.iep 0 (fL q ix.2.val) s ls)else none
  |_=>none
 |_=>none
def nB (ty:Nat->Ty) (t:Nat) (x:SV) (f:Nat):Out:=
 match(ty t).k with
 | .struct fs=>match x,fs[f]? with
  | .ptr a f0 i,some (off,ft)=>match(ty ft).k with
   | .bad=>none
   |_=>match(ty ft).size with
    |0=>none
    |_=>some ([],.ptr a (f0+off) i)
  | .ep a f0 q s,some (off,ft)=>match(ty ft).k with
   | .bad=>none
   |_=>match(ty ft).size with
    |0=>none
    |_=>some ([],.ep a (f0+off) q s)
  | .iep f0 q s ls,some (off,ft)=>match(ty ft).k with
   | .bad=>none
   |_=>match(ty ft).size with
    |0=>none
    |_=>some ([],.iep (f0+off) q s ls)
  |_,_=>none
 |_=>none
def aHN (ty:Nat->Ty) (t:Nat) (x:SV) (f:Nat):Out:=
  match(ty t).k with
  | .struct fs=>match x,fs[f]? with
    | .agg ls,some (off,ft)=>match(ty ft).k with
     | .bad=>none
     |_=>match dG ls off with
      |some r=>match gy r (ty ft).size with
        |some l=>(aV0 (ty ft).k l).map λv=>([],v)
        |none=>none
      |none=>none
    |_,_=>none
  |_=>none
def aCE (ty:Nat->Ty) (ft:Nat) (x y:SV):Option (List Prop×Prop):=
 match(ty ft).k with
 | .array n e=>bif beq (ty e).size 1 then aY4 n (ty e).k x y else none
 | .int _=>match x,y with
  | .u8 a,.u8 b=>some ([],a=b)
  | .u16 a,.u16 b=>some ([],a=b)
  | .u32 a,.u32 b=>some ([],a=b)
  | .u64 a,.u64 b=>some ([],a=b)
  | .i k a,.i j b=>bif k==j then some ([],a=b)else none
  |_,_=>none
 | .bool=>(aY3 x y).map λp=>([],p)
 |_=>none
def aA1 (ty:Nat->Ty) (ls:List (Nat×SV)) (off ft:Nat):Option SV:=
 match(ty ft).k with
 | .bad=>none
 |_=>match dG ls off with
  |some r=>match gy r (ty ft).size with
   |some l=>aV0 (ty ft).k l
   |none=>none
  |none=>none
def zj (ty:Nat->Ty) (a b:List (Nat×SV)):List (Nat×Nat)->Option (List Prop×Prop)
 |[]=>some ([],True)
 | (off,ft)::r=>match aA1 ty a off ft with
  |some x=>match aA1 ty b off ft with
   |some y=>match aCE ty ft x y with
    |some (ps,p)=>match r with
     |[]=>some (ps,p)
     |r=>match zj ty a b r with
      |some (qs,q)=>some (ps++qs,p/\q)
      |none=>none
    |none=>none
   |none=>none
  |none=>none
def eqT (ty:Nat->Ty) (t:Nat) (x y:SV):Option (List Prop×Prop):=
 match(ty t).k with
 | .struct fs=>bif (ty t).eq then match x with
  | .agg a=>match y with
   | .agg b=>zj ty a b fs
   |_=>none
  |_=>none else none
 |_=>none
def aG5 (ty:Nat->Ty) (t:Nat) (x:SV) (ix:List Prop×Ix):Out:=
 match(ty t).k with
 | .array len e=>bif (beq (ty e).size 1&& !bZ (ty e).k)&& !i6 (ty e).k then match x with
  | .a8 l=>some ((l.length=len)::(ix.2.val<len)::ix.1,.u8 (l.getD ix.2.val 0))
  | .a16 l=>some ((l.length=len)::(ix.2.val<len)::ix.1,.u16 (l.getD ix.2.val 0))
  | .a32 l=>some ((l.length=len)::(ix.2.val<len)::ix.1,.u32 (l.getD ix.2.val 0))
  | .a64 l=>some ((l.length=len)::(ix.2.val<len)::ix.1,.u64 (l.getD ix.2.val 0))
  | .ai l=>some ((l.length=len)::(ix.2.val<len)::ix.1,.i .i64 (l.getD ix.2.val 0))
  |_=>none else none
 | .string=>match x with
  | .str l=>some ((ix.2.val<l.length)::ix.1,.u8 (l.getD ix.2.val 0))
  |_=>none
 |_=>none
def aMN (T:Tm):Option Operand->Option (List Prop×Option Nat)
 |none=>some ([],none)
 |some o=>match ixO T o with
  |some (ps,ix)=>some (ps,some ix.val)
  |none=>none
def aV6 (f n:Nat) (ls:List (Nat×SV)):SV:=
 match dG ls f with
 |some r=>match gy r n with
  |some l0=>match l0 with
   |[p]=>.isl 0 n 1 [p]
   |_=>.isl f n 1 ls
  |none=>.isl f n 1 ls
 |none=>.isl f n 1 ls
def aSZ (s q:Nat) (ls:List (Nat×SV)):Option (List Prop×List (Nat×SV)):=
 match ls with
 |[(_,.arr m es F)]=>bif beq es s&&tP (F q)then some ([q<m],F q)else none
 |_=>none
def uJ (ty:Nat->Ty) (t:Nat) (x:SV) (lo hi mx:List Prop×Option Nat):Out:=
  match(ty t).k with
  | .array n e=>match(ty e).k with
   | .bad=>none
   |_=>match x,lo.2,hi.2,mx.2 with
    | .ptr a f i,none,none,none=>some ([],.sl a f (i.getD 0) n n)
    | .ptr a f i,none,some h,none=>some ((h<=n)::hi.1,.sl a f (i.getD 0) h n)
    | .ptr a f i,some l,none,none=>some ((l<=n)::lo.1,.sl a f (l*(ty e).size+i.getD 0) (n-l) (n-l))
    | .ptr a f i,some l,some h,none=>some ((h<=n)::(l<=h)::(lo.1++hi.1),.sl a f (l*(ty e).size+i.getD 0) (h-l) (n-l))
    | .iep f q s ls,none,none,none=>(match aSZ s q ls with
      |some r=>bif beq (ty e).size 1 then some (r.1,aV6 f n r.2)else none
      |none=>bif beq q 0&&beq (ty e).size 1 then some ([],aV6 f n ls)else none)
    | .iep f q _ ls,none,some h,none=>bif beq q 0&&beq (ty e).size 1 then some ((h<=n)::hi.1,.isl f h 1 ls)else none
    | .iep f q _ ls,some l,none,none=>bif beq q 0&&beq (ty e).size 1 then some ((l<=n)::lo.1,.isl (fL f l) (n-l) 1 ls)else none
    | .iep f q _ ls,some l,some h,none=>bif beq q 0&&beq (ty e).size 1 then some ((h<=n)::(l<=h)::(lo.1++hi.1),.isl (fL f l) (h-l) 1 ls)else none
    | .ptr a f i,none,some h,some m=>some ((m<=n)::(h<=m)::(hi.1++mx.1),.sl a f (i.getD 0) h m)
    |_,_,_,_=>none
  | .slice e=>match(ty e).k with
   | .bad=>none
   |_=>match x,lo.2,hi.2,mx.2 with
    | .sl a f i n c,none,none,none=>some ([],.sl a f i n c)
    | .sl a f i _ c,none,some h,none=>some ((h<=c)::hi.1,.sl a f i h c)
    | .sl a f i n c,some l,none,none=>some ((l<=n)::lo.1,.sl a f (l*(ty e).size+i) (n-l) (c-l))
    | .sl a f i _ c,some l,some h,none=>some ((h<=c)::(l<=h)::(lo.1++hi.1),.sl a f (l*(ty e).size+i) (h-l) (c-l))
    | .sl a f i _ c,none,some h,some m=>some ((m<=c)::(h<=m)::(hi.1++mx.1),.sl a f i h m)
    | .sl a f i _ c,some l,some h,some m=>some ((m<=c)::(h<=m)::(l<=h)::(lo.1++hi.1++mx.1),.sl a f (l*(ty e).size+i) (h-l) (m-l))
    | .slx a f i n,none,none,none=>some ([],.slx a f i n)
    | .slx a f i n,none,some h,none=>some ((h<=n)::hi.1,.slx a f i h)
    | .slx a f i n,some l,none,none=>some ((l<=n)::lo.1,.slx a f (l*(ty e).size+i) (n-l))
    | .slx a f i n,some l,some h,none=>some ((h<=n)::(l<=h)::(lo.1++hi.1),.slx a f (l*(ty e).size+i) (h-l))
    | .slx a f i n,none,some h,some m=>some ((m<=n)::(h<=m)::(hi.1++mx.1),.sl a f i h m)
    | .slx a f i n,some l,some h,some m=>some ((m<=n)::(h<=m)::(l<=h)::(lo.1++hi.1++mx.1),.sl a f (l*(ty e).size+i) (h-l) (m-l))
    | .isl q n s ls,none,none,none=>some ([],.isl q n s ls)
    | .isl q n s ls,none,some h,none=>some ((h<=n)::hi.1,.isl q h s ls)
    | .isl q n s ls,some l,none,none=>bif beq s (ty e).size then some ((l<=n)::lo.1,.isl (fL q l) (n-l) s ls)else none
    | .isl q n s ls,some l,some h,none=>bif beq s (ty e).size then some ((h<=n)::(l<=h)::(lo.1++hi.1),.isl (fL q l) (h-l) s ls)else none
    | .isl q n s ls,none,some h,some m=>some ((m<=n)::(h<=m)::(hi.1++mx.1),.isl q h s ls)
    | .isl q n s ls,some l,some h,some m=>bif beq s (ty e).size then some ((m<=n)::(h<=m)::(l<=h)::(lo.1++hi.1++mx.1),.isl (fL q l) (h-l) s ls)else none
    |_,_,_,_=>none
  | .string=>match x,lo.2,hi.2,mx.2 with
    | .str s,none,none,none=>some ([],.str s)
    | .str s,none,some h,none=>some ((h<=s.length)::hi.1,.str (s.take h))
    | .str s,some l,none,none=>some ((l<=s.length)::lo.1,.str (s.drop l))
    | .str s,some l,some h,none=>some ((h<=s.length)::(l<=h)::(lo.1++hi.1),.str ((s.take h).drop l))
    |_,_,_,_=>none
  |_=>none
def bytesOf (M:Mm) (x:SV):Option (List Prop×List UInt8):=
 match x with
 | .nsl=>some ([],[])
 | .sl a f i n _=>match zG M a with
  |some (.mem _ _ ls)=>match subAny ls f i n with
   |some r=>some r
   |none=>none
  |_=>none
 | .slx a f i n=>match zG M a with
  |some (.mem _ _ ls)=>match subAny ls f i n with
   |some r=>some r
   |none=>none
  |_=>none
 | .isl q n s ls=>match s with
  |1=>match subAny ls 0 q n with
   |some r=>some r
   |none=>none
  |_=>none
 |_=>none
 where
 subAny (ls:List (Nat×SV)) (f i n:Nat):Option (List Prop×List UInt8):=
  match ls with
  |[]=>none
  |(s,v)::r=>match f with
   |0=>match v with
    | .a8 l=>some ([i+n<=s],(l.drop i).take n)
    |_=>none
   |f+1=>bif blt (f+1) s then none else subAny r (f+1-s) i n
def aXY (k:TyK) (x:SV):Out:=
 match k with
 | .slice _=>match x with
  | .sl _ _ _ n _=>some ([],.i .i64 (n:Int))
  | .slx _ _ _ n=>some ([],.i .i64 (n:Int))
  | .isl _ n _ _=>some ([],.i .i64 (n:Int))
  | .nsl=>some ([],.i .i64 0)
  |_=>none
 | .string=>match x with
  | .str l=>some ([],.i .i64 (l.length:Int))
  |_=>none
 |_=>none
def aXU (x y:SV):Out:=
 match x,y with
 | .i k a,.i j b=>bif k==j then some ([],.i k (if b<a then b else a))else none
 |_,_=>none
def aXV (x y:SV):Out:=
 match x,y with
 | .i k a,.i j b=>bif k==j then some ([],.i k (if a<b then b else a))else none
 |_,_=>none
def aZB (k:TyK) (x:SV):Out:=
 match k with
 | .slice _=>match x with
  | .sl _ _ _ _ c=>some ([],.i .i64 (c:Int))
  |_=>none
 |_=>none
def aIJ (ty:Nat->Ty) (b:Builtin) (ts:List TypeId) (T:Tm) (args:List Operand):Out:=
 match b with
 | .len=>match args,ts with
  |[x],[t]=>aXY (ty t).k (ev T x)
  |_,_=>none
 | .cap=>match args,ts with
  |[x],[t]=>aZB (ty t).k (ev T x)
  |_,_=>none
 | .min=>match args with
  |[x,y]=>aXU (ev T x) (ev T y)
  |_=>none
 | .max=>match args with
  |[x,y]=>aXV (ev T x) (ev T y)
  |_=>none
 |_=>none
def iM (y:Ty) (v:SV):Option (List Prop×List (Nat×SV)):=
 match v with
 | .und| .tup _| .arr _ _ _=>none
 | .agg ls=>some ([],ls)
 | .a8 l=>some ([l.length=y.size],[(y.size,.a8 l)])
 | .a16 l=>some ([l.length=y.size],[(y.size,.a16 l)])
 | .a32 l=>some ([l.length=y.size],[(y.size,.a32 l)])
 | .a64 l=>some ([l.length=y.size],[(y.size,.a64 l)])
 | .ai l=>some ([l.length=y.size],[(y.size,.ai l)])
 |v=>some ([],[(1,v)])
def aKL (ls:List (Nat×SV)) (f:Nat) (new:List (Nat×SV)):Option (List (Nat×SV)):=
 match f with
 |0=>(dG ls (zL new)).map (new++·)
 |f+1=>match ls with
  |[]=>none
  |(s,v)::r=>match s with
   |0=>none
   |s+1=>bif ble (s+1) (f+1)then(aKL r (f+1-(s+1)) new).map ((s+1,v)::·)else none
def dV (ty:Nat->Ty) (T:Tm) (place:Nat->Option (Nat×Nat)) (ls:List (Nat×SV)):List (Nat×Operand)->Option (List Prop×List (Nat×SV))
 |[]=>some ([],ls)
 | (i,x)::r=>match place i with
  |none=>none
  |some (off,t)=>bif i6 (ty t).k then none else match iM (ty t) (ev T x)with
   |none=>none
   |some (ps,l)=>bif beq (zL l) (ty t).size then match aKL ls off l with
    |none=>none
    |some ls'=>match dV ty T place ls' r with
     |none=>none
     |some (qs,ls'')=>some (ps++qs,ls'')
    else none
def aQW (T:Tm) (j:Nat) (z:List UInt8) (ps:List (Nat×Operand)):Option (List UInt8):=
 match ps with
 |[]=>some z
 | (i,x)::r=>match z with
  |[]=>none
  |b::z=>bif beq i j
   then match ev T x with
    | .u8 c=>match aQW T (j+1) z r with
     |some q=>some (c::q)
     |none=>none
    |_=>none
   else match aQW T (j+1) z ((i,x)::r)with
    |some q=>some (b::q)
    |none=>none
def xk (T:Tm) (j:Nat) (z:List UInt16) (ps:List (Nat×Operand)):Option (List UInt16):=
 match ps with
 |[]=>some z
 | (i,x)::r=>match z with
  |[]=>none
  |b::z=>bif beq i j
   then match ev T x with
    | .u16 c=>match xk T (j+1) z r with
     |some q=>some (c::q)
     |none=>none
    |_=>none
   else match xk T (j+1) z ((i,x)::r)with
    |some q=>some (b::q)
    |none=>none
def xj (T:Tm) (j:Nat) (z:List UInt32) (ps:List (Nat×Operand)):Option (List UInt32):=
 match ps with
 |[]=>some z
 | (i,x)::r=>match z with
  |[]=>none
  |b::z=>bif beq i j
   then match ev T x with
    | .u32 c=>match xj T (j+1) z r with
     |some q=>some (c::q)
     |none=>none
    |_=>none
   else match xj T (j+1) z ((i,x)::r)with
    |some q=>some (b::q)
    |none=>none
def xi (T:Tm) (j:Nat) (z:List UInt64) (ps:List (Nat×Operand)):Option (List UInt64):=
 match ps with
 |[]=>some z
 | (i,x)::r=>match z with
  |[]=>none
  |b::z=>bif beq i j
   then match ev T x with
    | .u64 c=>match xi T (j+1) z r with
     |some q=>some (c::q)
     |none=>none
    |_=>none
   else match xi T (j+1) z ((i,x)::r)with
    |some q=>some (b::q)
    |none=>none
def aQV (T:Tm) (j:Nat) (z:List Int) (ps:List (Nat×Operand)):Option (List Int):=
 match ps with
 |[]=>some z
 | (i,x)::r=>match z with
  |[]=>none
  |b::z=>bif beq i j
   then match ev T x with
    | .i .i64 c=>match aQV T (j+1) z r with
     |some q=>some (c::q)
     |none=>none
    |_=>none
   else match aQV T (j+1) z ((i,x)::r)with
    |some q=>some (b::q)
    |none=>none
def aSC (T:Tm) (zl:List (Nat×SV)) (ps:List (Nat×Operand)):Option SV:=
 match zl with
 |[(_,z)]=>match z with
  | .a8 z=>(aQW T 0 z ps).map .a8
  | .a16 z=>(xk T 0 z ps).map .a16
  | .a32 z=>(xj T 0 z ps).map .a32
  | .a64 z=>(xi T 0 z ps).map .a64
  | .ai z=>(aQV T 0 z ps).map .ai
  |_=>none
 |_=>none
def aD7:List (Nat×SV)->Option (List UInt8)
 |[(_,.a8 x),(_,.a8 y)]=>some (x++y)
 |_=>none
def aAT (ty:Nat->Ty) (T:Tm) (e:Nat) (zl:List (Nat×SV)) (parts:List (Nat×Operand)):Out:=
 match zl with
 |[(s,.a8 l)]=>bif beq s ((ty e).size+(ty e).size)then(match dV ty T (λi=>some (i*(ty e).size,e)) [((ty e).size,.a8 (l.take (ty e).size)),((ty e).size,.a8 (l.drop (ty e).size))] parts with
  |some (ps,ls)=>(match aD7 ls with
   |some x=>some (ps,.a8 x)
   |none=>none)
  |none=>none)else none
 |_=>none
def aIK (ty:Nat->Ty) (T:Tm) (t:Nat) (parts:List (Nat×Operand)):Out:=
 match(ty t).k with
 | .struct fs=>bif fs.all (λp=>!i6 (ty p.2).k)then match(ty t).zl with
  |[]=>none
  |zl=>match dV ty T (λi=>fs[i]?) zl parts with
   |some (ps,l)=>some (ps,.agg l)
   |none=>none
  else none
 | .array _ e=>(match beq (ty e).size 1 with
  |true=>bif !i6 (ty e).k then match aSC T (ty t).zl parts with
   |some v=>some ([],v)
   |none=>none
   else none
  |false=>bif !i6 (ty e).k then aAT ty T e (ty t).zl parts else none)
 |_=>none
def aIH (T:Tm) (l:List Operand):Option (List (Nat×Nat)):=
 match l with
 |[]=>some []
 |x::r=>match ev T x with
  | .ptr a f none=>match aIH T r with
   |some q=>some ((a,f)::q)
   |none=>none
  |_=>none
def aNR (T:Tm) (fn:Go.Fn) (first captured:List Operand):Out:=
 match fn with
 | .func g=>match first with
  |[]=>match aIH T captured with
   |some q=>some ([],.fn g q)
   |none=>none
  |_=>none
 |_=>none
def aGZ (k:TyK):Bool:=
 match k with
 | .string=>true
 |_=>false
def z8 (y:Ty):Bool:=
 match y.k with
 | .int .i64=>match y.zl with
  |[(_,.i .i64 (.ofNat 0))]=>true
  |_=>false
 |_=>false
def aK1 (ty:Nat->Ty) (t:Nat):Bool:=
 match(ty t).k with
 | .map k e=>aGZ (ty k).k&&z8 (ty e)
 |_=>false
def aQR (ty:Nat->Ty) (M:Mm) (t:Nat) (x k:SV) (ok:Bool):Out:=
 bif aK1 ty t then match x with
  | .mp a=>match zG M a with
   |some (.map (.si l))=>match k with
    | .str s=>match ok with
     |true=>some ([],.tup [.i .i64 ((iA l s).getD 0),.bool ((iA l s).isSome=true)])
     |false=>some ([],.i .i64 ((iA l s).getD 0))
    |_=>none
   |_=>none
  |_=>none
 else none
def aWZ (ty:Nat->Ty) (M:Mm) (t:Nat) (x k v:SV):Option (List Prop×Nat×List (List UInt8×Int)):=
 bif aK1 ty t then match x with
  | .mp a=>match zG M a with
   |some (.map (.si l))=>match k with
    | .str s=>match v with
     | .i .i64 n=>some ([iA l s=none],a,l++[(s,n)])
     |_=>none
    |_=>none
   |_=>none
  |_=>none
 else none
def fo (ty:Nat->Ty) (T:Tm) (M:Mm) (op:Op):Out:=
 match op with
 | .move x| .assign x=>match ev T x with
  | .und=>none
  |v=>some ([],v)
 | .nilCheck x=>match ev T x with
  | .ptr a f i=>some ([],.ptr a f i)
  | .ep a f q s=>some ([],.ep a f q s)
  | .iep f q s ls=>some ([],.iep f q s ls)
  | .fn f c=>some ([],.fn f c)
  |_=>none
 | .pick c a b=>match ev T c with
  | .tt=>match ev T a with
   | .und=>none
   |v=>some ([],v)
  | .ff=>match ev T b with
   | .und=>none
   |v=>some ([],v)
  | .bool p=>match yg (ev T a),yg (ev T b)with
   |some q,some r=>some ([],.bool (p/\q\/¬p/\r))
   |none,some _=>some ([¬p],ev T b)
   |some _,none=>some ([p],ev T a)
   |none,none=>none
  |_=>none
 | .binOp .shl _ x y _=>match aWJ T y with
  |some (ps,n)=>match aWY (ev T x) n with
   |some (qs,v)=>some (qs++ps,v)
   |none=>none
  |none=>none
 | .binOp .shr _ x y _=>match aWJ T y with
  |some (ps,n)=>match aWX (ev T x) n with
   |some (qs,v)=>some (qs++ps,v)
   |none=>none
  |none=>none
 | .binOp op t x y _=>match eqT ty t (ev T x) (ev T y)with
  |some (ps,p)=>(match op with
   | .eql=>some (ps,.bool p)
   | .neq=>some (ps,.bool (¬p))
   |_=>none)
  |none=>aZD ty op t (ev T x) (ev T y)
 | .unOp op _ x=>unV op (ev T x)
 | .convert s d x=>match(ty d).k with
  | .int k=>match(ty s).k with
   | .int _=>aRP k (ev T x)
   |_=>none
  | .string=>match(ty s).k with
   | .slice e=>match(ty e).k with
    | .int .u8=>(bytesOf M (ev T x)).map λr=>(r.1,.str r.2)
    |_=>none
   | .string=>match ev T x with
    | .str l=>some ([],.str l)
    |_=>none
   |_=>none
  |_=>none
 | .fieldAddr t x f=>nB ty t (ev T x) f
 | .field t x f=>aHN ty t (ev T x) f
 | .indexAddr t x ix=>match ixO T ix with
  |some r=>mw ty (aSY M (ev T x)) t (ev T x) r
  |none=>none
 | .index t x ix=>match ixO T ix with
  |some r=>aG5 ty t (ev T x) r
  |none=>none
 | .slice t x lo hi mx=>match aMN T lo,aMN T hi,aMN T mx with
  |some l,some h,some m=>uJ ty t (ev T x) l h m
  |_,_,_=>none
 | .load t x=>match ev T x with
  | .ptr a f i=>aK4 M a f i (ty t)
  | .ep a f q s=>aQU M a f q s (ty t)
  | .iep f q s ls=>aQT ls f q s (ty t)
  |_=>none
 | .extract x k=>match ev T x with
  | .tup vs=>match vs[k]? with
   |some .und=>none
   |some v=>some ([],v)
   |none=>none
  |_=>none
 | .build t parts=>aIK ty T t parts.toList
 | .call c=>match c.callee with
  | .builtin b=>aIJ ty b c.argTypes.toList T c.args.toList
  |_=>none
 | .makeFunc fn first captured=>aNR T fn first.toList captured.toList
 | .lookup t x k ok=>aQR ty M t (ev T x) (ev T k) ok
 |_=>none
variable {P:Program}
theorem fY (b o i:Nat):(⟨b,o,none⟩:Addr).add i=⟨b,o+i,none⟩:=by
 unfold Addr.add;split
 ·subst_vars;rfl
 rfl
theorem kg (h:w.cell? a=some v) (m:Mode):(load a m).run P w= .ok v w:=by
 rw[run_load,h]
theorem gZ:∀(cs:List Value) (i:Nat) (acc:Array Value),
  (∀j v,cs[j]? =some v->w.cell? ⟨b,o+(i+j),none⟩=some v)->
  (loadCellsFrom ⟨b,o,none⟩ i cs.length acc).run P w= .ok (acc++cs.toArray) w
 |[],i,acc,_=>by simp[loadCellsFrom]
 |v::r,i,acc,h=>by
  have h0:=h 0 v rfl
  simp only[List.length_cons,loadCellsFrom,fY,run_bind]
  rw[Nat.add_zero]at h0
  rw[kg h0,andThen_ok]
  rw[gZ r (i+1) (acc.push v) (λj u hj=>by
   have:=h (j+1) u (by simpa using hj)
   rw[show i+1+j=i+(j+1) by omega];exact this)]
  simp
theorem g6 {w:World} {b o n:Nat} {cs:List Value} (hn:n=cs.length) (h:∀j v,cs[j]? =some v->w.cell? ⟨b,o+j,none⟩=some v):
  (loadCells ⟨b,o,none⟩ n).run P w= .ok cs.toArray w:=by
 subst hn
 unfold loadCells
 rw[gZ cs 0 #[] (by simpa using h)]
 simp
structure yX (b o:Nat) (cs:List Value) (w w':World):Prop where
 size:w'.heap.size=w.heap.size
 os:w'.os=w.os
 output:w'.output=w.output
 blk:∀k:Nat,k≠b->w'.heap[k]? =w.heap[k]?
 blk0:cs.length=0->∀k:Nat,w'.heap[k]? =w.heap[k]?
 new:∀j v,cs[j]? =some v->w'.cell? ⟨b,o+j,none⟩=some v
 old:∀k p,(k=b->p<o\/o+cs.length<=p)->w'.cell? ⟨k,p,none⟩=w.cell? ⟨k,p,none⟩
 frz:∀k p,iO w' ⟨k,p,none⟩=iO w ⟨k,p,none⟩
theorem qD (w:World) (a:Addr) (u:Value) (k:Nat) (h:k≠a.block):(w.setCell a u).heap[k]? =w.heap[k]?:=by
 simp only[World.setCell,Array.getElem?_modify]
 rw[if_neg (λe=>h e.symm)]
theorem jB (w:World) (b o:Nat) (u v:Value) (h:w.cell? ⟨b,o,none⟩=some v) (k p:Nat):
    (w.setCell ⟨b,o,none⟩ u).cell? ⟨k,p,none⟩=if k=b/\p=o then some u else w.cell? ⟨k,p,none⟩:=by
  unfold World.cell? at h
  simp only[World.cell?,World.setCell,Array.getElem?_modify]
  by_cases hk:b=k
  · subst hk
    rw[if_pos rfl]
    cases hb:w.heap[b]? with
    |none=>simp[hb]at h
    |some x=>
      rw[hb]at h
      cases x
      case cells c e fz=>
       simp only[isSome_none,false_eq_true,if_false]at h
       simp only[Option.map_some,isSome_none,false_eq_true,if_false,Array.getElem?_setIfInBounds]
       have hlt:o<c.size:=(Array.getElem?_eq_some_iff.1 h).1
       by_cases hp:p=o
       · subst hp;simp[hlt]
       rw[if_neg (λe=>hp e.symm),if_neg (λe=>hp e.2)]
      all_goals simp at h
  rw[if_neg hk,if_neg (λe=>hk e.1.symm)]
theorem jk (w:World) (a:Addr) (u:Value) (q:Addr):iO (w.setCell a u) q=iO w q:=by
 simp only[iO,World.setCell,Array.getElem?_modify]
 by_cases hk:a.block=q.block
 ·rw[if_pos hk]
  cases hb:w.heap[q.block]? with
  |none=>rfl
  |some x=>
   cases x
   case cells c e fz=>
    obtain⟨lo,hi⟩:=fz
    have:(if a.spot.isSome=true then c else c.setIfInBounds a.off u).size=c.size:=by split <;>simp
    simp only[Option.map_some,this]
   all_goals rfl
 rw[if_neg hk]
theorem sX (h:w.cell? ⟨b,o,none⟩=some v) (hf:iO w ⟨b,o,none⟩=false) (hu:one u) (m:Mode):
  (store ⟨b,o,none⟩ u m).run P w= .ok () (w.setCell ⟨b,o,none⟩ u):=by
 have hf:=rA h hf
 rw[run_store P w _ u m (by cases u<;>first|rfl|exact hu.elim),h]
 simp only[hf,false_eq_true,if_false]
theorem bw:∀(cs:List Value) (i:Nat) (w:World),(∀x∈cs,one x)->
  (∀j,j<cs.length->(∃v,w.cell? ⟨b,o+(i+j),none⟩=some v)/\iO w ⟨b,o+(i+j),none⟩=false)->
  ∃w',(storeCells ⟨b,o,none⟩ cs i).run P w= .ok () w'/\yX b (o+i) cs w w'
 |[],i,w,_,_=>⟨w,rfl,rfl,rfl,rfl,λ_ _=>rfl,λ_ _=>rfl,λj v h=>by simp at h,λ_ _ _=>rfl,λ_ _=>rfl⟩
 |u::r,i,w,h1,h2=>by
  obtain⟨⟨v0,h0⟩,hf⟩:=h2 0 (by simp)
  rw[Nat.add_zero]at h0 hf
  have hrun:(store ((⟨b,o,none⟩:Addr).add i) u .plain).run P w= .ok () (w.setCell ⟨b,o+i,none⟩ u):=by
   rw[fY];exact sX h0 hf (h1 u (by simp)) _
  obtain⟨w',hr,hw⟩:=bw r (i+1) (w.setCell ⟨b,o+i,none⟩ u) (λx hx=>h1 x (by simp[hx])) (λj hj=>by
   have:=h2 (j+1) (by simp;omega)
   rw[show i+1+j=i+(j+1) by omega]
   refine⟨?_,by rw[jk];exact this.2⟩
   rw[jB w b (o+i) u v0 h0,if_neg (by omega)]
   exact this.1)
  refine⟨w',?_,?_⟩
  ·simp only[storeCells,run_bind,hrun,andThen_ok];exact hr
  refine⟨by rw[hw.size];simp[World.setCell],hw.os,hw.output,λk hk=>?_,λh=>by simp at h,λj v hj=>?_,λk p hp=>?_,λk p=>?_⟩
  ·rw[hw.blk k hk,qD _ _ _ _ hk]
  ·cases j with
   |zero=>
    have hv:u=v:=by simpa using hj
    subst hv
    rw[Nat.add_zero,hw.old b (o+i) (by omega),jB w b (o+i) u v0 h0,if_pos ⟨rfl,rfl⟩]
   |succ j=>
    have:=hw.new j v (by simpa using hj)
    rw[show o+i+(j+1)=o+(i+1)+j by omega];exact this
  ·rw[List.length_cons]at hp
   rw[hw.old k p (by intro hk;have:=hp hk;omega),jB w b (o+i) u v0 h0,if_neg (by rintro⟨rfl,rfl⟩;have:=hp rfl;omega)]
  rw[hw.frz,jk]
theorem aT (h:wL P t y):(sizeOf t).run P w= .ok y.size w:=by
 obtain⟨i,hi,hs,_⟩:=h.info
 simp[sizeOf,typeInfo,hi,hs]
theorem zru (h:P.underlying t=some d) (w:World):(underlying t).run P w= .ok d w:=run_underlying h w
theorem ki (h:wL P t y):(Go.isAgg t).run P w= .ok (bZ y.k) w:=by
 obtain⟨d,hd,hk⟩:=h.und
 unfold Go.isAgg
 simp only[run_bind,zru hd,andThen_ok]
 cases d<;>cases hy:y.k<;>rw[hy]at hk<;>simp[kEq]at hk<;>rfl
theorem dk (h:wL P t y) (hk:y.k= .array n e):P.underlying t=some (.array n e):=by
 obtain⟨d,hd,hq⟩:=h.und
 rw[hk]at hq
 cases d<;>simp[kEq]at hq
 rw[hd,hq.1,hq.2]
theorem zus (h:wL P t y) (hk:y.k= .slice e):P.underlying t=some (.slice e):=by
 obtain⟨d,hd,hq⟩:=h.und
 rw[hk]at hq
 cases d<;>simp[kEq]at hq
 rw[hd,hq]
theorem ia (h:wL P t y) (hk:y.k= .int e):P.underlying t=some (.int e):=by
 obtain⟨d,hd,hq⟩:=h.und
 rw[hk]at hq
 cases d<;>simp[kEq]at hq
 rw[hd,hq]
theorem aJP (h:wL P t y) (hk:y.k= .bool):P.underlying t=some .bool:=by
 obtain⟨d,hd,hq⟩:=h.und
 rw[hk]at hq
 cases d<;>simp[kEq]at hq
 rw[hd]
theorem bS (h:wL P t y) (hk:y.k= .string):P.underlying t=some .string:=by
 obtain⟨d,hd,hq⟩:=h.und
 rw[hk]at hq
 cases d<;>simp[kEq]at hq
 rw[hd]
theorem wa (h:wL P t y) (hk:y.k= .pointer e):P.underlying t=some (.pointer e):=by
 obtain⟨d,hd,hq⟩:=h.und
 rw[hk]at hq
 cases d<;>simp[kEq]at hq
 rw[hd,hq]
theorem mJ (h:wL P t y) (hk:y.k= .struct fs):∃l,P.underlying t=some (.struct l)/\py l=fs:=by
 obtain⟨d,hd,hq⟩:=h.und
 rw[hk]at hq
 cases d<;>simp[kEq]at hq
 exact⟨_,hd,hq.1⟩
theorem rn (h:wL P t y) (hk:y.k= .struct fs):∃l,P.underlying t=some (.struct l)∧py l=fs∧∀f∈l.toList,f.name≠ "_" :=by
 obtain⟨d,hd,hq⟩:=h.und
 rw[hk]at hq
 cases d<;>simp[kEq]at hq
 rename_i l
 exact⟨l,hd,hq.1,λf hf=>by
  obtain⟨i,hi,rfl⟩:=List.getElem_of_mem hf
  simpa using hq.2 i (by simpa using hi)⟩
theorem iI {α:Type} [BEq α] [LawfulBEq α] (f:α->Int) (hf:∀a b,f a=f b->a=b) (l l':List α):(l.map f==l'.map f)=(l==l'):=by
 rw[Bool.eq_iff_iff,beq_iff_eq,beq_iff_eq]
 refine⟨λh=>?_,λh=>by rw[h]⟩
 exact(List.map_inj_right (λ{a b} h=>hf a b h)).1 h
theorem xD (w:World) (d:Nat) (e:TypeId) (k:IntKind) (he:P.underlying e=some (.int k)) (ha:(Go.isAgg e).run P w= .ok false w) (l l':List Int):
  ∀(n s:Nat),s+n=l.length->s+n=l'.length->
   (forIn (m:=Sem) (List.range' s n 1) ((none:Option Bool),()) λi _=>do
    let a<-part e (l.map (Value.int k)).toArray (i*1)
    let b<-part e (l'.map (Value.int k)).toArray (i*1)
    let r<-Op.equalIn (d+1) e a b
    if(!r)=true then pure (ForInStep.done (some false,()))else pure (ForInStep.yield (none,()))).run P w=
   .ok ((if l.drop s==l'.drop s then none else some false),()) w:=by
 intro n
 induction n with
 |zero=>
  intro s h1 h2
  have e1:l.drop s=[]:=List.drop_eq_nil_of_le (by omega)
  have e2:l'.drop s=[]:=List.drop_eq_nil_of_le (by omega)
  simp[e1,e2]
 |succ n ih=>
  intro s h1 h2
  have hs:s<l.length:=by omega
  have hs':s<l'.length:=by omega
  have p1:(part e (l.map (Value.int k)).toArray (s*1)).run P w= .ok (.int k l[s]) w:=by
   simp[part,ha,hs]
  have p2:(part e (l'.map (Value.int k)).toArray (s*1)).run P w= .ok (.int k l'[s]) w:=by
   simp[part,ha,hs']
  rw[List.range'_succ,List.forIn_cons]
  simp only[run_bind,p1,p2,andThen_ok,run_equalIn_int w d e k k l[s] l'[s] he]
  rw[List.drop_eq_getElem_cons hs,List.drop_eq_getElem_cons hs']
  by_cases h:l[s]=l'[s]
  ·have:=ih (s+1) (by omega) (by omega)
   simp only[h,BEq.rfl,Bool.not_true,false_eq_true,if_false,run_pure,andThen_ok]
   rw[this]
   have hc:(l'[s]::drop (s+1) l==l'[s]::drop (s+1) l')=(drop (s+1) l==drop (s+1) l'):=by
    rw[Bool.eq_iff_iff];simp only[beq_iff_eq,List.cons.injEq,true_and]
   rw[hc]
  have hb:(l[s]==l'[s])=false:=by simpa using h
  have hc:(l[s]::drop (s+1) l==l'[s]::drop (s+1) l')=false:=by
   rw[beq_eq_false_iff_ne];intro e;exact h (List.cons.inj e).1
  rw[hc]
  simp[hb]
theorem nt (w:World) (d:Nat) (t e:TypeId) (len:Nat) (k:IntKind) (l l':List Int) (ht:P.underlying t=some (.array len e)) (he:P.underlying e=some (.int k))
  (hs:(sizeOf e).run P w= .ok 1 w) (h1:l.length=len) (h2:l'.length=len):
  (Op.equalIn (d+2) t (.agg (l.map (Value.int k)).toArray) (.agg (l'.map (Value.int k)).toArray)).run P w= .ok (l==l') w:=by
 have ha:(Go.isAgg e).run P w= .ok false w:=by simp[Go.isAgg,zru he]
 unfold Op.equalIn
 simp only[run_bind,zru ht,andThen_ok,hs]
 rw[Std.Legacy.Range.forIn_eq_forIn_range']
 have hr:=xD w d e k he ha l l' len 0 (by omega) (by omega)
 simp only[List.drop_zero]at hr
 simp only[Std.Legacy.Range.size,Nat.sub_zero,Nat.add_sub_cancel,Nat.div_one]at hr⊢
 rw[hr]
 by_cases h:l==l'
 ·simp[h]
 simp[h]
variable {P:Program}
def All (ps:List Prop):Prop:=∀p∈ps,p
theorem All.nil:All []:=λ_ h=>by cases h
theorem All.head (h:All (p::ps)):p:=h p (by simp)
theorem All.tail (h:All (p::ps)):All ps:=λq hq=>h q (by simp[hq])
theorem All.left (h:All (ps++qs)):All ps:=λq hq=>h q (by simp[hq])
theorem All.right (h:All (ps++qs)):All qs:=λq hq=>h q (by simp[hq])
theorem iu (a b:Nat):((a:Int).tdiv (b:Int))=((a/b:Nat):Int):=by
 rw[Int.tdiv_eq_ediv_of_nonneg (by omega)];rfl
theorem ir (a b:Nat):((a:Int).tmod (b:Int))=((a%b:Nat):Int):=by
 rw[Int.tmod_eq_emod_of_nonneg (by omega)];rfl
theorem fp (a n:Nat):((a:Int).fdiv (2^n))=((a/2^n:Nat):Int):=by
 rw[Int.fdiv_eq_ediv_of_nonneg _ (Int.pow_nonneg (by omega))]
 norm_cast
theorem eL (x n w:Nat) (h:w<=n):x*2^n%2^w=0:=by
 obtain⟨d,rfl⟩:=Nat.le.dest h
 rw[Nat.pow_add,<-Nat.mul_assoc,Nat.mul_right_comm]
 exact Nat.mul_mod_left _ _
theorem dg (x n w:Nat) (h:w<=n) (hx:x<2^w):x/2^n=0:=
 Nat.div_eq_of_lt (lt_of_lt_of_le hx (Nat.pow_le_pow_right (by omega) h))
theorem iZ (n:Int):IntKind.wrap .u8 n=n%256:=by
 simp[IntKind.wrap,IntKind.signed,IntKind.bits]
theorem dJ (n:Nat):IntKind.wrap .u8 (n:Int)=((UInt8.ofNat n).toNat:Int):=by
 rw[iZ,UInt8.toNat_ofNat']
 omega
theorem aDV {a b:UInt8} (h:((a.toNat:Nat):Int)=(b.toNat:Int)):a=b:=UInt8.toNat_inj.1 (by exact_mod_cast h)
theorem ez (x:UInt8):(BitVec.ofInt 8 (x.toNat:Int))=x.toBitVec:=by
 apply BitVec.eq_of_toNat_eq
 simp
theorem aIT (x y:UInt8):Op.intBits .and .u8 (x.toNat:Int) (y.toNat:Int)=pure (w8 (x&&&y)):=by
 show(pure (Value.int .u8 (IntKind.wrap .u8 ((BitVec.ofInt 8 (x.toNat:Int)&&&BitVec.ofInt 8 (y.toNat:Int)).toNat:Int))):Sem Value)=_
 rw[ez,ez,dJ,w8,<-UInt8.toBitVec_and,<-UInt8.toNat.eq_1,UInt8.ofNat_toNat]
theorem aMQ (x y:UInt8):Op.intBits .or .u8 (x.toNat:Int) (y.toNat:Int)=pure (w8 (x|||y)):=by
 show(pure (Value.int .u8 (IntKind.wrap .u8 ((BitVec.ofInt 8 (x.toNat:Int)|||BitVec.ofInt 8 (y.toNat:Int)).toNat:Int))):Sem Value)=_
 rw[ez,ez,dJ,w8,<-UInt8.toBitVec_or,<-UInt8.toNat.eq_1,UInt8.ofNat_toNat]
theorem aIP (x y:UInt8):Op.intBits .xor .u8 (x.toNat:Int) (y.toNat:Int)=pure (w8 (x^^^y)):=by
 show(pure (Value.int .u8 (IntKind.wrap .u8 ((BitVec.ofInt 8 (x.toNat:Int)^^^BitVec.ofInt 8 (y.toNat:Int)).toNat:Int))):Sem Value)=_
 rw[ez,ez,dJ,w8,<-UInt8.toBitVec_xor,<-UInt8.toNat.eq_1,UInt8.ofNat_toNat]
theorem vp (x y:UInt8):Op.intBits .andNot .u8 (x.toNat:Int) (y.toNat:Int)=pure (w8 (x&&& ~~~y)):=by
 show(pure (Value.int .u8 (IntKind.wrap .u8 ((BitVec.ofInt 8 (x.toNat:Int)&&& ~~~(BitVec.ofInt 8 (y.toNat:Int))).toNat:Int))):Sem Value)=_
 rw[ez,ez,dJ,w8,<-UInt8.toBitVec_not,<-UInt8.toBitVec_and,<-UInt8.toNat.eq_1,UInt8.ofNat_toNat]
theorem aC2 (w:World) (h:aZF op x y=some (ps,v)) (hp:All ps):
  ∃z,(∀ρ,cg ρ v z)/\(binOp op t (w8 x) (w8 y)).run P w= .ok z w:=by
 cases op<;>simp only[aZF,zoI,zpI,reduceCtorEq]at h
 case add=>
  obtain⟨rfl,rfl⟩:=h
  refine⟨_,λ_=>rfl,?_⟩
  simp only[binOp,w8,ne_eq,not_true,if_false,Op.intArith,run_pure]
  congr 2
 case sub=>
  obtain⟨rfl,rfl⟩:=h
  refine⟨_,λ_=>rfl,?_⟩
  simp only[binOp,w8,ne_eq,not_true,if_false,Op.intArith,run_pure]
  congr 2
  rw[iZ]
  have:=UInt8.toNat_sub x y
  have:=x.toNat_lt
  have:=y.toNat_lt
  omega
 case mul=>
  obtain⟨rfl,rfl⟩:=h
  refine⟨_,λ_=>rfl,?_⟩
  simp only[binOp,w8,ne_eq,not_true,if_false,Op.intArith,run_pure]
  congr 2
 case quo=>
  obtain⟨rfl,rfl⟩:=h
  have hy:y.toNat≠0:=λe=>hp.head (UInt8.toNat_inj.1 e)
  refine⟨_,λ_=>rfl,?_⟩
  have hy':¬(y.toNat:Int)=0:=by omega
  simp only[binOp,w8,ne_eq,not_true,if_false,Op.intDiv,hy',run_pure]
  congr 2
  rw[iu,iZ,UInt8.toNat_div]
  have:=div_le_self x.toNat y.toNat
  have:=x.toNat_lt
  generalize x.toNat/y.toNat=q at *
  omega
 case rem=>
  obtain⟨rfl,rfl⟩:=h
  have hy:y.toNat≠0:=λe=>hp.head (UInt8.toNat_inj.1 e)
  refine⟨_,λ_=>rfl,?_⟩
  have hy':¬(y.toNat:Int)=0:=by omega
  simp only[binOp,w8,ne_eq,not_true,if_false,Op.intDiv,hy',run_pure]
  rw[ir,UInt8.toNat_mod]
 case and=>obtain⟨rfl,rfl⟩:=h;exact⟨_,λ_=>rfl,by simp only[binOp,w8,ne_eq,not_true,if_false,aIT,run_pure]⟩
 case or=>obtain⟨rfl,rfl⟩:=h;exact⟨_,λ_=>rfl,by simp only[binOp,w8,ne_eq,not_true,if_false,aMQ,run_pure]⟩
 case xor=>obtain⟨rfl,rfl⟩:=h;exact⟨_,λ_=>rfl,by simp only[binOp,w8,ne_eq,not_true,if_false,aIP,run_pure]⟩
 case andNot=>obtain⟨rfl,rfl⟩:=h;exact⟨_,λ_=>rfl,by simp only[binOp,w8,ne_eq,not_true,if_false,vp,run_pure]⟩
 case eql=>
  obtain⟨rfl,rfl⟩:=h
  refine⟨.bool ((x.toNat:Int)==(y.toNat:Int)),λ_=>⟨_,rfl,?_⟩,by simp[binOp,w8,Op.intCmp]⟩
  rw[beq_iff_eq];exact⟨λh=>aDV h,λh=>by rw[h]⟩
 case neq=>
  obtain⟨rfl,rfl⟩:=h
  refine⟨.bool ((x.toNat:Int) !=(y.toNat:Int)),λ_=>⟨_,rfl,?_⟩,by simp[binOp,w8,Op.intCmp]⟩
  rw[bne_iff_ne];exact⟨λh e=>h (by rw[e]),λh e=>h (aDV e)⟩
 case lss=>obtain⟨rfl,rfl⟩:=h;exact⟨.bool (decide ((x.toNat:Int)<(y.toNat:Int))),λ_=>⟨_,rfl,by simp⟩,by simp[binOp,w8,Op.intCmp]⟩
 case leq=>obtain⟨rfl,rfl⟩:=h;exact⟨.bool (decide ((x.toNat:Int)<=(y.toNat:Int))),λ_=>⟨_,rfl,by simp⟩,by simp[binOp,w8,Op.intCmp]⟩
 case gtr=>obtain⟨rfl,rfl⟩:=h;exact⟨.bool (decide ((x.toNat:Int)>(y.toNat:Int))),λ_=>⟨_,rfl,by simp⟩,by simp[binOp,w8,Op.intCmp]⟩
 case geq=>obtain⟨rfl,rfl⟩:=h;exact⟨.bool (decide ((x.toNat:Int)≥(y.toNat:Int))),λ_=>⟨_,rfl,by simp⟩,by simp[binOp,w8,Op.intCmp]⟩
theorem aBL (w:World) (t:TypeId) (x:UInt8) (yk:IntKind) (n:Nat):
  (binOp .shl t (w8 x) (.int yk (n:Int))).run P w= .ok (w8 (qh x n)) w:=by
 have hn:¬((n:Int)<0):=by omega
 simp only[binOp,w8,Op.shift,hn,if_false,run_pure,zIn]
 congr 2
 rw[show((x.toNat:Int)*2^min n (IntKind.bits .u8))=((x.toNat*2^min n 8:Nat):Int) by simp[IntKind.bits]]
 rw[dJ,qh,Nat.shiftLeft_eq]
 rw[UInt8.toNat_ofNat',UInt8.toNat_ofNat']
 by_cases h:n<=8
 ·rw[min_eq_left h]
 rw[min_eq_right (by omega),eL _ n 8 (by omega),eL _ 8 8 (le_refl _)]
theorem aBI (w:World) (t:TypeId) (x:UInt8) (yk:IntKind) (n:Nat):
  (binOp .shr t (w8 x) (.int yk (n:Int))).run P w= .ok (w8 (mD x n)) w:=by
 have hn:¬((n:Int)<0):=by omega
 simp only[binOp,w8,Op.shift,hn,if_false,run_pure,zIn]
 congr 2
 rw[fp,mD,Nat.shiftRight_eq_div_pow,UInt8.toNat_ofNat']
 have hx:x.toNat<2^8:=x.toNat_lt
 congr 1
 simp only[IntKind.bits]
 by_cases h:n<=8
 ·rw[min_eq_left h,mod_eq_of_lt (Nat.lt_of_le_of_lt (div_le_self _ _) hx)]
 rw[min_eq_right (by omega),dg _ n 8 (by omega) hx,dg _ 8 8 (le_refl _) hx]
theorem jI (n:Int):IntKind.wrap .u16 n=n%65536:=by
 simp[IntKind.wrap,IntKind.signed,IntKind.bits]
theorem nP (n:Nat):IntKind.wrap .u16 (n:Int)=((UInt16.ofNat n).toNat:Int):=by
 rw[jI,UInt16.toNat_ofNat']
 omega
theorem aO0 {a b:UInt16} (h:((a.toNat:Nat):Int)=(b.toNat:Int)):a=b:=UInt16.toNat_inj.1 (by exact_mod_cast h)
theorem aFS (x:UInt16):(BitVec.ofInt 16 (x.toNat:Int))=x.toBitVec:=by
 apply BitVec.eq_of_toNat_eq
 simp
theorem rB (x y:UInt16):Op.intBits .and .u16 (x.toNat:Int) (y.toNat:Int)=pure (w16 (x&&&y)):=by
 show(pure (Value.int .u16 (IntKind.wrap .u16 ((BitVec.ofInt 16 (x.toNat:Int)&&&BitVec.ofInt 16 (y.toNat:Int)).toNat:Int))):Sem Value)=_
 rw[aFS,aFS,nP,w16,<-UInt16.toBitVec_and,<-UInt16.toNat.eq_1,UInt16.ofNat_toNat]
theorem tn (x y:UInt16):Op.intBits .or .u16 (x.toNat:Int) (y.toNat:Int)=pure (w16 (x|||y)):=by
 show(pure (Value.int .u16 (IntKind.wrap .u16 ((BitVec.ofInt 16 (x.toNat:Int)|||BitVec.ofInt 16 (y.toNat:Int)).toNat:Int))):Sem Value)=_
 rw[aFS,aFS,nP,w16,<-UInt16.toBitVec_or,<-UInt16.toNat.eq_1,UInt16.ofNat_toNat]
theorem qo (x y:UInt16):Op.intBits .xor .u16 (x.toNat:Int) (y.toNat:Int)=pure (w16 (x^^^y)):=by
 show(pure (Value.int .u16 (IntKind.wrap .u16 ((BitVec.ofInt 16 (x.toNat:Int)^^^BitVec.ofInt 16 (y.toNat:Int)).toNat:Int))):Sem Value)=_
 rw[aFS,aFS,nP,w16,<-UInt16.toBitVec_xor,<-UInt16.toNat.eq_1,UInt16.ofNat_toNat]
theorem kB (x y:UInt16):Op.intBits .andNot .u16 (x.toNat:Int) (y.toNat:Int)=pure (w16 (x&&& ~~~y)):=by
 show(pure (Value.int .u16 (IntKind.wrap .u16 ((BitVec.ofInt 16 (x.toNat:Int)&&& ~~~(BitVec.ofInt 16 (y.toNat:Int))).toNat:Int))):Sem Value)=_
 rw[aFS,aFS,nP,w16,<-UInt16.toBitVec_not,<-UInt16.toBitVec_and,<-UInt16.toNat.eq_1,UInt16.ofNat_toNat]
theorem yO (w:World) (h:aRY op x y=some (ps,v)) (hp:All ps):
  ∃z,(∀ρ,cg ρ v z)/\(binOp op t (w16 x) (w16 y)).run P w= .ok z w:=by
 cases op<;>simp only[aRY,zoI,zpI,reduceCtorEq]at h
 case add=>
  obtain⟨rfl,rfl⟩:=h
  refine⟨_,λ_=>rfl,?_⟩
  simp only[binOp,w16,ne_eq,not_true,if_false,Op.intArith,run_pure]
  congr 2
 case sub=>
  obtain⟨rfl,rfl⟩:=h
  refine⟨_,λ_=>rfl,?_⟩
  simp only[binOp,w16,ne_eq,not_true,if_false,Op.intArith,run_pure]
  congr 2
  rw[jI]
  have:=UInt16.toNat_sub x y
  have:=x.toNat_lt
  have:=y.toNat_lt
  omega
 case mul=>
  obtain⟨rfl,rfl⟩:=h
  refine⟨_,λ_=>rfl,?_⟩
  simp only[binOp,w16,ne_eq,not_true,if_false,Op.intArith,run_pure]
  congr 2
 case quo=>
  obtain⟨rfl,rfl⟩:=h
  have hy:y.toNat≠0:=λe=>hp.head (UInt16.toNat_inj.1 e)
  refine⟨_,λ_=>rfl,?_⟩
  have hy':¬(y.toNat:Int)=0:=by omega
  simp only[binOp,w16,ne_eq,not_true,if_false,Op.intDiv,hy',run_pure]
  congr 2
  rw[iu,jI,UInt16.toNat_div]
  have:=div_le_self x.toNat y.toNat
  have:=x.toNat_lt
  generalize x.toNat/y.toNat=q at *
  omega
 case rem=>
  obtain⟨rfl,rfl⟩:=h
  have hy:y.toNat≠0:=λe=>hp.head (UInt16.toNat_inj.1 e)
  refine⟨_,λ_=>rfl,?_⟩
  have hy':¬(y.toNat:Int)=0:=by omega
  simp only[binOp,w16,ne_eq,not_true,if_false,Op.intDiv,hy',run_pure]
  rw[ir,UInt16.toNat_mod]
 case and=>obtain⟨rfl,rfl⟩:=h;exact⟨_,λ_=>rfl,by simp only[binOp,w16,ne_eq,not_true,if_false,rB,run_pure]⟩
 case or=>obtain⟨rfl,rfl⟩:=h;exact⟨_,λ_=>rfl,by simp only[binOp,w16,ne_eq,not_true,if_false,tn,run_pure]⟩
 case xor=>obtain⟨rfl,rfl⟩:=h;exact⟨_,λ_=>rfl,by simp only[binOp,w16,ne_eq,not_true,if_false,qo,run_pure]⟩
 case andNot=>obtain⟨rfl,rfl⟩:=h;exact⟨_,λ_=>rfl,by simp only[binOp,w16,ne_eq,not_true,if_false,kB,run_pure]⟩
 case eql=>
  obtain⟨rfl,rfl⟩:=h
  refine⟨.bool ((x.toNat:Int)==(y.toNat:Int)),λ_=>⟨_,rfl,?_⟩,by simp[binOp,w16,Op.intCmp]⟩
  rw[beq_iff_eq];exact⟨λh=>aO0 h,λh=>by rw[h]⟩
 case neq=>
  obtain⟨rfl,rfl⟩:=h
  refine⟨.bool ((x.toNat:Int) !=(y.toNat:Int)),λ_=>⟨_,rfl,?_⟩,by simp[binOp,w16,Op.intCmp]⟩
  rw[bne_iff_ne];exact⟨λh e=>h (by rw[e]),λh e=>h (aO0 e)⟩
 case lss=>obtain⟨rfl,rfl⟩:=h;exact⟨.bool (decide ((x.toNat:Int)<(y.toNat:Int))),λ_=>⟨_,rfl,by simp⟩,by simp[binOp,w16,Op.intCmp]⟩
 case leq=>obtain⟨rfl,rfl⟩:=h;exact⟨.bool (decide ((x.toNat:Int)<=(y.toNat:Int))),λ_=>⟨_,rfl,by simp⟩,by simp[binOp,w16,Op.intCmp]⟩
 case gtr=>obtain⟨rfl,rfl⟩:=h;exact⟨.bool (decide ((x.toNat:Int)>(y.toNat:Int))),λ_=>⟨_,rfl,by simp⟩,by simp[binOp,w16,Op.intCmp]⟩
 case geq=>obtain⟨rfl,rfl⟩:=h;exact⟨.bool (decide ((x.toNat:Int)≥(y.toNat:Int))),λ_=>⟨_,rfl,by simp⟩,by simp[binOp,w16,Op.intCmp]⟩
theorem wu (w:World) (t:TypeId) (x:UInt16) (yk:IntKind) (n:Nat):
  (binOp .shl t (w16 x) (.int yk (n:Int))).run P w= .ok (w16 (aPD x n)) w:=by
 have hn:¬((n:Int)<0):=by omega
 simp only[binOp,w16,Op.shift,hn,if_false,run_pure,zIn]
 congr 2
 rw[show((x.toNat:Int)*2^min n (IntKind.bits .u16))=((x.toNat*2^min n 16:Nat):Int) by simp[IntKind.bits]]
 rw[nP,aPD,Nat.shiftLeft_eq]
 rw[UInt16.toNat_ofNat',UInt16.toNat_ofNat']
 by_cases h:n<=16
 ·rw[min_eq_left h]
 rw[min_eq_right (by omega),eL _ n 16 (by omega),eL _ 16 16 (le_refl _)]
theorem wo (w:World) (t:TypeId) (x:UInt16) (yk:IntKind) (n:Nat):
  (binOp .shr t (w16 x) (.int yk (n:Int))).run P w= .ok (w16 (aPC x n)) w:=by
 have hn:¬((n:Int)<0):=by omega
 simp only[binOp,w16,Op.shift,hn,if_false,run_pure,zIn]
 congr 2
 rw[fp,aPC,Nat.shiftRight_eq_div_pow,UInt16.toNat_ofNat']
 have hx:x.toNat<2^16:=x.toNat_lt
 congr 1
 simp only[IntKind.bits]
 by_cases h:n<=16
 ·rw[min_eq_left h,mod_eq_of_lt (Nat.lt_of_le_of_lt (div_le_self _ _) hx)]
 rw[min_eq_right (by omega),dg _ n 16 (by omega) hx,dg _ 16 16 (le_refl _) hx]
theorem fj (n:Int):IntKind.wrap .u32 n=n%4294967296:=by
 simp[IntKind.wrap,IntKind.signed,IntKind.bits]
theorem cT (n:Nat):IntKind.wrap .u32 (n:Int)=((ofNat n).toNat:Int):=by
 rw[fj,toNat_ofNat']
 omega
theorem wX {a b:UInt32} (h:((a.toNat:Nat):Int)=(b.toNat:Int)):a=b:=UInt32.toNat_inj.1 (by exact_mod_cast h)
theorem cz (x:UInt32):(BitVec.ofInt 32 (x.toNat:Int))=x.toBitVec:=by
 apply BitVec.eq_of_toNat_eq
 simp
theorem aCZ (x y:UInt32):Op.intBits .and .u32 (x.toNat:Int) (y.toNat:Int)=pure (w32 (x&&&y)):=by
 show(pure (Value.int .u32 (IntKind.wrap .u32 ((BitVec.ofInt 32 (x.toNat:Int)&&&BitVec.ofInt 32 (y.toNat:Int)).toNat:Int))):Sem Value)=_
 rw[cz,cz,cT,w32,<-UInt32.toBitVec_and,<-UInt32.toNat.eq_1,ofNat_toNat]
theorem aIR (x y:UInt32):Op.intBits .or .u32 (x.toNat:Int) (y.toNat:Int)=pure (w32 (x|||y)):=by
 show(pure (Value.int .u32 (IntKind.wrap .u32 ((BitVec.ofInt 32 (x.toNat:Int)|||BitVec.ofInt 32 (y.toNat:Int)).toNat:Int))):Sem Value)=_
 rw[cz,cz,cT,w32,<-UInt32.toBitVec_or,<-UInt32.toNat.eq_1,ofNat_toNat]
theorem aCU (x y:UInt32):Op.intBits .xor .u32 (x.toNat:Int) (y.toNat:Int)=pure (w32 (x^^^y)):=by
 show(pure (Value.int .u32 (IntKind.wrap .u32 ((BitVec.ofInt 32 (x.toNat:Int)^^^BitVec.ofInt 32 (y.toNat:Int)).toNat:Int))):Sem Value)=_
 rw[cz,cz,cT,w32,<-UInt32.toBitVec_xor,<-UInt32.toNat.eq_1,ofNat_toNat]
theorem te (x y:UInt32):Op.intBits .andNot .u32 (x.toNat:Int) (y.toNat:Int)=pure (w32 (x&&& ~~~y)):=by
 show(pure (Value.int .u32 (IntKind.wrap .u32 ((BitVec.ofInt 32 (x.toNat:Int)&&& ~~~(BitVec.ofInt 32 (y.toNat:Int))).toNat:Int))):Sem Value)=_
 rw[cz,cz,cT,w32,<-UInt32.toBitVec_not,<-UInt32.toBitVec_and,<-UInt32.toNat.eq_1,ofNat_toNat]
theorem yN (w:World) (h:aRX op x y=some (ps,v)) (hp:All ps):
  ∃z,(∀ρ,cg ρ v z)/\(binOp op t (w32 x) (w32 y)).run P w= .ok z w:=by
 cases op<;>simp only[aRX,zoI,zpI,reduceCtorEq]at h
 case add=>
  obtain⟨rfl,rfl⟩:=h
  refine⟨_,λ_=>rfl,?_⟩
  simp only[binOp,w32,ne_eq,not_true,if_false,Op.intArith,run_pure]
  congr 2
 case sub=>
  obtain⟨rfl,rfl⟩:=h
  refine⟨_,λ_=>rfl,?_⟩
  simp only[binOp,w32,ne_eq,not_true,if_false,Op.intArith,run_pure]
  congr 2
  rw[fj]
  have:=UInt32.toNat_sub x y
  have:=x.toNat_lt
  have:=y.toNat_lt
  omega
 case mul=>
  obtain⟨rfl,rfl⟩:=h
  refine⟨_,λ_=>rfl,?_⟩
  simp only[binOp,w32,ne_eq,not_true,if_false,Op.intArith,run_pure]
  congr 2
 case quo=>
  obtain⟨rfl,rfl⟩:=h
  have hy:y.toNat≠0:=λe=>hp.head (UInt32.toNat_inj.1 e)
  refine⟨_,λ_=>rfl,?_⟩
  have hy':¬(y.toNat:Int)=0:=by omega
  simp only[binOp,w32,ne_eq,not_true,if_false,Op.intDiv,hy',run_pure]
  congr 2
  rw[iu,fj,UInt32.toNat_div]
  have:=div_le_self x.toNat y.toNat
  have:=x.toNat_lt
  generalize x.toNat/y.toNat=q at *
  omega
 case rem=>
  obtain⟨rfl,rfl⟩:=h
  have hy:y.toNat≠0:=λe=>hp.head (UInt32.toNat_inj.1 e)
  refine⟨_,λ_=>rfl,?_⟩
  have hy':¬(y.toNat:Int)=0:=by omega
  simp only[binOp,w32,ne_eq,not_true,if_false,Op.intDiv,hy',run_pure]
  rw[ir,UInt32.toNat_mod]
 case and=>obtain⟨rfl,rfl⟩:=h;exact⟨_,λ_=>rfl,by simp only[binOp,w32,ne_eq,not_true,if_false,aCZ,run_pure]⟩
 case or=>obtain⟨rfl,rfl⟩:=h;exact⟨_,λ_=>rfl,by simp only[binOp,w32,ne_eq,not_true,if_false,aIR,run_pure]⟩
 case xor=>obtain⟨rfl,rfl⟩:=h;exact⟨_,λ_=>rfl,by simp only[binOp,w32,ne_eq,not_true,if_false,aCU,run_pure]⟩
 case andNot=>obtain⟨rfl,rfl⟩:=h;exact⟨_,λ_=>rfl,by simp only[binOp,w32,ne_eq,not_true,if_false,te,run_pure]⟩
 case eql=>
  obtain⟨rfl,rfl⟩:=h
  refine⟨.bool ((x.toNat:Int)==(y.toNat:Int)),λ_=>⟨_,rfl,?_⟩,by simp[binOp,w32,Op.intCmp]⟩
  rw[beq_iff_eq];exact⟨λh=>wX h,λh=>by rw[h]⟩
 case neq=>
  obtain⟨rfl,rfl⟩:=h
  refine⟨.bool ((x.toNat:Int) !=(y.toNat:Int)),λ_=>⟨_,rfl,?_⟩,by simp[binOp,w32,Op.intCmp]⟩
  rw[bne_iff_ne];exact⟨λh e=>h (by rw[e]),λh e=>h (wX e)⟩
 case lss=>obtain⟨rfl,rfl⟩:=h;exact⟨.bool (decide ((x.toNat:Int)<(y.toNat:Int))),λ_=>⟨_,rfl,by simp⟩,by simp[binOp,w32,Op.intCmp]⟩
 case leq=>obtain⟨rfl,rfl⟩:=h;exact⟨.bool (decide ((x.toNat:Int)<=(y.toNat:Int))),λ_=>⟨_,rfl,by simp⟩,by simp[binOp,w32,Op.intCmp]⟩
 case gtr=>obtain⟨rfl,rfl⟩:=h;exact⟨.bool (decide ((x.toNat:Int)>(y.toNat:Int))),λ_=>⟨_,rfl,by simp⟩,by simp[binOp,w32,Op.intCmp]⟩
 case geq=>obtain⟨rfl,rfl⟩:=h;exact⟨.bool (decide ((x.toNat:Int)≥(y.toNat:Int))),λ_=>⟨_,rfl,by simp⟩,by simp[binOp,w32,Op.intCmp]⟩
theorem wt (w:World) (t:TypeId) (x:UInt32) (yk:IntKind) (n:Nat):
  (binOp .shl t (w32 x) (.int yk (n:Int))).run P w= .ok (w32 (uM x n)) w:=by
 have hn:¬((n:Int)<0):=by omega
 simp only[binOp,w32,Op.shift,hn,if_false,run_pure,zIn]
 congr 2
 rw[show((x.toNat:Int)*2^min n (IntKind.bits .u32))=((x.toNat*2^min n 32:Nat):Int) by simp[IntKind.bits]]
 rw[cT,uM,Nat.shiftLeft_eq]
 rw[toNat_ofNat',toNat_ofNat']
 by_cases h:n<=32
 ·rw[min_eq_left h]
 rw[min_eq_right (by omega),eL _ n 32 (by omega),eL _ 32 32 (le_refl _)]
theorem wn (w:World) (t:TypeId) (x:UInt32) (yk:IntKind) (n:Nat):
  (binOp .shr t (w32 x) (.int yk (n:Int))).run P w= .ok (w32 (uL x n)) w:=by
 have hn:¬((n:Int)<0):=by omega
 simp only[binOp,w32,Op.shift,hn,if_false,run_pure,zIn]
 congr 2
 rw[fp,uL,Nat.shiftRight_eq_div_pow,toNat_ofNat']
 have hx:x.toNat<2^32:=x.toNat_lt
 congr 1
 simp only[IntKind.bits]
 by_cases h:n<=32
 ·rw[min_eq_left h,mod_eq_of_lt (Nat.lt_of_le_of_lt (div_le_self _ _) hx)]
 rw[min_eq_right (by omega),dg _ n 32 (by omega) hx,dg _ 32 32 (le_refl _) hx]
theorem fi (n:Int):IntKind.wrap .u64 n=n%18446744073709551616:=by
 simp[IntKind.wrap,IntKind.signed,IntKind.bits]
theorem cQ (n:Nat):IntKind.wrap .u64 (n:Int)=((UInt64.ofNat n).toNat:Int):=by
 rw[fi,UInt64.toNat_ofNat']
 omega
theorem wW {a b:UInt64} (h:((a.toNat:Nat):Int)=(b.toNat:Int)):a=b:=UInt64.toNat_inj.1 (by exact_mod_cast h)
theorem cu (x:UInt64):(BitVec.ofInt 64 (x.toNat:Int))=x.toBitVec:=by
 apply BitVec.eq_of_toNat_eq
 simp
theorem aCY (x y:UInt64):Op.intBits .and .u64 (x.toNat:Int) (y.toNat:Int)=pure (w64 (x&&&y)):=by
 show(pure (Value.int .u64 (IntKind.wrap .u64 ((BitVec.ofInt 64 (x.toNat:Int)&&&BitVec.ofInt 64 (y.toNat:Int)).toNat:Int))):Sem Value)=_
 rw[cu,cu,cQ,w64,<-UInt64.toBitVec_and,<-UInt64.toNat.eq_1,UInt64.ofNat_toNat]
theorem aIQ (x y:UInt64):Op.intBits .or .u64 (x.toNat:Int) (y.toNat:Int)=pure (w64 (x|||y)):=by
 show(pure (Value.int .u64 (IntKind.wrap .u64 ((BitVec.ofInt 64 (x.toNat:Int)|||BitVec.ofInt 64 (y.toNat:Int)).toNat:Int))):Sem Value)=_
 rw[cu,cu,cQ,w64,<-UInt64.toBitVec_or,<-UInt64.toNat.eq_1,UInt64.ofNat_toNat]
theorem aCT (x y:UInt64):Op.intBits .xor .u64 (x.toNat:Int) (y.toNat:Int)=pure (w64 (x^^^y)):=by
 show(pure (Value.int .u64 (IntKind.wrap .u64 ((BitVec.ofInt 64 (x.toNat:Int)^^^BitVec.ofInt 64 (y.toNat:Int)).toNat:Int))):Sem Value)=_
 rw[cu,cu,cQ,w64,<-UInt64.toBitVec_xor,<-UInt64.toNat.eq_1,UInt64.ofNat_toNat]
theorem td (x y:UInt64):Op.intBits .andNot .u64 (x.toNat:Int) (y.toNat:Int)=pure (w64 (x&&& ~~~y)):=by
 show(pure (Value.int .u64 (IntKind.wrap .u64 ((BitVec.ofInt 64 (x.toNat:Int)&&& ~~~(BitVec.ofInt 64 (y.toNat:Int))).toNat:Int))):Sem Value)=_
 rw[cu,cu,cQ,w64,<-UInt64.toBitVec_not,<-UInt64.toBitVec_and,<-UInt64.toNat.eq_1,UInt64.ofNat_toNat]
theorem yM (w:World) (h:aRW op x y=some (ps,v)) (hp:All ps):
  ∃z,(∀ρ,cg ρ v z)/\(binOp op t (w64 x) (w64 y)).run P w= .ok z w:=by
 cases op<;>simp only[aRW,zoI,zpI,reduceCtorEq]at h
 case add=>
  obtain⟨rfl,rfl⟩:=h
  refine⟨_,λ_=>rfl,?_⟩
  simp only[binOp,w64,ne_eq,not_true,if_false,Op.intArith,run_pure]
  congr 2
 case sub=>
  obtain⟨rfl,rfl⟩:=h
  refine⟨_,λ_=>rfl,?_⟩
  simp only[binOp,w64,ne_eq,not_true,if_false,Op.intArith,run_pure]
  congr 2
  rw[fi]
  have:=UInt64.toNat_sub x y
  have:=x.toNat_lt
  have:=y.toNat_lt
  omega
 case mul=>
  obtain⟨rfl,rfl⟩:=h
  refine⟨_,λ_=>rfl,?_⟩
  simp only[binOp,w64,ne_eq,not_true,if_false,Op.intArith,run_pure]
  congr 2
 case quo=>
  obtain⟨rfl,rfl⟩:=h
  have hy:y.toNat≠0:=λe=>hp.head (UInt64.toNat_inj.1 e)
  refine⟨_,λ_=>rfl,?_⟩
  have hy':¬(y.toNat:Int)=0:=by omega
  simp only[binOp,w64,ne_eq,not_true,if_false,Op.intDiv,hy',run_pure]
  congr 2
  rw[iu,fi,UInt64.toNat_div]
  have:=div_le_self x.toNat y.toNat
  have:=x.toNat_lt
  generalize x.toNat/y.toNat=q at *
  omega
 case rem=>
  obtain⟨rfl,rfl⟩:=h
  have hy:y.toNat≠0:=λe=>hp.head (UInt64.toNat_inj.1 e)
  refine⟨_,λ_=>rfl,?_⟩
  have hy':¬(y.toNat:Int)=0:=by omega
  simp only[binOp,w64,ne_eq,not_true,if_false,Op.intDiv,hy',run_pure]
  rw[ir,UInt64.toNat_mod]
 case and=>obtain⟨rfl,rfl⟩:=h;exact⟨_,λ_=>rfl,by simp only[binOp,w64,ne_eq,not_true,if_false,aCY,run_pure]⟩
 case or=>obtain⟨rfl,rfl⟩:=h;exact⟨_,λ_=>rfl,by simp only[binOp,w64,ne_eq,not_true,if_false,aIQ,run_pure]⟩
 case xor=>obtain⟨rfl,rfl⟩:=h;exact⟨_,λ_=>rfl,by simp only[binOp,w64,ne_eq,not_true,if_false,aCT,run_pure]⟩
 case andNot=>obtain⟨rfl,rfl⟩:=h;exact⟨_,λ_=>rfl,by simp only[binOp,w64,ne_eq,not_true,if_false,td,run_pure]⟩
 case eql=>
  obtain⟨rfl,rfl⟩:=h
  refine⟨.bool ((x.toNat:Int)==(y.toNat:Int)),λ_=>⟨_,rfl,?_⟩,by simp[binOp,w64,Op.intCmp]⟩
  rw[beq_iff_eq];exact⟨λh=>wW h,λh=>by rw[h]⟩
 case neq=>
  obtain⟨rfl,rfl⟩:=h
  refine⟨.bool ((x.toNat:Int) !=(y.toNat:Int)),λ_=>⟨_,rfl,?_⟩,by simp[binOp,w64,Op.intCmp]⟩
  rw[bne_iff_ne];exact⟨λh e=>h (by rw[e]),λh e=>h (wW e)⟩
 case lss=>obtain⟨rfl,rfl⟩:=h;exact⟨.bool (decide ((x.toNat:Int)<(y.toNat:Int))),λ_=>⟨_,rfl,by simp⟩,by simp[binOp,w64,Op.intCmp]⟩
 case leq=>obtain⟨rfl,rfl⟩:=h;exact⟨.bool (decide ((x.toNat:Int)<=(y.toNat:Int))),λ_=>⟨_,rfl,by simp⟩,by simp[binOp,w64,Op.intCmp]⟩
 case gtr=>obtain⟨rfl,rfl⟩:=h;exact⟨.bool (decide ((x.toNat:Int)>(y.toNat:Int))),λ_=>⟨_,rfl,by simp⟩,by simp[binOp,w64,Op.intCmp]⟩
 case geq=>obtain⟨rfl,rfl⟩:=h;exact⟨.bool (decide ((x.toNat:Int)≥(y.toNat:Int))),λ_=>⟨_,rfl,by simp⟩,by simp[binOp,w64,Op.intCmp]⟩
theorem wr (w:World) (t:TypeId) (x:UInt64) (yk:IntKind) (n:Nat):
  (binOp .shl t (w64 x) (.int yk (n:Int))).run P w= .ok (w64 (aQ x n)) w:=by
 have hn:¬((n:Int)<0):=by omega
 simp only[binOp,w64,Op.shift,hn,if_false,run_pure,zIn]
 congr 2
 rw[show((x.toNat:Int)*2^min n (IntKind.bits .u64))=((x.toNat*2^min n 64:Nat):Int) by simp[IntKind.bits]]
 rw[cQ,aQ,Nat.shiftLeft_eq]
 rw[UInt64.toNat_ofNat',UInt64.toNat_ofNat']
 by_cases h:n<=64
 ·rw[min_eq_left h]
 rw[min_eq_right (by omega),eL _ n 64 (by omega),eL _ 64 64 (le_refl _)]
theorem wm (w:World) (t:TypeId) (x:UInt64) (yk:IntKind) (n:Nat):
  (binOp .shr t (w64 x) (.int yk (n:Int))).run P w= .ok (w64 (aF x n)) w:=by
 have hn:¬((n:Int)<0):=by omega
 simp only[binOp,w64,Op.shift,hn,if_false,run_pure,zIn]
 congr 2
 rw[fp,aF,Nat.shiftRight_eq_div_pow,UInt64.toNat_ofNat']
 have hx:x.toNat<2^64:=x.toNat_lt
 congr 1
 simp only[IntKind.bits]
 by_cases h:n<=64
 ·rw[min_eq_left h,mod_eq_of_lt (Nat.lt_of_le_of_lt (div_le_self _ _) hx)]
 rw[min_eq_right (by omega),dg _ n 64 (by omega) hx,dg _ 64 64 (le_refl _) hx]
theorem av (h:rng k n):k.wrap n=n:=by
 cases k<;>simp only[rng]at h
 ·simp only[IntKind.wrap,IntKind.signed,IntKind.bits,Bool.true_and]
  split
  ·rename_i hh;simp at hh;omega
  rename_i hh;simp at hh;omega
 simp only[IntKind.wrap,IntKind.signed,IntKind.bits,Bool.true_and]
 split
 ·rename_i hh;simp at hh;omega
 rename_i hh;simp at hh;omega
theorem jJ (h:rng k n) (h0:0<=n):(BitVec.ofInt k.bits n).toNat=n.toNat/\n.toNat<2^(k.bits-1):=by
 cases k<;>simp only[rng]at h<;>simp only[IntKind.bits,BitVec.toNat_ofInt]<;>omega
theorem o9 {k:IntKind} {n:Nat} {m:Int} (h:rng k m) (hn:n<2^(k.bits-1)):rng k (n:Int):=by
 cases k<;>simp only[rng]at h⊢<;>simp only[IntKind.bits]at hn<;>omega
theorem aC1 (w:World) {k:IntKind} {op:BinOp} {t:TypeId} {x y:Int} {ps:List Prop} {v:SV} (h:aZE k op x y=some (ps,v)) (hp:All ps):
  ∃z,(∀ρ,cg ρ v z)/\(binOp op t (.int k x) (.int k y)).run P w= .ok z w:=by
 cases op<;>simp only[aZE,zoI,zpI,reduceCtorEq]at h<;>obtain⟨rfl,rfl⟩:=h
 case add=>exact⟨_,λ_=>rfl,by simp[binOp,Op.intArith,av hp.head]⟩
 case sub=>exact⟨_,λ_=>rfl,by simp[binOp,Op.intArith,av hp.head]⟩
 case mul=>exact⟨_,λ_=>rfl,by simp[binOp,Op.intArith,av hp.head]⟩
 case quo=>
  have h0:=hp.head
  have h1:=hp.tail.head
  have h2:=hp.tail.tail.head
  refine⟨_,λ_=>rfl,?_⟩
  have hy:y≠0:=by omega
  have e:x.tdiv y=x/y:=Int.tdiv_eq_ediv_of_nonneg h0
  have q0:0<=x/y:=Int.ediv_nonneg h0 (by omega)
  have q1:x/y<=x:=Int.ediv_le_self _ h0
  have:rng k (x/y):=by cases k<;>simp only[rng]at h2⊢<;>omega
  simp[binOp,Op.intDiv,hy,e,av this]
 case rem=>
  have h0:=hp.head
  have h1:=hp.tail.head
  refine⟨_,λ_=>rfl,?_⟩
  have hy:y≠0:=by omega
  simp[binOp,Op.intDiv,hy,Int.tmod_eq_emod_of_nonneg h0]
 case and=>
  have a:=jJ hp.tail.tail.head hp.head
  have b:=jJ hp.tail.tail.tail.head hp.tail.head
  have hr:rng k ((x.toNat&&&y.toNat:Nat):Int):=o9 hp.tail.tail.head (Nat.and_lt_two_pow _ b.2)
  refine⟨_,λ_=>rfl,?_⟩
  simp only[binOp,ne_eq,not_true,if_false,Op.intBits,run_pure,BitVec.toNat_and,a.1,b.1,av hr]
 case or=>
  have a:=jJ hp.tail.tail.head hp.head
  have b:=jJ hp.tail.tail.tail.head hp.tail.head
  have hr:rng k ((x.toNat|||y.toNat:Nat):Int):=o9 hp.tail.tail.head (Nat.or_lt_two_pow a.2 b.2)
  refine⟨_,λ_=>rfl,?_⟩
  simp only[binOp,ne_eq,not_true,if_false,Op.intBits,run_pure,BitVec.toNat_or,a.1,b.1,av hr]
 case xor=>
  have a:=jJ hp.tail.tail.head hp.head
  have b:=jJ hp.tail.tail.tail.head hp.tail.head
  have hr:rng k ((x.toNat^^^y.toNat:Nat):Int):=o9 hp.tail.tail.head (Nat.xor_lt_two_pow a.2 b.2)
  refine⟨_,λ_=>rfl,?_⟩
  simp only[binOp,ne_eq,not_true,if_false,Op.intBits,run_pure,BitVec.toNat_xor,a.1,b.1,av hr]
 case eql=>exact⟨.bool (x==y),λ_=>⟨_,rfl,beq_iff_eq⟩,by simp[binOp,Op.intCmp]⟩
 case neq=>exact⟨.bool (x !=y),λ_=>⟨_,rfl,bne_iff_ne⟩,by simp[binOp,Op.intCmp]⟩
 case lss=>exact⟨.bool (decide (x<y)),λ_=>⟨_,rfl,by simp⟩,by simp[binOp,Op.intCmp]⟩
 case leq=>exact⟨.bool (decide (x<=y)),λ_=>⟨_,rfl,by simp⟩,by simp[binOp,Op.intCmp]⟩
 case gtr=>exact⟨.bool (decide (x>y)),λ_=>⟨_,rfl,by simp⟩,by simp[binOp,Op.intCmp]⟩
 case geq=>exact⟨.bool (decide (x≥y)),λ_=>⟨_,rfl,by simp⟩,by simp[binOp,Op.intCmp]⟩
theorem aBK (w:World) (t:TypeId) {k:IntKind} {x:Int} (yk:IntKind) {n:Nat} (h:rng k (x*2^n)) (hn:n<32):
  (binOp .shl t (.int k x) (.int yk (n:Int))).run P w= .ok (.int k (x*2^n)) w:=by
 have h0:¬((n:Int)<0):=by omega
 have hb:32<=k.bits:=by cases k<;>simp only[rng]at h<;>simp[IntKind.bits]
 simp only[binOp,Op.shift,h0,if_false,run_pure,zIn]
 rw[min_eq_left (by omega),av h]
theorem rO (w:World) (t:TypeId) {k:IntKind} {x:Int} (yk:IntKind) {n:Nat} (hk:k= .i64\/k= .i32) (hn:n<32):
  (binOp .shr t (.int k x) (.int yk (n:Int))).run P w= .ok (.int k (x/2^n)) w:=by
 have h0:¬((n:Int)<0):=by omega
 have hb:32<=k.bits:=by rcases hk with rfl|rfl<;>simp[IntKind.bits]
 simp only[binOp,Op.shift,h0,if_false,run_pure,zIn]
 rw[min_eq_left (by omega),Int.fdiv_eq_ediv_of_nonneg _ (Int.pow_nonneg (by omega))]
theorem aBG (w:World) (t:TypeId) {x:Int} (yk:IntKind) {n:Nat} (h:n<32\/0<=x/\x<9223372036854775808):
  (binOp .shr t (.int .i64 x) (.int yk (n:Int))).run P w= .ok (.int .i64 (x/2^n)) w:=by
 rcases h with h|⟨h0,h1⟩
 ·exact rO w t yk (Or.inl rfl) h
 have hn:¬((n:Int)<0):=by omega
 simp only[binOp,Op.shift,hn,if_false,run_pure,zIn]
 rw[Int.fdiv_eq_ediv_of_nonneg _ (Int.pow_nonneg (by omega))]
 rcases Nat.lt_or_ge n 64 with h2|h2
 ·rw[min_eq_left (by simp[IntKind.bits];omega)]
 obtain⟨m,rfl⟩:=Int.eq_ofNat_of_zero_le h0
 have e:∀k,64<=k->((m:Int)/2^k)=0:=by
  intro k hk
  have:(2:Nat)^64<=2^k:=Nat.pow_le_pow_right (by decide) hk
  have e2:((2:Int)^k)=((2^k:Nat):Int):=by rw[Int.natCast_pow];rfl
  rw[e2,<-Int.natCast_ediv,Nat.div_eq_of_lt (by omega)];rfl
 rw[e n h2,e _ (by simp[IntKind.bits];omega)]
variable {P:Program}
theorem ay (h:blt n w=true):n<w:=by simpa [Nat.blt_eq]using h
theorem aFR (ρ:Env) (v:Value):zRT ρ (zV v) v:=by
  apply zR
  unfold zV
  split <;>try trivial
  all_goals first
    | (cases hb:blt _ _ with
       |false=>trivial
       |true=>
         have:=ay hb
         simp only[zcT,Rel,cg,w8,w16,w32,w64]
         congr 1
         first
           |(rw[UInt8.toNat_ofNat',mod_eq_of_lt this];rfl)
           |(rw[UInt16.toNat_ofNat',mod_eq_of_lt this];rfl)
           |(rw[toNat_ofNat',mod_eq_of_lt this];rfl)
           |(rw[UInt64.toNat_ofNat',mod_eq_of_lt this];rfl))
    |exact rfl
    |exact⟨rfl,trivial⟩
theorem zev (h:aZ N ρ T M a w) (x:Operand):zRT ρ (ev T x) (a.eval x):=by
 cases x with
 |tmp t=>exact h.tm t
 |const v=>exact aFR ρ v
 |global g=>exact zR (by trivial)
 |func f=>exact zR ⟨λp hp=>absurd hp (by simp),rfl⟩
theorem iS (h:cg ρ v x):Rel ρ v x:=by
 cases v<;>first|exact h|exact(h:False).elim
theorem mP (h:cg ρ v x):zRT ρ v x:=zR (iS h)
theorem zRT.s (h:zRT ρ v x) (hs:∀l,v≠ .tup l):Rel ρ v x:=by
 cases v<;>first|exact h|exact absurd rfl (hs _)
theorem u5 (hr:zRT ρ v x) (h:ixV v=some (ps,ix)) (hp:All ps):
  ∃k,x= .int k (ix.val:Int):=by
 cases v<;>simp only[ixV,zoI,zpI,reduceCtorEq]at h<;>obtain⟨rfl,rfl⟩:=h
 case i k n=>exact⟨k,by have:=hp.head;rw[show x= .int k n from hr];simp[Ix.val,Int.toNat_of_nonneg this]⟩
 all_goals exact⟨_,hr⟩
theorem eH (hc:aZ N ρ T M a w)
  (h:ixO T o=some (ps,ix)) (hp:All ps):∃k,a.eval o= .int k (ix.val:Int):=by
 unfold ixO at h
 split at h
 ·obtain⟨rfl,rfl⟩:=sB h;exact⟨_,rfl⟩
 ·cases h
 exact u5 (zev hc o) h hp
theorem sE (hc:aZ N ρ T M a w)
  (h:aWJ T o=some (ps,n)) (hp:All ps):∃k,a.eval o= .int k (n:Int):=by
 unfold aWJ at h
 split at h
 ·obtain⟨rfl,rfl⟩:=sB h;exact⟨_,rfl⟩
 ·cases h
 split at h
 ·rename_i qs m hq
  obtain⟨rfl,rfl⟩:=sB h
  obtain⟨k,hk⟩:=u5 (zev hc o) hq hp
  exact⟨k,hk⟩
 cases h
theorem aBJ {ρ:Env} {v:SV} {x:Value} (hr:zRT ρ v x) {n:Nat} {ps:List Prop} {z:SV} (h:aWY v n=some (ps,z)) (hp:All ps) (w:World) (t:TypeId) (yk:IntKind):
  ∃y,zRT ρ z y/\(binOp .shl t x (.int yk (n:Int))).run P w= .ok y w:=by
 cases v<;>simp only[aWY,zoI,zpI,reduceCtorEq]at h<;>obtain⟨rfl,rfl⟩:=h
 case u8 b=>rw[show x=w8 b from hr];exact⟨_,zR rfl,aBL w t b yk n⟩
 case u16 b=>rw[show x=w16 b from hr];exact⟨_,zR rfl,wu w t b yk n⟩
 case u32 b=>rw[show x=w32 b from hr];exact⟨_,zR rfl,wt w t b yk n⟩
 case u64 b=>rw[show x=w64 b from hr];exact⟨_,zR rfl,wr w t b yk n⟩
 case i k b=>rw[show x= .int k b from hr];exact⟨_,zR rfl,aBK w t yk hp.head hp.tail.head⟩
theorem aBH (hr:zRT ρ v x) (h:aWX v n=some (ps,z)) (hp:All ps) (w:World) (t:TypeId) (yk:IntKind):
  ∃y,zRT ρ z y/\(binOp .shr t x (.int yk (n:Int))).run P w= .ok y w:=by
 unfold aWX at h
 split at h<;>simp only[zoI,zpI,reduceCtorEq]at h<;>obtain⟨rfl,rfl⟩:=h
 ·rename_i b;rw[show x=w8 b from hr];exact⟨_,zR rfl,aBI w t b yk n⟩
 ·rename_i b;rw[show x=w16 b from hr];exact⟨_,zR rfl,wo w t b yk n⟩
 ·rename_i b;rw[show x=w32 b from hr];exact⟨_,zR rfl,wn w t b yk n⟩
 ·rename_i b;rw[show x=w64 b from hr];exact⟨_,zR rfl,wm w t b yk n⟩
 ·rename_i b;rw[show x= .int .i64 b from hr];exact⟨_,zR rfl,aBG w t yk hp.head⟩
 rename_i b;rw[show x= .int .i32 b from hr];exact⟨_,zR rfl,rO w t yk (Or.inr rfl) hp.head⟩
theorem zeg (op:BinOp) (t:TypeId) (X Y:Operand) (x y:Value) (h:∀cs,x≠ .agg cs) (h':x≠ .nilIface):(eqGuard op t X Y x y).run P w= .ok () w:=by
 cases op<;>(try rfl)<;>(cases x<;>first|exact absurd rfl (h _)|exact absurd rfl h'|rfl)
theorem vw (h:zRT ρ v x) (hv:yg v=some p):∃b:Bool,x= .bool b/\(b=true↔p):=by
 cases v<;>simp only[yg,zoI,reduceCtorEq]at hv<;>subst hv
 case tt=>exact⟨true,h,by simp⟩
 case ff=>exact⟨false,h,by simp⟩
 case bool q=>exact h
theorem aCJ (hx:zRT ρ x vx) (hy:zRT ρ y vy) (h:aY3 x y=some p):
  ∃a b:Bool,vx= .bool a/\vy= .bool b/\((a==b)=true↔p):=by
 cases x<;>cases y<;>simp only[aY3,zoI,reduceCtorEq]at h<;>subst h
 case tt.tt=>exact⟨_,_,hx,hy,by simp⟩
 case ff.ff=>exact⟨_,_,hx,hy,by simp⟩
 case tt.ff=>exact⟨_,_,hx,hy,by simp⟩
 case ff.tt=>exact⟨_,_,hx,hy,by simp⟩
 case bool.tt q=>obtain⟨b,hb,hq⟩:=hx;exact⟨_,_,hb,hy,by simp[hq]⟩
 case tt.bool q=>obtain⟨b,hb,hq⟩:=hy;exact⟨_,_,hx,hb,by rw[<-hq];cases b<;>simp⟩
 case bool.ff q=>obtain⟨b,hb,hq⟩:=hx;exact⟨_,_,hb,hy,by rw[<-hq];cases b<;>simp⟩
 case ff.bool q=>obtain⟨b,hb,hq⟩:=hy;exact⟨_,_,hx,hb,by rw[<-hq];cases b<;>simp⟩
 case bool.bool q r=>
  obtain⟨a,ha,hq⟩:=hx;obtain⟨b,hb,hr⟩:=hy
  exact⟨_,_,ha,hb,by rw[<-hq,<-hr];cases a<;>cases b<;>simp⟩
theorem aGF (l:List UInt8):l.map w8=(l.map λx=>(x.toNat:Int)).map (Value.int .u8):=by simp[w8]
theorem aGI (l:List UInt16):l.map w16=(l.map λx=>(x.toNat:Int)).map (Value.int .u16):=by simp[w16]
theorem aGH (l:List UInt32):l.map w32=(l.map λx=>(x.toNat:Int)).map (Value.int .u32):=by simp[w32]
theorem aGG (l:List UInt64):l.map w64=(l.map λx=>(x.toNat:Int)).map (Value.int .u64):=by simp[w64]
theorem aNQ (l:List Int):l.map wi=l.map (Value.int .i64):=rfl
theorem aH8 (P:Program):∃d,P.depth=d+2:=⟨2*(P.types.size+Made.depth),rfl⟩
theorem nC (ht:P.underlying t=some (.array n e)) (he:P.underlying e=some (.int k)):P.eqGuardType P.depth t=false:=by
 obtain⟨d,hd⟩:=aH8 P
 rw[hd]
 simp only[Program.eqGuardType,ht,he]
theorem o8 {Γ:Ctx} (w:World) {t e n:Nat} {k:IntKind} (hk:(Γ.ty t).k= .array n e) (he:(Γ.ty e).k= .int k) (hs:(Γ.ty e).size=1) (l l':List Int)
  (h1:l.length=n) (h2:l'.length=n):
  (binOp .eql t (.agg (l.map (Value.int k)).toArray) (.agg (l'.map (Value.int k)).toArray)).run Γ.P w= .ok (.bool (l==l')) w/\
  (binOp .neq t (.agg (l.map (Value.int k)).toArray) (.agg (l'.map (Value.int k)).toArray)).run Γ.P w= .ok (.bool (!(l==l'))) w/\
  ∀op X Y,(eqGuard op t X Y (.agg (l.map (Value.int k)).toArray) (.agg (l'.map (Value.int k)).toArray)).run Γ.P w= .ok () w:=by
 have ot:=Γ.ok (t:=t) (by rw[hk];simp)
 have oe:=Γ.ok (t:=e) (by rw[he];simp)
 have hsz:(sizeOf e).run Γ.P w= .ok 1 w:=by rw[aT oe,hs]
 have hr:=nt w 9998 t e n k l l' (dk ot hk) (ia oe he) hsz h1 h2
 refine⟨by rw[run_eql_struct,hr];rfl,by rw[run_neq_struct,hr];rfl,λop X Y=>?_⟩
 exact run_eqGuard_agg w op t X Y _ _ (nC (dk ot hk) (ia oe he))
end Go.Sx
