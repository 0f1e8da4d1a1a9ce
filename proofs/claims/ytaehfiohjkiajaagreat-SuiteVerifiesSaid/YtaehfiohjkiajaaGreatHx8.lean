/- Executor, part 8. No condition. -/
import Derived.Test.YtaehfiohjkiajaaGreatHx7
import Derived.RangeFuncNested
import Derived.RangeFuncBound
import Derived.RangeFuncCalls
import Derived.RangeFuncLeaves
import Derived.OrdersIn
import Derived.TacticsIn
set_option linter.unusedSimpArgs false
set_option linter.unusedVariables false
set_option autoImplicit true
set_option relaxedAutoImplicit true
open Go.Result (andThen)
namespace Go.Sx
open Go
abbrev rnd (l:Nat):Fence:=Fence.wide.inRound l
def pX:List Oper->Bool
 |[]=>true
 |o::r=>(match o.op with
  | .defer _=>false
  |_=>true)&&pX r
theorem pW:∀{l:List Oper},pX l=true->∀o∈l,∀c,o.op≠ .defer c
 |[],_,_,h,_=>by simp at h
 |o::r,hn,o',h,c=>by
  simp only[pX,zbA]at hn;rcases List.mem_cons.1 h with h|h
  .subst h
   intro he;have:=hn.1;rw[he]at this;cases this
  exact pW hn.2 o' h c
theorem aPJ {l n:Nat} {P:Program} {row:String} {args:Array Value} {w:World} {R:Value->World->Prop} (h:Go.Rows P row args w R):RowsIn (rnd l) n P row args w R:=by
 intro c cs _;obtain⟨v,w',r,s⟩:=h c cs;exact⟨v,w',r,stepsIn_wide.2 s⟩
theorem aO1 {l n:Nat} {P:Program} {o:Oper} {a:Act} {K:Act->World->Prop} {Q:Exit->Act->World->Prop} {r:Result Next} (h:o.upon P a K Q r):o.uponIn (rnd l) n P a K Q r:=by
 cases r with
 |ok nx w'=>
  cases nx with
  |value v=>exact h
  |skip=>exact h
  |defer d=>exact h
  |enter f args=>exact⟨λhd=>by simp[rnd,Fence.wide]at hd,(callsIn_wide.2 h).inRound l⟩
  |row row args=>exact⟨λhd=>by simp[rnd,Fence.wide]at hd,aPJ h⟩
  |_=>exact h.elim
 |halt x w'=>
  cases x with
  |panic v=>exact h
  |_=>exact h.elim
theorem aFO {l n:Nat} {P:Program} {o:Oper} (ho:∀c,o.op≠ .defer c) {a:Act} {w:World} {K:Act->World->Prop} {Q:Exit->Act->World->Prop} (h:o.wp P a w K Q):o.wpIn (rnd l) n P a w K Q:=by
 refine⟨λ_ _=>trivial,?_⟩;rw[Oper.semAt_eq _ _ _ ho];exact aO1 h
theorem oS {l n:Nat} {P:Program} {ops:Array Oper} {Q:Exit->Act->World->Prop} (hlo:¬LetsOut Q):∀{r:List Oper},(∀o∈r,∀c,o.op≠ .defer c)->∀{a:Act} {w:World},wpList P ops Q r a w->wpListIn (rnd l) n P ops Q r a w
 |[],_,_,_,h=>h
 |o::r,hd,a,w,h=>by
  unfold wpList at h;unfold wpListIn;split at h
  .rename_i hw
   rw[if_pos hw];rcases h with h|⟨_,h⟩
   .exact Oper.wpIn_mono (λa' w' h'=>oS hlo (λo' ho'=>hd o' (by simp[ho'])) h') (aFO (hd o (by simp)) h)
   exact absurd h hlo
  rename_i hw;rw[if_neg hw];exact⟨λ_ _=>trivial,oS hlo (λo' ho'=>hd o' (by simp[ho'])) h⟩
theorem aOU {l n:Nat} {P:Program} {ops:Array Oper} {Q:Exit->Act->World->Prop} (hlo:¬LetsOut Q) (hd:∀(i:Nat) (o:Oper),ops[i]? =some o->∀c,o.op≠ .defer c) {i:Nat} {K K':Act->World->Prop} (hk:∀a w,K a w->K' a w) {a:Act} {w:World}
  (h:wpOp P ops Q i K a w):wpOpIn (rnd l) n P ops Q i K' a w:=by
 unfold wpOp at h;unfold wpOpIn;split at h
 .rename_i he;rw[he];exact hk _ _ h
 rename_i o he;rw[he];simp only;split at h
 .rename_i hw
  rw[if_pos hw];rcases h with h|⟨_,h⟩
  .exact Oper.wpIn_mono hk (aFO (hd i o he) h)
  exact absurd h hlo
 rename_i hw;rw[if_neg hw];exact⟨λ_ _=>trivial,hk _ _ h⟩
theorem yb {l n:Nat} {P:Program} {md:Region.Mode} {ops:Array Oper} {Q:Exit->Act->World->Prop} (hlo:¬LetsOut Q) (hd:∀(i:Nat) (o:Oper),ops[i]? =some o->∀c,o.op≠ .defer c):∀(fuel:Nat) {listed:Array Bool} {a:Act} {w:World},
  wpAny P md ops Q fuel listed a w->wpAnyIn (rnd l) n P md ops Q fuel listed a w
 |0,_,_,_,h=>h
 |fuel+1,_,_,_,h=>⟨h.1,λi hi=>aOU hlo hd (λa w=>yb hlo hd fuel) (h.2 i hi)⟩
def qR:Code->Bool
 | .region _ ops _=>pX ops.toList
 | .seq a b=>qR a&&qR b
 | .cond _ x y=>qR x&&qR y
 | .skip=>true
 |_=>false
theorem aBT {Γ:Cfg} {N:Nat} {Kn:List Nat} {ρA:Env} {l n:Nat} {id:Nat} {ops:Array Oper} {draw:Bool} (hok:iX N ops.toList=true) (hnd:pX ops.toList=true) {T:Tm} {M:Mm} {K:Tm->Mm->Prop} {ρ:Env} {a:Act} {w:World}
  (h:g8 Γ id ops draw T M K) (hc:aZ N ρ T M a w) (ha:gJ Kn ρA ρ):
  (Code.region id ops draw).wpIn (rnd l) n Γ.P (λe a' w'=>e= .normal/\∃ρ' T' M',K T' M'/\aZ N ρ' T' M' a' w'/\gJ Kn ρA ρ'/\aV ρ M ρ' M' w w') a w:=by
 have hnd':=pW hnd;have hlo:¬LetsOut (λ(e:Exit) (a':Act) (w':World)=>e= .normal/\∃ρ' T' M',K T' M'/\aZ N ρ' T' M' a' w'/\gJ Kn ρA ρ'/\aV ρ M ρ' M' w w'):=λ⟨_,_,h⟩=>by cases h.1
 cases draw with
 |false=>
  refine wpIn_region_list (oS hlo hnd' ?_)
  have:=fm (Γ:=Γ) (N:=N) (all:=ops.toList) hok (K:=K) (Q:=λe a' w'=>e= .normal/\∃ρ' T' M',K T' M'/\aZ N ρ' T' M' a' w'/\gJ Kn ρA ρ'/\aV ρ M ρ' M' w w') ops.toList (λo ho=>ho) hc h
   (λa' w' ⟨ρ',T',M',h1,h2,h3,h4⟩=>⟨rfl,ρ',T',M',h1,h3,ha.le h2,h4⟩)
  simpa using this
 |true=>
  simp only[g8]at h;unfold aH at h;obtain⟨dep,ord,hp,hF⟩:=h;simp only[sm,zbA,List.all_eq_true]at hp;obtain⟨⟨hd,hplan⟩,hcov⟩:=hp;have hg:=eW.drew w;have e0:pB (Array.replicate ops.toList.toArray.size false)=λ_=>false:=by
   funext j;exact getD_replicate_false _ _
  have hleft:left ops.toList.length (λ_=>false)<=ops.toList.toArray.size:=by
   unfold left;have:=List.length_filter_le (λj=>!(λ_:Nat=>false) j) (List.range ops.toList.length)
   simpa using this
  have e:ops=ops.toList.toArray:=by simp
  refine wpIn_region_any Γ.mixed (yb hlo (λi o ho=>hnd' o (List.mem_of_getElem? (by simpa using ho))) _ ?_);rw[e];refine fX (ρ0:=ρ) (M00:=M) (w0:=w) (K:=K) hd hok (λc a w h=>by cases h.1) hlo (λa' w' ⟨ρ',T',M',h1,h2,h3,h4⟩=>⟨rfl,ρ',T',M',h1,h3,ha.le h2,h4⟩) _ (by simp) (rs:=[]) (bf:=[]) (ord:=ord) (T0:=T) (M0:=M) (ρ:=ρ) ?_ ?_ (Env.le_refl _) ?_
  .rw[e0]
   exact⟨Inv.start (hc.grows hg) (by simp) (by simp),by simp,by simp,hF,hplan,λj hj=>Or.inr (zmi.1 (hcov j (List.mem_range.2 hj)))⟩
  .rw[e0];exact hleft
  rw[e0];exact hg.step
def aZL (N:Nat) (Kn:List Nat) (ρA ρ:Env) (M:Mm) (w:World) (Q:ti):Exit->Act->World->Prop:=
 λe a' w'=>e= .normal/\∃ρ' T' M',Q .normal T' M'/\aZ N ρ' T' M' a' w'/\gJ Kn ρA ρ'/\aV ρ M ρ' M' w w'
theorem aRF {Γ:Cfg} {N:Nat} {Kn:List Nat} {ρA:Env} {l n:Nat}:∀{c:Code},cW N c=true->qR c=true->∀{T:Tm} {M:Mm} {Q:ti} (_:∀e T M,Q e T M->e= .normal) {ρ:Env} {a:Act} {w:World},mE Γ [] Kn c T M Q->aZ N ρ T M a w->gJ Kn ρA ρ->
  c.wpIn (rnd l) n Γ.P (aZL N Kn ρA ρ M w Q) a w:=by
 intro c;induction c with
 |skip=>intro _ _ T M Q _ ρ a w h hc ha;exact wpIn_skip ⟨rfl,ρ,T,M,h,hc,ha,aV.refl _ _ _⟩
 |region id ops draw=>
  intro hok hin T M Q _ ρ a w h hc ha;have h:g8 Γ id ops draw T M (Q .normal):=h;exact aBT hok hin h hc ha
 |seq x y ihx ihy=>
  intro hok hin T M Q hQ ρ a w h hc ha;simp only[cW,zbA]at hok;simp only[qR,zbA]at hin;have hQ2:∀e T M,aV1 (λT' M'=>mE Γ [] Kn y T' M' Q) Q e T M->e= .normal:=by
   intro e T M h;cases e with
   |normal=>rfl
   |_=>exact hQ _ _ _ h
  refine wpIn_seq (wpIn_mono (ihx hok.1 hin.1 hQ2 h hc ha) ?_);rintro e a' w' ⟨rfl,ρ',T',M',h1,h2,h3,h4⟩;refine wpIn_mono (ihy hok.2 hin.2 hQ h1 h2 h3) ?_;rintro e a'' w'' ⟨rfl,ρ'',T'',M'',g1,g2,g3,g4⟩;exact⟨rfl,ρ'',T'',M'',g1,g2,g3,h4.trans g4⟩
 |cond c x y ihx ihy=>
  intro hok hin T M Q hQ ρ a w h hc ha;simp only[cW,zbA]at hok;simp only[qR,zbA]at hin;have hr:=zev hc c;simp only[mE]at h;split at h
  .rename_i he;rw[he]at hr
   exact wpIn_cond_true hr (ihx hok.1 hin.1 hQ h hc ha)
  .rename_i he;rw[he]at hr
   exact wpIn_cond_false hr (ihy hok.2 hin.2 hQ h hc ha)
  .rename_i p he;rw[he]at hr
   obtain⟨b,hb,hbp⟩:=hr;cases b with
   |true=>exact wpIn_cond_true hb (ihx hok.1 hin.1 hQ (h.yes (hbp.1 rfl)) hc ha)
   |false=>exact wpIn_cond_false hb (ihy hok.2 hin.2 hQ (h.no λhp=>by have:=hbp.2 hp;cases this) hc ha)
  exact h.elim
 |_=>intro _ hin;cases hin
def mX (Γ:Cfg) (l:List Oper) (T:Tm) (M:Mm) (ps:List Prop) (K:Tm->Prop):Prop:=
 match l with
 |[]=>zwP ps (K T)
 |o::r=>match o.guard with
  |none=>match fo Γ.ty T M o.op with
   |some (qs,v)=>zfP (qs++ps) λqs=>zfV v λv=>mX Γ r (zt o.dst v T) M qs K
   |none=>False
  |some _=>False
theorem pJ {Γ:Cfg} {M:Mm} {K:Tm->Prop}:∀{l:List Oper} {T:Tm} {ps:List Prop},mX Γ l T M ps K->All ps
 |[],_,_,h=>zwP.all h
 |o::r,T,ps,h=>by
  unfold mX at h;split at h
  .split at h
   .rw[gl,i8]at h
    exact(pJ h).right
   exact h.elim
  exact h.elim
theorem qv {ty:Nat->Ty} {T:Tm} {M:Mm} {op:Op} {r:List Prop×SV} (h:fo ty T M op=some r):∀c,op≠ .defer c:=by
 rintro c rfl;simp[fo]at h
theorem ra {Γ:Cfg} {N:Nat} {F:Fence} (hF:∀f,F.fn f) {n:Nat} {ops:Array Oper} {M:Mm} {K:Tm->Prop} {ρ:Env} {w:World} {Q:Exit->Act->World->Prop} (l2:List Oper)
  (hQ:∀T' a',K T'->aZ N ρ T' M a' w->wpListIn F n Γ.P ops Q l2 a' w):∀{l:List Oper},iX N l=true->∀{T:Tm} {ps:List Prop} {a:Act},mX Γ l T M ps K->aZ N ρ T M a w->wpListIn F n Γ.P ops Q (l++l2) a w
 |[],_,T,ps,a,h,hc=>hQ T a (zwP.rest h) hc
 |o::r,hd,T,ps,a,h,hc=>by
  have hdd:=λd=>eN hd (o:=o) (by simp) d;unfold mX at h;split at h
  .rename_i hg
   split at h
   .rename_i qs v hv
    rw[gl,i8]at h;obtain⟨x,hx,hr⟩:=nb hc hv (pJ h).left;simp only[iX,zbA]at hd;show wpListIn F n Γ.P ops Q (o::(r++l2)) a w;unfold wpListIn;rw[if_pos (by simp[Region.wanted,hg])];refine⟨λf _=>hF f,?_⟩;rw[Oper.semAt_eq _ _ _ (qv hv),hr];show wpListIn F n Γ.P ops Q (r++l2) (a.put o.dst x) w;refine ra hF l2 hQ hd.2 h ?_;cases hdst:o.dst with
    |none=>exact hc.put_none x
    |some d=>exact hc.put (hdd d hdst) hx
   exact h.elim
  exact h.elim
theorem dO {Γ:Cfg} {N:Nat} {F:Fence} (hF:∀f,F.fn f) {n:Nat} {ops:Array Oper} {M:Mm} {K:Tm->Prop} {ρ:Env} {w:World} {Q:Exit->Act->World->Prop} (k:Nat) {l:List Oper} {T:Tm} {a:Act}
  (hd:iX N (l.take k)=true) (h:mX Γ (l.take k) T M [] K) (hc:aZ N ρ T M a w) (hQ:∀T' a',K T'->aZ N ρ T' M a' w->wpListIn F n Γ.P ops Q (l.drop k) a' w):wpListIn F n Γ.P ops Q l a w:=by
 have:=ra (Γ:=Γ) hF (n:=n) (ops:=ops) (Q:=Q) (l.drop k) hQ hd h hc;rw[List.take_append_drop]at this;exact this
theorem sA {N:Nat} {ρ:Env} {M:Mm} {w:World} {args:List SV} {xs:List Value} (hM:zF ρ M w) (hargs:nM ρ args xs) (hn:xs.length<=N):
  aZ N ρ (bG 0 args) M {tmps:=xs.toArray++Array.replicate (N-xs.toArray.size) undef,defers:=[]} w:=by
 refine⟨hM,by simp;omega,rfl,de 0 _ hargs λj x hj=>?_⟩;have hlt:=(List.getElem?_eq_some_iff.1 hj).1;rw[Nat.zero_add,Array.getElem?_append_left (by simpa using hlt)]
 simpa using hj
theorem aZ.sub {N:Nat} {ρ:Env} {T T0:Tm} {M:Mm} {a:Act} {w:World} (hc:aZ N ρ T M a w) (h:∀d,zX T0 d= .und\/zX T0 d=zX T d):aZ N ρ T0 M a w:=
 ⟨hc.tozF,hc.sz,hc.defers,λd=>by
  rcases h d with h|h
  .rw[h];exact zR trivial
  rw[h];exact hc.tm d⟩
theorem aZP {i j k:Nat} {A B C:SV} {T:Tm} (h0:zX T i=A) (h1:zX T j=B) (h2:zX T k=C):∀d,zX [(i,A),(j,B),(k,C)] d= .und\/zX [(i,A),(j,B),(k,C)] d=zX T d:=by
 intro d;by_cases e0:d=i
 .subst e0;rw[aK];exact Or.inr h0.symm
 rw[aS e0];by_cases e1:d=j
 .subst e1;rw[aK];exact Or.inr h1.symm
 rw[aS e1];by_cases e2:d=k
 .subst e2;rw[aK];exact Or.inr h2.symm
 rw[aS e2];exact Or.inl rfl
theorem aG8 {W W':World} {row:Option Nat} {a:Addr} {v:Value} (h:W.cell? a=some v) (hg:W.grownBy W' row) (hr:∀r,row=some r->∃o:Obj,W.heap[r]? =some o/\o.isCells=false):iO W' a=iO W a:=by
 obtain⟨o,ho,hc⟩:=cells_of_cell h;have hne:some a.block≠row:=by
  intro e;obtain⟨o',ho',hc'⟩:=hr a.block e.symm;rw[ho]at ho';cases ho';rw[hc]at hc';cases hc'
 have:=hg.block a.block (Array.getElem?_eq_some_iff.1 ho).1 hne;unfold iO;rw[this]
def sw:Mm->Bool
 |[]=>true
 |(_,e)::r=>(match e with
  | .map _=>false
  |_=>true)&&sw r
theorem pV:∀{M:Mm},sw M=true->∀{a:Nat} {m:MpV},zG M a≠some (.map m)
 |[],_,_,_,h=>by simp[zG]at h
 |(b,e)::r,hn,a,m,h=>by
  simp only[sw,zbA]at hn;by_cases hab:a=b
  .subst hab
   rw[zh]at h;simp only[zoI]at h;subst h;cases hn.1
  rw[zg hab]at h;exact pV hn.2 h
theorem zF.turned {ρ:Env} {M:Mm} {W W':World} {row:Option Nat} (h:zF ρ M W) (hg:W.grownBy W' row) (hr:∀r,row=some r->∃o:Obj,W.heap[r]? =some o/\o.isCells=false) (hnm:sw M=true:=by rfl):zF ρ M W':=by
 refine⟨h.dom,h.mod,λa e he=>?_,h.sep,λb o ls hi=>?_,h.isep⟩
 .have hs:=h.sat a e he
  cases e with
  |dead=>trivial
  |mem own sp ls=>
   obtain⟨cs,h1,h2,h3,h4⟩:=hs;refine⟨cs,h1,⟨λhn=>Nat.lt_of_lt_of_le (h2.1 hn) hg.size,h2.2⟩,λj v hj=>cell_kept (h3 j v hj) hg hr,λho j hj=>?_⟩;obtain⟨⟨v,hv⟩,hh⟩:=h4 ho j hj;exact⟨⟨v,cell_kept hv hg hr⟩,by rw[aG8 hv hg hr];exact hh⟩
  |map m=>
   exact absurd he (pV hnm)
 obtain⟨h1,cs,h2,h3⟩:=h.imm b o ls hi;exact⟨λhn=>Nat.lt_of_lt_of_le (h1 hn) hg.size,cs,h2,λj v hj=>cell_kept (h3 j v hj) hg hr⟩
theorem aV.turned {ρ ρ':Env} {M M':Mm} {w W W':World} {row:Option Nat} (h:aV ρ M ρ' M' w W) (hg:W.grownBy W' row) (hr:∀r,row=some r->w.heap.size<=r):aV ρ M ρ' M' w W':=by
 have key:∀b,b<w.heap.size->W'.heap[b]? =W.heap[b]?:=λb hb=>
  hg.block b (Nat.lt_of_lt_of_le hb h.size) λe=>by have:=hr b e.symm;omega
 refine⟨Nat.le_trans h.size hg.size,hg.os.trans h.os,hg.output.trans h.output,λb hb ho=>(key b hb).trans (h.blk b hb ho),λb o hb ho=>?_,h.own,h.immo⟩;obtain⟨h1,h2⟩:=h.cell b o hb ho;refine⟨?_,?_⟩
 .rw[<-h1];exact World.cell?_of_block (key b hb)
 rw[<-h2];unfold iO;rw[key b hb]
theorem aFK {ρ:Env} {M:Mm} {w:World} (hM:zF ρ M w) (hnm:sw M=true) {b o:Nat} (h:eU ρ M b o):∃v,w.cell? ⟨b,o,none⟩=some v:=by
 obtain⟨a,e,he,hown,hf⟩:=h;have hs:=hM.sat a e he;cases e with
 |dead=>cases hown
 |map m=>exact absurd he (pV hnm)
 |mem own sp ls=>
  cases own with
  |false=>cases hown
  |true=>
   obtain⟨f1,f2,f3⟩:=hf;simp only[if_true]at f3;obtain⟨cs,h1,h2,h3,h4⟩:=hs;obtain⟨⟨v,hv⟩,_⟩:=h4 rfl (o-(ρ.pos a).2) (by omega);refine⟨v,?_⟩;rw[f1];rw[show(ρ.pos a).2+(o-(ρ.pos a).2)=o by omega]at hv;exact hv
theorem aV.others {ρ ρ':Env} {M M':Mm} {w w':World} (h:aV ρ M ρ' M' w w') (hM:zF ρ M w) (hnm:sw M=true:=by rfl):KeepsOthers w w':=by
 refine⟨h.size,λk o hk ho=>?_⟩;rw[h.blk k (Array.getElem?_eq_some_iff.1 hk).1 λj hj=>?_]
 .exact hk
 obtain⟨v,hv⟩:=aFK hM hnm hj;obtain⟨o',ho',hc⟩:=cells_of_cell hv;rw[hk]at ho';cases ho';rw[ho]at hc;cases hc
theorem fR (a:Act) (D:List Deferred) (d:Option Nat) (v:Value):({a with defers:=D}:Act).put d v={a.put d v with defers:=D}:=by
 cases d<;>rfl
theorem aA7 {n:Nat} {P:Program} {o:Oper} (ho:∀c,o.op≠ .defer c) {D:List Deferred} {a:Act} {K:Act->World->Prop} {Q Q':Exit->Act->World->Prop} (hpa:∀c a w,¬Q (.panic c) a w) (hlo:¬LetsOut Q) {w:World} (hnd:∀d w',(execOp a.eval o).run P w≠ .ok (.defer d) w')
  (h:o.upon P a K Q ((execOp a.eval o).run P w)):o.uponIn Fence.wide n P {a with defers:=D} (λa' w'=>∃a0,K a0 w'/\a'={a0 with defers:=D}) Q' ((execOp a.eval o).run P w):=by
 generalize hr:(execOp a.eval o).run P w=r at *;cases r with
 |ok nx w'=>
  cases nx with
  |value v=>exact⟨_,h,fR a D o.dst v⟩
  |skip=>exact⟨_,h,fR a D o.dst undef⟩
  |defer d=>exact absurd rfl (hnd d w')
  |enter f args=>
   refine⟨λhd=>by simp[Fence.wide]at hd,callsIn_wide.2 (Calls.mono h ?_)⟩;intro e w'' he;cases e with
   |returned v=>exact⟨_,he,fR a D o.dst v⟩
   |panicked c=>exact absurd he (hpa c _ _)
   |outgrown=>exact absurd he hlo
  |row row args=>exact⟨λhd=>by simp[Fence.wide]at hd,λc cs _=>let⟨v,w'',r,s⟩:=h c cs;⟨v,w'',⟨_,r,fR a D o.dst v⟩,stepsIn_wide.2 s⟩⟩
  |_=>exact h.elim
 |halt x w'=>
  cases x with
  |panic v=>exact absurd h (hpa _ _ _)
  |_=>exact h.elim
theorem nQ {n:Nat} {P:Program} {ops:Array Oper} {D:List Deferred} {Q:Exit->Act->World->Prop} (hpa:∀c a w,¬Q (.panic c) a w) (hlo:¬LetsOut Q):∀{r:List Oper},(∀o∈r,(∀c,o.op≠ .defer c)/\∀(ev:Operand->Value) w d w',(execOp ev o).run P w≠ .ok (.defer d) w')->
  ∀{a:Act} {w:World},wpList P ops Q r a w->wpListIn Fence.wide n P ops (λe a' w'=>∃a0,Q e a0 w'/\a'={a0 with defers:=D}) r {a with defers:=D} w
 |[],_,a,w,h=>⟨a,h,rfl⟩
 |o::r,hd,a,w,h=>by
  unfold wpList at h;unfold wpListIn;have ih:∀a' w',(∃a0,wpList P ops Q r a0 w'/\a'={a0 with defers:=D})->wpListIn Fence.wide n P ops (λe a' w'=>∃a0,Q e a0 w'/\a'={a0 with defers:=D}) r a' w':=by
   rintro a' w' ⟨a0,h,rfl⟩;exact nQ hpa hlo (λo' ho'=>hd o' (by simp[ho'])) h
  split at h
  .rename_i hw
   rw[if_pos hw];rcases h with h|⟨_,h⟩
   .refine Oper.wpIn_mono ih ⟨λ_ _=>trivial,?_⟩
    rw[Oper.semAt_eq _ _ _ (hd o (by simp)).1];exact aA7 (hd o (by simp)).1 hpa hlo ((hd o (by simp)).2 _ _) h
   exact absurd h hlo
  rename_i hw;rw[if_neg hw];refine⟨λ_ _=>trivial,ih _ _ ⟨_,h,?_⟩⟩;exact fR a D o.dst undef
theorem aQS {P:Program} {o:Oper} {t:TypeId} {x:Operand} (h:o.op= .load t x):(∀c,o.op≠ .defer c)/\∀(ev:Operand->Value) w d w',(execOp ev o).run P w≠ .ok (.defer d) w':=by
 refine⟨λc hc=>(by rw[h]at hc;cases hc),λev w d w' hr=>?_⟩;simp only[execOp,h,Sem.run_bind]at hr;cases hq:(Instr.loadAt t (ev x)).run P w with
 |ok v w2=>rw[hq]at hr;simp[andThen]at hr
 |halt q w2=>rw[hq]at hr;simp[andThen]at hr
theorem aJ1 {P:Program} {o:Oper} {t:TypeId} {x y:Operand} (h:o.op= .store t x y):(∀c,o.op≠ .defer c)/\∀(ev:Operand->Value) w d w',(execOp ev o).run P w≠ .ok (.defer d) w':=by
 refine⟨λc hc=>(by rw[h]at hc;cases hc),λev w d w' hr=>?_⟩;simp only[execOp,h,Sem.run_bind]at hr;cases hq:(Instr.storeAt t (ev x) (ev y)).run P w with
 |ok v w2=>rw[hq]at hr;simp[andThen]at hr
 |halt q w2=>rw[hq]at hr;simp[andThen]at hr
theorem xG {Γ:Cfg} {N:Nat} {Kn:List Nat} {ρA:Env} {n:Nat} {id:Nat} {ops:Array Oper} {draw:Bool} (hok:iX N ops.toList=true) {T:Tm} {M:Mm} {K:Tm->Mm->Prop} {ρ:Env} {a:Act} {w:World} {Q:Exit->Act->World->Prop}
  (h:g8 Γ id ops draw T M K) (hc:aZ N ρ T M a w) (ha:gJ Kn ρA ρ) (hQ:∀ρ' T' M' a' w',K T' M'->aZ N ρ' T' M' a' w'->gJ Kn ρA ρ'->aV ρ M ρ' M' w w'->Q .normal a' w'):
  (Code.region id ops draw).wpIn Fence.wide n Γ.P Q a w:=by
 have:=g7 (Γ:=Γ) (N:=N) (Kn:=Kn) (id:=id) (draw:=draw) hok (Q:=λe=>match e with
  | .normal=>K
  |_=>λ_ _=>False) h hc ha
 refine wpIn_mono (wpIn_wide.2 this) ?_;rintro e a' w' ⟨ρ',T',M',hk,h2,h3,h4⟩;cases e with
 |normal=>exact hQ ρ' T' M' a' w' hk h2 h3 h4
 |_=>exact hk.elim
theorem pF {Γ:Cfg} {N:Nat} {Kn:List Nat} {ρA:Env} {n:Nat} {id:Nat} {ops:Array Oper} {draw:Bool} (T0:Tm) (M0:Mm) (hok:iX N ops.toList=true) {T:Tm} {M:Mm} {ρ:Env} {a:Act} {w:World} {Q:Exit->Act->World->Prop}
  (h:g8 Γ id ops draw T M (λT' M'=>Le Kn T0 M0 T' M')) (hc:aZ N ρ T M a w) (ha:gJ Kn ρA ρ) (hQ:∀ρ' a' w',aZ N ρ' T0 M0 a' w'->gJ Kn ρA ρ'->aV ρ M ρ' M0 w w'->Q .normal a' w'):
  (Code.region id ops draw).wpIn Fence.wide n Γ.P Q a w:=
 xG hok h hc ha λρ' T' M' a' w' hk h2 h3 h4=>by
  obtain⟨ρ0,l1,l2,l3⟩:=hk.sound h2 h3;exact hQ ρ0 a' w' l1 l2 (h4.trans l3)
theorem gJ.trans' {Kn:List Nat} {a b c:Env} (h:gJ Kn a b) (k:gJ Kn b c):gJ Kn a c:=
 ⟨λx hx=>⟨(k.to x hx).1,(k.to x hx).2.trans (h.to x hx).2⟩,λb o ls hi=>k.im b o ls (h.im b o ls hi)⟩
theorem aZ.world {N:Nat} {ρ:Env} {T:Tm} {M:Mm} {a:Act} {w w':World} (hc:aZ N ρ T M a w) (h:zF ρ M w'):aZ N ρ T M a w':=⟨h,hc.sz,hc.defers,hc.tm⟩
end Go.Sx
