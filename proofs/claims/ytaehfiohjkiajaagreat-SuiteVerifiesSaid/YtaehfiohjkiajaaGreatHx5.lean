/- Executor, part 5. No condition. -/
import Derived.Test.YtaehfiohjkiajaaGreatHx4
import Derived.Test.YtaehfiohjkiajaaGreatHx3
import Derived.Tactics
import Derived.Laws.Externs
set_option linter.unusedSimpArgs false
set_option linter.unusedVariables false
set_option autoImplicit true
set_option relaxedAutoImplicit true
open Go.Result (andThen_ok)
open Go.Sem (run_bind run_pure)
open Array (ext')
open Nat (add_mul mul_le_mul_right beq le_refl mul_one add_zero zero_add lt_or_ge one_mul blt min_eq_left sub_mul)
open List (append_nil append_assoc drop_zero replicate drop_append nil_append)
open Bool (not_eq_true')
open UInt64 (ofNat)
namespace Go.Sx
open Go
structure aC7 (P:Program) (w:World) (es m:Nat) (x:Value) (news:List Value):Prop where
 length:news.length=m*es
 len:(Builtin.lenOf x).run P w= .ok m w
 first:∀w2:World,w2.heap=w.heap->(Builtin.firstCells es m x).run P w2= .ok news.toArray w2
theorem dl {P:Program} {w:World} {es n c:Nat} {y:Option Addr} {b o off:Nat} {cs:List Value} (hnc:n<=c) (hy:c≠0->y=some ⟨b,o+off,none⟩) (hcs:∀j v,cs[j]? =some v->w.cell? ⟨b,o+j,none⟩=some v)
  (hl:off+n*es<=cs.length):aC7 P w es n (.slice y n c) ((cs.drop off).take (n*es)) where
 length:=by rw[zlT,zlD];omega
 len:=rfl
 first w2 h2:=tQ hnc hy (λj v hj=>by
  have:=hcs j v hj;unfold World.cell? at this⊢;rw[h2];exact this) hl
theorem aBE {P:Program} {ρ:Env} {M:Mm} {w:World} (hM:zF ρ M w) {e0:SV} (he0:zD ρ e0 []) {sv:SV} {x:Value} (hx:zRT ρ sv x) {ps:List Prop} {m:Nat} {v:SV} (h:aWV M e0 sv=some (ps,m,v)) (hp:All ps):
  ∃news,aC7 P w 1 m x news/\zD ρ v news:=by
 unfold aWV at h;split at h
 .obtain⟨rfl,rfl,rfl⟩:=sC h
  rw[show x= .slice none 0 0 from hx];exact⟨[],⟨rfl,rfl,λ_ _=>rfl⟩,he0⟩
 .rename_i l
  split at h
  .obtain⟨rfl,rfl,rfl⟩:=sC h
   rw[show x= .string ⟨l.toArray⟩from hx];refine⟨l.map w8,⟨by simp,rfl,λw2 _=>?_⟩,rfl⟩;show Result.ok _ w2=_;congr 1;apply ext';simp[ByteArray.extract,ByteArray.copySlice]
   first
    |rfl
    |(intro a _;rfl)
  cases h
 .rename_i a f i n c
  obtain⟨_,hnc,y,rfl,hy⟩:=hx;split at h
  .rename_i own sp ls he
   split at h
   .rename_i qs v' hs
    obtain⟨rfl,rfl,rfl⟩:=sC h;obtain⟨cs,h1,_,h3,_⟩:=hM.sat a _ he;obtain⟨q1,q2⟩:=gY h1 hs hp;refine⟨_,dl (off:=f+i) hnc (λhc=>by rw[hy hc,aN]) h3 (by rw[mul_one];exact q1),?_⟩;rw[mul_one];exact q2
   cases h
  cases h
 .rename_i a f i n
  obtain⟨_,c,y,hnc,rfl,hy⟩:=hx;split at h
  .rename_i own sp ls he
   split at h
   .rename_i qs v' hs
    obtain⟨rfl,rfl,rfl⟩:=sC h;obtain⟨cs,h1,_,h3,_⟩:=hM.sat a _ he;obtain⟨q1,q2⟩:=gY h1 hs hp;refine⟨_,dl (off:=f+i) hnc (λhc=>by rw[hy hc,aN]) h3 (by rw[mul_one];exact q1),?_⟩;rw[mul_one];exact q2
   cases h
  cases h
 .rename_i q n s ls
  obtain⟨b,o,c,y,hi,hnc,rfl,hy⟩:=hx;split at h
  .split at h
   .rename_i qs v' hs
    obtain⟨rfl,rfl,rfl⟩:=sC h;obtain⟨_,cs,h1,h3⟩:=hM.immO hi;obtain⟨q1,q2⟩:=gY h1 hs hp;refine⟨_,dl (off:=0+q) hnc (λhc=>by rw[hy hc,mul_one,zero_add]) h3 (by rw[mul_one];exact q1),?_⟩;rw[mul_one];exact q2.le (Env.bare_le ρ)
   cases h
  cases h
 cases h
def Rows (ρ:Env) (es m:Nat) (F:Nat->List (Nat×SV)) (news:List Value):Prop:=news.length=m*es/\∀q,q<m->bH ρ.bare (F q) ((news.drop (q*es)).take es)
theorem Rows.le (h:ρ.le ρ') (r:Rows ρ es m F news):Rows ρ' es m F news:=
 ⟨r.1,λq hq=>(r.2 q hq).le (Env.bare_mono h.im)⟩
theorem Rows.seg (r:Rows ρ es m F c) (h:q+n<=m):Rows ρ es n (om q F) ((c.drop (q*es)).take (n*es)):=by
 have hb:(q+n)*es<=m*es:=mul_le_mul_right _ h;rw[add_mul]at hb;refine⟨by rw[zlT,zlD,r.1];omega,λj hj=>?_⟩;have hb2:(j+1)*es<=n*es:=mul_le_mul_right _ hj;rw[add_mul,one_mul]at hb2;have:=r.2 (q+j) (by omega);rw[ke,List.drop_take,List.take_take,min_eq_left (by omega),List.drop_drop];rw[add_mul]at this;exact this
theorem uR {P:Program} {ρ:Env} {M:Mm} {w:World} (hM:zF ρ M w) {es i n c:Nat} {ls:List (Nat×SV)} {y:Option Addr} {b o:Nat} {cs:List Value} (hcs:zC ρ ls cs) (hcell:∀j v,cs[j]? =some v->w.cell? ⟨b,o+j,none⟩=some v)
  (hnc:n<=c) (hy:c≠0->y=some ⟨b,o+i,none⟩) {ps:List Prop} {m:Nat} {F:Nat->List (Nat×SV)} {M':Mm} (h:aE3 es M i n ls=some (ps,m,F,M')) (hp:All ps):
  ∃ρ' news,ρ.le ρ'/\zF ρ' M' w/\aV ρ M ρ' M' w w/\aC7 P w es m (.slice y n c) news/\Rows ρ' es m F news:=by
 unfold aE3 at h;split at h
 .rename_i t m0 es' F0
  have hes:=zq (zn h).1
  replace h:=(zn h).2
  subst hes;obtain⟨c1,c2,rfl,h1,h2,h3⟩:=hcs;have e2:c2=[]:=h3;subst e2;rw[append_nil]at hcell;have hr:Rows ρ es m0 F0 c1:=h2;split at h
  .obtain⟨rfl,rfl,rfl,rfl⟩:=sD h
   have hle:=hp.head;have hs:=hr.seg (q:=i) (n:=n) hle;rw[show i*1=i by omega]at hs;refine⟨ρ,_,Env.le_refl _,hM,aV.refl _ _ _,dl (off:=i) hnc hy hcell (by rw[hr.1];omega),hs⟩
  obtain⟨rfl,rfl,rfl,rfl⟩:=sD h;have hi0:=hp.head;have hle:=hp.tail.head;have hs:=hr.seg (q:=i/es) (n:=n) hle;have hi:i/es*es=i:=by
   have:=Nat.div_add_mod i es;rw[hi0,add_zero,Nat.mul_comm]at this;exact this
  have hb:(i/es+n)*es<=m0*es:=mul_le_mul_right _ hle;rw[add_mul,hi]at hb;rw[hi]at hs;exact⟨ρ,_,Env.le_refl _,hM,aV.refl _ _ _,dl (off:=i) hnc hy hcell (by rw[hr.1];omega),hs⟩
 split at h
 .rename_i ls' M1 hk
  split at h
  .rename_i cks hck
   obtain⟨rfl,rfl,rfl,rfl⟩:=sD h;have hi0:=hp.head;subst hi0;have hn:=hp.tail.head;obtain⟨ρ',k1,k2,k3,k4⟩:=p7 hk hM hcs;obtain⟨l1,l2⟩:=fw hck k4;have hs:=dl (P:=P) (es:=es) (off:=0) hnc hy hcell (by rw[l1,hn];omega);rw[drop_zero,hn,<-l1,List.take_length]at hs;refine⟨ρ',cs,k1,k2,k3,by rw[hn];exact hs,by rw[hn];exact l1,λq hq=>?_⟩;rw[sY _ (by omega)];exact l2 q (by omega)
  cases h
 cases h
theorem nX (hM:zF ρ M w) (hcs:zC ρ ls cs) (hcell:∀j v,cs[j]? =some v->w.cell? ⟨b,o+j,none⟩=some v)
  (hnc:n<=c) (hy:c≠0->y=some ⟨b,o+i,none⟩) (h:aE2 es M i n ls=some (ps,m,F,M')) (hp:All ps):
  ∃ρ' news,ρ.le ρ'/\zF ρ' M' w/\aV ρ M ρ' M' w w/\aC7 P w es m (.slice y n c) news/\Rows ρ' es m F news:=
 uR hM (uC hcs) hcell hnc hy h hp
theorem gS {P:Program} {ρ:Env} {M:Mm} {w:World} (hM:zF ρ M w) {es:Nat} {sv:SV} {x:Value} (hx:zRT ρ sv x) {ps:List Prop} {m:Nat} {F:Nat->List (Nat×SV)} {M':Mm} (h:aSV es M sv=some (ps,m,F,M')) (hp:All ps):
  ∃ρ' news,ρ.le ρ'/\zF ρ' M' w/\aV ρ M ρ' M' w w/\aC7 P w es m x news/\Rows ρ' es m F news:=by
 unfold aSV at h;split at h
 .obtain⟨rfl,rfl,rfl,rfl⟩:=sD h
  rw[show x= .slice none 0 0 from hx];exact⟨ρ,[],Env.le_refl _,hM,aV.refl _ _ _,⟨by simp,rfl,λ_ _=>rfl⟩,by simp,λq hq=>absurd hq (Nat.not_lt_zero _)⟩
 .rename_i a f i n c
  obtain⟨_,hnc,y,rfl,hy⟩:=hx;split at h
  .split at h
   .rename_i own sp ls he
    obtain⟨cs,h1,_,h3,_⟩:=hM.sat a _ he;exact nX hM h1 h3 hnc (λhc=>by rw[hy hc,aN,zero_add]) h hp
   cases h
  cases h
 .rename_i a f i n
  obtain⟨_,c,y,hnc,rfl,hy⟩:=hx;split at h
  .split at h
   .rename_i own sp ls he
    obtain⟨cs,h1,_,h3,_⟩:=hM.sat a _ he;exact nX hM h1 h3 hnc (λhc=>by rw[hy hc,aN,zero_add]) h hp
   cases h
  cases h
 .rename_i q n s ls
  obtain⟨b,o,c,y,hi,hnc,rfl,hy⟩:=hx;obtain⟨hlt0,cs,h1,h3⟩:=hM.immO hi;split at h
  .rename_i t m0 es' F0
   have hb:=(zn h).1
   replace h:=(zn h).2
   simp only[zbA]at hb;have e1:=zq hb.1;have e2:=zq hb.2;subst e1;subst e2;obtain⟨rfl,rfl,rfl,rfl⟩:=sD h;obtain⟨c1,c2,rfl,g1,g2,g3⟩:=h1;have e2:c2=[]:=g3;subst e2;rw[append_nil]at h3;have hr:Rows ρ s m0 F0 c1:=g2;have hs:=hr.seg (q:=q) (n:=n) hp.head;have hb:(q+n)*s<=m0*s:=mul_le_mul_right _ hp.head;rw[add_mul]at hb;exact⟨ρ,_,Env.le_refl _,hM,aV.refl _ _ _,dl (off:=q*s) hnc hy h3 (by rw[hr.1];omega),hs⟩
  split at h
  .rename_i cks hck
   obtain⟨rfl,rfl,rfl,rfl⟩:=sD h;have hi0:=hp.head;subst hi0;have hn:=hp.tail.head;obtain⟨l1,l2⟩:=fw hck (h1.le (Env.bare_le ρ));have hs:=dl (P:=P) (es:=es) (off:=0) (y:=y) hnc (λhc=>by rw[hy hc,Nat.zero_mul]) h3 (by rw[l1,hn];omega);rw[drop_zero,hn,<-l1,List.take_length]at hs;refine⟨ρ,cs,Env.le_refl _,hM,aV.refl _ _ _,by rw[hn];exact hs,by rw[hn];exact l1,λq hq=>?_⟩;rw[sY _ (by omega)];exact l2 q (by omega)
  cases h
 cases h
def aVC (M:Mm) (e0:SV) (s:SV):Option (List Prop×Nat×SV×Option Nat):=
 match s with
 | .nsl=>some ([],0,e0,none)
 | .sl a f i n c=>match f with
  |0=>match zG M a with
   |some (.mem true sp ls)=>match ls with
    |[(t,u)]=>bif aq u then some ([i+n=t,i+c<=t+sp],n,aO6 u i,some a)else none
    |_=>none
   |_=>none
  |_=>none
 |_=>none
def aY8 (es:Nat) (M:Mm) (s:SV):Option (List Prop×Nat×(Nat->List (Nat×SV))×Option Nat):=
 match s with
 | .nsl=>some ([],0,λ_=>[],none)
 | .sl a f i n c=>match f with
  |0=>match zG M a with
   |some (.mem true sp ls)=>match ls with
    |[(t,.arr m es' F)]=>bif beq es es' then match es with
      |1=>some ([i+n=m,i+c<=t+sp],n,om i F,some a)
      |_=>some ([i=0,n=m,zmE c es<=t+sp],n,F,some a)
     else none
    |_=>none
   |_=>none
  |_=>none
 |_=>none
def aWH (es:Nat) (M:Mm) (s:SV):Option (List Prop×Nat×(Nat->List (Nat×SV))):=
 match s with
 | .sl a f i n c=>match f with
  |0=>match zG M a with
   |some (.mem false _ ls)=>match ls with
    |[(_,.arr m es' F)]=>bif beq es es' then some ([i=0,n<=m,n=c],n,F)else none
    |_=>none
   |_=>none
  |_=>none
 |_=>none
def aaQ (es:Nat) (M:Mm) (s:SV):Option (List Prop×Nat×(Nat->List (Nat×SV))×Nat×Mm):=
 match s with
 | .sl a f i n c=>match f with
  |0=>match zG M a with
   |some (.mem true _ ls)=>match bif nh ls then aH1 M ls else none with
    |some (ls',M1)=>match zG M1 a with
     |some (.mem true sp1 ls1)=>match nk es ls'.length ls' with
      |some cks=>bif (beq i 0&&beq n cks.length)&&(beq (zL ls1) (cks.length*es)&&Nat.ble (c*es) (zL ls1+sp1))then some ([],n,aM9 cks,a,M1)else none
      |none=>none
     |_=>none
    |none=>none
   |_=>none
  |_=>none
 |_=>none
def aDH (n:Nat) (F G:Nat->List (Nat×SV)):Nat->List (Nat×SV):=
 match n with
 |0=>G
 |n=>λj=>if j<n then F j else G (j-n)
theorem aIY (h:j<n):aDH n F G j=F j:=by
 unfold aDH;split
 .exact absurd h (Nat.not_lt_zero _)
 exact if_pos h
theorem aIZ (h:n<=j):aDH n F G j=G (j-n):=by
 unfold aDH;split
 .rfl
 exact if_neg (by omega)
theorem Rows.app (h1:Rows ρ es n F c1) (h2:Rows ρ es m G c2):Rows ρ es (n+m) (aDH n F G) (c1++c2):=by
 refine⟨by rw[zlA,h1.1,h2.1,add_mul],λq hq=>?_⟩;rcases lt_or_ge q n with hlt|hge
 .have hb:(q+1)*es<=n*es:=mul_le_mul_right _ hlt
  rw[add_mul,one_mul]at hb;rw[aIY hlt,List.drop_append_of_le_length (by rw[h1.1];omega),List.take_append_of_le_length (by rw[zlD,h1.1];omega)];exact h1.2 q hlt
 have hb:n*es<=q*es:=mul_le_mul_right _ hge;rw[aIZ hge,drop_append,List.drop_of_length_le (by rw[h1.1];exact hb),nil_append,h1.1,show q*es-n*es=(q-n)*es by rw[sub_mul]];exact h2.2 (q-n) (by omega)
def xn (a:Option Nat) (M:Mm):Mm:=
 match a with
 |none=>M
 |some a=>(a,.dead)::M
def aZW (zl:List (Nat×SV)):Bool:=
 match zl with
 |[(_,.u8 x)]=>beq x.toNat 0
 |_=>false
def aZN (x:SV):Option (List Prop×Nat):=
 match x with
 | .i .i64 m=>some ([0<=m],m.toNat)
 |_=>none
def aaT (ty:Nat->Ty) (T:Tm) (M:Mm) (e:Nat) (s x:Operand):Option (List Prop×Nat×Nat×SV×Option Nat×Mm):=
 bif !i6 (ty e).k&&(beq (ty e).size 1&&aZW (ty e).zl)then match aZN (ev T x)with
  |some (ps,m)=>match aVC M (.a8 []) (ev T s)with
   |some (qs,n,u,a)=>match aGS u (.a8 (replicate m 0))with
    |some z=>some (((n+m)*(ty e).bytes<=140737488355328)::(n+m<=140737488355328)::(ps++qs),n+m,1,z,a,M)
    |none=>none
   |none=>none
  |none=>none
 else none
def appV (ty:Nat->Ty) (T:Tm) (M:Mm) (c:Go.Call):Option (List Prop×Nat×Nat×SV×Option Nat×Mm):=
  match c.args.toList with
  |[s,x]=>match c.argTypes.toList with
    | [t,xt]=>match(ty t).k with
      | .slice e=>match aNZ (ty xt).k with
       |true=>aaT ty T M e s x
       | false=>bif okSrc (ty xt).k&& !i6 (ty e).k then(match rz (ty e).zl with
        |some e0=>bif beq (ty e).size 1 then match aWV M e0 (ev T x)with
            |some (ps,m,v)=>match aVC M e0 (ev T s)with
              |some (qs,n,u,a)=>match aGS u v with
                |some z=>some (((n+m)*(ty e).bytes<=140737488355328)::(n+m<=140737488355328)::(ps++qs),n+m,1,z,a,M)
                |none=>none
              |none=>none
            |none=>none
          else none
        | none=>bif blt 0 (ty e).size&&notNil (ty e).zl&&beq (zL (ty e).zl) (ty e).size then match aSV (ty e).size M (ev T x)with
            |some (ps,m,G,M')=>match aY8 (ty e).size M' (ev T s)with
              |some (qs,n,F,a)=>some (((n+m)*(ty e).bytes<=140737488355328)::(n+m<=140737488355328)::(ps++qs),n+m,(ty e).size,.arr (n+m) (ty e).size (aDH n F G),a,M')
              |none=>match aWH (ty e).size M' (ev T s)with
                |some (qs,n,F)=>some (((n+m)*(ty e).bytes<=140737488355328)::(n+m<=140737488355328)::(ps++((0<m)::qs)),n+m,(ty e).size,.arr (n+m) (ty e).size (aDH n F G),none,M')
                |none=>match aaQ (ty e).size M' (ev T s)with
                  |some (qs,n,F,a,M2)=>some (((n+m)*(ty e).bytes<=140737488355328)::(n+m<=140737488355328)::(ps++qs),n+m,(ty e).size,.arr (n+m) (ty e).size (aDH n F G),some a,M2)
                  |none=>none
            |none=>none
          else none)else none
      |_=>none
    |_=>none
  |_=>none
  where
  okSrc:TyK->Bool
    | .slice _=>true
    | .string=>true
    |_=>false
  notNil:List (Nat×SV)->Bool
    |[]=>false
    |_=>true
structure aJD (P:Program) (w:World) (t xt ty e:TypeId) (i:TypeInfo) (z x:Value) (m:Nat) (news:List Value):Prop where
 nl:news.length=m*i.size
 none:∀n c,n+m<=c->(Builtin.append_ #[t,xt] ty #[.slice none n c,x]).run P w= .ok (.slice none (n+m) c) w
 room:∀a n c w',n+m<=c->(storeCells (a.add (n*i.size)) news 0).run P w= .ok () w'->(Builtin.append_ #[t,xt] ty #[.slice (some a) n c,x]).run P w= .ok (.slice (some a) (n+m) c) w'
 grow:∀base n c olds,(Builtin.firstCells i.size n (.slice base n c)).run P w.drew= .ok (List.toArray olds) w.drew->c<n+m->((n+m:Nat):Int)<=9223372036854775807->Builtin.nextslicecap (n+m) c*i.bytes<=281474976710656->
  (Builtin.append_ #[t,xt] ty #[.slice base n c,x]).run P w= .ok (.slice (some ⟨w.heap.size,0,Option.none⟩) (n+m) (grownCap w (n+m) c e))
    (w.drew.alloc (.cells ((olds++news).toArray++Builtin.zeroCells z.cells (grownCap w (n+m) c e-(n+m))) e))
theorem fK (ht:P.underlying t=some (.slice e))
  (hxt:(∃e',P.underlying xt=some (.slice e'))\/P.underlying xt=some .string) (hi:P.info? e=some i) (hz:i.zero=some z) (hsrc:aC7 P w i.size m x news):aJD P w t xt ty e i z x m news:=by
 obtain⟨hnl,hlen,hfirst⟩:=hsrc
 exact⟨hnl,λn c h=>uP (ty:=ty) ht hxt hi hlen (hfirst w rfl) h,λa n c w' h hs=>aBN (ty:=ty) ht hxt hi hlen (hfirst w rfl) h hs,
  λbase n c olds ho h1 h2 h3=>uQ (ty:=ty) ht hxt hi hz hlen (hfirst w.drew rfl) ho h1 h2 h3⟩
theorem yS {P:Program} {w:World} {t xt ty e:TypeId} {k:IntKind} {i:TypeInfo} {z:Value} {m:Nat} (ht:P.underlying t=some (.slice e)) (hxt:P.underlying xt=some (.int k))
  (hi:P.info? e=some i) (hz:i.zero=some z) (hzs:z.cells.size=i.size) (hm:m*i.bytes<=281474976710656) (hm2:m<=140737488355328):
  aJD P w t xt ty e i z (.int .i64 (m:Int)) m (Builtin.zeroCells z.cells m).toList:=by
 have hw:IntKind.i64.wrap (m:Int)=(m:Int):=by
  unfold IntKind.wrap;simp[IntKind.signed,IntKind.bits];omega
 have h0:¬((m:Int)<0):=by omega
 have hb:¬((281474976710656:Int)<(m:Int)*(i.bytes:Int)):=by
  have:((m*i.bytes:Nat):Int)<=281474976710656:=by omega
  rw[Int.natCast_mul]at this;omega
 have ha:∀w':World,(asInt (.int .i64 (m:Int))).run P w'= .ok (m:Int) w':=by intro w';simp[asInt,asIntOf]
 have hnil:m*i.size=0->Builtin.zeroCells z.cells m= #[]:=λh=>Array.eq_empty_of_size_eq_zero (by rw[size_zeroCells,hzs,h]);refine⟨by rw[Array.length_toList,size_zeroCells,hzs],λn c h=>?_,λa n c w' h hs=>?_,λbase n c olds ho h1 h2 h3=>?_⟩
 .by_cases h5:m*i.size=0
  .simp[Builtin.append_,run_underlying ht,run_underlying hxt,sizeOf,typeInfo,hi,ha,hw,h0,hb,h,h5]
  simp[Builtin.append_,run_underlying ht,run_underlying hxt,sizeOf,typeInfo,zeroValue,hi,hz,ha,hw,h0,hb,h,h5]
 .by_cases h5:m*i.size=0
  .rw[hnil h5]at hs
   have hs2:(storeCells (a.add (n*i.size)) []).run P w= .ok () w':=by simpa using hs
   simp[Builtin.append_,run_underlying ht,run_underlying hxt,sizeOf,typeInfo,hi,ha,hw,h0,hb,h,h5];rw[hs2];rfl
  simp[Builtin.append_,run_underlying ht,run_underlying hxt,sizeOf,typeInfo,zeroValue,hi,hz,ha,hw,h0,hb,h,h5];rw[hs];rfl
 have hn:¬(n+m<=c):=by omega
 have h63':¬(9223372036854775807<((n:Int)+(m:Int))):=by omega
 have h48':¬(281474976710656<Builtin.nextslicecap (n+m) c*i.bytes):=by omega
 by_cases h5:m*i.size=0
 .have h6:=hnil h5
  simp[Builtin.append_,run_underlying ht,run_underlying hxt,sizeOf,typeInfo,zeroValue,hi,hz,ha,hw,h0,hb,hn,h63',h48',Question.forced,ho,newRow,grownCap,h5,h6]
 simp[Builtin.append_,run_underlying ht,run_underlying hxt,sizeOf,typeInfo,zeroValue,hi,hz,ha,hw,h0,hb,hn,h63',h48',Question.forced,ho,newRow,grownCap,h5]
 try(congr 2;apply ext';simp[append_assoc])
theorem jE {Γ:Ctx} {ρ:Env} {M:Mm} {w:World} (hM:zF ρ M w) {d:Nat} (hd:zG M d=none) {t xt ty e:TypeId} {i:TypeInfo} {z:Value} (ht:Γ.P.underlying t=some (.slice e))
  (hi:Γ.P.info? e=some i) (hz:i.zero=some z) (hzs:z.cells.size=i.size)
  {s x:Value} {n m:Nat} {u leaf:SV} {news:List Value} (hA:aJD Γ.P w t xt ty e i z x m news) (hone:∀v∈news,one v) (hby:(n+m)*i.bytes<=140737488355328) (h63:n+m<=140737488355328)
  {a:Option Nat} (hdst:(a=none/\((s= .slice none 0 0/\n=0/\∀ρ',ρ.le ρ'->zD ρ' leaf news)\/
    (0<m/\∃y olds,s= .slice y n n/\(Builtin.firstCells i.size n s).run Γ.P w.drew= .ok olds.toArray w.drew/\olds.length=n*i.size/\∀ρ',ρ.le ρ'->zD ρ' leaf (olds++news))))\/
   ∃a0 sp ls off c y cs,a=some a0/\s= .slice y n c/\n<=c/\(c≠0->y=some ⟨(ρ.pos a0).1,(ρ.pos a0).2+off,none⟩)/\zG M a0=some (.mem true sp ls)/\zC ρ ls cs/\(∀j v,cs[j]? =some v->w.cell? ⟨(ρ.pos a0).1,(ρ.pos a0).2+j,none⟩=some v)/\
    off+n*i.size=zL ls/\off+c*i.size<=zL ls+sp/\∀ρ',ρ.le ρ'->zD ρ' leaf (cs.drop off++news)):
  ∃v w' ρ' c',(Builtin.append_ #[t,xt] ty #[s,x]).run Γ.P w= .ok v w'/\n+m<=c'/\ρ.le ρ'/\zF ρ' ((d,.mem true ((c'-(n+m))*i.size) [((n+m)*i.size,leaf)])::xn a M) w'/\
   aV ρ M ρ' ((d,.mem true ((c'-(n+m))*i.size) [((n+m)*i.size,leaf)])::xn a M) w w'/\zRT ρ' (.sl d 0 0 (n+m) c') v:=by
 have hnl:=hA.nl;have wrote0:∀b o,yX b o [] w w:=λb o=>⟨rfl,rfl,rfl,λ_ _=>rfl,λ_ _=>rfl,λj v h=>by simp at h,λ_ _ _=>rfl,λ_ _=>rfl⟩
 have grown:∀{M1:Mm} {ρ1:Env} (_:ρ.le ρ1) (_:zF ρ1 M1 w) (_:aV ρ M ρ1 M1 w w) (_:zG M1 d=none) (c:Nat) (olds:List Value),olds.length=n*i.size->(∀ρ',ρ.le ρ'->zD ρ' leaf (olds++news))->
   ∃ρ',ρ.le ρ'/\zF ρ' ((d,.mem true ((grownCap w (n+m) c e-(n+m))*i.size) [((n+m)*i.size,leaf)])::M1)
     (w.drew.alloc (.cells ((olds++news).toArray++Builtin.zeroCells z.cells (grownCap w (n+m) c e-(n+m))) e))/\
    aV ρ M ρ' ((d,.mem true ((grownCap w (n+m) c e-(n+m))*i.size) [((n+m)*i.size,leaf)])::M1) w
     (w.drew.alloc (.cells ((olds++news).toArray++Builtin.zeroCells z.cells (grownCap w (n+m) c e-(n+m))) e))/\
    zRT ρ' (.sl d 0 0 (n+m) (grownCap w (n+m) c e)) (.slice (some ⟨w.heap.size,0,none⟩) (n+m) (grownCap w (n+m) c e)):=by
  intro M1 ρ1 hle1 h1 hst1 hd1 c olds ho hleaf;have hg:eW w w.drew:=⟨le_refl _,rfl,rfl,λ_ _=>rfl⟩;have h2:=h1.grows hg;have hcs:zC ρ1 [((n+m)*i.size,leaf)] (olds++news):=⟨_,[],(append_nil _).symm,by rw[zlA,ho,hnl,add_mul],hleaf ρ1 hle1,rfl⟩
  obtain⟨n1,n2,n3⟩:=h2.alloc (t:=e) (cells:=(olds++news).toArray++Builtin.zeroCells z.cells (grownCap w (n+m) c e-(n+m))) (sp:=(grownCap w (n+m) c e-(n+m))*i.size) hd1 hcs (λj v hj=>by
   rw[Array.getElem?_append_left (by simpa using(List.getElem?_eq_some_iff.1 hj).1)]
   simpa using hj) (by rw[Array.size_append,size_zeroCells,hzs];simp)
  refine⟨_,Env.le_trans hle1 n1,n2,hst1.trans (hg.step.trans n3),zR ⟨Or.inl rfl,grownCap_ge _ _ _ _,_,rfl,λ_=>?_⟩⟩;simp[Env.addr,Env.add]
 rcases hdst with⟨rfl,⟨rfl,rfl,hleaf⟩|⟨hm,y,olds,rfl,hold,hol,hleaf⟩⟩|⟨a0,sp,ls,off,c,y,cs,rfl,rfl,hnc,hy,ha,hcs,hcell,hoff,hcap,hleaf⟩
 rotate_left
 .have hrun:=hA.grow y n n olds hold (by omega) (by omega) (growslice_fits (by omega) hby)
  obtain⟨ρ',k1,k2,k3,k4⟩:=grown (Env.le_refl _) hM (aV.refl _ _ _) hd n olds hol hleaf;exact⟨_,_,ρ',_,hrun,grownCap_ge _ _ _ _,k1,k2,k3,k4⟩
 rotate_left
 .rcases Nat.eq_zero_or_pos m with hm|hm
  .subst hm
   have hn:news=[]:=List.eq_nil_of_length_eq_zero (by rw[hnl];simp);subst hn;have hrun:=hA.none 0 0 (by omega);have hcl:zC ρ [((0+0)*i.size,leaf)] []:=⟨[],[],rfl,by simp,hleaf ρ (Env.le_refl _),rfl⟩;obtain⟨k1,k2,k3⟩:=hM.claim (b:=0) (o:=0) (sp:=(0-(0+0))*i.size) hd hcl (λj v hj=>by simp at hj) (λp h1 h2=>by simp[zL]at h2) (λj hj=>by simp[zL]at hj);refine⟨_,w,_,0,hrun,le_refl _,k1,k2,⟨le_refl _,rfl,rfl,λ_ _ _=>rfl,λ_ _ _ _=>⟨rfl,rfl⟩,λk p _ ho=>?_,λ_ _ _ h=>Or.inl h⟩,zR ⟨Or.inl rfl,le_refl _,_,rfl,λhc=>absurd rfl hc⟩⟩;rcases k3 k p ho with h|⟨_,h1,h2⟩
   .exact h
   simp[zL]at h2
  have hrun:=hA.grow none 0 0 [] rfl (by omega) (by omega) (growslice_fits (by omega) hby);obtain⟨ρ',k1,k2,k3,k4⟩:=grown (Env.le_refl _) hM (aV.refl _ _ _) hd 0 [] (by simp) (λρ' h=>by simpa using hleaf ρ' h);exact⟨_,_,ρ',_,hrun,grownCap_ge _ _ _ _,k1,k2,k3,k4⟩
 have hda:d≠a0:=by rintro rfl;rw[ha]at hd;cases hd
 have hd1:zG ((a0,.dead)::M) d=none:=by rw[zg hda];exact hd
 have hcl:=hcs.length;rcases lt_or_ge c (n+m)with hg|hroom
 .-- it grows
  obtain⟨k1,k2,_,_⟩:=hM.kill ha (q:=0) (nc:=[]) (wrote0 _ _) (by simp);have hold:(Builtin.firstCells i.size n (.slice y n c)).run Γ.P w.drew= .ok (cs.drop off).toArray w.drew:=by
   have:=tQ (P:=Γ.P) (w:=w.drew) (es:=i.size) hnc hy (λj v hj=>hcell j v hj) (by rw[hcl];omega);rw[List.take_of_length_le (by rw[zlD,hcl];omega)]at this;exact this
  have hrun:=hA.grow y n c _ hold hg (by omega) (growslice_fits hg hby);obtain⟨ρ',l1,l2,l3,l4⟩:=grown (Env.le_refl _) k1 k2 hd1 c (cs.drop off) (by rw[zlD,hcl];omega) hleaf;exact⟨_,_,ρ',_,hrun,grownCap_ge _ _ _ _,l1,l2,l3,l4⟩
 -- there is room
 have hmul:n*i.size+m*i.size<=c*i.size:=by rw[<-add_mul];exact mul_le_mul_right _ hroom
 have hst:∃v w',(Builtin.append_ #[t,xt] ty #[.slice y n c,x]).run Γ.P w= .ok v w'/\yX (ρ.pos a0).1 ((ρ.pos a0).2+(off+n*i.size)) news w w'/\∃y',v= .slice y' (n+m) c/\(c≠0->y'=some ⟨(ρ.pos a0).1,(ρ.pos a0).2+off,none⟩):=by
  rcases Nat.eq_zero_or_pos c with h0|h0
  .have hm0:m=0:=by omega
   have hn:news=[]:=List.eq_nil_of_length_eq_zero (by rw[hnl,hm0];simp);subst hn;cases y with
   |none=>exact⟨_,w,hA.none n c hroom,wrote0 _ _,none,rfl,λhc=>absurd h0 hc⟩
   |some ad=>exact⟨_,w,hA.room ad n c w hroom rfl,wrote0 _ _,some ad,rfl,λhc=>absurd h0 hc⟩
  have hy':=hy (by omega);subst hy';obtain⟨_,c1,c2,c3,c4⟩:=hM.sat a0 _ ha;have c4:=c4 rfl
  obtain⟨w',hr,hw⟩:=bw (P:=Γ.P) (b:=(ρ.pos a0).1) (o:=(ρ.pos a0).2+(off+n*i.size)) news 0 w hone (λj hj=>by
   have:=c4 (off+n*i.size+j) (by rw[hnl]at hj;omega);rw[show(ρ.pos a0).2+(off+n*i.size)+(0+j)=(ρ.pos a0).2+(off+n*i.size+j) by omega];exact this)
  rw[add_zero]at hw;refine⟨_,w',hA.room _ n c w' hroom ?_,hw,_,rfl,λ_=>rfl⟩;rw[fY,show(ρ.pos a0).2+off+n*i.size=(ρ.pos a0).2+(off+n*i.size) by omega];exact hr
 obtain⟨v,w',hrun,hw,y',rfl,hy'⟩:=hst;obtain⟨k1,k2,k3,k4⟩:=hM.kill ha hw (by rw[hnl];omega);have hcl2:zC ρ [((n+m)*i.size,leaf)] (cs.drop off++news):=⟨_,[],(append_nil _).symm,by rw[zlA,zlD,hcl,hnl,add_mul];omega,hleaf ρ (Env.le_refl _),rfl⟩;have hlen3:off+((n+m)*i.size+(c-(n+m))*i.size)<=zL ls+sp:=by
  rw[<-add_mul,show n+m+(c-(n+m))=c by omega];exact hcap
 obtain⟨l1,l2,l3⟩:=k1.claim (b:=(ρ.pos a0).1) (o:=(ρ.pos a0).2+off) (sp:=(c-(n+m))*i.size) hd1 hcl2 (λj v hj=>by
   rcases lt_or_ge j (cs.drop off).length with h1|h1
   .rw[List.getElem?_append_left h1,List.getElem?_drop]at hj
    rw[zlD,hcl]at h1;rw[hw.old _ _ (λ_=>Or.inl (by omega)),Nat.add_assoc];exact hcell _ v hj
   rw[List.getElem?_append_right h1]at hj;have:=hw.new _ v hj;rw[zlD,hcl]at h1;rw[zlD,hcl,show(ρ.pos a0).2+(off+n*i.size)+(j-(zL ls-off))=(ρ.pos a0).2+off+j by omega]at this;exact this)
  (λp h1 h2=>by
   simp only[zL,add_zero]at h2;exact k3 _ p ⟨rfl,by omega,by simp only[if_true];omega⟩)
  (λj hj=>by
   simp only[zL,add_zero]at hj;have:=k4 (off+j) (by omega);rw[show(ρ.pos a0).2+(off+j)=(ρ.pos a0).2+off+j by omega]at this;exact this)
 refine⟨_,w',_,c,hrun,hroom,l1,l2,⟨k2.size,k2.os,k2.output,k2.blk,k2.cell,λk p hk ho=>?_,k2.immo⟩,zR ⟨Or.inl rfl,hroom,y',rfl,λhc=>?_⟩⟩
 .rcases l3 k p ho with h|⟨rfl,h1,h2⟩
  .exact k2.own k p hk h
  simp only[zL,add_zero]at h2;exact⟨a0,_,ha,rfl,rfl,by omega,by simp only[if_true];omega⟩
 rw[hy' hc];simp[Env.addr,Env.add]
theorem Rows.one (r:Rows ρ es m F news):∀v∈news,one v:=by
 have:zD ρ (.arr m es F) news:=r;exact this.one
theorem aRI {Γ:Ctx} {N:Nat} {ρ:Env} {T:Tm} {M:Mm} {a:Act} {w:World} (hc:aZ N ρ T M a w) {s:Operand} {e0 u v zv:SV} {rs:List Prop} {n0 es m:Nat} {k0:Option Nat} (hsz1:es=1)
  (hdst:aVC M e0 (ev T s)=some (rs,n0,u,k0)) (hpr:All rs) (he0c:∀ρ':Env,zD ρ' e0 []) (hj:aGS u v=some zv) {news:List Value} (hnews:zD ρ v news):
  (k0=none/\((a.eval s= .slice none 0 0/\n0=0/\∀ρ',ρ.le ρ'->zD ρ' zv news)\/
    (0<m/\∃y olds,a.eval s= .slice y n0 n0/\(Builtin.firstCells es n0 (a.eval s)).run Γ.P w.drew= .ok (List.toArray olds) w.drew/\olds.length=n0*es/\∀ρ',ρ.le ρ'->zD ρ' zv (olds++news))))\/
   ∃a0 sp ls off c y cs,k0=some a0/\a.eval s= .slice y n0 c/\n0<=c/\(c≠0->y=some ⟨(ρ.pos a0).1,(ρ.pos a0).2+off,none⟩)/\zG M a0=some (.mem true sp ls)/\zC ρ ls cs/\(∀j v,cs[j]? =some v->w.cell? ⟨(ρ.pos a0).1,(ρ.pos a0).2+j,none⟩=some v)/\
    off+n0*es=zL ls/\off+c*es<=zL ls+sp/\∀ρ',ρ.le ρ'->zD ρ' zv (cs.drop off++news):=by
 have hrs:=zev hc s;unfold aVC at hdst;split at hdst
 .rename_i hs
  rw[hs]at hrs;simp only[zoI,zpI]at hdst;obtain⟨rfl,rfl,rfl,rfl⟩:=hdst;exact Or.inl ⟨rfl,Or.inl ⟨hrs,rfl,λρ' hle=>by simpa using iN hj (he0c ρ') (hnews.le hle)⟩⟩
 .rename_i a0 f i0 n1 cc hs
  rw[hs]at hrs;obtain⟨_,hnc,y,hv,hy⟩:=hrs;split at hdst
  .split at hdst
   .rename_i sp ls hm
    split at hdst
    .rename_i t0 u0
     have ha:=(zn hdst).1
     replace hdst:=(zn hdst).2
     simp only[zoI,zpI]at hdst;obtain⟨rfl,rfl,rfl,rfl⟩:=hdst;obtain⟨cs,c1,_,c3,_⟩:=hc.sat a0 _ hm;obtain⟨d1,d2,rfl,g1,g2,g3⟩:=c1;have e2:d2=[]:=g3;subst e2;have q1:=hpr.head;have q2:=hpr.tail.head;refine Or.inr ⟨a0,sp,_,i0,cc,y,d1,rfl,hv,hnc,λhcc=>by rw[hy hcc,aN,zero_add],hm,⟨d1,[],(append_nil _).symm,g1,g2,rfl⟩,by simpa using c3,by simp only[zL,hsz1];omega,by simp only[zL,hsz1];omega,λρ' hle=>iN hj (og ha (g2.le hle) i0) (hnews.le hle)⟩
    cases hdst
   cases hdst
  cases hdst
 cases hdst
theorem sL (v:Value) (m:Nat):(Builtin.zeroCells #[v] m).toList=replicate m v:=by
 unfold Builtin.zeroCells;apply List.ext_getElem
 .simp
 intro j h1 h2;simp[Nat.mod_one]
theorem aC3 {Γ:Ctx} {N:Nat} {ρ:Env} {T:Tm} {M:Mm} {a:Act} {w:World} (hc:aZ N ρ T M a w) {c:Go.Call} {d:Nat} (hd:zG M d=none) {ps:List Prop} {n es:Nat} {leaf:SV} {k:Option Nat} {M':Mm}
  (h:appV Γ.ty T M c=some (ps,n,es,leaf,k,M')) (hp:All ps) (hd':zG M' d=none) (ty:TypeId):
  ∃v w' ρ' c',(Builtin.append_ c.argTypes ty (c.args.map a.eval)).run Γ.P w= .ok v w'/\n<=c'/\ρ.le ρ'/\zF ρ' ((d,.mem true (zmE (c'-n) es) [(zmE n es,leaf)])::xn k M') w'/\
   aV ρ M ρ' ((d,.mem true (zmE (c'-n) es) [(zmE n es,leaf)])::xn k M') w w'/\zRT ρ' (.sl d 0 0 n c') v:=by
 unfold appV at h;split at h
 .rename_i s x hargs
  have e1:c.args.map a.eval= #[a.eval s,a.eval x]:=by
   apply ext';simp[hargs]
  split at h
  .rename_i t xt hts
   have e2:c.argTypes= #[t,xt]:=by
    apply ext';simp[hts]
   rw[e1,e2];split at h
   .rename_i e hk
    have ut:=zus (Γ.ok (t:=t) (by rw[hk];simp)) hk;split at h
    .-- zeros
     rename_i hxi;unfold aaT at h;have hb:=(zn h).1
     replace h:=(zn h).2
     simp only[zbA,not_eq_true']at hb;have hne:(Γ.ty e).k≠ .bad:=by intro e';rw[e']at hb;simp[i6]at hb
     obtain⟨i,hi,hi1,hi2,hi3⟩:=(Γ.ok hne).info;have hs1:=zq hb.2.1;have hsz1:i.size=1:=by omega
     obtain⟨q,hq⟩:∃q,(Γ.ty e).zl=[(q,.u8 0)]:=by
      have h1:=hb.2.2;unfold aZW at h1;split at h1
      .rename_i q x hzl
       have:=zq h1;have hx:x=0:=UInt8.toNat_inj.1 this;exact⟨q,by rw[hzl,hx]⟩
      cases h1
     have hzl:(Γ.ty e).zl≠[]:=by rw[hq];simp
     obtain⟨z,hz,hzc,hzs,_⟩:=hi3 hzl;have hzv:z.cells= #[w8 0]:=by
      apply ext';rw[hzc,hq];rfl
     have hxk:∃k,(Γ.ty xt).k= .int k:=by
      unfold aNZ at hxi;split at hxi
      .rename_i k hk';exact⟨k,hk'⟩
      cases hxi
     obtain⟨kx,hkx⟩:=hxk;have uxt:=ia (Γ.ok (t:=xt) (by rw[hkx];simp)) hkx;split at h
     .rename_i qs m hzl2
      split at h
      .rename_i rs n0 u k0 hdst
       split at h
       .rename_i zv hj
        simp only[zoI,zpI]at h;obtain⟨rfl,rfl,rfl,rfl,rfl,rfl⟩:=h;have hb1:=hp.head;have hb2:=hp.tail.head;have hxv:a.eval x= .int .i64 (m:Int):=by
         have hrx:=zev hc x;unfold aZN at hzl2;split at hzl2
         .rename_i mi hm
          simp only[zoI,zpI]at hzl2;obtain⟨rfl,rfl⟩:=hzl2;have h0:0<=mi:=hp.tail.tail.left.head;rw[hm]at hrx;have hrx:a.eval x= .int .i64 mi:=hrx;rw[hrx,Int.toNat_of_nonneg h0]
         cases hzl2
        rw[hxv];have hmb:m*i.bytes<=281474976710656:=by
         have:m*i.bytes<=(n0+m)*i.bytes:=mul_le_mul_right _ (by omega);rw[hi2]at this⊢;omega
        have hA:=yS (w:=w) (ty:=ty) ut uxt hi hz (by rw[hzv,hsz1];rfl) hmb (by omega);rw[hzv,sL]at hA;have hnews:zD ρ (.a8 (replicate m 0)) (replicate m (w8 0)):=by
         show _=List.map w8 (replicate m 0);rw[List.map_replicate]
        have:=jE (ty:=ty) hc.tozF hd ut hi hz (by rw[hzv,hsz1];rfl) hA hnews.one (by rw[hi2];exact hb1) hb2 (s:=a.eval s) (n:=n0) (u:=u) (leaf:=zv) (a:=k0)
         (aRI (Γ:=Γ) hc hsz1 hdst hp.tail.tail.right (λ_=>rfl) hj hnews)
        simp only[hsz1,mul_one]at this;exact this
       cases h
      cases h
     cases h
    have hb:=(zn h).1
    replace h:=(zn h).2
    simp only[zbA,not_eq_true']at hb;have hne:(Γ.ty e).k≠ .bad:=by intro e';rw[e']at hb;simp[i6]at hb
    have hxt:(∃e',Γ.P.underlying xt=some (.slice e'))\/Γ.P.underlying xt=some .string:=by
     have h1:=hb.1;unfold appV.okSrc at h1;split at h1
     .rename_i e' hk'
      exact Or.inl ⟨e',zus (Γ.ok (t:=xt) (by rw[hk'];simp)) hk'⟩
     .rename_i hk'
      exact Or.inr (bS (Γ.ok (t:=xt) (by rw[hk'];simp)) hk')
     cases h1
    obtain⟨i,hi,hi1,hi2,hi3⟩:=(Γ.ok hne).info;split at h
    .rename_i e0 he0
     have hs1:=zq (zn h).1
     replace h:=(zn h).2
     have hzl:(Γ.ty e).zl≠[]:=by intro e';rw[e']at he0;simp[rz]at he0
     obtain⟨z,hz,hzc,hzs,_⟩:=hi3 hzl;have hzlen:z.cells.size=i.size:=by
      have e3:(gv (Γ.ty e).zl).length=1:=by
       unfold rz at he0;split at he0
       .rename_i s0 v0 hzl0
        rw[hzl0];split at he0<;>first|rfl|(split at he0<;>first|rfl|cases he0)|cases he0
       cases he0
      rw[<-hzc]at e3;rw[hi1,hs1]
      simpa using e3
     have he0c:∀ρ':Env,zD ρ' e0 []:=by
      intro ρ';unfold rz at he0;split at he0
      .split at he0<;>first
        |(simp only[zoI]at he0;subst he0;rfl)
        |(split at he0<;>first|(simp only[zoI]at he0;subst he0;rfl)|cases he0)
        |cases he0
      cases he0
     split at h
     .rename_i qs m v hsrc
      split at h
      .rename_i rs n0 u k0 hdst
       split at h
       .rename_i zv hj
        simp only[zoI,zpI]at h;obtain⟨rfl,rfl,rfl,rfl,rfl,rfl⟩:=h;obtain⟨news,ok,hnews⟩:=aBE (P:=Γ.P) hc.tozF (he0c ρ) (zev hc x) hsrc hp.tail.tail.left;rw[<-hs1,<-hi1]at ok;have hsz1:i.size=1:=by omega
        have:=jE (ty:=ty) hc.tozF hd ut hi hz hzlen (fK ut hxt hi hz ok) hnews.one (by rw[hi2];exact hp.head) hp.tail.head (s:=a.eval s) (n:=n0) (u:=u) (leaf:=zv) (a:=k0) (by
         have hrs:=zev hc s;have hpr:=hp.tail.tail.right;unfold aVC at hdst;split at hdst
         .rename_i hs
          rw[hs]at hrs;simp only[zoI,zpI]at hdst;obtain⟨rfl,rfl,rfl,rfl⟩:=hdst;exact Or.inl ⟨rfl,Or.inl ⟨hrs,rfl,λρ' hle=>by simpa using iN hj (he0c ρ') (hnews.le hle)⟩⟩
         .rename_i a0 f i0 n1 cc hs
          rw[hs]at hrs;obtain⟨_,hnc,y,hv,hy⟩:=hrs;split at hdst
          .split at hdst
           .rename_i sp ls hm
            split at hdst
            .rename_i t0 u0
             have ha:=(zn hdst).1
             replace hdst:=(zn hdst).2
             simp only[zoI,zpI]at hdst;obtain⟨rfl,rfl,rfl,rfl⟩:=hdst;obtain⟨cs,c1,_,c3,_⟩:=hc.sat a0 _ hm;obtain⟨d1,d2,rfl,g1,g2,g3⟩:=c1;have e2:d2=[]:=g3;subst e2;have q1:=hpr.head;have q2:=hpr.tail.head;refine Or.inr ⟨a0,sp,_,i0,cc,y,d1,rfl,hv,hnc,λhcc=>by rw[hy hcc,aN,zero_add],hm,⟨d1,[],(append_nil _).symm,g1,g2,rfl⟩,by simpa using c3,by simp only[zL,hsz1];omega,by simp only[zL,hsz1];omega,λρ' hle=>iN hj (og ha (g2.le hle) i0) (hnews.le hle)⟩
            cases hdst
           cases hdst
          cases hdst
         cases hdst)
        simp only[hsz1,mul_one]at this;exact this
       cases h
      cases h
     cases h
    have hb2:=(zn h).1
    replace h:=(zn h).2
    simp only[zbA]at hb2;have hpos:0<(Γ.ty e).size:=ay hb2.1.1;have hszl:=zq hb2.2;have hzl:(Γ.ty e).zl≠[]:=by intro e';rw[e']at hb2;simp[appV.notNil]at hb2
    obtain⟨z,hz,hzc,hzs,_⟩:=hi3 hzl;split at h
    .rename_i qs m G M1 hsrc
     split at h
     .rename_i rs n0 F k0 hdst
      simp only[zoI,zpI]at h;obtain⟨rfl,rfl,rfl,rfl,rfl,rfl⟩:=h;obtain⟨ρ1,news,l1,l2,l3,ok,hnews⟩:=gS (P:=Γ.P) hc.tozF (zev hc x) hsrc hp.tail.tail.left;rw[<-hi1]at ok hnews hdst;have hzlen:z.cells.size=i.size:=by
       have:=(zzc ρ hzs).length;rw[<-hzc,hszl]at this;rw[hi1];simpa using this
      have:=jE (ty:=ty) l2 hd' ut hi hz hzlen (fK ut hxt hi hz ok) hnews.one (by rw[hi2];exact hp.head) hp.tail.head (s:=a.eval s) (n:=n0) (u:=.und) (leaf:=.arr (n0+m) i.size (aDH n0 F G)) (a:=k0) (by
       have hrs:=(zev hc s).le l1;have hpr:=hp.tail.tail.right;unfold aY8 at hdst;split at hdst
       .rename_i hs
        rw[hs]at hrs;simp only[zoI,zpI]at hdst;obtain⟨rfl,rfl,rfl,rfl⟩:=hdst;refine Or.inl ⟨rfl,Or.inl ⟨hrs,rfl,λρ' hle=>?_⟩⟩;rw[zero_add];exact hnews.le hle
       .rename_i a0 f i0 n1 cc hs
        rw[hs]at hrs;obtain⟨_,hnc,y,hv,hy⟩:=hrs;split at hdst
        .split at hdst
         .rename_i sp ls hm
          split at hdst
          .rename_i t0 m0 es' F0
           have he:=zq (zn hdst).1
           replace hdst:=(zn hdst).2
           subst he;obtain⟨cs,c1,_,c3,_⟩:=l2.sat a0 _ hm;obtain⟨d1,d2,rfl,g1,g2,g3⟩:=c1;have e2:d2=[]:=g3;subst e2;have hr:Rows ρ1 i.size m0 F0 d1:=g2;split at hdst
           rotate_left
           .simp only[zoI,zpI]at hdst;obtain⟨rfl,rfl,rfl,rfl⟩:=hdst
            have q0:=hpr.head;have q1:=hpr.tail.head;have q2:=hpr.tail.tail.head;rw[zme]at q2;subst q0;subst q1;refine Or.inr ⟨a0,sp,_,0,cc,y,d1,rfl,hv,hnc,λhcc=>by rw[hy hcc,aN],hm,⟨d1,[],(append_nil _).symm,g1,g2,rfl⟩,by simpa using c3,by simp only[zL];rw[<-g1,hr.1];omega,by simp only[zL];omega,λρ' hle=>?_⟩;rw[drop_zero];exact(hr.le hle).app (hnews.le hle)
           rename_i hs1;simp only[zoI,zpI]at hdst;obtain⟨rfl,rfl,rfl,rfl⟩:=hdst;have q1:=hpr.head;have q2:=hpr.tail.head;have hseg:=hr.seg (q:=i0) (n:=n1) (by omega);have hl:=hr.1;rw[hs1]at hseg hl;simp only[mul_one]at hseg hl;rw[List.take_of_length_le (by rw[zlD];omega)]at hseg;refine Or.inr ⟨a0,sp,_,i0,cc,y,d1,rfl,hv,hnc,λhcc=>by rw[hy hcc,aN,zero_add],hm,⟨d1,[],(append_nil _).symm,g1,g2,rfl⟩,by simpa using c3,by simp only[zL,hs1];omega,by simp only[zL,hs1];omega,λρ' hle=>?_⟩;rw[hs1];rw[hs1]at hnews;exact(hseg.le hle).app (hnews.le hle)
          cases hdst
         cases hdst
        cases hdst
       cases hdst)
      obtain⟨v,w',ρ',c',r1,r2,r3,r4,r5,r6⟩:=this;rw[<-hi1];simp only[zme];exact⟨v,w',ρ',c',r1,r2,Env.le_trans l1 r3,r4,l3.trans r5,r6⟩
     split at h
     .-- to new memory
      rename_i rs n0 F hdst;simp only[zoI,zpI]at h;obtain⟨rfl,rfl,rfl,rfl,rfl,rfl⟩:=h;obtain⟨ρ1,news,l1,l2,l3,ok,hnews⟩:=gS (P:=Γ.P) hc.tozF (zev hc x) hsrc hp.tail.tail.left;rw[<-hi1]at ok hnews hdst;have hzlen:z.cells.size=i.size:=by
       have:=(zzc ρ hzs).length;rw[<-hzc,hszl]at this;rw[hi1];simpa using this
      have:=jE (ty:=ty) l2 hd' ut hi hz hzlen (fK ut hxt hi hz ok) hnews.one (by rw[hi2];exact hp.head) hp.tail.head (s:=a.eval s) (n:=n0) (u:=.und) (leaf:=.arr (n0+m) i.size (aDH n0 F G)) (a:=none) (by
       have hrs:=(zev hc s).le l1;have hpr:=hp.tail.tail.right;have hm0:=hpr.head;have hpr:=hpr.tail;unfold aWH at hdst;split at hdst
       .rename_i a0 f i0 n1 cc hs
        rw[hs]at hrs;obtain⟨_,hnc,y,hv,hy⟩:=hrs;split at hdst
        .split at hdst
         .rename_i sp ls hm
          split at hdst
          .rename_i t0 m0 es' F0
           have he:=zq (zn hdst).1
           replace hdst:=(zn hdst).2
           subst he;simp only[zoI,zpI]at hdst;obtain⟨rfl,rfl,rfl⟩:=hdst;obtain⟨cs,c1,_,c3,_⟩:=l2.sat a0 _ hm;obtain⟨d1,d2,rfl,g1,g2,g3⟩:=c1;have e2:d2=[]:=g3;subst e2;have hr:Rows ρ1 i.size m0 F0 d1:=g2;have q0:=hpr.head;have q1:=hpr.tail.head;have q2:=hpr.tail.tail.head;subst q0;subst q2;have hlen:=hr.1;have hle:n1*i.size<=m0*i.size:=mul_le_mul_right _ q1;have hold:=tQ (P:=Γ.P) (w:=w.drew) (es:=i.size) (off:=0) (cs:=d1) (n:=n1) (c:=n1) (y:=y) (b:=(ρ1.pos a0).1) (o:=(ρ1.pos a0).2) (le_refl _) (λhcc=>by rw[hy hcc,aN]) (λj v hj=>c3 j v (by simpa using hj)) (by omega);rw[drop_zero]at hold;have htk:(d1.take (n1*i.size)).length=n1*i.size:=by rw[zlT];omega
           refine Or.inl ⟨rfl,Or.inr ⟨hm0,y,d1.take (n1*i.size),hv,by rw[hv];exact hold,htk,λρ' hle'=>?_⟩⟩
           have hrt:Rows ρ1 i.size n1 F0 (d1.take (n1*i.size)):=⟨htk,λq hq=>by
            have hb1:(q+1)*i.size<=n1*i.size:=mul_le_mul_right _ hq;rw[add_mul,one_mul]at hb1;have:=hr.2 q (by omega);rw[List.drop_take,List.take_take,min_eq_left (by omega)];exact this⟩
           exact(hrt.le hle').app (hnews.le hle')
          cases hdst
         cases hdst
        cases hdst
       cases hdst)
      obtain⟨v,w',ρ',c',r1,r2,r3,r4,r5,r6⟩:=this;rw[<-hi1];simp only[zme];exact⟨v,w',ρ',c',r1,r2,Env.le_trans l1 r3,r4,l3.trans r5,r6⟩
     split at h
     .-- what is told cell by cell
      rename_i rs n0 F a1 M2 hdst;simp only[zoI,zpI]at h;obtain⟨rfl,rfl,rfl,rfl,rfl,rfl⟩:=h;obtain⟨ρ1,news,l1,l2,l3,ok,hnews⟩:=gS (P:=Γ.P) hc.tozF (zev hc x) hsrc hp.tail.tail.left;rw[<-hi1]at ok hnews hdst;have hzlen:z.cells.size=i.size:=by
       have:=(zzc ρ hzs).length;rw[<-hzc,hszl]at this;rw[hi1];simpa using this
      have hpr:=hp.tail.tail.right;unfold aaQ at hdst;split at hdst
      .rename_i a0 f i0 n1 cc hs
       split at hdst
       .split at hdst
        .rename_i sp ls hm
         split at hdst
         .rename_i ls' M3 hk
          replace hk:=(zn hk).2
          split at hdst
          .rename_i sp1 ls1 hm1
           split at hdst
           .rename_i cks hck
            have hbb:=(zn hdst).1
            replace hdst:=(zn hdst).2
            simp only[zbA]at hbb;simp only[zoI,zpI]at hdst;obtain⟨rfl,rfl,rfl,rfl,rfl⟩:=hdst;have q0:=zq hbb.1.1;have q1:=zq hbb.1.2;have q2:=zq hbb.2.1;have q3:=Nat.le_of_ble_eq_true hbb.2.2;subst q0;obtain⟨cs,c1,_,c3,_⟩:=l2.sat a0 _ hm;obtain⟨ρ2,k1,k2,k3,k4⟩:=jY hk l2 c1;obtain⟨g1,g2⟩:=fw hck k4;obtain⟨cs1,e1,_,e3,_⟩:=k2.sat a0 _ hm1;have hpos:ρ2.pos a0=ρ1.pos a0:=(k1.dm a0 (l2.mod a0 _ hm)).2;have hl1:cs1.length=cs.length:=by rw[e1.length,g1,q2]
            have hcs:cs1=cs:=by
             apply List.ext_getElem?;intro j;by_cases hj:j<cs.length
             .have h1:=c3 j _ (List.getElem?_eq_getElem hj)
              have h2:=e3 j _ (List.getElem?_eq_getElem (by omega:j<cs1.length));rw[hpos,h1]at h2;rw[List.getElem?_eq_getElem hj,List.getElem?_eq_getElem (by omega:j<cs1.length)];exact h2.symm
             rw[List.getElem?_eq_none (by omega),List.getElem?_eq_none (by omega)]
            subst hcs;have hnews2:=hnews.le k1;have hrs:=((zev hc s).le l1).le k1;rw[hs]at hrs;obtain⟨_,hnc,y,hv,hy⟩:=hrs
            have hr:Rows ρ2 i.size n1 (aM9 cks) cs1:=⟨by rw[g1,q1],λq hq=>by
             rw[sY _ (by omega)];exact g2 q (by omega)⟩
            have:=jE (ty:=ty) k2 hd' ut hi hz hzlen (fK ut hxt hi hz ok) hnews.one (by rw[hi2];exact hp.head) hp.tail.head (s:=a.eval s) (n:=n1) (u:=.und) (leaf:=.arr (n1+m) i.size (aDH n1 (aM9 cks) G)) (a:=some a0)
             (Or.inr ⟨a0,sp1,_,0,cc,y,cs1,rfl,hv,hnc,λhcc=>by rw[hy hcc,aN],hm1,e1,by simpa using e3,by rw[q2,q1];omega,by omega,λρ' hle=>by
              rw[drop_zero];exact(hr.le hle).app (hnews2.le hle)⟩)
            obtain⟨v,w',ρ',c',r1,r2,r3,r4,r5,r6⟩:=this;rw[<-hi1];simp only[zme];exact⟨v,w',ρ',c',r1,r2,Env.le_trans l1 (Env.le_trans k1 r3),r4,l3.trans (k3.trans r5),r6⟩
           cases hdst
          cases hdst
         cases hdst
        cases hdst
       cases hdst
      cases hdst
     cases h
    cases h
   cases h
  cases h
 cases h
def aZH (ty:Nat->Ty) (T:Tm) (M:Mm) (c:Go.Call):Option (List Prop×Nat×SV×Mm):=
  match c.args.toList with
  |[s,x]=>match c.argTypes.toList with
    | [t,xt]=>match(ty t).k with
      | .slice e=>match rz (ty e).zl with
       |some _=>none
       |none=>bif (appV.okSrc (ty xt).k&& !i6 (ty e).k)&&(blt 0 (ty e).size&&appV.notNil (ty e).zl&&beq (zL (ty e).zl) (ty e).size)then match aSV (ty e).size M (ev T x)with
          |some (ps,m,_,M')=>match aY8 (ty e).size M' (ev T s)with
            |some _=>none
            |none=>match aWH (ty e).size M' (ev T s)with
              |some _=>some (ps,m,ev T s,M')
              |none=>none
          |none=>none
        else none
      |_=>none
    |_=>none
  |_=>none
theorem aC5 {Γ:Ctx} {N:Nat} {ρ:Env} {T:Tm} {M:Mm} {a:Act} {w:World} (hc:aZ N ρ T M a w) {c:Go.Call} {ps:List Prop} {m:Nat} {v:SV} {M':Mm}
  (h:aZH Γ.ty T M c=some (ps,m,v,M')) (hp:All ps) (h0:m=0) (ty:TypeId):
  ∃x ρ',(Builtin.append_ c.argTypes ty (c.args.map a.eval)).run Γ.P w= .ok x w/\ρ.le ρ'/\zF ρ' M' w/\aV ρ M ρ' M' w w/\zRT ρ' v x:=by
 unfold aZH at h;split at h
 .rename_i s x hargs
  have e1:c.args.map a.eval= #[a.eval s,a.eval x]:=by
   apply ext';simp[hargs]
  split at h
  .rename_i t xt hts
   have e2:c.argTypes= #[t,xt]:=by
    apply ext';simp[hts]
   rw[e1,e2];split at h
   .rename_i e hk
    have ut:=zus (Γ.ok (t:=t) (by rw[hk];simp)) hk;split at h
    .cases h
    have hb:=(zn h).1
    replace h:=(zn h).2
    simp only[zbA,not_eq_true']at hb;have hne:(Γ.ty e).k≠ .bad:=by intro e';rw[e']at hb;simp[i6]at hb
    have hxt:(∃e',Γ.P.underlying xt=some (.slice e'))\/Γ.P.underlying xt=some .string:=by
     have h1:=hb.1.1;unfold appV.okSrc at h1;split at h1
     .rename_i e' hk'
      exact Or.inl ⟨e',zus (Γ.ok (t:=xt) (by rw[hk'];simp)) hk'⟩
     .rename_i hk'
      exact Or.inr (bS (Γ.ok (t:=xt) (by rw[hk'];simp)) hk')
     cases h1
    obtain⟨i,hi,hi1,hi2,hi3⟩:=(Γ.ok hne).info;have hzl:(Γ.ty e).zl≠[]:=by intro e';rw[e']at hb;simp[appV.notNil]at hb
    obtain⟨z,hz,hzc,hzs,_⟩:=hi3 hzl;split at h
    .rename_i qs m1 G M1 hsrc
     split at h
     .cases h
     split at h
     .rename_i y0 hdst
      obtain⟨rfl,rfl,rfl,rfl⟩:=sD h;subst h0;obtain⟨ρ1,news,l1,l2,l3,ok,hnews⟩:=gS (P:=Γ.P) hc.tozF (zev hc x) hsrc hp;rw[<-hi1]at ok hnews;have hA:=fK (ty:=ty) ut hxt hi hz ok;have hnl:news=[]:=List.eq_nil_of_length_eq_zero (by rw[hA.nl];simp);subst hnl;unfold aWH at hdst;split at hdst
      .rename_i a0 f i0 n1 cc hs
       have hrs:=(zev hc s).le l1;have hrs2:=hrs;rw[hs]at hrs2;obtain⟨_,hnc,y,hv,hy⟩:=hrs2;refine⟨a.eval s,ρ1,?_,l1,l2,l3,hrs⟩;rw[hv];cases y with
       |none=>exact hA.none n1 cc hnc
       |some ad=>exact hA.room ad n1 cc w hnc rfl
      cases hdst
     cases h
    cases h
   cases h
  cases h
 cases h
def aV3 (n m:Nat) (F G:Nat->List (Nat×SV)):Nat->List (Nat×SV):=λq=>if q<n then F q else if q<n+m then G (q-n)else F q
def aaP (es:Nat) (M:Mm) (s:SV):Option (Nat×Nat×Nat×Nat×Nat×Nat×Nat×(Nat->List (Nat×SV))):=
 match s with
 | .sl a f i n c=>match f with
  |0=>match zG M a with
   |some (.mem true sp ls)=>match ls with
    |[(t,.arr N es' F),(0,.a8 [])]=>bif beq es es' then some (a,i,n,c,sp,t,N,F)else none
    |_=>none
   |_=>none
  |_=>none
 |_=>none
def aZG (ty:Nat->Ty) (T:Tm) (M:Mm) (c:Go.Call):Option (List Prop×Nat×Nat×Nat×Ent×Mm):=
  match c.args.toList with
  |[s,x]=>match c.argTypes.toList with
    |[t,xt]=>match(ty t).k with
      | .slice e=>match rz (ty e).zl with
       |some _=>none
       |none=>bif (appV.okSrc (ty xt).k&& !i6 (ty e).k)&&(blt 0 (ty e).size&&appV.notNil (ty e).zl&&beq (zL (ty e).zl) (ty e).size)then match aSV (ty e).size M (ev T x)with
          |some (ps,m,G,M')=>match aaP (ty e).size M' (ev T s)with
            |some (a,i,n,c,sp,t0,N,F)=>some ((i=0)::(n+m<=c)::(n+m<=N)::ps,n+m,c,a,.mem true sp [(t0,.arr N (ty e).size (aV3 n m F G)),(0,.a8 [])],M')
            |none=>none
          |none=>none
        else none
      |_=>none
    |_=>none
  |_=>none
theorem aC4 {Γ:Ctx} {N:Nat} {ρ:Env} {T:Tm} {M:Mm} {a:Act} {w:World} (hc:aZ N ρ T M a w) {c:Go.Call} {ps:List Prop} {n cp b:Nat} {E:Ent} {M':Mm}
  (h:aZG Γ.ty T M c=some (ps,n,cp,b,E,M')) (hp:All ps) (ty:TypeId):
  ∃x w' ρ',(Builtin.append_ c.argTypes ty (c.args.map a.eval)).run Γ.P w= .ok x w'/\ρ.le ρ'/\zF ρ' ((b,E)::M') w'/\aV ρ M ρ' ((b,E)::M') w w'/\zRT ρ' (.sl b 0 0 n cp) x:=by
 unfold aZG at h;split at h
 .rename_i s x hargs
  have e1:c.args.map a.eval= #[a.eval s,a.eval x]:=by
   apply ext';simp[hargs]
  split at h
  .rename_i t xt hts
   have e2:c.argTypes= #[t,xt]:=by
    apply ext';simp[hts]
   rw[e1,e2];split at h
   .rename_i e hk
    have ut:=zus (Γ.ok (t:=t) (by rw[hk];simp)) hk;split at h
    .cases h
    have hb:=(zn h).1
    replace h:=(zn h).2
    simp only[zbA,not_eq_true']at hb;have hne:(Γ.ty e).k≠ .bad:=by intro e';rw[e']at hb;simp[i6]at hb
    have hxt:(∃e',Γ.P.underlying xt=some (.slice e'))\/Γ.P.underlying xt=some .string:=by
     have h1:=hb.1.1;unfold appV.okSrc at h1;split at h1
     .rename_i e' hk'
      exact Or.inl ⟨e',zus (Γ.ok (t:=xt) (by rw[hk'];simp)) hk'⟩
     .rename_i hk'
      exact Or.inr (bS (Γ.ok (t:=xt) (by rw[hk'];simp)) hk')
     cases h1
    obtain⟨i,hi,hi1,hi2,hi3⟩:=(Γ.ok hne).info;have hzl:(Γ.ty e).zl≠[]:=by intro e';rw[e']at hb;simp[appV.notNil]at hb
    obtain⟨z,hz,hzc,hzs,_⟩:=hi3 hzl;split at h
    .rename_i qs m1 G M1 hsrc
     split at h
     .rename_i a0 i0 n0 c0 sp t0 N0 F hdst
      simp only[zoI,zpI]at h;obtain⟨rfl,rfl,rfl,rfl,rfl,rfl⟩:=h;obtain⟨ρ1,news,l1,l2,l3,ok,hnews⟩:=gS (P:=Γ.P) hc.tozF (zev hc x) hsrc hp.tail.tail.tail;rw[<-hi1]at ok hnews hdst;have hA:=fK (ty:=ty) ut hxt hi hz ok;have hone:=hnews.one;have q0:=hp.head;have q1:=hp.tail.head;have q2:=hp.tail.tail.head;subst q0;unfold aaP at hdst;split at hdst
      .rename_i a1 f i1 n1 cc hs
       split at hdst
       .split at hdst
        .rename_i sp1 ls hm
         split at hdst
         .rename_i t1 N1 es' F1
          have he:=zq (zn hdst).1
          replace hdst:=(zn hdst).2
          simp only[zoI,zpI]at hdst;obtain⟨rfl,rfl,rfl,rfl,rfl,rfl,rfl,rfl⟩:=hdst;subst he;have hrs:=(zev hc s).le l1;rw[hs]at hrs;obtain⟨hdom,hnc,y,hv,hy⟩:=hrs;rw[hv];obtain⟨cs,c1,c2,c3,c4⟩:=l2.sat a1 _ hm;obtain⟨d1,d2,rfl,g1,g2,d3,d4,rfl,g3,g4,g5⟩:=c1;have e3:d3=[]:=List.eq_nil_of_length_eq_zero g3;have e4:d4=[]:=g5;subst e3;subst e4;have hr:Rows ρ1 i.size N1 F1 d1:=g2;have hnl:=hA.nl;have hmul:n1*i.size+m1*i.size<=N1*i.size:=by rw[<-add_mul];exact mul_le_mul_right _ q2
          have hd1:=hr.1;rw[<-hi1];have hrows:Rows ρ1 i.size N1 (aV3 n1 m1 F1 G) (d1.take (n1*i.size)++news++d1.drop (n1*i.size+news.length)):=by
           refine⟨by simp only[zlA,zlT,zlD,hnl,hd1];omega,λq hq=>?_⟩;have hb1:(q+1)*i.size<=N1*i.size:=mul_le_mul_right _ hq;rw[add_mul,one_mul]at hb1;unfold aV3;by_cases h1:q<n1
           .rw[if_pos h1]
            have hb2:(q+1)*i.size<=n1*i.size:=mul_le_mul_right _ h1;rw[add_mul,one_mul]at hb2;have:=hr.2 q hq;rw[append_assoc,List.drop_append_of_le_length (by rw[zlT];omega),List.take_append_of_le_length (by rw[zlD,zlT];omega),List.drop_take,List.take_take,min_eq_left (by omega)];exact this
           rw[if_neg h1];have hb2:n1*i.size<=q*i.size:=mul_le_mul_right _ (by omega);have hlt:(d1.take (n1*i.size)).length=n1*i.size:=by rw[zlT];omega
           by_cases h2:q<n1+m1
           .rw[if_pos h2]
            have hb3:(q+1)*i.size<=(n1+m1)*i.size:=mul_le_mul_right _ h2;rw[add_mul,one_mul,add_mul]at hb3;have:=hnews.2 (q-n1) (by omega)
            rw[append_assoc,drop_append,List.drop_of_length_le (by omega),nil_append,hlt,show q*i.size-n1*i.size=(q-n1)*i.size by rw[sub_mul],
             List.drop_append_of_le_length (by rw[hnl,sub_mul];omega),List.take_append_of_le_length (by rw[zlD,hnl,sub_mul];omega)]
            exact this
           rw[if_neg h2];have hb3:(n1+m1)*i.size<=q*i.size:=mul_le_mul_right _ (by omega);rw[add_mul]at hb3;have:=hr.2 q hq
           rw[append_assoc,drop_append,List.drop_of_length_le (by omega),nil_append,hlt,drop_append,List.drop_of_length_le (by omega),nil_append,List.drop_drop,
            show n1*i.size+news.length+(q*i.size-n1*i.size-news.length)=q*i.size by omega]
           exact this
          have hcl:zC ρ1 [(t1,.arr N1 i.size (aV3 n1 m1 F1 G)),(0,.a8 [])] (d1.take (n1*i.size)++news++d1.drop (n1*i.size+news.length)):=
           ⟨_,[],(append_nil _).symm,by rw[hrows.1,<-hd1];exact g1,hrows,[],[],rfl,rfl,rfl,rfl⟩
          have hsz:zL [(t1,SV.arr N1 i.size F1),(0,SV.a8 [])]=t1:=by simp[zL]
          have hst:∃w',(Builtin.append_ #[t,xt] ty #[.slice y n1 cc,a.eval x]).run Γ.P w= .ok (.slice y (n1+m1) cc) w'/\yX (ρ1.pos a1).1 ((ρ1.pos a1).2+n1*i.size) news w w':=by
           rcases Nat.eq_zero_or_pos cc with h0|h0
           .have hm0:m1=0:=by omega
            have hn:news=[]:=List.eq_nil_of_length_eq_zero (by rw[hnl,hm0];simp);subst hn;have w0:yX (ρ1.pos a1).1 ((ρ1.pos a1).2+n1*i.size) [] w w:=⟨rfl,rfl,rfl,λ_ _=>rfl,λ_ _=>rfl,λj v h=>by simp at h,λ_ _ _=>rfl,λ_ _=>rfl⟩;cases y with
            |none=>exact⟨w,hA.none n1 cc q1,w0⟩
            |some ad=>exact⟨w,hA.room ad n1 cc w q1 rfl,w0⟩
           have hy':=hy (by omega);subst hy'
           obtain⟨w',hr',hw⟩:=bw (P:=Γ.P) (b:=(ρ1.pos a1).1) (o:=(ρ1.pos a1).2+n1*i.size) news 0 w hone (λj hj=>by
            have:=c4 rfl (n1*i.size+j) (by rw[hsz,<-g1,hd1];rw[hnl]at hj;omega);rw[show(ρ1.pos a1).2+n1*i.size+(0+j)=(ρ1.pos a1).2+(n1*i.size+j) by omega];exact this)
           rw[add_zero]at hw;refine⟨w',hA.room _ n1 cc w' q1 ?_,hw⟩;have e5:ρ1.addr a1 0 0=⟨(ρ1.pos a1).1,(ρ1.pos a1).2+0,none⟩:=rfl;have e6:(ρ1.addr a1 0 0).add (n1*i.size)=⟨(ρ1.pos a1).1,(ρ1.pos a1).2+n1*i.size,none⟩:=by rw[e5,fY,add_zero]
           first
            |(rw[e6];exact hr')
            |exact e6▸hr'
          obtain⟨w',hrun,hw⟩:=hst
          obtain⟨m2,m3⟩:=l2.write (sp':=sp1) hm hw (by rw[hsz,<-g1,hd1,hnl];omega) hcl (by simp[zL]) (λcs' k1 k2 j v hj=>by
           obtain⟨x1,x2,rfl,y1,y2,x3,x4,rfl,y3,y4,y5⟩:=k1;have z3:x3=[]:=List.eq_nil_of_length_eq_zero y3;have z4:x4=[]:=y5;subst z3;subst z4;simp only[append_nil]at k2 c3;have hin:∀j,¬(n1*i.size<=j/\j<n1*i.size+news.length)->w'.cell? ⟨(ρ1.pos a1).1,(ρ1.pos a1).2+j,none⟩=w.cell? ⟨(ρ1.pos a1).1,(ρ1.pos a1).2+j,none⟩:=by
            intro j hn;refine hw.old _ _ (λ_=>?_);omega
           rcases lt_or_ge j (n1*i.size)with hlt|hge
           .rw[append_assoc,List.getElem?_append_left (by rw[zlT];omega),List.getElem?_take,if_pos hlt]at hj
            rw[hin j (by omega)];exact c3 j v hj
           rcases lt_or_ge j (n1*i.size+news.length)with hlt2|hge2
           .rw[append_assoc,List.getElem?_append_right (by rw[zlT];omega),List.getElem?_append_left (by rw[zlT];omega),zlT,min_eq_left (by omega)]at hj
            have:=hw.new (j-n1*i.size) v hj;rw[show(ρ1.pos a1).2+n1*i.size+(j-n1*i.size)=(ρ1.pos a1).2+j by omega]at this;exact this
           rw[List.getElem?_append_right (by simp only[zlA,zlT];omega),List.getElem?_drop]at hj;simp only[zlA,zlT]at hj;rw[show n1*i.size+news.length+(j-(min (n1*i.size) d1.length+news.length))=j by omega]at hj;rw[hin j (by omega)];exact c3 j v hj)
          exact⟨_,w',ρ1,hrun,l1,m2,l3.trans m3,zR ⟨hdom,q1,y,rfl,hy⟩⟩
         cases hdst
        cases hdst
       cases hdst
      cases hdst
     cases h
    cases h
   cases h
  cases h
 cases h
def aQ1:Builtin->Bool
 | .clear=>true
 |_=>false
def aIF (ty:Nat->Ty) (M:Mm) (T:Tm) (c:Go.Call):Option (List Prop×Nat×Ent):=none
theorem vh {Γ:Ctx} {N:Nat} {ρ:Env} {T:Tm} {M:Mm} {a:Act} {w:World} (hc:aZ N ρ T M a w) {c:Go.Call} {ps:List Prop} {b:Nat} {E:Ent} (h:aIF Γ.ty M T c=some (ps,b,E)) (hp:All ps) (T':TypeId):
  ∃w',(Builtin.clear_ c.argTypes T' (c.args.map a.eval)).run Γ.P w= .ok (.tuple #[]) w'/\zF ρ ((b,E)::M) w'/\aV ρ M ρ ((b,E)::M) w w':=by unfold aIF at h;cases h
@[irreducible] def fg (ps:List Prop) (K:Prop):Prop:=zA ps/\K
theorem fg.i {ps:List Prop} {K:Prop} (h:zA ps) (k:K):fg ps K:=by unfold fg;exact⟨h,k⟩
theorem fg.all (h:fg ps K):All ps:=by unfold fg at h;exact zAi h.1
theorem fg.rest (h:fg ps K):K:=by unfold fg at h;exact h.2
def zwP (ps:List Prop) (K:Prop):Prop:=
 match ps with
 |[]=>K
 |p::r=>fg (p::r) K
theorem zwP.all (h:zwP ps K):All ps:=by
 cases ps with
 |nil=>exact All.nil
 |cons p r=>exact fg.all h
theorem zwP.rest (h:zwP ps K):K:=by
 cases ps with
 |nil=>exact h
 |cons p r=>exact fg.rest h
@[irreducible] def zB (p A B:Prop):Prop:=(p->A)/\(¬p->B)
theorem zB.i {p A B:Prop} (h:p->A) (k:¬p->B):zB p A B:=by unfold zB;exact⟨h,k⟩
theorem zB.yes (h:zB p A B) (hp:p):A:=by unfold zB at h;exact h.1 hp
theorem zB.no (h:zB p A B) (hp:¬p):B:=by unfold zB at h;exact h.2 hp
@[irreducible] def Call (P:Program) (f:FuncId) (args:List SV) (M:Mm) (K:SV->Mm->Prop):Prop:=aR6 P f args M K
theorem Call.out (h:Call P f args M K):aR6 P f args M K:=by unfold Call at h;exact h
theorem Call.name (nms:List (Nat×List (Nat×SV))) (h1:qz nms args M=some (ps,args',M')) (h2:zA ps)
  (h3:kW P f args' M' K):Call P f args M K:=by
 unfold Call;exact⟨nms,ps,args',M',h1,h2,h3⟩
theorem kW.i {P:Program} {f:FuncId} {args:List SV} {M:Mm} {K:SV->Mm->Prop} {args0:List SV} {M0:Mm} {R:SV->Mm->Prop} (h:Fn P f args0 M0 R) (μ:Nm) {ps qs:List Prop}
  (h1:fD μ args0 args=some ps) (h2:zA ps) (h3:gO μ M M0=some qs) (h4:zA qs) (h5:tD μ M M0=true) (h6:∀v M',R v M'->K (ren μ v) (zM μ M M0 M' μ)):
  kW P f args M K:=⟨args0,M0,R,μ,ps,qs,h,h1,h2,h3,h4,h5,h6⟩
theorem Call.i {P:Program} {f:FuncId} {args:List SV} {M:Mm} {K:SV->Mm->Prop} {args0:List SV} {M0:Mm} {R:SV->Mm->Prop} (h:Fn P f args0 M0 R) (μ:Nm) {ps qs:List Prop}
  (h1:fD μ args0 args=some ps) (h2:zA ps) (h3:gO μ M M0=some qs) (h4:zA qs) (h5:tD μ M M0=true) (h6:∀v M',R v M'->K (ren μ v) (zM μ M M0 M' μ)):
  Call P f args M K:=by
 unfold Call;exact⟨[],[],args,M,rfl,trivial,args0,M0,R,μ,ps,qs,h,h1,h2,h3,h4,h5,h6⟩
theorem Call.pure {P:Program} {f:FuncId} {args args0:List SV} {M:Mm} {K:SV->Mm->Prop} {R:SV->Prop} (h:Fn P f args0 [] (λv _=>R v)) {ps:List Prop}
  (h1:fD [] args0 args=some ps) (h2:zA ps) (h6:∀v,R v->K (ren [] v) M):Call P f args M K:=
 Call.i h [] h1 h2 rfl trivial rfl λv _ hR=>h6 v hR
def aOJ (P:Program) (g:FuncId):Bool:=
 match P.funcs[g]? with
 |some fn=> !(fn.name== "runtime.NumGoroutine")&&fn.body.isSome
 |none=>false
inductive aAZ where
 |add64|sub64
def gF (x y c:UInt64):UInt64:=ofNat (x.toNat+y.toNat+c.toNat)
def oO (x y c:UInt64):UInt64:=ofNat ((x.toNat+y.toNat+c.toNat)/18446744073709551616)
def aJ0 (x y c:UInt64):UInt64:=ofNat (x.toNat+18446744073709551616-y.toNat-c.toNat)
def aEF (x y c:UInt64):UInt64:=if x.toNat<y.toNat+c.toNat then 1 else 0
def aAZ.val (k:aAZ) (x y c:UInt64):SV:=
 match k with
 | .add64=>.tup [.u64 (gF x y c),.u64 (oO x y c)]
 | .sub64=>.tup [.u64 (aJ0 x y c),.u64 (aEF x y c)]
def aAZ.res (k:aAZ) (x y c:UInt64):Value:=
 match k with
 | .add64=>.tuple #[w64 (gF x y c),w64 (oO x y c)]
 | .sub64=>.tuple #[w64 (aJ0 x y c),w64 (aEF x y c)]
def aJA (P:Program) (g:Nat) (k:aAZ):Prop:=∀(x y c:UInt64),c.toNat<=1->∀w:World,(callFunc g #[w64 x,w64 y,w64 c]).run P w= .ok (.value (k.res x y c)) w
theorem aHW (hf:P.funcs[g]? =some fn) (hname:(fn.name== "runtime.NumGoroutine")=false) (hb:fn.body.isNone=true) (hn:Extern.findNext fn=none) (he:Extern.find fn=some add64Entry):aJA P g .add64:=by
 intro x y c hc w;rw[run_callFunc_extern hf hname hb hn he];unfold w64;rw[run_add64 _ _ _ (by omega) (by omega) (by omega) (by omega)];simp only[andThen_ok,aAZ.res,w64,gF,oO,UInt64.toNat_ofNat'];have h1:=x.toNat_lt;have h2:=y.toNat_lt;rw[Nat.mod_eq_of_lt (show(x.toNat+y.toNat+c.toNat)/18446744073709551616<2^64 by omega)];congr 5
def yl:Array Value->Sem Value:=λargs=>do
 let(x,y,b)←Extern.MathBitsCarry.three "Sub64" args
 pure (Extern.MathBitsCarry.pair ((x+Extern.MathBitsCarry.m64-y-b)%Extern.MathBitsCarry.m64) (if x<y+b then 1 else 0))
theorem uO (x y b:Nat) (hb:b<=1) (w:World):
  (yl #[.int .u64 x,.int .u64 y,.int .u64 b]).run P w=
   .ok (.tuple #[.int .u64 (((x+18446744073709551616-y-b)%18446744073709551616:Nat):Int),.int .u64 ((if x<y+b then 1 else 0:Nat):Int)]) w:=by
 have:b=0\/b=1:=by omega
 rcases this with rfl|rfl<;>rfl
theorem aHV (hf:P.funcs[g]? =some fn) (hname:(fn.name== "runtime.NumGoroutine")=false) (hb:fn.body.isNone=true) (hn:Extern.findNext fn=none) (he:Extern.find fn=some yl):aJA P g .sub64:=by
 intro x y c hc w;rw[run_callFunc_extern hf hname hb hn he];unfold w64;rw[uO _ _ _ hc];simp only[andThen_ok,aAZ.res,w64,aJ0,aEF,UInt64.toNat_ofNat'];congr 5;split <;>rfl
structure Cfg extends Ctx where
 calls:List Nat
 callsOK:(calls.all λg=>aOJ P g)=true
 exts:List (Nat×aAZ):=[]
 extsOK:∀p∈exts,aJA P p.1 p.2:=by exactλp hp=>absurd hp (by simp)
def aHX (l:List (Nat×aAZ)) (g:Nat):Option aAZ:=
 match l with
 |[]=>none
 |(k,e)::r=>bif beq g k then some e else aHX r g
theorem vc:∀{l:List (Nat×aAZ)} {g:Nat} {e:aAZ},aHX l g=some e->(g,e)∈l
 |[],_,_,h=>by simp[aHX]at h
 |(k,e')::r,g,e,h=>by
  simp only[aHX]at h;rcases zs h with⟨hb,h⟩|⟨_,h⟩
  .have:=zq hb
   simp only[zoI]at h;subst h;subst this;simp
  exact List.mem_cons_of_mem _ (vc h)
def aaM (k:aAZ) (as:List SV):Out:=
 match as with
 |[.u64 x,.u64 y,.u64 c]=>some ([c.toNat<=1],k.val x y c)
 |_=>none
def aYZ (l:List (Nat×aAZ)) (g:Nat) (as:List SV):Out:=
 match aHX l g with
 |some k=>aaM k as
 |none=>none
theorem aCG {Γ:Cfg} {g:Nat} {as:List SV} {ps:List Prop} {v:SV} (h:aYZ Γ.exts g as=some (ps,v)) (hp:All ps) {ρ:Env} {xs:List Value} (hr:iR ρ as xs) (w:World):
  ∃x,zRT ρ v x/\(callFunc g xs.toArray).run Γ.P w= .ok (.value x) w:=by
 unfold aYZ at h;split at h
 .rename_i k hk
  have hx:=Γ.extsOK _ (vc hk);unfold aaM at h;split at h
  .rename_i x y c
   obtain⟨rfl,rfl⟩:=sB h;obtain⟨v1,r1,e1,h1,v2,r2,e2,h2,v3,r3,e3,h3,h4⟩:=hr;simp only[iR]at h4;subst h4;subst e3;subst e2;subst e1;have h1:v1=w64 x:=h1;have h2:v2=w64 y:=h2;have h3:v3=w64 c:=h3;subst h1;subst h2;subst h3;refine⟨_,?_,hx x y c hp.head w⟩;cases k
   .exact⟨_,⟨_,_,rfl,rfl,_,_,rfl,rfl,rfl⟩,rfl⟩
   exact⟨_,⟨_,_,rfl,rfl,_,_,rfl,rfl,rfl⟩,rfl⟩
  cases h
 cases h
def evL (T:Tm):List Operand->List SV
 |[]=>[]
 |x::r=>ev T x::evL T r
def aWK:List (Nat×Nat)->List SV
 |[]=>[]
 |(a,f)::r=>.ptr a f none::aWK r
def zt (dst:Option Nat) (v:SV) (T:Tm):Tm:=
 match dst with
 |some d=>(d,v)::T
 |none=>T
def aN0:Builtin->Bool
 | .copy=>true
 |_=>false
def z9:Builtin->Bool
 | .append=>true
 |_=>false
def xP (len:Nat) (parts:List (Nat×Operand)):Bool:=
 match len with
 |0=>match parts with
  |[]=>true
  |_=>false
 |_=>true
def aO9 (ty:Nat->Ty) (s e:Nat) (v:SV):Option (List UInt8):=
 match(ty s).k with
 | .string=>match(ty e).k with
  | .int .u8=>match v with
   | .str l=>some l
   |_=>none
  |_=>none
 |_=>none
def aN1 (k:TyK):Bool:=
 match k with
 | .int .u8=>true
 |_=>false
def xW (M:Mm) (s t:Nat) (k:TyK) (v:SV):Option SV:=
 match v with
 | .sl a f i n c=>match zG M a with
  |some (.mem true sp ls)=>bif beq s t&&(aN1 k&&(blt 0 n&&blt 0 (zL ls+sp)))then some (.sl a f i n c)else none
  |_=>none
 |_=>none
theorem uw (h:xW M s t k v=some v'):∃a f i n c sp ls,v= .sl a f i n c/\v'= .sl a f i n c/\zG M a=some (.mem true sp ls)/\s=t/\k= .int .u8/\0<n/\0<zL ls+sp:=by
 unfold xW at h;split at h
 .rename_i a f i n c
  split at h
  .rename_i sp ls hm
   rcases zs h with⟨hb,h⟩|⟨_,h⟩
   .simp only[zbA]at hb
    simp only[zoI]at h;refine⟨a,f,i,n,c,sp,ls,rfl,h.symm,hm,zq hb.1,?_,ay hb.2.2.1,ay hb.2.2.2⟩;have:=hb.2.1;unfold aN1 at this;split at this
    .rfl
    cases this
   cases h
  cases h
 cases h
def zfV (v:SV) (k:SV->Prop):Prop:=
 match v with
 | .und=>k .und
 | .tt=>k .tt
 | .ff=>k .ff
 | .bool p=>k (.bool p)
 | .u8 x=>k (.u8 x)
 | .u16 x=>k (.u16 x)
 | .u32 x=>k (.u32 x)
 | .u64 x=>k (.u64 x)
 | .i q n=>k (.i q n)
 | .str l=>k (.str l)
 | .ptr a f i=>k (.ptr a f i)
 | .nilp=>k .nilp
 | .sl a f i n c=>k (.sl a f i n c)
 | .slx a f i n=>k (.slx a f i n)
 | .nsl=>k .nsl
 | .a8 l=>k (.a8 l)
 | .a16 l=>k (.a16 l)
 | .a32 l=>k (.a32 l)
 | .a64 l=>k (.a64 l)
 | .ai l=>k (.ai l)
 | .isl q n s ls=>k (.isl q n s ls)
 | .iep f q s ls=>k (.iep f q s ls)
 | .ep a f q s=>k (.ep a f q s)
 | .agg ls=>k (.agg ls)
 | .tup []=>k (.tup [])
 |v=>k v
theorem i8 (v:SV) (k:SV->Prop):zfV v k=k v:=by
 unfold zfV;split <;>rfl
def zfP (ps:List Prop) (k:List Prop->Prop):Prop:=
 match ps with
 |[]=>k []
 |p::r=>zfP r λr=>k (p::r)
theorem gl:∀(ps:List Prop) (k:List Prop->Prop),zfP ps k=k ps
 |[],k=>rfl
 |p::r,k=>by simp only[zfP];rw[gl r]
def zfM (M:Mm) (k:Mm->Prop):Prop:=
 match M with
 |[]=>k []
 |(a,e)::r=>match e with
  | .dead=>zfM r λr=>k ((a,.dead)::r)
  | .mem own sp ls=>match own with
   |true=>zfM r λr=>k ((a,.mem true sp ls)::r)
   |false=>zfM r λr=>k ((a,.mem false sp ls)::r)
  | .map m=>zfM r λr=>k ((a,.map m)::r)
theorem gm:∀(M:Mm) (k:Mm->Prop),zfM M k=k M
 |[],k=>rfl
 |(a,.dead)::r,k=>by simp only[zfM];rw[gm r]
 |(a,.mem true sp ls)::r,k=>by simp only[zfM];rw[gm r]
 |(a,.mem false sp ls)::r,k=>by simp only[zfM];rw[gm r]
 |(a,.map m)::r,k=>by simp only[zfM];rw[gm r]
def aXZ (v:SV):Option Nat:=
 match v with
 | .sl _ _ _ n _=>some n
 | .slx _ _ _ n=>some n
 | .isl _ n _ _=>some n
 |_=>none
def aXI (ty:Nat->Ty) (T:Tm) (op:Op):Option Nat:=
 match op with
 | .binOp op t x y _=>match op with
  | .eql=>match(ty t).k with
   | .slice _=>match ev T y with
    | .nsl=>aXZ (ev T x)
    |_=>none
   |_=>none
  |_=>none
 |_=>none
theorem aKC (w:World) (d:Nat) (t e:TypeId) (x:Option Addr) (n c:Nat) (h:P.underlying t=some (.slice e)):
  (Op.equalIn (d+1) t (.slice x n c) (.slice none 0 0)).run P w= .ok x.isNone w:=by
 cases x<;>simp[Op.equalIn,zru h]
theorem aKB (w:World) (t e:TypeId) (x:Option Addr) (n c:Nat) (h:P.underlying t=some (.slice e)):
  (binOp .eql t (.slice x n c) (.slice none 0 0)).run P w= .ok (.bool x.isNone) w:=by
 simp only[binOp,Op.equal,Op.maxDepth,run_bind,aKC w 9999 t e x n c h,andThen_ok,run_pure]
theorem aK8 (h:aXZ v=some n) (hx:zRT ρ v x):∃y c,n<=c/\x= .slice y n c/\(c≠0->y≠none):=by
 unfold aXZ at h;split at h<;>simp only[zoI,reduceCtorEq]at h<;>subst h
 .obtain⟨_,h1,y,rfl,h2⟩:=hx
  exact⟨y,_,h1,rfl,λhc hy=>by rw[h2 hc]at hy;cases hy⟩
 .obtain⟨_,c,y,h1,rfl,h2⟩:=hx
  exact⟨y,c,h1,rfl,λhc hy=>by rw[h2 hc]at hy;cases hy⟩
 obtain⟨b,o,c,y,_,h1,rfl,h2⟩:=hx;exact⟨y,c,h1,rfl,λhc hy=>by rw[h2 hc]at hy;cases hy⟩
theorem aB0 {Γ:Ctx} {N:Nat} {ρ:Env} {T:Tm} {M:Mm} {a:Act} {w:World} (hc:aZ N ρ T M a w) {o:Oper} {op:Op} (ho:o.op=op) {n:Nat} (h:aXI Γ.ty T op=some n):
  ∃b:Bool,(0<n->b=false)/\(execOp a.eval o).run Γ.P w= .ok (.value (.bool b)) w:=by
 subst ho;obtain⟨dst,op,ty,pos,after,guard⟩:=o;simp only at h;unfold aXI at h;split at h
 .rename_i op t x y yt
  split at h
  .split at h
   .rename_i e hk
    split at h
    .rename_i hy
     have hy2:=zev hc y;rw[hy]at hy2;obtain⟨z,c,h1,h2,h3⟩:=aK8 h (zev hc x);have u:=zus (Γ.ok (t:=t) (by rw[hk];simp)) hk;refine⟨z.isNone,λh0=>?_,?_⟩
     .have:=h3 (by omega)
      cases z with
      |none=>exact absurd rfl this
      |some _=>rfl
     have hy3:a.eval y= .slice none 0 0:=hy2;simp only[execOp,run_bind,h2,hy3,zeg .eql t x y (.slice z n c) _ (by simp) (by simp),andThen_ok,aKB w t e z n c u,run_pure]
    cases h
   cases h
  cases h
 cases h
def bp (Γ:Cfg) (o:Oper) (T:Tm) (M:Mm) (ps:List Prop) (K:List Prop->SV->Mm->Prop):Prop:=
 match o.op with
 | .alloc t=>match o.dst with
  |some d=>match zG M d with
   |none=>match(Γ.ty t).k with
    | .bad=>False
    |_=>match(Γ.ty t).zl with
     |[]=>False
     |zl=>K ps (.ptr d 0 none) ((d,.mem true 0 zl)::M)
   |some _=>False
  |none=>False
 | .box t x=>match o.dst with
  |some d=>match zG M d with
   |none=>match iM (Γ.ty t) (ev T x)with
    |some (qs,ls)=>K (qs++ps) (.ptr d 0 none) ((d,.mem true 0 ls)::M)
    |none=>False
   |some _=>False
  |none=>False
 | .store t ad x=>match o.dst with
  |none=>match ev T ad with
   | .ptr a f i=>match zG M a with
    |some (.mem true sp ls)=>match(Γ.ty t).k with
     | .bad=>False
     |_=>match rN ls f i (Γ.ty t) (ev T x)with
      |some (qs,l)=>K (qs++ps) .und ((a,.mem true sp l)::M)
      |none=>False
    |_=>False
   | .ep a f q s=>match zG M a with
    |some (.mem true sp ls)=>match(Γ.ty t).k with
     | .bad=>False
     |_=>match aEG ls f q s (Γ.ty t) (ev T x)with
      |some (qs,l)=>K (qs++ps) .und ((a,.mem true sp l)::M)
      |none=>False
    |_=>False
   |_=>False
  |some _=>False
 | .makeSlice t l c=>match o.dst with
  |some d=>match zG M d with
   |none=>match aB5 Γ.ty T d t l c with
    |some (qs,e,v)=>K (qs++ps) v ((d,e)::M)
    |none=>False
   |some _=>False
  |none=>False
 | .buildSlice t len parts=>bif xP len parts.toList then match o.dst with
   |some d=>match zG M d with
    |none=>match bsV Γ.ty T d t len parts.toList with
     |some (qs,e,v)=>K (qs++ps) v ((d,e)::M)
     |none=>False
    |some _=>False
   |none=>False
  else False
 | .makeMap _ r=>match r with
  |none=>match o.dst with
   |some d=>match zG M d with
    |none=>K ps (.mp d) ((d,.map (.si []))::M)
    |some _=>False
   |none=>False
  |some _=>False
 | .mapUpdate t x k v=>match o.dst with
  |none=>match aWZ Γ.ty M t (ev T x) (ev T k) (ev T v)with
   |some (qs,a,l)=>K (qs++ps) .und ((a,.map (.si l))::M)
   |none=>False
  |some _=>False
 | .convert s t x=>match(Γ.ty t).k with
  | .slice e=>match(Γ.ty s).k with
   | .slice _=>match xW M s t (Γ.ty e).k (ev T x)with
    |some v=>K ps v M
    |none=>False
   |_=>match o.dst with
    |some d=>match zG M d with
     |none=>match aO9 Γ.ty s e (ev T x)with
      |some l=>∀c',l.length<=c'->K ps (.sl d 0 0 l.length c') ((d,.mem true (c'-l.length) [(l.length,.a8 l)])::M)
      |none=>False
     |some _=>False
    |none=>False
  |_=>match fo Γ.ty T M o.op with
   |some (qs,v)=>K (qs++ps) v M
   |none=>False
 | .call c=>match c.callee with
  | .value f=>match ev T f with
   | .fn g cap=>bif eY g Γ.calls then zwP ps (Call Γ.P g (evL T c.args.toList++aWK cap) M (λv M'=>zfM M' λM'=>K [] v M'))else match aYZ Γ.exts g (evL T c.args.toList++aWK cap)with
    |some (qs,v)=>K (qs++ps) v M
    |none=>False
   |_=>False
  | .builtin b=>match aN0 b with
   |true=>match copyE Γ.ty M T c with
    |some (qs,m,b,E)=>K (qs++ps) (.i .i64 (m:Int)) ((b,E)::M)
    |none=>False
   |false=>match z9 b with
    |true=>match o.dst with
     |some d=>match zG M d with
      |none=>match appV Γ.ty T M c with
       |some (qs,n,es,leaf,k,M')=>match zG M' d with
        |none=>match aZH Γ.ty T M c with
         |none=>∀c',n<=c'->K (qs++ps) (.sl d 0 0 n c') ((d,.mem true (zmE (c'-n) es) [(zmE n es,leaf)])::xn k M')
         |some (qe,m,v,Me)=>zB (0<m) (∀c',n<=c'->K (qs++ps) (.sl d 0 0 n c') ((d,.mem true (zmE (c'-n) es) [(zmE n es,leaf)])::xn k M')) (K (qe++ps) v Me)
        |some _=>False
       |none=>match aZG Γ.ty T M c with
        |some (qs,n,cp,b,E,M')=>K (qs++ps) (.sl b 0 0 n cp) ((b,E)::M')
        |none=>False
      |some _=>False
     |none=>False
    |false=>match fo Γ.ty T M o.op with
     |some (qs,v)=>K (qs++ps) v M
     |none=>match aQ1 b with
      |true=>match o.dst with
       |none=>match aIF Γ.ty M T c with
        |some (qs,a,E)=>K (qs++ps) .und ((a,E)::M)
        |none=>False
       |some _=>False
      |false=>False
  |_=>False
 |op=>match fo Γ.ty T M op with
  |some (qs,v)=>K (qs++ps) v M
  |none=>match aXI Γ.ty T op with
   |some n=>∀p:Prop,(0<n->¬p)->K ps (.bool p) M
   |none=>False
def zgS (all:List Oper) (j:Nat):Option Nat:=
 match all[j]? with
 |some o=>o.dst
 |none=>none
def aEH (Γ:Cfg) (all:List Oper) (o:Oper) (rest:Tm->Mm->List Prop->(Tm->Mm->Prop)->Prop) (T:Tm) (M:Mm) (ps:List Prop) (K:Tm->Mm->Prop):Prop:=
 match o.guard with
  |none=>bp Γ o T M ps λqs v M'=>zfP qs λqs=>zfV v λv=>rest (zt o.dst v T) M' qs K
  |some (j,want)=>match zgS all j with
   |none=>False
   |some d=>match zX T d with
    | .tt=>match want with
     |true=>bp Γ o T M ps λqs v M'=>zfP qs λqs=>zfV v λv=>rest (zt o.dst v T) M' qs K
     |false=>rest (zt o.dst (.tup []) T) M ps K
    | .ff=>match want with
     |false=>bp Γ o T M ps λqs v M'=>zfP qs λqs=>zfV v λv=>rest (zt o.dst v T) M' qs K
     |true=>rest (zt o.dst (.tup []) T) M ps K
    | .bool p=>match want with
     |true=>zwP ps (zB p (bp Γ o ((d,.tt)::T) M [] λqs v M'=>zfP qs λqs=>zfV v λv=>rest (zt o.dst v ((d,.tt)::T)) M' qs K) (rest (zt o.dst (.tup []) ((d,.ff)::T)) M [] K))
     |false=>zwP ps (zB p (rest (zt o.dst (.tup []) ((d,.tt)::T)) M [] K) (bp Γ o ((d,.ff)::T) M [] λqs v M'=>zfP qs λqs=>zfV v λv=>rest (zt o.dst v ((d,.ff)::T)) M' qs K))
    | .tup []=>rest (zt o.dst (.tup []) T) M ps K
    |_=>False
def aY6 (T:Tm) (M:Mm) (ps:List Prop) (K:Tm->Mm->Prop):Prop:=zwP ps (K T M)
def jh (Γ:Cfg) (all:List Oper) (l:List Oper) (T:Tm) (M:Mm) (ps:List Prop) (K:Tm->Mm->Prop):Prop:=
 match l with
 |[]=>aY6 T M ps K
 |o::r=>aEH Γ all o (jh Γ all r) T M ps K
theorem bm (h:bif b then A else B):(b=true/\A)\/(b=false/\B):=by
 cases b with
 |true=>exact Or.inl ⟨rfl,h⟩
 |false=>exact Or.inr ⟨rfl,h⟩
theorem aB4 (h:zF ρ M w) (ha:zG M a=some (.mem true sp ls)) (hpos:0<zL ls+sp) (q:Nat)
  (ut:P.underlying t=some (.slice e)) (ue:P.underlying e=some (.int .u8)):
  ∃w',(convert t t (.slice (some ⟨(ρ.pos a).1,q,none⟩) n c)).run P w= .ok (.slice (some ⟨(ρ.pos a).1,q,none⟩) n c) w'/\zF ρ M w'/\aV ρ M ρ M w w':=by
 obtain⟨cs,c1,c2,c3,c4⟩:=h.sat a _ ha;obtain⟨⟨v0,hv0⟩,hh⟩:=c4 rfl 0 hpos;have hlt:(ρ.pos a).1<w.heap.size:=c2.1 (by simp only[if_true];omega);obtain⟨C,E,lo,hi,hb⟩:∃C E lo hi,w.heap[(ρ.pos a).1]? =some (.cells C E (lo,hi)):=by
  unfold World.cell? at hv0;simp only at hv0;cases hb:w.heap[(ρ.pos a).1]? with
  |none=>rw[hb]at hv0;cases hv0
  |some x=>
   rw[hb]at hv0;cases x
   case cells C E fz=>exact⟨C,E,fz.1,fz.2,rfl⟩
   all_goals cases hv0
 have hfz:lo=hi\/C.size<=lo:=by
  unfold iO at hh;simp only[hb,Bool.not_eq_false',Bool.or_eq_true,beq_iff_eq]at hh;exact hh.imp id Nat.le_of_ble_eq_true
 have hsh:w.shape? (ρ.pos a).1=some (E,C.size):=by unfold World.shape?;rw[hb]
 refine⟨w.freeze ⟨(ρ.pos a).1,C.size,none⟩ 1,?_,?_⟩
 .simp[convert,zru ut,zru ue,markStringish,hsh]
 generalize hw:w.freeze ⟨(ρ.pos a).1,C.size,none⟩ 1=w';have hheap:∀k:Nat,w'.heap[k]? =if k=(ρ.pos a).1 then some (.cells C E (if lo==hi then(C.size,C.size+1)else(min lo C.size,max hi (C.size+1))))else w.heap[k]?:=by
  intro k;rw[<-hw];unfold World.freeze;rw[if_neg (by decide)];simp only[Array.getElem?_modify];by_cases hk:k=(ρ.pos a).1
  .subst hk
   rw[if_pos rfl,if_pos rfl,hb];rfl
  rw[if_neg (λe=>hk e.symm),if_neg hk]
 have hsz:w'.heap.size=w.heap.size:=by
  rw[<-hw];unfold World.freeze;rw[if_neg (by decide)];simp
 have hos:w'.os=w.os/\w'.output=w.output:=by
  rw[<-hw];unfold World.freeze;rw[if_neg (by decide)];exact⟨rfl,rfl⟩
 have hcell:∀k o,w'.cell? ⟨k,o,none⟩=w.cell? ⟨k,o,none⟩:=by
  intro k o;unfold World.cell?;simp only[hheap];by_cases hk:k=(ρ.pos a).1
  .subst hk;rw[if_pos rfl,hb]
  rw[if_neg hk]
 have hhard:∀k o,iO w' ⟨k,o,none⟩=iO w ⟨k,o,none⟩:=by
  intro k o;unfold iO;simp only[hheap];by_cases hk:k=(ρ.pos a).1
  .subst hk
   rw[if_pos rfl,hb];have e1:(!(lo==hi||Nat.ble C.size lo))=false:=by
    rcases hfz with h|h
    .simp[h]
    simp[Nat.ble_eq_true_of_le h]
   simp only[e1];by_cases hl:lo=hi
   .simp[hl]
   have:(lo==hi)=false:=by simpa using hl
   have hle:C.size<=lo:=hfz.resolve_left hl;simp only[this,Bool.false_eq_true,if_false];rw[Nat.min_eq_right hle];simp
  rw[if_neg hk]
 refine⟨⟨h.dom,h.mod,λb e he=>mB.of_same (Env.le_refl _) (Nat.le_of_eq hsz.symm) (λk o _=>⟨hcell k o,hhard k o⟩) (λk hk hf=>?_) (h.sat b e he),h.sep,λb o ls hi=>(h.imm b o ls hi).keep (λ_ _ _ h=>h) (Nat.le_of_eq hsz.symm) (λj _=>hcell _ _),h.isep⟩,
  ⟨Nat.le_of_eq hsz.symm,hos.1,hos.2,λb hb' hn=>?_,λb o _ _=>⟨hcell b o,hhard b o⟩,λ_ _ _ h=>h,λ_ _ _ h=>Or.inl h⟩⟩
 .rw[hheap,if_neg]
  intro hka;subst hka;by_cases hba:b=a
  .subst hba
   rw[ha]at he;obtain rfl:Ent.mem true sp ls=e:=by simpa using he
   obtain⟨_,_,f3⟩:=hf ((ρ.pos b).2+(zL ls+sp));simp only[if_true]at f3;omega
  exact h.sep a b _ e ha he (λe=>hba e.symm) rfl _ (ρ.pos a).2 ⟨rfl,le_refl _,by simp only[if_true];omega⟩ (hf _)
 rw[hheap,if_neg];intro hk;exact hn (ρ.pos a).2 ⟨a,_,ha,rfl,hk,le_refl _,by simp only[if_true];omega⟩
theorem aBA {Γ:Ctx} {N:Nat} {ρ:Env} {T:Tm} {M:Mm} {a:Act} {w:World} (hc:aZ N ρ T M a w) {d s t e:Nat} (hd:zG M d=none) (hk:(Γ.ty t).k= .slice e) {x:Operand} {l:List UInt8} (h:aO9 Γ.ty s e (ev T x)=some l):
  ∃w' ρ' c',l.length<=c'/\(convert s t (a.eval x)).run Γ.P w= .ok (.slice (some ⟨w.heap.size,0,none⟩) l.length c') w'/\ρ.le ρ'/\zF ρ' ((d,.mem true (c'-l.length) [(l.length,.a8 l)])::M) w'/\
   aV ρ M ρ' ((d,.mem true (c'-l.length) [(l.length,.a8 l)])::M) w w'/\zRT ρ' (.sl d 0 0 l.length c') (.slice (some ⟨w.heap.size,0,none⟩) l.length c'):=by
 unfold aO9 at h;split at h
 .rename_i hs
  split at h
  .rename_i he
   split at h
   .rename_i l' hv
    simp only[zoI]at h;subst h;have hr:=zev hc x;rw[hv]at hr;have hx:a.eval x= .string ⟨l'.toArray⟩:=hr;have us:=bS (Γ.ok (t:=s) (by rw[hs];simp)) hs;have ut:=zus (Γ.ok (t:=t) (by rw[hk];simp)) hk;have ue:=ia (Γ.ok (t:=e) (by rw[he];simp)) he;have hrun:=Lib.run_convert_string_bytes (P:=Γ.P) w s t e ⟨l'.toArray⟩ us ut ue;have hsz:(⟨l'.toArray⟩:ByteArray).size=l'.length:=by simp[ByteArray.size]
    rw[hsz]at hrun;have hge:=grownCap_ge w l'.length 0 e;have hbs:(Lib.bytesCells w e ⟨l'.toArray⟩).size=grownCap w l'.length 0 e:=by
     simp only[Lib.bytesCells,hsz];simp;omega
    have hg:eW w (Lib.bytesWorld w e ⟨l'.toArray⟩):=⟨by rw[Lib.bytesWorld_size];omega,rfl,rfl,λb hb=>Lib.bytesWorld_at_old w e _ b hb⟩;have hnew:=Lib.bytesWorld_at_new w e ⟨l'.toArray⟩
    obtain⟨k1,k2,k3⟩:=hc.tozF.fresh hg (by rw[Lib.bytesWorld_size];omega) (d:=d) hd (cs:=l'.map w8) (ls:=[(l'.length,.a8 l')]) (sp:=grownCap w l'.length 0 e-l'.length)
     ⟨_,[],(append_nil _).symm,by simp,rfl,rfl⟩ (λj v hj=>by
      have hlt:j<l'.length:=by simpa using(List.getElem?_eq_some_iff.1 hj).1
      have:=Lib.bytesWorld_cell w e ⟨l'.toArray⟩ j (by rw[hsz];exact hlt);rw[this];rw[List.getElem?_map,List.getElem?_eq_getElem hlt]at hj;simp only[Option.map_some,zoI]at hj;rw[<-hj];simp[w8,List.getD,hlt]) (λj hj=>by
      have hlt:j<grownCap w l'.length 0 e:=by simp only[List.length_map]at hj;omega
      refine⟨⟨(Lib.bytesCells w e ⟨l'.toArray⟩)[j]'(by omega),?_⟩,?_⟩
      .simp only[World.cell?,hnew]
       simp[hbs,hlt]
      simp only[iO,hnew];simp[hbs])
    refine⟨_,_,_,hge,by rw[hx];exact hrun,k1,k2,k3,zR ⟨Or.inl rfl,hge,_,rfl,λ_=>?_⟩⟩;simp[Env.addr,Env.add]
   cases h
  cases h
 cases h
theorem rR (t:TypeId) (x:Value):(newVar t x).run P w= .ok ⟨w.heap.size,0,none⟩ (w.alloc (.cells x.cells t)):=rfl
theorem x7 (hc:aZ N ρ T M a w):∀l:List Operand,iR ρ (evL T l) (l.map a.eval)
 |[]=>rfl
 |x::r=>⟨_,_,rfl,zev hc x,x7 hc r⟩
theorem jF:∀{l1 l2:List SV} {x1 x2:List Value},iR ρ l1 x1->iR ρ l2 x2->iR ρ (l1++l2) (x1++x2)
 |[],_,_,_,h1,h2=>by simp only[iR]at h1;subst h1;simpa using h2
 |_::_,_,_,_,⟨x,ys,e,h,hr⟩,h2=>⟨x,ys++_,by rw[e];rfl,h,jF hr h2⟩
theorem tX:∀{cap:List (Nat×Nat)},(∀p∈cap,ρ.dom p.1)->iR ρ (aWK cap) (cap.map λp=>Value.pointer (some (ρ.addr p.1 p.2 0)))
 |[],_=>rfl
 |(a,f)::r,h=>⟨_,_,rfl,zR ⟨h (a,f) (by simp),rfl⟩,tX λp hp=>h p (by simp[hp])⟩
def dZ (N:Nat) (ρ:Env) (M:Mm) (w:World) (K:Tm->Mm->Prop):Act->World->Prop:=
 λa' w'=>∃ρ' T' M',K T' M'/\ρ.le ρ'/\aZ N ρ' T' M' a' w'/\aV ρ M ρ' M' w w'
theorem aB2 {Γ:Cfg} {g:Nat} (h:eY g Γ.calls=true):∃fn,Γ.P.funcs[g]? =some fn∧(fn.name== "runtime.NumGoroutine")=false∧fn.body.isNone=false:=by
 have:=List.all_eq_true.1 Γ.callsOK g (zmi.1 h);unfold aOJ at this;split at this
 .rename_i fn hfn
  simp only[zbA,not_eq_true']at this;refine⟨fn,hfn,this.1,?_⟩;cases hb:fn.body with
  |none=>rw[hb]at this;simp at this
  |some c=>rfl
 cases this
theorem iQ {Γ:Cfg} {N:Nat} {ρ:Env} {T:Tm} {M:Mm} {a:Act} {w:World} (hc:aZ N ρ T M a w) {o:Oper} (hd:∀d,o.dst=some d->d<N)
  {ps:List Prop} {K:List Prop->SV->Mm->Prop} (hK:∀qs v M',K qs v M'->All qs) (h:bp Γ o T M ps K) {Q:Exit->Act->World->Prop}:
  o.wp Γ.P a w (dZ N ρ M w λT' M'=>∃qs v,K qs v M'/\T'=zt o.dst v T) Q:=by
 have pure:∀{op:Op} {qs v},o.op=op->fo Γ.ty T M op=some (qs,v)->K (qs++ps) v M->o.wp Γ.P a w (dZ N ρ M w λT' M'=>∃qs v,K qs v M'/\T'=zt o.dst v T) Q:=by
  intro op qs v ho hp hk;subst ho;obtain⟨x,hx,hr⟩:=nb hc hp (hK _ _ _ hk).left;unfold Oper.wp;rw[hr];show dZ N ρ M w _ (a.put o.dst x) w;refine⟨ρ,zt o.dst v T,M,⟨_,v,hk,rfl⟩,Env.le_refl _,?_,aV.refl _ _ _⟩;cases hdst:o.dst with
  |none=>exact hc.put_none x
  |some d=>exact hc.put (hd d hdst) hx
 have fresh:∀{d:Nat} {ls:List (Nat×SV)} {x:Value} {t:TypeId} {qs:List Prop},o.dst=some d->zG M d=none->zC ρ ls x.cells.toList->K qs (.ptr d 0 none) ((d,.mem true 0 ls)::M)->
   (execOp a.eval o).run Γ.P w= .ok (.value (.pointer (some ⟨w.heap.size,0,none⟩))) (w.alloc (.cells x.cells t))->o.wp Γ.P a w (dZ N ρ M w λT' M'=>∃qs v,K qs v M'/\T'=zt o.dst v T) Q:=by
  intro d ls x t qs hdst hm hcs hk hr;obtain⟨h1,h2,h3⟩:=hc.tozF.alloc (t:=t) (sp:=0) hm hcs (λj v hj=>by simpa using hj) (by simp);unfold Oper.wp;rw[hr];show dZ N ρ M w _ (a.put o.dst _) _;refine⟨_,zt o.dst (.ptr d 0 none) T,_,⟨qs,_,hk,rfl⟩,h1,?_,h3⟩;rw[hdst];refine(hc.of_mem h1 h2).put (hd d hdst) (zR ⟨Or.inl rfl,?_⟩);simp[Env.addr,Env.add]
 have made:∀{d:Nat} {x:Value} {w':World} {ρ':Env} {qs:List Prop} {v:SV} {M':Mm},o.dst=some d->(execOp a.eval o).run Γ.P w= .ok (.value x) w'->ρ.le ρ'->zF ρ' M' w'->aV ρ M ρ' M' w w'->zRT ρ' v x->K qs v M'->
   o.wp Γ.P a w (dZ N ρ M w λT' M'=>∃qs v,K qs v M'/\T'=zt o.dst v T) Q:=by
  intro d x w' ρ' qs v M' hdst hr hle hM' hst hx hk;unfold Oper.wp;rw[hr];show dZ N ρ M w _ (a.put o.dst x) w';refine⟨ρ',zt o.dst v T,M',⟨qs,v,hk,rfl⟩,hle,?_,hst⟩;rw[hdst];exact(hc.of_mem hle hM').put (hd d hdst) hx
 have stored:∀{t:TypeId} {ad x:Operand} {b q sp:Nat} {ls l:List (Nat×SV)} {qs:List Prop},o.op= .store t ad x->o.dst=none->(Γ.ty t).k≠ .bad->zG M b=some (.mem true sp ls)->
   a.eval ad= .pointer (some ⟨(ρ.pos b).1,(ρ.pos b).2+q,none⟩)->zL l=zL ls->
   (∀cs,zC ρ ls cs->q+(Γ.ty t).size<=cs.length/\(a.eval x).cells.size=(Γ.ty t).size/\(∀z∈(a.eval x).cells.toList,one z)/\zC ρ l (cs.take q++(a.eval x).cells.toList++cs.drop (q+(Γ.ty t).size)))->
   K qs .und ((b,.mem true sp l)::M)->o.wp Γ.P a w (dZ N ρ M w λT' M'=>∃qs v,K qs v M'/\T'=zt o.dst v T) Q:=by
  intro t ad x b q sp ls l qs hop hdst hk hm hv q4 hst hkk;obtain⟨cs,c1,c2,c3,c4⟩:=hc.sat b _ hm;obtain⟨q1,q2,q3,q5⟩:=hst cs c1;have hlen:=c1.length;have hxl:(a.eval x).cells.toList.length=(Γ.ty t).size:=by simpa using q2
  have c4:=c4 rfl
  obtain⟨w',hr,hw⟩:=bw (P:=Γ.P) (b:=(ρ.pos b).1) (o:=(ρ.pos b).2+q) (a.eval x).cells.toList 0 w q3 (λj hj=>by
   have:=c4 (q+j) (by omega);rw[show(ρ.pos b).2+q+(0+j)=(ρ.pos b).2+(q+j) by omega];exact this)
  rw[add_zero]at hw;have hrun:(execOp a.eval o).run Γ.P w= .ok .skip w':=by
   simp only[execOp,hop,Instr.storeAt,run_bind,hv,Instr.sureAddr,run_pure,andThen_ok,storeVar,aT (Γ.ok hk),q2,ne_eq,not_true,if_false];rw[hr];rfl
  obtain⟨m1,m2⟩:=hc.tozF.write (sp':=sp) hm hw (by omega) q5 (by omega) (λcs' d1 d2 j v hj=>by
   have e0:cs'=cs\/True:=Or.inr trivial;have hl':=d1.length;have hin:∀j,¬(q<=j/\j<q+(Γ.ty t).size)->w'.cell? ⟨(ρ.pos b).1,(ρ.pos b).2+j,none⟩=w.cell? ⟨(ρ.pos b).1,(ρ.pos b).2+j,none⟩:=by
    intro j hn;refine hw.old _ _ (λ_=>?_);omega
   rcases lt_or_ge j q with hlt|hge
   .rw[append_assoc,List.getElem?_append_left (by rw[zlT];omega),List.getElem?_take,if_pos hlt]at hj
    rw[hin j (by omega)];exact c3 j v hj
   rcases lt_or_ge j (q+(Γ.ty t).size)with hlt2|hge2
   .rw[append_assoc,List.getElem?_append_right (by rw[zlT];omega),List.getElem?_append_left (by rw[zlT];omega),zlT,min_eq_left (by omega)]at hj
    have:=hw.new (j-q) v hj;rw[show(ρ.pos b).2+q+(j-q)=(ρ.pos b).2+j by omega]at this;exact this
   rw[List.getElem?_append_right (by simp only[zlA,zlT];omega),List.getElem?_drop]at hj;simp only[zlA,zlT,hxl]at hj;rw[show q+(Γ.ty t).size+(j-(min q cs.length+(Γ.ty t).size))=j by omega]at hj;rw[hin j (by omega)];exact c3 j v hj)
  unfold Oper.wp;rw[hrun];show dZ N ρ M w _ (a.put o.dst undef) w';rw[hdst];exact⟨ρ,T,_,⟨_,.und,hkk,rfl⟩,Env.le_refl _,(hc.of_mem (Env.le_refl _) m1).put_none _,m2⟩
 unfold bp at h;split at h
 .-- alloc
  rename_i t hop;split at h
  .rename_i d hdst
   split at h
   .rename_i hm
    split at h
    .exact h.elim
    rename_i hk;split at h
    .exact h.elim
    rename_i hz;obtain⟨z,hz1,hz2,hz3,_⟩:=kf (w:=w) (Γ.ok hk) hz;refine fresh hdst hm (x:=z) (t:=t) (by rw[hz2];exact zzc ρ hz3) h ?_;simp only[execOp,hop,Instr.alloc,run_bind,hz1,andThen_ok,rR,run_pure]
   exact h.elim
  exact h.elim
 .-- box
  rename_i t x hop;split at h
  .rename_i d hdst
   split at h
   .rename_i hm
    split at h
    .rename_i ps ls hl
     refine fresh hdst hm (x:=a.eval x) (t:=t) (b9 (zev hc x) hl (hK _ _ _ h).left) h ?_;simp only[execOp,hop,Instr.box,run_bind,andThen_ok,rR,run_pure]
    exact h.elim
   exact h.elim
  exact h.elim
 .-- store
  rename_i t ad x hop;split at h
  .rename_i hdst
   split at h
   .rename_i b f i he
    split at h
    .rename_i sp ls hm
     split at h
     .exact h.elim
     rename_i hk;split at h
     .rename_i ps l hs
      have hr:=zev hc ad;rw[he]at hr;obtain⟨_,hv⟩:=hr;obtain⟨cs,c1,_⟩:=hc.sat b _ hm;obtain⟨_,_,_,q4,_⟩:=fl c1 (zev hc x) hs (hK _ _ _ h).left;refine stored (q:=f+i.getD 0) hop hdst hk hm (by rw[hv,aN]) q4 (λcs hcs=>?_) h;obtain⟨q1,q2,q3,_,q5⟩:=fl hcs (zev hc x) hs (hK _ _ _ h).left;exact⟨q1,q2,q3,q5⟩
     exact h.elim
    exact h.elim
   .rename_i b f q s he
    split at h
    .rename_i sp ls hm
     split at h
     .exact h.elim
     rename_i hk;split at h
     .rename_i ps l hs
      have hr:=zev hc ad;rw[he]at hr;obtain⟨_,hv⟩:=hr;obtain⟨cs,c1,_⟩:=hc.sat b _ hm;obtain⟨_,_,_,q4,_⟩:=nU c1 (zev hc x) hs (hK _ _ _ h).left;refine stored (q:=f+q*s) hop hdst hk hm (by rw[hv,aN]) q4 (λcs hcs=>?_) h;obtain⟨q1,q2,q3,_,q5⟩:=nU hcs (zev hc x) hs (hK _ _ _ h).left;exact⟨q1,q2,q3,q5⟩
     exact h.elim
    exact h.elim
   exact h.elim
  exact h.elim
 .-- make
  rename_i t l c hop;split at h
  .rename_i d hdst
   split at h
   .rename_i hm
    split at h
    .rename_i qs e v hv
     obtain⟨x,w',ρ',h1,h2,h3,h4,h5⟩:=xY (Γ:=Γ.toCtx) hc hm hv (hK _ _ _ h).left;exact made hdst (by simp only[execOp,hop,run_bind,h1,andThen_ok,run_pure]) h2 h3 h4 h5 h
    exact h.elim
   exact h.elim
  exact h.elim
 .-- a slice that is written out
  rename_i t len parts hop;rcases bm h with⟨hn,h⟩|⟨_,h⟩
  .split at h
   .rename_i d hdst
    split at h
    .rename_i hm
     split at h
     .rename_i qs e v hv
      obtain⟨x,w',ρ',h1,h2,h3,h4,h5⟩:=aIM (Γ:=Γ.toCtx) hc hm hv (hK _ _ _ h).left (λh0=>by
       subst h0;unfold xP at hn;split at hn
       .rename_i hp0;split at hn
        .assumption
        cases hn
       rename_i hne;exact absurd rfl hne)
      refine made hdst ?_ h2 h3 h4 h5 h;have:parts.map (λ(p:Nat×Operand)=>(p.1,a.eval p.2))=(parts.toList.map λ(p:Nat×Operand)=>(p.1,a.eval p.2)).toArray:=by
       apply ext';simp
      simp only[execOp,hop,run_bind,this,h1,andThen_ok,run_pure]
     exact h.elim
    exact h.elim
   exact h.elim
  exact h.elim
 .-- a map
  rename_i t r hop;split at h
  .split at h
   .rename_i d hdst
    split at h
    .rename_i hm
     obtain⟨h1,h2,h3⟩:=hc.tozF.allocMap hm;refine made (x:=.map (some w.heap.size)) hdst ?_ h1 h2 h3 (zR (v:=.mp d) ⟨Or.inl rfl,?_⟩) h
     .simp only[execOp,hop,Option.map_none,Instr.makeMap,run_bind,run_pure,andThen_ok]
      rfl
     simp[Env.add]
    exact h.elim
   exact h.elim
  exact h.elim
 .-- a string's number is laid into a map
  rename_i t x k v hop;split at h
  .rename_i hdst
   split at h
   .rename_i qs b l hv
    obtain⟨w',h1,h2,h3⟩:=aBM (Γ:=Γ.toCtx) hc hv (hK _ _ _ h).left;unfold Oper.wp;have hrun:(execOp a.eval o).run Γ.P w= .ok .skip w':=by
     simp only[execOp,hop,run_bind,h1,andThen_ok,run_pure]
    rw[hrun];show dZ N ρ M w _ (a.put o.dst undef) w';rw[hdst];exact⟨ρ,T,_,⟨_,.und,h,rfl⟩,Env.le_refl _,(hc.of_mem (Env.le_refl _) h2).put_none _,h3⟩
   exact h.elim
  exact h.elim
 .-- convert
  rename_i s t x hop;split at h
  .rename_i e hk
   split at h
   .rename_i e0 hk0
    split at h
    .rename_i v' hv'
     obtain⟨b,f,i,n,c,sp,ls,hx,rfl,hm,hst,hke,hn0,hpos⟩:=uw hv';subst hst;have hr:=zev hc x;rw[hx]at hr;obtain⟨hdom,hnc,y,hv,hy⟩:=hr;have hy:=hy (by omega);subst hy;have us:=zus (Γ.ok (t:=s) (by rw[hk];simp)) hk;have ue:=ia (Γ.ok (t:=e) (by rw[hke];simp)) hke;obtain⟨w',h1,h2,h3⟩:=aB4 hc.tozF hm hpos ((ρ.pos b).2+(f+i)) (n:=n) (c:=c) us ue;have hrun:(execOp a.eval o).run Γ.P w= .ok (.value (.slice (some (ρ.addr b f i)) n c)) w':=by
      simp only[execOp,hop,run_bind,hv];have:(convert s s (.slice (some (ρ.addr b f i)) n c)).run Γ.P w= .ok (.slice (some (ρ.addr b f i)) n c) w':=h1;rw[this];simp only[andThen_ok,run_pure]
     unfold Oper.wp;rw[hrun];show dZ N ρ M w _ (a.put o.dst _) w';refine⟨ρ,zt o.dst (.sl b f i n c) T,M,⟨_,_,h,rfl⟩,Env.le_refl _,?_,h3⟩;have hx':zRT ρ (.sl b f i n c) (.slice (some (ρ.addr b f i)) n c):=zR ⟨hdom,hnc,_,rfl,λ_=>rfl⟩;cases hdst:o.dst with
     |none=>exact(hc.of_mem (Env.le_refl _) h2).put_none _
     |some d=>exact(hc.of_mem (Env.le_refl _) h2).put (hd d hdst) hx'
    exact h.elim
   split at h
   .rename_i d hdst
    split at h
    .rename_i hm
     split at h
     .rename_i l hl
      obtain⟨w',ρ',c',hn,h1,h2,h3,h4,h5⟩:=aBA (Γ:=Γ.toCtx) hc hm hk hl;exact made hdst (by simp only[execOp,hop,run_bind,h1,andThen_ok,run_pure]) h2 h3 h4 h5 (h c' hn)
     exact h.elim
    exact h.elim
   exact h.elim
  split at h
  .rename_i qs v hv
   exact pure rfl hv h
  exact h.elim
 .-- call
  rename_i c hop;split at h
  .rename_i f hcal
   split at h
   .rename_i g cap he
    have hr:=zev hc f;rw[he]at hr;obtain⟨hcap,hv⟩:=hr;cases hmem:eY g Γ.calls with
    |false=>
     rw[hmem,zcF]at h;split at h
     .rename_i qs v hv'
      have hargs:=jF (x7 hc c.args.toList) (tX hcap);obtain⟨x,hx,hrun⟩:=aCG hv' (hK _ _ _ h).left hargs w;have hex:(execOp a.eval o).run Γ.P w= .ok (.value x) w:=by
       have e1:c.args.map a.eval++(cap.map λp=>Value.pointer (some (ρ.addr p.1 p.2 0))).toArray=((c.args.toList.map a.eval)++(cap.map λp=>Value.pointer (some (ρ.addr p.1 p.2 0)))).toArray:=by
        apply ext';simp
       simp only[execOp,hop,resolve,hcal,hv,Deferred.ofValue,run_bind,run_pure,andThen_ok,invoke];simp only[Array.empty_append,e1];exact hrun
      unfold Oper.wp;rw[hex];show dZ N ρ M w _ (a.put o.dst x) w;refine⟨ρ,zt o.dst v T,M,⟨_,v,h,rfl⟩,Env.le_refl _,?_,aV.refl _ _ _⟩;cases hdst:o.dst with
      |none=>exact hc.put_none x
      |some d=>exact hc.put (hd d hdst) hx
     exact h.elim
    |true=>
     rw[hmem,zcT]at h;obtain⟨fn,hfn,hname,hbody⟩:=aB2 hmem;have hargs:=jF (x7 hc c.args.toList) (tX hcap);have hcall:=yG hc.tozF hargs (zwP.rest h).out;have hrun:(execOp a.eval o).run Γ.P w= .ok (.enter g ((c.args.toList.map a.eval)++(cap.map λp=>Value.pointer (some (ρ.addr p.1 p.2 0)))).toArray) w:=by
      have e1:c.args.map a.eval=(c.args.toList.map a.eval).toArray:=by apply ext';simp
      simp only[execOp,hop,resolve,hcal,hv,Deferred.ofValue,run_bind,run_pure,andThen_ok,invoke,callFunc,run_program,hfn,hname,hbody,Bool.false_eq_true,if_false];congr 2;rw[e1];simp
     unfold Oper.wp;rw[hrun];show Calls Γ.P g _ w _;refine hcall.mono ?_;rintro e w' ⟨v,x,ρ',M',rfl,hx,hk,hle,hM',hst⟩;show dZ N ρ M w _ (a.put o.dst x) w';refine⟨ρ',zt o.dst v T,M',⟨[],v,by rw[gm]at hk;exact hk,rfl⟩,hle,?_,hst⟩;cases hdst:o.dst with
     |none=>exact(hc.of_mem hle hM').put_none x
     |some d=>exact(hc.of_mem hle hM').put (hd d hdst) hx
   exact h.elim
  .rename_i b hcal
   split at h
   .rename_i hb
    split at h
    .rename_i qs m b' E he
     have hbc:b= .copy:=by cases b<;>first|rfl|cases hb
     subst hbc;obtain⟨w',hrun,hM',hst⟩:=yD (Γ:=Γ.toCtx) hc he (hK _ _ _ h).left o.type;have hex:(execOp a.eval o).run Γ.P w= .ok (.value (.int .i64 (m:Int))) w':=by
      simp only[execOp,hop,resolve,hcal,run_bind,run_pure,andThen_ok,invoke];exact hrun
     unfold Oper.wp;rw[hex];show dZ N ρ M w _ (a.put o.dst _) w';refine⟨ρ,zt o.dst (.i .i64 (m:Int)) T,_,⟨_,_,h,rfl⟩,Env.le_refl _,?_,hst⟩;have hc':=hc.of_mem (Env.le_refl _) hM';cases hdst:o.dst with
     |none=>exact hc'.put_none _
     |some d=>exact hc'.put (hd d hdst) (zR rfl)
    exact h.elim
   split at h
   .rename_i hb
    split at h
    .rename_i d hdst
     split at h
     .rename_i hm
      split at h
      .rename_i qs n es leaf k M' hap
       split at h
       .rename_i hm'
        have hba:b= .append:=by cases b<;>first|rfl|cases hb
        subst hba;have go:(∀c',n<=c'->K (qs++ps) (.sl d 0 0 n c') ((d,.mem true (zmE (c'-n) es) [(zmE n es,leaf)])::xn k M'))->o.wp Γ.P a w (dZ N ρ M w λT' M'=>∃qs v,K qs v M'/\T'=zt o.dst v T) Q:=by
         intro h;obtain⟨x,w',ρ',c',h1,hn,h2,h3,h4,h5⟩:=aC3 (Γ:=Γ.toCtx) hc hm hap (hK _ _ _ (h n (le_refl _))).left hm' o.type
         exact made hdst (by
          simp only[execOp,hop,resolve,hcal,run_bind,run_pure,andThen_ok,invoke];show(Builtin.append_ c.argTypes o.type (c.args.map a.eval)>>=λv=>Pure.pure (Next.value v):Sem Next).run Γ.P w=_;simp only[run_bind,h1,andThen_ok,run_pure]) h2 h3 h4 h5 (h c' hn)
        split at h
        .exact go h
        rename_i qe m v Me he;by_cases h0:0<m
        .exact go (h.yes h0)
        have h:=h.no h0;obtain⟨x,ρ',h1,h2,h3,h4,h5⟩:=aC5 (Γ:=Γ.toCtx) hc he (hK _ _ _ h).left (by omega) o.type
        exact made hdst (by
         simp only[execOp,hop,resolve,hcal,run_bind,run_pure,andThen_ok,invoke];show(Builtin.append_ c.argTypes o.type (c.args.map a.eval)>>=λv=>Pure.pure (Next.value v):Sem Next).run Γ.P w=_;simp only[run_bind,h1,andThen_ok,run_pure]) h2 h3 h4 h5 h
       exact h.elim
      split at h
      .rename_i qs n cp b2 E M' hap
       have hba:b= .append:=by cases b<;>first|rfl|cases hb
       subst hba;obtain⟨x,w',ρ',h1,h2,h3,h4,h5⟩:=aC4 (Γ:=Γ.toCtx) hc hap (hK _ _ _ h).left o.type
       exact made hdst (by
        simp only[execOp,hop,resolve,hcal,run_bind,run_pure,andThen_ok,invoke];show(Builtin.append_ c.argTypes o.type (c.args.map a.eval)>>=λv=>Pure.pure (Next.value v):Sem Next).run Γ.P w=_;simp only[run_bind,h1,andThen_ok,run_pure]) h2 h3 h4 h5 h
      exact h.elim
     exact h.elim
    exact h.elim
   split at h
   .rename_i ps v hp
    exact pure rfl hp h
   split at h
   .rename_i hb
    split at h
    .rename_i hdst
     split at h
     .rename_i qs a' E he
      have hbc:b= .clear:=by cases b<;>first|rfl|cases hb
      subst hbc;obtain⟨w',hrun,hM',hst⟩:=vh (Γ:=Γ.toCtx) hc he (hK _ _ _ h).left o.type;have hex:(execOp a.eval o).run Γ.P w= .ok (.value (.tuple #[])) w':=by
       simp only[execOp,hop,resolve,hcal,run_bind,run_pure,andThen_ok,invoke];show(Builtin.clear_ c.argTypes o.type (c.args.map a.eval)>>=λv=>Pure.pure (Next.value v):Sem Next).run Γ.P w=_;simp only[run_bind,hrun,andThen_ok,run_pure]
      unfold Oper.wp;rw[hex];show dZ N ρ M w _ (a.put o.dst _) w';refine⟨ρ,zt o.dst .und T,_,⟨_,_,h,rfl⟩,Env.le_refl _,?_,hst⟩;have hc':=hc.of_mem (Env.le_refl _) hM';rw[hdst];exact hc'.put_none _
     exact h.elim
    exact h.elim
   exact h.elim
  exact h.elim
 split at h
 .rename_i ps v hp
  exact pure rfl hp h
 split at h
 .rename_i n hn
  obtain⟨b,hb,hr⟩:=aB0 (Γ:=Γ.toCtx) hc rfl hn;have hk:=h (b=true) (λh0 hb'=>by rw[hb h0]at hb';cases hb');unfold Oper.wp;rw[hr];show dZ N ρ M w _ (a.put o.dst (.bool b)) w;refine⟨ρ,zt o.dst (.bool (b=true)) T,M,⟨_,_,hk,rfl⟩,Env.le_refl _,?_,aV.refl _ _ _⟩;have hx:zRT ρ (.bool (b=true)) (.bool b):=zR ⟨b,rfl,Iff.rfl⟩;cases hdst:o.dst with
  |none=>exact hc.put_none _
  |some d=>exact hc.put (hd d hdst) hx
 exact h.elim
theorem aH3 (hK:∀qs v M',K qs v M'->All qs) (h:bp Γ o T M ps K):All ps:=by
 unfold bp at h;split at h
 .repeat' (first|exact h.elim|exact hK _ _ _ h|split at h)
 .repeat' (first|exact h.elim|exact(hK _ _ _ h).right|split at h)
 .repeat' (first|exact h.elim|exact(hK _ _ _ h).right|split at h)
 .repeat' (first|exact h.elim|exact(hK _ _ _ h).right|split at h)
 .rcases bm h with⟨_,h⟩|⟨_,h⟩
  .repeat' (first|exact h.elim|exact(hK _ _ _ h).right|split at h)
  exact h.elim
 .repeat' (first|exact h.elim|exact hK _ _ _ h|split at h)
 .repeat' (first|exact h.elim|exact(hK _ _ _ h).right|split at h)
 .split at h
  .split at h
   .split at h
    .exact hK _ _ _ h
    exact h.elim
   split at h
   .split at h
    .split at h
     .exact hK _ _ _ (h _ (le_refl _))
     exact h.elim
    exact h.elim
   exact h.elim
  split at h
  .exact(hK _ _ _ h).right
  exact h.elim
 .split at h
  .split at h
   .rename_i g cap _
    cases hm:eY g Γ.calls with
    |false=>
     rw[hm,zcF]at h;split at h
     .exact(hK _ _ _ h).right
     exact h.elim
    |true=>rw[hm]at h;exact zwP.all h
   exact h.elim
  .split at h
   .split at h
    .exact(hK _ _ _ h).right
    exact h.elim
   split at h
   .split at h
    .split at h
     .split at h
      .split at h
       .split at h
        .exact(hK _ _ _ (h _ (le_refl _))).right
        rename_i m _ _ _;by_cases h0:0<m
        .exact(hK _ _ _ (h.yes h0 _ (le_refl _))).right
        exact(hK _ _ _ (h.no h0)).right
       exact h.elim
      split at h
      .exact(hK _ _ _ h).right
      exact h.elim
     exact h.elim
    exact h.elim
   split at h
   .exact(hK _ _ _ h).right
   split at h
   .split at h
    .split at h
     .exact(hK _ _ _ h).right
     exact h.elim
    exact h.elim
   exact h.elim
  exact h.elim
 split at h
 .exact(hK _ _ _ h).right
 split at h
 .exact hK _ _ _ (h False (λ_=>id))
 exact h.elim
theorem gc:∀{l:List Oper} {T:Tm} {M:Mm} {ps:List Prop},jh Γ all l T M ps K->All ps
 |[],_,_,_,h=>zwP.all h
 |o::r,T,M,ps,h=>by
  unfold jh aEH at h;have e:∀{T':Tm} {qs:List Prop},(bp Γ o T' M qs λqs v M'=>zfP qs λqs=>zfV v λv=>jh Γ all r (zt o.dst v T') M' qs K)->All qs:=
   λh=>aH3 (λqs v M' hk=>gc (by rw[gl,i8]at hk;exact hk)) h
  split at h
  .exact e h
  split at h
  .exact h.elim
  split at h
  .split at h
   .exact e h
   exact gc h
  .split at h
   .exact e h
   exact gc h
  .split at h
   .exact zwP.all h
   exact zwP.all h
  .exact gc h
  exact h.elim
theorem rG (hc:aZ N ρ T M a w) (hd:zgS all j=some d) (hN:d<N)
  (hv:a.tmps.getD d undef= .bool b):yielded all.toArray a.tmps j=some b:=by
 unfold zgS at hd;unfold yielded;split at hd
 .rename_i o ho
  have h1:all.toArray[j]? =some o:=by simpa using ho
  have h2:a.tmps[d]? =some (.bool b):=by
   have:d<a.tmps.size:=by rw[hc.sz];exact hN
   rw[Array.getD_eq_getD_getElem?,Array.getElem?_eq_getElem this]at hv;rw[Array.getElem?_eq_getElem this]
   simpa using hv
  simp only[h1,Option.bind_some,hd,h2]
 cases hd
theorem rI (hg:o.guard=some (j,want)) (hd:zgS all j=some d) (hv:tmps.getD d undef= .tuple #[]):Region.wanted o (yielded all.toArray tmps)=false:=by
 have:yielded all.toArray tmps j=none:=by
  unfold zgS at hd;unfold yielded;split at hd
  .rename_i o' ho
   have h1:all.toArray[j]? =some o':=by simpa using ho
   simp only[h1,Option.bind_some,hd];rw[Array.getD_eq_getD_getElem?]at hv;cases hx:tmps[d]? with
   |none=>rfl
   |some x=>rw[hx,Option.getD_some]at hv;subst hv;rfl
  cases hd
 simp[Region.wanted,hg,this]
theorem aZ.know (hc:aZ N ρ T M a w) (h:zRT ρ v (a.tmps.getD d undef)):aZ N ρ ((d,v)::T) M a w where
 tozF:=hc.tozF
 sz:=hc.sz
 defers:=hc.defers
 tm e:=by
  by_cases he:e=d
  .subst he;rw[aK];exact h
  rw[aS he];exact hc.tm e
def iX (N:Nat):List Oper->Bool
 |[]=>true
 |o::r=>(match o.dst with
  |some d=>blt d N
  |none=>true)&&iX N r
theorem eN:∀{l:List Oper},iX N l=true->∀{o:Oper},o∈l->∀d,o.dst=some d->d<N
 |[],_,_,h,_,_=>by simp at h
 |o'::r,hn,o,h,d,hd=>by
  simp only[iX,zbA]at hn;rcases List.mem_cons.1 h with rfl|h
  .rw[hd]at hn;exact ay hn.1
  exact eN hn.2 h d hd
theorem dZ.mono (hk:∀T M,K T M->K' T M) (h:dZ N ρ M w K a w'):dZ N ρ M w K' a w':=by
 obtain⟨ρ',T',M',h1,h2⟩:=h;exact⟨ρ',T',M',hk _ _ h1,h2⟩
theorem dZ.trans (hle:ρ.le ρ1) (hst:aV ρ M ρ1 M1 w w1) (h:dZ N ρ1 M1 w1 K a w'):dZ N ρ M w K a w':=by
 obtain⟨ρ',T',M',h1,h2,h3,h4⟩:=h;exact⟨ρ',T',M',h1,Env.le_trans hle h2,h3,hst.trans h4⟩
theorem fm {Γ:Cfg} {N:Nat} {all:List Oper} (hall:iX N all=true) {K:Tm->Mm->Prop} {Q:Exit->Act->World->Prop}:∀(l:List Oper),(∀o∈l,o∈all)->
  ∀{ρ:Env} {T:Tm} {M:Mm} {a:Act} {w:World} {ps:List Prop},aZ N ρ T M a w->jh Γ all l T M ps K->(∀a' w',dZ N ρ M w K a' w'->Q .normal a' w')->wpList Γ.P all.toArray Q l a w
 |[],_,ρ,T,M,a,w,ps,hc,h,hQ=>hQ a w ⟨ρ,T,M,zwP.rest h,Env.le_refl _,hc,aV.refl _ _ _⟩
 |o::r,hin,ρ,T,M,a,w,ps,hc,h,hQ=>by
  have hmem:=hin o (by simp);have hdst:=eN hall hmem;have ih:=@fm Γ N all hall K Q r (λo ho=>hin o (by simp[ho]));have go:∀{T':Tm} {qs:List Prop},aZ N ρ T' M a w->Region.wanted o (yielded all.toArray a.tmps)=true->(bp Γ o T' M qs λqs v M'=>zfP qs λqs=>zfV v λv=>jh Γ all r (zt o.dst v T') M' qs K)->wpList Γ.P all.toArray Q (o::r) a w:=by
   intro T' qs hc' hw he;refine wpList_step λK' hK'=>?_;rw[if_pos hw];have:=iQ hc' hdst (λqs v M' hk=>gc (by rw[gl,i8]at hk;exact hk)) he (Q:=Q);refine Oper.wp_mono (λa' w' haf=>hK' a' w' ?_) this;obtain⟨ρ',T'',M',⟨qs',v,hk,rfl⟩,hle,hc'',hst⟩:=haf;rw[gl,i8]at hk;exact ih hc'' hk λa2 w2 h2=>hQ a2 w2 (h2.trans hle hst)
  have skip:∀{T':Tm} {qs:List Prop},aZ N ρ T' M a w->Region.wanted o (yielded all.toArray a.tmps)=false->jh Γ all r (zt o.dst (.tup []) T') M qs K->wpList Γ.P all.toArray Q (o::r) a w:=by
   intro T' qs hc' hw he;refine wpList_step λK' hK'=>?_;rw[if_neg (by rw[hw];simp)];refine hK' _ _ (ih (ρ:=ρ) (T:=zt o.dst (.tup []) T') ?_ he hQ);cases hd:o.dst with
   |none=>exact hc'.put_none _
   |some d=>exact hc'.put (hdst d hd) ⟨[],rfl,rfl⟩
  unfold jh aEH at h;split at h
  .rename_i hg
   exact go hc (by simp[Region.wanted,hg]) h
  rename_i j want hg;split at h
  .exact h.elim
  rename_i d hd;have hdN:d<N:=by
   unfold zgS at hd;split at hd
   .rename_i o' ho'
    exact eN hall (List.mem_of_getElem? ho') d hd
   cases hd
  have hw:∀{b:Bool},a.tmps.getD d undef= .bool b->Region.wanted o (yielded all.toArray a.tmps)=(b==want):=by
   intro b hb;have:=rG hc hd hdN hb;simp only[Region.wanted,hg,this];cases b<;>cases want<;>rfl
  have hT:=hc.tm d;split at h
  .rename_i he;rw[he]at hT
   have hb:a.tmps.getD d undef= .bool true:=hT;split at h
   .exact go hc (by rw[hw hb];rfl) h
   exact skip hc (by rw[hw hb];rfl) h
  .rename_i he;rw[he]at hT
   have hb:a.tmps.getD d undef= .bool false:=hT;split at h
   .exact go hc (by rw[hw hb];rfl) h
   exact skip hc (by rw[hw hb];rfl) h
  .rename_i p he;rw[he]at hT
   obtain⟨b,hb,hbp⟩:=hT;split at h
   .have h:=zwP.rest h
    cases b with
    |true=>exact go (hc.know (v:=.tt) (zR hb)) (by rw[hw hb];rfl) (h.yes (hbp.1 rfl))
    |false=>exact skip (hc.know (v:=.ff) (zR hb)) (by rw[hw hb];rfl) (h.no λhp=>by have:=hbp.2 hp;cases this)
   have h:=zwP.rest h;cases b with
   |true=>exact skip (hc.know (v:=.tt) (zR hb)) (by rw[hw hb];rfl) (h.yes (hbp.1 rfl))
   |false=>exact go (hc.know (v:=.ff) (zR hb)) (by rw[hw hb];rfl) (h.no λhp=>by have:=hbp.2 hp;cases this)
  .rename_i he;rw[he]at hT
   exact skip hc (rI hg hd (hT.elim λxs hx=>by have h1:=hx.1;have h2:=hx.2;simp only[nM]at h1;subst h1;exact h2)) h
  exact h.elim
end Go.Sx
