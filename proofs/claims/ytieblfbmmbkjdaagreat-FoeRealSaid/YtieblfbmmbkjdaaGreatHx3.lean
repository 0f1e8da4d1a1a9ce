/- Executor, part 3. No condition. -/
import Derived.Test.YtieblfbmmbkjdaaGreatHx2
import Derived.MapKept
import Derived.Laws.World
set_option linter.unusedSimpArgs false
set_option linter.unusedVariables false
set_option autoImplicit true
set_option relaxedAutoImplicit true
open Go.Result (andThen_ok)
open Go.Sem (run_pure run_bind)
open Nat (beq le_refl add_comm ble blt add_mul zero_add lt_or_ge one_mul)
open List (length_map drop_of_length_le map_cons map_set map_take map_drop nil_append append_nil drop_drop)
open Array (ext')
open Option (getD_none)
namespace Go.Sx
open Go
theorem jy {Γ:Ctx} {ρ:Env} (w:World) {ft:Nat} {x y:SV} {vx vy:Value} (hx:zRT ρ x vx) (hy:zRT ρ y vy) {ps:List Prop} {p:Prop} (h:aCE Γ.ty ft x y=some (ps,p)) (hp:All ps) (d:Nat):
  ∃b:Bool,(b=true↔p)/\(Op.equalIn (d+2) ft vx vy).run Γ.P w= .ok b w:=by
 unfold aCE at h
 split at h
 ·rename_i n e hk
  obtain⟨hc,h⟩:=zn h
  have hs:=zq hc
  have ot:=Γ.ok (t:=ft) (by rw[hk];simp)
  unfold aY4 at h
  have key:∀{k:IntKind},(Γ.ty e).k= .int k->∀l l':List Int,l.length=n->l'.length=n->(Op.equalIn (d+2) ft (.agg (l.map (Value.int k)).toArray) (.agg (l'.map (Value.int k)).toArray)).run Γ.P w= .ok (l==l') w:=by
   intro k hek l l' h1 h2
   have oe:=Γ.ok (t:=e) (by rw[hek];simp)
   exact nt w d ft e n k l l' (dk ot hk) (ia oe hek) (by rw[aT oe,hs]) h1 h2
  split at h<;>simp only[zoI,zpI,reduceCtorEq]at h<;>obtain⟨rfl,rfl⟩:=h
  ·rename_i a b hek
   have h1:=hp.head
   have h2:=hp.tail.head
   rw[show vx= .agg (a.map w8).toArray from hx,show vy= .agg (b.map w8).toArray from hy,aGF,aGF]
   have r1:=key hek (a.map λx=>(x.toNat:Int)) (b.map λx=>(x.toNat:Int)) (by simpa using h1) (by simpa using h2)
   rw[iI _ (λ_ _=>aDV)]at r1
   exact⟨_,beq_iff_eq,r1⟩
  ·rename_i a b hek
   have h1:=hp.head
   have h2:=hp.tail.head
   rw[show vx= .agg (a.map w16).toArray from hx,show vy= .agg (b.map w16).toArray from hy,aGI,aGI]
   have r1:=key hek (a.map λx=>(x.toNat:Int)) (b.map λx=>(x.toNat:Int)) (by simpa using h1) (by simpa using h2)
   rw[iI _ (λ_ _=>aO0)]at r1
   exact⟨_,beq_iff_eq,r1⟩
  ·rename_i a b hek
   have h1:=hp.head
   have h2:=hp.tail.head
   rw[show vx= .agg (a.map w32).toArray from hx,show vy= .agg (b.map w32).toArray from hy,aGH,aGH]
   have r1:=key hek (a.map λx=>(x.toNat:Int)) (b.map λx=>(x.toNat:Int)) (by simpa using h1) (by simpa using h2)
   rw[iI _ (λ_ _=>wX)]at r1
   exact⟨_,beq_iff_eq,r1⟩
  ·rename_i a b hek
   have h1:=hp.head
   have h2:=hp.tail.head
   rw[show vx= .agg (a.map w64).toArray from hx,show vy= .agg (b.map w64).toArray from hy,aGG,aGG]
   have r1:=key hek (a.map λx=>(x.toNat:Int)) (b.map λx=>(x.toNat:Int)) (by simpa using h1) (by simpa using h2)
   rw[iI _ (λ_ _=>wW)]at r1
   exact⟨_,beq_iff_eq,r1⟩
  rename_i a b hek
  have h1:=hp.head
  have h2:=hp.tail.head
  rw[show vx= .agg (a.map wi).toArray from hx,show vy= .agg (b.map wi).toArray from hy,aNQ,aNQ]
  exact⟨_,beq_iff_eq,key hek a b h1 h2⟩
 ·rename_i k hk
  have u:=ia (Γ.ok (t:=ft) (by rw[hk];simp)) hk
  split at h
  ·rename_i a b
   obtain⟨rfl,rfl⟩:=sB h
   rw[show vx=w8 a from hx,show vy=w8 b from hy]
   exact⟨_,by rw[beq_iff_eq];exact⟨λh=>UInt8.toNat_inj.1 (by exact_mod_cast h),λh=>by rw[h]⟩,run_equalIn_int w (d+1) ft _ k _ _ u⟩
  ·rename_i a b
   obtain⟨rfl,rfl⟩:=sB h
   rw[show vx=w16 a from hx,show vy=w16 b from hy]
   exact⟨_,by rw[beq_iff_eq];exact⟨λh=>UInt16.toNat_inj.1 (by exact_mod_cast h),λh=>by rw[h]⟩,run_equalIn_int w (d+1) ft _ k _ _ u⟩
  ·rename_i a b
   obtain⟨rfl,rfl⟩:=sB h
   rw[show vx=w32 a from hx,show vy=w32 b from hy]
   exact⟨_,by rw[beq_iff_eq];exact⟨λh=>UInt32.toNat_inj.1 (by exact_mod_cast h),λh=>by rw[h]⟩,run_equalIn_int w (d+1) ft _ k _ _ u⟩
  ·rename_i a b
   obtain⟨rfl,rfl⟩:=sB h
   rw[show vx=w64 a from hx,show vy=w64 b from hy]
   exact⟨_,by rw[beq_iff_eq];exact⟨λh=>UInt64.toNat_inj.1 (by exact_mod_cast h),λh=>by rw[h]⟩,run_equalIn_int w (d+1) ft _ k _ _ u⟩
  ·rename_i j a j2 b
   replace ⟨hc,h⟩:=zn h
   obtain rfl:j=j2:=by simpa using hc
   obtain⟨rfl,rfl⟩:=sB h
   rw[show vx= .int j a from hx,show vy= .int j b from hy]
   exact⟨_,beq_iff_eq,run_equalIn_int w (d+1) ft _ k _ _ u⟩
  cases h
 ·rename_i hk
  obtain⟨q,hq,e⟩:=Option.map_eq_some_iff.1 h
  simp only[zpI]at e;obtain⟨rfl,rfl⟩:=e
  obtain⟨a,b,rfl,rfl,hab⟩:=aCJ hx hy hq
  have u:=aJP (Γ.ok (t:=ft) (by rw[hk];simp)) hk
  exact⟨_,hab,run_equalIn_bool w (d+1) ft a b u⟩
 cases h
theorem jW {Γ:Ctx} {ρ:Env} (w:World) {ls:List (Nat×SV)} {cs:List Value} (hcs:zC ρ ls cs) {off ft:Nat} {x:SV} (h:aA1 Γ.ty ls off ft=some x):
  ∃y,zRT ρ x y/\(part ft cs.toArray off).run Γ.P w= .ok y w:=by
 unfold aA1 at h
 split at h
 ·cases h
 rename_i hb
 have oft:=Γ.ok (t:=ft) hb
 split at h
 ·rename_i r hr
  split at h
  ·rename_i l' hl'
   obtain⟨d1,d2⟩:=dU hcs hr
   obtain⟨t1,t2⟩:=dK d1 hl'
   have hv':=rJ t1 h
   have hlen:off+(Γ.ty ft).size<=cs.length:=by rw[zlD]at t2;omega
   have hpart:=aKA (w:=w) oft hlen
   cases hagg:bZ (Γ.ty ft).k with
   |true=>
    rw[hagg]at hv'
    exact⟨_,zR hv',hpart.1 hagg⟩
   |false=>
    rw[hagg]at hv'
    obtain⟨y,hy,hr'⟩:=hv'
    exact⟨y,zR hr',hpart.2 hagg y hy⟩
  cases h
 cases h
theorem jZ {Γ:Ctx} {ρ:Env} (w:World) {a b:List (Nat×SV)} {ca cb:List Value} (ha:zC ρ a ca) (hb:zC ρ b cb) (d:Nat):∀{fds:List Field} {ps:List Prop} {p:Prop},
  (∀f∈fds,f.name≠ "_")→zj Γ.ty a b (fds.map λf=>(f.offset,f.type))=some (ps,p)→All ps→∃r:Bool,(r=true↔p)∧(Op.eqFields (d+2) ca.toArray cb.toArray fds).run Γ.P w= .ok r w
 |[],ps,p,_,h,_=>by
  simp only[List.map_nil,zj,zoI,zpI]at h
  obtain⟨_,rfl⟩:=h
  exact⟨true,by simp,by simp[Op.eqFields]⟩
 |f::r,ps,p,hn,h,hp=>by
  simp only[map_cons,zj]at h
  split at h
  ·rename_i x hx
   split at h
   ·rename_i y hy
    split at h
    ·rename_i qs q hq
     obtain⟨vx,hvx,r1⟩:=jW (Γ:=Γ) w ha hx
     obtain⟨vy,hvy,r2⟩:=jW (Γ:=Γ) w hb hy
     have run:∀{b1:Bool},(Op.equalIn (d+2) f.type vx vy).run Γ.P w= .ok b1 w->(Op.eqFields (d+2) ca.toArray cb.toArray (f::r)).run Γ.P w=(if(!b1)=true then .ok false w else(Op.eqFields (d+2) ca.toArray cb.toArray r).run Γ.P w):=by
      intro b1 hb1
      simp only[Op.eqFields,hn f (by simp),ne_eq,not_false_eq_true,if_true,run_bind,r1,r2,hb1,andThen_ok,Sem.run_ite,run_pure]
     split at h
     ·rename_i hr
      obtain⟨rfl,rfl⟩:=sB h
      obtain⟨b1,k1,k2⟩:=jy (Γ:=Γ) w hvx hvy hq hp d
      have hr:r=[]:=by simpa using hr
      subst hr
      refine⟨b1,k1,?_⟩
      rw[run k2]
      cases b1<;>simp[Op.eqFields]
     split at h
     ·rename_i us u hu
      obtain⟨rfl,rfl⟩:=sB h
      obtain⟨b1,k1,k2⟩:=jy (Γ:=Γ) w hvx hvy hq hp.left d
      obtain⟨b2,m1,m2⟩:=jZ w ha hb d (λg hg=>hn g (List.mem_cons_of_mem _ hg)) hu hp.right
      refine⟨b1&&b2,by rw[zbA,k1,m1],?_⟩
      rw[run k2,m2]
      cases b1<;>simp
     cases h
    cases h
   cases h
  cases h
theorem vd {Γ:Ctx} {ρ:Env} (w:World) {t:Nat} {x y:SV} {vx vy:Value} (hx:zRT ρ x vx) (hy:zRT ρ y vy) {ps:List Prop} {p:Prop} (h:eqT Γ.ty t x y=some (ps,p)) (hp:All ps):
  ∃b:Bool,(b=true↔p)/\(binOp .eql t vx vy).run Γ.P w= .ok (.bool b) w/\(binOp .neq t vx vy).run Γ.P w= .ok (.bool (!b)) w/\∀op X Y,(eqGuard op t X Y vx vy).run Γ.P w= .ok () w:=by
 unfold eqT at h
 split at h
 ·rename_i fs hk
  obtain⟨he,h⟩:=zn h
  have ot:=Γ.ok (t:=t) (by rw[hk];simp)
  obtain⟨l,hl,hfs,hn⟩:=rn ot hk
  obtain⟨e1,e2⟩:=ot.eqs he
  split at h
  ·split at h
   ·rename_i a b
    obtain⟨ca,hca,rfl⟩:=hx
    obtain⟨cb,hcb,rfl⟩:=hy
    have hfo:Γ.P.fieldsOf t=l:=by unfold Program.fieldsOf;rw[hl]
    rw[<-hfs]at h
    obtain⟨r,k1,k2⟩:=jZ (Γ:=Γ) w hca hcb 9997 hn h hp
    have hrun:(Op.equalIn 10000 t (.agg ca.toArray) (.agg cb.toArray)).run Γ.P w= .ok r w:=by
     rw[run_equalIn_struct w 9999 t _ _ (by rw[hfo];exact hl) e1,hfo]
     exact k2
    exact⟨r,k1,by rw[run_eql_struct,hrun];rfl,by rw[run_neq_struct,hrun];rfl,λop X Y=>run_eqGuard_agg w op t X Y _ _ e2⟩
   cases h
  cases h
 cases h
theorem aVT (x y:List UInt8):((⟨x.toArray⟩:ByteArray)==⟨y.toArray⟩)=decide (x=y):=by
 by_cases h:x=y
 ·subst h;simp only[decide_true];exact(MapKept.bytes_beq _ _).2 rfl
 simp only[h,decide_false]
 cases hb:((⟨x.toArray⟩:ByteArray)==⟨y.toArray⟩)with
 |false=>rfl
 |true=>
  have:=congrArg (λb:ByteArray=>b.data.toList) ((MapKept.bytes_beq _ _).1 hb)
  exact absurd (by simpa using this) h
theorem rv (k:List UInt8):∀(es:List MapEntry) (l:List (List UInt8×Int)) (i:Nat),(MpV.si l).Is es->
  (iA l k=none/\Instr.findNow .string (.string ⟨k.toArray⟩) es i=some none)\/∃n j,iA l k=some n/\Instr.findNow .string (.string ⟨k.toArray⟩) es i=some (some (j,wi n))
 |[],l,i,h=>by
  cases l with
  |nil=>exact Or.inl ⟨rfl,rfl⟩
  |cons p r=>simp[MpV.Is]at h
 |e::es,l,i,h=>by
  cases l with
  |nil=>simp[MpV.Is]at h
  |cons p r=>
   obtain⟨q,n⟩:=p
   simp only[MpV.Is,map_cons,List.cons.injEq,zpI]at h
   obtain⟨⟨h1,h2⟩,h3⟩:=h
   simp only[iA,Instr.findNow,h1,Instr.sameNow,aVT,h2]
   by_cases hk:k=q
   ·rw[if_pos hk]
    simp only[hk,decide_true]
    exact Or.inr ⟨n,i,rfl,rfl⟩
   rw[if_neg hk]
   simp only[hk,decide_false]
   exact rv k es r (i+1) h3
theorem aGY (h:aGZ k=true):k= .string:=by
 unfold aGZ at h;split at h
 ·rfl
 cases h
theorem xr (hy:wL P t y) (h:z8 y=true):(zeroValue t).run P w= .ok (wi 0) w:=by
 unfold z8 at h
 split at h
 ·rename_i hk
  split at h
  ·rename_i s hz
   obtain⟨z,h1,h2,h3,h4⟩:=kf (w:=w) hy (by rw[hz];simp)
   rw[h1]
   rw[hz]at h2
   rw[hk]at h4
   have:z=wi 0:=by
    have hg:Value.isAgg z=false:=h4
    have hcs:z.cells= #[z]:=by
     cases z<;>first|rfl|(simp[Value.isAgg]at hg)
    rw[hcs]at h2
    simpa [gv,jc,wi]using h2
   rw[this]
  cases h
 cases h
theorem pk {Γ:Ctx} {t:Nat} (h:aK1 Γ.ty t=true):∃k e,Γ.P.underlying t=some (.map k e)/\Γ.P.underlying k=some .string/\∀w,(zeroValue e).run Γ.P w= .ok (wi 0) w:=by
 unfold aK1 at h
 split at h
 ·rename_i k e hk
  simp only[zbA]at h
  have hs:=aGY h.1
  refine⟨k,e,?_,bS (Γ.ok (t:=k) (by rw[hs];simp)) hs,λw=>xr (Γ.ok (t:=e) ?_) h.2⟩
  ·obtain⟨d,hd,he⟩:=(Γ.ok (t:=t) (by rw[hk];simp)).und
   rw[hd]
   rw[hk]at he
   unfold kEq at he
   split at he<;>simp_all
  intro hb
  have:=h.2
  unfold z8 at this
  rw[hb]at this
  cases this
 cases h
theorem nW (hk:P.underlying k=some .string) (em:Bool) (s:ByteArray) (w:World):(Instr.checkKey em 10000 k (.string s)).run P w= .ok () w:=by
 show(Instr.checkKey em (9999+1) k (.string s)).run P w= .ok () w
 unfold Instr.checkKey
 simp[run_underlying hk]
theorem o7 (hk:P.underlying k=some .string) (h:(MpV.si l).Is es) (s:List UInt8) (w:World):
  (iA l s=none/\(Instr.findKey k (.string ⟨s.toArray⟩) es).run P w= .ok none w)\/∃n j,iA l s=some n/\(Instr.findKey k (.string ⟨s.toArray⟩) es).run P w= .ok (some (j,wi n)) w:=by
 rcases rv s es l 0 h with⟨h1,h2⟩|⟨n,j,h1,h2⟩
 ·exact Or.inl ⟨h1,by simp[Instr.findKey,run_underlying hk,h2]⟩
 exact Or.inr ⟨n,j,h1,by simp[Instr.findKey,run_underlying hk,h2]⟩
theorem xZ {Γ:Ctx} {N:Nat} {ρ:Env} {T:Tm} {M:Mm} {a:Act} {w:World} (hc:aZ N ρ T M a w) {t:Nat} {x k:Operand} {ok:Bool} {ps:List Prop} {v:SV} (h:aQR Γ.ty M t (ev T x) (ev T k) ok=some (ps,v)):
  ∃z,zRT ρ v z/\(Instr.lookup t (a.eval x) (a.eval k) ok).run Γ.P w= .ok z w:=by
 unfold aQR at h
 have hb:=(zn h).1
 replace h:=(zn h).2
 obtain⟨kt,et,ht,hk,hz⟩:=pk hb
 have hx:=zev hc x
 have hs:=zev hc k
 split at h
 ·rename_i b he
  rw[he]at hx
  obtain⟨_,hv⟩:=hx
  split at h
  ·rename_i l hm
   obtain⟨es,clock,h1,h2⟩:=hc.sat b _ hm
   split at h
   ·rename_i s hes
    rw[hes]at hs
    have hkv:a.eval k= .string ⟨s.toArray⟩:=hs
    rw[hv,hkv]
    have hrun:∀r,(Instr.findKey kt (.string ⟨s.toArray⟩) es.toList).run Γ.P w= .ok r w->(Instr.lookup t (.map (some (ρ.pos b).1)) (.string ⟨s.toArray⟩) ok).run Γ.P w=
      .ok (if ok then .tuple #[match r with|some (_,v)=>v|none=>wi 0,.bool r.isSome]else match r with|some (_,v)=>v|none=>wi 0) w:=by
     intro r hr
     simp only[Instr.lookup,run_bind,run_underlying ht,andThen_ok,MapKept.run_getObj_map h1,run_pure,nW hk,hr]
     cases r with
     |none=>simp[hz]
     |some p=>simp
    rcases o7 (P:=Γ.P) hk h2 s w with⟨g1,g2⟩|⟨n,j,g1,g2⟩
    ·have:=hrun _ g2
     rw[g1]at h
     cases ok<;>simp only[zoI,zpI]at h<;>obtain⟨_,rfl⟩:=h
     ·exact⟨_,zR rfl,this⟩
     exact⟨_,⟨_,⟨_,_,rfl,rfl,_,_,rfl,⟨false,rfl,by simp⟩,rfl⟩,rfl⟩,this⟩
    have:=hrun _ g2
    rw[g1]at h
    cases ok<;>simp only[zoI,zpI]at h<;>obtain⟨_,rfl⟩:=h
    ·exact⟨_,zR rfl,this⟩
    exact⟨_,⟨_,⟨_,_,rfl,rfl,_,_,rfl,⟨true,rfl,by simp⟩,rfl⟩,rfl⟩,this⟩
   cases h
  cases h
 cases h
theorem sW (ht:P.underlying t=some (.map k e)) (hk:P.underlying k=some .string) (hb:w.heap[b]? =some (.map es clock)) (h:(MpV.si l).Is es.toList) (s:List UInt8) (hn:iA l s=none) (n:Int):
  (Instr.mapUpdate t (.map (some b)) (.string ⟨s.toArray⟩) (wi n)).run P w= .ok () {w with heap:=w.heap.setIfInBounds b (.map (es.push {key:=.string ⟨s.toArray⟩,val:=wi n,born:=clock}) (clock+1))}:=by
 rcases o7 (P:=P) hk h s w with⟨_,g2⟩|⟨n,j,g1,_⟩
 ·simp only[Instr.mapUpdate,run_bind,run_underlying ht,andThen_ok,MapKept.run_getObj_map hb,nW hk,g2,MapKept.run_setObj_map _ hb]
 rw[hn]at g1;cases g1
theorem aAX:∀{vs:List SV} {xs:List Value} {k:Nat} {v:SV},nM ρ vs xs->vs[k]? =some v->∃y,xs[k]? =some y/\Rel ρ v y
 |[],_,_,_,_,h=>by simp at h
 |u::r,xs,k,v,⟨x,ys,e,h1,h2⟩,h=>by
  subst e
  cases k with
  |zero=>simp only[List.getElem?_cons_zero,zoI]at h;subst h;exact⟨x,rfl,h1⟩
  |succ k=>
   obtain⟨y,hy,hr⟩:=aAX (k:=k) h2 (by simpa using h)
   exact⟨y,by simpa using hy,hr⟩
theorem kT (hc:aZ N ρ T M a w)
  (h:aMN T o=some r) (hp:r.2≠none->All r.1):(o.map a.eval=none/\r.2=none)\/∃k,∃n:Nat,o.map a.eval=some (.int k (n:Int))/\r.2=some n:=by
 cases o with
 |none=>simp only[aMN,zoI]at h;subst h;exact Or.inl ⟨rfl,rfl⟩
 |some x=>
  refine aCQ hc h (hp ?_)
  simp only[aMN]at h
  split at h
  ·simp only[zoI]at h;subst h;simp
  cases h
theorem mN (h:uJ ty t x lo hi mx=some (ps,z)) (hp:All ps):
  (lo.2≠none->All lo.1)/\(hi.2≠none->All hi.1)/\(mx.2≠none->All mx.1):=by
 have fin:∀{l h m:Option Nat} {qs:List Prop},All qs->lo.2=l->hi.2=h->mx.2=m->(l≠none->∀q∈lo.1,q∈qs)->(h≠none->∀q∈hi.1,q∈qs)->(m≠none->∀q∈mx.1,q∈qs)->
   (lo.2≠none->All lo.1)/\(hi.2≠none->All hi.1)/\(mx.2≠none->All mx.1):=by
  intro l h m qs hq e1 e2 e3 i1 i2 i3
  rw[e1,e2,e3]
  exact⟨λhn q hm=>hq q (i1 hn q hm),λhn q hm=>hq q (i2 hn q hm),λhn q hm=>hq q (i3 hn q hm)⟩
 unfold uJ at h
 split at h
 ·split at h
  ·cases h
  split at h<;>(try simp only[zoI,zpI,reduceCtorEq]at h)
  all_goals first
   |(obtain⟨rfl,_⟩:=h;refine fin hp (by assumption) (by assumption) (by assumption) ?_ ?_ ?_ <;>simp +contextual;done)
   |(replace h:=(zn h).2;simp only[zoI,zpI]at h;obtain⟨rfl,_⟩:=h;refine fin hp (by assumption) (by assumption) (by assumption) ?_ ?_ ?_ <;>simp +contextual;done)
   |exact⟨λhn=>absurd ‹lo.2=none› hn,λhn=>absurd ‹hi.2=none› hn,λhn=>absurd ‹mx.2=none› hn⟩
 ·split at h
  ·cases h
  split at h<;>(try simp only[zoI,zpI,reduceCtorEq]at h)
  all_goals first
   |(obtain⟨rfl,_⟩:=h;refine fin hp (by assumption) (by assumption) (by assumption) ?_ ?_ ?_ <;>simp +contextual;done)
   |(replace h:=(zn h).2;simp only[zoI,zpI]at h;obtain⟨rfl,_⟩:=h;refine fin hp (by assumption) (by assumption) (by assumption) ?_ ?_ ?_ <;>simp +contextual;done)
 ·split at h<;>simp only[zoI,zpI,reduceCtorEq]at h
  all_goals(obtain⟨rfl,_⟩:=h;refine fin hp (by assumption) (by assumption) (by assumption) ?_ ?_ ?_ <;>simp +contextual)
 cases h
theorem qU (hc:aZ N ρ T M a w):∀{l:List Operand} {q:List (Nat×Nat)},aIH T l=some q->
  (∀p∈q,ρ.dom p.1)/\l.map a.eval=q.map λp=>Value.pointer (some (ρ.addr p.1 p.2 0))
 |[],q,h=>by simp only[aIH,zoI]at h;subst h;exact⟨λp hp=>by simp at hp,rfl⟩
 |x::r,q,h=>by
  simp only[aIH]at h
  split at h
  ·rename_i b f he
   have hr:=zev hc x
   rw[he]at hr
   split at h
   ·rename_i q' hq
    simp only[zoI]at h;subst h
    obtain⟨h1,h2⟩:=qU hc hq
    refine⟨λp hp=>?_,?_⟩
    ·rcases List.mem_cons.1 hp with rfl|hp
     ·exact hr.1
     exact h1 p hp
    simp only[map_cons,h2]
    congr 1
    exact hr.2
   cases h
  cases h
theorem nb {Γ:Ctx} {N:Nat} {ρ:Env} {T:Tm} {M:Mm} {a:Act} {w:World} (hc:aZ N ρ T M a w) {o:Oper} {ps:List Prop} {v:SV}
  (h:fo Γ.ty T M o.op=some (ps,v)) (hp:All ps):∃x,zRT ρ v x/\(execOp a.eval o).run Γ.P w= .ok (.value x) w:=by
 obtain⟨dst,op,ty,pos,after,guard⟩:=o
 simp only at h
 unfold fo at h
 split at h
 ·-- move
  rename_i x
  have hr:=zev hc x
  split at h
  ·cases h
  obtain⟨rfl,rfl⟩:=sB h
  exact⟨_,hr,rfl⟩
 ·rename_i x
  have hr:=zev hc x
  split at h
  ·cases h
  obtain⟨rfl,rfl⟩:=sB h
  exact⟨_,hr,rfl⟩
 ·-- nilCheck
  rename_i x
  have hr:=zev hc x
  split at h<;>simp only[zoI,zpI,reduceCtorEq]at h<;>obtain⟨rfl,rfl⟩:=h
  ·rename_i he;rw[he]at hr
   refine⟨_,hr,?_⟩
   obtain⟨_,hv⟩:=hr
   simp only[execOp,hv,run_pure]
  ·rename_i he;rw[he]at hr
   refine⟨_,hr,?_⟩
   obtain⟨_,hv⟩:=hr
   simp only[execOp,hv,run_pure]
  ·rename_i he;rw[he]at hr
   refine⟨_,hr,?_⟩
   obtain⟨_,_,hv,_⟩:=hr
   simp only[execOp,hv,run_pure]
  rename_i he;rw[he]at hr
  refine⟨_,hr,?_⟩
  obtain⟨_,hv⟩:=hr
  simp only[execOp,hv,run_pure]
 ·-- pick
  rename_i c x y
  have hr:=zev hc c
  split at h
  ·rename_i he;rw[he]at hr
   split at h
   ·cases h
   obtain⟨rfl,rfl⟩:=sB h
   refine⟨_,zev hc x,?_⟩
   simp only[execOp,show a.eval c= .bool true from hr,asBool,run_bind,run_pure,andThen_ok,if_true]
  ·rename_i he;rw[he]at hr
   split at h
   ·cases h
   obtain⟨rfl,rfl⟩:=sB h
   refine⟨_,zev hc y,?_⟩
   simp only[execOp,show a.eval c= .bool false from hr,asBool,run_bind,run_pure,andThen_ok,Bool.false_eq_true,if_false]
  ·rename_i p he;rw[he]at hr
   split at h<;>simp only[zoI,zpI,reduceCtorEq]at h
   rotate_left
   ·obtain⟨rfl,rfl⟩:=h
    obtain⟨b,hb,hbp⟩:=hr
    have hnp:¬p:=hp.head
    have:b=false:=by
     cases b with
     |true=>exact absurd (hbp.1 rfl) hnp
     |false=>rfl
    subst this
    refine⟨_,zev hc y,?_⟩
    simp only[execOp,hb,asBool,run_bind,run_pure,andThen_ok,Bool.false_eq_true,if_false]
   ·obtain⟨rfl,rfl⟩:=h
    obtain⟨b,hb,hbp⟩:=hr
    have hpp:p:=hp.head
    have:b=true:=hbp.2 hpp
    subst this
    refine⟨_,zev hc x,?_⟩
    simp only[execOp,hb,asBool,run_bind,run_pure,andThen_ok,if_true]
   rename_i q r hq hr'
   obtain⟨rfl,rfl⟩:=h
   obtain⟨b,hb,hbp⟩:=hr
   obtain⟨b1,h1,h1p⟩:=vw (zev hc x) hq
   obtain⟨b2,h2,h2p⟩:=vw (zev hc y) hr'
   cases b with
   |true=>
    refine⟨.bool b1,zR ⟨b1,rfl,?_⟩,?_⟩
    ·have:p:=hbp.1 rfl
     rw[h1p];exact⟨λh=>Or.inl ⟨this,h⟩,λh=>h.elim (λh=>h.2) (λh=>absurd this h.1)⟩
    simp only[execOp,hb,asBool,run_bind,run_pure,andThen_ok,if_true,h1]
   |false=>
    refine⟨.bool b2,zR ⟨b2,rfl,?_⟩,?_⟩
    ·have:¬p:=λh=>by have:=hbp.2 h;cases this
     rw[h2p];exact⟨λh=>Or.inr ⟨this,h⟩,λh=>h.elim (λh=>absurd h.1 this) (λh=>h.2)⟩
    simp only[execOp,hb,asBool,run_bind,run_pure,andThen_ok,Bool.false_eq_true,if_false,h2]
  cases h
 ·-- shl
  rename_i t x y yt
  split at h
  ·rename_i qs n hn
   split at h
   ·rename_i rs z hz
    obtain⟨rfl,rfl⟩:=sB h
    obtain⟨k,hk⟩:=sE hc hn hp.right
    obtain⟨r,hr,hrun⟩:=aBJ (P:=Γ.P) (zev hc x) hz hp.left w t k
    refine⟨r,hr,?_⟩
    rw[<-hk]at hrun
    simp only[execOp,run_bind]
    have hg:(eqGuard .shl t x y (a.eval x) (a.eval y)).run Γ.P w= .ok () w:=rfl
    simp only[hg,andThen_ok,hrun,run_pure]
   cases h
  cases h
 ·rename_i t x y yt
  split at h
  ·rename_i qs n hn
   split at h
   ·rename_i rs z hz
    obtain⟨rfl,rfl⟩:=sB h
    obtain⟨k,hk⟩:=sE hc hn hp.right
    obtain⟨r,hr,hrun⟩:=aBH (P:=Γ.P) (zev hc x) hz hp.left w t k
    refine⟨r,hr,?_⟩
    rw[<-hk]at hrun
    simp only[execOp,run_bind]
    have hg:(eqGuard .shr t x y (a.eval x) (a.eval y)).run Γ.P w= .ok () w:=rfl
    simp only[hg,andThen_ok,hrun,run_pure]
   cases h
  cases h
 ·-- binOp
  rename_i op t x y yt _ _
  split at h
  ·rename_i qs q he
   split at h<;>simp only[zoI,zpI,reduceCtorEq]at h<;>obtain⟨rfl,rfl⟩:=h
   ·obtain⟨b,hb,r1,_,r3⟩:=vd (Γ:=Γ) w (zev hc x) (zev hc y) he hp
    refine⟨.bool b,zR ⟨b,rfl,hb⟩,?_⟩
    simp only[execOp,run_bind,r3 _ x y,andThen_ok,r1,run_pure]
   obtain⟨b,hb,_,r2,r3⟩:=vd (Γ:=Γ) w (zev hc x) (zev hc y) he hp
   refine⟨.bool (!b),zR ⟨!b,rfl,by rw[<-hb];cases b<;>simp⟩,?_⟩
   simp only[execOp,run_bind,r3 _ x y,andThen_ok,r2,run_pure]
  obtain⟨z,hz,hrun,hg⟩:=aC0 w (zev hc x) (zev hc y) h hp
  refine⟨z,hz,?_⟩
  simp only[execOp,run_bind,hg x y,andThen_ok,hrun,run_pure]
 ·-- unOp
  rename_i op t x
  obtain⟨z,hz,hrun⟩:=aD1 (P:=Γ.P) w (zev hc x) h hp
  refine⟨z,hz,?_⟩
  simp only[execOp,run_bind,hrun,andThen_ok,run_pure]
 ·-- convert
  rename_i s d x
  split at h
  ·rename_i k hk
   split at h
   ·rename_i k' hk'
    have ud:=ia (Γ.ok (t:=d) (by rw[hk];simp)) hk
    have us:=ia (Γ.ok (t:=s) (by rw[hk'];simp)) hk'
    obtain⟨j,n,z,hx,hz,hrun⟩:=yE (P:=Γ.P) w (zev hc x) h hp
    refine⟨z,hz,?_⟩
    simp only[execOp,run_bind,convert,zru us,zru ud,andThen_ok,hx,hrun,run_pure]
   cases h
  ·rename_i hk
   have ud:=bS (Γ.ok (t:=d) (by rw[hk];simp)) hk
   split at h
   ·rename_i e hk'
    have us:=zus (Γ.ok (t:=s) (by rw[hk'];simp)) hk'
    split at h
    ·rename_i he
     have ue:=ia (Γ.ok (t:=e) (by rw[he];simp)) he
     obtain⟨⟨qs,l⟩,hb,e'⟩:=mZ h
     simp only[zpI]at e';obtain⟨rfl,rfl⟩:=e'
     obtain⟨ad,n,c,hv,hrun⟩:=tZ (P:=Γ.P) hc.tozF (zev hc x) hb hp
     refine⟨_,zR rfl,?_⟩
     rw[hv]at hrun
     simp only[execOp,run_bind,hv,run_convert_bytes_string w s d e ad n c us ue ud,hrun,andThen_ok,run_pure]
    cases h
   ·rename_i hk'
    have us:=bS (Γ.ok (t:=s) (by rw[hk'];simp)) hk'
    split at h<;>simp only[zoI,zpI,reduceCtorEq]at h
    obtain⟨rfl,rfl⟩:=h
    rename_i l he
    have hr:=zev hc x
    rw[he]at hr
    refine⟨_,hr,?_⟩
    simp only[execOp,run_bind,convert,zru us,zru ud,andThen_ok,show a.eval x= .string ⟨l.toArray⟩from hr,run_pure]
   cases h
  cases h
 ·-- fieldAddr
  rename_i t x f
  obtain⟨z,hz,hrun⟩:=ny w (zev hc x) h
  refine⟨z,hz,?_⟩
  simp only[execOp,run_bind,hrun,andThen_ok,run_pure]
 ·-- field
  rename_i t x f
  obtain⟨z,hz,hrun⟩:=vV w (zev hc x) h
  refine⟨z,hz,?_⟩
  simp only[execOp,run_bind,hrun,andThen_ok,run_pure]
 ·-- indexAddr
  rename_i t x ix
  split at h
  ·rename_i r hr
   have hp1:All r.1/\True:=⟨by
    have:∀k:IntKind,All r.1:=λk=>(iU (Γ:=Γ) w (zev hc x) (k:=k) h hp).1
    exact this .i64,trivial⟩
   obtain⟨k,hk⟩:=eH hc hr hp1.1
   obtain⟨_,z,hz,hrun⟩:=iU (Γ:=Γ) w (zev hc x) (k:=k) h hp
   refine⟨z,hz,?_⟩
   rw[<-hk]at hrun
   simp only[execOp,run_bind,hrun,andThen_ok,run_pure]
  cases h
 ·-- index
  rename_i t x ix
  split at h
  ·rename_i r hr
   have hp1:All r.1:=(ni (Γ:=Γ) w (zev hc x) (k:=.i64) h hp).1
   obtain⟨k,hk⟩:=eH hc hr hp1
   obtain⟨_,z,hz,hrun⟩:=ni (Γ:=Γ) w (zev hc x) (k:=k) h hp
   refine⟨z,hz,?_⟩
   rw[<-hk]at hrun
   simp only[execOp,run_bind,hrun,andThen_ok,run_pure]
  cases h
 ·-- slice
  rename_i t x lo hi mx
  split at h
  ·rename_i l h' m hlo hhi hmx
   obtain⟨z,hz,hrun⟩:=uI w (zev hc x) h hp (kT hc hlo (mN h hp).1) (kT hc hhi (mN h hp).2.1) (kT hc hmx (mN h hp).2.2)
   refine⟨z,hz,?_⟩
   simp only[execOp,run_bind,hrun,andThen_ok,run_pure]
  cases h
 ·-- load
  rename_i t x
  split at h
  ·rename_i ad f i he
   have hr:=zev hc x
   rw[he]at hr
   obtain⟨z,hz,hrun⟩:=pn hc.tozF h hp
   refine⟨z,zR hz,?_⟩
   simp only[execOp,run_bind,Instr.loadAt,hr.2,Instr.sureAddr,run_pure,andThen_ok,hrun]
  ·rename_i ad f q s he
   have hr:=zev hc x
   rw[he]at hr
   obtain⟨z,hz,hrun⟩:=xh hc.tozF h hp
   refine⟨z,zR hz,?_⟩
   simp only[execOp,run_bind,Instr.loadAt,hr.2,Instr.sureAddr,run_pure,andThen_ok,hrun]
  ·rename_i f q s ls he
   have hr:=zev hc x
   rw[he]at hr
   obtain⟨b,o,hv,hi⟩:=hr
   obtain⟨z,hz,hrun⟩:=xf hc.tozF hi h hp
   refine⟨z,zR hz,?_⟩
   simp only[execOp,run_bind,Instr.loadAt,hv,Instr.sureAddr,run_pure,andThen_ok,hrun]
  cases h
 ·-- extract
  rename_i x k
  split at h
  ·rename_i vs he
   have hr:=zev hc x
   rw[he]at hr
   obtain⟨xs,hxs,hv⟩:=hr
   split at h
   ·cases h
   ·rename_i v' hne hk
    obtain⟨rfl,rfl⟩:=sB h
    obtain⟨y,hy,hr'⟩:=aAX hxs hk
    refine⟨y,zR hr',?_⟩
    have:xs.toArray[k]? =some y:=by simpa using hy
    simp only[execOp,run_bind,Instr.extract,hv,this,run_pure,andThen_ok]
   cases h
  cases h
 ·-- build
  rename_i t parts
  obtain⟨z,hz,hrun⟩:=vk hc h hp
  refine⟨z,hz,?_⟩
  have:parts.map (λ(p:Nat×Operand)=>(p.1,a.eval p.2))=(parts.toList.map λ(p:Nat×Operand)=>(p.1,a.eval p.2)).toArray:=by
   apply ext';simp
  simp only[execOp,run_bind,this,hrun,andThen_ok,run_pure]
 ·-- call of a builtin
  rename_i c
  split at h
  ·rename_i b hb
   obtain⟨z,hz,hrun⟩:=vj hc ty (c.args.map λ| .const _=>true|_=>false) h
   refine⟨z,hz,?_⟩
   have e1:(c.args.toList.map a.eval).toArray=c.args.map a.eval:=by apply ext';simp
   simp only[execOp,resolve,hb,run_bind,run_pure,andThen_ok,invoke]
   rw[Array.toArray_toList,e1]at hrun
   exact hrun
  cases h
 ·-- a function value
  rename_i fn first captured
  unfold aNR at h
  split at h
  ·rename_i g
   split at h
   ·rename_i hf
    split at h
    ·rename_i q hq
     obtain⟨rfl,rfl⟩:=sB h
     obtain⟨h1,h2⟩:=qU hc hq
     have e1:first.map a.eval= #[]:=by
      have:first = #[]:=by apply ext';simpa using hf
      rw[this];simp
     have e2:captured.map a.eval=(q.map λp=>Value.pointer (some (ρ.addr p.1 p.2 0))).toArray:=by
      apply ext';simp[<-h2]
     refine⟨_,zR ⟨h1,rfl⟩,?_⟩
     simp only[execOp,run_bind,Instr.makeFunc,e1,e2,run_pure,andThen_ok]
    cases h
   cases h
  cases h
 ·-- what a map tells
  rename_i t x k ok
  obtain⟨z,hz,hrun⟩:=xZ hc h
  exact⟨z,hz,by simp only[execOp,run_bind,hrun,andThen_ok,run_pure]⟩
 cases h
theorem aGX {l:List (List UInt8×Int)} {es:Array MapEntry} (h:(MpV.si l).Is es.toList) (s:List UInt8) (n:Int) (c:Nat):(MpV.si (l++[(s,n)])).Is (es.push {key:=.string ⟨s.toArray⟩,val:=wi n,born:=c}).toList:=by
 simp only[MpV.Is,Array.toList_push,List.map_append,map_cons,List.map_nil]at h⊢
 rw[h]
theorem zh (d:Nat) (e:Ent) (M:Mm):zG ((d,e)::M) d=some e:=by
 simp only[zG,show beq d d=true from Nat.beq_refl d,zcT]
theorem zg (h:a≠d) (e:Ent) (M:Mm):zG ((d,e)::M) a=zG M a:=by
 simp only[zG]
 have:beq a d=false:=by
  cases hb:beq a d with
  |false=>rfl
  |true=>exact absurd (zq hb) h
 rw[this,zcF]
theorem aK (d:Nat) (v:SV) (T:Tm):zX ((d,v)::T) d=v:=by
 simp only[zX,show beq d d=true from Nat.beq_refl d,zcT]
theorem aS (h:a≠d) (v:SV) (T:Tm):zX ((d,v)::T) a=zX T a:=by
 simp only[zX]
 have:beq a d=false:=by
  cases hb:beq a d with
  |false=>rfl
  |true=>exact absurd (zq hb) h
 rw[this,zcF]
theorem aZ.put (hc:aZ N ρ T M a w) (hd:d<N) (hr:zRT ρ v x):
  aZ N ρ ((d,v)::T) M (a.put (some d) x) w where
 tozF:=hc.tozF
 sz:=by simp[Act.put,hc.sz]
 defers:=hc.defers
 tm e:=by
  by_cases he:e=d
  ·subst he
   rw[aK]
   have:(a.put (some e) x).tmps.getD e undef=x:=by
    simp[Act.put,Array.getD_eq_getD_getElem?,hc.sz,hd]
   rw[this];exact hr
  rw[aS he]
  have:(a.put (some d) x).tmps.getD e undef=a.tmps.getD e undef:=by
   simp only[Act.put,Array.getD_eq_getD_getElem?]
   rw[Array.getElem?_setIfInBounds_ne (λh=>he h.symm)]
  rw[this];exact hc.tm e
theorem aZ.put_none (hc:aZ N ρ T M a w) (x:Value):aZ N ρ T M (a.put none x) w:=hc
theorem aZ.of_mem (hc:aZ N ρ T M a w) (hρ:ρ.le ρ') (h:zF ρ' M' w'):aZ N ρ' T M' a w' where
 tozF:=h
 sz:=hc.sz
 defers:=hc.defers
 tm e:=(hc.tm e).le hρ
def Env.add (ρ:Env) (d:Nat) (p:Nat×Nat):Env:=⟨λa=>a=d\/ρ.dom a,λa=>if a=d then p else ρ.pos a,ρ.imm⟩
theorem Env.le_add {ρ:Env} {d:Nat} (p:Nat×Nat) (h:¬ρ.dom d):ρ.le (ρ.add d p):=by
 refine⟨λa ha=>⟨Or.inr ha,?_⟩,λ_ _ _ h=>h⟩
 simp only[Env.add]
 rw[if_neg (by rintro rfl;exact h ha)]
theorem vG {w:World} {o:Obj} {b:Nat} (h:b<w.heap.size):(w.alloc o).heap[b]? =w.heap[b]?:=by
 show(w.heap.push o)[b]? =_
 rw[Array.getElem?_push,if_neg (by omega)]
theorem iP (h:mB ρ w pos e) (hf:eJ pos e b o):b<w.heap.size:=by
 cases e with
 |dead=>exact hf.elim
 |mem own sp ls=>obtain⟨_,_,h2,_⟩:=h;obtain⟨f1,f2,f3⟩:=hf;rw[f1];exact h2.1 (by omega)
 |map m=>obtain⟨_,_,h1,_⟩:=h;rw[show b=pos.1 from hf];exact(Array.getElem?_eq_some_iff.1 h1).1
theorem q8 (w:World) (c:Array Value) (t:TypeId) (j:Nat):iO (w.alloc (.cells c t)) ⟨w.heap.size,j,none⟩=false:=by
 have h1:(w.alloc (.cells c t)).heap[w.heap.size]? =some (.cells c t):=by
  show(w.heap.push _)[w.heap.size]? =_
  exact Array.getElem?_push_size
 simp only[iO,h1]
 simp
structure eW (w w':World):Prop where
 size:w.heap.size<=w'.heap.size
 os:w'.os=w.os
 output:w'.output=w.output
 blk:∀b,b<w.heap.size->w'.heap[b]? =w.heap[b]?
theorem eW.refl (w:World):eW w w:=⟨le_refl _,rfl,rfl,λ_ _=>rfl⟩
theorem eW.trans (h:eW a b) (k:eW b c):eW a c:=
 ⟨Nat.le_trans h.size k.size,k.os.trans h.os,k.output.trans h.output,λx hx=>(k.blk x (Nat.lt_of_lt_of_le hx h.size)).trans (h.blk x hx)⟩
theorem eW.alloc (w:World) (c:Array Value) (t:TypeId):eW w (w.alloc (.cells c t)):=⟨by simp,rfl,rfl,λ_ h=>vG h⟩
theorem eW.drew (w:World):eW w {w with drawn:=w.drawn+1}:=⟨le_refl _,rfl,rfl,λ_ _=>rfl⟩
theorem eW.cell (h:eW w w') (hb:b<w.heap.size):w'.cell? ⟨b,o,none⟩=w.cell? ⟨b,o,none⟩/\iO w' ⟨b,o,none⟩=iO w ⟨b,o,none⟩:=by
 simp only[World.cell?,iO,h.blk b hb,and_self]
theorem mB.grows (hρ:ρ.le ρ') (hg:eW w w') (h:mB ρ w pos e):mB ρ' w' pos e:=
 mB.of_same hρ hg.size (λ_ _ hf=>hg.cell (iP h hf)) (λb hb _=>hg.blk b hb) h
theorem zF.grows (h:zF ρ M w) (hg:eW w w'):zF ρ M w':=
 ⟨h.dom,h.mod,λa e he=>(h.sat a e he).grows (Env.le_refl _) hg,h.sep,λb o ls hi=>(h.imm b o ls hi).keep (λ_ _ _ h=>h) hg.size (λ_ _=>(hg.cell ((h.imm b o ls hi).1 (by omega))).1),h.isep,h.gl⟩
theorem aZ.grows (h:aZ N ρ T M a w) (hg:eW w w'):aZ N ρ T M a w':=
 h.of_mem (Env.le_refl _) (h.tozF.grows hg)
theorem eW.step (h:eW w w'):aV ρ M ρ M w w':=
 ⟨h.size,h.os,h.output,λb hb _=>h.blk b hb,λ_ _ hb _=>h.cell hb,λ_ _ _ h=>h,λ_ _ _ h=>Or.inl h⟩
theorem zF.alloc {ρ:Env} {M:Mm} {w:World} (h:zF ρ M w) {d:Nat} (hd:zG M d=none) {cs:List Value} {cells:Array Value} {t:TypeId} {ls:List (Nat×SV)} {sp:Nat}
  (hcs:zC ρ ls cs) (hcell:∀(j:Nat) (v:Value),cs[j]? =some v->cells[j]? =some v) (hsize:cells.size=cs.length+sp):
  ρ.le (ρ.add d (w.heap.size,0))/\zF (ρ.add d (w.heap.size,0)) ((d,.mem true sp ls)::M) (w.alloc (.cells cells t))/\aV ρ M (ρ.add d (w.heap.size,0)) ((d,.mem true sp ls)::M) w (w.alloc (.cells cells t)):=by
 have hnd:¬ρ.dom d:=by
  intro hx
  obtain⟨e,he⟩:=h.dom d hx
  rw[hd]at he;cases he
 have hle:=Env.le_add (w.heap.size,0) hnd
 have pne:∀{a},a≠d->(ρ.add d (w.heap.size,0)).pos a=ρ.pos a:=by
  intro a ha;simp only[Env.add];rw[if_neg ha]
 have pd:(ρ.add d (w.heap.size,0)).pos d=(w.heap.size,0):=by simp[Env.add]
 have hg:=eW.alloc w cells t
 have hfoot:∀k o,eJ ((ρ.add d (w.heap.size,0)).pos d) (.mem true sp ls) k o->k=w.heap.size:=by
  intro k o hf;rw[pd]at hf;exact hf.1
 have hold:∀a e,zG M a=some e->∀k o,eJ ((ρ.add d (w.heap.size,0)).pos a) e k o->k<w.heap.size:=by
  intro a e he k o hf
  have hne:a≠d:=by rintro rfl;rw[hd]at he;cases he
  rw[pne hne]at hf
  exact iP (h.sat a e he) hf
 have ownN:∀b o,b<w.heap.size->eU (ρ.add d (w.heap.size,0)) ((d,.mem true sp ls)::M) b o->eU ρ M b o:=by
  intro b o hb ho
  obtain⟨a,e,he,hown,hf⟩:=ho
  by_cases ha:a=d
  ·subst ha
   rw[zh]at he
   obtain rfl:Ent.mem true sp ls=e:=by simpa using he
   have:=hfoot b o hf
   omega
  rw[zg ha]at he
  rw[pne ha]at hf
  exact⟨a,e,he,hown,hf⟩
 refine⟨hle,⟨?_,?_,?_,?_,λb o ls hi=>(h.imm b o ls hi).keep (λ_ _ _ h=>h) hg.size (λ_ _=>(hg.cell ((h.imm b o ls hi).1 (by omega))).1),λb o hi ho=>h.isep b o hi (ownN b o (h.immc_lt (ρ:=ρ) hi) ho),h.gl⟩,?_⟩
 ·intro a ha
  by_cases hne:a=d
  ·subst hne;exact⟨_,zh _ _ _⟩
  rw[zg hne]
  exact h.dom a (ha.resolve_left hne)
 ·intro a e he
  by_cases hne:a=d
  ·exact Or.inl hne
  rw[zg hne]at he;exact Or.inr (h.mod a e he)
 ·intro a e he
  by_cases hne:a=d
  ·subst hne
   rw[zh]at he
   obtain rfl:Ent.mem true sp ls=e:=by simpa using he
   rw[pd]
   refine⟨cs,hcs.le hle,⟨by simp,λhh=>by cases hh⟩,λj v hj=>?_,λho j hj=>?_⟩
   ·rw[zero_add,World.cell?_alloc_new];exact hcell j v hj
   rw[zero_add,World.cell?_alloc_new,q8]
   have hlt:j<cells.size:=by rw[hsize,hcs.length];exact hj
   exact⟨⟨cells[j],by simp[hlt]⟩,rfl⟩
  rw[zg hne]at he
  rw[pne hne]
  exact(h.sat a e he).grows hle hg
 ·intro a b e e' he he' hab ho k o hf hf'
  by_cases ha:a=d
  ·subst ha
   have hb:b≠a:=λe=>hab e.symm
   rw[zg hb]at he'
   rw[zh]at he
   obtain rfl:Ent.mem true sp ls=e:=by simpa using he
   have h1:=hfoot k o hf
   have h2:=hold b e' he' k o hf'
   omega
  rw[zg ha]at he
  by_cases hb:b=d
  ·subst hb
   rw[zh]at he'
   obtain rfl:Ent.mem true sp ls=e':=by simpa using he'
   have h1:=hfoot k o hf'
   have h2:=hold a e he k o hf
   omega
  rw[zg hb]at he'
  rw[pne ha]at hf
  rw[pne hb]at hf'
  exact h.sep a b e e' he he' hab ho k o hf hf'
 refine⟨hg.size,rfl,rfl,λb hb _=>hg.blk b hb,λb o hb _=>hg.cell hb,λb o hb ho=>ownN b o hb ho,λ_ _ _ h=>Or.inl h⟩
theorem eW.allocO (w:World) (o:Obj):eW w (w.alloc o):=⟨by simp,rfl,rfl,λ_ h=>vG h⟩
theorem zF.allocMap {ρ:Env} {M:Mm} {w:World} (h:zF ρ M w) {d:Nat} (hd:zG M d=none):
  ρ.le (ρ.add d (w.heap.size,0))/\zF (ρ.add d (w.heap.size,0)) ((d,.map (.si []))::M) (w.alloc (.map #[] 0))/\aV ρ M (ρ.add d (w.heap.size,0)) ((d,.map (.si []))::M) w (w.alloc (.map #[] 0)):=by
 have hnd:¬ρ.dom d:=by
  intro hx
  obtain⟨e,he⟩:=h.dom d hx
  rw[hd]at he;cases he
 have hle:=Env.le_add (w.heap.size,0) hnd
 have pne:∀{a},a≠d->(ρ.add d (w.heap.size,0)).pos a=ρ.pos a:=by
  intro a ha;simp only[Env.add];rw[if_neg ha]
 have pd:(ρ.add d (w.heap.size,0)).pos d=(w.heap.size,0):=by simp[Env.add]
 have hg:=eW.allocO w (.map #[] 0)
 have hfoot:∀k o,eJ ((ρ.add d (w.heap.size,0)).pos d) (.map (.si [])) k o->k=w.heap.size:=by
  intro k o hf;rw[pd]at hf;exact hf
 have hold:∀a e,zG M a=some e->∀k o,eJ ((ρ.add d (w.heap.size,0)).pos a) e k o->k<w.heap.size:=by
  intro a e he k o hf
  have hne:a≠d:=by rintro rfl;rw[hd]at he;cases he
  rw[pne hne]at hf
  exact iP (h.sat a e he) hf
 have ownN:∀b o,b<w.heap.size->eU (ρ.add d (w.heap.size,0)) ((d,.map (.si []))::M) b o->eU ρ M b o:=by
  intro b o hb ho
  obtain⟨a,e,he,hown,hf⟩:=ho
  by_cases ha:a=d
  ·subst ha
   rw[zh]at he
   obtain rfl:Ent.map (.si [])=e:=by simpa using he
   have:=hfoot b o hf
   omega
  rw[zg ha]at he
  rw[pne ha]at hf
  exact⟨a,e,he,hown,hf⟩
 refine⟨hle,⟨?_,?_,?_,?_,λb o ls hi=>(h.imm b o ls hi).keep (λ_ _ _ h=>h) hg.size (λ_ _=>(hg.cell ((h.imm b o ls hi).1 (by omega))).1),λb o hi ho=>h.isep b o hi (ownN b o (h.immc_lt (ρ:=ρ) hi) ho),h.gl⟩,?_⟩
 ·intro a ha
  by_cases hne:a=d
  ·subst hne;exact⟨_,zh _ _ _⟩
  rw[zg hne]
  exact h.dom a (ha.resolve_left hne)
 ·intro a e he
  by_cases hne:a=d
  ·exact Or.inl hne
  rw[zg hne]at he;exact Or.inr (h.mod a e he)
 ·intro a e he
  by_cases hne:a=d
  ·subst hne
   rw[zh]at he
   obtain rfl:Ent.map (.si [])=e:=by simpa using he
   rw[pd]
   refine⟨#[],0,?_,rfl⟩
   show(w.heap.push _)[w.heap.size]? =_
   exact Array.getElem?_push_size
  rw[zg hne]at he
  rw[pne hne]
  exact(h.sat a e he).grows hle hg
 ·intro a b e e' he he' hab ho k o hf hf'
  by_cases ha:a=d
  ·subst ha
   have hb:b≠a:=λe=>hab e.symm
   rw[zg hb]at he'
   rw[zh]at he
   obtain rfl:Ent.map (.si [])=e:=by simpa using he
   have h1:=hfoot k o hf
   have h2:=hold b e' he' k o hf'
   omega
  rw[zg ha]at he
  by_cases hb:b=d
  ·subst hb
   rw[zh]at he'
   obtain rfl:Ent.map (.si [])=e':=by simpa using he'
   have h1:=hfoot k o hf'
   have h2:=hold a e he k o hf
   omega
  rw[zg hb]at he'
  rw[pne ha]at hf
  rw[pne hb]at hf'
  exact h.sep a b e e' he he' hab ho k o hf hf'
 refine⟨hg.size,rfl,rfl,λb hb _=>hg.blk b hb,λb o hb _=>hg.cell hb,λb o hb ho=>ownN b o hb ho,λ_ _ _ h=>Or.inl h⟩
theorem zF.setMap (h:zF ρ M w) (ha:zG M a=some (.map m)) (hm:m'.Is es.toList):
  zF ρ ((a,.map m')::M) {w with heap:=w.heap.setIfInBounds (ρ.pos a).1 (.map es clock)}/\aV ρ M ρ ((a,.map m')::M) w {w with heap:=w.heap.setIfInBounds (ρ.pos a).1 (.map es clock)}:=by
 generalize hw:({w with heap:=w.heap.setIfInBounds (ρ.pos a).1 (.map es clock)}:World)=w'
 obtain⟨es0,clock0,hb0,_⟩:=h.sat a _ ha
 have hlt:(ρ.pos a).1<w.heap.size:=(Array.getElem?_eq_some_iff.1 hb0).1
 have hsz:w'.heap.size=w.heap.size:=by rw[<-hw];simp
 have hother:∀k,k≠(ρ.pos a).1->w'.heap[k]? =w.heap[k]?:=by
  intro k hk
  rw[<-hw]
  simp only[Array.getElem?_setIfInBounds]
  rw[if_neg (λe=>hk e.symm)]
 have hself:w'.heap[(ρ.pos a).1]? =some (.map es clock):=by
  rw[<-hw]
  simp only[Array.getElem?_setIfInBounds]
  rw[if_pos trivial,if_pos hlt]
 have hcell:∀k o,w'.cell? ⟨k,o,none⟩=w.cell? ⟨k,o,none⟩/\iO w' ⟨k,o,none⟩=iO w ⟨k,o,none⟩:=by
  intro k o
  by_cases hk:k=(ρ.pos a).1
  ·subst hk
   simp only[World.cell?,iO,hself,hb0,and_self]
  simp only[World.cell?,iO,hother k hk,and_self]
 have ownN:∀b o,eU ρ ((a,.map m')::M) b o->eU ρ M b o:=by
  rintro b o ⟨c,e,he,hown,hf⟩
  by_cases hc:c=a
  ·subst hc
   rw[zh]at he
   obtain rfl:Ent.map m'=e:=by simpa using he
   exact⟨c,_,ha,rfl,hf⟩
  rw[zg hc]at he
  exact⟨c,e,he,hown,hf⟩
 refine⟨⟨λb hb=>?_,λb e he=>?_,λb e he=>?_,λb c e e' he he' hbc ho k o hf hf'=>?_,λb o ls hi=>(h.imm b o ls hi).keep (λ_ _ _ h=>h) (by rw[hsz];exact le_refl _) (λj hj=>(hcell _ _).1),λb o hi ho=>h.isep b o hi (ownN b o ho),h.gl⟩,
  ⟨by rw[hsz];exact le_refl _,by rw[<-hw],by rw[<-hw],λb hb hn=>hother b λe=>hn 0 ⟨a,_,ha,rfl,e⟩,λb o _ _=>hcell b o,λb o _ ho=>ownN b o ho,λ_ _ _ h=>Or.inl h⟩⟩
 ·by_cases hne:b=a
  ·subst hne;exact⟨_,zh _ _ _⟩
  rw[zg hne];exact h.dom b hb
 ·by_cases hne:b=a
  ·subst hne;exact h.mod _ _ ha
  rw[zg hne]at he;exact h.mod b e he
 ·by_cases hne:b=a
  ·subst hne
   rw[zh]at he
   obtain rfl:Ent.map m'=e:=by simpa using he
   exact⟨es,clock,hself,hm⟩
  rw[zg hne]at he
  refine mB.of_same (Env.le_refl _) (by rw[hsz];exact le_refl _) (λk o _=>hcell k o) (λk hk hf=>hother k λe0=>?_) (h.sat b e he)
  subst e0
  exact h.sep a b _ e ha he (λe=>hne e.symm) rfl _ 0 rfl (hf 0)
 by_cases hb:b=a
 ·subst hb
  have hc:c≠b:=λe=>hbc e.symm
  rw[zh]at he
  obtain rfl:Ent.map m'=e:=by simpa using he
  rw[zg hc]at he'
  exact h.sep b c _ e' ha he' hbc rfl k o hf hf'
 rw[zg hb]at he
 by_cases hc:c=a
 ·subst hc
  rw[zh]at he'
  obtain rfl:Ent.map m'=e':=by simpa using he'
  exact h.sep b c e _ he ha hbc ho k o hf hf'
 rw[zg hc]at he'
 exact h.sep b c e e' he he' hbc ho k o hf hf'
theorem zF.write (h:zF ρ M w) (ha:zG M a=some (.mem true sp ls))
  (hw:yX (ρ.pos a).1 ((ρ.pos a).2+q) nc w w') (hq:q+nc.length<=zL ls+sp) (hc':zC ρ ls' cs') (htot:zL ls'+sp'=zL ls+sp)
  (hcs:∀cs,zC ρ ls cs->(∀(j:Nat) (v:Value),cs[j]? =some v->w.cell? ⟨(ρ.pos a).1,(ρ.pos a).2+j,none⟩=some v)->∀(j:Nat) (v:Value),cs'[j]? =some v->w'.cell? ⟨(ρ.pos a).1,(ρ.pos a).2+j,none⟩=some v):
  zF ρ ((a,.mem true sp' ls')::M) w'/\aV ρ M ρ ((a,.mem true sp' ls')::M) w w':=by
 obtain⟨cs,c1,c2,c3,c4⟩:=h.sat a _ ha
 have c4:=c4 rfl
 have hfoot:∀k o,eJ (ρ.pos a) (.mem true sp' ls') k o↔eJ (ρ.pos a) (.mem true sp ls) k o:=by
  intro k o;simp only[eJ,if_true,htot]
 have hin:∀p,(ρ.pos a).2+q<=p->p<(ρ.pos a).2+q+nc.length->eJ (ρ.pos a) (.mem true sp ls) (ρ.pos a).1 p:=by
  intro p h1 h2;exact⟨rfl,by omega,by simp only[if_true];omega⟩
 have hout:∀k p,¬eJ (ρ.pos a) (.mem true sp ls) k p->w'.cell? ⟨k,p,none⟩=w.cell? ⟨k,p,none⟩:=by
  intro k p hn
  refine hw.old k p λhk=>?_
  subst hk
  rcases lt_or_ge p ((ρ.pos a).2+q)with h1|h1
  ·exact Or.inl h1
  rcases lt_or_ge p ((ρ.pos a).2+q+nc.length)with h2|h2
  ·exact absurd (hin p h1 h2) hn
  exact Or.inr h2
 have ownN:∀b o,eU ρ ((a,.mem true sp' ls')::M) b o->eU ρ M b o:=by
  intro b o ho
  obtain⟨c,e,he,hown,hf⟩:=ho
  by_cases hc:c=a
  ·subst hc
   rw[zh]at he
   obtain rfl:Ent.mem true sp' ls'=e:=by simpa using he
   exact⟨c,_,ha,rfl,(hfoot b o).1 hf⟩
  rw[zg hc]at he
  exact⟨c,e,he,hown,hf⟩
 refine⟨⟨?_,?_,?_,?_,λb o ls hi=>(h.imm b o ls hi).keep (λ_ _ _ h=>h) (by rw[hw.size];exact le_refl _) (λj hj=>hout _ _ λhf=>h.isep b (o+j) (rE.mk hi hj) ⟨a,_,ha,rfl,hf⟩),
  λb o hi ho=>h.isep b o hi (ownN b o ho),h.gl⟩,?_⟩
 ·intro b hb
  by_cases hne:b=a
  ·subst hne;exact⟨_,zh _ _ _⟩
  rw[zg hne];exact h.dom b hb
 ·intro b e he
  by_cases hne:b=a
  ·subst hne;exact h.mod _ _ ha
  rw[zg hne]at he;exact h.mod b e he
 ·intro b e he
  by_cases hne:b=a
  ·subst hne
   rw[zh]at he
   obtain rfl:Ent.mem true sp' ls'=e:=by simpa using he
   refine⟨cs',hc',⟨by rw[hw.size];simp only[if_true,htot]at c2⊢;exact c2.1,λhh=>by cases hh⟩,hcs cs c1 c3,λ_ j hj=>?_⟩
   rw[htot]at hj
   refine⟨?_,by rw[hw.frz];exact(c4 j hj).2⟩
   rcases lt_or_ge j q with h1|h1
   ·rw[hw.old _ _ (λ_=>Or.inl (by omega))];exact(c4 j hj).1
   rcases lt_or_ge j (q+nc.length)with h2|h2
   ·refine⟨nc[j-q],?_⟩
    have:=hw.new (j-q) nc[j-q] (by simp)
    rw[show(ρ.pos b).2+q+(j-q)=(ρ.pos b).2+j by omega]at this
    exact this
   rw[hw.old _ _ (λ_=>Or.inr (by omega))];exact(c4 j hj).1
  rw[zg hne]at he
  refine mB.of_same (Env.le_refl _) (by rw[hw.size];exact le_refl _) (λk o hf=>⟨hout k o λhf'=>?_,hw.frz k o⟩) (λk hk hf=>?_) (h.sat b e he)
  ·exact h.sep a b _ e ha he (λe=>hne e.symm) rfl k o hf' hf
  rcases Nat.eq_zero_or_pos nc.length with hz|hz
  ·by_cases hba:k=(ρ.pos a).1
   ·exact hw.blk0 hz k
   exact hw.blk k hba
  refine hw.blk k λhba=>?_
  subst hba
  exact h.sep a b _ e ha he (λe=>hne e.symm) rfl _ _ (hin ((ρ.pos a).2+q) (le_refl _) (by omega)) (hf _)
 ·intro b c e e' he he' hbc ho k o hf hf'
  by_cases hb:b=a
  ·subst hb
   have hc:c≠b:=λe=>hbc e.symm
   rw[zh]at he
   obtain rfl:Ent.mem true sp' ls'=e:=by simpa using he
   rw[zg hc]at he'
   exact h.sep b c _ e' ha he' hbc rfl k o ((hfoot k o).1 hf) hf'
  rw[zg hb]at he
  by_cases hc:c=a
  ·subst hc
   rw[zh]at he'
   obtain rfl:Ent.mem true sp' ls'=e':=by simpa using he'
   exact h.sep b c e _ he ha hbc ho k o hf ((hfoot k o).1 hf')
  rw[zg hc]at he'
  exact h.sep b c e e' he he' hbc ho k o hf hf'
 refine⟨by rw[hw.size];exact le_refl _,hw.os,hw.output,λb hb hn=>?_,λb o hb hn=>⟨?_,hw.frz b o⟩,λb o _ ho=>ownN b o ho,λ_ _ _ h=>Or.inl h⟩
 ·rcases Nat.eq_zero_or_pos nc.length with hz|hz
  ·by_cases hba:b=(ρ.pos a).1
   ·exact hw.blk0 hz b
   exact hw.blk b hba
  refine hw.blk b λhba=>?_
  subst hba
  exact hn ((ρ.pos a).2+q) ⟨a,_,ha,rfl,hin _ (le_refl _) (by omega)⟩
 exact hout b o λhf=>hn ⟨a,_,ha,rfl,hf⟩
def yQ:SV->Bool
 | .tt| .ff| .bool _| .u8 _| .u16 _| .u32 _| .u64 _| .i _ _| .str _| .nilp| .nsl| .nilmp| .raw _| .isl _ _ _ _| .iep _ _ _ _=>true
 | .a8 _| .a16 _| .a32 _| .a64 _| .ai _=>true
 |_=>false
def aIO (v:SV):SV:=
 match v with
 | .tt=>.bool True
 | .ff=>.bool False
 |v=>v
theorem qV (h:cg ρ v x):cg ρ (aIO v) x:=by
 cases v<;>first|exact h|exact⟨true,h,by simp⟩|exact⟨false,h,by simp⟩
theorem aIN:aq (aIO v)=aq v:=by cases v<;>rfl
theorem yH (h:fb ρ v cs):fb ρ (aIO v) cs:=by
 cases v<;>first
  |exact h
  |(obtain⟨x,h1,h2⟩:=h;exact⟨x,qV (v:=.tt) h1,h2⟩)
  |(obtain⟨x,h1,h2⟩:=h;exact⟨x,qV (v:=.ff) h1,h2⟩)
def aRV (l:List (Nat×SV)):List (Nat×SV):=
 match l with
 |[(s,v)]=>[(s,aIO v)]
 |l=>l
theorem yI (h:bH ρ l cs):bH ρ (aRV l) cs:=by
 match l,h with
 |[],h=>exact h
 |[(s,v)],⟨c1,c2,e,hl,h1,h2⟩=>exact⟨c1,c2,e,hl,yH h1,h2⟩
 |_::_::_,h=>exact h
def yR:List (Nat×SV)->Bool
 |[]=>true
 |(_,v)::r=>yQ v&&yR r
def nh:List (Nat×SV)->Bool
 |[]=>true
 |(_,v)::r=>!cw v&&nh r
theorem qW (hv:yQ v=true) (h:zD ρ v cs):fb ρ.bare v cs:=by
 cases v<;>first|exact h|(cases hv;done)
theorem aIW (hv:yQ v=true) (h:cg ρ v x):cg ρ.bare v x:=by
 cases v<;>first|exact h|(cases hv;done)
theorem dW:∀{ls:List (Nat×SV)} (_:yR ls=true) {cs:List Value},zC ρ ls cs->bH ρ.bare ls cs
 |[],_,_,h=>h
 |(_,_)::_,hb,_,⟨c1,c2,e,hl,h1,h2⟩=>by
  simp only[yR,zbA]at hb
  exact⟨c1,c2,e,hl,qW hb.1 h1,dW hb.2 h2⟩
theorem pU:∀{ls:List (Nat×SV)} (_:nh ls=true) {cs:List Value},zC ρ ls cs->bH ρ ls cs
 |[],_,_,h=>h
 |(_,v)::_,hb,_,⟨c1,c2,e,hl,h1,h2⟩=>by
  simp only[nh,zbA,Bool.not_eq_true']at hb
  refine⟨c1,c2,e,hl,?_,pU hb.2 h2⟩
  cases v<;>first|exact h1|(cases hb.1;done)
def ow (u:SV) (s off:Nat) (i:Option Nat) (v:SV):Option (List Prop×SV):=
 match u,v with
 | .a8 l,.u8 b=>match i with
  |none=>bif blt off s then some ([],.a8 (l.set off b))else none
  |some i=>match off with
   |0=>some ([i<s],.a8 (l.set i b))
   |o=>some ([i+o<s],.a8 (l.set (i+o) b))
 | .a16 l,.u16 b=>match i with
  |none=>bif blt off s then some ([],.a16 (l.set off b))else none
  |some i=>match off with
   |0=>some ([i<s],.a16 (l.set i b))
   |o=>some ([i+o<s],.a16 (l.set (i+o) b))
 | .a32 l,.u32 b=>match i with
  |none=>bif blt off s then some ([],.a32 (l.set off b))else none
  |some i=>match off with
   |0=>some ([i<s],.a32 (l.set i b))
   |o=>some ([i+o<s],.a32 (l.set (i+o) b))
 | .a64 l,.u64 b=>match i with
  |none=>bif blt off s then some ([],.a64 (l.set off b))else none
  |some i=>match off with
   |0=>some ([i<s],.a64 (l.set i b))
   |o=>some ([i+o<s],.a64 (l.set (i+o) b))
 | .ai l,.i .i64 b=>match i with
  |none=>bif blt off s then some ([],.ai (l.set off b))else none
  |some i=>match off with
   |0=>some ([i<s],.ai (l.set i b))
   |o=>some ([i+o<s],.ai (l.set (i+o) b))
 | .arr n es F,v=>match i with
  |none=>none
  |some j=>match es with
   |1=>match off with
    |0=>bif yQ v&& !aq v then some ([j<n],.arr n 1 (λq=>if q=j then[(1,aIO v)]else F q))else none
    |_=>none
   |_=>none
 |u,v=>bif aq u then none else match i,off with
  |none,0=>match v with
   | .und| .agg _| .tup _| .arr _ _ _=>none
   |v=>bif aq v then none else some ([],v)
  |_,_=>none
def gT (u:SV) (s off:Nat) (i:Option Nat) (n:Nat) (v:SV):Option (List Prop×SV):=
 match u,v with
 | .a8 l,.a8 m=>match i with
  |none=>match off with
   |0=>bif beq n s then some ([m.length=n],.a8 m)else bif ble n s then some ([m.length=n],.a8 (m++l.drop n))else none
   |o=>bif ble (o+n) s then some ([m.length=n],.a8 (l.take o++m++l.drop (o+n)))else none
  |some i=>match off with
   |0=>some ([m.length=n,i+n<=s],.a8 (l.take i++m++l.drop (i+n)))
   |o=>some ([m.length=n,i+o+n<=s],.a8 (l.take (i+o)++m++l.drop (i+o+n)))
 | .a16 l,.a16 m=>match i with
  |none=>match off with
   |0=>bif beq n s then some ([m.length=n],.a16 m)else bif ble n s then some ([m.length=n],.a16 (m++l.drop n))else none
   |o=>bif ble (o+n) s then some ([m.length=n],.a16 (l.take o++m++l.drop (o+n)))else none
  |some i=>match off with
   |0=>some ([m.length=n,i+n<=s],.a16 (l.take i++m++l.drop (i+n)))
   |o=>some ([m.length=n,i+o+n<=s],.a16 (l.take (i+o)++m++l.drop (i+o+n)))
 | .a32 l,.a32 m=>match i with
  |none=>match off with
   |0=>bif beq n s then some ([m.length=n],.a32 m)else bif ble n s then some ([m.length=n],.a32 (m++l.drop n))else none
   |o=>bif ble (o+n) s then some ([m.length=n],.a32 (l.take o++m++l.drop (o+n)))else none
  |some i=>match off with
   |0=>some ([m.length=n,i+n<=s],.a32 (l.take i++m++l.drop (i+n)))
   |o=>some ([m.length=n,i+o+n<=s],.a32 (l.take (i+o)++m++l.drop (i+o+n)))
 | .a64 l,.a64 m=>match i with
  |none=>match off with
   |0=>bif beq n s then some ([m.length=n],.a64 m)else bif ble n s then some ([m.length=n],.a64 (m++l.drop n))else none
   |o=>bif ble (o+n) s then some ([m.length=n],.a64 (l.take o++m++l.drop (o+n)))else none
  |some i=>match off with
   |0=>some ([m.length=n,i+n<=s],.a64 (l.take i++m++l.drop (i+n)))
   |o=>some ([m.length=n,i+o+n<=s],.a64 (l.take (i+o)++m++l.drop (i+o+n)))
 | .ai l,.ai m=>match i with
  |none=>match off with
   |0=>bif beq n s then some ([m.length=n],.ai m)else bif ble n s then some ([m.length=n],.ai (m++l.drop n))else none
   |o=>bif ble (o+n) s then some ([m.length=n],.ai (l.take o++m++l.drop (o+n)))else none
  |some i=>match off with
   |0=>some ([m.length=n,i+n<=s],.ai (l.take i++m++l.drop (i+n)))
   |o=>some ([m.length=n,i+o+n<=s],.ai (l.take (i+o)++m++l.drop (i+o+n)))
 |_,_=>none
def aVF (s:Nat) (u:SV) (r:Option (List Prop×List (Nat×SV))):Option (List Prop×List (Nat×SV)):=
 match r with
 |some (ps,l)=>some (ps,(s,u)::l)
 |none=>none
def vH (s:Nat) (r:List (Nat×SV)) (o:Option (List Prop×SV)):Option (List Prop×List (Nat×SV)):=
 match o with
 |some (ps,u)=>some (ps,(s,u)::r)
 |none=>none
def rN (ls:List (Nat×SV)) (f:Nat) (i:Option Nat) (y:Ty) (v:SV):Option (List Prop×List (Nat×SV)):=
  match ls with
  |[]=>none
  |(s,u)::r=>
    match f with
    |0=>bif bZ y.k then
        (bif aq u&&aq v then vH s r (gT u s 0 i y.size v)else match i with
          |none=>match iM y v with
            |some (ps,l)=>bif rH ((s,u)::r) y.size&&rH l y.size then some (ps,l)else bif beq (zL l) y.size then match aKL ((s,u)::r) 0 l with
              |some l'=>some (ps,l')
              |none=>none
              else none
            |none=>none
          |some _=>none)
        else bif beq y.size 1 then vH s r (ow u s 0 i v)else none
    |f+1=>bif blt (f+1) s then
        (bif bZ y.k then(bif aq u&&aq v then vH s r (gT u s (f+1) i y.size v)else none)
         else bif beq y.size 1 then vH s r (ow u s (f+1) i v)else none)
        else aVF s u (rN r (f+1-s) i y v)
theorem mQ {α:Type} (l:List α) (i:Nat) (x:α) (h:i<l.length):l.set i x=l.take i++[x]++l.drop (i+1):=by
 rw[List.set_eq_take_append_cons_drop,if_pos h];simp
theorem sR (hc:zD ρ u c) (hs:c.length=s) (hx:zRT ρ v x)
  (h:ow u s off i v=some (ps,z)) (hp:All ps):
  off+i.getD 0<s/\one x/\zD ρ z (c.take (off+i.getD 0)++[x]++c.drop (off+i.getD 0+1)):=by
 unfold ow at h
 split at h
 ·rename_i l b
  obtain rfl:c=l.map w8:=hc
  obtain rfl:x=w8 b:=hx
  rw[length_map]at hs
  have key:∀j,j<s->zD ρ (.a8 (l.set j b)) ((l.map w8).take j++[w8 b]++(l.map w8).drop (j+1)):=by
   intro j hj
   show _=_
   rw[map_set,mQ _ _ _ (by simp;omega)]
  split at h
  ·obtain⟨hb,h⟩:=zn h
   obtain⟨rfl,rfl⟩:=sB h
   have:=ay hb
   exact⟨by simpa using this,trivial,by simpa using key off this⟩
  rename_i j
  split at h<;>simp only[zoI,zpI]at h<;>obtain⟨rfl,rfl⟩:=h
  ·have:=hp.head
   exact⟨by simpa using this,trivial,by simpa using key j this⟩
  have:=hp.head
  refine⟨by simp;omega,trivial,?_⟩
  rw[show∀o:Nat,o+(some j).getD 0=j+o by intro o;simp[add_comm]]
  exact key _ this
 ·rename_i l b
  obtain rfl:c=l.map w16:=hc
  obtain rfl:x=w16 b:=hx
  rw[length_map]at hs
  have key:∀j,j<s->zD ρ (.a16 (l.set j b)) ((l.map w16).take j++[w16 b]++(l.map w16).drop (j+1)):=by
   intro j hj
   show _=_
   rw[map_set,mQ _ _ _ (by simp;omega)]
  split at h
  ·obtain⟨hb,h⟩:=zn h
   obtain⟨rfl,rfl⟩:=sB h
   have:=ay hb
   exact⟨by simpa using this,trivial,by simpa using key off this⟩
  rename_i j
  split at h<;>simp only[zoI,zpI]at h<;>obtain⟨rfl,rfl⟩:=h
  ·have:=hp.head
   exact⟨by simpa using this,trivial,by simpa using key j this⟩
  have:=hp.head
  refine⟨by simp;omega,trivial,?_⟩
  rw[show∀o:Nat,o+(some j).getD 0=j+o by intro o;simp[add_comm]]
  exact key _ this
 ·rename_i l b
  obtain rfl:c=l.map w32:=hc
  obtain rfl:x=w32 b:=hx
  rw[length_map]at hs
  have key:∀j,j<s->zD ρ (.a32 (l.set j b)) ((l.map w32).take j++[w32 b]++(l.map w32).drop (j+1)):=by
   intro j hj
   show _=_
   rw[map_set,mQ _ _ _ (by simp;omega)]
  split at h
  ·obtain⟨hb,h⟩:=zn h
   obtain⟨rfl,rfl⟩:=sB h
   have:=ay hb
   exact⟨by simpa using this,trivial,by simpa using key off this⟩
  rename_i j
  split at h<;>simp only[zoI,zpI]at h<;>obtain⟨rfl,rfl⟩:=h
  ·have:=hp.head
   exact⟨by simpa using this,trivial,by simpa using key j this⟩
  have:=hp.head
  refine⟨by simp;omega,trivial,?_⟩
  rw[show∀o:Nat,o+(some j).getD 0=j+o by intro o;simp[add_comm]]
  exact key _ this
 ·rename_i l b
  obtain rfl:c=l.map w64:=hc
  obtain rfl:x=w64 b:=hx
  rw[length_map]at hs
  have key:∀j,j<s->zD ρ (.a64 (l.set j b)) ((l.map w64).take j++[w64 b]++(l.map w64).drop (j+1)):=by
   intro j hj
   show _=_
   rw[map_set,mQ _ _ _ (by simp;omega)]
  split at h
  ·obtain⟨hb,h⟩:=zn h
   obtain⟨rfl,rfl⟩:=sB h
   have:=ay hb
   exact⟨by simpa using this,trivial,by simpa using key off this⟩
  rename_i j
  split at h<;>simp only[zoI,zpI]at h<;>obtain⟨rfl,rfl⟩:=h
  ·have:=hp.head
   exact⟨by simpa using this,trivial,by simpa using key j this⟩
  have:=hp.head
  refine⟨by simp;omega,trivial,?_⟩
  rw[show∀o:Nat,o+(some j).getD 0=j+o by intro o;simp[add_comm]]
  exact key _ this
 ·rename_i l b
  obtain rfl:c=l.map wi:=hc
  obtain rfl:x=wi b:=hx
  rw[length_map]at hs
  have key:∀j,j<s->zD ρ (.ai (l.set j b)) ((l.map wi).take j++[wi b]++(l.map wi).drop (j+1)):=by
   intro j hj
   show _=_
   rw[map_set,mQ _ _ _ (by simp;omega)]
  split at h
  ·obtain⟨hb,h⟩:=zn h
   obtain⟨rfl,rfl⟩:=sB h
   have:=ay hb
   exact⟨by simpa using this,trivial,by simpa using key off this⟩
  rename_i j
  split at h<;>simp only[zoI,zpI]at h<;>obtain⟨rfl,rfl⟩:=h
  ·have:=hp.head
   exact⟨by simpa using this,trivial,by simpa using key j this⟩
  have:=hp.head
  refine⟨by simp;omega,trivial,?_⟩
  rw[show∀o:Nat,o+(some j).getD 0=j+o by intro o;simp[add_comm]]
  exact key _ this
 ·rename_i n es F
  split at h
  ·cases h
  rename_i j
  split at h
  ·split at h
   ·rcases zs h with⟨hv,h⟩|⟨_,h⟩
    ·obtain⟨rfl,rfl⟩:=sB h
     simp only[zbA,Bool.not_eq_true']at hv
     have hj:=hp.head
     obtain⟨r1,r2⟩:=hc
     have hrs:cg ρ v x:=by
      cases v<;>first|exact hx|(cases hv.1;done)|(cases hv.2;done)
     have hlen:(c.take j++[x]++c.drop (j+1)).length=n*1:=by
      simp only[zlA,zlT,zlD,List.length_singleton];omega
     have hset:c.take j++[x]++c.drop (j+1)=c.set j x:=(mQ c j x (by omega)).symm
     refine⟨by simp;omega,hrs.one,?_⟩
     simp only[Option.getD_some,zero_add]
     refine⟨hlen,λq hq=>?_⟩
     rw[hset]
     have hget:((c.set j x).drop (q*1)).take 1=[(c.set j x)[q]'(by simp;omega)]:=by
      rw[Nat.mul_one,List.drop_eq_getElem_cons (by simp;omega),List.take_succ_cons,List.take_zero]
     by_cases hqj:q=j
     ·subst hqj
      simp only[if_true]
      rw[hget]
      refine⟨[x],[],by simp,rfl,?_,rfl⟩
      exact(qg (aIN.trans hv.2)).2 ⟨x,qV (aIW hv.1 hrs),rfl⟩
     simp only[if_neg hqj]
     rw[hget,List.getElem_set_ne (λe=>hqj e.symm)]
     have:=r2 q hq
     rw[Nat.mul_one,List.drop_eq_getElem_cons (by omega),List.take_succ_cons,List.take_zero]at this
     exact this
    cases h
   cases h
  cases h
 rename_i hu0 _ _ _ _ _ hrow
 obtain⟨hu,h⟩:aq u=false/\_:=by
  rcases zs h with⟨_,h⟩|⟨h1,h⟩
  ·cases h
  exact⟨h1,h⟩
 have hlen:c.length=1:=by
  have hr:cw u=false:=by
   cases u<;>first|rfl|(exfalso;simp_all;done)
  obtain⟨y,_,rfl⟩:=(bo hu hr).1 hc
  rfl
 split at h
 ·split at h
  ·cases h
  ·cases h
  ·cases h
  ·cases h
  rename_i hn1 hn2 hn3 hn4
  obtain⟨hv,h⟩:aq v=false/\_:=by
   rcases zs h with⟨_,h⟩|⟨h1,h⟩
   ·cases h
   exact⟨h1,h⟩
  obtain⟨rfl,rfl⟩:=sB h
  have hrs:cg ρ v x/\zD ρ v [x]:=by
   cases v<;>first
    |exact⟨hx,x,hx,rfl⟩
    |(exfalso;simp_all [aq];done)
    |(exfalso;first|exact hn1 rfl|exact hn2 _ rfl|exact hn3 _ rfl|exact hn4 _ _ _ rfl)
  refine⟨by simp;omega,hrs.1.one,?_⟩
  have e:c.drop 1=[]:=drop_of_length_le (by omega)
  simpa [e]using hrs.2
 cases h
theorem ns (hc:zD ρ u c) (hs:c.length=s) (hx:zRT ρ v x)
  (h:gT u s off i n v=some (ps,z)) (hp:All ps):
  off+i.getD 0+n<=s/\x.cells.size=n/\(∀y∈x.cells.toList,one y)/\zD ρ z (c.take (off+i.getD 0)++x.cells.toList++c.drop (off+i.getD 0+n)):=by
 unfold gT at h
 split at h
 ·rename_i l m
  obtain rfl:c=l.map w8:=hc
  obtain rfl:x= .agg (m.map w8).toArray:=hx
  rw[length_map]at hs
  have ho:∀y∈(Value.agg (m.map w8).toArray).cells.toList,one y:=by
   intro y hy
   simp only[Value.cells]at hy
   obtain⟨_,_,rfl⟩:=List.mem_map.1 hy
   trivial
  have key:∀j,zD ρ (.a8 (l.take j++m++l.drop (j+n))) ((l.map w8).take j++(Value.agg (m.map w8).toArray).cells.toList++(l.map w8).drop (j+n)):=by
   intro j
   show _=_
   simp[Value.cells,map_take,map_drop]
  split at h
  ·split at h
   ·rcases zs h with⟨hb,h⟩|⟨_,h⟩
    ·obtain⟨rfl,rfl⟩:=sB h
     have:=hp.head
     have:=zq hb
     refine⟨by simp;omega,by simp[Value.cells];omega,ho,?_⟩
     have k:=key 0
     rw[drop_of_length_le (by omega)]at k
     simpa using k
    obtain⟨hb,h⟩:=zn h
    obtain⟨rfl,rfl⟩:=sB h
    have:=hp.head
    have:=aX hb
    refine⟨by simp;omega,by simp[Value.cells];omega,ho,?_⟩
    have k:=key 0
    simpa using k
   obtain⟨hb,h⟩:=zn h
   obtain⟨rfl,rfl⟩:=sB h
   have:=hp.head
   have:=aX hb
   exact⟨by simp;omega,by simp[Value.cells];omega,ho,key _⟩
  rename_i j
  split at h<;>simp only[zoI,zpI]at h<;>obtain⟨rfl,rfl⟩:=h
  ·have:=hp.head
   have:=hp.tail.head
   refine⟨by simp;omega,by simp[Value.cells];omega,ho,?_⟩
   rw[show 0+(some j).getD 0=j by simp]
   exact key j
  have:=hp.head
  have:=hp.tail.head
  refine⟨by simp;omega,by simp[Value.cells];omega,ho,?_⟩
  rw[show∀o:Nat,o+(some j).getD 0=j+o by intro o;simp[add_comm]]
  exact key _
 ·rename_i l m
  obtain rfl:c=l.map w16:=hc
  obtain rfl:x= .agg (m.map w16).toArray:=hx
  rw[length_map]at hs
  have ho:∀y∈(Value.agg (m.map w16).toArray).cells.toList,one y:=by
   intro y hy
   simp only[Value.cells]at hy
   obtain⟨_,_,rfl⟩:=List.mem_map.1 hy
   trivial
  have key:∀j,zD ρ (.a16 (l.take j++m++l.drop (j+n))) ((l.map w16).take j++(Value.agg (m.map w16).toArray).cells.toList++(l.map w16).drop (j+n)):=by
   intro j
   show _=_
   simp[Value.cells,map_take,map_drop]
  split at h
  ·split at h
   ·rcases zs h with⟨hb,h⟩|⟨_,h⟩
    ·obtain⟨rfl,rfl⟩:=sB h
     have:=hp.head
     have:=zq hb
     refine⟨by simp;omega,by simp[Value.cells];omega,ho,?_⟩
     have k:=key 0
     rw[drop_of_length_le (by omega)]at k
     simpa using k
    obtain⟨hb,h⟩:=zn h
    obtain⟨rfl,rfl⟩:=sB h
    have:=hp.head
    have:=aX hb
    refine⟨by simp;omega,by simp[Value.cells];omega,ho,?_⟩
    have k:=key 0
    simpa using k
   obtain⟨hb,h⟩:=zn h
   obtain⟨rfl,rfl⟩:=sB h
   have:=hp.head
   have:=aX hb
   exact⟨by simp;omega,by simp[Value.cells];omega,ho,key _⟩
  rename_i j
  split at h<;>simp only[zoI,zpI]at h<;>obtain⟨rfl,rfl⟩:=h
  ·have:=hp.head
   have:=hp.tail.head
   refine⟨by simp;omega,by simp[Value.cells];omega,ho,?_⟩
   rw[show 0+(some j).getD 0=j by simp]
   exact key j
  have:=hp.head
  have:=hp.tail.head
  refine⟨by simp;omega,by simp[Value.cells];omega,ho,?_⟩
  rw[show∀o:Nat,o+(some j).getD 0=j+o by intro o;simp[add_comm]]
  exact key _
 ·rename_i l m
  obtain rfl:c=l.map w32:=hc
  obtain rfl:x= .agg (m.map w32).toArray:=hx
  rw[length_map]at hs
  have ho:∀y∈(Value.agg (m.map w32).toArray).cells.toList,one y:=by
   intro y hy
   simp only[Value.cells]at hy
   obtain⟨_,_,rfl⟩:=List.mem_map.1 hy
   trivial
  have key:∀j,zD ρ (.a32 (l.take j++m++l.drop (j+n))) ((l.map w32).take j++(Value.agg (m.map w32).toArray).cells.toList++(l.map w32).drop (j+n)):=by
   intro j
   show _=_
   simp[Value.cells,map_take,map_drop]
  split at h
  ·split at h
   ·rcases zs h with⟨hb,h⟩|⟨_,h⟩
    ·obtain⟨rfl,rfl⟩:=sB h
     have:=hp.head
     have:=zq hb
     refine⟨by simp;omega,by simp[Value.cells];omega,ho,?_⟩
     have k:=key 0
     rw[drop_of_length_le (by omega)]at k
     simpa using k
    obtain⟨hb,h⟩:=zn h
    obtain⟨rfl,rfl⟩:=sB h
    have:=hp.head
    have:=aX hb
    refine⟨by simp;omega,by simp[Value.cells];omega,ho,?_⟩
    have k:=key 0
    simpa using k
   obtain⟨hb,h⟩:=zn h
   obtain⟨rfl,rfl⟩:=sB h
   have:=hp.head
   have:=aX hb
   exact⟨by simp;omega,by simp[Value.cells];omega,ho,key _⟩
  rename_i j
  split at h<;>simp only[zoI,zpI]at h<;>obtain⟨rfl,rfl⟩:=h
  ·have:=hp.head
   have:=hp.tail.head
   refine⟨by simp;omega,by simp[Value.cells];omega,ho,?_⟩
   rw[show 0+(some j).getD 0=j by simp]
   exact key j
  have:=hp.head
  have:=hp.tail.head
  refine⟨by simp;omega,by simp[Value.cells];omega,ho,?_⟩
  rw[show∀o:Nat,o+(some j).getD 0=j+o by intro o;simp[add_comm]]
  exact key _
 ·rename_i l m
  obtain rfl:c=l.map w64:=hc
  obtain rfl:x= .agg (m.map w64).toArray:=hx
  rw[length_map]at hs
  have ho:∀y∈(Value.agg (m.map w64).toArray).cells.toList,one y:=by
   intro y hy
   simp only[Value.cells]at hy
   obtain⟨_,_,rfl⟩:=List.mem_map.1 hy
   trivial
  have key:∀j,zD ρ (.a64 (l.take j++m++l.drop (j+n))) ((l.map w64).take j++(Value.agg (m.map w64).toArray).cells.toList++(l.map w64).drop (j+n)):=by
   intro j
   show _=_
   simp[Value.cells,map_take,map_drop]
  split at h
  ·split at h
   ·rcases zs h with⟨hb,h⟩|⟨_,h⟩
    ·obtain⟨rfl,rfl⟩:=sB h
     have:=hp.head
     have:=zq hb
     refine⟨by simp;omega,by simp[Value.cells];omega,ho,?_⟩
     have k:=key 0
     rw[drop_of_length_le (by omega)]at k
     simpa using k
    obtain⟨hb,h⟩:=zn h
    obtain⟨rfl,rfl⟩:=sB h
    have:=hp.head
    have:=aX hb
    refine⟨by simp;omega,by simp[Value.cells];omega,ho,?_⟩
    have k:=key 0
    simpa using k
   obtain⟨hb,h⟩:=zn h
   obtain⟨rfl,rfl⟩:=sB h
   have:=hp.head
   have:=aX hb
   exact⟨by simp;omega,by simp[Value.cells];omega,ho,key _⟩
  rename_i j
  split at h<;>simp only[zoI,zpI]at h<;>obtain⟨rfl,rfl⟩:=h
  ·have:=hp.head
   have:=hp.tail.head
   refine⟨by simp;omega,by simp[Value.cells];omega,ho,?_⟩
   rw[show 0+(some j).getD 0=j by simp]
   exact key j
  have:=hp.head
  have:=hp.tail.head
  refine⟨by simp;omega,by simp[Value.cells];omega,ho,?_⟩
  rw[show∀o:Nat,o+(some j).getD 0=j+o by intro o;simp[add_comm]]
  exact key _
 ·rename_i l m
  obtain rfl:c=l.map wi:=hc
  obtain rfl:x= .agg (m.map wi).toArray:=hx
  rw[length_map]at hs
  have ho:∀y∈(Value.agg (m.map wi).toArray).cells.toList,one y:=by
   intro y hy
   simp only[Value.cells]at hy
   obtain⟨_,_,rfl⟩:=List.mem_map.1 hy
   trivial
  have key:∀j,zD ρ (.ai (l.take j++m++l.drop (j+n))) ((l.map wi).take j++(Value.agg (m.map wi).toArray).cells.toList++(l.map wi).drop (j+n)):=by
   intro j
   show _=_
   simp[Value.cells,map_take,map_drop]
  split at h
  ·split at h
   ·rcases zs h with⟨hb,h⟩|⟨_,h⟩
    ·obtain⟨rfl,rfl⟩:=sB h
     have:=hp.head
     have:=zq hb
     refine⟨by simp;omega,by simp[Value.cells];omega,ho,?_⟩
     have k:=key 0
     rw[drop_of_length_le (by omega)]at k
     simpa using k
    obtain⟨hb,h⟩:=zn h
    obtain⟨rfl,rfl⟩:=sB h
    have:=hp.head
    have:=aX hb
    refine⟨by simp;omega,by simp[Value.cells];omega,ho,?_⟩
    have k:=key 0
    simpa using k
   obtain⟨hb,h⟩:=zn h
   obtain⟨rfl,rfl⟩:=sB h
   have:=hp.head
   have:=aX hb
   exact⟨by simp;omega,by simp[Value.cells];omega,ho,key _⟩
  rename_i j
  split at h<;>simp only[zoI,zpI]at h<;>obtain⟨rfl,rfl⟩:=h
  ·have:=hp.head
   have:=hp.tail.head
   refine⟨by simp;omega,by simp[Value.cells];omega,ho,?_⟩
   rw[show 0+(some j).getD 0=j by simp]
   exact key j
  have:=hp.head
  have:=hp.tail.head
  refine⟨by simp;omega,by simp[Value.cells];omega,ho,?_⟩
  rw[show∀o:Nat,o+(some j).getD 0=j+o by intro o;simp[add_comm]]
  exact key _
 cases h
theorem aEQ {α:Type} (c1 c2 nc:List α) (q n:Nat) (h:q+n<=c1.length):(c1.take q++nc++c1.drop (q+n))++c2=(c1++c2).take q++nc++(c1++c2).drop (q+n):=by
 rw[List.take_append_of_le_length (by omega),List.drop_append_of_le_length h];simp
theorem aJ7 {α:Type} (c1 c2 nc:List α) (q n:Nat):c1++(c2.take q++nc++c2.drop (q+n))=(c1++c2).take (c1.length+q)++nc++(c1++c2).drop (c1.length+q+n):=by
 have e1:(c1++c2).take (c1.length+q)=c1++c2.take q:=by
  rw[List.take_append,List.take_of_length_le (l:=c1) (by omega),Nat.add_sub_cancel_left]
 have e2:(c1++c2).drop (c1.length+q+n)=c2.drop (q+n):=by
  rw[List.drop_append,drop_of_length_le (l:=c1) (by omega),show c1.length+q+n-c1.length=q+n by omega,nil_append]
 rw[e1,e2];simp
theorem fl:∀{ls:List (Nat×SV)} {cs:List Value} (_:zC ρ ls cs) {f:Nat} {i:Option Nat} {y:Ty} {v:SV} {x:Value} (_:zRT ρ v x) {ps:List Prop} {l:List (Nat×SV)},
  rN ls f i y v=some (ps,l)->All ps->
   f+i.getD 0+y.size<=cs.length/\x.cells.size=y.size/\(∀z∈x.cells.toList,one z)/\zL l=zL ls/\zC ρ l (cs.take (f+i.getD 0)++x.cells.toList++cs.drop (f+i.getD 0+y.size))
 |[],_,_,_,_,_,_,_,_,_,_,h,_=>by simp[rN]at h
 | (s,u)::r,cs,hc,f,i,y,v,x,hx,ps,l,h,hp=>by
  have hc0:=hc
  obtain⟨c1,c2,rfl,h1,h2,h3⟩:=hc
  have hsplice:∀{off:Nat},vH s r (gT u s off i y.size v)=some (ps,l)->
    off+i.getD 0+y.size<=(c1++c2).length/\x.cells.size=y.size/\(∀z∈x.cells.toList,one z)/\zL l=zL ((s,u)::r)/\zC ρ l ((c1++c2).take (off+i.getD 0)++x.cells.toList++(c1++c2).drop (off+i.getD 0+y.size)):=by
   intro off h
   unfold vH at h
   split at h
   ·rename_i qs z hz
    obtain⟨rfl,rfl⟩:=sB h
    obtain⟨q1,q2,q3,q4⟩:=ns h2 h1 hx hz hp
    have hl:x.cells.toList.length=y.size:=by simpa using q2
    refine⟨by simp;omega,q2,q3,rfl,?_⟩
    rw[<-aEQ _ _ _ _ _ (by omega)]
    exact⟨_,c2,rfl,by simp;omega,q4,h3⟩
   cases h
  have hset:∀{off:Nat},y.size=1->vH s r (ow u s off i v)=some (ps,l)->
    off+i.getD 0+y.size<=(c1++c2).length/\x.cells.size=y.size/\(∀z∈x.cells.toList,one z)/\zL l=zL ((s,u)::r)/\zC ρ l ((c1++c2).take (off+i.getD 0)++x.cells.toList++(c1++c2).drop (off+i.getD 0+y.size)):=by
   intro off hy h
   unfold vH at h
   split at h
   ·rename_i qs z hz
    obtain⟨rfl,rfl⟩:=sB h
    obtain⟨q1,q2,q4⟩:=sR h2 h1 hx hz hp
    have hcell:x.cells= #[x]:=um q2
    rw[hcell,hy]
    refine⟨by simp;omega,rfl,by simpa using q2,rfl,?_⟩
    show zC ρ _ (_++[x]++_)
    rw[<-aEQ _ _ _ _ _ (by omega)]
    exact⟨_,c2,rfl,by simp;omega,q4,h3⟩
   cases h
  unfold rN at h
  split at h
  ·rcases zs h with⟨_,h⟩|⟨_,h⟩
   ·rcases zs h with⟨_,h⟩|⟨_,h⟩
    ·exact hsplice h
    split at h
    ·split at h
     ·rename_i qs l' hl'
      rcases zs h with⟨hb2,h⟩|⟨_,h⟩
      ·obtain⟨rfl,rfl⟩:=sB h
       simp only[zbA]at hb2
       have hsz:=jp hb2.2
       have hcell:=b9 hx hl' hp
       have hlen:x.cells.toList.length=y.size:=by rw[hcell.length,hsz]
       have e2:=hc0.length
       have e3:zL ((s,u)::r)=y.size:=jp hb2.1
       rw[e3]at e2
       simp only[getD_none,Nat.add_zero,zero_add,List.take_zero,nil_append]
       rw[drop_of_length_le (by rw[e2];exact le_refl _),append_nil]
       exact⟨by rw[e2];exact le_refl _,by simpa using hlen,hcell.one,by rw[hsz,e3],hcell⟩
      obtain⟨hb,h⟩:=zn h
      have hsz:=zq hb
      split at h
      ·rename_i l'' hput
       obtain⟨rfl,rfl⟩:=sB h
       have hcell:=b9 hx hl' hp
       obtain⟨p1,p2⟩:=ge hcell hc0 hput
       have hlen:x.cells.toList.length=y.size:=by rw[hcell.length,hsz]
       rw[hlen]at p1 p2
       refine⟨by simpa using p2,by simpa using hlen,hcell.one,?_,by simpa using p1⟩
       have e1:=p1.length
       have e2:=hc0.length
       simp only[zlA,zlT,zlD]at e1 e2 p2
       rw[<-e1,<-e2]
       omega
      cases h
     cases h
    cases h
   obtain⟨hb,h⟩:=zn h
   exact hset (zq hb) h
  rename_i g
  rcases zs h with⟨hb,h⟩|⟨hb,h⟩
  ·rcases zs h with⟨_,h⟩|⟨_,h⟩
   ·obtain⟨_,h⟩:=zn h
    exact hsplice h
   obtain⟨hb,h⟩:=zn h
   exact hset (zq hb) h
  have hge:s<=g+1:=by
   rcases lt_or_ge (g+1) s with hl|hl
   ·have:blt (g+1) s=true:=by simpa [Nat.blt_eq]using hl
    rw[this]at hb;cases hb
   exact hl
  unfold aVF at h
  split at h
  ·rename_i qs l' hl'
   obtain⟨rfl,rfl⟩:=sB h
   obtain⟨q1,q2,q3,q4,q5⟩:=fl h3 hx hl' hp
   refine⟨by simp;omega,q2,q3,by simp only[zL,q4],?_⟩
   have e:=aJ7 c1 c2 x.cells.toList (g+1-s+i.getD 0) y.size
   rw[show c1.length+(g+1-s+i.getD 0)=g+1+i.getD 0 by omega]at e
   rw[<-e]
   exact⟨c1,_,rfl,h1,h2,q5⟩
  cases h
def aEG (ls:List (Nat×SV)) (f q s:Nat) (y:Ty) (v:SV):Option (List Prop×List (Nat×SV)):=
 match ls with
 | [(t,.arr m es F)]=>bif beq es s then match iM y v with
   |some (ps,l)=>bif yR l&&beq (zL l) y.size then match aKL (F q) f l with
     |some l'=>bif nh l' then some ((q<m)::ps,[(t,.arr m es (λj=>if j=q then l' else F j))])else none
     |none=>none
    else none
   |none=>none
  else none
 |_=>none
theorem nU (hc:zC ρ ls cs) (hx:zRT ρ v x)
  (h:aEG ls f q s y v=some (ps,l)) (hp:All ps):
   f+q*s+y.size<=cs.length/\x.cells.size=y.size/\(∀z∈x.cells.toList,one z)/\zL l=zL ls/\zC ρ l (cs.take (f+q*s)++x.cells.toList++cs.drop (f+q*s+y.size)):=by
 unfold aEG at h
 split at h
 ·rename_i t m es F
  have hes:=zq (zn h).1
  replace h:=(zn h).2
  subst hes
  split at h
  ·rename_i qs nl hnl
   have hb:=(zn h).1
   replace h:=(zn h).2
   simp only[zbA]at hb
   have hsz:=zq hb.2
   split at h
   ·rename_i l' hput
    have hnr:=(zn h).1
    replace h:=(zn h).2
    obtain⟨rfl,rfl⟩:=sB h
    have hq:=hp.head
    obtain⟨c1,c2,rfl,h1,h2,h3⟩:=hc
    have e2:c2=[]:=h3
    subst e2
    simp only[append_nil]
    obtain⟨r1,r2⟩:=h2
    have hcell:=b9 hx hnl hp.tail
    have hlen:x.cells.toList.length=y.size:=by rw[hcell.length,hsz]
    have hbig:(q+1)*es<=m*es:=Nat.mul_le_mul_right _ hq
    rw[add_mul,one_mul]at hbig
    have hrow:((c1.drop (q*es)).take es).length=es:=by rw[zlT,zlD,r1];omega
    obtain⟨p1,p2⟩:=ge (di (dW hb.1 hcell)) (di (r2 q hq)) hput
    rw[hlen]at p1 p2
    rw[hrow]at p2
    have hnew:=pU hnr p1
    have hwhole:c1.take (f+q*es)++x.cells.toList++c1.drop (f+q*es+y.size)=
      c1.take (q*es)++(((c1.drop (q*es)).take es).take f++x.cells.toList++((c1.drop (q*es)).take es).drop (f+y.size))++c1.drop (q*es+es):=by
     have a1:c1.take (f+q*es)=c1.take (q*es)++((c1.drop (q*es)).take es).take f:=by
      rw[List.take_take,Nat.min_eq_left (by omega),add_comm f,List.take_add]
     have a2:c1.drop (f+q*es+y.size)=((c1.drop (q*es)).take es).drop (f+y.size)++c1.drop (q*es+es):=by
      rw[List.drop_take,drop_drop]
      have:c1.drop (q*es+es)=(c1.drop (q*es+(f+y.size))).drop (es-(f+y.size)):=by
       rw[drop_drop];congr 1;omega
      rw[this,show q*es+(f+y.size)=f+q*es+y.size by omega,List.take_append_drop]
     rw[a1,a2];simp
    have hrl:(((c1.drop (q*es)).take es).take f++x.cells.toList++((c1.drop (q*es)).take es).drop (f+y.size)).length=es:=by
     simp only[zlA,zlT,zlD,hlen,r1];omega
    refine⟨by omega,by simpa using hlen,hcell.one,rfl,?_⟩
    rw[hwhole]
    refine⟨_,[],(append_nil _).symm,?_,⟨?_,λj hj=>?_⟩,rfl⟩
    ·rw[<-h1,zlA,zlA,hrl,zlT,zlD,r1];omega
    ·rw[zlA,zlA,hrl,zlT,zlD,r1];omega
    by_cases hjq:j=q
    ·subst hjq
     simp only[if_true]
     rw[List.append_assoc,List.drop_append,drop_of_length_le (by simp;omega),nil_append,zlT,Nat.min_eq_left (by omega),Nat.sub_self,List.drop_zero,List.take_append_of_le_length (by omega),List.take_of_length_le (by omega)]
     exact hnew
    simp only[if_neg hjq]
    have hold:=r2 j hj
    have hbj:(j+1)*es<=m*es:=Nat.mul_le_mul_right _ hj
    rw[add_mul,one_mul]at hbj
    rcases lt_or_ge j q with hlt|hge
    ·have hjq2:(j+1)*es<=q*es:=Nat.mul_le_mul_right _ hlt
     rw[add_mul,one_mul]at hjq2
     rw[List.append_assoc,List.drop_append_of_le_length (by rw[zlT];omega),List.take_append_of_le_length (by rw[zlD,zlT];omega),List.drop_take,List.take_take,Nat.min_eq_left (by omega)]
     exact hold
    have hjq2:(q+1)*es<=j*es:=Nat.mul_le_mul_right _ (by omega)
    rw[add_mul,one_mul]at hjq2
    have hl3:(c1.take (q*es)++(((c1.drop (q*es)).take es).take f++x.cells.toList++((c1.drop (q*es)).take es).drop (f+y.size))).length=q*es+es:=by
     rw[zlA,hrl,zlT,Nat.min_eq_left (by omega)]
    rw[List.drop_append,drop_of_length_le (by rw[hl3];omega),nil_append,hl3,drop_drop,show q*es+es+(j*es-(q*es+es))=j*es by omega]
    exact hold
   cases h
  cases h
 cases h
theorem aBM {Γ:Ctx} {N:Nat} {ρ:Env} {T:Tm} {M:Mm} {a:Act} {w:World} (hc:aZ N ρ T M a w) {t:Nat} {x k v:Operand} {ps:List Prop} {b:Nat} {l:List (List UInt8×Int)} (h:aWZ Γ.ty M t (ev T x) (ev T k) (ev T v)=some (ps,b,l)) (hp:All ps):
  ∃w',(Instr.mapUpdate t (a.eval x) (a.eval k) (a.eval v)).run Γ.P w= .ok () w'/\zF ρ ((b,.map (.si l))::M) w'/\aV ρ M ρ ((b,.map (.si l))::M) w w':=by
 unfold aWZ at h
 have hb:=(zn h).1
 replace h:=(zn h).2
 obtain⟨kt,et,ht,hk,_⟩:=pk hb
 have hx:=zev hc x
 have hs:=zev hc k
 have hn:=zev hc v
 split at h
 ·rename_i b0 he
  rw[he]at hx
  obtain⟨_,hv⟩:=hx
  split at h
  ·rename_i l0 hm
   obtain⟨es,clock,h1,h2⟩:=hc.sat _ _ hm
   split at h
   ·rename_i s hes
    rw[hes]at hs
    have hkv:a.eval k= .string ⟨s.toArray⟩:=hs
    split at h
    ·rename_i n hen
     rw[hen]at hn
     have hnv:a.eval v=wi n:=hn
     obtain⟨rfl,rfl,rfl⟩:=sC h
     rw[hv,hkv,hnv]
     obtain⟨k1,k2⟩:=hc.tozF.setMap hm (clock:=clock+1) (aGX h2 s n clock)
     exact⟨_,sW ht hk h1 h2 s hp.head n,k1,k2⟩
    cases h
   cases h
  cases h
 cases h
abbrev Nm:=List (Nat×(Nat×Nat×Option Nat))
def jf (μ:Nm) (a:Nat):Option (Nat×Nat×Option Nat):=
 match μ with
 |[]=>none
 |(b,r)::q=>bif beq a b then some r else jf q a
def aZK (i j:Option Nat):Option Nat:=
 match i,j with
 |none,j=>j
 |some i,none=>some i
 |some i,some j=>some (i+j)
theorem vv (i j:Option Nat):(aZK i j).getD 0=i.getD 0+j.getD 0:=by
 cases i<;>cases j<;>simp[aZK]
def addI (j:Option Nat) (i:Nat):Nat:=
 match j with
 |none=>i
 |some j=>j+i
theorem qc (j:Option Nat) (i:Nat):addI j i=j.getD 0+i:=by cases j<;>simp[addI]
def aNA (μ:Nm) (l:List (Nat×Nat)):Option (List (Nat×Nat)):=
 match l with
 |[]=>some []
 |(a,f)::r=>match jf μ a with
  |some (b,g,none)=>match aNA μ r with
   |some q=>some ((b,g+f)::q)
   |none=>none
  |_=>none
def zx (μ:Nm) (v:SV):SV:=
 match v with
 | .ptr a f i=>match jf μ a with
  |some (b,g,j)=>.ptr b (g+f) (aZK j i)
  |none=>.und
 | .sl a f i n c=>match jf μ a with
  |some (b,g,j)=>.sl b (g+f) (addI j i) n c
  |none=>.und
 | .slx a f i n=>match jf μ a with
  |some (b,g,j)=>.slx b (g+f) (addI j i) n
  |none=>.und
 | .fn f cap=>match aNA μ cap with
  |some q=>.fn f q
  |none=>.und
 | .mp a=>match jf μ a with
  |some (b,0,none)=>.mp b
  |_=>.und
 | .ep a f q s=>match jf μ a with
  |some (b,g,none)=>.ep b (g+f) q s
  |_=>.und
 | .agg _| .tup _=>.und
 |v=>v
def zy (μ:Nm) (ls:List (Nat×SV)):Option (List (Nat×SV)):=
 match ls with
 |[]=>some []
 |(s,v)::r=>match zx μ v with
  | .und=>none
  |v'=>match zy μ r with
   |some q=>some ((s,v')::q)
   |none=>none
def zz (μ:Nm) (v:SV):SV:=
 match v with
 | .agg ls=>match zy μ ls with
  |some l=>.agg l
  |none=>.und
 |v=>zx μ v
def ren (μ:Nm) (v:SV):SV:=
 match v with
 | .tup vs=>.tup (vs.map (zz μ))
 |v=>zz μ v
structure aDA (μ:Nm) (ρ ρ':Env):Prop where
 to:∀a b g j,jf μ a=some (b,g,j)->ρ.dom a->ρ'.dom b/\(ρ'.pos b).1=(ρ.pos a).1/\(ρ'.pos b).2+(g+j.getD 0)=(ρ.pos a).2
 im:∀b o ls,ρ.imm b o ls->ρ'.imm b o ls
instance (μ:Nm) (ρ ρ':Env):CoeFun (aDA μ ρ ρ') (fun _=>∀ a b g j,jf μ a = some (b,g,j)->ρ.dom a->ρ'.dom b/\(ρ'.pos b).1 = (ρ.pos a).1/\(ρ'.pos b).2 + (g + j.getD 0) = (ρ.pos a).2):=⟨aDA.to⟩
theorem aDA.addr (h:aDA μ ρ ρ') (hl:jf μ a=some (b,g,j)) (ha:ρ.dom a) (f i:Nat):
  ρ'.addr b (g+f) (j.getD 0+i)=ρ.addr a f i:=by
 obtain⟨_,h1,h2⟩:=h a b g j hl ha
 unfold Env.addr
 rw[h1];congr 1;omega
theorem rW (h:aDA μ ρ ρ'):∀{l q:List (Nat×Nat)},aNA μ l=some q->(∀p∈l,ρ.dom p.1)->
  (∀p∈q,ρ'.dom p.1)/\(q.map λp=>Value.pointer (some (ρ'.addr p.1 p.2 0)))=(l.map λp=>Value.pointer (some (ρ.addr p.1 p.2 0)))
 |[],q,e,_=>by simp only[aNA,zoI]at e;subst e;exact⟨λp hp=>absurd hp (by simp),rfl⟩
 | (a,f)::r,q,e,hd=>by
  simp only[aNA]at e
  split at e
  ·rename_i b g hl
   split at e
   ·rename_i q' hq
    simp only[zoI]at e;subst e
    obtain⟨h1,h2⟩:=rW h hq (λp hp=>hd p (by simp[hp]))
    have ha:=hd (a,f) (by simp)
    refine⟨λp hp=>?_,?_⟩
    ·rcases List.mem_cons.1 hp with rfl|hp
     ·exact(h a b g none hl ha).1
     exact h1 p hp
    simp only[map_cons,h2]
    congr 3
    exact h.addr hl ha f 0
   cases e
  cases e
theorem aKI (h:aDA μ ρ ρ') (hr:cg ρ v x):zx μ v= .und\/cg ρ' (zx μ v) x:=by
 unfold zx
 split
 ·rename_i a f i
  split
  ·rename_i b g j hl
   obtain⟨ha,rfl⟩:=hr
   exact Or.inr ⟨(h a b g j hl ha).1,by rw[vv,h.addr hl ha]⟩
  exact Or.inl rfl
 ·rename_i a f i n c
  split
  ·rename_i b g j hl
   obtain⟨ha,hnc,y,rfl,hy⟩:=hr
   exact Or.inr ⟨(h a b g j hl ha).1,hnc,y,rfl,λhc=>by rw[qc,h.addr hl ha,hy hc]⟩
  exact Or.inl rfl
 ·rename_i a f i n
  split
  ·rename_i b g j hl
   obtain⟨ha,c,y,hnc,rfl,hy⟩:=hr
   exact Or.inr ⟨(h a b g j hl ha).1,c,y,hnc,rfl,λhc=>by rw[qc,h.addr hl ha,hy hc]⟩
  exact Or.inl rfl
 ·rename_i f cap
  split
  ·rename_i q hq
   obtain⟨h1,rfl⟩:=hr
   obtain⟨h2,h3⟩:=rW h hq h1
   exact Or.inr ⟨h2,by rw[h3]⟩
  exact Or.inl rfl
 ·rename_i a
  split
  ·rename_i b hl
   obtain⟨ha,rfl⟩:=hr
   obtain⟨h1,h2,_⟩:=h a b 0 none hl ha
   exact Or.inr ⟨h1,by rw[h2]⟩
  exact Or.inl rfl
 ·rename_i a f q s
  split
  ·rename_i b g hl
   obtain⟨ha,rfl⟩:=hr
   refine Or.inr ⟨(h a b g none hl ha).1,?_⟩
   have:=h.addr hl ha f (q*s)
   simp only[getD_none,zero_add]at this
   rw[this]
  exact Or.inl rfl
 ·exact Or.inl rfl
 ·exact Or.inl rfl
 rename_i h1 h2 h3 h4 h5 h6 h7 h8
 cases v<;>first
  |exact Or.inr hr
  |(refine Or.inr ?_;obtain⟨b,o,c,x',h0,e1⟩:=hr;exact⟨b,o,c,x',h0.mono h.im,e1⟩)
  |(refine Or.inr ?_;obtain⟨b,o,e,hi⟩:=hr;exact⟨b,o,e,hi.mono h.im⟩)
  |exact absurd rfl (h8 _)
  |exact absurd rfl (h6 _ _ _ _)
  |exact absurd rfl (h1 _ _ _)
  |exact absurd rfl (h2 _ _ _ _ _)
  |exact absurd rfl (h3 _ _ _ _)
  |exact absurd rfl (h4 _ _)
  |exact absurd rfl (h5 _)
  |exact absurd rfl (h6 _)
  |exact absurd rfl (h7 _)
theorem rV (h:aDA μ ρ ρ') (hr:cg ρ v x) (hu:zx μ v≠ .und):cg ρ' (zx μ v) x:=
 (aKI h hr).resolve_left hu
theorem sb (h:aq v=true):zx μ v=v:=by
 cases v<;>first|rfl|cases h
theorem dY (hv:aq v=false) (hw:cw v=false):zD ρ v cs↔∃x,cg ρ v x/\cs=[x]:=bo hv hw
theorem y9 (h:cw v=true):zx μ v=v:=by
 cases v<;>first|rfl|cases h
theorem nO (him:∀b o ls,ρ.imm b o ls->ρ'.imm b o ls) (hv:cw v=true) (h:zD ρ v cs):zD ρ' v cs:=by
 cases v<;>first|exact⟨h.1,λq hq=>(h.2 q hq).le (Env.bare_mono him)⟩|(cases hv;done)
theorem pD (h:cw v=false):cw (zx μ v)=false:=by
 cases v<;>simp only[zx]<;>(try first|rfl|cases h)<;>(repeat' split)<;>rfl
theorem sK (hv:aq v=true) (h:zD ρ v cs):zD ρ' v cs:=by
 cases v<;>first|exact h|cases hv
theorem jv (h:aq v=false):aq (zx μ v)=false:=by
 cases v<;>simp only[zx]<;>(try first|rfl|cases h)<;>(repeat' split)<;>rfl
theorem aBS (h:aDA μ ρ ρ') (hr:zD ρ v cs) (hu:zx μ v≠ .und):zD ρ' (zx μ v) cs:=by
 cases hv:aq v with
 |true=>rw[sb hv];exact sK hv hr
 |false=>
  cases hw:cw v with
  |true=>rw[y9 hw];exact nO h.im hw hr
  |false=>
   rw[dY hv hw]at hr
   rw[dY (jv hv) (pD hw)]
   obtain⟨x,hx,e⟩:=hr
   exact⟨x,rV h hx hu,e⟩
theorem gd (h:aDA μ ρ ρ'):∀{ls l:List (Nat×SV)} {cs:List Value},zC ρ ls cs->zy μ ls=some l->zC ρ' l cs
 |[],l,cs,hc,e=>by simp only[zy,zoI]at e;subst e;exact hc
 |(s,v)::r,l,cs,hc,e=>by
  obtain⟨c1,c2,rfl,h1,h2,h3⟩:=hc
  simp only[zy]at e
  split at e
  ·cases e
  rename_i hu
  split at e
  ·rename_i q hq
   simp only[zoI]at e;subst e
   exact⟨c1,c2,rfl,h1,aBS h h2 hu,gd h h3 hq⟩
  cases e
theorem kk:∀{ls l:List (Nat×SV)},zy μ ls=some l->zL l=zL ls
 |[],l,e=>by simp only[zy,zoI]at e;subst e;rfl
 |(s,v)::r,l,e=>by
  simp only[zy]at e
  split at e
  ·cases e
  split at e
  ·rename_i q hq
   simp only[zoI]at e;subst e
   simp only[zL,kk hq]
  cases e
theorem rX (h:aDA μ ρ ρ') (hr:Rel ρ v x):Rel ρ' (zz μ v) x:=by
 by_cases hu:zz μ v= .und
 ·rw[hu];trivial
 cases hv:aq v with
 |true=>
  have:zz μ v=v:=by cases v<;>first|rfl|cases hv
  rw[this]
  cases v<;>first|exact hr|cases hv
 |false=>
  unfold zz at *
  split
  ·rename_i ls
   split
   ·rename_i l hl
    obtain⟨cs,hc,e⟩:=hr
    exact⟨cs,gd h hc hl,e⟩
   trivial
  rename_i hn
  have hs:zx μ v≠ .und:=by
   intro e;apply hu;split
   ·rename_i ls;exact absurd rfl (hn ls)
   exact e
  have hrs:cg ρ v x:=by
   cases v<;>first|exact hr|(exact absurd rfl hs;done)|(exact absurd rfl (hn _);done)|(cases hv;done)
  exact iS (rV h hrs hs)
theorem pE (h:aDA μ ρ ρ'):∀{vs:List SV} {xs:List Value},nM ρ vs xs->nM ρ' (vs.map (zz μ)) xs
 |[],_,hr=>hr
 |_::_,_,⟨x,ys,e,h1,h2⟩=>⟨x,ys,e,rX h h1,pE h h2⟩
theorem aE6 (h:aDA μ ρ ρ') (hr:zRT ρ v x):zRT ρ' (ren μ v) x:=by
 unfold ren
 split
 ·obtain⟨xs,h1,e⟩:=hr
  exact⟨xs,pE h h1,e⟩
 rename_i hn
 exact zR (rX h (hr.s hn))
def aPI (i j:Option Nat):List Prop:=
 match i,j with
 |none,none=>[]
 |some i,some j=>[i=j]
 |none,some j=>[j=0]
 |some i,none=>[i=0]
theorem w7 (h:All (aPI i j)):i.getD 0=j.getD 0:=by
 cases i<;>cases j<;>simp only[aPI]at h<;>first|rfl|exact h.head|exact h.head.symm
def aSH:List (Nat×Nat)->List (Nat×Nat)->Bool
 |[],[]=>true
 |(a,f)::r,(b,g)::q=>beq a b&&beq f g&&aSH r q
 |_,_=>false
theorem sG:∀{l q:List (Nat×Nat)},aSH l q=true->l=q
 |[],[],_=>rfl
 |(a,f)::r,(b,g)::q,h=>by
  simp only[aSH,zbA]at h
  rw[zq h.1.1,zq h.1.2,sG h.2]
 |[],_::_,h=>by simp[aSH]at h
 |_::_,[],h=>by simp[aSH]at h
def yz (ls ls':List (Nat×SV)):List Prop:=
 match ls,ls' with
 |[(a,.a8 l)],[(b,.a8 m)]=>[a=b,l=m]
 |[(a,.ai l)],[(b,.ai m)]=>[a=b,l=m]
 |[(a,.arr n es F)],[(b,.arr m es' G)]=>[a=b,n=m,es=es',F=G]
 |ls,ls'=>[ls=ls']
theorem nV (h:All (yz ls ls')):ls=ls':=by
 unfold yz at h
 split at h
 ·rw[h.head,h.tail.head]
 ·rw[h.head,h.tail.head]
 ·rw[h.head,h.tail.head,h.tail.tail.head,h.tail.tail.tail.head]
 exact h.head
def same (u v:SV):Option (List Prop):=
 match u with
 | .tt=>match v with
  | .tt=>some []
  | .bool p=>some [p]
  |_=>none
 | .ff=>match v with
  | .ff=>some []
  | .bool p=>some [¬p]
  |_=>none
 | .bool p=>match v with
  | .tt=>some [p]
  | .ff=>some [¬p]
  | .bool q=>some [p↔q]
  |_=>none
 | .u8 a=>match v with
  | .u8 b=>some [a=b]
  |_=>none
 | .u16 a=>match v with
  | .u16 b=>some [a=b]
  |_=>none
 | .u32 a=>match v with
  | .u32 b=>some [a=b]
  |_=>none
 | .u64 a=>match v with
  | .u64 b=>some [a=b]
  |_=>none
 | .i k a=>match v with
  | .i j b=>bif k==j then some [a=b]else none
  |_=>none
 | .str a=>match v with
  | .str b=>some [a=b]
  |_=>none
 | .ptr a f i=>match v with
  | .ptr b g j=>bif beq a b&&beq f g then some (aPI i j)else none
  |_=>none
 | .nilp=>match v with
  | .nilp=>some []
  |_=>none
 | .sl a f i n c=>match v with
  | .sl b g j m d=>bif beq a b&&beq f g then some [i=j,n=m,c=d]else none
  |_=>none
 | .slx a f i n=>match v with
  | .sl b g j m _=>bif beq a b&&beq f g then some [i=j,n=m]else none
  | .slx b g j m=>bif beq a b&&beq f g then some [i=j,n=m]else none
  |_=>none
 | .nsl=>match v with
  | .nsl=>some []
  |_=>none
 | .a8 a=>match v with
  | .a8 b=>some [a=b]
  |_=>none
 | .a16 a=>match v with
  | .a16 b=>some [a=b]
  |_=>none
 | .a32 a=>match v with
  | .a32 b=>some [a=b]
  |_=>none
 | .a64 a=>match v with
  | .a64 b=>some [a=b]
  |_=>none
 | .ai a=>match v with
  | .ai b=>some [a=b]
  |_=>none
 | .fn f c=>match v with
  | .fn g d=>bif beq f g&&aSH c d then some []else none
  |_=>none
 | .mp a=>match v with
  | .mp b=>bif beq a b then some []else none
  |_=>none
 | .nilmp=>match v with
  | .nilmp=>some []
  |_=>none
 | .raw a=>match v with
  | .raw b=>some [a=b]
  |_=>none
 | .isl q n s ls=>match v with
  | .isl q' n' s' ls'=>some ((q=q')::(n=n')::(s=s')::yz ls ls')
  | .nsl=>some [n=0,aJH ls]
  |_=>none
 | .iep f q s ls=>match v with
  | .iep f' q' s' ls'=>some ((f=f')::(q=q')::(s=s')::yz ls ls')
  |_=>none
 | .ep a f q s=>match v with
  | .ep b g q' s'=>bif beq a b&&beq f g then some [q=q',s=s']else none
  |_=>none
 |_=>none
theorem aJ8 (h:same u v=some ps):cw u=false/\cw v=false:=by
 unfold same at h
 split at h<;>first|(cases h;done)|(split at h<;>first|exact⟨rfl,rfl⟩|(cases h;done))
theorem sT (h:same u v=some ps):aq u=aq v:=by
 unfold same at h
 split at h<;>first|(cases h;done)|(split at h<;>first|rfl|(cases h;done))
theorem oz (h:same u v=some ps) (hp:All ps) (ha:aq v=true):u=v:=by
 have hu:=sT h
 rw[ha]at hu
 cases u<;>simp only[aq,reduceCtorEq]at hu<;>cases v<;>simp only[same,zoI,reduceCtorEq]at h<;>subst h<;>rw[hp.head]
theorem rQ (h:same u v=some ps) (hp:All ps) (hr:cg ρ v x):cg ρ u x:=by
 unfold same at h
 split at h
 ·split at h<;>simp only[zoI,reduceCtorEq]at h<;>subst h
  ·exact hr
  obtain⟨b,rfl,hb⟩:=hr
  rw[hb.2 hp.head];rfl
 ·split at h<;>simp only[zoI,reduceCtorEq]at h<;>subst h
  ·exact hr
  obtain⟨b,rfl,hb⟩:=hr
  cases b with
  |true=>exact absurd (hb.1 rfl) hp.head
  |false=>rfl
 ·split at h<;>simp only[zoI,reduceCtorEq]at h<;>subst h
  ·exact⟨true,hr,by simp[hp.head]⟩
  ·exact⟨false,hr,by simp[hp.head]⟩
  obtain⟨b,rfl,hb⟩:=hr
  exact⟨b,rfl,hb.trans hp.head.symm⟩
 ·split at h<;>simp only[zoI,reduceCtorEq]at h;subst h;rw[hp.head];exact hr
 ·split at h<;>simp only[zoI,reduceCtorEq]at h;subst h;rw[hp.head];exact hr
 ·split at h<;>simp only[zoI,reduceCtorEq]at h;subst h;rw[hp.head];exact hr
 ·split at h<;>simp only[zoI,reduceCtorEq]at h;subst h;rw[hp.head];exact hr
 ·split at h
  ·obtain⟨hb,h⟩:=zn h
   simp only[zoI]at h;subst h
   rename_i k _ _ j _
   have e:k=j:=by simpa using hb
   rw[hp.head,e];exact hr
  cases h
 ·split at h<;>simp only[zoI,reduceCtorEq]at h;subst h;rw[hp.head];exact hr
 ·split at h
  ·obtain⟨hb,h⟩:=zn h
   simp only[zbA]at hb
   simp only[zoI]at h;subst h
   have e:=w7 hp
   obtain⟨h1,h2⟩:=hr
   refine⟨by rw[zq hb.1];exact h1,?_⟩
   rw[zq hb.1,zq hb.2,e];exact h2
  cases h
 ·split at h<;>simp only[zoI,reduceCtorEq]at h;exact hr
 ·split at h
  ·obtain⟨hb,h⟩:=zn h
   simp only[zbA]at hb
   simp only[zoI]at h;subst h
   rw[hp.head,hp.tail.head,hp.tail.tail.head,zq hb.1,zq hb.2];exact hr
  cases h
 ·split at h
  ·obtain⟨hb,h⟩:=zn h
   simp only[zbA]at hb
   simp only[zoI]at h;subst h
   rw[hp.head,hp.tail.head,zq hb.1,zq hb.2]
   obtain⟨h1,h2,y,h3,h4⟩:=hr
   exact⟨h1,_,y,h2,h3,h4⟩
  ·obtain⟨hb,h⟩:=zn h
   simp only[zbA]at hb
   simp only[zoI]at h;subst h
   rw[hp.head,hp.tail.head,zq hb.1,zq hb.2];exact hr
  cases h
 ·split at h<;>simp only[zoI,reduceCtorEq]at h;exact hr
 ·split at h<;>simp only[zoI,reduceCtorEq]at h;exact hr.elim
 ·split at h<;>simp only[zoI,reduceCtorEq]at h;exact hr.elim
 ·split at h<;>simp only[zoI,reduceCtorEq]at h;exact hr.elim
 ·split at h<;>simp only[zoI,reduceCtorEq]at h;exact hr.elim
 ·split at h<;>simp only[zoI,reduceCtorEq]at h;exact hr.elim
 ·split at h
  ·obtain⟨hb,h⟩:=zn h
   simp only[zbA]at hb
   rw[zq hb.1,sG hb.2];exact hr
  cases h
 ·split at h
  ·obtain⟨hb,h⟩:=zn h
   rw[zq hb];exact hr
  cases h
 ·split at h<;>simp only[zoI,reduceCtorEq]at h;exact hr
 ·split at h<;>simp only[zoI,reduceCtorEq]at h;subst h;rw[hp.head];exact hr
 ·split at h<;>simp only[zoI,reduceCtorEq]at h<;>subst h
  ·rw[hp.head,hp.tail.head,hp.tail.tail.head,nV hp.tail.tail.tail];exact hr
  rw[hp.head]
  exact⟨0,0,0,none,Or.inr hp.tail.head,le_refl _,hr,λhc=>absurd rfl hc⟩
 ·split at h<;>simp only[zoI,reduceCtorEq]at h;subst h
  rw[hp.head,hp.tail.head,hp.tail.tail.head,nV hp.tail.tail.tail];exact hr
 ·split at h
  ·obtain⟨hb,h⟩:=zn h
   simp only[zbA]at hb
   simp only[zoI]at h;subst h
   rw[hp.head,hp.tail.head,zq hb.1,zq hb.2];exact hr
  cases h
 cases h
def aJ9 (u v:SV):Option (List Prop):=
 match u with
 | .arr n es F=>match v with
  | .arr m es' G=>some [n=m,es=es',∀q,q<n->F q=G q]
  |_=>none
 |u=>same u v
theorem o6 (h:aJ9 u v=some ps) (hp:All ps) (hr:zD ρ v cs):zD ρ u cs:=by
 unfold aJ9 at h
 split at h
 ·split at h
  ·simp only[zoI]at h;subst h
   obtain⟨r1,r2⟩:=hr
   have e1:=hp.head
   have e2:=hp.tail.head
   have e3:=hp.tail.tail.head
   subst e1;subst e2
   exact⟨r1,λq hq=>by rw[e3 q hq];exact r2 q hq⟩
  cases h
 have hw:=aJ8 h
 cases hv:aq v with
 |true=>rw[oz h hp hv];exact hr
 |false=>
  rw[dY hv hw.2]at hr
  rw[dY (by rw[sT h];exact hv) hw.1]
  obtain⟨x,hx,e⟩:=hr
  exact⟨x,rQ h hp hx,e⟩
structure yZ (μ:Nm) (ρ0 ρ:Env):Prop where
 to:∀a b g j,jf μ a=some (b,g,j)->ρ.dom b->ρ0.dom a/\(ρ.pos b).1=(ρ0.pos a).1/\(ρ.pos b).2+(g+j.getD 0)=(ρ0.pos a).2
 im:∀b o ls,ρ.imm b o ls->ρ0.imm b o ls
theorem yZ.addr (h:yZ μ ρ0 ρ) (hl:jf μ a=some (b,g,j)) (hb:ρ.dom b) (f i:Nat):
  ρ.addr b (g+f) (j.getD 0+i)=ρ0.addr a f i:=by
 obtain⟨_,h1,h2⟩:=h.to a b g j hl hb
 unfold Env.addr
 rw[h1];congr 1;omega
theorem uX (h:yZ μ ρ0 ρ):∀{l q:List (Nat×Nat)},aNA μ l=some q->(∀p∈q,ρ.dom p.1)->
  (∀p∈l,ρ0.dom p.1)/\(l.map λp=>Value.pointer (some (ρ0.addr p.1 p.2 0)))=(q.map λp=>Value.pointer (some (ρ.addr p.1 p.2 0)))
 |[],q,e,_=>by simp only[aNA,zoI]at e;subst e;exact⟨λp hp=>absurd hp (by simp),rfl⟩
 | (a,f)::r,q,e,hd=>by
  simp only[aNA]at e
  split at e
  ·rename_i b g hl
   split at e
   ·rename_i q' hq
    simp only[zoI]at e;subst e
    obtain⟨h1,h2⟩:=uX h hq (λp hp=>hd p (by simp[hp]))
    have hb:=hd (b,g+f) (by simp)
    refine⟨λp hp=>?_,?_⟩
    ·rcases List.mem_cons.1 hp with rfl|hp
     ·exact(h.to a b g none hl hb).1
     exact h1 p hp
    simp only[map_cons,h2]
    congr 3
    exact(h.addr hl hb f 0).symm
   cases e
  cases e
theorem uW (h:yZ μ ρ0 ρ) (hr:cg ρ (zx μ v) x):cg ρ0 v x:=by
 unfold zx at hr
 split at hr
 ·rename_i a f i
  split at hr
  ·rename_i b g j hl
   obtain⟨hb,rfl⟩:=hr
   refine⟨(h.to a b g j hl hb).1,?_⟩
   rw[vv,h.addr hl hb]
  exact hr.elim
 ·rename_i a f i n c
  split at hr
  ·rename_i b g j hl
   obtain⟨hb,hnc,y,rfl,hy⟩:=hr
   refine⟨(h.to a b g j hl hb).1,hnc,y,rfl,λhc=>?_⟩
   rw[hy hc,qc,h.addr hl hb]
  exact hr.elim
 ·rename_i a f i n
  split at hr
  ·rename_i b g j hl
   obtain⟨hb,c,y,hnc,rfl,hy⟩:=hr
   refine⟨(h.to a b g j hl hb).1,c,y,hnc,rfl,λhc=>?_⟩
   rw[hy hc,qc,h.addr hl hb]
  exact hr.elim
 ·rename_i f cap
  split at hr
  ·rename_i q hq
   obtain⟨h1,rfl⟩:=hr
   obtain⟨h2,h3⟩:=uX h hq h1
   exact⟨h2,by rw[h3]⟩
  exact hr.elim
 ·rename_i a
  split at hr
  ·rename_i b hl
   obtain⟨hb,rfl⟩:=hr
   obtain⟨h1,h2,_⟩:=h.to a b 0 none hl hb
   exact⟨h1,by rw[h2]⟩
  exact hr.elim
 ·rename_i a f q s
  split at hr
  ·rename_i b g hl
   obtain⟨hb,rfl⟩:=hr
   refine⟨(h.to a b g none hl hb).1,?_⟩
   have:=h.addr hl hb f (q*s)
   simp only[getD_none,zero_add]at this
   rw[this]
  exact hr.elim
 ·exact hr.elim
 ·exact hr.elim
 rename_i h1 h2 h3 h4 h5 h6 h7 h8
 cases v<;>first
  |exact hr
  |(obtain⟨b,o,c,x',h0,e1⟩:=hr;exact⟨b,o,c,x',h0.mono h.im,e1⟩)
  |(obtain⟨b,o,e,hi⟩:=hr;exact⟨b,o,e,hi.mono h.im⟩)
  |exact absurd rfl (h8 _)
  |exact absurd rfl (h6 _ _ _ _)
  |exact absurd rfl (h1 _ _ _)
  |exact absurd rfl (h2 _ _ _ _ _)
  |exact absurd rfl (h3 _ _ _ _)
  |exact absurd rfl (h4 _ _)
  |exact absurd rfl (h5 _)
  |exact absurd rfl (h6 _)
  |exact absurd rfl (h7 _)
theorem ij (h:yZ μ ρ0 ρ) (hr:zD ρ (zx μ v) cs):zD ρ0 v cs:=by
 cases hv:aq v with
 |true=>rw[sb hv]at hr;exact sK hv hr
 |false=>
  cases hw:cw v with
  |true=>rw[y9 hw]at hr;exact nO h.im hw hr
  |false=>
   rw[dY (jv hv) (pD hw)]at hr
   rw[dY hv hw]
   obtain⟨x,hx,e⟩:=hr
   exact⟨x,uW h hx,e⟩
def iT (n es:Nat) (F:Nat->List (Nat×SV)) (fuel k:Nat) (ls:List (Nat×SV)):Option (List Prop):=
 match ls with
 |[]=>some [n=k]
 |ls=>match fuel with
  |0=>none
  |fuel+1=>match gy ls es with
   |some c=>match dG ls es with
    |some r=>bif yR c&&nh c&&blt 0 es then match iT n es F fuel (k+1) r with
      |some ps=>some ((F k=c)::ps)
      |none=>none
     else none
    |none=>none
   |none=>none
theorem r8:∀{n:Nat} {ls l:List (Nat×SV)},dG ls n=some l->zL ls=n+zL l:=by
 intro n ls
 induction ls generalizing n with
 |nil=>
  intro l h
  cases n with
  |zero=>simp only[dG,zoI]at h;subst h;simp
  |succ n=>simp[dG]at h
 |cons a r ih=>
  intro l h
  cases n with
  |zero=>simp only[dG,zoI]at h;subst h;simp
  |succ n=>
   obtain⟨s,v⟩:=a
   simp only[dG]at h
   obtain⟨hb,h⟩:=zn h
   have hle:=aX hb
   have:=ih h
   simp only[zL]
   omega
theorem nY:∀{fuel k:Nat} {ls:List (Nat×SV)} {ps:List Prop} {cs:List Value},iT n es F fuel k ls=some ps->All ps->zC ρ ls cs->
  k<=n/\cs.length=(n-k)*es/\zL ls=(n-k)*es/\∀q,q<n-k->bH ρ.bare (F (k+q)) ((cs.drop (q*es)).take es)
 |_,k,[],ps,cs,h,hp,hc=>by
  simp only[iT,zoI]at h;subst h
  have e:=hp.head
  subst e
  have hcs:cs=[]:=hc
  subst hcs
  refine⟨le_refl _,by simp,by simp[zL],λq hq=>by omega⟩
 |0,k,_::_,ps,cs,h,_,_=>by simp[iT]at h
 |fuel+1,k,a::r0,ps,cs,h,hp,hc=>by
  simp only[iT]at h
  split at h
  ·rename_i c hcl
   split at h
   ·rename_i r hr
    have hb:=(zn h).1
    replace h:=(zn h).2
    simp only[zbA]at hb
    split at h
    ·rename_i ps' hps
     simp only[zoI]at h;subst h
     obtain⟨t1,t2⟩:=dK hc hcl
     obtain⟨d1,d2⟩:=dU hc hr
     obtain⟨i1,i2,i3,i4⟩:=nY hps hp.tail d1
     have hds:=r8 hr
     rw[zlD]at i2
     have hnk:(n-k)=(n-(k+1))+1:=by omega
     refine⟨by omega,?_,?_,λq hq=>?_⟩
     ·rw[hnk,add_mul];omega
     ·rw[hnk,add_mul,hds,i3];omega
     cases q with
     |zero=>
      rw[Nat.zero_mul,List.drop_zero,Nat.add_zero,hp.head]
      exact dW hb.1.1 t1
     |succ q=>
      have:=i4 q (by omega)
      rw[drop_drop,show es+q*es=(q+1)*es by rw[add_mul];omega,show k+1+q=k+(q+1) by omega]at this
      exact this
    cases h
   cases h
  cases h
theorem xE (h:iT n es F fuel 0 ls=some ps) (hp:All ps):zL ls=n*es:=by
 have key:∀{fuel k:Nat} {ls:List (Nat×SV)} {ps:List Prop},iT n es F fuel k ls=some ps->All ps->k<=n/\zL ls=(n-k)*es:=by
  intro fuel
  induction fuel with
  |zero=>
   intro k ls ps h hp
   cases ls with
   |nil=>
    simp only[iT,zoI]at h;subst h
    have e:=hp.head
    subst e
    simp[zL]
   |cons a r=>simp[iT]at h
  |succ fuel ih=>
   intro k ls ps h hp
   cases ls with
   |nil=>
    simp only[iT,zoI]at h;subst h
    have e:=hp.head
    subst e
    simp[zL]
   |cons a r0=>
    simp only[iT]at h
    split at h
    ·split at h
     ·rename_i r hr
      replace h:=(zn h).2
      split at h
      ·rename_i ps' hps
       simp only[zoI]at h;subst h
       obtain⟨i1,i2⟩:=ih hps hp.tail
       have hds:=r8 hr
       have hnk:(n-k)=(n-(k+1))+1:=by omega
       refine⟨by omega,?_⟩
       rw[hnk,add_mul,hds,i2];omega
      cases h
     cases h
    cases h
 simpa using(key h hp).2
def aR1 (v:SV) (r ls:List (Nat×SV)):Option (Nat×Nat×(Nat->List (Nat×SV))):=
 match v with
 | .arr n es F=>match r with
  |[]=>match ls with
   |(_,.arr _ _ _)::_=>none
   |_=>some (n,es,F)
  |_=>none
 |_=>none
def gG (μ:Nm) (ls0 ls:List (Nat×SV)):Option (List Prop):=
 match ls0 with
 |[]=>some []
 | (s0,v0)::r0=>match aR1 v0 r0 ls with
  |some (n,es,F)=>match iT n es F ls.length 0 ls with
   |some ps=>some ((s0=n*es)::ps)
   |none=>none
  |none=>match ls with
   |[]=>none
   |(s,v)::r=>match aJ9 (zx μ v0) v with
    |some ps=>match gG μ r0 r with
     |some qs=>some ((s0=s)::(ps++qs))
     |none=>none
    |none=>none
theorem sI (h:aR1 v r ls=some x):v= .arr x.1 x.2.1 x.2.2/\r=[]:=by
 unfold aR1 at h
 split at h
 ·split at h
  ·split at h
   ·cases h
   simp only[zoI]at h;subst h;exact⟨rfl,rfl⟩
  cases h
 cases h
theorem er (h:yZ μ ρ0 ρ):∀{ls0 ls:List (Nat×SV)} {ps:List Prop} {cs:List Value},gG μ ls0 ls=some ps->All ps->zC ρ ls cs->
  zC ρ0 ls0 (cs.take (zL ls0))/\zL ls0<=cs.length
 |[],ls,ps,cs,_,_,_=>⟨by simp[zC,zL],by simp[zL]⟩
 | (s0,v0)::r0,ls,ps,cs,e,hp,hc=>by
  simp only[gG]at e
  split at e
  ·rename_i n es F hrow
   obtain⟨rfl,rfl⟩:=sI hrow
   split at e
   ·rename_i qs hq
    simp only[zoI]at e;subst e
    obtain⟨i1,i2,i3,i4⟩:=nY hq hp.tail hc
    have hs:=hp.head
    simp only[Nat.sub_zero,zero_add]at i2 i3 i4
    simp only[zL,Nat.add_zero]
    rw[hs,<-i2,List.take_length]
    refine⟨⟨cs,[],(append_nil _).symm,by omega,⟨i2,λq hq=>(i4 q hq).le (Env.bare_mono h.im)⟩,rfl⟩,le_refl _⟩
   cases e
  split at e
  ·cases e
  rename_i s v r
  split at e
  ·rename_i qs hq
   split at e
   ·rename_i rs hrs
    simp only[zoI]at e;subst e
    obtain⟨c1,c2,rfl,h1,h2,h3⟩:=hc
    obtain⟨i1,i2⟩:=er h hrs hp.tail.right h3
    have hs:=hp.head
    refine⟨⟨c1,c2.take (zL r0),?_,by omega,ij h (o6 hq hp.tail.left h2),i1⟩,by simp[zL];omega⟩
    simp only[zL]
    rw[List.take_append,List.take_of_length_le (l:=c1) (by omega)]
    congr 2;omega
   cases e
  cases e
theorem ig:∀{ls0 ls:List (Nat×SV)} {ps:List Prop},gG μ ls0 ls=some ps->All ps->ls0.length=ls.length->zL ls0=zL ls
 |[],ls,ps,_,_,hl=>by
  have:ls=[]:=List.eq_nil_of_length_eq_zero hl.symm
  subst this;rfl
 | (s0,v0)::r0,ls,ps,e,hp,hl=>by
  simp only[gG]at e
  split at e
  ·rename_i n es F hrow
   obtain⟨rfl,rfl⟩:=sI hrow
   split at e
   ·rename_i qs hq
    simp only[zoI]at e;subst e
    simp only[zL,Nat.add_zero]
    rw[hp.head]
    exact(xE hq hp.tail).symm
   cases e
  split at e
  ·cases e
  rename_i s v r
  split at e
  ·rename_i qs hq
   split at e
   ·rename_i rs hrs
    simp only[zoI]at e;subst e
    simp only[List.length_cons]at hl
    simp only[zL,hp.head,ig hrs hp.tail.right (by omega)]
   cases e
  cases e
end Go.Sx
