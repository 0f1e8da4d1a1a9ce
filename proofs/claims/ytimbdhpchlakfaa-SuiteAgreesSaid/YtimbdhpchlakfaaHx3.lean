/- A symbolic executor over the code of this model: part 3. No condition. -/
import Derived.Test.YtimbdhpchlakfaaHx2
import Derived.MapKept
import Derived.Laws.World
set_option linter.unusedSimpArgs false
set_option linter.unusedVariables false
namespace Go.Sx
open Go
theorem eqlF_sound {Γ:Ctx} {ρ:Env} (w:World) {ft:Nat} {x y:SV} {vx vy:Value} (hx:RelT ρ x vx) (hy:RelT ρ y vy) {ps:List Prop} {p:Prop} (h:eqlF Γ.ty ft x y = some (ps,p)) (hp:All ps) (d:Nat) :
  ∃ b:Bool,(b = true ↔ p)∧(Op.equalIn (d + 2) ft vx vy).run Γ.P w = .ok b w:=by
 unfold eqlF at h
 split at h
 ·rename_i n e hk
  obtain ⟨hc,h⟩:=bif_none h
  have hs:=beq_eq' hc
  have ot:=Γ.ok (t:=ft) (by rw [hk];simp)
  unfold eqlA at h
  have key:∀ {k:IntKind},(Γ.ty e).k = .int k→∀ l l':List Int,l.length = n→l'.length = n→(Op.equalIn (d + 2) ft (.agg (l.map (Value.int k)).toArray) (.agg (l'.map (Value.int k)).toArray)).run Γ.P w = .ok (l == l') w:=by
   intro k hek l l' h1 h2
   have oe:=Γ.ok (t:=e) (by rw [hek];simp)
   exact run_equalIn_ints w d ft e n k l l' (und_array ot hk) (und_int oe hek) (by rw [run_sizeOf oe,hs]) h1 h2
  split at h <;> simp only [Option.some.injEq,Prod.mk.injEq,reduceCtorEq] at h <;> obtain ⟨rfl,rfl⟩:=h
  ·rename_i a b hek
   have h1:=hp.head
   have h2:=hp.tail.head
   rw [show vx = .agg (a.map w8).toArray from hx,show vy = .agg (b.map w8).toArray from hy,map_w8,map_w8]
   have r1:=key hek (a.map fun x=>(x.toNat:Int)) (b.map fun x=>(x.toNat:Int)) (by simpa using h1) (by simpa using h2)
   rw [map_beq_inj _ (fun _ _=>w8_inj)] at r1
   exact ⟨_,beq_iff_eq,r1⟩
  ·rename_i a b hek
   have h1:=hp.head
   have h2:=hp.tail.head
   rw [show vx = .agg (a.map w16).toArray from hx,show vy = .agg (b.map w16).toArray from hy,map_w16,map_w16]
   have r1:=key hek (a.map fun x=>(x.toNat:Int)) (b.map fun x=>(x.toNat:Int)) (by simpa using h1) (by simpa using h2)
   rw [map_beq_inj _ (fun _ _=>w16_inj)] at r1
   exact ⟨_,beq_iff_eq,r1⟩
  ·rename_i a b hek
   have h1:=hp.head
   have h2:=hp.tail.head
   rw [show vx = .agg (a.map w32).toArray from hx,show vy = .agg (b.map w32).toArray from hy,map_w32,map_w32]
   have r1:=key hek (a.map fun x=>(x.toNat:Int)) (b.map fun x=>(x.toNat:Int)) (by simpa using h1) (by simpa using h2)
   rw [map_beq_inj _ (fun _ _=>w32_inj)] at r1
   exact ⟨_,beq_iff_eq,r1⟩
  ·rename_i a b hek
   have h1:=hp.head
   have h2:=hp.tail.head
   rw [show vx = .agg (a.map w64).toArray from hx,show vy = .agg (b.map w64).toArray from hy,map_w64,map_w64]
   have r1:=key hek (a.map fun x=>(x.toNat:Int)) (b.map fun x=>(x.toNat:Int)) (by simpa using h1) (by simpa using h2)
   rw [map_beq_inj _ (fun _ _=>w64_inj)] at r1
   exact ⟨_,beq_iff_eq,r1⟩
  ·rename_i a b hek
   have h1:=hp.head
   have h2:=hp.tail.head
   rw [show vx = .agg (a.map wi).toArray from hx,show vy = .agg (b.map wi).toArray from hy,map_wi,map_wi]
   exact ⟨_,beq_iff_eq,key hek a b h1 h2⟩
 ·rename_i k hk
  have u:=und_int (Γ.ok (t:=ft) (by rw [hk];simp)) hk
  split at h
  ·rename_i a b
   simp only [Option.some.injEq,Prod.mk.injEq] at h;obtain ⟨rfl,rfl⟩:=h
   rw [show vx = w8 a from hx,show vy = w8 b from hy]
   exact ⟨_,by rw [beq_iff_eq];exact ⟨fun h=>UInt8.toNat_inj.1 (by exact_mod_cast h),fun h=>by rw [h]⟩,run_equalIn_int w (d + 1) ft _ k _ _ u⟩
  ·rename_i a b
   simp only [Option.some.injEq,Prod.mk.injEq] at h;obtain ⟨rfl,rfl⟩:=h
   rw [show vx = w16 a from hx,show vy = w16 b from hy]
   exact ⟨_,by rw [beq_iff_eq];exact ⟨fun h=>UInt16.toNat_inj.1 (by exact_mod_cast h),fun h=>by rw [h]⟩,run_equalIn_int w (d + 1) ft _ k _ _ u⟩
  ·rename_i a b
   simp only [Option.some.injEq,Prod.mk.injEq] at h;obtain ⟨rfl,rfl⟩:=h
   rw [show vx = w32 a from hx,show vy = w32 b from hy]
   exact ⟨_,by rw [beq_iff_eq];exact ⟨fun h=>UInt32.toNat_inj.1 (by exact_mod_cast h),fun h=>by rw [h]⟩,run_equalIn_int w (d + 1) ft _ k _ _ u⟩
  ·rename_i a b
   simp only [Option.some.injEq,Prod.mk.injEq] at h;obtain ⟨rfl,rfl⟩:=h
   rw [show vx = w64 a from hx,show vy = w64 b from hy]
   exact ⟨_,by rw [beq_iff_eq];exact ⟨fun h=>UInt64.toNat_inj.1 (by exact_mod_cast h),fun h=>by rw [h]⟩,run_equalIn_int w (d + 1) ft _ k _ _ u⟩
  ·rename_i j a j2 b
   replace ⟨hc,h⟩:=bif_none h
   obtain rfl:j = j2:=by simpa using hc
   simp only [Option.some.injEq,Prod.mk.injEq] at h;obtain ⟨rfl,rfl⟩:=h
   rw [show vx = .int j a from hx,show vy = .int j b from hy]
   exact ⟨_,beq_iff_eq,run_equalIn_int w (d + 1) ft _ k _ _ u⟩
  ·cases h
 ·rename_i hk
  obtain ⟨q,hq,e⟩:=Option.map_eq_some_iff.1 h
  simp only [Prod.mk.injEq] at e;obtain ⟨rfl,rfl⟩:=e
  obtain ⟨a,b,rfl,rfl,hab⟩:=eqlB_sound hx hy hq
  have u:=und_bool (Γ.ok (t:=ft) (by rw [hk];simp)) hk
  exact ⟨_,hab,run_equalIn_bool w (d + 1) ft a b u⟩
 ·cases h
theorem fldV_sound {Γ:Ctx} {ρ:Env} (w:World) {ls:List (Nat × SV)} {cs:List Value} (hcs:CellsL ρ ls cs) {off ft:Nat} {x:SV} (h:fldV Γ.ty ls off ft = some x) :
  ∃ y,RelT ρ x y∧(part ft cs.toArray off).run Γ.P w = .ok y w:=by
 unfold fldV at h
 split at h
 ·cases h
 rename_i hb
 have oft:=Γ.ok (t:=ft) hb
 split at h
 ·rename_i r hr
  split at h
  ·rename_i l' hl'
   obtain ⟨d1,d2⟩:=dropL_sound hcs hr
   obtain ⟨t1,t2⟩:=takeL_sound d1 hl'
   have hv':=valL_sound t1 h
   have hlen:off + (Γ.ty ft).size ≤ cs.length:=by rw [List.length_drop] at t2;omega
   have hpart:=run_part (w:=w) oft hlen
   cases hagg:isAggK (Γ.ty ft).k with
   | true=>
    rw [hagg] at hv'
    exact ⟨_,RelT_of_Rel hv',hpart.1 hagg⟩
   | false=>
    rw [hagg] at hv'
    obtain ⟨y,hy,hr'⟩:=hv'
    exact ⟨y,RelT_of_Rel hr',hpart.2 hagg y hy⟩
  ·cases h
 ·cases h
theorem eqlT_sound {Γ:Ctx} {ρ:Env} (w:World) {a b:List (Nat × SV)} {ca cb:List Value} (ha:CellsL ρ a ca) (hb:CellsL ρ b cb) (d:Nat):∀ {fds:List Field} {ps:List Prop} {p:Prop},
  (∀ f ∈ fds, f.name ≠ "_") → eqlT Γ.ty a b (fds.map fun f => (f.offset, f.type)) = some (ps, p) → All ps → ∃ r : Bool, (r = true ↔ p) ∧ (Op.eqFields (d + 2) ca.toArray cb.toArray fds).run Γ.P w = .ok r w
 | [],ps,p,_,h,_=>by
  simp only [List.map_nil,eqlT,Option.some.injEq,Prod.mk.injEq] at h
  obtain ⟨_,rfl⟩:=h
  exact ⟨true,by simp,by simp [Op.eqFields]⟩
 | f :: r,ps,p,hn,h,hp=>by
  simp only [List.map_cons,eqlT] at h
  split at h
  ·rename_i x hx
   split at h
   ·rename_i y hy
    split at h
    ·rename_i qs q hq
     obtain ⟨vx,hvx,r1⟩:=fldV_sound (Γ:=Γ) w ha hx
     obtain ⟨vy,hvy,r2⟩:=fldV_sound (Γ:=Γ) w hb hy
     have run:∀ {b1:Bool},(Op.equalIn (d + 2) f.type vx vy).run Γ.P w = .ok b1 w→(Op.eqFields (d + 2) ca.toArray cb.toArray (f :: r)).run Γ.P w = (if (!b1) = true then .ok false w else (Op.eqFields (d + 2) ca.toArray cb.toArray r).run Γ.P w):=by
      intro b1 hb1
      simp only [Op.eqFields,hn f (by simp),ne_eq,not_false_eq_true,if_true,Sem.run_bind,r1,r2,hb1,Result.andThen_ok,Sem.run_ite,Sem.run_pure]
     split at h
     ·rename_i hr
      simp only [Option.some.injEq,Prod.mk.injEq] at h;obtain ⟨rfl,rfl⟩:=h
      obtain ⟨b1,k1,k2⟩:=eqlF_sound (Γ:=Γ) w hvx hvy hq hp d
      have hr:r = []:=by simpa using hr
      subst hr
      refine ⟨b1,k1,?_⟩
      rw [run k2]
      cases b1 <;> simp [Op.eqFields]
     ·split at h
      ·rename_i us u hu
       simp only [Option.some.injEq,Prod.mk.injEq] at h;obtain ⟨rfl,rfl⟩:=h
       obtain ⟨b1,k1,k2⟩:=eqlF_sound (Γ:=Γ) w hvx hvy hq hp.left d
       obtain ⟨b2,m1,m2⟩:=eqlT_sound w ha hb d (fun g hg=>hn g (List.mem_cons_of_mem _ hg)) hu hp.right
       refine ⟨b1 && b2,by rw [Bool.and_eq_true,k1,m1],?_⟩
       rw [run k2,m2]
       cases b1 <;> simp
      ·cases h
    ·cases h
   ·cases h
  ·cases h
theorem eqT_sound {Γ:Ctx} {ρ:Env} (w:World) {t:Nat} {x y:SV} {vx vy:Value} (hx:RelT ρ x vx) (hy:RelT ρ y vy) {ps:List Prop} {p:Prop} (h:eqT Γ.ty t x y = some (ps,p)) (hp:All ps) :
  ∃ b:Bool,(b = true ↔ p)∧(binOp .eql t vx vy).run Γ.P w = .ok (.bool b) w∧(binOp .neq t vx vy).run Γ.P w = .ok (.bool (!b)) w∧∀ op X Y,(eqGuard op t X Y vx vy).run Γ.P w = .ok () w:=by
 unfold eqT at h
 split at h
 ·rename_i fs hk
  obtain ⟨he,h⟩:=bif_none h
  have ot:=Γ.ok (t:=t) (by rw [hk];simp)
  obtain ⟨l,hl,hfs,hn⟩:=und_names ot hk
  obtain ⟨e1,e2⟩:=ot.eqs he
  split at h
  ·split at h
   ·rename_i a b
    obtain ⟨ca,hca,rfl⟩:=hx
    obtain ⟨cb,hcb,rfl⟩:=hy
    have hfo:Γ.P.fieldsOf t = l:=by unfold Program.fieldsOf;rw [hl]
    rw [← hfs] at h
    obtain ⟨r,k1,k2⟩:=eqlT_sound (Γ:=Γ) w hca hcb 9997 hn h hp
    have hrun:(Op.equalIn 10000 t (.agg ca.toArray) (.agg cb.toArray)).run Γ.P w = .ok r w:=by
     rw [run_equalIn_struct w 9999 t _ _ (by rw [hfo];exact hl) e1,hfo]
     exact k2
    exact ⟨r,k1,by rw [run_eql_struct,hrun];rfl,by rw [run_neq_struct,hrun];rfl,fun op X Y=>run_eqGuard_agg w op t X Y _ _ e2⟩
   ·cases h
  ·cases h
 ·cases h
end Go.Sx
namespace Go.Sx
open Go
theorem ba_beq (x y:List UInt8):((⟨x.toArray⟩:ByteArray) == ⟨y.toArray⟩) = decide (x = y):=by
 by_cases h:x = y
 ·subst h;simp only [decide_true];exact (MapKept.bytes_beq _ _).2 rfl
 ·simp only [h,decide_false]
  cases hb:((⟨x.toArray⟩:ByteArray) == ⟨y.toArray⟩) with
  | false=>rfl
  | true=>
   have:=congrArg (fun b:ByteArray=>b.data.toList) ((MapKept.bytes_beq _ _).1 hb)
   exact absurd (by simpa using this) h
theorem findNow_si (k:List UInt8):∀ (es:List MapEntry) (l:List (List UInt8 × Int)) (i:Nat),(MpV.si l).Is es →
  (mpGet l k = none∧Instr.findNow .string (.string ⟨k.toArray⟩) es i = some none) ∨ ∃ n j,mpGet l k = some n∧Instr.findNow .string (.string ⟨k.toArray⟩) es i = some (some (j,wi n))
 | [],l,i,h=>by
  cases l with
  | nil=>exact Or.inl ⟨rfl,rfl⟩
  | cons p r=>simp [MpV.Is] at h
 | e :: es,l,i,h=>by
  cases l with
  | nil=>simp [MpV.Is] at h
  | cons p r=>
   obtain ⟨q,n⟩:=p
   simp only [MpV.Is,List.map_cons,List.cons.injEq,Prod.mk.injEq] at h
   obtain ⟨⟨h1,h2⟩,h3⟩:=h
   simp only [mpGet,Instr.findNow,h1,Instr.sameNow,ba_beq,h2]
   by_cases hk:k = q
   ·rw [if_pos hk]
    simp only [hk,decide_true]
    exact Or.inr ⟨n,i,rfl,rfl⟩
   ·rw [if_neg hk]
    simp only [hk,decide_false]
    exact findNow_si k es r (i + 1) h3
theorem isStrK_eq {k:TyK} (h:isStrK k = true):k = .string:=by
 unfold isStrK at h;split at h
 ·rfl
 ·cases h
theorem isI64Z_zero {P:Program} {w:World} {t:Nat} {y:Ty} (hy:TyOK P t y) (h:isI64Z y = true):(zeroValue t).run P w = .ok (wi 0) w:=by
 unfold isI64Z at h
 split at h
 ·rename_i hk
  split at h
  ·rename_i s hz
   obtain ⟨z,h1,h2,h3,h4⟩:=run_zero (w:=w) hy (by rw [hz];simp)
   rw [h1]
   rw [hz] at h2
   rw [hk] at h4
   have:z = wi 0:=by
    have hg:Value.isAgg z = false:=h4
    have hcs:z.cells = #[z]:=by
     cases z <;> first | rfl | (simp [Value.isAgg] at hg)
    rw [hcs] at h2
    simpa [zeroL,zero1,wi] using h2
   rw [this]
  ·cases h
 ·cases h
theorem mapOK_sound {Γ:Ctx} {t:Nat} (h:mapOK Γ.ty t = true):∃ k e,Γ.P.underlying t = some (.map k e)∧Γ.P.underlying k = some .string∧∀ w,(zeroValue e).run Γ.P w = .ok (wi 0) w:=by
 unfold mapOK at h
 split at h
 ·rename_i k e hk
  simp only [Bool.and_eq_true] at h
  have hs:=isStrK_eq h.1
  refine ⟨k,e,?_,und_string (Γ.ok (t:=k) (by rw [hs];simp)) hs,fun w=>isI64Z_zero (Γ.ok (t:=e) ?_) h.2⟩
  ·obtain ⟨d,hd,he⟩:=(Γ.ok (t:=t) (by rw [hk];simp)).und
   rw [hd]
   rw [hk] at he
   unfold kEq at he
   split at he <;> simp_all
  ·intro hb
   have:=h.2
   unfold isI64Z at this
   rw [hb] at this
   cases this
 ·cases h
theorem run_checkStr {P:Program} {k:Nat} (hk:P.underlying k = some .string) (em:Bool) (s:ByteArray) (w:World):(Instr.checkKey em 10000 k (.string s)).run P w = .ok () w:=by
 show (Instr.checkKey em (9999 + 1) k (.string s)).run P w = .ok () w
 unfold Instr.checkKey
 simp [run_underlying hk]
theorem run_findStr {P:Program} {k:Nat} (hk:P.underlying k = some .string) {l:List (List UInt8 × Int)} {es:List MapEntry} (h:(MpV.si l).Is es) (s:List UInt8) (w:World) :
  (mpGet l s = none∧(Instr.findKey k (.string ⟨s.toArray⟩) es).run P w = .ok none w) ∨ ∃ n j,mpGet l s = some n∧(Instr.findKey k (.string ⟨s.toArray⟩) es).run P w = .ok (some (j,wi n)) w:=by
 rcases findNow_si s es l 0 h with ⟨h1,h2⟩ | ⟨n,j,h1,h2⟩
 ·exact Or.inl ⟨h1,by simp [Instr.findKey,run_underlying hk,h2]⟩
 ·exact Or.inr ⟨n,j,h1,by simp [Instr.findKey,run_underlying hk,h2]⟩
theorem lookV_sound {Γ:Ctx} {N:Nat} {ρ:Env} {T:Tm} {M:Mm} {a:Act} {w:World} (hc:Conc N ρ T M a w) {t:Nat} {x k:Operand} {ok:Bool} {ps:List Prop} {v:SV} (h:lookV Γ.ty M t (ev T x) (ev T k) ok = some (ps,v)) :
  ∃ z,RelT ρ v z∧(Instr.lookup t (a.eval x) (a.eval k) ok).run Γ.P w = .ok z w:=by
 unfold lookV at h
 have hb:=(bif_none h).1
 replace h:=(bif_none h).2
 obtain ⟨kt,et,ht,hk,hz⟩:=mapOK_sound hb
 have hx:=ev_rel hc x
 have hs:=ev_rel hc k
 split at h
 ·rename_i b he
  rw [he] at hx
  obtain ⟨_,hv⟩:=hx
  split at h
  ·rename_i l hm
   obtain ⟨es,clock,h1,h2⟩:=hc.sat b _ hm
   split at h
   ·rename_i s hes
    rw [hes] at hs
    have hkv:a.eval k = .string ⟨s.toArray⟩:=hs
    rw [hv,hkv]
    have hrun:∀ r,(Instr.findKey kt (.string ⟨s.toArray⟩) es.toList).run Γ.P w = .ok r w→(Instr.lookup t (.map (some (ρ.pos b).1)) (.string ⟨s.toArray⟩) ok).run Γ.P w =
      .ok (if ok then .tuple #[match r with | some (_,v)=>v | none=>wi 0,.bool r.isSome] else match r with | some (_,v)=>v | none=>wi 0) w:=by
     intro r hr
     simp only [Instr.lookup,Sem.run_bind,run_underlying ht,Result.andThen_ok,MapKept.run_getObj_map h1,Sem.run_pure,run_checkStr hk,hr]
     cases r with
     | none=>simp [hz]
     | some p=>simp
    rcases run_findStr (P:=Γ.P) hk h2 s w with ⟨g1,g2⟩ | ⟨n,j,g1,g2⟩
    ·have:=hrun _ g2
     rw [g1] at h
     cases ok <;> simp only [Option.some.injEq,Prod.mk.injEq] at h <;> obtain ⟨_,rfl⟩:=h
     ·exact ⟨_,RelT_of_Rel rfl,this⟩
     ·exact ⟨_,⟨_,⟨_,_,rfl,rfl,_,_,rfl,⟨false,rfl,by simp⟩,rfl⟩,rfl⟩,this⟩
    ·have:=hrun _ g2
     rw [g1] at h
     cases ok <;> simp only [Option.some.injEq,Prod.mk.injEq] at h <;> obtain ⟨_,rfl⟩:=h
     ·exact ⟨_,RelT_of_Rel rfl,this⟩
     ·exact ⟨_,⟨_,⟨_,_,rfl,rfl,_,_,rfl,⟨true,rfl,by simp⟩,rfl⟩,rfl⟩,this⟩
   ·cases h
  ·cases h
 ·cases h
theorem run_updateStr {P:Program} {t k e:Nat} (ht:P.underlying t = some (.map k e)) (hk:P.underlying k = some .string) {l:List (List UInt8 × Int)} {es:Array MapEntry} {clock b:Nat} {w:World} (hb:w.heap[b]? = some (.map es clock)) (h:(MpV.si l).Is es.toList) (s:List UInt8) (hn:mpGet l s = none) (n:Int) :
  (Instr.mapUpdate t (.map (some b)) (.string ⟨s.toArray⟩) (wi n)).run P w = .ok () { w with heap:=w.heap.setIfInBounds b (.map (es.push { key:=.string ⟨s.toArray⟩,val:=wi n,born:=clock }) (clock + 1)) }:=by
 rcases run_findStr (P:=P) hk h s w with ⟨_,g2⟩ | ⟨n,j,g1,_⟩
 ·simp only [Instr.mapUpdate,Sem.run_bind,run_underlying ht,Result.andThen_ok,MapKept.run_getObj_map hb,run_checkStr hk,g2,MapKept.run_setObj_map _ hb]
 ·rw [hn] at g1;cases g1
end Go.Sx
namespace Go.Sx
open Go
theorem RelL_get {ρ:Env}:∀ {vs:List SV} {xs:List Value} {k:Nat} {v:SV},RelL ρ vs xs→vs[k]? = some v→∃ y,xs[k]? = some y∧Rel ρ v y
 | [],_,_,_,_,h=>by simp at h
 | u :: r,xs,k,v,⟨x,ys,e,h1,h2⟩,h=>by
  subst e
  cases k with
  | zero=>simp only [List.getElem?_cons_zero,Option.some.injEq] at h;subst h;exact ⟨x,rfl,h1⟩
  | succ k=>
   obtain ⟨y,hy,hr⟩:=RelL_get (k:=k) h2 (by simpa using h)
   exact ⟨y,by simpa using hy,hr⟩
theorem bndO_sound' {N:Nat} {ρ:Env} {T:Tm} {M:Mm} {a:Act} {w:World} (hc:Conc N ρ T M a w) {o:Option Operand} {r:List Prop × Option Nat}
  (h:bndO T o = some r) (hp:r.2 ≠ none→All r.1):(o.map a.eval = none∧r.2 = none) ∨ ∃ k,∃ n:Nat,o.map a.eval = some (.int k (n:Int))∧r.2 = some n:=by
 cases o with
 | none=>simp only [bndO,Option.some.injEq] at h;subst h;exact Or.inl ⟨rfl,rfl⟩
 | some x=>
  refine bndO_sound hc h (hp ?_)
  simp only [bndO] at h
  split at h
  ·simp only [Option.some.injEq] at h;subst h;simp
  ·cases h
theorem sliceV_all {ty:Nat→Ty} {t:Nat} {x:SV} {lo hi mx:List Prop × Option Nat} {ps:List Prop} {z:SV} (h:sliceV ty t x lo hi mx = some (ps,z)) (hp:All ps) :
  (lo.2 ≠ none→All lo.1)∧(hi.2 ≠ none→All hi.1)∧(mx.2 ≠ none→All mx.1):=by
 have fin:∀ {l h m:Option Nat} {qs:List Prop},All qs→lo.2 = l→hi.2 = h→mx.2 = m→(l ≠ none→∀ q ∈ lo.1,q ∈ qs)→(h ≠ none→∀ q ∈ hi.1,q ∈ qs)→(m ≠ none→∀ q ∈ mx.1,q ∈ qs) →
   (lo.2 ≠ none→All lo.1)∧(hi.2 ≠ none→All hi.1)∧(mx.2 ≠ none→All mx.1):=by
  intro l h m qs hq e1 e2 e3 i1 i2 i3
  rw [e1,e2,e3]
  exact ⟨fun hn q hm=>hq q (i1 hn q hm),fun hn q hm=>hq q (i2 hn q hm),fun hn q hm=>hq q (i3 hn q hm)⟩
 unfold sliceV at h
 split at h
 ·split at h
  ·cases h
  split at h <;> (try simp only [Option.some.injEq,Prod.mk.injEq,reduceCtorEq] at h)
  all_goals first
   | (obtain ⟨rfl,_⟩:=h;refine fin hp (by assumption) (by assumption) (by assumption) ?_ ?_ ?_ <;> simp +contextual;done)
   | (replace h:=(bif_none h).2;simp only [Option.some.injEq,Prod.mk.injEq] at h;obtain ⟨rfl,_⟩:=h;refine fin hp (by assumption) (by assumption) (by assumption) ?_ ?_ ?_ <;> simp +contextual;done)
   | exact ⟨fun hn=>absurd ‹lo.2 = none› hn,fun hn=>absurd ‹hi.2 = none› hn,fun hn=>absurd ‹mx.2 = none› hn⟩
 ·split at h
  ·cases h
  split at h <;> (try simp only [Option.some.injEq,Prod.mk.injEq,reduceCtorEq] at h)
  all_goals first
   | (obtain ⟨rfl,_⟩:=h;refine fin hp (by assumption) (by assumption) (by assumption) ?_ ?_ ?_ <;> simp +contextual;done)
   | (replace h:=(bif_none h).2;simp only [Option.some.injEq,Prod.mk.injEq] at h;obtain ⟨rfl,_⟩:=h;refine fin hp (by assumption) (by assumption) (by assumption) ?_ ?_ ?_ <;> simp +contextual;done)
 ·split at h <;> simp only [Option.some.injEq,Prod.mk.injEq,reduceCtorEq] at h
  all_goals (obtain ⟨rfl,_⟩:=h;refine fin hp (by assumption) (by assumption) (by assumption) ?_ ?_ ?_ <;> simp +contextual)
 ·cases h
theorem capsO_sound {N:Nat} {ρ:Env} {T:Tm} {M:Mm} {a:Act} {w:World} (hc:Conc N ρ T M a w):∀ {l:List Operand} {q:List (Nat × Nat)},capsO T l = some q →
  (∀ p ∈ q,ρ.dom p.1)∧l.map a.eval = q.map fun p=>Value.pointer (some (ρ.addr p.1 p.2 0))
 | [],q,h=>by simp only [capsO,Option.some.injEq] at h;subst h;exact ⟨fun p hp=>by simp at hp,rfl⟩
 | x :: r,q,h=>by
  simp only [capsO] at h
  split at h
  ·rename_i b f he
   have hr:=ev_rel hc x
   rw [he] at hr
   split at h
   ·rename_i q' hq
    simp only [Option.some.injEq] at h;subst h
    obtain ⟨h1,h2⟩:=capsO_sound hc hq
    refine ⟨fun p hp=>?_,?_⟩
    ·rcases List.mem_cons.1 hp with rfl | hp
     ·exact hr.1
     ·exact h1 p hp
    ·simp only [List.map_cons,h2]
     congr 1
     exact hr.2
   ·cases h
  ·cases h
theorem pureOp_sound {Γ:Ctx} {N:Nat} {ρ:Env} {T:Tm} {M:Mm} {a:Act} {w:World} (hc:Conc N ρ T M a w) {o:Oper} {ps:List Prop} {v:SV}
  (h:pureOp Γ.ty T M o.op = some (ps,v)) (hp:All ps):∃ x,RelT ρ v x∧(execOp a.eval o).run Γ.P w = .ok (.value x) w:=by
 obtain ⟨dst,op,ty,pos,after,guard⟩:=o
 simp only at h
 unfold pureOp at h
 split at h
 ·-- move
  rename_i x
  have hr:=ev_rel hc x
  split at h
  ·cases h
  ·simp only [Option.some.injEq,Prod.mk.injEq] at h;obtain ⟨rfl,rfl⟩:=h
   exact ⟨_,hr,rfl⟩
 ·rename_i x
  have hr:=ev_rel hc x
  split at h
  ·cases h
  ·simp only [Option.some.injEq,Prod.mk.injEq] at h;obtain ⟨rfl,rfl⟩:=h
   exact ⟨_,hr,rfl⟩
 ·-- nilCheck
  rename_i x
  have hr:=ev_rel hc x
  split at h <;> simp only [Option.some.injEq,Prod.mk.injEq,reduceCtorEq] at h <;> obtain ⟨rfl,rfl⟩:=h
  ·rename_i he;rw [he] at hr
   refine ⟨_,hr,?_⟩
   obtain ⟨_,hv⟩:=hr
   simp only [execOp,hv,Sem.run_pure]
  ·rename_i he;rw [he] at hr
   refine ⟨_,hr,?_⟩
   obtain ⟨_,hv⟩:=hr
   simp only [execOp,hv,Sem.run_pure]
  ·rename_i he;rw [he] at hr
   refine ⟨_,hr,?_⟩
   obtain ⟨_,_,hv,_⟩:=hr
   simp only [execOp,hv,Sem.run_pure]
  ·rename_i he;rw [he] at hr
   refine ⟨_,hr,?_⟩
   obtain ⟨_,hv⟩:=hr
   simp only [execOp,hv,Sem.run_pure]
 ·-- pick
  rename_i c x y
  have hr:=ev_rel hc c
  split at h
  ·rename_i he;rw [he] at hr
   split at h
   ·cases h
   ·simp only [Option.some.injEq,Prod.mk.injEq] at h;obtain ⟨rfl,rfl⟩:=h
    refine ⟨_,ev_rel hc x,?_⟩
    simp only [execOp,show a.eval c = .bool true from hr,asBool,Sem.run_bind,Sem.run_pure,Result.andThen_ok,if_true]
  ·rename_i he;rw [he] at hr
   split at h
   ·cases h
   ·simp only [Option.some.injEq,Prod.mk.injEq] at h;obtain ⟨rfl,rfl⟩:=h
    refine ⟨_,ev_rel hc y,?_⟩
    simp only [execOp,show a.eval c = .bool false from hr,asBool,Sem.run_bind,Sem.run_pure,Result.andThen_ok,Bool.false_eq_true,if_false]
  ·rename_i p he;rw [he] at hr
   split at h <;> simp only [Option.some.injEq,Prod.mk.injEq,reduceCtorEq] at h
   rotate_left
   ·obtain ⟨rfl,rfl⟩:=h
    obtain ⟨b,hb,hbp⟩:=hr
    have hnp:¬ p:=hp.head
    have:b = false:=by
     cases b with
     | true=>exact absurd (hbp.1 rfl) hnp
     | false=>rfl
    subst this
    refine ⟨_,ev_rel hc y,?_⟩
    simp only [execOp,hb,asBool,Sem.run_bind,Sem.run_pure,Result.andThen_ok,Bool.false_eq_true,if_false]
   ·obtain ⟨rfl,rfl⟩:=h
    obtain ⟨b,hb,hbp⟩:=hr
    have hpp:p:=hp.head
    have:b = true:=hbp.2 hpp
    subst this
    refine ⟨_,ev_rel hc x,?_⟩
    simp only [execOp,hb,asBool,Sem.run_bind,Sem.run_pure,Result.andThen_ok,if_true]
   rename_i q r hq hr'
   obtain ⟨rfl,rfl⟩:=h
   obtain ⟨b,hb,hbp⟩:=hr
   obtain ⟨b1,h1,h1p⟩:=RelS_bool (ev_rel hc x) hq
   obtain ⟨b2,h2,h2p⟩:=RelS_bool (ev_rel hc y) hr'
   cases b with
   | true=>
    refine ⟨.bool b1,RelT_of_Rel ⟨b1,rfl,?_⟩,?_⟩
    ·have:p:=hbp.1 rfl
     rw [h1p];exact ⟨fun h=>Or.inl ⟨this,h⟩,fun h=>h.elim (fun h=>h.2) (fun h=>absurd this h.1)⟩
    ·simp only [execOp,hb,asBool,Sem.run_bind,Sem.run_pure,Result.andThen_ok,if_true,h1]
   | false=>
    refine ⟨.bool b2,RelT_of_Rel ⟨b2,rfl,?_⟩,?_⟩
    ·have:¬ p:=fun h=>by have:=hbp.2 h;cases this
     rw [h2p];exact ⟨fun h=>Or.inr ⟨this,h⟩,fun h=>h.elim (fun h=>absurd h.1 this) (fun h=>h.2)⟩
    ·simp only [execOp,hb,asBool,Sem.run_bind,Sem.run_pure,Result.andThen_ok,Bool.false_eq_true,if_false,h2]
  ·cases h
 ·-- shl
  rename_i t x y yt
  split at h
  ·rename_i qs n hn
   split at h
   ·rename_i rs z hz
    simp only [Option.some.injEq,Prod.mk.injEq] at h;obtain ⟨rfl,rfl⟩:=h
    obtain ⟨k,hk⟩:=cntO_sound hc hn hp.right
    obtain ⟨r,hr,hrun⟩:=shlV_sound (P:=Γ.P) (ev_rel hc x) hz hp.left w t k
    refine ⟨r,hr,?_⟩
    rw [← hk] at hrun
    simp only [execOp,Sem.run_bind]
    have hg:(eqGuard .shl t x y (a.eval x) (a.eval y)).run Γ.P w = .ok () w:=rfl
    simp only [hg,Result.andThen_ok,hrun,Sem.run_pure]
   ·cases h
  ·cases h
 ·rename_i t x y yt
  split at h
  ·rename_i qs n hn
   split at h
   ·rename_i rs z hz
    simp only [Option.some.injEq,Prod.mk.injEq] at h;obtain ⟨rfl,rfl⟩:=h
    obtain ⟨k,hk⟩:=cntO_sound hc hn hp.right
    obtain ⟨r,hr,hrun⟩:=shrV_sound (P:=Γ.P) (ev_rel hc x) hz hp.left w t k
    refine ⟨r,hr,?_⟩
    rw [← hk] at hrun
    simp only [execOp,Sem.run_bind]
    have hg:(eqGuard .shr t x y (a.eval x) (a.eval y)).run Γ.P w = .ok () w:=rfl
    simp only [hg,Result.andThen_ok,hrun,Sem.run_pure]
   ·cases h
  ·cases h
 ·-- binOp
  rename_i op t x y yt _ _
  split at h
  ·rename_i qs q he
   split at h <;> simp only [Option.some.injEq,Prod.mk.injEq,reduceCtorEq] at h <;> obtain ⟨rfl,rfl⟩:=h
   ·obtain ⟨b,hb,r1,_,r3⟩:=eqT_sound (Γ:=Γ) w (ev_rel hc x) (ev_rel hc y) he hp
    refine ⟨.bool b,RelT_of_Rel ⟨b,rfl,hb⟩,?_⟩
    simp only [execOp,Sem.run_bind,r3 _ x y,Result.andThen_ok,r1,Sem.run_pure]
   ·obtain ⟨b,hb,_,r2,r3⟩:=eqT_sound (Γ:=Γ) w (ev_rel hc x) (ev_rel hc y) he hp
    refine ⟨.bool (!b),RelT_of_Rel ⟨!b,rfl,by rw [← hb];cases b <;> simp⟩,?_⟩
    simp only [execOp,Sem.run_bind,r3 _ x y,Result.andThen_ok,r2,Sem.run_pure]
  ·obtain ⟨z,hz,hrun,hg⟩:=binV_sound w (ev_rel hc x) (ev_rel hc y) h hp
   refine ⟨z,hz,?_⟩
   simp only [execOp,Sem.run_bind,hg x y,Result.andThen_ok,hrun,Sem.run_pure]
 ·-- unOp
  rename_i op t x
  obtain ⟨z,hz,hrun⟩:=unV_sound (P:=Γ.P) w (ev_rel hc x) h hp
  refine ⟨z,hz,?_⟩
  simp only [execOp,Sem.run_bind,hrun,Result.andThen_ok,Sem.run_pure]
 ·-- convert
  rename_i s d x
  split at h
  ·rename_i k hk
   split at h
   ·rename_i k' hk'
    have ud:=und_int (Γ.ok (t:=d) (by rw [hk];simp)) hk
    have us:=und_int (Γ.ok (t:=s) (by rw [hk'];simp)) hk'
    obtain ⟨j,n,z,hx,hz,hrun⟩:=convI_sound (P:=Γ.P) w (ev_rel hc x) h hp
    refine ⟨z,hz,?_⟩
    simp only [execOp,Sem.run_bind,convert,run_und us,run_und ud,Result.andThen_ok,hx,hrun,Sem.run_pure]
   ·cases h
  ·rename_i hk
   have ud:=und_string (Γ.ok (t:=d) (by rw [hk];simp)) hk
   split at h
   ·rename_i e hk'
    have us:=und_slice (Γ.ok (t:=s) (by rw [hk'];simp)) hk'
    split at h
    ·rename_i he
     have ue:=und_int (Γ.ok (t:=e) (by rw [he];simp)) he
     obtain ⟨⟨qs,l⟩,hb,e'⟩:=out_map h
     simp only [Prod.mk.injEq] at e';obtain ⟨rfl,rfl⟩:=e'
     obtain ⟨ad,n,c,hv,hrun⟩:=bytesOf_sound (P:=Γ.P) hc.toConcM (ev_rel hc x) hb hp
     refine ⟨_,RelT_of_Rel rfl,?_⟩
     rw [hv] at hrun
     simp only [execOp,Sem.run_bind,hv,run_convert_bytes_string w s d e ad n c us ue ud,hrun,Result.andThen_ok,Sem.run_pure]
    ·cases h
   ·rename_i hk'
    have us:=und_string (Γ.ok (t:=s) (by rw [hk'];simp)) hk'
    split at h <;> simp only [Option.some.injEq,Prod.mk.injEq,reduceCtorEq] at h
    obtain ⟨rfl,rfl⟩:=h
    rename_i l he
    have hr:=ev_rel hc x
    rw [he] at hr
    refine ⟨_,hr,?_⟩
    simp only [execOp,Sem.run_bind,convert,run_und us,run_und ud,Result.andThen_ok,show a.eval x = .string ⟨l.toArray⟩ from hr,Sem.run_pure]
   ·cases h
  ·cases h
 ·-- fieldAddr
  rename_i t x f
  obtain ⟨z,hz,hrun⟩:=fieldAddrV_sound w (ev_rel hc x) h
  refine ⟨z,hz,?_⟩
  simp only [execOp,Sem.run_bind,hrun,Result.andThen_ok,Sem.run_pure]
 ·-- field
  rename_i t x f
  obtain ⟨z,hz,hrun⟩:=fieldV_sound w (ev_rel hc x) h
  refine ⟨z,hz,?_⟩
  simp only [execOp,Sem.run_bind,hrun,Result.andThen_ok,Sem.run_pure]
 ·-- indexAddr
  rename_i t x ix
  split at h
  ·rename_i r hr
   have hp1:All r.1∧True:=⟨by
    have:∀ k:IntKind,All r.1:=fun k=>(indexAddrV_sound (Γ:=Γ) w (ev_rel hc x) (k:=k) h hp).1
    exact this .i64,trivial⟩
   obtain ⟨k,hk⟩:=ixO_sound hc hr hp1.1
   obtain ⟨_,z,hz,hrun⟩:=indexAddrV_sound (Γ:=Γ) w (ev_rel hc x) (k:=k) h hp
   refine ⟨z,hz,?_⟩
   rw [← hk] at hrun
   simp only [execOp,Sem.run_bind,hrun,Result.andThen_ok,Sem.run_pure]
  ·cases h
 ·-- index
  rename_i t x ix
  split at h
  ·rename_i r hr
   have hp1:All r.1:=(indexV_sound (Γ:=Γ) w (ev_rel hc x) (k:=.i64) h hp).1
   obtain ⟨k,hk⟩:=ixO_sound hc hr hp1
   obtain ⟨_,z,hz,hrun⟩:=indexV_sound (Γ:=Γ) w (ev_rel hc x) (k:=k) h hp
   refine ⟨z,hz,?_⟩
   rw [← hk] at hrun
   simp only [execOp,Sem.run_bind,hrun,Result.andThen_ok,Sem.run_pure]
  ·cases h
 ·-- slice
  rename_i t x lo hi mx
  split at h
  ·rename_i l h' m hlo hhi hmx
   obtain ⟨z,hz,hrun⟩:=sliceV_sound w (ev_rel hc x) h hp (bndO_sound' hc hlo (sliceV_all h hp).1) (bndO_sound' hc hhi (sliceV_all h hp).2.1) (bndO_sound' hc hmx (sliceV_all h hp).2.2)
   refine ⟨z,hz,?_⟩
   simp only [execOp,Sem.run_bind,hrun,Result.andThen_ok,Sem.run_pure]
  ·cases h
 ·-- load
  rename_i t x
  split at h
  ·rename_i ad f i he
   have hr:=ev_rel hc x
   rw [he] at hr
   obtain ⟨z,hz,hrun⟩:=loadM_sound hc.toConcM h hp
   refine ⟨z,RelT_of_Rel hz,?_⟩
   simp only [execOp,Sem.run_bind,Instr.loadAt,hr.2,Instr.sureAddr,Sem.run_pure,Result.andThen_ok,hrun]
  ·rename_i ad f q s he
   have hr:=ev_rel hc x
   rw [he] at hr
   obtain ⟨z,hz,hrun⟩:=loadE_sound hc.toConcM h hp
   refine ⟨z,RelT_of_Rel hz,?_⟩
   simp only [execOp,Sem.run_bind,Instr.loadAt,hr.2,Instr.sureAddr,Sem.run_pure,Result.andThen_ok,hrun]
  ·rename_i f q s ls he
   have hr:=ev_rel hc x
   rw [he] at hr
   obtain ⟨b,o,hv,hi⟩:=hr
   obtain ⟨z,hz,hrun⟩:=loadN_sound hc.toConcM hi h hp
   refine ⟨z,RelT_of_Rel hz,?_⟩
   simp only [execOp,Sem.run_bind,Instr.loadAt,hv,Instr.sureAddr,Sem.run_pure,Result.andThen_ok,hrun]
  ·cases h
 ·-- extract
  rename_i x k
  split at h
  ·rename_i vs he
   have hr:=ev_rel hc x
   rw [he] at hr
   obtain ⟨xs,hxs,hv⟩:=hr
   split at h
   ·cases h
   ·rename_i v' hne hk
    simp only [Option.some.injEq,Prod.mk.injEq] at h;obtain ⟨rfl,rfl⟩:=h
    obtain ⟨y,hy,hr'⟩:=RelL_get hxs hk
    refine ⟨y,RelT_of_Rel hr',?_⟩
    have:xs.toArray[k]? = some y:=by simpa using hy
    simp only [execOp,Sem.run_bind,Instr.extract,hv,this,Sem.run_pure,Result.andThen_ok]
   ·cases h
  ·cases h
 ·-- build
  rename_i t parts
  obtain ⟨z,hz,hrun⟩:=buildV_sound hc h hp
  refine ⟨z,hz,?_⟩
  have:parts.map (fun (p:Nat × Operand)=>(p.1,a.eval p.2)) = (parts.toList.map fun (p:Nat × Operand)=>(p.1,a.eval p.2)).toArray:=by
   apply Array.ext';simp
  simp only [execOp,Sem.run_bind,this,hrun,Result.andThen_ok,Sem.run_pure]
 ·-- call of a builtin
  rename_i c
  split at h
  ·rename_i b hb
   obtain ⟨z,hz,hrun⟩:=builtV_sound hc ty (c.args.map fun | .const _=>true | _=>false) h
   refine ⟨z,hz,?_⟩
   have e1:(c.args.toList.map a.eval).toArray = c.args.map a.eval:=by apply Array.ext';simp
   simp only [execOp,resolve,hb,Sem.run_bind,Sem.run_pure,Result.andThen_ok,invoke]
   rw [Array.toArray_toList,e1] at hrun
   exact hrun
  ·cases h
 ·-- a function value
  rename_i fn first captured
  unfold makeFn at h
  split at h
  ·rename_i g
   split at h
   ·rename_i hf
    split at h
    ·rename_i q hq
     simp only [Option.some.injEq,Prod.mk.injEq] at h;obtain ⟨rfl,rfl⟩:=h
     obtain ⟨h1,h2⟩:=capsO_sound hc hq
     have e1:first.map a.eval = #[]:=by
      have:first = #[]:=by apply Array.ext';simpa using hf
      rw [this];simp
     have e2:captured.map a.eval = (q.map fun p=>Value.pointer (some (ρ.addr p.1 p.2 0))).toArray:=by
      apply Array.ext';simp [← h2]
     refine ⟨_,RelT_of_Rel ⟨h1,rfl⟩,?_⟩
     simp only [execOp,Sem.run_bind,Instr.makeFunc,e1,e2,Sem.run_pure,Result.andThen_ok]
    ·cases h
   ·cases h
  ·cases h
 ·-- what a map tells
  rename_i t x k ok
  obtain ⟨z,hz,hrun⟩:=lookV_sound hc h
  exact ⟨z,hz,by simp only [execOp,Sem.run_bind,hrun,Result.andThen_ok,Sem.run_pure]⟩
 ·cases h
theorem is_append {l:List (List UInt8 × Int)} {es:Array MapEntry} (h:(MpV.si l).Is es.toList) (s:List UInt8) (n:Int) (c:Nat):(MpV.si (l ++ [(s,n)])).Is (es.push { key:=.string ⟨s.toArray⟩,val:=wi n,born:=c }).toList:=by
 simp only [MpV.Is,Array.toList_push,List.map_append,List.map_cons,List.map_nil] at h ⊢
 rw [h]
end Go.Sx
namespace Go.Sx
open Go
theorem getM_cons_self (d:Nat) (e:Ent) (M:Mm):getM ((d,e) :: M) d = some e:=by
 simp only [getM,show Nat.beq d d = true from Nat.beq_refl d,cond_true]
theorem getM_cons_ne {d a:Nat} (h:a ≠ d) (e:Ent) (M:Mm):getM ((d,e) :: M) a = getM M a:=by
 simp only [getM]
 have:Nat.beq a d = false:=by
  cases hb:Nat.beq a d with
  | false=>rfl
  | true=>exact absurd (beq_eq' hb) h
 rw [this,cond_false]
theorem getT_cons_self (d:Nat) (v:SV) (T:Tm):getT ((d,v) :: T) d = v:=by
 simp only [getT,show Nat.beq d d = true from Nat.beq_refl d,cond_true]
theorem getT_cons_ne {d a:Nat} (h:a ≠ d) (v:SV) (T:Tm):getT ((d,v) :: T) a = getT T a:=by
 simp only [getT]
 have:Nat.beq a d = false:=by
  cases hb:Nat.beq a d with
  | false=>rfl
  | true=>exact absurd (beq_eq' hb) h
 rw [this,cond_false]
theorem Conc.put {N:Nat} {ρ:Env} {T:Tm} {M:Mm} {a:Act} {w:World} (hc:Conc N ρ T M a w) {d:Nat} (hd:d < N) {v:SV} {x:Value} (hr:RelT ρ v x) :
  Conc N ρ ((d,v) :: T) M (a.put (some d) x) w where
 toConcM:=hc.toConcM
 sz:=by simp [Act.put,hc.sz]
 defers:=hc.defers
 tm e:=by
  by_cases he:e = d
  ·subst he
   rw [getT_cons_self]
   have:(a.put (some e) x).tmps.getD e undef = x:=by
    simp [Act.put,Array.getD_eq_getD_getElem?,hc.sz,hd]
   rw [this];exact hr
  ·rw [getT_cons_ne he]
   have:(a.put (some d) x).tmps.getD e undef = a.tmps.getD e undef:=by
    simp only [Act.put,Array.getD_eq_getD_getElem?]
    rw [Array.getElem?_setIfInBounds_ne (fun h=>he h.symm)]
   rw [this];exact hc.tm e
theorem Conc.put_none {N:Nat} {ρ:Env} {T:Tm} {M:Mm} {a:Act} {w:World} (hc:Conc N ρ T M a w) (x:Value):Conc N ρ T M (a.put none x) w:=hc
theorem Conc.of_mem {N:Nat} {ρ ρ':Env} {T:Tm} {M M':Mm} {a:Act} {w w':World} (hc:Conc N ρ T M a w) (hρ:ρ.le ρ') (h:ConcM ρ' M' w'):Conc N ρ' T M' a w' where
 toConcM:=h
 sz:=hc.sz
 defers:=hc.defers
 tm e:=(hc.tm e).le hρ
def Env.add (ρ:Env) (d:Nat) (p:Nat × Nat):Env:=⟨fun a=>a = d ∨ ρ.dom a,fun a=>if a = d then p else ρ.pos a,ρ.imm⟩
theorem Env.le_add {ρ:Env} {d:Nat} (p:Nat × Nat) (h:¬ ρ.dom d):ρ.le (ρ.add d p):=by
 refine ⟨fun a ha=>⟨Or.inr ha,?_⟩,fun _ _ _ h=>h⟩
 simp only [Env.add]
 rw [if_neg (by rintro rfl;exact h ha)]
theorem heap_push {w:World} {o:Obj} {b:Nat} (h:b < w.heap.size):(w.alloc o).heap[b]? = w.heap[b]?:=by
 show (w.heap.push o)[b]? = _
 rw [Array.getElem?_push,if_neg (by omega)]
theorem foot_lt {ρ:Env} {w:World} {pos:Nat × Nat} {e:Ent} (h:SatE ρ w pos e) {b o:Nat} (hf:foot pos e b o):b < w.heap.size:=by
 cases e with
 | dead=>exact hf.elim
 | mem own sp ls=>obtain ⟨_,_,h2,_⟩:=h;obtain ⟨f1,f2,f3⟩:=hf;rw [f1];exact h2.1 (by omega)
 | map m=>obtain ⟨_,_,h1,_⟩:=h;rw [show b = pos.1 from hf];exact (Array.getElem?_eq_some_iff.1 h1).1
theorem hard_alloc_new (w:World) (c:Array Value) (t:TypeId) (j:Nat):hard (w.alloc (.cells c t)) ⟨w.heap.size,j,none⟩ = false:=by
 have h1:(w.alloc (.cells c t)).heap[w.heap.size]? = some (.cells c t):=by
  show (w.heap.push _)[w.heap.size]? = _
  exact Array.getElem?_push_size
 simp only [hard,h1]
 simp
structure Grows (w w':World):Prop where
 size:w.heap.size ≤ w'.heap.size
 os:w'.os = w.os
 output:w'.output = w.output
 blk:∀ b,b < w.heap.size→w'.heap[b]? = w.heap[b]?
theorem Grows.refl (w:World):Grows w w:=⟨Nat.le_refl _,rfl,rfl,fun _ _=>rfl⟩
theorem Grows.trans {a b c:World} (h:Grows a b) (k:Grows b c):Grows a c:=
 ⟨Nat.le_trans h.size k.size,k.os.trans h.os,k.output.trans h.output,fun x hx=>(k.blk x (Nat.lt_of_lt_of_le hx h.size)).trans (h.blk x hx)⟩
theorem Grows.alloc (w:World) (c:Array Value) (t:TypeId):Grows w (w.alloc (.cells c t)):=⟨by simp,rfl,rfl,fun _ h=>heap_push h⟩
theorem Grows.drew (w:World):Grows w { w with drawn:=w.drawn + 1 }:=⟨Nat.le_refl _,rfl,rfl,fun _ _=>rfl⟩
theorem Grows.cell {w w':World} (h:Grows w w') {b o:Nat} (hb:b < w.heap.size):w'.cell? ⟨b,o,none⟩ = w.cell? ⟨b,o,none⟩∧hard w' ⟨b,o,none⟩ = hard w ⟨b,o,none⟩:=by
 simp only [World.cell?,hard,h.blk b hb,and_self]
theorem SatE.grows {ρ ρ':Env} {w w':World} {pos:Nat × Nat} {e:Ent} (hρ:ρ.le ρ') (hg:Grows w w') (h:SatE ρ w pos e):SatE ρ' w' pos e:=
 SatE.of_same hρ hg.size (fun _ _ hf=>hg.cell (foot_lt h hf)) (fun b hb _=>hg.blk b hb) h
theorem ConcM.grows {ρ:Env} {M:Mm} {w w':World} (h:ConcM ρ M w) (hg:Grows w w'):ConcM ρ M w':=
 ⟨h.dom,h.mod,fun a e he=>(h.sat a e he).grows (Env.le_refl _) hg,h.sep,fun b o ls hi=>(h.imm b o ls hi).keep (fun _ _ _ h=>h) hg.size (fun _ _=>(hg.cell ((h.imm b o ls hi).1 (by omega))).1),h.isep⟩
theorem Conc.grows {N:Nat} {ρ:Env} {T:Tm} {M:Mm} {a:Act} {w w':World} (h:Conc N ρ T M a w) (hg:Grows w w'):Conc N ρ T M a w':=
 h.of_mem (Env.le_refl _) (h.toConcM.grows hg)
theorem Grows.step {ρ:Env} {M:Mm} {w w':World} (h:Grows w w'):Step ρ M ρ M w w':=
 ⟨h.size,h.os,h.output,fun b hb _=>h.blk b hb,fun _ _ hb _=>h.cell hb,fun _ _ _ h=>h,fun _ _ _ h=>Or.inl h⟩
theorem ConcM.alloc {ρ:Env} {M:Mm} {w:World} (h:ConcM ρ M w) {d:Nat} (hd:getM M d = none) {cs:List Value} {cells:Array Value} {t:TypeId} {ls:List (Nat × SV)} {sp:Nat}
  (hcs:CellsL ρ ls cs) (hcell:∀ (j:Nat) (v:Value),cs[j]? = some v→cells[j]? = some v) (hsize:cells.size = cs.length + sp) :
  ρ.le (ρ.add d (w.heap.size,0))∧ConcM (ρ.add d (w.heap.size,0)) ((d,.mem true sp ls) :: M) (w.alloc (.cells cells t))∧Step ρ M (ρ.add d (w.heap.size,0)) ((d,.mem true sp ls) :: M) w (w.alloc (.cells cells t)):=by
 have hnd:¬ ρ.dom d:=by
  intro hx
  obtain ⟨e,he⟩:=h.dom d hx
  rw [hd] at he;cases he
 have hle:=Env.le_add (w.heap.size,0) hnd
 have pne:∀ {a},a ≠ d→(ρ.add d (w.heap.size,0)).pos a = ρ.pos a:=by
  intro a ha;simp only [Env.add];rw [if_neg ha]
 have pd:(ρ.add d (w.heap.size,0)).pos d = (w.heap.size,0):=by simp [Env.add]
 have hg:=Grows.alloc w cells t
 have hfoot:∀ k o,foot ((ρ.add d (w.heap.size,0)).pos d) (.mem true sp ls) k o→k = w.heap.size:=by
  intro k o hf;rw [pd] at hf;exact hf.1
 have hold:∀ a e,getM M a = some e→∀ k o,foot ((ρ.add d (w.heap.size,0)).pos a) e k o→k < w.heap.size:=by
  intro a e he k o hf
  have hne:a ≠ d:=by rintro rfl;rw [hd] at he;cases he
  rw [pne hne] at hf
  exact foot_lt (h.sat a e he) hf
 have ownN:∀ b o,b < w.heap.size→Owns (ρ.add d (w.heap.size,0)) ((d,.mem true sp ls) :: M) b o→Owns ρ M b o:=by
  intro b o hb ho
  obtain ⟨a,e,he,hown,hf⟩:=ho
  by_cases ha:a = d
  ·subst ha
   rw [getM_cons_self] at he
   obtain rfl:Ent.mem true sp ls = e:=by simpa using he
   have:=hfoot b o hf
   omega
  ·rw [getM_cons_ne ha] at he
   rw [pne ha] at hf
   exact ⟨a,e,he,hown,hf⟩
 refine ⟨hle,⟨?_,?_,?_,?_,fun b o ls hi=>(h.imm b o ls hi).keep (fun _ _ _ h=>h) hg.size (fun _ _=>(hg.cell ((h.imm b o ls hi).1 (by omega))).1),fun b o hi ho=>h.isep b o hi (ownN b o (h.immc_lt (ρ:=ρ) hi) ho)⟩,?_⟩
 ·intro a ha
  by_cases hne:a = d
  ·subst hne;exact ⟨_,getM_cons_self _ _ _⟩
  ·rw [getM_cons_ne hne]
   exact h.dom a (ha.resolve_left hne)
 ·intro a e he
  by_cases hne:a = d
  ·exact Or.inl hne
  ·rw [getM_cons_ne hne] at he;exact Or.inr (h.mod a e he)
 ·intro a e he
  by_cases hne:a = d
  ·subst hne
   rw [getM_cons_self] at he
   obtain rfl:Ent.mem true sp ls = e:=by simpa using he
   rw [pd]
   refine ⟨cs,hcs.le hle,⟨by simp,fun hh=>by cases hh⟩,fun j v hj=>?_,fun ho j hj=>?_⟩
   ·rw [Nat.zero_add,World.cell?_alloc_new];exact hcell j v hj
   ·rw [Nat.zero_add,World.cell?_alloc_new,hard_alloc_new]
    have hlt:j < cells.size:=by rw [hsize,hcs.length];exact hj
    exact ⟨⟨cells[j],by simp [hlt]⟩,rfl⟩
  ·rw [getM_cons_ne hne] at he
   rw [pne hne]
   exact (h.sat a e he).grows hle hg
 ·intro a b e e' he he' hab ho k o hf hf'
  by_cases ha:a = d
  ·subst ha
   have hb:b ≠ a:=fun e=>hab e.symm
   rw [getM_cons_ne hb] at he'
   rw [getM_cons_self] at he
   obtain rfl:Ent.mem true sp ls = e:=by simpa using he
   have h1:=hfoot k o hf
   have h2:=hold b e' he' k o hf'
   omega
  ·rw [getM_cons_ne ha] at he
   by_cases hb:b = d
   ·subst hb
    rw [getM_cons_self] at he'
    obtain rfl:Ent.mem true sp ls = e':=by simpa using he'
    have h1:=hfoot k o hf'
    have h2:=hold a e he k o hf
    omega
   ·rw [getM_cons_ne hb] at he'
    rw [pne ha] at hf
    rw [pne hb] at hf'
    exact h.sep a b e e' he he' hab ho k o hf hf'
 ·refine ⟨hg.size,rfl,rfl,fun b hb _=>hg.blk b hb,fun b o hb _=>hg.cell hb,fun b o hb ho=>ownN b o hb ho,fun _ _ _ h=>Or.inl h⟩
theorem Grows.allocO (w:World) (o:Obj):Grows w (w.alloc o):=⟨by simp,rfl,rfl,fun _ h=>heap_push h⟩
theorem ConcM.allocMap {ρ:Env} {M:Mm} {w:World} (h:ConcM ρ M w) {d:Nat} (hd:getM M d = none) :
  ρ.le (ρ.add d (w.heap.size,0))∧ConcM (ρ.add d (w.heap.size,0)) ((d,.map (.si [])) :: M) (w.alloc (.map #[] 0))∧Step ρ M (ρ.add d (w.heap.size,0)) ((d,.map (.si [])) :: M) w (w.alloc (.map #[] 0)):=by
 have hnd:¬ ρ.dom d:=by
  intro hx
  obtain ⟨e,he⟩:=h.dom d hx
  rw [hd] at he;cases he
 have hle:=Env.le_add (w.heap.size,0) hnd
 have pne:∀ {a},a ≠ d→(ρ.add d (w.heap.size,0)).pos a = ρ.pos a:=by
  intro a ha;simp only [Env.add];rw [if_neg ha]
 have pd:(ρ.add d (w.heap.size,0)).pos d = (w.heap.size,0):=by simp [Env.add]
 have hg:=Grows.allocO w (.map #[] 0)
 have hfoot:∀ k o,foot ((ρ.add d (w.heap.size,0)).pos d) (.map (.si [])) k o→k = w.heap.size:=by
  intro k o hf;rw [pd] at hf;exact hf
 have hold:∀ a e,getM M a = some e→∀ k o,foot ((ρ.add d (w.heap.size,0)).pos a) e k o→k < w.heap.size:=by
  intro a e he k o hf
  have hne:a ≠ d:=by rintro rfl;rw [hd] at he;cases he
  rw [pne hne] at hf
  exact foot_lt (h.sat a e he) hf
 have ownN:∀ b o,b < w.heap.size→Owns (ρ.add d (w.heap.size,0)) ((d,.map (.si [])) :: M) b o→Owns ρ M b o:=by
  intro b o hb ho
  obtain ⟨a,e,he,hown,hf⟩:=ho
  by_cases ha:a = d
  ·subst ha
   rw [getM_cons_self] at he
   obtain rfl:Ent.map (.si []) = e:=by simpa using he
   have:=hfoot b o hf
   omega
  ·rw [getM_cons_ne ha] at he
   rw [pne ha] at hf
   exact ⟨a,e,he,hown,hf⟩
 refine ⟨hle,⟨?_,?_,?_,?_,fun b o ls hi=>(h.imm b o ls hi).keep (fun _ _ _ h=>h) hg.size (fun _ _=>(hg.cell ((h.imm b o ls hi).1 (by omega))).1),fun b o hi ho=>h.isep b o hi (ownN b o (h.immc_lt (ρ:=ρ) hi) ho)⟩,?_⟩
 ·intro a ha
  by_cases hne:a = d
  ·subst hne;exact ⟨_,getM_cons_self _ _ _⟩
  ·rw [getM_cons_ne hne]
   exact h.dom a (ha.resolve_left hne)
 ·intro a e he
  by_cases hne:a = d
  ·exact Or.inl hne
  ·rw [getM_cons_ne hne] at he;exact Or.inr (h.mod a e he)
 ·intro a e he
  by_cases hne:a = d
  ·subst hne
   rw [getM_cons_self] at he
   obtain rfl:Ent.map (.si []) = e:=by simpa using he
   rw [pd]
   refine ⟨#[],0,?_,rfl⟩
   show (w.heap.push _)[w.heap.size]? = _
   exact Array.getElem?_push_size
  ·rw [getM_cons_ne hne] at he
   rw [pne hne]
   exact (h.sat a e he).grows hle hg
 ·intro a b e e' he he' hab ho k o hf hf'
  by_cases ha:a = d
  ·subst ha
   have hb:b ≠ a:=fun e=>hab e.symm
   rw [getM_cons_ne hb] at he'
   rw [getM_cons_self] at he
   obtain rfl:Ent.map (.si []) = e:=by simpa using he
   have h1:=hfoot k o hf
   have h2:=hold b e' he' k o hf'
   omega
  ·rw [getM_cons_ne ha] at he
   by_cases hb:b = d
   ·subst hb
    rw [getM_cons_self] at he'
    obtain rfl:Ent.map (.si []) = e':=by simpa using he'
    have h1:=hfoot k o hf'
    have h2:=hold a e he k o hf
    omega
   ·rw [getM_cons_ne hb] at he'
    rw [pne ha] at hf
    rw [pne hb] at hf'
    exact h.sep a b e e' he he' hab ho k o hf hf'
 ·refine ⟨hg.size,rfl,rfl,fun b hb _=>hg.blk b hb,fun b o hb _=>hg.cell hb,fun b o hb ho=>ownN b o hb ho,fun _ _ _ h=>Or.inl h⟩
theorem ConcM.setMap {ρ:Env} {M:Mm} {w:World} (h:ConcM ρ M w) {a:Nat} {m m':MpV} (ha:getM M a = some (.map m)) {es:Array MapEntry} {clock:Nat} (hm:m'.Is es.toList) :
  ConcM ρ ((a,.map m') :: M) { w with heap:=w.heap.setIfInBounds (ρ.pos a).1 (.map es clock) }∧Step ρ M ρ ((a,.map m') :: M) w { w with heap:=w.heap.setIfInBounds (ρ.pos a).1 (.map es clock) }:=by
 generalize hw:({ w with heap:=w.heap.setIfInBounds (ρ.pos a).1 (.map es clock) }:World) = w'
 obtain ⟨es0,clock0,hb0,_⟩:=h.sat a _ ha
 have hlt:(ρ.pos a).1 < w.heap.size:=(Array.getElem?_eq_some_iff.1 hb0).1
 have hsz:w'.heap.size = w.heap.size:=by rw [← hw];simp
 have hother:∀ k,k ≠ (ρ.pos a).1→w'.heap[k]? = w.heap[k]?:=by
  intro k hk
  rw [← hw]
  simp only [Array.getElem?_setIfInBounds]
  rw [if_neg (fun e=>hk e.symm)]
 have hself:w'.heap[(ρ.pos a).1]? = some (.map es clock):=by
  rw [← hw]
  simp only [Array.getElem?_setIfInBounds]
  rw [if_pos trivial,if_pos hlt]
 have hcell:∀ k o,w'.cell? ⟨k,o,none⟩ = w.cell? ⟨k,o,none⟩∧hard w' ⟨k,o,none⟩ = hard w ⟨k,o,none⟩:=by
  intro k o
  by_cases hk:k = (ρ.pos a).1
  ·subst hk
   simp only [World.cell?,hard,hself,hb0,and_self]
  ·simp only [World.cell?,hard,hother k hk,and_self]
 have ownN:∀ b o,Owns ρ ((a,.map m') :: M) b o→Owns ρ M b o:=by
  rintro b o ⟨c,e,he,hown,hf⟩
  by_cases hc:c = a
  ·subst hc
   rw [getM_cons_self] at he
   obtain rfl:Ent.map m' = e:=by simpa using he
   exact ⟨c,_,ha,rfl,hf⟩
  ·rw [getM_cons_ne hc] at he
   exact ⟨c,e,he,hown,hf⟩
 refine ⟨⟨fun b hb=>?_,fun b e he=>?_,fun b e he=>?_,fun b c e e' he he' hbc ho k o hf hf'=>?_,fun b o ls hi=>(h.imm b o ls hi).keep (fun _ _ _ h=>h) (by rw [hsz];exact Nat.le_refl _) (fun j hj=>(hcell _ _).1),fun b o hi ho=>h.isep b o hi (ownN b o ho)⟩,
  ⟨by rw [hsz];exact Nat.le_refl _,by rw [← hw],by rw [← hw],fun b hb hn=>hother b fun e=>hn 0 ⟨a,_,ha,rfl,e⟩,fun b o _ _=>hcell b o,fun b o _ ho=>ownN b o ho,fun _ _ _ h=>Or.inl h⟩⟩
 ·by_cases hne:b = a
  ·subst hne;exact ⟨_,getM_cons_self _ _ _⟩
  ·rw [getM_cons_ne hne];exact h.dom b hb
 ·by_cases hne:b = a
  ·subst hne;exact h.mod _ _ ha
  ·rw [getM_cons_ne hne] at he;exact h.mod b e he
 ·by_cases hne:b = a
  ·subst hne
   rw [getM_cons_self] at he
   obtain rfl:Ent.map m' = e:=by simpa using he
   exact ⟨es,clock,hself,hm⟩
  ·rw [getM_cons_ne hne] at he
   refine SatE.of_same (Env.le_refl _) (by rw [hsz];exact Nat.le_refl _) (fun k o _=>hcell k o) (fun k hk hf=>hother k fun e0=>?_) (h.sat b e he)
   subst e0
   exact h.sep a b _ e ha he (fun e=>hne e.symm) rfl _ 0 rfl (hf 0)
 ·by_cases hb:b = a
  ·subst hb
   have hc:c ≠ b:=fun e=>hbc e.symm
   rw [getM_cons_self] at he
   obtain rfl:Ent.map m' = e:=by simpa using he
   rw [getM_cons_ne hc] at he'
   exact h.sep b c _ e' ha he' hbc rfl k o hf hf'
  ·rw [getM_cons_ne hb] at he
   by_cases hc:c = a
   ·subst hc
    rw [getM_cons_self] at he'
    obtain rfl:Ent.map m' = e':=by simpa using he'
    exact h.sep b c e _ he ha hbc ho k o hf hf'
   ·rw [getM_cons_ne hc] at he'
    exact h.sep b c e e' he he' hbc ho k o hf hf'
theorem ConcM.write {ρ:Env} {M:Mm} {w w':World} (h:ConcM ρ M w) {a:Nat} {sp sp':Nat} {ls ls':List (Nat × SV)} (ha:getM M a = some (.mem true sp ls)) {q:Nat} {nc:List Value}
  (hw:Wrote (ρ.pos a).1 ((ρ.pos a).2 + q) nc w w') (hq:q + nc.length ≤ sizeL ls + sp) {cs':List Value} (hc':CellsL ρ ls' cs') (htot:sizeL ls' + sp' = sizeL ls + sp)
  (hcs:∀ cs,CellsL ρ ls cs→(∀ (j:Nat) (v:Value),cs[j]? = some v→w.cell? ⟨(ρ.pos a).1,(ρ.pos a).2 + j,none⟩ = some v)→∀ (j:Nat) (v:Value),cs'[j]? = some v→w'.cell? ⟨(ρ.pos a).1,(ρ.pos a).2 + j,none⟩ = some v) :
  ConcM ρ ((a,.mem true sp' ls') :: M) w'∧Step ρ M ρ ((a,.mem true sp' ls') :: M) w w':=by
 obtain ⟨cs,c1,c2,c3,c4⟩:=h.sat a _ ha
 have c4:=c4 rfl
 have hfoot:∀ k o,foot (ρ.pos a) (.mem true sp' ls') k o ↔ foot (ρ.pos a) (.mem true sp ls) k o:=by
  intro k o;simp only [foot,if_true,htot]
 have hin:∀ p,(ρ.pos a).2 + q ≤ p→p < (ρ.pos a).2 + q + nc.length→foot (ρ.pos a) (.mem true sp ls) (ρ.pos a).1 p:=by
  intro p h1 h2;exact ⟨rfl,by omega,by simp only [if_true];omega⟩
 have hout:∀ k p,¬ foot (ρ.pos a) (.mem true sp ls) k p→w'.cell? ⟨k,p,none⟩ = w.cell? ⟨k,p,none⟩:=by
  intro k p hn
  refine hw.old k p fun hk=>?_
  subst hk
  rcases Nat.lt_or_ge p ((ρ.pos a).2 + q) with h1 | h1
  ·exact Or.inl h1
  ·rcases Nat.lt_or_ge p ((ρ.pos a).2 + q + nc.length) with h2 | h2
   ·exact absurd (hin p h1 h2) hn
   ·exact Or.inr h2
 have ownN:∀ b o,Owns ρ ((a,.mem true sp' ls') :: M) b o→Owns ρ M b o:=by
  intro b o ho
  obtain ⟨c,e,he,hown,hf⟩:=ho
  by_cases hc:c = a
  ·subst hc
   rw [getM_cons_self] at he
   obtain rfl:Ent.mem true sp' ls' = e:=by simpa using he
   exact ⟨c,_,ha,rfl,(hfoot b o).1 hf⟩
  ·rw [getM_cons_ne hc] at he
   exact ⟨c,e,he,hown,hf⟩
 refine ⟨⟨?_,?_,?_,?_,fun b o ls hi=>(h.imm b o ls hi).keep (fun _ _ _ h=>h) (by rw [hw.size];exact Nat.le_refl _) (fun j hj=>hout _ _ fun hf=>h.isep b (o + j) (ImmC.mk hi hj) ⟨a,_,ha,rfl,hf⟩),
  fun b o hi ho=>h.isep b o hi (ownN b o ho)⟩,?_⟩
 ·intro b hb
  by_cases hne:b = a
  ·subst hne;exact ⟨_,getM_cons_self _ _ _⟩
  ·rw [getM_cons_ne hne];exact h.dom b hb
 ·intro b e he
  by_cases hne:b = a
  ·subst hne;exact h.mod _ _ ha
  ·rw [getM_cons_ne hne] at he;exact h.mod b e he
 ·intro b e he
  by_cases hne:b = a
  ·subst hne
   rw [getM_cons_self] at he
   obtain rfl:Ent.mem true sp' ls' = e:=by simpa using he
   refine ⟨cs',hc',⟨by rw [hw.size];simp only [if_true,htot] at c2 ⊢;exact c2.1,fun hh=>by cases hh⟩,hcs cs c1 c3,fun _ j hj=>?_⟩
   rw [htot] at hj
   refine ⟨?_,by rw [hw.frz];exact (c4 j hj).2⟩
   rcases Nat.lt_or_ge j q with h1 | h1
   ·rw [hw.old _ _ (fun _=>Or.inl (by omega))];exact (c4 j hj).1
   ·rcases Nat.lt_or_ge j (q + nc.length) with h2 | h2
    ·refine ⟨nc[j - q],?_⟩
     have:=hw.new (j - q) nc[j - q] (by simp)
     rw [show (ρ.pos b).2 + q + (j - q) = (ρ.pos b).2 + j by omega] at this
     exact this
    ·rw [hw.old _ _ (fun _=>Or.inr (by omega))];exact (c4 j hj).1
  ·rw [getM_cons_ne hne] at he
   refine SatE.of_same (Env.le_refl _) (by rw [hw.size];exact Nat.le_refl _) (fun k o hf=>⟨hout k o fun hf'=>?_,hw.frz k o⟩) (fun k hk hf=>?_) (h.sat b e he)
   ·exact h.sep a b _ e ha he (fun e=>hne e.symm) rfl k o hf' hf
   ·rcases Nat.eq_zero_or_pos nc.length with hz | hz
    ·by_cases hba:k = (ρ.pos a).1
     ·exact hw.blk0 hz k
     ·exact hw.blk k hba
    ·refine hw.blk k fun hba=>?_
     subst hba
     exact h.sep a b _ e ha he (fun e=>hne e.symm) rfl _ _ (hin ((ρ.pos a).2 + q) (Nat.le_refl _) (by omega)) (hf _)
 ·intro b c e e' he he' hbc ho k o hf hf'
  by_cases hb:b = a
  ·subst hb
   have hc:c ≠ b:=fun e=>hbc e.symm
   rw [getM_cons_self] at he
   obtain rfl:Ent.mem true sp' ls' = e:=by simpa using he
   rw [getM_cons_ne hc] at he'
   exact h.sep b c _ e' ha he' hbc rfl k o ((hfoot k o).1 hf) hf'
  ·rw [getM_cons_ne hb] at he
   by_cases hc:c = a
   ·subst hc
    rw [getM_cons_self] at he'
    obtain rfl:Ent.mem true sp' ls' = e':=by simpa using he'
    exact h.sep b c e _ he ha hbc ho k o hf ((hfoot k o).1 hf')
   ·rw [getM_cons_ne hc] at he'
    exact h.sep b c e e' he he' hbc ho k o hf hf'
 ·refine ⟨by rw [hw.size];exact Nat.le_refl _,hw.os,hw.output,fun b hb hn=>?_,fun b o hb hn=>⟨?_,hw.frz b o⟩,fun b o _ ho=>ownN b o ho,fun _ _ _ h=>Or.inl h⟩
  ·rcases Nat.eq_zero_or_pos nc.length with hz | hz
   ·by_cases hba:b = (ρ.pos a).1
    ·exact hw.blk0 hz b
    ·exact hw.blk b hba
   ·refine hw.blk b fun hba=>?_
    subst hba
    exact hn ((ρ.pos a).2 + q) ⟨a,_,ha,rfl,hin _ (Nat.le_refl _) (by omega)⟩
  ·exact hout b o fun hf=>hn ⟨a,_,ha,rfl,hf⟩
def bareV:SV→Bool
 | .tt | .ff | .bool _ | .u8 _ | .u16 _ | .u32 _ | .u64 _ | .i _ _ | .str _ | .nilp | .nsl | .nilmp | .raw _ | .isl _ _ _ _ | .iep _ _ _ _=>true
 | .a8 _ | .a16 _ | .a32 _ | .a64 _ | .ai _=>true
 | _=>false
def boolN (v:SV):SV:=
 match v with
 | .tt=>.bool True
 | .ff=>.bool False
 | v=>v
theorem boolN_rel {ρ:Env} {v:SV} {x:Value} (h:RelS ρ v x):RelS ρ (boolN v) x:=by
 cases v <;> first | exact h | exact ⟨true,h,by simp⟩ | exact ⟨false,h,by simp⟩
theorem boolN_arr {v:SV}:isArr (boolN v) = isArr v:=by cases v <;> rfl
theorem boolN_cells {ρ:Env} {v:SV} {cs:List Value} (h:Cells0 ρ v cs):Cells0 ρ (boolN v) cs:=by
 cases v <;> first
  | exact h
  | (obtain ⟨x,h1,h2⟩:=h;exact ⟨x,boolN_rel (v:=.tt) h1,h2⟩)
  | (obtain ⟨x,h1,h2⟩:=h;exact ⟨x,boolN_rel (v:=.ff) h1,h2⟩)
def boolL (l:List (Nat × SV)):List (Nat × SV):=
 match l with
 | [(s,v)]=>[(s,boolN v)]
 | l=>l
theorem boolL_cells {ρ:Env} {l:List (Nat × SV)} {cs:List Value} (h:CellsL0 ρ l cs):CellsL0 ρ (boolL l) cs:=by
 match l,h with
 | [],h=>exact h
 | [(s,v)],⟨c1,c2,e,hl,h1,h2⟩=>exact ⟨c1,c2,e,hl,boolN_cells h1,h2⟩
 | _ :: _ :: _,h=>exact h
def bareL:List (Nat × SV)→Bool
 | []=>true
 | (_,v) :: r=>bareV v && bareL r
def noRowL:List (Nat × SV)→Bool
 | []=>true
 | (_,v) :: r=>!isRow v && noRowL r
theorem bareV_cells {ρ:Env} {v:SV} (hv:bareV v = true) {cs:List Value} (h:Cells1 ρ v cs):Cells0 ρ.bare v cs:=by
 cases v <;> first | exact h | (cases hv;done)
theorem bareV_rel {ρ:Env} {v:SV} (hv:bareV v = true) {x:Value} (h:RelS ρ v x):RelS ρ.bare v x:=by
 cases v <;> first | exact h | (cases hv;done)
theorem bareL_cells {ρ:Env}:∀ {ls:List (Nat × SV)} (_:bareL ls = true) {cs:List Value},CellsL ρ ls cs→CellsL0 ρ.bare ls cs
 | [],_,_,h=>h
 | (_,_) :: _,hb,_,⟨c1,c2,e,hl,h1,h2⟩=>by
  simp only [bareL,Bool.and_eq_true] at hb
  exact ⟨c1,c2,e,hl,bareV_cells hb.1 h1,bareL_cells hb.2 h2⟩
theorem noRow_cells {ρ:Env}:∀ {ls:List (Nat × SV)} (_:noRowL ls = true) {cs:List Value},CellsL ρ ls cs→CellsL0 ρ ls cs
 | [],_,_,h=>h
 | (_,v) :: _,hb,_,⟨c1,c2,e,hl,h1,h2⟩=>by
  simp only [noRowL,Bool.and_eq_true,Bool.not_eq_true'] at hb
  refine ⟨c1,c2,e,hl,?_,noRow_cells hb.2 h2⟩
  cases v <;> first | exact h1 | (cases hb.1;done)
def setLeaf (u:SV) (s off:Nat) (i:Option Nat) (v:SV):Option (List Prop × SV):=
 match u,v with
 | .a8 l,.u8 b=>match i with
  | none=>bif Nat.blt off s then some ([],.a8 (l.set off b)) else none
  | some i=>match off with
   | 0=>some ([i < s],.a8 (l.set i b))
   | o=>some ([i + o < s],.a8 (l.set (i + o) b))
 | .a16 l,.u16 b=>match i with
  | none=>bif Nat.blt off s then some ([],.a16 (l.set off b)) else none
  | some i=>match off with
   | 0=>some ([i < s],.a16 (l.set i b))
   | o=>some ([i + o < s],.a16 (l.set (i + o) b))
 | .a32 l,.u32 b=>match i with
  | none=>bif Nat.blt off s then some ([],.a32 (l.set off b)) else none
  | some i=>match off with
   | 0=>some ([i < s],.a32 (l.set i b))
   | o=>some ([i + o < s],.a32 (l.set (i + o) b))
 | .a64 l,.u64 b=>match i with
  | none=>bif Nat.blt off s then some ([],.a64 (l.set off b)) else none
  | some i=>match off with
   | 0=>some ([i < s],.a64 (l.set i b))
   | o=>some ([i + o < s],.a64 (l.set (i + o) b))
 | .ai l,.i .i64 b=>match i with
  | none=>bif Nat.blt off s then some ([],.ai (l.set off b)) else none
  | some i=>match off with
   | 0=>some ([i < s],.ai (l.set i b))
   | o=>some ([i + o < s],.ai (l.set (i + o) b))
 | .arr n es F,v=>match i with
  | none=>none
  | some j=>match es with
   | 1=>match off with
    | 0=>bif bareV v && !isArr v then some ([j < n],.arr n 1 (fun q=>if q = j then [(1,boolN v)] else F q)) else none
    | _=>none
   | _=>none
 | u,v=>bif isArr u then none else match i,off with
  | none,0=>match v with
   | .und | .agg _ | .tup _ | .arr _ _ _=>none
   | v=>bif isArr v then none else some ([],v)
  | _,_=>none
def spliceLeaf (u:SV) (s off:Nat) (i:Option Nat) (n:Nat) (v:SV):Option (List Prop × SV):=
 match u,v with
 | .a8 l,.a8 m=>match i with
  | none=>match off with
   | 0=>bif Nat.beq n s then some ([m.length = n],.a8 m) else bif Nat.ble n s then some ([m.length = n],.a8 (m ++ l.drop n)) else none
   | o=>bif Nat.ble (o + n) s then some ([m.length = n],.a8 (l.take o ++ m ++ l.drop (o + n))) else none
  | some i=>match off with
   | 0=>some ([m.length = n,i + n ≤ s],.a8 (l.take i ++ m ++ l.drop (i + n)))
   | o=>some ([m.length = n,i + o + n ≤ s],.a8 (l.take (i + o) ++ m ++ l.drop (i + o + n)))
 | .a16 l,.a16 m=>match i with
  | none=>match off with
   | 0=>bif Nat.beq n s then some ([m.length = n],.a16 m) else bif Nat.ble n s then some ([m.length = n],.a16 (m ++ l.drop n)) else none
   | o=>bif Nat.ble (o + n) s then some ([m.length = n],.a16 (l.take o ++ m ++ l.drop (o + n))) else none
  | some i=>match off with
   | 0=>some ([m.length = n,i + n ≤ s],.a16 (l.take i ++ m ++ l.drop (i + n)))
   | o=>some ([m.length = n,i + o + n ≤ s],.a16 (l.take (i + o) ++ m ++ l.drop (i + o + n)))
 | .a32 l,.a32 m=>match i with
  | none=>match off with
   | 0=>bif Nat.beq n s then some ([m.length = n],.a32 m) else bif Nat.ble n s then some ([m.length = n],.a32 (m ++ l.drop n)) else none
   | o=>bif Nat.ble (o + n) s then some ([m.length = n],.a32 (l.take o ++ m ++ l.drop (o + n))) else none
  | some i=>match off with
   | 0=>some ([m.length = n,i + n ≤ s],.a32 (l.take i ++ m ++ l.drop (i + n)))
   | o=>some ([m.length = n,i + o + n ≤ s],.a32 (l.take (i + o) ++ m ++ l.drop (i + o + n)))
 | .a64 l,.a64 m=>match i with
  | none=>match off with
   | 0=>bif Nat.beq n s then some ([m.length = n],.a64 m) else bif Nat.ble n s then some ([m.length = n],.a64 (m ++ l.drop n)) else none
   | o=>bif Nat.ble (o + n) s then some ([m.length = n],.a64 (l.take o ++ m ++ l.drop (o + n))) else none
  | some i=>match off with
   | 0=>some ([m.length = n,i + n ≤ s],.a64 (l.take i ++ m ++ l.drop (i + n)))
   | o=>some ([m.length = n,i + o + n ≤ s],.a64 (l.take (i + o) ++ m ++ l.drop (i + o + n)))
 | .ai l,.ai m=>match i with
  | none=>match off with
   | 0=>bif Nat.beq n s then some ([m.length = n],.ai m) else bif Nat.ble n s then some ([m.length = n],.ai (m ++ l.drop n)) else none
   | o=>bif Nat.ble (o + n) s then some ([m.length = n],.ai (l.take o ++ m ++ l.drop (o + n))) else none
  | some i=>match off with
   | 0=>some ([m.length = n,i + n ≤ s],.ai (l.take i ++ m ++ l.drop (i + n)))
   | o=>some ([m.length = n,i + o + n ≤ s],.ai (l.take (i + o) ++ m ++ l.drop (i + o + n)))
 | _,_=>none
def consL (s:Nat) (u:SV) (r:Option (List Prop × List (Nat × SV))):Option (List Prop × List (Nat × SV)):=
 match r with
 | some (ps,l)=>some (ps,(s,u) :: l)
 | none=>none
def headL (s:Nat) (r:List (Nat × SV)) (o:Option (List Prop × SV)):Option (List Prop × List (Nat × SV)):=
 match o with
 | some (ps,u)=>some (ps,(s,u) :: r)
 | none=>none
def storeL (ls:List (Nat × SV)) (f:Nat) (i:Option Nat) (y:Ty) (v:SV):Option (List Prop × List (Nat × SV)):=
  match ls with
  | []=>none
  | (s,u) :: r=>
    match f with
    | 0=>bif isAggK y.k then
        (bif isArr u && isArr v then headL s r (spliceLeaf u s 0 i y.size v) else match i with
          | none=>match leavesOf y v with
            | some (ps,l)=>bif wholeL ((s,u) :: r) y.size && wholeL l y.size then some (ps,l) else bif Nat.beq (sizeL l) y.size then match putL ((s,u) :: r) 0 l with
              | some l'=>some (ps,l')
              | none=>none
              else none
            | none=>none
          | some _=>none)
        else bif Nat.beq y.size 1 then headL s r (setLeaf u s 0 i v) else none
    | f + 1=>bif Nat.blt (f + 1) s then
        (bif isAggK y.k then (bif isArr u && isArr v then headL s r (spliceLeaf u s (f + 1) i y.size v) else none)
         else bif Nat.beq y.size 1 then headL s r (setLeaf u s (f + 1) i v) else none)
        else consL s u (storeL r (f + 1 - s) i y v)
theorem set_seg {α:Type} (l:List α) (i:Nat) (x:α) (h:i < l.length):l.set i x = l.take i ++ [x] ++ l.drop (i + 1):=by
 rw [List.set_eq_take_append_cons_drop,if_pos h];simp
theorem setLeaf_sound {ρ:Env} {u v:SV} {c:List Value} (hc:Cells1 ρ u c) {s:Nat} (hs:c.length = s) {off:Nat} {i:Option Nat} {x:Value} (hx:RelT ρ v x) {ps:List Prop} {z:SV}
  (h:setLeaf u s off i v = some (ps,z)) (hp:All ps) :
  off + i.getD 0 < s∧one x∧Cells1 ρ z (c.take (off + i.getD 0) ++ [x] ++ c.drop (off + i.getD 0 + 1)):=by
 unfold setLeaf at h
 split at h
 ·rename_i l b
  obtain rfl:c = l.map w8:=hc
  obtain rfl:x = w8 b:=hx
  rw [List.length_map] at hs
  have key:∀ j,j < s→Cells1 ρ (.a8 (l.set j b)) ((l.map w8).take j ++ [w8 b] ++ (l.map w8).drop (j + 1)):=by
   intro j hj
   show _ = _
   rw [List.map_set,set_seg _ _ _ (by simp;omega)]
  split at h
  ·obtain ⟨hb,h⟩:=bif_none h
   simp only [Option.some.injEq,Prod.mk.injEq] at h;obtain ⟨rfl,rfl⟩:=h
   have:=u_lt_of hb
   exact ⟨by simpa using this,trivial,by simpa using key off this⟩
  ·rename_i j
   split at h <;> simp only [Option.some.injEq,Prod.mk.injEq] at h <;> obtain ⟨rfl,rfl⟩:=h
   ·have:=hp.head
    exact ⟨by simpa using this,trivial,by simpa using key j this⟩
   ·have:=hp.head
    refine ⟨by simp;omega,trivial,?_⟩
    rw [show ∀ o:Nat,o + (some j).getD 0 = j + o by intro o;simp [Nat.add_comm]]
    exact key _ this
 ·rename_i l b
  obtain rfl:c = l.map w16:=hc
  obtain rfl:x = w16 b:=hx
  rw [List.length_map] at hs
  have key:∀ j,j < s→Cells1 ρ (.a16 (l.set j b)) ((l.map w16).take j ++ [w16 b] ++ (l.map w16).drop (j + 1)):=by
   intro j hj
   show _ = _
   rw [List.map_set,set_seg _ _ _ (by simp;omega)]
  split at h
  ·obtain ⟨hb,h⟩:=bif_none h
   simp only [Option.some.injEq,Prod.mk.injEq] at h;obtain ⟨rfl,rfl⟩:=h
   have:=u_lt_of hb
   exact ⟨by simpa using this,trivial,by simpa using key off this⟩
  ·rename_i j
   split at h <;> simp only [Option.some.injEq,Prod.mk.injEq] at h <;> obtain ⟨rfl,rfl⟩:=h
   ·have:=hp.head
    exact ⟨by simpa using this,trivial,by simpa using key j this⟩
   ·have:=hp.head
    refine ⟨by simp;omega,trivial,?_⟩
    rw [show ∀ o:Nat,o + (some j).getD 0 = j + o by intro o;simp [Nat.add_comm]]
    exact key _ this
 ·rename_i l b
  obtain rfl:c = l.map w32:=hc
  obtain rfl:x = w32 b:=hx
  rw [List.length_map] at hs
  have key:∀ j,j < s→Cells1 ρ (.a32 (l.set j b)) ((l.map w32).take j ++ [w32 b] ++ (l.map w32).drop (j + 1)):=by
   intro j hj
   show _ = _
   rw [List.map_set,set_seg _ _ _ (by simp;omega)]
  split at h
  ·obtain ⟨hb,h⟩:=bif_none h
   simp only [Option.some.injEq,Prod.mk.injEq] at h;obtain ⟨rfl,rfl⟩:=h
   have:=u_lt_of hb
   exact ⟨by simpa using this,trivial,by simpa using key off this⟩
  ·rename_i j
   split at h <;> simp only [Option.some.injEq,Prod.mk.injEq] at h <;> obtain ⟨rfl,rfl⟩:=h
   ·have:=hp.head
    exact ⟨by simpa using this,trivial,by simpa using key j this⟩
   ·have:=hp.head
    refine ⟨by simp;omega,trivial,?_⟩
    rw [show ∀ o:Nat,o + (some j).getD 0 = j + o by intro o;simp [Nat.add_comm]]
    exact key _ this
 ·rename_i l b
  obtain rfl:c = l.map w64:=hc
  obtain rfl:x = w64 b:=hx
  rw [List.length_map] at hs
  have key:∀ j,j < s→Cells1 ρ (.a64 (l.set j b)) ((l.map w64).take j ++ [w64 b] ++ (l.map w64).drop (j + 1)):=by
   intro j hj
   show _ = _
   rw [List.map_set,set_seg _ _ _ (by simp;omega)]
  split at h
  ·obtain ⟨hb,h⟩:=bif_none h
   simp only [Option.some.injEq,Prod.mk.injEq] at h;obtain ⟨rfl,rfl⟩:=h
   have:=u_lt_of hb
   exact ⟨by simpa using this,trivial,by simpa using key off this⟩
  ·rename_i j
   split at h <;> simp only [Option.some.injEq,Prod.mk.injEq] at h <;> obtain ⟨rfl,rfl⟩:=h
   ·have:=hp.head
    exact ⟨by simpa using this,trivial,by simpa using key j this⟩
   ·have:=hp.head
    refine ⟨by simp;omega,trivial,?_⟩
    rw [show ∀ o:Nat,o + (some j).getD 0 = j + o by intro o;simp [Nat.add_comm]]
    exact key _ this
 ·rename_i l b
  obtain rfl:c = l.map wi:=hc
  obtain rfl:x = wi b:=hx
  rw [List.length_map] at hs
  have key:∀ j,j < s→Cells1 ρ (.ai (l.set j b)) ((l.map wi).take j ++ [wi b] ++ (l.map wi).drop (j + 1)):=by
   intro j hj
   show _ = _
   rw [List.map_set,set_seg _ _ _ (by simp;omega)]
  split at h
  ·obtain ⟨hb,h⟩:=bif_none h
   simp only [Option.some.injEq,Prod.mk.injEq] at h;obtain ⟨rfl,rfl⟩:=h
   have:=u_lt_of hb
   exact ⟨by simpa using this,trivial,by simpa using key off this⟩
  ·rename_i j
   split at h <;> simp only [Option.some.injEq,Prod.mk.injEq] at h <;> obtain ⟨rfl,rfl⟩:=h
   ·have:=hp.head
    exact ⟨by simpa using this,trivial,by simpa using key j this⟩
   ·have:=hp.head
    refine ⟨by simp;omega,trivial,?_⟩
    rw [show ∀ o:Nat,o + (some j).getD 0 = j + o by intro o;simp [Nat.add_comm]]
    exact key _ this
 ·rename_i n es F
  split at h
  ·cases h
  ·rename_i j
   split at h
   ·split at h
    ·rcases bif_some h with ⟨hv,h⟩ | ⟨_,h⟩
     ·simp only [Option.some.injEq,Prod.mk.injEq] at h;obtain ⟨rfl,rfl⟩:=h
      simp only [Bool.and_eq_true,Bool.not_eq_true'] at hv
      have hj:=hp.head
      obtain ⟨r1,r2⟩:=hc
      have hrs:RelS ρ v x:=by
       cases v <;> first | exact hx | (cases hv.1;done) | (cases hv.2;done)
      have hlen:(c.take j ++ [x] ++ c.drop (j + 1)).length = n * 1:=by
       simp only [List.length_append,List.length_take,List.length_drop,List.length_singleton];omega
      have hset:c.take j ++ [x] ++ c.drop (j + 1) = c.set j x:=(set_seg c j x (by omega)).symm
      refine ⟨by simp;omega,hrs.one,?_⟩
      simp only [Option.getD_some,Nat.zero_add]
      refine ⟨hlen,fun q hq=>?_⟩
      rw [hset]
      have hget:((c.set j x).drop (q * 1)).take 1 = [(c.set j x)[q]'(by simp;omega)]:=by
       rw [Nat.mul_one,List.drop_eq_getElem_cons (by simp;omega),List.take_succ_cons,List.take_zero]
      by_cases hqj:q = j
      ·subst hqj
       simp only [if_true]
       rw [hget]
       refine ⟨[x],[],by simp,rfl,?_,rfl⟩
       exact (Cells0_of_S (boolN_arr.trans hv.2)).2 ⟨x,boolN_rel (bareV_rel hv.1 hrs),rfl⟩
      ·simp only [if_neg hqj]
       rw [hget,List.getElem_set_ne (fun e=>hqj e.symm)]
       have:=r2 q hq
       rw [Nat.mul_one,List.drop_eq_getElem_cons (by omega),List.take_succ_cons,List.take_zero] at this
       exact this
     ·cases h
    ·cases h
   ·cases h
 ·rename_i hu0 _ _ _ _ _ hrow
  obtain ⟨hu,h⟩:isArr u = false∧_:=by
   rcases bif_some h with ⟨_,h⟩ | ⟨h1,h⟩
   ·cases h
   ·exact ⟨h1,h⟩
  have hlen:c.length = 1:=by
   have hr:isRow u = false:=by
    cases u <;> first | rfl | (exfalso;simp_all;done)
   obtain ⟨y,_,rfl⟩:=(Cells1_one_cell hu hr).1 hc
   rfl
  split at h
  ·split at h
   ·cases h
   ·cases h
   ·cases h
   ·cases h
   ·rename_i hn1 hn2 hn3 hn4
    obtain ⟨hv,h⟩:isArr v = false∧_:=by
     rcases bif_some h with ⟨_,h⟩ | ⟨h1,h⟩
     ·cases h
     ·exact ⟨h1,h⟩
    simp only [Option.some.injEq,Prod.mk.injEq] at h;obtain ⟨rfl,rfl⟩:=h
    have hrs:RelS ρ v x∧Cells1 ρ v [x]:=by
     cases v <;> first
      | exact ⟨hx,x,hx,rfl⟩
      | (exfalso;simp_all [isArr];done)
      | (exfalso;first | exact hn1 rfl | exact hn2 _ rfl | exact hn3 _ rfl | exact hn4 _ _ _ rfl)
    refine ⟨by simp;omega,hrs.1.one,?_⟩
    have e:c.drop 1 = []:=List.drop_of_length_le (by omega)
    simpa [e] using hrs.2
  ·cases h
theorem spliceLeaf_sound {ρ:Env} {u v:SV} {c:List Value} (hc:Cells1 ρ u c) {s:Nat} (hs:c.length = s) {off:Nat} {i:Option Nat} {n:Nat} {x:Value} (hx:RelT ρ v x) {ps:List Prop} {z:SV}
  (h:spliceLeaf u s off i n v = some (ps,z)) (hp:All ps) :
  off + i.getD 0 + n ≤ s∧x.cells.size = n∧(∀ y ∈ x.cells.toList,one y)∧Cells1 ρ z (c.take (off + i.getD 0) ++ x.cells.toList ++ c.drop (off + i.getD 0 + n)):=by
 unfold spliceLeaf at h
 split at h
 ·rename_i l m
  obtain rfl:c = l.map w8:=hc
  obtain rfl:x = .agg (m.map w8).toArray:=hx
  rw [List.length_map] at hs
  have ho:∀ y ∈ (Value.agg (m.map w8).toArray).cells.toList,one y:=by
   intro y hy
   simp only [Value.cells] at hy
   obtain ⟨_,_,rfl⟩:=List.mem_map.1 hy
   trivial
  have key:∀ j,Cells1 ρ (.a8 (l.take j ++ m ++ l.drop (j + n))) ((l.map w8).take j ++ (Value.agg (m.map w8).toArray).cells.toList ++ (l.map w8).drop (j + n)):=by
   intro j
   show _ = _
   simp [Value.cells,List.map_take,List.map_drop]
  split at h
  ·split at h
   ·rcases bif_some h with ⟨hb,h⟩ | ⟨_,h⟩
    ·simp only [Option.some.injEq,Prod.mk.injEq] at h;obtain ⟨rfl,rfl⟩:=h
     have:=hp.head
     have:=beq_eq' hb
     refine ⟨by simp;omega,by simp [Value.cells];omega,ho,?_⟩
     have k:=key 0
     rw [List.drop_of_length_le (by omega)] at k
     simpa using k
    ·obtain ⟨hb,h⟩:=bif_none h
     simp only [Option.some.injEq,Prod.mk.injEq] at h;obtain ⟨rfl,rfl⟩:=h
     have:=hp.head
     have:=ble_le' hb
     refine ⟨by simp;omega,by simp [Value.cells];omega,ho,?_⟩
     have k:=key 0
     simpa using k
   ·obtain ⟨hb,h⟩:=bif_none h
    simp only [Option.some.injEq,Prod.mk.injEq] at h;obtain ⟨rfl,rfl⟩:=h
    have:=hp.head
    have:=ble_le' hb
    exact ⟨by simp;omega,by simp [Value.cells];omega,ho,key _⟩
  ·rename_i j
   split at h <;> simp only [Option.some.injEq,Prod.mk.injEq] at h <;> obtain ⟨rfl,rfl⟩:=h
   ·have:=hp.head
    have:=hp.tail.head
    refine ⟨by simp;omega,by simp [Value.cells];omega,ho,?_⟩
    rw [show 0 + (some j).getD 0 = j by simp]
    exact key j
   ·have:=hp.head
    have:=hp.tail.head
    refine ⟨by simp;omega,by simp [Value.cells];omega,ho,?_⟩
    rw [show ∀ o:Nat,o + (some j).getD 0 = j + o by intro o;simp [Nat.add_comm]]
    exact key _
 ·rename_i l m
  obtain rfl:c = l.map w16:=hc
  obtain rfl:x = .agg (m.map w16).toArray:=hx
  rw [List.length_map] at hs
  have ho:∀ y ∈ (Value.agg (m.map w16).toArray).cells.toList,one y:=by
   intro y hy
   simp only [Value.cells] at hy
   obtain ⟨_,_,rfl⟩:=List.mem_map.1 hy
   trivial
  have key:∀ j,Cells1 ρ (.a16 (l.take j ++ m ++ l.drop (j + n))) ((l.map w16).take j ++ (Value.agg (m.map w16).toArray).cells.toList ++ (l.map w16).drop (j + n)):=by
   intro j
   show _ = _
   simp [Value.cells,List.map_take,List.map_drop]
  split at h
  ·split at h
   ·rcases bif_some h with ⟨hb,h⟩ | ⟨_,h⟩
    ·simp only [Option.some.injEq,Prod.mk.injEq] at h;obtain ⟨rfl,rfl⟩:=h
     have:=hp.head
     have:=beq_eq' hb
     refine ⟨by simp;omega,by simp [Value.cells];omega,ho,?_⟩
     have k:=key 0
     rw [List.drop_of_length_le (by omega)] at k
     simpa using k
    ·obtain ⟨hb,h⟩:=bif_none h
     simp only [Option.some.injEq,Prod.mk.injEq] at h;obtain ⟨rfl,rfl⟩:=h
     have:=hp.head
     have:=ble_le' hb
     refine ⟨by simp;omega,by simp [Value.cells];omega,ho,?_⟩
     have k:=key 0
     simpa using k
   ·obtain ⟨hb,h⟩:=bif_none h
    simp only [Option.some.injEq,Prod.mk.injEq] at h;obtain ⟨rfl,rfl⟩:=h
    have:=hp.head
    have:=ble_le' hb
    exact ⟨by simp;omega,by simp [Value.cells];omega,ho,key _⟩
  ·rename_i j
   split at h <;> simp only [Option.some.injEq,Prod.mk.injEq] at h <;> obtain ⟨rfl,rfl⟩:=h
   ·have:=hp.head
    have:=hp.tail.head
    refine ⟨by simp;omega,by simp [Value.cells];omega,ho,?_⟩
    rw [show 0 + (some j).getD 0 = j by simp]
    exact key j
   ·have:=hp.head
    have:=hp.tail.head
    refine ⟨by simp;omega,by simp [Value.cells];omega,ho,?_⟩
    rw [show ∀ o:Nat,o + (some j).getD 0 = j + o by intro o;simp [Nat.add_comm]]
    exact key _
 ·rename_i l m
  obtain rfl:c = l.map w32:=hc
  obtain rfl:x = .agg (m.map w32).toArray:=hx
  rw [List.length_map] at hs
  have ho:∀ y ∈ (Value.agg (m.map w32).toArray).cells.toList,one y:=by
   intro y hy
   simp only [Value.cells] at hy
   obtain ⟨_,_,rfl⟩:=List.mem_map.1 hy
   trivial
  have key:∀ j,Cells1 ρ (.a32 (l.take j ++ m ++ l.drop (j + n))) ((l.map w32).take j ++ (Value.agg (m.map w32).toArray).cells.toList ++ (l.map w32).drop (j + n)):=by
   intro j
   show _ = _
   simp [Value.cells,List.map_take,List.map_drop]
  split at h
  ·split at h
   ·rcases bif_some h with ⟨hb,h⟩ | ⟨_,h⟩
    ·simp only [Option.some.injEq,Prod.mk.injEq] at h;obtain ⟨rfl,rfl⟩:=h
     have:=hp.head
     have:=beq_eq' hb
     refine ⟨by simp;omega,by simp [Value.cells];omega,ho,?_⟩
     have k:=key 0
     rw [List.drop_of_length_le (by omega)] at k
     simpa using k
    ·obtain ⟨hb,h⟩:=bif_none h
     simp only [Option.some.injEq,Prod.mk.injEq] at h;obtain ⟨rfl,rfl⟩:=h
     have:=hp.head
     have:=ble_le' hb
     refine ⟨by simp;omega,by simp [Value.cells];omega,ho,?_⟩
     have k:=key 0
     simpa using k
   ·obtain ⟨hb,h⟩:=bif_none h
    simp only [Option.some.injEq,Prod.mk.injEq] at h;obtain ⟨rfl,rfl⟩:=h
    have:=hp.head
    have:=ble_le' hb
    exact ⟨by simp;omega,by simp [Value.cells];omega,ho,key _⟩
  ·rename_i j
   split at h <;> simp only [Option.some.injEq,Prod.mk.injEq] at h <;> obtain ⟨rfl,rfl⟩:=h
   ·have:=hp.head
    have:=hp.tail.head
    refine ⟨by simp;omega,by simp [Value.cells];omega,ho,?_⟩
    rw [show 0 + (some j).getD 0 = j by simp]
    exact key j
   ·have:=hp.head
    have:=hp.tail.head
    refine ⟨by simp;omega,by simp [Value.cells];omega,ho,?_⟩
    rw [show ∀ o:Nat,o + (some j).getD 0 = j + o by intro o;simp [Nat.add_comm]]
    exact key _
 ·rename_i l m
  obtain rfl:c = l.map w64:=hc
  obtain rfl:x = .agg (m.map w64).toArray:=hx
  rw [List.length_map] at hs
  have ho:∀ y ∈ (Value.agg (m.map w64).toArray).cells.toList,one y:=by
   intro y hy
   simp only [Value.cells] at hy
   obtain ⟨_,_,rfl⟩:=List.mem_map.1 hy
   trivial
  have key:∀ j,Cells1 ρ (.a64 (l.take j ++ m ++ l.drop (j + n))) ((l.map w64).take j ++ (Value.agg (m.map w64).toArray).cells.toList ++ (l.map w64).drop (j + n)):=by
   intro j
   show _ = _
   simp [Value.cells,List.map_take,List.map_drop]
  split at h
  ·split at h
   ·rcases bif_some h with ⟨hb,h⟩ | ⟨_,h⟩
    ·simp only [Option.some.injEq,Prod.mk.injEq] at h;obtain ⟨rfl,rfl⟩:=h
     have:=hp.head
     have:=beq_eq' hb
     refine ⟨by simp;omega,by simp [Value.cells];omega,ho,?_⟩
     have k:=key 0
     rw [List.drop_of_length_le (by omega)] at k
     simpa using k
    ·obtain ⟨hb,h⟩:=bif_none h
     simp only [Option.some.injEq,Prod.mk.injEq] at h;obtain ⟨rfl,rfl⟩:=h
     have:=hp.head
     have:=ble_le' hb
     refine ⟨by simp;omega,by simp [Value.cells];omega,ho,?_⟩
     have k:=key 0
     simpa using k
   ·obtain ⟨hb,h⟩:=bif_none h
    simp only [Option.some.injEq,Prod.mk.injEq] at h;obtain ⟨rfl,rfl⟩:=h
    have:=hp.head
    have:=ble_le' hb
    exact ⟨by simp;omega,by simp [Value.cells];omega,ho,key _⟩
  ·rename_i j
   split at h <;> simp only [Option.some.injEq,Prod.mk.injEq] at h <;> obtain ⟨rfl,rfl⟩:=h
   ·have:=hp.head
    have:=hp.tail.head
    refine ⟨by simp;omega,by simp [Value.cells];omega,ho,?_⟩
    rw [show 0 + (some j).getD 0 = j by simp]
    exact key j
   ·have:=hp.head
    have:=hp.tail.head
    refine ⟨by simp;omega,by simp [Value.cells];omega,ho,?_⟩
    rw [show ∀ o:Nat,o + (some j).getD 0 = j + o by intro o;simp [Nat.add_comm]]
    exact key _
 ·rename_i l m
  obtain rfl:c = l.map wi:=hc
  obtain rfl:x = .agg (m.map wi).toArray:=hx
  rw [List.length_map] at hs
  have ho:∀ y ∈ (Value.agg (m.map wi).toArray).cells.toList,one y:=by
   intro y hy
   simp only [Value.cells] at hy
   obtain ⟨_,_,rfl⟩:=List.mem_map.1 hy
   trivial
  have key:∀ j,Cells1 ρ (.ai (l.take j ++ m ++ l.drop (j + n))) ((l.map wi).take j ++ (Value.agg (m.map wi).toArray).cells.toList ++ (l.map wi).drop (j + n)):=by
   intro j
   show _ = _
   simp [Value.cells,List.map_take,List.map_drop]
  split at h
  ·split at h
   ·rcases bif_some h with ⟨hb,h⟩ | ⟨_,h⟩
    ·simp only [Option.some.injEq,Prod.mk.injEq] at h;obtain ⟨rfl,rfl⟩:=h
     have:=hp.head
     have:=beq_eq' hb
     refine ⟨by simp;omega,by simp [Value.cells];omega,ho,?_⟩
     have k:=key 0
     rw [List.drop_of_length_le (by omega)] at k
     simpa using k
    ·obtain ⟨hb,h⟩:=bif_none h
     simp only [Option.some.injEq,Prod.mk.injEq] at h;obtain ⟨rfl,rfl⟩:=h
     have:=hp.head
     have:=ble_le' hb
     refine ⟨by simp;omega,by simp [Value.cells];omega,ho,?_⟩
     have k:=key 0
     simpa using k
   ·obtain ⟨hb,h⟩:=bif_none h
    simp only [Option.some.injEq,Prod.mk.injEq] at h;obtain ⟨rfl,rfl⟩:=h
    have:=hp.head
    have:=ble_le' hb
    exact ⟨by simp;omega,by simp [Value.cells];omega,ho,key _⟩
  ·rename_i j
   split at h <;> simp only [Option.some.injEq,Prod.mk.injEq] at h <;> obtain ⟨rfl,rfl⟩:=h
   ·have:=hp.head
    have:=hp.tail.head
    refine ⟨by simp;omega,by simp [Value.cells];omega,ho,?_⟩
    rw [show 0 + (some j).getD 0 = j by simp]
    exact key j
   ·have:=hp.head
    have:=hp.tail.head
    refine ⟨by simp;omega,by simp [Value.cells];omega,ho,?_⟩
    rw [show ∀ o:Nat,o + (some j).getD 0 = j + o by intro o;simp [Nat.add_comm]]
    exact key _
 ·cases h
theorem seg_app {α:Type} (c1 c2 nc:List α) (q n:Nat) (h:q + n ≤ c1.length):(c1.take q ++ nc ++ c1.drop (q + n)) ++ c2 = (c1 ++ c2).take q ++ nc ++ (c1 ++ c2).drop (q + n):=by
 rw [List.take_append_of_le_length (by omega),List.drop_append_of_le_length h];simp
theorem seg_app2 {α:Type} (c1 c2 nc:List α) (q n:Nat):c1 ++ (c2.take q ++ nc ++ c2.drop (q + n)) = (c1 ++ c2).take (c1.length + q) ++ nc ++ (c1 ++ c2).drop (c1.length + q + n):=by
 have e1:(c1 ++ c2).take (c1.length + q) = c1 ++ c2.take q:=by
  rw [List.take_append,List.take_of_length_le (l:=c1) (by omega),Nat.add_sub_cancel_left]
 have e2:(c1 ++ c2).drop (c1.length + q + n) = c2.drop (q + n):=by
  rw [List.drop_append,List.drop_of_length_le (l:=c1) (by omega),show c1.length + q + n - c1.length = q + n by omega,List.nil_append]
 rw [e1,e2];simp
theorem storeL_sound {ρ:Env}:∀ {ls:List (Nat × SV)} {cs:List Value} (_:CellsL ρ ls cs) {f:Nat} {i:Option Nat} {y:Ty} {v:SV} {x:Value} (_:RelT ρ v x) {ps:List Prop} {l:List (Nat × SV)},
  storeL ls f i y v = some (ps,l)→All ps →
   f + i.getD 0 + y.size ≤ cs.length∧x.cells.size = y.size∧(∀ z ∈ x.cells.toList,one z)∧sizeL l = sizeL ls∧CellsL ρ l (cs.take (f + i.getD 0) ++ x.cells.toList ++ cs.drop (f + i.getD 0 + y.size))
 | [],_,_,_,_,_,_,_,_,_,_,h,_=>by simp [storeL] at h
 | (s,u) :: r,cs,hc,f,i,y,v,x,hx,ps,l,h,hp=>by
  have hc0:=hc
  obtain ⟨c1,c2,rfl,h1,h2,h3⟩:=hc
  have hsplice:∀ {off:Nat},headL s r (spliceLeaf u s off i y.size v) = some (ps,l) →
    off + i.getD 0 + y.size ≤ (c1 ++ c2).length∧x.cells.size = y.size∧(∀ z ∈ x.cells.toList,one z)∧sizeL l = sizeL ((s,u) :: r)∧CellsL ρ l ((c1 ++ c2).take (off + i.getD 0) ++ x.cells.toList ++ (c1 ++ c2).drop (off + i.getD 0 + y.size)):=by
   intro off h
   unfold headL at h
   split at h
   ·rename_i qs z hz
    simp only [Option.some.injEq,Prod.mk.injEq] at h;obtain ⟨rfl,rfl⟩:=h
    obtain ⟨q1,q2,q3,q4⟩:=spliceLeaf_sound h2 h1 hx hz hp
    have hl:x.cells.toList.length = y.size:=by simpa using q2
    refine ⟨by simp;omega,q2,q3,rfl,?_⟩
    rw [← seg_app _ _ _ _ _ (by omega)]
    exact ⟨_,c2,rfl,by simp;omega,q4,h3⟩
   ·cases h
  have hset:∀ {off:Nat},y.size = 1→headL s r (setLeaf u s off i v) = some (ps,l) →
    off + i.getD 0 + y.size ≤ (c1 ++ c2).length∧x.cells.size = y.size∧(∀ z ∈ x.cells.toList,one z)∧sizeL l = sizeL ((s,u) :: r)∧CellsL ρ l ((c1 ++ c2).take (off + i.getD 0) ++ x.cells.toList ++ (c1 ++ c2).drop (off + i.getD 0 + y.size)):=by
   intro off hy h
   unfold headL at h
   split at h
   ·rename_i qs z hz
    simp only [Option.some.injEq,Prod.mk.injEq] at h;obtain ⟨rfl,rfl⟩:=h
    obtain ⟨q1,q2,q4⟩:=setLeaf_sound h2 h1 hx hz hp
    have hcell:x.cells = #[x]:=one_cells q2
    rw [hcell,hy]
    refine ⟨by simp;omega,rfl,by simpa using q2,rfl,?_⟩
    show CellsL ρ _ (_ ++ [x] ++ _)
    rw [← seg_app _ _ _ _ _ (by omega)]
    exact ⟨_,c2,rfl,by simp;omega,q4,h3⟩
   ·cases h
  unfold storeL at h
  split at h
  ·rcases bif_some h with ⟨_,h⟩ | ⟨_,h⟩
   ·rcases bif_some h with ⟨_,h⟩ | ⟨_,h⟩
    ·exact hsplice h
    ·split at h
     ·split at h
      ·rename_i qs l' hl'
       rcases bif_some h with ⟨hb2,h⟩ | ⟨_,h⟩
       ·simp only [Option.some.injEq,Prod.mk.injEq] at h;obtain ⟨rfl,rfl⟩:=h
        simp only [Bool.and_eq_true] at hb2
        have hsz:=wholeL_size hb2.2
        have hcell:=leavesOf_sound hx hl' hp
        have hlen:x.cells.toList.length = y.size:=by rw [hcell.length,hsz]
        have e2:=hc0.length
        have e3:sizeL ((s,u) :: r) = y.size:=wholeL_size hb2.1
        rw [e3] at e2
        simp only [Option.getD_none,Nat.add_zero,Nat.zero_add,List.take_zero,List.nil_append]
        rw [List.drop_of_length_le (by rw [e2];exact Nat.le_refl _),List.append_nil]
        exact ⟨by rw [e2];exact Nat.le_refl _,by simpa using hlen,hcell.one,by rw [hsz,e3],hcell⟩
       obtain ⟨hb,h⟩:=bif_none h
       have hsz:=beq_eq' hb
       split at h
       ·rename_i l'' hput
        simp only [Option.some.injEq,Prod.mk.injEq] at h;obtain ⟨rfl,rfl⟩:=h
        have hcell:=leavesOf_sound hx hl' hp
        obtain ⟨p1,p2⟩:=putL_sound hcell hc0 hput
        have hlen:x.cells.toList.length = y.size:=by rw [hcell.length,hsz]
        rw [hlen] at p1 p2
        refine ⟨by simpa using p2,by simpa using hlen,hcell.one,?_,by simpa using p1⟩
        have e1:=p1.length
        have e2:=hc0.length
        simp only [List.length_append,List.length_take,List.length_drop] at e1 e2 p2
        rw [← e1,← e2]
        omega
       ·cases h
      ·cases h
     ·cases h
   ·obtain ⟨hb,h⟩:=bif_none h
    exact hset (beq_eq' hb) h
  ·rename_i g
   rcases bif_some h with ⟨hb,h⟩ | ⟨hb,h⟩
   ·rcases bif_some h with ⟨_,h⟩ | ⟨_,h⟩
    ·obtain ⟨_,h⟩:=bif_none h
     exact hsplice h
    ·obtain ⟨hb,h⟩:=bif_none h
     exact hset (beq_eq' hb) h
   ·have hge:s ≤ g + 1:=by
     rcases Nat.lt_or_ge (g + 1) s with hl | hl
     ·have:Nat.blt (g + 1) s = true:=by simpa [Nat.blt_eq] using hl
      rw [this] at hb;cases hb
     ·exact hl
    unfold consL at h
    split at h
    ·rename_i qs l' hl'
     simp only [Option.some.injEq,Prod.mk.injEq] at h;obtain ⟨rfl,rfl⟩:=h
     obtain ⟨q1,q2,q3,q4,q5⟩:=storeL_sound h3 hx hl' hp
     refine ⟨by simp;omega,q2,q3,by simp only [sizeL,q4],?_⟩
     have e:=seg_app2 c1 c2 x.cells.toList (g + 1 - s + i.getD 0) y.size
     rw [show c1.length + (g + 1 - s + i.getD 0) = g + 1 + i.getD 0 by omega] at e
     rw [← e]
     exact ⟨c1,_,rfl,h1,h2,q5⟩
    ·cases h
def storeI (ls:List (Nat × SV)) (f q s:Nat) (y:Ty) (v:SV):Option (List Prop × List (Nat × SV)):=
 match ls with
 | [(t,.arr m es F)]=>bif Nat.beq es s then match leavesOf y v with
   | some (ps,l)=>bif bareL l && Nat.beq (sizeL l) y.size then match putL (F q) f l with
     | some l'=>bif noRowL l' then some ((q < m) :: ps,[(t,.arr m es (fun j=>if j = q then l' else F j))]) else none
     | none=>none
    else none
   | none=>none
  else none
 | _=>none
theorem storeI_sound {ρ:Env} {ls:List (Nat × SV)} {cs:List Value} (hc:CellsL ρ ls cs) {f q s:Nat} {y:Ty} {v:SV} {x:Value} (hx:RelT ρ v x) {ps:List Prop} {l:List (Nat × SV)}
  (h:storeI ls f q s y v = some (ps,l)) (hp:All ps) :
   f + q * s + y.size ≤ cs.length∧x.cells.size = y.size∧(∀ z ∈ x.cells.toList,one z)∧sizeL l = sizeL ls∧CellsL ρ l (cs.take (f + q * s) ++ x.cells.toList ++ cs.drop (f + q * s + y.size)):=by
 unfold storeI at h
 split at h
 ·rename_i t m es F
  have hes:=beq_eq' (bif_none h).1
  replace h:=(bif_none h).2
  subst hes
  split at h
  ·rename_i qs nl hnl
   have hb:=(bif_none h).1
   replace h:=(bif_none h).2
   simp only [Bool.and_eq_true] at hb
   have hsz:=beq_eq' hb.2
   split at h
   ·rename_i l' hput
    have hnr:=(bif_none h).1
    replace h:=(bif_none h).2
    simp only [Option.some.injEq,Prod.mk.injEq] at h;obtain ⟨rfl,rfl⟩:=h
    have hq:=hp.head
    obtain ⟨c1,c2,rfl,h1,h2,h3⟩:=hc
    have e2:c2 = []:=h3
    subst e2
    simp only [List.append_nil]
    obtain ⟨r1,r2⟩:=h2
    have hcell:=leavesOf_sound hx hnl hp.tail
    have hlen:x.cells.toList.length = y.size:=by rw [hcell.length,hsz]
    have hbig:(q + 1) * es ≤ m * es:=Nat.mul_le_mul_right _ hq
    rw [Nat.add_mul,Nat.one_mul] at hbig
    have hrow:((c1.drop (q * es)).take es).length = es:=by rw [List.length_take,List.length_drop,r1];omega
    obtain ⟨p1,p2⟩:=putL_sound (CellsL0_CellsL (bareL_cells hb.1 hcell)) (CellsL0_CellsL (r2 q hq)) hput
    rw [hlen] at p1 p2
    rw [hrow] at p2
    have hnew:=noRow_cells hnr p1
    have hwhole:c1.take (f + q * es) ++ x.cells.toList ++ c1.drop (f + q * es + y.size) =
      c1.take (q * es) ++ (((c1.drop (q * es)).take es).take f ++ x.cells.toList ++ ((c1.drop (q * es)).take es).drop (f + y.size)) ++ c1.drop (q * es + es):=by
     have a1:c1.take (f + q * es) = c1.take (q * es) ++ ((c1.drop (q * es)).take es).take f:=by
      rw [List.take_take,Nat.min_eq_left (by omega),Nat.add_comm f,List.take_add]
     have a2:c1.drop (f + q * es + y.size) = ((c1.drop (q * es)).take es).drop (f + y.size) ++ c1.drop (q * es + es):=by
      rw [List.drop_take,List.drop_drop]
      have:c1.drop (q * es + es) = (c1.drop (q * es + (f + y.size))).drop (es - (f + y.size)):=by
       rw [List.drop_drop];congr 1;omega
      rw [this,show q * es + (f + y.size) = f + q * es + y.size by omega,List.take_append_drop]
     rw [a1,a2];simp
    have hrl:(((c1.drop (q * es)).take es).take f ++ x.cells.toList ++ ((c1.drop (q * es)).take es).drop (f + y.size)).length = es:=by
     simp only [List.length_append,List.length_take,List.length_drop,hlen,r1];omega
    refine ⟨by omega,by simpa using hlen,hcell.one,rfl,?_⟩
    rw [hwhole]
    refine ⟨_,[],(List.append_nil _).symm,?_,⟨?_,fun j hj=>?_⟩,rfl⟩
    ·rw [← h1,List.length_append,List.length_append,hrl,List.length_take,List.length_drop,r1];omega
    ·rw [List.length_append,List.length_append,hrl,List.length_take,List.length_drop,r1];omega
    ·by_cases hjq:j = q
     ·subst hjq
      simp only [if_true]
      rw [List.append_assoc,List.drop_append,List.drop_of_length_le (by simp;omega),List.nil_append,List.length_take,Nat.min_eq_left (by omega),Nat.sub_self,List.drop_zero,List.take_append_of_le_length (by omega),List.take_of_length_le (by omega)]
      exact hnew
     ·simp only [if_neg hjq]
      have hold:=r2 j hj
      have hbj:(j + 1) * es ≤ m * es:=Nat.mul_le_mul_right _ hj
      rw [Nat.add_mul,Nat.one_mul] at hbj
      rcases Nat.lt_or_ge j q with hlt | hge
      ·have hjq2:(j + 1) * es ≤ q * es:=Nat.mul_le_mul_right _ hlt
       rw [Nat.add_mul,Nat.one_mul] at hjq2
       rw [List.append_assoc,List.drop_append_of_le_length (by rw [List.length_take];omega),List.take_append_of_le_length (by rw [List.length_drop,List.length_take];omega),List.drop_take,List.take_take,Nat.min_eq_left (by omega)]
       exact hold
      ·have hjq2:(q + 1) * es ≤ j * es:=Nat.mul_le_mul_right _ (by omega)
       rw [Nat.add_mul,Nat.one_mul] at hjq2
       have hl3:(c1.take (q * es) ++ (((c1.drop (q * es)).take es).take f ++ x.cells.toList ++ ((c1.drop (q * es)).take es).drop (f + y.size))).length = q * es + es:=by
        rw [List.length_append,hrl,List.length_take,Nat.min_eq_left (by omega)]
       rw [List.drop_append,List.drop_of_length_le (by rw [hl3];omega),List.nil_append,hl3,List.drop_drop,show q * es + es + (j * es - (q * es + es)) = j * es by omega]
       exact hold
   ·cases h
  ·cases h
 ·cases h
end Go.Sx
namespace Go.Sx
open Go
theorem setV_sound {Γ:Ctx} {N:Nat} {ρ:Env} {T:Tm} {M:Mm} {a:Act} {w:World} (hc:Conc N ρ T M a w) {t:Nat} {x k v:Operand} {ps:List Prop} {b:Nat} {l:List (List UInt8 × Int)} (h:setV Γ.ty M t (ev T x) (ev T k) (ev T v) = some (ps,b,l)) (hp:All ps) :
  ∃ w',(Instr.mapUpdate t (a.eval x) (a.eval k) (a.eval v)).run Γ.P w = .ok () w'∧ConcM ρ ((b,.map (.si l)) :: M) w'∧Step ρ M ρ ((b,.map (.si l)) :: M) w w':=by
 unfold setV at h
 have hb:=(bif_none h).1
 replace h:=(bif_none h).2
 obtain ⟨kt,et,ht,hk,_⟩:=mapOK_sound hb
 have hx:=ev_rel hc x
 have hs:=ev_rel hc k
 have hn:=ev_rel hc v
 split at h
 ·rename_i b0 he
  rw [he] at hx
  obtain ⟨_,hv⟩:=hx
  split at h
  ·rename_i l0 hm
   obtain ⟨es,clock,h1,h2⟩:=hc.sat _ _ hm
   split at h
   ·rename_i s hes
    rw [hes] at hs
    have hkv:a.eval k = .string ⟨s.toArray⟩:=hs
    split at h
    ·rename_i n hen
     rw [hen] at hn
     have hnv:a.eval v = wi n:=hn
     simp only [Option.some.injEq,Prod.mk.injEq] at h;obtain ⟨rfl,rfl,rfl⟩:=h
     rw [hv,hkv,hnv]
     obtain ⟨k1,k2⟩:=hc.toConcM.setMap hm (clock:=clock + 1) (is_append h2 s n clock)
     exact ⟨_,run_updateStr ht hk h1 h2 s hp.head n,k1,k2⟩
    ·cases h
   ·cases h
  ·cases h
 ·cases h
end Go.Sx
namespace Go.Sx
open Go
abbrev Nm:=List (Nat × (Nat × Nat × Option Nat))
def look (μ:Nm) (a:Nat):Option (Nat × Nat × Option Nat):=
 match μ with
 | []=>none
 | (b,r) :: q=>bif Nat.beq a b then some r else look q a
def addO (i j:Option Nat):Option Nat:=
 match i,j with
 | none,j=>j
 | some i,none=>some i
 | some i,some j=>some (i + j)
theorem addO_getD (i j:Option Nat):(addO i j).getD 0 = i.getD 0 + j.getD 0:=by
 cases i <;> cases j <;> simp [addO]
def addI (j:Option Nat) (i:Nat):Nat:=
 match j with
 | none=>i
 | some j=>j + i
theorem addI_eq (j:Option Nat) (i:Nat):addI j i = j.getD 0 + i:=by cases j <;> simp [addI]
def renC (μ:Nm) (l:List (Nat × Nat)):Option (List (Nat × Nat)):=
 match l with
 | []=>some []
 | (a,f) :: r=>match look μ a with
  | some (b,g,none)=>match renC μ r with
   | some q=>some ((b,g + f) :: q)
   | none=>none
  | _=>none
def renS (μ:Nm) (v:SV):SV:=
 match v with
 | .ptr a f i=>match look μ a with
  | some (b,g,j)=>.ptr b (g + f) (addO j i)
  | none=>.und
 | .sl a f i n c=>match look μ a with
  | some (b,g,j)=>.sl b (g + f) (addI j i) n c
  | none=>.und
 | .slx a f i n=>match look μ a with
  | some (b,g,j)=>.slx b (g + f) (addI j i) n
  | none=>.und
 | .fn f cap=>match renC μ cap with
  | some q=>.fn f q
  | none=>.und
 | .mp a=>match look μ a with
  | some (b,0,none)=>.mp b
  | _=>.und
 | .ep a f q s=>match look μ a with
  | some (b,g,none)=>.ep b (g + f) q s
  | _=>.und
 | .agg _ | .tup _=>.und
 | v=>v
def renL (μ:Nm) (ls:List (Nat × SV)):Option (List (Nat × SV)):=
 match ls with
 | []=>some []
 | (s,v) :: r=>match renS μ v with
  | .und=>none
  | v'=>match renL μ r with
   | some q=>some ((s,v') :: q)
   | none=>none
def renA (μ:Nm) (v:SV):SV:=
 match v with
 | .agg ls=>match renL μ ls with
  | some l=>.agg l
  | none=>.und
 | v=>renS μ v
def ren (μ:Nm) (v:SV):SV:=
 match v with
 | .tup vs=>.tup (vs.map (renA μ))
 | v=>renA μ v
structure Maps (μ:Nm) (ρ ρ':Env):Prop where
 to:∀ a b g j,look μ a = some (b,g,j)→ρ.dom a→ρ'.dom b∧(ρ'.pos b).1 = (ρ.pos a).1∧(ρ'.pos b).2 + (g + j.getD 0) = (ρ.pos a).2
 im:∀ b o ls,ρ.imm b o ls→ρ'.imm b o ls
instance (μ:Nm) (ρ ρ':Env):CoeFun (Maps μ ρ ρ') (fun _=>∀ a b g j,look μ a = some (b,g,j)→ρ.dom a→ρ'.dom b∧(ρ'.pos b).1 = (ρ.pos a).1∧(ρ'.pos b).2 + (g + j.getD 0) = (ρ.pos a).2):=⟨Maps.to⟩
theorem Maps.addr {μ:Nm} {ρ ρ':Env} (h:Maps μ ρ ρ') {a b g:Nat} {j:Option Nat} (hl:look μ a = some (b,g,j)) (ha:ρ.dom a) (f i:Nat) :
  ρ'.addr b (g + f) (j.getD 0 + i) = ρ.addr a f i:=by
 obtain ⟨_,h1,h2⟩:=h a b g j hl ha
 unfold Env.addr
 rw [h1];congr 1;omega
theorem renC_sound {μ:Nm} {ρ ρ':Env} (h:Maps μ ρ ρ'):∀ {l q:List (Nat × Nat)},renC μ l = some q→(∀ p ∈ l,ρ.dom p.1) →
  (∀ p ∈ q,ρ'.dom p.1)∧(q.map fun p=>Value.pointer (some (ρ'.addr p.1 p.2 0))) = (l.map fun p=>Value.pointer (some (ρ.addr p.1 p.2 0)))
 | [],q,e,_=>by simp only [renC,Option.some.injEq] at e;subst e;exact ⟨fun p hp=>absurd hp (by simp),rfl⟩
 | (a,f) :: r,q,e,hd=>by
  simp only [renC] at e
  split at e
  ·rename_i b g hl
   split at e
   ·rename_i q' hq
    simp only [Option.some.injEq] at e;subst e
    obtain ⟨h1,h2⟩:=renC_sound h hq (fun p hp=>hd p (by simp [hp]))
    have ha:=hd (a,f) (by simp)
    refine ⟨fun p hp=>?_,?_⟩
    ·rcases List.mem_cons.1 hp with rfl | hp
     ·exact (h a b g none hl ha).1
     ·exact h1 p hp
    ·simp only [List.map_cons,h2]
     congr 3
     exact h.addr hl ha f 0
   ·cases e
  ·cases e
theorem renS_rel {μ:Nm} {ρ ρ':Env} (h:Maps μ ρ ρ') {v:SV} {x:Value} (hr:RelS ρ v x):renS μ v = .und ∨ RelS ρ' (renS μ v) x:=by
 unfold renS
 split
 ·rename_i a f i
  split
  ·rename_i b g j hl
   obtain ⟨ha,rfl⟩:=hr
   exact Or.inr ⟨(h a b g j hl ha).1,by rw [addO_getD,h.addr hl ha]⟩
  ·exact Or.inl rfl
 ·rename_i a f i n c
  split
  ·rename_i b g j hl
   obtain ⟨ha,hnc,y,rfl,hy⟩:=hr
   exact Or.inr ⟨(h a b g j hl ha).1,hnc,y,rfl,fun hc=>by rw [addI_eq,h.addr hl ha,hy hc]⟩
  ·exact Or.inl rfl
 ·rename_i a f i n
  split
  ·rename_i b g j hl
   obtain ⟨ha,c,y,hnc,rfl,hy⟩:=hr
   exact Or.inr ⟨(h a b g j hl ha).1,c,y,hnc,rfl,fun hc=>by rw [addI_eq,h.addr hl ha,hy hc]⟩
  ·exact Or.inl rfl
 ·rename_i f cap
  split
  ·rename_i q hq
   obtain ⟨h1,rfl⟩:=hr
   obtain ⟨h2,h3⟩:=renC_sound h hq h1
   exact Or.inr ⟨h2,by rw [h3]⟩
  ·exact Or.inl rfl
 ·rename_i a
  split
  ·rename_i b hl
   obtain ⟨ha,rfl⟩:=hr
   obtain ⟨h1,h2,_⟩:=h a b 0 none hl ha
   exact Or.inr ⟨h1,by rw [h2]⟩
  ·exact Or.inl rfl
 ·rename_i a f q s
  split
  ·rename_i b g hl
   obtain ⟨ha,rfl⟩:=hr
   refine Or.inr ⟨(h a b g none hl ha).1,?_⟩
   have:=h.addr hl ha f (q * s)
   simp only [Option.getD_none,Nat.zero_add] at this
   rw [this]
  ·exact Or.inl rfl
 ·exact Or.inl rfl
 ·exact Or.inl rfl
 ·rename_i h1 h2 h3 h4 h5 h6 h7 h8
  cases v <;> first
   | exact Or.inr hr
   | (refine Or.inr ?_;obtain ⟨b,o,c,x',h0,e1⟩:=hr;exact ⟨b,o,c,x',h0.mono h.im,e1⟩)
   | (refine Or.inr ?_;obtain ⟨b,o,e,hi⟩:=hr;exact ⟨b,o,e,hi.mono h.im⟩)
   | exact absurd rfl (h8 _)
   | exact absurd rfl (h6 _ _ _ _)
   | exact absurd rfl (h1 _ _ _)
   | exact absurd rfl (h2 _ _ _ _ _)
   | exact absurd rfl (h3 _ _ _ _)
   | exact absurd rfl (h4 _ _)
   | exact absurd rfl (h5 _)
   | exact absurd rfl (h6 _)
   | exact absurd rfl (h7 _)
theorem renS_sound {μ:Nm} {ρ ρ':Env} (h:Maps μ ρ ρ') {v:SV} {x:Value} (hr:RelS ρ v x) (hu:renS μ v ≠ .und):RelS ρ' (renS μ v) x:=
 (renS_rel h hr).resolve_left hu
theorem renS_arr {μ:Nm} {v:SV} (h:isArr v = true):renS μ v = v:=by
 cases v <;> first | rfl | cases h
theorem Cells1_of_S {ρ:Env} {v:SV} (hv:isArr v = false) (hw:isRow v = false) {cs:List Value}:Cells1 ρ v cs ↔ ∃ x,RelS ρ v x∧cs = [x]:=Cells1_one_cell hv hw
theorem renS_row {μ:Nm} {v:SV} (h:isRow v = true):renS μ v = v:=by
 cases v <;> first | rfl | cases h
theorem Cells1_row {ρ ρ':Env} (him:∀ b o ls,ρ.imm b o ls→ρ'.imm b o ls) {v:SV} (hv:isRow v = true) {cs:List Value} (h:Cells1 ρ v cs):Cells1 ρ' v cs:=by
 cases v <;> first | exact ⟨h.1,fun q hq=>(h.2 q hq).le (Env.bare_mono him)⟩ | (cases hv;done)
theorem renS_notRow {μ:Nm} {v:SV} (h:isRow v = false):isRow (renS μ v) = false:=by
 cases v <;> simp only [renS] <;> (try first | rfl | cases h) <;> (repeat' split) <;> rfl
theorem Cells1_arr {ρ ρ':Env} {v:SV} (hv:isArr v = true) {cs:List Value} (h:Cells1 ρ v cs):Cells1 ρ' v cs:=by
 cases v <;> first | exact h | cases hv
theorem renS_notArr {μ:Nm} {v:SV} (h:isArr v = false):isArr (renS μ v) = false:=by
 cases v <;> simp only [renS] <;> (try first | rfl | cases h) <;> (repeat' split) <;> rfl
theorem renS_cells {μ:Nm} {ρ ρ':Env} (h:Maps μ ρ ρ') {v:SV} {cs:List Value} (hr:Cells1 ρ v cs) (hu:renS μ v ≠ .und):Cells1 ρ' (renS μ v) cs:=by
 cases hv:isArr v with
 | true=>rw [renS_arr hv];exact Cells1_arr hv hr
 | false=>
  cases hw:isRow v with
  | true=>rw [renS_row hw];exact Cells1_row h.im hw hr
  | false=>
   rw [Cells1_of_S hv hw] at hr
   rw [Cells1_of_S (renS_notArr hv) (renS_notRow hw)]
   obtain ⟨x,hx,e⟩:=hr
   exact ⟨x,renS_sound h hx hu,e⟩
theorem renL_sound {μ:Nm} {ρ ρ':Env} (h:Maps μ ρ ρ'):∀ {ls l:List (Nat × SV)} {cs:List Value},CellsL ρ ls cs→renL μ ls = some l→CellsL ρ' l cs
 | [],l,cs,hc,e=>by simp only [renL,Option.some.injEq] at e;subst e;exact hc
 | (s,v) :: r,l,cs,hc,e=>by
  obtain ⟨c1,c2,rfl,h1,h2,h3⟩:=hc
  simp only [renL] at e
  split at e
  ·cases e
  ·rename_i hu
   split at e
   ·rename_i q hq
    simp only [Option.some.injEq] at e;subst e
    exact ⟨c1,c2,rfl,h1,renS_cells h h2 hu,renL_sound h h3 hq⟩
   ·cases e
theorem renL_size {μ:Nm}:∀ {ls l:List (Nat × SV)},renL μ ls = some l→sizeL l = sizeL ls
 | [],l,e=>by simp only [renL,Option.some.injEq] at e;subst e;rfl
 | (s,v) :: r,l,e=>by
  simp only [renL] at e
  split at e
  ·cases e
  ·split at e
   ·rename_i q hq
    simp only [Option.some.injEq] at e;subst e
    simp only [sizeL,renL_size hq]
   ·cases e
theorem renA_sound {μ:Nm} {ρ ρ':Env} (h:Maps μ ρ ρ') {v:SV} {x:Value} (hr:Rel ρ v x):Rel ρ' (renA μ v) x:=by
 by_cases hu:renA μ v = .und
 ·rw [hu];trivial
 ·cases hv:isArr v with
  | true=>
   have:renA μ v = v:=by cases v <;> first | rfl | cases hv
   rw [this]
   cases v <;> first | exact hr | cases hv
  | false=>
   unfold renA at *
   split
   ·rename_i ls
    split
    ·rename_i l hl
     obtain ⟨cs,hc,e⟩:=hr
     exact ⟨cs,renL_sound h hc hl,e⟩
    ·trivial
   ·rename_i hn
    have hs:renS μ v ≠ .und:=by
     intro e;apply hu;split
     ·rename_i ls;exact absurd rfl (hn ls)
     ·exact e
    have hrs:RelS ρ v x:=by
     cases v <;> first | exact hr | (exact absurd rfl hs;done) | (exact absurd rfl (hn _);done) | (cases hv;done)
    exact RelS_Rel (renS_sound h hrs hs)
theorem renAs_sound {μ:Nm} {ρ ρ':Env} (h:Maps μ ρ ρ'):∀ {vs:List SV} {xs:List Value},RelL ρ vs xs→RelL ρ' (vs.map (renA μ)) xs
 | [],_,hr=>hr
 | _ :: _,_,⟨x,ys,e,h1,h2⟩=>⟨x,ys,e,renA_sound h h1,renAs_sound h h2⟩
theorem ren_sound {μ:Nm} {ρ ρ':Env} (h:Maps μ ρ ρ') {v:SV} {x:Value} (hr:RelT ρ v x):RelT ρ' (ren μ v) x:=by
 unfold ren
 split
 ·obtain ⟨xs,h1,e⟩:=hr
  exact ⟨xs,renAs_sound h h1,e⟩
 ·rename_i hn
  exact RelT_of_Rel (renA_sound h (hr.s hn))
def sameO (i j:Option Nat):List Prop:=
 match i,j with
 | none,none=>[]
 | some i,some j=>[i = j]
 | none,some j=>[j = 0]
 | some i,none=>[i = 0]
theorem sameO_sound {i j:Option Nat} (h:All (sameO i j)):i.getD 0 = j.getD 0:=by
 cases i <;> cases j <;> simp only [sameO] at h <;> first | rfl | exact h.head | exact h.head.symm
def beqC:List (Nat × Nat)→List (Nat × Nat)→Bool
 | [],[]=>true
 | (a,f) :: r,(b,g) :: q=>Nat.beq a b && Nat.beq f g && beqC r q
 | _,_=>false
theorem beqC_sound:∀ {l q:List (Nat × Nat)},beqC l q = true→l = q
 | [],[],_=>rfl
 | (a,f) :: r,(b,g) :: q,h=>by
  simp only [beqC,Bool.and_eq_true] at h
  rw [beq_eq' h.1.1,beq_eq' h.1.2,beqC_sound h.2]
 | [],_ :: _,h=>by simp [beqC] at h
 | _ :: _,[],h=>by simp [beqC] at h
def sameLs (ls ls':List (Nat × SV)):List Prop:=
 match ls,ls' with
 | [(a,.a8 l)],[(b,.a8 m)]=>[a = b,l = m]
 | [(a,.ai l)],[(b,.ai m)]=>[a = b,l = m]
 | [(a,.arr n es F)],[(b,.arr m es' G)]=>[a = b,n = m,es = es',F = G]
 | ls,ls'=>[ls = ls']
theorem sameLs_sound {ls ls':List (Nat × SV)} (h:All (sameLs ls ls')):ls = ls':=by
 unfold sameLs at h
 split at h
 ·rw [h.head,h.tail.head]
 ·rw [h.head,h.tail.head]
 ·rw [h.head,h.tail.head,h.tail.tail.head,h.tail.tail.tail.head]
 ·exact h.head
def same (u v:SV):Option (List Prop):=
 match u with
 | .tt=>match v with
  | .tt=>some []
  | .bool p=>some [p]
  | _=>none
 | .ff=>match v with
  | .ff=>some []
  | .bool p=>some [¬ p]
  | _=>none
 | .bool p=>match v with
  | .tt=>some [p]
  | .ff=>some [¬ p]
  | .bool q=>some [p ↔ q]
  | _=>none
 | .u8 a=>match v with
  | .u8 b=>some [a = b]
  | _=>none
 | .u16 a=>match v with
  | .u16 b=>some [a = b]
  | _=>none
 | .u32 a=>match v with
  | .u32 b=>some [a = b]
  | _=>none
 | .u64 a=>match v with
  | .u64 b=>some [a = b]
  | _=>none
 | .i k a=>match v with
  | .i j b=>bif k == j then some [a = b] else none
  | _=>none
 | .str a=>match v with
  | .str b=>some [a = b]
  | _=>none
 | .ptr a f i=>match v with
  | .ptr b g j=>bif Nat.beq a b && Nat.beq f g then some (sameO i j) else none
  | _=>none
 | .nilp=>match v with
  | .nilp=>some []
  | _=>none
 | .sl a f i n c=>match v with
  | .sl b g j m d=>bif Nat.beq a b && Nat.beq f g then some [i = j,n = m,c = d] else none
  | _=>none
 | .slx a f i n=>match v with
  | .sl b g j m _=>bif Nat.beq a b && Nat.beq f g then some [i = j,n = m] else none
  | .slx b g j m=>bif Nat.beq a b && Nat.beq f g then some [i = j,n = m] else none
  | _=>none
 | .nsl=>match v with
  | .nsl=>some []
  | _=>none
 | .a8 a=>match v with
  | .a8 b=>some [a = b]
  | _=>none
 | .a16 a=>match v with
  | .a16 b=>some [a = b]
  | _=>none
 | .a32 a=>match v with
  | .a32 b=>some [a = b]
  | _=>none
 | .a64 a=>match v with
  | .a64 b=>some [a = b]
  | _=>none
 | .ai a=>match v with
  | .ai b=>some [a = b]
  | _=>none
 | .fn f c=>match v with
  | .fn g d=>bif Nat.beq f g && beqC c d then some [] else none
  | _=>none
 | .mp a=>match v with
  | .mp b=>bif Nat.beq a b then some [] else none
  | _=>none
 | .nilmp=>match v with
  | .nilmp=>some []
  | _=>none
 | .raw a=>match v with
  | .raw b=>some [a = b]
  | _=>none
 | .isl q n s ls=>match v with
  | .isl q' n' s' ls'=>some ((q = q') :: (n = n') :: (s = s') :: sameLs ls ls')
  | .nsl=>some [n = 0,nilL ls]
  | _=>none
 | .iep f q s ls=>match v with
  | .iep f' q' s' ls'=>some ((f = f') :: (q = q') :: (s = s') :: sameLs ls ls')
  | _=>none
 | .ep a f q s=>match v with
  | .ep b g q' s'=>bif Nat.beq a b && Nat.beq f g then some [q = q',s = s'] else none
  | _=>none
 | _=>none
theorem same_row {u v:SV} {ps:List Prop} (h:same u v = some ps):isRow u = false∧isRow v = false:=by
 unfold same at h
 split at h <;> first | (cases h;done) | (split at h <;> first | exact ⟨rfl,rfl⟩ | (cases h;done))
theorem same_arr {u v:SV} {ps:List Prop} (h:same u v = some ps):isArr u = isArr v:=by
 unfold same at h
 split at h <;> first | (cases h;done) | (split at h <;> first | rfl | (cases h;done))
theorem same_eq_arr {u v:SV} {ps:List Prop} (h:same u v = some ps) (hp:All ps) (ha:isArr v = true):u = v:=by
 have hu:=same_arr h
 rw [ha] at hu
 cases u <;> simp only [isArr,reduceCtorEq] at hu <;> cases v <;> simp only [same,Option.some.injEq,reduceCtorEq] at h <;> subst h <;> rw [hp.head]
theorem same_sound {ρ:Env} {u v:SV} {ps:List Prop} (h:same u v = some ps) (hp:All ps) {x:Value} (hr:RelS ρ v x):RelS ρ u x:=by
 unfold same at h
 split at h
 ·split at h <;> simp only [Option.some.injEq,reduceCtorEq] at h <;> subst h
  ·exact hr
  ·obtain ⟨b,rfl,hb⟩:=hr
   rw [hb.2 hp.head];rfl
 ·split at h <;> simp only [Option.some.injEq,reduceCtorEq] at h <;> subst h
  ·exact hr
  ·obtain ⟨b,rfl,hb⟩:=hr
   cases b with
   | true=>exact absurd (hb.1 rfl) hp.head
   | false=>rfl
 ·split at h <;> simp only [Option.some.injEq,reduceCtorEq] at h <;> subst h
  ·exact ⟨true,hr,by simp [hp.head]⟩
  ·exact ⟨false,hr,by simp [hp.head]⟩
  ·obtain ⟨b,rfl,hb⟩:=hr
   exact ⟨b,rfl,hb.trans hp.head.symm⟩
 ·split at h <;> simp only [Option.some.injEq,reduceCtorEq] at h;subst h;rw [hp.head];exact hr
 ·split at h <;> simp only [Option.some.injEq,reduceCtorEq] at h;subst h;rw [hp.head];exact hr
 ·split at h <;> simp only [Option.some.injEq,reduceCtorEq] at h;subst h;rw [hp.head];exact hr
 ·split at h <;> simp only [Option.some.injEq,reduceCtorEq] at h;subst h;rw [hp.head];exact hr
 ·split at h
  ·obtain ⟨hb,h⟩:=bif_none h
   simp only [Option.some.injEq] at h;subst h
   rename_i k _ _ j _
   have e:k = j:=by simpa using hb
   rw [hp.head,e];exact hr
  ·cases h
 ·split at h <;> simp only [Option.some.injEq,reduceCtorEq] at h;subst h;rw [hp.head];exact hr
 ·split at h
  ·obtain ⟨hb,h⟩:=bif_none h
   simp only [Bool.and_eq_true] at hb
   simp only [Option.some.injEq] at h;subst h
   have e:=sameO_sound hp
   obtain ⟨h1,h2⟩:=hr
   refine ⟨by rw [beq_eq' hb.1];exact h1,?_⟩
   rw [beq_eq' hb.1,beq_eq' hb.2,e];exact h2
  ·cases h
 ·split at h <;> simp only [Option.some.injEq,reduceCtorEq] at h;exact hr
 ·split at h
  ·obtain ⟨hb,h⟩:=bif_none h
   simp only [Bool.and_eq_true] at hb
   simp only [Option.some.injEq] at h;subst h
   rw [hp.head,hp.tail.head,hp.tail.tail.head,beq_eq' hb.1,beq_eq' hb.2];exact hr
  ·cases h
 ·split at h
  ·obtain ⟨hb,h⟩:=bif_none h
   simp only [Bool.and_eq_true] at hb
   simp only [Option.some.injEq] at h;subst h
   rw [hp.head,hp.tail.head,beq_eq' hb.1,beq_eq' hb.2]
   obtain ⟨h1,h2,y,h3,h4⟩:=hr
   exact ⟨h1,_,y,h2,h3,h4⟩
  ·obtain ⟨hb,h⟩:=bif_none h
   simp only [Bool.and_eq_true] at hb
   simp only [Option.some.injEq] at h;subst h
   rw [hp.head,hp.tail.head,beq_eq' hb.1,beq_eq' hb.2];exact hr
  ·cases h
 ·split at h <;> simp only [Option.some.injEq,reduceCtorEq] at h;exact hr
 ·split at h <;> simp only [Option.some.injEq,reduceCtorEq] at h;exact hr.elim
 ·split at h <;> simp only [Option.some.injEq,reduceCtorEq] at h;exact hr.elim
 ·split at h <;> simp only [Option.some.injEq,reduceCtorEq] at h;exact hr.elim
 ·split at h <;> simp only [Option.some.injEq,reduceCtorEq] at h;exact hr.elim
 ·split at h <;> simp only [Option.some.injEq,reduceCtorEq] at h;exact hr.elim
 ·split at h
  ·obtain ⟨hb,h⟩:=bif_none h
   simp only [Bool.and_eq_true] at hb
   rw [beq_eq' hb.1,beqC_sound hb.2];exact hr
  ·cases h
 ·split at h
  ·obtain ⟨hb,h⟩:=bif_none h
   rw [beq_eq' hb];exact hr
  ·cases h
 ·split at h <;> simp only [Option.some.injEq,reduceCtorEq] at h;exact hr
 ·split at h <;> simp only [Option.some.injEq,reduceCtorEq] at h;subst h;rw [hp.head];exact hr
 ·split at h <;> simp only [Option.some.injEq,reduceCtorEq] at h <;> subst h
  ·rw [hp.head,hp.tail.head,hp.tail.tail.head,sameLs_sound hp.tail.tail.tail];exact hr
  ·rw [hp.head]
   exact ⟨0,0,0,none,Or.inr hp.tail.head,Nat.le_refl _,hr,fun hc=>absurd rfl hc⟩
 ·split at h <;> simp only [Option.some.injEq,reduceCtorEq] at h;subst h
  rw [hp.head,hp.tail.head,hp.tail.tail.head,sameLs_sound hp.tail.tail.tail];exact hr
 ·split at h
  ·obtain ⟨hb,h⟩:=bif_none h
   simp only [Bool.and_eq_true] at hb
   simp only [Option.some.injEq] at h;subst h
   rw [hp.head,hp.tail.head,beq_eq' hb.1,beq_eq' hb.2];exact hr
  ·cases h
 ·cases h
def sameC (u v:SV):Option (List Prop):=
 match u with
 | .arr n es F=>match v with
  | .arr m es' G=>some [n = m,es = es',∀ q,q < n→F q = G q]
  | _=>none
 | u=>same u v
theorem sameC_cells {ρ:Env} {u v:SV} {ps:List Prop} (h:sameC u v = some ps) (hp:All ps) {cs:List Value} (hr:Cells1 ρ v cs):Cells1 ρ u cs:=by
 unfold sameC at h
 split at h
 ·split at h
  ·simp only [Option.some.injEq] at h;subst h
   obtain ⟨r1,r2⟩:=hr
   have e1:=hp.head
   have e2:=hp.tail.head
   have e3:=hp.tail.tail.head
   subst e1;subst e2
   exact ⟨r1,fun q hq=>by rw [e3 q hq];exact r2 q hq⟩
  ·cases h
 ·have hw:=same_row h
  cases hv:isArr v with
  | true=>rw [same_eq_arr h hp hv];exact hr
  | false=>
   rw [Cells1_of_S hv hw.2] at hr
   rw [Cells1_of_S (by rw [same_arr h];exact hv) hw.1]
   obtain ⟨x,hx,e⟩:=hr
   exact ⟨x,same_sound h hp hx,e⟩
structure Back (μ:Nm) (ρ0 ρ:Env):Prop where
 to:∀ a b g j,look μ a = some (b,g,j)→ρ.dom b→ρ0.dom a∧(ρ.pos b).1 = (ρ0.pos a).1∧(ρ.pos b).2 + (g + j.getD 0) = (ρ0.pos a).2
 im:∀ b o ls,ρ.imm b o ls→ρ0.imm b o ls
theorem Back.addr {μ:Nm} {ρ0 ρ:Env} (h:Back μ ρ0 ρ) {a b g:Nat} {j:Option Nat} (hl:look μ a = some (b,g,j)) (hb:ρ.dom b) (f i:Nat) :
  ρ.addr b (g + f) (j.getD 0 + i) = ρ0.addr a f i:=by
 obtain ⟨_,h1,h2⟩:=h.to a b g j hl hb
 unfold Env.addr
 rw [h1];congr 1;omega
theorem renC_back {μ:Nm} {ρ0 ρ:Env} (h:Back μ ρ0 ρ):∀ {l q:List (Nat × Nat)},renC μ l = some q→(∀ p ∈ q,ρ.dom p.1) →
  (∀ p ∈ l,ρ0.dom p.1)∧(l.map fun p=>Value.pointer (some (ρ0.addr p.1 p.2 0))) = (q.map fun p=>Value.pointer (some (ρ.addr p.1 p.2 0)))
 | [],q,e,_=>by simp only [renC,Option.some.injEq] at e;subst e;exact ⟨fun p hp=>absurd hp (by simp),rfl⟩
 | (a,f) :: r,q,e,hd=>by
  simp only [renC] at e
  split at e
  ·rename_i b g hl
   split at e
   ·rename_i q' hq
    simp only [Option.some.injEq] at e;subst e
    obtain ⟨h1,h2⟩:=renC_back h hq (fun p hp=>hd p (by simp [hp]))
    have hb:=hd (b,g + f) (by simp)
    refine ⟨fun p hp=>?_,?_⟩
    ·rcases List.mem_cons.1 hp with rfl | hp
     ·exact (h.to a b g none hl hb).1
     ·exact h1 p hp
    ·simp only [List.map_cons,h2]
     congr 3
     exact (h.addr hl hb f 0).symm
   ·cases e
  ·cases e
theorem renS_back {μ:Nm} {ρ0 ρ:Env} (h:Back μ ρ0 ρ) {v:SV} {x:Value} (hr:RelS ρ (renS μ v) x):RelS ρ0 v x:=by
 unfold renS at hr
 split at hr
 ·rename_i a f i
  split at hr
  ·rename_i b g j hl
   obtain ⟨hb,rfl⟩:=hr
   refine ⟨(h.to a b g j hl hb).1,?_⟩
   rw [addO_getD,h.addr hl hb]
  ·exact hr.elim
 ·rename_i a f i n c
  split at hr
  ·rename_i b g j hl
   obtain ⟨hb,hnc,y,rfl,hy⟩:=hr
   refine ⟨(h.to a b g j hl hb).1,hnc,y,rfl,fun hc=>?_⟩
   rw [hy hc,addI_eq,h.addr hl hb]
  ·exact hr.elim
 ·rename_i a f i n
  split at hr
  ·rename_i b g j hl
   obtain ⟨hb,c,y,hnc,rfl,hy⟩:=hr
   refine ⟨(h.to a b g j hl hb).1,c,y,hnc,rfl,fun hc=>?_⟩
   rw [hy hc,addI_eq,h.addr hl hb]
  ·exact hr.elim
 ·rename_i f cap
  split at hr
  ·rename_i q hq
   obtain ⟨h1,rfl⟩:=hr
   obtain ⟨h2,h3⟩:=renC_back h hq h1
   exact ⟨h2,by rw [h3]⟩
  ·exact hr.elim
 ·rename_i a
  split at hr
  ·rename_i b hl
   obtain ⟨hb,rfl⟩:=hr
   obtain ⟨h1,h2,_⟩:=h.to a b 0 none hl hb
   exact ⟨h1,by rw [h2]⟩
  ·exact hr.elim
 ·rename_i a f q s
  split at hr
  ·rename_i b g hl
   obtain ⟨hb,rfl⟩:=hr
   refine ⟨(h.to a b g none hl hb).1,?_⟩
   have:=h.addr hl hb f (q * s)
   simp only [Option.getD_none,Nat.zero_add] at this
   rw [this]
  ·exact hr.elim
 ·exact hr.elim
 ·exact hr.elim
 ·rename_i h1 h2 h3 h4 h5 h6 h7 h8
  cases v <;> first
   | exact hr
   | (obtain ⟨b,o,c,x',h0,e1⟩:=hr;exact ⟨b,o,c,x',h0.mono h.im,e1⟩)
   | (obtain ⟨b,o,e,hi⟩:=hr;exact ⟨b,o,e,hi.mono h.im⟩)
   | exact absurd rfl (h8 _)
   | exact absurd rfl (h6 _ _ _ _)
   | exact absurd rfl (h1 _ _ _)
   | exact absurd rfl (h2 _ _ _ _ _)
   | exact absurd rfl (h3 _ _ _ _)
   | exact absurd rfl (h4 _ _)
   | exact absurd rfl (h5 _)
   | exact absurd rfl (h6 _)
   | exact absurd rfl (h7 _)
theorem renS_back_cells {μ:Nm} {ρ0 ρ:Env} (h:Back μ ρ0 ρ) {v:SV} {cs:List Value} (hr:Cells1 ρ (renS μ v) cs):Cells1 ρ0 v cs:=by
 cases hv:isArr v with
 | true=>rw [renS_arr hv] at hr;exact Cells1_arr hv hr
 | false=>
  cases hw:isRow v with
  | true=>rw [renS_row hw] at hr;exact Cells1_row h.im hw hr
  | false=>
   rw [Cells1_of_S (renS_notArr hv) (renS_notRow hw)] at hr
   rw [Cells1_of_S hv hw]
   obtain ⟨x,hx,e⟩:=hr
   exact ⟨x,renS_back h hx,e⟩
def rowRun (n es:Nat) (F:Nat→List (Nat × SV)) (fuel k:Nat) (ls:List (Nat × SV)):Option (List Prop):=
 match ls with
 | []=>some [n = k]
 | ls=>match fuel with
  | 0=>none
  | fuel + 1=>match takeL ls es with
   | some c=>match dropL ls es with
    | some r=>bif bareL c && noRowL c && Nat.blt 0 es then match rowRun n es F fuel (k + 1) r with
      | some ps=>some ((F k = c) :: ps)
      | none=>none
     else none
    | none=>none
   | none=>none
theorem dropL_size:∀ {n:Nat} {ls l:List (Nat × SV)},dropL ls n = some l→sizeL ls = n + sizeL l:=by
 intro n ls
 induction ls generalizing n with
 | nil=>
  intro l h
  cases n with
  | zero=>simp only [dropL,Option.some.injEq] at h;subst h;simp
  | succ n=>simp [dropL] at h
 | cons a r ih=>
  intro l h
  cases n with
  | zero=>simp only [dropL,Option.some.injEq] at h;subst h;simp
  | succ n=>
   obtain ⟨s,v⟩:=a
   simp only [dropL] at h
   obtain ⟨hb,h⟩:=bif_none h
   have hle:=ble_le' hb
   have:=ih h
   simp only [sizeL]
   omega
theorem rowRun_sound {ρ:Env} {n es:Nat} {F:Nat→List (Nat × SV)}:∀ {fuel k:Nat} {ls:List (Nat × SV)} {ps:List Prop} {cs:List Value},rowRun n es F fuel k ls = some ps→All ps→CellsL ρ ls cs →
  k ≤ n∧cs.length = (n - k) * es∧sizeL ls = (n - k) * es∧∀ q,q < n - k→CellsL0 ρ.bare (F (k + q)) ((cs.drop (q * es)).take es)
 | _,k,[],ps,cs,h,hp,hc=>by
  simp only [rowRun,Option.some.injEq] at h;subst h
  have e:=hp.head
  subst e
  have hcs:cs = []:=hc
  subst hcs
  refine ⟨Nat.le_refl _,by simp,by simp [sizeL],fun q hq=>by omega⟩
 | 0,k,_ :: _,ps,cs,h,_,_=>by simp [rowRun] at h
 | fuel + 1,k,a :: r0,ps,cs,h,hp,hc=>by
  simp only [rowRun] at h
  split at h
  ·rename_i c hcl
   split at h
   ·rename_i r hr
    have hb:=(bif_none h).1
    replace h:=(bif_none h).2
    simp only [Bool.and_eq_true] at hb
    split at h
    ·rename_i ps' hps
     simp only [Option.some.injEq] at h;subst h
     obtain ⟨t1,t2⟩:=takeL_sound hc hcl
     obtain ⟨d1,d2⟩:=dropL_sound hc hr
     obtain ⟨i1,i2,i3,i4⟩:=rowRun_sound hps hp.tail d1
     have hds:=dropL_size hr
     rw [List.length_drop] at i2
     have hnk:(n - k) = (n - (k + 1)) + 1:=by omega
     refine ⟨by omega,?_,?_,fun q hq=>?_⟩
     ·rw [hnk,Nat.add_mul];omega
     ·rw [hnk,Nat.add_mul,hds,i3];omega
     ·cases q with
      | zero=>
       rw [Nat.zero_mul,List.drop_zero,Nat.add_zero,hp.head]
       exact bareL_cells hb.1.1 t1
      | succ q=>
       have:=i4 q (by omega)
       rw [List.drop_drop,show es + q * es = (q + 1) * es by rw [Nat.add_mul];omega,show k + 1 + q = k + (q + 1) by omega] at this
       exact this
    ·cases h
   ·cases h
  ·cases h
theorem rowRun_size {n es:Nat} {F:Nat→List (Nat × SV)} {ls:List (Nat × SV)} {ps:List Prop} {fuel:Nat} (h:rowRun n es F fuel 0 ls = some ps) (hp:All ps):sizeL ls = n * es:=by
 have key:∀ {fuel k:Nat} {ls:List (Nat × SV)} {ps:List Prop},rowRun n es F fuel k ls = some ps→All ps→k ≤ n∧sizeL ls = (n - k) * es:=by
  intro fuel
  induction fuel with
  | zero=>
   intro k ls ps h hp
   cases ls with
   | nil=>
    simp only [rowRun,Option.some.injEq] at h;subst h
    have e:=hp.head
    subst e
    simp [sizeL]
   | cons a r=>simp [rowRun] at h
  | succ fuel ih=>
   intro k ls ps h hp
   cases ls with
   | nil=>
    simp only [rowRun,Option.some.injEq] at h;subst h
    have e:=hp.head
    subst e
    simp [sizeL]
   | cons a r0=>
    simp only [rowRun] at h
    split at h
    ·split at h
     ·rename_i r hr
      replace h:=(bif_none h).2
      split at h
      ·rename_i ps' hps
       simp only [Option.some.injEq] at h;subst h
       obtain ⟨i1,i2⟩:=ih hps hp.tail
       have hds:=dropL_size hr
       have hnk:(n - k) = (n - (k + 1)) + 1:=by omega
       refine ⟨by omega,?_⟩
       rw [hnk,Nat.add_mul,hds,i2];omega
      ·cases h
     ·cases h
    ·cases h
 simpa using (key h hp).2
def asRow (v:SV) (r ls:List (Nat × SV)):Option (Nat × Nat × (Nat→List (Nat × SV))):=
 match v with
 | .arr n es F=>match r with
  | []=>match ls with
   | (_,.arr _ _ _) :: _=>none
   | _=>some (n,es,F)
  | _=>none
 | _=>none
def runSame (μ:Nm) (ls0 ls:List (Nat × SV)):Option (List Prop):=
 match ls0 with
 | []=>some []
 | (s0,v0) :: r0=>match asRow v0 r0 ls with
  | some (n,es,F)=>match rowRun n es F ls.length 0 ls with
   | some ps=>some ((s0 = n * es) :: ps)
   | none=>none
  | none=>match ls with
   | []=>none
   | (s,v) :: r=>match sameC (renS μ v0) v with
    | some ps=>match runSame μ r0 r with
     | some qs=>some ((s0 = s) :: (ps ++ qs))
     | none=>none
    | none=>none
theorem asRow_spec {v:SV} {r:List (Nat × SV)} {ls:List (Nat × SV)} {x:Nat × Nat × (Nat→List (Nat × SV))} (h:asRow v r ls = some x):v = .arr x.1 x.2.1 x.2.2∧r = []:=by
 unfold asRow at h
 split at h
 ·split at h
  ·split at h
   ·cases h
   ·simp only [Option.some.injEq] at h;subst h;exact ⟨rfl,rfl⟩
  ·cases h
 ·cases h
theorem runSame_sound {μ:Nm} {ρ0 ρ:Env} (h:Back μ ρ0 ρ):∀ {ls0 ls:List (Nat × SV)} {ps:List Prop} {cs:List Value},runSame μ ls0 ls = some ps→All ps→CellsL ρ ls cs →
  CellsL ρ0 ls0 (cs.take (sizeL ls0))∧sizeL ls0 ≤ cs.length
 | [],ls,ps,cs,_,_,_=>⟨by simp [CellsL,sizeL],by simp [sizeL]⟩
 | (s0,v0) :: r0,ls,ps,cs,e,hp,hc=>by
  simp only [runSame] at e
  split at e
  ·rename_i n es F hrow
   obtain ⟨rfl,rfl⟩:=asRow_spec hrow
   split at e
   ·rename_i qs hq
    simp only [Option.some.injEq] at e;subst e
    obtain ⟨i1,i2,i3,i4⟩:=rowRun_sound hq hp.tail hc
    have hs:=hp.head
    simp only [Nat.sub_zero,Nat.zero_add] at i2 i3 i4
    simp only [sizeL,Nat.add_zero]
    rw [hs,← i2,List.take_length]
    refine ⟨⟨cs,[],(List.append_nil _).symm,by omega,⟨i2,fun q hq=>(i4 q hq).le (Env.bare_mono h.im)⟩,rfl⟩,Nat.le_refl _⟩
   ·cases e
  split at e
  ·cases e
  ·rename_i s v r
   split at e
   ·rename_i qs hq
    split at e
    ·rename_i rs hrs
     simp only [Option.some.injEq] at e;subst e
     obtain ⟨c1,c2,rfl,h1,h2,h3⟩:=hc
     obtain ⟨i1,i2⟩:=runSame_sound h hrs hp.tail.right h3
     have hs:=hp.head
     refine ⟨⟨c1,c2.take (sizeL r0),?_,by omega,renS_back_cells h (sameC_cells hq hp.tail.left h2),i1⟩,by simp [sizeL];omega⟩
     simp only [sizeL]
     rw [List.take_append,List.take_of_length_le (l:=c1) (by omega)]
     congr 2;omega
    ·cases e
   ·cases e
theorem runSame_size {μ:Nm}:∀ {ls0 ls:List (Nat × SV)} {ps:List Prop},runSame μ ls0 ls = some ps→All ps→ls0.length = ls.length→sizeL ls0 = sizeL ls
 | [],ls,ps,_,_,hl=>by
  have:ls = []:=List.eq_nil_of_length_eq_zero hl.symm
  subst this;rfl
 | (s0,v0) :: r0,ls,ps,e,hp,hl=>by
  simp only [runSame] at e
  split at e
  ·rename_i n es F hrow
   obtain ⟨rfl,rfl⟩:=asRow_spec hrow
   split at e
   ·rename_i qs hq
    simp only [Option.some.injEq] at e;subst e
    simp only [sizeL,Nat.add_zero]
    rw [hp.head]
    exact (rowRun_size hq hp.tail).symm
   ·cases e
  split at e
  ·cases e
  ·rename_i s v r
   split at e
   ·rename_i qs hq
    split at e
    ·rename_i rs hrs
     simp only [Option.some.injEq] at e;subst e
     simp only [List.length_cons] at hl
     simp only [sizeL,hp.head,runSame_size hrs hp.tail.right (by omega)]
    ·cases e
   ·cases e
end Go.Sx
