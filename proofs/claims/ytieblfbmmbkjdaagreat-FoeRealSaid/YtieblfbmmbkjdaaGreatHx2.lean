/- Executor, part 2. No condition. -/
import Derived.Test.YtieblfbmmbkjdaaGreatHx1
import Derived.Lib.Strings
set_option linter.unusedSimpArgs false
set_option linter.unusedVariables false
set_option autoImplicit true
set_option relaxedAutoImplicit true
open Go.Result (andThen_ok)
open Go.Sem (run_pure run_bind)
open List (nil_append length_map mem_cons not_mem_nil mem_append cons_append drop_zero map_cons append_nil take_of_length_le map_take getElem?_toArray getElem?_cons_zero getElem?_take drop_append map_nil)
open Option (getD_none getD_some map_some)
open Nat (add_zero zero_add add_comm mul_one le_refl add_mul beq)
open Bool (false_eq_true)
open Array (ext')
open UInt32 (ofInt)
namespace Go.Sx
open Go
theorem mZ {ps:List Prop} {v:SV} {α:Type} {o:Option α} {f:α->List Prop×SV} (h:o.map f=some (ps,v)):∃x,o=some x/\f x=(ps,v):=by
 cases o with
 |none=>simp at h
 |some x=>exact⟨x,rfl,by simpa using h⟩
theorem zs {α:Type} {c:Bool} {x y:Option α} {z:α} (h:(bif c then x else y)=some z):(c=true/\x=some z)\/(c=false/\y=some z):=by
 cases c
 ·exact Or.inr ⟨rfl,h⟩
 exact Or.inl ⟨rfl,h⟩
theorem zn {α:Type} {c:Bool} {x:Option α} {z:α} (h:(bif c then x else none)=some z):c=true/\x=some z:=by
 cases c
 ·cases h
 exact⟨rfl,h⟩
theorem zq (h:beq a b=true):a=b:=Nat.eq_of_beq_eq_true h
theorem aX (h:Nat.ble a b=true):a<=b:=Nat.le_of_ble_eq_true h
theorem aCK {Γ:Ctx} {ρ:Env} (w:World) {t e n:Nat} (hk:(Γ.ty t).k= .array n e) (hs:(Γ.ty e).size=1) {x y:SV} {vx vy:Value} (hx:zRT ρ x vx) (hy:zRT ρ y vy)
  {ps:List Prop} {p:Prop} (h:aY4 n (Γ.ty e).k x y=some (ps,p)) (hp:All ps):
  ∃b:Bool,(b=true↔p)/\(binOp .eql t vx vy).run Γ.P w= .ok (.bool b) w/\(binOp .neq t vx vy).run Γ.P w= .ok (.bool (!b)) w/\∀op X Y,(eqGuard op t X Y vx vy).run Γ.P w= .ok () w:=by
 unfold aY4 at h
 split at h<;>simp only[zoI,zpI,reduceCtorEq]at h<;>obtain⟨rfl,rfl⟩:=h
 ·rename_i a b hek
  have h1:=hp.head
  have h2:=hp.tail.head
  rw[show vx= .agg (a.map w8).toArray from hx,show vy= .agg (b.map w8).toArray from hy,aGF,aGF]
  obtain⟨r1,r2,r3⟩:=o8 (Γ:=Γ) w hk hek hs (a.map λx=>(x.toNat:Int)) (b.map λx=>(x.toNat:Int)) (by simpa using h1) (by simpa using h2)
  rw[iI _ (λ_ _=>aDV)]at r1 r2
  exact⟨_,beq_iff_eq,r1,r2,r3⟩
 ·rename_i a b hek
  have h1:=hp.head
  have h2:=hp.tail.head
  rw[show vx= .agg (a.map w16).toArray from hx,show vy= .agg (b.map w16).toArray from hy,aGI,aGI]
  obtain⟨r1,r2,r3⟩:=o8 (Γ:=Γ) w hk hek hs (a.map λx=>(x.toNat:Int)) (b.map λx=>(x.toNat:Int)) (by simpa using h1) (by simpa using h2)
  rw[iI _ (λ_ _=>aO0)]at r1 r2
  exact⟨_,beq_iff_eq,r1,r2,r3⟩
 ·rename_i a b hek
  have h1:=hp.head
  have h2:=hp.tail.head
  rw[show vx= .agg (a.map w32).toArray from hx,show vy= .agg (b.map w32).toArray from hy,aGH,aGH]
  obtain⟨r1,r2,r3⟩:=o8 (Γ:=Γ) w hk hek hs (a.map λx=>(x.toNat:Int)) (b.map λx=>(x.toNat:Int)) (by simpa using h1) (by simpa using h2)
  rw[iI _ (λ_ _=>wX)]at r1 r2
  exact⟨_,beq_iff_eq,r1,r2,r3⟩
 ·rename_i a b hek
  have h1:=hp.head
  have h2:=hp.tail.head
  rw[show vx= .agg (a.map w64).toArray from hx,show vy= .agg (b.map w64).toArray from hy,aGG,aGG]
  obtain⟨r1,r2,r3⟩:=o8 (Γ:=Γ) w hk hek hs (a.map λx=>(x.toNat:Int)) (b.map λx=>(x.toNat:Int)) (by simpa using h1) (by simpa using h2)
  rw[iI _ (λ_ _=>wW)]at r1 r2
  exact⟨_,beq_iff_eq,r1,r2,r3⟩
 rename_i a b hek
 have h1:=hp.head
 have h2:=hp.tail.head
 rw[show vx= .agg (a.map wi).toArray from hx,show vy= .agg (b.map wi).toArray from hy,aNQ,aNQ]
 obtain⟨r1,r2,r3⟩:=o8 (Γ:=Γ) w hk hek hs a b h1 h2
 exact⟨_,beq_iff_eq,r1,r2,r3⟩
theorem aEY (w:World) (d:Nat) (t e:TypeId) (a b:Option Addr) (h:P.underlying t=some (.pointer e)) (hab:a=none\/b=none):
  (Op.equalIn (d+1) t (.pointer a) (.pointer b)).run P w= .ok (a.isNone&&b.isNone) w:=by
 rcases hab with rfl|rfl
 ·cases b<;>simp[Op.equalIn,zru h]
 cases a<;>simp[Op.equalIn,zru h]
theorem fP (w:World) (t e:TypeId) (a b:Option Addr) (h:P.underlying t=some (.pointer e)) (hab:a=none\/b=none):
  (binOp .eql t (.pointer a) (.pointer b)).run P w= .ok (.bool (a.isNone&&b.isNone)) w:=by
 simp only[binOp,Op.equal,Op.maxDepth,run_bind,aEY w 9999 t e a b h hab,andThen_ok,run_pure]
theorem fO (w:World) (t e:TypeId) (a b:Option Addr) (h:P.underlying t=some (.pointer e)) (hab:a=none\/b=none):
  (binOp .neq t (.pointer a) (.pointer b)).run P w= .ok (.bool (!(a.isNone&&b.isNone))) w:=by
 simp only[binOp,Op.equal,Op.maxDepth,run_bind,aEY w 9999 t e a b h hab,andThen_ok,run_pure]
theorem fx (l:List UInt8):ByteArray.toList ⟨l.toArray⟩=l:=by rw[ByteArray.toList_eq]
theorem ry {Γ:Ctx} {ρ:Env} (w:World) {t:Nat} {x y:SV} {vx vy:Value} (hx:zRT ρ x vx) (hy:zRT ρ y vy)
  {ps:List Prop} {p:Prop} (h:aWG Γ.ty t x y=some (ps,p)) (hp:All ps):
  ∃b:Bool,(b=true↔p)/\(binOp .eql t vx vy).run Γ.P w= .ok (.bool b) w/\(binOp .neq t vx vy).run Γ.P w= .ok (.bool (!b)) w/\∀op X Y,(eqGuard op t X Y vx vy).run Γ.P w= .ok () w:=by
 unfold aWG at h
 split at h
 ·rename_i n e hk
  obtain⟨hc,h⟩:=zn h
  exact aCK w hk (zq hc) hx hy h hp
 ·rename_i hk
  obtain⟨q,hq,e⟩:=Option.map_eq_some_iff.1 h
  simp only[zpI]at e;obtain⟨rfl,rfl⟩:=e
  obtain⟨a,b,rfl,rfl,hab⟩:=aCJ hx hy hq
  have u:=aJP (Γ.ok (t:=t) (by rw[hk];simp)) hk
  exact⟨_,hab,run_eql_bool w t a b u,run_neq_bool w t a b u,λop X Y=>zeg op t X Y _ _ (by simp) (by simp)⟩
 ·rename_i e hk
  obtain⟨q,hq,e'⟩:=Option.map_eq_some_iff.1 h
  simp only[zpI]at e';obtain⟨rfl,rfl⟩:=e'
  have u:=wa (Γ.ok (t:=t) (by rw[hk];simp)) hk
  unfold aaO at hq
  split at hq<;>simp only[zoI,reduceCtorEq]at hq<;>subst hq
  ·rw[hx.2,show vy= .pointer none from hy]
   exact⟨false,by simp,fP w t e _ _ u (Or.inr rfl),fO w t e _ _ u (Or.inr rfl),λop X Y=>zeg op t X Y _ _ (by simp) (by simp)⟩
  ·rw[hy.2,show vx= .pointer none from hx]
   exact⟨false,by simp,fP w t e _ _ u (Or.inl rfl),fO w t e _ _ u (Or.inl rfl),λop X Y=>zeg op t X Y _ _ (by simp) (by simp)⟩
  ·rw[hx.2,show vy= .pointer none from hy]
   exact⟨false,by simp,fP w t e _ _ u (Or.inr rfl),fO w t e _ _ u (Or.inr rfl),λop X Y=>zeg op t X Y _ _ (by simp) (by simp)⟩
  ·obtain⟨_,_,hx,_⟩:=hx
   rw[hx,show vy= .pointer none from hy]
   exact⟨false,by simp,fP w t e _ _ u (Or.inr rfl),fO w t e _ _ u (Or.inr rfl),λop X Y=>zeg op t X Y _ _ (by simp) (by simp)⟩
  rw[show vx= .pointer none from hx,show vy= .pointer none from hy]
  exact⟨true,by simp,fP w t e _ _ u (Or.inl rfl),fO w t e _ _ u (Or.inl rfl),λop X Y=>zeg op t X Y _ _ (by simp) (by simp)⟩
 ·obtain⟨q,hq,e'⟩:=Option.map_eq_some_iff.1 h
  simp only[zpI]at e';obtain⟨rfl,rfl⟩:=e'
  unfold aaN at hq
  split at hq<;>simp only[zoI,reduceCtorEq]at hq<;>subst hq
  rename_i a b
  rw[show vx= .string ⟨a.toArray⟩from hx,show vy= .string ⟨b.toArray⟩from hy]
  refine⟨a==b,by simp,?_,?_,λop X Y=>zeg op t X Y _ _ (by simp) (by simp)⟩
  ·rw[binOp_string_eql,fx,fx];rfl
  rw[binOp_string_neq,fx,fx];rfl
 cases h
theorem aC0 {Γ:Ctx} {ρ:Env} (w:World) {op:BinOp} {t:Nat} {x y:SV} {vx vy:Value} (hx:zRT ρ x vx) (hy:zRT ρ y vy)
  {ps:List Prop} {v:SV} (h:aZD Γ.ty op t x y=some (ps,v)) (hp:All ps):
  ∃z,zRT ρ v z/\(binOp op t vx vy).run Γ.P w= .ok z w/\∀X Y,(eqGuard op t X Y vx vy).run Γ.P w= .ok () w:=by
 unfold aZD at h
 split at h
 ·rename_i a b
  rw[show vx=w8 a from hx,show vy=w8 b from hy]
  obtain⟨z,hz,hr⟩:=aC2 (P:=Γ.P) w (t:=t) h hp
  exact⟨z,mP (hz ρ),hr,λX Y=>zeg op t X Y _ _ (by simp[w8]) (by simp[w8])⟩
 ·rename_i a b
  rw[show vx=w16 a from hx,show vy=w16 b from hy]
  obtain⟨z,hz,hr⟩:=yO (P:=Γ.P) w (t:=t) h hp
  exact⟨z,mP (hz ρ),hr,λX Y=>zeg op t X Y _ _ (by simp[w16]) (by simp[w16])⟩
 ·rename_i a b
  rw[show vx=w32 a from hx,show vy=w32 b from hy]
  obtain⟨z,hz,hr⟩:=yN (P:=Γ.P) w (t:=t) h hp
  exact⟨z,mP (hz ρ),hr,λX Y=>zeg op t X Y _ _ (by simp[w32]) (by simp[w32])⟩
 ·rename_i a b
  rw[show vx=w64 a from hx,show vy=w64 b from hy]
  obtain⟨z,hz,hr⟩:=yM (P:=Γ.P) w (t:=t) h hp
  exact⟨z,mP (hz ρ),hr,λX Y=>zeg op t X Y _ _ (by simp[w64]) (by simp[w64])⟩
 ·rename_i k a j b
  replace ⟨hc,h⟩:=zn h
  obtain rfl:k=j:=by simpa using hc
  rw[show vx= .int k a from hx,show vy= .int k b from hy]
  obtain⟨z,hz,hr⟩:=aC1 (P:=Γ.P) w (t:=t) h hp
  exact⟨z,mP (hz ρ),hr,λX Y=>zeg op t X Y _ _ (by simp) (by simp)⟩
 split at h
 ·obtain⟨⟨qs,q⟩,hq,e⟩:=mZ h
  simp only[zpI]at e;obtain⟨rfl,rfl⟩:=e
  obtain⟨b,hb,r1,_,r3⟩:=ry w hx hy hq hp
  exact⟨.bool b,zR ⟨b,rfl,hb⟩,r1,r3 _⟩
 ·obtain⟨⟨qs,q⟩,hq,e⟩:=mZ h
  simp only[zpI]at e;obtain⟨rfl,rfl⟩:=e
  obtain⟨b,hb,_,r2,r3⟩:=ry w hx hy hq hp
  exact⟨.bool (!b),zR ⟨!b,rfl,by rw[<-hb];cases b<;>simp⟩,r2,r3 _⟩
 ·split at h
  ·rename_i a b _ _ _ _ _
   obtain⟨rfl,rfl⟩:=sB h
   rw[show vx= .string ⟨a.toArray⟩from hx,show vy= .string ⟨b.toArray⟩from hy]
   refine⟨.string ⟨(a++b).toArray⟩,zR rfl,?_,λX Y=>zeg _ t X Y _ _ (by simp) (by simp)⟩
   have:=hp.head
   rw[binOp_string_add,run_string_add_sum w _ _ (by simpa [ByteArray.size]using this)]
   congr 2
  cases h
 ·split at h
  ·rename_i a b _ _ _ _ _
   obtain⟨rfl,rfl⟩:=sB h
   rw[show vx= .string ⟨a.toArray⟩from hx,show vy= .string ⟨b.toArray⟩from hy]
   refine⟨.bool (Op.bytesLess a b),zR ⟨_,rfl,Iff.rfl⟩,?_,λX Y=>zeg _ t X Y _ _ (by simp) (by simp)⟩
   show(Op.stringOp .lss ⟨a.toArray⟩ ⟨b.toArray⟩).run Γ.P w=_
   unfold Op.stringOp
   rw[fx,fx];rfl
  cases h
 ·split at h
  ·rename_i a b _ _ _ _ _
   obtain⟨rfl,rfl⟩:=sB h
   rw[show vx= .string ⟨a.toArray⟩from hx,show vy= .string ⟨b.toArray⟩from hy]
   refine⟨.bool (!(Op.bytesLess a b||a==b)),zR ⟨_,rfl,by simp⟩,?_,λX Y=>zeg _ t X Y _ _ (by simp) (by simp)⟩
   show(Op.stringOp .gtr ⟨a.toArray⟩ ⟨b.toArray⟩).run Γ.P w=_
   unfold Op.stringOp
   rw[fx,fx];rfl
  cases h
 cases h
theorem aBZ (hx:zRT ρ x vx) (h:aXF x=some (ps,v)):∃b:Bool,vx= .bool b/\zRT ρ v (.bool (!b)):=by
 unfold aXF at h
 split at h<;>simp only[zoI,zpI,reduceCtorEq]at h<;>obtain⟨rfl,rfl⟩:=h
 ·exact⟨true,hx,zR rfl⟩
 ·exact⟨false,hx,zR rfl⟩
 obtain⟨b,hb,hq⟩:=hx
 exact⟨b,hb,zR ⟨_,rfl,by rw[<-hq];cases b<;>simp⟩⟩
theorem aIS (x:UInt8):Op.intBits .xor .u8 (if IntKind.signed .u8 then -1 else IntKind.max .u8) (x.toNat:Int)=pure (w8 (~~~x)):=by
 show(pure (Value.int .u8 (IntKind.wrap .u8 ((BitVec.ofInt 8 (IntKind.max .u8)^^^BitVec.ofInt 8 (x.toNat:Int)).toNat:Int))):Sem Value)=_
 have e:BitVec.ofInt 8 (IntKind.max .u8)=BitVec.allOnes 8:=by
  apply BitVec.eq_of_toNat_eq;rfl
 rw[e,ez,dJ,w8,BitVec.allOnes_xor,<-UInt8.toBitVec_not,<-UInt8.toNat.eq_1,UInt8.ofNat_toNat]
theorem aCX (x:UInt16):Op.intBits .xor .u16 (if IntKind.signed .u16 then -1 else IntKind.max .u16) (x.toNat:Int)=pure (w16 (~~~x)):=by
 show(pure (Value.int .u16 (IntKind.wrap .u16 ((BitVec.ofInt 16 (IntKind.max .u16)^^^BitVec.ofInt 16 (x.toNat:Int)).toNat:Int))):Sem Value)=_
 have e:BitVec.ofInt 16 (IntKind.max .u16)=BitVec.allOnes 16:=by
  apply BitVec.eq_of_toNat_eq;rfl
 rw[e,aFS,nP,w16,BitVec.allOnes_xor,<-UInt16.toBitVec_not,<-UInt16.toNat.eq_1,UInt16.ofNat_toNat]
theorem aCW (x:UInt32):Op.intBits .xor .u32 (if IntKind.signed .u32 then -1 else IntKind.max .u32) (x.toNat:Int)=pure (w32 (~~~x)):=by
 show(pure (Value.int .u32 (IntKind.wrap .u32 ((BitVec.ofInt 32 (IntKind.max .u32)^^^BitVec.ofInt 32 (x.toNat:Int)).toNat:Int))):Sem Value)=_
 have e:BitVec.ofInt 32 (IntKind.max .u32)=BitVec.allOnes 32:=by
  apply BitVec.eq_of_toNat_eq;rfl
 rw[e,cz,cT,w32,BitVec.allOnes_xor,<-UInt32.toBitVec_not,<-UInt32.toNat.eq_1,UInt32.ofNat_toNat]
theorem aCV (x:UInt64):Op.intBits .xor .u64 (if IntKind.signed .u64 then -1 else IntKind.max .u64) (x.toNat:Int)=pure (w64 (~~~x)):=by
 show(pure (Value.int .u64 (IntKind.wrap .u64 ((BitVec.ofInt 64 (IntKind.max .u64)^^^BitVec.ofInt 64 (x.toNat:Int)).toNat:Int))):Sem Value)=_
 have e:BitVec.ofInt 64 (IntKind.max .u64)=BitVec.allOnes 64:=by
  apply BitVec.eq_of_toNat_eq;rfl
 rw[e,cu,cQ,w64,BitVec.allOnes_xor,<-UInt64.toBitVec_not,<-UInt64.toNat.eq_1,UInt64.ofNat_toNat]
theorem aD1 (w:World) (hx:zRT ρ x vx)
  (h:unV op x=some (ps,v)) (hp:All ps):∃z,zRT ρ v z/\(Op.unary op vx).run P w= .ok z w:=by
 unfold unV at h
 split at h
 ·obtain⟨b,rfl,hb⟩:=aBZ hx h
  exact⟨_,hb,rfl⟩
 ·split at h<;>simp only[zoI,zpI,reduceCtorEq]at h<;>obtain⟨rfl,rfl⟩:=h
  ·rename_i a;rw[show vx=w8 a from hx];exact⟨_,zR rfl,by simp only[Op.unary,w8];rw[aIS];rfl⟩
  ·rename_i a;rw[show vx=w16 a from hx];exact⟨_,zR rfl,by simp only[Op.unary,w16];rw[aCX];rfl⟩
  ·rename_i a;rw[show vx=w32 a from hx];exact⟨_,zR rfl,by simp only[Op.unary,w32];rw[aCW];rfl⟩
  rename_i a;rw[show vx=w64 a from hx];exact⟨_,zR rfl,by simp only[Op.unary,w64];rw[aCV];rfl⟩
 ·split at h<;>simp only[zoI,zpI,reduceCtorEq]at h
  obtain⟨rfl,rfl⟩:=h
  rename_i k n
  rw[show vx= .int k n from hx]
  refine⟨_,zR rfl,?_⟩
  simp[Op.unary,Op.intArith,av hp.head]
 cases h
theorem wT (n:Int):IntKind.wrap .u8 n=((UInt8.ofInt n).toNat:Int):=by
 rw[iZ,UInt8.ofInt,UInt8.toNat_ofNat']
 omega
theorem tx (n:Int):IntKind.wrap .u16 n=((UInt16.ofInt n).toNat:Int):=by
 rw[jI,UInt16.ofInt,UInt16.toNat_ofNat']
 omega
theorem tw (n:Int):IntKind.wrap .u32 n=((ofInt n).toNat:Int):=by
 rw[fj,ofInt,UInt32.toNat_ofNat']
 omega
theorem tv (n:Int):IntKind.wrap .u64 n=((UInt64.ofInt n).toNat:Int):=by
 rw[fi,UInt64.ofInt,UInt64.toNat_ofNat']
 omega
theorem yE (w:World) (hx:zRT ρ x vx) (h:aRP k x=some (ps,v)) (hp:All ps):
  ∃j n z,vx= .int j n/\zRT ρ v z/\(Conv.intToInt k n).run P w= .ok z w:=by
 unfold aRP at h
 split at h
 case' h_7=>cases h
 all_goals(split at h<;>simp only[zoI,zpI,reduceCtorEq]at h<;>obtain⟨rfl,rfl⟩:=h)
 ·rename_i x
  refine⟨_,_,_,hx,zR rfl,?_⟩
  simp only[Conv.intToInt,run_pure,iZ,w8]
  congr 2
  have:=x.toNat_lt
  omega
 ·rename_i x
  refine⟨_,_,_,hx,zR rfl,?_⟩
  simp only[Conv.intToInt,run_pure,iZ,w8]
  congr 2
 ·rename_i x
  refine⟨_,_,_,hx,zR rfl,?_⟩
  simp only[Conv.intToInt,run_pure,iZ,w8]
  congr 2
 ·rename_i x
  refine⟨_,_,_,hx,zR rfl,?_⟩
  simp only[Conv.intToInt,run_pure,iZ,w8]
  congr 2
 ·exact⟨_,_,_,hx,zR rfl,by simp only[Conv.intToInt,run_pure,wT,w8]⟩
 ·rename_i x
  refine⟨_,_,_,hx,zR rfl,?_⟩
  simp only[Conv.intToInt,run_pure,jI,w16]
  congr 2
  have:=x.toNat_lt
  rw[UInt8.toNat_toUInt16];omega
 ·rename_i x
  refine⟨_,_,_,hx,zR rfl,?_⟩
  simp only[Conv.intToInt,run_pure,jI,w16]
  congr 2
  have:=x.toNat_lt
  omega
 ·rename_i x
  refine⟨_,_,_,hx,zR rfl,?_⟩
  simp only[Conv.intToInt,run_pure,jI,w16]
  congr 2
 ·rename_i x
  refine⟨_,_,_,hx,zR rfl,?_⟩
  simp only[Conv.intToInt,run_pure,jI,w16]
  congr 2
 ·exact⟨_,_,_,hx,zR rfl,by simp only[Conv.intToInt,run_pure,tx,w16]⟩
 ·rename_i x
  refine⟨_,_,_,hx,zR rfl,?_⟩
  simp only[Conv.intToInt,run_pure,fj,w32]
  congr 2
  have:=x.toNat_lt
  rw[UInt8.toNat_toUInt32];omega
 ·rename_i x
  refine⟨_,_,_,hx,zR rfl,?_⟩
  simp only[Conv.intToInt,run_pure,fj,w32]
  congr 2
  have:=x.toNat_lt
  rw[UInt16.toNat_toUInt32];omega
 ·rename_i x
  refine⟨_,_,_,hx,zR rfl,?_⟩
  simp only[Conv.intToInt,run_pure,fj,w32]
  congr 2
  have:=x.toNat_lt
  omega
 ·rename_i x
  refine⟨_,_,_,hx,zR rfl,?_⟩
  simp only[Conv.intToInt,run_pure,fj,w32]
  congr 2
 ·exact⟨_,_,_,hx,zR rfl,by simp only[Conv.intToInt,run_pure,tw,w32]⟩
 ·rename_i x
  refine⟨_,_,_,hx,zR rfl,?_⟩
  simp only[Conv.intToInt,run_pure,fi,w64]
  congr 2
  have:=x.toNat_lt
  rw[UInt8.toNat_toUInt64];omega
 ·rename_i x
  refine⟨_,_,_,hx,zR rfl,?_⟩
  simp only[Conv.intToInt,run_pure,fi,w64]
  congr 2
  have:=x.toNat_lt
  rw[UInt16.toNat_toUInt64];omega
 ·rename_i x
  refine⟨_,_,_,hx,zR rfl,?_⟩
  simp only[Conv.intToInt,run_pure,fi,w64]
  congr 2
  have:=x.toNat_lt
  rw[UInt32.toNat_toUInt64];omega
 ·rename_i x
  refine⟨_,_,_,hx,zR rfl,?_⟩
  simp only[Conv.intToInt,run_pure,fi,w64]
  congr 2
  have:=x.toNat_lt
  omega
 ·exact⟨_,_,_,hx,zR rfl,by simp only[Conv.intToInt,run_pure,tv,w64]⟩
 ·rename_i x
  refine⟨_,_,_,hx,zR rfl,?_⟩
  have:=x.toNat_lt
  rw[Conv.intToInt,run_pure,av (k:=.i64) (by simp only[rng];omega)]
 ·rename_i x
  refine⟨_,_,_,hx,zR rfl,?_⟩
  have:=x.toNat_lt
  rw[Conv.intToInt,run_pure,av (k:=.i64) (by simp only[rng];omega)]
 ·rename_i x
  refine⟨_,_,_,hx,zR rfl,?_⟩
  have:=x.toNat_lt
  rw[Conv.intToInt,run_pure,av (k:=.i64) (by simp only[rng];omega)]
 ·rename_i x
  refine⟨_,_,_,hx,zR rfl,?_⟩
  have:=hp.head
  rw[Conv.intToInt,run_pure,av (k:=.i64) (by simp only[rng];omega)]
 ·exact⟨_,_,_,hx,zR rfl,by rw[Conv.intToInt,run_pure,av hp.head]⟩
 ·rename_i x
  refine⟨_,_,_,hx,zR rfl,?_⟩
  have:=x.toNat_lt
  rw[Conv.intToInt,run_pure,av (k:=.i32) (by simp only[rng];omega)]
 exact⟨_,_,_,hx,zR rfl,by rw[Conv.intToInt,run_pure,av hp.head]⟩
theorem aD {α:Type} (f:α->Value) (l:List α) (d:α) {i:Nat} (h:i<l.length):(l.map f)[i]? =some (f (l.getD i d)):=by
 simp[List.getElem?_map,List.getElem?_eq_getElem h,List.getD_eq_getElem?_getD]
theorem qg (hv:aq v=false):fb ρ v cs↔∃x,cg ρ v x/\cs=[x]:=by
 cases v<;>first|exact Iff.rfl|cases hv
theorem yY (hv:aq v=false) (h:bH ρ [(s,v)] cs):∃x,cg ρ v x/\cs=[x]:=by
 obtain⟨c1,c2,rfl,_,h1,h2⟩:=h
 have e:c2=[]:=h2
 subst e
 rw[append_nil]
 exact(qg hv).1 h1
theorem mC (h:fb ρ v cs):zD ρ v cs:=by
 cases v<;>first|exact h|(obtain⟨x,hx,_⟩:=h;exact hx.elim)
theorem di:∀{ls:List (Nat×SV)} {cs:List Value},bH ρ ls cs->zC ρ ls cs
 |[],_,h=>h
 |(_,_)::_,_,⟨c1,c2,e,hl,h1,h2⟩=>⟨c1,c2,e,hl,mC h1,di h2⟩
theorem bo (h1:aq v=false) (h2:cw v=false):zD ρ v cs↔∃x,cg ρ v x/\cs=[x]:=by
 cases v<;>first|exact Iff.rfl|(cases h1;done)|(cases h2;done)
theorem fy (hc:zD ρ v c) (hs:c.length=s)
  (h:sH v s off i=some (ps,z)) (hp:All ps):∃x,c[off+i.getD 0]? =some x/\Rel ρ z x:=by
 unfold sH at h
 split at h
 ·rename_i l
  obtain⟨hb,h⟩:=zn h
  obtain⟨rfl,rfl⟩:=sB h
  have hlt:=ay hb
  rw[show c=l.map w8 from hc]at hs⊢
  rw[length_map]at hs
  exact⟨_,aD w8 l 0 (by simp;omega),rfl⟩
 ·rename_i l j
  rw[show c=l.map w8 from hc]at hs⊢
  rw[length_map]at hs
  split at h<;>simp only[zoI,zpI]at h<;>obtain⟨rfl,rfl⟩:=h
  ·have hlt:=hp.head
   refine⟨_,?_,rfl⟩
   rw[show 0+(some j).getD 0=j by simp]
   exact aD w8 l 0 (by omega)
  have hlt:=hp.head
  refine⟨_,?_,rfl⟩
  rw[add_comm,show(some j).getD 0=j from rfl]
  exact aD w8 l 0 (by omega)
 ·rename_i l
  obtain⟨hb,h⟩:=zn h
  obtain⟨rfl,rfl⟩:=sB h
  have hlt:=ay hb
  rw[show c=l.map w16 from hc]at hs⊢
  rw[length_map]at hs
  exact⟨_,aD w16 l 0 (by simp;omega),rfl⟩
 ·rename_i l j
  rw[show c=l.map w16 from hc]at hs⊢
  rw[length_map]at hs
  split at h<;>simp only[zoI,zpI]at h<;>obtain⟨rfl,rfl⟩:=h
  ·have hlt:=hp.head
   refine⟨_,?_,rfl⟩
   rw[show 0+(some j).getD 0=j by simp]
   exact aD w16 l 0 (by omega)
  have hlt:=hp.head
  refine⟨_,?_,rfl⟩
  rw[add_comm,show(some j).getD 0=j from rfl]
  exact aD w16 l 0 (by omega)
 ·rename_i l
  obtain⟨hb,h⟩:=zn h
  obtain⟨rfl,rfl⟩:=sB h
  have hlt:=ay hb
  rw[show c=l.map w32 from hc]at hs⊢
  rw[length_map]at hs
  exact⟨_,aD w32 l 0 (by simp;omega),rfl⟩
 ·rename_i l j
  rw[show c=l.map w32 from hc]at hs⊢
  rw[length_map]at hs
  split at h<;>simp only[zoI,zpI]at h<;>obtain⟨rfl,rfl⟩:=h
  ·have hlt:=hp.head
   refine⟨_,?_,rfl⟩
   rw[show 0+(some j).getD 0=j by simp]
   exact aD w32 l 0 (by omega)
  have hlt:=hp.head
  refine⟨_,?_,rfl⟩
  rw[add_comm,show(some j).getD 0=j from rfl]
  exact aD w32 l 0 (by omega)
 ·rename_i l
  obtain⟨hb,h⟩:=zn h
  obtain⟨rfl,rfl⟩:=sB h
  have hlt:=ay hb
  rw[show c=l.map w64 from hc]at hs⊢
  rw[length_map]at hs
  exact⟨_,aD w64 l 0 (by simp;omega),rfl⟩
 ·rename_i l j
  rw[show c=l.map w64 from hc]at hs⊢
  rw[length_map]at hs
  split at h<;>simp only[zoI,zpI]at h<;>obtain⟨rfl,rfl⟩:=h
  ·have hlt:=hp.head
   refine⟨_,?_,rfl⟩
   rw[show 0+(some j).getD 0=j by simp]
   exact aD w64 l 0 (by omega)
  have hlt:=hp.head
  refine⟨_,?_,rfl⟩
  rw[add_comm,show(some j).getD 0=j from rfl]
  exact aD w64 l 0 (by omega)
 ·rename_i l
  obtain⟨hb,h⟩:=zn h
  obtain⟨rfl,rfl⟩:=sB h
  have hlt:=ay hb
  rw[show c=l.map wi from hc]at hs⊢
  rw[length_map]at hs
  exact⟨_,aD wi l 0 (by simp;omega),rfl⟩
 ·rename_i l j
  rw[show c=l.map wi from hc]at hs⊢
  rw[length_map]at hs
  split at h<;>simp only[zoI,zpI]at h<;>obtain⟨rfl,rfl⟩:=h
  ·have hlt:=hp.head
   refine⟨_,?_,rfl⟩
   rw[show 0+(some j).getD 0=j by simp]
   exact aD wi l 0 (by omega)
  have hlt:=hp.head
  refine⟨_,?_,rfl⟩
  rw[add_comm,show(some j).getD 0=j from rfl]
  exact aD wi l 0 (by omega)
 ·cases h
 ·rename_i m F j
  split at h
  ·split at h
   ·split at h
    ·rename_i s' u hF
     rcases zs h with⟨_,h⟩|⟨_,h⟩
     ·cases h
     rename_i hu
     obtain⟨rfl,rfl⟩:=sB h
     obtain⟨r1,r2⟩:=hc
     have:=r2 j hp.head
     rw[hF]at this
     obtain⟨x,hx,e⟩:=yY hu this
     refine⟨x,?_,iS (hx.le (Env.bare_le ρ))⟩
     rw[mul_one]at e
     simp only[getD_some,zero_add]
     have e2:((c.drop j).take 1)[0]? =some x:=by rw[e];rfl
     simpa using e2
    cases h
   cases h
  cases h
 ·split at h<;>simp only[zoI,zpI,reduceCtorEq]at h
  obtain⟨rfl,rfl⟩:=h
  cases v<;>simp only[zD]at hc
  all_goals first
   |(obtain⟨x,hx,rfl⟩:=hc;exact⟨x,rfl,iS hx⟩)
   |(rename_i hn _ _ _ _ _;exact absurd rfl (hn _))
   |(exfalso;simp_all;done)
 cases h
theorem bW {α:Type} (f:α->Value) (l:List α) (o n:Nat):((l.map f).drop o).take n=(((l.drop o).take n).map f):=by
 simp[List.map_drop,map_take]
theorem gz (hc:zD ρ v c) (hs:c.length=s)
  (h:ol v s off i n=some (ps,z)) (hp:All ps):
  off+i.getD 0+n<=s/\Rel ρ z (.agg ((c.drop (off+i.getD 0)).take n).toArray):=by
 unfold ol at h
 split at h
 ·rename_i l
  rw[show c=l.map w8 from hc]at hs⊢
  rw[length_map]at hs
  split at h
  ·rcases zs h with⟨hb,h⟩|⟨_,h⟩
   ·obtain⟨rfl,rfl⟩:=sB h
    have:=zq hb
    refine⟨by simp;omega,?_⟩
    simp only[Rel,getD_none,add_zero,drop_zero]
    rw[take_of_length_le (by simp;omega)]
   obtain⟨hb,h⟩:=zn h
   obtain⟨rfl,rfl⟩:=sB h
   have:=aX hb
   refine⟨by simp;omega,?_⟩
   simp only[Rel,getD_none,add_zero,drop_zero,map_take]
  obtain⟨hb,h⟩:=zn h
  obtain⟨rfl,rfl⟩:=sB h
  have:=aX hb
  refine⟨by simp;omega,?_⟩
  simp only[Rel,getD_none,add_zero]
  rw[bW]
 ·rename_i l j
  rw[show c=l.map w8 from hc]at hs⊢
  rw[length_map]at hs
  split at h<;>simp only[zoI,zpI]at h<;>obtain⟨rfl,rfl⟩:=h
  ·have:=hp.head
   refine⟨by simp;omega,?_⟩
   simp only[Rel,getD_some,zero_add]
   rw[bW]
  have:=hp.head
  refine⟨by simp;omega,?_⟩
  simp only[Rel,getD_some]
  rw[bW,add_comm]
 ·rename_i l
  rw[show c=l.map w16 from hc]at hs⊢
  rw[length_map]at hs
  split at h
  ·rcases zs h with⟨hb,h⟩|⟨_,h⟩
   ·obtain⟨rfl,rfl⟩:=sB h
    have:=zq hb
    refine⟨by simp;omega,?_⟩
    simp only[Rel,getD_none,add_zero,drop_zero]
    rw[take_of_length_le (by simp;omega)]
   obtain⟨hb,h⟩:=zn h
   obtain⟨rfl,rfl⟩:=sB h
   have:=aX hb
   refine⟨by simp;omega,?_⟩
   simp only[Rel,getD_none,add_zero,drop_zero,map_take]
  obtain⟨hb,h⟩:=zn h
  obtain⟨rfl,rfl⟩:=sB h
  have:=aX hb
  refine⟨by simp;omega,?_⟩
  simp only[Rel,getD_none,add_zero]
  rw[bW]
 ·rename_i l j
  rw[show c=l.map w16 from hc]at hs⊢
  rw[length_map]at hs
  split at h<;>simp only[zoI,zpI]at h<;>obtain⟨rfl,rfl⟩:=h
  ·have:=hp.head
   refine⟨by simp;omega,?_⟩
   simp only[Rel,getD_some,zero_add]
   rw[bW]
  have:=hp.head
  refine⟨by simp;omega,?_⟩
  simp only[Rel,getD_some]
  rw[bW,add_comm]
 ·rename_i l
  rw[show c=l.map w32 from hc]at hs⊢
  rw[length_map]at hs
  split at h
  ·rcases zs h with⟨hb,h⟩|⟨_,h⟩
   ·obtain⟨rfl,rfl⟩:=sB h
    have:=zq hb
    refine⟨by simp;omega,?_⟩
    simp only[Rel,getD_none,add_zero,drop_zero]
    rw[take_of_length_le (by simp;omega)]
   obtain⟨hb,h⟩:=zn h
   obtain⟨rfl,rfl⟩:=sB h
   have:=aX hb
   refine⟨by simp;omega,?_⟩
   simp only[Rel,getD_none,add_zero,drop_zero,map_take]
  obtain⟨hb,h⟩:=zn h
  obtain⟨rfl,rfl⟩:=sB h
  have:=aX hb
  refine⟨by simp;omega,?_⟩
  simp only[Rel,getD_none,add_zero]
  rw[bW]
 ·rename_i l j
  rw[show c=l.map w32 from hc]at hs⊢
  rw[length_map]at hs
  split at h<;>simp only[zoI,zpI]at h<;>obtain⟨rfl,rfl⟩:=h
  ·have:=hp.head
   refine⟨by simp;omega,?_⟩
   simp only[Rel,getD_some,zero_add]
   rw[bW]
  have:=hp.head
  refine⟨by simp;omega,?_⟩
  simp only[Rel,getD_some]
  rw[bW,add_comm]
 ·rename_i l
  rw[show c=l.map w64 from hc]at hs⊢
  rw[length_map]at hs
  split at h
  ·rcases zs h with⟨hb,h⟩|⟨_,h⟩
   ·obtain⟨rfl,rfl⟩:=sB h
    have:=zq hb
    refine⟨by simp;omega,?_⟩
    simp only[Rel,getD_none,add_zero,drop_zero]
    rw[take_of_length_le (by simp;omega)]
   obtain⟨hb,h⟩:=zn h
   obtain⟨rfl,rfl⟩:=sB h
   have:=aX hb
   refine⟨by simp;omega,?_⟩
   simp only[Rel,getD_none,add_zero,drop_zero,map_take]
  obtain⟨hb,h⟩:=zn h
  obtain⟨rfl,rfl⟩:=sB h
  have:=aX hb
  refine⟨by simp;omega,?_⟩
  simp only[Rel,getD_none,add_zero]
  rw[bW]
 ·rename_i l j
  rw[show c=l.map w64 from hc]at hs⊢
  rw[length_map]at hs
  split at h<;>simp only[zoI,zpI]at h<;>obtain⟨rfl,rfl⟩:=h
  ·have:=hp.head
   refine⟨by simp;omega,?_⟩
   simp only[Rel,getD_some,zero_add]
   rw[bW]
  have:=hp.head
  refine⟨by simp;omega,?_⟩
  simp only[Rel,getD_some]
  rw[bW,add_comm]
 ·rename_i l
  rw[show c=l.map wi from hc]at hs⊢
  rw[length_map]at hs
  split at h
  ·rcases zs h with⟨hb,h⟩|⟨_,h⟩
   ·obtain⟨rfl,rfl⟩:=sB h
    have:=zq hb
    refine⟨by simp;omega,?_⟩
    simp only[Rel,getD_none,add_zero,drop_zero]
    rw[take_of_length_le (by simp;omega)]
   obtain⟨hb,h⟩:=zn h
   obtain⟨rfl,rfl⟩:=sB h
   have:=aX hb
   refine⟨by simp;omega,?_⟩
   simp only[Rel,getD_none,add_zero,drop_zero,map_take]
  obtain⟨hb,h⟩:=zn h
  obtain⟨rfl,rfl⟩:=sB h
  have:=aX hb
  refine⟨by simp;omega,?_⟩
  simp only[Rel,getD_none,add_zero]
  rw[bW]
 ·rename_i l j
  rw[show c=l.map wi from hc]at hs⊢
  rw[length_map]at hs
  split at h<;>simp only[zoI,zpI]at h<;>obtain⟨rfl,rfl⟩:=h
  ·have:=hp.head
   refine⟨by simp;omega,?_⟩
   simp only[Rel,getD_some,zero_add]
   rw[bW]
  have:=hp.head
  refine⟨by simp;omega,?_⟩
  simp only[Rel,getD_some]
  rw[bW,add_comm]
 cases h
theorem dK:∀{n:Nat} {ls:List (Nat×SV)} {cs:List Value} {l:List (Nat×SV)},zC ρ ls cs->gy ls n=some l->zC ρ l (cs.take n)/\n<=cs.length:=by
 intro n
 induction n using Nat.strongRecOn with
 |_ n ih=>
  intro ls cs l hc h
  unfold gy at h
  split at h
  ·simp only[zoI]at h;subst h;simp[zC]
  rename_i m
  split at h
  ·cases h
  rename_i s0 v r
  split at h
  ·cases h
  rename_i s
  obtain⟨hb,h⟩:=zn h
  have hle:=aX hb
  obtain⟨l',hl',rfl⟩:=Option.map_eq_some_iff.1 h
  obtain⟨c1,c2,rfl,h1,h2,h3⟩:=hc
  obtain⟨h4,h5⟩:=ih (m+1-(s+1)) (by omega) h3 hl'
  refine⟨⟨c1,c2.take (m+1-(s+1)),?_,h1,h2,h4⟩,by simp;omega⟩
  rw[List.take_append,take_of_length_le (by omega),h1]
theorem dU:∀{n:Nat} {ls:List (Nat×SV)} {cs:List Value} {l:List (Nat×SV)},zC ρ ls cs->dG ls n=some l->zC ρ l (cs.drop n)/\n<=cs.length:=by
 intro n ls
 induction ls generalizing n with
 |nil=>
  intro cs l hc h
  cases n with
  |zero=>simp only[dG,zoI]at h;subst h;simpa using hc
  |succ n=>simp[dG]at h
 |cons a r ih=>
  intro cs l hc h
  cases n with
  |zero=>simp only[dG,zoI]at h;subst h;simpa using hc
  |succ n=>
   obtain⟨s,v⟩:=a
   simp only[dG]at h
   obtain⟨hb,h⟩:=zn h
   have hle:=aX hb
   obtain⟨c1,c2,rfl,h1,h2,h3⟩:=hc
   obtain⟨h4,h5⟩:=ih h3 h
   refine⟨?_,by simp;omega⟩
   rw[drop_append,h1,List.drop_of_length_le (by omega),nil_append]
   exact h4
def ag (ρ:Env) (k:TyK) (n:Nat) (z:SV) (cs:List Value) (o:Nat):Prop:=
 if bZ k then o+n<=cs.length/\Rel ρ z (.agg ((cs.drop o).take n).toArray)else∃x,cs[o]? =some x/\Rel ρ z x
theorem ag.app (h:ag ρ k n z c2 o):ag ρ k n z (c1++c2) (c1.length+o):=by
 unfold ag at *
 split
 ·rename_i hk
  rw[if_pos hk]at h
  refine⟨by simp;omega,?_⟩
  rw[drop_append,List.drop_of_length_le (by omega),nil_append,Nat.add_sub_cancel_left]
  exact h.2
 rename_i hk
 rw[if_neg hk]at h
 obtain⟨x,hx,hr⟩:=h
 exact⟨x,by rw[List.getElem?_append_right (by omega),Nat.add_sub_cancel_left];exact hx,hr⟩
theorem ag.of_leaf (h:ag ρ k n z c1 o):ag ρ k n z (c1++c2) o:=by
 unfold ag at *
 split
 ·rename_i hk
  rw[if_pos hk]at h
  refine⟨by simp;omega,?_⟩
  have:((c1++c2).drop o).take n=(c1.drop o).take n:=by
   rw[List.drop_append_of_le_length (by omega),List.take_append_of_le_length (by simp;omega)]
  rw[this];exact h.2
 rename_i hk
 rw[if_neg hk]at h
 obtain⟨x,hx,hr⟩:=h
 exact⟨x,by rw[List.getElem?_append_left (List.getElem?_eq_some_iff.1 hx).1];exact hx,hr⟩
theorem iK:∀{ls:List (Nat×SV)} {cs:List Value} (_:zC ρ ls cs) {f:Nat} {i:Option Nat} {k:TyK} {n:Nat} {ps:List Prop} {z:SV},
  xg ls f i k n=some (ps,z)->All ps->ag ρ k n z cs (f+i.getD 0)
 |[],_,_,_,_,_,_,_,_,h,_=>by simp[xg]at h
 | (s,v)::r,cs,hc,f,i,k,n,ps,z,h,hp=>by
  have hc0:=hc
  obtain⟨c1,c2,rfl,h1,h2,h3⟩:=hc
  unfold xg at h
  split at h
  ·split at h
   ·split at h
    ·rcases zs h with⟨hb,h⟩|⟨_,h⟩
     ·obtain⟨rfl,rfl⟩:=sB h
      have e1:=hc0.length
      have e2:zL ((s,v)::r)=n:=jp hb
      simp only[ag,bZ,if_true,getD_none,add_zero,zero_add,drop_zero]
      rw[take_of_length_le (by rw[e1,e2];exact le_refl _)]
      exact⟨by rw[e1,e2];exact le_refl _,_,hc0,rfl⟩
     obtain⟨l,hl,e⟩:=mZ h
     simp only[zpI]at e;obtain⟨rfl,rfl⟩:=e
     obtain⟨h4,h5⟩:=dK hc0 hl
     simp only[ag,bZ,if_true,getD_none,add_zero,zero_add,drop_zero]
     exact⟨h5,_,h4,rfl⟩
    cases h
   ·rcases zs h with⟨_,h⟩|⟨_,h⟩
    ·have:=gz h2 h1 h hp
     exact ag.of_leaf (by simp only[ag,bZ,if_true];rw[h1];exact this)
    split at h
    ·obtain⟨l,hl,e⟩:=mZ h
     simp only[zpI]at e;obtain⟨rfl,rfl⟩:=e
     obtain⟨h4,h5⟩:=dK hc0 hl
     simp only[ag,bZ,if_true,getD_none,add_zero,zero_add,drop_zero]
     exact⟨h5,_,h4,rfl⟩
    cases h
   rename_i hk1 hk2
   have hk:bZ k=false:=by cases k<;>first|rfl|exact absurd rfl (hk1 _)|exact absurd rfl (hk2 _ _)
   split at h
   ·obtain⟨x,hx,hr⟩:=fy h2 h1 h hp
    exact ag.of_leaf (by simp only[ag,hk,false_eq_true,if_false];exact⟨x,hx,hr⟩)
   rename_i j
   rcases zs h with⟨_,h⟩|⟨hb,h⟩
   ·obtain⟨x,hx,hr⟩:=fy h2 h1 h hp
    exact ag.of_leaf (by simp only[ag,hk,false_eq_true,if_false];exact⟨x,hx,hr⟩)
   simp only[Bool.or_eq_false_iff]at hb
   obtain⟨x,hx,e⟩:=(bo hb.1 hb.2).1 h2
   subst e
   split at h
   ·obtain⟨rfl,rfl⟩:=sB h
    simp only[ag,hk,false_eq_true,if_false]
    exact⟨x,rfl,iS hx⟩
   have:=iK h3 h hp
   have:=ag.app (c1:=[x]) this
   simp only[List.length_singleton,getD_some,zero_add]at this⊢
   rw[add_comm]at this
   exact this
  rename_i g
  rcases zs h with⟨hb,h⟩|⟨hb,h⟩
  ·split at h
   ·cases h
   ·obtain⟨_,h⟩:=zn h
    have:=gz h2 h1 h hp
    exact ag.of_leaf (by simp only[ag,bZ,if_true];rw[h1];exact this)
   rename_i hk1 hk2
   have hk:bZ k=false:=by cases k<;>first|rfl|exact absurd rfl (hk1 _)|exact absurd rfl (hk2 _ _)
   obtain⟨x,hx,hr⟩:=fy h2 h1 h hp
   exact ag.of_leaf (by simp only[ag,hk,false_eq_true,if_false];exact⟨x,hx,hr⟩)
  have hge:s<=g+1:=by
   rcases Nat.lt_or_ge (g+1) s with hl|hl
   ·have:Nat.blt (g+1) s=true:=by simpa [Nat.blt_eq]using hl
    rw[this]at hb;cases hb
   exact hl
  have:=iK h3 h hp
  have:=ag.app (c1:=c1) this
  rw[show c1.length+(g+1-s+i.getD 0)=g+1+i.getD 0 by omega]at this
  exact this
theorem ju (hy:wL P t y)
  (hl:ag ρ y.k y.size z cs q) (hm:∀j v,cs[j]? =some v->w.cell? ⟨b,o+j,none⟩=some v):
  ∃x,Rel ρ z x/\(loadVar t ⟨b,o+q,none⟩).run P w= .ok x w:=by
 unfold ag at hl
 unfold loadVar
 simp only[run_bind,ki hy,andThen_ok]
 split at hl
 ·rename_i hk
  refine⟨_,hl.2,?_⟩
  simp only[hk,if_true,run_bind,aT hy,andThen_ok]
  rw[g6 (cs:=(cs.drop q).take y.size) (by simp;omega) (λj v hj=>by
   rw[getElem?_take]at hj
   split at hj
   ·rw[List.getElem?_drop]at hj
    rw[Nat.add_assoc];exact hm _ _ hj
   cases hj)]
  rfl
 rename_i hk
 obtain⟨x,hx,hr⟩:=hl
 refine⟨x,hr,?_⟩
 simp only[hk,false_eq_true,if_false]
 exact kg (hm _ _ hx) _
theorem aN (ρ:Env) (a f i:Nat):ρ.addr a f i=⟨(ρ.pos a).1,(ρ.pos a).2+(f+i),none⟩:=rfl
theorem pn {Γ:Ctx} {ρ:Env} {M:Mm} {w:World} (hM:zF ρ M w) {t a f:Nat} {i:Option Nat} {ps:List Prop} {z:SV}
  (h:aK4 M a f i (Γ.ty t)=some (ps,z)) (hp:All ps):
  ∃x,Rel ρ z x/\(loadVar t (ρ.addr a f (i.getD 0))).run Γ.P w= .ok x w:=by
 unfold aK4 at h
 split at h
 ·cases h
 rename_i hk
 split at h
 ·rename_i own sp ls he
  obtain⟨cs,h1,h2,h3,_⟩:=hM.sat a _ he
  have:=iK h1 h hp
  obtain⟨x,hx,hr⟩:=ju (Γ.ok hk) this h3
  exact⟨x,hx,by rw[aN];exact hr⟩
 cases h
theorem gb (w:World) (k:IntKind) (n:Int):(asIntOf (.int k n)).run P w= .ok (k,n) w:=rfl
theorem aH2 (ha:ρ.dom a):
  Rel ρ (aRG a f i es n) (.pointer (some (ρ.addr a f (n*es+i.getD 0)))):=by
 unfold aRG
 split <;>(refine⟨ha,?_⟩;simp)
theorem zQ (q k:Nat):fL q k=q+k:=by
 unfold fL;split <;>omega
theorem ve (ha:ρ.dom a):
  Rel ρ (aMA a f i es n) (.pointer (some (ρ.addr a f (n*es+i)))):=by
 unfold aMA
 split <;>(refine⟨ha,?_⟩;simp only[getD_some,zQ];congr 3;omega)
theorem oM (ρ:Env) (a f i n:Nat):(ρ.addr a f i).add n=ρ.addr a f (n+i):=by
 rw[aN,fY,aN]
 congr 1;omega
theorem iU {Γ:Ctx} {ρ:Env} (w:World) {rw:Bool} {t:Nat} {x:SV} {vx:Value} (hx:zRT ρ x vx) {ix:List Prop×Ix} {k:IntKind} {ps:List Prop} {z:SV}
  (h:mw Γ.ty rw t x ix=some (ps,z)) (hp:All ps):
  All ix.1/\∃y,zRT ρ z y/\(Instr.indexAt t vx (.int k (ix.2.val:Int))).run Γ.P w= .ok y w:=by
 unfold mw at h
 split at h
 ·rename_i len e hk
  have ot:=Γ.ok (t:=t) (by rw[hk];simp)
  split at h
  ·rename_i a f i
   obtain⟨ha,rfl⟩:=hx
   have key:∀n:Nat,n<len->(Γ.ty e).k≠ .bad->(Instr.indexAt t (.pointer (some (ρ.addr a f (i.getD 0)))) (.int k (n:Int))).run Γ.P w= .ok (.pointer (some (ρ.addr a f (n*(Γ.ty e).size+i.getD 0)))) w:=by
    intro n hn he
    have h0:(0:Int)<=(n:Int)/\(n:Int)<(len:Int):=⟨by omega,by omega⟩
    simp only[Instr.indexAt,run_bind,gb,andThen_ok,zru (dk ot hk),Instr.sureAddr,run_pure,h0,and_self,if_true,aT (Γ.ok he),zIn,oM]
   split at h
   ·rename_i n hn
    obtain⟨hb,h⟩:=zn h
    have hlt:=ay hb
    split at h
    ·cases h
    rename_i he
    obtain⟨rfl,rfl⟩:=sB h
    refine⟨hp,_,zR ⟨ha,rfl⟩,?_⟩
    rw[hn]
    simp only[Ix.val]
    rw[key n hlt he]
    congr 3
    simp only[aN]
    congr 1;omega
   rename_i n hn
   split at h
   ·cases h
   ·rename_i fs he
    split at h
    ·rename_i v hv
     obtain⟨rfl,rfl⟩:=sB h
     have hlt:=hp.head
     have hk:=key n hlt (by rw[he];simp)
     rw[hn]
     unfold aU9 at hv
     split at hv
     ·split at hv
      ·simp only[zoI]at hv;subst hv
       refine⟨hp.tail,_,zR ⟨ha,rfl⟩,?_⟩
       rw[show n*(Γ.ty e).size+Option.getD none 0=n*(Γ.ty e).size from add_zero _]at hk
       exact hk
      cases hv
     unfold aU8 at hv
     split at hv
     ·simp only[zoI]at hv;subst hv
      refine⟨hp.tail,_,zR ⟨ha,rfl⟩,?_⟩
      rw[Nat.zero_mul,zero_add]at hk
      exact hk
     ·simp only[zoI]at hv;subst hv
      refine⟨hp.tail,_,zR ⟨ha,rfl⟩,?_⟩
      rw[Nat.one_mul]at hk
      simp only[Ix.val]
      rw[hk]
      congr 3
      simp only[aN]
      congr 1;omega
     cases hv
    cases h
   rename_i he _
   obtain⟨rfl,rfl⟩:=sB h
   refine⟨hp.tail,_,zR (aH2 ha),?_⟩
   have:=hp.head
   rw[hn]
   exact key n this he
  cases h
 ·rename_i e hk
  have ot:=Γ.ok (t:=t) (by rw[hk];simp)
  have key:∀(a f i n c m:Nat) (x:Option Addr),(c≠0->x=some (ρ.addr a f i))->n<=c->m<n->(Γ.ty e).k≠ .bad->
    (Instr.indexAt t (.slice x n c) (.int k (m:Int))).run Γ.P w= .ok (.pointer (some (ρ.addr a f (m*(Γ.ty e).size+i)))) w:=by
   intro a f i n c m x hx hnc hm he
   have h0:(0:Int)<=(m:Int)/\(m:Int)<(n:Int):=⟨by omega,by omega⟩
   rw[hx (by omega)]
   simp only[Instr.indexAt,run_bind,gb,andThen_ok,zru (zus ot hk),run_pure,h0,and_self,if_true,aT (Γ.ok he),zIn,oM]
  split at h
  ·cases h
  rename_i he
  split at h
  ·rename_i a f i n c
   obtain⟨ha,hnc,x,rfl,hx⟩:=hx
   rcases zs h with⟨_,h⟩|⟨_,h⟩<;>simp only[zoI,zpI]at h<;>obtain⟨rfl,rfl⟩:=h
   ·have hi:=hp.tail.head
    subst hi
    exact⟨hp.tail.tail,_,zR (⟨ha,rfl⟩:Rel ρ (.ep a f ix.2.val (Γ.ty e).size) _),key a f 0 n c _ x hx hnc hp.head he⟩
   exact⟨hp.tail,_,zR (ve ha),key a f _ n c _ x hx hnc hp.head he⟩
  ·rename_i a f i n
   obtain⟨ha,c,x,hnc,rfl,hx⟩:=hx
   rcases zs h with⟨_,h⟩|⟨_,h⟩<;>simp only[zoI,zpI]at h<;>obtain⟨rfl,rfl⟩:=h
   ·have hi:=hp.tail.head
    subst hi
    exact⟨hp.tail.tail,_,zR (⟨ha,rfl⟩:Rel ρ (.ep a f ix.2.val (Γ.ty e).size) _),key a f 0 n c _ x hx hnc hp.head he⟩
   exact⟨hp.tail,_,zR (ve ha),key a f _ n c _ x hx hnc hp.head he⟩
  ·rename_i q n s ls
   obtain⟨b,o,c,x,hi,hnc,rfl,hx⟩:=hx
   obtain⟨hs,h⟩:=zn h
   have hs:=zq hs
   obtain⟨rfl,rfl⟩:=sB h
   have hm:=hp.head
   have hx:=hx (by omega)
   subst hx
   refine⟨hp.tail,.pointer (some ⟨b,o+(0+fL q ix.2.val*s),none⟩),zR ⟨b,o,rfl,hi⟩,?_⟩
   have h0:(0:Int)<=(ix.2.val:Int)/\(ix.2.val:Int)<(n:Int):=⟨by omega,by omega⟩
   simp only[Instr.indexAt,run_bind,gb,andThen_ok,zru (zus ot hk),run_pure,h0,and_self,if_true,aT (Γ.ok he),zIn,fY]
   rw[zQ,hs,add_mul]
   congr 4;omega
  cases h
 cases h
theorem ny {Γ:Ctx} {ρ:Env} (w:World) {t:Nat} {x:SV} {vx:Value} (hx:zRT ρ x vx) {f:Nat} {ps:List Prop} {z:SV}
  (h:nB Γ.ty t x f=some (ps,z)):∃y,zRT ρ z y/\(Instr.fieldAt t vx f).run Γ.P w= .ok y w:=by
 unfold nB at h
 split at h
 ·rename_i fs hk
  have ot:=Γ.ok (t:=t) (by rw[hk];simp)
  obtain⟨l,hl,hfs⟩:=mJ ot hk
  have key:∀{off ft:Nat} (b o:Nat),fs[f]? =some (off,ft)->(Γ.ty ft).k≠ .bad->(Γ.ty ft).size≠0->
    (Instr.fieldAt t (.pointer (some ⟨b,o,none⟩)) f).run Γ.P w= .ok (.pointer (some ⟨b,o+off,none⟩)) w:=by
   intro off ft b o hf hb hsz
   have hq:(py l)[f]? =some (off,ft):=by rw[hfs];exact hf
   have oft:=Γ.ok (t:=ft) hb
   simp only[py,List.getElem?_map]at hq
   obtain⟨fd,hfd,e⟩:=Option.map_eq_some_iff.1 hq
   simp only[zpI]at e
   have hfd':l[f]? =some fd:=by rw[<-Array.getElem?_toList];exact hfd
   simp only[Instr.fieldAt,run_bind,zru hl,andThen_ok,hfd',Instr.sureAddr,run_pure,fieldPlace]
   rw[e.2,aT oft]
   simp only[andThen_ok]
   rw[if_neg (λhz=>hsz hz),e.1]
   simp only[run_pure,andThen_ok,fY]
  split at h
  ·rename_i a f0 i off ft hf
   obtain⟨ha,rfl⟩:=hx
   split at h
   ·cases h
   rename_i hb
   split at h
   ·cases h
   rename_i hsz
   obtain⟨rfl,rfl⟩:=sB h
   refine⟨_,zR ⟨ha,rfl⟩,?_⟩
   rw[aN,key _ _ hf hb hsz,aN]
   congr 4;omega
  ·rename_i a f0 q s off ft hf
   obtain⟨ha,rfl⟩:=hx
   split at h
   ·cases h
   rename_i hb
   split at h
   ·cases h
   rename_i hsz
   obtain⟨rfl,rfl⟩:=sB h
   refine⟨_,zR ⟨ha,rfl⟩,?_⟩
   rw[aN,key _ _ hf hb hsz,aN]
   congr 4;omega
  ·rename_i f0 q s ls off ft hf
   obtain⟨b,o,rfl,hi⟩:=hx
   split at h
   ·cases h
   rename_i hb
   split at h
   ·cases h
   rename_i hsz
   obtain⟨rfl,rfl⟩:=sB h
   refine⟨_,zR ⟨b,o,rfl,hi⟩,?_⟩
   rw[key _ _ hf hb hsz]
   congr 4;omega
  cases h
 cases h
theorem rJ (hc:zC ρ ls cs) (h:aV0 k ls=some z):
  if bZ k then Rel ρ z (.agg cs.toArray)else∃x,cs=[x]/\Rel ρ z x:=by
 unfold aV0 at h
 split at h
 ·simp only[zoI]at h;subst h
  simp only[bZ,if_true];exact⟨cs,hc,rfl⟩
 ·simp only[bZ,if_true]
  split at h
  ·rename_i s v
   rcases zs h with⟨hb,h⟩|⟨_,h⟩
   ·simp only[zoI]at h;subst h
    obtain⟨c1,c2,rfl,_,h2,h3⟩:=hc
    simp only[zC]at h3
    subst h3
    rw[append_nil]
    cases v<;>simp only[aq,false_eq_true]at hb<;>(simp only[zD]at h2;simp only[Rel];rw[h2])
   simp only[zoI]at h;subst h
   exact⟨cs,hc,rfl⟩
  simp only[zoI]at h;subst h
  exact⟨cs,hc,rfl⟩
 rename_i hk1 hk2
 have hk:bZ k=false:=by cases k<;>first|rfl|exact absurd rfl (hk1 _)|exact absurd rfl (hk2 _ _)
 simp only[hk,false_eq_true,if_false]
 split at h
 ·rename_i s v
  rcases zs h with⟨_,h⟩|⟨hb,h⟩
  ·cases h
  simp only[zoI]at h;subst h
  obtain⟨c1,c2,rfl,_,h2,h3⟩:=hc
  simp only[zC]at h3
  subst h3
  simp only[Bool.or_eq_false_iff]at hb
  obtain⟨x,hx,rfl⟩:=(bo hb.1 hb.2).1 h2
  exact⟨x,rfl,iS hx⟩
 cases h
theorem po (hc:zC ρ ls cs)
  (h:aK5 ls f q s k n=some (ps,z)) (hp:All ps):ag ρ k n z cs (f+q*s):=by
 unfold aK5 at h
 split at h
 ·rename_i t v
  obtain⟨c1,c2,rfl,h1,h2,h3⟩:=hc
  have e2:c2=[]:=h3
  subst e2
  rw[append_nil]
  split at h
  ·rename_i m es F
   have hb:=(zn h).1
   replace h:=(zn h).2
   have hes:=zq hb
   clear hb
   subst hes
   obtain⟨r1,r2⟩:=h2
   split at h
   ·rename_i r hr
    split at h
    ·rename_i l hl
     split at h
     ·rename_i z' hz
      obtain⟨rfl,rfl⟩:=sB h
      have hq:=hp.head
      have hrow:=di ((r2 q hq).le (Env.bare_le ρ))
      obtain⟨d1,d2⟩:=dU hrow hr
      obtain⟨t1,t2⟩:=dK d1 hl
      have hv:=rJ t1 hz
      have hlen:((c1.drop (q*es)).take es).length=es:=by
       rw[zlT,zlD,r1]
       have:(q+1)*es<=m*es:=Nat.mul_le_mul_right _ hq
       rw[add_mul]at this
       omega
      rw[zlD,hlen]at t2
      rw[hlen]at d2
      have hbig:(q+1)*es<=m*es:=Nat.mul_le_mul_right _ hq
      rw[add_mul]at hbig
      have hfn:(List.take n (List.drop f (List.take es (List.drop (q*es) c1))))=(c1.drop (f+q*es)).take n:=by
       rw[List.drop_take,List.drop_drop,List.take_take,Nat.min_eq_left (by omega),add_comm]
      rw[hfn]at hv
      unfold ag
      split
      ·rename_i hk
       rw[if_pos hk]at hv
       exact⟨by omega,hv⟩
      rename_i hk
      rw[if_neg hk]at hv
      obtain⟨x,hx,hr'⟩:=hv
      refine⟨x,?_,hr'⟩
      have h0:((c1.drop (f+q*es)).take n)[0]? =some x:=by rw[hx];rfl
      rw[getElem?_take]at h0
      split at h0
      ·rw[List.getElem?_drop,add_zero]at h0;exact h0
      cases h0
     cases h
    cases h
   cases h
  rcases zs h with⟨hv,h⟩|⟨_,h⟩
  ·split at h
   ·split at h
    ·cases h
    ·have:=gz h2 h1 h hp
     simp only[ag,bZ,if_true]
     rw[h1]
     simpa using this
    rename_i hk1 hk2
    have hk:bZ k=false:=by cases k<;>first|rfl|exact absurd rfl (hk1 _)|exact absurd rfl (hk2 _ _)
    split at h
    ·obtain⟨x,hx,hr⟩:=fy h2 h1 h hp
     simp only[ag,hk,false_eq_true,if_false]
     exact⟨x,by simpa using hx,hr⟩
    cases h
   cases h
  cases h
 cases h
theorem xh {Γ:Ctx} {ρ:Env} {M:Mm} {w:World} (hM:zF ρ M w) {t a f q s:Nat} {ps:List Prop} {z:SV}
  (h:aQU M a f q s (Γ.ty t)=some (ps,z)) (hp:All ps):
  ∃x,Rel ρ z x/\(loadVar t (ρ.addr a f (q*s))).run Γ.P w= .ok x w:=by
 unfold aQU at h
 split at h
 ·cases h
 rename_i hk
 split at h
 ·rename_i own sp ls he
  obtain⟨cs,h1,h2,h3,_⟩:=hM.sat a _ he
  have:=po h1 h hp
  obtain⟨x,hx,hr⟩:=ju (Γ.ok hk) this h3
  exact⟨x,hx,by rw[aN];exact hr⟩
 cases h
theorem xf {Γ:Ctx} {ρ:Env} {M:Mm} {w:World} (hM:zF ρ M w) {t f q s:Nat} {ls:List (Nat×SV)} {b o:Nat} (hi:ρ.immO b o ls) {ps:List Prop} {z:SV}
  (h:aQT ls f q s (Γ.ty t)=some (ps,z)) (hp:All ps):
  ∃x,Rel ρ z x/\(loadVar t ⟨b,o+(f+q*s),none⟩).run Γ.P w= .ok x w:=by
 unfold aQT at h
 split at h
 ·cases h
 rename_i hk
 obtain⟨_,cs,h1,h3⟩:=hM.immO hi
 have key:ag ρ (Γ.ty t).k (Γ.ty t).size z cs (f+q*s):=by
  split at h
  ·rename_i r hr
   simp only[zoI]at h;subst h
   exact po (h1.le (Env.bare_le ρ)) hr hp
  split at h
  ·have:=iK (h1.le (Env.bare_le ρ)) h hp
   simpa using this
  cases h
 exact ju (Γ.ok hk) key h3
theorem aKA {P:Program} {w:World} {t:Nat} {y:Ty} (hy:wL P t y) {cs:List Value} {o:Nat} (hlen:o+y.size<=cs.length):
  (bZ y.k=true->(part t cs.toArray o).run P w= .ok (.agg ((cs.drop o).take y.size).toArray) w)/\
  (bZ y.k=false->∀x,(cs.drop o).take y.size=[x]->(part t cs.toArray o).run P w= .ok x w):=by
 constructor
 ·intro hk
  simp only[part,run_bind,ki hy,andThen_ok,hk,if_true,aT hy,run_pure]
  congr 2
  apply ext'
  simp[List.drop_take]
 intro hk x hx
 simp only[part,run_bind,ki hy,andThen_ok,hk,false_eq_true,if_false]
 have:cs[o]? =some x:=by
  have h1:((cs.drop o).take y.size)[0]? =some x:=by rw[hx];rfl
  rw[getElem?_take]at h1
  split at h1
  ·rw[List.getElem?_drop]at h1;simpa using h1
  cases h1
 have h2:cs.toArray[o]? =some x:=by simpa using this
 rw[h2]
 rfl
theorem vV {Γ:Ctx} {ρ:Env} (w:World) {t:Nat} {x:SV} {vx:Value} (hx:zRT ρ x vx) {f:Nat} {ps:List Prop} {z:SV}
  (h:aHN Γ.ty t x f=some (ps,z)):∃y,zRT ρ z y/\(Instr.field t vx f).run Γ.P w= .ok y w:=by
 unfold aHN at h
 split at h
 ·rename_i fs hk
  have ot:=Γ.ok (t:=t) (by rw[hk];simp)
  obtain⟨l,hl,hfs⟩:=mJ ot hk
  split at h
  ·rename_i ls off ft hf
   obtain⟨cs,hcs,rfl⟩:=hx
   split at h
   ·cases h
   rename_i hb
   have oft:=Γ.ok (t:=ft) hb
   split at h
   ·rename_i r hr
    split at h
    ·rename_i l' hl'
     obtain⟨v,hv,e⟩:=mZ h
     simp only[zpI]at e;obtain⟨rfl,rfl⟩:=e
     obtain⟨d1,d2⟩:=dU hcs hr
     obtain⟨t1,t2⟩:=dK d1 hl'
     have hv':=rJ t1 hv
     have hq:(py l)[f]? =some (off,ft):=by rw[hfs];exact hf
     simp only[py,List.getElem?_map]at hq
     obtain⟨fd,hfd,e⟩:=Option.map_eq_some_iff.1 hq
     simp only[zpI]at e
     have hfd':l[f]? =some fd:=by rw[<-Array.getElem?_toList];exact hfd
     have hlen:off+(Γ.ty ft).size<=cs.length:=by rw[zlD]at t2;omega
     have hpart:=aKA (w:=w) oft hlen
     have hrun:∀y,(part ft cs.toArray off).run Γ.P w= .ok y w->(Instr.field t (.agg cs.toArray) f).run Γ.P w= .ok y w:=by
      intro y hy
      simp only[Instr.field,run_bind,zru hl,andThen_ok,hfd',asAgg,run_pure]
      rw[e.1,e.2];exact hy
     cases hagg:bZ (Γ.ty ft).k with
     |true=>
      rw[hagg]at hv'
      exact⟨_,zR hv',hrun _ (hpart.1 hagg)⟩
     |false=>
      rw[hagg]at hv'
      obtain⟨y,hy,hr'⟩:=hv'
      exact⟨y,zR hr',hrun _ (hpart.2 hagg y hy)⟩
    cases h
   cases h
  cases h
 cases h
theorem ni {Γ:Ctx} {ρ:Env} (w:World) {t:Nat} {x:SV} {vx:Value} (hx:zRT ρ x vx) {ix:List Prop×Ix} {k:IntKind} {ps:List Prop} {z:SV}
  (h:aG5 Γ.ty t x ix=some (ps,z)) (hp:All ps):
  All ix.1/\∃y,zRT ρ z y/\(Instr.index t vx (.int k (ix.2.val:Int))).run Γ.P w= .ok y w:=by
 unfold aG5 at h
 split at h
 ·rename_i len e hk
  have ot:=Γ.ok (t:=t) (by rw[hk];simp)
  obtain⟨hb,h⟩:=zn h
  simp only[zbA,Bool.not_eq_true']at hb
  have hsz:=zq hb.1.1
  have hne:(Γ.ty e).k≠ .bad:=by
   intro e';rw[e']at hb;simp[i6]at hb
  have oe:=Γ.ok hne
  have key:∀(cs:List Value) (y:Value),ix.2.val<len->cs[ix.2.val]? =some y->(Instr.index t (.agg cs.toArray) (.int k (ix.2.val:Int))).run Γ.P w= .ok y w:=by
   intro cs y hn hy
   have h0:(0:Int)<=(ix.2.val:Int)/\(ix.2.val:Int)<(len:Int):=⟨by omega,by omega⟩
   simp only[Instr.index,run_bind,gb,andThen_ok,zru (dk ot hk),h0,and_self,if_true,aT oe,hsz,zIn,mul_one,part,ki oe,hb.1.2,false_eq_true,if_false]
   have:cs.toArray[ix.2.val]? =some y:=by simpa using hy
   rw[this];rfl
  split at h<;>simp only[zoI,zpI,reduceCtorEq]at h<;>obtain⟨rfl,rfl⟩:=h
  ·rename_i l
   have h1:=hp.head
   have h2:=hp.tail.head
   rw[show vx= .agg (l.map w8).toArray from hx]
   exact⟨hp.tail.tail,_,zR rfl,key (l.map w8) _ h2 (aD w8 l 0 (by omega))⟩
  ·rename_i l
   have h1:=hp.head
   have h2:=hp.tail.head
   rw[show vx= .agg (l.map w16).toArray from hx]
   exact⟨hp.tail.tail,_,zR rfl,key (l.map w16) _ h2 (aD w16 l 0 (by omega))⟩
  ·rename_i l
   have h1:=hp.head
   have h2:=hp.tail.head
   rw[show vx= .agg (l.map w32).toArray from hx]
   exact⟨hp.tail.tail,_,zR rfl,key (l.map w32) _ h2 (aD w32 l 0 (by omega))⟩
  ·rename_i l
   have h1:=hp.head
   have h2:=hp.tail.head
   rw[show vx= .agg (l.map w64).toArray from hx]
   exact⟨hp.tail.tail,_,zR rfl,key (l.map w64) _ h2 (aD w64 l 0 (by omega))⟩
  rename_i l
  have h1:=hp.head
  have h2:=hp.tail.head
  rw[show vx= .agg (l.map wi).toArray from hx]
  exact⟨hp.tail.tail,_,zR rfl,key (l.map wi) _ h2 (aD wi l 0 (by omega))⟩
 ·rename_i hk
  have ot:=Γ.ok (t:=t) (by rw[hk];simp)
  split at h<;>simp only[zoI,zpI,reduceCtorEq]at h
  obtain⟨rfl,rfl⟩:=h
  rename_i l
  have h1:=hp.head
  rw[show vx= .string ⟨l.toArray⟩from hx]
  refine⟨hp.tail,_,zR rfl,?_⟩
  have hlt:ix.2.val<(⟨l.toArray⟩:ByteArray).size:=by simpa [ByteArray.size]using h1
  have h0:(0:Int)<=(ix.2.val:Int):=by omega
  simp only[Instr.index,run_bind,gb,andThen_ok,zru (bS ot hk),h0,if_true,zIn,ByteArray.getElem?_lt' _ _ hlt,run_pure,w8]
  congr 4
  simp[List.getD_eq_getElem?_getD,List.getElem?_eq_getElem h1]
  rfl
 cases h
theorem aCQ (hc:aZ N ρ T M a w)
  (h:aMN T o=some r) (hp:All r.1):(o.map a.eval=none/\r.2=none)\/∃k,∃n:Nat,o.map a.eval=some (.int k (n:Int))/\r.2=some n:=by
 cases o with
 |none=>simp only[aMN,zoI]at h;subst h;exact Or.inl ⟨rfl,rfl⟩
 |some x=>
  simp only[aMN]at h
  split at h
  ·rename_i ps ix hix
   simp only[zoI]at h;subst h
   obtain⟨k,hk⟩:=eH hc hix hp
   exact Or.inr ⟨k,ix.val,by simp[hk],rfl⟩
  cases h
theorem ct (w:World) (k:IntKind) (n y:Nat) (c:BoundsCode) (h:n<=y):(Instr.sliceBound (.int k (n:Int)) y c).run P w= .ok n w:=by
 have h0:(0:Int)<=(n:Int)/\(n:Int)<=(y:Int):=⟨by omega,by omega⟩
 simp only[Instr.sliceBound,run_bind,gb,andThen_ok,h0,and_self,if_true,run_pure,zIn]
theorem zrb (w:World) (sl:Bool) (len cap:Nat) (lo hi mx:Option Value) (l h m:Nat)
  (hm:(mx=none/\m=cap)\/∃k,mx=some (.int k (m:Int))/\m<=cap)
  (hh:(hi=none/\mx=none/\h=len)\/∃k,hi=some (.int k (h:Int))/\h<=m)
  (hl:(lo=none/\l=0)\/∃k,lo=some (.int k (l:Int))/\l<=h):
  (Instr.sliceBounds sl len cap lo hi mx).run P w= .ok (l,h,m) w:=by
 unfold Instr.sliceBounds
 rcases hm with⟨rfl,rfl⟩|⟨k,rfl,hm⟩
 ·rcases hh with⟨rfl,_,rfl⟩|⟨k,rfl,hh⟩
  ·rcases hl with⟨rfl,rfl⟩|⟨k,rfl,hl⟩
   ·rfl
   simp only[run_bind,run_pure,andThen_ok,ct w _ _ _ _ hl]
  rcases hl with⟨rfl,rfl⟩|⟨k,rfl,hl⟩
  ·simp only[run_bind,run_pure,andThen_ok,ct w _ _ _ _ hh]
  simp only[run_bind,run_pure,andThen_ok,ct w _ _ _ _ hh,ct w _ _ _ _ hl]
 rcases hh with⟨_,h2,_⟩|⟨k,rfl,hh⟩
 ·cases h2
 rcases hl with⟨rfl,rfl⟩|⟨k,rfl,hl⟩
 ·simp only[run_bind,run_pure,andThen_ok,ct w _ _ _ _ hh,ct w _ _ _ _ hm]
 simp only[run_bind,run_pure,andThen_ok,ct w _ _ _ _ hh,ct w _ _ _ _ hl,ct w _ _ _ _ hm]
theorem vW (s:List UInt8) (a b:Nat):(⟨s.toArray⟩:ByteArray).extract a b=⟨((s.drop a).take (b-a)).toArray⟩:=Lib.extract_eq _ a b
def tg (q l:Nat):Nat:=
 match l with
 |0=>q
 |l=>fL q l
theorem oN (q l:Nat):tg q l=q+l:=by
 unfold tg;split
 ·rfl
 rw[zQ]
theorem qP:∀{ls r:List (Nat×SV)} {f:Nat},dG ls f=some r->∃pre,ls=pre++r/\zL pre=f
 |ls,r,0,h=>by
  simp only[dG,zoI]at h
  exact⟨[],by rw[h];rfl,rfl⟩
 |[],_,f+1,h=>by simp[dG]at h
 |(s,v)::q,r,f+1,h=>by
  simp only[dG]at h
  obtain⟨hb,h⟩:=zn h
  have hle:=aX hb
  obtain⟨pre,rfl,h2⟩:=qP h
  exact⟨(s,v)::pre,rfl,by simp only[zL];omega⟩
theorem oc:∀{ls l0:List (Nat×SV)} {n:Nat},gy ls n=some l0->∃post,ls=l0++post
 |ls,l0,0,h=>by
  simp only[gy,zoI]at h
  exact⟨ls,by rw[<-h];rfl⟩
 |[],_,n+1,h=>by simp[gy]at h
 |(0,v)::q,_,n+1,h=>by simp[gy]at h
 |(s+1,v)::q,l0,n+1,h=>by
  simp only[gy]at h
  replace h:=(zn h).2
  obtain⟨l1,h1,rfl⟩:=Option.map_eq_some_iff.1 h
  obtain⟨post,h2⟩:=oc h1
  exact⟨post,by rw[h2];rfl⟩
theorem z7 (h:zRT ρ (.isl f n 1 ls) y):zRT ρ (aV6 f n ls) y:=by
 unfold aV6
 split
 ·rename_i r hr
  split
  ·rename_i l0 hl
   split
   ·rename_i p
    obtain⟨pre,rfl,hf⟩:=qP hr
    obtain⟨post,rfl⟩:=oc hl
    obtain⟨b,o,c,x,hi,h1,h2,h3⟩:=h
    refine⟨b,o+f,c,x,?_,h1,h2,λhc=>?_⟩
    ·have:=hi.part (pre:=pre) (l0:=[p]) (post:=post)
     rw[hf]at this
     exact this
    rw[h3 hc,mul_one,Nat.zero_mul,add_zero]
   exact h
  exact h
 exact h
theorem uI {Γ:Ctx} {ρ:Env} (w:World) {t:Nat} {x:SV} {vx:Value} (hx:zRT ρ x vx) {lo hi mx:List Prop×Option Nat} {vlo vhi vmx:Option Value} {ps:List Prop} {z:SV}
  (h:uJ Γ.ty t x lo hi mx=some (ps,z)) (hp:All ps)
  (hlo:(vlo=none/\lo.2=none)\/∃k,∃n:Nat,vlo=some (.int k (n:Int))/\lo.2=some n)
  (hhi:(vhi=none/\hi.2=none)\/∃k,∃n:Nat,vhi=some (.int k (n:Int))/\hi.2=some n)
  (hmx:(vmx=none/\mx.2=none)\/∃k,∃n:Nat,vmx=some (.int k (n:Int))/\mx.2=some n):
  ∃y,zRT ρ z y/\(Instr.sliceAt t vx vlo vhi vmx).run Γ.P w= .ok y w:=by
 unfold uJ at h
 split at h
 ·rename_i n e hk
  have ot:=Γ.ok (t:=t) (by rw[hk];simp)
  have key:∀(a f i l h' m:Nat),ρ.dom a->l<=h'->h'<=m->(Instr.sliceBounds false n n vlo vhi vmx).run Γ.P w= .ok (l,h',m) w->(Γ.ty e).k≠ .bad->
    ∃y,zRT ρ (.sl a f (l*(Γ.ty e).size+i) (h'-l) (m-l)) y/\(Instr.sliceAt t (.pointer (some (ρ.addr a f i))) vlo vhi vmx).run Γ.P w= .ok y w:=by
   intro a f i l h' m ha h1 h2 hb he
   refine⟨.slice (if m=l then some (ρ.addr a f i)else some (ρ.addr a f (l*(Γ.ty e).size+i))) (h'-l) (m-l),zR ⟨ha,by omega,_,rfl,?_⟩,?_⟩
   ·intro hc;rw[if_neg (by omega)]
   simp only[Instr.sliceAt,run_bind,zru (dk ot hk),andThen_ok,Instr.sureAddr,run_pure,hb,aT (Γ.ok he),oM]
   split <;>rfl
  have keyN:∀(f q s l h' m:Nat) (ls:List (Nat×SV)) (b o:Nat),ρ.immO b o ls->(beq q 0&&beq (Γ.ty e).size 1)=true->l<=h'->h'<=m->(Instr.sliceBounds false n n vlo vhi vmx).run Γ.P w= .ok (l,h',m) w->(Γ.ty e).k≠ .bad->
    ∃y,zRT ρ (.isl (f+l) (h'-l) 1 ls) y/\(Instr.sliceAt t (.pointer (some ⟨b,o+(f+q*s),none⟩)) vlo vhi vmx).run Γ.P w= .ok y w:=by
   intro f q s l h' m ls b o hi hb h1 h2 hbd he
   simp only[zbA]at hb
   have e1:=zq hb.1
   have e2:=zq hb.2
   subst e1
   refine⟨.slice (if m=l then some ⟨b,o+(f+0*s),none⟩else some ⟨b,o+(f+l),none⟩) (h'-l) (m-l),zR ⟨b,o,m-l,_,hi,by omega,rfl,?_⟩,?_⟩
   ·intro hc;rw[if_neg (by omega),mul_one]
   simp only[Instr.sliceAt,run_bind,zru (dk ot hk),andThen_ok,Instr.sureAddr,run_pure,hbd,aT (Γ.ok he),e2]
   split
   ·rfl
   have e:(⟨b,o+(f+0*s),none⟩:Addr).add (l*1)=⟨b,o+(f+l),none⟩:=by
    rw[fY]
    congr 1;omega
   first
    |rw[e]
    |(rw[<-e];rfl)
    |simp[e]
  split at h
  ·cases h
  rename_i he
  split at h<;>(try simp only[zoI,zpI,reduceCtorEq]at h)
  rotate_left 4
  ·rename_i f q s ls h1 h2 h3
   obtain⟨b,o,rfl,hi⟩:=hx
   have el:vlo=none:=by rcases hlo with⟨e1,_⟩|⟨_,_,_,e2⟩;exact e1;rw[h1]at e2;cases e2
   have eh:vhi=none:=by rcases hhi with⟨e1,_⟩|⟨_,_,_,e2⟩;exact e1;rw[h2]at e2;cases e2
   have em:vmx=none:=by rcases hmx with⟨e1,_⟩|⟨_,_,_,e2⟩;exact e1;rw[h3]at e2;cases e2
   split at h
   ·rename_i r hr
    unfold aSZ at hr
    split at hr
    ·rename_i t0 m es F
     have hb2:=(zn hr).1
     replace hr:=(zn hr).2
     simp only[zoI]at hr;subst hr
     have hb:=(zn h).1
     replace h:=(zn h).2
     obtain⟨rfl,rfl⟩:=sB h
     simp only[zbA]at hb2
     have e1:=zq hb2.1
     subst e1
     have hi2:=hi.row (q:=q) hp.head hb2.2
     have:=keyN f 0 es 0 n n (F q) b (o+q*es) hi2 (by simp only[Nat.beq_refl,Bool.true_and];exact hb) (by omega) (by omega) (zrb w _ _ _ _ _ _ _ _ _ (Or.inl ⟨em,rfl⟩) (Or.inl ⟨eh,em,rfl⟩) (Or.inl ⟨el,rfl⟩)) he
     obtain⟨y,k1,k2⟩:=this
     rw[add_zero,Nat.sub_zero]at k1
     rw[show o+q*es+(f+0*es)=o+(f+q*es) by omega]at k2
     exact⟨y,z7 k1,k2⟩
    cases hr
   have hb:=(zn h).1
   replace h:=(zn h).2
   obtain⟨rfl,rfl⟩:=sB h
   have:=keyN f q s 0 n n ls b o hi hb (by omega) (by omega) (zrb w _ _ _ _ _ _ _ _ _ (Or.inl ⟨em,rfl⟩) (Or.inl ⟨eh,em,rfl⟩) (Or.inl ⟨el,rfl⟩)) he
   obtain⟨y,k1,k2⟩:=this
   rw[add_zero,Nat.sub_zero]at k1
   exact⟨y,z7 k1,k2⟩
  ·rename_i f q s ls h' h1 h2 h3
   have hb:=(zn h).1
   replace h:=(zn h).2
   obtain⟨rfl,rfl⟩:=sB h
   obtain⟨b,o,rfl,hi⟩:=hx
   have el:vlo=none:=by rcases hlo with⟨e1,_⟩|⟨_,_,_,e2⟩;exact e1;rw[h1]at e2;cases e2
   have eh:∃k,vhi=some (.int k (h':Int)):=by rcases hhi with⟨_,e2⟩|⟨k,n,e1,e2⟩;rw[h2]at e2;cases e2;rw[h2]at e2;cases e2;exact⟨k,e1⟩
   have em:vmx=none:=by rcases hmx with⟨e1,_⟩|⟨_,_,_,e2⟩;exact e1;rw[h3]at e2;cases e2
   obtain⟨kh,eh⟩:=eh
   have b1:=hp.head
   have:=keyN f q s 0 h' n ls b o hi hb (by omega) (by omega) (zrb w _ _ _ _ _ _ _ _ _ (Or.inl ⟨em,rfl⟩) (Or.inr ⟨kh,eh,by omega⟩) (Or.inl ⟨el,rfl⟩)) he
   simpa using this
  ·rename_i f q s ls l h1 h2 h3
   have hb:=(zn h).1
   replace h:=(zn h).2
   obtain⟨rfl,rfl⟩:=sB h
   obtain⟨b,o,rfl,hi⟩:=hx
   have el:∃k,vlo=some (.int k (l:Int)):=by rcases hlo with⟨_,e2⟩|⟨k,n,e1,e2⟩;rw[h1]at e2;cases e2;rw[h1]at e2;cases e2;exact⟨k,e1⟩
   have eh:vhi=none:=by rcases hhi with⟨e1,_⟩|⟨_,_,_,e2⟩;exact e1;rw[h2]at e2;cases e2
   have em:vmx=none:=by rcases hmx with⟨e1,_⟩|⟨_,_,_,e2⟩;exact e1;rw[h3]at e2;cases e2
   obtain⟨kl,el⟩:=el
   have b1:=hp.head
   rw[zQ]
   exact keyN f q s l n n ls b o hi hb (by omega) (by omega) (zrb w _ _ _ _ _ _ _ _ _ (Or.inl ⟨em,rfl⟩) (Or.inl ⟨eh,em,rfl⟩) (Or.inr ⟨kl,el,by omega⟩)) he
  ·rename_i f q s ls l h' h1 h2 h3
   have hb:=(zn h).1
   replace h:=(zn h).2
   obtain⟨rfl,rfl⟩:=sB h
   obtain⟨b,o,rfl,hi⟩:=hx
   have el:∃k,vlo=some (.int k (l:Int)):=by rcases hlo with⟨_,e2⟩|⟨k,n,e1,e2⟩;rw[h1]at e2;cases e2;rw[h1]at e2;cases e2;exact⟨k,e1⟩
   have eh:∃k,vhi=some (.int k (h':Int)):=by rcases hhi with⟨_,e2⟩|⟨k,n,e1,e2⟩;rw[h2]at e2;cases e2;rw[h2]at e2;cases e2;exact⟨k,e1⟩
   have em:vmx=none:=by rcases hmx with⟨e1,_⟩|⟨_,_,_,e2⟩;exact e1;rw[h3]at e2;cases e2
   obtain⟨kl,el⟩:=el
   obtain⟨kh,eh⟩:=eh
   have b1:=hp.head
   have b2:=hp.tail.head
   rw[zQ]
   exact keyN f q s l h' n ls b o hi hb (by omega) (by omega) (zrb w _ _ _ _ _ _ _ _ _ (Or.inl ⟨em,rfl⟩) (Or.inr ⟨kh,eh,by omega⟩) (Or.inr ⟨kl,el,by omega⟩)) he
  ·rename_i a f i h' m h1 h2 h3
   obtain⟨rfl,rfl⟩:=h
   obtain⟨ha,rfl⟩:=hx
   have el:vlo=none:=by rcases hlo with⟨e1,_⟩|⟨_,_,_,e2⟩;exact e1;rw[h1]at e2;cases e2
   have eh:∃k,vhi=some (.int k (h':Int)):=by rcases hhi with⟨_,e2⟩|⟨k,n,e1,e2⟩;rw[h2]at e2;cases e2;rw[h2]at e2;cases e2;exact⟨k,e1⟩
   have em:∃k,vmx=some (.int k (m:Int)):=by rcases hmx with⟨_,e2⟩|⟨k,n,e1,e2⟩;rw[h3]at e2;cases e2;rw[h3]at e2;cases e2;exact⟨k,e1⟩
   obtain⟨kh,eh⟩:=eh
   obtain⟨km,em⟩:=em
   have b1:=hp.head
   have b2:=hp.tail.head
   have:=key a f (i.getD 0) 0 h' m ha (by omega) (by omega) (zrb w _ _ _ _ _ _ _ _ _ (Or.inr ⟨km,em,by omega⟩) (Or.inr ⟨kh,eh,by omega⟩) (Or.inl ⟨el,rfl⟩)) he
   simpa using this
  ·rename_i a f i h1 h2 h3
   obtain⟨rfl,rfl⟩:=h
   obtain⟨ha,rfl⟩:=hx
   have el:vlo=none:=by rcases hlo with⟨e1,_⟩|⟨_,_,_,e2⟩;exact e1;rw[h1]at e2;cases e2
   have eh:vhi=none:=by rcases hhi with⟨e1,_⟩|⟨_,_,_,e2⟩;exact e1;rw[h2]at e2;cases e2
   have em:vmx=none:=by rcases hmx with⟨e1,_⟩|⟨_,_,_,e2⟩;exact e1;rw[h3]at e2;cases e2
   have:=key a f (i.getD 0) 0 n n ha (by omega) (by omega) (zrb w _ _ _ _ _ _ _ _ _ (Or.inl ⟨em,rfl⟩) (Or.inl ⟨eh,em,rfl⟩) (Or.inl ⟨el,rfl⟩)) he
   simpa using this
  ·rename_i a f i h' h1 h2 h3
   obtain⟨rfl,rfl⟩:=h
   obtain⟨ha,rfl⟩:=hx
   have el:vlo=none:=by rcases hlo with⟨e1,_⟩|⟨_,_,_,e2⟩;exact e1;rw[h1]at e2;cases e2
   have eh:∃k,vhi=some (.int k (h':Int)):=by rcases hhi with⟨_,e2⟩|⟨k,n,e1,e2⟩;rw[h2]at e2;cases e2;rw[h2]at e2;cases e2;exact⟨k,e1⟩
   have em:vmx=none:=by rcases hmx with⟨e1,_⟩|⟨_,_,_,e2⟩;exact e1;rw[h3]at e2;cases e2
   obtain⟨kh,eh⟩:=eh
   have b1:=hp.head
   have:=key a f (i.getD 0) 0 h' n ha (by omega) (by omega) (zrb w _ _ _ _ _ _ _ _ _ (Or.inl ⟨em,rfl⟩) (Or.inr ⟨kh,eh,by omega⟩) (Or.inl ⟨el,rfl⟩)) he
   simpa using this
  ·rename_i a f i l h1 h2 h3
   obtain⟨rfl,rfl⟩:=h
   obtain⟨ha,rfl⟩:=hx
   have el:∃k,vlo=some (.int k (l:Int)):=by rcases hlo with⟨_,e2⟩|⟨k,n,e1,e2⟩;rw[h1]at e2;cases e2;rw[h1]at e2;cases e2;exact⟨k,e1⟩
   have eh:vhi=none:=by rcases hhi with⟨e1,_⟩|⟨_,_,_,e2⟩;exact e1;rw[h2]at e2;cases e2
   have em:vmx=none:=by rcases hmx with⟨e1,_⟩|⟨_,_,_,e2⟩;exact e1;rw[h3]at e2;cases e2
   obtain⟨kl,el⟩:=el
   have b1:=hp.head
   exact key a f (i.getD 0) l n n ha (by omega) (by omega) (zrb w _ _ _ _ _ _ _ _ _ (Or.inl ⟨em,rfl⟩) (Or.inl ⟨eh,em,rfl⟩) (Or.inr ⟨kl,el,by omega⟩)) he
  rename_i a f i l h' h1 h2 h3
  obtain⟨rfl,rfl⟩:=h
  obtain⟨ha,rfl⟩:=hx
  have el:∃k,vlo=some (.int k (l:Int)):=by rcases hlo with⟨_,e2⟩|⟨k,n,e1,e2⟩;rw[h1]at e2;cases e2;rw[h1]at e2;cases e2;exact⟨k,e1⟩
  have eh:∃k,vhi=some (.int k (h':Int)):=by rcases hhi with⟨_,e2⟩|⟨k,n,e1,e2⟩;rw[h2]at e2;cases e2;rw[h2]at e2;cases e2;exact⟨k,e1⟩
  have em:vmx=none:=by rcases hmx with⟨e1,_⟩|⟨_,_,_,e2⟩;exact e1;rw[h3]at e2;cases e2
  obtain⟨kl,el⟩:=el
  obtain⟨kh,eh⟩:=eh
  have b1:=hp.head
  have b2:=hp.tail.head
  exact key a f (i.getD 0) l h' n ha (by omega) (by omega) (zrb w _ _ _ _ _ _ _ _ _ (Or.inl ⟨em,rfl⟩) (Or.inr ⟨kh,eh,by omega⟩) (Or.inr ⟨kl,el,by omega⟩)) he
 ·rename_i e hk
  have ot:=Γ.ok (t:=t) (by rw[hk];simp)
  have key:∀(a f i n c l h' m:Nat) (x:Option Addr),ρ.dom a->(c≠0->x=some (ρ.addr a f i))->l<=h'->h'<=m->m<=c->
    (Instr.sliceBounds true n c vlo vhi vmx).run Γ.P w= .ok (l,h',m) w->(Γ.ty e).k≠ .bad->
    ∃y,zRT ρ (.sl a f (l*(Γ.ty e).size+i) (h'-l) (m-l)) y/\(Instr.sliceAt t (.slice x n c) vlo vhi vmx).run Γ.P w= .ok y w:=by
   intro a f i n c l h' m x ha hx h1 h2 h3 hb he
   refine⟨.slice (if m=l then x else x.map (·.add (l*(Γ.ty e).size))) (h'-l) (m-l),zR ⟨ha,by omega,_,rfl,?_⟩,?_⟩
   ·intro hc
    rw[if_neg (by omega),hx (by omega),map_some,oM]
   simp only[Instr.sliceAt,Instr.slice,run_bind,zru (zus ot hk),andThen_ok,hb,aT (Γ.ok he),run_pure]
  have keyI:∀(q n s c l h' m:Nat) (x:Option Addr) (ls:List (Nat×SV)),∀b o,ρ.immO b o ls->(c≠0->x=some ⟨b,o+q*s,none⟩)->(s=(Γ.ty e).size\/l=0)->l<=h'->h'<=m->m<=c->
    (Instr.sliceBounds true n c vlo vhi vmx).run Γ.P w= .ok (l,h',m) w->(Γ.ty e).k≠ .bad->
    ∃y,zRT ρ (.isl (tg q l) (h'-l) s ls) y/\(Instr.sliceAt t (.slice x n c) vlo vhi vmx).run Γ.P w= .ok y w:=by
   intro q n s c l h' m x ls b o hi hx hs h1 h2 h3 hb he
   refine⟨.slice (if m=l then x else x.map (·.add (l*(Γ.ty e).size))) (h'-l) (m-l),zR ⟨b,o,m-l,_,hi,by omega,rfl,?_⟩,?_⟩
   ·intro hc
    rw[if_neg (by omega)]
    rw[hx (by omega),map_some,fY,oN]
    rcases hs with hs|hs
    ·rw[<-hs,add_mul,Nat.add_assoc]
    subst hs;simp
   simp only[Instr.sliceAt,Instr.slice,run_bind,zru (zus ot hk),andThen_ok,hb,aT (Γ.ok he),run_pure]
  have weak:∀{a f i n c:Nat} {y:Value},zRT ρ (.sl a f i n c) y->zRT ρ (.slx a f i n) y:=by
   intro a f i n c y hy
   obtain⟨ha,hnc,x,rfl,hx⟩:=hy
   exact⟨ha,c,x,hnc,rfl,hx⟩
  split at h
  ·cases h
  rename_i he
  split at h<;>(try simp only[zoI,zpI,reduceCtorEq]at h)
  ·rename_i a f i n c h1 h2 h3
   obtain⟨rfl,rfl⟩:=h
   obtain⟨ha,hnc,x,rfl,hx⟩:=hx
   have elo:vlo=none:=by rcases hlo with⟨e1,_⟩|⟨_,_,_,e2⟩;exact e1;rw[h1]at e2;cases e2
   have ehi:vhi=none:=by rcases hhi with⟨e1,_⟩|⟨_,_,_,e2⟩;exact e1;rw[h2]at e2;cases e2
   have emx:vmx=none:=by rcases hmx with⟨e1,_⟩|⟨_,_,_,e2⟩;exact e1;rw[h3]at e2;cases e2
   have hp':=hp
   simp only[All,mem_cons,not_mem_nil,or_false,forall_eq_or_imp,forall_eq,mem_append,false_implies,implies_true,and_true,cons_append,nil_append]at hp'
   have q:=key a f i n c 0 n c x ha hx (by omega) (by omega) (by omega) (zrb w _ _ _ _ _ _ _ _ _ (Or.inl ⟨emx,rfl⟩) (Or.inl ⟨ehi,emx,rfl⟩) (Or.inl ⟨elo,rfl⟩)) he
   simpa using q
  ·rename_i a f i n c h' h1 h2 h3
   obtain⟨rfl,rfl⟩:=h
   obtain⟨ha,hnc,x,rfl,hx⟩:=hx
   have elo:vlo=none:=by rcases hlo with⟨e1,_⟩|⟨_,_,_,e2⟩;exact e1;rw[h1]at e2;cases e2
   obtain⟨khi,ehi⟩:∃k,vhi=some (.int k (h':Int)):=by rcases hhi with⟨_,e2⟩|⟨k,n,e1,e2⟩;rw[h2]at e2;cases e2;rw[h2]at e2;cases e2;exact⟨k,e1⟩
   have emx:vmx=none:=by rcases hmx with⟨e1,_⟩|⟨_,_,_,e2⟩;exact e1;rw[h3]at e2;cases e2
   have hp':=hp
   simp only[All,mem_cons,not_mem_nil,or_false,forall_eq_or_imp,forall_eq,mem_append,false_implies,implies_true,and_true,cons_append,nil_append]at hp'
   have q:=key a f i n c 0 h' c x ha hx (by omega) (by omega) (by omega) (zrb w _ _ _ _ _ _ _ _ _ (Or.inl ⟨emx,rfl⟩) (Or.inr ⟨khi,ehi,by omega⟩) (Or.inl ⟨elo,rfl⟩)) he
   simpa using q
  ·rename_i a f i n c l h1 h2 h3
   obtain⟨rfl,rfl⟩:=h
   obtain⟨ha,hnc,x,rfl,hx⟩:=hx
   obtain⟨klo,elo⟩:∃k,vlo=some (.int k (l:Int)):=by rcases hlo with⟨_,e2⟩|⟨k,n,e1,e2⟩;rw[h1]at e2;cases e2;rw[h1]at e2;cases e2;exact⟨k,e1⟩
   have ehi:vhi=none:=by rcases hhi with⟨e1,_⟩|⟨_,_,_,e2⟩;exact e1;rw[h2]at e2;cases e2
   have emx:vmx=none:=by rcases hmx with⟨e1,_⟩|⟨_,_,_,e2⟩;exact e1;rw[h3]at e2;cases e2
   have hp':=hp
   simp only[All,mem_cons,not_mem_nil,or_false,forall_eq_or_imp,forall_eq,mem_append,false_implies,implies_true,and_true,cons_append,nil_append]at hp'
   have q:=key a f i n c l n c x ha hx (by omega) (by omega) (by omega) (zrb w _ _ _ _ _ _ _ _ _ (Or.inl ⟨emx,rfl⟩) (Or.inl ⟨ehi,emx,rfl⟩) (Or.inr ⟨klo,elo,by omega⟩)) he
   exact q
  ·rename_i a f i n c l h' h1 h2 h3
   obtain⟨rfl,rfl⟩:=h
   obtain⟨ha,hnc,x,rfl,hx⟩:=hx
   obtain⟨klo,elo⟩:∃k,vlo=some (.int k (l:Int)):=by rcases hlo with⟨_,e2⟩|⟨k,n,e1,e2⟩;rw[h1]at e2;cases e2;rw[h1]at e2;cases e2;exact⟨k,e1⟩
   obtain⟨khi,ehi⟩:∃k,vhi=some (.int k (h':Int)):=by rcases hhi with⟨_,e2⟩|⟨k,n,e1,e2⟩;rw[h2]at e2;cases e2;rw[h2]at e2;cases e2;exact⟨k,e1⟩
   have emx:vmx=none:=by rcases hmx with⟨e1,_⟩|⟨_,_,_,e2⟩;exact e1;rw[h3]at e2;cases e2
   have hp':=hp
   simp only[All,mem_cons,not_mem_nil,or_false,forall_eq_or_imp,forall_eq,mem_append,false_implies,implies_true,and_true,cons_append,nil_append]at hp'
   have q:=key a f i n c l h' c x ha hx (by omega) (by omega) (by omega) (zrb w _ _ _ _ _ _ _ _ _ (Or.inl ⟨emx,rfl⟩) (Or.inr ⟨khi,ehi,by omega⟩) (Or.inr ⟨klo,elo,by omega⟩)) he
   exact q
  ·rename_i a f i n c h' m h1 h2 h3
   obtain⟨rfl,rfl⟩:=h
   obtain⟨ha,hnc,x,rfl,hx⟩:=hx
   have elo:vlo=none:=by rcases hlo with⟨e1,_⟩|⟨_,_,_,e2⟩;exact e1;rw[h1]at e2;cases e2
   obtain⟨khi,ehi⟩:∃k,vhi=some (.int k (h':Int)):=by rcases hhi with⟨_,e2⟩|⟨k,n,e1,e2⟩;rw[h2]at e2;cases e2;rw[h2]at e2;cases e2;exact⟨k,e1⟩
   obtain⟨kmx,emx⟩:∃k,vmx=some (.int k (m:Int)):=by rcases hmx with⟨_,e2⟩|⟨k,n,e1,e2⟩;rw[h3]at e2;cases e2;rw[h3]at e2;cases e2;exact⟨k,e1⟩
   have hp':=hp
   simp only[All,mem_cons,not_mem_nil,or_false,forall_eq_or_imp,forall_eq,mem_append,false_implies,implies_true,and_true,cons_append,nil_append]at hp'
   have q:=key a f i n c 0 h' m x ha hx (by omega) (by omega) (by omega) (zrb w _ _ _ _ _ _ _ _ _ (Or.inr ⟨kmx,emx,by omega⟩) (Or.inr ⟨khi,ehi,by omega⟩) (Or.inl ⟨elo,rfl⟩)) he
   simpa using q
  ·rename_i a f i n c l h' m h1 h2 h3
   obtain⟨rfl,rfl⟩:=h
   obtain⟨ha,hnc,x,rfl,hx⟩:=hx
   obtain⟨klo,elo⟩:∃k,vlo=some (.int k (l:Int)):=by rcases hlo with⟨_,e2⟩|⟨k,n,e1,e2⟩;rw[h1]at e2;cases e2;rw[h1]at e2;cases e2;exact⟨k,e1⟩
   obtain⟨khi,ehi⟩:∃k,vhi=some (.int k (h':Int)):=by rcases hhi with⟨_,e2⟩|⟨k,n,e1,e2⟩;rw[h2]at e2;cases e2;rw[h2]at e2;cases e2;exact⟨k,e1⟩
   obtain⟨kmx,emx⟩:∃k,vmx=some (.int k (m:Int)):=by rcases hmx with⟨_,e2⟩|⟨k,n,e1,e2⟩;rw[h3]at e2;cases e2;rw[h3]at e2;cases e2;exact⟨k,e1⟩
   have hp':=hp
   simp only[All,mem_cons,not_mem_nil,or_false,forall_eq_or_imp,forall_eq,mem_append,false_implies,implies_true,and_true,cons_append,nil_append]at hp'
   have q:=key a f i n c l h' m x ha hx (by omega) (by omega) (by omega) (zrb w _ _ _ _ _ _ _ _ _ (Or.inr ⟨kmx,emx,by omega⟩) (Or.inr ⟨khi,ehi,by omega⟩) (Or.inr ⟨klo,elo,by omega⟩)) he
   exact q
  ·rename_i a f i n h1 h2 h3
   obtain⟨rfl,rfl⟩:=h
   obtain⟨ha,c,x,hnc,rfl,hx⟩:=hx
   have elo:vlo=none:=by rcases hlo with⟨e1,_⟩|⟨_,_,_,e2⟩;exact e1;rw[h1]at e2;cases e2
   have ehi:vhi=none:=by rcases hhi with⟨e1,_⟩|⟨_,_,_,e2⟩;exact e1;rw[h2]at e2;cases e2
   have emx:vmx=none:=by rcases hmx with⟨e1,_⟩|⟨_,_,_,e2⟩;exact e1;rw[h3]at e2;cases e2
   have hp':=hp
   simp only[All,mem_cons,not_mem_nil,or_false,forall_eq_or_imp,forall_eq,mem_append,false_implies,implies_true,and_true,cons_append,nil_append]at hp'
   have q:=key a f i n c 0 n c x ha hx (by omega) (by omega) (by omega) (zrb w _ _ _ _ _ _ _ _ _ (Or.inl ⟨emx,rfl⟩) (Or.inl ⟨ehi,emx,rfl⟩) (Or.inl ⟨elo,rfl⟩)) he
   obtain⟨y,hy,hr⟩:=q
   exact⟨y,weak (by simpa using hy),hr⟩
  ·rename_i a f i n h' h1 h2 h3
   obtain⟨rfl,rfl⟩:=h
   obtain⟨ha,c,x,hnc,rfl,hx⟩:=hx
   have elo:vlo=none:=by rcases hlo with⟨e1,_⟩|⟨_,_,_,e2⟩;exact e1;rw[h1]at e2;cases e2
   obtain⟨khi,ehi⟩:∃k,vhi=some (.int k (h':Int)):=by rcases hhi with⟨_,e2⟩|⟨k,n,e1,e2⟩;rw[h2]at e2;cases e2;rw[h2]at e2;cases e2;exact⟨k,e1⟩
   have emx:vmx=none:=by rcases hmx with⟨e1,_⟩|⟨_,_,_,e2⟩;exact e1;rw[h3]at e2;cases e2
   have hp':=hp
   simp only[All,mem_cons,not_mem_nil,or_false,forall_eq_or_imp,forall_eq,mem_append,false_implies,implies_true,and_true,cons_append,nil_append]at hp'
   have q:=key a f i n c 0 h' c x ha hx (by omega) (by omega) (by omega) (zrb w _ _ _ _ _ _ _ _ _ (Or.inl ⟨emx,rfl⟩) (Or.inr ⟨khi,ehi,by omega⟩) (Or.inl ⟨elo,rfl⟩)) he
   obtain⟨y,hy,hr⟩:=q
   exact⟨y,weak (by simpa using hy),hr⟩
  ·rename_i a f i n l h1 h2 h3
   obtain⟨rfl,rfl⟩:=h
   obtain⟨ha,c,x,hnc,rfl,hx⟩:=hx
   obtain⟨klo,elo⟩:∃k,vlo=some (.int k (l:Int)):=by rcases hlo with⟨_,e2⟩|⟨k,n,e1,e2⟩;rw[h1]at e2;cases e2;rw[h1]at e2;cases e2;exact⟨k,e1⟩
   have ehi:vhi=none:=by rcases hhi with⟨e1,_⟩|⟨_,_,_,e2⟩;exact e1;rw[h2]at e2;cases e2
   have emx:vmx=none:=by rcases hmx with⟨e1,_⟩|⟨_,_,_,e2⟩;exact e1;rw[h3]at e2;cases e2
   have hp':=hp
   simp only[All,mem_cons,not_mem_nil,or_false,forall_eq_or_imp,forall_eq,mem_append,false_implies,implies_true,and_true,cons_append,nil_append]at hp'
   have q:=key a f i n c l n c x ha hx (by omega) (by omega) (by omega) (zrb w _ _ _ _ _ _ _ _ _ (Or.inl ⟨emx,rfl⟩) (Or.inl ⟨ehi,emx,rfl⟩) (Or.inr ⟨klo,elo,by omega⟩)) he
   obtain⟨y,hy,hr⟩:=q
   exact⟨y,weak hy,hr⟩
  ·rename_i a f i n l h' h1 h2 h3
   obtain⟨rfl,rfl⟩:=h
   obtain⟨ha,c,x,hnc,rfl,hx⟩:=hx
   obtain⟨klo,elo⟩:∃k,vlo=some (.int k (l:Int)):=by rcases hlo with⟨_,e2⟩|⟨k,n,e1,e2⟩;rw[h1]at e2;cases e2;rw[h1]at e2;cases e2;exact⟨k,e1⟩
   obtain⟨khi,ehi⟩:∃k,vhi=some (.int k (h':Int)):=by rcases hhi with⟨_,e2⟩|⟨k,n,e1,e2⟩;rw[h2]at e2;cases e2;rw[h2]at e2;cases e2;exact⟨k,e1⟩
   have emx:vmx=none:=by rcases hmx with⟨e1,_⟩|⟨_,_,_,e2⟩;exact e1;rw[h3]at e2;cases e2
   have hp':=hp
   simp only[All,mem_cons,not_mem_nil,or_false,forall_eq_or_imp,forall_eq,mem_append,false_implies,implies_true,and_true,cons_append,nil_append]at hp'
   have q:=key a f i n c l h' c x ha hx (by omega) (by omega) (by omega) (zrb w _ _ _ _ _ _ _ _ _ (Or.inl ⟨emx,rfl⟩) (Or.inr ⟨khi,ehi,by omega⟩) (Or.inr ⟨klo,elo,by omega⟩)) he
   obtain⟨y,hy,hr⟩:=q
   exact⟨y,weak hy,hr⟩
  ·rename_i a f i n h' m h1 h2 h3
   obtain⟨rfl,rfl⟩:=h
   obtain⟨ha,c,x,hnc,rfl,hx⟩:=hx
   have elo:vlo=none:=by rcases hlo with⟨e1,_⟩|⟨_,_,_,e2⟩;exact e1;rw[h1]at e2;cases e2
   obtain⟨khi,ehi⟩:∃k,vhi=some (.int k (h':Int)):=by rcases hhi with⟨_,e2⟩|⟨k,n,e1,e2⟩;rw[h2]at e2;cases e2;rw[h2]at e2;cases e2;exact⟨k,e1⟩
   obtain⟨kmx,emx⟩:∃k,vmx=some (.int k (m:Int)):=by rcases hmx with⟨_,e2⟩|⟨k,n,e1,e2⟩;rw[h3]at e2;cases e2;rw[h3]at e2;cases e2;exact⟨k,e1⟩
   have hp':=hp
   simp only[All,mem_cons,not_mem_nil,or_false,forall_eq_or_imp,forall_eq,mem_append,false_implies,implies_true,and_true,cons_append,nil_append]at hp'
   have q:=key a f i n c 0 h' m x ha hx (by omega) (by omega) (by omega) (zrb w _ _ _ _ _ _ _ _ _ (Or.inr ⟨kmx,emx,by omega⟩) (Or.inr ⟨khi,ehi,by omega⟩) (Or.inl ⟨elo,rfl⟩)) he
   simpa using q
  ·rename_i a f i n l h' m h1 h2 h3
   obtain⟨rfl,rfl⟩:=h
   obtain⟨ha,c,x,hnc,rfl,hx⟩:=hx
   obtain⟨klo,elo⟩:∃k,vlo=some (.int k (l:Int)):=by rcases hlo with⟨_,e2⟩|⟨k,n,e1,e2⟩;rw[h1]at e2;cases e2;rw[h1]at e2;cases e2;exact⟨k,e1⟩
   obtain⟨khi,ehi⟩:∃k,vhi=some (.int k (h':Int)):=by rcases hhi with⟨_,e2⟩|⟨k,n,e1,e2⟩;rw[h2]at e2;cases e2;rw[h2]at e2;cases e2;exact⟨k,e1⟩
   obtain⟨kmx,emx⟩:∃k,vmx=some (.int k (m:Int)):=by rcases hmx with⟨_,e2⟩|⟨k,n,e1,e2⟩;rw[h3]at e2;cases e2;rw[h3]at e2;cases e2;exact⟨k,e1⟩
   have hp':=hp
   simp only[All,mem_cons,not_mem_nil,or_false,forall_eq_or_imp,forall_eq,mem_append,false_implies,implies_true,and_true,cons_append,nil_append]at hp'
   have q:=key a f i n c l h' m x ha hx (by omega) (by omega) (by omega) (zrb w _ _ _ _ _ _ _ _ _ (Or.inr ⟨kmx,emx,by omega⟩) (Or.inr ⟨khi,ehi,by omega⟩) (Or.inr ⟨klo,elo,by omega⟩)) he
   exact q
  ·rename_i q n s ls h1 h2 h3
   obtain⟨rfl,rfl⟩:=h
   obtain⟨b,o,c,x,hi,hnc,rfl,hx⟩:=hx
   have elo:vlo=none:=by rcases hlo with⟨e1,_⟩|⟨_,_,_,e2⟩;exact e1;rw[h1]at e2;cases e2
   have ehi:vhi=none:=by rcases hhi with⟨e1,_⟩|⟨_,_,_,e2⟩;exact e1;rw[h2]at e2;cases e2
   have emx:vmx=none:=by rcases hmx with⟨e1,_⟩|⟨_,_,_,e2⟩;exact e1;rw[h3]at e2;cases e2
   have hp':=hp
   have q0:=keyI q n s c 0 n c x ls b o hi hx (Or.inr rfl) (by omega) (by omega) (by omega) (zrb w _ _ _ _ _ _ _ _ _ (Or.inl ⟨emx,rfl⟩) (Or.inl ⟨ehi,emx,rfl⟩) (Or.inl ⟨elo,rfl⟩)) he
   simpa [tg]using q0
  ·rename_i q n s ls h' h1 h2 h3
   obtain⟨rfl,rfl⟩:=h
   obtain⟨b,o,c,x,hi,hnc,rfl,hx⟩:=hx
   have elo:vlo=none:=by rcases hlo with⟨e1,_⟩|⟨_,_,_,e2⟩;exact e1;rw[h1]at e2;cases e2
   obtain⟨khi,ehi⟩:∃k,vhi=some (.int k (h':Int)):=by rcases hhi with⟨_,e2⟩|⟨k,n,e1,e2⟩;rw[h2]at e2;cases e2;rw[h2]at e2;cases e2;exact⟨k,e1⟩
   have emx:vmx=none:=by rcases hmx with⟨e1,_⟩|⟨_,_,_,e2⟩;exact e1;rw[h3]at e2;cases e2
   have hp':=hp
   simp only[All,mem_cons,not_mem_nil,or_false,forall_eq_or_imp,forall_eq,mem_append,false_implies,implies_true,and_true,cons_append,nil_append]at hp'
   have q0:=keyI q n s c 0 h' c x ls b o hi hx (Or.inr rfl) (by omega) (by omega) (by omega) (zrb w _ _ _ _ _ _ _ _ _ (Or.inl ⟨emx,rfl⟩) (Or.inr ⟨khi,ehi,by omega⟩) (Or.inl ⟨elo,rfl⟩)) he
   simpa [tg]using q0
  ·rename_i q n s ls l h1 h2 h3
   have hs:=zq (zn h).1
   replace h:=(zn h).2
   obtain⟨rfl,rfl⟩:=sB h
   obtain⟨b,o,c,x,hi,hnc,rfl,hx⟩:=hx
   obtain⟨klo,elo⟩:∃k,vlo=some (.int k (l:Int)):=by rcases hlo with⟨_,e2⟩|⟨k,n,e1,e2⟩;rw[h1]at e2;cases e2;rw[h1]at e2;cases e2;exact⟨k,e1⟩
   have ehi:vhi=none:=by rcases hhi with⟨e1,_⟩|⟨_,_,_,e2⟩;exact e1;rw[h2]at e2;cases e2
   have emx:vmx=none:=by rcases hmx with⟨e1,_⟩|⟨_,_,_,e2⟩;exact e1;rw[h3]at e2;cases e2
   have hp':=hp
   simp only[All,mem_cons,not_mem_nil,or_false,forall_eq_or_imp,forall_eq,mem_append,false_implies,implies_true,and_true,cons_append,nil_append]at hp'
   have q0:=keyI q n s c l n c x ls b o hi hx (Or.inl hs) (by omega) (by omega) (by omega) (zrb w _ _ _ _ _ _ _ _ _ (Or.inl ⟨emx,rfl⟩) (Or.inl ⟨ehi,emx,rfl⟩) (Or.inr ⟨klo,elo,by omega⟩)) he
   rw[show tg q l=fL q l by rw[oN,zQ]]at q0
   exact q0
  ·rename_i q n s ls l h' h1 h2 h3
   have hs:=zq (zn h).1
   replace h:=(zn h).2
   obtain⟨rfl,rfl⟩:=sB h
   obtain⟨b,o,c,x,hi,hnc,rfl,hx⟩:=hx
   obtain⟨klo,elo⟩:∃k,vlo=some (.int k (l:Int)):=by rcases hlo with⟨_,e2⟩|⟨k,n,e1,e2⟩;rw[h1]at e2;cases e2;rw[h1]at e2;cases e2;exact⟨k,e1⟩
   obtain⟨khi,ehi⟩:∃k,vhi=some (.int k (h':Int)):=by rcases hhi with⟨_,e2⟩|⟨k,n,e1,e2⟩;rw[h2]at e2;cases e2;rw[h2]at e2;cases e2;exact⟨k,e1⟩
   have emx:vmx=none:=by rcases hmx with⟨e1,_⟩|⟨_,_,_,e2⟩;exact e1;rw[h3]at e2;cases e2
   have hp':=hp
   simp only[All,mem_cons,not_mem_nil,or_false,forall_eq_or_imp,forall_eq,mem_append,false_implies,implies_true,and_true,cons_append,nil_append]at hp'
   have q0:=keyI q n s c l h' c x ls b o hi hx (Or.inl hs) (by omega) (by omega) (by omega) (zrb w _ _ _ _ _ _ _ _ _ (Or.inl ⟨emx,rfl⟩) (Or.inr ⟨khi,ehi,by omega⟩) (Or.inr ⟨klo,elo,by omega⟩)) he
   rw[show tg q l=fL q l by rw[oN,zQ]]at q0
   exact q0
  ·rename_i q n s ls h' m h1 h2 h3
   obtain⟨rfl,rfl⟩:=h
   obtain⟨b,o,c,x,hi,hnc,rfl,hx⟩:=hx
   have elo:vlo=none:=by rcases hlo with⟨e1,_⟩|⟨_,_,_,e2⟩;exact e1;rw[h1]at e2;cases e2
   obtain⟨khi,ehi⟩:∃k,vhi=some (.int k (h':Int)):=by rcases hhi with⟨_,e2⟩|⟨k,n,e1,e2⟩;rw[h2]at e2;cases e2;rw[h2]at e2;cases e2;exact⟨k,e1⟩
   obtain⟨kmx,emx⟩:∃k,vmx=some (.int k (m:Int)):=by rcases hmx with⟨_,e2⟩|⟨k,n,e1,e2⟩;rw[h3]at e2;cases e2;rw[h3]at e2;cases e2;exact⟨k,e1⟩
   have hp':=hp
   simp only[All,mem_cons,not_mem_nil,or_false,forall_eq_or_imp,forall_eq,mem_append,false_implies,implies_true,and_true,cons_append,nil_append]at hp'
   have q0:=keyI q n s c 0 h' m x ls b o hi hx (Or.inr rfl) (by omega) (by omega) (by omega) (zrb w _ _ _ _ _ _ _ _ _ (Or.inr ⟨kmx,emx,by omega⟩) (Or.inr ⟨khi,ehi,by omega⟩) (Or.inl ⟨elo,rfl⟩)) he
   simpa [tg]using q0
  rename_i q n s ls l h' m h1 h2 h3
  have hs:=zq (zn h).1
  replace h:=(zn h).2
  obtain⟨rfl,rfl⟩:=sB h
  obtain⟨b,o,c,x,hi,hnc,rfl,hx⟩:=hx
  obtain⟨klo,elo⟩:∃k,vlo=some (.int k (l:Int)):=by rcases hlo with⟨_,e2⟩|⟨k,n,e1,e2⟩;rw[h1]at e2;cases e2;rw[h1]at e2;cases e2;exact⟨k,e1⟩
  obtain⟨khi,ehi⟩:∃k,vhi=some (.int k (h':Int)):=by rcases hhi with⟨_,e2⟩|⟨k,n,e1,e2⟩;rw[h2]at e2;cases e2;rw[h2]at e2;cases e2;exact⟨k,e1⟩
  obtain⟨kmx,emx⟩:∃k,vmx=some (.int k (m:Int)):=by rcases hmx with⟨_,e2⟩|⟨k,n,e1,e2⟩;rw[h3]at e2;cases e2;rw[h3]at e2;cases e2;exact⟨k,e1⟩
  have hp':=hp
  simp only[All,mem_cons,not_mem_nil,or_false,forall_eq_or_imp,forall_eq,mem_append,false_implies,implies_true,and_true,cons_append,nil_append]at hp'
  have q0:=keyI q n s c l h' m x ls b o hi hx (Or.inl hs) (by omega) (by omega) (by omega) (zrb w _ _ _ _ _ _ _ _ _ (Or.inr ⟨kmx,emx,by omega⟩) (Or.inr ⟨khi,ehi,by omega⟩) (Or.inr ⟨klo,elo,by omega⟩)) he
  rw[show tg q l=fL q l by rw[oN,zQ]]at q0
  exact q0
 ·rename_i hk
  have ot:=Γ.ok (t:=t) (by rw[hk];simp)
  have key:∀(s:List UInt8) (l h':Nat),(Instr.sliceBounds false s.length s.length vlo vhi none).run Γ.P w= .ok (l,h',s.length) w->vmx=none->
    (Instr.sliceAt t (.string ⟨s.toArray⟩) vlo vhi vmx).run Γ.P w= .ok (.string ⟨((s.drop l).take (h'-l)).toArray⟩) w:=by
   intro s l h' hb em
   subst em
   simp only[Instr.sliceAt,Instr.slice,run_bind,zru (bS ot hk),andThen_ok,Option.isSome_none,false_eq_true,if_false,run_pure]
   rw[show(⟨s.toArray⟩:ByteArray).size=s.length by simp[ByteArray.size]]
   simp only[hb,andThen_ok,vW]
  split at h<;>simp only[zoI,zpI,reduceCtorEq]at h
  ·rename_i s h1 h2 h3
   obtain⟨rfl,rfl⟩:=h
   rw[show vx= .string ⟨s.toArray⟩from hx]
   have elo:vlo=none:=by rcases hlo with⟨e1,_⟩|⟨_,_,_,e2⟩;exact e1;rw[h1]at e2;cases e2
   have ehi:vhi=none:=by rcases hhi with⟨e1,_⟩|⟨_,_,_,e2⟩;exact e1;rw[h2]at e2;cases e2
   have emx:vmx=none:=by rcases hmx with⟨e1,_⟩|⟨_,_,_,e2⟩;exact e1;rw[h3]at e2;cases e2
   have hp':=hp
   simp only[All,mem_cons,not_mem_nil,or_false,forall_eq_or_imp,forall_eq,mem_append,false_implies,implies_true,and_true,cons_append,nil_append]at hp'
   have q:=key s 0 s.length (zrb w _ _ _ _ _ _ _ _ _ (Or.inl ⟨rfl,rfl⟩) (Or.inl ⟨ehi,rfl,rfl⟩) (Or.inl ⟨elo,rfl⟩)) emx
   refine⟨_,?_,q⟩
   apply zR
   show _=_
   congr 3
   simp
  ·rename_i s h' h1 h2 h3
   obtain⟨rfl,rfl⟩:=h
   rw[show vx= .string ⟨s.toArray⟩from hx]
   have elo:vlo=none:=by rcases hlo with⟨e1,_⟩|⟨_,_,_,e2⟩;exact e1;rw[h1]at e2;cases e2
   obtain⟨khi,ehi⟩:∃k,vhi=some (.int k (h':Int)):=by rcases hhi with⟨_,e2⟩|⟨k,n,e1,e2⟩;rw[h2]at e2;cases e2;rw[h2]at e2;cases e2;exact⟨k,e1⟩
   have emx:vmx=none:=by rcases hmx with⟨e1,_⟩|⟨_,_,_,e2⟩;exact e1;rw[h3]at e2;cases e2
   have hp':=hp
   simp only[All,mem_cons,not_mem_nil,or_false,forall_eq_or_imp,forall_eq,mem_append,false_implies,implies_true,and_true,cons_append,nil_append]at hp'
   have q:=key s 0 h' (zrb w _ _ _ _ _ _ _ _ _ (Or.inl ⟨rfl,rfl⟩) (Or.inr ⟨khi,ehi,by omega⟩) (Or.inl ⟨elo,rfl⟩)) emx
   refine⟨_,?_,q⟩
   apply zR
   show _=_
   congr 3
  ·rename_i s l h1 h2 h3
   obtain⟨rfl,rfl⟩:=h
   rw[show vx= .string ⟨s.toArray⟩from hx]
   obtain⟨klo,elo⟩:∃k,vlo=some (.int k (l:Int)):=by rcases hlo with⟨_,e2⟩|⟨k,n,e1,e2⟩;rw[h1]at e2;cases e2;rw[h1]at e2;cases e2;exact⟨k,e1⟩
   have ehi:vhi=none:=by rcases hhi with⟨e1,_⟩|⟨_,_,_,e2⟩;exact e1;rw[h2]at e2;cases e2
   have emx:vmx=none:=by rcases hmx with⟨e1,_⟩|⟨_,_,_,e2⟩;exact e1;rw[h3]at e2;cases e2
   have hp':=hp
   simp only[All,mem_cons,not_mem_nil,or_false,forall_eq_or_imp,forall_eq,mem_append,false_implies,implies_true,and_true,cons_append,nil_append]at hp'
   have q:=key s l s.length (zrb w _ _ _ _ _ _ _ _ _ (Or.inl ⟨rfl,rfl⟩) (Or.inl ⟨ehi,rfl,rfl⟩) (Or.inr ⟨klo,elo,by omega⟩)) emx
   refine⟨_,?_,q⟩
   apply zR
   show _=_
   congr 3
   rw[take_of_length_le (by simp)]
  rename_i s l h' h1 h2 h3
  obtain⟨rfl,rfl⟩:=h
  rw[show vx= .string ⟨s.toArray⟩from hx]
  obtain⟨klo,elo⟩:∃k,vlo=some (.int k (l:Int)):=by rcases hlo with⟨_,e2⟩|⟨k,n,e1,e2⟩;rw[h1]at e2;cases e2;rw[h1]at e2;cases e2;exact⟨k,e1⟩
  obtain⟨khi,ehi⟩:∃k,vhi=some (.int k (h':Int)):=by rcases hhi with⟨_,e2⟩|⟨k,n,e1,e2⟩;rw[h2]at e2;cases e2;rw[h2]at e2;cases e2;exact⟨k,e1⟩
  have emx:vmx=none:=by rcases hmx with⟨e1,_⟩|⟨_,_,_,e2⟩;exact e1;rw[h3]at e2;cases e2
  have hp':=hp
  simp only[All,mem_cons,not_mem_nil,or_false,forall_eq_or_imp,forall_eq,mem_append,false_implies,implies_true,and_true,cons_append,nil_append]at hp'
  have q:=key s l h' (zrb w _ _ _ _ _ _ _ _ _ (Or.inl ⟨rfl,rfl⟩) (Or.inr ⟨khi,ehi,by omega⟩) (Or.inr ⟨klo,elo,by omega⟩)) emx
  refine⟨_,?_,q⟩
  apply zR
  show _=_
  congr 3
  rw[List.drop_take]
 cases h
theorem jn:∀{ls:List (Nat×SV)} {cs:List Value} (_:zC ρ ls cs) {f i n:Nat} {ps:List Prop} {l:List UInt8},
  bytesOf.subAny ls f i n=some (ps,l)->All ps->f+i+n<=cs.length/\(cs.drop (f+i)).take n=l.map w8
 |[],_,_,_,_,_,_,_,h,_=>by simp[bytesOf.subAny]at h
 | (s,v)::r,cs,hc,f,i,n,ps,l,h,hp=>by
  obtain⟨c1,c2,rfl,h1,h2,h3⟩:=hc
  unfold bytesOf.subAny at h
  split at h
  ·split at h<;>simp only[zoI,zpI,reduceCtorEq]at h
   obtain⟨rfl,rfl⟩:=h
   rename_i l
   have hb:=hp.head
   have hcl:c1=l.map w8:=h2
   subst hcl
   rw[length_map]at h1
   refine⟨by simp;omega,?_⟩
   rw[zero_add,List.drop_append_of_le_length (by simp;omega),List.take_append_of_le_length (by simp;omega),bW]
  rename_i g
  rcases zs h with⟨_,h⟩|⟨hb,h⟩
  ·cases h
  have hge:s<=g+1:=by
   rcases Nat.lt_or_ge (g+1) s with hl|hl
   ·have:Nat.blt (g+1) s=true:=by simpa [Nat.blt_eq]using hl
    rw[this]at hb;cases hb
   exact hl
  obtain⟨h4,h5⟩:=jn h3 h hp
  refine⟨by simp;omega,?_⟩
  rw[drop_append,List.drop_of_length_le (by omega),nil_append,h1,show g+1+i-s=g+1-s+i by omega]
  exact h5
theorem aCC (l:List UInt8):∀(acc:List UInt8),(l.map λx=>(x.toNat:Int)).foldl (λ(r:ByteArray) n=>r.push (UInt8.ofNat n.toNat)) ⟨acc.toArray⟩=⟨(acc++l).toArray⟩:=by
 induction l with
 |nil=>intro acc;simp
 |cons x r ih=>
  intro acc
  rw[map_cons,List.foldl_cons]
  have e:(ByteArray.mk acc.toArray).push (UInt8.ofNat (x.toNat:Int).toNat)=⟨(acc++[x]).toArray⟩:=by
   simp[ByteArray.push]
  rw[e,ih (acc++[x])]
  simp
theorem uG:∀{ls:List (Nat×SV)} {f i n:Nat} {ps:List Prop} {l:List UInt8},bytesOf.subAny ls f i n=some (ps,l)->l.length<=n
 |[],_,_,_,_,_,h=>by simp[bytesOf.subAny]at h
 |(s,v)::r,f,i,n,ps,l,h=>by
  unfold bytesOf.subAny at h
  split at h
  ·split at h<;>simp only[zoI,zpI,reduceCtorEq]at h
   obtain⟨rfl,rfl⟩:=h
   simp only[zlT];omega
  rcases zs h with⟨_,h⟩|⟨_,h⟩
  ·cases h
  exact uG h
theorem tY (hs:bytesOf.subAny ls f i n=some (ps,l)) (hp:All ps) (hnc:n<=c)
  (hy:c≠0->∃(ρ:Env) (b o:Nat) (cs:List Value),zC ρ ls cs/\(∀j v,cs[j]? =some v->w.cell? ⟨b,o+j,none⟩=some v)/\y=some ⟨b,o+(f+i),none⟩):
  l.length=n/\(y=none->n=0)/\∀ad,y=some ad->∀m,m<=n->(loadCells ad m).run P w= .ok ((l.take m).map w8).toArray w:=by
 rcases Nat.eq_zero_or_pos c with h0|h0
 ·have hn:n=0:=by omega
  subst hn
  have hl:=uG hs
  have:l=[]:=List.eq_nil_of_length_eq_zero (by omega)
  subst this
  refine⟨rfl,λ_=>rfl,λad _ m hm=>?_⟩
  have:m=0:=by omega
  subst this
  rfl
 obtain⟨ρ,b,o,cs,h1,h3,rfl⟩:=hy (by omega)
 obtain⟨h4,h5⟩:=jn h1 hs hp
 have hl:l.length=n:=by
  have:=congrArg List.length h5
  simp only[zlT,zlD,length_map]at this
  omega
 refine⟨hl,(λh=>by cases h),λad had m hm=>?_⟩
 obtain rfl:(⟨b,o+(f+i),none⟩:Addr)=ad:=by simpa using had
 rw[g6 (cs:=((cs.drop (f+i)).take n).take m) (by simp;omega) (λj v hj=>by
  rw[getElem?_take]at hj
  split at hj
  ·rw[getElem?_take]at hj
   split at hj
   ·rw[List.getElem?_drop]at hj
    rw[Nat.add_assoc];exact h3 _ _ hj
   cases hj
  cases hj),h5,map_take]
theorem lg (hM:zF ρ M w) (hx:zRT ρ x vx) (h:bytesOf M x=some (ps,l)) (hp:All ps):
  ∃y c,vx= .slice y l.length c/\(y=none->l.length=0)/\∀ad,y=some ad->∀m,m<=l.length->(loadCells ad m).run P w= .ok ((l.take m).map w8).toArray w:=by
 unfold bytesOf at h
 split at h
 ·obtain⟨rfl,rfl⟩:=sB h
  exact⟨none,0,hx,λ_=>rfl,λad h=>by cases h⟩
 ·rename_i a f i n c
  obtain⟨_,hnc,y,rfl,hy⟩:=hx
  split at h
  ·rename_i own sp ls he
   split at h
   ·rename_i r hr
    simp only[zoI]at h;subst h
    obtain⟨cs,h1,_,h3,_⟩:=hM.sat a _ he
    obtain⟨q1,q2,q3⟩:=tY (P:=P) (w:=w) (y:=y) hr hp hnc (λhc=>⟨ρ,(ρ.pos a).1,(ρ.pos a).2,cs,h1,h3,by rw[hy hc,aN]⟩)
    exact⟨y,c,by rw[q1],by rw[q1];exact q2,by rw[q1];exact q3⟩
   cases h
  cases h
 ·rename_i a f i n
  obtain⟨_,c,y,hnc,rfl,hy⟩:=hx
  split at h
  ·rename_i own sp ls he
   split at h
   ·rename_i r hr
    simp only[zoI]at h;subst h
    obtain⟨cs,h1,_,h3,_⟩:=hM.sat a _ he
    obtain⟨q1,q2,q3⟩:=tY (P:=P) (w:=w) (y:=y) hr hp hnc (λhc=>⟨ρ,(ρ.pos a).1,(ρ.pos a).2,cs,h1,h3,by rw[hy hc,aN]⟩)
    exact⟨y,c,by rw[q1],by rw[q1];exact q2,by rw[q1];exact q3⟩
   cases h
  cases h
 ·rename_i q n s ls
  obtain⟨b,o,c,y,hi,hnc,rfl,hy⟩:=hx
  split at h
  ·split at h
   ·rename_i r hr
    simp only[zoI]at h;subst h
    obtain⟨q1,q2,q3⟩:=tY (P:=P) (w:=w) (y:=y) hr hp hnc (λhc=>by
     obtain⟨_,cs,h1,h3⟩:=hM.immO hi
     exact⟨ρ.bare,b,o,cs,h1,h3,by rw[hy hc];simp⟩)
    exact⟨y,c,by rw[q1],by rw[q1];exact q2,by rw[q1];exact q3⟩
   cases h
  cases h
 cases h
theorem tZ (hM:zF ρ M w) (hx:zRT ρ x vx)
  (h:bytesOf M x=some (ps,l)) (hp:All ps):∃a n c,vx= .slice a n c/\(Conv.bytesToString vx).run P w= .ok (.string ⟨l.toArray⟩) w:=by
 obtain⟨y,c,rfl,h1,h2⟩:=lg (P:=P) hM hx h hp
 refine⟨_,_,_,rfl,?_⟩
 cases y with
 |none=>
  have:=List.eq_nil_of_length_eq_zero (h1 rfl)
  subst this
  rfl
 |some ad=>
  have hcells:(loadCells ad l.length).run P w= .ok ((l.map λx=>(x.toNat:Int)).map (Value.int .u8)).toArray w:=by
   rw[h2 ad rfl l.length (le_refl _),List.take_length,aGF]
  rw[run_bytesToString w ad l.length c _ hcells]
  have:=aCC l []
  rw[nil_append]at this
  rw[<-this]
  rfl
theorem aB7 {Γ:Ctx} {ρ:Env} (w:World) {t:Nat} {x:SV} {vx:Value} (hx:zRT ρ x vx) {ps:List Prop} {z:SV} (ty:TypeId)
  (h:aXY (Γ.ty t).k x=some (ps,z)):∃y,zRT ρ z y/\(Builtin.len_ #[t] ty #[vx]).run Γ.P w= .ok y w:=by
 unfold aXY at h
 split at h
 ·rename_i e hk
  have u:=zus (Γ.ok (t:=t) (by rw[hk];simp)) hk
  split at h<;>simp only[zoI,zpI,reduceCtorEq]at h<;>obtain⟨rfl,rfl⟩:=h
  ·obtain⟨_,_,y,rfl,_⟩:=hx
   refine⟨_,zR rfl,?_⟩
   simp only[Builtin.len_,getElem?_toArray,getElem?_cons_zero,run_bind,zru u,andThen_ok,run_pure,goInt]
  ·obtain⟨_,c,y,_,rfl,_⟩:=hx
   refine⟨_,zR rfl,?_⟩
   simp only[Builtin.len_,getElem?_toArray,getElem?_cons_zero,run_bind,zru u,andThen_ok,run_pure,goInt]
  ·obtain⟨_,_,c,y,_,_,rfl,_⟩:=hx
   refine⟨_,zR rfl,?_⟩
   simp only[Builtin.len_,getElem?_toArray,getElem?_cons_zero,run_bind,zru u,andThen_ok,run_pure,goInt]
  rw[show vx= .slice none 0 0 from hx]
  refine⟨_,zR rfl,?_⟩
  simp only[Builtin.len_,getElem?_toArray,getElem?_cons_zero,run_bind,zru u,andThen_ok,run_pure,goInt]
  rfl
 ·rename_i hk
  have u:=bS (Γ.ok (t:=t) (by rw[hk];simp)) hk
  split at h<;>simp only[zoI,zpI,reduceCtorEq]at h
  obtain⟨rfl,rfl⟩:=h
  rename_i l
  rw[show vx= .string ⟨l.toArray⟩from hx]
  refine⟨_,zR rfl,?_⟩
  simp only[Builtin.len_,getElem?_toArray,getElem?_cons_zero,run_bind,zru u,andThen_ok,run_pure,goInt]
  rfl
 cases h
theorem aCO {Γ:Ctx} {ρ:Env} (w:World) {t:Nat} {x:SV} {vx:Value} (hx:zRT ρ x vx) {ps:List Prop} {z:SV} (ty:TypeId)
  (h:aZB (Γ.ty t).k x=some (ps,z)):∃y,zRT ρ z y/\(Builtin.cap_ #[t] ty #[vx]).run Γ.P w= .ok y w:=by
 unfold aZB at h
 split at h
 ·rename_i e hk
  have u:=zus (Γ.ok (t:=t) (by rw[hk];simp)) hk
  split at h<;>simp only[zoI,zpI,reduceCtorEq]at h
  obtain⟨rfl,rfl⟩:=h
  obtain⟨_,_,y,rfl,_⟩:=hx
  refine⟨_,zR rfl,?_⟩
  simp only[Builtin.cap_,getElem?_toArray,getElem?_cons_zero,run_bind,zru u,andThen_ok,run_pure,goInt]
 cases h
theorem aB1 (w:World) (hx:zRT ρ x vx) (hy:zRT ρ y vy)
  (h:aXU x y=some (ps,z)):∃r,zRT ρ z r/\(Builtin.min2 vx vy).run P w= .ok r w:=by
 unfold aXU at h
 split at h
 ·rename_i k a j b
  obtain⟨hb,h⟩:=zn h
  obtain⟨rfl,rfl⟩:=sB h
  rw[show vx= .int k a from hx,show vy= .int j b from hy]
  exact⟨_,zR rfl,rfl⟩
 cases h
theorem aB3 (w:World) (hx:zRT ρ x vx) (hy:zRT ρ y vy)
  (h:aXV x y=some (ps,z)):∃r,zRT ρ z r/\(Builtin.max2 vx vy).run P w= .ok r w:=by
 unfold aXV at h
 split at h
 ·rename_i k a j b
  obtain⟨hb,h⟩:=zn h
  obtain⟨rfl,rfl⟩:=sB h
  rw[show vx= .int k a from hx,show vy= .int j b from hy]
  exact⟨_,zR rfl,rfl⟩
 cases h
theorem vj {Γ:Ctx} {N:Nat} {ρ:Env} {T:Tm} {M:Mm} {a:Act} {w:World} (hc:aZ N ρ T M a w) {b:Builtin} {ts:List TypeId} {args:List Operand} {ps:List Prop} {z:SV} (ty:TypeId) (cs:Array Bool)
  (h:aIJ Γ.ty b ts T args=some (ps,z)):∃y,zRT ρ z y/\(builtin b ts.toArray ty cs (args.map a.eval).toArray).run Γ.P w= .ok (.value y) w:=by
 unfold aIJ at h
 split at h
 ·split at h
  ·obtain⟨y,hy,hr⟩:=aB7 w (zev hc _) ty h
   exact⟨y,hy,by simp only[builtin,run_bind,map_cons,map_nil,hr,andThen_ok,run_pure]⟩
  cases h
 ·split at h
  ·obtain⟨y,hy,hr⟩:=aCO w (zev hc _) ty h
   exact⟨y,hy,by simp only[builtin,run_bind,map_cons,map_nil,hr,andThen_ok,run_pure]⟩
  cases h
 ·split at h
  ·obtain⟨y,hy,hr⟩:=aB1 (P:=Γ.P) w (zev hc _) (zev hc _) h
   refine⟨y,hy,?_⟩
   simp only[builtin,run_bind,map_cons,map_nil,Builtin.min_,List.foldlM_cons,List.foldlM_nil,hr,andThen_ok,run_pure]
  cases h
 ·split at h
  ·obtain⟨y,hy,hr⟩:=aB3 (P:=Γ.P) w (zev hc _) (zev hc _) h
   refine⟨y,hy,?_⟩
   simp only[builtin,run_bind,map_cons,map_nil,Builtin.max_,List.foldlM_cons,List.foldlM_nil,hr,andThen_ok,run_pure]
  cases h
 cases h
theorem ge (hn:zC ρ new nc):∀{f:Nat} {ls:List (Nat×SV)} {cs:List Value} {l:List (Nat×SV)},zC ρ ls cs->aKL ls f new=some l->
  zC ρ l (cs.take f++nc++cs.drop (f+nc.length))/\f+nc.length<=cs.length:=by
 have app:∀{n1:List (Nat×SV)} {c1:List Value} {n2:List (Nat×SV)} {c2:List Value},zC ρ n1 c1->zC ρ n2 c2->zC ρ (n1++n2) (c1++c2):=by
  intro n1
  induction n1 with
  |nil=>intro c1 n2 c2 h1 h2;simp only[zC]at h1;subst h1;simpa using h2
  |cons a r ih=>
   intro c1 n2 c2 h1 h2
   obtain⟨s,v⟩:=a
   obtain⟨d1,d2,rfl,h3,h4,h5⟩:=h1
   exact⟨d1,d2++c2,by simp,h3,h4,ih h5 h2⟩
 intro f
 induction f using Nat.strongRecOn with
 |_ f ih=>
  intro ls cs l hc h
  unfold aKL at h
  split at h
  ·obtain⟨r,hr,rfl⟩:=Option.map_eq_some_iff.1 h
   obtain⟨d1,d2⟩:=dU hc hr
   rw[<-hn.length]at d1 d2
   refine⟨?_,by omega⟩
   simp only[List.take_zero,nil_append,zero_add]
   exact app hn d1
  rename_i g
  split at h
  ·cases h
  rename_i s0 v r
  split at h
  ·cases h
  rename_i s
  obtain⟨hb,h⟩:=zn h
  have hle:=aX hb
  obtain⟨l',hl',rfl⟩:=Option.map_eq_some_iff.1 h
  obtain⟨c1,c2,rfl,h1,h2,h3⟩:=hc
  obtain⟨h4,h5⟩:=ih (g+1-(s+1)) (by omega) h3 hl'
  refine⟨⟨c1,_,?_,h1,h2,h4⟩,by simp;omega⟩
  rw[List.take_append,take_of_length_le (by omega),h1,drop_append,List.drop_of_length_le (by omega),h1]
  simp only[nil_append,List.append_assoc]
  rw[show g+1+nc.length-(s+1)=g+1-(s+1)+nc.length by omega]
theorem aHD (nc:List Value):∀(cs:Array Value) (off k:Nat),off+k+nc.length<=cs.size->
  ((nc.zipIdx k).foldl (λcs (x:Value×Nat)=>cs.setIfInBounds (off+x.2) x.1) cs).toList=cs.toList.take (off+k)++nc++cs.toList.drop (off+k+nc.length):=by
 induction nc with
 |nil=>intro cs off k _;simp
 |cons x r ih=>
  intro cs off k h
  simp only[List.length_cons]at h
  rw[List.zipIdx_cons,List.foldl_cons,ih _ _ _ (by simp;omega)]
  simp only[Array.toList_setIfInBounds]
  have h1:(cs.toList.set (off+k) x).take (off+(k+1))=cs.toList.take (off+k)++[x]:=by
   rw[show off+(k+1)=off+k+1 by omega,List.take_succ_eq_append_getElem (by simp;omega)]
   rw[List.take_set_of_le (le_refl _)]
   simp
  have h2:(cs.toList.set (off+k) x).drop (off+(k+1)+r.length)=cs.toList.drop (off+k+(r.length+1)):=by
   rw[List.drop_set_of_lt (by omega)]
   congr 1;omega
  rw[h1,h2]
  simp
theorem ac (nc:List Value) (cs:Array Value) (off:Nat) (h:off+nc.length<=cs.size):
  (nc.toArray.zipIdx.foldl (λcs (x:Value×Nat)=>cs.setIfInBounds (off+x.2) x.1) cs).toList=cs.toList.take off++nc++cs.toList.drop (off+nc.length):=by
 rw[<-Array.foldl_toList,Array.toList_zipIdx]
 have:=aHD nc cs off 0 (by omega)
 simpa using this
theorem b9 (hr:zRT ρ v x) (h:iM y v=some (ps,l)) (hp:All ps):
  zC ρ l x.cells.toList:=by
 have sc:∀{u:SV},cg ρ u x->zD ρ u [x]->zC ρ [(1,u)] x.cells.toList:=by
  intro u hu h1
  rw[um hu.one]
  exact⟨[x],[],rfl,rfl,h1,rfl⟩
 unfold iM at h
 split at h
 ·cases h
 ·cases h
 ·cases h
 ·obtain⟨rfl,rfl⟩:=sB h
  obtain⟨cs,hc,rfl⟩:=hr
  exact hc
 ·obtain⟨rfl,rfl⟩:=sB h
  rename_i q
  rw[show x= .agg (q.map w8).toArray from hr]
  exact⟨q.map w8,[],by simp[Value.cells],by simpa using hp.head,rfl,rfl⟩
 ·obtain⟨rfl,rfl⟩:=sB h
  rename_i q
  rw[show x= .agg (q.map w16).toArray from hr]
  exact⟨q.map w16,[],by simp[Value.cells],by simpa using hp.head,rfl,rfl⟩
 ·obtain⟨rfl,rfl⟩:=sB h
  rename_i q
  rw[show x= .agg (q.map w32).toArray from hr]
  exact⟨q.map w32,[],by simp[Value.cells],by simpa using hp.head,rfl,rfl⟩
 ·obtain⟨rfl,rfl⟩:=sB h
  rename_i q
  rw[show x= .agg (q.map w64).toArray from hr]
  exact⟨q.map w64,[],by simp[Value.cells],by simpa using hp.head,rfl,rfl⟩
 ·obtain⟨rfl,rfl⟩:=sB h
  rename_i q
  rw[show x= .agg (q.map wi).toArray from hr]
  exact⟨q.map wi,[],by simp[Value.cells],by simpa using hp.head,rfl,rfl⟩
 obtain⟨rfl,rfl⟩:=sB h
 cases v<;>first
  |exact sc hr ⟨x,hr,rfl⟩
  |(exfalso;simp_all;done)
theorem cJ {Γ:Ctx} {N:Nat} {ρ:Env} {T:Tm} {M:Mm} {a:Act} {w:World} (hc:aZ N ρ T M a w) (place:Nat->Option (Nat×Nat)):
  ∀{parts:List (Nat×Operand)} {ls:List (Nat×SV)} {cs:Array Value} {ps:List Prop} {l:List (Nat×SV)},zC ρ ls cs.toList->dV Γ.ty T place ls parts=some (ps,l)->All ps->
   ∃cs',Instr.fill (λi=>(place i).map λp=>(p.1,(Γ.ty p.2).size)) cs (parts.map λ(i,x)=>(i,a.eval x))=some cs'/\zC ρ l cs'.toList
 |[],ls,cs,ps,l,h1,h2,_=>by
  simp only[dV,zoI,zpI]at h2
  obtain⟨_,rfl⟩:=h2
  exact⟨cs,rfl,h1⟩
 |(i,x)::r,ls,cs,ps,l,h1,h2,hp=>by
  simp only[dV]at h2
  split at h2
  ·cases h2
  rename_i off t hpl
  rcases zs h2 with⟨_,h⟩|⟨_,h⟩
  ·cases h
  split at h
  ·cases h
  rename_i qs nl hnl
  obtain⟨hsz,h⟩:=zn h
  have hsz:=zq hsz
  split at h
  ·cases h
  rename_i ls' hls'
  split at h
  ·cases h
  rename_i rs ls'' hrest
  obtain⟨rfl,rfl⟩:=sB h
  have hcell:=b9 (zev hc x) hnl hp.left
  obtain⟨p1,p2⟩:=ge hcell h1 hls'
  have hlen:(a.eval x).cells.size=(Γ.ty t).size:=by rw[<-hsz,<-hcell.length];simp
  simp only[Array.length_toList]at p2
  have hset:=ac (a.eval x).cells.toList cs off (by simpa using p2)
  rw[Array.toArray_toList]at hset
  rw[<-hset]at p1
  obtain⟨cs',hf,hl'⟩:=cJ hc place p1 hrest hp.right
  refine⟨cs',?_,hl'⟩
  simp only[map_cons,Instr.fill,hpl,map_some]
  rw[if_neg (by simp[hlen];omega)]
  exact hf
theorem mn (hc:aZ N ρ T M a w):
  ∀(z:List UInt8) (j:Nat) (ps:List (Nat×Operand)) (l:List UInt8) (pre:List Value),aQW T j z ps=some l->pre.length=j->
   Instr.fill (λi=>some (i*1,1)) (pre++z.map w8).toArray (ps.map λ(i,x)=>(i,a.eval x))=some (pre++l.map w8).toArray
 |z,j,[],l,pre,h,hl=>by
  simp only[aQW,zoI]at h;subst h;rfl
 |[],j,(i,x)::r,l,pre,h,hl=>by simp[aQW]at h
 |b::z,j,(i,x)::r,l,pre,h,hl=>by
  simp only[aQW]at h
  rcases zs h with⟨hb,h⟩|⟨_,h⟩
  ·have hij:=zq hb
   subst hij
   split at h
   ·rename_i c hev
    split at h
    ·rename_i q hq
     simp only[zoI]at h;subst h
     have hx:a.eval x=w8 c:=by have:=zev hc x;rw[hev]at this;exact this
     have ih:=mn hc z (i+1) r q (pre++[w8 c]) hq (by simp[hl])
     simp only[map_cons,Instr.fill,hx]
     have hcs:(w8 c).cells= #[w8 c]:=rfl
     rw[hcs]
     rw[if_neg (by simp;omega)]
     have hset:(#[w8 c].zipIdx.foldl (λcs (x:Value×Nat)=>cs.setIfInBounds (i*1+x.2) x.1) (pre++w8 b::z.map w8).toArray)=((pre++[w8 c])++z.map w8).toArray:=by
      apply ext'
      have:=ac [w8 c] (pre++w8 b::z.map w8).toArray (i*1) (by simp;omega)
      rw[this]
      simp[<-hl]
     rw[hset,ih]
     simp
    cases h
   cases h
  split at h
  ·rename_i q hq
   simp only[zoI]at h;subst h
   have ih:=mn hc z (j+1) ((i,x)::r) q (pre++[w8 b]) hq (by simp[hl])
   simpa using ih
  cases h
theorem kI (hc:aZ N ρ T M a w):
  ∀(z:List UInt16) (j:Nat) (ps:List (Nat×Operand)) (l:List UInt16) (pre:List Value),xk T j z ps=some l->pre.length=j->
   Instr.fill (λi=>some (i*1,1)) (pre++z.map w16).toArray (ps.map λ(i,x)=>(i,a.eval x))=some (pre++l.map w16).toArray
 |z,j,[],l,pre,h,hl=>by
  simp only[xk,zoI]at h;subst h;rfl
 |[],j,(i,x)::r,l,pre,h,hl=>by simp[xk]at h
 |b::z,j,(i,x)::r,l,pre,h,hl=>by
  simp only[xk]at h
  rcases zs h with⟨hb,h⟩|⟨_,h⟩
  ·have hij:=zq hb
   subst hij
   split at h
   ·rename_i c hev
    split at h
    ·rename_i q hq
     simp only[zoI]at h;subst h
     have hx:a.eval x=w16 c:=by have:=zev hc x;rw[hev]at this;exact this
     have ih:=kI hc z (i+1) r q (pre++[w16 c]) hq (by simp[hl])
     simp only[map_cons,Instr.fill,hx]
     have hcs:(w16 c).cells= #[w16 c]:=rfl
     rw[hcs]
     rw[if_neg (by simp;omega)]
     have hset:(#[w16 c].zipIdx.foldl (λcs (x:Value×Nat)=>cs.setIfInBounds (i*1+x.2) x.1) (pre++w16 b::z.map w16).toArray)=((pre++[w16 c])++z.map w16).toArray:=by
      apply ext'
      have:=ac [w16 c] (pre++w16 b::z.map w16).toArray (i*1) (by simp;omega)
      rw[this]
      simp[<-hl]
     rw[hset,ih]
     simp
    cases h
   cases h
  split at h
  ·rename_i q hq
   simp only[zoI]at h;subst h
   have ih:=kI hc z (j+1) ((i,x)::r) q (pre++[w16 b]) hq (by simp[hl])
   simpa using ih
  cases h
theorem kH (hc:aZ N ρ T M a w):
  ∀(z:List UInt32) (j:Nat) (ps:List (Nat×Operand)) (l:List UInt32) (pre:List Value),xj T j z ps=some l->pre.length=j->
   Instr.fill (λi=>some (i*1,1)) (pre++z.map w32).toArray (ps.map λ(i,x)=>(i,a.eval x))=some (pre++l.map w32).toArray
 |z,j,[],l,pre,h,hl=>by
  simp only[xj,zoI]at h;subst h;rfl
 |[],j,(i,x)::r,l,pre,h,hl=>by simp[xj]at h
 |b::z,j,(i,x)::r,l,pre,h,hl=>by
  simp only[xj]at h
  rcases zs h with⟨hb,h⟩|⟨_,h⟩
  ·have hij:=zq hb
   subst hij
   split at h
   ·rename_i c hev
    split at h
    ·rename_i q hq
     simp only[zoI]at h;subst h
     have hx:a.eval x=w32 c:=by have:=zev hc x;rw[hev]at this;exact this
     have ih:=kH hc z (i+1) r q (pre++[w32 c]) hq (by simp[hl])
     simp only[map_cons,Instr.fill,hx]
     have hcs:(w32 c).cells= #[w32 c]:=rfl
     rw[hcs]
     rw[if_neg (by simp;omega)]
     have hset:(#[w32 c].zipIdx.foldl (λcs (x:Value×Nat)=>cs.setIfInBounds (i*1+x.2) x.1) (pre++w32 b::z.map w32).toArray)=((pre++[w32 c])++z.map w32).toArray:=by
      apply ext'
      have:=ac [w32 c] (pre++w32 b::z.map w32).toArray (i*1) (by simp;omega)
      rw[this]
      simp[<-hl]
     rw[hset,ih]
     simp
    cases h
   cases h
  split at h
  ·rename_i q hq
   simp only[zoI]at h;subst h
   have ih:=kH hc z (j+1) ((i,x)::r) q (pre++[w32 b]) hq (by simp[hl])
   simpa using ih
  cases h
theorem kG (hc:aZ N ρ T M a w):
  ∀(z:List UInt64) (j:Nat) (ps:List (Nat×Operand)) (l:List UInt64) (pre:List Value),xi T j z ps=some l->pre.length=j->
   Instr.fill (λi=>some (i*1,1)) (pre++z.map w64).toArray (ps.map λ(i,x)=>(i,a.eval x))=some (pre++l.map w64).toArray
 |z,j,[],l,pre,h,hl=>by
  simp only[xi,zoI]at h;subst h;rfl
 |[],j,(i,x)::r,l,pre,h,hl=>by simp[xi]at h
 |b::z,j,(i,x)::r,l,pre,h,hl=>by
  simp only[xi]at h
  rcases zs h with⟨hb,h⟩|⟨_,h⟩
  ·have hij:=zq hb
   subst hij
   split at h
   ·rename_i c hev
    split at h
    ·rename_i q hq
     simp only[zoI]at h;subst h
     have hx:a.eval x=w64 c:=by have:=zev hc x;rw[hev]at this;exact this
     have ih:=kG hc z (i+1) r q (pre++[w64 c]) hq (by simp[hl])
     simp only[map_cons,Instr.fill,hx]
     have hcs:(w64 c).cells= #[w64 c]:=rfl
     rw[hcs]
     rw[if_neg (by simp;omega)]
     have hset:(#[w64 c].zipIdx.foldl (λcs (x:Value×Nat)=>cs.setIfInBounds (i*1+x.2) x.1) (pre++w64 b::z.map w64).toArray)=((pre++[w64 c])++z.map w64).toArray:=by
      apply ext'
      have:=ac [w64 c] (pre++w64 b::z.map w64).toArray (i*1) (by simp;omega)
      rw[this]
      simp[<-hl]
     rw[hset,ih]
     simp
    cases h
   cases h
  split at h
  ·rename_i q hq
   simp only[zoI]at h;subst h
   have ih:=kG hc z (j+1) ((i,x)::r) q (pre++[w64 b]) hq (by simp[hl])
   simpa using ih
  cases h
theorem mj (hc:aZ N ρ T M a w):
  ∀(z:List Int) (j:Nat) (ps:List (Nat×Operand)) (l:List Int) (pre:List Value),aQV T j z ps=some l->pre.length=j->
   Instr.fill (λi=>some (i*1,1)) (pre++z.map wi).toArray (ps.map λ(i,x)=>(i,a.eval x))=some (pre++l.map wi).toArray
 |z,j,[],l,pre,h,hl=>by
  simp only[aQV,zoI]at h;subst h;rfl
 |[],j,(i,x)::r,l,pre,h,hl=>by simp[aQV]at h
 |b::z,j,(i,x)::r,l,pre,h,hl=>by
  simp only[aQV]at h
  rcases zs h with⟨hb,h⟩|⟨_,h⟩
  ·have hij:=zq hb
   subst hij
   split at h
   ·rename_i c hev
    split at h
    ·rename_i q hq
     simp only[zoI]at h;subst h
     have hx:a.eval x=wi c:=by have:=zev hc x;rw[hev]at this;exact this
     have ih:=mj hc z (i+1) r q (pre++[wi c]) hq (by simp[hl])
     simp only[map_cons,Instr.fill,hx]
     have hcs:(wi c).cells= #[wi c]:=rfl
     rw[hcs]
     rw[if_neg (by simp;omega)]
     have hset:(#[wi c].zipIdx.foldl (λcs (x:Value×Nat)=>cs.setIfInBounds (i*1+x.2) x.1) (pre++wi b::z.map wi).toArray)=((pre++[wi c])++z.map wi).toArray:=by
      apply ext'
      have:=ac [wi c] (pre++wi b::z.map wi).toArray (i*1) (by simp;omega)
      rw[this]
      simp[<-hl]
     rw[hset,ih]
     simp
    cases h
   cases h
  split at h
  ·rename_i q hq
   simp only[zoI]at h;subst h
   have ih:=mj hc z (j+1) ((i,x)::r) q (pre++[wi b]) hq (by simp[hl])
   simpa using ih
  cases h
theorem rp (hc:aZ N ρ T M a w) (h:aSC T zl ps=some v):
  ∃cs,Instr.fill (λi=>some (i*1,1)) (gv zl).toArray (ps.map λ(i,x)=>(i,a.eval x))=some cs/\Rel ρ v (.agg cs):=by
 unfold aSC at h
 split at h
 ·split at h
  ·obtain⟨l,hl,rfl⟩:=Option.map_eq_some_iff.1 h
   have:=mn hc _ 0 _ l [] hl rfl
   simp only[nil_append]at this
   simp only[gv,jc,append_nil]
   exact⟨_,this,rfl⟩
  ·obtain⟨l,hl,rfl⟩:=Option.map_eq_some_iff.1 h
   have:=kI hc _ 0 _ l [] hl rfl
   simp only[nil_append]at this
   simp only[gv,jc,append_nil]
   exact⟨_,this,rfl⟩
  ·obtain⟨l,hl,rfl⟩:=Option.map_eq_some_iff.1 h
   have:=kH hc _ 0 _ l [] hl rfl
   simp only[nil_append]at this
   simp only[gv,jc,append_nil]
   exact⟨_,this,rfl⟩
  ·obtain⟨l,hl,rfl⟩:=Option.map_eq_some_iff.1 h
   have:=kG hc _ 0 _ l [] hl rfl
   simp only[nil_append]at this
   simp only[gv,jc,append_nil]
   exact⟨_,this,rfl⟩
  ·obtain⟨l,hl,rfl⟩:=Option.map_eq_some_iff.1 h
   have:=mj hc _ 0 _ l [] hl rfl
   simp only[nil_append]at this
   simp only[gv,jc,append_nil]
   exact⟨_,this,rfl⟩
  cases h
 cases h
theorem kf (h:wL P t y) (hz:y.zl≠[]):∃z,(zeroValue t).run P w= .ok z w/\z.cells.toList=gv y.zl/\dj y.zl=true/\Value.isAgg z=bZ y.k:=by
 obtain⟨i,hi,_,_,hzz⟩:=h.info
 obtain⟨z,h1,h2,h3,h4⟩:=hzz hz
 exact⟨z,by simp[zeroValue,typeInfo,hi,h1],h2,h3,h4⟩
theorem xX {P:Program} {α β:Type} (w:World) (f:α->Sem β) (g:α->β) (l:List α) (hf:∀x∈l,(f x).run P w= .ok (g x) w):(l.toArray.mapM f).run P w= .ok (l.map g).toArray w:=by
 rw[List.mapM_toArray,Sem.run_map]
 have:(l.mapM f).run P w= .ok (l.map g) w:=by
  induction l with
  |nil=>rfl
  |cons x r ih=>simp only[List.mapM_cons,run_bind,hf x (by simp),andThen_ok,ih (λy hy=>hf y (by simp[hy])),run_pure,map_cons]
 rw[this];rfl
theorem rx (p q:Nat->Option (Nat×Nat)):∀(parts:List (Nat×Value)) (cs:Array Value),(∀x∈parts,p x.1=q x.1)->Instr.fill p cs parts=Instr.fill q cs parts
 |[],_,_=>rfl
 |(i,v)::r,cs,h=>by
  have e:p i=q i:=h (i,v) (by simp)
  simp only[Instr.fill,e]
  cases q i with
  |none=>rfl
  |some x=>
   simp only
   split
   ·rfl
   exact rx p q r _ (λx hx=>h x (by simp[hx]))
theorem vk {Γ:Ctx} {N:Nat} {ρ:Env} {T:Tm} {M:Mm} {a:Act} {w:World} (hc:aZ N ρ T M a w) {t:Nat} {parts:List (Nat×Operand)} {ps:List Prop} {v:SV}
  (h:aIK Γ.ty T t parts=some (ps,v)) (hp:All ps):
  ∃y,zRT ρ v y/\(Instr.build t (parts.map λ(i,x)=>(i,a.eval x)).toArray).run Γ.P w= .ok y w:=by
 unfold aIK at h
 split at h
 ·rename_i fs hk
  have ot:=Γ.ok (t:=t) (by rw[hk];simp)
  obtain⟨l,hl,hfs⟩:=mJ ot hk
  obtain⟨hall,h⟩:=zn h
  split at h
  ·cases h
  rename_i hz
  split at h
  ·rename_i qs l' hb
   obtain⟨rfl,rfl⟩:=sB h
   obtain⟨z,hrun,hzc,hzs,_⟩:=kf (w:=w) ot hz
   have hcz:zC ρ (Γ.ty t).zl z.cells.toList:=by rw[hzc];exact zzc ρ hzs
   obtain⟨cs',hf,hl'⟩:=cJ hc (λi=>fs[i]?) hcz hb hp
   refine⟨.agg cs',zR ⟨cs'.toList,hl',by simp⟩,?_⟩
   have hplaces:(l.mapM λf=>do pure (f.offset,<-sizeOf f.type):Sem (Array (Nat×Nat))).run Γ.P w= .ok (l.toList.map λf=>(f.offset,(Γ.ty f.type).size)).toArray w:=by
    have:=xX (P:=Γ.P) w (λf:Field=>do pure (f.offset,<-sizeOf f.type)) (λf=>(f.offset,(Γ.ty f.type).size)) l.toList (λf hf=>by
     have hmem:(f.offset,f.type)∈fs:=by rw[<-hfs];exact List.mem_map.2 ⟨f,hf,rfl⟩
     have hb:=List.all_eq_true.1 hall _ hmem
     have hne:(Γ.ty f.type).k≠ .bad:=by intro e;simp[e,i6]at hb
     simp only[run_bind,aT (Γ.ok hne),andThen_ok,run_pure])
    simpa using this
   simp only[Instr.build,run_bind,hrun,andThen_ok,zru hl,hplaces]
   have hcong:=rx (λi=>((l.toList.map λf=>(f.offset,(Γ.ty f.type).size)).toArray)[i]?) (λi=>(fs[i]?).map λp=>(p.1,(Γ.ty p.2).size)) (parts.map λ(i,x)=>(i,a.eval x)) z.cells (λx _=>by
    rw[<-hfs,py]
    simp only[getElem?_toArray,List.getElem?_map,Option.map_map]
    rfl)
   rw[hcong,hf]
   rfl
  cases h
 ·rename_i n e hk
  have ot:=Γ.ok (t:=t) (by rw[hk];simp)
  split at h
  ·rename_i hb1
   obtain⟨hb,h⟩:=zn h
   simp only[Bool.not_eq_true']at hb
   have hsz:=zq hb1
   have hne:(Γ.ty e).k≠ .bad:=by intro e';rw[e']at hb;simp[i6]at hb
   split at h
   ·rename_i v' hv
    obtain⟨rfl,rfl⟩:=sB h
    have hz:(Γ.ty t).zl≠[]:=by intro e';rw[e']at hv;simp[aSC]at hv
    obtain⟨z,hrun,hzc,hzs,_⟩:=kf (w:=w) ot hz
    obtain⟨cs,hf,hr⟩:=rp hc hv
    refine⟨.agg cs,zR hr,?_⟩
    simp only[Instr.build,run_bind,hrun,andThen_ok,zru (dk ot hk),aT (Γ.ok hne),hsz]
    rw[<-hzc,Array.toArray_toList]at hf
    rw[hf]
    rfl
   cases h
  obtain⟨hb,h⟩:=zn h
  simp only[Bool.not_eq_true']at hb
  have hne:(Γ.ty e).k≠ .bad:=by intro e';rw[e']at hb;simp[i6]at hb
  unfold aAT at h
  split at h
  ·rename_i s l hzl
   obtain⟨hb2,h⟩:=zn h
   have hs:=zq hb2
   split at h
   ·rename_i qs ls hbp
    split at h
    ·rename_i x hx
     obtain⟨rfl,rfl⟩:=sB h
     have hz:(Γ.ty t).zl≠[]:=by intro e';rw[e']at hzl;cases hzl
     obtain⟨z,hrun,hzc,hzs,_⟩:=kf (w:=w) ot hz
     rw[hzl]at hzc hzs
     simp only[dj,jc,zbA,beq_iff_eq,length_map]at hzs
     have hll:l.length=(Γ.ty e).size+(Γ.ty e).size:=by rw[<-hs];exact hzs.1.1
     have hcz:zC ρ [((Γ.ty e).size,.a8 (l.take (Γ.ty e).size)),((Γ.ty e).size,.a8 (l.drop (Γ.ty e).size))] z.cells.toList:=by
      rw[hzc]
      refine⟨(l.take (Γ.ty e).size).map w8,(l.drop (Γ.ty e).size).map w8,?_,by rw[length_map,zlT];omega,rfl,(l.drop (Γ.ty e).size).map w8,[],(append_nil _).symm,by rw[length_map,zlD];omega,rfl,rfl⟩
      simp only[gv,jc,append_nil]
      rw[<-List.map_append,List.take_append_drop]
     obtain⟨cs',hf,hl'⟩:=cJ hc (λi=>some (i*(Γ.ty e).size,e)) hcz hbp hp
     have hr:zRT ρ (.a8 x) (.agg cs'):=by
      unfold aD7 at hx
      split at hx
      ·rename_i s1 x1 s2 x2
       simp only[zoI]at hx;subst hx
       obtain⟨c1,c2,e1,_,h1,c3,c4,e2,_,h2,h3⟩:=hl'
       have h1:c1=x1.map w8:=h1
       have h2:c3=x2.map w8:=h2
       have h3:c4=[]:=h3
       have:cs'=((x1++x2).map w8).toArray:=by apply ext';rw[e1,e2,h1,h2,h3,append_nil,List.map_append]
       rw[this]
       rfl
      cases hx
     refine⟨.agg cs',hr,?_⟩
     simp only[Instr.build,run_bind,hrun,andThen_ok,zru (dk ot hk),aT (Γ.ok hne)]
     simp only[map_some]at hf
     rw[hf]
     rfl
    cases h
   cases h
  cases h
 cases h
end Go.Sx
