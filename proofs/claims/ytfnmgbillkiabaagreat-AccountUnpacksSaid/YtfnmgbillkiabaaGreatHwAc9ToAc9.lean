/- What the functions of the program compute. No condition. -/
import Derived.Test.YtfnmgbillkiabaaGreatHwAc5ToAc2
import Derived.Test.YtfnmgbillkiabaaGreatHwAc6ToAc6
import Derived.Test.YtfnmgbillkiabaaGreatHwAc7ToNm
import Derived.Test.YtfnmgbillkiabaaGreatHwAd9ToAd9
import Derived.Test.YtfnmgbillkiabaaGreatHx8
set_option linter.unusedSimpArgs false
set_option linter.unusedVariables false
set_option maxRecDepth 100000
namespace Go.Proofs.YtfnmgbillkiabaaGreat
open Go Go.Sx
set_option maxHeartbeats 8000000 in
theorem accountUnpacks (b:List UInt8) (n:Nat) (hb:b.length = n) (hn:n <= maxLen):Sx.Fn Γ.P 4 [.isl 0 n 1 [(n,.a8 b)]] [] (fun v _=>v = .tt):=by
 have hmx:maxLen = 9223372036854775807:=by decide
 have hU:=fn23 b n hb hn
 refine fn_of (Γ:=Γ) (fn:=Tryz.f4) rfl rfl rfl rfl ?_
 repeat (refine sd ?_)
 refine Call.intro fn22 [] rfl trivial rfl trivial rfl ?_
 rintro v M' rfl
 dsimp only [zt,zM,zE,ren,zz,zx,zy,look,zG,zX,ev,evL,zV,zcT,zcF,act,zP,zO,Ent.zW]
 repeat (first | (refine zB.intro (fun _=>?_) (fun hn=>absurd rfl hn)) | (refine ky0 ?_) | (refine kn0 ?_) | (refine sd ?_))
 refine zB.intro (fun hc=>?_) (fun hc=>?_)
 ·repeat (refine sd ?_)
  refine Ret.intro .tt [] [] rfl ?_ rfl rfl ?_ rfl ?_ rfl
  ·exact fc
  ·exact fc
  ·exact fc
 have hc:¬ 20000 < (n:Int):=hc
 have hR:=fn24 b n hb (by omega)
 repeat (refine sd ?_)
 refine Call.intro hU [] rfl ?_ rfl ?_ rfl ?_
 ·exact fc
 ·exact fc
 rintro v M' (⟨x,l,N,hu,hlN,hN8,rfl,rfl⟩ | ⟨hno,rfl,rfl⟩)
 ·have hlO:∀ k ∈ l,OnOK k:=by
   obtain ⟨L,_,_,_,_,h5,_,rfl⟩:=hu
   intro k hk
   obtain ⟨p,hp,rfl⟩:=List.mem_map.1 hk
   exact acE_ok (h5 p hp)
  have hxO:x.OK:=by
   obtain ⟨L,_,_,_,h4,_,rfl,_⟩:=hu
   exact acX_ok h4
  have hSm:=fnSameA x hxO l N hlN (by omega) hlO
  obtain ⟨g1,g2,g3⟩:=hxO
  dsimp only [zt,zM,zE,ren,zz,zx,zy,look,zG,zX,ev,evL,zV,zcT,zcF,act,zP,zO,Ent.zW]
  repeat (refine sd ?_)
  refine Call.intro hR [] rfl ?_ rfl ?_ rfl ?_
  ·exact fc
  ·exact fc
  rintro v M' (⟨L',N',hr,hN',rfl,rfl⟩ | ⟨hn2,_⟩)
  rotate_left
  ·obtain ⟨L,hL,_⟩:=ac_ra hu
   exact absurd ⟨L,hL⟩ hn2
  obtain ⟨e1,e2⟩:=hu.det (ra_ac hr)
  rw [<- e1,<- e2]
  rw [<- e2] at hN'
  obtain rfl:N = N':=by omega
  clear e1 e2
  dsimp only [zt,zM,zE,ren,zz,zx,zy,look,zG,zX,ev,evL,zV,zcT,zcF,act,zP,zO,Ent.zW]
  repeat (first | (refine zB.intro (fun _=>?_) (fun hn=>absurd rfl hn)) | (refine ky0 ?_) | (refine kn0 ?_) | (refine sd ?_))
  refine Call.intro hSm [] rfl ?_ rfl ?_ rfl ?_
  ·exact fc
  ·exact fc
  rintro v M' ⟨rfl,rfl⟩
  dsimp only [zt,zM,zE,ren,zz,zx,zy,look,zG,zX,ev,evL,zV,zcT,zcF,act,zP,zO,Ent.zW]
  repeat (first | (refine zB.intro (fun _=>?_) (fun hn=>absurd rfl hn)) | (refine ky0 ?_) | (refine kn0 ?_) | (refine sd ?_))
  refine Ret.intro .tt [] [] rfl ?_ rfl rfl ?_ rfl ?_ rfl
  ·exact fc
  ·exact fc
  ·exact fc
 ·dsimp only [zt,zM,zE,ren,zz,zx,zy,look,zG,zX,ev,evL,zV,zcT,zcF,act,zP,zO,Ent.zW]
  repeat (refine sd ?_)
  refine Call.intro hR [] rfl ?_ rfl ?_ rfl ?_
  ·exact fc
  ·exact fc
  rintro v M' (⟨L',N',hr,_⟩ | ⟨_,rfl,rfl⟩)
  ·exact absurd ⟨_,_,ra_ac hr⟩ hno
  dsimp only [zt,zM,zE,ren,zz,zx,zy,look,zG,zX,ev,evL,zV,zcT,zcF,act,zP,zO,Ent.zW]
  repeat (first | (refine zB.intro (fun _=>?_) (fun hn=>absurd rfl hn)) | (refine ky0 ?_) | (refine kn0 ?_) | (refine sd ?_))
  refine Call.intro fnSameZ [] rfl ?_ rfl ?_ rfl ?_
  ·exact fc
  ·exact fc
  rintro v M' ⟨rfl,rfl⟩
  dsimp only [zt,zM,zE,ren,zz,zx,zy,look,zG,zX,ev,evL,zV,zcT,zcF,act,zP,zO,Ent.zW]
  repeat (first | (refine zB.intro (fun _=>?_) (fun hn=>absurd rfl hn)) | (refine ky0 ?_) | (refine kn0 ?_) | (refine sd ?_))
  refine Ret.intro .tt [] [] rfl ?_ rfl rfl ?_ rfl ?_ rfl
  ·exact fc
  ·exact fc
  ·exact fc
theorem allF1b {A:SV->Prop} {svs:List SV} (h:AllF [A] svs):∃ a,svs = [a]/\A a:=by
 match svs,h with
 | [a],⟨h1,_⟩=>exact ⟨a,rfl,h1⟩
theorem accountUnpacks_runs (svs:List SV) (h:AllF [isSl8 1] svs):Sx.Fn Γ.P 4 svs [] (fun v _=>v = .tt):=by
 obtain ⟨_,rfl,⟨n,b,hb,hn,rfl⟩⟩:=allF1b h
 rw [Nat.mul_one] at hb ⊢
 exact accountUnpacks b n hb hn
end Go.Proofs.YtfnmgbillkiabaaGreat
