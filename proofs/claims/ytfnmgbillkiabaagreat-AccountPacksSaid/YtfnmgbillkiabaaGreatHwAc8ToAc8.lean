/- What the functions of the program compute. No condition. -/
import Derived.Test.YtfnmgbillkiabaaGreatHwAc5ToAc2
import Derived.Test.YtfnmgbillkiabaaGreatHwAc6ToAc6
import Derived.Test.YtfnmgbillkiabaaGreatHwAd9ToAd9
import Derived.Test.YtfnmgbillkiabaaGreatHx8
set_option linter.unusedSimpArgs false
set_option linter.unusedVariables false
set_option maxRecDepth 100000
namespace Go.Proofs.YtfnmgbillkiabaaGreat
open Go Go.Sx
theorem jnRa_le (m:Nat):∀ {L:List (List UInt8)},(∀ y ∈ L,y.length <= m)->(jnR L).length <= L.length * (m + 2)
 | [],_=>Nat.zero_le _
 | x :: r,h=>by
  have h1:=h x (List.mem_cons_self ..)
  have h2:=jnRa_le m (L:=r) (fun y hy=>h y (List.mem_cons_of_mem _ hy))
  show ([UInt8.ofNat (x.length / 256),UInt8.ofNat x.length] ++ x ++ jnR r).length <= (r.length + 1) * (m + 2)
  rw [zlA,zlA,Nat.add_mul]
  show 2 + x.length + (jnR r).length <= _
  omega
theorem acB_le {x:Ac} (hx:x.OK) {l:List On} (hl:∀ k ∈ l,OnOK k) (h8:l.length <= 8):(acB x l).length <= 1000:=by
 have h:=jnRa_le 34 (acA_le hx hl)
 rw [acA_length] at h
 have h2:(4 + l.length) * (34 + 2) <= 12 * 36:=Nat.mul_le_mul (by omega) (Nat.le_refl _)
 unfold acB
 rw [jnB_eq,List.length_cons]
 omega
set_option maxHeartbeats 8000000 in
theorem accountPacks (x:Ac) (hx:x.OK) (l:List On) (N:Nat) (hN:l.length = N) (hNm:N <= maxLen) (hl:∀ k ∈ l,OnOK k) :
  Sx.Fn Γ.P 5 [.agg (acL x (.isl 0 N 33 [(N * 33,.arr N 33 (onF l))]))] [] (fun v _=>v = .tt):=by
 have hmx:maxLen = 9223372036854775807:=by decide
 have hx':=hx
 obtain ⟨h1,h2,h3⟩:=hx'
 refine fn_of (Γ:=Γ) (fn:=Tryz.f5) rfl rfl rfl rfl ?_
 repeat (refine sd ?_)
 refine Call.intro fn22 [] rfl trivial rfl trivial rfl ?_
 rintro v M' rfl
 dsimp only [zt,zM,zE,ren,zz,zx,zy,look,zG,zX,ev,evL,zV,zcT,zcF,act,zP,zO,Ent.zW]
 repeat (first | (refine zB.intro (fun _=>?_) (fun hn=>absurd rfl hn)) | (refine ky0 ?_) | (refine kn0 ?_) | (refine sd ?_))
 refine zB.intro (fun hc=>?_) (fun hc=>?_)
 ·repeat (refine sd ?_)
  refine Ret.intro .tt [] [] rfl ?_ rfl rfl ?_ rfl ?_ rfl
  ·exact fc
  ·exact fc
  ·exact fc
 have hc:¬ 1000 < (N:Int):=hc
 have hPa:=fn26 x hx l N hN (by omega) hl
 have hPr:=fn27 x hx l N hN (by omega) hl
 repeat (refine sd ?_)
 refine Call.intro hPa [(1006,(301,0,none))] rfl ?_ rfl ?_ rfl ?_
 ·exact fc
 ·exact fc
 rintro v M' (⟨h8,rfl,rfl⟩ | ⟨h8,h0,k,c,hk,hkc,rfl,rfl⟩)
 ·have hU:=fn_nilU (fn23 [] 0 rfl (by omega))
  dsimp only [zt,zM,zE,ren,zz,zx,zy,look,zG,zX,ev,evL,zV,zcT,zcF,act,zP,zO,Ent.zW]
  repeat (refine sd ?_)
  refine Call.intro hPr [(1006,(302,0,none))] rfl ?_ rfl ?_ rfl ?_
  ·exact fc
  ·exact fc
  rintro v M' (⟨_,rfl,rfl⟩ | ⟨h9,h0,_⟩)
  rotate_left
  ·rcases h8 with h8 | h8
   ·omega
   ·exact absurd h0 h8
  dsimp only [zt,zM,zE,ren,zz,zx,zy,look,zG,zX,ev,evL,zV,zcT,zcF,act,zP,zO,Ent.zW]
  repeat (refine sd ?_)
  refine Call.intro hU [] rfl ?_ rfl ?_ rfl ?_
  ·exact fc
  ·exact fc
  rintro v M' (⟨x',l',N',hu,_⟩ | ⟨_,rfl,rfl⟩)
  ·exact (AcR.nil hu).elim
  dsimp only [zt,zM,zE,ren,zz,zx,zy,look,zG,zX,ev,evL,zV,zcT,zcF,act,zP,zO,Ent.zW]
  repeat (first | (refine zB.intro (fun _=>?_) (fun hn=>absurd rfl hn)) | (refine ky0 ?_) | (refine kn0 ?_) | (refine sd ?_))
  refine Call.intro fnBytes0U [] rfl ?_ rfl ?_ rfl ?_
  ·exact fc
  ·exact fc
  rintro v M' ⟨rfl,rfl⟩
  dsimp only [zt,zM,zE,ren,zz,zx,zy,look,zG,zX,ev,evL,zV,zcT,zcF,act,zP,zO,Ent.zW]
  repeat (first | (refine zB.intro (fun _=>?_) (fun hn=>absurd rfl hn)) | (refine ky0 ?_) | (refine kn0 ?_) | (refine sd ?_))
  refine Ret.intro .tt [] [] rfl ?_ rfl rfl ?_ rfl ?_ rfl
  ·exact fc
  ·exact fc
  ·exact fc
 ·have hup:=ac_pk hx h0 hl (by omega)
  have hbl:=acB_le hx hl (by omega)
  obtain ⟨b,hb⟩:∃ b,acB x l = b:=⟨_,rfl⟩
  rw [hb] at hk hup hbl ⊢
  have hU:=fn23 b k hk (by omega)
  have hBy:=fnBytesU b b k k hk hk
  have hSm:=fnSameA x hx l N hN (by omega) hl
  dsimp only [zt,zM,zE,ren,zz,zx,zy,look,zG,zX,ev,evL,zV,zcT,zcF,act,zP,zO,Ent.zW]
  repeat (refine sd ?_)
  refine Call.intro hPr [(1006,(302,0,none))] rfl ?_ rfl ?_ rfl ?_
  ·exact fc
  ·exact fc
  rintro v M' (⟨h9,_⟩ | ⟨_,_,k2,c2,hk2,hkc2,rfl,rfl⟩)
  ·rcases h9 with h9 | h9
   ·omega
   ·exact absurd h0 h9
  rw [hb] at hk2 ⊢
  obtain rfl:k = k2:=hk.symm.trans hk2
  dsimp only [zt,zM,zE,ren,zz,zx,zy,look,zG,zX,ev,evL,zV,zcT,zcF,act,zP,zO,Ent.zW]
  repeat (refine sd ?_)
  refine Call.name [(1,[])] rfl ?_ (CallP.intro hU [] rfl ?_ rfl ?_ rfl ?_)
  ·exact fc
  ·exact fc
  ·exact fc
  rintro v M' (⟨x',l',N',hu,hl',hN',rfl,rfl⟩ | ⟨hno,_⟩)
  rotate_left
  ·exact absurd ⟨_,_,hup⟩ hno
  obtain ⟨rfl,rfl⟩:=hu.det hup
  obtain rfl:N' = N:=by omega
  dsimp only [zt,zM,zE,ren,zz,zx,zy,look,zG,zX,ev,evL,zV,zcT,zcF,act,zP,zO,Ent.zW]
  repeat (first | (refine zB.intro (fun _=>?_) (fun hn=>absurd rfl hn)) | (refine ky0 ?_) | (refine kn0 ?_) | (refine sd ?_))
  refine Call.name [(1,[]),(1,[])] rfl ?_ (CallP.intro hBy [] rfl ?_ rfl ?_ rfl ?_)
  ·exact fc
  ·exact fc
  ·exact fc
  rintro v M' ⟨rfl,rfl⟩
  dsimp only [zt,zM,zE,ren,zz,zx,zy,look,zG,zX,ev,evL,zV,zcT,zcF,act,zP,zO,Ent.zW]
  repeat (first | (refine zB.intro (fun _=>?_) (fun hn=>absurd rfl hn)) | (refine ky0 ?_) | (refine kn0 ?_) | (refine sd ?_))
  refine Call.intro hSm [] rfl ?_ rfl ?_ rfl ?_
  ·exact fc
  ·exact fc
  rintro v M' ⟨rfl,rfl⟩
  dsimp only [zt,zM,zE,ren,zz,zx,zy,look,zG,zX,ev,evL,zV,zcT,zcF,act,zP,zO,Ent.zW]
  repeat (first | (refine zB.intro (fun _=>?_) (fun hn=>absurd rfl hn)) | (refine ky0 ?_) | (refine kn0 ?_) | (refine sd ?_))
  refine Ret.intro .tt [] [] rfl ?_ rfl rfl ?_ rfl ?_ rfl
  ·exact fc
  ·exact fc
  ·exact fc
theorem ac_arg {ls:List (Nat × SV)} (h:catF [cArr8 32,cArr8 32,catF [cU16,cArr8 32],cSl 33 [(1,.u16 0),(32,.a8 (List.replicate 32 0))] (catF [cU16,cArr8 32]),cU16] ls) :
  ∃ (x:Ac) (l:List On),x.OK/\l.length <= maxLen/\(∀ k ∈ l,OnOK k)/\ls = acL x (.isl 0 l.length 33 [(l.length * 33,.arr l.length 33 (onF l))]):=by
 obtain ⟨_,_,⟨ag,a1,rfl⟩,h,rfl⟩:=h
 obtain ⟨_,_,⟨sg,a2,rfl⟩,h,rfl⟩:=h
 obtain ⟨_,_,⟨_,_,⟨fi,rfl⟩,⟨_,_,⟨fs,a3,rfl⟩,e1,rfl⟩,rfl⟩,h,rfl⟩:=h
 obtain ⟨_,_,⟨n,L,b1,b2,b3,rfl⟩,h,rfl⟩:=h
 obtain ⟨_,_,⟨nx,rfl⟩,h,rfl⟩:=h
 have h:_ = []:=h
 subst h
 have e1:_ = []:=e1
 subst e1
 obtain ⟨l,c1,c2,rfl⟩:=rows_list (fun x:On=>[(1,SV.u16 x.1),(32,.a8 x.2)]) on0 OnOK (fun q hq=>by
  obtain ⟨_,_,⟨m,rfl⟩,⟨_,_,⟨b,g2,rfl⟩,rfl,rfl⟩,e⟩:=b1 q hq
  exact ⟨(m,b),g2,e⟩) b2
 subst c1
 exact ⟨⟨ag,sg,fi,fs,nx⟩,l,⟨a1,a2,a3⟩,b3,c2,rfl⟩
theorem allF1a {A:SV->Prop} {svs:List SV} (h:AllF [A] svs):∃ a,svs = [a]/\A a:=by
 match svs,h with
 | [a],⟨h1,_⟩=>exact ⟨a,rfl,h1⟩
theorem accountPacks_runs (svs:List SV) (h:AllF [isOfStruct (catF [cArr8 32,cArr8 32,catF [cU16,cArr8 32],cSl 33 [(1,.u16 0),(32,.a8 (List.replicate 32 0))] (catF [cU16,cArr8 32]),cU16])] svs):Sx.Fn Γ.P 5 svs [] (fun v _=>v = .tt):=by
 obtain ⟨_,rfl,ls,h1,rfl⟩:=allF1a h
 obtain ⟨x,l,hx,hm,hl,rfl⟩:=ac_arg h1
 exact accountPacks x hx l l.length rfl hm hl
end Go.Proofs.YtfnmgbillkiabaaGreat
