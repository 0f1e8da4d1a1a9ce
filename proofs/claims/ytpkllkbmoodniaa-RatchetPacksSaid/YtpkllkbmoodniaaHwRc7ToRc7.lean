/- What the functions of the program compute. No condition. -/
import Derived.Test.YtpkllkbmoodniaaHwRc8ToRc8
import Derived.Test.YtpkllkbmoodniaaHwRc4ToRb0
import Derived.Test.YtpkllkbmoodniaaHwRb5ToRb5
import Derived.Test.YtpkllkbmoodniaaHwRb8ToRb8
import Derived.Test.YtpkllkbmoodniaaHx7
set_option linter.unusedSimpArgs false
set_option linter.unusedVariables false
namespace Go.Proofs.Ytpkllkbmoodniaa
open Go Go.Sx
theorem UpR.det {b:List UInt8} {x y:Se} {l k:List Kp} (h:UpR b x l) (g:UpR b y k):x = y∧l = k:=by
 obtain ⟨L,h1,_,_,h2,h3⟩:=h
 obtain ⟨K,g1,_,_,g2,g3⟩:=g
 rw [h1] at g1
 have e:L = K:=Option.some.inj g1
 rw [← e] at g2 g3
 rw [h2] at g2
 exact ⟨h3.trans g3.symm,Option.some.inj g2⟩
theorem UpR.nil {x:Se} {l:List Kp} (h:UpR [] x l):False:=by
 obtain ⟨L,h1,_⟩:=h
 rw [spl_eq,if_pos (show ([]:List UInt8).length = 0 from rfl)] at h1
 cases h1
theorem fn_nilA {P:Program} {f:FuncId} {M0:Mm} {R:SV→Mm→Prop} (h:Sx.Fn P f [.isl 0 0 1 [(0,.a8 [])]] M0 R):Sx.Fn P f [.nsl] M0 R:=by
 intro ρ xs w a b
 refine h ρ xs w a ?_
 obtain ⟨y,ys,e,hy,hr⟩:=b
 have hy:y = .slice none 0 0:=hy
 exact ⟨y,ys,e,⟨0,0,0,none,Or.inr ⟨rfl,rfl,trivial⟩,Nat.le_refl _,hy,fun h=>absurd rfl h⟩,hr⟩
theorem jnRm_le (m:Nat):∀ {L:List (List UInt8)},(∀ y ∈ L,y.length ≤ m)→(jnR L).length ≤ L.length * (m + 2)
 | [],_=>Nat.zero_le _
 | x :: r,h=>by
  have h1:=h x (List.mem_cons_self ..)
  have h2:=jnRm_le m (L:=r) (fun y hy=>h y (List.mem_cons_of_mem _ hy))
  show ([UInt8.ofNat (x.length / 256),UInt8.ofNat x.length] ++ x ++ jnR r).length ≤ (r.length + 1) * (m + 2)
  rw [List.length_append,List.length_append,Nat.add_mul]
  show 2 + x.length + (jnR r).length ≤ _
  omega
theorem pkB_le {x:Se} (hx:x.OK) {l:List Kp} (hl:∀ k ∈ l,KpOK k) (h16:l.length ≤ 16):(pkB x l).length ≤ 200000:=by
 have h:=jnRm_le 4096 (pkA_le hx hl)
 rw [pkA_length] at h
 have h2:(16 + l.length) * (4096 + 2) ≤ 32 * 4098:=Nat.mul_le_mul (by omega) (Nat.le_refl _)
 unfold pkB
 rw [jnB_eq,List.length_cons]
 omega
theorem fnBytesV (x y:List UInt8) (n m:Nat) (hx:x.length = n) (hy:y.length = m):Sx.Fn Γ.P 19 [.isl 0 n 1 [(n,.a8 x)],.isl 0 m 1 [(m,.a8 y)]] [] (fun v M=>v = .bool (x = y)∧M = []):=by
 have h:=fn19 x y
 rw [hx,hy,Nat.mul_one,Nat.mul_one] at h
 exact h
set_option maxRecDepth 100000 in
theorem fnBytes0:Sx.Fn Γ.P 19 [.nsl,.nsl] [] (fun v M=>v = .tt∧M = []):=by
 refine fn_of (Γ:=Γ) (fn:=Try.f19) rfl rfl rfl rfl ?_
 repeat (refine sd ?_)
 refine Ret.intro .tt [] [] rfl ?_ ⟨rfl,rfl⟩ rfl ?_ rfl ?_ rfl
 ·exact fc
 ·exact fc
 ·exact fc
set_option maxRecDepth 100000 in
set_option maxHeartbeats 8000000 in
theorem ratchetPacks (x:Se) (hx:x.OK) (l:List Kp) (N:Nat) (hN:l.length = N) (hNm:N ≤ maxLen) (hl:∀ k ∈ l,KpOK k) :
  Sx.Fn Γ.P 5 [.agg (seL x (.isl 0 N 65 [(N * 65,.arr N 65 (kpF l))]))] [] (fun v _=>v = .tt):=by
 have hmx:maxLen = 9223372036854775807:=by decide
 have hx':=hx
 obtain ⟨h1,h2,h3,h4,h5,h6,h7,h8,h9,_⟩:=hx'
 refine fn_of (Γ:=Γ) (fn:=Try.f5) rfl rfl rfl rfl ?_
 repeat (refine sd ?_)
 refine Call.intro fn6 [] rfl trivial rfl trivial rfl ?_
 rintro v M' rfl
 dsimp only [putT,afterM,newEnt,ren,renA,renS,renL,look,getM,getT,ev,evL,ofVal,cond_true,cond_false,Nat.beq_eq,act,isPar,ownPar,Ent.isOwn]
 repeat (first | (refine Branch.intro (fun _=>?_) (fun hn=>absurd rfl hn)) | (refine Branch.intro (fun hn=>(by with_reducible exact False.elim hn)) (fun _=>?_)) | (refine Branch.intro (fun _=>?_) (fun hn=>(by with_reducible exact absurd trivial hn))) | (refine Branch.intro (fun hn=>(by with_reducible exact absurd trivial hn)) (fun _=>?_)) | (refine Branch.intro (fun hn=>(by with_reducible exact absurd rfl hn)) (fun _=>?_)) | (refine Branch.intro (fun _=>?_) (fun hn=>(by with_reducible exact absurd Iff.rfl hn))) | (refine Branch.intro (fun hn=>(by with_reducible exact absurd Iff.rfl hn)) (fun _=>?_)) | (refine sd ?_))
 refine Branch.intro (fun hc=>?_) (fun hc=>?_)
 ·repeat (refine sd ?_)
  refine Ret.intro .tt [] [] rfl ?_ rfl rfl ?_ rfl ?_ rfl
  ·exact fc
  ·exact fc
  ·exact fc
 have hc:¬ 1000 < (N:Int):=hc
 have hPa:=fn23 x hx l N N hN (Nat.le_refl _) (by omega) hl
 have hPr:=fn24 x hx l N N hN (Nat.le_refl _) (by omega) hl
 have hlt:l.take N = l:=List.take_of_length_le (by omega)
 rw [hlt] at hPa hPr
 repeat (refine sd ?_)
 refine Call.intro hPa [(1006,(301,0,none))] rfl ?_ rfl ?_ rfl ?_
 ·exact fc
 ·exact fc
 rintro v M' (⟨h16,rfl,rfl⟩ | ⟨h16,k,c,hk,hkc,rfl,rfl⟩)
 ·have hU:=fn_nilA (fn25 [] 0 rfl (by omega))
  dsimp only [putT,afterM,newEnt,ren,renA,renS,renL,look,getM,getT,ev,evL,ofVal,cond_true,cond_false,Nat.beq_eq,act,isPar,ownPar,Ent.isOwn]
  repeat (refine sd ?_)
  refine Call.intro hPr [(1006,(302,0,none))] rfl ?_ rfl ?_ rfl ?_
  ·exact fc
  ·exact fc
  rintro v M' (⟨_,rfl,rfl⟩ | ⟨h17,_⟩)
  rotate_left
  ·omega
  dsimp only [putT,afterM,newEnt,ren,renA,renS,renL,look,getM,getT,ev,evL,ofVal,cond_true,cond_false,Nat.beq_eq,act,isPar,ownPar,Ent.isOwn]
  repeat (refine sd ?_)
  refine Call.intro hU [] rfl ?_ rfl ?_ rfl ?_
  ·exact fc
  ·exact fc
  rintro v M' (⟨x',l',N',hu,_⟩ | ⟨_,rfl,rfl⟩)
  ·exact (UpR.nil hu).elim
  dsimp only [putT,afterM,newEnt,ren,renA,renS,renL,look,getM,getT,ev,evL,ofVal,cond_true,cond_false,Nat.beq_eq,act,isPar,ownPar,Ent.isOwn]
  repeat (first | (refine Branch.intro (fun _=>?_) (fun hn=>absurd rfl hn)) | (refine Branch.intro (fun hn=>(by with_reducible exact False.elim hn)) (fun _=>?_)) | (refine Branch.intro (fun _=>?_) (fun hn=>(by with_reducible exact absurd trivial hn))) | (refine Branch.intro (fun hn=>(by with_reducible exact absurd trivial hn)) (fun _=>?_)) | (refine Branch.intro (fun hn=>(by with_reducible exact absurd rfl hn)) (fun _=>?_)) | (refine Branch.intro (fun _=>?_) (fun hn=>(by with_reducible exact absurd Iff.rfl hn))) | (refine Branch.intro (fun hn=>(by with_reducible exact absurd Iff.rfl hn)) (fun _=>?_)) | (refine sd ?_))
  refine Call.intro fnBytes0 [] rfl ?_ rfl ?_ rfl ?_
  ·exact fc
  ·exact fc
  rintro v M' ⟨rfl,rfl⟩
  dsimp only [putT,afterM,newEnt,ren,renA,renS,renL,look,getM,getT,ev,evL,ofVal,cond_true,cond_false,Nat.beq_eq,act,isPar,ownPar,Ent.isOwn]
  repeat (first | (refine Branch.intro (fun _=>?_) (fun hn=>absurd rfl hn)) | (refine Branch.intro (fun hn=>(by with_reducible exact False.elim hn)) (fun _=>?_)) | (refine Branch.intro (fun _=>?_) (fun hn=>(by with_reducible exact absurd trivial hn))) | (refine Branch.intro (fun hn=>(by with_reducible exact absurd trivial hn)) (fun _=>?_)) | (refine Branch.intro (fun hn=>(by with_reducible exact absurd rfl hn)) (fun _=>?_)) | (refine Branch.intro (fun _=>?_) (fun hn=>(by with_reducible exact absurd Iff.rfl hn))) | (refine Branch.intro (fun hn=>(by with_reducible exact absurd Iff.rfl hn)) (fun _=>?_)) | (refine sd ?_))
  refine Ret.intro .tt [] [] rfl ?_ rfl rfl ?_ rfl ?_ rfl
  ·exact fc
  ·exact fc
  ·exact fc
 ·obtain ⟨b,hb⟩:∃ b,pkB x l = b:=⟨_,rfl⟩
  have hup:=up_pk hx hl (by omega)
  rw [hb] at hPr hk hup ⊢
  have hkm:k ≤ maxLen:=by
   have:=pkB_le hx hl (by omega)
   rw [hb,hk] at this
   omega
  have hU:=fn25 b k hk hkm
  have hBy:=fnBytesV b b k k hk hk
  have hSm:=fn13 x { x with kp:=[] } hx ⟨h1,h2,h3,h4,h5,h6,h7,h8,h9,fun _ h=>by cases h⟩ l l N N N N hN (Nat.le_refl _) (by omega) hl hN (Nat.le_refl _) (by omega) hl
  have hsame:sameP x { x with kp:=[] }∧l.take N = l.take N:=⟨⟨rfl,rfl,rfl,rfl,rfl,rfl,rfl,rfl,rfl,rfl,rfl,rfl,rfl,rfl,rfl,rfl⟩,rfl⟩
  dsimp only [putT,afterM,newEnt,ren,renA,renS,renL,look,getM,getT,ev,evL,ofVal,cond_true,cond_false,Nat.beq_eq,act,isPar,ownPar,Ent.isOwn]
  repeat (refine sd ?_)
  refine Call.intro hPr [(1006,(302,0,none))] rfl ?_ rfl ?_ rfl ?_
  ·exact fc
  ·exact fc
  rintro v M' (⟨h17,_⟩ | ⟨_,k2,c2,hk2,hkc2,rfl,rfl⟩)
  ·omega
  obtain rfl:k = k2:=hk.symm.trans hk2
  dsimp only [putT,afterM,newEnt,ren,renA,renS,renL,look,getM,getT,ev,evL,ofVal,cond_true,cond_false,Nat.beq_eq,act,isPar,ownPar,Ent.isOwn]
  repeat (refine sd ?_)
  refine Call.name [(1,[])] rfl ?_ (CallP.intro hU [] rfl ?_ rfl ?_ rfl ?_)
  ·exact fc
  ·exact fc
  ·exact fc
  rintro v M' (⟨x',l',N',hu,hl',hN',rfl,rfl⟩ | ⟨hno,_⟩)
  rotate_left
  ·exact absurd ⟨_,_,hup⟩ hno
  obtain ⟨rfl,rfl⟩:=hu.det hup
  obtain rfl:N' = N:=by omega
  dsimp only [putT,afterM,newEnt,ren,renA,renS,renL,look,getM,getT,ev,evL,ofVal,cond_true,cond_false,Nat.beq_eq,act,isPar,ownPar,Ent.isOwn]
  repeat (first | (refine Branch.intro (fun _=>?_) (fun hn=>absurd rfl hn)) | (refine Branch.intro (fun hn=>(by with_reducible exact False.elim hn)) (fun _=>?_)) | (refine Branch.intro (fun _=>?_) (fun hn=>(by with_reducible exact absurd trivial hn))) | (refine Branch.intro (fun hn=>(by with_reducible exact absurd trivial hn)) (fun _=>?_)) | (refine Branch.intro (fun hn=>(by with_reducible exact absurd rfl hn)) (fun _=>?_)) | (refine Branch.intro (fun _=>?_) (fun hn=>(by with_reducible exact absurd Iff.rfl hn))) | (refine Branch.intro (fun hn=>(by with_reducible exact absurd Iff.rfl hn)) (fun _=>?_)) | (refine sd ?_))
  refine Call.name [(1,[]),(1,[])] rfl ?_ (CallP.intro hBy [] rfl ?_ rfl ?_ rfl ?_)
  ·exact fc
  ·exact fc
  ·exact fc
  rintro v M' ⟨rfl,rfl⟩
  dsimp only [putT,afterM,newEnt,ren,renA,renS,renL,look,getM,getT,ev,evL,ofVal,cond_true,cond_false,Nat.beq_eq,act,isPar,ownPar,Ent.isOwn]
  repeat (first | (refine Branch.intro (fun _=>?_) (fun hn=>absurd rfl hn)) | (refine Branch.intro (fun hn=>(by with_reducible exact False.elim hn)) (fun _=>?_)) | (refine Branch.intro (fun _=>?_) (fun hn=>(by with_reducible exact absurd trivial hn))) | (refine Branch.intro (fun hn=>(by with_reducible exact absurd trivial hn)) (fun _=>?_)) | (refine Branch.intro (fun hn=>(by with_reducible exact absurd rfl hn)) (fun _=>?_)) | (refine Branch.intro (fun _=>?_) (fun hn=>(by with_reducible exact absurd Iff.rfl hn))) | (refine Branch.intro (fun hn=>(by with_reducible exact absurd Iff.rfl hn)) (fun _=>?_)) | (refine sd ?_))
  refine Call.intro hSm [] rfl ?_ rfl ?_ rfl ?_
  ·exact fc
  ·exact fc
  rintro v M' ⟨rfl,rfl⟩
  dsimp only [putT,afterM,newEnt,ren,renA,renS,renL,look,getM,getT,ev,evL,ofVal,cond_true,cond_false,Nat.beq_eq,act,isPar,ownPar,Ent.isOwn]
  repeat (first | (refine Branch.intro (fun _=>?_) (fun hn=>absurd rfl hn)) | (refine Branch.intro (fun hn=>(by with_reducible exact False.elim hn)) (fun _=>?_)) | (refine Branch.intro (fun _=>?_) (fun hn=>(by with_reducible exact absurd hsame hn))) | (refine Branch.intro (fun hn=>(by with_reducible exact absurd hn hsame)) (fun _=>?_)) | (refine Branch.intro (fun _=>?_) (fun hn=>(by with_reducible exact absurd trivial hn))) | (refine Branch.intro (fun hn=>(by with_reducible exact absurd trivial hn)) (fun _=>?_)) | (refine Branch.intro (fun hn=>(by with_reducible exact absurd rfl hn)) (fun _=>?_)) | (refine Branch.intro (fun _=>?_) (fun hn=>(by with_reducible exact absurd Iff.rfl hn))) | (refine Branch.intro (fun hn=>(by with_reducible exact absurd Iff.rfl hn)) (fun _=>?_)) | (refine sd ?_))
  refine Ret.intro .tt [] [] rfl ?_ rfl rfl ?_ rfl ?_ rfl
  ·exact fc
  ·exact fc
  ·exact fc
theorem se_arg {ls:List (Nat × SV)} (h:catF [cArr8 32,cArr8 32,cArr8 32,cBool,catF [cArr8 32,cU16],cU16,cArr8 32,cBool,catF [cArr8 32,cU16],cBool,cArr8 32,cArr8 32,cArr8 32,cU16,cSl 65 [(32,.a8 (List.replicate 32 0)),(1,.u16 0),(32,.a8 (List.replicate 32 0))] (catF [cArr8 32,cU16,cArr8 32])] ls) :
  ∃ (x:Se) (l:List Kp),x.OK∧l.length ≤ maxLen∧(∀ k ∈ l,KpOK k)∧x.kp = l∧ls = seL x (.isl 0 l.length 65 [(l.length * 65,.arr l.length 65 (kpF l))]):=by
 obtain ⟨_,_,⟨id,a1,rfl⟩,h,rfl⟩:=h
 obtain ⟨_,_,⟨root,a2,rfl⟩,h,rfl⟩:=h
 obtain ⟨_,_,⟨mine,a3,rfl⟩,h,rfl⟩:=h
 obtain ⟨_,_,⟨hs,rfl⟩,h,rfl⟩:=h
 obtain ⟨_,_,⟨_,_,⟨sk,a4,rfl⟩,⟨_,_,⟨sn,rfl⟩,e1,rfl⟩,rfl⟩,h,rfl⟩:=h
 obtain ⟨_,_,⟨pv,rfl⟩,h,rfl⟩:=h
 obtain ⟨_,_,⟨th,a5,rfl⟩,h,rfl⟩:=h
 obtain ⟨_,_,⟨hr,rfl⟩,h,rfl⟩:=h
 obtain ⟨_,_,⟨_,_,⟨rk,a6,rfl⟩,⟨_,_,⟨rn,rfl⟩,e2,rfl⟩,rfl⟩,h,rfl⟩:=h
 obtain ⟨_,_,⟨fi,rfl⟩,h,rfl⟩:=h
 obtain ⟨_,_,⟨ag,a7,rfl⟩,h,rfl⟩:=h
 obtain ⟨_,_,⟨sg,a8,rfl⟩,h,rfl⟩:=h
 obtain ⟨_,_,⟨ba,a9,rfl⟩,h,rfl⟩:=h
 obtain ⟨_,_,⟨oc,rfl⟩,h,rfl⟩:=h
 obtain ⟨_,_,⟨n,L,b1,b2,b3,rfl⟩,h,rfl⟩:=h
 have h:_ = []:=h
 subst h
 have e1:_ = []:=e1
 subst e1
 have e2:_ = []:=e2
 subst e2
 obtain ⟨l,c1,c2,rfl⟩:=rows_list (fun x:Kp=>[(32,SV.a8 x.1),(1,.u16 x.2.1),(32,.a8 x.2.2)]) kp0 KpOK (fun q hq=>by
  obtain ⟨_,_,⟨a,g1,rfl⟩,⟨_,_,⟨m,rfl⟩,⟨_,_,⟨b,g2,rfl⟩,rfl,rfl⟩,rfl⟩,e⟩:=b1 q hq
  exact ⟨(a,m,b),⟨g1,g2⟩,e⟩) b2
 subst c1
 exact ⟨⟨id,root,mine,hs,sk,sn,pv,th,hr,rk,rn,fi,ag,sg,ba,oc,l⟩,l,⟨a1,a2,a3,a4,a5,a6,a7,a8,a9,c2⟩,b3,c2,rfl,rfl⟩
theorem allF1 {A:SV→Prop} {svs:List SV} (h:AllF [A] svs):∃ a,svs = [a]∧A a:=by
 match svs,h with
 | [a],⟨h1,_⟩=>exact ⟨a,rfl,h1⟩
set_option maxRecDepth 100000 in
theorem ratchetPacks_runs (svs:List SV) (h:AllF [isOfStruct (catF [cArr8 32,cArr8 32,cArr8 32,cBool,catF [cArr8 32,cU16],cU16,cArr8 32,cBool,catF [cArr8 32,cU16],cBool,cArr8 32,cArr8 32,cArr8 32,cU16,cSl 65 [(32,.a8 (List.replicate 32 0)),(1,.u16 0),(32,.a8 (List.replicate 32 0))] (catF [cArr8 32,cU16,cArr8 32])])] svs):Sx.Fn Γ.P 5 svs [] (fun v _=>v = .tt):=by
 obtain ⟨_,rfl,ls,h1,rfl⟩:=allF1 h
 obtain ⟨x,l,hx,hm,hl,_,rfl⟩:=se_arg h1
 exact ratchetPacks x hx l l.length rfl hm hl
end Go.Proofs.Ytpkllkbmoodniaa
