/- What the functions of the program compute. No condition. -/
import Derived.Test.YtlbmkjckbfeejaaHwSs5ToGt
import Derived.Test.YtlbmkjckbfeejaaHwMx3ToMx2
import Derived.Test.YtlbmkjckbfeejaaHwMx1ToMx1
set_option linter.unusedSimpArgs false
set_option linter.unusedVariables false
namespace Go.Proofs.Ytlbmkjckbfeejaa
open Go Go.Sx
set_option maxRecDepth 100000 in
theorem suiteSizes (n:Int):Sx.Fn Γ.P 4 [.i .i64 n] [] (fun v _=>v = .tt):=by
 obtain ⟨z,hz⟩:∃ z,sizS n = z:=⟨_,rfl⟩
 have h1:=fn12 n
 have h2:=fn14 n
 rw [hz] at h1 h2
 refine fn_of (Γ:=Γ) (fn:=Try.f4) rfl rfl rfl rfl ?_
 repeat (refine sd ?_)
 refine Call.intro fn6 [] rfl trivial rfl trivial rfl ?_
 rintro v M' rfl
 dsimp only [putT,afterM,newEnt,ren,renA,renS,renL,look,getM,getT,ev,evL,ofVal,cond_true,cond_false,Nat.beq_eq,act,isPar,ownPar,Ent.isOwn]
 repeat (first | (refine Branch.intro (fun _=>?_) (fun hn=>absurd rfl hn)) | (refine Branch.intro (fun hn=>(by with_reducible exact False.elim hn)) (fun _=>?_)) | (refine sd ?_))
 refine Call.pure h1 rfl fc ?_
 intro v hv
 subst hv
 repeat (first | (refine Branch.intro (fun _=>?_) (fun hn=>absurd rfl hn)) | (refine Branch.intro (fun hn=>(by with_reducible exact False.elim hn)) (fun _=>?_)) | (refine sd ?_))
 refine Call.pure h2 rfl fc ?_
 intro v hv
 subst hv
 repeat (first | (refine Branch.intro (fun _=>?_) (fun hn=>absurd rfl hn)) | (refine Branch.intro (fun hn=>(by with_reducible exact False.elim hn)) (fun _=>?_)) | (refine sd ?_))
 refine Ret.intro .tt [] [] rfl ?_ rfl rfl ?_ rfl ?_ rfl
 ·exact fc
 ·exact fc
 ·exact fc
theorem suiteSizes_runs (svs:List SV) (h:AllF [isInt .i64] svs):Sx.Fn Γ.P 4 svs [] (fun v _=>v = .tt):=by
 obtain ⟨s1,r1,rfl,h1,h⟩:=AllF_cons h
 obtain rfl:=AllF_nil h
 have h2:∃ n:Int,s1 = .i .i64 n:=Exists.elim h1 fun n hn=>Exists.intro n hn.2
 clear h1 h
 obtain ⟨n,rfl⟩:=h2
 exact suiteSizes n
def okL (L:List (List UInt8)):Prop:=L.length ≤ 8∧∀ x ∈ L,x.length ≤ 1024
theorem okL_bad {L:List (List UInt8)} {n:Nat} (hn:L.length = n) (h:¬ okL L):n ≤ 8→∃ j,j < n∧1024 < (L.getD j []).length:=by
 intro h8
 by_cases hx:∀ x ∈ L,x.length ≤ 1024
 ·exact absurd ⟨by omega,hx⟩ h
 ·simp only [Classical.not_forall,not_imp] at hx
  obtain ⟨x,hx,hl⟩:=hx
  obtain ⟨q,hq,rfl⟩:=List.getElem_of_mem hx
  have e:L.getD q [] = L[q]:=by rw [List.getD_eq_getElem?_getD,List.getElem?_eq_getElem hq];rfl
  exact ⟨q,by omega,by rw [e];omega⟩
theorem fnRMixFA (lab:UInt8) (L:List (List UInt8)) (n:Nat) (hn:L.length = n) (ho:okL L) :
  Sx.Fn Γ.P 17 [.agg [(1,.ptr 1000 0 none)],.u8 lab,.slx 1003 0 0 n] (M12 0 0 [] 1001 n L)
  (fun v M=>∃ n' c',(mkT [] (7,[lab] :: L)).1.length = n'∧n' ≤ c'∧v = .tup [.a8 (kyB (mkT [] (7,[lab] :: L)).2),.bool ((mkT [] (7,[lab] :: L)).2 ≠ 0)]∧M = (1001,.dead) :: M12 n' c' (mkT [] (7,[lab] :: L)).1 1005 n L):=by
 rcases Nat.eq_zero_or_pos n with h | h
 ·subst h
  obtain rfl:L = []:=List.eq_nil_of_length_eq_zero hn
  exact fnRMixF0 [] 0 0 rfl (by omega) (Nat.le_refl _) (fun x h=>by cases h) lab
 ·exact fnRMixF [] 0 0 rfl (by omega) (Nat.le_refl _) (fun x h=>by cases h) lab L n hn h (by have:=ho.1;omega) ho.2
theorem fnRMixRA (lab:UInt8) (L:List (List UInt8)) (n:Nat) (hn:L.length = n) (ho:okL L) :
  Sx.Fn Γ.P 17 [.agg [(1,.nilp)],.u8 lab,.slx 1003 0 0 n] [(1003,.mem false 0 (rwS n L))]
   (fun v M=>v = .tup [.a8 (hmac [lab] (jnB L)),.tt]∧M = [(1003,.mem false 0 (rwS n L))]):=by
 rcases Nat.eq_zero_or_pos n with h | h
 ·subst h
  obtain rfl:L = []:=List.eq_nil_of_length_eq_zero hn
  exact fnRMixR0 lab
 ·exact fnRMixR lab L n hn h (by have:=ho.1;omega) ho.2
set_option maxRecDepth 100000 in
set_option maxHeartbeats 1000000 in
theorem suiteMixesR (P:Prop) (hP:¬ P) (lab:UInt8) (L:List (List UInt8)) (n:Nat) (hn:L.length = n) (hnm:n ≤ maxLen) (hL:∀ x ∈ L,x.length ≤ maxLen) (ho:okL L):Sx.Fn Γ.P 5 [.bool P,.u8 lab,slP n L] [] (fun v _=>v = .tt):=by
 have hM:=fnMixR lab L n hn (by have:=ho.1;omega) ho.2
 have hW:=fnRMixRA lab L n hn ho
 have hkl:=hmac_length [lab] (jnB L)
 unfold rwS at hM hW
 refine fn_of (Γ:=Γ) (fn:=Try.f5) rfl rfl rfl rfl ?_
 repeat (refine sd ?_)
 refine Call.intro fn6 [] rfl trivial rfl trivial rfl ?_
 rintro v M' rfl
 dsimp only [putT,afterM,newEnt,ren,renA,renS,renL,look,getM,getT,ev,evL,ofVal,cond_true,cond_false,Nat.beq_eq,act,isPar,ownPar,Ent.isOwn]
 repeat (first | (refine Branch.intro (fun _=>?_) (fun hn=>absurd rfl hn)) | (refine Branch.intro (fun hn=>(by with_reducible exact False.elim hn)) (fun _=>?_)) | (refine sd ?_))
 refine Call.pure (fn15 n L hn hnm hL) rfl ?_ ?_
 ·exact fc
 rintro v ⟨p,rfl,hp⟩
 repeat (refine sd ?_)
 refine Branch.intro (fun hc=>?_) (fun hc=>?_)
 ·repeat (refine sd ?_)
  refine Ret.intro .tt [] [] rfl ?_ rfl rfl ?_ rfl ?_ rfl
  ·exact fc
  ·exact fc
  ·exact fc
 obtain ⟨hn4,hL4⟩:=hp hc
 repeat (refine sd ?_)
 unfold slP
 refine Call.intro fnSuiteR [] rfl ?_ rfl ?_ rfl ?_
 ·exact fc
 ·exact fc
 rintro v M' ⟨rfl,rfl⟩
 dsimp only [putT,afterM,newEnt,ren,renA,renS,renL,look,getM,getT,ev,evL,ofVal,cond_true,cond_false,Nat.beq_eq,act,isPar,ownPar,Ent.isOwn]
 repeat (refine sd ?_)
 refine Call.name [(0,[]),(0,[]),(2001,[])] rfl ?_ (CallP.intro hM [(1003,(2001,0,none))] rfl ?_ rfl ?_ rfl ?_)
 ·exact fc
 ·exact fc
 ·exact fc
 rintro v M' ⟨rfl,rfl⟩
 dsimp only [putT,afterM,newEnt,ren,renA,renS,renL,look,getM,getT,ev,evL,ofVal,cond_true,cond_false,Nat.beq_eq,act,isPar,ownPar,Ent.isOwn]
 repeat (refine sd ?_)
 refine Call.intro fnRefR [] rfl ?_ rfl ?_ rfl ?_
 ·exact fc
 ·exact fc
 rintro v M' ⟨rfl,rfl⟩
 dsimp only [putT,afterM,newEnt,ren,renA,renS,renL,look,getM,getT,ev,evL,ofVal,cond_true,cond_false,Nat.beq_eq,act,isPar,ownPar,Ent.isOwn]
 repeat (refine sd ?_)
 refine Call.name [(0,[]),(0,[]),(2002,[])] rfl ?_ (CallP.intro hW [(1003,(2002,0,none))] rfl ?_ rfl ?_ rfl ?_)
 ·exact fc
 ·exact fc
 ·exact fc
 rintro v M' ⟨rfl,rfl⟩
 dsimp only [putT,afterM,newEnt,ren,renA,renS,renL,look,getM,getT,ev,evL,ofVal,cond_true,cond_false,Nat.beq_eq,act,isPar,ownPar,Ent.isOwn]
 repeat (refine sd ?_)
 repeat (first | (refine Branch.intro (fun _=>?_) (fun hn=>absurd rfl hn)) | (refine Branch.intro (fun hn=>(by with_reducible exact False.elim hn)) (fun _=>?_)) | (refine sd ?_))
 refine Ret.intro .tt [] [] rfl ?_ rfl rfl ?_ rfl ?_ rfl
 ·exact fc
 ·exact fc
 ·exact fc
set_option maxRecDepth 100000 in
set_option maxHeartbeats 1000000 in
theorem suiteMixesRB (P:Prop) (hP:¬ P) (lab:UInt8) (L:List (List UInt8)) (n:Nat) (hn:L.length = n) (hnm:n ≤ maxLen) (hL:∀ x ∈ L,x.length ≤ maxLen) (ho:¬ okL L):Sx.Fn Γ.P 5 [.bool P,.u8 lab,slP n L] [] (fun v _=>v = .tt):=by
 refine fn_of (Γ:=Γ) (fn:=Try.f5) rfl rfl rfl rfl ?_
 repeat (refine sd ?_)
 refine Call.intro fn6 [] rfl trivial rfl trivial rfl ?_
 rintro v M' rfl
 dsimp only [putT,afterM,newEnt,ren,renA,renS,renL,look,getM,getT,ev,evL,ofVal,cond_true,cond_false,Nat.beq_eq,act,isPar,ownPar,Ent.isOwn]
 repeat (first | (refine Branch.intro (fun _=>?_) (fun hn=>absurd rfl hn)) | (refine Branch.intro (fun hn=>(by with_reducible exact False.elim hn)) (fun _=>?_)) | (refine sd ?_))
 refine Call.pure (fn15 n L hn hnm hL) rfl ?_ ?_
 ·exact fc
 rintro v ⟨p,rfl,hp⟩
 repeat (refine sd ?_)
 refine Branch.intro (fun hc=>?_) (fun hc=>?_)
 ·repeat (refine sd ?_)
  refine Ret.intro .tt [] [] rfl ?_ rfl rfl ?_ rfl ?_ rfl
  ·exact fc
  ·exact fc
  ·exact fc
 obtain ⟨hn4,hL4⟩:=hp hc
 repeat (refine sd ?_)
 have hM:=fnMixRB lab L n hn (by omega) (fun x h=>by have:=hL4 x h;omega) (okL_bad hn ho)
 have hW:=fnRMixRB lab L n hn (by omega) (fun x h=>by have:=hL4 x h;omega) (okL_bad hn ho)
 unfold rwS at hM hW
 unfold slP
 refine Call.intro fnSuiteR [] rfl ?_ rfl ?_ rfl ?_
 ·exact fc
 ·exact fc
 rintro v M' ⟨rfl,rfl⟩
 dsimp only [putT,afterM,newEnt,ren,renA,renS,renL,look,getM,getT,ev,evL,ofVal,cond_true,cond_false,Nat.beq_eq,act,isPar,ownPar,Ent.isOwn]
 repeat (refine sd ?_)
 refine Call.name [(0,[]),(0,[]),(2001,[])] rfl ?_ (CallP.intro hM [(1003,(2001,0,none))] rfl ?_ rfl ?_ rfl ?_)
 ·exact fc
 ·exact fc
 ·exact fc
 rintro v M' ⟨rfl,rfl⟩
 dsimp only [putT,afterM,newEnt,ren,renA,renS,renL,look,getM,getT,ev,evL,ofVal,cond_true,cond_false,Nat.beq_eq,act,isPar,ownPar,Ent.isOwn]
 repeat (refine sd ?_)
 refine Call.intro fnRefR [] rfl ?_ rfl ?_ rfl ?_
 ·exact fc
 ·exact fc
 rintro v M' ⟨rfl,rfl⟩
 dsimp only [putT,afterM,newEnt,ren,renA,renS,renL,look,getM,getT,ev,evL,ofVal,cond_true,cond_false,Nat.beq_eq,act,isPar,ownPar,Ent.isOwn]
 repeat (refine sd ?_)
 refine Call.name [(0,[]),(0,[]),(2002,[])] rfl ?_ (CallP.intro hW [(1003,(2002,0,none))] rfl ?_ rfl ?_ rfl ?_)
 ·exact fc
 ·exact fc
 ·exact fc
 rintro v M' ⟨rfl,rfl⟩
 dsimp only [putT,afterM,newEnt,ren,renA,renS,renL,look,getM,getT,ev,evL,ofVal,cond_true,cond_false,Nat.beq_eq,act,isPar,ownPar,Ent.isOwn]
 repeat (refine sd ?_)
 repeat (first | (refine Branch.intro (fun _=>?_) (fun hn=>absurd rfl hn)) | (refine Branch.intro (fun hn=>(by with_reducible exact False.elim hn)) (fun _=>?_)) | (refine sd ?_))
 refine Ret.intro .tt [] [] rfl ?_ rfl rfl ?_ rfl ?_ rfl
 ·exact fc
 ·exact fc
 ·exact fc
set_option maxRecDepth 100000 in
set_option maxHeartbeats 1000000 in
theorem suiteMixesFB (P:Prop) (hP:P) (lab:UInt8) (L:List (List UInt8)) (n:Nat) (hn:L.length = n) (hnm:n ≤ maxLen) (hL:∀ x ∈ L,x.length ≤ maxLen) (ho:¬ okL L):Sx.Fn Γ.P 5 [.bool P,.u8 lab,slP n L] [] (fun v _=>v = .tt):=by
 refine fn_of (Γ:=Γ) (fn:=Try.f5) rfl rfl rfl rfl ?_
 repeat (refine sd ?_)
 refine Call.intro fn6 [] rfl trivial rfl trivial rfl ?_
 rintro v M' rfl
 dsimp only [putT,afterM,newEnt,ren,renA,renS,renL,look,getM,getT,ev,evL,ofVal,cond_true,cond_false,Nat.beq_eq,act,isPar,ownPar,Ent.isOwn]
 repeat (first | (refine Branch.intro (fun _=>?_) (fun hn=>absurd rfl hn)) | (refine Branch.intro (fun hn=>(by with_reducible exact False.elim hn)) (fun _=>?_)) | (refine sd ?_))
 refine Call.pure (fn15 n L hn hnm hL) rfl ?_ ?_
 ·exact fc
 rintro v ⟨p,rfl,hp⟩
 repeat (refine sd ?_)
 refine Branch.intro (fun hc=>?_) (fun hc=>?_)
 ·repeat (refine sd ?_)
  refine Ret.intro .tt [] [] rfl ?_ rfl rfl ?_ rfl ?_ rfl
  ·exact fc
  ·exact fc
  ·exact fc
 obtain ⟨hn4,hL4⟩:=hp hc
 repeat (refine sd ?_)
 have hM:=fnMixFB lab L n hn (by omega) (fun x h=>by have:=hL4 x h;omega) (okL_bad hn ho)
 have hW:=fnRMixFB lab L n hn (by omega) (fun x h=>by have:=hL4 x h;omega) (okL_bad hn ho)
 unfold rwS at hM hW
 unfold slP
 refine Call.intro fnSuiteF [(1000,(1000,0,none)),(1001,(1001,0,none)),(1002,(1002,0,none))] rfl ?_ rfl ?_ rfl ?_
 ·exact fc
 ·exact fc
 rintro v M' ⟨rfl,rfl⟩
 dsimp only [putT,afterM,newEnt,ren,renA,renS,renL,look,getM,getT,ev,evL,ofVal,cond_true,cond_false,Nat.beq_eq,act,isPar,ownPar,Ent.isOwn]
 repeat (refine sd ?_)
 refine Call.name [(0,[]),(0,[]),(2001,[])] rfl ?_ (CallP.intro hM [(1003,(2001,0,none)),(1000,(1000,0,none))] rfl ?_ rfl ?_ rfl ?_)
 ·exact fc
 ·exact fc
 ·exact fc
 rintro v M' ⟨rfl,rfl⟩
 dsimp only [putT,afterM,newEnt,ren,renA,renS,renL,look,getM,getT,ev,evL,ofVal,cond_true,cond_false,Nat.beq_eq,act,isPar,ownPar,Ent.isOwn]
 repeat (refine sd ?_)
 refine Call.intro fnRefF [(1000,(1100,0,none)),(1001,(1101,0,none))] rfl ?_ rfl ?_ rfl ?_
 ·exact fc
 ·exact fc
 rintro v M' ⟨rfl,rfl⟩
 dsimp only [putT,afterM,newEnt,ren,renA,renS,renL,look,getM,getT,ev,evL,ofVal,cond_true,cond_false,Nat.beq_eq,act,isPar,ownPar,Ent.isOwn]
 repeat (refine sd ?_)
 refine Call.name [(0,[]),(0,[]),(2002,[])] rfl ?_ (CallP.intro hW [(1003,(2002,0,none)),(1000,(1100,0,none))] rfl ?_ rfl ?_ rfl ?_)
 ·exact fc
 ·exact fc
 ·exact fc
 rintro v M' ⟨rfl,rfl⟩
 dsimp only [putT,afterM,newEnt,ren,renA,renS,renL,look,getM,getT,ev,evL,ofVal,cond_true,cond_false,Nat.beq_eq,act,isPar,ownPar,Ent.isOwn]
 repeat (refine sd ?_)
 repeat (first | (refine Branch.intro (fun _=>?_) (fun hn=>absurd rfl hn)) | (refine Branch.intro (fun hn=>(by with_reducible exact False.elim hn)) (fun _=>?_)) | (refine sd ?_))
 refine Ret.intro .tt [] [] rfl ?_ rfl rfl ?_ rfl ?_ rfl
 ·exact fc
 ·exact fc
 ·exact fc
set_option maxRecDepth 100000 in
set_option maxHeartbeats 1000000 in
theorem suiteMixesF (P:Prop) (hP:P) (lab:UInt8) (L:List (List UInt8)) (n:Nat) (hn:L.length = n) (hnm:n ≤ maxLen) (hL:∀ x ∈ L,x.length ≤ maxLen) (ho:okL L):Sx.Fn Γ.P 5 [.bool P,.u8 lab,slP n L] [] (fun v _=>v = .tt):=by
 have hM:=fnMixF [] 0 0 rfl (by omega) (Nat.le_refl _) (fun x h=>by cases h) lab L n hn (by have:=ho.1;omega) ho.2
 have hW:=fnRMixFA lab L n hn ho
 obtain ⟨T,hT⟩:∃ T,(mkT [] (7,[lab] :: L)).1 = T:=⟨_,rfl⟩
 obtain ⟨o,ho2⟩:∃ o,(mkT [] (7,[lab] :: L)).2 = o:=⟨_,rfl⟩
 rw [hT,ho2] at hM hW
 have hkl:=kyB_length o
 unfold MT rwS at hM
 unfold M12 rwS at hW
 refine fn_of (Γ:=Γ) (fn:=Try.f5) rfl rfl rfl rfl ?_
 repeat (refine sd ?_)
 refine Call.intro fn6 [] rfl trivial rfl trivial rfl ?_
 rintro v M' rfl
 dsimp only [putT,afterM,newEnt,ren,renA,renS,renL,look,getM,getT,ev,evL,ofVal,cond_true,cond_false,Nat.beq_eq,act,isPar,ownPar,Ent.isOwn]
 repeat (first | (refine Branch.intro (fun _=>?_) (fun hn=>absurd rfl hn)) | (refine Branch.intro (fun hn=>(by with_reducible exact False.elim hn)) (fun _=>?_)) | (refine sd ?_))
 refine Call.pure (fn15 n L hn hnm hL) rfl ?_ ?_
 ·exact fc
 rintro v ⟨p,rfl,hp⟩
 repeat (refine sd ?_)
 refine Branch.intro (fun hc=>?_) (fun hc=>?_)
 ·repeat (refine sd ?_)
  refine Ret.intro .tt [] [] rfl ?_ rfl rfl ?_ rfl ?_ rfl
  ·exact fc
  ·exact fc
  ·exact fc
 obtain ⟨hn4,hL4⟩:=hp hc
 repeat (refine sd ?_)
 unfold slP
 refine Call.intro fnSuiteF [(1000,(1000,0,none)),(1001,(1001,0,none)),(1002,(1002,0,none))] rfl ?_ rfl ?_ rfl ?_
 ·exact fc
 ·exact fc
 rintro v M' ⟨rfl,rfl⟩
 dsimp only [putT,afterM,newEnt,ren,renA,renS,renL,look,getM,getT,ev,evL,ofVal,cond_true,cond_false,Nat.beq_eq,act,isPar,ownPar,Ent.isOwn]
 repeat (refine sd ?_)
 refine Call.name [(0,[]),(0,[]),(2001,[])] rfl ?_ (CallP.intro hM [(1000,(1000,0,none)),(1001,(1001,0,none)),(1002,(1002,0,none)),(1003,(2001,0,none)),(1005,(305,0,none))] rfl ?_ rfl ?_ rfl ?_)
 ·exact fc
 ·exact fc
 ·exact fc
 rintro v M' ⟨n',c',hn',hnc',rfl,rfl⟩
 dsimp only [putT,afterM,newEnt,ren,renA,renS,renL,look,getM,getT,ev,evL,ofVal,cond_true,cond_false,Nat.beq_eq,act,isPar,ownPar,Ent.isOwn]
 repeat (refine sd ?_)
 refine Call.intro fnRefF [(1000,(1100,0,none)),(1001,(1101,0,none))] rfl ?_ rfl ?_ rfl ?_
 ·exact fc
 ·exact fc
 rintro v M' ⟨rfl,rfl⟩
 dsimp only [putT,afterM,newEnt,ren,renA,renS,renL,look,getM,getT,ev,evL,ofVal,cond_true,cond_false,Nat.beq_eq,act,isPar,ownPar,Ent.isOwn]
 repeat (refine sd ?_)
 refine Call.name [(0,[]),(0,[]),(2002,[])] rfl ?_ (CallP.intro hW [(1000,(1100,0,none)),(1001,(1101,0,none)),(1003,(2002,0,none)),(1005,(405,0,none))] rfl ?_ rfl ?_ rfl ?_)
 ·exact fc
 ·exact fc
 ·exact fc
 rintro v M' ⟨n2,c2,hn2,hnc2,rfl,rfl⟩
 dsimp only [putT,afterM,newEnt,ren,renA,renS,renL,look,getM,getT,ev,evL,ofVal,cond_true,cond_false,Nat.beq_eq,act,isPar,ownPar,Ent.isOwn]
 repeat (refine sd ?_)
 repeat (first | (refine Branch.intro (fun _=>?_) (fun hn=>absurd rfl hn)) | (refine Branch.intro (fun hn=>(by with_reducible exact False.elim hn)) (fun _=>?_)) | (refine sd ?_))
 refine Ret.intro .tt [] [] rfl ?_ rfl rfl ?_ rfl ?_ rfl
 ·exact fc
 ·exact fc
 ·exact fc
theorem suiteMixes_runs (svs:List SV) (h:AllF [isBool,isU8,isOfSl 1 [(1,.isl 0 0 1 [(0 * 1,.a8 [])])] (cSl8 1)] svs):Sx.Fn Γ.P 5 svs [] (fun v _=>v = .tt):=by
 match svs,h with
 | [_,_,_],⟨⟨b,rfl⟩,⟨lab,rfl⟩,hs,_⟩=>
  obtain ⟨n,L,h1,h2,h3,rfl⟩:=slPArg hs
  by_cases hb:b = true <;> by_cases ho:okL L
  ·exact suiteMixesF _ hb lab L n h1 h2 h3 ho
  ·exact suiteMixesFB _ hb lab L n h1 h2 h3 ho
  ·exact suiteMixesR _ hb lab L n h1 h2 h3 ho
  ·exact suiteMixesRB _ hb lab L n h1 h2 h3 ho
end Go.Proofs.Ytlbmkjckbfeejaa
