/- What the functions of the program compute. No condition. -/
import Derived.Test.YtpkllkbmoodniaaGreatHwZb2ToZb2
import Derived.Test.YtpkllkbmoodniaaGreatHwRc4ToRc4
import Derived.Test.YtpkllkbmoodniaaGreatHwRc6ToRc6
set_option linter.unusedSimpArgs false
set_option linter.unusedVariables false
namespace Go.Proofs.YtpkllkbmoodniaaGreat
open Go Go.Sx
theorem fnBytesW (x y:List UInt8) (n m:Nat) (hx:x.length = n) (hy:y.length = m):Sx.Fn Γ.P 18 [.isl 0 n 1 [(n,.a8 x)],.isl 0 m 1 [(m,.a8 y)]] [] (fun v M=>v = .bool (x = y)∧M = []):=by
 have h:=fn18 x y
 rw [hx,hy,Nat.mul_one,Nat.mul_one] at h
 exact h
theorem u16_int (z:Nat):UInt16.ofInt ((z:Nat):Int) = UInt16.ofNat z:=by
 apply UInt16.toNat_inj.1
 rw [UInt16.toNat_ofNat']
 show (UInt16.ofNat (((z:Int) % 2 ^ 16).toNat)).toNat = _
 rw [UInt16.toNat_ofNat']
 omega
def rupPost (b:List UInt8) (v:SV) (M:Mm):Prop:=(∃ L N,RfR b L∧(rfK L).length = N∧v = .tup [.agg (seL (rfX L) (.isl 0 N 65 [(N * 65,.arr N 65 (kpF (rfK L)))])),.tt]∧M = []) ∨ ((¬ ∃ L,RfR b L)∧v = .tup [.agg zSe,.ff]∧M = [])
set_option maxRecDepth 100000 in
set_option maxHeartbeats 8000000 in
theorem rupTail (b:List UInt8) (n:Nat) (hb:b.length = n) (hn:n ≤ 1000000) (L:List (List UInt8)) (m c:Nat) (hs:(spl b).getD [] = L) (hL:L.length = m) (hmc:m ≤ c) (hm64:m ≤ 64) (h4:∀ p ∈ L,p.length ≤ 4096) (P:Prop) (hP:P ↔ spl b = some L∧L ≠ []) (X:Se) (hX:X = rfX L) :
  Tail Γ [1000019,24] Tryz.f23 19 [] [(0,.isl 0 n 1 [(n,.a8 b)]),(2,.ptr 202 0 none),(4,.ptr 301 0 none),(5,.bool P),(6,.ptr 206 0 none)] [(202,.mem true 0 zSe),(206,.mem true 0 (seL X (.sl 450 0 0 0 0))),(301,.mem true 0 [(1,.sl 302 0 0 m c),(1,.i .i64 ((min 16 m:Nat):Int))]),(302,.mem true (mulE (c - m) 1) [(m * 1,.arr m 1 (rwF L))]),(450,.mem true (mulE (0 - 0) 65) [(0 * 65,.arr 0 65 (kpF []))])] (rupPost b):=by
 have hXo:X.OK:=by rw [hX];exact rfX_ok L
 obtain ⟨h1,h2,h3,h4',h5,h6,h7,h8,h9,_⟩:=hXo
 refine Loop.intro (σ:=Nat × Nat) (fun s=>16 + s.1 ≤ max 16 m∧s.1 ≤ s.2)
  (fun s=>([(0,.isl 0 n 1 [(n,.a8 b)]),(2,.ptr 202 0 none),(4,.ptr 301 0 none),(5,.bool P),(6,.ptr 206 0 none)],[(202,.mem true 0 zSe),(206,.mem true 0 (seL X (.sl 450 0 0 s.1 s.2))),(301,.mem true 0 [(1,.sl 302 0 0 m c),(1,.i .i64 ((min (16 + s.1) m:Nat):Int))]),(302,.mem true (mulE (c - m) 1) [(m * 1,.arr m 1 (rwF L))]),(450,.mem true (mulE (s.2 - s.1) 65) [(s.1 * 65,.arr s.1 65 (kpF (((L.drop 16).take s.1).map rfE)))])]))
  (fun s=>m - (16 + s.1)) (0,0) ⟨by show 16 + 0 ≤ _;omega,Nat.le_refl _⟩ ?_ ?_
 ·refine Le.intro [(202,(202,0,none)),(206,(206,0,none)),(301,(301,0,none)),(302,(302,0,none)),(450,(450,0,none))] rfl ?_ rfl ?_ rfl
  ·exact fc
  ·exact fc
 rintro ⟨i,cl⟩ ⟨hi,hcl⟩
 have hi:16 + i ≤ max 16 m:=hi
 have hcl:i ≤ cl:=hcl
 have hlen:(((L.drop 16).take i).map rfE).length = i:=by rw [List.length_map,List.length_take,List.length_drop];omega
 have hLf:=fnTLeft L m c (16 + i) hL (by omega) hmc
 repeat (refine sd ?_)
 refine Call.intro hLf [(1000,(301,0,none)),(1001,(302,0,none))] rfl ?_ rfl ?_ rfl ?_
 ·exact fc
 ·exact fc
 rintro v M' ⟨rfl,rfl⟩
 dsimp only [putT,afterM,newEnt,ren,renA,renS,renL,look,getM,getT,ev,evL,ofVal,cond_true,cond_false,Nat.beq_eq,act,isPar,ownPar,Ent.isOwn]
 repeat (refine sd ?_)
 refine Branch.intro (fun hq=>?_) (fun hq=>?_)
 ·have hq:((m - (16 + i):Nat):Int) > 0:=hq
  have him:16 + i < m:=by omega
  obtain ⟨p,hp⟩:∃ p,L.getD (16 + i) [] = p:=⟨_,rfl⟩
  have hpm:p ∈ L:=by rw [← hp];exact getD_mem [] (by omega)
  have hp4:p.length ≤ 4096:=h4 p hpm
  obtain ⟨np,hnp⟩:∃ n,p.length = n:=⟨_,rfl⟩
  have hNx:=fnTNext L m c (16 + i) hL (by omega) hmc p np hp hnp
  have hOp:=fn53 p np hnp (by omega)
  have hpe:((L.drop 16).take (i + 1)).map rfE = ((L.drop 16).take i).map rfE ++ [rfE p]:=by
   rw [take_succ_getD [] (L.drop 16) i (by rw [List.length_drop];omega),List.getD_eq_getElem?_getD,List.getElem?_drop,← List.getD_eq_getElem?_getD,hp,List.map_append]
   rfl
  obtain ⟨j0,hj0⟩:∃ j0,min (16 + i) m = j0:=⟨_,rfl⟩
  obtain ⟨j1,hj1⟩:∃ j1,min (16 + i + 1) m = j1:=⟨_,rfl⟩
  have hj2:min (16 + (i + 1)) m = j1:=by rw [← hj1];rfl
  rw [hj0,hj1] at hNx
  obtain ⟨A,hA⟩:∃ A,((L.drop 16).take i).map rfE = A:=⟨_,rfl⟩
  rw [hA] at hlen hpe
  repeat (refine sd ?_)
  refine Call.intro hNx [(1000,(301,0,none)),(1001,(302,0,none))] rfl ?_ rfl ?_ rfl ?_
  ·exact fc
  ·exact fc
  rintro v M' ⟨rfl,rfl⟩
  dsimp only [putT,afterM,newEnt,ren,renA,renS,renL,look,getM,getT,ev,evL,ofVal,cond_true,cond_false,Nat.beq_eq,act,isPar,ownPar,Ent.isOwn]
  repeat (refine sd ?_)
  refine Call.intro hOp [(1005,(311,0,none)),(1006,(312,0,none))] rfl ?_ rfl ?_ rfl ?_
  ·exact fc
  ·exact fc
  rintro v M' ⟨K,mk,ck,hK,hKl,hmk,hmk64,P2,hP2,rfl,rfl⟩
  dsimp only [putT,afterM,newEnt,ren,renA,renS,renL,look,getM,getT,ev,evL,ofVal,cond_true,cond_false,Nat.beq_eq,act,isPar,ownPar,Ent.isOwn]
  repeat (refine sd ?_)
  have hK1:=fnTKey K mk ck 0 hKl (by omega) hmk
  have hKs:∀ x ∈ K,x.length ≤ 1000000:=by
   intro x hx
   cases e:spl p with
   | none=>rw [e] at hK;have hK:[] = K:=hK;rw [← hK] at hx;cases hx
   | some K'=>
    rw [e] at hK
    have hK:K' = K:=hK
    subst hK
    have:=spl_le e x hx
    omega
  have hK2:=fnTNum K mk ck 1 hKl (by omega) hmk hKs
  have hK3:=fnTKey K mk ck 2 hKl (by omega) hmk
  have e00:min 0 mk = 0:=Nat.zero_min _
  rw [e00] at hK1
  have hrE:rfE p = (kyO (K.getD 0 []),nu16 (K.getD 1 []),kyO (K.getD 2 [])):=by unfold rfE;rw [hK]
  have y1:=kyO_length (K.getD 0 [])
  have y3:=kyO_length (K.getD 2 [])
  obtain ⟨z1,hz1⟩:∃ q,kyO (K.getD 0 []) = q:=⟨_,rfl⟩
  obtain ⟨z2,hz2⟩:∃ q,nuO (K.getD 1 []) = q:=⟨_,rfl⟩
  obtain ⟨z3,hz3⟩:∃ q,kyO (K.getD 2 []) = q:=⟨_,rfl⟩
  have hz4:nu16 (K.getD 1 []) = UInt16.ofNat z2:=by unfold nu16;rw [hz2]
  rw [hz1] at hK1 y1 hrE
  rw [hz2] at hK2
  rw [hz3] at hK3 y3 hrE
  rw [hz4] at hrE
  refine Call.intro hK1 [(1000,(311,0,none)),(1001,(312,0,none))] rfl ?_ rfl ?_ rfl ?_
  ·exact fc
  ·exact fc
  rintro v M' ⟨rfl,rfl⟩
  dsimp only [putT,afterM,newEnt,ren,renA,renS,renL,look,getM,getT,ev,evL,ofVal,cond_true,cond_false,Nat.beq_eq,act,isPar,ownPar,Ent.isOwn]
  repeat (refine sd ?_)
  refine Call.intro hK2 [(1000,(311,0,none)),(1001,(312,0,none))] rfl ?_ rfl ?_ rfl ?_
  ·exact fc
  ·exact fc
  rintro v M' ⟨rfl,rfl⟩
  dsimp only [putT,afterM,newEnt,ren,renA,renS,renL,look,getM,getT,ev,evL,ofVal,cond_true,cond_false,Nat.beq_eq,act,isPar,ownPar,Ent.isOwn]
  repeat (refine sd ?_)
  refine Call.intro hK3 [(1000,(311,0,none)),(1001,(312,0,none))] rfl ?_ rfl ?_ rfl ?_
  ·exact fc
  ·exact fc
  rintro v M' ⟨rfl,rfl⟩
  dsimp only [putT,afterM,newEnt,ren,renA,renS,renL,look,getM,getT,ev,evL,ofVal,cond_true,cond_false,Nat.beq_eq,act,isPar,ownPar,Ent.isOwn]
  repeat (refine sd ?_)
  refine fun c' hc'=>?_
  have hc':i + 1 ≤ c':=hc'
  repeat (refine sd ?_)
  refine ⟨(i + 1,c'),⟨by show 16 + (i + 1) ≤ max 16 m;omega,hc'⟩,by show m - (16 + (i + 1)) < m - (16 + i);omega,Le.intro [(202,(202,0,none)),(206,(206,0,none)),(301,(301,0,none)),(302,(302,0,none)),(450,(98,0,none))] rfl ?_ rfl ?_ rfl⟩
  ·repeat' (first | (show AllP _;first | exact trivial | refine AllP.app ?_ ?_ | refine AllP.appd ?_ ?_ | refine AllP.cons ?_ ?_) | exact fd | fail)
   all_goals trace_state
  ·repeat' (first | (show AllP _;first | exact trivial | refine AllP.app ?_ ?_ | refine AllP.appd ?_ ?_ | refine AllP.cons ?_ ?_) | exact fd | fail)
   all_goals first | (rw [hj2];done) | (show ∀ q,q < i + 1→kpF (((L.drop 16).take (i + 1)).map rfE) q = _;rw [hpe,hA,hrE,← u16_int z2];exact appF_kp hlen rfl) | trace_state
 have hq:¬ ((m - (16 + i):Nat):Int) > 0:=hq
 obtain ⟨A,hA⟩:∃ A,((L.drop 16).take i).map rfE = A:=⟨_,rfl⟩
 have hAK:A = rfK L:=by rw [← hA];unfold rfK;rw [List.take_of_length_le (by rw [List.length_drop];omega)]
 rw [hA] at hlen
 have hAo:∀ k ∈ A,KpOK k:=by rw [hAK];exact rfK_ok L
 obtain ⟨j0,hj0⟩:∃ j0,min (16 + i) m = j0:=⟨_,rfl⟩
 have hPk:=fn58 X ⟨h1,h2,h3,h4',h5,h6,h7,h8,h9,fun _ h=>by subst hX;cases h⟩ A i i hlen (Nat.le_refl _) (by omega) hAo
 rw [List.take_of_length_le (by omega)] at hPk
 refine Cut.intro (σ:=Unit) (fun _=>True) (fun _=>([(0,.isl 0 n 1 [(n,.a8 b)]),(2,.ptr 202 0 none),(5,.bool P),(6,.ptr 206 0 none)],[(202,.mem true 0 zSe),(206,.mem true 0 (seL X (.isl 0 i 65 [(i * 65,.arr i 65 (kpF A))])))])) () trivial (Le.ghost [.keep 450,.ice 206 16] [] [(202,(202,0,none)),(206,(206,0,none))] rfl ?_ rfl rfl ?_ rfl ?_ rfl) ?_
 ·exact fc
 ·exact fc
 ·repeat' (first | (show AllP _;first | exact trivial | refine AllP.app ?_ ?_ | refine AllP.appd ?_ ?_ | refine AllP.cons ?_ ?_) | exact fd | fail)
  all_goals trace_state
 rintro - -
 have key:∀ L',RfR b L'→P∧i ≤ 16∧pkB X A = b:=by
  rintro L' ⟨q1,q2,q3,q4⟩
  have e:L = L':=by rw [← hs,q1];rfl
  subst e
  exact ⟨hP.2 ⟨q1,q2⟩,by rw [← hlen,hAK];exact q3,by rw [hX,hAK];exact q4⟩
 repeat (refine sd ?_)
 refine Call.intro hPk [(1006,(321,0,none))] rfl ?_ rfl ?_ rfl ?_
 ·exact fc
 ·exact fc
 rintro v M' (⟨h16,rfl,rfl⟩ | ⟨h16,k,ck,hk,hkc,rfl,rfl⟩)
 ·dsimp only [putT,afterM,newEnt,ren,renA,renS,renL,look,getM,getT,ev,evL,ofVal,cond_true,cond_false,Nat.beq_eq,act,isPar,ownPar,Ent.isOwn]
  repeat (refine sd ?_)
  refine Branch.intro (fun hB=>?_) (fun hB=>?_)
  ·have hB:¬ P:=hB
   repeat (refine sd ?_)
   repeat (first | (refine ky0 ?_) | (refine kn0 ?_) | (refine ky ?_) | (refine kn ?_) | (refine sd ?_))
   repeat (first | (refine Branch.intro (fun _=>?_) (fun hn=>(by with_reducible exact absurd hB hn))) | (refine sd ?_))
   refine Ret.intro (.tup [.agg zSe,.ff]) [] [] rfl ?_ (Or.inr ⟨fun ⟨L',hL'⟩=>hB (key L' hL').1,rfl,rfl⟩) rfl ?_ rfl ?_ rfl
   ·exact fc
   ·exact fc
   ·exact fc
  repeat (first | (refine ky0 ?_) | (refine kn0 ?_) | (refine sd ?_))
  repeat (first | (refine ky0 ?_) | (refine kn0 ?_) | (refine ky ?_) | (refine kn ?_) | (refine sd ?_))
  repeat (first | (refine Branch.intro (fun _=>?_) (fun hn=>(by with_reducible exact absurd hB hn))) | (refine sd ?_))
  refine Ret.intro (.tup [.agg zSe,.ff]) [] [] rfl ?_ (Or.inr ⟨fun ⟨L',hL'⟩=>by have:=(key L' hL').2.1;omega,rfl,rfl⟩) rfl ?_ rfl ?_ rfl
  ·exact fc
  ·exact fc
  ·exact fc
 obtain ⟨B,hB0⟩:∃ B,pkB X A = B:=⟨_,rfl⟩
 rw [hB0] at hk key ⊢
 have hBy:=fnBytesW B b k n hk hb
 dsimp only [putT,afterM,newEnt,ren,renA,renS,renL,look,getM,getT,ev,evL,ofVal,cond_true,cond_false,Nat.beq_eq,act,isPar,ownPar,Ent.isOwn]
 repeat (refine sd ?_)
 refine Branch.intro (fun hB=>?_) (fun hB=>?_)
 ·have hB:¬ P:=hB
  repeat (first | (refine ky0 ?_) | (refine kn0 ?_) | (refine ky ?_) | (refine kn ?_) | (refine sd ?_))
  repeat (first | (refine Branch.intro (fun _=>?_) (fun hn=>(by with_reducible exact absurd hB hn))) | (refine sd ?_))
  refine Ret.intro (.tup [.agg zSe,.ff]) [] [] rfl ?_ (Or.inr ⟨fun ⟨L',hL'⟩=>hB (key L' hL').1,rfl,rfl⟩) rfl ?_ rfl ?_ rfl
  ·exact fc
  ·exact fc
  ·exact fc
 have hB:¬ ¬ P:=hB
 have hB:P:=Classical.not_not.1 hB
 repeat (first | (refine ky0 ?_) | (refine kn0 ?_) | (refine sd ?_))
 refine Call.name [(1,[]),(1,[])] rfl ?_ (CallP.intro hBy [] rfl ?_ rfl ?_ rfl ?_)
 ·exact fc
 ·exact fc
 ·exact fc
 rintro v M' ⟨rfl,rfl⟩
 dsimp only [putT,afterM,newEnt,ren,renA,renS,renL,look,getM,getT,ev,evL,ofVal,cond_true,cond_false,Nat.beq_eq,act,isPar,ownPar,Ent.isOwn]
 repeat (refine sd ?_)
 refine Branch.intro (fun hC=>?_) (fun hC=>?_)
 ·have hC:¬ B = b:=hC
  repeat (refine sd ?_)
  refine Ret.intro (.tup [.agg zSe,.ff]) [] [] rfl ?_ (Or.inr ⟨fun ⟨L',hL'⟩=>hC (key L' hL').2.2,rfl,rfl⟩) rfl ?_ rfl ?_ rfl
  ·exact fc
  ·exact fc
  ·exact fc
 have hC:¬ ¬ B = b:=hC
 have hC:B = b:=Classical.not_not.1 hC
 have hR:RfR b L:=⟨(hP.1 hB).1,(hP.1 hB).2,by rw [← hAK,hlen];exact h16,by rw [← hX,← hAK,hB0];exact hC⟩
 repeat (refine sd ?_)
 refine Ret.intro (.tup [.agg (seL X (.isl 0 i 65 [(i * 65,.arr i 65 (kpF A))])),.tt]) [] [] rfl ?_ (Or.inl ⟨L,i,hR,by rw [← hAK];exact hlen,by rw [← hX,← hAK],rfl⟩) rfl ?_ rfl ?_ rfl
 ·exact fc
 ·exact fc
 ·exact fc
end Go.Proofs.YtpkllkbmoodniaaGreat
