/- What the functions of the program compute. No condition. -/
import Derived.Test.YtfnmgbillkiabaaGreatHwAc3ToAc4
import Derived.Test.YtfnmgbillkiabaaGreatHwAc5ToAc2
import Derived.Test.YtfnmgbillkiabaaGreatHwZb2ToZb2
import Derived.Test.YtfnmgbillkiabaaGreatHwSs4ToRa1
set_option linter.unusedSimpArgs false
set_option linter.unusedVariables false
set_option maxRecDepth 100000
namespace Go.Proofs.YtfnmgbillkiabaaGreat
open Go Go.Sx
theorem u16_intA (z:Nat):UInt16.ofInt ((z:Nat):Int) = UInt16.ofNat z:=by
 apply UInt16.toNat_inj.1
 rw [UInt16.toNat_ofNat']
 show (UInt16.ofNat (((z:Int) % 2 ^ 16).toNat)).toNat = _
 rw [UInt16.toNat_ofNat']
 omega
def ruPost (b:List UInt8) (v:SV) (M:Mm):Prop:=(∃ L N,RaR b L/\(daK L).length = N/\v = .tup [.agg (acL (daX L) (.isl 0 N 33 [(N * 33,.arr N 33 (onF (daK L)))])),.tt]/\M = []) \/ ((¬ ∃ L,RaR b L)/\v = .tup [.agg zAc,.ff]/\M = [])
set_option maxHeartbeats 8000000 in
theorem fn24 (b:List UInt8) (n:Nat) (hb:b.length = n) (hn:n <= 1000000):Sx.Fn Γ.P 24 [.isl 0 n 1 [(n,.a8 b)]] [] (ruPost b):=by
 have hOp:=fn62 b n hb hn
 refine fn_cut [1000013,14] (Γ:=Γ) (fn:=Tryz.f24) rfl rfl rfl rfl ?_
 repeat (refine sd ?_)
 refine Call.intro hOp [(1005,(301,0,none)),(1006,(302,0,none))] rfl ?_ rfl ?_ rfl ?_
 ·exact fc
 ·exact fc
 rintro v M' ⟨L,m,c,hs,hL,hmc,hm64,P,hP,rfl,rfl⟩
 dsimp only [zt,zM,zE,ren,zz,zx,zy,look,zG,zX,ev,evL,zV,zcT,zcF,act,zP,zO,Ent.zW]
 repeat (refine sd ?_)
 have h4:∀ x ∈ L,x.length <= 4096:=by
  intro x hx
  cases e:spl b with
  | none=>rw [e] at hs;have hs:[] = L:=hs;rw [<- hs] at hx;cases hx
  | some K=>rw [e] at hs;have hs:K = L:=hs;subst hs;exact spl_le e x hx
 have k0:=fnTKey L m c 0 hL (by omega) hmc
 have k1:=fnTKey L m c 1 hL (by omega) hmc
 have k2:=fnTKey L m c 2 hL (by omega) hmc
 have k3:=fnTNum L m c 3 hL (by omega) hmc (fun x hx=>by have:=h4 x hx;omega)
 have e00:min 0 m = 0:=Nat.zero_min _
 rw [e00] at k0
 have y0:=kyO_length (L.getD 0 [])
 have y1:=kyO_length (L.getD 1 [])
 have y2:=kyO_length (L.getD 2 [])
 have hX:daX L = ⟨kyO (L.getD 0 []),kyO (L.getD 1 []),0,kyO (L.getD 2 []),nu16 (L.getD 3 [])⟩:=rfl
 obtain ⟨z0,hz0⟩:∃ z,kyO (L.getD 0 []) = z:=⟨_,rfl⟩
 obtain ⟨z1,hz1⟩:∃ z,kyO (L.getD 1 []) = z:=⟨_,rfl⟩
 obtain ⟨z2,hz2⟩:∃ z,kyO (L.getD 2 []) = z:=⟨_,rfl⟩
 obtain ⟨z3,hz3⟩:∃ z,nuO (L.getD 3 []) = z:=⟨_,rfl⟩
 have hz4:nu16 (L.getD 3 []) = UInt16.ofNat z3:=by unfold nu16;rw [hz3]
 rw [hz0] at k0 y0 hX
 rw [hz1] at k1 y1 hX
 rw [hz2] at k2 y2 hX
 rw [hz3] at k3
 rw [hz4,<- u16_intA] at hX
 obtain ⟨nx,hnx⟩:∃ z,UInt16.ofInt ((z3:Nat):Int) = z:=⟨_,rfl⟩
 rw [hnx] at hX
 refine Call.intro k0 [(1000,(301,0,none)),(1001,(302,0,none))] rfl ?_ rfl ?_ rfl ?_
 ·exact fc
 ·exact fc
 rintro v M' ⟨rfl,rfl⟩
 dsimp only [zt,zM,zE,ren,zz,zx,zy,look,zG,zX,ev,evL,zV,zcT,zcF,act,zP,zO,Ent.zW]
 repeat (refine sd ?_)
 refine Call.intro k1 [(1000,(301,0,none)),(1001,(302,0,none))] rfl ?_ rfl ?_ rfl ?_
 ·exact fc
 ·exact fc
 rintro v M' ⟨rfl,rfl⟩
 dsimp only [zt,zM,zE,ren,zz,zx,zy,look,zG,zX,ev,evL,zV,zcT,zcF,act,zP,zO,Ent.zW]
 repeat (refine sd ?_)
 refine Call.intro k2 [(1000,(301,0,none)),(1001,(302,0,none))] rfl ?_ rfl ?_ rfl ?_
 ·exact fc
 ·exact fc
 rintro v M' ⟨rfl,rfl⟩
 dsimp only [zt,zM,zE,ren,zz,zx,zy,look,zG,zX,ev,evL,zV,zcT,zcF,act,zP,zO,Ent.zW]
 repeat (refine sd ?_)
 refine Call.intro k3 [(1000,(301,0,none)),(1001,(302,0,none))] rfl ?_ rfl ?_ rfl ?_
 ·exact fc
 ·exact fc
 rintro v M' ⟨rfl,rfl⟩
 dsimp only [zt,zM,zE,ren,zz,zx,zy,look,zG,zX,ev,evL,zV,zcT,zcF,act,zP,zO,Ent.zW]
 repeat (refine sd ?_)
 refine Loop.intro (σ:=Nat × Nat) (fun s=>4 + s.1 <= max 4 m/\s.1 <= s.2)
  (fun s=>([(0,.isl 0 n 1 [(n,.a8 b)]),(2,.ptr 202 0 none),(4,.ptr 301 0 none),(5,.bool P),(6,.ptr 206 0 none)],[(202,.mem true 0 zAc),(206,.mem true 0 [(32,.a8 z0),(32,.a8 z1),(1,.u16 0),(32,.a8 z2),(1,.sl 450 0 0 s.1 s.2),(1,.u16 nx)]),(301,.mem true 0 [(1,.sl 302 0 0 m c),(1,.i .i64 ((min (4 + s.1) m:Nat):Int))]),(302,.mem true (zmE (c - m) 1) [(m * 1,.arr m 1 (rwF L))]),(450,.mem true (zmE (s.2 - s.1) 33) [(s.1 * 33,.arr s.1 33 (onF (((L.drop 4).take s.1).map daE)))])]))
  (fun s=>m - (4 + s.1)) (0,0) ⟨by show 4 + 0 <= _;omega,Nat.le_refl _⟩ ?_ ?_
 ·refine Le.ghost [.own 450 [(0 * 33,.arr 0 33 (onF []))],.leaf 6 4 450] [] [(202,(2,0,none)),(206,(6,0,none)),(301,(301,0,none)),(302,(302,0,none))] rfl ?_ rfl rfl ?_ rfl ?_ rfl
  ·repeat' (first | (show zA _;first | exact trivial | refine zA.app ?_ ?_ | refine zA.zd ?_ ?_ | refine zA.cons ?_ ?_) | exact fd | fail)
   all_goals exact ⟨rfl,rfl,trivial⟩
  ·exact fc
  ·repeat' (first | (show zA _;first | exact trivial | refine zA.app ?_ ?_ | refine zA.zd ?_ ?_ | refine zA.cons ?_ ?_) | exact fd | fail)
   all_goals first | exact hnx.symm | exact hnx | trace_state
 rintro ⟨i,cl⟩ ⟨hi,hcl⟩
 have hi:4 + i <= max 4 m:=hi
 have hcl:i <= cl:=hcl
 have hlen:(((L.drop 4).take i).map daE).length = i:=by rw [List.length_map,zlT,zlD];omega
 have hLf:=fnTLeft L m c (4 + i) hL (by omega) hmc
 repeat (refine sd ?_)
 refine Call.intro hLf [(1000,(301,0,none)),(1001,(302,0,none))] rfl ?_ rfl ?_ rfl ?_
 ·exact fc
 ·exact fc
 rintro v M' ⟨rfl,rfl⟩
 dsimp only [zt,zM,zE,ren,zz,zx,zy,look,zG,zX,ev,evL,zV,zcT,zcF,act,zP,zO,Ent.zW]
 repeat (refine sd ?_)
 refine zB.intro (fun hq=>?_) (fun hq=>?_)
 ·have hq:((m - (4 + i):Nat):Int) > 0:=hq
  have him:4 + i < m:=by omega
  obtain ⟨p,hp⟩:∃ p,L.getD (4 + i) [] = p:=⟨_,rfl⟩
  obtain ⟨np,hnp⟩:∃ n,p.length = n:=⟨_,rfl⟩
  have hNx:=fnTNext L m c (4 + i) hL (by omega) hmc p np hp hnp
  have hpe:((L.drop 4).take (i + 1)).map daE = ((L.drop 4).take i).map daE ++ [daE p]:=by
   rw [take_succ_getD [] (L.drop 4) i (by rw [zlD];omega),List.getD_eq_getElem?_getD,List.getElem?_drop,<- List.getD_eq_getElem?_getD,hp,List.map_append]
   rfl
  have hdo:(daE p).2.length = 32:=daE_ok p
  obtain ⟨j0,hj0⟩:∃ j0,min (4 + i) m = j0:=⟨_,rfl⟩
  obtain ⟨j1,hj1⟩:∃ j1,min (4 + i + 1) m = j1:=⟨_,rfl⟩
  have hj2:min (4 + (i + 1)) m = j1:=by rw [<- hj1];rfl
  rw [hj0,hj1] at hNx
  obtain ⟨A,hA⟩:∃ A,((L.drop 4).take i).map daE = A:=⟨_,rfl⟩
  rw [hA] at hlen hpe
  repeat (refine sd ?_)
  refine Call.intro hNx [(1000,(301,0,none)),(1001,(302,0,none))] rfl ?_ rfl ?_ rfl ?_
  ·exact fc
  ·exact fc
  rintro v M' ⟨rfl,rfl⟩
  dsimp only [zt,zM,zE,ren,zz,zx,zy,look,zG,zX,ev,evL,zV,zcT,zcF,act,zP,zO,Ent.zW]
  repeat (refine sd ?_)
  refine Join.intro (σ:=Unit) (fun _=>True) (fun _=>([(0,.isl 0 n 1 [(n,.a8 b)]),(2,.ptr 202 0 none),(4,.ptr 301 0 none),(5,.bool P),(6,.ptr 206 0 none),(8,.ptr 208 0 none)],[(202,.mem true 0 zAc),(206,.mem true 0 [(32,.a8 z0),(32,.a8 z1),(1,.u16 0),(32,.a8 z2),(1,.sl 450 0 0 i cl),(1,.u16 nx)]),(301,.mem true 0 [(1,.sl 302 0 0 m c),(1,.i .i64 ((j1:Nat):Int))]),(302,.mem true (zmE (c - m) 1) [(m * 1,.arr m 1 (rwF L))]),(450,.mem true (zmE (cl - i) 33) [(i * 33,.arr i 33 (onF A))]),(208,.mem true 0 [(1,.u16 (daE p).1),(32,.a8 (daE p).2)])])) ?_ ?_
  ·repeat (refine sd ?_)
   refine zB.intro (fun h2=>?_) (fun h2=>?_)
   ·have h2:(np:Int) ≥ 2:=h2
    have hd:daE p = ((p.getD 0 0).toUInt16 * 256 + (p.getD 1 0).toUInt16,kyO (p.drop 2)):=by unfold daE;rw [if_pos (by omega)]
    refine Draw.intro [[],[0],[0,1],[0,1,2],[0,1,2,3],[],[5],[5,6],[5,6,7],[0,1,2,3,4,5,6,7,8],[0,1,2,3,4,5,6,7,8,9],[0,1,2,3,4,5,6,7,8,9,10]] [0,1,2,3,4,5,6,7,8,9,10,11] (by kernel_rfl) ?_
    repeat (first | (refine Grow.turn rfl rfl ?_) | (refine sd ?_))
    refine Draw.intro [[],[0],[],[2],[0,1,2,3]] [0,1,2,3,4] (by kernel_rfl) ?_
    repeat (first | (refine Grow.turn rfl rfl ?_) | (refine sd ?_))
    have hkc:=kyO_cp (p:=p.drop 2) (m:=np - 2) (by rw [zlD,hnp])
    have eT:List.take (np - 2) (List.drop 2 p) = List.drop 2 p:=List.take_of_length_le (by rw [zlD];omega)
    refine ⟨(),trivial,Le.intro [(202,(202,0,none)),(206,(206,0,none)),(301,(301,0,none)),(302,(302,0,none)),(450,(450,0,none)),(208,(8,0,none))] rfl ?_ rfl ?_ rfl⟩
    ·exact fc
    ·repeat' (first | (show zA _;first | exact trivial | refine zA.app ?_ ?_ | refine zA.zd ?_ ?_ | refine zA.cons ?_ ?_) | exact fd | fail)
     all_goals first | (intro q _;rw [hA];done) | (rw [hd];rfl) | (rw [hd];show kyO (p.drop 2) = _;rw [hkc];first | rfl | (simp only [eT];rfl)) | trace_state
   ·have h2:¬ (np:Int) ≥ 2:=h2
    have hd:daE p = on0:=by unfold daE;rw [if_neg (by omega)]
    repeat (refine sd ?_)
    refine ⟨(),trivial,Le.intro [(202,(202,0,none)),(206,(206,0,none)),(301,(301,0,none)),(302,(302,0,none)),(450,(450,0,none)),(208,(8,0,none))] rfl ?_ rfl ?_ rfl⟩
    ·exact fc
    ·repeat' (first | (show zA _;first | exact trivial | refine zA.app ?_ ?_ | refine zA.zd ?_ ?_ | refine zA.cons ?_ ?_) | exact fd | fail)
     all_goals first | (intro q _;rw [hA];done) | (rw [hd];rfl) | trace_state
  rintro - -
  repeat (refine sd ?_)
  refine fun c' hc'=>?_
  have hc':i + 1 <= c':=hc'
  repeat (refine sd ?_)
  refine ⟨(i + 1,c'),⟨by show 4 + (i + 1) <= max 4 m;omega,hc'⟩,by show m - (4 + (i + 1)) < m - (4 + i);omega,Le.intro [(202,(202,0,none)),(206,(206,0,none)),(301,(301,0,none)),(302,(302,0,none)),(450,(59,0,none))] rfl ?_ rfl ?_ rfl⟩
  ·exact fc
  ·repeat' (first | (show zA _;first | exact trivial | refine zA.app ?_ ?_ | refine zA.zd ?_ ?_ | refine zA.cons ?_ ?_) | exact fd | fail)
   all_goals first | (rw [hj2];done) | (show ∀ q,q < i + 1->onF (((L.drop 4).take (i + 1)).map daE) q = _;rw [hpe];exact appF_on hlen rfl) | trace_state
 have hq:¬ ((m - (4 + i):Nat):Int) > 0:=hq
 obtain ⟨A,hA⟩:∃ A,((L.drop 4).take i).map daE = A:=⟨_,rfl⟩
 have hAK:A = daK L:=by rw [<- hA];unfold daK;rw [List.take_of_length_le (by rw [zlD];omega)]
 rw [hA] at hlen
 have hAo:∀ k ∈ A,OnOK k:=by rw [hAK];exact daK_ok L
 obtain ⟨j0,hj0⟩:∃ j0,min (4 + i) m = j0:=⟨_,rfl⟩
 obtain ⟨X,hXe⟩:∃ X:Ac,(⟨z0,z1,0,z2,nx⟩:Ac) = X:=⟨_,rfl⟩
 have hXo:X.OK:=by rw [<- hXe];exact ⟨y0,y1,y2⟩
 have hX0:X.fi = 0:=by rw [<- hXe]
 have g0:z0 = X.ag:=by rw [<- hXe]
 have g1:z1 = X.sg:=by rw [<- hXe]
 have g2:z2 = X.fs:=by rw [<- hXe]
 have g3:nx = X.nx:=by rw [<- hXe]
 have hXL:X = daX L:=by rw [hX,hXe]
 have hPk:=fn27 X hXo A i hlen (by omega) hAo
 obtain ⟨o1,o2,o3⟩:=hXo
 have key:∀ L',RaR b L'->P/\i <= 8/\acB X A = b:=by
  rintro L' ⟨q1,q2,q3,q4⟩
  have e:L = L':=by rw [<- hs,q1];rfl
  subst e
  exact ⟨hP.2 ⟨q1,q2⟩,by rw [<- hlen,hAK];exact q3,by rw [hXL,hAK];exact q4⟩
 have mkR:P->i <= 8->acB X A = b->RaR b L:=fun hc h8 hC=>⟨(hP.1 hc).1,(hP.1 hc).2,by rw [<- hAK,hlen];exact h8,by rw [<- hXL,<- hAK];exact hC⟩
 have hfin:RaR b L->ruPost b (.tup [.agg (acL X (.isl 0 i 33 [(i * 33,.arr i 33 (onF A))])),.tt]) []:=fun hR=>Or.inl ⟨L,i,hR,by rw [<- hAK];exact hlen,by rw [<- hXL,<- hAK],rfl⟩
 clear hX hXe hXL hAK
 refine Cut.intro (σ:=Unit) (fun _=>True) (fun _=>([(0,.isl 0 n 1 [(n,.a8 b)]),(2,.ptr 202 0 none),(5,.bool P),(6,.ptr 206 0 none)],[(202,.mem true 0 zAc),(206,.mem true 0 (acL X (.isl 0 i 33 [(i * 33,.arr i 33 (onF A))])))])) () trivial (Le.ghost [.keep 450,.ice 206 4] [] [(202,(202,0,none)),(206,(206,0,none))] rfl ?_ rfl rfl ?_ rfl ?_ rfl) ?_
 ·exact fc
 ·exact fc
 ·repeat' (first | (show zA _;first | exact trivial | refine zA.app ?_ ?_ | refine zA.zd ?_ ?_ | refine zA.cons ?_ ?_) | exact fd | fail)
  all_goals first | exact (congrArg onF hA).symm | exact g0.symm | exact g1.symm | exact g2.symm | exact g3.symm | exact hX0 | trace_state
 rintro - -
 repeat (refine sd ?_)
 refine Call.intro hPk [(1006,(321,0,none))] rfl ?_ rfl ?_ rfl ?_
 ·exact fc
 ·exact fc
 rintro v M' (⟨h8,rfl,rfl⟩ | ⟨h8,_,k,ck,hk,hkc,rfl,rfl⟩)
 ·have hB:¬ ∃ L,RaR b L:=fun ⟨L',h⟩=>by
   have:=(key L' h).2.1
   rcases h8 with h8 | h8
   ·omega
   ·exact h8 hX0
  dsimp only [zt,zM,zE,ren,zz,zx,zy,look,zG,zX,ev,evL,zV,zcT,zcF,act,zP,zO,Ent.zW]
  repeat (refine sd ?_)
  by_cases hc:¬ P
  ·repeat (first | (refine zB.intro (fun h=>False.elim (by revert h;first | (simp [hc];done) | fail)) (fun _=>?_)) | (refine zB.intro (fun _=>?_) (fun h=>False.elim (by revert h;first | (simp [hc];done) | fail))) | (refine sd ?_))
   refine Ret.intro (.tup [.agg zAc,.ff]) [] [] rfl ?_ (Or.inr ⟨hB,rfl,rfl⟩) rfl ?_ rfl ?_ rfl
   ·exact fc
   ·exact fc
   ·exact fc
  have hc:P:=Classical.not_not.1 hc
  repeat (first | (refine zB.intro (fun h=>False.elim (by revert h;first | (simp [hc];done) | fail)) (fun _=>?_)) | (refine zB.intro (fun _=>?_) (fun h=>False.elim (by revert h;first | (simp [hc];done) | fail))) | (refine sd ?_))
  refine Ret.intro (.tup [.agg zAc,.ff]) [] [] rfl ?_ (Or.inr ⟨hB,rfl,rfl⟩) rfl ?_ rfl ?_ rfl
  ·exact fc
  ·exact fc
  ·exact fc
 obtain ⟨B,hB0⟩:∃ B,acB X A = B:=⟨_,rfl⟩
 rw [hB0] at hk key mkR ⊢
 have hBy:=fnBytesU b B n k hb hk
 dsimp only [zt,zM,zE,ren,zz,zx,zy,look,zG,zX,ev,evL,zV,zcT,zcF,act,zP,zO,Ent.zW]
 repeat (refine sd ?_)
 by_cases hc:¬ P
 ·have hB:¬ ∃ L,RaR b L:=fun ⟨L',h⟩=>hc (key L' h).1
  repeat (first | (refine zB.intro (fun h=>False.elim (by revert h;first | (simp [hc];done) | fail)) (fun _=>?_)) | (refine zB.intro (fun _=>?_) (fun h=>False.elim (by revert h;first | (simp [hc];done) | fail))) | (refine sd ?_))
  refine Ret.intro (.tup [.agg zAc,.ff]) [] [] rfl ?_ (Or.inr ⟨hB,rfl,rfl⟩) rfl ?_ rfl ?_ rfl
  ·exact fc
  ·exact fc
  ·exact fc
 have hc:P:=Classical.not_not.1 hc
 repeat (first | (refine zB.intro (fun h=>False.elim (by revert h;first | (simp [hc];done) | fail)) (fun _=>?_)) | (refine zB.intro (fun _=>?_) (fun h=>False.elim (by revert h;first | (simp [hc];done) | fail))) | (refine sd ?_))
 refine Call.name [(1,[]),(1,[])] rfl ?_ (CallP.intro hBy [] rfl ?_ rfl ?_ rfl ?_)
 ·exact fc
 ·exact fc
 ·exact fc
 rintro v M' ⟨rfl,rfl⟩
 dsimp only [zt,zM,zE,ren,zz,zx,zy,look,zG,zX,ev,evL,zV,zcT,zcF,act,zP,zO,Ent.zW]
 repeat (refine sd ?_)
 by_cases hC:¬ b = B
 ·have hB:¬ ∃ L,RaR b L:=fun ⟨L',h⟩=>hC (key L' h).2.2.symm
  repeat (first | (refine zB.intro (fun h=>False.elim (by revert h;first | (simp [hc,hC];done) | fail)) (fun _=>?_)) | (refine zB.intro (fun _=>?_) (fun h=>False.elim (by revert h;first | (simp [hc,hC];done) | fail))) | (refine sd ?_))
  refine Ret.intro (.tup [.agg zAc,.ff]) [] [] rfl ?_ (Or.inr ⟨hB,rfl,rfl⟩) rfl ?_ rfl ?_ rfl
  ·exact fc
  ·exact fc
  ·exact fc
 have hC:b = B:=Classical.not_not.1 hC
 have hR:RaR b L:=mkR hc h8 hC.symm
 repeat (first | (refine zB.intro (fun h=>False.elim (by revert h;first | (simp [hc,hC];done) | fail)) (fun _=>?_)) | (refine zB.intro (fun _=>?_) (fun h=>False.elim (by revert h;first | (simp [hc,hC];done) | fail))) | (refine sd ?_))
 refine Ret.intro (.tup [.agg (acL X (.isl 0 i 33 [(i * 33,.arr i 33 (onF A))])),.tt]) [] [] rfl ?_ (hfin hR) rfl ?_ rfl ?_ rfl
 ·exact fc
 ·exact fc
 ·exact fc
theorem fdG_app {x:Te}:∀ {T r:List Te} {i:Nat},fdT x T = i + 1->fdT x (T ++ r) = i + 1
 | [],_,_,h=>by simp [fdT] at h
 | y :: t,r,i,h=>by
  by_cases hy:y = x
  ·simp only [fdT,if_pos hy,List.cons_append] at h ⊢;exact h
  ·simp only [fdT,if_neg hy,List.cons_append] at h ⊢
   cases hf:fdT x t with
   | zero=>rw [hf] at h;cases h
   | succ j=>rw [hf] at h;rw [fdG_app hf];exact h
theorem fdG_getD {x:Te}:∀ {T:List Te} {i:Nat},fdT x T = i + 1->T.getD i te0 = x
 | [],_,h=>by simp [fdT] at h
 | y :: t,i,h=>by
  by_cases hy:y = x
  ·simp only [fdT,if_pos hy] at h
   obtain rfl:i = 0:=by omega
   exact hy
  ·simp only [fdT,if_neg hy] at h
   cases hf:fdT x t with
   | zero=>rw [hf] at h;cases h
   | succ j=>
    rw [hf] at h
    have h:j + 2 = i + 1:=h
    obtain rfl:i = j + 1:=by omega
    exact (fdG_getD hf:t.getD j te0 = x)
def Num (T:List Te) (x:Te) (o:Nat):Prop:=fdT x T = o/\o ≠ 0
def Ext (A B:List Te):Prop:=∀ y o,Num A y o->Num B y o
theorem Ext.refl (A:List Te):Ext A A:=fun _ _ h=>h
theorem Ext.trans {A B C:List Te} (h:Ext A B) (k:Ext B C):Ext A C:=fun y o n=>k y o (h y o n)
theorem Ext.mk (T:List Te) (x:Te):Ext T (mkT T x).1:=by
 rintro y o ⟨h,h0⟩
 obtain ⟨i,rfl⟩:∃ i,o = i + 1:=⟨o - 1,by omega⟩
 by_cases hV:Valid x.1 x.2
 ·cases hf:fdT x T with
  | zero=>rw [mkT_new hV hf];exact ⟨fdG_app h,h0⟩
  | succ j=>rw [mkT_old hV hf];exact ⟨h,h0⟩
 ·rw [mkT_no hV];exact ⟨h,h0⟩
theorem mkT_has {T:List Te} {x:Te} {o:Nat} (hV:Valid x.1 x.2) (h:Num T x o):mkT T x = (T,o):=by
 obtain ⟨h,h0⟩:=h
 obtain ⟨i,rfl⟩:∃ i,o = i + 1:=⟨o - 1,by omega⟩
 exact mkT_old hV h
theorem Num.getD {T:List Te} {x:Te} {o:Nat} (h:Num T x o):T.getD (o - 1) te0 = x/\o <= T.length/\1 <= o:=by
 obtain ⟨h,h0⟩:=h
 obtain ⟨i,rfl⟩:∃ i,o = i + 1:=⟨o - 1,by omega⟩
 exact ⟨fdG_getD h,by rw [<- h];exact fdT_le x T,by omega⟩
theorem Num.det {T:List Te} {x y:Te} {o:Nat} (h:Num T x o) (k:Num T y o):x = y:=by rw [<- h.getD.1,<- k.getD.1]
theorem Num.one {T:List Te} {x:Te} {o p:Nat} (h:Num T x o) (k:Num T x p):o = p:=by rw [<- h.1,<- k.1]
theorem v1 {k:Int} (h1:1 <= k) (h8:k <= 8) {p:List UInt8} (hp:p.length <= 4096):Valid k [p]:=⟨joinsA hp,h1,h8⟩
theorem numP_ky {z N:Nat} (h1:1 <= z) (h2:z <= N) (h3:N < 4294967296):numP (kyB z) N 0 = z:=by
 obtain ⟨i,rfl⟩:∃ i,z = i + 1:=⟨z - 1,by omega⟩
 exact numP_name h1 h2 h3
theorem opn_sealed {T:List Te} {key p:List UInt8} {o:Nat} (h:Num T (8,[key,p]) o) (hl:T.length < 4294967296) (hp:p.length <= 1024):opn T T.length key (sefB o p.length) = some p:=by
 obtain ⟨h1,h2,h3⟩:=h.getD
 have hq:numP ((sefB o p.length).take 32) T.length 0 = (o - 1) + 1:=by rw [sefB_take,numP_ky h3 h2 hl];omega
 rw [opn_yes hq,h1]
 ·rfl
 ·rw [h1]
  refine ⟨rfl,rfl,rfl,?_,?_⟩
  ·show sizS ((p.length:Nat):Int) = _
   rw [sizS_ok (by omega) (by omega),sefB_length];omega
  ·rw [sefB_length,sefB_eq,List.drop_left' (zk o)]
   congr 1
end Go.Proofs.YtfnmgbillkiabaaGreat
