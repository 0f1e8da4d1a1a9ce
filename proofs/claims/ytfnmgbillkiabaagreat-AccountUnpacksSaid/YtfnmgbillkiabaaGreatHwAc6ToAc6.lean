/- What the functions of the program compute. No condition. -/
import Derived.Test.YtfnmgbillkiabaaGreatHwAc5ToAc2
import Derived.Test.YtfnmgbillkiabaaGreatHwRc2ToRc2
import Derived.Test.YtfnmgbillkiabaaGreatHx7
set_option linter.unusedSimpArgs false
set_option linter.unusedVariables false
set_option maxRecDepth 100000
namespace Go.Proofs.YtfnmgbillkiabaaGreat
open Go Go.Sx
def unPost (b:List UInt8) (v:SV) (M:Mm):Prop:=(∃ x l N,AcR b x l/\l.length = N/\N <= 8/\v = .tup [.agg (acL x (.isl 0 N 33 [(N * 33,.arr N 33 (onF l))])),.tt]/\M = []) \/ ((¬ ∃ x l,AcR b x l)/\v = .tup [.agg zAc,.ff]/\M = [])
set_option maxHeartbeats 8000000 in
theorem fn23 (b:List UInt8) (n:Nat) (hb:b.length = n) (hn:n <= maxLen):Sx.Fn Γ.P 23 [.isl 0 n 1 [(n,.a8 b)]] [] (unPost b):=by
 have hmx:maxLen = 9223372036854775807:=by decide
 have hSp:=fn59 b n hb hn
 refine fn_cut [1000002,1000012] (Γ:=Γ) (fn:=Tryz.f23) rfl rfl rfl rfl ?_
 repeat (refine sd ?_)
 refine Join.intro (σ:=List (List UInt8) × Nat × Nat × Int) (fun s=>s.1.length = s.2.1/\s.2.1 <= s.2.2.1/\s.2.1 <= 64/\((s.2.2.2 ≠ 0/\spl b = none) \/ (s.2.2.2 = 0/\spl b = some s.1)))
  (fun s=>([(2,.ptr 202 0 none),(4,.sl 401 0 0 s.2.1 s.2.2.1),(5,.i .i64 s.2.2.2)],[(202,.mem true 0 zAc),(401,.mem true (zmE (s.2.2.1 - s.2.1) 1) [(s.2.1 * 1,.arr s.2.1 1 (rwF s.1))])])) ?_ ?_
 ·repeat (refine sd ?_)
  refine Call.intro hSp [(1006,(301,0,none))] rfl ?_ rfl ?_ rfl ?_
  ·exact fc
  ·exact fc
  rintro v M' (⟨hs,⟨e,he,rfl⟩,rfl⟩ | ⟨L,m,c,hs,hL,hmc,hm64,rfl,rfl⟩)
  ·dsimp only [zt,zM,zE,ren,zz,zx,zy,look,zG,zX,ev,evL,zV,zcT,zcF,act,zP,zO,Ent.zW]
   repeat (refine sd ?_)
   refine ⟨([],0,0,e),⟨rfl,Nat.le_refl 0,Nat.zero_le _,Or.inl ⟨he,hs⟩⟩,Le.ghost [.own 401 [(0 * 1,.arr 0 1 (rwF []))]] [(4,401)] [(202,(2,0,none))] rfl ?_ rfl rfl ?_ rfl ?_ rfl⟩
   ·repeat' (first | (show zA _;first | exact trivial | refine zA.app ?_ ?_ | refine zA.zd ?_ ?_ | refine zA.cons ?_ ?_) | exact fd | fail)
    all_goals exact ⟨rfl,rfl,trivial⟩
   ·exact fc
   ·exact fc
  ·dsimp only [zt,zM,zE,ren,zz,zx,zy,look,zG,zX,ev,evL,zV,zcT,zcF,act,zP,zO,Ent.zW]
   repeat (refine sd ?_)
   refine ⟨(L,m,c,0),⟨hL,hmc,hm64,Or.inr ⟨rfl,hs⟩⟩,Le.intro [(202,(2,0,none)),(401,(301,0,none))] rfl ?_ rfl ?_ rfl⟩
   ·exact fc
   ·exact fc
 rintro ⟨L,m,c,e0⟩ ⟨hL,hmc,hm64,hspl⟩
 have hL:L.length = m:=hL
 have hmc:m <= c:=hmc
 have hm64:m <= 64:=hm64
 have hspl:(e0 ≠ 0/\spl b = none) \/ (e0 = 0/\spl b = some L):=hspl
 have key:∀ x l,AcR b x l->e0 = 0/\4 <= m/\m <= 12/\acOK L/\(∀ p ∈ L.drop 4,p.length = 34):=by
  rintro x l ⟨L',q1,q2,q3,q4,q5,_,_⟩
  rcases hspl with ⟨_,h⟩ | ⟨he,h⟩
  ·rw [h] at q1;cases q1
  ·rw [h] at q1
   have e:L = L':=Option.some.inj q1
   rw [<- e] at q2 q3 q4 q5
   exact ⟨he,by omega,by omega,q4,q5⟩
 repeat (refine sd ?_)
 by_cases c0:¬ e0 = 0
 ·have hB:¬ ∃ x l,AcR b x l:=fun ⟨x,l,h⟩=>c0 (key x l h).1
  repeat (first | (refine zB.intro (fun h=>False.elim (by revert h;first | (simp [c0];done) | fail)) (fun _=>?_)) | (refine zB.intro (fun _=>?_) (fun h=>False.elim (by revert h;first | (simp [c0];done) | fail))) | (refine sd ?_))
  refine Ret.intro (.tup [.agg zAc,.ff]) [] [] rfl ?_ (Or.inr ⟨hB,rfl,rfl⟩) rfl ?_ rfl ?_ rfl
  ·exact fc
  ·exact fc
  ·exact fc
 have c0:e0 = 0:=Classical.not_not.1 c0
 subst c0
 have hsb:spl b = some L:=by
  rcases hspl with ⟨h,_⟩ | ⟨_,h⟩
  ·exact absurd rfl h
  ·exact h
 have h4:=spl_le hsb
 by_cases c1:m < 4
 ·have hB:¬ ∃ x l,AcR b x l:=fun ⟨x,l,h⟩=>by have:=(key x l h).2.1;omega
  have c1':(m:Int) < 4:=by omega
  repeat (first | (refine zB.intro (fun h=>False.elim (by revert h;first | (simp [c1'];done) | fail)) (fun _=>?_)) | (refine zB.intro (fun _=>?_) (fun h=>False.elim (by revert h;first | (simp [c1'];done) | fail))) | (refine sd ?_))
  refine Ret.intro (.tup [.agg zAc,.ff]) [] [] rfl ?_ (Or.inr ⟨hB,rfl,rfl⟩) rfl ?_ rfl ?_ rfl
  ·exact fc
  ·exact fc
  ·exact fc
 have c1':¬ (m:Int) < 4:=by omega
 by_cases c2:12 < m
 ·have hB:¬ ∃ x l,AcR b x l:=fun ⟨x,l,h⟩=>by have:=(key x l h).2.2.1;omega
  have c2':(12:Int) < (m:Int):=by omega
  repeat (first | (refine zB.intro (fun h=>False.elim (by revert h;first | (simp [c1',c2'];done) | fail)) (fun _=>?_)) | (refine zB.intro (fun _=>?_) (fun h=>False.elim (by revert h;first | (simp [c1',c2'];done) | fail))) | (refine sd ?_))
  refine Ret.intro (.tup [.agg zAc,.ff]) [] [] rfl ?_ (Or.inr ⟨hB,rfl,rfl⟩) rfl ?_ rfl ?_ rfl
  ·exact fc
  ·exact fc
  ·exact fc
 have c2':¬ (12:Int) < (m:Int):=by omega
 have lm:∀ i,i < m->(L.getD i []).length <= 4096:=fun i hi=>h4 _ (getD_mem [] (by omega))
 obtain ⟨p0,hp0⟩:∃ p,L.getD 0 [] = p:=⟨_,rfl⟩
 obtain ⟨p1,hp1⟩:∃ p,L.getD 1 [] = p:=⟨_,rfl⟩
 obtain ⟨p2,hp2⟩:∃ p,L.getD 2 [] = p:=⟨_,rfl⟩
 obtain ⟨p3,hp3⟩:∃ p,L.getD 3 [] = p:=⟨_,rfl⟩
 obtain ⟨n0,hn0⟩:∃ k,p0.length = k:=⟨_,rfl⟩
 obtain ⟨n1,hn1⟩:∃ k,p1.length = k:=⟨_,rfl⟩
 obtain ⟨n2,hn2⟩:∃ k,p2.length = k:=⟨_,rfl⟩
 obtain ⟨n3,hn3⟩:∃ k,p3.length = k:=⟨_,rfl⟩
 have m0:n0 <= 4096:=by have:=lm 0 (by omega);rw [hp0,hn0] at this;exact this
 have m1:n1 <= 4096:=by have:=lm 1 (by omega);rw [hp1,hn1] at this;exact this
 have m2:n2 <= 4096:=by have:=lm 2 (by omega);rw [hp2,hn2] at this;exact this
 have kk:∀ x l,AcR b x l->n0 = 32/\n1 = 32/\n2 = 32/\n3 = 2:=fun x l h=>by
  obtain ⟨a0,a1,a2,a3⟩:=(key x l h).2.2.2.1
  rw [hp0,hn0] at a0;rw [hp1,hn1] at a1;rw [hp2,hn2] at a2;rw [hp3,hn3] at a3
  exact ⟨a0,a1,a2,a3⟩
 have r0:rwF L 0 = [(1,.isl 0 n0 1 [(n0,.a8 p0)])]:=rwK hp0 hn0
 have r1:rwF L 1 = [(1,.isl 0 n1 1 [(n1,.a8 p1)])]:=rwK hp1 hn1
 have r2:rwF L 2 = [(1,.isl 0 n2 1 [(n2,.a8 p2)])]:=rwK hp2 hn2
 have r3:rwF L 3 = [(1,.isl 0 n3 1 [(n3,.a8 p3)])]:=rwK hp3 hn3
 by_cases c3:¬ n3 = 2
 ·have hB:¬ ∃ x l,AcR b x l:=fun ⟨x,l,h⟩=>c3 (kk x l h).2.2.2
  have c3':¬ ((L.getD (addQ 0 (Ix.lit 3).val) []).length:Int) = 2:=by rw [show addQ 0 (Ix.lit 3).val = 3 by rfl,hp3,hn3];omega
  repeat (first | (refine zB.intro (fun h=>False.elim (by revert h;first | (simp [c1',c2'];done) | fail)) (fun _=>?_)) | (refine zB.intro (fun _=>?_) (fun h=>False.elim (by revert h;first | (simp [c1',c2'];done) | fail))) | (refine sd ?_))
  repeat (first | (refine zB.intro (fun _=>?_) (fun hn=>absurd rfl hn)) | (refine ky0 ?_) | (refine kn0 ?_) | (refine ky ?_) | (refine kn ?_) | (refine sd ?_))
  refine Ret.intro (.tup [.agg zAc,.ff]) [] [] rfl ?_ (Or.inr ⟨hB,rfl,rfl⟩) rfl ?_ rfl ?_ rfl
  ·exact fc
  ·exact fc
  ·exact fc
 have c3:n3 = 2:=Classical.not_not.1 c3
 subst c3
 have c3':((L.getD (addQ 0 (Ix.lit 3).val) []).length:Int) = 2:=by rw [show addQ 0 (Ix.lit 3).val = 3 by rfl,hp3,hn3];rfl
 repeat (first | (refine zB.intro (fun h=>False.elim (by revert h;first | (simp [c1',c2'];done) | fail)) (fun _=>?_)) | (refine zB.intro (fun _=>?_) (fun h=>False.elim (by revert h;first | (simp [c1',c2'];done) | fail))) | (refine sd ?_))
 repeat (first | (refine zB.intro (fun _=>?_) (fun hn=>absurd rfl hn)) | (refine ky0 ?_) | (refine kn0 ?_) | (refine ky ?_) | (refine kn ?_) | (refine sd ?_))
 have k0:=fn60 p0 n0 hn0 (by omega)
 have k1:=fn60 p1 n1 hn1 (by omega)
 have k2:=fn60 p2 n2 hn2 (by omega)
 have k3:=fnGetP p3 2 hn3 (by omega) (by omega)
 have y0:=keyO_len p0
 have y1:=keyO_len p1
 have y2:=keyO_len p2
 obtain ⟨z0,hz0⟩:∃ z,keyO p0 = z:=⟨_,rfl⟩
 obtain ⟨z1,hz1⟩:∃ z,keyO p1 = z:=⟨_,rfl⟩
 obtain ⟨z2,hz2⟩:∃ z,keyO p2 = z:=⟨_,rfl⟩
 rw [hz0] at k0 y0
 rw [hz1] at k1 y1
 rw [hz2] at k2 y2
 repeat (refine sd ?_)
 refine Call.intro k0 [] rfl ?_ rfl ?_ rfl ?_
 ·repeat' (first | (show zA _;first | exact trivial | refine zA.app ?_ ?_ | refine zA.zd ?_ ?_ | refine zA.cons ?_ ?_) | exact fd | fail)
  all_goals first | (simp only [Ix.val,zQ,Nat.zero_add,hp0,hn0,Nat.mul_one];done) | trace_state
 ·exact fc
 rintro v M' ⟨rfl,rfl⟩
 dsimp only [zt,zM,zE,ren,zz,zx,zy,look,zG,zX,ev,evL,zV,zcT,zcF,act,zP,zO,Ent.zW]
 repeat (refine sd ?_)
 refine Call.intro k1 [] rfl ?_ rfl ?_ rfl ?_
 ·repeat' (first | (show zA _;first | exact trivial | refine zA.app ?_ ?_ | refine zA.zd ?_ ?_ | refine zA.cons ?_ ?_) | exact fd | fail)
  all_goals first | (simp only [Ix.val,zQ,Nat.zero_add,hp1,hn1,Nat.mul_one];done) | trace_state
 ·exact fc
 rintro v M' ⟨rfl,rfl⟩
 dsimp only [zt,zM,zE,ren,zz,zx,zy,look,zG,zX,ev,evL,zV,zcT,zcF,act,zP,zO,Ent.zW]
 repeat (refine sd ?_)
 refine Call.intro k2 [] rfl ?_ rfl ?_ rfl ?_
 ·repeat' (first | (show zA _;first | exact trivial | refine zA.app ?_ ?_ | refine zA.zd ?_ ?_ | refine zA.cons ?_ ?_) | exact fd | fail)
  all_goals first | (simp only [Ix.val,zQ,Nat.zero_add,hp2,hn2,Nat.mul_one];done) | trace_state
 ·exact fc
 rintro v M' ⟨rfl,rfl⟩
 dsimp only [zt,zM,zE,ren,zz,zx,zy,look,zG,zX,ev,evL,zV,zcT,zcF,act,zP,zO,Ent.zW]
 repeat (refine sd ?_)
 refine Call.intro k3 [] rfl ?_ rfl ?_ rfl ?_
 ·repeat' (first | (show zA _;first | exact trivial | refine zA.app ?_ ?_ | refine zA.zd ?_ ?_ | refine zA.cons ?_ ?_) | exact fd | fail)
  all_goals first | (simp only [Ix.val,zQ,Nat.zero_add,hp3,hn3,Nat.mul_one];done) | trace_state
 ·exact fc
 rintro v M' ⟨rfl,rfl⟩
 dsimp only [zt,zM,zE,ren,zz,zx,zy,look,zG,zX,ev,evL,zV,zcT,zcF,act,zP,zO,Ent.zW]
 repeat (refine sd ?_)
 have hdl:(L.drop 4).length = m - 4:=by rw [zlD,hL]
 obtain ⟨B,hBe⟩:∃ B:Prop,B = (n0 = 32/\n1 = 32/\n2 = 32):=⟨_,rfl⟩
 refine Join.intro (σ:=Unit) (fun _=>True) (fun _=>([(2,.ptr 202 0 none),(4,.sl 401 0 0 m c),(6,.ptr 206 0 none),(12,.bool B)],[(202,.mem true 0 zAc),(206,.mem true 0 [(32,.a8 z0),(32,.a8 z1),(1,.u16 0),(32,.a8 z2),(1,.sl 450 0 0 0 0),(1,.u16 (gK p3 0 2).toUInt16)]),(401,.mem true (zmE (c - m) 1) [(m * 1,.arr m 1 (rwF L))]),(450,.mem true (zmE (0 - 0) 33) [(0 * 33,.arr 0 33 (onF []))])])) ?_ ?_
 ·by_cases d0:¬ n0 = 32
  ·have d0':¬ (n0:Int) = 32:=by omega
   repeat (first | (refine zB.intro (fun h=>False.elim (by revert h;first | (simp [d0,d0'];done) | fail)) (fun _=>?_)) | (refine zB.intro (fun _=>?_) (fun h=>False.elim (by revert h;first | (simp [d0,d0'];done) | fail))) | (refine sd ?_))
   refine ⟨(),trivial,Le.ghost [.own 450 [(0 * 33,.arr 0 33 (onF []))],.leaf 6 4 450] [] [(202,(202,0,none)),(206,(6,0,none)),(401,(401,0,none))] rfl ?_ rfl rfl ?_ rfl ?_ rfl⟩
   ·repeat' (first | (show zA _;first | exact trivial | refine zA.app ?_ ?_ | refine zA.zd ?_ ?_ | refine zA.cons ?_ ?_) | exact fd | fail)
    all_goals exact ⟨rfl,rfl,trivial⟩
   ·repeat' (first | (show zA _;first | exact trivial | refine zA.app ?_ ?_ | refine zA.zd ?_ ?_ | refine zA.cons ?_ ?_) | exact fd | fail)
    all_goals first | (simp [hBe,d0];done) | trace_state
   ·exact fc
  have d0:n0 = 32:=Classical.not_not.1 d0
  by_cases d1:¬ n1 = 32
  ·repeat (first | (refine zB.intro (fun h=>False.elim (by revert h;first | (simp [d0,d1];done) | fail)) (fun _=>?_)) | (refine zB.intro (fun _=>?_) (fun h=>False.elim (by revert h;first | (simp [d0,d1];done) | fail))) | (refine sd ?_))
   refine ⟨(),trivial,Le.ghost [.own 450 [(0 * 33,.arr 0 33 (onF []))],.leaf 6 4 450] [] [(202,(202,0,none)),(206,(6,0,none)),(401,(401,0,none))] rfl ?_ rfl rfl ?_ rfl ?_ rfl⟩
   ·repeat' (first | (show zA _;first | exact trivial | refine zA.app ?_ ?_ | refine zA.zd ?_ ?_ | refine zA.cons ?_ ?_) | exact fd | fail)
    all_goals exact ⟨rfl,rfl,trivial⟩
   ·repeat' (first | (show zA _;first | exact trivial | refine zA.app ?_ ?_ | refine zA.zd ?_ ?_ | refine zA.cons ?_ ?_) | exact fd | fail)
    all_goals first | (simp [hBe,d1];done) | trace_state
   ·exact fc
  have d1:n1 = 32:=Classical.not_not.1 d1
  repeat (first | (refine zB.intro (fun h=>False.elim (by revert h;first | (simp [d0,d1];done) | fail)) (fun _=>?_)) | (refine zB.intro (fun _=>?_) (fun h=>False.elim (by revert h;first | (simp [d0,d1];done) | fail))) | (refine sd ?_))
  refine ⟨(),trivial,Le.ghost [.own 450 [(0 * 33,.arr 0 33 (onF []))],.leaf 6 4 450] [] [(202,(202,0,none)),(206,(6,0,none)),(401,(401,0,none))] rfl ?_ rfl rfl ?_ rfl ?_ rfl⟩
  ·repeat' (first | (show zA _;first | exact trivial | refine zA.app ?_ ?_ | refine zA.zd ?_ ?_ | refine zA.cons ?_ ?_) | exact fd | fail)
   all_goals exact ⟨rfl,rfl,trivial⟩
  ·repeat' (first | (show zA _;first | exact trivial | refine zA.app ?_ ?_ | refine zA.zd ?_ ?_ | refine zA.cons ?_ ?_) | exact fd | fail)
   all_goals first | (simp [hBe,d0,d1];done) | trace_state
  ·exact fc
 rintro - -
 repeat (refine sd ?_)
 refine Loop.intro (σ:=Nat × List On × Nat) (fun s=>s.1 <= m - 4/\s.2.1 = ((L.drop 4).take s.1).map acE/\s.1 <= s.2.2/\∀ p ∈ (L.drop 4).take s.1,p.length = 34)
  (fun s=>([(2,.ptr 202 0 none),(6,.ptr 206 0 none),(12,.bool B),(87,.sl 401 0 4 (m - 4) (c - 4)),(88,.i .i64 ((m - 4:Nat):Int)),(89,.i .i64 (s.1:Int))],[(202,.mem true 0 zAc),(206,.mem true 0 [(32,.a8 z0),(32,.a8 z1),(1,.u16 0),(32,.a8 z2),(1,.sl 450 0 0 s.1 s.2.2),(1,.u16 (gK p3 0 2).toUInt16)]),(401,.mem true (zmE (c - m) 1) [(m * 1,.arr m 1 (rwF L))]),(450,.mem true (zmE (s.2.2 - s.1) 33) [(s.1 * 33,.arr s.1 33 (onF s.2.1))])]))
  (fun s=>m - 4 - s.1) (0,[],0) ⟨Nat.zero_le _,rfl,Nat.le_refl _,fun p hp=>by cases hp⟩ ?_ ?_
 ·refine Le.intro [(202,(202,0,none)),(206,(206,0,none)),(401,(401,0,none)),(450,(450,0,none))] rfl ?_ rfl ?_ rfl
  ·exact fc
  ·exact fc
 rintro ⟨i,l,cl⟩ ⟨hi,hl,hcl,h34⟩
 have hi:i <= m - 4:=hi
 have hl:l = ((L.drop 4).take i).map acE:=hl
 have hcl:i <= cl:=hcl
 have h34:∀ p ∈ (L.drop 4).take i,p.length = 34:=h34
 have hll:l.length = i:=by rw [hl,List.length_map,zlT];omega
 repeat (refine sd ?_)
 refine zB.intro (fun hq=>?_) (fun hq=>?_)
 ·have hq:(i:Int) < ((m - 4:Nat):Int):=hq
  have hi4:4 + i < m:=by omega
  obtain ⟨p,hp⟩:∃ p,L.getD (4 + i) [] = p:=⟨_,rfl⟩
  obtain ⟨np,hnp⟩:∃ n,p.length = n:=⟨_,rfl⟩
  have e1:addQ 4 (Int.toNat (i:Int)) = 4 + i:=by rw [zQ,zIn]
  have hpe:(L.drop 4).take (i + 1) = (L.drop 4).take i ++ [p]:=by
   rw [take_succ_getD [] (L.drop 4) i (by omega),List.getD_eq_getElem?_getD,List.getElem?_drop,<- List.getD_eq_getElem?_getD,hp]
  have hpd:p ∈ L.drop 4:=by
   have:p ∈ (L.drop 4).take (i + 1):=by rw [hpe];exact List.mem_append_right _ (List.mem_singleton.2 rfl)
   exact List.mem_of_mem_take this
  repeat (refine sdn ?_)
  by_cases h3:¬ np = 34
  ·have hB:¬ ∃ x l,AcR b x l:=fun ⟨x,l,h⟩=>h3 (by rw [<- hnp];exact (key x l h).2.2.2.2 p hpd)
   have h3':¬ ((L.getD (addQ 4 (Ix.dyn (Int.toNat (i:Int))).val) []).length:Int) = 34:=by rw [show addQ 4 (Ix.dyn (Int.toNat (i:Int))).val = 4 + i from e1,hp,hnp];omega
   repeat (first | (refine zB.intro (fun _=>?_) (fun hn=>absurd rfl hn)) | (refine ky0 ?_) | (refine kn0 ?_) | (refine ky ?_) | (refine kn ?_) | (refine sd ?_))
   refine Ret.intro (.tup [.agg zAc,.ff]) [] [] rfl ?_ (Or.inr ⟨hB,rfl,rfl⟩) rfl ?_ rfl ?_ rfl
   ·exact fc
   ·exact fc
   ·exact fc
  have h3:np = 34:=Classical.not_not.1 h3
  subst h3
  have h3':((L.getD (addQ 4 (Ix.dyn (Int.toNat (i:Int))).val) []).length:Int) = 34:=by rw [show addQ 4 (Ix.dyn (Int.toNat (i:Int))).val = 4 + i from e1,hp,hnp];rfl
  repeat (first | (refine zB.intro (fun _=>?_) (fun hn=>absurd rfl hn)) | (refine ky0 ?_) | (refine kn0 ?_) | (refine ky ?_) | (refine kn ?_) | (refine sd ?_))
  have hG:=fnGetQ p 34 0 2 hnp (by omega) (by omega) (by omega) (by omega)
  have hK:=fnKeyQ p 34 2 hnp (by omega) (by omega)
  have eP:(p.drop 2).take 32 = p.drop 2:=List.take_of_length_le (by rw [zlD];omega)
  have lP:(p.drop 2).length = 32:=by rw [zlD];omega
  rw [eP] at hK
  have hE:acE p = ((gK p 0 2).toUInt16,p.drop 2):=rfl
  obtain ⟨z,hz⟩:∃ z,p.drop 2 = z:=⟨_,rfl⟩
  rw [hz] at hK hE lP
  repeat (refine sd ?_)
  refine Call.intro hG [] rfl ?_ rfl ?_ rfl ?_
  ·repeat' (first | (show zA _;first | exact trivial | refine zA.app ?_ ?_ | refine zA.zd ?_ ?_ | refine zA.cons ?_ ?_) | exact fd | fail)
   all_goals first | (simp only [Ix.val,e1,hp,hnp,Nat.mul_one];done) | trace_state
  ·exact fc
  rintro v M' ⟨rfl,rfl⟩
  dsimp only [zt,zM,zE,ren,zz,zx,zy,look,zG,zX,ev,evL,zV,zcT,zcF,act,zP,zO,Ent.zW]
  repeat (refine sd ?_)
  refine Call.intro hK [] rfl ?_ rfl ?_ rfl ?_
  ·repeat' (first | (show zA _;first | exact trivial | refine zA.app ?_ ?_ | refine zA.zd ?_ ?_ | refine zA.cons ?_ ?_) | exact fd | fail)
   all_goals first | (simp only [Ix.val,e1,hp,hnp,Nat.mul_one,zQ,Nat.zero_add];done) | trace_state
  ·exact fc
  rintro v M' ⟨rfl,rfl⟩
  dsimp only [zt,zM,zE,ren,zz,zx,zy,look,zG,zX,ev,evL,zV,zcT,zcF,act,zP,zO,Ent.zW]
  repeat (refine sd ?_)
  refine fun c' hc'=>?_
  have hc':i + 1 <= c':=hc'
  repeat (refine sd ?_)
  refine ⟨(i + 1,l ++ [acE p],c'),⟨by show i + 1 <= m - 4;omega,by show l ++ [acE p] = ((L.drop 4).take (i + 1)).map acE;rw [hpe,List.map_append,<- hl];rfl,hc',?_⟩,by show m - 4 - (i + 1) < m - 4 - i;omega,Le.intro [(202,(202,0,none)),(206,(206,0,none)),(401,(401,0,none)),(450,(116,0,none))] rfl ?_ rfl ?_ rfl⟩
  ·show ∀ y ∈ (L.drop 4).take (i + 1),y.length = 34
   intro y hy
   rw [hpe] at hy
   rcases List.mem_append.1 hy with hy | hy
   ·exact h34 y hy
   ·rw [List.mem_singleton.1 hy];exact hnp
  ·exact fc
  ·repeat' (first | (show zA _;first | exact trivial | refine zA.app ?_ ?_ | refine zA.zd ?_ ?_ | refine zA.cons ?_ ?_) | exact fd | fail)
   all_goals first | exact appF_on hll (by rw [hE];rfl) | trace_state
 have hq:¬ (i:Int) < ((m - 4:Nat):Int):=hq
 obtain rfl:i = m - 4:=by omega
 have hall:(L.drop 4).take (m - 4) = L.drop 4:=List.take_of_length_le (by omega)
 rw [hall] at hl h34
 repeat (refine sd ?_)
 refine zB.intro (fun hc=>?_) (fun hc=>?_)
 ·have hc:¬ B:=hc
  have hB:¬ ∃ x l,AcR b x l:=fun ⟨x,l,h⟩=>hc (by rw [hBe];obtain ⟨a0,a1,a2,_⟩:=kk x l h;exact ⟨a0,a1,a2⟩)
  repeat (refine sd ?_)
  refine Ret.intro (.tup [.agg zAc,.ff]) [] [] rfl ?_ (Or.inr ⟨hB,rfl,rfl⟩) rfl ?_ rfl ?_ rfl
  ·exact fc
  ·exact fc
  ·exact fc
 have hc:¬ ¬ B:=hc
 have hc:n0 = 32/\n1 = 32/\n2 = 32:=by rw [<- hBe];exact Classical.not_not.1 hc
 obtain ⟨d0,d1,d2⟩:=hc
 have hok:acOK L:=⟨by rw [hp0,hn0];exact d0,by rw [hp1,hn1];exact d1,by rw [hp2,hn2];exact d2,by rw [hp3,hn3]⟩
 have hR:AcR b (acX L) l:=⟨L,hsb,by omega,by omega,hok,h34,rfl,hl⟩
 have f0:z0 = (acX L).ag:=by rw [<- hz0];show keyO p0 = L.getD 0 [];unfold keyO;rw [if_pos (by omega),hp0]
 have f1:z1 = (acX L).sg:=by rw [<- hz1];show keyO p1 = L.getD 1 [];unfold keyO;rw [if_pos (by omega),hp1]
 have f2:z2 = (acX L).fs:=by rw [<- hz2];show keyO p2 = L.getD 2 [];unfold keyO;rw [if_pos (by omega),hp2]
 have f3:(gK p3 0 2).toUInt16 = (acX L).nx:=by show _ = (gK (L.getD 3 []) 0 2).toUInt16;rw [hp3]
 have f4:(0:UInt16) = (acX L).fi:=rfl
 obtain ⟨X,hX⟩:∃ X,acX L = X:=⟨_,rfl⟩
 have hXo:X.OK:=by rw [<- hX];exact acX_ok hok
 rw [hX] at hR f0 f1 f2 f3 f4
 obtain ⟨o1,o2,o3⟩:=hXo
 repeat (refine sd ?_)
 refine Ret.ghost [.keep 450,.ice 202 4] [] rfl ?_ rfl (.tup [.agg (acL X (.isl 0 (m - 4) 33 [((m - 4) * 33,.arr (m - 4) 33 (onF l))])),.tt]) [] [] rfl ?_ (Or.inl ⟨X,l,m - 4,hR,hll,by omega,rfl,rfl⟩) rfl ?_ rfl ?_ rfl
 ·exact fc
 ·repeat' (first | (show zA _;first | exact trivial | refine zA.app ?_ ?_ | refine zA.zd ?_ ?_ | refine zA.cons ?_ ?_) | exact fd | fail)
  all_goals first | exact f0.symm | exact f1.symm | exact f2.symm | exact f3.symm | exact f4.symm | trace_state
 ·exact fc
 ·exact fc
end Go.Proofs.YtfnmgbillkiabaaGreat
