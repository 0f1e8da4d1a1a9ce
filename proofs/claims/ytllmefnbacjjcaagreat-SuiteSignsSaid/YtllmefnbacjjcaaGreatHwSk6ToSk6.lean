/- Walks. -/
import Derived.Test.YtllmefnbacjjcaaGreatHwSk1ToSk5
set_option linter.unusedSimpArgs false
set_option linter.unusedVariables false
set_option maxHeartbeats 4000000
set_option maxRecDepth 100000
namespace Go.Proofs.YtllmefnbacjjcaaGreat
open Go Go.Sx Go.Cu
theorem wj (P:Prop) (hP:¬P) (s q:List UInt8) (n:Nat) (hs:s.length=32) (hq:q.length=n):Sx.Fn Γ.P 3 [.bool P,.a8 s,.isl 0 n 1 [(n,.a8 q)]] [] (λv _=>v= .tt):=by
 have s1:=aHH s hs
 have l1:=gU s
 by_cases hn:n<=4096
 ·have g1:=aQ6 s q n hs hq hn
  have g2:=aLV s q n hs hq hn
  have lG:=gX s q
  have v1:=aHF (spB s) q (sgB s q) n l1 hq hn lG
  have hv:=aJM s q
  have ev:(vrf (spB s) q (sgB s q))=True:=eq_true hv
  rw[ev]at v1
  clear hv ev
  generalize sgB s q=G at *
  generalize spB s=S at *
  refine aG (Γ:=Γ) (fn:=Tryz.f3) rfl rfl rfl rfl ?_
  refine gB ?_
  refine Call.i fn4 [] rfl trivial rfl trivial rfl ?_
  rintro v M' rfl
  refine gN ?_
  repeat(first|(refine zB.i (λ_=>?_) (λhn=>absurd rfl hn))|refine ky0 ?_|refine kn0 ?_|refine sd ?_)
  refine Call.i tN [] rfl fc rfl fc rfl ?_
  rintro _ _ ⟨rfl,rfl⟩
  refine gN ?_
  refine gB ?_
  refine Call.i aN4 [] rfl fc rfl fc rfl ?_
  rintro _ _ ⟨rfl,rfl⟩
  refine gN ?_
  refine gB ?_
  refine Call.pure g1 rfl fc ?_
  rintro _ rfl
  refine gP ?_
  refine zB.i ?_ ?_<;>intro hc
  ·have hc:(n:Int)>4096:=hc
   exact absurd hc (by omega)
  refine gB ?_
  refine aH.i [[],[],[],[],[1,2,3],r_5,r_6,r_7,r_7,r_7,[0,1,2,3,4,5,6,8,9],r_7,r_7,jO,oB,nw] [0,1,2,3,4,5,6,7,8,9,11,12,10,13,14,15] (by kernel_rfl) ?_
  refine gP ?_
  refine Call.pure g2 rfl fc ?_
  rintro _ rfl
  refine gP ?_
  refine Call.pure s1 rfl fc ?_
  rintro _ rfl
  refine gP ?_
  refine Call.pure v1 rfl fc ?_
  rintro _ rfl
  refine gP ?_
  refine Ret.i .tt [] [] rfl ?_ rfl rfl ?_ rfl ?_ rfl
  ·exact fc
  ·repeat' first|exact trivial|refine zA.app ?_ ?_|refine zA.zd ?_ ?_|refine zA.cons ?_ ?_|exact fc|fail
   all_goals(simp[hP])
  exact fc
 have hn:4096<n:=by omega
 have g1:=aLT s q n hs hq hn
 have v1:=aCD (spB s) q (List.replicate 64 0) n l1 hq hn rfl
 generalize spB s=S at *
 refine aG (Γ:=Γ) (fn:=Tryz.f3) rfl rfl rfl rfl ?_
 refine gB ?_
 refine Call.i fn4 [] rfl trivial rfl trivial rfl ?_
 rintro v M' rfl
 refine gN ?_
 repeat(first|(refine zB.i (λ_=>?_) (λhn=>absurd rfl hn))|refine ky0 ?_|refine kn0 ?_|refine sd ?_)
 refine Call.i tN [] rfl fc rfl fc rfl ?_
 rintro _ _ ⟨rfl,rfl⟩
 refine gN ?_
 refine gB ?_
 refine Call.i aN4 [] rfl fc rfl fc rfl ?_
 rintro _ _ ⟨rfl,rfl⟩
 refine gN ?_
 refine gB ?_
 refine Call.pure g1 rfl fc ?_
 rintro _ rfl
 refine gP ?_
 refine zB.i ?_ ?_<;>intro hc
 rotate_left
 ·have hc:¬(n:Int)>4096:=hc
  exact absurd hc (by omega)
 refine gB ?_
 refine aH.i [[],[],[0,1],[0,1,2],r_4,r_4,r_4,[0,1,2,3,5,6],r_4,r_4,ek,fe,kX,jO] [0,1,2,3,4,5,6,8,9,7,10,11,12,13] (by kernel_rfl) ?_
 refine gP ?_
 refine Call.pure s1 rfl fc ?_
 rintro _ rfl
 refine gP ?_
 refine Call.pure v1 rfl fc ?_
 rintro _ rfl
 refine gP ?_
 refine Ret.i .tt [] [] rfl ?_ rfl rfl ?_ rfl ?_ rfl
 ·exact fc
 ·repeat' first|exact trivial|refine zA.app ?_ ?_|refine zA.zd ?_ ?_|refine zA.cons ?_ ?_|exact fc|fail
  all_goals(simp[hP])
 exact fc
theorem wk (P:Prop) (hP:P) (s q:List UInt8) (n:Nat) (hs:s.length=32) (hq:q.length=n):Sx.Fn Γ.P 3 [.bool P,.a8 s,.isl 0 n 1 [(n,.a8 q)]] [] (λv _=>v= .tt):=by
 by_cases hn:n<=4096
 ·obtain⟨A,hA⟩:∃A,(mk2 [] 6 s q).1=A:=⟨_,rfl⟩
  obtain⟨o1,ho1⟩:∃o,(mk2 [] 6 s q).2=o:=⟨_,rfl⟩
  have hN1:=aQK [] (k:=6) (by decide) (by decide) (p:=s) (q:=q) (by omega) (by omega)
  have hvA:=aGB (T:=[]) ib 6 s q
  have hlA:=(aQL [] 6 s q).2
  rw[hA,ho1]at hN1
  rw[hA]at hvA hlA
  have hlA:A.length<=1:=hlA
  obtain⟨B,hB⟩:∃B,(mk1 A 5 s).1=B:=⟨_,rfl⟩
  obtain⟨o2,ho2⟩:∃o,(mk1 A 5 s).2=o:=⟨_,rfl⟩
  have hN2:=aQM A (k:=5) (by decide) (by decide) (p:=s) (by omega)
  have hvB:=aGC hvA 5 s
  have hlB:=(aQN A 5 s).2
  have hxB:=aQO A 5 s
  rw[hB,ho2]at hN2
  rw[hB]at hvB hlB hxB
  have hN1:=hxB _ _ hN1
  have hsl:=mP o1
  have hk2:=zk o2
  have hF1:=aQ7 [] 0 0 rfl (by omega) (Nat.le_refl _) ib s q n hs hq hn A o1 hA ho1
  have hR1:=aLW [] 0 0 rfl (by omega) (Nat.le_refl _) ib s q n hs hq hn A o1 hA ho1
  unfold tbM at hF1
  unfold rbM at hR1
  refine aG (Γ:=Γ) (fn:=Tryz.f3) rfl rfl rfl rfl ?_
  refine gB ?_
  refine Call.i fn4 [] rfl trivial rfl trivial rfl ?_
  rintro v M' rfl
  refine gN ?_
  repeat(first|(refine zB.i (λ_=>?_) (λhn=>absurd rfl hn))|refine ky0 ?_|refine kn0 ?_|refine sd ?_)
  refine Call.i tO [(1000,(1000,0,none)),(1001,(1001,0,none)),(1002,(1002,0,none))] rfl fc rfl fc rfl ?_
  rintro _ _ ⟨rfl,rfl⟩
  refine gN ?_
  refine gB ?_
  refine Call.i aN5 [(1000,(2000,0,none)),(1001,(2001,0,none))] rfl fc rfl fc rfl ?_
  rintro _ _ ⟨rfl,rfl⟩
  refine gN ?_
  refine gB ?_
  refine Call.i hF1 [(1000,(1000,0,none)),(1001,(1001,0,none)),(1002,(1002,0,none)),(1005,(305,0,none))] rfl fc rfl fc rfl ?_
  rintro v M' ⟨n1,c1,hn1,hc1,rfl,rfl⟩
  refine gN ?_
  refine gB ?_
  refine zB.i ?_ ?_<;>intro hc
  ·have hc:(n:Int)>4096:=hc
   exact absurd hc (by omega)
  refine gB ?_
  refine aH.i [[],[],[],[],[1,2,3],r_5,r_6,r_7,r_7,r_7,[0,1,2,3,4,5,6,8,9],r_7,r_7,jO,oB,nw] [0,1,2,3,4,5,6,7,8,9,11,12,10,13,14,15] (by kernel_rfl) ?_
  refine gP ?_
  refine Call.i hR1 [(1000,(2000,0,none)),(1001,(2001,0,none)),(1005,(405,0,none))] rfl fc rfl fc rfl ?_
  rintro v M' ⟨m1,d1,hm1,hd1,rfl,rfl⟩
  refine gN ?_
  refine gP ?_
  have hF2:=vP A n1 c1 hn1 (by omega) hc1 hvA s hs B o2 hB ho2
  unfold tbM at hF2
  refine Call.i hF2 [(1000,(1000,0,none)),(1001,(305,0,none)),(1002,(1002,0,none)),(1005,(306,0,none))] rfl fc rfl fc rfl ?_
  rintro v M' ⟨n2,c2,hn2,hc2,rfl,rfl⟩
  refine gN ?_
  refine gP ?_
  have hVf:=aHG B n2 hn2 (by omega) hvB (kyB o2) q (sgF o1) n hk2 hq (by omega) hsl
  have hvf:=aJN (two:=q) hN1 hN2 (by omega)
  rw[hn2]at hvf
  refine Call.i hVf [(1000,(1000,0,none)),(1001,(306,0,none)),(1002,(1002,0,none))] rfl fc rfl fc rfl ?_
  rintro v M' (⟨hv,rfl,rfl⟩|⟨hv,rfl,rfl⟩)
  ·refine gN ?_
   refine gP ?_
   refine Ret.i .tt [] [] rfl ?_ rfl rfl ?_ rfl ?_ rfl
   ·exact fc
   ·repeat' first|exact trivial|refine zA.app ?_ ?_|refine zA.zd ?_ ?_|refine zA.cons ?_ ?_|exact fc|fail
    all_goals(simp[hP])
   exact fc
  exact absurd (hvf.2 ⟨rfl,rfl⟩) hv
 have hn:4096<n:=by omega
 obtain⟨B,hB⟩:∃B,(mk1 [] 5 s).1=B:=⟨_,rfl⟩
 obtain⟨o2,ho2⟩:∃o,(mk1 [] 5 s).2=o:=⟨_,rfl⟩
 have hk2:=zk o2
 have hF1:=aLU [] 0 0 s q n hs hq hn
 have hF2:=vP [] 0 0 rfl (by omega) (Nat.le_refl _) ib s hs B o2 hB ho2
 unfold tbM at hF1 hF2
 refine aG (Γ:=Γ) (fn:=Tryz.f3) rfl rfl rfl rfl ?_
 refine gB ?_
 refine Call.i fn4 [] rfl trivial rfl trivial rfl ?_
 rintro v M' rfl
 refine gN ?_
 repeat(first|(refine zB.i (λ_=>?_) (λhn=>absurd rfl hn))|refine ky0 ?_|refine kn0 ?_|refine sd ?_)
 refine Call.i tO [(1000,(1000,0,none)),(1001,(1001,0,none)),(1002,(1002,0,none))] rfl fc rfl fc rfl ?_
 rintro _ _ ⟨rfl,rfl⟩
 refine gN ?_
 refine gB ?_
 refine Call.i aN5 [(1000,(2000,0,none)),(1001,(2001,0,none))] rfl fc rfl fc rfl ?_
 rintro _ _ ⟨rfl,rfl⟩
 refine gN ?_
 refine gB ?_
 refine Call.i hF1 [(1000,(1000,0,none)),(1001,(1001,0,none)),(1002,(1002,0,none))] rfl fc rfl fc rfl ?_
 rintro _ _ ⟨rfl,rfl⟩
 refine gN ?_
 refine gB ?_
 refine zB.i ?_ ?_<;>intro hc
 rotate_left
 ·have hc:¬(n:Int)>4096:=hc
  exact absurd hc (by omega)
 refine gB ?_
 refine aH.i [[],[],[0,1],[0,1,2],r_4,r_4,r_4,[0,1,2,3,5,6],r_4,r_4,ek,fe,kX,jO] [0,1,2,3,4,5,6,8,9,7,10,11,12,13] (by kernel_rfl) ?_
 refine gP ?_
 refine Call.i hF2 [(1000,(1000,0,none)),(1001,(1001,0,none)),(1002,(1002,0,none)),(1005,(306,0,none))] rfl fc rfl fc rfl ?_
 rintro v M' ⟨n2,c2,hn2,hc2,rfl,rfl⟩
 refine gN ?_
 refine gP ?_
 have hVf:=aCE B n2 c2 (kyB o2) q (List.replicate 64 0) n hk2 hq hn rfl
 unfold tbM at hVf
 refine Call.i hVf [(1000,(1000,0,none)),(1001,(306,0,none)),(1002,(1002,0,none))] rfl fc rfl fc rfl ?_
 rintro _ _ ⟨rfl,rfl⟩
 refine gN ?_
 refine gP ?_
 refine Ret.i .tt [] [] rfl ?_ rfl rfl ?_ rfl ?_ rfl
 ·exact fc
 ·repeat' first|exact trivial|refine zA.app ?_ ?_|refine zA.zd ?_ ?_|refine zA.cons ?_ ?_|exact fc|fail
  all_goals(simp[hP])
 exact fc
theorem suiteSigns_runs (svs:List SV) (h:aWM [aG1,aG2 32,aG0 1] svs):Sx.Fn Γ.P 3 svs [] (λv _=>v= .tt):=by
 match svs,h with
 |[_,_,_],⟨⟨p,rfl⟩,⟨s,hs,rfl⟩,⟨n,q,hq,_,rfl⟩,_⟩=>
  rw[Nat.mul_one]at hq⊢
  by_cases hp:p=true
  ·exact wk _ hp s q n hs hq
  exact wj _ hp s q n hs hq
end Go.Proofs.YtllmefnbacjjcaaGreat
