/- What the functions of the program compute. No condition. -/
import Derived.Test.YtpkllkbmoodniaaGreatHwRc6ToRc6
set_option linter.unusedSimpArgs false
set_option linter.unusedVariables false
namespace Go.Proofs.YtpkllkbmoodniaaGreat
open Go Go.Sx
set_option maxRecDepth 100000 in
set_option maxHeartbeats 8000000 in
theorem fn22 (b:List UInt8) (n:Nat) (hb:b.length = n) (hn:n ≤ maxLen):Sx.Fn Γ.P 22 [.isl 0 n 1 [(n,.a8 b)]] []
  (upPost b):=by
 have hmx:maxLen = 9223372036854775807:=by decide
 have hSp:=fn49 b n hb hn
 refine fn_cut [1000002,8,10,1000014] (Γ:=Γ) (fn:=Tryz.f22) rfl rfl rfl rfl ?_
 repeat (refine sd ?_)
 refine Join.intro (σ:=List (List UInt8) × Nat × Nat × Int) (fun s=>s.1.length = s.2.1∧s.2.1 ≤ s.2.2.1∧s.2.1 ≤ 64∧((s.2.2.2 ≠ 0∧spl b = none) ∨ (s.2.2.2 = 0∧spl b = some s.1)))
  (fun s=>([(2,.ptr 202 0 none),(4,.sl 401 0 0 s.2.1 s.2.2.1),(5,.i .i64 s.2.2.2)],[(202,.mem true 0 zSe),(401,.mem true (mulE (s.2.2.1 - s.2.1) 1) [(s.2.1 * 1,.arr s.2.1 1 (rwF s.1))])])) ?_ ?_
 ·repeat (refine sd ?_)
  refine Call.intro hSp [(1006,(301,0,none))] rfl ?_ rfl ?_ rfl ?_
  ·exact fc
  ·exact fc
  rintro v M' (⟨hs,⟨e,he,rfl⟩,rfl⟩ | ⟨L,m,c,hs,hL,hmc,hm64,rfl,rfl⟩)
  ·dsimp only [putT,afterM,newEnt,ren,renA,renS,renL,look,getM,getT,ev,evL,ofVal,cond_true,cond_false,Nat.beq_eq,act,isPar,ownPar,Ent.isOwn]
   repeat (refine sd ?_)
   refine ⟨([],0,0,e),⟨rfl,Nat.le_refl 0,Nat.zero_le _,Or.inl ⟨he,hs⟩⟩,Le.ghost [.own 401 [(0 * 1,.arr 0 1 (rwF []))]] [(4,401)] [(202,(2,0,none))] rfl ?_ rfl rfl ?_ rfl ?_ rfl⟩
   ·repeat' (first | (show AllP _;first | exact trivial | refine AllP.app ?_ ?_ | refine AllP.appd ?_ ?_ | refine AllP.cons ?_ ?_) | exact fd | fail)
    all_goals exact ⟨rfl,rfl,trivial⟩
   ·exact fc
   ·exact fc
  ·dsimp only [putT,afterM,newEnt,ren,renA,renS,renL,look,getM,getT,ev,evL,ofVal,cond_true,cond_false,Nat.beq_eq,act,isPar,ownPar,Ent.isOwn]
   repeat (refine sd ?_)
   refine ⟨(L,m,c,0),⟨hL,hmc,hm64,Or.inr ⟨rfl,hs⟩⟩,Le.intro [(202,(2,0,none)),(401,(301,0,none))] rfl ?_ rfl ?_ rfl⟩
   ·exact fc
   ·exact fc
 rintro ⟨L,m,c,e0⟩ ⟨hL,hmc,hm64,hspl⟩
 have hL:L.length = m:=hL
 have hmc:m ≤ c:=hmc
 have hm64:m ≤ 64:=hm64
 have hspl:(e0 ≠ 0∧spl b = none) ∨ (e0 = 0∧spl b = some L):=hspl
 obtain ⟨B0,hB0⟩:∃ p,(¬ e0 = 0) = p:=⟨_,rfl⟩
 repeat (refine sd ?_)
 run_tac (do let t ← Lean.Elab.Tactic.getMainTarget; let t ← Lean.Meta.whnf t; let a := t.getAppArgs; let l ← a.toList.mapM (fun x => do let f ← Lean.Meta.ppExpr x; pure ((toString f).take 300).toString); Lean.logInfo m!"HEAD {t.getAppFn} {l}")
 have U0:UpK L B0 0 0 B0:=UpK.zero L B0
 have c0:0 ≤ m:=Nat.zero_le m
 have hK:=fn50 L m c 0 hL (by omega) hmc c0 B0
 obtain ⟨k1,hk1⟩:∃ k,nxS L 0 32 = k:=⟨_,rfl⟩
 obtain ⟨x0,hx0⟩:∃ x,nxX L 0 32 = x:=⟨_,rfl⟩
 obtain ⟨B1,hB1⟩:∃ p,(B0 ∨ ¬ nxG L 0 32) = p:=⟨_,rfl⟩
 have U1:UpK L B0 1 k1 B1:=by rw [← hk1,← hB1];exact U0.next rfl (by decide)
 rw [hk1,hx0,hB1] at hK
 have V0:upOK L B0 16→x0 = L.getD 0 []:=fun ok=>by rw [← hx0];exact U0.val rfl ok (by decide)
 have l0:x0.length = 32:=by rw [← hx0];exact nxX_len _ _ _
 repeat (refine sd ?_)
 refine Call.intro hK [(1000,(22,0,none)),(1001,(401,0,none))] rfl ?_ rfl ?_ rfl ?_
 ·exact fc
 ·exact fc
 rintro v M' ⟨rfl,rfl⟩
 have c1:k1 ≤ m:=by rw [← hL];exact U1.c
 clear hK U0
 dsimp only [putT,afterM,newEnt,ren,renA,renS,renL,look,getM,getT,ev,evL,ofVal,cond_true,cond_false,Nat.beq_eq,act,isPar,ownPar,Ent.isOwn]
 have hK:=fn50 L m c k1 hL (by omega) hmc c1 B1
 obtain ⟨k2,hk2⟩:∃ k,nxS L k1 32 = k:=⟨_,rfl⟩
 obtain ⟨x1,hx1⟩:∃ x,nxX L k1 32 = x:=⟨_,rfl⟩
 obtain ⟨B2,hB2⟩:∃ p,(B1 ∨ ¬ nxG L k1 32) = p:=⟨_,rfl⟩
 have U2:UpK L B0 2 k2 B2:=by rw [← hk2,← hB2];exact U1.next rfl (by decide)
 rw [hk2,hx1,hB2] at hK
 have V1:upOK L B0 16→x1 = L.getD 1 []:=fun ok=>by rw [← hx1];exact U1.val rfl ok (by decide)
 have l1:x1.length = 32:=by rw [← hx1];exact nxX_len _ _ _
 repeat (refine sd ?_)
 refine Call.intro hK [(1000,(22,0,none)),(1001,(401,0,none))] rfl ?_ rfl ?_ rfl ?_
 ·exact fc
 ·exact fc
 rintro v M' ⟨rfl,rfl⟩
 have c2:k2 ≤ m:=by rw [← hL];exact U2.c
 clear hK U1
 dsimp only [putT,afterM,newEnt,ren,renA,renS,renL,look,getM,getT,ev,evL,ofVal,cond_true,cond_false,Nat.beq_eq,act,isPar,ownPar,Ent.isOwn]
 have hK:=fn50 L m c k2 hL (by omega) hmc c2 B2
 obtain ⟨k3,hk3⟩:∃ k,nxS L k2 32 = k:=⟨_,rfl⟩
 obtain ⟨x2,hx2⟩:∃ x,nxX L k2 32 = x:=⟨_,rfl⟩
 obtain ⟨B3,hB3⟩:∃ p,(B2 ∨ ¬ nxG L k2 32) = p:=⟨_,rfl⟩
 have U3:UpK L B0 3 k3 B3:=by rw [← hk3,← hB3];exact U2.next rfl (by decide)
 rw [hk3,hx2,hB3] at hK
 have V2:upOK L B0 16→x2 = L.getD 2 []:=fun ok=>by rw [← hx2];exact U2.val rfl ok (by decide)
 have l2:x2.length = 32:=by rw [← hx2];exact nxX_len _ _ _
 repeat (refine sd ?_)
 refine Call.intro hK [(1000,(22,0,none)),(1001,(401,0,none))] rfl ?_ rfl ?_ rfl ?_
 ·exact fc
 ·exact fc
 rintro v M' ⟨rfl,rfl⟩
 have c3:k3 ≤ m:=by rw [← hL];exact U3.c
 clear hK U2
 dsimp only [putT,afterM,newEnt,ren,renA,renS,renL,look,getM,getT,ev,evL,ofVal,cond_true,cond_false,Nat.beq_eq,act,isPar,ownPar,Ent.isOwn]
 have hK:=fn51 L m c k3 hL (by omega) hmc c3 B3
 obtain ⟨k4,hk4⟩:∃ k,nxS L k3 1 = k:=⟨_,rfl⟩
 obtain ⟨x3,hx3⟩:∃ x,nxX L k3 1 = x:=⟨_,rfl⟩
 rw [hk4,hx3] at hK
 have V3:upOK L B0 16→x3 = L.getD 3 []:=fun ok=>by rw [← hx3];exact U3.val rfl ok (by decide)
 have l3:x3.length = 1:=by rw [← hx3];exact nxX_len _ _ _
 repeat (refine sd ?_)
 refine Call.intro hK [(1000,(22,0,none)),(1001,(401,0,none))] rfl ?_ rfl ?_ rfl ?_
 ·exact fc
 ·exact fc
 rintro v M' ⟨rfl,B4,hb4,rfl⟩
 have U4:UpK L B0 4 k4 B4:=by rw [← hk4];exact U3.flag rfl (by rw [hx3];exact hb4)
 have c4:k4 ≤ m:=by rw [← hL];exact U4.c
 clear hK U3
 dsimp only [putT,afterM,newEnt,ren,renA,renS,renL,look,getM,getT,ev,evL,ofVal,cond_true,cond_false,Nat.beq_eq,act,isPar,ownPar,Ent.isOwn]
 have hK:=fn50 L m c k4 hL (by omega) hmc c4 B4
 obtain ⟨k5,hk5⟩:∃ k,nxS L k4 32 = k:=⟨_,rfl⟩
 obtain ⟨x4,hx4⟩:∃ x,nxX L k4 32 = x:=⟨_,rfl⟩
 obtain ⟨B5,hB5⟩:∃ p,(B4 ∨ ¬ nxG L k4 32) = p:=⟨_,rfl⟩
 have U5:UpK L B0 5 k5 B5:=by rw [← hk5,← hB5];exact U4.next rfl (by decide)
 rw [hk5,hx4,hB5] at hK
 have V4:upOK L B0 16→x4 = L.getD 4 []:=fun ok=>by rw [← hx4];exact U4.val rfl ok (by decide)
 have l4:x4.length = 32:=by rw [← hx4];exact nxX_len _ _ _
 repeat (refine sd ?_)
 refine Call.intro hK [(1000,(22,0,none)),(1001,(401,0,none))] rfl ?_ rfl ?_ rfl ?_
 ·exact fc
 ·exact fc
 rintro v M' ⟨rfl,rfl⟩
 have c5:k5 ≤ m:=by rw [← hL];exact U5.c
 clear hK U4
 dsimp only [putT,afterM,newEnt,ren,renA,renS,renL,look,getM,getT,ev,evL,ofVal,cond_true,cond_false,Nat.beq_eq,act,isPar,ownPar,Ent.isOwn]
 have hK:=fn52 L m c k5 hL (by omega) hmc c5 B5
 obtain ⟨k6,hk6⟩:∃ k,nxS L k5 2 = k:=⟨_,rfl⟩
 obtain ⟨x5,hx5⟩:∃ x,nxX L k5 2 = x:=⟨_,rfl⟩
 obtain ⟨B6,hB6⟩:∃ p,(B5 ∨ ¬ nxG L k5 2) = p:=⟨_,rfl⟩
 have U6:UpK L B0 6 k6 B6:=by rw [← hk6,← hB6];exact U5.next rfl (by decide)
 rw [hk6,hx5,hB6] at hK
 have V5:upOK L B0 16→x5 = L.getD 5 []:=fun ok=>by rw [← hx5];exact U5.val rfl ok (by decide)
 have l5:x5.length = 2:=by rw [← hx5];exact nxX_len _ _ _
 repeat (refine sd ?_)
 refine Call.intro hK [(1000,(22,0,none)),(1001,(401,0,none))] rfl ?_ rfl ?_ rfl ?_
 ·exact fc
 ·exact fc
 rintro v M' ⟨rfl,rfl⟩
 have c6:k6 ≤ m:=by rw [← hL];exact U6.c
 clear hK U5
 dsimp only [putT,afterM,newEnt,ren,renA,renS,renL,look,getM,getT,ev,evL,ofVal,cond_true,cond_false,Nat.beq_eq,act,isPar,ownPar,Ent.isOwn]
 have hK:=fn52 L m c k6 hL (by omega) hmc c6 B6
 obtain ⟨k7,hk7⟩:∃ k,nxS L k6 2 = k:=⟨_,rfl⟩
 obtain ⟨x6,hx6⟩:∃ x,nxX L k6 2 = x:=⟨_,rfl⟩
 obtain ⟨B7,hB7⟩:∃ p,(B6 ∨ ¬ nxG L k6 2) = p:=⟨_,rfl⟩
 have U7:UpK L B0 7 k7 B7:=by rw [← hk7,← hB7];exact U6.next rfl (by decide)
 rw [hk7,hx6,hB7] at hK
 have V6:upOK L B0 16→x6 = L.getD 6 []:=fun ok=>by rw [← hx6];exact U6.val rfl ok (by decide)
 have l6:x6.length = 2:=by rw [← hx6];exact nxX_len _ _ _
 repeat (refine sd ?_)
 refine Call.intro hK [(1000,(22,0,none)),(1001,(401,0,none))] rfl ?_ rfl ?_ rfl ?_
 ·exact fc
 ·exact fc
 rintro v M' ⟨rfl,rfl⟩
 have c7:k7 ≤ m:=by rw [← hL];exact U7.c
 clear hK U6
 dsimp only [putT,afterM,newEnt,ren,renA,renS,renL,look,getM,getT,ev,evL,ofVal,cond_true,cond_false,Nat.beq_eq,act,isPar,ownPar,Ent.isOwn]
 have hK:=fn50 L m c k7 hL (by omega) hmc c7 B7
 obtain ⟨k8,hk8⟩:∃ k,nxS L k7 32 = k:=⟨_,rfl⟩
 obtain ⟨x7,hx7⟩:∃ x,nxX L k7 32 = x:=⟨_,rfl⟩
 obtain ⟨B8,hB8⟩:∃ p,(B7 ∨ ¬ nxG L k7 32) = p:=⟨_,rfl⟩
 have U8:UpK L B0 8 k8 B8:=by rw [← hk8,← hB8];exact U7.next rfl (by decide)
 rw [hk8,hx7,hB8] at hK
 have V7:upOK L B0 16→x7 = L.getD 7 []:=fun ok=>by rw [← hx7];exact U7.val rfl ok (by decide)
 have l7:x7.length = 32:=by rw [← hx7];exact nxX_len _ _ _
 repeat (refine sd ?_)
 refine Call.intro hK [(1000,(22,0,none)),(1001,(401,0,none))] rfl ?_ rfl ?_ rfl ?_
 ·exact fc
 ·exact fc
 rintro v M' ⟨rfl,rfl⟩
 have c8:k8 ≤ m:=by rw [← hL];exact U8.c
 clear hK U7
 dsimp only [putT,afterM,newEnt,ren,renA,renS,renL,look,getM,getT,ev,evL,ofVal,cond_true,cond_false,Nat.beq_eq,act,isPar,ownPar,Ent.isOwn]
 have hK:=fn51 L m c k8 hL (by omega) hmc c8 B8
 obtain ⟨k9,hk9⟩:∃ k,nxS L k8 1 = k:=⟨_,rfl⟩
 obtain ⟨x8,hx8⟩:∃ x,nxX L k8 1 = x:=⟨_,rfl⟩
 rw [hk9,hx8] at hK
 have V8:upOK L B0 16→x8 = L.getD 8 []:=fun ok=>by rw [← hx8];exact U8.val rfl ok (by decide)
 have l8:x8.length = 1:=by rw [← hx8];exact nxX_len _ _ _
 repeat (refine sd ?_)
 refine Call.intro hK [(1000,(22,0,none)),(1001,(401,0,none))] rfl ?_ rfl ?_ rfl ?_
 ·exact fc
 ·exact fc
 rintro v M' ⟨rfl,B9,hb9,rfl⟩
 have U9:UpK L B0 9 k9 B9:=by rw [← hk9];exact U8.flag rfl (by rw [hx8];exact hb9)
 have c9:k9 ≤ m:=by rw [← hL];exact U9.c
 clear hK U8
 dsimp only [putT,afterM,newEnt,ren,renA,renS,renL,look,getM,getT,ev,evL,ofVal,cond_true,cond_false,Nat.beq_eq,act,isPar,ownPar,Ent.isOwn]
 have hK:=fn50 L m c k9 hL (by omega) hmc c9 B9
 obtain ⟨k10,hk10⟩:∃ k,nxS L k9 32 = k:=⟨_,rfl⟩
 obtain ⟨x9,hx9⟩:∃ x,nxX L k9 32 = x:=⟨_,rfl⟩
 obtain ⟨B10,hB10⟩:∃ p,(B9 ∨ ¬ nxG L k9 32) = p:=⟨_,rfl⟩
 have U10:UpK L B0 10 k10 B10:=by rw [← hk10,← hB10];exact U9.next rfl (by decide)
 rw [hk10,hx9,hB10] at hK
 have V9:upOK L B0 16→x9 = L.getD 9 []:=fun ok=>by rw [← hx9];exact U9.val rfl ok (by decide)
 have l9:x9.length = 32:=by rw [← hx9];exact nxX_len _ _ _
 repeat (refine sd ?_)
 refine Call.intro hK [(1000,(22,0,none)),(1001,(401,0,none))] rfl ?_ rfl ?_ rfl ?_
 ·exact fc
 ·exact fc
 rintro v M' ⟨rfl,rfl⟩
 have c10:k10 ≤ m:=by rw [← hL];exact U10.c
 clear hK U9
 dsimp only [putT,afterM,newEnt,ren,renA,renS,renL,look,getM,getT,ev,evL,ofVal,cond_true,cond_false,Nat.beq_eq,act,isPar,ownPar,Ent.isOwn]
 have hK:=fn52 L m c k10 hL (by omega) hmc c10 B10
 obtain ⟨k11,hk11⟩:∃ k,nxS L k10 2 = k:=⟨_,rfl⟩
 obtain ⟨x10,hx10⟩:∃ x,nxX L k10 2 = x:=⟨_,rfl⟩
 obtain ⟨B11,hB11⟩:∃ p,(B10 ∨ ¬ nxG L k10 2) = p:=⟨_,rfl⟩
 have U11:UpK L B0 11 k11 B11:=by rw [← hk11,← hB11];exact U10.next rfl (by decide)
 rw [hk11,hx10,hB11] at hK
 have V10:upOK L B0 16→x10 = L.getD 10 []:=fun ok=>by rw [← hx10];exact U10.val rfl ok (by decide)
 have l10:x10.length = 2:=by rw [← hx10];exact nxX_len _ _ _
 repeat (refine sd ?_)
 refine Call.intro hK [(1000,(22,0,none)),(1001,(401,0,none))] rfl ?_ rfl ?_ rfl ?_
 ·exact fc
 ·exact fc
 rintro v M' ⟨rfl,rfl⟩
 have c11:k11 ≤ m:=by rw [← hL];exact U11.c
 clear hK U10
 dsimp only [putT,afterM,newEnt,ren,renA,renS,renL,look,getM,getT,ev,evL,ofVal,cond_true,cond_false,Nat.beq_eq,act,isPar,ownPar,Ent.isOwn]
 have hK:=fn51 L m c k11 hL (by omega) hmc c11 B11
 obtain ⟨k12,hk12⟩:∃ k,nxS L k11 1 = k:=⟨_,rfl⟩
 obtain ⟨x11,hx11⟩:∃ x,nxX L k11 1 = x:=⟨_,rfl⟩
 rw [hk12,hx11] at hK
 have V11:upOK L B0 16→x11 = L.getD 11 []:=fun ok=>by rw [← hx11];exact U11.val rfl ok (by decide)
 have l11:x11.length = 1:=by rw [← hx11];exact nxX_len _ _ _
 repeat (refine sd ?_)
 refine Call.intro hK [(1000,(22,0,none)),(1001,(401,0,none))] rfl ?_ rfl ?_ rfl ?_
 ·exact fc
 ·exact fc
 rintro v M' ⟨rfl,B12,hb12,rfl⟩
 have U12:UpK L B0 12 k12 B12:=by rw [← hk12];exact U11.flag rfl (by rw [hx11];exact hb12)
 have c12:k12 ≤ m:=by rw [← hL];exact U12.c
 clear hK U11
 dsimp only [putT,afterM,newEnt,ren,renA,renS,renL,look,getM,getT,ev,evL,ofVal,cond_true,cond_false,Nat.beq_eq,act,isPar,ownPar,Ent.isOwn]
 have hK:=fn50 L m c k12 hL (by omega) hmc c12 B12
 obtain ⟨k13,hk13⟩:∃ k,nxS L k12 32 = k:=⟨_,rfl⟩
 obtain ⟨x12,hx12⟩:∃ x,nxX L k12 32 = x:=⟨_,rfl⟩
 obtain ⟨B13,hB13⟩:∃ p,(B12 ∨ ¬ nxG L k12 32) = p:=⟨_,rfl⟩
 have U13:UpK L B0 13 k13 B13:=by rw [← hk13,← hB13];exact U12.next rfl (by decide)
 rw [hk13,hx12,hB13] at hK
 have V12:upOK L B0 16→x12 = L.getD 12 []:=fun ok=>by rw [← hx12];exact U12.val rfl ok (by decide)
 have l12:x12.length = 32:=by rw [← hx12];exact nxX_len _ _ _
 repeat (refine sd ?_)
 refine Call.intro hK [(1000,(22,0,none)),(1001,(401,0,none))] rfl ?_ rfl ?_ rfl ?_
 ·exact fc
 ·exact fc
 rintro v M' ⟨rfl,rfl⟩
 have c13:k13 ≤ m:=by rw [← hL];exact U13.c
 clear hK U12
 dsimp only [putT,afterM,newEnt,ren,renA,renS,renL,look,getM,getT,ev,evL,ofVal,cond_true,cond_false,Nat.beq_eq,act,isPar,ownPar,Ent.isOwn]
 have hK:=fn50 L m c k13 hL (by omega) hmc c13 B13
 obtain ⟨k14,hk14⟩:∃ k,nxS L k13 32 = k:=⟨_,rfl⟩
 obtain ⟨x13,hx13⟩:∃ x,nxX L k13 32 = x:=⟨_,rfl⟩
 obtain ⟨B14,hB14⟩:∃ p,(B13 ∨ ¬ nxG L k13 32) = p:=⟨_,rfl⟩
 have U14:UpK L B0 14 k14 B14:=by rw [← hk14,← hB14];exact U13.next rfl (by decide)
 rw [hk14,hx13,hB14] at hK
 have V13:upOK L B0 16→x13 = L.getD 13 []:=fun ok=>by rw [← hx13];exact U13.val rfl ok (by decide)
 have l13:x13.length = 32:=by rw [← hx13];exact nxX_len _ _ _
 repeat (refine sd ?_)
 refine Call.intro hK [(1000,(22,0,none)),(1001,(401,0,none))] rfl ?_ rfl ?_ rfl ?_
 ·exact fc
 ·exact fc
 rintro v M' ⟨rfl,rfl⟩
 have c14:k14 ≤ m:=by rw [← hL];exact U14.c
 clear hK U13
 dsimp only [putT,afterM,newEnt,ren,renA,renS,renL,look,getM,getT,ev,evL,ofVal,cond_true,cond_false,Nat.beq_eq,act,isPar,ownPar,Ent.isOwn]
 have hK:=fn50 L m c k14 hL (by omega) hmc c14 B14
 obtain ⟨k15,hk15⟩:∃ k,nxS L k14 32 = k:=⟨_,rfl⟩
 obtain ⟨x14,hx14⟩:∃ x,nxX L k14 32 = x:=⟨_,rfl⟩
 obtain ⟨B15,hB15⟩:∃ p,(B14 ∨ ¬ nxG L k14 32) = p:=⟨_,rfl⟩
 have U15:UpK L B0 15 k15 B15:=by rw [← hk15,← hB15];exact U14.next rfl (by decide)
 rw [hk15,hx14,hB15] at hK
 have V14:upOK L B0 16→x14 = L.getD 14 []:=fun ok=>by rw [← hx14];exact U14.val rfl ok (by decide)
 have l14:x14.length = 32:=by rw [← hx14];exact nxX_len _ _ _
 repeat (refine sd ?_)
 refine Call.intro hK [(1000,(22,0,none)),(1001,(401,0,none))] rfl ?_ rfl ?_ rfl ?_
 ·exact fc
 ·exact fc
 rintro v M' ⟨rfl,rfl⟩
 have c15:k15 ≤ m:=by rw [← hL];exact U15.c
 clear hK U14
 dsimp only [putT,afterM,newEnt,ren,renA,renS,renL,look,getM,getT,ev,evL,ofVal,cond_true,cond_false,Nat.beq_eq,act,isPar,ownPar,Ent.isOwn]
 have hK:=fn52 L m c k15 hL (by omega) hmc c15 B15
 obtain ⟨k16,hk16⟩:∃ k,nxS L k15 2 = k:=⟨_,rfl⟩
 obtain ⟨x15,hx15⟩:∃ x,nxX L k15 2 = x:=⟨_,rfl⟩
 obtain ⟨B16,hB16⟩:∃ p,(B15 ∨ ¬ nxG L k15 2) = p:=⟨_,rfl⟩
 have U16:UpK L B0 16 k16 B16:=by rw [← hk16,← hB16];exact U15.next rfl (by decide)
 rw [hk16,hx15,hB16] at hK
 have V15:upOK L B0 16→x15 = L.getD 15 []:=fun ok=>by rw [← hx15];exact U15.val rfl ok (by decide)
 have l15:x15.length = 2:=by rw [← hx15];exact nxX_len _ _ _
 repeat (refine sd ?_)
 refine Call.intro hK [(1000,(22,0,none)),(1001,(401,0,none))] rfl ?_ rfl ?_ rfl ?_
 ·exact fc
 ·exact fc
 rintro v M' ⟨rfl,rfl⟩
 have c16:k16 ≤ m:=by rw [← hL];exact U16.c
 clear hK U15
 dsimp only [putT,afterM,newEnt,ren,renA,renS,renL,look,getM,getT,ev,evL,ofVal,cond_true,cond_false,Nat.beq_eq,act,isPar,ownPar,Ent.isOwn]
 repeat (refine sd ?_)
 refine Cut.intro (σ:=Unit) (fun _=>True) (fun _=>([(2,.ptr 202 0 none),(6,.ptr 222 0 none),(7,.ptr 207 0 none)],[(202,.mem true 0 zSe),(207,.mem true 0 [(32,.a8 x0),(32,.a8 x1),(32,.a8 x2),(1,.bool (x3.getD 0 0 = 1)),(32,.a8 x4),(1,.u16 (gK x5 0 2).toUInt16),(1,.u16 (gK x6 0 2).toUInt16),(32,.a8 x7),(1,.bool (x8.getD 0 0 = 1)),(32,.a8 x9),(1,.u16 (gK x10 0 2).toUInt16),(1,.bool (x11.getD 0 0 = 1)),(32,.a8 x12),(32,.a8 x13),(32,.a8 x14),(1,.u16 (gK x15 0 2).toUInt16),(1,.sl 450 0 0 0 0)]),(222,.mem true 0 [(1,.sl 401 0 k16 (m - k16) (c - k16)),(1,.bool B16)]),(401,.mem true (mulE (c - m) 1) [(m * 1,.arr m 1 (rwF L))]),(450,.mem true (mulE (0 - 0) 65) [(0 * 65,.arr 0 65 (kpF []))])])) () trivial (Le.ghost [.own 450 [(0 * 65,.arr 0 65 (kpF []))],.leaf 7 16 450] [] [(202,(202,0,none)),(207,(7,0,none)),(222,(22,0,none)),(401,(401,0,none))] rfl ?_ rfl rfl ?_ rfl ?_ rfl) ?_
 ·repeat' (first | (show AllP _;first | exact trivial | refine AllP.app ?_ ?_ | refine AllP.appd ?_ ?_ | refine AllP.cons ?_ ?_) | exact fd | fail)
  all_goals exact ⟨rfl,rfl,trivial⟩
 ·exact fc
 ·exact fc
 rintro - -
 have key:∀ x l,UpR b x l→upOK L B0 16∧L.length ≤ 32∧upEs (L.drop 16) = some l∧x = upX L:=by
  rintro x l ⟨L',q1,q2,q3,q4,q5⟩
  rcases hspl with ⟨_,h⟩ | ⟨he,h⟩
  ·rw [h] at q1;cases q1
  ·rw [h] at q1
   have e:L = L':=Option.some.inj q1
   rw [← e] at q2 q3 q4 q5
   exact ⟨⟨by rw [← hB0];exact fun h=>h he,q2.2⟩,q3,q4,q5⟩
 repeat (refine sd ?_)
 refine Branch.intro (fun hB=>?_) (fun hB=>?_)
 ·repeat (refine sd ?_)
  refine Ret.intro (.tup [.agg zSe,.ff]) [] [] rfl ?_ (Or.inr ⟨fun ⟨x,l,h⟩=>U16.a.2 (key x l h).1 hB,rfl,rfl⟩) rfl ?_ rfl ?_ rfl
  ·exact fc
  ·exact fc
  ·exact fc
 have hok:upOK L B0 16:=U16.a.1 hB
 have e16:k16 = 16:=U16.b hok
 subst e16
 have hm16:16 ≤ m:=by rw [← hL];exact (hok.2 15 (by omega)).1
 repeat (refine sd ?_)
 refine Branch.intro (fun hg=>?_) (fun hg=>?_)
 ·have hg:16 < ((m - 16:Nat):Int):=hg
  repeat (refine sd ?_)
  refine Ret.intro (.tup [.agg zSe,.ff]) [] [] rfl ?_ (Or.inr ⟨fun ⟨x,l,h⟩=>by have:=(key x l h).2.1;omega,rfl,rfl⟩) rfl ?_ rfl ?_ rfl
  ·exact fc
  ·exact fc
  ·exact fc
 have hg:¬ 16 < ((m - 16:Nat):Int):=hg
 have hsb:spl b = some L:=by
  rcases hspl with ⟨h,_⟩ | ⟨_,h⟩
  ·exact absurd (by rw [← hB0];exact h) hok.1
  ·exact h
 have hdl:(L.drop 16).length = m - 16:=by rw [List.length_drop,hL]
 obtain rfl:=V0 hok
 obtain rfl:=V1 hok
 obtain rfl:=V2 hok
 obtain rfl:=V3 hok
 obtain rfl:=V4 hok
 obtain rfl:=V5 hok
 obtain rfl:=V6 hok
 obtain rfl:=V7 hok
 obtain rfl:=V8 hok
 obtain rfl:=V9 hok
 obtain rfl:=V10 hok
 obtain rfl:=V11 hok
 obtain rfl:=V12 hok
 obtain rfl:=V13 hok
 obtain rfl:=V14 hok
 obtain rfl:=V15 hok
 refine upTail b n hb hn L m c hL hmc hm16 (by omega) (spl_le hsb) (upX L) ?_ (fun l h=>⟨L,hsb,⟨id,hok.2⟩,by omega,h,rfl⟩) (fun h ⟨x,l,hx⟩=>h l (key x l hx).2.2.1) B16 _ _ (Le.intro [(202,(202,0,none)),(207,(207,0,none)),(222,(222,0,none)),(401,(401,0,none)),(450,(450,0,none))] rfl ?_ rfl ?_ rfl)
 ·exact upX_ok hok
 ·exact fc
 ·repeat' (first | (show AllP _;first | exact trivial | refine AllP.app ?_ ?_ | refine AllP.appd ?_ ?_ | refine AllP.cons ?_ ?_) | exact fd | fail)
  all_goals first | exact decide_eq_true_iff | exact decide_eq_true_iff.symm | exact (iff_of_eq (decide_eq_true_eq)) | trace_state
end Go.Proofs.YtpkllkbmoodniaaGreat
