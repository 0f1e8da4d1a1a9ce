/- What the functions of the program compute. No condition. -/
import Derived.Test.YtpkllkbmoodniaaGreatHwZb3ToZb3
set_option linter.unusedSimpArgs false
set_option linter.unusedVariables false
namespace Go.Proofs.YtpkllkbmoodniaaGreat
open Go Go.Sx
set_option maxRecDepth 100000 in
set_option maxHeartbeats 8000000 in
theorem fn23 (b:List UInt8) (n:Nat) (hb:b.length = n) (hn:n ≤ 1000000):Sx.Fn Γ.P 23 [.isl 0 n 1 [(n,.a8 b)]] [] (rupPost b):=by
 have hOp:=fn53 b n hb hn
 refine fn_cut [1000019,24] (Γ:=Γ) (fn:=Tryz.f23) rfl rfl rfl rfl ?_
 repeat (refine sd ?_)
 refine Call.intro hOp [(1005,(301,0,none)),(1006,(302,0,none))] rfl ?_ rfl ?_ rfl ?_
 ·exact fc
 ·exact fc
 rintro v M' ⟨L,m,c,hL0,hL,hmc,hm64,P,hP,rfl,rfl⟩
 have hLs:∀ x ∈ L,x.length ≤ 4096:=by
  intro x hx
  cases e:spl b with
  | none=>rw [e] at hL0;have hL0:[] = L:=hL0;rw [← hL0] at hx;cases hx
  | some K'=>
   rw [e] at hL0
   have hL0:K' = L:=hL0
   subst hL0
   exact spl_le e x hx
 have hLs2:∀ x ∈ L,x.length ≤ 1000000:=fun x hx=>by have:=hLs x hx;omega
 dsimp only [putT,afterM,newEnt,ren,renA,renS,renL,look,getM,getT,ev,evL,ofVal,cond_true,cond_false,Nat.beq_eq,act,isPar,ownPar,Ent.isOwn]
 repeat (refine sd ?_)
 have m0:min 0 m = 0:=Nat.zero_min _
 obtain ⟨x0,hx0⟩:∃ x,kyO (L.getD 0 []) = x:=⟨_,rfl⟩
 have l0:x0.length = 32:=by rw [← hx0];exact kyO_length _
 have hK:=fnTKey L m c 0 hL (by omega) hmc
 obtain ⟨m1,hm1⟩:∃ x,min (0 + 1) m = x:=⟨_,rfl⟩
 rw [hx0,hm1] at hK
 rw [m0] at hK
 repeat (refine sd ?_)
 refine Call.intro hK [(1000,(301,0,none)),(1001,(302,0,none))] rfl ?_ rfl ?_ rfl ?_
 ·exact fc
 ·exact fc
 rintro v M' ⟨rfl,rfl⟩
 clear hK
 dsimp only [putT,afterM,newEnt,ren,renA,renS,renL,look,getM,getT,ev,evL,ofVal,cond_true,cond_false,Nat.beq_eq,act,isPar,ownPar,Ent.isOwn]
 obtain ⟨x1,hx1⟩:∃ x,kyO (L.getD 1 []) = x:=⟨_,rfl⟩
 have l1:x1.length = 32:=by rw [← hx1];exact kyO_length _
 have hK:=fnTKey L m c 1 hL (by omega) hmc
 obtain ⟨m2,hm2⟩:∃ x,min (1 + 1) m = x:=⟨_,rfl⟩
 rw [hx1,hm2] at hK
 rw [show min 1 m = m1 from hm1] at hK
 repeat (refine sd ?_)
 refine Call.intro hK [(1000,(301,0,none)),(1001,(302,0,none))] rfl ?_ rfl ?_ rfl ?_
 ·exact fc
 ·exact fc
 rintro v M' ⟨rfl,rfl⟩
 clear hK
 dsimp only [putT,afterM,newEnt,ren,renA,renS,renL,look,getM,getT,ev,evL,ofVal,cond_true,cond_false,Nat.beq_eq,act,isPar,ownPar,Ent.isOwn]
 obtain ⟨x2,hx2⟩:∃ x,kyO (L.getD 2 []) = x:=⟨_,rfl⟩
 have l2:x2.length = 32:=by rw [← hx2];exact kyO_length _
 have hK:=fnTKey L m c 2 hL (by omega) hmc
 obtain ⟨m3,hm3⟩:∃ x,min (2 + 1) m = x:=⟨_,rfl⟩
 rw [hx2,hm3] at hK
 rw [show min 2 m = m2 from hm2] at hK
 repeat (refine sd ?_)
 refine Call.intro hK [(1000,(301,0,none)),(1001,(302,0,none))] rfl ?_ rfl ?_ rfl ?_
 ·exact fc
 ·exact fc
 rintro v M' ⟨rfl,rfl⟩
 clear hK
 dsimp only [putT,afterM,newEnt,ren,renA,renS,renL,look,getM,getT,ev,evL,ofVal,cond_true,cond_false,Nat.beq_eq,act,isPar,ownPar,Ent.isOwn]
 obtain ⟨x3,hx3⟩:∃ x,nuO (L.getD 3 []) = x:=⟨_,rfl⟩
 have l3:x3 < 4294967296:=by rw [← hx3];exact nuO_lt _
 have hK:=fnTNum L m c 3 hL (by omega) hmc hLs2
 obtain ⟨m4,hm4⟩:∃ x,min (3 + 1) m = x:=⟨_,rfl⟩
 rw [hx3,hm4] at hK
 rw [show min 3 m = m3 from hm3] at hK
 repeat (refine sd ?_)
 refine Call.intro hK [(1000,(301,0,none)),(1001,(302,0,none))] rfl ?_ rfl ?_ rfl ?_
 ·exact fc
 ·exact fc
 rintro v M' ⟨rfl,rfl⟩
 clear hK
 dsimp only [putT,afterM,newEnt,ren,renA,renS,renL,look,getM,getT,ev,evL,ofVal,cond_true,cond_false,Nat.beq_eq,act,isPar,ownPar,Ent.isOwn]
 obtain ⟨x4,hx4⟩:∃ x,kyO (L.getD 4 []) = x:=⟨_,rfl⟩
 have l4:x4.length = 32:=by rw [← hx4];exact kyO_length _
 have hK:=fnTKey L m c 4 hL (by omega) hmc
 obtain ⟨m5,hm5⟩:∃ x,min (4 + 1) m = x:=⟨_,rfl⟩
 rw [hx4,hm5] at hK
 rw [show min 4 m = m4 from hm4] at hK
 repeat (refine sd ?_)
 refine Call.intro hK [(1000,(301,0,none)),(1001,(302,0,none))] rfl ?_ rfl ?_ rfl ?_
 ·exact fc
 ·exact fc
 rintro v M' ⟨rfl,rfl⟩
 clear hK
 dsimp only [putT,afterM,newEnt,ren,renA,renS,renL,look,getM,getT,ev,evL,ofVal,cond_true,cond_false,Nat.beq_eq,act,isPar,ownPar,Ent.isOwn]
 obtain ⟨x5,hx5⟩:∃ x,nuO (L.getD 5 []) = x:=⟨_,rfl⟩
 have l5:x5 < 4294967296:=by rw [← hx5];exact nuO_lt _
 have hK:=fnTNum L m c 5 hL (by omega) hmc hLs2
 obtain ⟨m6,hm6⟩:∃ x,min (5 + 1) m = x:=⟨_,rfl⟩
 rw [hx5,hm6] at hK
 rw [show min 5 m = m5 from hm5] at hK
 repeat (refine sd ?_)
 refine Call.intro hK [(1000,(301,0,none)),(1001,(302,0,none))] rfl ?_ rfl ?_ rfl ?_
 ·exact fc
 ·exact fc
 rintro v M' ⟨rfl,rfl⟩
 clear hK
 dsimp only [putT,afterM,newEnt,ren,renA,renS,renL,look,getM,getT,ev,evL,ofVal,cond_true,cond_false,Nat.beq_eq,act,isPar,ownPar,Ent.isOwn]
 obtain ⟨x6,hx6⟩:∃ x,nuO (L.getD 6 []) = x:=⟨_,rfl⟩
 have l6:x6 < 4294967296:=by rw [← hx6];exact nuO_lt _
 have hK:=fnTNum L m c 6 hL (by omega) hmc hLs2
 obtain ⟨m7,hm7⟩:∃ x,min (6 + 1) m = x:=⟨_,rfl⟩
 rw [hx6,hm7] at hK
 rw [show min 6 m = m6 from hm6] at hK
 repeat (refine sd ?_)
 refine Call.intro hK [(1000,(301,0,none)),(1001,(302,0,none))] rfl ?_ rfl ?_ rfl ?_
 ·exact fc
 ·exact fc
 rintro v M' ⟨rfl,rfl⟩
 clear hK
 dsimp only [putT,afterM,newEnt,ren,renA,renS,renL,look,getM,getT,ev,evL,ofVal,cond_true,cond_false,Nat.beq_eq,act,isPar,ownPar,Ent.isOwn]
 obtain ⟨x7,hx7⟩:∃ x,kyO (L.getD 7 []) = x:=⟨_,rfl⟩
 have l7:x7.length = 32:=by rw [← hx7];exact kyO_length _
 have hK:=fnTKey L m c 7 hL (by omega) hmc
 obtain ⟨m8,hm8⟩:∃ x,min (7 + 1) m = x:=⟨_,rfl⟩
 rw [hx7,hm8] at hK
 rw [show min 7 m = m7 from hm7] at hK
 repeat (refine sd ?_)
 refine Call.intro hK [(1000,(301,0,none)),(1001,(302,0,none))] rfl ?_ rfl ?_ rfl ?_
 ·exact fc
 ·exact fc
 rintro v M' ⟨rfl,rfl⟩
 clear hK
 dsimp only [putT,afterM,newEnt,ren,renA,renS,renL,look,getM,getT,ev,evL,ofVal,cond_true,cond_false,Nat.beq_eq,act,isPar,ownPar,Ent.isOwn]
 obtain ⟨x8,hx8⟩:∃ x,nuO (L.getD 8 []) = x:=⟨_,rfl⟩
 have l8:x8 < 4294967296:=by rw [← hx8];exact nuO_lt _
 have hK:=fnTNum L m c 8 hL (by omega) hmc hLs2
 obtain ⟨m9,hm9⟩:∃ x,min (8 + 1) m = x:=⟨_,rfl⟩
 rw [hx8,hm9] at hK
 rw [show min 8 m = m8 from hm8] at hK
 repeat (refine sd ?_)
 refine Call.intro hK [(1000,(301,0,none)),(1001,(302,0,none))] rfl ?_ rfl ?_ rfl ?_
 ·exact fc
 ·exact fc
 rintro v M' ⟨rfl,rfl⟩
 clear hK
 dsimp only [putT,afterM,newEnt,ren,renA,renS,renL,look,getM,getT,ev,evL,ofVal,cond_true,cond_false,Nat.beq_eq,act,isPar,ownPar,Ent.isOwn]
 obtain ⟨x9,hx9⟩:∃ x,kyO (L.getD 9 []) = x:=⟨_,rfl⟩
 have l9:x9.length = 32:=by rw [← hx9];exact kyO_length _
 have hK:=fnTKey L m c 9 hL (by omega) hmc
 obtain ⟨m10,hm10⟩:∃ x,min (9 + 1) m = x:=⟨_,rfl⟩
 rw [hx9,hm10] at hK
 rw [show min 9 m = m9 from hm9] at hK
 repeat (refine sd ?_)
 refine Call.intro hK [(1000,(301,0,none)),(1001,(302,0,none))] rfl ?_ rfl ?_ rfl ?_
 ·exact fc
 ·exact fc
 rintro v M' ⟨rfl,rfl⟩
 clear hK
 dsimp only [putT,afterM,newEnt,ren,renA,renS,renL,look,getM,getT,ev,evL,ofVal,cond_true,cond_false,Nat.beq_eq,act,isPar,ownPar,Ent.isOwn]
 obtain ⟨x10,hx10⟩:∃ x,nuO (L.getD 10 []) = x:=⟨_,rfl⟩
 have l10:x10 < 4294967296:=by rw [← hx10];exact nuO_lt _
 have hK:=fnTNum L m c 10 hL (by omega) hmc hLs2
 obtain ⟨m11,hm11⟩:∃ x,min (10 + 1) m = x:=⟨_,rfl⟩
 rw [hx10,hm11] at hK
 rw [show min 10 m = m10 from hm10] at hK
 repeat (refine sd ?_)
 refine Call.intro hK [(1000,(301,0,none)),(1001,(302,0,none))] rfl ?_ rfl ?_ rfl ?_
 ·exact fc
 ·exact fc
 rintro v M' ⟨rfl,rfl⟩
 clear hK
 dsimp only [putT,afterM,newEnt,ren,renA,renS,renL,look,getM,getT,ev,evL,ofVal,cond_true,cond_false,Nat.beq_eq,act,isPar,ownPar,Ent.isOwn]
 obtain ⟨x11,hx11⟩:∃ x,nuO (L.getD 11 []) = x:=⟨_,rfl⟩
 have l11:x11 < 4294967296:=by rw [← hx11];exact nuO_lt _
 have hK:=fnTNum L m c 11 hL (by omega) hmc hLs2
 obtain ⟨m12,hm12⟩:∃ x,min (11 + 1) m = x:=⟨_,rfl⟩
 rw [hx11,hm12] at hK
 rw [show min 11 m = m11 from hm11] at hK
 repeat (refine sd ?_)
 refine Call.intro hK [(1000,(301,0,none)),(1001,(302,0,none))] rfl ?_ rfl ?_ rfl ?_
 ·exact fc
 ·exact fc
 rintro v M' ⟨rfl,rfl⟩
 clear hK
 dsimp only [putT,afterM,newEnt,ren,renA,renS,renL,look,getM,getT,ev,evL,ofVal,cond_true,cond_false,Nat.beq_eq,act,isPar,ownPar,Ent.isOwn]
 obtain ⟨x12,hx12⟩:∃ x,kyO (L.getD 12 []) = x:=⟨_,rfl⟩
 have l12:x12.length = 32:=by rw [← hx12];exact kyO_length _
 have hK:=fnTKey L m c 12 hL (by omega) hmc
 obtain ⟨m13,hm13⟩:∃ x,min (12 + 1) m = x:=⟨_,rfl⟩
 rw [hx12,hm13] at hK
 rw [show min 12 m = m12 from hm12] at hK
 repeat (refine sd ?_)
 refine Call.intro hK [(1000,(301,0,none)),(1001,(302,0,none))] rfl ?_ rfl ?_ rfl ?_
 ·exact fc
 ·exact fc
 rintro v M' ⟨rfl,rfl⟩
 clear hK
 dsimp only [putT,afterM,newEnt,ren,renA,renS,renL,look,getM,getT,ev,evL,ofVal,cond_true,cond_false,Nat.beq_eq,act,isPar,ownPar,Ent.isOwn]
 obtain ⟨x13,hx13⟩:∃ x,kyO (L.getD 13 []) = x:=⟨_,rfl⟩
 have l13:x13.length = 32:=by rw [← hx13];exact kyO_length _
 have hK:=fnTKey L m c 13 hL (by omega) hmc
 obtain ⟨m14,hm14⟩:∃ x,min (13 + 1) m = x:=⟨_,rfl⟩
 rw [hx13,hm14] at hK
 rw [show min 13 m = m13 from hm13] at hK
 repeat (refine sd ?_)
 refine Call.intro hK [(1000,(301,0,none)),(1001,(302,0,none))] rfl ?_ rfl ?_ rfl ?_
 ·exact fc
 ·exact fc
 rintro v M' ⟨rfl,rfl⟩
 clear hK
 dsimp only [putT,afterM,newEnt,ren,renA,renS,renL,look,getM,getT,ev,evL,ofVal,cond_true,cond_false,Nat.beq_eq,act,isPar,ownPar,Ent.isOwn]
 obtain ⟨x14,hx14⟩:∃ x,kyO (L.getD 14 []) = x:=⟨_,rfl⟩
 have l14:x14.length = 32:=by rw [← hx14];exact kyO_length _
 have hK:=fnTKey L m c 14 hL (by omega) hmc
 obtain ⟨m15,hm15⟩:∃ x,min (14 + 1) m = x:=⟨_,rfl⟩
 rw [hx14,hm15] at hK
 rw [show min 14 m = m14 from hm14] at hK
 repeat (refine sd ?_)
 refine Call.intro hK [(1000,(301,0,none)),(1001,(302,0,none))] rfl ?_ rfl ?_ rfl ?_
 ·exact fc
 ·exact fc
 rintro v M' ⟨rfl,rfl⟩
 clear hK
 dsimp only [putT,afterM,newEnt,ren,renA,renS,renL,look,getM,getT,ev,evL,ofVal,cond_true,cond_false,Nat.beq_eq,act,isPar,ownPar,Ent.isOwn]
 obtain ⟨x15,hx15⟩:∃ x,nuO (L.getD 15 []) = x:=⟨_,rfl⟩
 have l15:x15 < 4294967296:=by rw [← hx15];exact nuO_lt _
 have hK:=fnTNum L m c 15 hL (by omega) hmc hLs2
 obtain ⟨m16,hm16⟩:∃ x,min (15 + 1) m = x:=⟨_,rfl⟩
 rw [hx15,hm16] at hK
 rw [show min 15 m = m15 from hm15] at hK
 repeat (refine sd ?_)
 refine Join.intro (σ:=Unit) (fun _=>True) (fun _=>([(0,.isl 0 n 1 [(n,.a8 b)]),(2,.ptr 202 0 none),(4,.ptr 301 0 none),(5,.bool P),(6,.ptr 206 0 none)],[(202,.mem true 0 zSe),(206,.mem true 0 (seL (rfX L) (.sl 450 0 0 0 0))),(301,.mem true 0 [(1,.sl 302 0 0 m c),(1,.i .i64 ((min 16 m:Nat):Int))]),(302,.mem true (mulE (c - m) 1) [(m * 1,.arr m 1 (rwF L))]),(450,.mem true (mulE (0 - 0) 65) [(0 * 65,.arr 0 65 (kpF []))])])) ?_ ?_
 rotate_left
 ·exact fun _ _=>rupTail b n hb hn L m c hL0 hL hmc hm64 hLs P hP (rfX L) rfl
 repeat (refine sd ?_)
 refine Call.intro hK [(1000,(301,0,none)),(1001,(302,0,none))] rfl ?_ rfl ?_ rfl ?_
 ·exact fc
 ·exact fc
 rintro v M' ⟨rfl,rfl⟩
 clear hK
 dsimp only [putT,afterM,newEnt,ren,renA,renS,renL,look,getM,getT,ev,evL,ofVal,cond_true,cond_false,Nat.beq_eq,act,isPar,ownPar,Ent.isOwn]
 have eb3:((decide (nuO (L.getD 3 []) = 1)) = true) ↔ ((x3:Nat):Int) = 1:=by rw [hx3,decide_eq_true_iff];omega
 have eu5:nu16 (L.getD 5 []) = UInt16.ofInt ((x5:Nat):Int):=by unfold nu16;rw [hx5];exact (u16_int _).symm
 have eu6:nu16 (L.getD 6 []) = UInt16.ofInt ((x6:Nat):Int):=by unfold nu16;rw [hx6];exact (u16_int _).symm
 have eb8:((decide (nuO (L.getD 8 []) = 1)) = true) ↔ ((x8:Nat):Int) = 1:=by rw [hx8,decide_eq_true_iff];omega
 have eu10:nu16 (L.getD 10 []) = UInt16.ofInt ((x10:Nat):Int):=by unfold nu16;rw [hx10];exact (u16_int _).symm
 have eb11:((decide (nuO (L.getD 11 []) = 1)) = true) ↔ ((x11:Nat):Int) = 1:=by rw [hx11,decide_eq_true_iff];omega
 have eu15:nu16 (L.getD 15 []) = UInt16.ofInt ((x15:Nat):Int):=by unfold nu16;rw [hx15];exact (u16_int _).symm
 repeat (refine sd ?_)
 refine ⟨(),trivial,Le.ghost [.own 450 [(0 * 65,.arr 0 65 (kpF []))],.leaf 6 16 450] [] [(202,(2,0,none)),(206,(6,0,none)),(301,(301,0,none)),(302,(302,0,none))] rfl ?_ rfl rfl ?_ rfl ?_ rfl⟩
 ·repeat' (first | (show AllP _;first | exact trivial | refine AllP.app ?_ ?_ | refine AllP.appd ?_ ?_ | refine AllP.cons ?_ ?_) | exact fd | fail)
  all_goals exact ⟨rfl,rfl,trivial⟩
 ·repeat' (first | (show AllP _;first | exact trivial | refine AllP.app ?_ ?_ | refine AllP.appd ?_ ?_ | refine AllP.cons ?_ ?_) | exact fd | fail)
  all_goals trace_state
 ·repeat' (first | (show AllP _;first | exact trivial | refine AllP.app ?_ ?_ | refine AllP.appd ?_ ?_ | refine AllP.cons ?_ ?_) | exact fd | fail)
  all_goals first | exact hm16 | exact hm16.symm | exact hx0 | exact hx1 | exact hx2 | exact eb3 | exact hx4 | exact eu5 | exact eu6 | exact hx7 | exact eb8 | exact hx9 | exact eu10 | exact eb11 | exact hx12 | exact hx13 | exact hx14 | exact eu15 | trace_state
end Go.Proofs.YtpkllkbmoodniaaGreat
