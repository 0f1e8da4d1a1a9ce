/- What the functions of the program compute. No condition. -/
import Derived.Test.YtpkllkbmoodniaaGreatHwRc3ToRc5
import Derived.Test.YtpkllkbmoodniaaGreatHx7
set_option linter.unusedSimpArgs false
set_option linter.unusedVariables false
namespace Go.Proofs.YtpkllkbmoodniaaGreat
open Go Go.Sx
def zSe:List (Nat × SV):=[(32,.a8 (List.replicate 32 0)),(32,.a8 (List.replicate 32 0)),(32,.a8 (List.replicate 32 0)),(1,.ff),(32,.a8 (List.replicate 32 0)),(1,.u16 0),(1,.u16 0),(32,.a8 (List.replicate 32 0)),(1,.ff),(32,.a8 (List.replicate 32 0)),(1,.u16 0),(1,.ff),(32,.a8 (List.replicate 32 0)),(32,.a8 (List.replicate 32 0)),(32,.a8 (List.replicate 32 0)),(1,.u16 0),(1,.nsl)]
def upPost (b:List UInt8) (v:SV) (M:Mm):Prop:=(∃ x l N,UpR b x l∧l.length = N∧N ≤ 16∧v = .tup [.agg (seL x (.isl 0 N 65 [(N * 65,.arr N 65 (kpF l))])),.tt]∧M = []) ∨ ((¬ ∃ x l,UpR b x l)∧v = .tup [.agg zSe,.ff]∧M = [])
theorem upX_ok {L:List (List UInt8)} {B0:Prop} (h:upOK L B0 16):(upX L).OK:=
 ⟨(h.2 0 (by omega)).2.1,(h.2 1 (by omega)).2.1,(h.2 2 (by omega)).2.1,(h.2 4 (by omega)).2.1,(h.2 7 (by omega)).2.1,(h.2 9 (by omega)).2.1,(h.2 12 (by omega)).2.1,(h.2 13 (by omega)).2.1,(h.2 14 (by omega)).2.1,fun _ hk=>by cases hk⟩
set_option maxRecDepth 100000 in
set_option maxHeartbeats 8000000 in
theorem upTail (b:List UInt8) (n:Nat) (hb:b.length = n) (hnm:n ≤ maxLen) (L:List (List UInt8)) (m c:Nat) (hL:L.length = m) (hmc:m ≤ c) (hm16:16 ≤ m) (hm32:m ≤ 32) (h4:∀ p ∈ L,p.length ≤ 4096) (X:Se) (hX:X.OK)
  (hy:∀ l,upEs (L.drop 16) = some l→UpR b X l) (hn:(∀ l,upEs (L.drop 16) ≠ some l)→¬ ∃ x l,UpR b x l) (B:Prop) (T:Tm) (M:Mm)
  (hle:Le [] [(2,.ptr 202 0 none),(6,.ptr 222 0 none),(7,.ptr 207 0 none)] [(202,.mem true 0 zSe),(207,.mem true 0 (seL X (.sl 450 0 0 0 0))),(222,.mem true 0 [(1,.sl 401 0 16 (m - 16) (c - 16)),(1,.bool B)]),(401,.mem true (mulE (c - m) 1) [(m * 1,.arr m 1 (rwF L))]),(450,.mem true (mulE (0 - 0) 65) [(0 * 65,.arr 0 65 (kpF []))])] T M) :
  Tail Γ [1000002,8,10,1000014] Tryz.f22 10 [] T M (upPost b):=by
 have hmx:maxLen = 9223372036854775807:=by decide
 refine Cut.intro (σ:=Unit) (fun _=>True) (fun _=>([(2,.ptr 202 0 none),(6,.ptr 222 0 none),(7,.ptr 207 0 none)],[(202,.mem true 0 zSe),(207,.mem true 0 (seL X (.sl 450 0 0 0 0))),(222,.mem true 0 [(1,.sl 401 0 16 (m - 16) (c - 16)),(1,.bool B)]),(401,.mem true (mulE (c - m) 1) [(m * 1,.arr m 1 (rwF L))]),(450,.mem true (mulE (0 - 0) 65) [(0 * 65,.arr 0 65 (kpF []))])])) () trivial hle ?_
 rintro - -
 have hX':=hX
 obtain ⟨h1,h2,h3,h4',h5,h6,h7,h8,h9,_⟩:=hX'
 have hdl:(L.drop 16).length = m - 16:=by rw [List.length_drop,hL]
 repeat (refine sd ?_)
 refine Loop.intro (σ:=Nat × List Kp × Nat) (fun s=>s.1 ≤ m - 16∧s.2.1.length = s.1∧s.1 ≤ s.2.2∧upEs ((L.drop 16).take s.1) = some s.2.1)
  (fun s=>([(2,.ptr 202 0 none),(7,.ptr 207 0 none),(91,.sl 401 0 16 (m - 16) (c - 16)),(92,.i .i64 ((m - 16:Nat):Int)),(93,.i .i64 (s.1:Int))],[(202,.mem true 0 zSe),(207,.mem true 0 (seL X (.sl 450 0 0 s.1 s.2.2))),(401,.mem true (mulE (c - m) 1) [(m * 1,.arr m 1 (rwF L))]),(450,.mem true (mulE (s.2.2 - s.1) 65) [(s.1 * 65,.arr s.1 65 (kpF s.2.1))])]))
  (fun s=>m - 16 - s.1) (0,[],0) ⟨Nat.zero_le _,rfl,Nat.le_refl _,rfl⟩ ?_ ?_
 ·refine Le.intro [(202,(202,0,none)),(207,(207,0,none)),(401,(401,0,none)),(450,(450,0,none))] rfl ?_ rfl ?_ rfl
  ·exact fc
  ·exact fc
 rintro ⟨i,l,cl⟩ ⟨hi,hl,hcl,hup⟩
 have hi:i ≤ m - 16:=hi
 have hl:l.length = i:=hl
 have hcl:i ≤ cl:=hcl
 have hup:upEs ((L.drop 16).take i) = some l:=hup
 repeat (refine sd ?_)
 refine Branch.intro (fun hq=>?_) (fun hq=>?_)
 ·have hq:(i:Int) < ((m - 16:Nat):Int):=hq
  have hi16:16 + i < m:=by omega
  obtain ⟨p,hp⟩:∃ p,L.getD (16 + i) [] = p:=⟨_,rfl⟩
  have hpm:p ∈ L:=by rw [← hp];exact getD_mem [] (by omega)
  have hp4:p.length ≤ 4096:=h4 p hpm
  obtain ⟨np,hnp⟩:∃ n,p.length = n:=⟨_,rfl⟩
  rw [hnp] at hp4
  have hS2:=fn49 p np hnp (by omega)
  have hpe:(L.drop 16).take (i + 1) = (L.drop 16).take i ++ [p]:=by
   rw [take_succ_getD [] (L.drop 16) i (by omega),List.getD_eq_getElem?_getD,List.getElem?_drop,← List.getD_eq_getElem?_getD,hp]
  have hpd:p ∈ L.drop 16:=by
   have:p ∈ (L.drop 16).take (i + 1):=by rw [hpe];exact List.mem_append_right _ (List.mem_singleton.2 rfl)
   exact List.mem_of_mem_take this
  repeat (refine sdn ?_)
  refine Join.intro (σ:=List (List UInt8) × Nat × Nat × Int) (fun s=>s.1.length = s.2.1∧s.2.1 ≤ s.2.2.1∧s.2.1 ≤ 64∧((s.2.2.2 ≠ 0∧spl p = none) ∨ (s.2.2.2 = 0∧spl p = some s.1)))
   (fun s=>([(2,.ptr 202 0 none),(7,.ptr 207 0 none),(10,.sl 402 0 0 s.2.1 s.2.2.1),(11,.i .i64 s.2.2.2),(91,.sl 401 0 16 (m - 16) (c - 16)),(92,.i .i64 ((m - 16:Nat):Int)),(93,.i .i64 (i:Int))],[(202,.mem true 0 zSe),(207,.mem true 0 (seL X (.sl 450 0 0 i cl))),(401,.mem true (mulE (c - m) 1) [(m * 1,.arr m 1 (rwF L))]),(450,.mem true (mulE (cl - i) 65) [(i * 65,.arr i 65 (kpF l))]),(402,.mem true (mulE (s.2.2.1 - s.2.1) 1) [(s.2.1 * 1,.arr s.2.1 1 (rwF s.1))])])) ?_ ?_
  ·have e1:addQ 16 (Int.toNat (i:Int)) = 16 + i:=by rw [addQ_eq,Int.toNat_natCast]
   repeat (refine sdn ?_)
   refine Call.intro hS2 [(1006,(301,0,none))] rfl ?_ rfl ?_ rfl ?_
   ·repeat' (first | (show AllP _;first | exact trivial | refine AllP.app ?_ ?_ | refine AllP.appd ?_ ?_ | refine AllP.cons ?_ ?_) | with_reducible rfl | with_reducible assumption | omega | (simp only [Nat.zero_add,Int.toNat_natCast,e1,hp,hnp,rng,Ix.val,addQ_eq,addI,szs] <;> omega) | (simp only [Nat.zero_add,Int.toNat_natCast,e1,hp,hnp,rng,Ix.val,Int.toNat_natCast,mulE_eq,addQ_eq,addI,Option.getD_none,Option.getD_some,List.length_take,List.length_drop,List.length_append,List.length_set,List.length_replicate,szs, *] <;> omega) | (simp only [Ix.val];with_reducible assumption) | exact UInt8.toNat_lt _ | (apply Eq.trans;(with_reducible assumption);exact rfl) | exact rfl | exact fun _ _=>rfl)
   ·repeat' (first | (show AllP _;first | exact trivial | refine AllP.app ?_ ?_ | refine AllP.appd ?_ ?_ | refine AllP.cons ?_ ?_) | with_reducible rfl | with_reducible assumption | omega | (simp only [Nat.zero_add,Int.toNat_natCast,e1,hp,hnp,rng,Ix.val,addQ_eq,addI,szs] <;> omega) | (simp only [Nat.zero_add,Int.toNat_natCast,e1,hp,hnp,rng,Ix.val,Int.toNat_natCast,mulE_eq,addQ_eq,addI,Option.getD_none,Option.getD_some,List.length_take,List.length_drop,List.length_append,List.length_set,List.length_replicate,szs, *] <;> omega) | (simp only [Ix.val];with_reducible assumption) | exact UInt8.toNat_lt _ | (apply Eq.trans;(with_reducible assumption);exact rfl) | exact rfl | exact fun _ _=>rfl)
   rintro v M' (⟨hs,⟨e,he,rfl⟩,rfl⟩ | ⟨K,mk,ck,hs,hK,hmk,hm64k,rfl,rfl⟩)
   ·dsimp only [putT,afterM,newEnt,ren,renA,renS,renL,look,getM,getT,ev,evL,ofVal,cond_true,cond_false,Nat.beq_eq,act,isPar,ownPar,Ent.isOwn]
    repeat (refine sd ?_)
    refine ⟨([],0,0,e),⟨rfl,Nat.le_refl 0,Nat.zero_le _,Or.inl ⟨he,hs⟩⟩,Le.ghost [.own 402 [(0 * 1,.arr 0 1 (rwF []))]] [(10,402)] [(202,(202,0,none)),(207,(207,0,none)),(401,(401,0,none)),(450,(450,0,none))] rfl ?_ rfl rfl ?_ rfl ?_ rfl⟩
    ·repeat' (first | (show AllP _;first | exact trivial | refine AllP.app ?_ ?_ | refine AllP.appd ?_ ?_ | refine AllP.cons ?_ ?_) | exact fd | fail)
     all_goals exact ⟨rfl,rfl,trivial⟩
    ·exact fc
    ·exact fc
   ·dsimp only [putT,afterM,newEnt,ren,renA,renS,renL,look,getM,getT,ev,evL,ofVal,cond_true,cond_false,Nat.beq_eq,act,isPar,ownPar,Ent.isOwn]
    repeat (refine sd ?_)
    refine ⟨(K,mk,ck,0),⟨hK,hmk,hm64k,Or.inr ⟨rfl,hs⟩⟩,Le.intro [(202,(202,0,none)),(207,(207,0,none)),(401,(401,0,none)),(450,(450,0,none)),(402,(301,0,none))] rfl ?_ rfl ?_ rfl⟩
    ·exact fc
    ·exact fc
  rintro ⟨K,mk,ck,ek⟩ ⟨hK,hmk,hm64k,hsk⟩
  have hK:K.length = mk:=hK
  have hmk:mk ≤ ck:=hmk
  have hm64k:mk ≤ 64:=hm64k
  have hsk:(ek ≠ 0∧spl p = none) ∨ (ek = 0∧spl p = some K):=hsk
  obtain ⟨P0,hP0⟩:∃ q,(¬ ek = 0) = q:=⟨_,rfl⟩
  have hF:=nx3 (M:=K) (P:=P0)
  have hyes:(¬ P0∧nxG K 0 32∧nxG K 1 2∧nxG K 2 32∧K.length = 3)→upE p = some (nxX K 0 32,(gK (nxX K (nxS K 0 32) 2) 0 2).toUInt16,nxX K (nxS K (nxS K 0 32) 2) 32):=by
   rintro ⟨a1,a2,a3,a4,a5⟩
   have e1:nxS K 0 32 = 1:=by unfold nxS;exact if_pos a2
   have e2:nxS K 1 2 = 2:=by unfold nxS;exact if_pos a3
   rw [e1,e2]
   have f1:nxX K 0 32 = K.getD 0 []:=by unfold nxX;exact if_pos a2
   have f2:nxX K 1 2 = K.getD 1 []:=by unfold nxX;exact if_pos a3
   have f3:nxX K 2 32 = K.getD 2 []:=by unfold nxX;exact if_pos a4
   rw [f1,f2,f3]
   refine upE_yes ?_ a2 a3 a4 a5
   rcases hsk with ⟨g,_⟩ | ⟨_,g⟩
   ·exact absurd (by rw [← hP0];exact g) a1
   ·exact g
  have hno:∀ l',upEs (L.drop 16) = some l'→(¬ P0∧nxG K 0 32∧nxG K 1 2∧nxG K 2 32∧K.length = 3):=by
   intro l' hl'
   obtain ⟨kk,hkk⟩:=upEs_mem hl' p hpd
   obtain ⟨K',g1,g2,g3,g4,g5⟩:=upE_ok hkk
   rcases hsk with ⟨_,g⟩ | ⟨g0,g⟩
   ·rw [g] at g1;cases g1
   ·rw [g] at g1
    obtain rfl:K = K':=Option.some.inj g1
    exact ⟨by rw [← hP0];exact fun h=>h g0,g2,g3,g4,g5⟩
  have j1:nxS K 0 32 ≤ mk:=by rw [← hK];exact nxS_le (Nat.zero_le _)
  have j2:nxS K (nxS K 0 32) 2 ≤ mk:=by rw [← hK];exact nxS_le (nxS_le (Nat.zero_le _))
  have j3:nxS K (nxS K (nxS K 0 32) 2) 32 ≤ mk:=by rw [← hK];exact nxS_le (nxS_le (nxS_le (Nat.zero_le _)))
  have y1:=nxX_len K 0 32
  have y3:=nxX_len K (nxS K (nxS K 0 32) 2) 32
  have hT1:=fn50 K mk ck 0 hK (by omega) hmk (Nat.zero_le _) P0
  have hT2:=fn52 K mk ck (nxS K 0 32) hK (by omega) hmk j1 (P0 ∨ ¬ nxG K 0 32)
  have hT3:=fn50 K mk ck (nxS K (nxS K 0 32) 2) hK (by omega) hmk j2 ((P0 ∨ ¬ nxG K 0 32) ∨ ¬ nxG K (nxS K 0 32) 2)
  obtain ⟨P1,hP1⟩:∃ q,(P0 ∨ ¬ nxG K 0 32) = q:=⟨_,rfl⟩
  obtain ⟨P2,hP2⟩:∃ q,(P1 ∨ ¬ nxG K (nxS K 0 32) 2) = q:=⟨_,rfl⟩
  obtain ⟨P3,hP3⟩:∃ q,(P2 ∨ ¬ nxG K (nxS K (nxS K 0 32) 2) 32) = q:=⟨_,rfl⟩
  rw [hP1] at hF hT1 hT2 hT3
  rw [hP2] at hF hT2 hT3
  rw [hP3] at hF hT3
  simp only [hK] at hF hyes hno
  obtain ⟨z1,hz1⟩:∃ q,nxX K 0 32 = q:=⟨_,rfl⟩
  obtain ⟨z2,hz2⟩:∃ q,(gK (nxX K (nxS K 0 32) 2) 0 2).toUInt16 = q:=⟨_,rfl⟩
  obtain ⟨z3,hz3⟩:∃ q,nxX K (nxS K (nxS K 0 32) 2) 32 = q:=⟨_,rfl⟩
  rw [hz1] at hT1 hyes y1
  rw [hz2] at hT2 hyes
  rw [hz3] at hT3 hyes y3
  obtain ⟨k1,hk1⟩:∃ q,nxS K 0 32 = q:=⟨_,rfl⟩
  rw [hk1] at hF hT1 hT2 hT3 j1 j2 j3
  obtain ⟨k2,hk2⟩:∃ q,nxS K k1 2 = q:=⟨_,rfl⟩
  rw [hk2] at hF hT2 hT3 j2 j3
  obtain ⟨k3,hk3⟩:∃ q,nxS K k2 32 = q:=⟨_,rfl⟩
  rw [hk3] at hF hT3 j3
  repeat (refine sd ?_)
  refine Draw.intro [[],[0],[],[2],[],[2,3,4],[],[2,3,4,5,6],[2,3,4,5,6,7],[2,3,4,5,6,7,8],[0,1,2,3,4,5,6,7,8,9],[0,1,2,3,4,5,6,7,8,9,10],[0,1,2,3,4,5,6,7,8,9,10,11]] [0,1,2,4,6,3,5,7,8,9,10,11,12] (by kernel_rfl) ?_
  repeat (first | (refine Grow.turn rfl rfl ?_) | (refine sd ?_))
  refine Call.intro hT1 [(1000,(106,0,none)),(1001,(402,0,none))] rfl ?_ rfl ?_ rfl ?_
  ·exact fc
  ·repeat' (first | (show AllP _;first | exact trivial | refine AllP.app ?_ ?_ | refine AllP.appd ?_ ?_ | refine AllP.cons ?_ ?_) | exact fd | fail)
   all_goals first | exact iff_of_eq hP0 | exact (iff_of_eq hP0).symm
  rintro v M' ⟨rfl,rfl⟩
  dsimp only [putT,afterM,newEnt,ren,renA,renS,renL,look,getM,getT,ev,evL,ofVal,cond_true,cond_false,Nat.beq_eq,act,isPar,ownPar,Ent.isOwn]
  repeat (first | (refine Grow.turn rfl rfl ?_) | (refine sd ?_))
  refine Call.intro hT2 [(1000,(106,0,none)),(1001,(402,0,none))] rfl ?_ rfl ?_ rfl ?_
  ·exact fc
  ·exact fc
  rintro v M' ⟨rfl,rfl⟩
  dsimp only [putT,afterM,newEnt,ren,renA,renS,renL,look,getM,getT,ev,evL,ofVal,cond_true,cond_false,Nat.beq_eq,act,isPar,ownPar,Ent.isOwn]
  repeat (first | (refine Grow.turn rfl rfl ?_) | (refine sd ?_))
  refine Call.intro hT3 [(1000,(106,0,none)),(1001,(402,0,none))] rfl ?_ rfl ?_ rfl ?_
  ·exact fc
  ·exact fc
  rintro v M' ⟨rfl,rfl⟩
  dsimp only [putT,afterM,newEnt,ren,renA,renS,renL,look,getM,getT,ev,evL,ofVal,cond_true,cond_false,Nat.beq_eq,act,isPar,ownPar,Ent.isOwn]
  repeat (first | (refine Grow.turn rfl rfl ?_) | (refine sd ?_))
  refine fun c' hc'=>?_
  have hc':i + 1 ≤ c':=hc'
  repeat (first | (refine Grow.turn rfl rfl ?_) | (refine sd ?_))
  refine Branch.intro (fun hB=>?_) (fun hB=>?_)
  ·have hB:P3:=hB
   repeat (refine sd ?_)
   refine Ret.intro (.tup [.agg zSe,.ff]) [] [] rfl ?_ (Or.inr ⟨hn fun l' hl'=>(hF.2 (hno l' hl')).1 hB,rfl,rfl⟩) rfl ?_ rfl ?_ rfl
   ·exact fc
   ·exact fc
   ·exact fc
  have hB:¬ P3:=hB
  repeat (refine sd ?_)
  refine Branch.intro (fun hg=>?_) (fun hg=>?_)
  ·have hg:0 < ((mk - k3:Nat):Int):=hg
   repeat (refine sd ?_)
   refine Ret.intro (.tup [.agg zSe,.ff]) [] [] rfl ?_ (Or.inr ⟨hn fun l' hl'=>by have:=(hF.2 (hno l' hl')).2;omega,rfl,rfl⟩) rfl ?_ rfl ?_ rfl
   ·exact fc
   ·exact fc
   ·exact fc
  have hg:¬ 0 < ((mk - k3:Nat):Int):=hg
  have hE:=hyes (hF.1 ⟨hB,by omega⟩)
  repeat (refine sd ?_)
  refine ⟨(i + 1,l ++ [(z1,z2,z3)],c'),⟨by show i + 1 ≤ m - 16;omega,by show (l ++ _).length = i + 1;rw [List.length_append,hl];rfl,hc',by show upEs ((L.drop 16).take (i + 1)) = some (l ++ _);rw [hpe];exact upEs_snoc hup hE⟩,by show m - 16 - (i + 1) < m - 16 - i;omega,Le.intro [(202,(202,0,none)),(207,(207,0,none)),(401,(401,0,none)),(450,(117,0,none))] rfl ?_ rfl ?_ rfl⟩
  ·exact fc
  ·repeat' (first | (show AllP _;first | exact trivial | refine AllP.app ?_ ?_ | refine AllP.appd ?_ ?_ | refine AllP.cons ?_ ?_) | exact fd | fail)
   all_goals exact appF_kp hl rfl
 have hq:¬ (i:Int) < ((m - 16:Nat):Int):=hq
 obtain rfl:i = m - 16:=by omega
 have hall:upEs (L.drop 16) = some l:=by rw [← hup,List.take_of_length_le (by omega)]
 repeat (refine sd ?_)
 refine Ret.ghost [.keep 450,.ice 202 16] [] rfl ?_ rfl (.tup [.agg (seL X (.isl 0 (m - 16) 65 [((m - 16) * 65,.arr (m - 16) 65 (kpF l))])),.tt]) [] [] rfl ?_ (Or.inl ⟨X,l,m - 16,hy l hall,hl,by omega,rfl,rfl⟩) rfl ?_ rfl ?_ rfl
 ·exact fc
 ·exact fc
 ·exact fc
 ·exact fc
end Go.Proofs.YtpkllkbmoodniaaGreat
