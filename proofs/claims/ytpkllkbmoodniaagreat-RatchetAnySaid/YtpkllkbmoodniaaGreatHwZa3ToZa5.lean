/- What the functions of the program compute. No condition. -/
import Derived.Test.YtpkllkbmoodniaaGreatHwRa4ToRa4
import Derived.Test.YtpkllkbmoodniaaGreatHwRa8ToRc4
import Derived.Test.YtpkllkbmoodniaaGreatHwZa2ToZa2
set_option linter.unusedSimpArgs false
set_option linter.unusedVariables false
namespace Go.Proofs.YtpkllkbmoodniaaGreat
open Go Go.Sx
set_option maxRecDepth 100000 in
set_option maxHeartbeats 4000000 in
theorem fn38 (h:Hd) (hh:h.OK) (m:Nat) (hm:(hdB h).length = m):Sx.Fn Γ.P 38 [hdV h] []
  (fun v M=>(¬ hdG h∧v = .tup [.nsl,.ff]∧M = []) ∨ (hdG h∧v = .tup [.isl 0 m 1 [(m,.a8 (hdB h))],.tt]∧M = [])):=by
 have hJ:=(hdP_ok hh).1
 have hAll:=fnAllI (hdP h) 9 m rfl (by omega) (fun y hy=>by have:=(hdP_ok hh).2 y hy;omega) hJ (by rw [← hdB_eq];exact hm)
 rw [← hdB_eq] at hAll
 unfold rwS at hAll
 obtain ⟨h1,h2,h3,h4,h5⟩:=hh
 refine fn_cut [6] (Γ:=Γ) (fn:=Tryz.f38) rfl rfl rfl rfl ?_
 repeat (refine sd ?_)
 by_cases c0:h.fi = true
 ·have hG:hdG h:=Or.inl c0
  have hfp:(hdP h).getD 1 [] = [UInt8.ofNat 1]:=by show putB (if h.fi = true then 1 else 0) 1 = _;rw [if_pos c0];rfl
  repeat (first | (refine ky0 ?_) | (refine kn0 ?_) | (refine ky ?_) | (refine kn ?_) | (refine Branch.intro (fun hn=>(by with_reducible exact absurd c0 hn)) (fun _=>?_)) | (refine sd ?_))
  refine Cut.intro (σ:=Unit) (fun _=>True) (fun _=>([(1,.iep 0 0 1 [(32,.a8 h.ss),(1,.bool (h.fi = true)),(32,.a8 h.ag),(32,.a8 h.sg),(32,.a8 h.ba),(1,.u16 h.id),(32,.a8 h.ra),(1,.u16 h.n),(1,.u16 h.pv)]),(4,.u8 (UInt8.ofNat 1))],[])) () trivial (Le.ghost [.keep 1] [(1,0)] [] rfl ?_ rfl rfl ?_ rfl ?_ rfl) ?_
  ·exact fc
  ·exact fc
  ·exact fc
  rintro - -
  refine Draw.intro [[],[0],[],[2],[],[4],[],[6],[],[8],[],[10],[10,11],[10,11,12],[],[14],[],[16],[16,17],[10,11,12,13,16,17,18],[],[20],[20,21],[10,11,12,13,16,17,18,19,20,21,22],[0,1,2,3,4,5,6,7,8,9,10,11,12,13,14,15,16,17,18,19,20,21,22,23],[0,1,2,3,4,5,6,7,8,9,10,11,12,13,14,15,16,17,18,19,20,21,22,23,24],[0,1,2,3,4,5,6,7,8,9,10,11,12,13,14,15,16,17,18,19,20,21,22,23,24,25],[0,1,2,3,4,5,6,7,8,9,10,11,12,13,14,15,16,17,18,19,20,21,22,23,24,25,26]] [0,1,2,3,4,5,6,7,8,9,10,11,12,14,15,16,17,18,20,21,22,13,19,23,24,25,26,27] (by kernel_rfl) ?_
  repeat (first | (refine Grow.auto rfl rfl ?_) | (refine sd ?_))
  refine Call.intro (fnNumI h.id) [] rfl ?_ rfl ?_ rfl ?_
  ·exact fc
  ·exact fc
  rintro v M' ⟨rfl,rfl⟩
  dsimp only [putT,afterM,newEnt,ren,renA,renS,renL,look,getM,getT,ev,evL,ofVal,cond_true,cond_false,Nat.beq_eq,act,isPar,ownPar,Ent.isOwn]
  repeat (first | (refine Grow.auto rfl rfl ?_) | (refine sd ?_))
  refine Call.intro (fnNumI h.n) [] rfl ?_ rfl ?_ rfl ?_
  ·exact fc
  ·exact fc
  rintro v M' ⟨rfl,rfl⟩
  dsimp only [putT,afterM,newEnt,ren,renA,renS,renL,look,getM,getT,ev,evL,ofVal,cond_true,cond_false,Nat.beq_eq,act,isPar,ownPar,Ent.isOwn]
  repeat (first | (refine Grow.auto rfl rfl ?_) | (refine sd ?_))
  refine Call.intro (fnNumI h.pv) [] rfl ?_ rfl ?_ rfl ?_
  ·exact fc
  ·exact fc
  rintro v M' ⟨rfl,rfl⟩
  dsimp only [putT,afterM,newEnt,ren,renA,renS,renL,look,getM,getT,ev,evL,ofVal,cond_true,cond_false,Nat.beq_eq,act,isPar,ownPar,Ent.isOwn]
  repeat (first | (refine Grow.auto rfl rfl ?_) | (refine sd ?_))
  refine Call.name [(2001,[])] rfl ?_ (CallP.intro hAll [(1003,(2001,0,none))] rfl ?_ rfl ?_ rfl ?_)
  ·exact fc
  ·exact fc
  ·repeat' (first | (show AllP _;first | exact trivial | refine AllP.app ?_ ?_ | refine AllP.appd ?_ ?_ | refine AllP.cons ?_ ?_) | exact fd | fail)
   all_goals first | exact rwK rfl h1 | exact rwK rfl h2 | exact rwK rfl h3 | exact rwK rfl h4 | exact rwK rfl h5 | exact rwK rfl (putB_length _ _) | exact rwK hfp rfl
  rintro v M' ⟨rfl,rfl⟩
  dsimp only [putT,afterM,newEnt,ren,renA,renS,renL,look,getM,getT,ev,evL,ofVal,cond_true,cond_false,Nat.beq_eq,act,isPar,ownPar,Ent.isOwn]
  repeat (first | (refine Grow.auto rfl rfl ?_) | (refine sd ?_))
  refine Ret.intro (.tup [.isl 0 m 1 [(m,.a8 (hdB h))],.tt]) [] [] rfl ?_ (Or.inr ⟨hG,rfl,rfl⟩) rfl ?_ rfl ?_ rfl
  ·exact fc
  ·exact fc
  ·exact fc
 have hfp:(hdP h).getD 1 [] = [UInt8.ofNat 0]:=by show putB (if h.fi = true then 1 else 0) 1 = _;rw [if_neg c0];rfl
 have g0:hdG h ↔ (h.ag = List.replicate 32 0∧h.sg = List.replicate 32 0∧h.ba = List.replicate 32 0∧h.id = 0):=⟨fun g=>g.resolve_left c0,Or.inr⟩
 by_cases c1:h.ag = List.replicate 32 0
 rotate_left
 ·repeat (first | (refine ky0 ?_) | (refine kn0 ?_) | (refine ky ?_) | (refine kn ?_) | (refine Branch.intro (fun hn=>(by with_reducible exact absurd c0 hn)) (fun _=>?_)) | (refine Branch.intro (fun hn=>(by with_reducible exact absurd c1 hn)) (fun _=>?_)) | (refine sd ?_))
  refine Ret.intro (.tup [.nsl,.ff]) [] [] rfl ?_ (Or.inl ⟨fun g=>c1 (g0.1 g).1,rfl,rfl⟩) rfl ?_ rfl ?_ rfl
  ·exact fc
  ·exact fc
  ·exact fc
 by_cases c2:h.sg = List.replicate 32 0
 rotate_left
 ·repeat (first | (refine ky0 ?_) | (refine kn0 ?_) | (refine ky ?_) | (refine kn ?_) | (refine Branch.intro (fun hn=>(by with_reducible exact absurd c0 hn)) (fun _=>?_)) | (refine Branch.intro (fun hn=>(by with_reducible exact absurd c1 hn)) (fun _=>?_)) | (refine Branch.intro (fun hn=>(by with_reducible exact absurd c2 hn)) (fun _=>?_)) | (refine sd ?_))
  refine Ret.intro (.tup [.nsl,.ff]) [] [] rfl ?_ (Or.inl ⟨fun g=>c2 (g0.1 g).2.1,rfl,rfl⟩) rfl ?_ rfl ?_ rfl
  ·exact fc
  ·exact fc
  ·exact fc
 by_cases c3:h.ba = List.replicate 32 0
 rotate_left
 ·repeat (first | (refine ky0 ?_) | (refine kn0 ?_) | (refine ky ?_) | (refine kn ?_) | (refine Branch.intro (fun hn=>(by with_reducible exact absurd c0 hn)) (fun _=>?_)) | (refine Branch.intro (fun hn=>(by with_reducible exact absurd c1 hn)) (fun _=>?_)) | (refine Branch.intro (fun hn=>(by with_reducible exact absurd c2 hn)) (fun _=>?_)) | (refine Branch.intro (fun hn=>(by with_reducible exact absurd c3 hn)) (fun _=>?_)) | (refine sd ?_))
  refine Ret.intro (.tup [.nsl,.ff]) [] [] rfl ?_ (Or.inl ⟨fun g=>c3 (g0.1 g).2.2.1,rfl,rfl⟩) rfl ?_ rfl ?_ rfl
  ·exact fc
  ·exact fc
  ·exact fc
 by_cases c4:h.id = 0
 rotate_left
 ·have c5:h.id > 0:=by
   have:h.id.toNat ≠ 0:=fun e=>c4 (UInt16.toNat_inj.1 e)
   show (0:UInt16).toNat < h.id.toNat
   exact Nat.pos_of_ne_zero this
  repeat (first | (refine ky0 ?_) | (refine kn0 ?_) | (refine ky ?_) | (refine kn ?_) | (refine Branch.intro (fun hn=>(by with_reducible exact absurd c0 hn)) (fun _=>?_)) | (refine Branch.intro (fun hn=>(by with_reducible exact absurd c1 hn)) (fun _=>?_)) | (refine Branch.intro (fun hn=>(by with_reducible exact absurd c2 hn)) (fun _=>?_)) | (refine Branch.intro (fun hn=>(by with_reducible exact absurd c3 hn)) (fun _=>?_)) | (refine sd ?_))
  refine Branch.intro (fun _=>?_) (fun hn=>absurd c5 hn)
  repeat (refine sd ?_)
  refine Ret.intro (.tup [.nsl,.ff]) [] [] rfl ?_ (Or.inl ⟨fun g=>c4 (g0.1 g).2.2.2,rfl,rfl⟩) rfl ?_ rfl ?_ rfl
  ·exact fc
  ·exact fc
  ·exact fc
 have hG:hdG h:=g0.2 ⟨c1,c2,c3,c4⟩
 have c5:¬ h.id > 0:=by rw [c4];decide
 repeat (first | (refine ky0 ?_) | (refine kn0 ?_) | (refine ky ?_) | (refine kn ?_) | (refine Branch.intro (fun hn=>(by with_reducible exact absurd c0 hn)) (fun _=>?_)) | (refine Branch.intro (fun hn=>(by with_reducible exact absurd c1 hn)) (fun _=>?_)) | (refine Branch.intro (fun hn=>(by with_reducible exact absurd c2 hn)) (fun _=>?_)) | (refine Branch.intro (fun hn=>(by with_reducible exact absurd c3 hn)) (fun _=>?_)) | (refine sd ?_))
 refine Branch.intro (fun hn=>absurd hn c5) (fun _=>?_)
 refine Cut.intro (σ:=Unit) (fun _=>True) (fun _=>([(1,.iep 0 0 1 [(32,.a8 h.ss),(1,.bool (h.fi = true)),(32,.a8 h.ag),(32,.a8 h.sg),(32,.a8 h.ba),(1,.u16 h.id),(32,.a8 h.ra),(1,.u16 h.n),(1,.u16 h.pv)]),(4,.u8 (UInt8.ofNat 0))],[])) () trivial (Le.ghost [.keep 1] [(1,0)] [] rfl ?_ rfl rfl ?_ rfl ?_ rfl) ?_
 ·exact fc
 ·exact fc
 ·exact fc
 rintro - -
 refine Draw.intro [[],[0],[],[2],[],[4],[],[6],[],[8],[],[10],[10,11],[10,11,12],[],[14],[],[16],[16,17],[10,11,12,13,16,17,18],[],[20],[20,21],[10,11,12,13,16,17,18,19,20,21,22],[0,1,2,3,4,5,6,7,8,9,10,11,12,13,14,15,16,17,18,19,20,21,22,23],[0,1,2,3,4,5,6,7,8,9,10,11,12,13,14,15,16,17,18,19,20,21,22,23,24],[0,1,2,3,4,5,6,7,8,9,10,11,12,13,14,15,16,17,18,19,20,21,22,23,24,25],[0,1,2,3,4,5,6,7,8,9,10,11,12,13,14,15,16,17,18,19,20,21,22,23,24,25,26]] [0,1,2,3,4,5,6,7,8,9,10,11,12,14,15,16,17,18,20,21,22,13,19,23,24,25,26,27] (by kernel_rfl) ?_
 repeat (first | (refine Grow.auto rfl rfl ?_) | (refine sd ?_))
 refine Call.intro (fnNumI h.id) [] rfl ?_ rfl ?_ rfl ?_
 ·exact fc
 ·exact fc
 rintro v M' ⟨rfl,rfl⟩
 dsimp only [putT,afterM,newEnt,ren,renA,renS,renL,look,getM,getT,ev,evL,ofVal,cond_true,cond_false,Nat.beq_eq,act,isPar,ownPar,Ent.isOwn]
 repeat (first | (refine Grow.auto rfl rfl ?_) | (refine sd ?_))
 refine Call.intro (fnNumI h.n) [] rfl ?_ rfl ?_ rfl ?_
 ·exact fc
 ·exact fc
 rintro v M' ⟨rfl,rfl⟩
 dsimp only [putT,afterM,newEnt,ren,renA,renS,renL,look,getM,getT,ev,evL,ofVal,cond_true,cond_false,Nat.beq_eq,act,isPar,ownPar,Ent.isOwn]
 repeat (first | (refine Grow.auto rfl rfl ?_) | (refine sd ?_))
 refine Call.intro (fnNumI h.pv) [] rfl ?_ rfl ?_ rfl ?_
 ·exact fc
 ·exact fc
 rintro v M' ⟨rfl,rfl⟩
 dsimp only [putT,afterM,newEnt,ren,renA,renS,renL,look,getM,getT,ev,evL,ofVal,cond_true,cond_false,Nat.beq_eq,act,isPar,ownPar,Ent.isOwn]
 repeat (first | (refine Grow.auto rfl rfl ?_) | (refine sd ?_))
 refine Call.name [(2001,[])] rfl ?_ (CallP.intro hAll [(1003,(2001,0,none))] rfl ?_ rfl ?_ rfl ?_)
 ·exact fc
 ·exact fc
 ·repeat' (first | (show AllP _;first | exact trivial | refine AllP.app ?_ ?_ | refine AllP.appd ?_ ?_ | refine AllP.cons ?_ ?_) | exact fd | fail)
  all_goals first | exact rwK rfl h1 | exact rwK rfl h2 | exact rwK rfl h3 | exact rwK rfl h4 | exact rwK rfl h5 | exact rwK rfl (putB_length _ _) | exact rwK hfp rfl
 rintro v M' ⟨rfl,rfl⟩
 dsimp only [putT,afterM,newEnt,ren,renA,renS,renL,look,getM,getT,ev,evL,ofVal,cond_true,cond_false,Nat.beq_eq,act,isPar,ownPar,Ent.isOwn]
 repeat (first | (refine Grow.auto rfl rfl ?_) | (refine sd ?_))
 refine Ret.intro (.tup [.isl 0 m 1 [(m,.a8 (hdB h))],.tt]) [] [] rfl ?_ (Or.inr ⟨hG,rfl,rfl⟩) rfl ?_ rfl ?_ rfl
 ·exact fc
 ·exact fc
 ·exact fc
end Go.Proofs.YtpkllkbmoodniaaGreat
namespace Go.Proofs.YtpkllkbmoodniaaGreat
open Go Go.Sx
theorem tuK_length (T:List Te) (x:Se):(tuK T x).length = 32:=kyB_length _
theorem tuR_length (T:List Te) (x:Se):(tuR T x).length = 32:=kyB_length _
theorem tuT_valid {T:List Te} (hTv:∀ y ∈ T,Valid y.1 y.2) {x:Se} (hm:x.mine.length = 32) (ht:x.th.length = 32):∀ y ∈ tuT T x,Valid y.1 y.2:=
 roT_valid (tuA_info hTv hm ht).1 _ _
theorem tuT_len {T:List Te} (hTv:∀ y ∈ T,Valid y.1 y.2) {x:Se} (hm:x.mine.length = 32) (ht:x.th.length = 32):(tuT T x).length ≤ T.length + 3:=by
 have h1:=(tuA_info hTv hm ht).2
 have h2:=(roT_len (tuA T x).1 x.root (kyB (tuA T x).2)).2
 unfold tuT;omega
theorem z32_length:z32.length = 32:=List.length_replicate
end Go.Proofs.YtpkllkbmoodniaaGreat
namespace Go.Proofs.YtpkllkbmoodniaaGreat
open Go Go.Sx
set_option maxRecDepth 100000 in
set_option maxHeartbeats 4000000 in
theorem fn42 (T:List Te) (N c:Nat) (hT:T.length = N) (hN:N ≤ 40000) (hNc:N ≤ c) (hTv:∀ x ∈ T,Valid x.1 x.2) (x:Se) (hx:x.OK) (k kc:Nat) (kl:List Kp) :
  Sx.Fn Γ.P 42 [.agg [(1,.ptr 1000 0 none)],.agg (seL x (.isl 0 k 65 [(kc * 65,.arr kc 65 (kpF kl))]))] (rbM N c T 1001)
  (fun v M=>∃ n' c',(tuT T x).length = n'∧n' ≤ c'∧v = .tup [.a8 (tuR T x),.a8 (tuK T x),.tt]∧M = (1001,.dead) :: rbM n' c' (tuT T x) 1005):=by
 have hA:=fnRAgreeX T N c hT (by omega) hNc hTv x.mine x.th hx.mine hx.th
 obtain ⟨hAv,hAl⟩:=tuA_info hTv hx.mine hx.th
 have eA:=tuA_eq T x
 rw [hT] at eA
 rw [← eA] at hA
 unfold tuT tuR tuK
 obtain ⟨A,hAe⟩:∃ A,(tuA T x).1 = A:=⟨_,rfl⟩
 obtain ⟨o,hoe⟩:∃ o,(tuA T x).2 = o:=⟨_,rfl⟩
 rw [hAe,hoe] at hA
 rw [hAe] at hAv hAl
 rw [hAe,hoe]
 have hko:=kyB_length o
 have hkR:=kyB_length (roR A x.root (kyB o))
 have hkC:=kyB_length (roC A x.root (kyB o))
 obtain ⟨h1,h2,h3,h4,h5,h6,h7,h8,h9,_⟩:=hx
 unfold rbM at hA
 unfold rbM seL
 refine fn_of (Γ:=Γ) (fn:=Tryz.f42) rfl rfl rfl rfl ?_
 repeat (refine sd ?_)
 refine Call.intro hA [(1000,(1000,0,none)),(1001,(1001,0,none)),(1005,(305,0,none))] rfl ?_ rfl ?_ rfl ?_
 ·exact fc
 ·exact fc
 rintro v M' ⟨n1,c1,hn1,hc1,rfl,rfl⟩
 dsimp only [putT,afterM,newEnt,ren,renA,renS,renL,look,getM,getT,ev,evL,ofVal,cond_true,cond_false,Nat.beq_eq,act,isPar,ownPar,Ent.isOwn]
 repeat (first | (refine Branch.intro (fun _=>?_) (fun hn=>absurd rfl hn)) | (refine ky0 ?_) | (refine kn0 ?_) | (refine sd ?_))
 have hR:=fnRRootF A n1 c1 hn1 (by omega) hc1 hAv x.root (kyB o) h2 hko
 unfold rbM at hR
 refine Call.intro hR [(1000,(1000,0,none)),(1001,(305,0,none)),(1005,(306,0,none))] rfl ?_ rfl ?_ rfl ?_
 ·exact fc
 ·exact fc
 rintro v M' ⟨n2,c2,hn2,hc2,rfl,rfl⟩
 dsimp only [putT,afterM,newEnt,ren,renA,renS,renL,look,getM,getT,ev,evL,ofVal,cond_true,cond_false,Nat.beq_eq,act,isPar,ownPar,Ent.isOwn]
 repeat (refine sd ?_)
 refine Ret.intro (.tup [.a8 (kyB (roR A x.root (kyB o))),.a8 (kyB (roC A x.root (kyB o))),.tt]) ((1001,.dead) :: rbM n2 c2 (roT A x.root (kyB o)) 1005) [(1005,(306,0,none))] rfl ?_ ⟨n2,c2,hn2,hc2,rfl,rfl⟩ rfl ?_ rfl ?_ rfl
 ·exact fc
 ·exact fc
 ·exact fc
theorem fnRMixG (T:List Te) (N c:Nat) (hT:T.length = N) (hN:N ≤ 60000) (hNc:N ≤ c) (hTv:∀ x ∈ T,Valid x.1 x.2) (lab:UInt8) (p q:List UInt8) (hp:p.length ≤ 1024) (hq:q.length ≤ 1024) (T1:List Te) (o:Nat) (e1:(mx2 T lab p q).1 = T1) (e2:(mx2 T lab p q).2 = o) :
  Sx.Fn Γ.P 27 [.agg [(1,.ptr 1000 0 none)],.u8 lab,.slx 1003 0 0 2] (M12 N c T 1001 2 [p,q])
  (fun v M=>∃ n' c',T1.length = n'∧n' ≤ c'∧v = .tup [.a8 (kyB o),.bool (o ≠ 0)]∧M = (1001,.dead) :: M12 n' c' T1 1005 2 [p,q]):=by
 subst e1;subst e2
 rw [mx2_eq]
 refine fnRMixF T N c hT hN hNc (fun x h=>by have:=(hTv x h).1.1;omega) lab [p,q] 2 rfl (by omega) (by omega) (fun x hx=>?_)
 rcases List.mem_cons.1 hx with rfl | hx
 ·exact hp
 ·rw [List.mem_singleton.1 hx];exact hq
set_option maxRecDepth 100000 in
set_option maxHeartbeats 2000000 in
theorem fn45 (T:List Te) (N c:Nat) (hT:T.length = N) (hN:N ≤ 60000) (hNc:N ≤ c) (hTv:∀ x ∈ T,Valid x.1 x.2) (row:List UInt8) (hr:row.length = 32) (h:Hd) (hk:h.OK) (hG:hdG h) (T1:List Te) (o:Nat) (e1:(mx2 T 75 row (hdB h)).1 = T1) (e2:(mx2 T 75 row (hdB h)).2 = o) :
  Sx.Fn Γ.P 45 [.agg [(1,.ptr 1000 0 none)],.a8 row,hdV h] (rbM N c T 1001)
  (fun v M=>∃ n' c',T1.length = n'∧n' ≤ c'∧v = .a8 (kyB o)∧M = (1001,.dead) :: rbM n' c' T1 1005):=by
 obtain ⟨m,hm⟩:∃ m,(hdB h).length = m:=⟨_,rfl⟩
 have hHb:=fn38 h hk m hm
 have hBl:=hdB_le hk
 have hM:=fnRMixG T N c hT hN hNc hTv 75 row (hdB h) (by omega) (by omega) T1 o e1 e2
 obtain ⟨B,hB⟩:∃ B,hdB h = B:=⟨_,rfl⟩
 rw [hB] at hHb hM hBl hm
 have hkl:=kyB_length o
 obtain ⟨h1,h2,h3,h4,h5⟩:=hk
 unfold M12 rwS at hM
 unfold hdV at hHb
 unfold rbM hdV
 refine fn_cut [2] (Γ:=Γ) (fn:=Tryz.f45) rfl rfl rfl rfl ?_
 repeat (refine sd ?_)
 refine Call.intro hHb [] rfl ?_ rfl ?_ rfl ?_
 ·exact fc
 ·exact fc
 rintro v M' (⟨hG',_⟩ | ⟨_,rfl,rfl⟩)
 ·exact absurd hG hG'
 dsimp only [putT,afterM,newEnt,ren,renA,renS,renL,look,getM,getT,ev,evL,ofVal,cond_true,cond_false,Nat.beq_eq,act,isPar,ownPar,Ent.isOwn]
 repeat (refine sd ?_)
 refine Cut.intro (σ:=Unit) (fun _=>True) (fun _=>([(3,.ptr 203 0 none),(4,.ptr 204 0 none),(6,.ptr 206 0 none),(7,.isl 0 m 1 [(m,.a8 B)])],[(203,.mem true 0 [(1,.ptr 1000 0 none)]),(204,.mem false 1 [(32,.a8 row)]),(206,.mem true 0 [(32,.a8 (List.replicate 32 0))]),
  (1000,.mem true 0 [(1,.sl 1001 0 0 N c)]),(1001,.mem true (mulE (c - N) 2) [(N * 2,.arr N 2 (rtF T))])])) () trivial (Le.ghost [.keep 4] [] [(203,(3,0,none)),(204,(4,0,none)),(206,(6,0,none))] rfl ?_ rfl rfl ?_ rfl ?_ rfl) ?_
 ·exact fc
 ·exact fc
 ·exact fc
 rintro - -
 refine Draw.intro [[],[],[],[1,2],[0,1,2,3],[0,1,2,3,4],[0,1,2,3,4,5],[0,1,2,3,4,5],[],[0,1,2,3,4,5,6,8],[0,1,2,3,4,5,6,7,8,9]] [0,1,2,3,8,4,5,6,7,9,10] (by kernel_rfl) ?_
 repeat (first | (refine Grow.turn rfl rfl ?_) | (refine sd ?_))
 refine Call.name [(0,[]),(0,[]),(2001,[])] rfl fc (CallP.intro hM [(1000,(1000,0,none)),(1001,(1001,0,none)),(1003,(2001,0,none)),(1005,(305,0,none))] rfl fc rfl ?_ rfl ?_)
 ·repeat' (first | (show AllP _;first | exact trivial | refine AllP.app ?_ ?_ | refine AllP.appd ?_ ?_ | refine AllP.cons ?_ ?_) | exact fd | fail)
  all_goals first | exact rwS_eq0 hr | exact rw2G hm
 rintro v M' ⟨n',c',hn',hnc',rfl,rfl⟩
 dsimp only [putT,afterM,newEnt,ren,renA,renS,renL,look,getM,getT,ev,evL,ofVal,cond_true,cond_false,Nat.beq_eq,act,isPar,ownPar,Ent.isOwn]
 repeat (first | (refine Grow.turn rfl rfl ?_) | (refine sd ?_))
 refine Ret.intro (.a8 (kyB o)) ((1001,.dead) :: rbM n' c' T1 1005) [(1005,(305,0,none))] rfl ?_ ⟨n',c',hn',hnc',rfl,rfl⟩ rfl ?_ rfl ?_ rfl
 ·exact fc
 ·exact fc
 ·exact fc
end Go.Proofs.YtpkllkbmoodniaaGreat
