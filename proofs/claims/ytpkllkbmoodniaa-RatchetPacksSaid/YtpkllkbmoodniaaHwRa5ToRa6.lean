/- What the functions of the program compute. No condition. -/
import Derived.Test.YtpkllkbmoodniaaHwRa4ToRa4
set_option linter.unusedSimpArgs false
set_option linter.unusedVariables false
namespace Go.Proofs.Ytpkllkbmoodniaa
open Go Go.Sx
set_option maxRecDepth 100000 in
set_option maxHeartbeats 1000000 in
theorem fnClone (l:List Kp) (N n:Nat) (hN:l.length = N) (hn:n ≤ N) (hN1:N ≤ 1000000) :
  Sx.Fn Γ.P 63 [.slx 1003 0 0 n] [(1003,.mem false 0 [(N * 65,.arr N 65 (kpF l))])]
  (fun v M=>∃ c,n ≤ c∧v = .sl 1006 0 0 n c∧M = [(1003,.mem false 0 [(N * 65,.arr N 65 (kpF l))]),(1006,.mem true (mulE (c - n) 65) [(n * 65,.arr n 65 (kpF (l.take n)))])]):=by
 refine fn_of (Γ:=Γ) (fn:=Try.f63) rfl rfl rfl rfl ?_
 repeat (refine sd ?_)
 refine fun p hp=>?_
 repeat (refine sd ?_)
 refine Branch.intro (fun hc=>?_) (fun hc=>?_)
 ·have h0:n = 0:=by
   rcases Nat.eq_zero_or_pos n with h | h
   ·exact h
   ·exact absurd hc (hp h)
  subst h0
  repeat (refine sd ?_)
  refine Ret.ghost [.own 450 [(0,.arr 0 65 (kpF []))]] [(2,450)] rfl ⟨rfl,rfl,trivial⟩ rfl (.sl 1006 0 0 0 0) [(1003,.mem false 0 [(N * 65,.arr N 65 (kpF l))]),(1006,.mem true (mulE (0 - 0) 65) [(0 * 65,.arr 0 65 (kpF (l.take 0)))])] [(1006,(450,0,none))] rfl ?_ ⟨0,Nat.le_refl _,rfl,rfl⟩ rfl ?_ rfl ?_ rfl
  ·exact fc
  ·exact fc
  ·exact fc
 ·repeat (refine sd ?_)
  refine fun c hc=>?_
  have hc:0 + n ≤ c:=hc
  repeat (refine sd ?_)
  refine Ret.intro (.sl 1006 0 0 n c) [(1003,.mem false 0 [(N * 65,.arr N 65 (kpF l))]),(1006,.mem true (mulE (c - n) 65) [(n * 65,.arr n 65 (kpF (l.take n)))])] [(1006,(7,0,none))] rfl ?_ ⟨c,by omega,rfl,rfl⟩ rfl ?_ rfl ?_ rfl
  ·exact fc
  ·exact fc
  ·repeat' (first | (show AllP _;first | exact trivial | refine AllP.app ?_ ?_ | refine AllP.appd ?_ ?_ | refine AllP.cons ?_ ?_) | with_reducible rfl | with_reducible assumption | omega | (simp only [rng,Ix.val,addQ_eq,addI,sz35,by35,sz36,by36,sz37,by37,sz89,by89] <;> omega) | (simp only [rng,Ix.val,Int.toNat_natCast,mulE_eq,addQ_eq,addI,Option.getD_none,Option.getD_some,List.length_take,List.length_drop,List.length_append,List.length_set,List.length_replicate,sz35,by35,sz36,by36,sz37,by37,sz89,by89, *] <;> omega) | (simp only [Ix.val];with_reducible assumption) | exact UInt8.toNat_lt _ | (apply Eq.trans;(with_reducible assumption);exact rfl) | exact rfl | exact fun _ _=>rfl)
   all_goals exact fun q hq=>(kpF_take l hq)
set_option maxRecDepth 100000 in
set_option maxHeartbeats 400000 in
theorem fnOwn (l:List Kp) (N n:Nat) (hN:l.length = N) (hn:n ≤ N) (hN1:N ≤ 1000000)
  (a1 a2 a3:List UInt8) (b1:Prop) (a4:List UInt8) (n1 n2:UInt16) (a5:List UInt8) (b2:Prop) (a6:List UInt8) (n3:UInt16) (b3:Prop) (a7 a8 a9:List UInt8) (n4:UInt16)
  (h1:a1.length = 32) (h2:a2.length = 32) (h3:a3.length = 32) (h4:a4.length = 32) (h5:a5.length = 32) (h6:a6.length = 32) (h7:a7.length = 32) (h8:a8.length = 32) (h9:a9.length = 32) :
  Sx.Fn Γ.P 31 [.agg [(32,.a8 a1),(32,.a8 a2),(32,.a8 a3),(1,.bool b1),(32,.a8 a4),(1,.u16 n1),(1,.u16 n2),(32,.a8 a5),(1,.bool b2),(32,.a8 a6),(1,.u16 n3),(1,.bool b3),(32,.a8 a7),(32,.a8 a8),(32,.a8 a9),(1,.u16 n4),(1,.isl 0 n 65 [(N * 65,.arr N 65 (kpF l))])]] []
  (fun v M=>v = .agg [(32,.a8 a1),(32,.a8 a2),(32,.a8 a3),(1,.bool b1),(32,.a8 a4),(1,.u16 n1),(1,.u16 n2),(32,.a8 a5),(1,.bool b2),(32,.a8 a6),(1,.u16 n3),(1,.bool b3),(32,.a8 a7),(32,.a8 a8),(32,.a8 a9),(1,.u16 n4),(1,.isl 0 n 65 [(n * 65,.arr n 65 (kpF (l.take n)))])]∧M = []):=by
 refine fn_of (Γ:=Γ) (fn:=Try.f31) rfl rfl rfl rfl ?_
 repeat (refine sd ?_)
 refine Call.name [(2001,[])] rfl fc (CallP.intro (fnClone l N n hN hn hN1) [(1003,(2001,0,none)),(1006,(306,0,none))] rfl fc rfl ?_ rfl ?_)
 ·exact fc
 rintro v M' ⟨c,hc,rfl,rfl⟩
 dsimp only [putT,afterM,newEnt,ren,renA,renS,renL,look,getM,getT,ev,evL,ofVal,cond_true,cond_false,Nat.beq_eq,act,isPar,ownPar,Ent.isOwn]
 repeat (refine sd ?_)
 refine Ret.ghost [.keep 306,.ice 2 16] [] rfl ?_ rfl (.agg [(32,.a8 a1),(32,.a8 a2),(32,.a8 a3),(1,.bool b1),(32,.a8 a4),(1,.u16 n1),(1,.u16 n2),(32,.a8 a5),(1,.bool b2),(32,.a8 a6),(1,.u16 n3),(1,.bool b3),(32,.a8 a7),(32,.a8 a8),(32,.a8 a9),(1,.u16 n4),(1,.isl 0 n 65 [(n * 65,.arr n 65 (kpF (l.take n)))])]) [] [] rfl ?_ ⟨rfl,rfl⟩ rfl ?_ rfl ?_ rfl
 ·exact fc
 ·exact fc
 ·exact fc
 ·exact fc
end Go.Proofs.Ytpkllkbmoodniaa
namespace Go.Proofs.Ytpkllkbmoodniaa
open Go Go.Sx
theorem jnR_le34 {L:List (List UInt8)} (h:∀ x ∈ L,x.length ≤ 32):(jnR L).length ≤ 34 * L.length:=by
 induction L with
 | nil=>exact Nat.le_refl 0
 | cons x r ih=>
  have h1:=h x (List.mem_cons_self)
  have h2:=ih fun y hy=>h y (List.mem_cons_of_mem _ hy)
  show ([UInt8.ofNat (x.length / 256),UInt8.ofNat x.length] ++ x ++ jnR r).length ≤ 34 * (r.length + 1)
  simp only [List.length_append,List.length_cons,List.length_nil]
  omega
theorem hdB_le {h:Hd} (k:h.OK):(hdB h).length ≤ 400:=by
 have h1:=jnR_le34 (hdP_ok k).2
 have h2:(hdP h).length = 9:=rfl
 rw [hdB_eq,jnB_eq,List.length_cons]
 omega
theorem rw2G {p q:List UInt8} {k:Nat} (hq:q.length = k):rwF [p,q] 1 = [(1,.isl 0 k 1 [(k,.a8 q)])]:=rwS_eq1 hq
theorem mx2_neG (T:List Te) (lab:UInt8) {p q:List UInt8} (hp:p.length ≤ 1024) (hq:q.length ≤ 1024):(mx2 T lab p q).2 ≠ 0:=mx2_ne T lab hp hq
theorem fnMixG (T:List Te) (N c:Nat) (hT:T.length = N) (hN:N ≤ 60000) (hNc:N ≤ c) (hTv:∀ x ∈ T,Valid x.1 x.2) (lab:UInt8) (p q:List UInt8) (hp:p.length ≤ 1024) (hq:q.length ≤ 1024) (T1:List Te) (o:Nat) (e1:(mx2 T lab p q).1 = T1) (e2:(mx2 T lab p q).2 = o) :
  Sx.Fn Γ.P 27 [.agg [(1,.ptr 1000 0 none)],.u8 lab,.slx 1003 0 0 2] (MT N c T 1001 2 [p,q])
  (fun v M=>∃ n' c',T1.length = n'∧n' ≤ c'∧v = .tup [.a8 (kyB o),.bool (o ≠ 0)]∧M = (1001,.dead) :: MT n' c' T1 1005 2 [p,q]):=by
 subst e1;subst e2
 rw [mx2_eq]
 refine fnMixF T N c hT hN hNc hTv lab [p,q] 2 rfl (by omega) (fun x hx=>?_)
 rcases List.mem_cons.1 hx with rfl | hx
 ·exact hp
 ·rw [List.mem_singleton.1 hx];exact hq
set_option maxRecDepth 100000 in
set_option maxHeartbeats 2000000 in
theorem fn34 (T:List Te) (N c:Nat) (hT:T.length = N) (hN:N ≤ 60000) (hNc:N ≤ c) (hTv:∀ x ∈ T,Valid x.1 x.2) (row:List UInt8) (hr:row.length = 32) (h:Hd) (hk:h.OK) (T1:List Te) (o:Nat) (e1:(mx2 T 75 row (hdB h)).1 = T1) (e2:(mx2 T 75 row (hdB h)).2 = o) :
  Sx.Fn Γ.P 34 [.agg [(1,.ptr 1000 0 none)],.a8 row,hdV h] (tbM N c T 1001)
  (fun v M=>(¬ hdG h∧v = .tup [.a8 (List.replicate 32 0),.i .i64 141]∧M = (1001,.dead) :: tbM N c T 1005) ∨
   (hdG h∧∃ n' c',T1.length = n'∧n' ≤ c'∧v = .tup [.a8 (kyB o),.i .i64 0]∧M = (1001,.dead) :: tbM n' c' T1 1005)):=by
 have hHb:=fn32 h hk
 have hBl:=hdB_le hk
 have hM:=fnMixG T N c hT hN hNc hTv 75 row (hdB h) (by omega) (by omega) T1 o e1 e2
 have hone:o ≠ 0:=by rw [← e2];exact mx2_neG T 75 (by omega) (by omega)
 obtain ⟨B,hB⟩:∃ B,hdB h = B:=⟨_,rfl⟩
 rw [hB] at hHb hM hBl
 have hkl:=kyB_length o
 obtain ⟨h1,h2,h3,h4,h5⟩:=hk
 unfold MT rwS at hM
 unfold hdV at hHb
 unfold tbM hdV
 refine fn_cut [4] (Γ:=Γ) (fn:=Try.f34) rfl rfl rfl rfl ?_
 repeat (refine sd ?_)
 refine Call.intro hHb [(1005,(305,0,none))] rfl ?_ rfl ?_ rfl ?_
 ·exact fc
 ·exact fc
 rintro v M' (⟨hG,rfl,rfl⟩ | ⟨m,c1,hG,hm,hmc,rfl,rfl⟩)
 ·dsimp only [putT,afterM,newEnt,ren,renA,renS,renL,look,getM,getT,ev,evL,ofVal,cond_true,cond_false,Nat.beq_eq,act,isPar,ownPar,Ent.isOwn]
  repeat (first | (refine Branch.intro (fun _=>?_) (fun hn=>absurd rfl hn)) | (refine Branch.intro (fun hn=>(by with_reducible exact False.elim hn)) (fun _=>?_)) | (refine Branch.intro (fun _=>?_) (fun hn=>(by with_reducible exact absurd trivial hn))) | (refine Branch.intro (fun hn=>(by with_reducible exact absurd trivial hn)) (fun _=>?_)) | (refine Branch.intro (fun hn=>(by with_reducible exact absurd rfl hn)) (fun _=>?_)) | (refine Branch.intro (fun _=>?_) (fun hn=>(by with_reducible exact absurd Iff.rfl hn))) | (refine Branch.intro (fun hn=>(by with_reducible exact absurd Iff.rfl hn)) (fun _=>?_)) | (refine sd ?_))
  refine Ret.intro (.tup [.a8 (List.replicate 32 0),.i .i64 141]) ((1001,.dead) :: tbM N c T 1005) [(1005,(1001,0,none))] rfl ?_ (Or.inl ⟨hG,rfl,rfl⟩) rfl ?_ rfl ?_ rfl
  ·exact fc
  ·exact fc
  ·repeat' (first | (show AllP _;first | exact trivial | refine AllP.app ?_ ?_ | refine AllP.appd ?_ ?_ | refine AllP.cons ?_ ?_) | with_reducible rfl | with_reducible assumption | omega | (simp only [rng,Ix.val,addQ_eq,addI,sz3,by3,sz4,by4,sz5,by5,sz22,by22,sz23,by23,sz24,by24,sz25,by25,sz26,by26,sz27,by27,sz29,by29,sz30,by30,sz31,by31,sz80,by80,sz104,by104,sz112,by112,sz113,by113,sz114,by114,sz115,by115] <;> omega) | (simp only [rng,Ix.val,Int.toNat_natCast,mulE_eq,addQ_eq,addI,Option.getD_none,Option.getD_some,List.length_take,List.length_drop,List.length_append,List.length_set,List.length_replicate,sz3,by3,sz4,by4,sz5,by5,sz22,by22,sz23,by23,sz24,by24,sz25,by25,sz26,by26,sz27,by27,sz29,by29,sz30,by30,sz31,by31,sz80,by80,sz104,by104,sz112,by112,sz113,by113,sz114,by114,sz115,by115, *] <;> omega) | (simp only [Ix.val];with_reducible assumption) | exact UInt8.toNat_lt _ | (apply Eq.trans;(with_reducible assumption);exact rfl) | exact rfl | exact fun _ _=>rfl)
   all_goals exact fun _ _=>rfl
 dsimp only [putT,afterM,newEnt,ren,renA,renS,renL,look,getM,getT,ev,evL,ofVal,cond_true,cond_false,Nat.beq_eq,act,isPar,ownPar,Ent.isOwn]
 repeat (first | (refine Branch.intro (fun _=>?_) (fun hn=>absurd rfl hn)) | (refine Branch.intro (fun hn=>(by with_reducible exact False.elim hn)) (fun _=>?_)) | (refine Branch.intro (fun _=>?_) (fun hn=>(by with_reducible exact absurd trivial hn))) | (refine Branch.intro (fun hn=>(by with_reducible exact absurd trivial hn)) (fun _=>?_)) | (refine Branch.intro (fun hn=>(by with_reducible exact absurd rfl hn)) (fun _=>?_)) | (refine Branch.intro (fun _=>?_) (fun hn=>(by with_reducible exact absurd Iff.rfl hn))) | (refine Branch.intro (fun hn=>(by with_reducible exact absurd Iff.rfl hn)) (fun _=>?_)) | (refine sd ?_))
 refine Cut.intro (σ:=Unit) (fun _=>True) (fun _=>([(3,.ptr 203 0 none),(4,.ptr 204 0 none),(6,.ptr 206 0 none),(7,.i .i64 0),(8,.isl 0 m 1 [(m,.a8 B)])],[(203,.mem true 0 [(1,.ptr 1000 0 none)]),(204,.mem false 1 [(32,.a8 row)]),(206,.mem true 0 [(32,.a8 (List.replicate 32 0))]),
  (1000,.mem true 0 [(1,.sl 1001 0 0 N c),(1,.mp 1002)]),(1001,.mem true (mulE (c - N) 3) [(N * 3,.arr N 3 (ttF T))]),(1002,.map (.si (mpL T)))])) () trivial (Le.ghost [.keep 4,.keep 305] [(8,0)] [(203,(3,0,none)),(204,(4,0,none)),(206,(6,0,none))] rfl ?_ rfl rfl ?_ rfl ?_ rfl) ?_
 ·exact fc
 ·exact fc
 ·exact fc
 rintro - -
 refine Draw.intro [[],[],[],[1,2],[0,1,2,3],[0,1,2,3,4],[0,1,2,3,4,5],[0,1,2,3,4,5],[],[0,1,2,3,4,5,6,8],[0,1,2,3,4,5,6,7,8,9],[]] [0,1,2,3,8,4,5,6,7,9,10] (by kernel_rfl) ?_
 refine ⟨?_,?_⟩
 all_goals
  repeat (refine sd ?_)
  refine Call.name [(0,[]),(0,[]),(2001,[])] rfl fc (CallP.intro hM [(1000,(1000,0,none)),(1001,(1001,0,none)),(1002,(1002,0,none)),(1003,(2001,0,none)),(1005,(315,0,none))] rfl fc rfl ?_ rfl ?_)
  ·repeat' (first | (show AllP _;first | exact trivial | refine AllP.app ?_ ?_ | refine AllP.appd ?_ ?_ | refine AllP.cons ?_ ?_) | with_reducible rfl | with_reducible assumption | omega | (simp only [rng,Ix.val,addQ_eq,addI,sz3,by3,sz4,by4,sz5,by5,sz22,by22,sz23,by23,sz24,by24,sz25,by25,sz26,by26,sz27,by27,sz29,by29,sz30,by30,sz31,by31,sz80,by80,sz104,by104,sz112,by112,sz113,by113,sz114,by114,sz115,by115] <;> omega) | (simp only [rng,Ix.val,Int.toNat_natCast,mulE_eq,addQ_eq,addI,Option.getD_none,Option.getD_some,List.length_take,List.length_drop,List.length_append,List.length_set,List.length_replicate,sz3,by3,sz4,by4,sz5,by5,sz22,by22,sz23,by23,sz24,by24,sz25,by25,sz26,by26,sz27,by27,sz29,by29,sz30,by30,sz31,by31,sz80,by80,sz104,by104,sz112,by112,sz113,by113,sz114,by114,sz115,by115, *] <;> omega) | (simp only [Ix.val];with_reducible assumption) | exact UInt8.toNat_lt _ | (apply Eq.trans;(with_reducible assumption);exact rfl) | exact rfl | exact fun _ _=>rfl)
   ·exact rwS_eq0 hr
   ·exact rw2G hm
  rintro v M' ⟨n',c',hn',hnc',rfl,rfl⟩
  dsimp only [putT,afterM,newEnt,ren,renA,renS,renL,look,getM,getT,ev,evL,ofVal,cond_true,cond_false,Nat.beq_eq,act,isPar,ownPar,Ent.isOwn]
  have hn1:¬ ¬ (o ≠ 0):=fun h=>h hone
  repeat (first | (refine Branch.intro (fun _=>?_) (fun hn=>absurd rfl hn)) | (refine Branch.intro (fun hn=>(by with_reducible exact False.elim hn)) (fun _=>?_)) | (refine Branch.intro (fun _=>?_) (fun hn=>(by with_reducible exact absurd hn1 hn))) | (refine Branch.intro (fun hn=>(by with_reducible exact absurd hn hn1)) (fun _=>?_)) | (refine Branch.intro (fun _=>?_) (fun hn=>(by with_reducible exact absurd trivial hn))) | (refine Branch.intro (fun hn=>(by with_reducible exact absurd trivial hn)) (fun _=>?_)) | (refine Branch.intro (fun hn=>(by with_reducible exact absurd rfl hn)) (fun _=>?_)) | (refine Branch.intro (fun _=>?_) (fun hn=>(by with_reducible exact absurd Iff.rfl hn))) | (refine Branch.intro (fun hn=>(by with_reducible exact absurd Iff.rfl hn)) (fun _=>?_)) | (refine sd ?_))
  refine Ret.intro (.tup [.a8 (kyB o),.i .i64 0]) ((1001,.dead) :: tbM n' c' T1 1005) [(1005,(315,0,none))] rfl ?_ (Or.inr ⟨hG,n',c',hn',hnc',rfl,rfl⟩) rfl ?_ rfl ?_ rfl
  ·exact fc
  ·exact fc
  ·exact fc
end Go.Proofs.Ytpkllkbmoodniaa
