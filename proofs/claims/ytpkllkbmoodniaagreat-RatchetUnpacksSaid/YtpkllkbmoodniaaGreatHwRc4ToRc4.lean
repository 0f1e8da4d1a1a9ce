/- What the functions of the program compute. No condition. -/
import Derived.Test.YtpkllkbmoodniaaGreatHwRc3ToRc5
set_option linter.unusedSimpArgs false
set_option linter.unusedVariables false
namespace Go.Proofs.YtpkllkbmoodniaaGreat
open Go Go.Sx
set_option maxRecDepth 100000 in
theorem fn95 (p:Bool):Sx.Fn Γ.P 95 [.bool (p = true)] [] (fun v M=>v = .isl 0 1 1 [(1,.a8 (flB p))]∧M = []):=by
 refine fn_of (Γ:=Γ) (fn:=Tryz.f95) rfl rfl rfl rfl ?_
 repeat (refine sd ?_)
 refine Branch.intro (fun hc=>?_) (fun hc=>?_)
 ·have hc:p = true:=hc
  have e:flB p = [UInt8.ofNat 1]:=by unfold flB;exact if_pos hc
  rw [e]
  repeat (refine sd ?_)
  refine Ret.ghost [.keep 4] [(2,0)] rfl ?_ rfl (.isl 0 1 1 [(1,.a8 [UInt8.ofNat 1])]) [] [] rfl ?_ ⟨rfl,rfl⟩ rfl ?_ rfl ?_ rfl
  ·exact fc
  ·exact fc
  ·exact fc
  ·exact fc
 ·have hc:¬ p = true:=hc
  have e:flB p = [UInt8.ofNat 0]:=by unfold flB;exact if_neg hc
  rw [e]
  repeat (refine sd ?_)
  refine Ret.ghost [.keep 5] [(2,0)] rfl ?_ rfl (.isl 0 1 1 [(1,.a8 [UInt8.ofNat 0])]) [] [] rfl ?_ ⟨rfl,rfl⟩ rfl ?_ rfl ?_ rfl
  ·exact fc
  ·exact fc
  ·exact fc
  ·exact fc
set_option maxRecDepth 100000 in
theorem fnNumI (x:UInt16):Sx.Fn Γ.P 82 [.i .i64 (x.toNat:Int),.i .i64 2] []
  (fun v M=>v = .isl 0 2 1 [(2,.a8 (putB x.toNat 2))]∧M = []):=by
 have hx:x.toNat < 65536:=UInt16.toNat_lt _
 have hP:=fn125 (UInt64.ofInt (x.toNat:Int)) 2 (by omega) (by omega) (by rw [ofInt_toNat (by omega)];exact small_div (by omega))
 rw [ofInt_toNat (by omega)] at hP
 obtain ⟨B,hB⟩:∃ B,putB x.toNat 2 = B:=⟨_,rfl⟩
 have hBl:B.length = 2:=by rw [← hB,putB_length]
 rw [hB] at hP ⊢
 refine fn_of (Γ:=Γ) (fn:=Tryz.f82) rfl rfl rfl rfl ?_
 repeat (refine sd ?_)
 refine Call.intro hP [(1001,(301,0,none))] rfl fc rfl fc rfl ?_
 rintro v M' ⟨rfl,rfl⟩
 dsimp only [putT,afterM,newEnt,ren,renA,renS,renL,look,getM,getT,ev,evL,ofVal,cond_true,cond_false,Nat.beq_eq,act,isPar,ownPar,Ent.isOwn]
 repeat (refine sd ?_)
 refine Ret.ghost [.keep 301] [(4,0)] rfl ?_ rfl (.isl 0 2 1 [(2,.a8 B)]) [] [] rfl ?_ ⟨rfl,rfl⟩ rfl ?_ rfl ?_ rfl
 ·exact fc
 ·exact fc
 ·exact fc
 ·exact fc
set_option maxRecDepth 100000 in
theorem fnAllI (L:List (List UInt8)) (n k:Nat) (hn:L.length = n) (hn1:n ≤ 1000000) (hL:∀ x ∈ L,x.length ≤ 1000000) (hJ:Joins L) (hk:(jnB L).length = k):Sx.Fn Γ.P 81 [.slx 1003 0 0 n] [(1003,.mem false 0 (rwS n L))]
  (fun v M=>v = .isl 0 k 1 [(k,.a8 (jnB L))]∧M = [(1003,.mem false 0 (rwS n L))]):=by
 have hJo:=fn62 L n hn hn1 hL
 refine fn_of (Γ:=Γ) (fn:=Tryz.f81) rfl rfl rfl rfl ?_
 repeat (refine sd ?_)
 refine Call.intro hJo [(1003,(1003,0,none)),(1001,(301,0,none))] rfl ?_ rfl ?_ rfl ?_
 ·exact fc
 ·exact fc
 rintro v M' (⟨hj,_⟩ | ⟨c3,N3,hJ3,hN3,hNc3,rfl,rfl⟩)
 ·exact absurd hJ hj
 obtain rfl:N3 = k:=hN3.symm.trans hk
 dsimp only [putT,afterM,newEnt,ren,renA,renS,renL,look,getM,getT,ev,evL,ofVal,cond_true,cond_false,Nat.beq_eq,act,isPar,ownPar,Ent.isOwn]
 repeat (refine sd ?_)
 refine Ret.ghost [.keep 301] [(2,0)] rfl ?_ rfl (.isl 0 N3 1 [(N3,.a8 (jnB L))]) [(1003,.mem false 0 (rwS n L))] [] rfl ?_ ⟨rfl,rfl⟩ rfl ?_ rfl ?_ rfl
 ·exact fc
 ·exact fc
 ·exact fc
 ·exact fc
set_option maxRecDepth 100000 in
set_option maxHeartbeats 4000000 in
theorem fn58 (x:Se) (hx:x.OK) (l:List Kp) (Nl ml:Nat) (hNl:l.length = Nl) (hml:ml ≤ Nl) (hNl1:Nl ≤ 1000000) (hlO:∀ x ∈ l,KpOK x) :
  Sx.Fn Γ.P 58 [.agg (seL x (.isl 0 ml 65 [(Nl * 65,.arr Nl 65 (kpF l))]))] []
  (fun v M=>(16 < ml∧v = .tup [.nsl,.ff]∧M = []) ∨ (ml ≤ 16∧∃ k c,(pkB x (l.take ml)).length = k∧k ≤ c∧v = .tup [.sl 1006 0 0 k c,.tt]∧M = [(1006,.mem true (c - k) [(k,.a8 (pkB x (l.take ml)))])])):=by
 have hx':=hx
 obtain ⟨h1,h2,h3,h4,h5,h6,h7,h8,h9,_⟩:=hx'
 refine fn_cut [3,4,8] (Γ:=Γ) (fn:=Tryz.f58) rfl rfl rfl rfl ?_
 repeat (refine sd ?_)
 refine Branch.intro (fun hc=>?_) (fun hc=>?_)
 ·have hc:16 < (ml:Int):=hc
  repeat (refine sd ?_)
  refine Ret.intro (.tup [.nsl,.ff]) [] [] rfl ?_ (Or.inl ⟨by omega,rfl,rfl⟩) rfl ?_ rfl ?_ rfl
  ·exact fc
  ·exact fc
  ·exact fc
 have hc:¬ 16 < (ml:Int):=hc
 refine Cut.intro (σ:=Unit) (fun _=>True) (fun _=>([(1,.iep 0 0 1 (seL x (.isl 0 ml 65 [(Nl * 65,.arr Nl 65 (kpF l))])))],[])) () trivial (Le.ghost [.keep 1] [(1,0)] [] rfl ?_ rfl rfl ?_ rfl ?_ rfl) ?_
 ·exact fc
 ·exact fc
 ·exact fc
 rintro - -
 refine Draw.intro [[],[0],[],[2],[],[4],[],[6],[6,7],[],[9],[9,10],[],[12],[12,13],[12,13,14],[6,7,8,12,13,14,15],[],[17],[17,18],[6,7,8,12,13,14,15,16,17,18,19],[],[21],[],[23],[6,7,8,12,13,14,15,16,17,18,19,20,23,24],[],[26],[26,27],[],[29],[29,30],[29,30,31],[6,7,8,12,13,14,15,16,17,18,19,20,23,24,25,29,30,31,32],[],[34],[6,7,8,12,13,14,15,16,17,18,19,20,23,24,25,29,30,31,32,33,34,35],[],[37],[],[39],[],[41],[],[43],[43,44],[6,7,8,12,13,14,15,16,17,18,19,20,23,24,25,29,30,31,32,33,34,35,36,43,44,45],[0,1,2,3,4,5,6,7,8,9,10,11,12,13,14,15,16,17,18,19,20,21,22,23,24,25,26,27,28,29,30,31,32,33,34,35,36,37,38,39,40,41,42,43,44,45,46],[0,1,2,3,4,5,6,7,8,9,10,11,12,13,14,15,16,17,18,19,20,21,22,23,24,25,26,27,28,29,30,31,32,33,34,35,36,37,38,39,40,41,42,43,44,45,46,47]] [0,1,2,3,4,5,6,7,9,10,11,12,13,14,15,17,18,19,21,22,23,24,26,27,28,29,30,31,32,34,35,37,38,39,40,41,42,43,44,45,8,16,20,25,33,36,46,47,48] (by kernel_rfl) ?_
 repeat (first | (refine Grow.auto rfl rfl ?_) | (refine sd ?_))
 refine Call.intro (fn95 x.hs) [] rfl ?_ rfl ?_ rfl ?_
 ·exact fc
 ·exact fc
 rintro v M' ⟨rfl,rfl⟩
 dsimp only [putT,afterM,newEnt,ren,renA,renS,renL,look,getM,getT,ev,evL,ofVal,cond_true,cond_false,Nat.beq_eq,act,isPar,ownPar,Ent.isOwn]
 repeat (first | (refine Grow.auto rfl rfl ?_) | (refine sd ?_))
 refine Call.intro (fnNumI x.sn) [] rfl ?_ rfl ?_ rfl ?_
 ·exact fc
 ·exact fc
 rintro v M' ⟨rfl,rfl⟩
 dsimp only [putT,afterM,newEnt,ren,renA,renS,renL,look,getM,getT,ev,evL,ofVal,cond_true,cond_false,Nat.beq_eq,act,isPar,ownPar,Ent.isOwn]
 repeat (first | (refine Grow.auto rfl rfl ?_) | (refine sd ?_))
 refine Call.intro (fnNumI x.pv) [] rfl ?_ rfl ?_ rfl ?_
 ·exact fc
 ·exact fc
 rintro v M' ⟨rfl,rfl⟩
 dsimp only [putT,afterM,newEnt,ren,renA,renS,renL,look,getM,getT,ev,evL,ofVal,cond_true,cond_false,Nat.beq_eq,act,isPar,ownPar,Ent.isOwn]
 repeat (first | (refine Grow.auto rfl rfl ?_) | (refine sd ?_))
 refine Call.intro (fn95 x.hr) [] rfl ?_ rfl ?_ rfl ?_
 ·exact fc
 ·exact fc
 rintro v M' ⟨rfl,rfl⟩
 dsimp only [putT,afterM,newEnt,ren,renA,renS,renL,look,getM,getT,ev,evL,ofVal,cond_true,cond_false,Nat.beq_eq,act,isPar,ownPar,Ent.isOwn]
 repeat (first | (refine Grow.auto rfl rfl ?_) | (refine sd ?_))
 refine Call.intro (fnNumI x.rn) [] rfl ?_ rfl ?_ rfl ?_
 ·exact fc
 ·exact fc
 rintro v M' ⟨rfl,rfl⟩
 dsimp only [putT,afterM,newEnt,ren,renA,renS,renL,look,getM,getT,ev,evL,ofVal,cond_true,cond_false,Nat.beq_eq,act,isPar,ownPar,Ent.isOwn]
 repeat (first | (refine Grow.auto rfl rfl ?_) | (refine sd ?_))
 refine Call.intro (fn95 x.fi) [] rfl ?_ rfl ?_ rfl ?_
 ·exact fc
 ·exact fc
 rintro v M' ⟨rfl,rfl⟩
 dsimp only [putT,afterM,newEnt,ren,renA,renS,renL,look,getM,getT,ev,evL,ofVal,cond_true,cond_false,Nat.beq_eq,act,isPar,ownPar,Ent.isOwn]
 repeat (first | (refine Grow.auto rfl rfl ?_) | (refine sd ?_))
 refine Call.intro (fnNumI x.oc) [] rfl ?_ rfl ?_ rfl ?_
 ·exact fc
 ·exact fc
 rintro v M' ⟨rfl,rfl⟩
 dsimp only [putT,afterM,newEnt,ren,renA,renS,renL,look,getM,getT,ev,evL,ofVal,cond_true,cond_false,Nat.beq_eq,act,isPar,ownPar,Ent.isOwn]
 repeat (first | (refine Grow.auto rfl rfl ?_) | (refine sd ?_))
 refine Cut.intro (σ:=Unit) (fun _=>True) (fun _=>([(1,.iep 0 0 1 (seL x (.isl 0 ml 65 [(Nl * 65,.arr Nl 65 (kpF l))]))),(4,.sl 204 0 0 16 16)],[(204,.mem true (mulE (16 - 16) 1) [(16 * 1,.arr 16 1 (rwF (pkL x)))])])) () trivial (Le.intro [(204,(58,0,none))] rfl ?_ rfl ?_ rfl) ?_
 ·exact fc
 ·repeat' (first | (show AllP _;first | exact trivial | refine AllP.app ?_ ?_ | refine AllP.appd ?_ ?_ | refine AllP.cons ?_ ?_) | exact fd | fail)
  all_goals first | exact rwK rfl h1 | exact rwK rfl h2 | exact rwK rfl h3 | exact rwK rfl h4 | exact rwK rfl h5 | exact rwK rfl h6 | exact rwK rfl h7 | exact rwK rfl h8 | exact rwK rfl h9 | exact rwK rfl (flB_length _) | exact rwK rfl (putB_length _ _)
 rintro - -
 have hkx:∀ i,i < ml→KpOK (l.getD i kp0):=fun i hi=>by
  rw [List.getD_eq_getElem?_getD,List.getElem?_eq_getElem (by omega)]
  exact hlO _ (List.getElem_mem _)
 repeat (refine sd ?_)
 refine Loop.intro (σ:=Nat × Nat) (fun s=>s.1 ≤ ml∧16 + s.1 ≤ s.2)
  (fun s=>([(1,.iep 0 0 1 (seL x (.isl 0 ml 65 [(Nl * 65,.arr Nl 65 (kpF l))]))),(4,.sl 204 0 0 (16 + s.1) s.2),(5,.i .i64 (s.1:Int))],[(204,.mem true (mulE (s.2 - (16 + s.1)) 1) [((16 + s.1) * 1,.arr (16 + s.1) 1 (rwF (pkA x (l.take s.1))))])]))
  (fun s=>ml - s.1) (0,16) ⟨Nat.zero_le _,Nat.le_refl _⟩ ?_ ?_
 ·refine Le.intro [(204,(204,0,none))] rfl ?_ rfl ?_ rfl
  ·exact fc
  ·exact fc
 rintro ⟨i,c⟩ ⟨hi,hc2⟩
 have hi:i ≤ ml:=hi
 have hc2:16 + i ≤ c:=hc2
 repeat (refine sd ?_)
 refine Branch.intro (fun hb=>?_) (fun hb=>?_)
 ·have hb:(i:Int) < (ml:Int):=hb
  have him:i < ml:=by omega
  obtain ⟨kk,hkk⟩:∃ kk,l.getD i kp0 = kk:=⟨_,rfl⟩
  have hkO:=hkx i him
  rw [hkk] at hkO
  obtain ⟨k1,k2⟩:=hkO
  have hp3:=pkK_length (k:=kk) ⟨k1,k2⟩
  repeat (refine sd ?_)
  refine Cut.intro (σ:=Unit) (fun _=>True) (fun _=>([(1,.iep 0 0 1 (seL x (.isl 0 ml 65 [(Nl * 65,.arr Nl 65 (kpF l))]))),(4,.sl 204 0 0 (16 + i) c),(5,.i .i64 (i:Int)),(6,.iep 0 0 1 [(32,.a8 kk.1),(1,.u16 kk.2.1),(32,.a8 kk.2.2)])],[(204,.mem true (mulE (c - (16 + i)) 1) [((16 + i) * 1,.arr (16 + i) 1 (rwF (pkA x (l.take i))))])])) () trivial (Le.ghost [.keep 6] [(6,0)] [(204,(204,0,none))] rfl ?_ rfl rfl ?_ rfl ?_ rfl) ?_
  ·exact fc
  ·repeat' (first | (show AllP _;first | exact trivial | refine AllP.app ?_ ?_ | refine AllP.appd ?_ ?_ | refine AllP.cons ?_ ?_) | exact fd | fail)
   all_goals
    have e:addQ 0 (Int.toNat (i:Int)) = i:=by rw [addQ_eq,Nat.zero_add,Int.toNat_natCast]
    show _ = [(32,SV.a8 (l.getD (addQ 0 (Int.toNat (i:Int))) kp0).1),(1,SV.u16 (l.getD (addQ 0 (Int.toNat (i:Int))) kp0).2.1),(32,SV.a8 (l.getD (addQ 0 (Int.toNat (i:Int))) kp0).2.2)]
    rw [e,hkk]
  ·exact fc
  rintro - -
  have hlA:(pkA x (l.take i)).length = 16 + i:=by rw [pkA_length,List.length_take];omega
  have hrw:=rw_next' hlA hp3
  have hsu:=pkA_succ x (l:=l) (i:=i) (by omega)
  rw [hkk] at hsu
  refine Draw.intro [[],[],[1],[],[3],[3,4],[3,4,5],[],[7],[1,2,3,4,5,6,7,8],[1,2,3,4,5,6,7,8,9],[1,2,3,4,5,6,7,8,9,10],[0,1,2,3,4,5,6,7,8,9,10,11],[0,1,2,3,4,5,6,7,8,9,10,11,12]] [0,1,2,3,4,5,7,8,6,9,10,11,12,13] (by kernel_rfl) ?_
  repeat (first | (refine Grow.turn rfl rfl ?_) | (refine sd ?_))
  refine Call.intro (fnNumI kk.2.1) [] rfl ?_ rfl ?_ rfl ?_
  ·exact fc
  ·exact fc
  rintro v M' ⟨rfl,rfl⟩
  dsimp only [putT,afterM,newEnt,ren,renA,renS,renL,look,getM,getT,ev,evL,ofVal,cond_true,cond_false,Nat.beq_eq,act,isPar,ownPar,Ent.isOwn]
  repeat (first | (refine Grow.turn rfl rfl ?_) | (refine sd ?_))
  refine Call.intro (fnAllI (pkP kk) 3 73 rfl (by omega) (fun y hy=>by have:=(pkP_ok (k:=kk) ⟨k1,k2⟩).2 y hy;omega) (pkP_ok ⟨k1,k2⟩) hp3) [(1003,(80,0,none))] rfl ?_ rfl ?_ rfl ?_
  ·exact fc
  ·repeat' (first | (show AllP _;first | exact trivial | refine AllP.app ?_ ?_ | refine AllP.appd ?_ ?_ | refine AllP.cons ?_ ?_) | exact fd | fail)
   all_goals first | exact rwK rfl k1 | exact rwK rfl k2 | exact rwK rfl (putB_length _ _)
  rintro v M' ⟨rfl,rfl⟩
  dsimp only [putT,afterM,newEnt,ren,renA,renS,renL,look,getM,getT,ev,evL,ofVal,cond_true,cond_false,Nat.beq_eq,act,isPar,ownPar,Ent.isOwn]
  repeat (first | (refine Grow.turn rfl rfl ?_) | (refine sd ?_))
  refine fun c' hc'=>?_
  have hc':16 + i + 1 ≤ c':=hc'
  repeat (first | (refine Grow.turn rfl rfl ?_) | (refine sd ?_))
  refine ⟨(i + 1,c'),⟨by show i + 1 ≤ ml;omega,by show 16 + (i + 1) ≤ c';omega⟩,by show ml - (i + 1) < ml - i;omega,Le.intro [(204,(83,0,none))] rfl ?_ rfl ?_ rfl⟩
  ·exact fc
  ·repeat' (first | (show AllP _;first | exact trivial | refine AllP.app ?_ ?_ | refine AllP.appd ?_ ?_ | refine AllP.cons ?_ ?_) | exact fd | fail)
   all_goals (show ∀ q,q < 16 + i + 1→rwF (pkA x (l.take (i + 1))) q = _;rw [hsu];exact hrw)
 have hb:¬ (i:Int) < (ml:Int):=hb
 obtain rfl:i = ml:=by omega
 have hJo:=pkA_ok hx (l:=l.take i) (fun k hk=>hlO k (List.mem_of_mem_take hk)) (by rw [List.length_take];omega)
 repeat (refine sd ?_)
 refine Call.intro (fn62 (pkA x (l.take i)) (16 + i) (by rw [pkA_length,List.length_take];omega) (by omega) (fun y hy=>by have:=hJo.2 y hy;omega)) [(1003,(204,0,none)),(1001,(302,0,none))] rfl ?_ rfl ?_ rfl ?_
 ·exact fc
 ·exact fc
 rintro v M' (⟨hj,_⟩ | ⟨c3,N3,hJ3,hN3,hNc3,rfl,rfl⟩)
 ·exact absurd hJo hj
 dsimp only [putT,afterM,newEnt,ren,renA,renS,renL,look,getM,getT,ev,evL,ofVal,cond_true,cond_false,Nat.beq_eq,act,isPar,ownPar,Ent.isOwn]
 repeat (refine sd ?_)
 refine Ret.intro (.tup [.sl 1006 0 0 N3 c3,.tt]) [(1006,.mem true (c3 - N3) [(N3,.a8 (jnB (pkA x (l.take i))))])] [(1006,(302,0,none))] rfl ?_ (Or.inr ⟨by omega,N3,c3,hN3,hNc3,rfl,rfl⟩) rfl ?_ rfl ?_ rfl
 ·exact fc
 ·exact fc
 ·exact fc
end Go.Proofs.YtpkllkbmoodniaaGreat
