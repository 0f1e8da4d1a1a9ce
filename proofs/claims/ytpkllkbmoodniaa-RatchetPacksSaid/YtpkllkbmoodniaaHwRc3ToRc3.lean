/- What the functions of the program compute. No condition. -/
import Derived.Test.YtpkllkbmoodniaaHwRa7ToRa7
import Derived.Test.YtpkllkbmoodniaaHwRy3ToRy7
import Derived.Test.YtpkllkbmoodniaaHwRc2ToRc2
set_option linter.unusedSimpArgs false
set_option linter.unusedVariables false
namespace Go.Proofs.Ytpkllkbmoodniaa
open Go Go.Sx
def pkL (x:Se):List (List UInt8):=[x.id,x.root,x.mine,flB x.hs,x.sk,putB x.sn.toNat 2,putB x.pv.toNat 2,x.th,flB x.hr,x.rk,putB x.rn.toNat 2,flB x.fi,x.ag,x.sg,x.ba,putB x.oc.toNat 2]
def pkP (k:Kp):List (List UInt8):=[k.1,putB k.2.1.toNat 2,k.2.2]
def pkK (k:Kp):List UInt8:=jnB (pkP k)
def pkA (x:Se) (l:List Kp):List (List UInt8):=pkL x ++ l.map pkK
def pkB (x:Se) (l:List Kp):List UInt8:=jnB (pkA x l)
theorem flB_length (b:Bool):(flB b).length = 1:=by cases b <;> rfl
theorem pkP_ok {k:Kp} (hk:KpOK k):Joins (pkP k):=by
 refine ⟨by show 3 ≤ 64;omega,fun x hx=>?_⟩
 unfold pkP at hx
 simp only [List.mem_cons,List.not_mem_nil,or_false] at hx
 rcases hx with rfl | rfl | rfl
 ·rw [hk.1];omega
 ·rw [putB_length];omega
 ·rw [hk.2];omega
theorem pkK_length {k:Kp} (hk:KpOK k):(pkK k).length = 73:=by
 unfold pkK
 rw [jnB_eq]
 show ([UInt8.ofNat (k.1.length / 256),UInt8.ofNat k.1.length] ++ k.1 ++ ([UInt8.ofNat ((putB k.2.1.toNat 2).length / 256),UInt8.ofNat (putB k.2.1.toNat 2).length] ++ putB k.2.1.toNat 2 ++ ([UInt8.ofNat (k.2.2.length / 256),UInt8.ofNat k.2.2.length] ++ k.2.2 ++ []))).length + 1 = 73
 simp only [List.length_append,List.length_cons,List.length_nil,hk.1,hk.2,putB_length]
theorem pkL_ok {x:Se} (hx:x.OK):∀ y ∈ pkL x,y.length ≤ 32:=by
 intro y hy
 unfold pkL at hy
 simp only [List.mem_cons,List.not_mem_nil,or_false] at hy
 rcases hy with rfl | rfl | rfl | rfl | rfl | rfl | rfl | rfl | rfl | rfl | rfl | rfl | rfl | rfl | rfl | rfl
 ·rw [hx.id];omega
 ·rw [hx.root];omega
 ·rw [hx.mine];omega
 ·rw [flB_length];omega
 ·rw [hx.sk];omega
 ·rw [putB_length];omega
 ·rw [putB_length];omega
 ·rw [hx.th];omega
 ·rw [flB_length];omega
 ·rw [hx.rk];omega
 ·rw [putB_length];omega
 ·rw [flB_length];omega
 ·rw [hx.ag];omega
 ·rw [hx.sg];omega
 ·rw [hx.ba];omega
 ·rw [putB_length];omega
theorem pkA_length (x:Se) (l:List Kp):(pkA x l).length = 16 + l.length:=by
 unfold pkA;rw [List.length_append,List.length_map];rfl
theorem pkA_ok {x:Se} (hx:x.OK) {l:List Kp} (hl:∀ k ∈ l,KpOK k) (h16:l.length ≤ 16):Joins (pkA x l):=by
 refine ⟨by rw [pkA_length];omega,fun y hy=>?_⟩
 unfold pkA at hy
 rcases List.mem_append.1 hy with h | h
 ·have:=pkL_ok hx y h;omega
 ·obtain ⟨k,hk,rfl⟩:=List.mem_map.1 h
  rw [pkK_length (hl k hk)];omega
theorem pkA_le {x:Se} (hx:x.OK) {l:List Kp} (hl:∀ k ∈ l,KpOK k):∀ y ∈ pkA x l,y.length ≤ 4096:=by
 intro y hy
 unfold pkA at hy
 rcases List.mem_append.1 hy with h | h
 ·have:=pkL_ok hx y h;omega
 ·obtain ⟨k,hk,rfl⟩:=List.mem_map.1 h
  rw [pkK_length (hl k hk)];omega
theorem pkA_succ (x:Se) {l:List Kp} {i:Nat} (hi:i < l.length):pkA x (l.take (i + 1)) = pkA x (l.take i) ++ [pkK (l.getD i kp0)]:=by
 unfold pkA
 rw [List.take_add_one,List.map_append,List.append_assoc]
 congr 2
 rw [List.getElem?_eq_getElem hi,List.getD_eq_getElem?_getD,List.getElem?_eq_getElem hi]
 rfl
theorem rwK {L:List (List UInt8)} {i k:Nat} {p:List UInt8} (hp:L.getD i [] = p) (hk:p.length = k):rwF L i = [(1,.isl 0 k 1 [(k,.a8 p)])]:=by
 subst hp;subst hk
 show [(1,SV.isl 0 (L.getD i []).length 1 [((L.getD i []).length * 1,SV.a8 (L.getD i []))])] = _
 rw [Nat.mul_one]
set_option maxRecDepth 100000 in
set_option maxHeartbeats 4000000 in
theorem fn23 (x:Se) (hx:x.OK) (l:List Kp) (Nl ml:Nat) (hNl:l.length = Nl) (hml:ml ≤ Nl) (hNl1:Nl ≤ 1000000) (hlO:∀ x ∈ l,KpOK x) :
  Sx.Fn Γ.P 23 [.agg (seL x (.isl 0 ml 65 [(Nl * 65,.arr Nl 65 (kpF l))]))] []
  (fun v M=>(16 < ml∧v = .tup [.nsl,.ff]∧M = []) ∨ (ml ≤ 16∧∃ k c,(pkB x (l.take ml)).length = k∧k ≤ c∧v = .tup [.sl 1006 0 0 k c,.tt]∧M = [(1006,.mem true (c - k) [(k,.a8 (pkB x (l.take ml)))])])):=by
 have hx':=hx
 obtain ⟨h1,h2,h3,h4,h5,h6,h7,h8,h9,_⟩:=hx'
 refine fn_cut [3,4,7,8] (Γ:=Γ) (fn:=Try.f23) rfl rfl rfl rfl ?_
 repeat (refine sd ?_)
 refine Branch.intro (fun hc=>?_) (fun hc=>?_)
 ·have hc:16 < (ml:Int):=hc
  repeat (refine sd ?_)
  refine Ret.intro (.tup [.nsl,.ff]) [] [] rfl ?_ (Or.inl ⟨by omega,rfl,rfl⟩) rfl ?_ rfl ?_ rfl
  ·exact fc
  ·exact fc
  ·exact fc
 have hc:¬ 16 < (ml:Int):=hc
 refine Cut.intro (σ:=Unit) (fun _=>True) (fun _=>([(1,.iep 0 0 1 (seL x (.isl 0 ml 65 [(Nl * 65,.arr Nl 65 (kpF l))])))],[])) () trivial (Le.ghost [.keep 1] [(1,0)] [] rfl ?_ rfl rfl ?_ rfl ?_ rfl) ?_
 ·exact fc
 ·exact fc
 ·exact fc
 rintro - -
 refine Draw.intro [[],[0],[],[2],[],[4],[],[6],[6,7],[],[9],[9,10],[],[12],[12,13],[6,7,8,12,13,14],[],[16],[6,7,8,12,13,14,15,16,17],[],[19],[],[21],[6,7,8,12,13,14,15,16,17,18,21,22],[],[24],[24,25],[],[27],[27,28],[6,7,8,12,13,14,15,16,17,18,21,22,23,27,28,29],[],[31],[6,7,8,12,13,14,15,16,17,18,21,22,23,27,28,29,30,31,32],[],[34],[],[36],[],[38],[],[40],[6,7,8,12,13,14,15,16,17,18,21,22,23,27,28,29,30,31,32,33,40,41],[0,1,2,3,4,5,6,7,8,9,10,11,12,13,14,15,16,17,18,19,20,21,22,23,24,25,26,27,28,29,30,31,32,33,34,35,36,37,38,39,40,41,42],[0,1,2,3,4,5,6,7,8,9,10,11,12,13,14,15,16,17,18,19,20,21,22,23,24,25,26,27,28,29,30,31,32,33,34,35,36,37,38,39,40,41,42,43]] [0,1,2,3,4,5,6,7,9,10,11,12,13,14,16,17,19,20,21,22,24,25,26,27,28,29,31,32,34,35,36,37,38,39,40,41,8,15,18,23,30,33,42,43,44] (by kernel_rfl) ?_
 repeat (first | (refine Grow.auto rfl rfl ?_) | (refine sd ?_))
 refine Call.intro (fn49 x.hs) [] rfl ?_ rfl ?_ rfl ?_
 ·exact fc
 ·exact fc
 rintro v M' ⟨rfl,rfl⟩
 dsimp only [putT,afterM,newEnt,ren,renA,renS,renL,look,getM,getT,ev,evL,ofVal,cond_true,cond_false,Nat.beq_eq,act,isPar,ownPar,Ent.isOwn]
 repeat (first | (refine Grow.auto rfl rfl ?_) | (refine sd ?_))
 refine Call.intro (fn50 x.sn) [] rfl ?_ rfl ?_ rfl ?_
 ·exact fc
 ·exact fc
 rintro v M' ⟨rfl,rfl⟩
 dsimp only [putT,afterM,newEnt,ren,renA,renS,renL,look,getM,getT,ev,evL,ofVal,cond_true,cond_false,Nat.beq_eq,act,isPar,ownPar,Ent.isOwn]
 repeat (first | (refine Grow.auto rfl rfl ?_) | (refine sd ?_))
 refine Call.intro (fn50 x.pv) [] rfl ?_ rfl ?_ rfl ?_
 ·exact fc
 ·exact fc
 rintro v M' ⟨rfl,rfl⟩
 dsimp only [putT,afterM,newEnt,ren,renA,renS,renL,look,getM,getT,ev,evL,ofVal,cond_true,cond_false,Nat.beq_eq,act,isPar,ownPar,Ent.isOwn]
 repeat (first | (refine Grow.auto rfl rfl ?_) | (refine sd ?_))
 refine Call.intro (fn49 x.hr) [] rfl ?_ rfl ?_ rfl ?_
 ·exact fc
 ·exact fc
 rintro v M' ⟨rfl,rfl⟩
 dsimp only [putT,afterM,newEnt,ren,renA,renS,renL,look,getM,getT,ev,evL,ofVal,cond_true,cond_false,Nat.beq_eq,act,isPar,ownPar,Ent.isOwn]
 repeat (first | (refine Grow.auto rfl rfl ?_) | (refine sd ?_))
 refine Call.intro (fn50 x.rn) [] rfl ?_ rfl ?_ rfl ?_
 ·exact fc
 ·exact fc
 rintro v M' ⟨rfl,rfl⟩
 dsimp only [putT,afterM,newEnt,ren,renA,renS,renL,look,getM,getT,ev,evL,ofVal,cond_true,cond_false,Nat.beq_eq,act,isPar,ownPar,Ent.isOwn]
 repeat (first | (refine Grow.auto rfl rfl ?_) | (refine sd ?_))
 refine Call.intro (fn49 x.fi) [] rfl ?_ rfl ?_ rfl ?_
 ·exact fc
 ·exact fc
 rintro v M' ⟨rfl,rfl⟩
 dsimp only [putT,afterM,newEnt,ren,renA,renS,renL,look,getM,getT,ev,evL,ofVal,cond_true,cond_false,Nat.beq_eq,act,isPar,ownPar,Ent.isOwn]
 repeat (first | (refine Grow.auto rfl rfl ?_) | (refine sd ?_))
 refine Call.intro (fn50 x.oc) [] rfl ?_ rfl ?_ rfl ?_
 ·exact fc
 ·exact fc
 rintro v M' ⟨rfl,rfl⟩
 dsimp only [putT,afterM,newEnt,ren,renA,renS,renL,look,getM,getT,ev,evL,ofVal,cond_true,cond_false,Nat.beq_eq,act,isPar,ownPar,Ent.isOwn]
 repeat (first | (refine Grow.auto rfl rfl ?_) | (refine sd ?_))
 refine Cut.intro (σ:=Unit) (fun _=>True) (fun _=>([(1,.iep 0 0 1 (seL x (.isl 0 ml 65 [(Nl * 65,.arr Nl 65 (kpF l))]))),(4,.sl 204 0 0 16 16)],[(204,.mem true (mulE (16 - 16) 1) [(16 * 1,.arr 16 1 (rwF (pkL x)))])])) () trivial (Le.intro [(204,(56,0,none))] rfl ?_ rfl ?_ rfl) ?_
 ·exact fc
 ·repeat' (first | (show AllP _;first | exact trivial | refine AllP.app ?_ ?_ | refine AllP.appd ?_ ?_ | refine AllP.cons ?_ ?_) | with_reducible rfl | with_reducible assumption | omega | (simp only [rng,Ix.val,addQ_eq,addI,sz3,by3,sz4,by4,sz5,by5,sz22,by22,sz23,by23,sz24,by24,sz25,by25,sz33,by33,sz34,by34,sz35,by35,sz36,by36,sz37,by37,sz80,by80,sz88,by88,sz89,by89,sz115,by115] <;> omega) | (simp only [rng,Ix.val,Int.toNat_natCast,mulE_eq,addQ_eq,addI,Option.getD_none,Option.getD_some,List.length_take,List.length_drop,List.length_append,List.length_set,List.length_replicate,sz3,by3,sz4,by4,sz5,by5,sz22,by22,sz23,by23,sz24,by24,sz25,by25,sz33,by33,sz34,by34,sz35,by35,sz36,by36,sz37,by37,sz80,by80,sz88,by88,sz89,by89,sz115,by115, *] <;> omega) | (simp only [Ix.val];with_reducible assumption) | exact UInt8.toNat_lt _ | (apply Eq.trans;(with_reducible assumption);exact rfl) | exact rfl | exact fun _ _=>rfl)
  all_goals first | exact rwK rfl h1 | exact rwK rfl h2 | exact rwK rfl h3 | exact rwK rfl h4 | exact rwK rfl h5 | exact rwK rfl h6 | exact rwK rfl h7 | exact rwK rfl h8 | exact rwK rfl h9 | exact rwK rfl (flB_length _) | exact rwK rfl (putB_length _ _)
 rintro - -
 have hkx:∀ i,i < ml→KpOK (l.getD i kp0):=fun i hi=>by
  rw [List.getD_eq_getElem?_getD,List.getElem?_eq_getElem (by omega)]
  exact hlO _ (List.getElem_mem _)
 repeat (refine sd ?_)
 refine Loop.intro (σ:=Nat × Nat) (fun s=>s.1 ≤ ml∧16 + s.1 ≤ s.2)
  (fun s=>([(4,.sl 204 0 0 (16 + s.1) s.2),(58,.isl 0 ml 65 [(Nl * 65,.arr Nl 65 (kpF l))]),(59,.i .i64 (ml:Int)),(60,.i .i64 (s.1:Int))],[(204,.mem true (mulE (s.2 - (16 + s.1)) 1) [((16 + s.1) * 1,.arr (16 + s.1) 1 (rwF (pkA x (l.take s.1))))])]))
  (fun s=>ml - s.1) (0,16) ⟨Nat.zero_le _,Nat.le_refl _⟩ ?_ ?_
 ·refine Le.intro [(204,(204,0,none))] rfl ?_ rfl ?_ rfl
  ·exact fc
  ·exact fc
 rintro ⟨i,c⟩ ⟨hi,hc2⟩
 have hi:i ≤ ml:=hi
 have hc2:16 + i ≤ c:=hc2
 refine Branch.intro (fun hb=>?_) (fun hb=>?_)
 ·have hb:(i:Int) < (ml:Int):=hb
  have him:i < ml:=by omega
  obtain ⟨kk,hkk⟩:∃ kk,l.getD i kp0 = kk:=⟨_,rfl⟩
  have hkO:=hkx i him
  rw [hkk] at hkO
  obtain ⟨k1,k2⟩:=hkO
  have hp3:=pkK_length (k:=kk) ⟨k1,k2⟩
  repeat (refine sd ?_)
  refine Cut.intro (σ:=Unit) (fun _=>True) (fun _=>([(4,.sl 204 0 0 (16 + i) c),(6,.iep 0 0 1 [(32,.a8 kk.1),(1,.u16 kk.2.1),(32,.a8 kk.2.2)]),(58,.isl 0 ml 65 [(Nl * 65,.arr Nl 65 (kpF l))]),(59,.i .i64 (ml:Int)),(60,.i .i64 (i:Int))],[(204,.mem true (mulE (c - (16 + i)) 1) [((16 + i) * 1,.arr (16 + i) 1 (rwF (pkA x (l.take i))))])])) () trivial (Le.ghost [.keep 6] [(6,0)] [(204,(204,0,none))] rfl ?_ rfl rfl ?_ rfl ?_ rfl) ?_
  ·exact fc
  ·repeat' (first | (show AllP _;first | exact trivial | refine AllP.app ?_ ?_ | refine AllP.appd ?_ ?_ | refine AllP.cons ?_ ?_) | with_reducible rfl | with_reducible assumption | omega | (simp only [rng,Ix.val,addQ_eq,addI,sz3,by3,sz4,by4,sz5,by5,sz22,by22,sz23,by23,sz24,by24,sz25,by25,sz33,by33,sz34,by34,sz35,by35,sz36,by36,sz37,by37,sz80,by80,sz88,by88,sz89,by89,sz115,by115] <;> omega) | (simp only [rng,Ix.val,Int.toNat_natCast,mulE_eq,addQ_eq,addI,Option.getD_none,Option.getD_some,List.length_take,List.length_drop,List.length_append,List.length_set,List.length_replicate,sz3,by3,sz4,by4,sz5,by5,sz22,by22,sz23,by23,sz24,by24,sz25,by25,sz33,by33,sz34,by34,sz35,by35,sz36,by36,sz37,by37,sz80,by80,sz88,by88,sz89,by89,sz115,by115, *] <;> omega) | (simp only [Ix.val];with_reducible assumption) | exact UInt8.toNat_lt _ | (apply Eq.trans;(with_reducible assumption);exact rfl) | exact rfl | exact fun _ _=>rfl)
   all_goals
    have e:addQ 0 (Int.toNat (i:Int)) = i:=by rw [addQ_eq,Nat.zero_add,Int.toNat_natCast]
    show _ = [(32,SV.a8 (l.getD (addQ 0 (Int.toNat (i:Int))) kp0).1),(1,SV.u16 (l.getD (addQ 0 (Int.toNat (i:Int))) kp0).2.1),(32,SV.a8 (l.getD (addQ 0 (Int.toNat (i:Int))) kp0).2.2)]
    rw [e,hkk]
  ·exact fc
  rintro - -
  refine Draw.intro [[],[0],[],[2],[2,3],[],[5],[0,1,2,3,4,5,6],[0,1,2,3,4,5,6,7],[0,1,2,3,4,5,6,7,8],[0,1,2,3,4,5,6,7,8,9],[0,1,2,3,4,5,6,7,8,9],[0,1,2,3,4,5,6,7,8,9,10],[0,1,2,3,4,5,6,7,8,9,10,11,12]] [0,1,2,3,5,6,4,7,8,9,10,11,12,13] (by kernel_rfl) ?_
  repeat (first | (refine Grow.turn rfl rfl ?_) | (refine sd ?_))
  refine Call.intro (fn50 kk.2.1) [] rfl ?_ rfl ?_ rfl ?_
  ·exact fc
  ·exact fc
  rintro v M' ⟨rfl,rfl⟩
  dsimp only [putT,afterM,newEnt,ren,renA,renS,renL,look,getM,getT,ev,evL,ofVal,cond_true,cond_false,Nat.beq_eq,act,isPar,ownPar,Ent.isOwn]
  repeat (first | (refine Grow.turn rfl rfl ?_) | (refine sd ?_))
  refine Call.intro (fn51 (pkP kk) 3 rfl (by omega) (fun y hy=>by have:=(pkP_ok (k:=kk) ⟨k1,k2⟩).2 y hy;omega)) [(1003,(72,0,none)),(1001,(301,0,none))] rfl ?_ rfl ?_ rfl ?_
  ·exact fc
  ·repeat' (first | (show AllP _;first | exact trivial | refine AllP.app ?_ ?_ | refine AllP.appd ?_ ?_ | refine AllP.cons ?_ ?_) | with_reducible rfl | with_reducible assumption | omega | (simp only [rng,Ix.val,addQ_eq,addI,sz3,by3,sz4,by4,sz5,by5,sz22,by22,sz23,by23,sz24,by24,sz25,by25,sz33,by33,sz34,by34,sz35,by35,sz36,by36,sz37,by37,sz80,by80,sz88,by88,sz89,by89,sz115,by115] <;> omega) | (simp only [rng,Ix.val,Int.toNat_natCast,mulE_eq,addQ_eq,addI,Option.getD_none,Option.getD_some,List.length_take,List.length_drop,List.length_append,List.length_set,List.length_replicate,sz3,by3,sz4,by4,sz5,by5,sz22,by22,sz23,by23,sz24,by24,sz25,by25,sz33,by33,sz34,by34,sz35,by35,sz36,by36,sz37,by37,sz80,by80,sz88,by88,sz89,by89,sz115,by115, *] <;> omega) | (simp only [Ix.val];with_reducible assumption) | exact UInt8.toNat_lt _ | (apply Eq.trans;(with_reducible assumption);exact rfl) | exact rfl | exact fun _ _=>rfl)
   all_goals first | exact rwK rfl k1 | exact rwK rfl k2 | exact rwK rfl (putB_length _ _)
  rintro v M' (⟨hj,_⟩ | ⟨c3,N3,hJ3,hN3,hNc3,rfl,rfl⟩)
  ·exact absurd (pkP_ok ⟨k1,k2⟩) hj
  dsimp only [putT,afterM,newEnt,ren,renA,renS,renL,look,getM,getT,ev,evL,ofVal,cond_true,cond_false,Nat.beq_eq,act,isPar,ownPar,Ent.isOwn]
  repeat (first | (refine Grow.turn rfl rfl ?_) | (refine sd ?_))
  have e73:N3 = 73:=hN3.symm.trans hp3
  subst e73
  have hlA:(pkA x (l.take i)).length = 16 + i:=by rw [pkA_length,List.length_take];omega
  have hrw:=rw_next' hlA hp3
  have hsu:=pkA_succ x (l:=l) (i:=i) (by omega)
  rw [hkk] at hsu
  refine Cut.intro (σ:=Unit) (fun _=>True) (fun _=>([(4,.sl 204 0 0 (16 + i) c),(7,.isl 0 73 1 [(73,.a8 (pkK kk))]),(58,.isl 0 ml 65 [(Nl * 65,.arr Nl 65 (kpF l))]),(59,.i .i64 (ml:Int)),(60,.i .i64 (i:Int))],[(204,.mem true (mulE (c - (16 + i)) 1) [((16 + i) * 1,.arr (16 + i) 1 (rwF (pkA x (l.take i))))])])) () trivial (Le.ghost [.keep 301] [(7,0)] [(204,(204,0,none))] rfl ?_ rfl rfl ?_ rfl ?_ rfl) ?_
  ·exact fc
  ·exact fc
  ·exact fc
  rintro - -
  repeat (refine sd ?_)
  refine fun c' hc'=>?_
  have hc':16 + i + 1 ≤ c':=hc'
  repeat (refine sd ?_)
  refine ⟨(i + 1,c'),⟨by show i + 1 ≤ ml;omega,by show 16 + (i + 1) ≤ c';omega⟩,by show ml - (i + 1) < ml - i;omega,Le.intro [(204,(79,0,none))] rfl ?_ rfl ?_ rfl⟩
  ·exact fc
  ·repeat' (first | (show AllP _;first | exact trivial | refine AllP.app ?_ ?_ | refine AllP.appd ?_ ?_ | refine AllP.cons ?_ ?_) | with_reducible rfl | with_reducible assumption | omega | (simp only [rng,Ix.val,addQ_eq,addI,sz3,by3,sz4,by4,sz5,by5,sz22,by22,sz23,by23,sz24,by24,sz25,by25,sz33,by33,sz34,by34,sz35,by35,sz36,by36,sz37,by37,sz80,by80,sz88,by88,sz89,by89,sz115,by115] <;> omega) | (simp only [rng,Ix.val,Int.toNat_natCast,mulE_eq,addQ_eq,addI,Option.getD_none,Option.getD_some,List.length_take,List.length_drop,List.length_append,List.length_set,List.length_replicate,sz3,by3,sz4,by4,sz5,by5,sz22,by22,sz23,by23,sz24,by24,sz25,by25,sz33,by33,sz34,by34,sz35,by35,sz36,by36,sz37,by37,sz80,by80,sz88,by88,sz89,by89,sz115,by115, *] <;> omega) | (simp only [Ix.val];with_reducible assumption) | exact UInt8.toNat_lt _ | (apply Eq.trans;(with_reducible assumption);exact rfl) | exact rfl | exact fun _ _=>rfl)
   all_goals (show ∀ q,q < 16 + i + 1→rwF (pkA x (l.take (i + 1))) q = _;rw [hsu];exact hrw)
 have hb:¬ (i:Int) < (ml:Int):=hb
 obtain rfl:i = ml:=by omega
 have hJo:=pkA_ok hx (l:=l.take i) (fun k hk=>hlO k (List.mem_of_mem_take hk)) (by rw [List.length_take];omega)
 repeat (refine sd ?_)
 refine Call.intro (fn51 (pkA x (l.take i)) (16 + i) (by rw [pkA_length,List.length_take];omega) (by omega) (fun y hy=>by have:=hJo.2 y hy;omega)) [(1003,(204,0,none)),(1001,(302,0,none))] rfl ?_ rfl ?_ rfl ?_
 ·exact fc
 ·exact fc
 rintro v M' (⟨hj,_⟩ | ⟨c3,N3,hJ3,hN3,hNc3,rfl,rfl⟩)
 ·exact absurd hJo hj
 dsimp only [putT,afterM,newEnt,ren,renA,renS,renL,look,getM,getT,ev,evL,ofVal,cond_true,cond_false,Nat.beq_eq,act,isPar,ownPar,Ent.isOwn]
 repeat (refine sd ?_)
 refine Ret.intro (.tup [.sl 1006 0 0 N3 c3,.tt]) [(1006,.mem true (c3 - N3) [(N3,.a8 (jnB (pkA x (l.take i))))])] [(1006,(302,0,none))] rfl ?_ (Or.inr ⟨by omega,N3,c3,hN3,hNc3,rfl,rfl⟩) rfl ?_ rfl ?_ rfl
 ·exact fc
 ·exact fc
 ·exact fc
end Go.Proofs.Ytpkllkbmoodniaa
