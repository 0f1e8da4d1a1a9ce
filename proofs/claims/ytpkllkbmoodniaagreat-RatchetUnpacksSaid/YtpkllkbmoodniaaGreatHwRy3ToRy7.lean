/- What the functions of the program compute. No condition. -/
import Derived.Test.YtpkllkbmoodniaaGreatHwRa8ToRy2
set_option linter.unusedSimpArgs false
set_option linter.unusedVariables false
namespace Go.Proofs.YtpkllkbmoodniaaGreat
open Go Go.Sx
def nxG (L:List (List UInt8)) (k size:Nat):Prop:=k < L.length∧(L.getD k []).length = size
instance (L:List (List UInt8)) (k size:Nat):Decidable (nxG L k size):=inferInstanceAs (Decidable (_∧_))
def nxX (L:List (List UInt8)) (k size:Nat):List UInt8:=if nxG L k size then L.getD k [] else List.replicate size 0
def nxS (L:List (List UInt8)) (k size:Nat):Nat:=if nxG L k size then k + 1 else k
theorem nxX_len (L:List (List UInt8)) (k size:Nat):(nxX L k size).length = size:=by
 unfold nxX;split
 ·rename_i h;exact h.2
 ·simp
set_option maxRecDepth 100000 in
set_option maxHeartbeats 1000000 in
theorem fn92 (L:List (List UInt8)) (n c k size:Nat) (hL:L.length = n) (hn:n ≤ 1000) (hnc:n ≤ c) (hk:k ≤ n) (hs:size ≤ 1000) (bad:Prop) :
  Sx.Fn Γ.P 92 [.ptr 1000 0 none,.i .i64 (size:Int)] [(1000,.mem true 0 [(1,.sl 1001 0 k (n - k) (c - k)),(1,.bool bad)]),(1001,.mem true (mulE (c - n) 1) [(n * 1,.arr n 1 (rwF L))])]
  (fun v M=>v = .isl 0 size 1 [(size,.a8 (nxX L k size))]∧M = [(1000,.mem true 0 [(1,.sl 1001 0 (nxS L k size) (n - nxS L k size) (c - nxS L k size)),(1,.bool (bad ∨ ¬ nxG L k size))]),(1001,.mem true (mulE (c - n) 1) [(n * 1,.arr n 1 (rwF L))])]):=by
 refine fn_of (Γ:=Γ) (fn:=Tryz.f92) rfl rfl rfl rfl ?_
 repeat (refine sd ?_)
 refine Branch.intro (fun hc=>?_) (fun hc=>?_)
 ·have hc:((n - k:Nat):Int) = 0:=hc
  have hG:¬ nxG L k size:=fun h=>by have:=h.1;omega
  have eX:nxX L k size = List.replicate size 0:=by unfold nxX;exact if_neg hG
  have eS:nxS L k size = k:=by unfold nxS;exact if_neg hG
  rw [eX,eS]
  repeat (first | (refine Branch.intro (fun h=>False.elim (by revert h;first | (simp [hc];done) | fail)) (fun _=>?_)) | (refine Branch.intro (fun _=>?_) (fun h=>False.elim (by revert h;first | (simp [hc];done) | fail))) | (refine sd ?_))
  refine Ret.ghost [.keep 27] [(4,0)] rfl ?_ rfl (.isl 0 size 1 [(size,.a8 (List.replicate size 0))]) [(1000,.mem true 0 [(1,.sl 1001 0 k (n - k) (c - k)),(1,.bool (bad ∨ ¬ nxG L k size))]),(1001,.mem true (mulE (c - n) 1) [(n * 1,.arr n 1 (rwF L))])] [] rfl ?_ ⟨rfl,rfl⟩ rfl ?_ rfl ?_ rfl
  ·exact fc
  ·exact fc
  ·exact fc
  ·repeat' (first | (show AllP _;first | exact trivial | refine AllP.app ?_ ?_ | refine AllP.appd ?_ ?_ | refine AllP.cons ?_ ?_) | exact fd | fail)
   all_goals first | (show bad ∨ ¬ nxG L k size;exact Or.inr hG) | exact ⟨fun _=>trivial,fun _=>Or.inr hG⟩ | exact ⟨fun _=>Or.inr hG,fun _=>trivial⟩
 ·have hc:¬ ((n - k:Nat):Int) = 0:=hc
  have hkn:k < n:=by omega
  repeat (refine sdn ?_)
  refine Branch.intro (fun hc2=>?_) (fun hc2=>?_)
  ·have hc2:¬ ((L.getD (addQ k 0) []).length:Int) = (size:Int):=hc2
   rw [addQ_eq,Nat.add_zero] at hc2
   have hG:¬ nxG L k size:=fun h=>hc2 (by rw [h.2])
   have eX:nxX L k size = List.replicate size 0:=by unfold nxX;exact if_neg hG
   have eS:nxS L k size = k:=by unfold nxS;exact if_neg hG
   rw [eX,eS]
   repeat (refine sd ?_)
   refine Ret.ghost [.keep 27] [(4,0)] rfl ?_ rfl (.isl 0 size 1 [(size,.a8 (List.replicate size 0))]) [(1000,.mem true 0 [(1,.sl 1001 0 k (n - k) (c - k)),(1,.bool (bad ∨ ¬ nxG L k size))]),(1001,.mem true (mulE (c - n) 1) [(n * 1,.arr n 1 (rwF L))])] [] rfl ?_ ⟨rfl,rfl⟩ rfl ?_ rfl ?_ rfl
   ·exact fc
   ·exact fc
   ·exact fc
   ·repeat' (first | (show AllP _;first | exact trivial | refine AllP.app ?_ ?_ | refine AllP.appd ?_ ?_ | refine AllP.cons ?_ ?_) | exact fd | fail)
    all_goals first | (show bad ∨ ¬ nxG L k size;exact Or.inr hG) | exact ⟨fun _=>trivial,fun _=>Or.inr hG⟩ | exact ⟨fun _=>Or.inr hG,fun _=>trivial⟩
  ·have hc2:¬ ¬ ((L.getD (addQ k 0) []).length:Int) = (size:Int):=hc2
   rw [addQ_eq,Nat.add_zero] at hc2
   have hsz:(L.getD k []).length = size:=by omega
   have hG:nxG L k size:=⟨by omega,hsz⟩
   have eX:nxX L k size = L.getD k []:=by unfold nxX;exact if_pos hG
   have eS:nxS L k size = k + 1:=by unfold nxS;exact if_pos hG
   rw [eX,eS]
   repeat (refine sdn ?_)
   refine Ret.intro (.isl 0 size 1 [(size,.a8 (L.getD k []))]) [(1000,.mem true 0 [(1,.sl 1001 0 (k + 1) (n - (k + 1)) (c - (k + 1))),(1,.bool (bad ∨ ¬ nxG L k size))]),(1001,.mem true (mulE (c - n) 1) [(n * 1,.arr n 1 (rwF L))])] [] rfl ?_ ⟨rfl,rfl⟩ rfl ?_ rfl ?_ rfl
   ·exact fc
   ·repeat' (first | (show AllP _;first | exact trivial | refine AllP.app ?_ ?_ | refine AllP.appd ?_ ?_ | refine AllP.cons ?_ ?_) | exact fd | fail)
    all_goals simp only [Ix.val,addQ_eq,Nat.add_zero,Int.toNat_natCast,hsz,Nat.mul_one]
   ·repeat' (first | (show AllP _;first | exact trivial | refine AllP.app ?_ ?_ | refine AllP.appd ?_ ?_ | refine AllP.cons ?_ ?_) | exact fd | fail)
    all_goals first | exact ⟨fun h=>h.resolve_right (fun g=>g hG),fun h=>Or.inl h⟩ | exact ⟨fun h=>Or.inl h,fun h=>h.resolve_right (fun g=>g hG)⟩
end Go.Proofs.YtpkllkbmoodniaaGreat
namespace Go.Proofs.YtpkllkbmoodniaaGreat
open Go Go.Sx
set_option maxRecDepth 100000 in
set_option maxHeartbeats 1000000 in
theorem fn50 (L:List (List UInt8)) (n c k:Nat) (hL:L.length = n) (hn:n ≤ 1000) (hnc:n ≤ c) (hk:k ≤ n) (bad:Prop) :
  Sx.Fn Γ.P 50 [.ptr 1000 0 none] [(1000,.mem true 0 [(1,.sl 1001 0 k (n - k) (c - k)),(1,.bool bad)]),(1001,.mem true (mulE (c - n) 1) [(n * 1,.arr n 1 (rwF L))])]
  (fun v M=>v = .a8 (nxX L k 32)∧M = [(1000,.mem true 0 [(1,.sl 1001 0 (nxS L k 32) (n - nxS L k 32) (c - nxS L k 32)),(1,.bool (bad ∨ ¬ nxG L k 32))]),(1001,.mem true (mulE (c - n) 1) [(n * 1,.arr n 1 (rwF L))])]):=by
 have hN:=fn92 L n c k 32 hL hn hnc hk (by omega) bad
 have hXl:=nxX_len L k 32
 have hK:=fn91 (nxX L k 32) 32 hXl (by omega)
 have e:keyO (nxX L k 32) = nxX L k 32:=by unfold keyO;exact if_pos hXl
 rw [e] at hK
 refine fn_of (Γ:=Γ) (fn:=Tryz.f50) rfl rfl rfl rfl ?_
 repeat (refine sd ?_)
 refine Call.intro hN [(1000,(1000,0,none)),(1001,(1001,0,none))] rfl ?_ rfl ?_ rfl ?_
 ·exact fc
 ·exact fc
 rintro v M' ⟨rfl,rfl⟩
 dsimp only [putT,afterM,newEnt,ren,renA,renS,renL,look,getM,getT,ev,evL,ofVal,cond_true,cond_false,Nat.beq_eq,act,isPar,ownPar,Ent.isOwn]
 repeat (refine sd ?_)
 refine Call.intro hK [] rfl ?_ rfl ?_ rfl ?_
 ·exact fc
 ·exact fc
 rintro v M' ⟨rfl,rfl⟩
 dsimp only [putT,afterM,newEnt,ren,renA,renS,renL,look,getM,getT,ev,evL,ofVal,cond_true,cond_false,Nat.beq_eq,act,isPar,ownPar,Ent.isOwn]
 repeat (refine sd ?_)
 refine Ret.intro (.a8 (nxX L k 32)) [(1000,.mem true 0 [(1,.sl 1001 0 (nxS L k 32) (n - nxS L k 32) (c - nxS L k 32)),(1,.bool (bad ∨ ¬ nxG L k 32))]),(1001,.mem true (mulE (c - n) 1) [(n * 1,.arr n 1 (rwF L))])] [] rfl ?_ ⟨rfl,rfl⟩ rfl ?_ rfl ?_ rfl
 ·exact fc
 ·exact fc
 ·exact fc
end Go.Proofs.YtpkllkbmoodniaaGreat
namespace Go.Proofs.YtpkllkbmoodniaaGreat
open Go Go.Sx
set_option maxRecDepth 100000 in
set_option maxHeartbeats 1000000 in
theorem fn52 (L:List (List UInt8)) (n c k:Nat) (hL:L.length = n) (hn:n ≤ 1000) (hnc:n ≤ c) (hk:k ≤ n) (bad:Prop) :
  Sx.Fn Γ.P 52 [.ptr 1000 0 none] [(1000,.mem true 0 [(1,.sl 1001 0 k (n - k) (c - k)),(1,.bool bad)]),(1001,.mem true (mulE (c - n) 1) [(n * 1,.arr n 1 (rwF L))])]
  (fun v M=>v = .u16 (gK (nxX L k 2) 0 2).toUInt16∧M = [(1000,.mem true 0 [(1,.sl 1001 0 (nxS L k 2) (n - nxS L k 2) (c - nxS L k 2)),(1,.bool (bad ∨ ¬ nxG L k 2))]),(1001,.mem true (mulE (c - n) 1) [(n * 1,.arr n 1 (rwF L))])]):=by
 have hN:=fn92 L n c k 2 hL hn hnc hk (by omega) bad
 have hXl:=nxX_len L k 2
 have hK:=fnGetP (nxX L k 2) 2 hXl (by omega) (by omega)
 obtain ⟨X,hX⟩:∃ X,nxX L k 2 = X:=⟨_,rfl⟩
 rw [hX] at hN hK ⊢
 obtain ⟨g,hg⟩:∃ g,gK X 0 2 = g:=⟨_,rfl⟩
 rw [hg] at hK ⊢
 refine fn_of (Γ:=Γ) (fn:=Tryz.f52) rfl rfl rfl rfl ?_
 repeat (refine sd ?_)
 refine Call.intro hN [(1000,(1000,0,none)),(1001,(1001,0,none))] rfl ?_ rfl ?_ rfl ?_
 ·exact fc
 ·exact fc
 rintro v M' ⟨rfl,rfl⟩
 dsimp only [putT,afterM,newEnt,ren,renA,renS,renL,look,getM,getT,ev,evL,ofVal,cond_true,cond_false,Nat.beq_eq,act,isPar,ownPar,Ent.isOwn]
 repeat (refine sd ?_)
 refine Call.intro hK [] rfl ?_ rfl ?_ rfl ?_
 ·exact fc
 ·exact fc
 rintro v M' ⟨rfl,rfl⟩
 dsimp only [putT,afterM,newEnt,ren,renA,renS,renL,look,getM,getT,ev,evL,ofVal,cond_true,cond_false,Nat.beq_eq,act,isPar,ownPar,Ent.isOwn]
 repeat (refine sd ?_)
 refine Ret.intro (.u16 g.toUInt16) [(1000,.mem true 0 [(1,.sl 1001 0 (nxS L k 2) (n - nxS L k 2) (c - nxS L k 2)),(1,.bool (bad ∨ ¬ nxG L k 2))]),(1001,.mem true (mulE (c - n) 1) [(n * 1,.arr n 1 (rwF L))])] [] rfl ?_ ⟨rfl,rfl⟩ rfl ?_ rfl ?_ rfl
 ·exact fc
 ·exact fc
 ·exact fc
set_option maxRecDepth 100000 in
set_option maxHeartbeats 1000000 in
theorem fn51 (L:List (List UInt8)) (n c k:Nat) (hL:L.length = n) (hn:n ≤ 1000) (hnc:n ≤ c) (hk:k ≤ n) (bad:Prop) :
  Sx.Fn Γ.P 51 [.ptr 1000 0 none] [(1000,.mem true 0 [(1,.sl 1001 0 k (n - k) (c - k)),(1,.bool bad)]),(1001,.mem true (mulE (c - n) 1) [(n * 1,.arr n 1 (rwF L))])]
  (fun v M=>v = .bool ((nxX L k 1).getD 0 0 = 1)∧∃ b:Prop,(b ↔ (bad ∨ ¬ nxG L k 1) ∨ (nxX L k 1).getD 0 0 > 1)∧M = [(1000,.mem true 0 [(1,.sl 1001 0 (nxS L k 1) (n - nxS L k 1) (c - nxS L k 1)),(1,.bool b)]),(1001,.mem true (mulE (c - n) 1) [(n * 1,.arr n 1 (rwF L))])]):=by
 have hN:=fn92 L n c k 1 hL hn hnc hk (by omega) bad
 have hXl:=nxX_len L k 1
 obtain ⟨X,hX⟩:∃ X,nxX L k 1 = X:=⟨_,rfl⟩
 rw [hX] at hN hXl ⊢
 obtain ⟨B,hB⟩:∃ B,(bad ∨ ¬ nxG L k 1) = B:=⟨_,rfl⟩
 rw [hB] at hN ⊢
 refine fn_of (Γ:=Γ) (fn:=Tryz.f51) rfl rfl rfl rfl ?_
 repeat (refine sd ?_)
 refine Call.intro hN [(1000,(1000,0,none)),(1001,(1001,0,none))] rfl ?_ rfl ?_ rfl ?_
 ·exact fc
 ·exact fc
 rintro v M' ⟨rfl,rfl⟩
 dsimp only [putT,afterM,newEnt,ren,renA,renS,renL,look,getM,getT,ev,evL,ofVal,cond_true,cond_false,Nat.beq_eq,act,isPar,ownPar,Ent.isOwn]
 repeat (refine sd ?_)
 refine Branch.intro (fun hb=>?_) (fun hb=>?_)
 ·repeat (refine sd ?_)
  refine Ret.intro (.bool (X.getD 0 0 = 1)) [(1000,.mem true 0 [(1,.sl 1001 0 (nxS L k 1) (n - nxS L k 1) (c - nxS L k 1)),(1,.bool (B ∨ X.getD 0 0 > 1))]),(1001,.mem true (mulE (c - n) 1) [(n * 1,.arr n 1 (rwF L))])] [] rfl ?_ ⟨rfl,_,Iff.rfl,rfl⟩ rfl ?_ rfl ?_ rfl
  ·exact fc
  ·repeat' (first | (show AllP _;first | exact trivial | refine AllP.app ?_ ?_ | refine AllP.appd ?_ ?_ | refine AllP.cons ?_ ?_) | exact fd | fail)
   all_goals exact Iff.rfl
  ·repeat' (first | (show AllP _;first | exact trivial | refine AllP.app ?_ ?_ | refine AllP.appd ?_ ?_ | refine AllP.cons ?_ ?_) | exact fd | fail)
   all_goals first | (exact ⟨fun _=>trivial,fun _=>Or.inl hb⟩) | (simp [hb];done) | (simp [hb];exact Iff.rfl)
 ·repeat (refine sd ?_)
  refine Ret.intro (.bool (X.getD 0 0 = 1)) [(1000,.mem true 0 [(1,.sl 1001 0 (nxS L k 1) (n - nxS L k 1) (c - nxS L k 1)),(1,.bool (B ∨ X.getD 0 0 > 1))]),(1001,.mem true (mulE (c - n) 1) [(n * 1,.arr n 1 (rwF L))])] [] rfl ?_ ⟨rfl,_,Iff.rfl,rfl⟩ rfl ?_ rfl ?_ rfl
  ·exact fc
  ·repeat' (first | (show AllP _;first | exact trivial | refine AllP.app ?_ ?_ | refine AllP.appd ?_ ?_ | refine AllP.cons ?_ ?_) | exact fd | fail)
   all_goals exact Iff.rfl
  ·repeat' (first | (show AllP _;first | exact trivial | refine AllP.app ?_ ?_ | refine AllP.appd ?_ ?_ | refine AllP.cons ?_ ?_) | exact fd | fail)
   all_goals first | (exact ⟨fun _=>trivial,fun _=>Or.inl hb⟩) | (simp [hb];done) | (simp [hb];exact Iff.rfl)
end Go.Proofs.YtpkllkbmoodniaaGreat
namespace Go.Proofs.YtpkllkbmoodniaaGreat
open Go Go.Sx
def flB (p:Bool):List UInt8:=if p = true then [UInt8.ofNat 1] else [UInt8.ofNat 0]
end Go.Proofs.YtpkllkbmoodniaaGreat
namespace Go.Proofs.YtpkllkbmoodniaaGreat
open Go Go.Sx
end Go.Proofs.YtpkllkbmoodniaaGreat
