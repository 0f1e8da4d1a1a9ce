/- What the functions of the program compute. No condition. -/
import Derived.Test.YtlbmkjckbfeejaaHwCh4ToOf
set_option linter.unusedSimpArgs false
set_option linter.unusedVariables false
namespace Go.Proofs.Ytlbmkjckbfeejaa
open Go Go.Sx
set_option maxRecDepth 100000 in
set_option maxHeartbeats 1000000 in
theorem fnMixRB (lab:UInt8) (L:List (List UInt8)) (n:Nat) (hn:L.length = n) (hn1:n ≤ 1000000) (hLs:∀ x ∈ L,x.length ≤ 1000000) (hb:n ≤ 8→∃ j,j < n∧1024 < (L.getD j []).length) :
  Sx.Fn Γ.P 16 [.agg [(1,.nilp)],.u8 lab,.slx 1003 0 0 n] [(1003,.mem false 0 (rwS n L))]
   (fun v M=>v = .tup [.a8 (List.replicate 32 0),.ff]∧M = [(1003,.mem false 0 (rwS n L))]):=by
 unfold rwS rwF
 refine fn_of (Γ:=Γ) (fn:=Try.f16) rfl rfl rfl rfl ?_
 repeat (refine sd ?_)
 refine Branch.intro (fun hc=>?_) (fun hc=>?_)
 ·repeat (refine sd ?_)
  refine Ret.intro (.tup [.a8 (List.replicate 32 0),.ff]) [(1003,.mem false 0 [(n * 1,.arr n 1 (rwF L))])] [] rfl ?_ ⟨rfl,rfl⟩ rfl ?_ rfl ?_ rfl
  ·exact fc
  ·exact fc
  ·exact fc
 have hc:¬ (n:Int) > 8:=hc
 obtain ⟨j0,hj0,hj1⟩:=hb (by omega)
 repeat (refine sd ?_)
 refine Loop.intro (σ:=Nat) (fun s=>s ≤ j0)
  (fun s=>([(1,.u8 lab),(2,.slx 1003 0 0 n),(3,.ptr 203 0 none),(6,.ptr 206 0 none),(16,.slx 1003 0 0 n),(17,.i .i64 (n:Int)),(18,.i .i64 (s:Int))],
   [(1003,.mem false 0 [(n * 1,.arr n 1 (rwF L))]),(203,.mem true 0 [(1,.nilp)]),(206,.mem true 0 [(32,.a8 (List.replicate 32 0))])]))
  (fun s=>n - s) 0 (Nat.zero_le _) ?_ ?_
 ·refine Le.intro [(203,(3,0,none)),(206,(6,0,none))] rfl ?_ rfl ?_ rfl
  ·exact fc
  ·exact fc
 rintro i hi
 have hi:i ≤ j0:=hi
 refine Branch.intro (fun hc=>?_) (fun hc=>?_)
 ·have hc:(i:Int) < n:=hc
  have hm:=hLs _ (getD_mem [] (L:=L) (i:=i) (by omega))
  repeat (refine sdn ?_)
  refine Branch.intro (fun hc2=>?_) (fun hc2=>?_)
  ·repeat (refine sdn ?_)
   refine Ret.intro (.tup [.a8 (List.replicate 32 0),.ff]) [(1003,.mem false 0 [(n * 1,.arr n 1 (rwF L))])] [] rfl ?_ ⟨rfl,rfl⟩ rfl ?_ rfl ?_ rfl
   ·exact fc
   ·exact fc
   ·exact fc
  have hc2:¬ (1024:Int) < ((L.getD (addQ 0 (Int.toNat (i:Int))) []).length:Int):=hc2
  rw [addQ_eq,Nat.zero_add,Int.toNat_natCast] at hc2
  have hne:i ≠ j0:=by rintro rfl;omega
  repeat (refine sdn ?_)
  refine ⟨i + 1,by show i + 1 ≤ j0;omega,by show n - (i + 1) < n - i;omega,Le.intro [(203,(203,0,none)),(206,(206,0,none))] rfl ?_ rfl ?_ rfl⟩
  ·exact fcn
  ·exact fcn
 exact absurd hc (by show ¬ ¬ (i:Int) < n;omega)
set_option maxRecDepth 100000 in
set_option maxHeartbeats 1000000 in
theorem fnMixFB (lab:UInt8) (L:List (List UInt8)) (n:Nat) (hn:L.length = n) (hn1:n ≤ 1000000) (hLs:∀ x ∈ L,x.length ≤ 1000000) (hb:n ≤ 8→∃ j,j < n∧1024 < (L.getD j []).length) :
  Sx.Fn Γ.P 16 [.agg [(1,.ptr 1000 0 none)],.u8 lab,.slx 1003 0 0 n] [(1003,.mem false 0 (rwS n L)),(1000,.dead)]
   (fun v M=>v = .tup [.a8 (List.replicate 32 0),.ff]∧M = [(1003,.mem false 0 (rwS n L)),(1000,.dead)]):=by
 unfold rwS rwF
 refine fn_of (Γ:=Γ) (fn:=Try.f16) rfl rfl rfl rfl ?_
 repeat (refine sd ?_)
 refine Branch.intro (fun hc=>?_) (fun hc=>?_)
 ·repeat (refine sd ?_)
  refine Ret.intro (.tup [.a8 (List.replicate 32 0),.ff]) [(1003,.mem false 0 [(n * 1,.arr n 1 (rwF L))]),(1000,.dead)] [] rfl ?_ ⟨rfl,rfl⟩ rfl ?_ rfl ?_ rfl
  ·exact fc
  ·exact fc
  ·exact fc
 have hc:¬ (n:Int) > 8:=hc
 obtain ⟨j0,hj0,hj1⟩:=hb (by omega)
 repeat (refine sd ?_)
 refine Loop.intro (σ:=Nat) (fun s=>s ≤ j0)
  (fun s=>([(1,.u8 lab),(2,.slx 1003 0 0 n),(3,.ptr 203 0 none),(6,.ptr 206 0 none),(16,.slx 1003 0 0 n),(17,.i .i64 (n:Int)),(18,.i .i64 (s:Int))],
   [(1003,.mem false 0 [(n * 1,.arr n 1 (rwF L))]),(1000,.dead),(203,.mem true 0 [(1,.ptr 1000 0 none)]),(206,.mem true 0 [(32,.a8 (List.replicate 32 0))])]))
  (fun s=>n - s) 0 (Nat.zero_le _) ?_ ?_
 ·refine Le.intro [(203,(3,0,none)),(206,(6,0,none))] rfl ?_ rfl ?_ rfl
  ·exact fc
  ·exact fc
 rintro i hi
 have hi:i ≤ j0:=hi
 refine Branch.intro (fun hc=>?_) (fun hc=>?_)
 ·have hc:(i:Int) < n:=hc
  have hm:=hLs _ (getD_mem [] (L:=L) (i:=i) (by omega))
  repeat (refine sdn ?_)
  refine Branch.intro (fun hc2=>?_) (fun hc2=>?_)
  ·repeat (refine sdn ?_)
   refine Ret.intro (.tup [.a8 (List.replicate 32 0),.ff]) [(1003,.mem false 0 [(n * 1,.arr n 1 (rwF L))]),(1000,.dead)] [] rfl ?_ ⟨rfl,rfl⟩ rfl ?_ rfl ?_ rfl
   ·exact fc
   ·exact fc
   ·exact fc
  have hc2:¬ (1024:Int) < ((L.getD (addQ 0 (Int.toNat (i:Int))) []).length:Int):=hc2
  rw [addQ_eq,Nat.zero_add,Int.toNat_natCast] at hc2
  have hne:i ≠ j0:=by rintro rfl;omega
  repeat (refine sdn ?_)
  refine ⟨i + 1,by show i + 1 ≤ j0;omega,by show n - (i + 1) < n - i;omega,Le.intro [(203,(203,0,none)),(206,(206,0,none))] rfl ?_ rfl ?_ rfl⟩
  ·exact fcn
  ·exact fcn
 exact absurd hc (by show ¬ ¬ (i:Int) < n;omega)
end Go.Proofs.Ytlbmkjckbfeejaa
