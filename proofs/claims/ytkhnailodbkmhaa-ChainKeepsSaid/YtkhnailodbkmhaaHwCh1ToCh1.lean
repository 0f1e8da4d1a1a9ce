/- What the functions of the program compute. No condition. -/
import Derived.Test.YtkhnailodbkmhaaHwTm10ToTm10
import Derived.Test.YtkhnailodbkmhaaHwMac3ToMac3
set_option linter.unusedSimpArgs false
set_option linter.unusedVariables false
namespace Go.Proofs.Ytkhnailodbkmhaa
open Go Go.Sx
theorem joins_of {L : List (List UInt8)} {n : Nat} (hn : L.length = n) (hn8 : n ≤ 8) (hL : ∀ x ∈ L, x.length ≤ 1024) : Joins L := ⟨by omega, fun x hx => by have := hL x hx; omega⟩
set_option maxRecDepth 100000 in
set_option maxHeartbeats 1000000 in
theorem fnMixR (lab : UInt8) (L : List (List UInt8)) (n : Nat) (hn : L.length = n) (hn8 : n ≤ 8) (hL : ∀ x ∈ L, x.length ≤ 1024) :
    Sx.Fn Γ.P 26 [.agg [(1, .nilp)], .u8 lab, .slx 1003 0 0 n] [(1003, .mem false 0 (rwS n L))]
      (fun v M => v = .tup [.a8 (hmac [lab] (jnB L)), .tt] ∧ M = [(1003, .mem false 0 (rwS n L))]) := by
  have hJ := joins_of hn hn8 hL
  have hJn := fn31 L n hn (by omega) (fun x h => by have := hL x h; omega)
  unfold rwS rwF at hJn
  unfold rwS rwF
  refine fn_of (Γ := Γ) (fn := Try.f26) rfl rfl rfl rfl ?_
  repeat (refine sd ?_)
  refine Branch.intro (fun hc => ?_) (fun hc => ?_)
  · exact absurd (show (n : Int) > 8 from hc) (by omega)
  repeat (refine sd ?_)
  refine Loop.intro (σ := Nat) (fun s => s ≤ n)
    (fun s => ([(1, .u8 lab), (2, .slx 1003 0 0 n), (3, .ptr 203 0 none), (6, .ptr 206 0 none), (16, .slx 1003 0 0 n), (17, .i .i64 (n : Int)), (18, .i .i64 (s : Int))],
      [(1003, .mem false 0 [(n * 1, .arr n 1 (rwF L))]), (203, .mem true 0 [(1, .nilp)]), (206, .mem true 0 [(32, .a8 (List.replicate 32 0))])]))
    (fun s => n - s) 0 (Nat.zero_le _) ?_ ?_
  · refine Le.intro [(203, (3, 0, none)), (206, (6, 0, none))] rfl ?_ rfl ?_ rfl
    · exact fc
    · exact fc
  rintro i hi
  have hi : i ≤ n := hi
  refine Branch.intro (fun hc => ?_) (fun hc => ?_)
  · have hc : (i : Int) < n := hc
    have hm := hL _ (getD_mem [] (L := L) (i := i) (by omega))
    repeat (refine sdn ?_)
    refine Branch.intro (fun hc2 => ?_) (fun _ => ?_)
    · have hc2 : (1024 : Int) < ((L.getD (addQ 0 (Int.toNat (i : Int))) []).length : Int) := hc2
      rw [addQ_eq, Nat.zero_add, Int.toNat_natCast] at hc2
      exact absurd hc2 (by omega)
    repeat (refine sdn ?_)
    refine ⟨i + 1, by show i + 1 ≤ n; omega, by show n - (i + 1) < n - i; omega, Le.intro [(203, (203, 0, none)), (206, (206, 0, none))] rfl ?_ rfl ?_ rfl⟩
    · exact fcn
    · exact fcn
  repeat (refine sd ?_)
  refine Branch.intro (fun hn => absurd trivial hn) (fun _ => ?_)
  refine Call.intro hJn [(1003, (1003, 0, none)), (1001, (301, 0, none))] rfl fc rfl fc rfl ?_
  rintro v M' (⟨hnj, rfl, rfl⟩ | ⟨c1, N1, hj, hjl, hjc, rfl, rfl⟩)
  · exact absurd hJ hnj
  dsimp only [putT, afterM, newEnt, ren, renA, renS, renL, look, getM, getT, ev, evL, ofVal, cond_true, cond_false, Nat.beq_eq, act, isPar, ownPar, Ent.isOwn]
  repeat (refine sd ?_)
  have hjle := jnB_le hJ.2
  have hml := hmac_length [lab] (jnB L)
  refine Call.intro (fn32 [lab] (jnB L) 1 N1 rfl hjl (by omega) (by omega)) [(1000, (46, 0, none)), (1001, (301, 0, none))] rfl fc rfl fc rfl ?_
  rintro v M' ⟨rfl, rfl⟩
  dsimp only [putT, afterM, newEnt, ren, renA, renS, renL, look, getM, getT, ev, evL, ofVal, cond_true, cond_false, Nat.beq_eq, act, isPar, ownPar, Ent.isOwn]
  repeat (refine sd ?_)
  refine Ret.intro (.tup [.a8 (hmac [lab] (jnB L)), .tt]) [(1003, .mem false 0 [(n * 1, .arr n 1 (rwF L))])] [] rfl ?_ ⟨rfl, rfl⟩ rfl ?_ rfl ?_ rfl
  · exact fc
  · exact fc
  · exact fc
end Go.Proofs.Ytkhnailodbkmhaa
