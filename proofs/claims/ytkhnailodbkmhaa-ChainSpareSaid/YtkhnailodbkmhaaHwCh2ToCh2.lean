/- What the functions of the program compute. No condition. -/
import Derived.Test.YtkhnailodbkmhaaHwTm10ToTm10
set_option linter.unusedSimpArgs false
set_option linter.unusedVariables false
namespace Go.Proofs.Ytkhnailodbkmhaa
open Go Go.Sx
set_option maxRecDepth 100000 in
set_option maxHeartbeats 1000000 in
theorem fnMixF (T : List Te) (N c : Nat) (hT : T.length = N) (hN : N ≤ 60000) (hNc : N ≤ c) (hTv : ∀ x ∈ T, Valid x.1 x.2) (lab : UInt8) (L : List (List UInt8)) (n : Nat) (hn : L.length = n) (hn8 : n ≤ 8) (hL : ∀ x ∈ L, x.length ≤ 1024) :
    Sx.Fn Γ.P 26 [.agg [(1, .ptr 1000 0 none)], .u8 lab, .slx 1003 0 0 n] (MT N c T 1001 n L)
    (fun v M => ∃ n' c', (mkT T (7, [lab] :: L)).1.length = n' ∧ n' ≤ c' ∧ v = .tup [.a8 (kyB (mkT T (7, [lab] :: L)).2), .bool ((mkT T (7, [lab] :: L)).2 ≠ 0)] ∧ M = (1001, .dead) :: MT n' c' (mkT T (7, [lab] :: L)).1 1005 n L) := by
  have hMk := fn30 T N c hT hN hNc hTv 7 ([lab] :: L) (1 + n) (by simp [hn]; omega) (by omega) (fun x h => by
    rcases List.mem_cons.1 h with rfl | h
    · simp
    · have := hL x h; omega)
  unfold MT rwS at hMk
  unfold MT rwS rwF
  refine fn_of (Γ := Γ) (fn := Try.f26) rfl rfl rfl rfl ?_
  repeat (refine sd ?_)
  refine Branch.intro (fun hc => ?_) (fun hc => ?_)
  · exact absurd (show (n : Int) > 8 from hc) (by omega)
  repeat (refine sd ?_)
  refine Loop.intro (σ := Nat) (fun s => s ≤ n)
    (fun s => ([(1, .u8 lab), (2, .slx 1003 0 0 n), (3, .ptr 203 0 none), (6, .ptr 206 0 none), (16, .slx 1003 0 0 n), (17, .i .i64 (n : Int)), (18, .i .i64 (s : Int))],
      [(1003, .mem false 0 [(n * 1, .arr n 1 (rwF L))]), (203, .mem true 0 [(1, .ptr 1000 0 none)]), (206, .mem true 0 [(32, .a8 (List.replicate 32 0))]),
       (1000, .mem true 0 [(1, .sl 1001 0 0 N c), (1, .mp 1002)]), (1001, .mem true (mulE (c - N) 3) [(N * 3, .arr N 3 (ttF T))]), (1002, .map (.si (mpL T)))]))
    (fun s => n - s) 0 (Nat.zero_le _) ?_ ?_
  · refine Le.intro [(203, (3, 0, none)), (206, (6, 0, none))] rfl ?_ rfl ?_ rfl
    · exact fc
    · exact fc
  rintro i hi
  have hi : i ≤ n := hi
  refine Branch.intro (fun hc => ?_) (fun hc => ?_)
  · have hc : (i : Int) < n := hc
    have hm := hL _ (getD_mem [] (L := L) (i := i) (by omega))
    repeat (refine sdn ?_)
    refine Branch.intro (fun hc2 => ?_) (fun _ => ?_)
    · have hc2 : (1024 : Int) < ((L.getD (addQ 0 (Int.toNat (i : Int))) []).length : Int) := hc2
      rw [addQ_eq, Nat.zero_add, Int.toNat_natCast] at hc2
      exact absurd hc2 (by omega)
    repeat (refine sdn ?_)
    refine ⟨i + 1, by show i + 1 ≤ n; omega, by show n - (i + 1) < n - i; omega, Le.intro [(203, (203, 0, none)), (206, (206, 0, none))] rfl ?_ rfl ?_ rfl⟩
    · exact fcn
    · exact fcn
  repeat (refine sd ?_)
  refine Branch.intro (fun _ => ?_) (fun hn => ?_)
  · repeat (refine sd ?_)
    refine Draw.intro [[], [0], [], [2], [2, 3], [], [2, 3, 4, 5], [0, 1, 2, 3, 4, 5, 6], [0, 1, 2, 3, 4, 5, 6, 7], [0, 1, 2, 3, 4, 5, 6, 7], [0, 1, 2, 3, 4, 5, 6, 7, 8, 9], [0, 1, 2, 3, 4, 5, 6, 7, 8, 9, 10]] [0, 1, 2, 3, 4, 5, 6, 7, 8, 9, 10, 11] (by kernel_rfl) ?_
    repeat (refine sd ?_)
    refine fun c2 hc2 => ?_
    repeat (refine sd ?_)
    refine Grow.intro [(36, .mem true (c2 - (1 + n)) [(1 + n, .arr (1 + n) 1 (appF 1 (rowF [[(1, .isl 0 1 1 [(1, .a8 [lab])])]]) (shiftF 0 (rwF L))))]), (34, .dead), (33, .dead)] rfl rfl ?_
    repeat (refine sd ?_)
    have hc2 : 1 + n ≤ c2 := hc2
    have hrow : ∀ q, q < 1 + n → rwF ([lab] :: L) q = appF 1 (rowF [[(1, .isl 0 1 1 [(1, .a8 [lab])])]]) (shiftF 0 (rwF L)) q := by
      intro q hq
      match q with
      | 0 => rfl
      | q + 1 => rw [appF_ge (by omega), shiftF_eq, show 0 + (q + 1 - 1) = q by omega]; rfl
    refine Call.intro hMk [(1000, (1000, 0, none)), (1001, (1001, 0, none)), (1002, (1002, 0, none)), (1003, (36, 0, none)), (1005, (305, 0, none))] rfl fc rfl ?_ rfl ?_
    · exact fc
    rintro v M' ⟨n', c', hn', hnc', rfl, rfl⟩
    have hkyl := kyB_length (mkT T (7, [lab] :: L)).2
    dsimp only [putT, afterM, newEnt, ren, renA, renS, renL, look, getM, getT, ev, evL, ofVal, cond_true, cond_false, Nat.beq_eq, act, isPar, ownPar, Ent.isOwn]
    repeat (refine sd ?_)
    refine Ret.intro (.tup [.a8 (kyB (mkT T (7, [lab] :: L)).2), .bool ((mkT T (7, [lab] :: L)).2 ≠ 0)]) ((1001, .dead) :: MT n' c' (mkT T (7, [lab] :: L)).1 1005 n L) [(1005, (305, 0, none))] rfl ?_ ⟨n', c', hn', hnc', rfl, rfl⟩ rfl ?_ rfl ?_ rfl
    · exact fc
    · exact fc
    · exact fc
  · exact absurd hn (by simp)
end Go.Proofs.Ytkhnailodbkmhaa
