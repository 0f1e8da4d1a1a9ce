/- What the functions of the program compute. No condition. -/
import Derived.Test.YtkhnailodbkmhaaHwTm3ToTm3
set_option linter.unusedSimpArgs false
set_option linter.unusedVariables false
namespace Go.Proofs.Ytkhnailodbkmhaa
open Go Go.Sx
theorem numP_t {b : List UInt8} {most o : Nat} (h : b.getD o 0 ≠ UInt8.ofNat 116) : numP b most o = 0 := by
  rw [numP_eq, if_neg]
  rintro ⟨h1, _, _, h2⟩
  rw [nameB_eq] at h2
  apply h
  have h3 : ((b.drop o).take 32).getD 0 0 = UInt8.ofNat 116 := by rw [h2]; rfl
  rw [← h3, List.getD_eq_getElem?_getD, List.getD_eq_getElem?_getD, List.getElem?_take, if_pos (by decide), List.getElem?_drop, Nat.add_zero]
theorem toI_len (l : List Nat) : (toI l).length = l.length := List.length_map _
set_option maxRecDepth 100000 in
set_option maxHeartbeats 1000000 in
theorem fn37 (b : List UInt8) (n : Nat) (hb : b.length = n) (most : Nat) (hm : most < 4294967296) (hn : n ≤ 1000000) : Sx.Fn Γ.P 37 [.slx 1003 0 0 n, .i .i64 (most : Int)] [(1003, .mem false 0 [(n, .a8 b)])]
    (fun v M => ∃ l c, l = toI (inL b most 0) ∧ l.length ≤ c ∧ v = .sl 1001 0 0 l.length c ∧ M = [(1003, .mem false 0 [(n, .a8 b)]), (1001, .mem true (c - l.length) [(l.length, .ai l)])]) := by
  refine fn_of (Γ := Γ) (fn := Try.f37) rfl rfl rfl rfl ?_
  repeat (refine sd ?_)
  refine Loop.intro (σ := Nat × List Int × Nat × Nat) (fun s => s.1 ≤ n + 40 ∧ s.2.1.length = s.2.2.1 ∧ s.2.2.1 ≤ s.1 ∧ s.2.2.1 ≤ s.2.2.2 ∧ s.2.1 ++ toI (inL b most s.1) = toI (inL b most 0))
    (fun s => ([(0, .slx 1003 0 0 n), (1, .i .i64 (most : Int)), (5, .sl 204 0 0 s.2.2.1 s.2.2.2), (6, .i .i64 (s.1 : Int))], [(1003, .mem false 0 [(n, .a8 b)]), (204, .mem true (s.2.2.2 - s.2.2.1) [(s.2.2.1, .ai s.2.1)])]))
    (fun s => n + 40 - s.1) (0, [], 0, 0) ⟨Nat.zero_le _, rfl, Nat.zero_le _, Nat.zero_le _, rfl⟩ ?_ ?_
  · refine Le.ghost [.own 204 [(0, .ai [])]] [(5, 204)] [] rfl ⟨rfl, rfl, trivial⟩ rfl rfl ?_ rfl ?_ rfl
    · exact fc
    · exact fc
  rintro ⟨o, A, N, c⟩ ⟨ho, hA, hNo, hNc, hI⟩
  have ho : o ≤ n + 40 := ho
  have hA : A.length = N := hA
  have hNc : N ≤ c := hNc
  have hNo : N ≤ o := hNo
  have hI : A ++ toI (inL b most o) = toI (inL b most 0) := hI
  repeat (refine sd ?_)
  refine Branch.intro (fun hc => ?_) (fun hc => ?_)
  · have hc : (o : Int) + 32 ≤ n := hc
    repeat (refine sdn ?_)
    refine Branch.intro (fun hc2 => ?_) (fun hc2 => ?_)
    · have hz : numP b most o = 0 := numP_t fun h => hc2 h
      have hnx := inL_none (by omega) hz
      repeat (refine sdn ?_)
      refine ⟨(o + 1, A, N, c), ⟨by show o + 1 ≤ n + 40; omega, hA, by show N ≤ o + 1; omega, hNc, by show A ++ toI (inL b most (o + 1)) = _; rw [← hnx]; exact hI⟩, by show n + 40 - (o + 1) < n + 40 - o; omega, Le.intro [] rfl ?_ rfl ?_ rfl⟩
      · exact fc
      · exact fc
    · repeat (refine sdn ?_)
      have hC := fn47 b n (n - o) o hb (by omega) (by omega) most hm
      refine Call.intro hC [(1003, (1003, 0, none))] rfl fcn rfl fc rfl ?_
      rintro v M' ⟨rfl, rfl⟩
      dsimp only [putT, afterM, newEnt, ren, renA, renS, renL, look, getM, getT, ev, evL, ofVal, cond_true, cond_false, Nat.beq_eq, act, isPar, ownPar, Ent.isOwn]
      have hle := numP_le b most o
      repeat (refine sdn ?_)
      refine Branch.intro (fun hc3 => ?_) (fun hc3 => ?_)
      · have hc3 : (numP b most o : Int) > 0 := hc3
        have hnx := inL_some (b := b) (most := most) (o := o) (by omega) (by omega)
        repeat (refine sdn ?_)
        refine fun c2 hc2' => ?_
        have hc2' : N + 1 ≤ c2 := hc2'
        repeat (refine sdn ?_)
        refine ⟨(o + 32, A ++ [(numP b most o : Int)], N + 1, c2), ⟨by show o + 32 ≤ n + 40; omega, by show (A ++ [(numP b most o : Int)]).length = N + 1; simp [hA], by show N + 1 ≤ o + 32; omega, hc2', ?_⟩, by show n + 40 - (o + 32) < n + 40 - o; omega, Le.intro [(204, (30, 0, none))] rfl ?_ rfl ?_ rfl⟩
        · show (A ++ [(numP b most o : Int)]) ++ toI (inL b most (o + 32)) = _
          rw [← hI, hnx, List.append_assoc]
          rfl
        · exact fcn
        · exact fcn
      · have hc3 : ¬ (numP b most o : Int) > 0 := hc3
        have hnx := inL_none (b := b) (most := most) (o := o) (by omega) (by omega)
        repeat (refine sdn ?_)
        refine ⟨(o + 1, A, N, c), ⟨by show o + 1 ≤ n + 40; omega, hA, by show N ≤ o + 1; omega, hNc, by show A ++ toI (inL b most (o + 1)) = _; rw [← hnx]; exact hI⟩, by show n + 40 - (o + 1) < n + 40 - o; omega, Le.intro [] rfl ?_ rfl ?_ rfl⟩
        · exact fc
        · exact fc
  · have hc : ¬ (o : Int) + 32 ≤ n := hc
    have hnx := inL_end (b := b) (most := most) (o := o) (by omega)
    have hI2 : A = toI (inL b most 0) := by rw [← hI, hnx]; exact (List.append_nil _).symm
    repeat (refine sd ?_)
    refine Ret.intro (.sl 1001 0 0 N c) [(1003, .mem false 0 [(n, .a8 b)]), (1001, .mem true (c - N) [(N, .ai A)])] [(1001, (204, 0, none))] rfl ?_ ⟨A, c, hI2, by omega, by rw [hA], by rw [hA]⟩ rfl ?_ rfl ?_ rfl
    · exact fc
    · exact fc
    · exact fc
end Go.Proofs.Ytkhnailodbkmhaa
