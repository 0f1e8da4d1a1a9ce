/- What the functions of the program compute. No condition. -/
import Derived.Test.YtoaaplgjacjlpaaHwTm4ToTm4
set_option linter.unusedSimpArgs false
set_option linter.unusedVariables false
namespace Go.Proofs.Ytoaaplgjacjlpaa
open Go Go.Sx

/-! ref12.In: which names stand in bytes, after the document. -/


set_option maxRecDepth 100000 in
set_option maxHeartbeats 1000000 in
theorem fn20 (b : List UInt8) (n : Nat) (hb : b.length = n) (most : Nat) (hm : most < 4294967296) (hn : n ≤ 1000000) : Sx.Fn Γ.P 20 [.slx 1003 0 0 n, .i .i64 (most : Int)] [(1003, .mem false 0 [(n, .a8 b)])]
    (fun v M => ∃ l c, l = toI (inL b most 0) ∧ l.length ≤ c ∧ v = .sl 1001 0 0 l.length c ∧ M = [(1003, .mem false 0 [(n, .a8 b)]), (1001, .mem true (c - l.length) [(l.length, .ai l)])]) := by
  have hby : (Γ.ty 5).bytes = 1 := rfl
  have hby3 : (Γ.ty 3).bytes = 8 := rfl
  refine fn_of (Γ := Γ) (fn := Try.f20) rfl rfl rfl rfl ?_
  repeat (refine sd ?_)
  refine Loop.intro (σ := Nat × List Int × Nat × Nat) (fun s => s.1 ≤ n + 40 ∧ s.2.1.length = s.2.2.1 ∧ s.2.2.1 ≤ s.1 ∧ s.2.2.1 ≤ s.2.2.2 ∧ s.2.1 ++ toI (inL b most s.1) = toI (inL b most 0))
    (fun s => ([(0, .slx 1003 0 0 n), (1, .i .i64 (most : Int)), (5, .sl 204 0 0 s.2.2.1 s.2.2.2), (6, .i .i64 (s.1 : Int))], [(1003, .mem false 0 [(n, .a8 b)]), (204, .mem true (s.2.2.2 - s.2.2.1) [(s.2.2.1, .ai s.2.1)])]))
    (fun s => n + 40 - s.1) (0, [], 0, 0) ⟨Nat.zero_le _, rfl, Nat.zero_le _, Nat.zero_le _, rfl⟩ ?_ ?_
  · refine Le.ghost [.own 204 [(0, .ai [])]] [(5, 204)] [] rfl ⟨rfl, rfl, trivial⟩ rfl rfl ?_ rfl ?_ rfl
    · exact fc
    · exact fc
  rintro ⟨o, A, N, c⟩ ⟨ho, hA, hNo, hNc, hI⟩
  have ho : o ≤ n + 40 := ho
  have hA : A.length = N := hA
  have hNc : N ≤ c := hNc
  have hNo : N ≤ o := hNo
  have hI : A ++ toI (inL b most o) = toI (inL b most 0) := hI
  repeat (refine sd ?_)
  refine Branch.intro (fun hc => ?_) (fun hc => ?_)
  · have hc : (n : Int) - o ≥ 32 := hc
    have e4 : ((o : Int) + 4).toNat = o + 4 := by omega
    have e5 : ((o : Int) + 5).toNat = o + 5 := by omega
    have e6 : ((o : Int) + 6).toNat = o + 6 := by omega
    have e7 : ((o : Int) + 7).toNat = o + 7 := by omega
    have l4 := (b.getD (o + 4) 0).toNat_lt
    have l5 := (b.getD (o + 5) 0).toNat_lt
    have l6 := (b.getD (o + 6) 0).toNat_lt
    have l7 := (b.getD (o + 7) 0).toNat_lt
    have hlt := nmK_lt b o
    have hN := fn14 (nmK b o) hlt
    have hnl := nameB_length (nmK b o)
    have hq := numP_eq b most o
    refine Draw.intro [[], [], [1], [0, 1, 2], [0, 1, 2, 3], [0, 1, 2, 3, 4], [0, 1, 2, 3, 4, 5], [], [], [8], [7, 8, 9], [7, 8, 9, 10], [7, 8, 9, 10, 11], [7, 8, 9, 10, 11, 12], [0, 1, 2, 3, 4, 5, 6, 7, 8, 9, 10, 11, 12, 13], [], [], [16], [15, 16, 17], [15, 16, 17, 18], [15, 16, 17, 18, 19], [15, 16, 17, 18, 19, 20], [0, 1, 2, 3, 4, 5, 6, 7, 8, 9, 10, 11, 12, 13, 14, 15, 16, 17, 18, 19, 20, 21], [], [], [24], [23, 24, 25], [23, 24, 25, 26], [23, 24, 25, 26, 27], [0, 1, 2, 3, 4, 5, 6, 7, 8, 9, 10, 11, 12, 13, 14, 15, 16, 17, 18, 19, 20, 21, 22, 23, 24, 25, 26, 27, 28], [0, 1, 2, 3, 4, 5, 6, 7, 8, 9, 10, 11, 12, 13, 14, 15, 16, 17, 18, 19, 20, 21, 22, 23, 24, 25, 26, 27, 28, 29]] [0, 1, 2, 3, 4, 5, 6, 7, 8, 9, 10, 11, 12, 13, 14, 15, 16, 17, 18, 19, 20, 21, 22, 23, 24, 25, 26, 27, 28, 29, 30] (by kernel_rfl) ?_
    repeat (refine Side.intro (by repeat' (first | (show AllP _; first | exact trivial | refine AllP.app ?_ ?_ | refine AllP.appd ?_ ?_ | refine AllP.cons ?_ ?_) | with_reducible rfl | with_reducible assumption | omega | (simp only [Nat.zero_add, Int.toNat_natCast, e4, e5, e6, e7, rng, Ix.val, addQ_eq, addI, sz3, sz5, sz9, sz33, sz34, sz42] <;> omega) | (simp only [Nat.zero_add, Int.toNat_natCast, e4, e5, e6, e7, rng, Ix.val, Int.toNat_natCast, mulE_eq, addQ_eq, addI, Option.getD_none, Option.getD_some, List.length_take, List.length_drop, List.length_append, List.length_set, List.length_replicate, sz3, sz5, sz9, sz33, sz34, sz42, *] <;> omega) | (simp only [Ix.val]; with_reducible assumption) | exact UInt8.toNat_lt _ | (apply Eq.trans; (with_reducible assumption); exact rfl) | exact rfl | exact fun _ _ => rfl)) ?_)
    have hk : ((b.getD (o + 4) 0).toNat : Int) * 2 ^ 24 + ((b.getD (o + 5) 0).toNat : Int) * 2 ^ 16 + ((b.getD (o + 6) 0).toNat : Int) * 2 ^ 8 + ((b.getD (o + 7) 0).toNat : Int) = (nmK b o : Int) := by
      unfold nmK
      omega
    simp only [Ix.val, addQ_eq, Nat.zero_add, e4, e5, e6, e7]
    rw [hk]
    refine Call.intro hN [] rfl rfl rfl trivial rfl ?_
    rintro v M' ⟨rfl, rfl⟩
    dsimp only [putT, afterM, newEnt, ren, renA, renS, renL, look, getM, getT, ev, evL, ofVal, cond_true, cond_false, Nat.beq_eq, act, isPar, ownPar, Ent.isOwn]
    repeat (refine sd ?_)
    by_cases h1 : 1 ≤ ((nmK b o : Nat) : Int)
    · by_cases h2 : ((nmK b o : Nat) : Int) ≤ (most : Int)
      · have h3 : (1 ≤ ((nmK b o : Nat) : Int) ∧ ((nmK b o : Nat) : Int) ≤ (most : Int) ∨ ¬ 1 ≤ ((nmK b o : Nat) : Int) ∧ False) := Or.inl ⟨h1, h2⟩
        refine Draw.intro [[], [0], [0, 1], [0, 1, 2], [0, 1, 2], [0, 1, 2, 3, 4], [0, 1, 2, 3, 4, 5], [0, 1, 2, 3, 4, 5, 6], [0, 1, 2, 3, 4, 5, 6, 7], [0, 1, 2, 3, 4, 5, 6, 7], [0, 1, 2, 3, 4, 5, 6, 7], [0, 1, 2, 3, 4, 5, 6, 7, 10], [0, 1, 2, 3, 4, 5, 6, 7, 8, 9, 10, 11], [0, 1, 2, 3, 4, 5, 6, 7, 8, 9, 10, 11, 12], [0, 1, 2, 3, 4, 5, 6, 7], [0, 1, 2, 3, 4, 5, 6, 7, 14], [0, 1, 2, 3, 4, 5, 6, 7, 8, 9, 10, 11, 12, 13, 14, 15], [0, 1, 2, 3, 4, 5, 6, 7, 8, 9, 10, 11, 12, 13, 14, 15, 16]] [0, 1, 2, 3, 4, 5, 6, 7, 8, 9, 10, 11, 12, 13, 14, 15, 16, 17] (by kernel_rfl) ?_
        repeat (first | (refine Branch.intro (fun _ => ?_) (fun hn => absurd rfl hn)) | (refine Branch.intro (fun hn => (by with_reducible exact False.elim hn)) (fun _ => ?_)) | (refine Branch.intro (fun _ => ?_) (fun hn => (by with_reducible exact absurd h1 hn))) | (refine Branch.intro (fun hn => (by with_reducible exact absurd hn h1)) (fun _ => ?_)) | (refine Branch.intro (fun _ => ?_) (fun hn => (by with_reducible exact absurd h3 hn))) | (refine Branch.intro (fun hn => (by with_reducible exact absurd hn h3)) (fun _ => ?_)) | (refine sdn ?_))
        have htk : ((nameB (nmK b o)).drop ((none : Option Nat).getD 0)).take 32 = nameB (nmK b o) := List.take_of_length_le (by show (nameB (nmK b o)).length ≤ 32; omega)
        have hdr : o * (Γ.ty 5).size + 0 = o := Nat.mul_one o
        have e32 : ((o : Int) + 32).toNat - o = 32 := by omega
        refine Branch.intro (fun h4 => ?_) (fun h4 => ?_)
        · have h4 : _ ∧ _ = _ ∨ _ := h4
          simp only [Ix.val, addQ_eq, Nat.zero_add, Int.toNat_natCast, e32, htk, hdr] at h4
          have h5 : (b.drop o).take 32 = nameB (nmK b o) := by
            rcases h4 with h4 | h4
            · exact h4.2
            · exact absurd h3 h4.1
          have hz : numP b most o = nmK b o := by
            rw [hq, if_pos]
            exact ⟨by omega, by omega, by omega, h5⟩
          have hnx := inL_some (b := b) (most := most) (o := o) (by omega) (by omega)
          rw [hz] at hnx
          repeat (refine sdn ?_)
          refine fun c2 hc2' => ?_
          have hc2' : N + 1 ≤ c2 := hc2'
          repeat (refine sdn ?_)
          refine ⟨(o + 32, A ++ [(nmK b o : Int)], N + 1, c2), ⟨by show o + 32 ≤ n + 40; omega, by show (A ++ [(nmK b o : Int)]).length = N + 1; simp [hA], by show N + 1 ≤ o + 32; omega, hc2', ?_⟩, by show n + 40 - (o + 32) < n + 40 - o; omega, Le.intro [(204, (67, 0, none))] rfl ?_ rfl ?_ rfl⟩
          · show (A ++ [(nmK b o : Int)]) ++ toI (inL b most (o + 32)) = _
            rw [← hI, hnx, List.append_assoc]
            rfl
          · exact fcn
          · exact fcn
        · have h4 : ¬ (_ ∧ _ = _ ∨ _) := h4
          simp only [Ix.val, addQ_eq, Nat.zero_add, Int.toNat_natCast, e32, htk, hdr] at h4
          have hz : numP b most o = 0 := by
            rw [hq, if_neg]
            rintro ⟨_, _, _, h5⟩
            exact h4 (Or.inl ⟨h3, h5⟩)
          repeat (refine sdn ?_)
          have hnx := inL_none (b := b) (most := most) (o := o) (by omega) hz
          refine ⟨(o + 1, A, N, c), ⟨by show o + 1 ≤ n + 40; omega, hA, by show N ≤ o + 1; omega, hNc, by show A ++ toI (inL b most (o + 1)) = _; rw [← hnx]; exact hI⟩, by show n + 40 - (o + 1) < n + 40 - o; omega, Le.intro [] rfl ?_ rfl ?_ rfl⟩
          · exact fc
          · exact fc
      · have h3 : ¬ (1 ≤ ((nmK b o : Nat) : Int) ∧ ((nmK b o : Nat) : Int) ≤ (most : Int) ∨ ¬ 1 ≤ ((nmK b o : Nat) : Int) ∧ False) := fun h => h.elim (fun h => h2 h.2) (fun h => h.2)
        have hz : numP b most o = 0 := by rw [hq, if_neg (fun h => by omega)]
        refine Draw.intro [[], [0], [0, 1], [0, 1, 2], [0, 1, 2], [0, 1, 2, 3, 4], [0, 1, 2, 3, 4, 5], [0, 1, 2, 3, 4, 5, 6], [0, 1, 2, 3, 4, 5, 6, 7], [0, 1, 2, 3, 4, 5, 6, 7], [0, 1, 2, 3, 4, 5, 6, 7], [0, 1, 2, 3, 4, 5, 6, 7, 10], [0, 1, 2, 3, 4, 5, 6, 7, 8, 9, 10, 11], [0, 1, 2, 3, 4, 5, 6, 7, 8, 9, 10, 11, 12], [0, 1, 2, 3, 4, 5, 6, 7], [0, 1, 2, 3, 4, 5, 6, 7, 14], [0, 1, 2, 3, 4, 5, 6, 7, 8, 9, 10, 11, 12, 13, 14, 15], [0, 1, 2, 3, 4, 5, 6, 7, 8, 9, 10, 11, 12, 13, 14, 15, 16]] [0, 1, 2, 3, 4, 5, 6, 7, 8, 9, 10, 11, 12, 13, 14, 15, 16, 17] (by kernel_rfl) ?_
        repeat (first | (refine Branch.intro (fun _ => ?_) (fun hn => absurd rfl hn)) | (refine Branch.intro (fun hn => (by with_reducible exact False.elim hn)) (fun _ => ?_)) | (refine Branch.intro (fun _ => ?_) (fun hn => (by with_reducible exact absurd h1 hn))) | (refine Branch.intro (fun hn => (by with_reducible exact absurd hn h1)) (fun _ => ?_)) | (refine Branch.intro (fun _ => ?_) (fun hn => (by with_reducible exact absurd h3 hn))) | (refine Branch.intro (fun hn => (by with_reducible exact absurd hn h3)) (fun _ => ?_)) | (refine sd ?_))
        repeat (refine sdn ?_)
        have hnx := inL_none (b := b) (most := most) (o := o) (by omega) hz
        refine ⟨(o + 1, A, N, c), ⟨by show o + 1 ≤ n + 40; omega, hA, by show N ≤ o + 1; omega, hNc, by show A ++ toI (inL b most (o + 1)) = _; rw [← hnx]; exact hI⟩, by show n + 40 - (o + 1) < n + 40 - o; omega, Le.intro [] rfl ?_ rfl ?_ rfl⟩
        · exact fc
        · exact fc
    · have h3 : ¬ (1 ≤ ((nmK b o : Nat) : Int) ∧ ((nmK b o : Nat) : Int) ≤ (most : Int) ∨ ¬ 1 ≤ ((nmK b o : Nat) : Int) ∧ False) := fun h => h.elim (fun h => h1 h.1) (fun h => h.2)
      have hz : numP b most o = 0 := by rw [hq, if_neg (fun h => by omega)]
      refine Draw.intro [[], [0], [0, 1], [0, 1, 2], [0, 1, 2], [0, 1, 2, 3, 4], [0, 1, 2, 3, 4, 5], [0, 1, 2, 3, 4, 5, 6], [0, 1, 2, 3, 4, 5, 6, 7], [0, 1, 2, 3, 4, 5, 6, 7], [0, 1, 2, 3, 4, 5, 6, 7], [0, 1, 2, 3, 4, 5, 6, 7, 10], [0, 1, 2, 3, 4, 5, 6, 7, 8, 9, 10, 11], [0, 1, 2, 3, 4, 5, 6, 7, 8, 9, 10, 11, 12], [0, 1, 2, 3, 4, 5, 6, 7], [0, 1, 2, 3, 4, 5, 6, 7, 14], [0, 1, 2, 3, 4, 5, 6, 7, 8, 9, 10, 11, 12, 13, 14, 15], [0, 1, 2, 3, 4, 5, 6, 7, 8, 9, 10, 11, 12, 13, 14, 15, 16]] [0, 1, 2, 3, 4, 5, 6, 7, 8, 9, 10, 11, 12, 13, 14, 15, 16, 17] (by kernel_rfl) ?_
      repeat (first | (refine Branch.intro (fun _ => ?_) (fun hn => absurd rfl hn)) | (refine Branch.intro (fun hn => (by with_reducible exact False.elim hn)) (fun _ => ?_)) | (refine Branch.intro (fun _ => ?_) (fun hn => (by with_reducible exact absurd h1 hn))) | (refine Branch.intro (fun hn => (by with_reducible exact absurd hn h1)) (fun _ => ?_)) | (refine Branch.intro (fun _ => ?_) (fun hn => (by with_reducible exact absurd h3 hn))) | (refine Branch.intro (fun hn => (by with_reducible exact absurd hn h3)) (fun _ => ?_)) | (refine sd ?_))
      repeat (refine sdn ?_)
      have hnx := inL_none (b := b) (most := most) (o := o) (by omega) hz
      refine ⟨(o + 1, A, N, c), ⟨by show o + 1 ≤ n + 40; omega, hA, by show N ≤ o + 1; omega, hNc, by show A ++ toI (inL b most (o + 1)) = _; rw [← hnx]; exact hI⟩, by show n + 40 - (o + 1) < n + 40 - o; omega, Le.intro [] rfl ?_ rfl ?_ rfl⟩
      · exact fc
      · exact fc
  · have hc : ¬ (n : Int) - o ≥ 32 := hc
    have hnx := inL_end (b := b) (most := most) (o := o) (by omega)
    have hI2 : A = toI (inL b most 0) := by rw [← hI, hnx]; exact (List.append_nil _).symm
    repeat (refine sd ?_)
    refine Ret.intro (.sl 1001 0 0 N c) [(1003, .mem false 0 [(n, .a8 b)]), (1001, .mem true (c - N) [(N, .ai A)])] [(1001, (204, 0, none))] rfl ?_ ⟨A, c, hI2, by omega, by rw [hA], by rw [hA]⟩ rfl ?_ rfl ?_ rfl
    · exact fc
    · exact fc
    · exact fc

end Go.Proofs.Ytoaaplgjacjlpaa
