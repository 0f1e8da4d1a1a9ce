/- What the functions of the program compute. No condition. -/
import Derived.Test.YtoaaplgjacjlpaaHwTm12ToTm12
set_option linter.unusedSimpArgs false
set_option linter.unusedVariables false
namespace Go.Proofs.Ytoaaplgjacjlpaa
open Go Go.Sx

/-! What is known: term.New, Known.all, Known.made, Known.Has, ref12.All. -/

/-- Rows of truths. -/
def bF (K : Nat → Prop) (q : Nat) : List (Nat × SV) := [(1, .bool (K q))]
def AllK (K : Nat → Prop) (l : List Nat) : Prop := ∀ z ∈ l, K z
/-- The names that stand in a term's part. -/
@[irreducible] def nmJ (q : Nat) (L : List (List UInt8)) (j : Nat) : List Nat := inL (L.getD j []) q 0
theorem nmJ_eq (q : Nat) (L : List (List UInt8)) (j : Nat) : nmJ q L j = inL (L.getD j []) q 0 := by unfold nmJ; rfl
def mdP (K : Nat → Prop) (q : Nat) (kd : Int) (L : List (List UInt8)) : Prop := kd ≠ 1 ∧ ((kd = 3 ∧ ∃ j, j < L.length ∧ AllK K (nmJ q L j)) ∨ ∀ j, j < L.length → AllK K (nmJ q L j))

theorem inF_le (b : List UInt8) (most : Nat) : ∀ (f o : Nat), ∀ z ∈ inF b most f o, 1 ≤ z ∧ z ≤ most
  | 0, _, z, h => by simp [inF] at h
  | f + 1, o, z, h => by
    simp only [inF] at h
    split at h
    · cases h
    · split at h
      · exact inF_le b most f _ z h
      · rcases List.mem_cons.1 h with h | h
        · subst h; exact ⟨by omega, numP_le b most o⟩
        · exact inF_le b most f _ z h
theorem inL_le {b : List UInt8} {most o z : Nat} (h : z ∈ inL b most o) : 1 ≤ z ∧ z ≤ most := by unfold inL at h; exact inF_le b most _ _ z h
theorem inF_len (b : List UInt8) (most : Nat) : ∀ (f o : Nat), (inF b most f o).length ≤ f
  | 0, _ => Nat.le_refl _
  | f + 1, o => by
    simp only [inF]
    split
    · exact Nat.zero_le _
    · split
      · exact Nat.le_succ_of_le (inF_len b most f _)
      · exact Nat.succ_le_succ (inF_len b most f _)
theorem inL_len (b : List UInt8) (most o : Nat) : (inL b most o).length ≤ b.length + 1 := by
  unfold inL
  have := inF_len b most (b.length + 1 - o) o
  omega
theorem toI_getD (l : List Nat) {i : Nat} (h : i < l.length) : (toI l).getD i 0 = ((l.getD i 0 : Nat) : Int) := by
  unfold toI
  simp only [List.getD_eq_getElem?_getD, List.getElem?_map, List.getElem?_eq_getElem h]
  rfl

set_option maxRecDepth 100000 in
theorem fn9 : Sx.Fn Γ.P 9 [] [] (fun v M => v = .ptr 1000 0 none ∧ M = [(1000, .mem true 0 [(1, .nsl), (1, .mp 1002)]), (1002, .map (.si []))]) := by
  refine fn_of (Γ := Γ) (fn := Try.f9) rfl rfl rfl rfl ?_
  repeat (refine sd ?_)
  refine Ret.intro (.ptr 1000 0 none) [(1000, .mem true 0 [(1, .nsl), (1, .mp 1002)]), (1002, .map (.si []))] [(1000, (3, 0, none)), (1002, (1, 0, none))] rfl ?_ ⟨rfl, rfl⟩ rfl ?_ rfl ?_ rfl
  · exact fc
  · exact fc
  · exact fc

set_option maxRecDepth 100000 in
theorem fn27 (l : List Nat) (m : Nat) (hl : l.length = m) (hm6 : m ≤ 1000001) (N : Nat) (hN : ∀ z ∈ l, z ≤ N) (hN6 : N ≤ 1000000) (K : Nat → Prop) :
    Sx.Fn Γ.P 27 [.ptr 1000 0 none, .slx 1003 0 0 m] [(1000, .mem false 0 [(1, .ptr 1002 0 none), (1, .i .i64 (N : Int)), (1, .slx 1001 0 0 (N + 1))]), (1002, .dead), (1001, .mem false 0 [(N + 1, .arr (N + 1) 1 (bF K))]), (1003, .mem false 0 [(m, .ai (toI l))])]
    (fun v M => v = .bool (AllK K l) ∧ M = [(1000, .mem false 0 [(1, .ptr 1002 0 none), (1, .i .i64 (N : Int)), (1, .slx 1001 0 0 (N + 1))]), (1002, .dead), (1001, .mem false 0 [(N + 1, .arr (N + 1) 1 (bF K))]), (1003, .mem false 0 [(m, .ai (toI l))])]) := by
  refine fn_of (Γ := Γ) (fn := Try.f27) rfl rfl rfl rfl ?_
  repeat (refine sd ?_)
  have htl := toI_len l
  refine Loop.intro (σ := Nat) (fun i => i ≤ m ∧ ∀ j, j < i → K (l.getD j 0))
    (fun i => ([(0, .ptr 1000 0 none), (7, .slx 1003 0 0 m), (8, .i .i64 (m : Int)), (9, .i .i64 (i : Int))],
      [(1000, .mem false 0 [(1, .ptr 1002 0 none), (1, .i .i64 (N : Int)), (1, .slx 1001 0 0 (N + 1))]), (1002, .dead), (1001, .mem false 0 [(N + 1, .arr (N + 1) 1 (bF K))]), (1003, .mem false 0 [(m, .ai (toI l))])]))
    (fun i => m - i) 0 ⟨Nat.zero_le _, fun j hj => absurd hj (Nat.not_lt_zero _)⟩ ?_ ?_
  · refine Le.intro [] rfl ?_ rfl ?_ rfl
    · exact fc
    · exact fc
  rintro i ⟨hi, hI⟩
  refine Branch.intro (fun hc => ?_) (fun hc => ?_)
  · have hc : (i : Int) < m := hc
    have hg := toI_getD l (i := i) (by omega)
    have hzN : l.getD i 0 ≤ N := hN _ (getD_mem 0 (by omega))
    obtain ⟨z, hz⟩ : ∃ z, l.getD i 0 = z := ⟨_, rfl⟩
    rw [hz] at hg hzN
    repeat (refine Side.intro (by repeat' (first | (show AllP _; first | exact trivial | refine AllP.app ?_ ?_ | refine AllP.appd ?_ ?_ | refine AllP.cons ?_ ?_) | with_reducible rfl | with_reducible assumption | omega | (simp only [Nat.zero_add, Int.toNat_natCast, hg, rng, Ix.val, addQ_eq, addI, sz3, sz4, sz5, sz33, sz34, sz38, sz40, sz42, sz68, sz69, sz73, sz74, sz76, sz77, sz78] <;> omega) | (simp only [Nat.zero_add, Int.toNat_natCast, hg, rng, Ix.val, Int.toNat_natCast, mulE_eq, addQ_eq, addI, Option.getD_none, Option.getD_some, List.length_take, List.length_drop, List.length_append, List.length_set, List.length_replicate, sz3, sz4, sz5, sz33, sz34, sz38, sz40, sz42, sz68, sz69, sz73, sz74, sz76, sz77, sz78, *] <;> omega) | (simp only [Ix.val]; with_reducible assumption) | exact UInt8.toNat_lt _ | (apply Eq.trans; (with_reducible assumption); exact rfl) | exact rfl | exact fun _ _ => rfl)) ?_)
    refine Branch.intro (fun hc2 => ?_) (fun hc2 => ?_)
    · have hc2 : ¬ K (addQ 0 ((toI l).getD (addQ 0 (Int.toNat (i : Int))) 0).toNat) := hc2
      rw [addQ_eq, addQ_eq, Nat.zero_add, Nat.zero_add, Int.toNat_natCast, hg, Int.toNat_natCast] at hc2
      repeat (refine sd ?_)
      refine Ret.intro (.bool (AllK K l)) [(1000, .mem false 0 [(1, .ptr 1002 0 none), (1, .i .i64 (N : Int)), (1, .slx 1001 0 0 (N + 1))]), (1002, .dead), (1001, .mem false 0 [(N + 1, .arr (N + 1) 1 (bF K))]), (1003, .mem false 0 [(m, .ai (toI l))])] [] rfl ?_ ⟨rfl, rfl⟩ rfl ?_ rfl ?_ rfl
      · exact fc
      · have hn : ¬ AllK K l := fun h => hc2 (by rw [← hz]; exact h _ (getD_mem 0 (by omega)))
        exact fc
      · exact fc
    · have hc4 : ¬ ¬ K (addQ 0 ((toI l).getD (addQ 0 (Int.toNat (i : Int))) 0).toNat) := hc2
      rw [addQ_eq, addQ_eq, Nat.zero_add, Nat.zero_add, Int.toNat_natCast, hg, Int.toNat_natCast] at hc4
      have hKz := Classical.byContradiction hc4
      repeat (refine sd ?_)
      refine ⟨i + 1, ⟨by omega, fun j hj => ?_⟩, by omega, Le.intro [] rfl ?_ rfl ?_ rfl⟩
      · rcases Nat.lt_or_ge j i with h | h
        · exact hI j h
        · obtain rfl : j = i := by omega
          rw [hz]; exact hKz
      · exact fc
      · exact fc
  · have hc : ¬ (i : Int) < m := hc
    have hn : AllK K l := by
      intro z hz
      obtain ⟨j, hj, rfl⟩ := List.getElem_of_mem hz
      have := hI j (by omega)
      rwa [List.getD_eq_getElem?_getD, List.getElem?_eq_getElem hj] at this
    repeat (refine sd ?_)
    refine Ret.intro (.bool (AllK K l)) [(1000, .mem false 0 [(1, .ptr 1002 0 none), (1, .i .i64 (N : Int)), (1, .slx 1001 0 0 (N + 1))]), (1002, .dead), (1001, .mem false 0 [(N + 1, .arr (N + 1) 1 (bF K))]), (1003, .mem false 0 [(m, .ai (toI l))])] [] rfl ?_ ⟨rfl, rfl⟩ rfl ?_ rfl ?_ rfl
    · exact fc
    · exact fc
    · exact fc

set_option maxRecDepth 100000 in
theorem fn28 (b : List UInt8) (n : Nat) (hb : b.length = n) (hn : n ≤ 1000000) (most N : Nat) (hm : most ≤ N) (hN6 : N ≤ 1000000) (K : Nat → Prop) :
    Sx.Fn Γ.P 28 [.slx 1001 0 0 (N + 1), .slx 1003 0 0 n, .i .i64 (most : Int)] [(1001, .mem false 0 [(N + 1, .arr (N + 1) 1 (bF K))]), (1003, .mem false 0 [(n, .a8 b)])]
    (fun v M => v = .bool (AllK K (inL b most 0)) ∧ M = [(1001, .mem false 0 [(N + 1, .arr (N + 1) 1 (bF K))]), (1003, .mem false 0 [(n, .a8 b)])]) := by
  have hI := fn20 b n hb most (by omega) hn
  obtain ⟨l, hl⟩ : ∃ l, inL b most 0 = l := ⟨_, rfl⟩
  have hl6 : l.length ≤ 1000001 := by rw [← hl]; have := inL_len b most 0; omega
  have hle : ∀ z ∈ l, z ≤ N := fun z hz => by rw [← hl] at hz; have := (inL_le hz).2; omega
  rw [hl] at hI ⊢
  refine fn_of (Γ := Γ) (fn := Try.f28) rfl rfl rfl rfl ?_
  repeat (refine sd ?_)
  refine Call.intro hI [(1003, (1003, 0, none)), (1001, (301, 0, none))] rfl fc rfl fc rfl ?_
  rintro v M' ⟨l2, c, rfl, hlc, rfl, rfl⟩
  have htl := toI_len l
  obtain ⟨m, hm2⟩ : ∃ m, (toI l).length = m := ⟨_, rfl⟩
  rw [hm2] at htl hlc ⊢
  dsimp only [putT, afterM, newEnt, ren, renA, renS, renL, look, getM, getT, ev, evL, ofVal, cond_true, cond_false, Nat.beq_eq, act, isPar, ownPar, Ent.isOwn]
  repeat (refine sd ?_)
  refine Loop.intro (σ := Nat) (fun i => i ≤ m ∧ ∀ j, j < i → K (l.getD j 0))
    (fun i => ([(0, .slx 1001 0 0 (N + 1)), (7, .sl 301 0 0 m c), (8, .i .i64 (i : Int))],
      [(1001, .mem false 0 [(N + 1, .arr (N + 1) 1 (bF K))]), (1003, .mem false 0 [(n, .a8 b)]), (301, .mem true (c - m) [(m, .ai (toI l))])]))
    (fun i => m - i) 0 ⟨Nat.zero_le _, fun j hj => absurd hj (Nat.not_lt_zero _)⟩ ?_ ?_
  · refine Le.intro [] rfl ?_ rfl ?_ rfl
    · exact fc
    · exact fc
  rintro i ⟨hi, hI⟩
  refine Branch.intro (fun hc => ?_) (fun hc => ?_)
  · have hc : (i : Int) < m := hc
    have hg := toI_getD l (i := i) (by omega)
    have hzN : l.getD i 0 ≤ N := hle _ (getD_mem 0 (by omega))
    obtain ⟨z, hz⟩ : ∃ z, l.getD i 0 = z := ⟨_, rfl⟩
    rw [hz] at hg hzN
    repeat (refine Side.intro (by repeat' (first | (show AllP _; first | exact trivial | refine AllP.app ?_ ?_ | refine AllP.appd ?_ ?_ | refine AllP.cons ?_ ?_) | with_reducible rfl | with_reducible assumption | omega | (simp only [Nat.zero_add, Int.toNat_natCast, hg, rng, Ix.val, addQ_eq, addI, sz3, sz4, sz5, sz33, sz34, sz38, sz40, sz42, sz68, sz69, sz73, sz74, sz76, sz77, sz78] <;> omega) | (simp only [Nat.zero_add, Int.toNat_natCast, hg, rng, Ix.val, Int.toNat_natCast, mulE_eq, addQ_eq, addI, Option.getD_none, Option.getD_some, List.length_take, List.length_drop, List.length_append, List.length_set, List.length_replicate, sz3, sz4, sz5, sz33, sz34, sz38, sz40, sz42, sz68, sz69, sz73, sz74, sz76, sz77, sz78, *] <;> omega) | (simp only [Ix.val]; with_reducible assumption) | exact UInt8.toNat_lt _ | (apply Eq.trans; (with_reducible assumption); exact rfl) | exact rfl | exact fun _ _ => rfl)) ?_)
    refine Branch.intro (fun hc2 => ?_) (fun hc2 => ?_)
    · have hc2 : ¬ K (addQ 0 ((toI l).getD (addQ 0 (Int.toNat (i : Int))) 0).toNat) := hc2
      rw [addQ_eq, addQ_eq, Nat.zero_add, Nat.zero_add, Int.toNat_natCast, hg, Int.toNat_natCast] at hc2
      repeat (refine sd ?_)
      refine Ret.intro (.bool (AllK K l)) [(1001, .mem false 0 [(N + 1, .arr (N + 1) 1 (bF K))]), (1003, .mem false 0 [(n, .a8 b)])] [] rfl ?_ ⟨rfl, rfl⟩ rfl ?_ rfl ?_ rfl
      · exact fc
      · have hn : ¬ AllK K l := fun h => hc2 (by rw [← hz]; exact h _ (getD_mem 0 (by omega)))
        exact fc
      · exact fc
    · have hc4 : ¬ ¬ K (addQ 0 ((toI l).getD (addQ 0 (Int.toNat (i : Int))) 0).toNat) := hc2
      rw [addQ_eq, addQ_eq, Nat.zero_add, Nat.zero_add, Int.toNat_natCast, hg, Int.toNat_natCast] at hc4
      have hKz := Classical.byContradiction hc4
      repeat (refine sd ?_)
      refine ⟨i + 1, ⟨by omega, fun j hj => ?_⟩, by omega, Le.intro [] rfl ?_ rfl ?_ rfl⟩
      · rcases Nat.lt_or_ge j i with h | h
        · exact hI j h
        · obtain rfl : j = i := by omega
          rw [hz]; exact hKz
      · exact fc
      · exact fc
  · have hc : ¬ (i : Int) < m := hc
    have hn : AllK K l := by
      intro z hz
      obtain ⟨j, hj, rfl⟩ := List.getElem_of_mem hz
      have := hI j (by omega)
      rwa [List.getD_eq_getElem?_getD, List.getElem?_eq_getElem hj] at this
    repeat (refine sd ?_)
    refine Ret.intro (.bool (AllK K l)) [(1001, .mem false 0 [(N + 1, .arr (N + 1) 1 (bF K))]), (1003, .mem false 0 [(n, .a8 b)])] [] rfl ?_ ⟨rfl, rfl⟩ rfl ?_ rfl ?_ rfl
    · exact fc
    · exact fc
    · exact fc

set_option maxRecDepth 100000 in
theorem fn15 (b : List UInt8) (n : Nat) (hb : b.length = n) (hn : n ≤ 1000000) (N : Nat) (hN6 : N ≤ 1000000) (K : Nat → Prop) :
    Sx.Fn Γ.P 15 [.ptr 1000 0 none, .slx 1003 0 0 n] [(1000, .mem false 0 [(1, .ptr 1002 0 none), (1, .i .i64 (N : Int)), (1, .slx 1001 0 0 (N + 1))]), (1002, .dead), (1001, .mem false 0 [(N + 1, .arr (N + 1) 1 (bF K))]), (1003, .mem false 0 [(n, .a8 b)])]
    (fun v M => v = .bool (AllK K (inL b N 0)) ∧ M = [(1000, .mem false 0 [(1, .ptr 1002 0 none), (1, .i .i64 (N : Int)), (1, .slx 1001 0 0 (N + 1))]), (1002, .dead), (1001, .mem false 0 [(N + 1, .arr (N + 1) 1 (bF K))]), (1003, .mem false 0 [(n, .a8 b)])]) := by
  have hI := fn25 b n hb N (by omega) hn
  obtain ⟨l, hl⟩ : ∃ l, inL b N 0 = l := ⟨_, rfl⟩
  have hl6 : l.length ≤ 1000001 := by rw [← hl]; have := inL_len b N 0; omega
  have hle : ∀ z ∈ l, z ≤ N := fun z hz => by rw [← hl] at hz; exact (inL_le hz).2
  rw [hl] at hI ⊢
  have hA := fn27 l l.length rfl hl6 N hle hN6 K
  refine fn_of (Γ := Γ) (fn := Try.f15) rfl rfl rfl rfl ?_
  repeat (refine sd ?_)
  refine Call.intro hI [(1003, (1003, 0, none)), (1001, (301, 0, none))] rfl fc rfl fc rfl ?_
  rintro v M' ⟨l2, c, rfl, hlc, rfl, rfl⟩
  have htl := toI_len l
  dsimp only [putT, afterM, newEnt, ren, renA, renS, renL, look, getM, getT, ev, evL, ofVal, cond_true, cond_false, Nat.beq_eq, act, isPar, ownPar, Ent.isOwn]
  repeat (refine sd ?_)
  refine Call.intro hA [(1000, (1000, 0, none)), (1001, (1001, 0, none)), (1002, (1002, 0, none)), (1003, (301, 0, none))] rfl fc rfl fc rfl ?_
  rintro v M' ⟨rfl, rfl⟩
  dsimp only [putT, afterM, newEnt, ren, renA, renS, renL, look, getM, getT, ev, evL, ofVal, cond_true, cond_false, Nat.beq_eq, act, isPar, ownPar, Ent.isOwn]
  repeat (refine sd ?_)
  refine Ret.intro (.bool (AllK K l)) [(1000, .mem false 0 [(1, .ptr 1002 0 none), (1, .i .i64 (N : Int)), (1, .slx 1001 0 0 (N + 1))]), (1002, .dead), (1001, .mem false 0 [(N + 1, .arr (N + 1) 1 (bF K))]), (1003, .mem false 0 [(n, .a8 b)])] [] rfl ?_ ⟨rfl, rfl⟩ rfl ?_ rfl ?_ rfl
  · exact fc
  · exact fc
  · exact fc


set_option maxRecDepth 100000 in
theorem fn26 (kd : Int) (q : Nat) (L : List (List UInt8)) (hL : L.length ≤ 64) (hLs : ∀ x ∈ L, x.length ≤ 1000000) (N : Nat) (hqN : q ≤ N) (hN6 : N ≤ 1000000) (K : Nat → Prop) :
    Sx.Fn Γ.P 26 [.ptr 1000 0 none, .agg [(1, .i .i64 kd), (1, prS L), (1, nmS q L)]] [(1000, .mem false 0 [(1, .ptr 1002 0 none), (1, .i .i64 (N : Int)), (1, .slx 1001 0 0 (N + 1))]), (1002, .dead), (1001, .mem false 0 [(N + 1, .arr (N + 1) 1 (bF K))])]
    (fun v M => v = .bool (mdP K q kd L) ∧ M = [(1000, .mem false 0 [(1, .ptr 1002 0 none), (1, .i .i64 (N : Int)), (1, .slx 1001 0 0 (N + 1))]), (1002, .dead), (1001, .mem false 0 [(N + 1, .arr (N + 1) 1 (bF K))])]) := by
  obtain ⟨m, hm⟩ : ∃ m, L.length = m := ⟨_, rfl⟩
  unfold prS nmS
  rw [hm]
  refine fn_of (Γ := Γ) (fn := Try.f26) rfl rfl rfl rfl ?_
  repeat (refine sd ?_)
  refine Branch.intro (fun hc => ?_) (fun hc => ?_)
  · have hc : kd = 1 := hc
    have hn : ¬ mdP K q kd L := fun h => h.1 hc
    repeat (refine sd ?_)
    refine Ret.intro (.bool (mdP K q kd L)) [(1000, .mem false 0 [(1, .ptr 1002 0 none), (1, .i .i64 (N : Int)), (1, .slx 1001 0 0 (N + 1))]), (1002, .dead), (1001, .mem false 0 [(N + 1, .arr (N + 1) 1 (bF K))])] [] rfl ?_ ⟨rfl, rfl⟩ rfl ?_ rfl ?_ rfl
    · exact fc
    · repeat' (first | (show AllP _; first | exact trivial | refine AllP.app ?_ ?_ | refine AllP.appd ?_ ?_ | refine AllP.cons ?_ ?_) | with_reducible rfl | with_reducible assumption | omega | (simp only [rng, Ix.val, addQ_eq, addI, sz3, sz4, sz5, sz33, sz34, sz38, sz40, sz42, sz68, sz69, sz73, sz74, sz76, sz77, sz78] <;> omega) | (simp only [rng, Ix.val, Int.toNat_natCast, mulE_eq, addQ_eq, addI, Option.getD_none, Option.getD_some, List.length_take, List.length_drop, List.length_append, List.length_set, List.length_replicate, sz3, sz4, sz5, sz33, sz34, sz38, sz40, sz42, sz68, sz69, sz73, sz74, sz76, sz77, sz78, *] <;> omega) | (simp only [Ix.val]; with_reducible assumption) | exact UInt8.toNat_lt _ | (apply Eq.trans; (with_reducible assumption); exact rfl) | exact rfl | exact fun _ _ => rfl)
      all_goals exact hn
    · exact fc
  have hc : ¬ kd = 1 := hc
  repeat (refine sd ?_)
  refine Loop.intro (σ := Nat) (fun i => i ≤ m ∧ (kd = 3 → ∀ j, j < i → ¬ AllK K (nmJ q L j)))
    (fun i => ([(0, .ptr 1000 0 none), (3, .ptr 3 0 none), (5, .bool (∀ j, j < i → AllK K (nmJ q L j))), (13, .isl 0 m 1 [(m * 1, .arr m 1 (nwF q L))]), (14, .i .i64 (m : Int)), (15, .i .i64 (i : Int))],
      [(1000, .mem false 0 [(1, .ptr 1002 0 none), (1, .i .i64 (N : Int)), (1, .slx 1001 0 0 (N + 1))]), (1002, .dead), (1001, .mem false 0 [(N + 1, .arr (N + 1) 1 (bF K))]), (3, .mem true 0 [(1, .i .i64 kd), (1, .isl 0 m 1 [(m * 1, .arr m 1 (rwF L))]), (1, .isl 0 m 1 [(m * 1, .arr m 1 (nwF q L))])])]))
    (fun i => m - i) 0 ⟨Nat.zero_le _, fun _ j hj => absurd hj (Nat.not_lt_zero _)⟩ ?_ ?_
  · have h0 : ∀ j, j < 0 → AllK K (nmJ q L j) := fun j hj => absurd hj (Nat.not_lt_zero _)
    refine Le.intro [] rfl ?_ rfl ?_ rfl
    · exact fc
    · exact fc
  rintro i ⟨hi, hI⟩
  have hi : i ≤ m := hi
  refine Branch.intro (fun hc2 => ?_) (fun hc2 => ?_)
  · have hc2 : (i : Int) < m := hc2
    have hl := nmJ_eq q L i
    obtain ⟨l, hl2⟩ : ∃ l, nmJ q L i = l := ⟨_, rfl⟩
    rw [hl2] at hl
    have hl6 : l.length ≤ 1000001 := by rw [hl]; have := inL_len (L.getD i []) q 0; have := hLs _ (getD_mem [] (L := L) (i := i) (by omega)); omega
    have hle : ∀ z ∈ l, z ≤ N := fun z hz => by rw [hl] at hz; have := (inL_le hz).2; omega
    have hA := fn27 l l.length rfl hl6 N hle hN6 K
    have htl := toI_len l
    unfold nwF
    repeat (refine Side.intro (by repeat' (first | (show AllP _; first | exact trivial | refine AllP.app ?_ ?_ | refine AllP.appd ?_ ?_ | refine AllP.cons ?_ ?_) | with_reducible rfl | with_reducible assumption | omega | (simp only [Nat.zero_add, Int.toNat_natCast, ← hl, rng, Ix.val, addQ_eq, addI, sz3, sz4, sz5, sz33, sz34, sz38, sz40, sz42, sz68, sz69, sz73, sz74, sz76, sz77, sz78] <;> omega) | (simp only [Nat.zero_add, Int.toNat_natCast, ← hl, rng, Ix.val, Int.toNat_natCast, mulE_eq, addQ_eq, addI, Option.getD_none, Option.getD_some, List.length_take, List.length_drop, List.length_append, List.length_set, List.length_replicate, sz3, sz4, sz5, sz33, sz34, sz38, sz40, sz42, sz68, sz69, sz73, sz74, sz76, sz77, sz78, *] <;> omega) | (simp only [Ix.val]; with_reducible assumption) | exact UInt8.toNat_lt _ | (apply Eq.trans; (with_reducible assumption); exact rfl) | exact rfl | exact fun _ _ => rfl)) ?_)
    refine Call.name [(0, []), (2001, [])] rfl trivial (CallP.intro hA [(1000, (1000, 0, none)), (1001, (1001, 0, none)), (1002, (1002, 0, none)), (1003, (2001, 0, none))] rfl (by repeat' (first | (show AllP _; first | exact trivial | refine AllP.app ?_ ?_ | refine AllP.appd ?_ ?_ | refine AllP.cons ?_ ?_) | with_reducible rfl | with_reducible assumption | omega | (simp only [Nat.zero_add, Int.toNat_natCast, ← hl, rng, Ix.val, addQ_eq, addI, sz3, sz4, sz5, sz33, sz34, sz38, sz40, sz42, sz68, sz69, sz73, sz74, sz76, sz77, sz78] <;> omega) | (simp only [Nat.zero_add, Int.toNat_natCast, ← hl, rng, Ix.val, Int.toNat_natCast, mulE_eq, addQ_eq, addI, Option.getD_none, Option.getD_some, List.length_take, List.length_drop, List.length_append, List.length_set, List.length_replicate, sz3, sz4, sz5, sz33, sz34, sz38, sz40, sz42, sz68, sz69, sz73, sz74, sz76, sz77, sz78, *] <;> omega) | (simp only [Ix.val]; with_reducible assumption) | exact UInt8.toNat_lt _ | (apply Eq.trans; (with_reducible assumption); exact rfl) | exact rfl | exact fun _ _ => rfl)) rfl (by repeat' (first | (show AllP _; first | exact trivial | refine AllP.app ?_ ?_ | refine AllP.appd ?_ ?_ | refine AllP.cons ?_ ?_) | with_reducible rfl | with_reducible assumption | omega | (simp only [Nat.zero_add, Int.toNat_natCast, ← hl, rng, Ix.val, addQ_eq, addI, sz3, sz4, sz5, sz33, sz34, sz38, sz40, sz42, sz68, sz69, sz73, sz74, sz76, sz77, sz78] <;> omega) | (simp only [Nat.zero_add, Int.toNat_natCast, ← hl, rng, Ix.val, Int.toNat_natCast, mulE_eq, addQ_eq, addI, Option.getD_none, Option.getD_some, List.length_take, List.length_drop, List.length_append, List.length_set, List.length_replicate, sz3, sz4, sz5, sz33, sz34, sz38, sz40, sz42, sz68, sz69, sz73, sz74, sz76, sz77, sz78, *] <;> omega) | (simp only [Ix.val]; with_reducible assumption) | exact UInt8.toNat_lt _ | (apply Eq.trans; (with_reducible assumption); exact rfl) | exact rfl | exact fun _ _ => rfl)) rfl ?_)
    rintro v M' ⟨rfl, rfl⟩
    dsimp only [putT, afterM, newEnt, ren, renA, renS, renL, look, getM, getT, ev, evL, ofVal, cond_true, cond_false, Nat.beq_eq, act, isPar, ownPar, Ent.isOwn]
    repeat (refine sd ?_)
    have hs1 : (∀ j, j < i → AllK K (nmJ q L j)) → ((∀ j, j < i + 1 → AllK K (nmJ q L j)) ↔ AllK K l) := fun h1 => by
      constructor
      · intro h
        rw [← hl2]; exact h i (by omega)
      · intro h2 j hj
        rcases Nat.lt_or_ge j i with h | h
        · exact h1 j h
        · obtain rfl : j = i := by omega
          rw [hl2]; exact h2
    have hs2 : ¬ (∀ j, j < i → AllK K (nmJ q L j)) → ¬ (∀ j, j < i + 1 → AllK K (nmJ q L j)) := fun h1 h => h1 fun j hj => h j (by omega)
    by_cases h3 : kd = 3
    · by_cases hal : AllK K l
      · have hy : mdP K q kd L := ⟨hc, Or.inl ⟨h3, i, by omega, by rw [hl2]; exact hal⟩⟩
        repeat (first | (refine Branch.intro (fun _ => ?_) (fun hn => absurd rfl hn)) | (refine Branch.intro (fun hn => (by with_reducible exact False.elim hn)) (fun _ => ?_)) | (refine Branch.intro (fun _ => ?_) (fun hn => (by with_reducible exact absurd h3 hn))) | (refine Branch.intro (fun hn => (by with_reducible exact absurd hn h3)) (fun _ => ?_)) | (refine Branch.intro (fun _ => ?_) (fun hn => (by with_reducible exact absurd hal hn))) | (refine Branch.intro (fun hn => (by with_reducible exact absurd hn hal)) (fun _ => ?_)) | (refine sd ?_))
        repeat (refine sd ?_)
        refine Ret.intro (.bool (mdP K q kd L)) [(1000, .mem false 0 [(1, .ptr 1002 0 none), (1, .i .i64 (N : Int)), (1, .slx 1001 0 0 (N + 1))]), (1002, .dead), (1001, .mem false 0 [(N + 1, .arr (N + 1) 1 (bF K))])] [] rfl ?_ ⟨rfl, rfl⟩ rfl ?_ rfl ?_ rfl
        · exact fc
        · repeat' (first | (show AllP _; first | exact trivial | refine AllP.app ?_ ?_ | refine AllP.appd ?_ ?_ | refine AllP.cons ?_ ?_) | with_reducible rfl | with_reducible assumption | omega | (simp only [rng, Ix.val, addQ_eq, addI, sz3, sz4, sz5, sz33, sz34, sz38, sz40, sz42, sz68, sz69, sz73, sz74, sz76, sz77, sz78] <;> omega) | (simp only [rng, Ix.val, Int.toNat_natCast, mulE_eq, addQ_eq, addI, Option.getD_none, Option.getD_some, List.length_take, List.length_drop, List.length_append, List.length_set, List.length_replicate, sz3, sz4, sz5, sz33, sz34, sz38, sz40, sz42, sz68, sz69, sz73, sz74, sz76, sz77, sz78, *] <;> omega) | (simp only [Ix.val]; with_reducible assumption) | exact UInt8.toNat_lt _ | (apply Eq.trans; (with_reducible assumption); exact rfl) | exact rfl | exact fun _ _ => rfl)
          all_goals exact hy
        · exact fc
      · have hI2 : kd = 3 → ∀ j, j < i + 1 → ¬ AllK K (nmJ q L j) := fun _ j hj => (Nat.lt_or_ge j i).elim (fun h => hI h3 j h) (fun h => by obtain rfl : j = i := by omega
                                                                                                                                             rw [hl2]; exact hal)
        by_cases hE : ∀ j, j < i → AllK K (nmJ q L j)
        · have hs3 := hs1 hE
          repeat (first | (refine Branch.intro (fun _ => ?_) (fun hn => absurd rfl hn)) | (refine Branch.intro (fun hn => (by with_reducible exact False.elim hn)) (fun _ => ?_)) | (refine Branch.intro (fun _ => ?_) (fun hn => (by with_reducible exact absurd h3 hn))) | (refine Branch.intro (fun hn => (by with_reducible exact absurd hn h3)) (fun _ => ?_)) | (refine Branch.intro (fun _ => ?_) (fun hn => (by with_reducible exact absurd hal hn))) | (refine Branch.intro (fun hn => (by with_reducible exact absurd hn hal)) (fun _ => ?_)) | (refine Branch.intro (fun _ => ?_) (fun hn => (by with_reducible exact absurd hE hn))) | (refine Branch.intro (fun hn => (by with_reducible exact absurd hn hE)) (fun _ => ?_)) | (refine sd ?_))
          refine ⟨i + 1, ⟨by omega, hI2⟩, by omega, Le.intro [] rfl ?_ rfl ?_ rfl⟩
          · exact fc
          · exact fc
        · have hs3 := hs2 hE
          repeat (first | (refine Branch.intro (fun _ => ?_) (fun hn => absurd rfl hn)) | (refine Branch.intro (fun hn => (by with_reducible exact False.elim hn)) (fun _ => ?_)) | (refine Branch.intro (fun _ => ?_) (fun hn => (by with_reducible exact absurd h3 hn))) | (refine Branch.intro (fun hn => (by with_reducible exact absurd hn h3)) (fun _ => ?_)) | (refine Branch.intro (fun _ => ?_) (fun hn => (by with_reducible exact absurd hal hn))) | (refine Branch.intro (fun hn => (by with_reducible exact absurd hn hal)) (fun _ => ?_)) | (refine Branch.intro (fun _ => ?_) (fun hn => (by with_reducible exact absurd hE hn))) | (refine Branch.intro (fun hn => (by with_reducible exact absurd hn hE)) (fun _ => ?_)) | (refine sd ?_))
          refine ⟨i + 1, ⟨by omega, hI2⟩, by omega, Le.intro [] rfl ?_ rfl ?_ rfl⟩
          · exact fc
          · exact fc
    · have hI2 : kd = 3 → ∀ j, j < i + 1 → ¬ AllK K (nmJ q L j) := fun h => absurd h h3
      by_cases hE : ∀ j, j < i → AllK K (nmJ q L j)
      · have hs3 := hs1 hE
        repeat (first | (refine Branch.intro (fun _ => ?_) (fun hn => absurd rfl hn)) | (refine Branch.intro (fun hn => (by with_reducible exact False.elim hn)) (fun _ => ?_)) | (refine Branch.intro (fun _ => ?_) (fun hn => (by with_reducible exact absurd h3 hn))) | (refine Branch.intro (fun hn => (by with_reducible exact absurd hn h3)) (fun _ => ?_)) | (refine Branch.intro (fun _ => ?_) (fun hn => (by with_reducible exact absurd hE hn))) | (refine Branch.intro (fun hn => (by with_reducible exact absurd hn hE)) (fun _ => ?_)) | (refine sd ?_))
        refine ⟨i + 1, ⟨by omega, hI2⟩, by omega, Le.intro [] rfl ?_ rfl ?_ rfl⟩
        · exact fc
        · exact fc
      · have hs3 := hs2 hE
        repeat (first | (refine Branch.intro (fun _ => ?_) (fun hn => absurd rfl hn)) | (refine Branch.intro (fun hn => (by with_reducible exact False.elim hn)) (fun _ => ?_)) | (refine Branch.intro (fun _ => ?_) (fun hn => (by with_reducible exact absurd h3 hn))) | (refine Branch.intro (fun hn => (by with_reducible exact absurd hn h3)) (fun _ => ?_)) | (refine Branch.intro (fun _ => ?_) (fun hn => (by with_reducible exact absurd hE hn))) | (refine Branch.intro (fun hn => (by with_reducible exact absurd hn hE)) (fun _ => ?_)) | (refine sd ?_))
        refine ⟨i + 1, ⟨by omega, hI2⟩, by omega, Le.intro [] rfl ?_ rfl ?_ rfl⟩
        · exact fc
        · exact fc
  · have hc2 : ¬ (i : Int) < m := hc2
    obtain rfl : i = m := by omega
    have hmd : mdP K q kd L ↔ (∀ j, j < i → AllK K (nmJ q L j)) := by
      unfold mdP
      rw [hm]
      constructor
      · rintro ⟨_, ⟨h3, j, hj, h⟩ | h⟩
        · exact absurd h (hI h3 j hj)
        · exact h
      · exact fun h => ⟨hc, Or.inr h⟩
    repeat (refine sd ?_)
    refine Ret.intro (.bool (mdP K q kd L)) [(1000, .mem false 0 [(1, .ptr 1002 0 none), (1, .i .i64 (N : Int)), (1, .slx 1001 0 0 (N + 1))]), (1002, .dead), (1001, .mem false 0 [(N + 1, .arr (N + 1) 1 (bF K))])] [] rfl ?_ ⟨rfl, rfl⟩ rfl ?_ rfl ?_ rfl
    · exact fc
    · repeat' (first | (show AllP _; first | exact trivial | refine AllP.app ?_ ?_ | refine AllP.appd ?_ ?_ | refine AllP.cons ?_ ?_) | with_reducible rfl | with_reducible assumption | omega | (simp only [rng, Ix.val, addQ_eq, addI, sz3, sz4, sz5, sz33, sz34, sz38, sz40, sz42, sz68, sz69, sz73, sz74, sz76, sz77, sz78] <;> omega) | (simp only [rng, Ix.val, Int.toNat_natCast, mulE_eq, addQ_eq, addI, Option.getD_none, Option.getD_some, List.length_take, List.length_drop, List.length_append, List.length_set, List.length_replicate, sz3, sz4, sz5, sz33, sz34, sz38, sz40, sz42, sz68, sz69, sz73, sz74, sz76, sz77, sz78, *] <;> omega) | (simp only [Ix.val]; with_reducible assumption) | exact UInt8.toNat_lt _ | (apply Eq.trans; (with_reducible assumption); exact rfl) | exact rfl | exact fun _ _ => rfl)
      all_goals exact hmd
    · exact fc

end Go.Proofs.Ytoaaplgjacjlpaa
