/- What the functions of the program compute. No condition. -/
import Derived.Test.YtoaaplgjacjlpaaHwTm15ToTm15
set_option linter.unusedSimpArgs false
set_option linter.unusedVariables false
namespace Go.Proofs.Ytoaaplgjacjlpaa
open Go Go.Sx

/-! The document's example. -/

@[irreducible] def xT0 : List Te := []
@[irreducible] def xT1 : List Te := [(1, [[110]])]
@[irreducible] def xT2 : List Te := [(1, [[110]]), (1, [[109]])]
@[irreducible] def xT3 : List Te := [(1, [[110]]), (1, [[109]]), (2, [nameB 1])]
@[irreducible] def xT4 : List Te := [(1, [[110]]), (1, [[109]]), (2, [nameB 1]), (3, [nameB 1, nameB 2])]
@[irreducible] def xT5 : List Te := [(1, [[110]]), (1, [[109]]), (2, [nameB 1]), (3, [nameB 1, nameB 2]), (7, [nameB 4])]
@[irreducible] def xT6 : List Te := [(1, [[110]]), (1, [[109]]), (2, [nameB 1]), (3, [nameB 1, nameB 2]), (7, [nameB 4]), (8, [nameB 5, [120] ++ nameB 2])]
theorem xT0_mk : mkT xT0 (1, [[110]]) = (xT1, 1) := by kernel_rfl
theorem xT1_mk : mkT xT1 (1, [[109]]) = (xT2, 2) := by kernel_rfl
theorem xT2_mk : mkT xT2 (2, [nameB 1]) = (xT3, 3) := by kernel_rfl
theorem xT3_mk : mkT xT3 (3, [nameB 1, nameB 2]) = (xT4, 4) := by kernel_rfl
theorem xT4_mk : mkT xT4 (7, [nameB 4]) = (xT5, 5) := by kernel_rfl
theorem xT5_mk : mkT xT5 (8, [nameB 5, [120] ++ nameB 2]) = (xT6, 6) := by kernel_rfl
theorem xT0_len : xT0.length = 0 := by kernel_rfl
theorem xT0_ok : ∀ x ∈ xT0, Valid x.1 x.2 := of_decide_eq_true (by kernel_rfl)
theorem xT1_len : xT1.length = 1 := by kernel_rfl
theorem xT1_ok : ∀ x ∈ xT1, Valid x.1 x.2 := of_decide_eq_true (by kernel_rfl)
theorem xT2_len : xT2.length = 2 := by kernel_rfl
theorem xT2_ok : ∀ x ∈ xT2, Valid x.1 x.2 := of_decide_eq_true (by kernel_rfl)
theorem xT3_len : xT3.length = 3 := by kernel_rfl
theorem xT3_ok : ∀ x ∈ xT3, Valid x.1 x.2 := of_decide_eq_true (by kernel_rfl)
theorem xT4_len : xT4.length = 4 := by kernel_rfl
theorem xT4_ok : ∀ x ∈ xT4, Valid x.1 x.2 := of_decide_eq_true (by kernel_rfl)
theorem xT5_len : xT5.length = 5 := by kernel_rfl
theorem xT5_ok : ∀ x ∈ xT5, Valid x.1 x.2 := of_decide_eq_true (by kernel_rfl)
theorem xT6_len : xT6.length = 6 := by kernel_rfl
theorem xT6_ok : ∀ x ∈ xT6, Valid x.1 x.2 := of_decide_eq_true (by kernel_rfl)
theorem xT0_mp : mpL xT0 = [] := by kernel_rfl
instance decAllK (K : Nat → Prop) [DecidablePred K] (l : List Nat) : Decidable (AllK K l) := inferInstanceAs (Decidable (∀ z ∈ l, K z))
instance decMd (K : Nat → Prop) [DecidablePred K] (q : Nat) (kd : Int) (L : List (List UInt8)) : Decidable (mdP K q kd L) := inferInstanceAs (Decidable (_ ∧ (_ ∧ _ ∨ _)))
instance memP (l : List Nat) : DecidablePred (fun z => z ∈ l) := fun z => inferInstanceAs (Decidable (z ∈ l))
/-- A closed pair, of numbers in lists. -/
def closedB (T : List Te) (S : List (List UInt8)) (k d : List Nat) : Bool :=
  ((List.range S.length).all fun j => decide (AllK (fun z => z ∈ d) (inL (S.getD j []) T.length 0))) && (List.range T.length).all fun q =>
    (!decide (q + 1 ∈ d) || decide (q + 1 ∈ k)) && ((!decide (mdP (fun z => z ∈ k) q (T.getD q te0).1 (T.getD q te0).2) || decide (q + 1 ∈ k)) &&
      (!decide ((T.getD q te0).1 = 8) || !decide (q + 1 ∈ d) || !decide (1 < (T.getD q te0).2.length) || !decide (AllK (fun z => z ∈ k) (nmJ q (T.getD q te0).2 0)) || decide (AllK (fun z => z ∈ d) (nmJ q (T.getD q te0).2 1))))
theorem closedB_spec {T : List Te} {S : List (List UInt8)} {k d : List Nat} (h : closedB T S k d = true) : Closed T S (fun z => z ∈ k) (fun z => z ∈ d) := by
  unfold closedB at h
  simp only [Bool.and_eq_true, Bool.or_eq_true, Bool.not_eq_true', List.all_eq_true, List.mem_range, decide_eq_true_eq, decide_eq_false_iff_not] at h
  obtain ⟨h1, h2⟩ := h
  refine ⟨h1, fun q hq hd => ((h2 q hq).1).resolve_left fun h => h hd, fun q hq hd => ((h2 q hq).2.1).resolve_left fun h => h hd, fun q hq h8 hd hl hk => ?_⟩
  rcases (h2 q hq).2.2 with (((h | h) | h) | h) | h
  · exact absurd h8 h
  · exact absurd hd h
  · exact absurd hl h
  · exact absurd hk h
  · exact h
/-- Not known: of a closed pair. -/
theorem not_known {T : List Te} {S : List (List UInt8)} {z : Nat} (k d : List Nat) (h : closedB T S k d = true) (hz : z ∉ k) : ¬ KnP T S z := fun hk => hz (hk _ _ (closedB_spec h))
/-- What is had, step by step. -/
theorem is_seen {T : List Te} {S : List (List UInt8)} (j : Nat) {z : Nat} (hj : j < S.length) (hz : z ∈ inL (S.getD j []) T.length 0) : TdP T S z := (KnP_closed T S).seen j hj z hz
theorem is_told {T : List Te} {S : List (List UInt8)} {q : Nat} (hq : q < T.length) (h : TdP T S (q + 1)) : KnP T S (q + 1) := (KnP_closed T S).told q hq h
@[irreducible] def xS1 : List (List UInt8) := [nameB 3, nameB 6]
@[irreducible] def xS2 : List (List UInt8) := [nameB 3, nameB 6, nameB 2]
@[irreducible] def xS3 : List (List UInt8) := [nameB 6, nameB 5]
theorem in_1 : inL (nameB 1) 6 0 = [1] := by kernel_rfl
theorem in_2 : inL (nameB 2) 6 0 = [2] := by kernel_rfl
theorem in_3 : inL (nameB 3) 6 0 = [3] := by kernel_rfl
theorem in_4 : inL (nameB 4) 6 0 = [4] := by kernel_rfl
theorem in_5 : inL (nameB 5) 6 0 = [5] := by kernel_rfl
theorem in_6 : inL (nameB 6) 6 0 = [6] := by kernel_rfl
theorem xS1_eq : xS1 = [nameB 3, nameB 6] := by unfold xS1; rfl
theorem xS2_eq : xS2 = [nameB 3, nameB 6, nameB 2] := by unfold xS2; rfl
theorem xS3_eq : xS3 = [nameB 6, nameB 5] := by unfold xS3; rfl
theorem allOne {K : Nat → Prop} {b : List UInt8} {z : Nat} (h : inL b 6 0 = [z]) : AllK K (inL b 6 0) ↔ K z := by rw [h]; exact ⟨fun h => h z (by simp), fun h y hy => by obtain rfl : y = z := (by simpa using hy); exact h⟩
theorem k1p : KnP xT6 xS1 3 := is_told (q := 2) (of_decide_eq_true (by kernel_rfl)) (is_seen 0 (of_decide_eq_true (by kernel_rfl)) (of_decide_eq_true (by kernel_rfl)))
theorem k1n : ¬ KnP xT6 xS1 1 := not_known [3, 6] [3, 6] (by kernel_rfl) (of_decide_eq_true (by kernel_rfl))
theorem k1k : ¬ KnP xT6 xS1 5 := not_known [3, 6] [3, 6] (by kernel_rfl) (of_decide_eq_true (by kernel_rfl))
theorem k2m : KnP xT6 xS2 2 := is_told (q := 1) (of_decide_eq_true (by kernel_rfl)) (is_seen 2 (of_decide_eq_true (by kernel_rfl)) (of_decide_eq_true (by kernel_rfl)))
theorem k2s : KnP xT6 xS2 4 := (KnP_closed xT6 xS2).made 3 (of_decide_eq_true (by kernel_rfl)) (mdP_mono (K := (· = 2)) (fun z _ hz => by rw [hz]; exact k2m) (of_decide_eq_true (by kernel_rfl)))
theorem k2k : KnP xT6 xS2 5 := (KnP_closed xT6 xS2).made 4 (of_decide_eq_true (by kernel_rfl)) (mdP_mono (K := (· = 4)) (fun z _ hz => by rw [hz]; exact k2s) (of_decide_eq_true (by kernel_rfl)))
theorem k2n : ¬ KnP xT6 xS2 1 := not_known [2, 3, 4, 5, 6] [2, 3, 6] (by kernel_rfl) (of_decide_eq_true (by kernel_rfl))
theorem k3k : KnP xT6 xS3 5 := is_told (q := 4) (of_decide_eq_true (by kernel_rfl)) (is_seen 1 (of_decide_eq_true (by kernel_rfl)) (of_decide_eq_true (by kernel_rfl)))
theorem k3c : TdP xT6 xS3 6 := is_seen 0 (of_decide_eq_true (by kernel_rfl)) (of_decide_eq_true (by kernel_rfl))
theorem k3m : KnP xT6 xS3 2 := is_told (q := 1) (of_decide_eq_true (by kernel_rfl)) ((KnP_closed xT6 xS3).opens 5 (of_decide_eq_true (by kernel_rfl)) (of_decide_eq_true (by kernel_rfl)) k3c (of_decide_eq_true (by kernel_rfl)) (AllK.mono (K := (· = 5)) (fun z _ hz => by rw [hz]; exact k3k) (of_decide_eq_true (by kernel_rfl))) 2 (of_decide_eq_true (by kernel_rfl)))
theorem k3s : KnP xT6 xS3 4 := (KnP_closed xT6 xS3).made 3 (of_decide_eq_true (by kernel_rfl)) (mdP_mono (K := (· = 2)) (fun z _ hz => by rw [hz]; exact k3m) (of_decide_eq_true (by kernel_rfl)))
theorem k3n : ¬ KnP xT6 xS3 1 := not_known [2, 4, 5, 6] [2, 5, 6] (by kernel_rfl) (of_decide_eq_true (by kernel_rfl))
theorem rwF_len {L : List (List UInt8)} {q n : Nat} {b : List UInt8} (h : L.getD q [] = b) (hb : b.length = n) : rwF L q = [(1, .isl 0 n 1 [(n * 1, .a8 b)])] := by unfold rwF; rw [h, hb]

set_option maxRecDepth 100000 in
set_option maxHeartbeats 4000000 in
theorem fn8 : Sx.Fn Γ.P 8 [] [] (fun v _ => v = .tt) := by
  have hby : (Γ.ty 5).bytes = 1 := rfl
  have hNew := fn9
  have hl1 := nameB_length 1
  have hl2 := nameB_length 2
  have hl3 := nameB_length 3
  have hl4 := nameB_length 4
  have hl5 := nameB_length 5
  have hl6 := nameB_length 6
  have hm0 := xT0_mp
  refine fn_cut [4, 5, 6, 7, 1000008, 9, 1000010, 11, 12, 13, 15] (Γ := Γ) (fn := Try.f8) rfl rfl rfl rfl ?_
  repeat (refine sd ?_)
  refine Call.intro hNew [(1000, (1000, 0, none)), (1002, (1002, 0, none))] rfl fc rfl trivial rfl ?_
  rintro v M' ⟨rfl, rfl⟩
  dsimp only [putT, afterM, newEnt, ren, renA, renS, renL, look, getM, getT, ev, evL, ofVal, cond_true, cond_false, Nat.beq_eq, act, isPar, ownPar, Ent.isOwn]
  repeat (refine sd ?_)
  refine Branch.intro (fun h => h.elim) (fun _ => ?_)
  refine Cut.intro (σ := Nat) (fun c => 0 ≤ c) (fun c => ([(1, .ptr 1000 0 none)], [(1000, .mem true 0 [(1, .sl 1001 0 0 0 c), (1, .mp 1002)]), (1001, .mem true (mulE (c - 0) 3) [(0 * 3, .arr 0 3 (ttF xT0))]), (1002, .map (.si (mpL xT0)))])) 0 (Nat.le_refl _) ?_ ?_
  · refine Le.ghost [.own 1001 [(0, .arr 0 3 (ttF xT0))], .leaf 1000 0 1001] [] [] rfl ⟨rfl, rfl, trivial⟩ rfl rfl ?_ rfl ?_ rfl
    · exact fc
    · exact fc
  clear hm0
  rintro c hc
  have hc : 0 ≤ c := hc
  have hM := fn16 xT0 0 c xT0_len (by decide) hc xT0_ok 1 [[110]] 1 rfl (by decide) (of_decide_eq_true (by kernel_rfl))
  rw [xT0_mk] at hM
  unfold MT at hM
  repeat (refine sd ?_)
  refine Call.name [(0, []), (0, []), (2001, [])] rfl trivial (CallP.intro hM [(1000, (1000, 0, none)), (1001, (1001, 0, none)), (1002, (1002, 0, none)), (1003, (2001, 0, none)), (1005, (305, 0, none))] rfl ?_ rfl ?_ rfl ?_)
  · exact fc
  · repeat' (first | (show AllP _; first | exact trivial | refine AllP.app ?_ ?_ | refine AllP.appd ?_ ?_ | refine AllP.cons ?_ ?_) | with_reducible rfl | with_reducible assumption | omega | (simp only [rng, Ix.val, addQ_eq, addI, sz3, sz4, sz5, sz25, sz32, sz33, sz34, sz38, sz40, sz42, sz49, sz66, sz67, sz68, sz69, sz73, sz74, sz76, sz77, sz78] <;> omega) | (simp only [rng, Ix.val, Int.toNat_natCast, mulE_eq, addQ_eq, addI, Option.getD_none, Option.getD_some, List.length_take, List.length_drop, List.length_append, List.length_set, List.length_replicate, sz3, sz4, sz5, sz25, sz32, sz33, sz34, sz38, sz40, sz42, sz49, sz66, sz67, sz68, sz69, sz73, sz74, sz76, sz77, sz78, *] <;> omega) | (simp only [Ix.val]; with_reducible assumption) | exact UInt8.toNat_lt _ | (apply Eq.trans; (with_reducible assumption); exact rfl) | exact rfl | exact fun _ _ => rfl)
    all_goals first | exact rwF_len rfl (by first | exact nameB_length _ | rfl)
  rintro v M' ⟨n', c', hn', hc', rfl, rfl⟩
  obtain rfl : n' = 1 := by rw [← hn']; exact xT1_len
  have hky : kyB 1 = nameB 1 := rfl
  dsimp only [putT, afterM, newEnt, ren, renA, renS, renL, look, getM, getT, ev, evL, ofVal, cond_true, cond_false, Nat.beq_eq, act, isPar, ownPar, Ent.isOwn]
  clear hM
  repeat (refine sd ?_)
  refine Cut.intro (σ := Nat) (fun c => 1 ≤ c) (fun c => ([(1, .ptr 1000 0 none), (2, .iep 0 0 1 [(32, .a8 (nameB 1))])], [(1000, .mem true 0 [(1, .sl 1001 0 0 1 c), (1, .mp 1002)]), (1001, .mem true (mulE (c - 1) 3) [(1 * 3, .arr 1 3 (ttF xT1))]), (1002, .map (.si (mpL xT1)))])) c' hc' ?_ ?_
  · refine Le.ghost [.keep 2] [(2, 0)] [(1001, (305, 0, none))] rfl trivial rfl rfl ?_ rfl ?_ rfl
    · exact fc
    · exact fc
  rintro c hc
  have hc : 1 ≤ c := hc
  have hM := fn16 xT1 1 c xT1_len (by decide) hc xT1_ok 1 [[109]] 1 rfl (by decide) (of_decide_eq_true (by kernel_rfl))
  rw [xT1_mk] at hM
  unfold MT at hM
  repeat (refine sd ?_)
  refine Call.name [(0, []), (0, []), (2001, [])] rfl trivial (CallP.intro hM [(1000, (1000, 0, none)), (1001, (1001, 0, none)), (1002, (1002, 0, none)), (1003, (2001, 0, none)), (1005, (305, 0, none))] rfl ?_ rfl ?_ rfl ?_)
  · exact fc
  · repeat' (first | (show AllP _; first | exact trivial | refine AllP.app ?_ ?_ | refine AllP.appd ?_ ?_ | refine AllP.cons ?_ ?_) | with_reducible rfl | with_reducible assumption | omega | (simp only [rng, Ix.val, addQ_eq, addI, sz3, sz4, sz5, sz25, sz32, sz33, sz34, sz38, sz40, sz42, sz49, sz66, sz67, sz68, sz69, sz73, sz74, sz76, sz77, sz78] <;> omega) | (simp only [rng, Ix.val, Int.toNat_natCast, mulE_eq, addQ_eq, addI, Option.getD_none, Option.getD_some, List.length_take, List.length_drop, List.length_append, List.length_set, List.length_replicate, sz3, sz4, sz5, sz25, sz32, sz33, sz34, sz38, sz40, sz42, sz49, sz66, sz67, sz68, sz69, sz73, sz74, sz76, sz77, sz78, *] <;> omega) | (simp only [Ix.val]; with_reducible assumption) | exact UInt8.toNat_lt _ | (apply Eq.trans; (with_reducible assumption); exact rfl) | exact rfl | exact fun _ _ => rfl)
    all_goals first | exact rwF_len rfl (by first | exact nameB_length _ | rfl)
  rintro v M' ⟨n', c', hn', hc', rfl, rfl⟩
  obtain rfl : n' = 2 := by rw [← hn']; exact xT2_len
  have hky : kyB 2 = nameB 2 := rfl
  dsimp only [putT, afterM, newEnt, ren, renA, renS, renL, look, getM, getT, ev, evL, ofVal, cond_true, cond_false, Nat.beq_eq, act, isPar, ownPar, Ent.isOwn]
  clear hM
  repeat (refine sd ?_)
  refine Cut.intro (σ := Nat) (fun c => 2 ≤ c) (fun c => ([(1, .ptr 1000 0 none), (2, .iep 0 0 1 [(32, .a8 (nameB 1))]), (4, .iep 0 0 1 [(32, .a8 (nameB 2))])], [(1000, .mem true 0 [(1, .sl 1001 0 0 2 c), (1, .mp 1002)]), (1001, .mem true (mulE (c - 2) 3) [(2 * 3, .arr 2 3 (ttF xT2))]), (1002, .map (.si (mpL xT2)))])) c' hc' ?_ ?_
  · refine Le.ghost [.keep 4] [(4, 0)] [(1001, (305, 0, none))] rfl trivial rfl rfl ?_ rfl ?_ rfl
    · exact fc
    · exact fc
  rintro c hc
  have hc : 2 ≤ c := hc
  have hM := fn16 xT2 2 c xT2_len (by decide) hc xT2_ok 2 [nameB 1] 1 rfl (by decide) (of_decide_eq_true (by kernel_rfl))
  rw [xT2_mk] at hM
  unfold MT at hM
  repeat (refine sd ?_)
  refine Call.name [(0, []), (0, []), (2001, [])] rfl trivial (CallP.intro hM [(1000, (1000, 0, none)), (1001, (1001, 0, none)), (1002, (1002, 0, none)), (1003, (2001, 0, none)), (1005, (305, 0, none))] rfl ?_ rfl ?_ rfl ?_)
  · exact fc
  · repeat' (first | (show AllP _; first | exact trivial | refine AllP.app ?_ ?_ | refine AllP.appd ?_ ?_ | refine AllP.cons ?_ ?_) | with_reducible rfl | with_reducible assumption | omega | (simp only [rng, Ix.val, addQ_eq, addI, sz3, sz4, sz5, sz25, sz32, sz33, sz34, sz38, sz40, sz42, sz49, sz66, sz67, sz68, sz69, sz73, sz74, sz76, sz77, sz78] <;> omega) | (simp only [rng, Ix.val, Int.toNat_natCast, mulE_eq, addQ_eq, addI, Option.getD_none, Option.getD_some, List.length_take, List.length_drop, List.length_append, List.length_set, List.length_replicate, sz3, sz4, sz5, sz25, sz32, sz33, sz34, sz38, sz40, sz42, sz49, sz66, sz67, sz68, sz69, sz73, sz74, sz76, sz77, sz78, *] <;> omega) | (simp only [Ix.val]; with_reducible assumption) | exact UInt8.toNat_lt _ | (apply Eq.trans; (with_reducible assumption); exact rfl) | exact rfl | exact fun _ _ => rfl)
    all_goals first | exact rwF_len rfl (by first | exact nameB_length _ | rfl)
  rintro v M' ⟨n', c', hn', hc', rfl, rfl⟩
  obtain rfl : n' = 3 := by rw [← hn']; exact xT3_len
  have hky : kyB 3 = nameB 3 := rfl
  dsimp only [putT, afterM, newEnt, ren, renA, renS, renL, look, getM, getT, ev, evL, ofVal, cond_true, cond_false, Nat.beq_eq, act, isPar, ownPar, Ent.isOwn]
  clear hM
  repeat (refine sd ?_)
  refine Join.intro (σ := Nat) (fun c => 4 ≤ c) (fun c => ([(1, .ptr 1000 0 none), (2, .iep 0 0 1 [(32, .a8 (nameB 1))]), (4, .iep 0 0 1 [(32, .a8 (nameB 2))]), (6, .iep 0 0 1 [(32, .a8 (nameB 3))]), (8, .iep 0 0 1 [(32, .a8 (nameB 4))])], [(1000, .mem true 0 [(1, .sl 1001 0 0 4 c), (1, .mp 1002)]), (1001, .mem true (mulE (c - 4) 3) [(4 * 3, .arr 4 3 (ttF xT4))]), (1002, .map (.si (mpL xT4)))])) ?_ ?_
  · refine Cut.intro (σ := Nat) (fun c => 3 ≤ c) (fun c => ([(1, .ptr 1000 0 none), (2, .iep 0 0 1 [(32, .a8 (nameB 1))]), (4, .iep 0 0 1 [(32, .a8 (nameB 2))]), (6, .iep 0 0 1 [(32, .a8 (nameB 3))])], [(1000, .mem true 0 [(1, .sl 1001 0 0 3 c), (1, .mp 1002)]), (1001, .mem true (mulE (c - 3) 3) [(3 * 3, .arr 3 3 (ttF xT3))]), (1002, .map (.si (mpL xT3)))])) c' hc' ?_ ?_
    · refine Le.ghost [.keep 6] [(6, 0)] [(1001, (305, 0, none))] rfl trivial rfl rfl ?_ rfl ?_ rfl
      · exact fc
      · exact fc
    rintro c hc
    have hc : 3 ≤ c := hc
    have hM := fn16 xT3 3 c xT3_len (by decide) hc xT3_ok 3 [nameB 1, nameB 2] 2 rfl (by decide) (of_decide_eq_true (by kernel_rfl))
    rw [xT3_mk] at hM
    unfold MT at hM
    refine Draw.intro [[], [], [], [1, 2], [0, 1, 2, 3], [0, 1, 2, 3, 4], [0, 1, 2, 3, 4, 5], [0, 1, 2, 3, 4, 5], [], [0, 1, 2, 3, 4, 5, 6, 8], [0, 1, 2, 3, 4, 5, 6, 7, 8, 9], []] [0, 1, 2, 3, 8, 4, 5, 6, 7, 9, 10] (by kernel_rfl) ?_
    repeat (refine sd ?_)
    refine And.intro ?_ ?_
    · refine Call.name [(0, []), (0, []), (2001, [])] rfl trivial (CallP.intro hM [(1000, (1000, 0, none)), (1001, (1001, 0, none)), (1002, (1002, 0, none)), (1003, (2001, 0, none)), (1005, (305, 0, none))] rfl ?_ rfl ?_ rfl ?_)
      · exact fc
      · repeat' (first | (show AllP _; first | exact trivial | refine AllP.app ?_ ?_ | refine AllP.appd ?_ ?_ | refine AllP.cons ?_ ?_) | with_reducible rfl | with_reducible assumption | omega | (simp only [rng, Ix.val, addQ_eq, addI, sz3, sz4, sz5, sz25, sz32, sz33, sz34, sz38, sz40, sz42, sz49, sz66, sz67, sz68, sz69, sz73, sz74, sz76, sz77, sz78] <;> omega) | (simp only [rng, Ix.val, Int.toNat_natCast, mulE_eq, addQ_eq, addI, Option.getD_none, Option.getD_some, List.length_take, List.length_drop, List.length_append, List.length_set, List.length_replicate, sz3, sz4, sz5, sz25, sz32, sz33, sz34, sz38, sz40, sz42, sz49, sz66, sz67, sz68, sz69, sz73, sz74, sz76, sz77, sz78, *] <;> omega) | (simp only [Ix.val]; with_reducible assumption) | exact UInt8.toNat_lt _ | (apply Eq.trans; (with_reducible assumption); exact rfl) | exact rfl | exact fun _ _ => rfl)
        all_goals first | exact rwF_len rfl (by first | exact nameB_length _ | rfl)
      rintro v M' ⟨n', c', hn', hc', rfl, rfl⟩
      obtain rfl : n' = 4 := by rw [← hn']; exact xT4_len
      have hky : kyB 4 = nameB 4 := rfl
      dsimp only [putT, afterM, newEnt, ren, renA, renS, renL, look, getM, getT, ev, evL, ofVal, cond_true, cond_false, Nat.beq_eq, act, isPar, ownPar, Ent.isOwn]
      clear hM
      repeat (refine sd ?_)
      refine ⟨c', hc', Le.ghost [.keep 8] [(8, 0)] [(1001, (305, 0, none))] rfl trivial rfl rfl ?_ rfl ?_ rfl⟩
      · exact fc
      · exact fc
    · refine Call.name [(0, []), (0, []), (2001, [])] rfl trivial (CallP.intro hM [(1000, (1000, 0, none)), (1001, (1001, 0, none)), (1002, (1002, 0, none)), (1003, (2001, 0, none)), (1005, (305, 0, none))] rfl ?_ rfl ?_ rfl ?_)
      · exact fc
      · repeat' (first | (show AllP _; first | exact trivial | refine AllP.app ?_ ?_ | refine AllP.appd ?_ ?_ | refine AllP.cons ?_ ?_) | with_reducible rfl | with_reducible assumption | omega | (simp only [rng, Ix.val, addQ_eq, addI, sz3, sz4, sz5, sz25, sz32, sz33, sz34, sz38, sz40, sz42, sz49, sz66, sz67, sz68, sz69, sz73, sz74, sz76, sz77, sz78] <;> omega) | (simp only [rng, Ix.val, Int.toNat_natCast, mulE_eq, addQ_eq, addI, Option.getD_none, Option.getD_some, List.length_take, List.length_drop, List.length_append, List.length_set, List.length_replicate, sz3, sz4, sz5, sz25, sz32, sz33, sz34, sz38, sz40, sz42, sz49, sz66, sz67, sz68, sz69, sz73, sz74, sz76, sz77, sz78, *] <;> omega) | (simp only [Ix.val]; with_reducible assumption) | exact UInt8.toNat_lt _ | (apply Eq.trans; (with_reducible assumption); exact rfl) | exact rfl | exact fun _ _ => rfl)
        all_goals first | exact rwF_len rfl (by first | exact nameB_length _ | rfl)
      rintro v M' ⟨n', c', hn', hc', rfl, rfl⟩
      obtain rfl : n' = 4 := by rw [← hn']; exact xT4_len
      have hky : kyB 4 = nameB 4 := rfl
      dsimp only [putT, afterM, newEnt, ren, renA, renS, renL, look, getM, getT, ev, evL, ofVal, cond_true, cond_false, Nat.beq_eq, act, isPar, ownPar, Ent.isOwn]
      clear hM
      repeat (refine sd ?_)
      refine ⟨c', hc', Le.ghost [.keep 8] [(8, 0)] [(1001, (305, 0, none))] rfl trivial rfl rfl ?_ rfl ?_ rfl⟩
      · exact fc
      · exact fc
  rintro c hc
  have hc : 4 ≤ c := hc
  have hM := fn16 xT4 4 c xT4_len (by decide) hc xT4_ok 7 [nameB 4] 1 rfl (by decide) (of_decide_eq_true (by kernel_rfl))
  rw [xT4_mk] at hM
  unfold MT at hM
  repeat (refine sd ?_)
  refine Call.name [(0, []), (0, []), (2001, [])] rfl trivial (CallP.intro hM [(1000, (1000, 0, none)), (1001, (1001, 0, none)), (1002, (1002, 0, none)), (1003, (2001, 0, none)), (1005, (305, 0, none))] rfl ?_ rfl ?_ rfl ?_)
  · exact fc
  · repeat' (first | (show AllP _; first | exact trivial | refine AllP.app ?_ ?_ | refine AllP.appd ?_ ?_ | refine AllP.cons ?_ ?_) | with_reducible rfl | with_reducible assumption | omega | (simp only [rng, Ix.val, addQ_eq, addI, sz3, sz4, sz5, sz25, sz32, sz33, sz34, sz38, sz40, sz42, sz49, sz66, sz67, sz68, sz69, sz73, sz74, sz76, sz77, sz78] <;> omega) | (simp only [rng, Ix.val, Int.toNat_natCast, mulE_eq, addQ_eq, addI, Option.getD_none, Option.getD_some, List.length_take, List.length_drop, List.length_append, List.length_set, List.length_replicate, sz3, sz4, sz5, sz25, sz32, sz33, sz34, sz38, sz40, sz42, sz49, sz66, sz67, sz68, sz69, sz73, sz74, sz76, sz77, sz78, *] <;> omega) | (simp only [Ix.val]; with_reducible assumption) | exact UInt8.toNat_lt _ | (apply Eq.trans; (with_reducible assumption); exact rfl) | exact rfl | exact fun _ _ => rfl)
    all_goals first | exact rwF_len rfl (by first | exact nameB_length _ | rfl)
  rintro v M' ⟨n', c', hn', hc', rfl, rfl⟩
  obtain rfl : n' = 5 := by rw [← hn']; exact xT5_len
  have hky : kyB 5 = nameB 5 := rfl
  dsimp only [putT, afterM, newEnt, ren, renA, renS, renL, look, getM, getT, ev, evL, ofVal, cond_true, cond_false, Nat.beq_eq, act, isPar, ownPar, Ent.isOwn]
  clear hM
  repeat (refine sd ?_)
  refine Join.intro (σ := Nat) (fun c => 6 ≤ c) (fun c => ([(1, .ptr 1000 0 none), (2, .iep 0 0 1 [(32, .a8 (nameB 1))]), (4, .iep 0 0 1 [(32, .a8 (nameB 2))]), (6, .iep 0 0 1 [(32, .a8 (nameB 3))]), (8, .iep 0 0 1 [(32, .a8 (nameB 4))]), (10, .iep 0 0 1 [(32, .a8 (nameB 5))]), (12, .iep 0 0 1 [(32, .a8 (nameB 6))]), (13, .tt)], [(1000, .mem true 0 [(1, .sl 1001 0 0 6 c), (1, .mp 1002)]), (1001, .mem true (mulE (c - 6) 3) [(6 * 3, .arr 6 3 (ttF xT6))]), (1002, .map (.si (mpL xT6)))])) ?_ ?_
  · refine Cut.intro (σ := Nat) (fun c => 5 ≤ c) (fun c => ([(1, .ptr 1000 0 none), (2, .iep 0 0 1 [(32, .a8 (nameB 1))]), (4, .iep 0 0 1 [(32, .a8 (nameB 2))]), (6, .iep 0 0 1 [(32, .a8 (nameB 3))]), (8, .iep 0 0 1 [(32, .a8 (nameB 4))]), (10, .iep 0 0 1 [(32, .a8 (nameB 5))])], [(1000, .mem true 0 [(1, .sl 1001 0 0 5 c), (1, .mp 1002)]), (1001, .mem true (mulE (c - 5) 3) [(5 * 3, .arr 5 3 (ttF xT5))]), (1002, .map (.si (mpL xT5)))])) c' hc' ?_ ?_
    · refine Le.ghost [.keep 10] [(10, 0)] [(1001, (305, 0, none))] rfl trivial rfl rfl ?_ rfl ?_ rfl
      · exact fc
      · exact fc
    rintro c hc
    have hc : 5 ≤ c := hc
    have hM := fn16 xT5 5 c xT5_len (by decide) hc xT5_ok 8 [nameB 5, [120] ++ nameB 2] 2 rfl (by decide) (of_decide_eq_true (by kernel_rfl))
    rw [xT5_mk] at hM
    unfold MT at hM
    refine Draw.intro [[], [], [], [2], [], [2, 3, 4], [1, 2, 3, 4, 5], [0, 1, 2, 3, 4, 5, 6], [0, 1, 2, 3, 4, 5, 6, 7], [0, 1, 2, 3, 4, 5, 6, 7, 8], [0, 1, 2, 3, 4, 5, 6, 7, 8], [], [0, 1, 2, 3, 4, 5, 6, 7, 8, 9, 11], [0, 1, 2, 3, 4, 5, 6, 7, 8, 9, 10, 11, 12], []] [0, 1, 2, 4, 11, 3, 5, 6, 7, 8, 9, 10, 12, 13] (by kernel_rfl) ?_
    repeat (refine sd ?_)
    refine Grow.intro [] rfl rfl ?_
    repeat (refine sd ?_)
    refine fun cx hcx => ?_
    repeat (refine sd ?_)
    refine Grow.intro [(64, .mem true (cx - 33) [(33, .a8 (dropQ 0 (UInt8.ofNat 120 :: List.replicate 0 0) ++ List.take 32 (List.drop 0 (nameB 2))))]), (61, .dead)] rfl rfl ?_
    repeat (refine sd ?_)
    have hx120 : [120] ++ nameB 2 = dropQ 0 (UInt8.ofNat 120 :: List.replicate 0 0) ++ List.take 32 (List.drop 0 (nameB 2)) := by rw [dropQ_eq]; show _ = (UInt8.ofNat 120 :: List.replicate 0 0) ++ (nameB 2).take 32; rw [List.take_of_length_le (Nat.le_of_eq (nameB_length 2))]; rfl
    have hx33 : (dropQ 0 (UInt8.ofNat 120 :: List.replicate 0 0) ++ List.take 32 (List.drop 0 (nameB 2))).length = 33 := by rw [← hx120, List.length_append, nameB_length]; rfl
    refine And.intro ?_ ?_
    · refine Call.name [(0, []), (0, []), (2001, [])] rfl trivial (CallP.intro hM [(1000, (1000, 0, none)), (1001, (1001, 0, none)), (1002, (1002, 0, none)), (1003, (2001, 0, none)), (1005, (305, 0, none))] rfl ?_ rfl ?_ rfl ?_)
      · exact fc
      · repeat' (first | (show AllP _; first | exact trivial | refine AllP.app ?_ ?_ | refine AllP.appd ?_ ?_ | refine AllP.cons ?_ ?_) | with_reducible rfl | with_reducible assumption | omega | (simp only [rng, Ix.val, addQ_eq, addI, sz3, sz4, sz5, sz25, sz32, sz33, sz34, sz38, sz40, sz42, sz49, sz66, sz67, sz68, sz69, sz73, sz74, sz76, sz77, sz78] <;> omega) | (simp only [rng, Ix.val, Int.toNat_natCast, mulE_eq, addQ_eq, addI, Option.getD_none, Option.getD_some, List.length_take, List.length_drop, List.length_append, List.length_set, List.length_replicate, sz3, sz4, sz5, sz25, sz32, sz33, sz34, sz38, sz40, sz42, sz49, sz66, sz67, sz68, sz69, sz73, sz74, sz76, sz77, sz78, *] <;> omega) | (simp only [Ix.val]; with_reducible assumption) | exact UInt8.toNat_lt _ | (apply Eq.trans; (with_reducible assumption); exact rfl) | exact rfl | exact fun _ _ => rfl)
        all_goals first | exact rwF_len rfl (by first | exact nameB_length _ | rfl) | exact rwF_len hx120 hx33
      rintro v M' ⟨n', c', hn', hc', rfl, rfl⟩
      obtain rfl : n' = 6 := by rw [← hn']; exact xT6_len
      have hky : kyB 6 = nameB 6 := rfl
      dsimp only [putT, afterM, newEnt, ren, renA, renS, renL, look, getM, getT, ev, evL, ofVal, cond_true, cond_false, Nat.beq_eq, act, isPar, ownPar, Ent.isOwn]
      clear hM
      repeat (refine sd ?_)
      refine ⟨c', hc', Le.ghost [.keep 12] [(12, 0)] [(1001, (305, 0, none))] rfl trivial rfl rfl ?_ rfl ?_ rfl⟩
      · exact fc
      · exact fc
    · refine Call.name [(0, []), (0, []), (2001, [])] rfl trivial (CallP.intro hM [(1000, (1000, 0, none)), (1001, (1001, 0, none)), (1002, (1002, 0, none)), (1003, (2001, 0, none)), (1005, (305, 0, none))] rfl ?_ rfl ?_ rfl ?_)
      · exact fc
      · repeat' (first | (show AllP _; first | exact trivial | refine AllP.app ?_ ?_ | refine AllP.appd ?_ ?_ | refine AllP.cons ?_ ?_) | with_reducible rfl | with_reducible assumption | omega | (simp only [rng, Ix.val, addQ_eq, addI, sz3, sz4, sz5, sz25, sz32, sz33, sz34, sz38, sz40, sz42, sz49, sz66, sz67, sz68, sz69, sz73, sz74, sz76, sz77, sz78] <;> omega) | (simp only [rng, Ix.val, Int.toNat_natCast, mulE_eq, addQ_eq, addI, Option.getD_none, Option.getD_some, List.length_take, List.length_drop, List.length_append, List.length_set, List.length_replicate, sz3, sz4, sz5, sz25, sz32, sz33, sz34, sz38, sz40, sz42, sz49, sz66, sz67, sz68, sz69, sz73, sz74, sz76, sz77, sz78, *] <;> omega) | (simp only [Ix.val]; with_reducible assumption) | exact UInt8.toNat_lt _ | (apply Eq.trans; (with_reducible assumption); exact rfl) | exact rfl | exact fun _ _ => rfl)
        all_goals first | exact rwF_len rfl (by first | exact nameB_length _ | rfl) | exact rwF_len hx120 hx33
      rintro v M' ⟨n', c', hn', hc', rfl, rfl⟩
      obtain rfl : n' = 6 := by rw [← hn']; exact xT6_len
      have hky : kyB 6 = nameB 6 := rfl
      dsimp only [putT, afterM, newEnt, ren, renA, renS, renL, look, getM, getT, ev, evL, ofVal, cond_true, cond_false, Nat.beq_eq, act, isPar, ownPar, Ent.isOwn]
      clear hM
      repeat (refine sd ?_)
      refine ⟨c', hc', Le.ghost [.keep 12] [(12, 0)] [(1001, (305, 0, none))] rfl trivial rfl rfl ?_ rfl ?_ rfl⟩
      · exact fc
      · exact fc
  rintro c hc
  have hc : 6 ≤ c := hc
  have hK := fn12 xT6 6 xT6_len (by decide) xT6_ok xS1 2 (by rw [xS1_eq]; rfl) (by decide) (of_decide_eq_true (by kernel_rfl))
  refine Draw.intro [[], [], [], [1, 2], [0, 1, 2, 3], [0, 1, 2, 3, 4]] [0, 1, 2, 3, 4, 5] (by kernel_rfl) ?_
  repeat (refine sd ?_)
  refine Call.name [(0, []), (2001, [])] rfl trivial (CallP.intro hK [(1000, (1000, 0, none)), (1001, (1001, 0, none)), (1002, (1002, 0, none)), (1003, (2001, 0, none)), (1005, (410, 0, none)), (1006, (411, 0, none))] rfl ?_ rfl ?_ rfl ?_)
  · exact fc
  · repeat' (first | (show AllP _; first | exact trivial | refine AllP.app ?_ ?_ | refine AllP.appd ?_ ?_ | refine AllP.cons ?_ ?_) | with_reducible rfl | with_reducible assumption | omega | (simp only [rng, Ix.val, addQ_eq, addI, sz3, sz4, sz5, sz25, sz32, sz33, sz34, sz38, sz40, sz42, sz49, sz66, sz67, sz68, sz69, sz73, sz74, sz76, sz77, sz78] <;> omega) | (simp only [rng, Ix.val, Int.toNat_natCast, mulE_eq, addQ_eq, addI, Option.getD_none, Option.getD_some, List.length_take, List.length_drop, List.length_append, List.length_set, List.length_replicate, sz3, sz4, sz5, sz25, sz32, sz33, sz34, sz38, sz40, sz42, sz49, sz66, sz67, sz68, sz69, sz73, sz74, sz76, sz77, sz78, *] <;> omega) | (simp only [Ix.val]; with_reducible assumption) | exact UInt8.toNat_lt _ | (apply Eq.trans; (with_reducible assumption); exact rfl) | exact rfl | exact fun _ _ => rfl)
    all_goals (rw [xS1_eq]; exact rwF_len rfl (nameB_length _))
  rintro v M' ⟨rfl, rfl⟩
  clear hK
  dsimp only [putT, afterM, newEnt, ren, renA, renS, renL, look, getM, getT, ev, evL, ofVal, cond_true, cond_false, Nat.beq_eq, act, isPar, ownPar, Ent.isOwn]
  repeat (refine sd ?_)
  refine Cut.intro (σ := Nat) (fun c => 6 ≤ c) (fun c => ([(1, .ptr 1000 0 none), (2, .iep 0 0 1 [(32, .a8 (nameB 1))]), (4, .iep 0 0 1 [(32, .a8 (nameB 2))]), (6, .iep 0 0 1 [(32, .a8 (nameB 3))]), (8, .iep 0 0 1 [(32, .a8 (nameB 4))]), (10, .iep 0 0 1 [(32, .a8 (nameB 5))]), (12, .iep 0 0 1 [(32, .a8 (nameB 6))]), (13, .tt), (14, .ptr 410 0 none)], [(1000, .mem true 0 [(1, .sl 1001 0 0 6 c), (1, .mp 1002)]), (1001, .mem true (mulE (c - 6) 3) [(6 * 3, .arr 6 3 (ttF xT6))]), (1002, .map (.si (mpL xT6))), (410, .mem true 0 [(1, .ptr 1000 0 none), (1, .i .i64 ((6 : Nat) : Int)), (1, .sl 411 0 0 (6 + 1) (6 + 1))]), (411, .mem true 0 [(6 + 1, .arr (6 + 1) 1 (bF (KnP xT6 xS1)))])])) c hc ?_ ?_
  · refine Le.intro [(410, (410, 0, none)), (411, (411, 0, none))] rfl ?_ rfl ?_ rfl
    · exact fc
    · exact fc
  rintro c hc
  have hc : 6 ≤ c := hc
  have hK := fn12 xT6 6 xT6_len (by decide) xT6_ok xS2 3 (by rw [xS2_eq]; rfl) (by decide) (of_decide_eq_true (by kernel_rfl))
  refine Draw.intro [[], [], [], [], [1, 2, 3], [0, 1, 2, 3, 4], [0, 1, 2, 3, 4, 5]] [0, 1, 2, 3, 4, 5, 6] (by kernel_rfl) ?_
  repeat (refine sd ?_)
  refine Call.name [(0, []), (2001, [])] rfl trivial (CallP.intro hK [(1000, (1000, 0, none)), (1001, (1001, 0, none)), (1002, (1002, 0, none)), (1003, (2001, 0, none)), (1005, (420, 0, none)), (1006, (421, 0, none))] rfl ?_ rfl ?_ rfl ?_)
  · exact fc
  · repeat' (first | (show AllP _; first | exact trivial | refine AllP.app ?_ ?_ | refine AllP.appd ?_ ?_ | refine AllP.cons ?_ ?_) | with_reducible rfl | with_reducible assumption | omega | (simp only [rng, Ix.val, addQ_eq, addI, sz3, sz4, sz5, sz25, sz32, sz33, sz34, sz38, sz40, sz42, sz49, sz66, sz67, sz68, sz69, sz73, sz74, sz76, sz77, sz78] <;> omega) | (simp only [rng, Ix.val, Int.toNat_natCast, mulE_eq, addQ_eq, addI, Option.getD_none, Option.getD_some, List.length_take, List.length_drop, List.length_append, List.length_set, List.length_replicate, sz3, sz4, sz5, sz25, sz32, sz33, sz34, sz38, sz40, sz42, sz49, sz66, sz67, sz68, sz69, sz73, sz74, sz76, sz77, sz78, *] <;> omega) | (simp only [Ix.val]; with_reducible assumption) | exact UInt8.toNat_lt _ | (apply Eq.trans; (with_reducible assumption); exact rfl) | exact rfl | exact fun _ _ => rfl)
    all_goals (rw [xS2_eq]; exact rwF_len rfl (nameB_length _))
  rintro v M' ⟨rfl, rfl⟩
  clear hK
  dsimp only [putT, afterM, newEnt, ren, renA, renS, renL, look, getM, getT, ev, evL, ofVal, cond_true, cond_false, Nat.beq_eq, act, isPar, ownPar, Ent.isOwn]
  repeat (refine sd ?_)
  refine Cut.intro (σ := Nat) (fun c => 6 ≤ c) (fun c => ([(1, .ptr 1000 0 none), (2, .iep 0 0 1 [(32, .a8 (nameB 1))]), (4, .iep 0 0 1 [(32, .a8 (nameB 2))]), (6, .iep 0 0 1 [(32, .a8 (nameB 3))]), (8, .iep 0 0 1 [(32, .a8 (nameB 4))]), (10, .iep 0 0 1 [(32, .a8 (nameB 5))]), (12, .iep 0 0 1 [(32, .a8 (nameB 6))]), (13, .tt), (14, .ptr 410 0 none), (15, .ptr 420 0 none)], [(1000, .mem true 0 [(1, .sl 1001 0 0 6 c), (1, .mp 1002)]), (1001, .mem true (mulE (c - 6) 3) [(6 * 3, .arr 6 3 (ttF xT6))]), (1002, .map (.si (mpL xT6))), (410, .mem true 0 [(1, .ptr 1000 0 none), (1, .i .i64 ((6 : Nat) : Int)), (1, .sl 411 0 0 (6 + 1) (6 + 1))]), (411, .mem true 0 [(6 + 1, .arr (6 + 1) 1 (bF (KnP xT6 xS1)))]), (420, .mem true 0 [(1, .ptr 1000 0 none), (1, .i .i64 ((6 : Nat) : Int)), (1, .sl 421 0 0 (6 + 1) (6 + 1))]), (421, .mem true 0 [(6 + 1, .arr (6 + 1) 1 (bF (KnP xT6 xS2)))])])) c hc ?_ ?_
  · refine Le.intro [(420, (420, 0, none)), (421, (421, 0, none))] rfl ?_ rfl ?_ rfl
    · exact fc
    · exact fc
  rintro c hc
  have hc : 6 ≤ c := hc
  have hK := fn12 xT6 6 xT6_len (by decide) xT6_ok xS3 2 (by rw [xS3_eq]; rfl) (by decide) (of_decide_eq_true (by kernel_rfl))
  refine Draw.intro [[], [], [], [1, 2], [0, 1, 2, 3], [0, 1, 2, 3, 4]] [0, 1, 2, 3, 4, 5] (by kernel_rfl) ?_
  repeat (refine sd ?_)
  refine Call.name [(0, []), (2001, [])] rfl trivial (CallP.intro hK [(1000, (1000, 0, none)), (1001, (1001, 0, none)), (1002, (1002, 0, none)), (1003, (2001, 0, none)), (1005, (430, 0, none)), (1006, (431, 0, none))] rfl ?_ rfl ?_ rfl ?_)
  · exact fc
  · repeat' (first | (show AllP _; first | exact trivial | refine AllP.app ?_ ?_ | refine AllP.appd ?_ ?_ | refine AllP.cons ?_ ?_) | with_reducible rfl | with_reducible assumption | omega | (simp only [rng, Ix.val, addQ_eq, addI, sz3, sz4, sz5, sz25, sz32, sz33, sz34, sz38, sz40, sz42, sz49, sz66, sz67, sz68, sz69, sz73, sz74, sz76, sz77, sz78] <;> omega) | (simp only [rng, Ix.val, Int.toNat_natCast, mulE_eq, addQ_eq, addI, Option.getD_none, Option.getD_some, List.length_take, List.length_drop, List.length_append, List.length_set, List.length_replicate, sz3, sz4, sz5, sz25, sz32, sz33, sz34, sz38, sz40, sz42, sz49, sz66, sz67, sz68, sz69, sz73, sz74, sz76, sz77, sz78, *] <;> omega) | (simp only [Ix.val]; with_reducible assumption) | exact UInt8.toNat_lt _ | (apply Eq.trans; (with_reducible assumption); exact rfl) | exact rfl | exact fun _ _ => rfl)
    all_goals (rw [xS3_eq]; exact rwF_len rfl (nameB_length _))
  rintro v M' ⟨rfl, rfl⟩
  clear hK
  dsimp only [putT, afterM, newEnt, ren, renA, renS, renL, look, getM, getT, ev, evL, ofVal, cond_true, cond_false, Nat.beq_eq, act, isPar, ownPar, Ent.isOwn]
  repeat (refine sd ?_)
  refine Cut.intro (σ := Nat) (fun c => 6 ≤ c) (fun c => ([(1, .ptr 1000 0 none), (2, .iep 0 0 1 [(32, .a8 (nameB 1))]), (4, .iep 0 0 1 [(32, .a8 (nameB 2))]), (6, .iep 0 0 1 [(32, .a8 (nameB 3))]), (8, .iep 0 0 1 [(32, .a8 (nameB 4))]), (10, .iep 0 0 1 [(32, .a8 (nameB 5))]), (12, .iep 0 0 1 [(32, .a8 (nameB 6))]), (13, .tt), (14, .ptr 410 0 none), (15, .ptr 420 0 none), (16, .ptr 430 0 none)], [(1000, .mem true 0 [(1, .sl 1001 0 0 6 c), (1, .mp 1002)]), (1001, .mem true (mulE (c - 6) 3) [(6 * 3, .arr 6 3 (ttF xT6))]), (1002, .map (.si (mpL xT6))), (410, .mem true 0 [(1, .ptr 1000 0 none), (1, .i .i64 ((6 : Nat) : Int)), (1, .sl 411 0 0 (6 + 1) (6 + 1))]), (411, .mem true 0 [(6 + 1, .arr (6 + 1) 1 (bF (KnP xT6 xS1)))]), (420, .mem true 0 [(1, .ptr 1000 0 none), (1, .i .i64 ((6 : Nat) : Int)), (1, .sl 421 0 0 (6 + 1) (6 + 1))]), (421, .mem true 0 [(6 + 1, .arr (6 + 1) 1 (bF (KnP xT6 xS2)))]), (430, .mem true 0 [(1, .ptr 1000 0 none), (1, .i .i64 ((6 : Nat) : Int)), (1, .sl 431 0 0 (6 + 1) (6 + 1))]), (431, .mem true 0 [(6 + 1, .arr (6 + 1) 1 (bF (KnP xT6 xS3)))])])) c hc ?_ ?_
  · refine Le.intro [] rfl ?_ rfl ?_ rfl
    · exact fc
    · exact fc
  rintro c hc
  have hc : 6 ≤ c := hc
  repeat (first | (refine Branch.intro (fun _ => ?_) (fun hn => absurd rfl hn)) | (refine Branch.intro (fun hn => (by with_reducible exact False.elim hn)) (fun _ => ?_)) | (refine Branch.intro (fun _ => ?_) (fun hn => (by with_reducible exact absurd hc hn))) | (refine Branch.intro (fun hn => (by with_reducible exact absurd hn hc)) (fun _ => ?_)) | (refine sd ?_))
  refine Cut.intro (σ := Nat) (fun c => 6 ≤ c) (fun c => ([(1, .ptr 1000 0 none), (2, .iep 0 0 1 [(32, .a8 (nameB 1))]), (4, .iep 0 0 1 [(32, .a8 (nameB 2))]), (6, .iep 0 0 1 [(32, .a8 (nameB 3))]), (8, .iep 0 0 1 [(32, .a8 (nameB 4))]), (10, .iep 0 0 1 [(32, .a8 (nameB 5))]), (12, .iep 0 0 1 [(32, .a8 (nameB 6))]), (13, .tt), (14, .ptr 410 0 none), (15, .ptr 420 0 none), (16, .ptr 430 0 none)], [(1000, .mem true 0 [(1, .sl 1001 0 0 6 c), (1, .mp 1002)]), (1001, .mem true (mulE (c - 6) 3) [(6 * 3, .arr 6 3 (ttF xT6))]), (1002, .map (.si (mpL xT6))), (410, .mem true 0 [(1, .ptr 1000 0 none), (1, .i .i64 ((6 : Nat) : Int)), (1, .sl 411 0 0 (6 + 1) (6 + 1))]), (411, .mem true 0 [(6 + 1, .arr (6 + 1) 1 (bF (KnP xT6 xS1)))]), (420, .mem true 0 [(1, .ptr 1000 0 none), (1, .i .i64 ((6 : Nat) : Int)), (1, .sl 421 0 0 (6 + 1) (6 + 1))]), (421, .mem true 0 [(6 + 1, .arr (6 + 1) 1 (bF (KnP xT6 xS2)))]), (430, .mem true 0 [(1, .ptr 1000 0 none), (1, .i .i64 ((6 : Nat) : Int)), (1, .sl 431 0 0 (6 + 1) (6 + 1))]), (431, .mem true 0 [(6 + 1, .arr (6 + 1) 1 (bF (KnP xT6 xS3)))])])) c hc ?_ ?_
  · refine Le.intro [] rfl ?_ rfl ?_ rfl
    · exact fc
    · exact fc
  rintro c hc
  have hc : 6 ≤ c := hc
  have hLn := fn22 6
  have hk1p := (allOne (K := KnP xT6 xS1) in_3).2 k1p
  have hk1n := fun h => k1n ((allOne (K := KnP xT6 xS1) in_1).1 h)
  have hk1k := fun h => k1k ((allOne (K := KnP xT6 xS1) in_5).1 h)
  have hk2k := (allOne (K := KnP xT6 xS2) in_5).2 k2k
  have hk2n := fun h => k2n ((allOne (K := KnP xT6 xS2) in_1).1 h)
  have hk3m := (allOne (K := KnP xT6 xS3) in_2).2 k3m
  have hk3s := (allOne (K := KnP xT6 xS3) in_4).2 k3s
  have hk3n := fun h => k3n ((allOne (K := KnP xT6 xS3) in_1).1 h)
  repeat (first | (refine Branch.intro (fun _ => ?_) (fun hn => absurd rfl hn)) | (refine Branch.intro (fun hn => (by with_reducible exact False.elim hn)) (fun _ => ?_)) | (refine Branch.intro (fun _ => ?_) (fun hn => (by with_reducible exact absurd hk1p hn))) | (refine Branch.intro (fun hn => (by with_reducible exact absurd hn hk1p)) (fun _ => ?_)) | (refine Branch.intro (fun _ => ?_) (fun hn => (by with_reducible exact absurd hk1n hn))) | (refine Branch.intro (fun hn => (by with_reducible exact absurd hn hk1n)) (fun _ => ?_)) | (refine Branch.intro (fun _ => ?_) (fun hn => (by with_reducible exact absurd hk1k hn))) | (refine Branch.intro (fun hn => (by with_reducible exact absurd hn hk1k)) (fun _ => ?_)) | (refine Branch.intro (fun _ => ?_) (fun hn => (by with_reducible exact absurd hk2k hn))) | (refine Branch.intro (fun hn => (by with_reducible exact absurd hn hk2k)) (fun _ => ?_)) | (refine Branch.intro (fun _ => ?_) (fun hn => (by with_reducible exact absurd hk2n hn))) | (refine Branch.intro (fun hn => (by with_reducible exact absurd hn hk2n)) (fun _ => ?_)) | (refine Branch.intro (fun _ => ?_) (fun hn => (by with_reducible exact absurd hk3m hn))) | (refine Branch.intro (fun hn => (by with_reducible exact absurd hn hk3m)) (fun _ => ?_)) | (refine Branch.intro (fun _ => ?_) (fun hn => (by with_reducible exact absurd hk3s hn))) | (refine Branch.intro (fun hn => (by with_reducible exact absurd hn hk3s)) (fun _ => ?_)) | (refine Branch.intro (fun _ => ?_) (fun hn => (by with_reducible exact absurd hk3n hn))) | (refine Branch.intro (fun hn => (by with_reducible exact absurd hn hk3n)) (fun _ => ?_)) | (refine sd ?_))
  refine Call.intro hLn [(1000, (1000, 0, none)), (1001, (1001, 0, none)), (1002, (1002, 0, none))] rfl fc rfl fc rfl ?_
  rintro v M' ⟨rfl, rfl⟩
  dsimp only [putT, afterM, newEnt, ren, renA, renS, renL, look, getM, getT, ev, evL, ofVal, cond_true, cond_false, Nat.beq_eq, act, isPar, ownPar, Ent.isOwn]
  repeat (first | (refine Branch.intro (fun _ => ?_) (fun hn => absurd rfl hn)) | (refine Branch.intro (fun hn => (by with_reducible exact False.elim hn)) (fun _ => ?_)) | (refine Branch.intro (fun _ => ?_) (fun hn => (by with_reducible exact absurd hk1p hn))) | (refine Branch.intro (fun hn => (by with_reducible exact absurd hn hk1p)) (fun _ => ?_)) | (refine Branch.intro (fun _ => ?_) (fun hn => (by with_reducible exact absurd hk1n hn))) | (refine Branch.intro (fun hn => (by with_reducible exact absurd hn hk1n)) (fun _ => ?_)) | (refine Branch.intro (fun _ => ?_) (fun hn => (by with_reducible exact absurd hk1k hn))) | (refine Branch.intro (fun hn => (by with_reducible exact absurd hn hk1k)) (fun _ => ?_)) | (refine Branch.intro (fun _ => ?_) (fun hn => (by with_reducible exact absurd hk2k hn))) | (refine Branch.intro (fun hn => (by with_reducible exact absurd hn hk2k)) (fun _ => ?_)) | (refine Branch.intro (fun _ => ?_) (fun hn => (by with_reducible exact absurd hk2n hn))) | (refine Branch.intro (fun hn => (by with_reducible exact absurd hn hk2n)) (fun _ => ?_)) | (refine Branch.intro (fun _ => ?_) (fun hn => (by with_reducible exact absurd hk3m hn))) | (refine Branch.intro (fun hn => (by with_reducible exact absurd hn hk3m)) (fun _ => ?_)) | (refine Branch.intro (fun _ => ?_) (fun hn => (by with_reducible exact absurd hk3s hn))) | (refine Branch.intro (fun hn => (by with_reducible exact absurd hn hk3s)) (fun _ => ?_)) | (refine Branch.intro (fun _ => ?_) (fun hn => (by with_reducible exact absurd hk3n hn))) | (refine Branch.intro (fun hn => (by with_reducible exact absurd hn hk3n)) (fun _ => ?_)) | (refine sd ?_))
  refine Call.name [(0, []), (2011, [])] rfl trivial (CallP.intro (fn15 (nameB 3) 32 (nameB_length 3) (by decide) 6 (by decide) (KnP xT6 xS1)) [(1000, (410, 0, none)), (1001, (411, 0, none)), (1002, (1000, 0, none)), (1003, (2011, 0, none))] rfl ?_ rfl ?_ rfl ?_)
  · exact fc
  · exact fc
  rintro v M' ⟨rfl, rfl⟩
  dsimp only [putT, afterM, newEnt, ren, renA, renS, renL, look, getM, getT, ev, evL, ofVal, cond_true, cond_false, Nat.beq_eq, act, isPar, ownPar, Ent.isOwn]
  repeat (first | (refine Branch.intro (fun _ => ?_) (fun hn => absurd rfl hn)) | (refine Branch.intro (fun hn => (by with_reducible exact False.elim hn)) (fun _ => ?_)) | (refine Branch.intro (fun _ => ?_) (fun hn => (by with_reducible exact absurd hk1p hn))) | (refine Branch.intro (fun hn => (by with_reducible exact absurd hn hk1p)) (fun _ => ?_)) | (refine Branch.intro (fun _ => ?_) (fun hn => (by with_reducible exact absurd hk1n hn))) | (refine Branch.intro (fun hn => (by with_reducible exact absurd hn hk1n)) (fun _ => ?_)) | (refine Branch.intro (fun _ => ?_) (fun hn => (by with_reducible exact absurd hk1k hn))) | (refine Branch.intro (fun hn => (by with_reducible exact absurd hn hk1k)) (fun _ => ?_)) | (refine Branch.intro (fun _ => ?_) (fun hn => (by with_reducible exact absurd hk2k hn))) | (refine Branch.intro (fun hn => (by with_reducible exact absurd hn hk2k)) (fun _ => ?_)) | (refine Branch.intro (fun _ => ?_) (fun hn => (by with_reducible exact absurd hk2n hn))) | (refine Branch.intro (fun hn => (by with_reducible exact absurd hn hk2n)) (fun _ => ?_)) | (refine Branch.intro (fun _ => ?_) (fun hn => (by with_reducible exact absurd hk3m hn))) | (refine Branch.intro (fun hn => (by with_reducible exact absurd hn hk3m)) (fun _ => ?_)) | (refine Branch.intro (fun _ => ?_) (fun hn => (by with_reducible exact absurd hk3s hn))) | (refine Branch.intro (fun hn => (by with_reducible exact absurd hn hk3s)) (fun _ => ?_)) | (refine Branch.intro (fun _ => ?_) (fun hn => (by with_reducible exact absurd hk3n hn))) | (refine Branch.intro (fun hn => (by with_reducible exact absurd hn hk3n)) (fun _ => ?_)) | (refine sd ?_))
  refine Call.name [(0, []), (2012, [])] rfl trivial (CallP.intro (fn15 (nameB 1) 32 (nameB_length 1) (by decide) 6 (by decide) (KnP xT6 xS1)) [(1000, (410, 0, none)), (1001, (411, 0, none)), (1002, (1000, 0, none)), (1003, (2012, 0, none))] rfl ?_ rfl ?_ rfl ?_)
  · exact fc
  · exact fc
  rintro v M' ⟨rfl, rfl⟩
  dsimp only [putT, afterM, newEnt, ren, renA, renS, renL, look, getM, getT, ev, evL, ofVal, cond_true, cond_false, Nat.beq_eq, act, isPar, ownPar, Ent.isOwn]
  repeat (first | (refine Branch.intro (fun _ => ?_) (fun hn => absurd rfl hn)) | (refine Branch.intro (fun hn => (by with_reducible exact False.elim hn)) (fun _ => ?_)) | (refine Branch.intro (fun _ => ?_) (fun hn => (by with_reducible exact absurd hk1p hn))) | (refine Branch.intro (fun hn => (by with_reducible exact absurd hn hk1p)) (fun _ => ?_)) | (refine Branch.intro (fun _ => ?_) (fun hn => (by with_reducible exact absurd hk1n hn))) | (refine Branch.intro (fun hn => (by with_reducible exact absurd hn hk1n)) (fun _ => ?_)) | (refine Branch.intro (fun _ => ?_) (fun hn => (by with_reducible exact absurd hk1k hn))) | (refine Branch.intro (fun hn => (by with_reducible exact absurd hn hk1k)) (fun _ => ?_)) | (refine Branch.intro (fun _ => ?_) (fun hn => (by with_reducible exact absurd hk2k hn))) | (refine Branch.intro (fun hn => (by with_reducible exact absurd hn hk2k)) (fun _ => ?_)) | (refine Branch.intro (fun _ => ?_) (fun hn => (by with_reducible exact absurd hk2n hn))) | (refine Branch.intro (fun hn => (by with_reducible exact absurd hn hk2n)) (fun _ => ?_)) | (refine Branch.intro (fun _ => ?_) (fun hn => (by with_reducible exact absurd hk3m hn))) | (refine Branch.intro (fun hn => (by with_reducible exact absurd hn hk3m)) (fun _ => ?_)) | (refine Branch.intro (fun _ => ?_) (fun hn => (by with_reducible exact absurd hk3s hn))) | (refine Branch.intro (fun hn => (by with_reducible exact absurd hn hk3s)) (fun _ => ?_)) | (refine Branch.intro (fun _ => ?_) (fun hn => (by with_reducible exact absurd hk3n hn))) | (refine Branch.intro (fun hn => (by with_reducible exact absurd hn hk3n)) (fun _ => ?_)) | (refine sd ?_))
  refine Call.name [(0, []), (2013, [])] rfl trivial (CallP.intro (fn15 (nameB 5) 32 (nameB_length 5) (by decide) 6 (by decide) (KnP xT6 xS1)) [(1000, (410, 0, none)), (1001, (411, 0, none)), (1002, (1000, 0, none)), (1003, (2013, 0, none))] rfl ?_ rfl ?_ rfl ?_)
  · exact fc
  · exact fc
  rintro v M' ⟨rfl, rfl⟩
  dsimp only [putT, afterM, newEnt, ren, renA, renS, renL, look, getM, getT, ev, evL, ofVal, cond_true, cond_false, Nat.beq_eq, act, isPar, ownPar, Ent.isOwn]
  repeat (first | (refine Branch.intro (fun _ => ?_) (fun hn => absurd rfl hn)) | (refine Branch.intro (fun hn => (by with_reducible exact False.elim hn)) (fun _ => ?_)) | (refine Branch.intro (fun _ => ?_) (fun hn => (by with_reducible exact absurd hk1p hn))) | (refine Branch.intro (fun hn => (by with_reducible exact absurd hn hk1p)) (fun _ => ?_)) | (refine Branch.intro (fun _ => ?_) (fun hn => (by with_reducible exact absurd hk1n hn))) | (refine Branch.intro (fun hn => (by with_reducible exact absurd hn hk1n)) (fun _ => ?_)) | (refine Branch.intro (fun _ => ?_) (fun hn => (by with_reducible exact absurd hk1k hn))) | (refine Branch.intro (fun hn => (by with_reducible exact absurd hn hk1k)) (fun _ => ?_)) | (refine Branch.intro (fun _ => ?_) (fun hn => (by with_reducible exact absurd hk2k hn))) | (refine Branch.intro (fun hn => (by with_reducible exact absurd hn hk2k)) (fun _ => ?_)) | (refine Branch.intro (fun _ => ?_) (fun hn => (by with_reducible exact absurd hk2n hn))) | (refine Branch.intro (fun hn => (by with_reducible exact absurd hn hk2n)) (fun _ => ?_)) | (refine Branch.intro (fun _ => ?_) (fun hn => (by with_reducible exact absurd hk3m hn))) | (refine Branch.intro (fun hn => (by with_reducible exact absurd hn hk3m)) (fun _ => ?_)) | (refine Branch.intro (fun _ => ?_) (fun hn => (by with_reducible exact absurd hk3s hn))) | (refine Branch.intro (fun hn => (by with_reducible exact absurd hn hk3s)) (fun _ => ?_)) | (refine Branch.intro (fun _ => ?_) (fun hn => (by with_reducible exact absurd hk3n hn))) | (refine Branch.intro (fun hn => (by with_reducible exact absurd hn hk3n)) (fun _ => ?_)) | (refine sd ?_))
  refine Call.name [(0, []), (2014, [])] rfl trivial (CallP.intro (fn15 (nameB 5) 32 (nameB_length 5) (by decide) 6 (by decide) (KnP xT6 xS2)) [(1000, (420, 0, none)), (1001, (421, 0, none)), (1002, (1000, 0, none)), (1003, (2014, 0, none))] rfl ?_ rfl ?_ rfl ?_)
  · exact fc
  · exact fc
  rintro v M' ⟨rfl, rfl⟩
  dsimp only [putT, afterM, newEnt, ren, renA, renS, renL, look, getM, getT, ev, evL, ofVal, cond_true, cond_false, Nat.beq_eq, act, isPar, ownPar, Ent.isOwn]
  repeat (first | (refine Branch.intro (fun _ => ?_) (fun hn => absurd rfl hn)) | (refine Branch.intro (fun hn => (by with_reducible exact False.elim hn)) (fun _ => ?_)) | (refine Branch.intro (fun _ => ?_) (fun hn => (by with_reducible exact absurd hk1p hn))) | (refine Branch.intro (fun hn => (by with_reducible exact absurd hn hk1p)) (fun _ => ?_)) | (refine Branch.intro (fun _ => ?_) (fun hn => (by with_reducible exact absurd hk1n hn))) | (refine Branch.intro (fun hn => (by with_reducible exact absurd hn hk1n)) (fun _ => ?_)) | (refine Branch.intro (fun _ => ?_) (fun hn => (by with_reducible exact absurd hk1k hn))) | (refine Branch.intro (fun hn => (by with_reducible exact absurd hn hk1k)) (fun _ => ?_)) | (refine Branch.intro (fun _ => ?_) (fun hn => (by with_reducible exact absurd hk2k hn))) | (refine Branch.intro (fun hn => (by with_reducible exact absurd hn hk2k)) (fun _ => ?_)) | (refine Branch.intro (fun _ => ?_) (fun hn => (by with_reducible exact absurd hk2n hn))) | (refine Branch.intro (fun hn => (by with_reducible exact absurd hn hk2n)) (fun _ => ?_)) | (refine Branch.intro (fun _ => ?_) (fun hn => (by with_reducible exact absurd hk3m hn))) | (refine Branch.intro (fun hn => (by with_reducible exact absurd hn hk3m)) (fun _ => ?_)) | (refine Branch.intro (fun _ => ?_) (fun hn => (by with_reducible exact absurd hk3s hn))) | (refine Branch.intro (fun hn => (by with_reducible exact absurd hn hk3s)) (fun _ => ?_)) | (refine Branch.intro (fun _ => ?_) (fun hn => (by with_reducible exact absurd hk3n hn))) | (refine Branch.intro (fun hn => (by with_reducible exact absurd hn hk3n)) (fun _ => ?_)) | (refine sd ?_))
  refine Call.name [(0, []), (2015, [])] rfl trivial (CallP.intro (fn15 (nameB 1) 32 (nameB_length 1) (by decide) 6 (by decide) (KnP xT6 xS2)) [(1000, (420, 0, none)), (1001, (421, 0, none)), (1002, (1000, 0, none)), (1003, (2015, 0, none))] rfl ?_ rfl ?_ rfl ?_)
  · exact fc
  · exact fc
  rintro v M' ⟨rfl, rfl⟩
  dsimp only [putT, afterM, newEnt, ren, renA, renS, renL, look, getM, getT, ev, evL, ofVal, cond_true, cond_false, Nat.beq_eq, act, isPar, ownPar, Ent.isOwn]
  repeat (first | (refine Branch.intro (fun _ => ?_) (fun hn => absurd rfl hn)) | (refine Branch.intro (fun hn => (by with_reducible exact False.elim hn)) (fun _ => ?_)) | (refine Branch.intro (fun _ => ?_) (fun hn => (by with_reducible exact absurd hk1p hn))) | (refine Branch.intro (fun hn => (by with_reducible exact absurd hn hk1p)) (fun _ => ?_)) | (refine Branch.intro (fun _ => ?_) (fun hn => (by with_reducible exact absurd hk1n hn))) | (refine Branch.intro (fun hn => (by with_reducible exact absurd hn hk1n)) (fun _ => ?_)) | (refine Branch.intro (fun _ => ?_) (fun hn => (by with_reducible exact absurd hk1k hn))) | (refine Branch.intro (fun hn => (by with_reducible exact absurd hn hk1k)) (fun _ => ?_)) | (refine Branch.intro (fun _ => ?_) (fun hn => (by with_reducible exact absurd hk2k hn))) | (refine Branch.intro (fun hn => (by with_reducible exact absurd hn hk2k)) (fun _ => ?_)) | (refine Branch.intro (fun _ => ?_) (fun hn => (by with_reducible exact absurd hk2n hn))) | (refine Branch.intro (fun hn => (by with_reducible exact absurd hn hk2n)) (fun _ => ?_)) | (refine Branch.intro (fun _ => ?_) (fun hn => (by with_reducible exact absurd hk3m hn))) | (refine Branch.intro (fun hn => (by with_reducible exact absurd hn hk3m)) (fun _ => ?_)) | (refine Branch.intro (fun _ => ?_) (fun hn => (by with_reducible exact absurd hk3s hn))) | (refine Branch.intro (fun hn => (by with_reducible exact absurd hn hk3s)) (fun _ => ?_)) | (refine Branch.intro (fun _ => ?_) (fun hn => (by with_reducible exact absurd hk3n hn))) | (refine Branch.intro (fun hn => (by with_reducible exact absurd hn hk3n)) (fun _ => ?_)) | (refine sd ?_))
  refine Call.name [(0, []), (2016, [])] rfl trivial (CallP.intro (fn15 (nameB 2) 32 (nameB_length 2) (by decide) 6 (by decide) (KnP xT6 xS3)) [(1000, (430, 0, none)), (1001, (431, 0, none)), (1002, (1000, 0, none)), (1003, (2016, 0, none))] rfl ?_ rfl ?_ rfl ?_)
  · exact fc
  · exact fc
  rintro v M' ⟨rfl, rfl⟩
  dsimp only [putT, afterM, newEnt, ren, renA, renS, renL, look, getM, getT, ev, evL, ofVal, cond_true, cond_false, Nat.beq_eq, act, isPar, ownPar, Ent.isOwn]
  repeat (first | (refine Branch.intro (fun _ => ?_) (fun hn => absurd rfl hn)) | (refine Branch.intro (fun hn => (by with_reducible exact False.elim hn)) (fun _ => ?_)) | (refine Branch.intro (fun _ => ?_) (fun hn => (by with_reducible exact absurd hk1p hn))) | (refine Branch.intro (fun hn => (by with_reducible exact absurd hn hk1p)) (fun _ => ?_)) | (refine Branch.intro (fun _ => ?_) (fun hn => (by with_reducible exact absurd hk1n hn))) | (refine Branch.intro (fun hn => (by with_reducible exact absurd hn hk1n)) (fun _ => ?_)) | (refine Branch.intro (fun _ => ?_) (fun hn => (by with_reducible exact absurd hk1k hn))) | (refine Branch.intro (fun hn => (by with_reducible exact absurd hn hk1k)) (fun _ => ?_)) | (refine Branch.intro (fun _ => ?_) (fun hn => (by with_reducible exact absurd hk2k hn))) | (refine Branch.intro (fun hn => (by with_reducible exact absurd hn hk2k)) (fun _ => ?_)) | (refine Branch.intro (fun _ => ?_) (fun hn => (by with_reducible exact absurd hk2n hn))) | (refine Branch.intro (fun hn => (by with_reducible exact absurd hn hk2n)) (fun _ => ?_)) | (refine Branch.intro (fun _ => ?_) (fun hn => (by with_reducible exact absurd hk3m hn))) | (refine Branch.intro (fun hn => (by with_reducible exact absurd hn hk3m)) (fun _ => ?_)) | (refine Branch.intro (fun _ => ?_) (fun hn => (by with_reducible exact absurd hk3s hn))) | (refine Branch.intro (fun hn => (by with_reducible exact absurd hn hk3s)) (fun _ => ?_)) | (refine Branch.intro (fun _ => ?_) (fun hn => (by with_reducible exact absurd hk3n hn))) | (refine Branch.intro (fun hn => (by with_reducible exact absurd hn hk3n)) (fun _ => ?_)) | (refine sd ?_))
  refine Call.name [(0, []), (2017, [])] rfl trivial (CallP.intro (fn15 (nameB 4) 32 (nameB_length 4) (by decide) 6 (by decide) (KnP xT6 xS3)) [(1000, (430, 0, none)), (1001, (431, 0, none)), (1002, (1000, 0, none)), (1003, (2017, 0, none))] rfl ?_ rfl ?_ rfl ?_)
  · exact fc
  · exact fc
  rintro v M' ⟨rfl, rfl⟩
  dsimp only [putT, afterM, newEnt, ren, renA, renS, renL, look, getM, getT, ev, evL, ofVal, cond_true, cond_false, Nat.beq_eq, act, isPar, ownPar, Ent.isOwn]
  repeat (first | (refine Branch.intro (fun _ => ?_) (fun hn => absurd rfl hn)) | (refine Branch.intro (fun hn => (by with_reducible exact False.elim hn)) (fun _ => ?_)) | (refine Branch.intro (fun _ => ?_) (fun hn => (by with_reducible exact absurd hk1p hn))) | (refine Branch.intro (fun hn => (by with_reducible exact absurd hn hk1p)) (fun _ => ?_)) | (refine Branch.intro (fun _ => ?_) (fun hn => (by with_reducible exact absurd hk1n hn))) | (refine Branch.intro (fun hn => (by with_reducible exact absurd hn hk1n)) (fun _ => ?_)) | (refine Branch.intro (fun _ => ?_) (fun hn => (by with_reducible exact absurd hk1k hn))) | (refine Branch.intro (fun hn => (by with_reducible exact absurd hn hk1k)) (fun _ => ?_)) | (refine Branch.intro (fun _ => ?_) (fun hn => (by with_reducible exact absurd hk2k hn))) | (refine Branch.intro (fun hn => (by with_reducible exact absurd hn hk2k)) (fun _ => ?_)) | (refine Branch.intro (fun _ => ?_) (fun hn => (by with_reducible exact absurd hk2n hn))) | (refine Branch.intro (fun hn => (by with_reducible exact absurd hn hk2n)) (fun _ => ?_)) | (refine Branch.intro (fun _ => ?_) (fun hn => (by with_reducible exact absurd hk3m hn))) | (refine Branch.intro (fun hn => (by with_reducible exact absurd hn hk3m)) (fun _ => ?_)) | (refine Branch.intro (fun _ => ?_) (fun hn => (by with_reducible exact absurd hk3s hn))) | (refine Branch.intro (fun hn => (by with_reducible exact absurd hn hk3s)) (fun _ => ?_)) | (refine Branch.intro (fun _ => ?_) (fun hn => (by with_reducible exact absurd hk3n hn))) | (refine Branch.intro (fun hn => (by with_reducible exact absurd hn hk3n)) (fun _ => ?_)) | (refine sd ?_))
  refine Call.name [(0, []), (2018, [])] rfl trivial (CallP.intro (fn15 (nameB 1) 32 (nameB_length 1) (by decide) 6 (by decide) (KnP xT6 xS3)) [(1000, (430, 0, none)), (1001, (431, 0, none)), (1002, (1000, 0, none)), (1003, (2018, 0, none))] rfl ?_ rfl ?_ rfl ?_)
  · exact fc
  · exact fc
  rintro v M' ⟨rfl, rfl⟩
  dsimp only [putT, afterM, newEnt, ren, renA, renS, renL, look, getM, getT, ev, evL, ofVal, cond_true, cond_false, Nat.beq_eq, act, isPar, ownPar, Ent.isOwn]
  repeat (first | (refine Branch.intro (fun _ => ?_) (fun hn => absurd rfl hn)) | (refine Branch.intro (fun hn => (by with_reducible exact False.elim hn)) (fun _ => ?_)) | (refine Branch.intro (fun _ => ?_) (fun hn => (by with_reducible exact absurd hk1p hn))) | (refine Branch.intro (fun hn => (by with_reducible exact absurd hn hk1p)) (fun _ => ?_)) | (refine Branch.intro (fun _ => ?_) (fun hn => (by with_reducible exact absurd hk1n hn))) | (refine Branch.intro (fun hn => (by with_reducible exact absurd hn hk1n)) (fun _ => ?_)) | (refine Branch.intro (fun _ => ?_) (fun hn => (by with_reducible exact absurd hk1k hn))) | (refine Branch.intro (fun hn => (by with_reducible exact absurd hn hk1k)) (fun _ => ?_)) | (refine Branch.intro (fun _ => ?_) (fun hn => (by with_reducible exact absurd hk2k hn))) | (refine Branch.intro (fun hn => (by with_reducible exact absurd hn hk2k)) (fun _ => ?_)) | (refine Branch.intro (fun _ => ?_) (fun hn => (by with_reducible exact absurd hk2n hn))) | (refine Branch.intro (fun hn => (by with_reducible exact absurd hn hk2n)) (fun _ => ?_)) | (refine Branch.intro (fun _ => ?_) (fun hn => (by with_reducible exact absurd hk3m hn))) | (refine Branch.intro (fun hn => (by with_reducible exact absurd hn hk3m)) (fun _ => ?_)) | (refine Branch.intro (fun _ => ?_) (fun hn => (by with_reducible exact absurd hk3s hn))) | (refine Branch.intro (fun hn => (by with_reducible exact absurd hn hk3s)) (fun _ => ?_)) | (refine Branch.intro (fun _ => ?_) (fun hn => (by with_reducible exact absurd hk3n hn))) | (refine Branch.intro (fun hn => (by with_reducible exact absurd hn hk3n)) (fun _ => ?_)) | (refine sd ?_))
  refine Ret.intro .tt [] [] rfl ?_ rfl rfl ?_ rfl trivial rfl
  · exact fc
  · exact fc

end Go.Proofs.Ytoaaplgjacjlpaa
