/- What the functions of the program compute. No condition. -/
import Derived.Test.YtoaaplgjacjlpaaHwTm10ToTm10
set_option linter.unusedSimpArgs false
set_option linter.unusedVariables false
namespace Go.Proofs.Ytoaaplgjacjlpaa
open Go Go.Sx

/-! Parts that are told: law12.Part.cut, law12.Part.bytes. -/

/-- A part that is told: numbers of names, bytes. -/
abbrev Pt := List Int × List UInt8
def ptS (p : Pt) : SV := .agg [(1, .isl 0 p.1.length 1 [(p.1.length * 1, .ai p.1)]), (1, .isl 0 p.2.length 1 [(p.2.length * 1, .a8 p.2)])]
def ctN (made : Nat) : List Int → List UInt8
  | [] => []
  | z :: r => (if 1 ≤ z ∧ z ≤ (made : Int) then nameB z.toNat else []) ++ ctN made r
@[irreducible] def ctT (p : Pt) (made i : Nat) : List UInt8 := ctN made (p.1.take i)
@[irreducible] def ctB (p : Pt) (made most : Nat) : List UInt8 := ctN made (p.1.take 4) ++ p.2.take most
theorem ctN_app (made : Nat) : ∀ (l : List Int) (z : Int), ctN made (l ++ [z]) = ctN made l ++ (if 1 ≤ z ∧ z ≤ (made : Int) then nameB z.toNat else [])
  | [], z => by simp [ctN]
  | y :: r, z => by
    show _ ++ ctN made (r ++ [z]) = _ ++ ctN made r ++ _
    rw [ctN_app made r z, List.append_assoc]
theorem ctN_le (made : Nat) : ∀ l : List Int, (ctN made l).length ≤ 32 * l.length
  | [] => Nat.le_refl _
  | y :: r => by
    have := ctN_le made r
    show (_ ++ ctN made r).length ≤ 32 * (r.length + 1)
    rw [List.length_append]
    split
    · rw [nameB_length]; omega
    · simp only [List.length_nil]; omega
theorem ctT_zero (p : Pt) (made : Nat) : ctT p made 0 = [] := by unfold ctT; rfl
theorem ctT_yes {p : Pt} {made i : Nat} (h : i < p.1.length) (hz : 1 ≤ p.1.getD i 0 ∧ p.1.getD i 0 ≤ (made : Int)) : ctT p made (i + 1) = ctT p made i ++ nameB (p.1.getD i 0).toNat := by
  unfold ctT; rw [take_succ_getD 0 p.1 i h, ctN_app, if_pos hz]
theorem ctT_no {p : Pt} {made i : Nat} (h : i < p.1.length) (hz : ¬ (1 ≤ p.1.getD i 0 ∧ p.1.getD i 0 ≤ (made : Int))) : ctT p made (i + 1) = ctT p made i := by
  unfold ctT; rw [take_succ_getD 0 p.1 i h, ctN_app, if_neg hz, List.append_nil]
theorem ctT_end {p : Pt} {made i most : Nat} (h : i = p.1.length ∨ i = 4) (h4 : i ≤ 4) : ctB p made most = ctT p made i ++ p.2.take most := by
  unfold ctT ctB
  have : p.1.take i = p.1.take 4 := by
    rcases h with h | h
    · rw [List.take_of_length_le (by omega), List.take_of_length_le (by omega)]
    · rw [h]
  rw [this]
theorem ctT_le (p : Pt) (made i : Nat) : (ctT p made i).length ≤ 32 * i := by
  unfold ctT
  have := ctN_le made (p.1.take i)
  rw [List.length_take] at this
  omega


set_option maxRecDepth 100000 in
set_option maxHeartbeats 1000000 in
theorem fn23 (p : Pt) (h1 : p.1.length ≤ maxLen) (h2 : p.2.length ≤ maxLen) (made : Nat) (hm : made < 4294967296) (most : Nat) (hmo : most ≤ 1000000) : Sx.Fn Γ.P 23 [ptS p, .i .i64 (made : Int), .i .i64 (most : Int)] []
    (fun v M => ∃ N c, (ctB p made most).length = N ∧ N ≤ c ∧ v = .sl 1001 0 0 N c ∧ M = [(1001, .mem true (c - N) [(N, .a8 (ctB p made most))])]) := by
  have hmx : maxLen = 9223372036854775807 := by decide
  have hby : (Γ.ty 5).bytes = 1 := rfl
  unfold ptS
  refine fn_of (Γ := Γ) (fn := Try.f23) rfl rfl rfl rfl ?_
  repeat (refine sd ?_)
  obtain ⟨a, ha⟩ : ∃ a, p.1.length = a := ⟨_, rfl⟩
  obtain ⟨bn, hbn⟩ : ∃ bn, p.2.length = bn := ⟨_, rfl⟩
  have hz0 := ctT_zero p made
  refine Loop.intro (σ := Nat × Nat × Nat) (fun s => s.1 ≤ p.1.length ∧ s.1 ≤ 4 ∧ (ctT p made s.1).length = s.2.1 ∧ s.2.1 ≤ s.2.2)
    (fun s => ([(1, .i .i64 (made : Int)), (2, .i .i64 (most : Int)), (3, .ptr 3 0 none), (7, .sl 204 0 0 s.2.1 s.2.2), (8, .i .i64 (s.1 : Int))], [(3, .mem true 0 [(1, .isl 0 p.1.length 1 [(p.1.length * 1, .ai p.1)]), (1, .isl 0 p.2.length 1 [(p.2.length * 1, .a8 p.2)])]), (204, .mem true (s.2.2 - s.2.1) [(s.2.1, .a8 (ctT p made s.1))])]))
    (fun s => 4 - s.1) (0, 0, 0) ⟨Nat.zero_le _, Nat.zero_le _, by show (ctT p made 0).length = 0; rw [hz0]; rfl, Nat.le_refl _⟩ ?_ ?_
  · refine Le.ghost [.own 204 [(0, .a8 [])]] [(7, 204)] [] rfl ⟨rfl, rfl, trivial⟩ rfl rfl ?_ rfl ?_ rfl
    · exact fc
    · exact fc
  rintro ⟨i, N, c⟩ ⟨hi, hi4, hN, hNc⟩
  have hi : i ≤ p.1.length := hi
  have hi4 : i ≤ 4 := hi4
  have hN : (ctT p made i).length = N := hN
  have hNc : N ≤ c := hNc
  have hle := ctT_le p made i
  repeat (refine sd ?_)
  refine Branch.intro (fun hc1 => ?_) (fun hc1 => ?_)
  · have hc1 : (i : Int) < p.1.length := hc1
    refine Branch.intro (fun hc2 => ?_) (fun hc2 => ?_)
    · have hc2 : (i : Int) < 4 := hc2
      repeat (refine sdn ?_)
      refine Branch.intro (fun hc3 => ?_) (fun hc3 => ?_)
      · have hc3 : 1 ≤ p.1.getD (addQ 0 (Int.toNat (i : Int))) 0 := hc3
        rw [addQ_eq, Nat.zero_add, Int.toNat_natCast] at hc3
        repeat (refine sdn ?_)
        refine Branch.intro (fun hc4 => ?_) (fun hc4 => ?_)
        · have hc4 : p.1.getD (addQ 0 (Int.toNat (i : Int))) 0 ≤ (made : Int) := hc4
          rw [addQ_eq, Nat.zero_add, Int.toNat_natCast] at hc4
          have hsu := ctT_yes (p := p) (made := made) (i := i) (by omega) ⟨hc3, hc4⟩
          obtain ⟨z, hz⟩ : ∃ z : Nat, p.1.getD i 0 = z := ⟨(p.1.getD i 0).toNat, by omega⟩
          rw [hz, Int.toNat_natCast] at hsu
          have hN2 := fn14 z (by omega)
          have hnl := nameB_length z
          have hl2 : (ctT p made (i + 1)).length = N + 32 := by rw [hsu, List.length_append, hN, hnl]
          repeat (refine sdn ?_)
          refine Call.intro hN2 [] rfl ?_ rfl trivial rfl ?_
          · show (z : Int) = p.1.getD (addQ 0 (Int.toNat (i : Int))) 0
            rw [addQ_eq, Nat.zero_add, Int.toNat_natCast, hz]
          rintro v M' ⟨rfl, rfl⟩
          dsimp only [putT, afterM, newEnt, ren, renA, renS, renL, look, getM, getT, ev, evL, ofVal, cond_true, cond_false, Nat.beq_eq, act, isPar, ownPar, Ent.isOwn]
          repeat (refine sdn ?_)
          refine fun c2 hc5 => ?_
          have hc5 : N + 32 ≤ c2 := hc5
          repeat (refine sdn ?_)
          refine ⟨(i + 1, N + 32, c2), ⟨by show i + 1 ≤ p.1.length; omega, by show i + 1 ≤ 4; omega, hl2, hc5⟩, by show 4 - (i + 1) < 4 - i; omega, Le.intro [(204, (44, 0, none))] rfl ?_ rfl ?_ rfl⟩
          · exact fcn
          · repeat' (first | (show AllP _; first | exact trivial | refine AllP.app ?_ ?_ | refine AllP.appd ?_ ?_ | refine AllP.cons ?_ ?_) | with_reducible rfl | with_reducible assumption | omega | (simp only [Nat.zero_add, Int.toNat_natCast, rng, Ix.val, addQ_eq, addI, sz3, sz5, sz9, sz33, sz34, sz35, sz36, sz42, sz67, sz68, sz69, sz78] <;> omega) | (simp only [Nat.zero_add, Int.toNat_natCast, rng, Ix.val, Int.toNat_natCast, mulE_eq, addQ_eq, addI, Option.getD_none, Option.getD_some, List.length_take, List.length_drop, List.length_append, List.length_set, List.length_replicate, sz3, sz5, sz9, sz33, sz34, sz35, sz36, sz42, sz67, sz68, sz69, sz78, *] <;> omega) | (simp only [Ix.val]; with_reducible assumption) | exact UInt8.toNat_lt _ | (apply Eq.trans; (with_reducible assumption); exact rfl) | exact rfl | exact fun _ _ => rfl)
            show ctT p made (i + 1) = ctT p made i ++ (nameB z).take 32
            rw [hsu, List.take_of_length_le (Nat.le_of_eq hnl)]
        · have hc4 : ¬ p.1.getD (addQ 0 (Int.toNat (i : Int))) 0 ≤ (made : Int) := hc4
          rw [addQ_eq, Nat.zero_add, Int.toNat_natCast] at hc4
          have hsu := ctT_no (p := p) (made := made) (i := i) (by omega) (fun h => hc4 h.2)
          have hl2 : (ctT p made (i + 1)).length = N := by rw [hsu, hN]
          repeat (refine sd ?_)
          refine ⟨(i + 1, N, c), ⟨by show i + 1 ≤ p.1.length; omega, by show i + 1 ≤ 4; omega, hl2, hNc⟩, by show 4 - (i + 1) < 4 - i; omega, Le.intro [] rfl ?_ rfl ?_ rfl⟩
          · exact fc
          · exact fc
      · have hc3 : ¬ 1 ≤ p.1.getD (addQ 0 (Int.toNat (i : Int))) 0 := hc3
        rw [addQ_eq, Nat.zero_add, Int.toNat_natCast] at hc3
        have hsu := ctT_no (p := p) (made := made) (i := i) (by omega) (fun h => hc3 h.1)
        have hl2 : (ctT p made (i + 1)).length = N := by rw [hsu, hN]
        repeat (refine sd ?_)
        refine ⟨(i + 1, N, c), ⟨by show i + 1 ≤ p.1.length; omega, by show i + 1 ≤ 4; omega, hl2, hNc⟩, by show 4 - (i + 1) < 4 - i; omega, Le.intro [] rfl ?_ rfl ?_ rfl⟩
        · exact fc
        · exact fc
    · have hc2 : ¬ (i : Int) < 4 := hc2
      have he := ctT_end (p := p) (made := made) (i := i) (most := most) (Or.inr (by omega)) hi4
      obtain ⟨q, hq⟩ : ∃ q, min most p.2.length = q := ⟨_, rfl⟩
      have hmin : (if (most : Int) < (p.2.length : Int) then (most : Int) else (p.2.length : Int)) = (q : Int) := by split <;> omega
      have htk : p.2.take q = p.2.take most := by
        rw [← hq]
        rcases Nat.le_total most p.2.length with h | h
        · rw [Nat.min_eq_left h]
        · rw [Nat.min_eq_right h, List.take_length, List.take_of_length_le h]
      have hl3 : (ctB p made most).length = N + q := by rw [he, List.length_append, hN, List.length_take, hq]
      repeat (refine Side.intro (by repeat' (first | (show AllP _; first | exact trivial | refine AllP.app ?_ ?_ | refine AllP.appd ?_ ?_ | refine AllP.cons ?_ ?_) | with_reducible rfl | with_reducible assumption | omega | (simp only [Nat.zero_add, Int.toNat_natCast, hmin, rng, Ix.val, addQ_eq, addI, sz3, sz5, sz9, sz33, sz34, sz35, sz36, sz42, sz67, sz68, sz69, sz78] <;> omega) | (simp only [Nat.zero_add, Int.toNat_natCast, hmin, rng, Ix.val, Int.toNat_natCast, mulE_eq, addQ_eq, addI, Option.getD_none, Option.getD_some, List.length_take, List.length_drop, List.length_append, List.length_set, List.length_replicate, sz3, sz5, sz9, sz33, sz34, sz35, sz36, sz42, sz67, sz68, sz69, sz78, *] <;> omega) | (simp only [Ix.val]; with_reducible assumption) | exact UInt8.toNat_lt _ | (apply Eq.trans; (with_reducible assumption); exact rfl) | exact rfl | exact fun _ _ => rfl)) ?_)
      refine fun c2 hc5 => ?_
      have hc5 : N + q ≤ c2 := by
        have h : N + (if (most : Int) < (p.2.length : Int) then (most : Int) else (p.2.length : Int)).toNat ≤ c2 := hc5
        rw [hmin, Int.toNat_natCast] at h
        exact h
      repeat (refine Side.intro (by repeat' (first | (show AllP _; first | exact trivial | refine AllP.app ?_ ?_ | refine AllP.appd ?_ ?_ | refine AllP.cons ?_ ?_) | with_reducible rfl | with_reducible assumption | omega | (simp only [Nat.zero_add, Int.toNat_natCast, hmin, rng, Ix.val, addQ_eq, addI, sz3, sz5, sz9, sz33, sz34, sz35, sz36, sz42, sz67, sz68, sz69, sz78] <;> omega) | (simp only [Nat.zero_add, Int.toNat_natCast, hmin, rng, Ix.val, Int.toNat_natCast, mulE_eq, addQ_eq, addI, Option.getD_none, Option.getD_some, List.length_take, List.length_drop, List.length_append, List.length_set, List.length_replicate, sz3, sz5, sz9, sz33, sz34, sz35, sz36, sz42, sz67, sz68, sz69, sz78, *] <;> omega) | (simp only [Ix.val]; with_reducible assumption) | exact UInt8.toNat_lt _ | (apply Eq.trans; (with_reducible assumption); exact rfl) | exact rfl | exact fun _ _ => rfl)) ?_)
      refine Ret.intro (.sl 1001 0 0 (N + q) c2) [(1001, .mem true (c2 - (N + q)) [(N + q, .a8 (ctB p made most))])] [(1001, (54, 0, none))] rfl ?_ ⟨N + q, c2, hl3, hc5, rfl, rfl⟩ rfl ?_ rfl ?_ rfl
      · repeat' (first | (show AllP _; first | exact trivial | refine AllP.app ?_ ?_ | refine AllP.appd ?_ ?_ | refine AllP.cons ?_ ?_) | with_reducible rfl | with_reducible assumption | omega | (simp only [hmin, Int.toNat_natCast, rng, Ix.val, addQ_eq, addI, sz3, sz5, sz9, sz33, sz34, sz35, sz36, sz42, sz67, sz68, sz69, sz78] <;> omega) | (simp only [hmin, Int.toNat_natCast, rng, Ix.val, Int.toNat_natCast, mulE_eq, addQ_eq, addI, Option.getD_none, Option.getD_some, List.length_take, List.length_drop, List.length_append, List.length_set, List.length_replicate, sz3, sz5, sz9, sz33, sz34, sz35, sz36, sz42, sz67, sz68, sz69, sz78, *] <;> omega) | (simp only [Ix.val]; with_reducible assumption) | exact UInt8.toNat_lt _ | (apply Eq.trans; (with_reducible assumption); exact rfl) | exact rfl | exact fun _ _ => rfl)
      · repeat' (first | (show AllP _; first | exact trivial | refine AllP.app ?_ ?_ | refine AllP.appd ?_ ?_ | refine AllP.cons ?_ ?_) | with_reducible rfl | with_reducible assumption | omega | (simp only [hmin, Int.toNat_natCast, rng, Ix.val, addQ_eq, addI, sz3, sz5, sz9, sz33, sz34, sz35, sz36, sz42, sz67, sz68, sz69, sz78] <;> omega) | (simp only [hmin, Int.toNat_natCast, rng, Ix.val, Int.toNat_natCast, mulE_eq, addQ_eq, addI, Option.getD_none, Option.getD_some, List.length_take, List.length_drop, List.length_append, List.length_set, List.length_replicate, sz3, sz5, sz9, sz33, sz34, sz35, sz36, sz42, sz67, sz68, sz69, sz78, *] <;> omega) | (simp only [Ix.val]; with_reducible assumption) | exact UInt8.toNat_lt _ | (apply Eq.trans; (with_reducible assumption); exact rfl) | exact rfl | exact fun _ _ => rfl)
      · repeat' (first | (show AllP _; first | exact trivial | refine AllP.app ?_ ?_ | refine AllP.appd ?_ ?_ | refine AllP.cons ?_ ?_) | with_reducible rfl | with_reducible assumption | omega | (simp only [hmin, Int.toNat_natCast, rng, Ix.val, addQ_eq, addI, sz3, sz5, sz9, sz33, sz34, sz35, sz36, sz42, sz67, sz68, sz69, sz78] <;> omega) | (simp only [hmin, Int.toNat_natCast, rng, Ix.val, Int.toNat_natCast, mulE_eq, addQ_eq, addI, Option.getD_none, Option.getD_some, List.length_take, List.length_drop, List.length_append, List.length_set, List.length_replicate, sz3, sz5, sz9, sz33, sz34, sz35, sz36, sz42, sz67, sz68, sz69, sz78, *] <;> omega) | (simp only [Ix.val]; with_reducible assumption) | exact UInt8.toNat_lt _ | (apply Eq.trans; (with_reducible assumption); exact rfl) | exact rfl | exact fun _ _ => rfl)
        rw [hmin, Int.toNat_natCast, he, ← htk]
        exact rfl
  · have hc1 : ¬ (i : Int) < p.1.length := hc1
    have he := ctT_end (p := p) (made := made) (i := i) (most := most) (Or.inl (by omega)) hi4
    obtain ⟨q, hq⟩ : ∃ q, min most p.2.length = q := ⟨_, rfl⟩
    have hmin : (if (most : Int) < (p.2.length : Int) then (most : Int) else (p.2.length : Int)) = (q : Int) := by split <;> omega
    have htk : p.2.take q = p.2.take most := by
      rw [← hq]
      rcases Nat.le_total most p.2.length with h | h
      · rw [Nat.min_eq_left h]
      · rw [Nat.min_eq_right h, List.take_length, List.take_of_length_le h]
    have hl3 : (ctB p made most).length = N + q := by rw [he, List.length_append, hN, List.length_take, hq]
    repeat (refine Side.intro (by repeat' (first | (show AllP _; first | exact trivial | refine AllP.app ?_ ?_ | refine AllP.appd ?_ ?_ | refine AllP.cons ?_ ?_) | with_reducible rfl | with_reducible assumption | omega | (simp only [Nat.zero_add, Int.toNat_natCast, hmin, rng, Ix.val, addQ_eq, addI, sz3, sz5, sz9, sz33, sz34, sz35, sz36, sz42, sz67, sz68, sz69, sz78] <;> omega) | (simp only [Nat.zero_add, Int.toNat_natCast, hmin, rng, Ix.val, Int.toNat_natCast, mulE_eq, addQ_eq, addI, Option.getD_none, Option.getD_some, List.length_take, List.length_drop, List.length_append, List.length_set, List.length_replicate, sz3, sz5, sz9, sz33, sz34, sz35, sz36, sz42, sz67, sz68, sz69, sz78, *] <;> omega) | (simp only [Ix.val]; with_reducible assumption) | exact UInt8.toNat_lt _ | (apply Eq.trans; (with_reducible assumption); exact rfl) | exact rfl | exact fun _ _ => rfl)) ?_)
    refine fun c2 hc5 => ?_
    have hc5 : N + q ≤ c2 := by
      have h : N + (if (most : Int) < (p.2.length : Int) then (most : Int) else (p.2.length : Int)).toNat ≤ c2 := hc5
      rw [hmin, Int.toNat_natCast] at h
      exact h
    repeat (refine Side.intro (by repeat' (first | (show AllP _; first | exact trivial | refine AllP.app ?_ ?_ | refine AllP.appd ?_ ?_ | refine AllP.cons ?_ ?_) | with_reducible rfl | with_reducible assumption | omega | (simp only [Nat.zero_add, Int.toNat_natCast, hmin, rng, Ix.val, addQ_eq, addI, sz3, sz5, sz9, sz33, sz34, sz35, sz36, sz42, sz67, sz68, sz69, sz78] <;> omega) | (simp only [Nat.zero_add, Int.toNat_natCast, hmin, rng, Ix.val, Int.toNat_natCast, mulE_eq, addQ_eq, addI, Option.getD_none, Option.getD_some, List.length_take, List.length_drop, List.length_append, List.length_set, List.length_replicate, sz3, sz5, sz9, sz33, sz34, sz35, sz36, sz42, sz67, sz68, sz69, sz78, *] <;> omega) | (simp only [Ix.val]; with_reducible assumption) | exact UInt8.toNat_lt _ | (apply Eq.trans; (with_reducible assumption); exact rfl) | exact rfl | exact fun _ _ => rfl)) ?_)
    refine Ret.intro (.sl 1001 0 0 (N + q) c2) [(1001, .mem true (c2 - (N + q)) [(N + q, .a8 (ctB p made most))])] [(1001, (54, 0, none))] rfl ?_ ⟨N + q, c2, hl3, hc5, rfl, rfl⟩ rfl ?_ rfl ?_ rfl
    · repeat' (first | (show AllP _; first | exact trivial | refine AllP.app ?_ ?_ | refine AllP.appd ?_ ?_ | refine AllP.cons ?_ ?_) | with_reducible rfl | with_reducible assumption | omega | (simp only [hmin, Int.toNat_natCast, rng, Ix.val, addQ_eq, addI, sz3, sz5, sz9, sz33, sz34, sz35, sz36, sz42, sz67, sz68, sz69, sz78] <;> omega) | (simp only [hmin, Int.toNat_natCast, rng, Ix.val, Int.toNat_natCast, mulE_eq, addQ_eq, addI, Option.getD_none, Option.getD_some, List.length_take, List.length_drop, List.length_append, List.length_set, List.length_replicate, sz3, sz5, sz9, sz33, sz34, sz35, sz36, sz42, sz67, sz68, sz69, sz78, *] <;> omega) | (simp only [Ix.val]; with_reducible assumption) | exact UInt8.toNat_lt _ | (apply Eq.trans; (with_reducible assumption); exact rfl) | exact rfl | exact fun _ _ => rfl)
    · repeat' (first | (show AllP _; first | exact trivial | refine AllP.app ?_ ?_ | refine AllP.appd ?_ ?_ | refine AllP.cons ?_ ?_) | with_reducible rfl | with_reducible assumption | omega | (simp only [hmin, Int.toNat_natCast, rng, Ix.val, addQ_eq, addI, sz3, sz5, sz9, sz33, sz34, sz35, sz36, sz42, sz67, sz68, sz69, sz78] <;> omega) | (simp only [hmin, Int.toNat_natCast, rng, Ix.val, Int.toNat_natCast, mulE_eq, addQ_eq, addI, Option.getD_none, Option.getD_some, List.length_take, List.length_drop, List.length_append, List.length_set, List.length_replicate, sz3, sz5, sz9, sz33, sz34, sz35, sz36, sz42, sz67, sz68, sz69, sz78, *] <;> omega) | (simp only [Ix.val]; with_reducible assumption) | exact UInt8.toNat_lt _ | (apply Eq.trans; (with_reducible assumption); exact rfl) | exact rfl | exact fun _ _ => rfl)
    · repeat' (first | (show AllP _; first | exact trivial | refine AllP.app ?_ ?_ | refine AllP.appd ?_ ?_ | refine AllP.cons ?_ ?_) | with_reducible rfl | with_reducible assumption | omega | (simp only [hmin, Int.toNat_natCast, rng, Ix.val, addQ_eq, addI, sz3, sz5, sz9, sz33, sz34, sz35, sz36, sz42, sz67, sz68, sz69, sz78] <;> omega) | (simp only [hmin, Int.toNat_natCast, rng, Ix.val, Int.toNat_natCast, mulE_eq, addQ_eq, addI, Option.getD_none, Option.getD_some, List.length_take, List.length_drop, List.length_append, List.length_set, List.length_replicate, sz3, sz5, sz9, sz33, sz34, sz35, sz36, sz42, sz67, sz68, sz69, sz78, *] <;> omega) | (simp only [Ix.val]; with_reducible assumption) | exact UInt8.toNat_lt _ | (apply Eq.trans; (with_reducible assumption); exact rfl) | exact rfl | exact fun _ _ => rfl)
      rw [hmin, Int.toNat_natCast, he, ← htk]
      exact rfl

set_option maxRecDepth 100000 in
theorem fn11 (p : Pt) (h1 : p.1.length ≤ maxLen) (h2 : p.2.length ≤ maxLen) (made : Nat) (hm : made < 4294967296) : Sx.Fn Γ.P 11 [ptS p, .i .i64 (made : Int)] []
    (fun v M => ∃ N c, (ctB p made 5000).length = N ∧ N ≤ c ∧ v = .sl 1001 0 0 N c ∧ M = [(1001, .mem true (c - N) [(N, .a8 (ctB p made 5000))])]) := by
  have hC := fn23 p h1 h2 made hm 5000 (by decide)
  unfold ptS at *
  refine fn_of (Γ := Γ) (fn := Try.f11) rfl rfl rfl rfl ?_
  repeat (refine sd ?_)
  refine Call.intro hC [(1001, (7, 0, none))] rfl fc rfl trivial rfl ?_
  rintro v M' ⟨N, c, hN, hNc, rfl, rfl⟩
  dsimp only [putT, afterM, newEnt, ren, renA, renS, renL, look, getM, getT, ev, evL, ofVal, cond_true, cond_false, Nat.beq_eq, act, isPar, ownPar, Ent.isOwn]
  repeat (refine sd ?_)
  refine Ret.intro (.sl 1001 0 0 N c) [(1001, .mem true (c - N) [(N, .a8 (ctB p made 5000))])] [(1001, (7, 0, none))] rfl ?_ ⟨N, c, hN, hNc, rfl, rfl⟩ rfl ?_ rfl ?_ rfl
  · exact fc
  · exact fc
  · exact fc

theorem ctB_le (p : Pt) (made most : Nat) : (ctB p made most).length ≤ 128 + most := by
  unfold ctB
  have := ctN_le made (p.1.take 4)
  rw [List.length_take] at this
  rw [List.length_append, List.length_take]
  omega

set_option maxRecDepth 100000 in
theorem fn22 (n : Nat) : Sx.Fn Γ.P 22 [.ptr 1000 0 none] [(1000, .mem false 0 [(1, .slx 1001 0 0 n), (1, .mp 1002)]), (1001, .dead), (1002, .dead)]
    (fun v M => v = .i .i64 (n : Int) ∧ M = [(1000, .mem false 0 [(1, .slx 1001 0 0 n), (1, .mp 1002)]), (1001, .dead), (1002, .dead)]) := by
  refine fn_of (Γ := Γ) (fn := Try.f22) rfl rfl rfl rfl ?_
  repeat (refine sd ?_)
  refine Ret.intro (.i .i64 (n : Int)) [(1000, .mem false 0 [(1, .slx 1001 0 0 n), (1, .mp 1002)]), (1001, .dead), (1002, .dead)] [] rfl ?_ ⟨rfl, rfl⟩ rfl ?_ rfl ?_ rfl
  · exact fc
  · exact fc
  · exact fc

end Go.Proofs.Ytoaaplgjacjlpaa
