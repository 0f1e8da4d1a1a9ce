/- What the functions of the program compute. No condition. -/
import Derived.Test.YtgfbclahkjdjeaaHwSc2ToSc2
set_option linter.unusedSimpArgs false
set_option linter.unusedVariables false
namespace Go.Proofs.Ytgfbclahkjdjeaa
open Go Go.Sx

/-! The reference: Digits, Bytes. -/

def dgS (b : List UInt8) : Nat → List Int
  | 0 => []
  | i + 1 => if i % 2 = 0 then dgS b i ++ [((b.getD i 0).toNat : Int)] else (dgS b i).set (i / 2) ((dgS b i).getD (i / 2) 0 + 256 * ((b.getD i 0).toNat : Int))
theorem dgS_length (b : List UInt8) : ∀ i, (dgS b i).length = (i + 1) / 2
  | 0 => rfl
  | i + 1 => by
    simp only [dgS]
    split
    · rw [List.length_append, dgS_length b i, List.length_singleton]; omega
    · rw [List.length_set, dgS_length b i]; omega
theorem dgS_dig (b : List UInt8) : ∀ i, Dig (dgS b i) ∧ (i % 2 = 1 → (dgS b i).getD (i / 2) 0 < 256)
  | 0 => ⟨fun j => by show 0 ≤ ([] : List Int).getD j 0 ∧ ([] : List Int).getD j 0 < 65536; rw [getD_out (by simp)]; decide, fun h => by omega⟩
  | i + 1 => by
    obtain ⟨h1, h2⟩ := dgS_dig b i
    have hl := dgS_length b i
    have hb := (b.getD i 0).toNat_lt
    simp only [dgS]
    split
    · rename_i he
      have e : ∀ j, (dgS b i ++ [((b.getD i 0).toNat : Int)]).getD j 0 = if j = i / 2 then ((b.getD i 0).toNat : Int) else (dgS b i).getD j 0 := by
        intro j
        rcases Nat.lt_trichotomy j (i / 2) with h | h | h
        · rw [if_neg (by omega), List.getD_eq_getElem?_getD, List.getElem?_append_left (by omega), ← List.getD_eq_getElem?_getD]
        · rw [if_pos h, List.getD_eq_getElem?_getD, List.getElem?_append_right (by omega), show j - (dgS b i).length = 0 by omega]; rfl
        · rw [if_neg (by omega), getD_out (by rw [List.length_append, List.length_singleton]; omega), getD_out (by omega)]
      refine ⟨fun j => ?_, fun _ => ?_⟩
      · rw [e]
        split
        · omega
        · exact h1 j
      · rw [e, if_pos (by omega)]; omega
    · rename_i he
      obtain ⟨h3, h4⟩ := h1 (i / 2)
      have h5 := h2 (by omega)
      exact ⟨h1.set (by omega) (by omega), fun h => by omega⟩

set_option maxRecDepth 100000 in
theorem fn18 (b : List UInt8) (n : Nat) (hb : b.length = n) (hmax : n ≤ 100000) : Sx.Fn Γ.P 18 [.slx 1000 0 0 n] [(1000, .mem false 0 [(n, .a8 b)])]
    (fun v M => ∃ c, (n + 1) / 2 ≤ c ∧ v = .sl 1001 0 0 ((n + 1) / 2) c ∧ M = [(1000, .mem false 0 [(n, .a8 b)]), (1001, .mem true (c - (n + 1) / 2) [((n + 1) / 2, .ai (dgS b n))])]) := by
  have hby : (Γ.ty 3).bytes = 8 := rfl
  refine fn_of (Γ := Γ) (fn := Try.f18) rfl rfl rfl rfl ?_
  repeat (refine Side.intro (by repeat' (first | (show AllP _; first | exact trivial | refine AllP.app ?_ ?_ | refine AllP.appd ?_ ?_ | refine AllP.cons ?_ ?_) | with_reducible rfl | with_reducible assumption | omega | (simp only [rng, Ix.val, addQ_eq, addI, sz3, sz5, sz22, sz24, sz38] <;> omega) | (simp only [rng, Ix.val, Int.toNat_natCast, mulE_eq, addQ_eq, addI, Option.getD_none, Option.getD_some, List.length_take, List.length_drop, List.length_append, List.length_set, List.length_replicate, sz3, sz5, sz22, sz24, sz38, *] <;> omega) | (simp only [Ix.val]; with_reducible assumption) | exact UInt8.toNat_lt _ | (apply Eq.trans; (with_reducible assumption); exact rfl) | exact rfl | exact fun _ _ => rfl)) ?_)
  refine Loop.intro (σ := Nat × Nat) (fun s => s.1 ≤ n ∧ (s.1 + 1) / 2 ≤ s.2)
    (fun s => ([(0, .slx 1000 0 0 n), (3, .sl 203 0 0 ((s.1 + 1) / 2) s.2), (4, .i .i64 s.1)], [(1000, .mem false 0 [(n, .a8 b)]), (203, .mem true (s.2 - (s.1 + 1) / 2) [((s.1 + 1) / 2, .ai (dgS b s.1))])])) (fun s => n - s.1) (0, 0) ⟨Nat.zero_le _, Nat.le_refl _⟩ ?_ ?_
  · refine Le.ghost [.own 203 [(0, .ai [])]] [(3, 203)] [] rfl ⟨rfl, rfl, trivial⟩ rfl rfl ?_ rfl ?_ rfl
    · repeat' (first | (show AllP _; first | exact trivial | refine AllP.app ?_ ?_ | refine AllP.appd ?_ ?_ | refine AllP.cons ?_ ?_) | with_reducible rfl | with_reducible assumption | omega | (simp only [rng, Ix.val, addQ_eq, addI, sz3, sz5, sz22, sz24, sz38] <;> omega) | (simp only [rng, Ix.val, Int.toNat_natCast, mulE_eq, addQ_eq, addI, Option.getD_none, Option.getD_some, List.length_take, List.length_drop, List.length_append, List.length_set, List.length_replicate, sz3, sz5, sz22, sz24, sz38, *] <;> omega) | (simp only [Ix.val]; with_reducible assumption) | exact UInt8.toNat_lt _ | (apply Eq.trans; (with_reducible assumption); exact rfl) | exact rfl | exact fun _ _ => rfl)
    · repeat' (first | (show AllP _; first | exact trivial | refine AllP.app ?_ ?_ | refine AllP.appd ?_ ?_ | refine AllP.cons ?_ ?_) | with_reducible rfl | with_reducible assumption | omega | (simp only [rng, Ix.val, addQ_eq, addI, sz3, sz5, sz22, sz24, sz38] <;> omega) | (simp only [rng, Ix.val, Int.toNat_natCast, mulE_eq, addQ_eq, addI, Option.getD_none, Option.getD_some, List.length_take, List.length_drop, List.length_append, List.length_set, List.length_replicate, sz3, sz5, sz22, sz24, sz38, *] <;> omega) | (simp only [Ix.val]; with_reducible assumption) | exact UInt8.toNat_lt _ | (apply Eq.trans; (with_reducible assumption); exact rfl) | exact rfl | exact fun _ _ => rfl)
  rintro ⟨i, c⟩ ⟨hi, hc0⟩
  have hi : i ≤ n := hi
  have hc0 : (i + 1) / 2 ≤ c := hc0
  refine Branch.intro (fun hc => ?_) (fun hc => ?_)
  · have hc : (i : Int) < n := hc
    have hl := dgS_length b i
    have hbi := (b.getD i 0).toNat_lt
    repeat (refine Side.intro (by repeat' (first | (show AllP _; first | exact trivial | refine AllP.app ?_ ?_ | refine AllP.appd ?_ ?_ | refine AllP.cons ?_ ?_) | with_reducible rfl | with_reducible assumption | omega | (simp only [rng, Ix.val, addQ_eq, addI, sz3, sz5, sz22, sz24, sz38] <;> omega) | (simp only [rng, Ix.val, Int.toNat_natCast, mulE_eq, addQ_eq, addI, Option.getD_none, Option.getD_some, List.length_take, List.length_drop, List.length_append, List.length_set, List.length_replicate, sz3, sz5, sz22, sz24, sz38, *] <;> omega) | (simp only [Ix.val]; with_reducible assumption) | exact UInt8.toNat_lt _ | (apply Eq.trans; (with_reducible assumption); exact rfl) | exact rfl | exact fun _ _ => rfl)) ?_)
    refine Branch.intro (fun he => ?_) (fun he => ?_)
    · have he : (i : Int) % 2 = 0 := he
      have hx : dgS b (i + 1) = dgS b i ++ [((b.getD i 0).toNat : Int)] := if_pos (by omega)
      repeat (refine Side.intro (by repeat' (first | (show AllP _; first | exact trivial | refine AllP.app ?_ ?_ | refine AllP.appd ?_ ?_ | refine AllP.cons ?_ ?_) | with_reducible rfl | with_reducible assumption | omega | (simp only [Nat.zero_add, Int.toNat_natCast, rng, Ix.val, addQ_eq, addI, sz3, sz5, sz22, sz24, sz38] <;> omega) | (simp only [Nat.zero_add, Int.toNat_natCast, rng, Ix.val, Int.toNat_natCast, mulE_eq, addQ_eq, addI, Option.getD_none, Option.getD_some, List.length_take, List.length_drop, List.length_append, List.length_set, List.length_replicate, sz3, sz5, sz22, sz24, sz38, *] <;> omega) | (simp only [Ix.val]; with_reducible assumption) | exact UInt8.toNat_lt _ | (apply Eq.trans; (with_reducible assumption); exact rfl) | exact rfl | exact fun _ _ => rfl)) ?_)
      refine fun c' hc' => ?_
      have hc' : (i + 1) / 2 + 1 ≤ c' := hc'
      repeat (refine Side.intro (by repeat' (first | (show AllP _; first | exact trivial | refine AllP.app ?_ ?_ | refine AllP.appd ?_ ?_ | refine AllP.cons ?_ ?_) | with_reducible rfl | with_reducible assumption | omega | (simp only [rng, Ix.val, addQ_eq, addI, sz3, sz5, sz22, sz24, sz38] <;> omega) | (simp only [rng, Ix.val, Int.toNat_natCast, mulE_eq, addQ_eq, addI, Option.getD_none, Option.getD_some, List.length_take, List.length_drop, List.length_append, List.length_set, List.length_replicate, sz3, sz5, sz22, sz24, sz38, *] <;> omega) | (simp only [Ix.val]; with_reducible assumption) | exact UInt8.toNat_lt _ | (apply Eq.trans; (with_reducible assumption); exact rfl) | exact rfl | exact fun _ _ => rfl)) ?_)
      refine ⟨(i + 1, c'), ⟨by omega, by show (i + 1 + 1) / 2 ≤ c'; omega⟩, by show n - (i + 1) < n - i; omega, Le.intro [(203, (21, 0, none))] rfl ?_ rfl ?_ rfl⟩
      · repeat' (first | (show AllP _; first | exact trivial | refine AllP.app ?_ ?_ | refine AllP.appd ?_ ?_ | refine AllP.cons ?_ ?_) | with_reducible rfl | with_reducible assumption | omega | (simp only [rng, Ix.val, addQ_eq, addI, sz3, sz5, sz22, sz24, sz38] <;> omega) | (simp only [rng, Ix.val, Int.toNat_natCast, mulE_eq, addQ_eq, addI, Option.getD_none, Option.getD_some, List.length_take, List.length_drop, List.length_append, List.length_set, List.length_replicate, sz3, sz5, sz22, sz24, sz38, *] <;> omega) | (simp only [Ix.val]; with_reducible assumption) | exact UInt8.toNat_lt _ | (apply Eq.trans; (with_reducible assumption); exact rfl) | exact rfl | exact fun _ _ => rfl)
      · repeat' (first | (show AllP _; first | exact trivial | refine AllP.app ?_ ?_ | refine AllP.appd ?_ ?_ | refine AllP.cons ?_ ?_) | with_reducible rfl | with_reducible assumption | omega | (simp only [Nat.zero_add, Int.toNat_natCast, rng, Ix.val, addQ_eq, addI, sz3, sz5, sz22, sz24, sz38] <;> omega) | (simp only [Nat.zero_add, Int.toNat_natCast, rng, Ix.val, Int.toNat_natCast, mulE_eq, addQ_eq, addI, Option.getD_none, Option.getD_some, List.length_take, List.length_drop, List.length_append, List.length_set, List.length_replicate, sz3, sz5, sz22, sz24, sz38, *] <;> omega) | (simp only [Ix.val]; with_reducible assumption) | exact UInt8.toNat_lt _ | (apply Eq.trans; (with_reducible assumption); exact rfl) | exact rfl | exact fun _ _ => rfl)
    · have he : ¬ (i : Int) % 2 = 0 := he
      obtain ⟨hD, hlt⟩ := dgS_dig b i
      have hDi := hD (i / 2)
      have hlt := hlt (by omega)
      have e0 : ((i : Int) / 2).toNat = i / 2 := by omega
      have hx : dgS b (i + 1) = (dgS b i).set (i / 2) ((dgS b i).getD (i / 2) 0 + 256 * ((b.getD i 0).toNat : Int)) := if_neg (by omega)
      refine Draw.intro [[], [], [1], [], [], [4], [3, 4, 5], [3, 4, 5, 6], [], [], [8, 9], [8, 9, 10], [8, 9, 10, 11], [8, 9, 10, 11, 12], [3, 4, 5, 6, 7, 8, 9, 10, 11, 12, 13], [0, 1, 2, 3, 4, 5, 6, 7, 8, 9, 10, 11, 12, 13, 14], [0, 1, 2, 3, 4, 5, 6, 7, 8, 9, 10, 11, 12, 13, 14, 15]] [0, 1, 2, 3, 4, 5, 6, 7, 8, 9, 10, 11, 12, 13, 14, 15, 16] (by kernel_rfl) ?_
      repeat (refine Side.intro (by repeat' (first | (show AllP _; first | exact trivial | refine AllP.app ?_ ?_ | refine AllP.appd ?_ ?_ | refine AllP.cons ?_ ?_) | with_reducible rfl | with_reducible assumption | omega | (simp only [Nat.zero_add, Int.toNat_natCast, e0, rng, Ix.val, addQ_eq, addI, sz3, sz5, sz22, sz24, sz38] <;> omega) | (simp only [Nat.zero_add, Int.toNat_natCast, e0, rng, Ix.val, Int.toNat_natCast, mulE_eq, addQ_eq, addI, Option.getD_none, Option.getD_some, List.length_take, List.length_drop, List.length_append, List.length_set, List.length_replicate, sz3, sz5, sz22, sz24, sz38, *] <;> omega) | (simp only [Ix.val]; with_reducible assumption) | exact UInt8.toNat_lt _ | (apply Eq.trans; (with_reducible assumption); exact rfl) | exact rfl | exact fun _ _ => rfl)) ?_)
      refine ⟨(i + 1, c), ⟨by omega, by show (i + 1 + 1) / 2 ≤ c; omega⟩, by show n - (i + 1) < n - i; omega, Le.intro [] rfl ?_ rfl ?_ rfl⟩
      · repeat' (first | (show AllP _; first | exact trivial | refine AllP.app ?_ ?_ | refine AllP.appd ?_ ?_ | refine AllP.cons ?_ ?_) | with_reducible rfl | with_reducible assumption | omega | (simp only [rng, Ix.val, addQ_eq, addI, sz3, sz5, sz22, sz24, sz38] <;> omega) | (simp only [rng, Ix.val, Int.toNat_natCast, mulE_eq, addQ_eq, addI, Option.getD_none, Option.getD_some, List.length_take, List.length_drop, List.length_append, List.length_set, List.length_replicate, sz3, sz5, sz22, sz24, sz38, *] <;> omega) | (simp only [Ix.val]; with_reducible assumption) | exact UInt8.toNat_lt _ | (apply Eq.trans; (with_reducible assumption); exact rfl) | exact rfl | exact fun _ _ => rfl)
      · repeat' (first | (show AllP _; first | exact trivial | refine AllP.app ?_ ?_ | refine AllP.appd ?_ ?_ | refine AllP.cons ?_ ?_) | with_reducible rfl | with_reducible assumption | omega | (simp only [Nat.zero_add, Int.toNat_natCast, e0, rng, Ix.val, addQ_eq, addI, sz3, sz5, sz22, sz24, sz38] <;> omega) | (simp only [Nat.zero_add, Int.toNat_natCast, e0, rng, Ix.val, Int.toNat_natCast, mulE_eq, addQ_eq, addI, Option.getD_none, Option.getD_some, List.length_take, List.length_drop, List.length_append, List.length_set, List.length_replicate, sz3, sz5, sz22, sz24, sz38, *] <;> omega) | (simp only [Ix.val]; with_reducible assumption) | exact UInt8.toNat_lt _ | (apply Eq.trans; (with_reducible assumption); exact rfl) | exact rfl | exact fun _ _ => rfl)
  · obtain rfl : i = n := by have hc : ¬ (i : Int) < n := hc; omega
    have hl := dgS_length b i
    repeat (refine Side.intro (by repeat' (first | (show AllP _; first | exact trivial | refine AllP.app ?_ ?_ | refine AllP.appd ?_ ?_ | refine AllP.cons ?_ ?_) | with_reducible rfl | with_reducible assumption | omega | (simp only [rng, Ix.val, addQ_eq, addI, sz3, sz5, sz22, sz24, sz38] <;> omega) | (simp only [rng, Ix.val, Int.toNat_natCast, mulE_eq, addQ_eq, addI, Option.getD_none, Option.getD_some, List.length_take, List.length_drop, List.length_append, List.length_set, List.length_replicate, sz3, sz5, sz22, sz24, sz38, *] <;> omega) | (simp only [Ix.val]; with_reducible assumption) | exact UInt8.toNat_lt _ | (apply Eq.trans; (with_reducible assumption); exact rfl) | exact rfl | exact fun _ _ => rfl)) ?_)
    refine Ret.intro (.sl 1001 0 0 ((i + 1) / 2) c) [(1000, .mem false 0 [(i, .a8 b)]), (1001, .mem true (c - (i + 1) / 2) [((i + 1) / 2, .ai (dgS b i))])] [(1001, (203, 0, none))] rfl ?_ ⟨c, hc0, rfl, rfl⟩ rfl ?_ rfl ?_ rfl
    · repeat' (first | (show AllP _; first | exact trivial | refine AllP.app ?_ ?_ | refine AllP.appd ?_ ?_ | refine AllP.cons ?_ ?_) | with_reducible rfl | with_reducible assumption | omega | (simp only [rng, Ix.val, addQ_eq, addI, sz3, sz5, sz22, sz24, sz38] <;> omega) | (simp only [rng, Ix.val, Int.toNat_natCast, mulE_eq, addQ_eq, addI, Option.getD_none, Option.getD_some, List.length_take, List.length_drop, List.length_append, List.length_set, List.length_replicate, sz3, sz5, sz22, sz24, sz38, *] <;> omega) | (simp only [Ix.val]; with_reducible assumption) | exact UInt8.toNat_lt _ | (apply Eq.trans; (with_reducible assumption); exact rfl) | exact rfl | exact fun _ _ => rfl)
    · repeat' (first | (show AllP _; first | exact trivial | refine AllP.app ?_ ?_ | refine AllP.appd ?_ ?_ | refine AllP.cons ?_ ?_) | with_reducible rfl | with_reducible assumption | omega | (simp only [rng, Ix.val, addQ_eq, addI, sz3, sz5, sz22, sz24, sz38] <;> omega) | (simp only [rng, Ix.val, Int.toNat_natCast, mulE_eq, addQ_eq, addI, Option.getD_none, Option.getD_some, List.length_take, List.length_drop, List.length_append, List.length_set, List.length_replicate, sz3, sz5, sz22, sz24, sz38, *] <;> omega) | (simp only [Ix.val]; with_reducible assumption) | exact UInt8.toNat_lt _ | (apply Eq.trans; (with_reducible assumption); exact rfl) | exact rfl | exact fun _ _ => rfl)
    · repeat' (first | (show AllP _; first | exact trivial | refine AllP.app ?_ ?_ | refine AllP.appd ?_ ?_ | refine AllP.cons ?_ ?_) | with_reducible rfl | with_reducible assumption | omega | (simp only [rng, Ix.val, addQ_eq, addI, sz3, sz5, sz22, sz24, sz38] <;> omega) | (simp only [rng, Ix.val, Int.toNat_natCast, mulE_eq, addQ_eq, addI, Option.getD_none, Option.getD_some, List.length_take, List.length_drop, List.length_append, List.length_set, List.length_replicate, sz3, sz5, sz22, sz24, sz38, *] <;> omega) | (simp only [Ix.val]; with_reducible assumption) | exact UInt8.toNat_lt _ | (apply Eq.trans; (with_reducible assumption); exact rfl) | exact rfl | exact fun _ _ => rfl)

def byS (d : List Int) : Nat → List UInt8
  | 0 => List.replicate 32 0
  | i + 1 => ((byS d i).set (2 * i) (UInt8.ofInt (d.getD i 0 % 256))).set (2 * i + 1) (UInt8.ofInt (d.getD i 0 / 256))
theorem byS_length (d : List Int) : ∀ i, (byS d i).length = 32
  | 0 => List.length_replicate
  | i + 1 => by simp only [byS, List.length_set, byS_length d i]

set_option maxRecDepth 100000 in
theorem fn16 (d : List Int) (hd : Dig d) (hl : d.length = 17) : Sx.Fn Γ.P 16 [.slx 1000 0 0 16] [(1000, .mem false 0 [(17, .ai d)])]
    (fun v M => v = .a8 (byS d 16) ∧ M = [(1000, .mem false 0 [(17, .ai d)])]) := by
  refine fn_of (Γ := Γ) (fn := Try.f16) rfl rfl rfl rfl ?_
  repeat (refine Side.intro (by repeat' (first | (show AllP _; first | exact trivial | refine AllP.app ?_ ?_ | refine AllP.appd ?_ ?_ | refine AllP.cons ?_ ?_) | with_reducible rfl | with_reducible assumption | omega | (simp only [rng, Ix.val, addQ_eq, addI, sz3, sz5, sz22, sz24, sz38] <;> omega) | (simp only [rng, Ix.val, Int.toNat_natCast, mulE_eq, addQ_eq, addI, Option.getD_none, Option.getD_some, List.length_take, List.length_drop, List.length_append, List.length_set, List.length_replicate, sz3, sz5, sz22, sz24, sz38, *] <;> omega) | (simp only [Ix.val]; with_reducible assumption) | exact UInt8.toNat_lt _ | (apply Eq.trans; (with_reducible assumption); exact rfl) | exact rfl | exact fun _ _ => rfl)) ?_)
  refine Loop.intro (σ := Nat) (fun i => i ≤ 16)
    (fun i => ([(0, .slx 1000 0 0 16), (2, .ptr 2 0 none), (3, .ptr 3 0 none), (4, .i .i64 i)], [(1000, .mem false 0 [(17, .ai d)]), (2, .mem true 0 [(32, .a8 (List.replicate 32 0))]), (3, .mem true 0 [(32, .a8 (byS d i))])])) (fun i => 16 - i) 0 (Nat.zero_le _) ?_ ?_
  · refine Le.intro [] rfl (by repeat' (first | (show AllP _; first | exact trivial | refine AllP.app ?_ ?_ | refine AllP.appd ?_ ?_ | refine AllP.cons ?_ ?_) | with_reducible rfl | with_reducible assumption | omega | (simp only [rng, Ix.val, addQ_eq, addI, sz3, sz5, sz22, sz24, sz38] <;> omega) | (simp only [rng, Ix.val, Int.toNat_natCast, mulE_eq, addQ_eq, addI, Option.getD_none, Option.getD_some, List.length_take, List.length_drop, List.length_append, List.length_set, List.length_replicate, sz3, sz5, sz22, sz24, sz38, *] <;> omega) | (simp only [Ix.val]; with_reducible assumption) | exact UInt8.toNat_lt _ | (apply Eq.trans; (with_reducible assumption); exact rfl) | exact rfl | exact fun _ _ => rfl)) rfl ?_ rfl
    repeat' (first | (show AllP _; first | exact trivial | refine AllP.app ?_ ?_ | refine AllP.appd ?_ ?_ | refine AllP.cons ?_ ?_) | with_reducible rfl | with_reducible assumption | omega | (simp only [rng, Ix.val, addQ_eq, addI, sz3, sz5, sz22, sz24, sz38] <;> omega) | (simp only [rng, Ix.val, Int.toNat_natCast, mulE_eq, addQ_eq, addI, Option.getD_none, Option.getD_some, List.length_take, List.length_drop, List.length_append, List.length_set, List.length_replicate, sz3, sz5, sz22, sz24, sz38, *] <;> omega) | (simp only [Ix.val]; with_reducible assumption) | exact UInt8.toNat_lt _ | (apply Eq.trans; (with_reducible assumption); exact rfl) | exact rfl | exact fun _ _ => rfl)
  rintro i hi
  have hll := byS_length d i
  refine Branch.intro (fun hc => ?_) (fun hc => ?_)
  · have hc : (i : Int) < 16 := hc
    have hdi := hd i
    have hx : byS d (i + 1) = ((byS d i).set (2 * i) (UInt8.ofInt (d.getD i 0 % 256))).set (2 * i + 1) (UInt8.ofInt (d.getD i 0 / 256)) := rfl
    have e0 : (2 * (i : Int)).toNat = 2 * i := by omega
    have e1 : (2 * (i : Int) + 1).toNat = 2 * i + 1 := by omega
    repeat (refine Side.intro (by repeat' (first | (show AllP _; first | exact trivial | refine AllP.app ?_ ?_ | refine AllP.appd ?_ ?_ | refine AllP.cons ?_ ?_) | with_reducible rfl | with_reducible assumption | omega | (simp only [Nat.zero_add, Int.toNat_natCast, e0, e1, rng, Ix.val, addQ_eq, addI, sz3, sz5, sz22, sz24, sz38] <;> omega) | (simp only [Nat.zero_add, Int.toNat_natCast, e0, e1, rng, Ix.val, Int.toNat_natCast, mulE_eq, addQ_eq, addI, Option.getD_none, Option.getD_some, List.length_take, List.length_drop, List.length_append, List.length_set, List.length_replicate, sz3, sz5, sz22, sz24, sz38, *] <;> omega) | (simp only [Ix.val]; with_reducible assumption) | exact UInt8.toNat_lt _ | (apply Eq.trans; (with_reducible assumption); exact rfl) | exact rfl | exact fun _ _ => rfl)) ?_)
    refine ⟨i + 1, by omega, by omega, Le.intro [] rfl ?_ rfl ?_ rfl⟩
    · repeat' (first | (show AllP _; first | exact trivial | refine AllP.app ?_ ?_ | refine AllP.appd ?_ ?_ | refine AllP.cons ?_ ?_) | with_reducible rfl | with_reducible assumption | omega | (simp only [Nat.zero_add, Int.toNat_natCast, e0, e1, rng, Ix.val, addQ_eq, addI, sz3, sz5, sz22, sz24, sz38] <;> omega) | (simp only [Nat.zero_add, Int.toNat_natCast, e0, e1, rng, Ix.val, Int.toNat_natCast, mulE_eq, addQ_eq, addI, Option.getD_none, Option.getD_some, List.length_take, List.length_drop, List.length_append, List.length_set, List.length_replicate, sz3, sz5, sz22, sz24, sz38, *] <;> omega) | (simp only [Ix.val]; with_reducible assumption) | exact UInt8.toNat_lt _ | (apply Eq.trans; (with_reducible assumption); exact rfl) | exact rfl | exact fun _ _ => rfl)
    · repeat' (first | (show AllP _; first | exact trivial | refine AllP.app ?_ ?_ | refine AllP.appd ?_ ?_ | refine AllP.cons ?_ ?_) | with_reducible rfl | with_reducible assumption | omega | (simp only [Nat.zero_add, Int.toNat_natCast, e0, e1, rng, Ix.val, addQ_eq, addI, sz3, sz5, sz22, sz24, sz38] <;> omega) | (simp only [Nat.zero_add, Int.toNat_natCast, e0, e1, rng, Ix.val, Int.toNat_natCast, mulE_eq, addQ_eq, addI, Option.getD_none, Option.getD_some, List.length_take, List.length_drop, List.length_append, List.length_set, List.length_replicate, sz3, sz5, sz22, sz24, sz38, *] <;> omega) | (simp only [Ix.val]; with_reducible assumption) | exact UInt8.toNat_lt _ | (apply Eq.trans; (with_reducible assumption); exact rfl) | exact rfl | exact fun _ _ => rfl)
  · have h16 : i = 16 := by have hc : ¬ (i : Int) < 16 := hc; omega
    obtain ⟨R, hR⟩ : ∃ x, byS d i = x := ⟨_, rfl⟩
    have hR16 : byS d 16 = R := by rw [← hR, h16]
    rw [hR, hR16]
    rw [hR] at hll
    clear hR hR16
    repeat (refine Side.intro (by repeat' (first | (show AllP _; first | exact trivial | refine AllP.app ?_ ?_ | refine AllP.appd ?_ ?_ | refine AllP.cons ?_ ?_) | with_reducible rfl | with_reducible assumption | omega | (simp only [rng, Ix.val, addQ_eq, addI, sz3, sz5, sz22, sz24, sz38] <;> omega) | (simp only [rng, Ix.val, Int.toNat_natCast, mulE_eq, addQ_eq, addI, Option.getD_none, Option.getD_some, List.length_take, List.length_drop, List.length_append, List.length_set, List.length_replicate, sz3, sz5, sz22, sz24, sz38, *] <;> omega) | (simp only [Ix.val]; with_reducible assumption) | exact UInt8.toNat_lt _ | (apply Eq.trans; (with_reducible assumption); exact rfl) | exact rfl | exact fun _ _ => rfl)) ?_)
    refine Ret.intro (.a8 R) [(1000, .mem false 0 [(17, .ai d)])] [] rfl ?_ ⟨rfl, rfl⟩ rfl ?_ rfl ?_ rfl
    · repeat' (first | (show AllP _; first | exact trivial | refine AllP.app ?_ ?_ | refine AllP.appd ?_ ?_ | refine AllP.cons ?_ ?_) | with_reducible rfl | with_reducible assumption | omega | (simp only [rng, Ix.val, addQ_eq, addI, sz3, sz5, sz22, sz24, sz38] <;> omega) | (simp only [rng, Ix.val, Int.toNat_natCast, mulE_eq, addQ_eq, addI, Option.getD_none, Option.getD_some, List.length_take, List.length_drop, List.length_append, List.length_set, List.length_replicate, sz3, sz5, sz22, sz24, sz38, *] <;> omega) | (simp only [Ix.val]; with_reducible assumption) | exact UInt8.toNat_lt _ | (apply Eq.trans; (with_reducible assumption); exact rfl) | exact rfl | exact fun _ _ => rfl)
    · repeat' (first | (show AllP _; first | exact trivial | refine AllP.app ?_ ?_ | refine AllP.appd ?_ ?_ | refine AllP.cons ?_ ?_) | with_reducible rfl | with_reducible assumption | omega | (simp only [rng, Ix.val, addQ_eq, addI, sz3, sz5, sz22, sz24, sz38] <;> omega) | (simp only [rng, Ix.val, Int.toNat_natCast, mulE_eq, addQ_eq, addI, Option.getD_none, Option.getD_some, List.length_take, List.length_drop, List.length_append, List.length_set, List.length_replicate, sz3, sz5, sz22, sz24, sz38, *] <;> omega) | (simp only [Ix.val]; with_reducible assumption) | exact UInt8.toNat_lt _ | (apply Eq.trans; (with_reducible assumption); exact rfl) | exact rfl | exact fun _ _ => rfl)
    · repeat' (first | (show AllP _; first | exact trivial | refine AllP.app ?_ ?_ | refine AllP.appd ?_ ?_ | refine AllP.cons ?_ ?_) | with_reducible rfl | with_reducible assumption | omega | (simp only [rng, Ix.val, addQ_eq, addI, sz3, sz5, sz22, sz24, sz38] <;> omega) | (simp only [rng, Ix.val, Int.toNat_natCast, mulE_eq, addQ_eq, addI, Option.getD_none, Option.getD_some, List.length_take, List.length_drop, List.length_append, List.length_set, List.length_replicate, sz3, sz5, sz22, sz24, sz38, *] <;> omega) | (simp only [Ix.val]; with_reducible assumption) | exact UInt8.toNat_lt _ | (apply Eq.trans; (with_reducible assumption); exact rfl) | exact rfl | exact fun _ _ => rfl)

end Go.Proofs.Ytgfbclahkjdjeaa
