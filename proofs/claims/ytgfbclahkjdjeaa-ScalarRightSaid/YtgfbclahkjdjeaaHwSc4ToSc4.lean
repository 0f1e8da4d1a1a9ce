/- What the functions of the program compute. No condition. -/
import Derived.Test.YtgfbclahkjdjeaaHwSc3ToSc3
set_option linter.unusedSimpArgs false
set_option linter.unusedVariables false
namespace Go.Proofs.Ytgfbclahkjdjeaa
open Go Go.Sx

/-! The reference: Modulo. -/

def sbS (r l : List Int) : Nat → List Int × Int
  | 0 => (r, 0)
  | i + 1 => if (sbS r l i).1.getD i 0 - l.getD i 0 - (sbS r l i).2 < 0 then ((sbS r l i).1.set i ((sbS r l i).1.getD i 0 - l.getD i 0 - (sbS r l i).2 + 65536), 1)
    else ((sbS r l i).1.set i ((sbS r l i).1.getD i 0 - l.getD i 0 - (sbS r l i).2), 0)
theorem sbS_length (r l : List Int) : ∀ i, (sbS r l i).1.length = r.length
  | 0 => rfl
  | i + 1 => by simp only [sbS]; split <;> simp only [List.length_set, sbS_length r l i]
theorem sbS_old (r l : List Int) : ∀ i j, i ≤ j → (sbS r l i).1.getD j 0 = r.getD j 0
  | 0, _, _ => rfl
  | i + 1, j, h => by simp only [sbS]; split <;> (show (List.set _ _ _).getD j 0 = _; rw [getD_set_other (by omega), sbS_old r l i j (by omega)])
theorem sbS_dig {r l : List Int} (hr : Dig r) (hl : Dig l) : ∀ i, Dig (sbS r l i).1 ∧ 0 ≤ (sbS r l i).2 ∧ (sbS r l i).2 ≤ 1
  | 0 => ⟨hr, Int.le_refl _, by show (0 : Int) ≤ 1; decide⟩
  | i + 1 => by
    obtain ⟨h1, h2, h3⟩ := sbS_dig hr hl i
    have a := h1 i
    have b := hl i
    simp only [sbS]
    split
    · exact ⟨h1.set (by omega) (by omega), by show (0 : Int) ≤ 1; decide, by show (1 : Int) ≤ 1; decide⟩
    · exact ⟨h1.set (by omega) (by omega), by show (0 : Int) ≤ 0; decide, by show (0 : Int) ≤ 1; decide⟩
theorem sbS_val (r l : List Int) : ∀ i, i ≤ r.length → dv (sbS r l i).1 i - (sbS r l i).2 * 65536 ^ i = dv r i - dv l i
  | 0, _ => by simp only [sbS, dv]; omega
  | i + 1, hi => by
    have ih := sbS_val r l i (by omega)
    have hs := sbS_old r l i i (Nat.le_refl _)
    have hl := sbS_length r l i
    simp only [sbS]
    rw [hs]
    generalize hB : (sbS r l i).2 = B at ih
    split
    · show dv (List.set _ _ _) (i + 1) - 1 * 65536 ^ (i + 1) = _
      rw [dv_set_last (by omega)]
      simp only [dv]
      rw [Int.pow_succ]
      generalize (65536 : Int) ^ i = p at *
      have : (r.getD i 0 - l.getD i 0 - B + 65536) * p = r.getD i 0 * p - l.getD i 0 * p - B * p + 65536 * p := by rw [Int.add_mul, Int.sub_mul, Int.sub_mul]
      omega
    · show dv (List.set _ _ _) (i + 1) - 0 * 65536 ^ (i + 1) = _
      rw [dv_set_last (by omega)]
      simp only [dv]
      generalize (65536 : Int) ^ i = p at *
      have : (r.getD i 0 - l.getD i 0 - B) * p = r.getD i 0 * p - l.getD i 0 * p - B * p := by rw [Int.sub_mul, Int.sub_mul]
      omega

def shS (r : List Int) (x : Int) : Nat → List Int
  | 0 => (List.replicate 17 0).set 0 x
  | k + 1 => (shS r x k).set (k + 1) (r.getD k 0)
theorem shS_length (r : List Int) (x : Int) : ∀ k, (shS r x k).length = 17
  | 0 => by simp [shS]
  | k + 1 => by simp only [shS, List.length_set, shS_length r x k]
theorem shS_dig {r : List Int} {x : Int} (hr : Dig r) (h0 : 0 ≤ x) (h1 : x < 65536) : ∀ k, Dig (shS r x k)
  | 0 => (Dig.rep 17).set h0 h1
  | k + 1 => (shS_dig hr h0 h1 k).set (hr k).1 (hr k).2
theorem shS_val (r : List Int) (x : Int) : ∀ k, k ≤ 16 → dv (shS r x k) (k + 1) = x + 65536 * dv r k
  | 0, _ => by
    show dv (List.set _ _ _) 1 = _
    rw [dv_set_last (by simp)]
    simp only [dv]; omega
  | k + 1, h => by
    have ih := shS_val r x k (by omega)
    simp only [shS]
    rw [dv_set_last (by rw [shS_length]; omega), ih]
    simp only [dv]
    rw [Int.pow_succ, Int.mul_add]
    generalize (65536 : Int) ^ k = p
    have : r.getD k 0 * (p * 65536) = 65536 * (r.getD k 0 * p) := by rw [← Int.mul_assoc, Int.mul_comm]
    omega

def rdS (r : List Int) : Nat → List Int
  | 0 => r
  | k + 1 => if dv (rdS r k) 17 < dv (ordD (15 - k)) 17 then rdS r k else (sbS (rdS r k) (ordD (15 - k)) 17).1
theorem rdS_length {r : List Int} (h : r.length = 17) : ∀ k, (rdS r k).length = 17
  | 0 => h
  | k + 1 => by simp only [rdS]; split <;> simp only [sbS_length, rdS_length h k]
theorem rdS_dig {r : List Int} (h : Dig r) : ∀ k, Dig (rdS r k)
  | 0 => h
  | k + 1 => by
    simp only [rdS]; split
    · exact rdS_dig h k
    · exact (sbS_dig (rdS_dig h k) (ordD_dig _) 17).1
theorem Lz_pos : 0 < Lz := by decide
theorem rdS_val {r : List Int} (hd : Dig r) (hl : r.length = 17) (hb : dv r 17 < Lz * 2 ^ 16) : ∀ k, k ≤ 16 → dv (rdS r k) 17 < Lz * 2 ^ (16 - k) ∧ dv (rdS r k) 17 % Lz = dv r 17 % Lz
  | 0, _ => ⟨hb, rfl⟩
  | k + 1, hk => by
    obtain ⟨h1, h2⟩ := rdS_val hd hl hb k (by omega)
    have ho := ordD_val (15 - k) (by omega)
    have e : Lz * 2 ^ (16 - k) = 2 * (Lz * 2 ^ (15 - k)) := by
      rw [show 16 - k = 15 - k + 1 by omega, Int.pow_succ]
      generalize (2 : Int) ^ (15 - k) = q
      rw [Int.mul_comm q 2, ← Int.mul_assoc, ← Int.mul_assoc, Int.mul_comm 2 Lz]
    simp only [rdS]
    rw [show 16 - (k + 1) = 15 - k by omega]
    split
    · rename_i h
      rw [ho] at h
      exact ⟨h, h2⟩
    · rename_i h
      have hv := sbS_val (rdS r k) (ordD (15 - k)) 17 (by rw [rdS_length hl]; omega)
      obtain ⟨s1, s2, s3⟩ := sbS_dig (rdS_dig hd k) (ordD_dig (15 - k)) 17
      obtain ⟨b1, b2⟩ := dv_bound s1 17
      rw [ho] at h hv
      have hc : (sbS (rdS r k) (ordD (15 - k)) 17).2 = 0 := by
        rcases Int.lt_or_le (sbS (rdS r k) (ordD (15 - k)) 17).2 1 with h3 | h3
        · omega
        · have h4 : (sbS (rdS r k) (ordD (15 - k)) 17).2 = 1 := by omega
          rw [h4] at hv
          omega
      rw [hc] at hv
      have hv : dv (sbS (rdS r k) (ordD (15 - k)) 17).1 17 = dv (rdS r k) 17 - Lz * 2 ^ (15 - k) := by omega
      refine ⟨by omega, ?_⟩
      rw [hv, ← h2, Int.sub_mul_emod_self_left]

def moS (d : List Int) (n : Nat) : Nat → List Int
  | 0 => List.replicate 17 0
  | k + 1 => rdS (shS (moS d n k) (d.getD (n - 1 - k) 0) 16) 16
def tov (d : List Int) (n : Nat) : Nat → Int
  | 0 => 0
  | k + 1 => tov d n k * 65536 + d.getD (n - 1 - k) 0
theorem moS_length (d : List Int) (n : Nat) : ∀ k, (moS d n k).length = 17
  | 0 => List.length_replicate
  | k + 1 => rdS_length (shS_length _ _ _) 16
theorem moS_dig {d : List Int} (h : Dig d) (n : Nat) : ∀ k, Dig (moS d n k)
  | 0 => Dig.rep 17
  | k + 1 => rdS_dig (shS_dig (moS_dig h n k) (h _).1 (h _).2 16) 16
theorem dv_rep (n : Nat) : ∀ k, dv (List.replicate n 0) k = 0
  | 0 => rfl
  | k + 1 => by
    simp only [dv]
    rw [dv_rep n k, List.getD_eq_getElem?_getD, List.getElem?_replicate]
    split <;> simp
theorem moS_val {d : List Int} (h : Dig d) (n : Nat) : ∀ k, dv (moS d n k) 17 = tov d n k % Lz
  | 0 => by rw [show moS d n 0 = List.replicate 17 0 from rfl, dv_rep]; rfl
  | k + 1 => by
    have ih := moS_val h n k
    have hD := moS_dig h n k
    obtain ⟨x0, x1⟩ := h (n - 1 - k)
    have hm0 := Int.emod_nonneg (tov d n k) (show Lz ≠ 0 by decide)
    have hm1 := Int.emod_lt_of_pos (tov d n k) Lz_pos
    have h16 : (moS d n k).getD 16 0 = 0 := by
      obtain ⟨b1, b2⟩ := dv_bound hD 16
      obtain ⟨c1, c2⟩ := hD 16
      have : dv (moS d n k) 17 = dv (moS d n k) 16 + (moS d n k).getD 16 0 * 65536 ^ 16 := rfl
      have hL : Lz < 65536 ^ 16 := by decide
      rcases Int.lt_or_le 0 ((moS d n k).getD 16 0) with h3 | h3
      · have : 1 * 65536 ^ 16 ≤ (moS d n k).getD 16 0 * 65536 ^ 16 := Int.mul_le_mul_of_nonneg_right (by omega) (by decide)
        omega
      · omega
    have e17 : dv (moS d n k) 16 = tov d n k % Lz := by
      rw [← ih]
      show _ = dv (moS d n k) 16 + (moS d n k).getD 16 0 * 65536 ^ 16
      rw [h16]; omega
    have hs := shS_val (moS d n k) (d.getD (n - 1 - k) 0) 16 (by omega)
    rw [e17] at hs
    have hs : dv (shS (moS d n k) (d.getD (n - 1 - k) 0) 16) 17 = d.getD (n - 1 - k) 0 + 65536 * (tov d n k % Lz) := hs
    have hb : dv (shS (moS d n k) (d.getD (n - 1 - k) 0) 16) 17 < Lz * 2 ^ 16 := by rw [hs]; omega
    obtain ⟨r1, r2⟩ := rdS_val (shS_dig hD x0 x1 16) (shS_length _ _ _) hb 16 (by omega)
    have r0 := (dv_bound (rdS_dig (shS_dig hD x0 x1 16) 16) 17).1
    show dv (rdS (shS (moS d n k) (d.getD (n - 1 - k) 0) 16) 16) 17 = (tov d n k * 65536 + d.getD (n - 1 - k) 0) % Lz
    rw [← Int.emod_eq_of_lt r0 (by simpa using r1), r2, hs]
    rw [Int.add_comm (tov d n k * 65536), Int.mul_comm (tov d n k)]
    rw [Int.add_emod, Int.mul_emod, Int.emod_emod, ← Int.mul_emod, ← Int.add_emod]

set_option maxRecDepth 100000 in
set_option maxHeartbeats 1000000 in
theorem fn17 (d : List Int) (n : Nat) (hd : Dig d) (hl : d.length = n) (hmax : n ≤ 100000) : Sx.Fn Γ.P 17 [.slx 1000 0 0 n] [(1000, .mem false 0 [(n, .ai d)])]
    (fun v M => v = .sl 1001 0 0 16 17 ∧ M = [(1000, .mem false 0 [(n, .ai d)]), (1001, .mem true 0 [(17, .ai (moS d n n))])]) := by
  have hby : (Γ.ty 3).bytes = 8 := rfl
  refine fn_of (Γ := Γ) (fn := Try.f17) rfl rfl rfl rfl ?_
  repeat (refine Side.intro (by repeat' (first | (show AllP _; first | exact trivial | refine AllP.app ?_ ?_ | refine AllP.appd ?_ ?_ | refine AllP.cons ?_ ?_) | with_reducible rfl | with_reducible assumption | omega | (simp only [rng, Ix.val, addQ_eq, addI, sz3, sz38] <;> omega) | (simp only [rng, Ix.val, Int.toNat_natCast, mulE_eq, addQ_eq, addI, Option.getD_none, Option.getD_some, List.length_take, List.length_drop, List.length_append, List.length_set, List.length_replicate, sz3, sz38, *] <;> omega) | (simp only [Ix.val]; with_reducible assumption) | exact UInt8.toNat_lt _ | (apply Eq.trans; (with_reducible assumption); exact rfl) | exact rfl | exact fun _ _ => rfl)) ?_)
  refine Loop.intro (σ := Nat) (fun k => k ≤ n)
    (fun k => ([(0, .slx 1000 0 0 n), (3, .sl 300 0 0 17 17), (4, .i .i64 ((n : Int) - 1 - k))], [(1000, .mem false 0 [(n, .ai d)]), (300, .mem true 0 [(17, .ai (moS d n k))])])) (fun k => n - k) 0 (Nat.zero_le _) ?_ ?_
  · refine Le.intro [(300, (12, 0, none))] rfl (by repeat' (first | (show AllP _; first | exact trivial | refine AllP.app ?_ ?_ | refine AllP.appd ?_ ?_ | refine AllP.cons ?_ ?_) | with_reducible rfl | with_reducible assumption | omega | (simp only [rng, Ix.val, addQ_eq, addI, sz3, sz38] <;> omega) | (simp only [rng, Ix.val, Int.toNat_natCast, mulE_eq, addQ_eq, addI, Option.getD_none, Option.getD_some, List.length_take, List.length_drop, List.length_append, List.length_set, List.length_replicate, sz3, sz38, *] <;> omega) | (simp only [Ix.val]; with_reducible assumption) | exact UInt8.toNat_lt _ | (apply Eq.trans; (with_reducible assumption); exact rfl) | exact rfl | exact fun _ _ => rfl)) rfl ?_ rfl
    repeat' (first | (show AllP _; first | exact trivial | refine AllP.app ?_ ?_ | refine AllP.appd ?_ ?_ | refine AllP.cons ?_ ?_) | with_reducible rfl | with_reducible assumption | omega | (simp only [rng, Ix.val, addQ_eq, addI, sz3, sz38] <;> omega) | (simp only [rng, Ix.val, Int.toNat_natCast, mulE_eq, addQ_eq, addI, Option.getD_none, Option.getD_some, List.length_take, List.length_drop, List.length_append, List.length_set, List.length_replicate, sz3, sz38, *] <;> omega) | (simp only [Ix.val]; with_reducible assumption) | exact UInt8.toNat_lt _ | (apply Eq.trans; (with_reducible assumption); exact rfl) | exact rfl | exact fun _ _ => rfl)
  rintro k hk
  have hml := moS_length d n k
  have hmd := moS_dig hd n k
  refine Branch.intro (fun hc => ?_) (fun hc => ?_)
  · have hc : (n : Int) - 1 - k ≥ 0 := hc
    have e0 : ((n : Int) - 1 - k).toNat = n - 1 - k := by omega
    have hx := hd (n - 1 - k)
    have hn : moS d n (k + 1) = rdS (shS (moS d n k) (d.getD (n - 1 - k) 0) 16) 16 := rfl
    generalize moS d n k = r at hml hmd hn
    generalize hX : d.getD (n - 1 - k) 0 = x at hx hn
    repeat (refine Side.intro (by repeat' (first | (show AllP _; first | exact trivial | refine AllP.app ?_ ?_ | refine AllP.appd ?_ ?_ | refine AllP.cons ?_ ?_) | with_reducible rfl | with_reducible assumption | omega | (simp only [Nat.zero_add, e0, rng, Ix.val, addQ_eq, addI, sz3, sz38] <;> omega) | (simp only [Nat.zero_add, e0, rng, Ix.val, Int.toNat_natCast, mulE_eq, addQ_eq, addI, Option.getD_none, Option.getD_some, List.length_take, List.length_drop, List.length_append, List.length_set, List.length_replicate, sz3, sz38, *] <;> omega) | (simp only [Ix.val]; with_reducible assumption) | exact UInt8.toNat_lt _ | (apply Eq.trans; (with_reducible assumption); exact rfl) | exact rfl | exact fun _ _ => rfl)) ?_)
    refine Loop.intro (σ := Nat) (fun j => j ≤ 16)
      (fun j => ([(0, .slx 1000 0 0 n), (3, .sl 300 0 0 17 17), (4, .i .i64 ((n : Int) - 1 - k)), (5, .sl 20 0 0 17 17), (6, .i .i64 ((j : Int) + 1))],
        [(1000, .mem false 0 [(n, .ai d)]), (300, .mem true 0 [(17, .ai r)]), (20, .mem true 0 [(17, .ai (shS r x j))])])) (fun j => 16 - j) 0 (Nat.zero_le _) ?_ ?_
    · have hsh : shS r x 0 = (List.replicate 17 0).set 0 x := rfl
      refine Le.intro [] rfl ?_ rfl ?_ rfl
      · repeat' (first | (show AllP _; first | exact trivial | refine AllP.app ?_ ?_ | refine AllP.appd ?_ ?_ | refine AllP.cons ?_ ?_) | with_reducible rfl | with_reducible assumption | omega | (simp only [rng, Ix.val, addQ_eq, addI, sz3, sz38] <;> omega) | (simp only [rng, Ix.val, Int.toNat_natCast, mulE_eq, addQ_eq, addI, Option.getD_none, Option.getD_some, List.length_take, List.length_drop, List.length_append, List.length_set, List.length_replicate, sz3, sz38, *] <;> omega) | (simp only [Ix.val]; with_reducible assumption) | exact UInt8.toNat_lt _ | (apply Eq.trans; (with_reducible assumption); exact rfl) | exact rfl | exact fun _ _ => rfl)
      · repeat' (first | (show AllP _; first | exact trivial | refine AllP.app ?_ ?_ | refine AllP.appd ?_ ?_ | refine AllP.cons ?_ ?_) | with_reducible rfl | with_reducible assumption | omega | (simp only [Nat.zero_add, e0, rng, Ix.val, addQ_eq, addI, sz3, sz38] <;> omega) | (simp only [Nat.zero_add, e0, rng, Ix.val, Int.toNat_natCast, mulE_eq, addQ_eq, addI, Option.getD_none, Option.getD_some, List.length_take, List.length_drop, List.length_append, List.length_set, List.length_replicate, sz3, sz38, *] <;> omega) | (simp only [Ix.val]; with_reducible assumption) | exact UInt8.toNat_lt _ | (apply Eq.trans; (with_reducible assumption); exact rfl) | exact rfl | exact fun _ _ => rfl)
    rintro j hj
    have hsl := shS_length r x j
    refine Branch.intro (fun hc => ?_) (fun hc => ?_)
    · have hc : (j : Int) + 1 < 17 := hc
      have e1 : ((j : Int) + 1).toNat = j + 1 := by omega
      have e2 : ((j : Int) + 1 - 1).toNat = j := by omega
      have hrj := hmd j
      have hsh : shS r x (j + 1) = (shS r x j).set (j + 1) (r.getD j 0) := rfl
      repeat (refine Side.intro (by repeat' (first | (show AllP _; first | exact trivial | refine AllP.app ?_ ?_ | refine AllP.appd ?_ ?_ | refine AllP.cons ?_ ?_) | with_reducible rfl | with_reducible assumption | omega | (simp only [Nat.zero_add, e1, e2, rng, Ix.val, addQ_eq, addI, sz3, sz38] <;> omega) | (simp only [Nat.zero_add, e1, e2, rng, Ix.val, Int.toNat_natCast, mulE_eq, addQ_eq, addI, Option.getD_none, Option.getD_some, List.length_take, List.length_drop, List.length_append, List.length_set, List.length_replicate, sz3, sz38, *] <;> omega) | (simp only [Ix.val]; with_reducible assumption) | exact UInt8.toNat_lt _ | (apply Eq.trans; (with_reducible assumption); exact rfl) | exact rfl | exact fun _ _ => rfl)) ?_)
      refine ⟨j + 1, by omega, by omega, Le.intro [] rfl ?_ rfl ?_ rfl⟩
      · repeat' (first | (show AllP _; first | exact trivial | refine AllP.app ?_ ?_ | refine AllP.appd ?_ ?_ | refine AllP.cons ?_ ?_) | with_reducible rfl | with_reducible assumption | omega | (simp only [rng, Ix.val, addQ_eq, addI, sz3, sz38] <;> omega) | (simp only [rng, Ix.val, Int.toNat_natCast, mulE_eq, addQ_eq, addI, Option.getD_none, Option.getD_some, List.length_take, List.length_drop, List.length_append, List.length_set, List.length_replicate, sz3, sz38, *] <;> omega) | (simp only [Ix.val]; with_reducible assumption) | exact UInt8.toNat_lt _ | (apply Eq.trans; (with_reducible assumption); exact rfl) | exact rfl | exact fun _ _ => rfl)
      · repeat' (first | (show AllP _; first | exact trivial | refine AllP.app ?_ ?_ | refine AllP.appd ?_ ?_ | refine AllP.cons ?_ ?_) | with_reducible rfl | with_reducible assumption | omega | (simp only [Nat.zero_add, e1, e2, rng, Ix.val, addQ_eq, addI, sz3, sz38] <;> omega) | (simp only [Nat.zero_add, e1, e2, rng, Ix.val, Int.toNat_natCast, mulE_eq, addQ_eq, addI, Option.getD_none, Option.getD_some, List.length_take, List.length_drop, List.length_append, List.length_set, List.length_replicate, sz3, sz38, *] <;> omega) | (simp only [Ix.val]; with_reducible assumption) | exact UInt8.toNat_lt _ | (apply Eq.trans; (with_reducible assumption); exact rfl) | exact rfl | exact fun _ _ => rfl)
    · have h16 : j = 16 := by have hc : ¬ (j : Int) + 1 < 17 := hc; omega
      have hsd := shS_dig hmd hx.1 hx.2 j
      obtain ⟨s, hs⟩ : ∃ y, shS r x j = y := ⟨_, rfl⟩
      have hn : moS d n (k + 1) = rdS (shS r x j) 16 := by rw [hn, h16]
      rw [hs] at hn
      rw [hs] at hsl hsd
      rw [hs]
      clear hs h16
      repeat (refine Side.intro (by repeat' (first | (show AllP _; first | exact trivial | refine AllP.app ?_ ?_ | refine AllP.appd ?_ ?_ | refine AllP.cons ?_ ?_) | with_reducible rfl | with_reducible assumption | omega | (simp only [rng, Ix.val, addQ_eq, addI, sz3, sz38] <;> omega) | (simp only [rng, Ix.val, Int.toNat_natCast, mulE_eq, addQ_eq, addI, Option.getD_none, Option.getD_some, List.length_take, List.length_drop, List.length_append, List.length_set, List.length_replicate, sz3, sz38, *] <;> omega) | (simp only [Ix.val]; with_reducible assumption) | exact UInt8.toNat_lt _ | (apply Eq.trans; (with_reducible assumption); exact rfl) | exact rfl | exact fun _ _ => rfl)) ?_)
      refine Loop.intro (σ := Nat) (fun q => q ≤ 16)
        (fun q => ([(0, .slx 1000 0 0 n), (3, .sl 302 0 0 17 17), (4, .i .i64 ((n : Int) - 1 - k)), (7, .i .i64 (15 - (q : Int)))],
          [(1000, .mem false 0 [(n, .ai d)]), (302, .mem true 0 [(17, .ai (rdS s q))])])) (fun q => 16 - q) 0 (Nat.zero_le _) ?_ ?_
      · have hrs : rdS s 0 = s := rfl
        refine Le.intro [(302, (20, 0, none))] rfl ?_ rfl ?_ rfl
        · repeat' (first | (show AllP _; first | exact trivial | refine AllP.app ?_ ?_ | refine AllP.appd ?_ ?_ | refine AllP.cons ?_ ?_) | with_reducible rfl | with_reducible assumption | omega | (simp only [rng, Ix.val, addQ_eq, addI, sz3, sz38] <;> omega) | (simp only [rng, Ix.val, Int.toNat_natCast, mulE_eq, addQ_eq, addI, Option.getD_none, Option.getD_some, List.length_take, List.length_drop, List.length_append, List.length_set, List.length_replicate, sz3, sz38, *] <;> omega) | (simp only [Ix.val]; with_reducible assumption) | exact UInt8.toNat_lt _ | (apply Eq.trans; (with_reducible assumption); exact rfl) | exact rfl | exact fun _ _ => rfl)
        · repeat' (first | (show AllP _; first | exact trivial | refine AllP.app ?_ ?_ | refine AllP.appd ?_ ?_ | refine AllP.cons ?_ ?_) | with_reducible rfl | with_reducible assumption | omega | (simp only [rng, Ix.val, addQ_eq, addI, sz3, sz38] <;> omega) | (simp only [rng, Ix.val, Int.toNat_natCast, mulE_eq, addQ_eq, addI, Option.getD_none, Option.getD_some, List.length_take, List.length_drop, List.length_append, List.length_set, List.length_replicate, sz3, sz38, *] <;> omega) | (simp only [Ix.val]; with_reducible assumption) | exact UInt8.toNat_lt _ | (apply Eq.trans; (with_reducible assumption); exact rfl) | exact rfl | exact fun _ _ => rfl)
      rintro q hq
      have hrl := rdS_length hsl q
      have hrd := rdS_dig hsd q
      refine Branch.intro (fun hc => ?_) (fun hc => ?_)
      · have hc : (15 - (q : Int)) ≥ 0 := hc
        have hrs : rdS s (q + 1) = if dv (rdS s q) 17 < dv (ordD (15 - q)) 17 then rdS s q else (sbS (rdS s q) (ordD (15 - q)) 17).1 := rfl
        have hO := fn24 (15 - q) (by omega)
        have hol := ordD_length (15 - q)
        have hod := ordD_dig (15 - q)
        have hB := fn25 (rdS s q) (ordD (15 - q)) hrd hod hrl hol
        generalize ordD (15 - q) = l at hrs hO hol hod hB
        generalize rdS s q = y at hrl hrd hrs hB
        repeat (refine Side.intro (by repeat' (first | (show AllP _; first | exact trivial | refine AllP.app ?_ ?_ | refine AllP.appd ?_ ?_ | refine AllP.cons ?_ ?_) | with_reducible rfl | with_reducible assumption | omega | (simp only [rng, Ix.val, addQ_eq, addI, sz3, sz38] <;> omega) | (simp only [rng, Ix.val, Int.toNat_natCast, mulE_eq, addQ_eq, addI, Option.getD_none, Option.getD_some, List.length_take, List.length_drop, List.length_append, List.length_set, List.length_replicate, sz3, sz38, *] <;> omega) | (simp only [Ix.val]; with_reducible assumption) | exact UInt8.toNat_lt _ | (apply Eq.trans; (with_reducible assumption); exact rfl) | exact rfl | exact fun _ _ => rfl)) ?_)
        refine Call.intro hO [(1001, (301, 0, none))] rfl ?_ rfl trivial rfl ?_
        · repeat' (first | (show AllP _; first | exact trivial | refine AllP.app ?_ ?_ | refine AllP.appd ?_ ?_ | refine AllP.cons ?_ ?_) | with_reducible rfl | with_reducible assumption | omega | (simp only [rng, Ix.val, addQ_eq, addI, sz3, sz38] <;> omega) | (simp only [rng, Ix.val, Int.toNat_natCast, mulE_eq, addQ_eq, addI, Option.getD_none, Option.getD_some, List.length_take, List.length_drop, List.length_append, List.length_set, List.length_replicate, sz3, sz38, *] <;> omega) | (simp only [Ix.val]; with_reducible assumption) | exact UInt8.toNat_lt _ | (apply Eq.trans; (with_reducible assumption); exact rfl) | exact rfl | exact fun _ _ => rfl)
        rintro v M' ⟨rfl, rfl⟩
        repeat (refine Side.intro (by repeat' (first | (show AllP _; first | exact trivial | refine AllP.app ?_ ?_ | refine AllP.appd ?_ ?_ | refine AllP.cons ?_ ?_) | with_reducible rfl | with_reducible assumption | omega | (simp only [rng, Ix.val, addQ_eq, addI, sz3, sz38] <;> omega) | (simp only [rng, Ix.val, Int.toNat_natCast, mulE_eq, addQ_eq, addI, Option.getD_none, Option.getD_some, List.length_take, List.length_drop, List.length_append, List.length_set, List.length_replicate, sz3, sz38, *] <;> omega) | (simp only [Ix.val]; with_reducible assumption) | exact UInt8.toNat_lt _ | (apply Eq.trans; (with_reducible assumption); exact rfl) | exact rfl | exact fun _ _ => rfl)) ?_)
        refine Call.intro hB [(1000, (302, 0, none)), (1001, (301, 0, none))] rfl (by repeat' (first | (show AllP _; first | exact trivial | refine AllP.app ?_ ?_ | refine AllP.appd ?_ ?_ | refine AllP.cons ?_ ?_) | with_reducible rfl | with_reducible assumption | omega | (simp only [rng, Ix.val, addQ_eq, addI, sz3, sz38] <;> omega) | (simp only [rng, Ix.val, Int.toNat_natCast, mulE_eq, addQ_eq, addI, Option.getD_none, Option.getD_some, List.length_take, List.length_drop, List.length_append, List.length_set, List.length_replicate, sz3, sz38, *] <;> omega) | (simp only [Ix.val]; with_reducible assumption) | exact UInt8.toNat_lt _ | (apply Eq.trans; (with_reducible assumption); exact rfl) | exact rfl | exact fun _ _ => rfl)) rfl (by repeat' (first | (show AllP _; first | exact trivial | refine AllP.app ?_ ?_ | refine AllP.appd ?_ ?_ | refine AllP.cons ?_ ?_) | with_reducible rfl | with_reducible assumption | omega | (simp only [rng, Ix.val, addQ_eq, addI, sz3, sz38] <;> omega) | (simp only [rng, Ix.val, Int.toNat_natCast, mulE_eq, addQ_eq, addI, Option.getD_none, Option.getD_some, List.length_take, List.length_drop, List.length_append, List.length_set, List.length_replicate, sz3, sz38, *] <;> omega) | (simp only [Ix.val]; with_reducible assumption) | exact UInt8.toNat_lt _ | (apply Eq.trans; (with_reducible assumption); exact rfl) | exact rfl | exact fun _ _ => rfl)) rfl ?_
        rintro v M' ⟨rfl, rfl⟩
        repeat (refine Side.intro (by repeat' (first | (show AllP _; first | exact trivial | refine AllP.app ?_ ?_ | refine AllP.appd ?_ ?_ | refine AllP.cons ?_ ?_) | with_reducible rfl | with_reducible assumption | omega | (simp only [rng, Ix.val, addQ_eq, addI, sz3, sz38] <;> omega) | (simp only [rng, Ix.val, Int.toNat_natCast, mulE_eq, addQ_eq, addI, Option.getD_none, Option.getD_some, List.length_take, List.length_drop, List.length_append, List.length_set, List.length_replicate, sz3, sz38, *] <;> omega) | (simp only [Ix.val]; with_reducible assumption) | exact UInt8.toNat_lt _ | (apply Eq.trans; (with_reducible assumption); exact rfl) | exact rfl | exact fun _ _ => rfl)) ?_)
        refine Branch.intro (fun hb => ?_) (fun hb => ?_)
        · rw [if_neg hb] at hrs
          repeat (refine Side.intro (by repeat' (first | (show AllP _; first | exact trivial | refine AllP.app ?_ ?_ | refine AllP.appd ?_ ?_ | refine AllP.cons ?_ ?_) | with_reducible rfl | with_reducible assumption | omega | (simp only [rng, Ix.val, addQ_eq, addI, sz3, sz38] <;> omega) | (simp only [rng, Ix.val, Int.toNat_natCast, mulE_eq, addQ_eq, addI, Option.getD_none, Option.getD_some, List.length_take, List.length_drop, List.length_append, List.length_set, List.length_replicate, sz3, sz38, *] <;> omega) | (simp only [Ix.val]; with_reducible assumption) | exact UInt8.toNat_lt _ | (apply Eq.trans; (with_reducible assumption); exact rfl) | exact rfl | exact fun _ _ => rfl)) ?_)
          refine Loop.intro (σ := Nat) (fun i => i ≤ 17)
            (fun i => ([(0, .slx 1000 0 0 n), (3, .sl 302 0 0 17 17), (4, .i .i64 ((n : Int) - 1 - k)), (7, .i .i64 (15 - (q : Int))), (8, .sl 301 0 0 17 17), (9, .i .i64 (sbS y l i).2), (10, .i .i64 i)],
              [(1000, .mem false 0 [(n, .ai d)]), (302, .mem true 0 [(17, .ai (sbS y l i).1)]), (301, .mem true 0 [(17, .ai l)])])) (fun i => 17 - i) 0 (Nat.zero_le _) ?_ ?_
          · have hz1 : (sbS y l 0).1 = y := rfl
            have hz2 : (sbS y l 0).2 = 0 := rfl
            refine Le.intro [] rfl ?_ rfl ?_ rfl
            · repeat' (first | (show AllP _; first | exact trivial | refine AllP.app ?_ ?_ | refine AllP.appd ?_ ?_ | refine AllP.cons ?_ ?_) | with_reducible rfl | with_reducible assumption | omega | (simp only [rng, Ix.val, addQ_eq, addI, sz3, sz38] <;> omega) | (simp only [rng, Ix.val, Int.toNat_natCast, mulE_eq, addQ_eq, addI, Option.getD_none, Option.getD_some, List.length_take, List.length_drop, List.length_append, List.length_set, List.length_replicate, sz3, sz38, *] <;> omega) | (simp only [Ix.val]; with_reducible assumption) | exact UInt8.toNat_lt _ | (apply Eq.trans; (with_reducible assumption); exact rfl) | exact rfl | exact fun _ _ => rfl)
            · repeat' (first | (show AllP _; first | exact trivial | refine AllP.app ?_ ?_ | refine AllP.appd ?_ ?_ | refine AllP.cons ?_ ?_) | with_reducible rfl | with_reducible assumption | omega | (simp only [rng, Ix.val, addQ_eq, addI, sz3, sz38] <;> omega) | (simp only [rng, Ix.val, Int.toNat_natCast, mulE_eq, addQ_eq, addI, Option.getD_none, Option.getD_some, List.length_take, List.length_drop, List.length_append, List.length_set, List.length_replicate, sz3, sz38, *] <;> omega) | (simp only [Ix.val]; with_reducible assumption) | exact UInt8.toNat_lt _ | (apply Eq.trans; (with_reducible assumption); exact rfl) | exact rfl | exact fun _ _ => rfl)
          rintro i hi
          obtain ⟨b1, b2, b3⟩ := sbS_dig hrd hod i
          have hyl := sbS_length y l i
          refine Branch.intro (fun hc => ?_) (fun hc => ?_)
          · have hc : (i : Int) < 17 := hc
            have hbi := b1 i
            have hli := hod i
            have hy1 : sbS y l (i + 1) = if (sbS y l i).1.getD i 0 - l.getD i 0 - (sbS y l i).2 < 0 then ((sbS y l i).1.set i ((sbS y l i).1.getD i 0 - l.getD i 0 - (sbS y l i).2 + 65536), 1) else ((sbS y l i).1.set i ((sbS y l i).1.getD i 0 - l.getD i 0 - (sbS y l i).2), 0) := rfl
            generalize (sbS y l i).1 = Y at *
            generalize (sbS y l i).2 = B at *
            refine Draw.intro [[], [], [0, 1], [0, 1, 2], [], [], [4, 5], [4, 5, 6], [0, 1, 2, 3, 4, 5, 6, 7], [], [0, 1, 2, 3, 4, 5, 6, 7, 8, 9], [0, 1, 2, 3, 4, 5, 6, 7, 8, 9, 10]] [0, 1, 2, 3, 4, 5, 6, 7, 8, 9, 10, 11] (by kernel_rfl) ?_
            repeat (refine Side.intro (by repeat' (first | (show AllP _; first | exact trivial | refine AllP.app ?_ ?_ | refine AllP.appd ?_ ?_ | refine AllP.cons ?_ ?_) | with_reducible rfl | with_reducible assumption | omega | (simp only [Nat.zero_add, Int.toNat_natCast, rng, Ix.val, addQ_eq, addI, sz3, sz38] <;> omega) | (simp only [Nat.zero_add, Int.toNat_natCast, rng, Ix.val, Int.toNat_natCast, mulE_eq, addQ_eq, addI, Option.getD_none, Option.getD_some, List.length_take, List.length_drop, List.length_append, List.length_set, List.length_replicate, sz3, sz38, *] <;> omega) | (simp only [Ix.val]; with_reducible assumption) | exact UInt8.toNat_lt _ | (apply Eq.trans; (with_reducible assumption); exact rfl) | exact rfl | exact fun _ _ => rfl)) ?_)
            refine Branch.intro (fun hv => ?_) (fun hv => ?_)
            · have hv : Y.getD (addQ 0 (i : Int).toNat) 0 - l.getD (addQ 0 (i : Int).toNat) 0 - B < 0 := hv
              rw [addQ_eq, Nat.zero_add, Int.toNat_natCast] at hv
              rw [if_pos hv] at hy1
              have hy2 : (sbS y l (i + 1)).1 = Y.set i (Y.getD i 0 - l.getD i 0 - B + 65536) := by rw [hy1]
              have hy3 : (sbS y l (i + 1)).2 = 1 := by rw [hy1]
              clear hy1
              repeat (refine Side.intro (by repeat' (first | (show AllP _; first | exact trivial | refine AllP.app ?_ ?_ | refine AllP.appd ?_ ?_ | refine AllP.cons ?_ ?_) | with_reducible rfl | with_reducible assumption | omega | (simp only [Nat.zero_add, Int.toNat_natCast, rng, Ix.val, addQ_eq, addI, sz3, sz38] <;> omega) | (simp only [Nat.zero_add, Int.toNat_natCast, rng, Ix.val, Int.toNat_natCast, mulE_eq, addQ_eq, addI, Option.getD_none, Option.getD_some, List.length_take, List.length_drop, List.length_append, List.length_set, List.length_replicate, sz3, sz38, *] <;> omega) | (simp only [Ix.val]; with_reducible assumption) | exact UInt8.toNat_lt _ | (apply Eq.trans; (with_reducible assumption); exact rfl) | exact rfl | exact fun _ _ => rfl)) ?_)
              refine ⟨i + 1, by omega, by omega, Le.intro [] rfl ?_ rfl ?_ rfl⟩
              · repeat' (first | (show AllP _; first | exact trivial | refine AllP.app ?_ ?_ | refine AllP.appd ?_ ?_ | refine AllP.cons ?_ ?_) | with_reducible rfl | with_reducible assumption | omega | (simp only [Nat.zero_add, Int.toNat_natCast, rng, Ix.val, addQ_eq, addI, sz3, sz38] <;> omega) | (simp only [Nat.zero_add, Int.toNat_natCast, rng, Ix.val, Int.toNat_natCast, mulE_eq, addQ_eq, addI, Option.getD_none, Option.getD_some, List.length_take, List.length_drop, List.length_append, List.length_set, List.length_replicate, sz3, sz38, *] <;> omega) | (simp only [Ix.val]; with_reducible assumption) | exact UInt8.toNat_lt _ | (apply Eq.trans; (with_reducible assumption); exact rfl) | exact rfl | exact fun _ _ => rfl)
              · repeat' (first | (show AllP _; first | exact trivial | refine AllP.app ?_ ?_ | refine AllP.appd ?_ ?_ | refine AllP.cons ?_ ?_) | with_reducible rfl | with_reducible assumption | omega | (simp only [Nat.zero_add, Int.toNat_natCast, rng, Ix.val, addQ_eq, addI, sz3, sz38] <;> omega) | (simp only [Nat.zero_add, Int.toNat_natCast, rng, Ix.val, Int.toNat_natCast, mulE_eq, addQ_eq, addI, Option.getD_none, Option.getD_some, List.length_take, List.length_drop, List.length_append, List.length_set, List.length_replicate, sz3, sz38, *] <;> omega) | (simp only [Ix.val]; with_reducible assumption) | exact UInt8.toNat_lt _ | (apply Eq.trans; (with_reducible assumption); exact rfl) | exact rfl | exact fun _ _ => rfl)
            · have hv : ¬ Y.getD (addQ 0 (i : Int).toNat) 0 - l.getD (addQ 0 (i : Int).toNat) 0 - B < 0 := hv
              rw [addQ_eq, Nat.zero_add, Int.toNat_natCast] at hv
              rw [if_neg hv] at hy1
              have hy2 : (sbS y l (i + 1)).1 = Y.set i (Y.getD i 0 - l.getD i 0 - B) := by rw [hy1]
              have hy3 : (sbS y l (i + 1)).2 = 0 := by rw [hy1]
              clear hy1
              repeat (refine Side.intro (by repeat' (first | (show AllP _; first | exact trivial | refine AllP.app ?_ ?_ | refine AllP.appd ?_ ?_ | refine AllP.cons ?_ ?_) | with_reducible rfl | with_reducible assumption | omega | (simp only [Nat.zero_add, Int.toNat_natCast, rng, Ix.val, addQ_eq, addI, sz3, sz38] <;> omega) | (simp only [Nat.zero_add, Int.toNat_natCast, rng, Ix.val, Int.toNat_natCast, mulE_eq, addQ_eq, addI, Option.getD_none, Option.getD_some, List.length_take, List.length_drop, List.length_append, List.length_set, List.length_replicate, sz3, sz38, *] <;> omega) | (simp only [Ix.val]; with_reducible assumption) | exact UInt8.toNat_lt _ | (apply Eq.trans; (with_reducible assumption); exact rfl) | exact rfl | exact fun _ _ => rfl)) ?_)
              refine ⟨i + 1, by omega, by omega, Le.intro [] rfl ?_ rfl ?_ rfl⟩
              · repeat' (first | (show AllP _; first | exact trivial | refine AllP.app ?_ ?_ | refine AllP.appd ?_ ?_ | refine AllP.cons ?_ ?_) | with_reducible rfl | with_reducible assumption | omega | (simp only [Nat.zero_add, Int.toNat_natCast, rng, Ix.val, addQ_eq, addI, sz3, sz38] <;> omega) | (simp only [Nat.zero_add, Int.toNat_natCast, rng, Ix.val, Int.toNat_natCast, mulE_eq, addQ_eq, addI, Option.getD_none, Option.getD_some, List.length_take, List.length_drop, List.length_append, List.length_set, List.length_replicate, sz3, sz38, *] <;> omega) | (simp only [Ix.val]; with_reducible assumption) | exact UInt8.toNat_lt _ | (apply Eq.trans; (with_reducible assumption); exact rfl) | exact rfl | exact fun _ _ => rfl)
              · repeat' (first | (show AllP _; first | exact trivial | refine AllP.app ?_ ?_ | refine AllP.appd ?_ ?_ | refine AllP.cons ?_ ?_) | with_reducible rfl | with_reducible assumption | omega | (simp only [Nat.zero_add, Int.toNat_natCast, rng, Ix.val, addQ_eq, addI, sz3, sz38] <;> omega) | (simp only [Nat.zero_add, Int.toNat_natCast, rng, Ix.val, Int.toNat_natCast, mulE_eq, addQ_eq, addI, Option.getD_none, Option.getD_some, List.length_take, List.length_drop, List.length_append, List.length_set, List.length_replicate, sz3, sz38, *] <;> omega) | (simp only [Ix.val]; with_reducible assumption) | exact UInt8.toNat_lt _ | (apply Eq.trans; (with_reducible assumption); exact rfl) | exact rfl | exact fun _ _ => rfl)
          · have h17 : i = 17 := by have hc : ¬ (i : Int) < 17 := hc; omega
            rw [← h17] at hrs
            obtain ⟨Y, hY⟩ : ∃ z, (sbS y l i).1 = z := ⟨_, rfl⟩
            rw [hY] at hrs hyl
            rw [hY]
            clear hY h17
            repeat (refine Side.intro (by repeat' (first | (show AllP _; first | exact trivial | refine AllP.app ?_ ?_ | refine AllP.appd ?_ ?_ | refine AllP.cons ?_ ?_) | with_reducible rfl | with_reducible assumption | omega | (simp only [rng, Ix.val, addQ_eq, addI, sz3, sz38] <;> omega) | (simp only [rng, Ix.val, Int.toNat_natCast, mulE_eq, addQ_eq, addI, Option.getD_none, Option.getD_some, List.length_take, List.length_drop, List.length_append, List.length_set, List.length_replicate, sz3, sz38, *] <;> omega) | (simp only [Ix.val]; with_reducible assumption) | exact UInt8.toNat_lt _ | (apply Eq.trans; (with_reducible assumption); exact rfl) | exact rfl | exact fun _ _ => rfl)) ?_)
            refine ⟨q + 1, by omega, by omega, Le.intro [] rfl ?_ rfl ?_ rfl⟩
            · repeat' (first | (show AllP _; first | exact trivial | refine AllP.app ?_ ?_ | refine AllP.appd ?_ ?_ | refine AllP.cons ?_ ?_) | with_reducible rfl | with_reducible assumption | omega | (simp only [rng, Ix.val, addQ_eq, addI, sz3, sz38] <;> omega) | (simp only [rng, Ix.val, Int.toNat_natCast, mulE_eq, addQ_eq, addI, Option.getD_none, Option.getD_some, List.length_take, List.length_drop, List.length_append, List.length_set, List.length_replicate, sz3, sz38, *] <;> omega) | (simp only [Ix.val]; with_reducible assumption) | exact UInt8.toNat_lt _ | (apply Eq.trans; (with_reducible assumption); exact rfl) | exact rfl | exact fun _ _ => rfl)
            · repeat' (first | (show AllP _; first | exact trivial | refine AllP.app ?_ ?_ | refine AllP.appd ?_ ?_ | refine AllP.cons ?_ ?_) | with_reducible rfl | with_reducible assumption | omega | (simp only [rng, Ix.val, addQ_eq, addI, sz3, sz38] <;> omega) | (simp only [rng, Ix.val, Int.toNat_natCast, mulE_eq, addQ_eq, addI, Option.getD_none, Option.getD_some, List.length_take, List.length_drop, List.length_append, List.length_set, List.length_replicate, sz3, sz38, *] <;> omega) | (simp only [Ix.val]; with_reducible assumption) | exact UInt8.toNat_lt _ | (apply Eq.trans; (with_reducible assumption); exact rfl) | exact rfl | exact fun _ _ => rfl)
        · rw [if_pos (Decidable.of_not_not hb)] at hrs
          repeat (refine Side.intro (by repeat' (first | (show AllP _; first | exact trivial | refine AllP.app ?_ ?_ | refine AllP.appd ?_ ?_ | refine AllP.cons ?_ ?_) | with_reducible rfl | with_reducible assumption | omega | (simp only [rng, Ix.val, addQ_eq, addI, sz3, sz38] <;> omega) | (simp only [rng, Ix.val, Int.toNat_natCast, mulE_eq, addQ_eq, addI, Option.getD_none, Option.getD_some, List.length_take, List.length_drop, List.length_append, List.length_set, List.length_replicate, sz3, sz38, *] <;> omega) | (simp only [Ix.val]; with_reducible assumption) | exact UInt8.toNat_lt _ | (apply Eq.trans; (with_reducible assumption); exact rfl) | exact rfl | exact fun _ _ => rfl)) ?_)
          refine ⟨q + 1, by omega, by omega, Le.intro [] rfl ?_ rfl ?_ rfl⟩
          · repeat' (first | (show AllP _; first | exact trivial | refine AllP.app ?_ ?_ | refine AllP.appd ?_ ?_ | refine AllP.cons ?_ ?_) | with_reducible rfl | with_reducible assumption | omega | (simp only [rng, Ix.val, addQ_eq, addI, sz3, sz38] <;> omega) | (simp only [rng, Ix.val, Int.toNat_natCast, mulE_eq, addQ_eq, addI, Option.getD_none, Option.getD_some, List.length_take, List.length_drop, List.length_append, List.length_set, List.length_replicate, sz3, sz38, *] <;> omega) | (simp only [Ix.val]; with_reducible assumption) | exact UInt8.toNat_lt _ | (apply Eq.trans; (with_reducible assumption); exact rfl) | exact rfl | exact fun _ _ => rfl)
          · repeat' (first | (show AllP _; first | exact trivial | refine AllP.app ?_ ?_ | refine AllP.appd ?_ ?_ | refine AllP.cons ?_ ?_) | with_reducible rfl | with_reducible assumption | omega | (simp only [rng, Ix.val, addQ_eq, addI, sz3, sz38] <;> omega) | (simp only [rng, Ix.val, Int.toNat_natCast, mulE_eq, addQ_eq, addI, Option.getD_none, Option.getD_some, List.length_take, List.length_drop, List.length_append, List.length_set, List.length_replicate, sz3, sz38, *] <;> omega) | (simp only [Ix.val]; with_reducible assumption) | exact UInt8.toNat_lt _ | (apply Eq.trans; (with_reducible assumption); exact rfl) | exact rfl | exact fun _ _ => rfl)
      · have h16 : q = 16 := by have hc : ¬ (15 - (q : Int)) ≥ 0 := hc; omega
        have hn : moS d n (k + 1) = rdS s q := by rw [hn, h16]
        obtain ⟨Y, hY⟩ : ∃ z, rdS s q = z := ⟨_, rfl⟩
        rw [hY] at hn hrl
        rw [hY]
        clear hY h16
        repeat (refine Side.intro (by repeat' (first | (show AllP _; first | exact trivial | refine AllP.app ?_ ?_ | refine AllP.appd ?_ ?_ | refine AllP.cons ?_ ?_) | with_reducible rfl | with_reducible assumption | omega | (simp only [rng, Ix.val, addQ_eq, addI, sz3, sz38] <;> omega) | (simp only [rng, Ix.val, Int.toNat_natCast, mulE_eq, addQ_eq, addI, Option.getD_none, Option.getD_some, List.length_take, List.length_drop, List.length_append, List.length_set, List.length_replicate, sz3, sz38, *] <;> omega) | (simp only [Ix.val]; with_reducible assumption) | exact UInt8.toNat_lt _ | (apply Eq.trans; (with_reducible assumption); exact rfl) | exact rfl | exact fun _ _ => rfl)) ?_)
        refine ⟨k + 1, by omega, by omega, Le.intro [(300, (302, 0, none))] rfl ?_ rfl ?_ rfl⟩
        · repeat' (first | (show AllP _; first | exact trivial | refine AllP.app ?_ ?_ | refine AllP.appd ?_ ?_ | refine AllP.cons ?_ ?_) | with_reducible rfl | with_reducible assumption | omega | (simp only [rng, Ix.val, addQ_eq, addI, sz3, sz38] <;> omega) | (simp only [rng, Ix.val, Int.toNat_natCast, mulE_eq, addQ_eq, addI, Option.getD_none, Option.getD_some, List.length_take, List.length_drop, List.length_append, List.length_set, List.length_replicate, sz3, sz38, *] <;> omega) | (simp only [Ix.val]; with_reducible assumption) | exact UInt8.toNat_lt _ | (apply Eq.trans; (with_reducible assumption); exact rfl) | exact rfl | exact fun _ _ => rfl)
        · repeat' (first | (show AllP _; first | exact trivial | refine AllP.app ?_ ?_ | refine AllP.appd ?_ ?_ | refine AllP.cons ?_ ?_) | with_reducible rfl | with_reducible assumption | omega | (simp only [rng, Ix.val, addQ_eq, addI, sz3, sz38] <;> omega) | (simp only [rng, Ix.val, Int.toNat_natCast, mulE_eq, addQ_eq, addI, Option.getD_none, Option.getD_some, List.length_take, List.length_drop, List.length_append, List.length_set, List.length_replicate, sz3, sz38, *] <;> omega) | (simp only [Ix.val]; with_reducible assumption) | exact UInt8.toNat_lt _ | (apply Eq.trans; (with_reducible assumption); exact rfl) | exact rfl | exact fun _ _ => rfl)
  · have hkn : k = n := by have hc : ¬ (n : Int) - 1 - k ≥ 0 := hc; omega
    have hmm : moS d n n = moS d n k := by rw [hkn]
    rw [hmm]
    generalize moS d n k = Y at *
    repeat (refine Side.intro (by repeat' (first | (show AllP _; first | exact trivial | refine AllP.app ?_ ?_ | refine AllP.appd ?_ ?_ | refine AllP.cons ?_ ?_) | with_reducible rfl | with_reducible assumption | omega | (simp only [rng, Ix.val, addQ_eq, addI, sz3, sz38] <;> omega) | (simp only [rng, Ix.val, Int.toNat_natCast, mulE_eq, addQ_eq, addI, Option.getD_none, Option.getD_some, List.length_take, List.length_drop, List.length_append, List.length_set, List.length_replicate, sz3, sz38, *] <;> omega) | (simp only [Ix.val]; with_reducible assumption) | exact UInt8.toNat_lt _ | (apply Eq.trans; (with_reducible assumption); exact rfl) | exact rfl | exact fun _ _ => rfl)) ?_)
    refine Ret.intro (.sl 1001 0 0 16 17) [(1000, .mem false 0 [(n, .ai d)]), (1001, .mem true 0 [(17, .ai Y)])] [(1001, (300, 0, none))] rfl ?_ ⟨rfl, rfl⟩ rfl ?_ rfl ?_ rfl
    · repeat' (first | (show AllP _; first | exact trivial | refine AllP.app ?_ ?_ | refine AllP.appd ?_ ?_ | refine AllP.cons ?_ ?_) | with_reducible rfl | with_reducible assumption | omega | (simp only [rng, Ix.val, addQ_eq, addI, sz3, sz38] <;> omega) | (simp only [rng, Ix.val, Int.toNat_natCast, mulE_eq, addQ_eq, addI, Option.getD_none, Option.getD_some, List.length_take, List.length_drop, List.length_append, List.length_set, List.length_replicate, sz3, sz38, *] <;> omega) | (simp only [Ix.val]; with_reducible assumption) | exact UInt8.toNat_lt _ | (apply Eq.trans; (with_reducible assumption); exact rfl) | exact rfl | exact fun _ _ => rfl)
    · repeat' (first | (show AllP _; first | exact trivial | refine AllP.app ?_ ?_ | refine AllP.appd ?_ ?_ | refine AllP.cons ?_ ?_) | with_reducible rfl | with_reducible assumption | omega | (simp only [rng, Ix.val, addQ_eq, addI, sz3, sz38] <;> omega) | (simp only [rng, Ix.val, Int.toNat_natCast, mulE_eq, addQ_eq, addI, Option.getD_none, Option.getD_some, List.length_take, List.length_drop, List.length_append, List.length_set, List.length_replicate, sz3, sz38, *] <;> omega) | (simp only [Ix.val]; with_reducible assumption) | exact UInt8.toNat_lt _ | (apply Eq.trans; (with_reducible assumption); exact rfl) | exact rfl | exact fun _ _ => rfl)
    · repeat' (first | (show AllP _; first | exact trivial | refine AllP.app ?_ ?_ | refine AllP.appd ?_ ?_ | refine AllP.cons ?_ ?_) | with_reducible rfl | with_reducible assumption | omega | (simp only [rng, Ix.val, addQ_eq, addI, sz3, sz38] <;> omega) | (simp only [rng, Ix.val, Int.toNat_natCast, mulE_eq, addQ_eq, addI, Option.getD_none, Option.getD_some, List.length_take, List.length_drop, List.length_append, List.length_set, List.length_replicate, sz3, sz38, *] <;> omega) | (simp only [Ix.val]; with_reducible assumption) | exact UInt8.toNat_lt _ | (apply Eq.trans; (with_reducible assumption); exact rfl) | exact rfl | exact fun _ _ => rfl)

end Go.Proofs.Ytgfbclahkjdjeaa
