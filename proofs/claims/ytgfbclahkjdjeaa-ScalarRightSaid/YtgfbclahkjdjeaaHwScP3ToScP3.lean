/- What the functions of the program compute. No condition. -/
import Derived.Test.YtgfbclahkjdjeaaHwScP2ToScR4
set_option linter.unusedSimpArgs false
set_option linter.unusedVariables false
namespace Go.Proofs.Ytgfbclahkjdjeaa
open Go Go.Sx

/-! What the bit by bit walk computes: plain. -/

theorem or_add {a b n : Nat} (hb : b < 2 ^ n) : a * 2 ^ n ||| b = a * 2 ^ n + b := by
  rw [Nat.mul_comm]; exact (Nat.two_pow_add_eq_or_of_lt hb a).symm
theorem shl_or (x y : UInt64) (hy : y.toNat < 2) : (shl64 x 1 ||| y).toNat = (2 * x.toNat) % 18446744073709551616 + y.toNat := by
  unfold shl64
  rw [UInt64.toNat_or, UInt64.toNat_ofNat', Nat.shiftLeft_eq]
  have e : x.toNat * 2 ^ 1 % 2 ^ 64 = x.toNat % 9223372036854775808 * 2 ^ 1 := by omega
  rw [e, or_add (by omega)]
  omega
theorem shr_63 (x : UInt64) : (shr64 x 63).toNat = 2 * x.toNat / 18446744073709551616 := by
  have := x.toNat_lt
  unfold shr64
  rw [UInt64.toNat_ofNat', Nat.shiftRight_eq_div_pow, Nat.mod_eq_of_lt (by omega)]
  omega
theorem shr_63_lt (x : UInt64) : (shr64 x 63).toNat < 2 := by
  have := x.toNat_lt
  rw [shr_63]; omega
theorem wv4 (l : List UInt64) : wv l 4 = wd_ l 0 + wd_ l 1 * 18446744073709551616 + wd_ l 2 * 18446744073709551616 ^ 2 + wd_ l 3 * 18446744073709551616 ^ 3 := by
  show 0 + _ + _ + _ + _ = _
  rw [Nat.pow_zero, Nat.pow_one, Nat.mul_one, Nat.zero_add]
theorem shW_val (r : List UInt64) (x : UInt64) (hx : x.toNat < 2) (hr : wv r 4 < Ln) : wv (shW r x) 4 = 2 * wv r 4 + x.toNat := by
  have e0 : wd_ (shW r x) 0 = (shl64 (r.getD 0 0) 1 ||| x).toNat := rfl
  have e1 : wd_ (shW r x) 1 = (shl64 (r.getD 1 0) 1 ||| shr64 (r.getD 0 0) 63).toNat := rfl
  have e2 : wd_ (shW r x) 2 = (shl64 (r.getD 2 0) 1 ||| shr64 (r.getD 1 0) 63).toNat := rfl
  have e3 : wd_ (shW r x) 3 = (shl64 (r.getD 3 0) 1 ||| shr64 (r.getD 2 0) 63).toNat := rfl
  rw [shl_or _ _ hx] at e0
  rw [shl_or _ _ (shr_63_lt _), shr_63] at e1 e2 e3
  rw [wv4] at hr ⊢
  rw [wv4, e0, e1, e2, e3]
  unfold wd_ at *
  have h0 := (r.getD 0 0).toNat_lt
  have h1 := (r.getD 1 0).toNat_lt
  have h2 := (r.getD 2 0).toNat_lt
  have h3 := (r.getD 3 0).toNat_lt
  generalize (r.getD 0 0).toNat = a0 at *
  generalize (r.getD 1 0).toNat = a1 at *
  generalize (r.getD 2 0).toNat = a2 at *
  generalize (r.getD 3 0).toNat = a3 at *
  generalize x.toNat = y at *
  have hL : Ln < 9223372036854775808 * 18446744073709551616 ^ 3 := by decide
  have h4 : 2 * a3 < 18446744073709551616 := by
    have : a3 * 18446744073709551616 ^ 3 < 9223372036854775808 * 18446744073709551616 ^ 3 := by omega
    have := Nat.lt_of_mul_lt_mul_right this
    omega
  rw [show (18446744073709551616 : Nat) ^ 2 = 340282366920938463463374607431768211456 by decide, show (18446744073709551616 : Nat) ^ 3 = 6277101735386680763835789423207666416102355444464034512896 by decide]
  omega
theorem stW_val (r : List UInt64) (x : UInt64) (hx : x.toNat < 2) (hr : wv r 4 < Ln) : wv (stW r x) 4 = (2 * wv r 4 + x.toNat) % Ln := by
  have hs := shW_val r x hx hr
  unfold stW
  have hL : 0 < Ln := by decide
  have hl : (shW r x).length = 4 := rfl
  split
  · rename_i h
    rw [less_yes hl] at h
    rw [hs] at h ⊢
    rw [Nat.mod_eq_of_lt h]
  · rename_i h
    have h' : ¬ wv (shW r x) 4 < Ln := fun h1 => h ((less_yes hl).2 h1)
    rw [less_no hl h', hs]
    rw [hs] at h'
    rw [Nat.mod_eq_sub_mod (by omega), Nat.mod_eq_of_lt (by omega)]
theorem stW_lt (r : List UInt64) (x : UInt64) (hx : x.toNat < 2) (hr : wv r 4 < Ln) : wv (stW r x) 4 < Ln := by
  rw [stW_val r x hx hr]; exact Nat.mod_lt _ (by decide)

/-! Bits. -/

theorem bitAt_eq (b : List UInt8) (i : Nat) : (bitAt b i).toNat = by_ b (i / 8) / 2 ^ (i % 8) % 2 := by
  unfold bitAt shr64 by_
  have h := (b.getD (i / 8) 0).toNat_lt
  rw [UInt64.toNat_and, UInt64.toNat_ofNat', Nat.shiftRight_eq_div_pow, show (1 : UInt64).toNat = 1 from rfl, Nat.and_one_is_mod]
  rw [UInt8.toNat_toUInt64]
  rw [Nat.mod_eq_of_lt (Nat.lt_of_le_of_lt (Nat.div_le_self _ _) (by omega))]
theorem bitAt_lt (b : List UInt8) (i : Nat) : (bitAt b i).toNat < 2 := by rw [bitAt_eq]; omega
theorem bitAt_val (b : List UInt8) {n i : Nat} (h : i < 8 * n) : (bitAt b i).toNat = bv b n / 2 ^ i % 2 := by
  rw [bitAt_eq, ← bv_digit b (n := n) (q := i / 8) (by omega)]
  have e : (256 : Nat) ^ (i / 8) = 2 ^ (8 * (i / 8)) := by rw [Nat.pow_mul]
  rw [e]
  have e2 : (2 : Nat) ^ i = 2 ^ (8 * (i / 8)) * 2 ^ (i % 8) := by rw [← Nat.pow_add]; congr 1; omega
  rw [e2, ← Nat.div_div_eq_div_mul]
  generalize bv b n / 2 ^ (8 * (i / 8)) = W
  have h8 : i % 8 < 8 := Nat.mod_lt _ (by decide)
  have e3 : (256 : Nat) = 2 ^ (i % 8) * (2 * 2 ^ (7 - i % 8)) := by
    rw [← Nat.pow_succ', ← Nat.pow_add, show i % 8 + (7 - i % 8 + 1) = 8 by omega]
  rw [e3, Nat.mod_mul_right_div_self, Nat.mod_mul_right_mod]
theorem mdL_val (b : List UInt8) (n : Nat) : ∀ k, k ≤ 8 * n → wv (mdL (bitsTo b n k)) 4 = bv b n / 2 ^ (8 * n - k) % Ln
  | 0, _ => by
    have : bv b n / 2 ^ (8 * n) = 0 := by
      have h := bv_lt b n
      rw [show (256 : Nat) ^ n = 2 ^ (8 * n) by rw [Nat.pow_mul]] at h
      exact Nat.div_eq_of_lt h
    rw [Nat.sub_zero, this]
    show wv (List.replicate 4 0) 4 = 0 % Ln
    decide
  | k + 1, h => by
    have ih := mdL_val b n k (by omega)
    have hlt : wv (mdL (bitsTo b n k)) 4 < Ln := by rw [ih]; exact Nat.mod_lt _ (by decide)
    simp only [bitsTo]
    rw [mdL_snoc, stW_val _ _ (bitAt_lt _ _) hlt, ih, bitAt_val b (n := n) (by omega)]
    have e : (2 : Nat) ^ (8 * n - k) = 2 ^ (8 * n - (k + 1)) * 2 := by rw [← Nat.pow_succ]; congr 1; omega
    rw [e, ← Nat.div_div_eq_div_mul, show 8 * n - 1 - k = 8 * n - (k + 1) by omega]
    generalize bv b n / 2 ^ (8 * n - (k + 1)) = W
    rw [Nat.add_mod, Nat.mul_mod, Nat.mod_mod, ← Nat.mul_mod, ← Nat.add_mod, Nat.div_add_mod]
/-- The walk's number. -/
theorem mdL_all (b : List UInt8) (n : Nat) : wv (mdL (bitsTo b n (8 * n))) 4 = bv b n % Ln := by
  rw [mdL_val b n _ (Nat.le_refl _), Nat.sub_self, Nat.pow_zero, Nat.div_one]

/-! Out again. -/

theorem outS_old (a : List UInt64) : ∀ i j, j < i → i ≤ 32 → (outS a i).getD j 0 = (shr64 (a.getD (j / 8) 0) (j % 8 * 8)).toUInt8
  | 0, _, h, _ => absurd h (Nat.not_lt_zero _)
  | i + 1, j, h, hi => by
    simp only [outS]
    by_cases e : j = i
    · subst e; rw [getD_set_self (by rw [outS_length]; omega)]
    · rw [getD_set_other (by omega), outS_old a i j (by omega) (by omega)]
theorem outS_by (a : List UInt64) {j : Nat} (hj : j < 32) : by_ (outS a 32) j = wv a 4 / 256 ^ j % 256 := by
  unfold by_
  rw [outS_old a 32 j hj (Nat.le_refl _)]
  unfold shr64
  rw [UInt64.toNat_toUInt8, UInt64.toNat_ofNat', Nat.shiftRight_eq_div_pow]
  have h1 := wv_digit a (n := 4) (q := j / 8) (by omega)
  unfold wd_ at h1
  rw [← h1]
  have e : (256 : Nat) ^ j = 18446744073709551616 ^ (j / 8) * 2 ^ (j % 8 * 8) := by
    rw [show (18446744073709551616 : Nat) = 256 ^ 8 by decide, show (2 : Nat) ^ (j % 8 * 8) = 256 ^ (j % 8) by rw [Nat.mul_comm, Nat.pow_mul], ← Nat.pow_mul, ← Nat.pow_add]
    congr 1; omega
  rw [e, ← Nat.div_div_eq_div_mul]
  generalize wv a 4 / 18446744073709551616 ^ (j / 8) = W
  have e3 : (18446744073709551616 : Nat) = 2 ^ (j % 8 * 8) * (256 * 256 ^ (7 - j % 8)) := by
    rw [show (2 : Nat) ^ (j % 8 * 8) = 256 ^ (j % 8) by rw [Nat.mul_comm, Nat.pow_mul], ← Nat.pow_succ', ← Nat.pow_add, show j % 8 + (7 - j % 8 + 1) = 8 by omega]
  have h64 : W % 18446744073709551616 / 2 ^ (j % 8 * 8) < 18446744073709551616 := Nat.lt_of_le_of_lt (Nat.div_le_self _ _) (Nat.mod_lt _ (by decide))
  rw [Nat.mod_eq_of_lt (a := W % 18446744073709551616 / 2 ^ (j % 8 * 8)) h64]
  rw [e3, Nat.mod_mul_right_div_self, Nat.mod_mul_right_mod]

end Go.Proofs.Ytgfbclahkjdjeaa
