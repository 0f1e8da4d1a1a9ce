/- What the functions of the program compute. No condition. -/
import Derived.Test.YtgfbbmcdbohbhaaHwAes12ToRef2
import Derived.Test.YtgfbbmcdbohbhaaHwAes8ToAes11
set_option linter.unusedSimpArgs false
set_option linter.unusedVariables false
namespace Go.Proofs.Ytgfbbmcdbohbhaa
open Go Go.Sx

/-! The reference's table of S. -/

def cIn (b : Nat) : Nat → Nat
  | 0 => 1
  | k + 1 => rTimes (rTimes (cIn b k) (cIn b k)) b
def cInv (b : Nat) : Nat := rTimes (cIn b 7) (cIn b 7)
theorem cIn_lt (b : Nat) : ∀ k, cIn b k < 256
  | 0 => by simp [cIn]
  | k + 1 => rTimes_lt (rTimes_lt (cIn_lt b k) _) _
theorem cInv_lt (b : Nat) : cInv b < 256 := rTimes_lt (cIn_lt b 7) _
def sX (c i : Nat) : Nat := c / 2 ^ i ^^^ c / 2 ^ ((i + 4) % 8) ^^^ c / 2 ^ ((i + 5) % 8) ^^^ c / 2 ^ ((i + 6) % 8) ^^^ c / 2 ^ ((i + 7) % 8) ^^^ 99 / 2 ^ i
def sRow (c : Nat) : Nat → Nat
  | 0 => 0
  | i + 1 => sRow c i ||| (sX c i &&& 1) * 2 ^ i
theorem sRow_lt (c : Nat) : ∀ i, i ≤ 8 → sRow c i < 2 ^ 8
  | 0, _ => Nat.two_pow_pos 8
  | i + 1, h => by
    simp only [sRow]
    refine Nat.or_lt_two_pow (sRow_lt c i (by omega)) ?_
    have h1 : sX c i &&& 1 ≤ 1 := Nat.and_le_right
    have h2 : 2 ^ i ≤ 2 ^ 7 := Nat.pow_le_pow_right (by decide) (by omega)
    calc (sX c i &&& 1) * 2 ^ i ≤ 1 * 2 ^ 7 := Nat.mul_le_mul h1 h2
      _ < 2 ^ 8 := by decide
def rTab : Nat → List Int
  | 0 => List.replicate 256 0
  | b + 1 => (rTab b).set b (sRow (cInv b) 8 : Nat)
theorem rTab_length : ∀ b, (rTab b).length = 256
  | 0 => List.length_replicate
  | b + 1 => by simp only [rTab, List.length_set, rTab_length b]

theorem rTab_zero : ∀ (b k : Nat), b ≤ k → k < 256 → (rTab b)[k]? = some 0
  | 0, k, _, hk => by show (List.replicate 256 (0 : Int))[k]? = some 0; rw [List.getElem?_replicate, if_pos hk]
  | b + 1, k, h, hk => by
    simp only [rTab]
    rw [List.getElem?_set_ne (by omega)]
    exact rTab_zero b k (by omega) hk
theorem rTab_set (b : Nat) (h : b < 256) : (rTab b).set b ((sRow (cInv b) 0 : Nat) : Int) = rTab b := by
  apply List.ext_getElem?
  intro k
  rw [List.getElem?_set]
  by_cases hk : b = k
  · subst hk
    rw [if_pos rfl, rTab_zero b b (Nat.le_refl _) h, rTab_length, if_pos h]
    rfl
  · rw [if_neg hk]

set_option maxRecDepth 100000 in
theorem fn29 : Sx.Fn Γ.P 29 [] [] (fun v M => v = .sl 1001 0 0 256 256 ∧ M = [(1001, .mem true 0 [(256, .ai (rTab 256))])]) := by
  have hby : (Γ.ty 3).bytes = 8 := rfl
  refine fn_of (Γ := Γ) (fn := Try.f29) rfl rfl rfl rfl ?_
  repeat (refine Side.intro (by repeat' (first | (show AllP _; first | exact trivial | refine AllP.app ?_ ?_ | refine AllP.appd ?_ ?_ | refine AllP.cons ?_ ?_) | with_reducible rfl | omega | with_reducible assumption | (simp only [rng, Ix.val, addQ_eq, addI, sz3, sz28] <;> omega) | (simp only [rng, Ix.val, Int.toNat_natCast, mulE_eq, addQ_eq, addI, Option.getD_none, Option.getD_some, List.length_take, List.length_drop, List.length_append, List.length_set, List.length_replicate, sz3, sz28, *] <;> omega) | (simp only [Ix.val]; with_reducible assumption) | exact UInt8.toNat_lt _ | (apply Eq.trans; (with_reducible assumption); exact rfl) | exact rfl | exact fun _ _ => rfl)) ?_)
  refine Loop.intro (σ := Nat) (fun b => b ≤ 256)
    (fun b => ([(1, .sl 7 0 0 256 256), (2, .i .i64 b)], [(7, .mem true 0 [(256, .ai (rTab b))])])) (fun b => 256 - b) 0 (Nat.zero_le _) ?_ ?_
  · exact Le.intro [] rfl (by repeat' (first | (show AllP _; first | exact trivial | refine AllP.app ?_ ?_ | refine AllP.appd ?_ ?_ | refine AllP.cons ?_ ?_) | with_reducible rfl | omega | with_reducible assumption | (simp only [rng, Ix.val, addQ_eq, addI, sz3, sz28] <;> omega) | (simp only [rng, Ix.val, Int.toNat_natCast, mulE_eq, addQ_eq, addI, Option.getD_none, Option.getD_some, List.length_take, List.length_drop, List.length_append, List.length_set, List.length_replicate, sz3, sz28, *] <;> omega) | (simp only [Ix.val]; with_reducible assumption) | exact UInt8.toNat_lt _ | (apply Eq.trans; (with_reducible assumption); exact rfl) | exact rfl | exact fun _ _ => rfl)) rfl ⟨rfl, rfl, rfl⟩ rfl
  · rintro b hb
    have hbl := rTab_length b
    refine Branch.intro (fun h => ?_) (fun h => ?_)
    · refine Loop.intro (σ := Nat) (fun k => k ≤ 7)
        (fun k => ([(1, .sl 7 0 0 256 256), (2, .i .i64 b), (3, .i .i64 (cIn b k : Nat)), (4, .i .i64 k)], [(7, .mem true 0 [(256, .ai (rTab b))])])) (fun k => 7 - k) 0 (Nat.zero_le _) ?_ ?_
      · exact Le.intro [] rfl (by repeat' (first | (show AllP _; first | exact trivial | refine AllP.app ?_ ?_ | refine AllP.appd ?_ ?_ | refine AllP.cons ?_ ?_) | with_reducible rfl | omega | with_reducible assumption | (simp only [rng, Ix.val, addQ_eq, addI, sz3, sz28] <;> omega) | (simp only [rng, Ix.val, Int.toNat_natCast, mulE_eq, addQ_eq, addI, Option.getD_none, Option.getD_some, List.length_take, List.length_drop, List.length_append, List.length_set, List.length_replicate, sz3, sz28, *] <;> omega) | (simp only [Ix.val]; with_reducible assumption) | exact UInt8.toNat_lt _ | (apply Eq.trans; (with_reducible assumption); exact rfl) | exact rfl | exact fun _ _ => rfl)) rfl (by repeat' (first | (show AllP _; first | exact trivial | refine AllP.app ?_ ?_ | refine AllP.appd ?_ ?_ | refine AllP.cons ?_ ?_) | with_reducible rfl | omega | with_reducible assumption | (simp only [rng, Ix.val, addQ_eq, addI, sz3, sz28] <;> omega) | (simp only [rng, Ix.val, Int.toNat_natCast, mulE_eq, addQ_eq, addI, Option.getD_none, Option.getD_some, List.length_take, List.length_drop, List.length_append, List.length_set, List.length_replicate, sz3, sz28, *] <;> omega) | (simp only [Ix.val]; with_reducible assumption) | exact UInt8.toNat_lt _ | (apply Eq.trans; (with_reducible assumption); exact rfl) | exact rfl | exact fun _ _ => rfl)) rfl
      · rintro k hk
        have hc := cIn_lt b k
        refine Branch.intro (fun h2 => ?_) (fun h2 => ?_)
        · refine Call.pure (fn31 (cIn b k) (cIn b k) hc hc) rfl (by repeat' (first | (show AllP _; first | exact trivial | refine AllP.app ?_ ?_ | refine AllP.appd ?_ ?_ | refine AllP.cons ?_ ?_) | with_reducible rfl | omega | with_reducible assumption | (simp only [rng, Ix.val, addQ_eq, addI, sz3, sz28] <;> omega) | (simp only [rng, Ix.val, Int.toNat_natCast, mulE_eq, addQ_eq, addI, Option.getD_none, Option.getD_some, List.length_take, List.length_drop, List.length_append, List.length_set, List.length_replicate, sz3, sz28, *] <;> omega) | (simp only [Ix.val]; with_reducible assumption) | exact UInt8.toNat_lt _ | (apply Eq.trans; (with_reducible assumption); exact rfl) | exact rfl | exact fun _ _ => rfl)) ?_
          intro v hv
          subst hv
          refine Call.pure (fn31 (rTimes (cIn b k) (cIn b k)) b (rTimes_lt hc _) (by omega)) rfl (by repeat' (first | (show AllP _; first | exact trivial | refine AllP.app ?_ ?_ | refine AllP.appd ?_ ?_ | refine AllP.cons ?_ ?_) | with_reducible rfl | omega | with_reducible assumption | (simp only [rng, Ix.val, addQ_eq, addI, sz3, sz28] <;> omega) | (simp only [rng, Ix.val, Int.toNat_natCast, mulE_eq, addQ_eq, addI, Option.getD_none, Option.getD_some, List.length_take, List.length_drop, List.length_append, List.length_set, List.length_replicate, sz3, sz28, *] <;> omega) | (simp only [Ix.val]; with_reducible assumption) | exact UInt8.toNat_lt _ | (apply Eq.trans; (with_reducible assumption); exact rfl) | exact rfl | exact fun _ _ => rfl)) ?_
          intro v hv
          subst hv
          repeat (refine Side.intro (by repeat' (first | (show AllP _; first | exact trivial | refine AllP.app ?_ ?_ | refine AllP.appd ?_ ?_ | refine AllP.cons ?_ ?_) | with_reducible rfl | omega | with_reducible assumption | (simp only [rng, Ix.val, addQ_eq, addI, sz3, sz28] <;> omega) | (simp only [rng, Ix.val, Int.toNat_natCast, mulE_eq, addQ_eq, addI, Option.getD_none, Option.getD_some, List.length_take, List.length_drop, List.length_append, List.length_set, List.length_replicate, sz3, sz28, *] <;> omega) | (simp only [Ix.val]; with_reducible assumption) | exact UInt8.toNat_lt _ | (apply Eq.trans; (with_reducible assumption); exact rfl) | exact rfl | exact fun _ _ => rfl)) ?_)
          exact ⟨k + 1, by omega, by omega, Le.intro [] rfl (by repeat' (first | (show AllP _; first | exact trivial | refine AllP.app ?_ ?_ | refine AllP.appd ?_ ?_ | refine AllP.cons ?_ ?_) | with_reducible rfl | omega | with_reducible assumption | (simp only [rng, Ix.val, addQ_eq, addI, sz3, sz28] <;> omega) | (simp only [rng, Ix.val, Int.toNat_natCast, mulE_eq, addQ_eq, addI, Option.getD_none, Option.getD_some, List.length_take, List.length_drop, List.length_append, List.length_set, List.length_replicate, sz3, sz28, *] <;> omega) | (simp only [Ix.val]; with_reducible assumption) | exact UInt8.toNat_lt _ | (apply Eq.trans; (with_reducible assumption); exact rfl) | exact rfl | exact fun _ _ => rfl)) rfl (by repeat' (first | (show AllP _; first | exact trivial | refine AllP.app ?_ ?_ | refine AllP.appd ?_ ?_ | refine AllP.cons ?_ ?_) | with_reducible rfl | omega | with_reducible assumption | (simp only [rng, Ix.val, addQ_eq, addI, sz3, sz28] <;> omega) | (simp only [rng, Ix.val, Int.toNat_natCast, mulE_eq, addQ_eq, addI, Option.getD_none, Option.getD_some, List.length_take, List.length_drop, List.length_append, List.length_set, List.length_replicate, sz3, sz28, *] <;> omega) | (simp only [Ix.val]; with_reducible assumption) | exact UInt8.toNat_lt _ | (apply Eq.trans; (with_reducible assumption); exact rfl) | exact rfl | exact fun _ _ => rfl)) rfl⟩
        · obtain rfl : k = 7 := by omega
          refine Call.pure (fn31 (cIn b 7) (cIn b 7) hc hc) rfl (by repeat' (first | (show AllP _; first | exact trivial | refine AllP.app ?_ ?_ | refine AllP.appd ?_ ?_ | refine AllP.cons ?_ ?_) | with_reducible rfl | omega | with_reducible assumption | (simp only [rng, Ix.val, addQ_eq, addI, sz3, sz28] <;> omega) | (simp only [rng, Ix.val, Int.toNat_natCast, mulE_eq, addQ_eq, addI, Option.getD_none, Option.getD_some, List.length_take, List.length_drop, List.length_append, List.length_set, List.length_replicate, sz3, sz28, *] <;> omega) | (simp only [Ix.val]; with_reducible assumption) | exact UInt8.toNat_lt _ | (apply Eq.trans; (with_reducible assumption); exact rfl) | exact rfl | exact fun _ _ => rfl)) ?_
          intro v hv
          subst hv
          have hci := cInv_lt b
          have h0 := rTab_set b (by omega)
          refine Loop.intro (σ := Nat) (fun i => i ≤ 8)
            (fun i => ([(1, .sl 7 0 0 256 256), (2, .i .i64 b), (3, .i .i64 (cInv b : Nat)), (5, .i .i64 i)], [(7, .mem true 0 [(256, .ai ((rTab b).set b (sRow (cInv b) i : Nat)))])])) (fun i => 8 - i) 0 (Nat.zero_le _) ?_ ?_
          · have e : rTimes (cIn b 7) (cIn b 7) = cInv b := rfl
            exact Le.intro [] rfl (by repeat' (first | (show AllP _; first | exact trivial | refine AllP.app ?_ ?_ | refine AllP.appd ?_ ?_ | refine AllP.cons ?_ ?_) | with_reducible rfl | omega | with_reducible assumption | (simp only [rng, Ix.val, addQ_eq, addI, sz3, sz28] <;> omega) | (simp only [rng, Ix.val, Int.toNat_natCast, mulE_eq, addQ_eq, addI, Option.getD_none, Option.getD_some, List.length_take, List.length_drop, List.length_append, List.length_set, List.length_replicate, sz3, sz28, *] <;> omega) | (simp only [Ix.val]; with_reducible assumption) | exact UInt8.toNat_lt _ | (apply Eq.trans; (with_reducible assumption); exact rfl) | exact rfl | exact fun _ _ => rfl)) rfl (by repeat' (first | (show AllP _; first | exact trivial | refine AllP.app ?_ ?_ | refine AllP.appd ?_ ?_ | refine AllP.cons ?_ ?_) | with_reducible rfl | omega | with_reducible assumption | (simp only [rng, Ix.val, addQ_eq, addI, sz3, sz28] <;> omega) | (simp only [rng, Ix.val, Int.toNat_natCast, mulE_eq, addQ_eq, addI, Option.getD_none, Option.getD_some, List.length_take, List.length_drop, List.length_append, List.length_set, List.length_replicate, sz3, sz28, *] <;> omega) | (simp only [Ix.val]; with_reducible assumption) | exact UInt8.toNat_lt _ | (apply Eq.trans; (with_reducible assumption); exact rfl) | exact rfl | exact fun _ _ => rfl)) rfl
          · rintro i hi
            refine Branch.intro (fun h3 => ?_) (fun h3 => ?_)
            · have hu0 := u64_small i (by omega)
              have hu4 : (UInt64.ofInt (((i : Int) + 4) % 8)).toNat = (i + 4) % 8 := by rw [show ((i : Int) + 4) % 8 = (((i + 4) % 8 : Nat) : Int) by omega]; exact u64_small _ (by omega)
              have hu5 : (UInt64.ofInt (((i : Int) + 5) % 8)).toNat = (i + 5) % 8 := by rw [show ((i : Int) + 5) % 8 = (((i + 5) % 8 : Nat) : Int) by omega]; exact u64_small _ (by omega)
              have hu6 : (UInt64.ofInt (((i : Int) + 6) % 8)).toNat = (i + 6) % 8 := by rw [show ((i : Int) + 6) % 8 = (((i + 6) % 8 : Nat) : Int) by omega]; exact u64_small _ (by omega)
              have hu7 : (UInt64.ofInt (((i : Int) + 7) % 8)).toNat = (i + 7) % 8 := by rw [show ((i : Int) + 7) % 8 = (((i + 7) % 8 : Nat) : Int) by omega]; exact u64_small _ (by omega)
              have small : ∀ k, ∃ d : Nat, cInv b / 2 ^ k = d ∧ ((cInv b : Nat) : Int) / 2 ^ k = (d : Int) ∧ d < 2 ^ 8 := fun k => ⟨_, rfl, div_cast _ _, Nat.lt_of_le_of_lt (Nat.div_le_self _ _) hci⟩
              obtain ⟨d0, n0, e0, b0⟩ := small i
              obtain ⟨d4, n4, e4, b4⟩ := small ((i + 4) % 8)
              obtain ⟨d5, n5, e5, b5⟩ := small ((i + 5) % 8)
              obtain ⟨d6, n6, e6, b6⟩ := small ((i + 6) % 8)
              obtain ⟨d7, n7, e7, b7⟩ := small ((i + 7) % 8)
              obtain ⟨d9, n9, e9, b9⟩ : ∃ d : Nat, 99 / 2 ^ i = d ∧ (99 : Int) / 2 ^ i = (d : Int) ∧ d < 2 ^ 8 := ⟨_, rfl, div_cast 99 _, Nat.lt_of_le_of_lt (Nat.div_le_self _ _) (by decide)⟩
              have x4 := Nat.xor_lt_two_pow b0 b4
              have x5 := Nat.xor_lt_two_pow x4 b5
              have x6 := Nat.xor_lt_two_pow x5 b6
              have x7 := Nat.xor_lt_two_pow x6 b7
              have x9 := Nat.xor_lt_two_pow x7 b9
              clear small
              have hq1 : (d0 ^^^ d4 ^^^ d5 ^^^ d6 ^^^ d7 ^^^ d9) &&& 1 ≤ 1 := Nat.and_le_right
              have t1 : Int.toNat 1 = 1 := rfl
              have hX : sX (cInv b) i = d0 ^^^ d4 ^^^ d5 ^^^ d6 ^^^ d7 ^^^ d9 := by unfold sX; rw [n0, n4, n5, n6, n7, n9]
              obtain ⟨q, hq⟩ : ∃ q, (d0 ^^^ d4 ^^^ d5 ^^^ d6 ^^^ d7 ^^^ d9) &&& 1 = q := ⟨_, rfl⟩
              obtain ⟨m, hm⟩ : ∃ m, q * 2 ^ i = m := ⟨_, rfl⟩
              have eM : (q : Int) * 2 ^ i = (m : Int) := by rw [← hm]; exact mul_cast q i
              have hml : m < 256 := by
                have h2 : 2 ^ i ≤ 2 ^ 7 := Nat.pow_le_pow_right (by decide) (by omega)
                rw [← hm]
                calc q * 2 ^ i ≤ 1 * 2 ^ 7 := Nat.mul_le_mul (by omega) h2
                  _ < 256 := by decide
              have hrow : sRow (cInv b) i < 256 := sRow_lt _ _ (by omega)
              have hg : ((rTab b).set b ((sRow (cInv b) i : Nat) : Int)).getD (0 + b) 0 = (sRow (cInv b) i : Nat) := by
                rw [Nat.zero_add, List.getD_eq_getElem?_getD, List.getElem?_set_self (by omega)]; rfl
              refine Side.intro (by repeat' (first | (show AllP _; first | exact trivial | refine AllP.app ?_ ?_ | refine AllP.appd ?_ ?_ | refine AllP.cons ?_ ?_) | with_reducible rfl | omega | with_reducible assumption | (simp only [rng, Ix.val, addQ_eq, addI, sz3, sz28] <;> omega) | (simp only [rng, Ix.val, Int.toNat_natCast, mulE_eq, addQ_eq, addI, Option.getD_none, Option.getD_some, List.length_take, List.length_drop, List.length_append, List.length_set, List.length_replicate, sz3, sz28, *] <;> omega) | (simp only [Ix.val]; with_reducible assumption) | exact UInt8.toNat_lt _ | (apply Eq.trans; (with_reducible assumption); exact rfl) | exact rfl | exact fun _ _ => rfl)) ?_
              refine Side.intro (by repeat' (first | (show AllP _; first | exact trivial | refine AllP.app ?_ ?_ | refine AllP.appd ?_ ?_ | refine AllP.cons ?_ ?_) | with_reducible rfl | omega | with_reducible assumption | (simp only [rng, Ix.val, addQ_eq, addI, sz3, sz28] <;> omega) | (simp only [rng, Ix.val, Int.toNat_natCast, mulE_eq, addQ_eq, addI, Option.getD_none, Option.getD_some, List.length_take, List.length_drop, List.length_append, List.length_set, List.length_replicate, sz3, sz28, *] <;> omega) | (simp only [Ix.val]; with_reducible assumption) | exact UInt8.toNat_lt _ | (apply Eq.trans; (with_reducible assumption); exact rfl) | exact rfl | exact fun _ _ => rfl)) ?_
              have hnext : sRow (cInv b) (i + 1) = sRow (cInv b) i ||| m := by
                have e : sRow (cInv b) (i + 1) = sRow (cInv b) i ||| (sX (cInv b) i &&& 1) * 2 ^ i := rfl
                rw [e, hX, hq, hm]
              have hset : ((rTab b).set b ((sRow (cInv b) i : Nat) : Int)).set b ((sRow (cInv b) i ||| m : Nat) : Int) = (rTab b).set b ((sRow (cInv b) (i + 1) : Nat) : Int) := by
                rw [List.set_set, hnext]
              repeat (refine Side.intro (by repeat' (first | (show AllP _; first | exact trivial | refine AllP.app ?_ ?_ | refine AllP.appd ?_ ?_ | refine AllP.cons ?_ ?_) | with_reducible rfl | omega | with_reducible assumption | (simp only [rng, Ix.val, addQ_eq, addI, sz3, sz28] <;> omega) | (simp only [rng, Ix.val, Int.toNat_natCast, mulE_eq, addQ_eq, addI, Option.getD_none, Option.getD_some, List.length_take, List.length_drop, List.length_append, List.length_set, List.length_replicate, sz3, sz28, *] <;> omega) | (simp only [Ix.val]; with_reducible assumption) | exact UInt8.toNat_lt _ | (apply Eq.trans; (with_reducible assumption); exact rfl) | exact rfl | exact fun _ _ => rfl)) ?_)
              refine ⟨i + 1, by omega, by omega, Le.intro [] rfl (by repeat' (first | (show AllP _; first | exact trivial | refine AllP.app ?_ ?_ | refine AllP.appd ?_ ?_ | refine AllP.cons ?_ ?_) | with_reducible rfl | omega | with_reducible assumption | (simp only [rng, Ix.val, addQ_eq, addI, sz3, sz28] <;> omega) | (simp only [rng, Ix.val, Int.toNat_natCast, mulE_eq, addQ_eq, addI, Option.getD_none, Option.getD_some, List.length_take, List.length_drop, List.length_append, List.length_set, List.length_replicate, sz3, sz28, *] <;> omega) | (simp only [Ix.val]; with_reducible assumption) | exact UInt8.toNat_lt _ | (apply Eq.trans; (with_reducible assumption); exact rfl) | exact rfl | exact fun _ _ => rfl)) rfl ⟨rfl, rfl, ?_⟩ rfl⟩
              simp only [addQ_eq, Ix.val, Int.toNat_natCast, hu0, hu4, hu5, hu6, hu7, e0, e4, e5, e6, e7, e9, t1, hq, eM, hg]
              simp only [Nat.zero_add]
              exact hset.symm
            · obtain rfl : i = 8 := by omega
              repeat (refine Side.intro (by repeat' (first | (show AllP _; first | exact trivial | refine AllP.app ?_ ?_ | refine AllP.appd ?_ ?_ | refine AllP.cons ?_ ?_) | with_reducible rfl | omega | with_reducible assumption | (simp only [rng, Ix.val, addQ_eq, addI, sz3, sz28] <;> omega) | (simp only [rng, Ix.val, Int.toNat_natCast, mulE_eq, addQ_eq, addI, Option.getD_none, Option.getD_some, List.length_take, List.length_drop, List.length_append, List.length_set, List.length_replicate, sz3, sz28, *] <;> omega) | (simp only [Ix.val]; with_reducible assumption) | exact UInt8.toNat_lt _ | (apply Eq.trans; (with_reducible assumption); exact rfl) | exact rfl | exact fun _ _ => rfl)) ?_)
              exact ⟨b + 1, by omega, by omega, Le.intro [] rfl (by repeat' (first | (show AllP _; first | exact trivial | refine AllP.app ?_ ?_ | refine AllP.appd ?_ ?_ | refine AllP.cons ?_ ?_) | with_reducible rfl | omega | with_reducible assumption | (simp only [rng, Ix.val, addQ_eq, addI, sz3, sz28] <;> omega) | (simp only [rng, Ix.val, Int.toNat_natCast, mulE_eq, addQ_eq, addI, Option.getD_none, Option.getD_some, List.length_take, List.length_drop, List.length_append, List.length_set, List.length_replicate, sz3, sz28, *] <;> omega) | (simp only [Ix.val]; with_reducible assumption) | exact UInt8.toNat_lt _ | (apply Eq.trans; (with_reducible assumption); exact rfl) | exact rfl | exact fun _ _ => rfl)) rfl (by repeat' (first | (show AllP _; first | exact trivial | refine AllP.app ?_ ?_ | refine AllP.appd ?_ ?_ | refine AllP.cons ?_ ?_) | with_reducible rfl | omega | with_reducible assumption | (simp only [rng, Ix.val, addQ_eq, addI, sz3, sz28] <;> omega) | (simp only [rng, Ix.val, Int.toNat_natCast, mulE_eq, addQ_eq, addI, Option.getD_none, Option.getD_some, List.length_take, List.length_drop, List.length_append, List.length_set, List.length_replicate, sz3, sz28, *] <;> omega) | (simp only [Ix.val]; with_reducible assumption) | exact UInt8.toNat_lt _ | (apply Eq.trans; (with_reducible assumption); exact rfl) | exact rfl | exact fun _ _ => rfl)) rfl⟩
    · obtain rfl : b = 256 := by omega
      exact Ret.intro (.sl 1001 0 0 256 256) [(1001, .mem true 0 [(256, .ai (rTab 256))])] [(1001, (7, 0, none))] rfl trivial ⟨rfl, rfl⟩ rfl (by repeat' (first | (show AllP _; first | exact trivial | refine AllP.app ?_ ?_ | refine AllP.appd ?_ ?_ | refine AllP.cons ?_ ?_) | with_reducible rfl | omega | with_reducible assumption | (simp only [rng, Ix.val, addQ_eq, addI, sz3, sz28] <;> omega) | (simp only [rng, Ix.val, Int.toNat_natCast, mulE_eq, addQ_eq, addI, Option.getD_none, Option.getD_some, List.length_take, List.length_drop, List.length_append, List.length_set, List.length_replicate, sz3, sz28, *] <;> omega) | (simp only [Ix.val]; with_reducible assumption) | exact UInt8.toNat_lt _ | (apply Eq.trans; (with_reducible assumption); exact rfl) | exact rfl | exact fun _ _ => rfl)) rfl (by repeat' (first | (show AllP _; first | exact trivial | refine AllP.app ?_ ?_ | refine AllP.appd ?_ ?_ | refine AllP.cons ?_ ?_) | with_reducible rfl | omega | with_reducible assumption | (simp only [rng, Ix.val, addQ_eq, addI, sz3, sz28] <;> omega) | (simp only [rng, Ix.val, Int.toNat_natCast, mulE_eq, addQ_eq, addI, Option.getD_none, Option.getD_some, List.length_take, List.length_drop, List.length_append, List.length_set, List.length_replicate, sz3, sz28, *] <;> omega) | (simp only [Ix.val]; with_reducible assumption) | exact UInt8.toNat_lt _ | (apply Eq.trans; (with_reducible assumption); exact rfl) | exact rfl | exact fun _ _ => rfl)) rfl

end Go.Proofs.Ytgfbbmcdbohbhaa

namespace Go.Proofs.Ytgfbbmcdbohbhaa
open Go Go.Sx

set_option maxRecDepth 1000000 in
theorem rRow_nat : (List.range 256).all (fun b => Nat.beq (sRow (cInv b) 8) (natS.getD b 0)) = true := by kernel_rfl

end Go.Proofs.Ytgfbbmcdbohbhaa

namespace Go.Proofs.Ytgfbbmcdbohbhaa
open Go Go.Sx

/-- Numbers, as the executor has them. -/
def zs (l : List Nat) : List Int := l.map Int.ofNat

theorem zs_length (l : List Nat) : (zs l).length = l.length := List.length_map _
theorem zs_getD (l : List Nat) (i : Nat) : (zs l).getD i 0 = ((l.getD i 0 : Nat) : Int) := by
  unfold zs
  simp only [List.getD_eq_getElem?_getD, List.getElem?_map]
  cases l[i]? <;> rfl
theorem zs_set (l : List Nat) (i x : Nat) : (zs l).set i (x : Int) = zs (l.set i x) := by
  unfold zs; rw [List.map_set]; rfl

theorem rTab_get : ∀ (b k : Nat), k < b → b ≤ 256 → (rTab b)[k]? = some ((sRow (cInv k) 8 : Nat) : Int)
  | 0, k, h, _ => absurd h (Nat.not_lt_zero k)
  | b + 1, k, h, hb => by
    simp only [rTab]
    by_cases e : b = k
    · subst e
      rw [List.getElem?_set_self (by rw [rTab_length]; omega)]
    · rw [List.getElem?_set_ne e]
      exact rTab_get b k (by omega) (by omega)

theorem natS_length : natS.length = 256 := by rw [← tabS_nat, List.length_map, tabS_length]

theorem rTab_nat : rTab 256 = zs natS := by
  apply List.ext_getElem?
  intro k
  by_cases hk : k < 256
  · rw [rTab_get 256 k hk (Nat.le_refl _)]
    have h := Nat.eq_of_beq_eq_true (List.all_eq_true.1 rRow_nat k (List.mem_range.2 hk))
    have hl : k < natS.length := by rw [natS_length]; exact hk
    unfold zs
    rw [List.getElem?_map, List.getElem?_eq_getElem hl, h, List.getD_eq_getElem?_getD, List.getElem?_eq_getElem hl]
    rfl
  · rw [List.getElem?_eq_none (by rw [rTab_length]; omega), List.getElem?_eq_none (by rw [zs_length, natS_length]; omega)]

theorem natS_sub (x : UInt8) : natS.getD x.toNat 0 = (tabS.getD x.toNat 0).toNat := by
  rw [← tabS_nat, getD_map]

end Go.Proofs.Ytgfbbmcdbohbhaa
