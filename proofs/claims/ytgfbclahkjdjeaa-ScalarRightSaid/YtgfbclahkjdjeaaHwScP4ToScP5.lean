/- What the functions of the program compute. No condition. -/
import Derived.Test.YtgfbclahkjdjeaaHwScP3ToScP3
import Derived.Test.YtgfbclahkjdjeaaHwSc6ToSc6
set_option linter.unusedSimpArgs false
set_option linter.unusedVariables false
namespace Go.Proofs.Ytgfbclahkjdjeaa
open Go Go.Sx

/-! What the reference computes: plain. -/

theorem pow_2 (i : Nat) : ((65536 : Nat) ^ i) = 256 ^ (2 * i) := by rw [Nat.pow_mul]
theorem dv_app {l : List Int} {x : Int} : ∀ {n : Nat}, n ≤ l.length → dv (l ++ [x]) n = dv l n := fun {n} h =>
  dv_congr fun i hi => by rw [List.getD_eq_getElem?_getD, List.getElem?_append_left (by omega), ← List.getD_eq_getElem?_getD]
theorem dgS_val (b : List UInt8) : ∀ n, dv (dgS b n) ((n + 1) / 2) = ((bv b n : Nat) : Int)
  | 0 => rfl
  | i + 1 => by
    have ih := dgS_val b i
    have hl := dgS_length b i
    have hb : bv b (i + 1) = bv b i + (b.getD i 0).toNat * 256 ^ i := rfl
    rw [hb]
    simp only [dgS]
    split
    · rename_i he
      rw [show (i + 1 + 1) / 2 = i / 2 + 1 by omega]
      rw [show (i + 1) / 2 = i / 2 by omega] at ih hl
      have hp : (256 : Nat) ^ i = 65536 ^ (i / 2) := by rw [pow_2]; congr 1; omega
      rw [hp]
      simp only [dv]
      rw [dv_app (by omega), ih, List.getD_eq_getElem?_getD, List.getElem?_append_right (by omega), show i / 2 - (dgS b i).length = 0 by omega]
      simp only [List.getElem?_cons_zero, Option.getD_some]
      rw [Int.natCast_add, Int.natCast_mul, Int.natCast_pow]
      rfl
    · rename_i he
      rw [show (i + 1 + 1) / 2 = i / 2 + 1 by omega]
      rw [show (i + 1) / 2 = i / 2 + 1 by omega] at ih hl
      have hp : (256 : Nat) ^ i = 256 * 65536 ^ (i / 2) := by rw [pow_2, ← Nat.pow_succ']; congr 1; omega
      rw [hp, dv_set_last (by omega)]
      rw [Int.natCast_add, Int.natCast_mul, Int.natCast_mul, Int.natCast_pow, show ((65536 : Nat) : Int) = 65536 from rfl, show ((256 : Nat) : Int) = 256 from rfl]
      rw [← ih]
      simp only [dv]
      generalize (65536 : Int) ^ (i / 2) = p
      rw [Int.add_mul, ← Int.mul_assoc, Int.mul_comm 256]
      omega

theorem ofInt_toNat {x : Int} (h0 : 0 ≤ x) (h1 : x < 256) : (UInt8.ofInt x).toNat = x.toNat := by
  obtain ⟨n, rfl⟩ := Int.eq_ofNat_of_zero_le h0
  unfold UInt8.ofInt
  rw [UInt8.toNat_ofNat']
  omega
def dw (d : List Int) (i : Nat) : Nat := (d.getD i 0).toNat
theorem dv_nv {d : List Int} (h : Dig d) : ∀ n, ((nv (dw d) 65536 n : Nat) : Int) = dv d n
  | 0 => rfl
  | n + 1 => by
    have ih := dv_nv h n
    simp only [nv, dv]
    rw [Int.natCast_add, Int.natCast_mul, Int.natCast_pow, show ((65536 : Nat) : Int) = 65536 from rfl, ih]
    unfold dw
    rw [Int.toNat_of_nonneg (h n).1]
theorem dw_lt {d : List Int} (h : Dig d) (i : Nat) : dw d i < 65536 := by
  have := h i
  unfold dw
  omega
theorem byS_old {d : List Int} (h : Dig d) : ∀ i j, j < 2 * i → i ≤ 16 → by_ (byS d i) j = if j % 2 = 0 then dw d (j / 2) % 256 else dw d (j / 2) / 256
  | 0, _, h, _ => absurd h (Nat.not_lt_zero _)
  | i + 1, j, hj, hi => by
    have hd := h i
    unfold by_
    simp only [byS]
    by_cases e1 : j = 2 * i + 1
    · subst e1
      rw [getD_set_self (by rw [List.length_set, byS_length]; omega), if_neg (by omega), ofInt_toNat (by omega) (by omega), show (2 * i + 1) / 2 = i by omega]
      unfold dw
      omega
    · rw [getD_set_other (by omega)]
      by_cases e2 : j = 2 * i
      · subst e2
        rw [getD_set_self (by rw [byS_length]; omega), if_pos (by omega), ofInt_toNat (by omega) (by omega), show (2 * i) / 2 = i by omega]
        unfold dw
        omega
      · rw [getD_set_other (by omega)]
        exact byS_old h i j (by omega) (by omega)
theorem byS_by {d : List Int} (h : Dig d) {W : Nat} (hW : dv d 16 = (W : Int)) {j : Nat} (hj : j < 32) : by_ (byS d 16) j = W / 256 ^ j % 256 := by
  rw [byS_old h 16 j (by omega) (Nat.le_refl _)]
  have hn := dv_nv h 16
  rw [hW] at hn
  have hn : nv (dw d) 65536 16 = W := Int.ofNat_inj.1 hn
  have hd := nv_div (f := dw d) (B := 65536) (by decide) (q := j / 2) (n := 16) (fun i _ => dw_lt h i) (by omega)
  rw [hn] at hd
  rw [← hd]
  have hp : (65536 : Nat) ^ (j / 2) = 256 ^ (2 * (j / 2)) := pow_2 _
  rw [hp]
  split
  · rw [show 2 * (j / 2) = j by omega]
    omega
  · rw [show (256 : Nat) ^ j = 256 ^ (2 * (j / 2)) * 256 by rw [← Nat.pow_succ]; congr 1; omega, ← Nat.div_div_eq_div_mul]
    omega

/-- A number's bytes, and they are all of it: the two ways agree. -/
theorem out_eq {a : List UInt64} {d : List Int} {W : Nat} (ha : wv a 4 = W) (hd : Dig d) (hW : dv d 16 = (W : Int)) : outS a 32 = byS d 16 :=
  bytes_ext (outS_length _ _) (byS_length _ _) fun i hi => by rw [outS_by a hi, byS_by hd hW hi, ha]

theorem moS_16 {d : List Int} (h : Dig d) (n : Nat) : dv (moS d n n) 16 = dv d n % Lz := by
  have h17 := moS_all h n
  have hD := moS_dig h n n
  have e : dv (moS d n n) 17 = dv (moS d n n) 16 + (moS d n n).getD 16 0 * 65536 ^ 16 := rfl
  have hb := dv_bound hD 16
  have hm1 := Int.emod_lt_of_pos (dv d n) Lz_pos
  have hg := hD 16
  have hL : Lz < 65536 ^ 16 := by decide
  have h0 : (moS d n n).getD 16 0 = 0 := by
    rcases Int.lt_or_le 0 ((moS d n n).getD 16 0) with h3 | h3
    · have : 1 * 65536 ^ 16 ≤ (moS d n n).getD 16 0 * 65536 ^ 16 := Int.mul_le_mul_of_nonneg_right (by omega) (by decide)
      omega
    · omega
  rw [h0, Int.zero_mul] at e
  omega

/-- Reduce, both ways. -/
theorem red_eq (b : List UInt8) : outS (mdL (bitsTo b b.length (8 * b.length))) 32 = rRed b := by
  rw [rRed_eq]
  refine out_eq (mdL_all b _) (moS_dig (dgS_dig b _).1 _ _) ?_
  rw [moS_16 (dgS_dig b _).1, dgS_val]
  rfl
theorem mul_eq (a b c : List UInt8) {w : List UInt64} (h : wv w 4 = (bv c 32 + bv a 32 * bv b 32) % Ln) : outS w 32 = rMul a b c := by
  rw [rMul_eq]
  have da := (dgS_dig a 32).1
  have db := (dgS_dig b 32).1
  have dc := (dgS_dig c 32).1
  refine out_eq h (moS_dig (mrS_dig da db dc 16) _ _) ?_
  rw [moS_16 (mrS_dig da db dc 16), mrS_val da db dc 16 (Nat.le_refl _)]
  have ea := dgS_val a 32
  have eb := dgS_val b 32
  have ec := dgS_val c 32
  rw [show (32 + 1) / 2 = 16 from rfl] at ea eb ec
  rw [ea, eb, ec]
  rfl

end Go.Proofs.Ytgfbclahkjdjeaa

namespace Go.Proofs.Ytgfbclahkjdjeaa
open Go Go.Sx

/-! The program's Reduce and Right. -/

def redV (b : List UInt8) (n : Nat) : SV := if 64 < n then .tup [.a8 (List.replicate 32 0), .ff] else .tup [.a8 (rRed b), .tt]

set_option maxRecDepth 100000 in
theorem fn8 (b : List UInt8) (n : Nat) (hb : b.length = n) : Sx.Fn Γ.P 8 [.slx 1000 0 0 n] [(1000, .mem false 0 [(n, .a8 b)])]
    (fun v M => v = redV b n ∧ M = [(1000, .mem false 0 [(n, .a8 b)])]) := by
  have hR := rRed_length b
  have hQ := red_eq b
  rw [hb] at hQ
  refine fn_of (Γ := Γ) (fn := Try.f8) rfl rfl rfl rfl ?_
  repeat (refine Side.intro (by repeat' (first | (show AllP _; first | exact trivial | refine AllP.app ?_ ?_ | refine AllP.appd ?_ ?_ | refine AllP.cons ?_ ?_) | with_reducible rfl | with_reducible assumption | omega | (simp only [rng, Ix.val, addQ_eq, addI, sz5, sz22, sz24, sz33, sz34, sz35] <;> omega) | (simp only [rng, Ix.val, Int.toNat_natCast, mulE_eq, addQ_eq, addI, Option.getD_none, Option.getD_some, List.length_take, List.length_drop, List.length_append, List.length_set, List.length_replicate, sz5, sz22, sz24, sz33, sz34, sz35, *] <;> omega) | (simp only [Ix.val]; with_reducible assumption) | exact UInt8.toNat_lt _ | (apply Eq.trans; (with_reducible assumption); exact rfl) | exact rfl | exact fun _ _ => rfl)) ?_)
  refine Branch.intro (fun h => ?_) (fun h => ?_)
  · repeat (refine Side.intro (by repeat' (first | (show AllP _; first | exact trivial | refine AllP.app ?_ ?_ | refine AllP.appd ?_ ?_ | refine AllP.cons ?_ ?_) | with_reducible rfl | with_reducible assumption | omega | (simp only [rng, Ix.val, addQ_eq, addI, sz5, sz22, sz24, sz33, sz34, sz35] <;> omega) | (simp only [rng, Ix.val, Int.toNat_natCast, mulE_eq, addQ_eq, addI, Option.getD_none, Option.getD_some, List.length_take, List.length_drop, List.length_append, List.length_set, List.length_replicate, sz5, sz22, sz24, sz33, sz34, sz35, *] <;> omega) | (simp only [Ix.val]; with_reducible assumption) | exact UInt8.toNat_lt _ | (apply Eq.trans; (with_reducible assumption); exact rfl) | exact rfl | exact fun _ _ => rfl)) ?_)
    refine Ret.intro (.tup [.a8 (List.replicate 32 0), .ff]) [(1000, .mem false 0 [(n, .a8 b)])] [] rfl ?_ ⟨(if_pos (by omega)).symm, rfl⟩ rfl ?_ rfl ?_ rfl
    · repeat' (first | (show AllP _; first | exact trivial | refine AllP.app ?_ ?_ | refine AllP.appd ?_ ?_ | refine AllP.cons ?_ ?_) | with_reducible rfl | with_reducible assumption | omega | (simp only [rng, Ix.val, addQ_eq, addI, sz5, sz22, sz24, sz33, sz34, sz35] <;> omega) | (simp only [rng, Ix.val, Int.toNat_natCast, mulE_eq, addQ_eq, addI, Option.getD_none, Option.getD_some, List.length_take, List.length_drop, List.length_append, List.length_set, List.length_replicate, sz5, sz22, sz24, sz33, sz34, sz35, *] <;> omega) | (simp only [Ix.val]; with_reducible assumption) | exact UInt8.toNat_lt _ | (apply Eq.trans; (with_reducible assumption); exact rfl) | exact rfl | exact fun _ _ => rfl)
    · repeat' (first | (show AllP _; first | exact trivial | refine AllP.app ?_ ?_ | refine AllP.appd ?_ ?_ | refine AllP.cons ?_ ?_) | with_reducible rfl | with_reducible assumption | omega | (simp only [rng, Ix.val, addQ_eq, addI, sz5, sz22, sz24, sz33, sz34, sz35] <;> omega) | (simp only [rng, Ix.val, Int.toNat_natCast, mulE_eq, addQ_eq, addI, Option.getD_none, Option.getD_some, List.length_take, List.length_drop, List.length_append, List.length_set, List.length_replicate, sz5, sz22, sz24, sz33, sz34, sz35, *] <;> omega) | (simp only [Ix.val]; with_reducible assumption) | exact UInt8.toNat_lt _ | (apply Eq.trans; (with_reducible assumption); exact rfl) | exact rfl | exact fun _ _ => rfl)
    · repeat' (first | (show AllP _; first | exact trivial | refine AllP.app ?_ ?_ | refine AllP.appd ?_ ?_ | refine AllP.cons ?_ ?_) | with_reducible rfl | with_reducible assumption | omega | (simp only [rng, Ix.val, addQ_eq, addI, sz5, sz22, sz24, sz33, sz34, sz35] <;> omega) | (simp only [rng, Ix.val, Int.toNat_natCast, mulE_eq, addQ_eq, addI, Option.getD_none, Option.getD_some, List.length_take, List.length_drop, List.length_append, List.length_set, List.length_replicate, sz5, sz22, sz24, sz33, sz34, sz35, *] <;> omega) | (simp only [Ix.val]; with_reducible assumption) | exact UInt8.toNat_lt _ | (apply Eq.trans; (with_reducible assumption); exact rfl) | exact rfl | exact fun _ _ => rfl)
  · have hM := fn15 b n hb (by omega)
    have hml := mdL_length (bitsTo b n (8 * n))
    have hO := fn14 (mdL (bitsTo b n (8 * n))) hml
    rw [hQ] at hO
    generalize mdL (bitsTo b n (8 * n)) = m at hM hO hml
    have hv : redV b n = .tup [.a8 (rRed b), .tt] := if_neg (by omega)
    generalize rRed b = R at hO hR hv
    repeat (refine Side.intro (by repeat' (first | (show AllP _; first | exact trivial | refine AllP.app ?_ ?_ | refine AllP.appd ?_ ?_ | refine AllP.cons ?_ ?_) | with_reducible rfl | with_reducible assumption | omega | (simp only [rng, Ix.val, addQ_eq, addI, sz5, sz22, sz24, sz33, sz34, sz35] <;> omega) | (simp only [rng, Ix.val, Int.toNat_natCast, mulE_eq, addQ_eq, addI, Option.getD_none, Option.getD_some, List.length_take, List.length_drop, List.length_append, List.length_set, List.length_replicate, sz5, sz22, sz24, sz33, sz34, sz35, *] <;> omega) | (simp only [Ix.val]; with_reducible assumption) | exact UInt8.toNat_lt _ | (apply Eq.trans; (with_reducible assumption); exact rfl) | exact rfl | exact fun _ _ => rfl)) ?_)
    refine Call.intro hM [(1000, (1000, 0, none))] rfl (by repeat' (first | (show AllP _; first | exact trivial | refine AllP.app ?_ ?_ | refine AllP.appd ?_ ?_ | refine AllP.cons ?_ ?_) | with_reducible rfl | with_reducible assumption | omega | (simp only [rng, Ix.val, addQ_eq, addI, sz5, sz22, sz24, sz33, sz34, sz35] <;> omega) | (simp only [rng, Ix.val, Int.toNat_natCast, mulE_eq, addQ_eq, addI, Option.getD_none, Option.getD_some, List.length_take, List.length_drop, List.length_append, List.length_set, List.length_replicate, sz5, sz22, sz24, sz33, sz34, sz35, *] <;> omega) | (simp only [Ix.val]; with_reducible assumption) | exact UInt8.toNat_lt _ | (apply Eq.trans; (with_reducible assumption); exact rfl) | exact rfl | exact fun _ _ => rfl)) rfl (by repeat' (first | (show AllP _; first | exact trivial | refine AllP.app ?_ ?_ | refine AllP.appd ?_ ?_ | refine AllP.cons ?_ ?_) | with_reducible rfl | with_reducible assumption | omega | (simp only [rng, Ix.val, addQ_eq, addI, sz5, sz22, sz24, sz33, sz34, sz35] <;> omega) | (simp only [rng, Ix.val, Int.toNat_natCast, mulE_eq, addQ_eq, addI, Option.getD_none, Option.getD_some, List.length_take, List.length_drop, List.length_append, List.length_set, List.length_replicate, sz5, sz22, sz24, sz33, sz34, sz35, *] <;> omega) | (simp only [Ix.val]; with_reducible assumption) | exact UInt8.toNat_lt _ | (apply Eq.trans; (with_reducible assumption); exact rfl) | exact rfl | exact fun _ _ => rfl)) rfl ?_
    rintro v M' ⟨rfl, rfl⟩
    repeat (refine Side.intro (by repeat' (first | (show AllP _; first | exact trivial | refine AllP.app ?_ ?_ | refine AllP.appd ?_ ?_ | refine AllP.cons ?_ ?_) | with_reducible rfl | with_reducible assumption | omega | (simp only [rng, Ix.val, addQ_eq, addI, sz5, sz22, sz24, sz33, sz34, sz35] <;> omega) | (simp only [rng, Ix.val, Int.toNat_natCast, mulE_eq, addQ_eq, addI, Option.getD_none, Option.getD_some, List.length_take, List.length_drop, List.length_append, List.length_set, List.length_replicate, sz5, sz22, sz24, sz33, sz34, sz35, *] <;> omega) | (simp only [Ix.val]; with_reducible assumption) | exact UInt8.toNat_lt _ | (apply Eq.trans; (with_reducible assumption); exact rfl) | exact rfl | exact fun _ _ => rfl)) ?_)
    refine Call.pure hO rfl ?_ ?_
    · repeat' (first | (show AllP _; first | exact trivial | refine AllP.app ?_ ?_ | refine AllP.appd ?_ ?_ | refine AllP.cons ?_ ?_) | with_reducible rfl | with_reducible assumption | omega | (simp only [rng, Ix.val, addQ_eq, addI, sz5, sz22, sz24, sz33, sz34, sz35] <;> omega) | (simp only [rng, Ix.val, Int.toNat_natCast, mulE_eq, addQ_eq, addI, Option.getD_none, Option.getD_some, List.length_take, List.length_drop, List.length_append, List.length_set, List.length_replicate, sz5, sz22, sz24, sz33, sz34, sz35, *] <;> omega) | (simp only [Ix.val]; with_reducible assumption) | exact UInt8.toNat_lt _ | (apply Eq.trans; (with_reducible assumption); exact rfl) | exact rfl | exact fun _ _ => rfl)
    intro v hv'
    subst hv'
    repeat (refine Side.intro (by repeat' (first | (show AllP _; first | exact trivial | refine AllP.app ?_ ?_ | refine AllP.appd ?_ ?_ | refine AllP.cons ?_ ?_) | with_reducible rfl | with_reducible assumption | omega | (simp only [rng, Ix.val, addQ_eq, addI, sz5, sz22, sz24, sz33, sz34, sz35] <;> omega) | (simp only [rng, Ix.val, Int.toNat_natCast, mulE_eq, addQ_eq, addI, Option.getD_none, Option.getD_some, List.length_take, List.length_drop, List.length_append, List.length_set, List.length_replicate, sz5, sz22, sz24, sz33, sz34, sz35, *] <;> omega) | (simp only [Ix.val]; with_reducible assumption) | exact UInt8.toNat_lt _ | (apply Eq.trans; (with_reducible assumption); exact rfl) | exact rfl | exact fun _ _ => rfl)) ?_)
    refine Ret.intro (.tup [.a8 R, .tt]) [(1000, .mem false 0 [(n, .a8 b)])] [] rfl ?_ ⟨hv.symm, rfl⟩ rfl ?_ rfl ?_ rfl
    · repeat' (first | (show AllP _; first | exact trivial | refine AllP.app ?_ ?_ | refine AllP.appd ?_ ?_ | refine AllP.cons ?_ ?_) | with_reducible rfl | with_reducible assumption | omega | (simp only [rng, Ix.val, addQ_eq, addI, sz5, sz22, sz24, sz33, sz34, sz35] <;> omega) | (simp only [rng, Ix.val, Int.toNat_natCast, mulE_eq, addQ_eq, addI, Option.getD_none, Option.getD_some, List.length_take, List.length_drop, List.length_append, List.length_set, List.length_replicate, sz5, sz22, sz24, sz33, sz34, sz35, *] <;> omega) | (simp only [Ix.val]; with_reducible assumption) | exact UInt8.toNat_lt _ | (apply Eq.trans; (with_reducible assumption); exact rfl) | exact rfl | exact fun _ _ => rfl)
    · repeat' (first | (show AllP _; first | exact trivial | refine AllP.app ?_ ?_ | refine AllP.appd ?_ ?_ | refine AllP.cons ?_ ?_) | with_reducible rfl | with_reducible assumption | omega | (simp only [rng, Ix.val, addQ_eq, addI, sz5, sz22, sz24, sz33, sz34, sz35] <;> omega) | (simp only [rng, Ix.val, Int.toNat_natCast, mulE_eq, addQ_eq, addI, Option.getD_none, Option.getD_some, List.length_take, List.length_drop, List.length_append, List.length_set, List.length_replicate, sz5, sz22, sz24, sz33, sz34, sz35, *] <;> omega) | (simp only [Ix.val]; with_reducible assumption) | exact UInt8.toNat_lt _ | (apply Eq.trans; (with_reducible assumption); exact rfl) | exact rfl | exact fun _ _ => rfl)
    · repeat' (first | (show AllP _; first | exact trivial | refine AllP.app ?_ ?_ | refine AllP.appd ?_ ?_ | refine AllP.cons ?_ ?_) | with_reducible rfl | with_reducible assumption | omega | (simp only [rng, Ix.val, addQ_eq, addI, sz5, sz22, sz24, sz33, sz34, sz35] <;> omega) | (simp only [rng, Ix.val, Int.toNat_natCast, mulE_eq, addQ_eq, addI, Option.getD_none, Option.getD_some, List.length_take, List.length_drop, List.length_append, List.length_set, List.length_replicate, sz5, sz22, sz24, sz33, sz34, sz35, *] <;> omega) | (simp only [Ix.val]; with_reducible assumption) | exact UInt8.toNat_lt _ | (apply Eq.trans; (with_reducible assumption); exact rfl) | exact rfl | exact fun _ _ => rfl)

set_option maxRecDepth 100000 in
theorem fn12 (b : List UInt8) (hb : b.length = 32) : Sx.Fn Γ.P 12 [.a8 b] [] (fun v _ => v = .bool (rRed b = b)) := by
  have hM := fn15 b 32 hb (by omega)
  have hQ := red_eq b
  rw [hb] at hQ
  have hml := mdL_length (bitsTo b 32 (8 * 32))
  have hO := fn14 (mdL (bitsTo b 32 (8 * 32))) hml
  rw [hQ] at hO
  have hl := rRed_length b
  generalize mdL (bitsTo b 32 (8 * 32)) = m at hM hO hml
  generalize rRed b = R at hO hl
  refine fn_of (Γ := Γ) (fn := Try.f12) rfl rfl rfl rfl ?_
  repeat (refine Side.intro (by repeat' (first | (show AllP _; first | exact trivial | refine AllP.app ?_ ?_ | refine AllP.appd ?_ ?_ | refine AllP.cons ?_ ?_) | with_reducible rfl | with_reducible assumption | omega | (simp only [rng, Ix.val, addQ_eq, addI, sz5, sz22, sz24, sz33, sz34, sz35] <;> omega) | (simp only [rng, Ix.val, Int.toNat_natCast, mulE_eq, addQ_eq, addI, Option.getD_none, Option.getD_some, List.length_take, List.length_drop, List.length_append, List.length_set, List.length_replicate, sz5, sz22, sz24, sz33, sz34, sz35, *] <;> omega) | (simp only [Ix.val]; with_reducible assumption) | exact UInt8.toNat_lt _ | (apply Eq.trans; (with_reducible assumption); exact rfl) | exact rfl | exact fun _ _ => rfl)) ?_)
  refine Draw.intro [[], [0], [0, 1], [], [0, 1, 2, 3], [0, 1, 2, 3, 4]] [0, 3, 1, 2, 4, 5] (by kernel_rfl) ?_
  repeat (refine Side.intro (by repeat' (first | (show AllP _; first | exact trivial | refine AllP.app ?_ ?_ | refine AllP.appd ?_ ?_ | refine AllP.cons ?_ ?_) | with_reducible rfl | with_reducible assumption | omega | (simp only [rng, Ix.val, addQ_eq, addI, sz5, sz22, sz24, sz33, sz34, sz35] <;> omega) | (simp only [rng, Ix.val, Int.toNat_natCast, mulE_eq, addQ_eq, addI, Option.getD_none, Option.getD_some, List.length_take, List.length_drop, List.length_append, List.length_set, List.length_replicate, sz5, sz22, sz24, sz33, sz34, sz35, *] <;> omega) | (simp only [Ix.val]; with_reducible assumption) | exact UInt8.toNat_lt _ | (apply Eq.trans; (with_reducible assumption); exact rfl) | exact rfl | exact fun _ _ => rfl)) ?_)
  refine Call.intro hM [(1000, (1, 0, none))] rfl (by repeat' (first | (show AllP _; first | exact trivial | refine AllP.app ?_ ?_ | refine AllP.appd ?_ ?_ | refine AllP.cons ?_ ?_) | with_reducible rfl | with_reducible assumption | omega | (simp only [rng, Ix.val, addQ_eq, addI, sz5, sz22, sz24, sz33, sz34, sz35] <;> omega) | (simp only [rng, Ix.val, Int.toNat_natCast, mulE_eq, addQ_eq, addI, Option.getD_none, Option.getD_some, List.length_take, List.length_drop, List.length_append, List.length_set, List.length_replicate, sz5, sz22, sz24, sz33, sz34, sz35, *] <;> omega) | (simp only [Ix.val]; with_reducible assumption) | exact UInt8.toNat_lt _ | (apply Eq.trans; (with_reducible assumption); exact rfl) | exact rfl | exact fun _ _ => rfl)) rfl (by repeat' (first | (show AllP _; first | exact trivial | refine AllP.app ?_ ?_ | refine AllP.appd ?_ ?_ | refine AllP.cons ?_ ?_) | with_reducible rfl | with_reducible assumption | omega | (simp only [rng, Ix.val, addQ_eq, addI, sz5, sz22, sz24, sz33, sz34, sz35] <;> omega) | (simp only [rng, Ix.val, Int.toNat_natCast, mulE_eq, addQ_eq, addI, Option.getD_none, Option.getD_some, List.length_take, List.length_drop, List.length_append, List.length_set, List.length_replicate, sz5, sz22, sz24, sz33, sz34, sz35, *] <;> omega) | (simp only [Ix.val]; with_reducible assumption) | exact UInt8.toNat_lt _ | (apply Eq.trans; (with_reducible assumption); exact rfl) | exact rfl | exact fun _ _ => rfl)) rfl ?_
  rintro v M' ⟨rfl, rfl⟩
  refine Grow.intro [] rfl rfl ?_
  repeat (refine Side.intro (by repeat' (first | (show AllP _; first | exact trivial | refine AllP.app ?_ ?_ | refine AllP.appd ?_ ?_ | refine AllP.cons ?_ ?_) | with_reducible rfl | with_reducible assumption | omega | (simp only [rng, Ix.val, addQ_eq, addI, sz5, sz22, sz24, sz33, sz34, sz35] <;> omega) | (simp only [rng, Ix.val, Int.toNat_natCast, mulE_eq, addQ_eq, addI, Option.getD_none, Option.getD_some, List.length_take, List.length_drop, List.length_append, List.length_set, List.length_replicate, sz5, sz22, sz24, sz33, sz34, sz35, *] <;> omega) | (simp only [Ix.val]; with_reducible assumption) | exact UInt8.toNat_lt _ | (apply Eq.trans; (with_reducible assumption); exact rfl) | exact rfl | exact fun _ _ => rfl)) ?_)
  refine Call.pure hO rfl ?_ ?_
  · repeat' (first | (show AllP _; first | exact trivial | refine AllP.app ?_ ?_ | refine AllP.appd ?_ ?_ | refine AllP.cons ?_ ?_) | with_reducible rfl | with_reducible assumption | omega | (simp only [rng, Ix.val, addQ_eq, addI, sz5, sz22, sz24, sz33, sz34, sz35] <;> omega) | (simp only [rng, Ix.val, Int.toNat_natCast, mulE_eq, addQ_eq, addI, Option.getD_none, Option.getD_some, List.length_take, List.length_drop, List.length_append, List.length_set, List.length_replicate, sz5, sz22, sz24, sz33, sz34, sz35, *] <;> omega) | (simp only [Ix.val]; with_reducible assumption) | exact UInt8.toNat_lt _ | (apply Eq.trans; (with_reducible assumption); exact rfl) | exact rfl | exact fun _ _ => rfl)
  intro v hv
  subst hv
  refine Grow.intro [] rfl rfl ?_
  repeat (refine Side.intro (by repeat' (first | (show AllP _; first | exact trivial | refine AllP.app ?_ ?_ | refine AllP.appd ?_ ?_ | refine AllP.cons ?_ ?_) | with_reducible rfl | with_reducible assumption | omega | (simp only [rng, Ix.val, addQ_eq, addI, sz5, sz22, sz24, sz33, sz34, sz35] <;> omega) | (simp only [rng, Ix.val, Int.toNat_natCast, mulE_eq, addQ_eq, addI, Option.getD_none, Option.getD_some, List.length_take, List.length_drop, List.length_append, List.length_set, List.length_replicate, sz5, sz22, sz24, sz33, sz34, sz35, *] <;> omega) | (simp only [Ix.val]; with_reducible assumption) | exact UInt8.toNat_lt _ | (apply Eq.trans; (with_reducible assumption); exact rfl) | exact rfl | exact fun _ _ => rfl)) ?_)
  refine Ret.intro (.bool (R = b)) [] [] rfl trivial rfl rfl ?_ rfl trivial rfl
  exact Iff.rfl

end Go.Proofs.Ytgfbclahkjdjeaa

namespace Go.Proofs.Ytgfbclahkjdjeaa
open Go Go.Sx

/-! Products of words: plain. -/

theorem pr_bound {a b : Nat} (ha : a < 4294967296) (hb : b < 4294967296) : a * b ≤ 18446744065119617025 := by
  have : a * b ≤ 4294967295 * 4294967295 := Nat.mul_le_mul (by omega) (by omega)
  omega
theorem pr_split (x1 x0 y1 y0 : Nat) : (x1 * 4294967296 + x0) * (y1 * 4294967296 + y0) = x1 * y1 * 18446744073709551616 + (x1 * y0 + x0 * y1) * 4294967296 + x0 * y0 := by
  rw [Nat.add_mul, Nat.mul_add, Nat.mul_add]
  have e1 : x1 * 4294967296 * (y1 * 4294967296) = x1 * y1 * 18446744073709551616 := by
    rw [Nat.mul_assoc, Nat.mul_left_comm 4294967296, ← Nat.mul_assoc]
  have e2 : x1 * 4294967296 * y0 = x1 * y0 * 4294967296 := by rw [Nat.mul_right_comm]
  have e3 : x0 * (y1 * 4294967296) = x0 * y1 * 4294967296 := by rw [Nat.mul_assoc]
  rw [e1, e2, e3]
  omega
theorem and_low (x : UInt64) : (x &&& UInt64.ofNat 4294967295).toNat = x.toNat % 4294967296 := by
  rw [UInt64.toNat_and, show (UInt64.ofNat 4294967295).toNat = 2 ^ 32 - 1 from rfl, Nat.and_two_pow_sub_one_eq_mod]
theorem shr_32 (x : UInt64) : (shr64 x 32).toNat = x.toNat / 4294967296 := by
  have := x.toNat_lt
  unfold shr64
  rw [UInt64.toNat_ofNat', Nat.shiftRight_eq_div_pow, Nat.mod_eq_of_lt (by omega)]
theorem muH_val (x y : UInt64) : (muH x y).toNat = x.toNat * y.toNat / 18446744073709551616 := by
  have hx := x.toNat_lt
  have hy := y.toNat_lt
  have sx : x.toNat = x.toNat / 4294967296 * 4294967296 + x.toNat % 4294967296 := by omega
  have sy : y.toNat = y.toNat / 4294967296 * 4294967296 + y.toNat % 4294967296 := by omega
  have ps := pr_split (x.toNat / 4294967296) (x.toNat % 4294967296) (y.toNat / 4294967296) (y.toNat % 4294967296)
  rw [← sx, ← sy] at ps
  have b11 := pr_bound (a := x.toNat / 4294967296) (b := y.toNat / 4294967296) (by omega) (by omega)
  have b10 := pr_bound (a := x.toNat / 4294967296) (b := y.toNat % 4294967296) (by omega) (by omega)
  have b01 := pr_bound (a := x.toNat % 4294967296) (b := y.toNat / 4294967296) (by omega) (by omega)
  have b00 := pr_bound (a := x.toNat % 4294967296) (b := y.toNat % 4294967296) (by omega) (by omega)
  unfold muH muT
  simp only [UInt64.toNat_add, UInt64.toNat_mul, and_low, shr_32]
  generalize x.toNat / 4294967296 * (y.toNat / 4294967296) = p11 at *
  generalize x.toNat / 4294967296 * (y.toNat % 4294967296) = p10 at *
  generalize x.toNat % 4294967296 * (y.toNat / 4294967296) = p01 at *
  generalize x.toNat % 4294967296 * (y.toNat % 4294967296) = p00 at *
  generalize x.toNat * y.toNat = P at *
  omega
theorem mul64_val (x y : UInt64) : (muH x y).toNat * 18446744073709551616 + (x * y).toNat = x.toNat * y.toNat := by
  rw [muH_val, UInt64.toNat_mul]
  omega
theorem add_val (x y : UInt64) : (addS x y 0).toNat + (addC x y 0).toNat * 18446744073709551616 = x.toNat + y.toNat := by
  have := x.toNat_lt
  have := y.toNat_lt
  unfold addS addC
  rw [UInt64.toNat_ofNat', UInt64.toNat_ofNat', show (0 : UInt64).toNat = 0 from rfl]
  omega
theorem addC_le (x y : UInt64) : (addC x y 0).toNat ≤ 1 := by
  have := x.toNat_lt
  have := y.toNat_lt
  unfold addC
  rw [UInt64.toNat_ofNat', show (0 : UInt64).toNat = 0 from rfl]
  omega

theorem wv_set {l : List UInt64} {q : Nat} {v : UInt64} : ∀ {n : Nat}, q < n → q < l.length → wv (l.set q v) n + (l.getD q 0).toNat * 18446744073709551616 ^ q = wv l n + v.toNat * 18446744073709551616 ^ q
  | 0, h, _ => absurd h (Nat.not_lt_zero _)
  | n + 1, h, hl => by
    have e1 : wv (l.set q v) (n + 1) = wv (l.set q v) n + ((l.set q v).getD n 0).toNat * 18446744073709551616 ^ n := rfl
    have e2 : wv l (n + 1) = wv l n + (l.getD n 0).toNat * 18446744073709551616 ^ n := rfl
    rw [e1, e2]
    by_cases hq : q = n
    · subst hq
      rw [wv_set_ge (Nat.le_refl _), getD_set_self hl]
      omega
    · have ih := wv_set (l := l) (q := q) (v := v) (n := n) (by omega) hl
      rw [getD_set_other (by omega)]
      omega

theorem pw1 (H q B : Nat) : H * B ^ (q + 1) = H * B * B ^ q := by rw [Nat.pow_succ', Nat.mul_assoc]
theorem key_lem {B H0 lo0 P lo1 d1 T S d2 O : Nat} (hm : H0 * B + lo0 = P) (a1 : lo1 + d1 * B = lo0 + T) (a2 : S + d2 * B = lo1 + O) :
    S + (H0 + d1 + d2) * B = P + T + O := by
  rw [Nat.add_mul, Nat.add_mul]
  generalize H0 * B = h at *
  generalize d1 * B = x1 at *
  generalize d2 * B = x2 at *
  omega
/-- One product laid on. -/
theorem mul_step {t : List UInt64} {x y over lo c1 s c2 h : UInt64} {q V : Nat} (hq : q < 8) (ht : t.length = 8)
    (hlo : lo = addS (x * y) (t.getD q 0) 0) (hc1 : c1 = addC (x * y) (t.getD q 0) 0) (hs : s = addS lo over 0) (hc2 : c2 = addC lo over 0) (hh : h = muH x y + c1 + c2)
    (hV : wv t 8 + over.toNat * 18446744073709551616 ^ q = V) :
    wv (t.set q s) 8 + h.toNat * 18446744073709551616 ^ (q + 1) = V + x.toNat * y.toNat * 18446744073709551616 ^ q := by
  have hw := wv_set (l := t) (q := q) (v := s) (n := 8) hq (by omega)
  have hm := mul64_val x y
  have a1 := add_val (x * y) (t.getD q 0)
  have a2 := add_val lo over
  have l1 := addC_le (x * y) (t.getD q 0)
  have l2 := addC_le lo over
  rw [← hlo, ← hc1] at a1
  rw [← hs, ← hc2] at a2
  rw [← hc1] at l1
  rw [← hc2] at l2
  have hx := x.toNat_lt
  have hy := y.toNat_lt
  have hp : x.toNat * y.toNat ≤ 18446744073709551615 * 18446744073709551615 := Nat.mul_le_mul (by omega) (by omega)
  have hn : h.toNat = ((muH x y).toNat + c1.toNat + c2.toNat) % 18446744073709551616 := by
    rw [hh, UInt64.toNat_add, UInt64.toNat_add]
    omega
  rw [hn]
  clear hn hh hlo hc1 hs hc2 hx hy
  generalize (x * y).toNat = lo0 at *
  generalize (muH x y).toNat = H0 at *
  generalize x.toNat * y.toNat = P at *
  have hP : P < 340282366920938463426481119284349108226 := by omega
  have hH : H0 * 18446744073709551616 ≤ P := by omega
  have hH2 : H0 ≤ 18446744073709551614 := by omega
  have hO := over.toNat_lt
  have hT := (t.getD q 0).toNat_lt
  generalize s.toNat = S at *
  generalize (t.getD q 0).toNat = T at *
  generalize over.toNat = O at *
  generalize lo.toNat = lo1 at *
  generalize c1.toNat = d1 at *
  generalize c2.toNat = d2 at *
  have hH3 : H0 + d1 + d2 < 18446744073709551616 := by omega
  rw [Nat.mod_eq_of_lt hH3]
  have key : S + (H0 + d1 + d2) * 18446744073709551616 = P + T + O := key_lem hm a1 a2
  clear hp hm a1 a2 l1 l2 hP hH hH2 hO hT hH3
  generalize H0 + d1 + d2 = H at *
  have e : H * 18446744073709551616 ^ (q + 1) = H * 18446744073709551616 * 18446744073709551616 ^ q := pw1 _ _ _
  rw [e]
  generalize (18446744073709551616 : Nat) ^ q = p at *
  have k2 : (S + H * 18446744073709551616) * p = (P + T + O) * p := by rw [key]
  rw [Nat.add_mul, Nat.add_mul, Nat.add_mul] at k2
  omega
/-- One carry laid on. -/
theorem car_step {t : List UInt64} {over s c : UInt64} {q V : Nat} (hq : q < 8) (ht : t.length = 8)
    (hs : s = addS (t.getD q 0) over 0) (hc : c = addC (t.getD q 0) over 0) (hV : wv t 8 + over.toNat * 18446744073709551616 ^ q = V) :
    wv (t.set q s) 8 + c.toNat * 18446744073709551616 ^ (q + 1) = V := by
  have hw := wv_set (l := t) (q := q) (v := s) (n := 8) hq (by omega)
  have a1 := add_val (t.getD q 0) over
  rw [← hs, ← hc] at a1
  have e : c.toNat * 18446744073709551616 ^ (q + 1) = c.toNat * 18446744073709551616 * 18446744073709551616 ^ q := pw1 _ _ _
  rw [e]
  generalize (18446744073709551616 : Nat) ^ q = p at *
  have k2 : (s.toNat + c.toNat * 18446744073709551616) * p = ((t.getD q 0).toNat + over.toNat) * p := by rw [a1]
  rw [Nat.add_mul, Nat.add_mul] at k2
  omega

/-- 64 bytes of 8 words. -/
def wdS (t : List UInt64) : Nat → List UInt8
  | 0 => List.replicate 64 0
  | i + 1 => (wdS t i).set i (shr64 (t.getD (i / 8) 0) (i % 8 * 8)).toUInt8
theorem wdS_length (t : List UInt64) : ∀ i, (wdS t i).length = 64
  | 0 => List.length_replicate
  | i + 1 => by simp only [wdS, List.length_set, wdS_length t i]
theorem wdS_old (t : List UInt64) : ∀ i j, j < i → i ≤ 64 → (wdS t i).getD j 0 = (shr64 (t.getD (j / 8) 0) (j % 8 * 8)).toUInt8
  | 0, _, h, _ => absurd h (Nat.not_lt_zero _)
  | i + 1, j, h, hi => by
    simp only [wdS]
    by_cases e : j = i
    · subst e; rw [getD_set_self (by rw [wdS_length]; omega)]
    · rw [getD_set_other (by omega), wdS_old t i j (by omega) (by omega)]
theorem wdS_by (t : List UInt64) {j : Nat} (hj : j < 64) : by_ (wdS t 64) j = wv t 8 / 256 ^ j % 256 := by
  unfold by_
  rw [wdS_old t 64 j hj (Nat.le_refl _)]
  unfold shr64
  rw [UInt64.toNat_toUInt8, UInt64.toNat_ofNat', Nat.shiftRight_eq_div_pow]
  have h1 := wv_digit t (n := 8) (q := j / 8) (by omega)
  unfold wd_ at h1
  rw [← h1]
  have e : (256 : Nat) ^ j = 18446744073709551616 ^ (j / 8) * 2 ^ (j % 8 * 8) := by
    rw [show (18446744073709551616 : Nat) = 256 ^ 8 by decide, show (2 : Nat) ^ (j % 8 * 8) = 256 ^ (j % 8) by rw [Nat.mul_comm, Nat.pow_mul], ← Nat.pow_mul, ← Nat.pow_add]
    congr 1; omega
  rw [e, ← Nat.div_div_eq_div_mul]
  generalize wv t 8 / 18446744073709551616 ^ (j / 8) = W
  have e3 : (18446744073709551616 : Nat) = 2 ^ (j % 8 * 8) * (256 * 256 ^ (7 - j % 8)) := by
    rw [show (2 : Nat) ^ (j % 8 * 8) = 256 ^ (j % 8) by rw [Nat.mul_comm, Nat.pow_mul], ← Nat.pow_succ', ← Nat.pow_add, show j % 8 + (7 - j % 8 + 1) = 8 by omega]
  have h64 : W % 18446744073709551616 / 2 ^ (j % 8 * 8) < 18446744073709551616 := Nat.lt_of_le_of_lt (Nat.div_le_self _ _) (Nat.mod_lt _ (by decide))
  rw [Nat.mod_eq_of_lt (a := W % 18446744073709551616 / 2 ^ (j % 8 * 8)) h64]
  rw [e3, Nat.mod_mul_right_div_self, Nat.mod_mul_right_mod]
theorem wdS_val (t : List UInt64) : bv (wdS t 64) 64 = wv t 8 := by
  unfold bv
  rw [nv_of_digits (by decide) (W := wv t 8) fun i hi => wdS_by t hi]
  have h := wv_lt t 8
  exact Nat.mod_eq_of_lt (by rw [show (256 : Nat) ^ 64 = 18446744073709551616 ^ 8 by decide]; exact h)

end Go.Proofs.Ytgfbclahkjdjeaa
