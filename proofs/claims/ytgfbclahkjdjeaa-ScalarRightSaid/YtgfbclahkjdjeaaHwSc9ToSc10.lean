/- What the functions of the program compute. No condition. -/
import Derived.Test.YtgfbclahkjdjeaaHwSc8ToSc8
import Derived.Test.YtgfbclahkjdjeaaHx6
set_option linter.unusedSimpArgs false
set_option linter.unusedVariables false
namespace Go.Proofs.Ytgfbclahkjdjeaa
open Go Go.Sx

/-! The laws' example. -/

theorem rRed_of {b : List UInt8} {w : List UInt64} (h : wv w 4 = bv b b.length % Ln) : rRed b = outS w 32 := by
  rw [rRed_eq]
  refine (out_eq h (moS_dig (dgS_dig b _).1 _ _) ?_).symm
  rw [moS_16 (dgS_dig b _).1, dgS_val]
  rfl
def one32 (x : UInt8) : List UInt8 := x :: List.replicate 31 0
theorem al_r : rRed [UInt8.ofNat 5] = one32 (UInt8.ofNat 5) := (rRed_of (w := [5, 0, 0, 0]) (by decide +kernel)).trans (by decide +kernel)
theorem al_9 : rRed (one32 (UInt8.ofNat 9)) = one32 (UInt8.ofNat 9) := (rRed_of (w := [9, 0, 0, 0]) (by decide +kernel)).trans (by decide +kernel)
theorem al_m : rMul (one32 (UInt8.ofNat 2)) (one32 (UInt8.ofNat 3)) (one32 (UInt8.ofNat 4)) = one32 (UInt8.ofNat 10) :=
  (mul_eq _ _ _ (w := [10, 0, 0, 0]) (by decide +kernel)).symm.trans (by decide +kernel)

set_option maxRecDepth 100000 in
theorem fn7 : Sx.Fn Γ.P 7 [] [] (fun v _ => v = .tt) := by
  have h0 := fn8 [UInt8.ofNat 5] 1 rfl
  have h1 := fn10 (one32 (UInt8.ofNat 2)) (one32 (UInt8.ofNat 3)) (one32 (UInt8.ofNat 4)) rfl rfl rfl
  have h2 := fn12 (one32 (UInt8.ofNat 9)) rfl
  have hv : redV [UInt8.ofNat 5] 1 = .tup [.a8 (one32 (UInt8.ofNat 5)), .tt] := by rw [← al_r]; rfl
  rw [al_m] at h1
  rw [hv] at h0
  refine fn_of (Γ := Γ) (fn := Try.f7) rfl rfl rfl rfl ?_
  repeat (refine Side.intro (by repeat' (first | (show AllP _; first | exact trivial | refine AllP.app ?_ ?_ | refine AllP.appd ?_ ?_ | refine AllP.cons ?_ ?_) | with_reducible rfl | with_reducible assumption | omega | (simp only [rng, Ix.val, addQ_eq, addI, sz3, sz5, sz22, sz24, sz33, sz34, sz35, sz38, sz41, sz42, sz46] <;> omega) | (simp only [rng, Ix.val, Int.toNat_natCast, mulE_eq, addQ_eq, addI, Option.getD_none, Option.getD_some, List.length_take, List.length_drop, List.length_append, List.length_set, List.length_replicate, sz3, sz5, sz22, sz24, sz33, sz34, sz35, sz38, sz41, sz42, sz46, *] <;> omega) | (simp only [Ix.val]; with_reducible assumption) | exact UInt8.toNat_lt _ | (apply Eq.trans; (with_reducible assumption); exact rfl) | exact rfl | exact fun _ _ => rfl)) ?_)
  refine Call.intro h0 [(1000, (4, 0, none))] rfl (by repeat' (first | (show AllP _; first | exact trivial | refine AllP.app ?_ ?_ | refine AllP.appd ?_ ?_ | refine AllP.cons ?_ ?_) | with_reducible rfl | with_reducible assumption | omega | (simp only [rng, Ix.val, addQ_eq, addI, sz3, sz5, sz22, sz24, sz33, sz34, sz35, sz38, sz41, sz42, sz46] <;> omega) | (simp only [rng, Ix.val, Int.toNat_natCast, mulE_eq, addQ_eq, addI, Option.getD_none, Option.getD_some, List.length_take, List.length_drop, List.length_append, List.length_set, List.length_replicate, sz3, sz5, sz22, sz24, sz33, sz34, sz35, sz38, sz41, sz42, sz46, *] <;> omega) | (simp only [Ix.val]; with_reducible assumption) | exact UInt8.toNat_lt _ | (apply Eq.trans; (with_reducible assumption); exact rfl) | exact rfl | exact fun _ _ => rfl)) rfl (by repeat' (first | (show AllP _; first | exact trivial | refine AllP.app ?_ ?_ | refine AllP.appd ?_ ?_ | refine AllP.cons ?_ ?_) | with_reducible rfl | with_reducible assumption | omega | (simp only [rng, Ix.val, addQ_eq, addI, sz3, sz5, sz22, sz24, sz33, sz34, sz35, sz38, sz41, sz42, sz46] <;> omega) | (simp only [rng, Ix.val, Int.toNat_natCast, mulE_eq, addQ_eq, addI, Option.getD_none, Option.getD_some, List.length_take, List.length_drop, List.length_append, List.length_set, List.length_replicate, sz3, sz5, sz22, sz24, sz33, sz34, sz35, sz38, sz41, sz42, sz46, *] <;> omega) | (simp only [Ix.val]; with_reducible assumption) | exact UInt8.toNat_lt _ | (apply Eq.trans; (with_reducible assumption); exact rfl) | exact rfl | exact fun _ _ => rfl)) rfl ?_
  rintro v M' ⟨rfl, rfl⟩
  dsimp only [putT, afterM, newEnt, ren, renA, renS, renL, look, getM, getT, ev, evL, ofVal, cond_true, cond_false, Nat.beq_eq, act, isPar, ownPar, Ent.isOwn]
  repeat (refine Side.intro (by repeat' (first | (show AllP _; first | exact trivial | refine AllP.app ?_ ?_ | refine AllP.appd ?_ ?_ | refine AllP.cons ?_ ?_) | with_reducible rfl | with_reducible assumption | omega | (simp only [rng, Ix.val, addQ_eq, addI, sz3, sz5, sz22, sz24, sz33, sz34, sz35, sz38, sz41, sz42, sz46] <;> omega) | (simp only [rng, Ix.val, Int.toNat_natCast, mulE_eq, addQ_eq, addI, Option.getD_none, Option.getD_some, List.length_take, List.length_drop, List.length_append, List.length_set, List.length_replicate, sz3, sz5, sz22, sz24, sz33, sz34, sz35, sz38, sz41, sz42, sz46, *] <;> omega) | (simp only [Ix.val]; with_reducible assumption) | exact UInt8.toNat_lt _ | (apply Eq.trans; (with_reducible assumption); exact rfl) | exact rfl | exact fun _ _ => rfl)) ?_)
  refine Call.pure h1 rfl ?_ ?_
  · repeat' (first | (show AllP _; first | exact trivial | refine AllP.app ?_ ?_ | refine AllP.appd ?_ ?_ | refine AllP.cons ?_ ?_) | with_reducible rfl | with_reducible assumption | omega | (simp only [rng, Ix.val, addQ_eq, addI, sz3, sz5, sz22, sz24, sz33, sz34, sz35, sz38, sz41, sz42, sz46] <;> omega) | (simp only [rng, Ix.val, Int.toNat_natCast, mulE_eq, addQ_eq, addI, Option.getD_none, Option.getD_some, List.length_take, List.length_drop, List.length_append, List.length_set, List.length_replicate, sz3, sz5, sz22, sz24, sz33, sz34, sz35, sz38, sz41, sz42, sz46, *] <;> omega) | (simp only [Ix.val]; with_reducible assumption) | exact UInt8.toNat_lt _ | (apply Eq.trans; (with_reducible assumption); exact rfl) | exact rfl | exact fun _ _ => rfl)
  intro v hv
  subst hv
  dsimp only [putT, afterM, newEnt, ren, renA, renS, renL, look, getM, getT, ev, evL, ofVal, cond_true, cond_false, Nat.beq_eq, act, isPar, ownPar, Ent.isOwn]
  repeat (refine Side.intro (by repeat' (first | (show AllP _; first | exact trivial | refine AllP.app ?_ ?_ | refine AllP.appd ?_ ?_ | refine AllP.cons ?_ ?_) | with_reducible rfl | with_reducible assumption | omega | (simp only [rng, Ix.val, addQ_eq, addI, sz3, sz5, sz22, sz24, sz33, sz34, sz35, sz38, sz41, sz42, sz46] <;> omega) | (simp only [rng, Ix.val, Int.toNat_natCast, mulE_eq, addQ_eq, addI, Option.getD_none, Option.getD_some, List.length_take, List.length_drop, List.length_append, List.length_set, List.length_replicate, sz3, sz5, sz22, sz24, sz33, sz34, sz35, sz38, sz41, sz42, sz46, *] <;> omega) | (simp only [Ix.val]; with_reducible assumption) | exact UInt8.toNat_lt _ | (apply Eq.trans; (with_reducible assumption); exact rfl) | exact rfl | exact fun _ _ => rfl)) ?_)
  refine Branch.intro (fun _ => ?_) (fun hn => absurd rfl hn)
  repeat (refine Side.intro (by repeat' (first | (show AllP _; first | exact trivial | refine AllP.app ?_ ?_ | refine AllP.appd ?_ ?_ | refine AllP.cons ?_ ?_) | with_reducible rfl | with_reducible assumption | omega | (simp only [rng, Ix.val, addQ_eq, addI, sz3, sz5, sz22, sz24, sz33, sz34, sz35, sz38, sz41, sz42, sz46] <;> omega) | (simp only [rng, Ix.val, Int.toNat_natCast, mulE_eq, addQ_eq, addI, Option.getD_none, Option.getD_some, List.length_take, List.length_drop, List.length_append, List.length_set, List.length_replicate, sz3, sz5, sz22, sz24, sz33, sz34, sz35, sz38, sz41, sz42, sz46, *] <;> omega) | (simp only [Ix.val]; with_reducible assumption) | exact UInt8.toNat_lt _ | (apply Eq.trans; (with_reducible assumption); exact rfl) | exact rfl | exact fun _ _ => rfl)) ?_)
  refine Branch.intro (fun _ => ?_) (fun hn => absurd rfl hn)
  repeat (refine Side.intro (by repeat' (first | (show AllP _; first | exact trivial | refine AllP.app ?_ ?_ | refine AllP.appd ?_ ?_ | refine AllP.cons ?_ ?_) | with_reducible rfl | with_reducible assumption | omega | (simp only [rng, Ix.val, addQ_eq, addI, sz3, sz5, sz22, sz24, sz33, sz34, sz35, sz38, sz41, sz42, sz46] <;> omega) | (simp only [rng, Ix.val, Int.toNat_natCast, mulE_eq, addQ_eq, addI, Option.getD_none, Option.getD_some, List.length_take, List.length_drop, List.length_append, List.length_set, List.length_replicate, sz3, sz5, sz22, sz24, sz33, sz34, sz35, sz38, sz41, sz42, sz46, *] <;> omega) | (simp only [Ix.val]; with_reducible assumption) | exact UInt8.toNat_lt _ | (apply Eq.trans; (with_reducible assumption); exact rfl) | exact rfl | exact fun _ _ => rfl)) ?_)
  refine Call.pure h2 rfl ?_ ?_
  · repeat' (first | (show AllP _; first | exact trivial | refine AllP.app ?_ ?_ | refine AllP.appd ?_ ?_ | refine AllP.cons ?_ ?_) | with_reducible rfl | with_reducible assumption | omega | (simp only [rng, Ix.val, addQ_eq, addI, sz3, sz5, sz22, sz24, sz33, sz34, sz35, sz38, sz41, sz42, sz46] <;> omega) | (simp only [rng, Ix.val, Int.toNat_natCast, mulE_eq, addQ_eq, addI, Option.getD_none, Option.getD_some, List.length_take, List.length_drop, List.length_append, List.length_set, List.length_replicate, sz3, sz5, sz22, sz24, sz33, sz34, sz35, sz38, sz41, sz42, sz46, *] <;> omega) | (simp only [Ix.val]; with_reducible assumption) | exact UInt8.toNat_lt _ | (apply Eq.trans; (with_reducible assumption); exact rfl) | exact rfl | exact fun _ _ => rfl)
  intro v hv
  subst hv
  repeat (refine Side.intro (by repeat' (first | (show AllP _; first | exact trivial | refine AllP.app ?_ ?_ | refine AllP.appd ?_ ?_ | refine AllP.cons ?_ ?_) | with_reducible rfl | with_reducible assumption | omega | (simp only [rng, Ix.val, addQ_eq, addI, sz3, sz5, sz22, sz24, sz33, sz34, sz35, sz38, sz41, sz42, sz46] <;> omega) | (simp only [rng, Ix.val, Int.toNat_natCast, mulE_eq, addQ_eq, addI, Option.getD_none, Option.getD_some, List.length_take, List.length_drop, List.length_append, List.length_set, List.length_replicate, sz3, sz5, sz22, sz24, sz33, sz34, sz35, sz38, sz41, sz42, sz46, *] <;> omega) | (simp only [Ix.val]; with_reducible assumption) | exact UInt8.toNat_lt _ | (apply Eq.trans; (with_reducible assumption); exact rfl) | exact rfl | exact fun _ _ => rfl)) ?_)
  refine Ret.intro .tt [] [] rfl trivial rfl rfl ?_ rfl trivial rfl
  · repeat' (first | (show AllP _; first | exact trivial | refine AllP.app ?_ ?_ | refine AllP.appd ?_ ?_ | refine AllP.cons ?_ ?_) | with_reducible rfl | with_reducible assumption | omega | (simp only [rng, Ix.val, addQ_eq, addI, sz3, sz5, sz22, sz24, sz33, sz34, sz35, sz38, sz41, sz42, sz46] <;> omega) | (simp only [rng, Ix.val, Int.toNat_natCast, mulE_eq, addQ_eq, addI, Option.getD_none, Option.getD_some, List.length_take, List.length_drop, List.length_append, List.length_set, List.length_replicate, sz3, sz5, sz22, sz24, sz33, sz34, sz35, sz38, sz41, sz42, sz46, *] <;> omega) | (simp only [Ix.val]; with_reducible assumption) | exact UInt8.toNat_lt _ | (apply Eq.trans; (with_reducible assumption); exact rfl) | exact rfl | exact fun _ _ => rfl)
    exact al_9

/-! Plain: equal numbers are equal bytes. -/

theorem bv_ext {a b : List UInt8} (ha : a.length = 32) (hb : b.length = 32) (h : bv a 32 = bv b 32) : a = b :=
  bytes_ext ha hb fun i hi => by rw [← bv_digit a hi, ← bv_digit b hi, h]
theorem bv_out {w : List UInt64} : bv (outS w 32) 32 = wv w 4 := by
  unfold bv
  rw [nv_of_digits (by decide) (W := wv w 4) fun i hi => outS_by w hi]
  have h := wv_lt w 4
  exact Nat.mod_eq_of_lt (by rw [show (256 : Nat) ^ 32 = 18446744073709551616 ^ 4 by decide]; exact h)
theorem bR (b : List UInt8) : bv (rRed b) 32 = bv b b.length % Ln := by rw [← red_eq, bv_out, mdL_all]
theorem bv_byS {d : List Int} (h : Dig d) {W : Nat} (hW : dv d 16 = (W : Int)) : bv (byS d 16) 32 = W % 256 ^ 32 := nv_of_digits (by decide) fun i hi => byS_by h hW hi
theorem bM (a b c : List UInt8) : bv (rMul a b c) 32 = (bv c 32 + bv a 32 * bv b 32) % Ln := by
  rw [rMul_eq]
  have da := (dgS_dig a 32).1
  have db := (dgS_dig b 32).1
  have dc := (dgS_dig c 32).1
  rw [bv_byS (moS_dig (mrS_dig da db dc 16) _ _) (W := (bv c 32 + bv a 32 * bv b 32) % Ln)]
  · refine Nat.mod_eq_of_lt (Nat.lt_trans (Nat.mod_lt _ (by decide)) (by decide))
  rw [moS_16 (mrS_dig da db dc 16), mrS_val da db dc 16 (Nat.le_refl _)]
  have ea := dgS_val a 32
  have eb := dgS_val b 32
  have ec := dgS_val c 32
  rw [show (32 + 1) / 2 = 16 from rfl] at ea eb ec
  rw [ea, eb, ec]
  rfl
theorem mul_comm' (a b c : List UInt8) : rMul a b c = rMul b a c := bv_ext (rMul_length _ _ _) (rMul_length _ _ _) (by rw [bM, bM, Nat.mul_comm])
def zero32 : List UInt8 := List.replicate 32 0
theorem bv_zero : bv zero32 32 = 0 := by decide +kernel
theorem bv_one : bv (one32 (UInt8.ofNat 1)) 32 = 1 := by decide +kernel
theorem mul_one' {a : List UInt8} (ha : a.length = 32) : rMul a (one32 (UInt8.ofNat 1)) zero32 = rRed a := bv_ext (rMul_length _ _ _) (rRed_length _) (by rw [bM, bR, ha, bv_zero, bv_one, Nat.zero_add, Nat.mul_one])
theorem red_red {a : List UInt8} : rRed (rRed a) = rRed a := bv_ext (rRed_length _) (rRed_length _) (by rw [bR, rRed_length, bR, Nat.mod_mod])
theorem ring (a b c : List UInt8) : rMul a (rMul b (one32 (UInt8.ofNat 1)) c) zero32 = rMul a b (rMul a c zero32) := by
  refine bv_ext (rMul_length _ _ _) (rMul_length _ _ _) ?_
  rw [bM, bM, bM, bM, bv_zero, bv_one, Nat.mul_one, Nat.zero_add, Nat.zero_add]
  generalize bv a 32 = x
  generalize bv b 32 = y
  generalize bv c 32 = z
  rw [Nat.mul_mod, Nat.mod_mod, ← Nat.mul_mod, Nat.mul_add, Nat.add_mod ((x * z) % Ln), Nat.mod_mod, ← Nat.add_mod]

/-! The laws. -/


set_option maxRecDepth 100000 in
theorem fn3 (b : List UInt8) (n : Nat) (hb : b.length = n) : Sx.Fn Γ.P 3 [.isl 0 n 1 [(n * 1, .a8 b)]] [] (fun v _ => v = .tt) := by
  have h0 := fn8 b n hb
  have hl := rRed_length b
  refine fn_of (Γ := Γ) (fn := Try.f3) rfl rfl rfl rfl ?_
  refine Call.pure fn7 rfl trivial ?_
  intro v hv
  subst hv
  repeat (refine Side.intro (by repeat' (first | (show AllP _; first | exact trivial | refine AllP.app ?_ ?_ | refine AllP.appd ?_ ?_ | refine AllP.cons ?_ ?_) | with_reducible rfl | with_reducible assumption | omega | (simp only [rng, Ix.val, addQ_eq, addI, sz3, sz5, sz22, sz24, sz33, sz34, sz35, sz38, sz41, sz42, sz46] <;> omega) | (simp only [rng, Ix.val, Int.toNat_natCast, mulE_eq, addQ_eq, addI, Option.getD_none, Option.getD_some, List.length_take, List.length_drop, List.length_append, List.length_set, List.length_replicate, sz3, sz5, sz22, sz24, sz33, sz34, sz35, sz38, sz41, sz42, sz46, *] <;> omega) | (simp only [Ix.val]; with_reducible assumption) | exact UInt8.toNat_lt _ | (apply Eq.trans; (with_reducible assumption); exact rfl) | exact rfl | exact fun _ _ => rfl)) ?_)
  by_cases h64 : 64 < n
  · have hv : redV b n = .tup [.a8 (List.replicate 32 0), .ff] := if_pos h64
    rw [hv] at h0
    refine Call.name [(2000, [])] rfl trivial (CallP.intro h0 [(1000, (2000, 0, none))] rfl (by repeat' (first | (show AllP _; first | exact trivial | refine AllP.app ?_ ?_ | refine AllP.appd ?_ ?_ | refine AllP.cons ?_ ?_) | with_reducible rfl | with_reducible assumption | omega | (simp only [rng, Ix.val, addQ_eq, addI, sz3, sz5, sz22, sz24, sz33, sz34, sz35, sz38, sz41, sz42, sz46] <;> omega) | (simp only [rng, Ix.val, Int.toNat_natCast, mulE_eq, addQ_eq, addI, Option.getD_none, Option.getD_some, List.length_take, List.length_drop, List.length_append, List.length_set, List.length_replicate, sz3, sz5, sz22, sz24, sz33, sz34, sz35, sz38, sz41, sz42, sz46, *] <;> omega) | (simp only [Ix.val]; with_reducible assumption) | exact UInt8.toNat_lt _ | (apply Eq.trans; (with_reducible assumption); exact rfl) | exact rfl | exact fun _ _ => rfl)) rfl (by repeat' (first | (show AllP _; first | exact trivial | refine AllP.app ?_ ?_ | refine AllP.appd ?_ ?_ | refine AllP.cons ?_ ?_) | with_reducible rfl | with_reducible assumption | omega | (simp only [rng, Ix.val, addQ_eq, addI, sz3, sz5, sz22, sz24, sz33, sz34, sz35, sz38, sz41, sz42, sz46] <;> omega) | (simp only [rng, Ix.val, Int.toNat_natCast, mulE_eq, addQ_eq, addI, Option.getD_none, Option.getD_some, List.length_take, List.length_drop, List.length_append, List.length_set, List.length_replicate, sz3, sz5, sz22, sz24, sz33, sz34, sz35, sz38, sz41, sz42, sz46, *] <;> omega) | (simp only [Ix.val]; with_reducible assumption) | exact UInt8.toNat_lt _ | (apply Eq.trans; (with_reducible assumption); exact rfl) | exact rfl | exact fun _ _ => rfl)) rfl ?_)
    rintro v M' ⟨rfl, rfl⟩
    dsimp only [putT, afterM, newEnt, ren, renA, renS, renL, look, getM, getT, ev, evL, ofVal, cond_true, cond_false, Nat.beq_eq, act, isPar, ownPar, Ent.isOwn]
    repeat (refine Side.intro (by repeat' (first | (show AllP _; first | exact trivial | refine AllP.app ?_ ?_ | refine AllP.appd ?_ ?_ | refine AllP.cons ?_ ?_) | with_reducible rfl | with_reducible assumption | omega | (simp only [rng, Ix.val, addQ_eq, addI, sz3, sz5, sz22, sz24, sz33, sz34, sz35, sz38, sz41, sz42, sz46] <;> omega) | (simp only [rng, Ix.val, Int.toNat_natCast, mulE_eq, addQ_eq, addI, Option.getD_none, Option.getD_some, List.length_take, List.length_drop, List.length_append, List.length_set, List.length_replicate, sz3, sz5, sz22, sz24, sz33, sz34, sz35, sz38, sz41, sz42, sz46, *] <;> omega) | (simp only [Ix.val]; with_reducible assumption) | exact UInt8.toNat_lt _ | (apply Eq.trans; (with_reducible assumption); exact rfl) | exact rfl | exact fun _ _ => rfl)) ?_)
    refine Branch.intro (fun _ => ?_) (fun hn => absurd (show (n : Int) > 64 by omega) hn)
    repeat (refine Side.intro (by repeat' (first | (show AllP _; first | exact trivial | refine AllP.app ?_ ?_ | refine AllP.appd ?_ ?_ | refine AllP.cons ?_ ?_) | with_reducible rfl | with_reducible assumption | omega | (simp only [rng, Ix.val, addQ_eq, addI, sz3, sz5, sz22, sz24, sz33, sz34, sz35, sz38, sz41, sz42, sz46] <;> omega) | (simp only [rng, Ix.val, Int.toNat_natCast, mulE_eq, addQ_eq, addI, Option.getD_none, Option.getD_some, List.length_take, List.length_drop, List.length_append, List.length_set, List.length_replicate, sz3, sz5, sz22, sz24, sz33, sz34, sz35, sz38, sz41, sz42, sz46, *] <;> omega) | (simp only [Ix.val]; with_reducible assumption) | exact UInt8.toNat_lt _ | (apply Eq.trans; (with_reducible assumption); exact rfl) | exact rfl | exact fun _ _ => rfl)) ?_)
    refine Ret.intro .tt [] [] rfl trivial rfl rfl ?_ rfl trivial rfl
    · exact rfl
  · have hv : redV b n = .tup [.a8 (rRed b), .tt] := if_neg h64
    have h1 := fn9 b n hb (by omega)
    generalize rRed b = R at *
    rw [hv] at h0
    refine Call.name [(2000, [])] rfl trivial (CallP.intro h0 [(1000, (2000, 0, none))] rfl (by repeat' (first | (show AllP _; first | exact trivial | refine AllP.app ?_ ?_ | refine AllP.appd ?_ ?_ | refine AllP.cons ?_ ?_) | with_reducible rfl | with_reducible assumption | omega | (simp only [rng, Ix.val, addQ_eq, addI, sz3, sz5, sz22, sz24, sz33, sz34, sz35, sz38, sz41, sz42, sz46] <;> omega) | (simp only [rng, Ix.val, Int.toNat_natCast, mulE_eq, addQ_eq, addI, Option.getD_none, Option.getD_some, List.length_take, List.length_drop, List.length_append, List.length_set, List.length_replicate, sz3, sz5, sz22, sz24, sz33, sz34, sz35, sz38, sz41, sz42, sz46, *] <;> omega) | (simp only [Ix.val]; with_reducible assumption) | exact UInt8.toNat_lt _ | (apply Eq.trans; (with_reducible assumption); exact rfl) | exact rfl | exact fun _ _ => rfl)) rfl (by repeat' (first | (show AllP _; first | exact trivial | refine AllP.app ?_ ?_ | refine AllP.appd ?_ ?_ | refine AllP.cons ?_ ?_) | with_reducible rfl | with_reducible assumption | omega | (simp only [rng, Ix.val, addQ_eq, addI, sz3, sz5, sz22, sz24, sz33, sz34, sz35, sz38, sz41, sz42, sz46] <;> omega) | (simp only [rng, Ix.val, Int.toNat_natCast, mulE_eq, addQ_eq, addI, Option.getD_none, Option.getD_some, List.length_take, List.length_drop, List.length_append, List.length_set, List.length_replicate, sz3, sz5, sz22, sz24, sz33, sz34, sz35, sz38, sz41, sz42, sz46, *] <;> omega) | (simp only [Ix.val]; with_reducible assumption) | exact UInt8.toNat_lt _ | (apply Eq.trans; (with_reducible assumption); exact rfl) | exact rfl | exact fun _ _ => rfl)) rfl ?_)
    rintro v M' ⟨rfl, rfl⟩
    dsimp only [putT, afterM, newEnt, ren, renA, renS, renL, look, getM, getT, ev, evL, ofVal, cond_true, cond_false, Nat.beq_eq, act, isPar, ownPar, Ent.isOwn]
    repeat (refine Side.intro (by repeat' (first | (show AllP _; first | exact trivial | refine AllP.app ?_ ?_ | refine AllP.appd ?_ ?_ | refine AllP.cons ?_ ?_) | with_reducible rfl | with_reducible assumption | omega | (simp only [rng, Ix.val, addQ_eq, addI, sz3, sz5, sz22, sz24, sz33, sz34, sz35, sz38, sz41, sz42, sz46] <;> omega) | (simp only [rng, Ix.val, Int.toNat_natCast, mulE_eq, addQ_eq, addI, Option.getD_none, Option.getD_some, List.length_take, List.length_drop, List.length_append, List.length_set, List.length_replicate, sz3, sz5, sz22, sz24, sz33, sz34, sz35, sz38, sz41, sz42, sz46, *] <;> omega) | (simp only [Ix.val]; with_reducible assumption) | exact UInt8.toNat_lt _ | (apply Eq.trans; (with_reducible assumption); exact rfl) | exact rfl | exact fun _ _ => rfl)) ?_)
    refine Branch.intro (fun hn => absurd (show (n : Int) > 64 from hn) (by omega)) (fun _ => ?_)
    repeat (refine Side.intro (by repeat' (first | (show AllP _; first | exact trivial | refine AllP.app ?_ ?_ | refine AllP.appd ?_ ?_ | refine AllP.cons ?_ ?_) | with_reducible rfl | with_reducible assumption | omega | (simp only [rng, Ix.val, addQ_eq, addI, sz3, sz5, sz22, sz24, sz33, sz34, sz35, sz38, sz41, sz42, sz46] <;> omega) | (simp only [rng, Ix.val, Int.toNat_natCast, mulE_eq, addQ_eq, addI, Option.getD_none, Option.getD_some, List.length_take, List.length_drop, List.length_append, List.length_set, List.length_replicate, sz3, sz5, sz22, sz24, sz33, sz34, sz35, sz38, sz41, sz42, sz46, *] <;> omega) | (simp only [Ix.val]; with_reducible assumption) | exact UInt8.toNat_lt _ | (apply Eq.trans; (with_reducible assumption); exact rfl) | exact rfl | exact fun _ _ => rfl)) ?_)
    refine Draw.intro [[], [0], [0, 1], [0, 1], [0, 1, 3], [0, 1, 2, 3, 4], [0, 1, 2, 3, 4, 5], [0, 1, 2, 3, 4, 5, 6]] [0, 1, 2, 3, 4, 5, 6, 7] (by kernel_rfl) ?_
    repeat (refine Side.intro (by repeat' (first | (show AllP _; first | exact trivial | refine AllP.app ?_ ?_ | refine AllP.appd ?_ ?_ | refine AllP.cons ?_ ?_) | with_reducible rfl | with_reducible assumption | omega | (simp only [rng, Ix.val, addQ_eq, addI, sz3, sz5, sz22, sz24, sz33, sz34, sz35, sz38, sz41, sz42, sz46] <;> omega) | (simp only [rng, Ix.val, Int.toNat_natCast, mulE_eq, addQ_eq, addI, Option.getD_none, Option.getD_some, List.length_take, List.length_drop, List.length_append, List.length_set, List.length_replicate, sz3, sz5, sz22, sz24, sz33, sz34, sz35, sz38, sz41, sz42, sz46, *] <;> omega) | (simp only [Ix.val]; with_reducible assumption) | exact UInt8.toNat_lt _ | (apply Eq.trans; (with_reducible assumption); exact rfl) | exact rfl | exact fun _ _ => rfl)) ?_)
    refine Call.name [(2001, [])] rfl trivial (CallP.intro h1 [(1000, (2001, 0, none))] rfl (by repeat' (first | (show AllP _; first | exact trivial | refine AllP.app ?_ ?_ | refine AllP.appd ?_ ?_ | refine AllP.cons ?_ ?_) | with_reducible rfl | with_reducible assumption | omega | (simp only [rng, Ix.val, addQ_eq, addI, sz3, sz5, sz22, sz24, sz33, sz34, sz35, sz38, sz41, sz42, sz46] <;> omega) | (simp only [rng, Ix.val, Int.toNat_natCast, mulE_eq, addQ_eq, addI, Option.getD_none, Option.getD_some, List.length_take, List.length_drop, List.length_append, List.length_set, List.length_replicate, sz3, sz5, sz22, sz24, sz33, sz34, sz35, sz38, sz41, sz42, sz46, *] <;> omega) | (simp only [Ix.val]; with_reducible assumption) | exact UInt8.toNat_lt _ | (apply Eq.trans; (with_reducible assumption); exact rfl) | exact rfl | exact fun _ _ => rfl)) rfl (by repeat' (first | (show AllP _; first | exact trivial | refine AllP.app ?_ ?_ | refine AllP.appd ?_ ?_ | refine AllP.cons ?_ ?_) | with_reducible rfl | with_reducible assumption | omega | (simp only [rng, Ix.val, addQ_eq, addI, sz3, sz5, sz22, sz24, sz33, sz34, sz35, sz38, sz41, sz42, sz46] <;> omega) | (simp only [rng, Ix.val, Int.toNat_natCast, mulE_eq, addQ_eq, addI, Option.getD_none, Option.getD_some, List.length_take, List.length_drop, List.length_append, List.length_set, List.length_replicate, sz3, sz5, sz22, sz24, sz33, sz34, sz35, sz38, sz41, sz42, sz46, *] <;> omega) | (simp only [Ix.val]; with_reducible assumption) | exact UInt8.toNat_lt _ | (apply Eq.trans; (with_reducible assumption); exact rfl) | exact rfl | exact fun _ _ => rfl)) rfl ?_)
    rintro v M' ⟨rfl, rfl⟩
    refine Grow.intro [(2001, .mem false 1 [(n * 1, .a8 b)])] rfl rfl ?_
    dsimp only [putT, afterM, newEnt, ren, renA, renS, renL, look, getM, getT, ev, evL, ofVal, cond_true, cond_false, Nat.beq_eq, act, isPar, ownPar, Ent.isOwn]
    repeat (refine Side.intro (by repeat' (first | (show AllP _; first | exact trivial | refine AllP.app ?_ ?_ | refine AllP.appd ?_ ?_ | refine AllP.cons ?_ ?_) | with_reducible rfl | with_reducible assumption | omega | (simp only [rng, Ix.val, addQ_eq, addI, sz3, sz5, sz22, sz24, sz33, sz34, sz35, sz38, sz41, sz42, sz46] <;> omega) | (simp only [rng, Ix.val, Int.toNat_natCast, mulE_eq, addQ_eq, addI, Option.getD_none, Option.getD_some, List.length_take, List.length_drop, List.length_append, List.length_set, List.length_replicate, sz3, sz5, sz22, sz24, sz33, sz34, sz35, sz38, sz41, sz42, sz46, *] <;> omega) | (simp only [Ix.val]; with_reducible assumption) | exact UInt8.toNat_lt _ | (apply Eq.trans; (with_reducible assumption); exact rfl) | exact rfl | exact fun _ _ => rfl)) ?_)
    refine Ret.intro .tt [] [] rfl ?_ rfl rfl ?_ rfl trivial rfl
    · repeat' (first | (show AllP _; first | exact trivial | refine AllP.app ?_ ?_ | refine AllP.appd ?_ ?_ | refine AllP.cons ?_ ?_) | with_reducible rfl | with_reducible assumption | omega | (simp only [rng, Ix.val, addQ_eq, addI, sz3, sz5, sz22, sz24, sz33, sz34, sz35, sz38, sz41, sz42, sz46] <;> omega) | (simp only [rng, Ix.val, Int.toNat_natCast, mulE_eq, addQ_eq, addI, Option.getD_none, Option.getD_some, List.length_take, List.length_drop, List.length_append, List.length_set, List.length_replicate, sz3, sz5, sz22, sz24, sz33, sz34, sz35, sz38, sz41, sz42, sz46, *] <;> omega) | (simp only [Ix.val]; with_reducible assumption) | exact UInt8.toNat_lt _ | (apply Eq.trans; (with_reducible assumption); exact rfl) | exact rfl | exact fun _ _ => rfl)
    · exact rfl

theorem scalarReduces_runs (svs : List SV) (h : AllF [isSl8 1] svs) : Sx.Fn Γ.P 3 svs [] (fun v _ => v = .tt) := by
  match svs, h with
  | [_], ⟨⟨n, k, hk, _, rfl⟩, _⟩ => exact fn3 k n (by omega)

end Go.Proofs.Ytgfbclahkjdjeaa

namespace Go.Proofs.Ytgfbclahkjdjeaa
open Go Go.Sx


set_option maxRecDepth 100000 in
theorem fn4 (a b c : List UInt8) (ha : a.length = 32) (hb : b.length = 32) (hc : c.length = 32) : Sx.Fn Γ.P 4 [.a8 a, .a8 b, .a8 c] [] (fun v _ => v = .tt) := by
  have h0 := fn10 a b c ha hb hc
  have h1 := fn11 a b c ha hb hc
  have h2 := fn10 b a c hb ha hc
  rw [mul_comm' b a c] at h2
  have hl := rMul_length a b c
  generalize rMul a b c = R at *
  refine fn_of (Γ := Γ) (fn := Try.f4) rfl rfl rfl rfl ?_
  repeat (refine Side.intro (by repeat' (first | (show AllP _; first | exact trivial | refine AllP.app ?_ ?_ | refine AllP.appd ?_ ?_ | refine AllP.cons ?_ ?_) | with_reducible rfl | with_reducible assumption | omega | (simp only [rng, Ix.val, addQ_eq, addI, sz3, sz5, sz22, sz24, sz33, sz34, sz35, sz38, sz41, sz42, sz46] <;> omega) | (simp only [rng, Ix.val, Int.toNat_natCast, mulE_eq, addQ_eq, addI, Option.getD_none, Option.getD_some, List.length_take, List.length_drop, List.length_append, List.length_set, List.length_replicate, sz3, sz5, sz22, sz24, sz33, sz34, sz35, sz38, sz41, sz42, sz46, *] <;> omega) | (simp only [Ix.val]; with_reducible assumption) | exact UInt8.toNat_lt _ | (apply Eq.trans; (with_reducible assumption); exact rfl) | exact rfl | exact fun _ _ => rfl)) ?_)
  refine Call.pure fn7 rfl trivial ?_
  intro v hv
  subst hv
  repeat (refine Side.intro (by repeat' (first | (show AllP _; first | exact trivial | refine AllP.app ?_ ?_ | refine AllP.appd ?_ ?_ | refine AllP.cons ?_ ?_) | with_reducible rfl | with_reducible assumption | omega | (simp only [rng, Ix.val, addQ_eq, addI, sz3, sz5, sz22, sz24, sz33, sz34, sz35, sz38, sz41, sz42, sz46] <;> omega) | (simp only [rng, Ix.val, Int.toNat_natCast, mulE_eq, addQ_eq, addI, Option.getD_none, Option.getD_some, List.length_take, List.length_drop, List.length_append, List.length_set, List.length_replicate, sz3, sz5, sz22, sz24, sz33, sz34, sz35, sz38, sz41, sz42, sz46, *] <;> omega) | (simp only [Ix.val]; with_reducible assumption) | exact UInt8.toNat_lt _ | (apply Eq.trans; (with_reducible assumption); exact rfl) | exact rfl | exact fun _ _ => rfl)) ?_)
  refine Call.pure h0 rfl ?_ ?_
  · repeat' (first | (show AllP _; first | exact trivial | refine AllP.app ?_ ?_ | refine AllP.appd ?_ ?_ | refine AllP.cons ?_ ?_) | with_reducible rfl | with_reducible assumption | omega | (simp only [rng, Ix.val, addQ_eq, addI, sz3, sz5, sz22, sz24, sz33, sz34, sz35, sz38, sz41, sz42, sz46] <;> omega) | (simp only [rng, Ix.val, Int.toNat_natCast, mulE_eq, addQ_eq, addI, Option.getD_none, Option.getD_some, List.length_take, List.length_drop, List.length_append, List.length_set, List.length_replicate, sz3, sz5, sz22, sz24, sz33, sz34, sz35, sz38, sz41, sz42, sz46, *] <;> omega) | (simp only [Ix.val]; with_reducible assumption) | exact UInt8.toNat_lt _ | (apply Eq.trans; (with_reducible assumption); exact rfl) | exact rfl | exact fun _ _ => rfl)
  intro v hv
  subst hv
  repeat (refine Side.intro (by repeat' (first | (show AllP _; first | exact trivial | refine AllP.app ?_ ?_ | refine AllP.appd ?_ ?_ | refine AllP.cons ?_ ?_) | with_reducible rfl | with_reducible assumption | omega | (simp only [rng, Ix.val, addQ_eq, addI, sz3, sz5, sz22, sz24, sz33, sz34, sz35, sz38, sz41, sz42, sz46] <;> omega) | (simp only [rng, Ix.val, Int.toNat_natCast, mulE_eq, addQ_eq, addI, Option.getD_none, Option.getD_some, List.length_take, List.length_drop, List.length_append, List.length_set, List.length_replicate, sz3, sz5, sz22, sz24, sz33, sz34, sz35, sz38, sz41, sz42, sz46, *] <;> omega) | (simp only [Ix.val]; with_reducible assumption) | exact UInt8.toNat_lt _ | (apply Eq.trans; (with_reducible assumption); exact rfl) | exact rfl | exact fun _ _ => rfl)) ?_)
  refine Draw.intro [[], [], [], [], [1, 2, 3], [0, 1, 2, 3, 4], [0, 1, 2, 3, 4, 5], [0, 1, 2, 3, 4, 5, 6], [0, 1, 2, 3, 4, 5, 6], [0, 1, 2, 3, 4, 5, 6], [0, 1, 2, 3, 4, 5, 6], [0, 1, 2, 3, 4, 5, 6, 8, 9, 10], [0, 1, 2, 3, 4, 5, 6, 7, 8, 9, 10, 11], [0, 1, 2, 3, 4, 5, 6, 7, 8, 9, 10, 11, 12], [0, 1, 2, 3, 4, 5, 6, 7, 8, 9, 10, 11, 12, 13]] [0, 1, 2, 3, 4, 5, 6, 7, 8, 9, 10, 11, 12, 13, 14] (by kernel_rfl) ?_
  repeat (refine Side.intro (by repeat' (first | (show AllP _; first | exact trivial | refine AllP.app ?_ ?_ | refine AllP.appd ?_ ?_ | refine AllP.cons ?_ ?_) | with_reducible rfl | with_reducible assumption | omega | (simp only [rng, Ix.val, addQ_eq, addI, sz3, sz5, sz22, sz24, sz33, sz34, sz35, sz38, sz41, sz42, sz46] <;> omega) | (simp only [rng, Ix.val, Int.toNat_natCast, mulE_eq, addQ_eq, addI, Option.getD_none, Option.getD_some, List.length_take, List.length_drop, List.length_append, List.length_set, List.length_replicate, sz3, sz5, sz22, sz24, sz33, sz34, sz35, sz38, sz41, sz42, sz46, *] <;> omega) | (simp only [Ix.val]; with_reducible assumption) | exact UInt8.toNat_lt _ | (apply Eq.trans; (with_reducible assumption); exact rfl) | exact rfl | exact fun _ _ => rfl)) ?_)
  refine Call.pure h1 rfl ?_ ?_
  · repeat' (first | (show AllP _; first | exact trivial | refine AllP.app ?_ ?_ | refine AllP.appd ?_ ?_ | refine AllP.cons ?_ ?_) | with_reducible rfl | with_reducible assumption | omega | (simp only [rng, Ix.val, addQ_eq, addI, sz3, sz5, sz22, sz24, sz33, sz34, sz35, sz38, sz41, sz42, sz46] <;> omega) | (simp only [rng, Ix.val, Int.toNat_natCast, mulE_eq, addQ_eq, addI, Option.getD_none, Option.getD_some, List.length_take, List.length_drop, List.length_append, List.length_set, List.length_replicate, sz3, sz5, sz22, sz24, sz33, sz34, sz35, sz38, sz41, sz42, sz46, *] <;> omega) | (simp only [Ix.val]; with_reducible assumption) | exact UInt8.toNat_lt _ | (apply Eq.trans; (with_reducible assumption); exact rfl) | exact rfl | exact fun _ _ => rfl)
  intro v hv
  subst hv
  refine Grow.intro [] rfl rfl ?_
  dsimp only [putT, afterM, newEnt, ren, renA, renS, renL, look, getM, getT, ev, evL, ofVal, cond_true, cond_false, Nat.beq_eq, act, isPar, ownPar, Ent.isOwn]
  repeat (first | (refine Branch.intro (fun _ => ?_) (fun hn => absurd rfl hn)) | (refine Side.intro (by repeat' (first | (show AllP _; first | exact trivial | refine AllP.app ?_ ?_ | refine AllP.appd ?_ ?_ | refine AllP.cons ?_ ?_) | with_reducible rfl | with_reducible assumption | omega | (simp only [rng, Ix.val, addQ_eq, addI, sz3, sz5, sz22, sz24, sz33, sz34, sz35, sz38, sz41, sz42, sz46] <;> omega) | (simp only [rng, Ix.val, Int.toNat_natCast, mulE_eq, addQ_eq, addI, Option.getD_none, Option.getD_some, List.length_take, List.length_drop, List.length_append, List.length_set, List.length_replicate, sz3, sz5, sz22, sz24, sz33, sz34, sz35, sz38, sz41, sz42, sz46, *] <;> omega) | (simp only [Ix.val]; with_reducible assumption) | exact UInt8.toNat_lt _ | (apply Eq.trans; (with_reducible assumption); exact rfl) | exact rfl | exact fun _ _ => rfl)) ?_))
  refine Call.pure h2 rfl ?_ ?_
  · repeat' (first | (show AllP _; first | exact trivial | refine AllP.app ?_ ?_ | refine AllP.appd ?_ ?_ | refine AllP.cons ?_ ?_) | with_reducible rfl | with_reducible assumption | omega | (simp only [rng, Ix.val, addQ_eq, addI, sz3, sz5, sz22, sz24, sz33, sz34, sz35, sz38, sz41, sz42, sz46] <;> omega) | (simp only [rng, Ix.val, Int.toNat_natCast, mulE_eq, addQ_eq, addI, Option.getD_none, Option.getD_some, List.length_take, List.length_drop, List.length_append, List.length_set, List.length_replicate, sz3, sz5, sz22, sz24, sz33, sz34, sz35, sz38, sz41, sz42, sz46, *] <;> omega) | (simp only [Ix.val]; with_reducible assumption) | exact UInt8.toNat_lt _ | (apply Eq.trans; (with_reducible assumption); exact rfl) | exact rfl | exact fun _ _ => rfl)
  intro v hv
  subst hv
  refine Grow.intro [] rfl rfl ?_
  dsimp only [putT, afterM, newEnt, ren, renA, renS, renL, look, getM, getT, ev, evL, ofVal, cond_true, cond_false, Nat.beq_eq, act, isPar, ownPar, Ent.isOwn]
  repeat (first | (refine Branch.intro (fun _ => ?_) (fun hn => absurd rfl hn)) | (refine Side.intro (by repeat' (first | (show AllP _; first | exact trivial | refine AllP.app ?_ ?_ | refine AllP.appd ?_ ?_ | refine AllP.cons ?_ ?_) | with_reducible rfl | with_reducible assumption | omega | (simp only [rng, Ix.val, addQ_eq, addI, sz3, sz5, sz22, sz24, sz33, sz34, sz35, sz38, sz41, sz42, sz46] <;> omega) | (simp only [rng, Ix.val, Int.toNat_natCast, mulE_eq, addQ_eq, addI, Option.getD_none, Option.getD_some, List.length_take, List.length_drop, List.length_append, List.length_set, List.length_replicate, sz3, sz5, sz22, sz24, sz33, sz34, sz35, sz38, sz41, sz42, sz46, *] <;> omega) | (simp only [Ix.val]; with_reducible assumption) | exact UInt8.toNat_lt _ | (apply Eq.trans; (with_reducible assumption); exact rfl) | exact rfl | exact fun _ _ => rfl)) ?_))
  refine Ret.intro .tt [] [] rfl ?_ rfl rfl ?_ rfl trivial rfl
  · repeat' (first | (show AllP _; first | exact trivial | refine AllP.app ?_ ?_ | refine AllP.appd ?_ ?_ | refine AllP.cons ?_ ?_) | with_reducible rfl | with_reducible assumption | omega | (simp only [rng, Ix.val, addQ_eq, addI, sz3, sz5, sz22, sz24, sz33, sz34, sz35, sz38, sz41, sz42, sz46] <;> omega) | (simp only [rng, Ix.val, Int.toNat_natCast, mulE_eq, addQ_eq, addI, Option.getD_none, Option.getD_some, List.length_take, List.length_drop, List.length_append, List.length_set, List.length_replicate, sz3, sz5, sz22, sz24, sz33, sz34, sz35, sz38, sz41, sz42, sz46, *] <;> omega) | (simp only [Ix.val]; with_reducible assumption) | exact UInt8.toNat_lt _ | (apply Eq.trans; (with_reducible assumption); exact rfl) | exact rfl | exact fun _ _ => rfl)
  · exact AllP.cons (Or.inl ⟨rfl, rfl⟩) trivial

theorem isArr32 {svs : List SV} (h : AllF [isArr8 32, isArr8 32, isArr8 32] svs) : ∃ a b c : List UInt8, a.length = 32 ∧ b.length = 32 ∧ c.length = 32 ∧ svs = [.a8 a, .a8 b, .a8 c] := by
  match svs, h with
  | [_, _, _], ⟨⟨a, ha, rfl⟩, ⟨b, hb, rfl⟩, ⟨c, hc, rfl⟩, _⟩ => exact ⟨a, b, c, ha, hb, hc, rfl⟩

theorem scalarMulAdds_runs (svs : List SV) (h : AllF [isArr8 32, isArr8 32, isArr8 32] svs) : Sx.Fn Γ.P 4 svs [] (fun v _ => v = .tt) := by
  obtain ⟨a, b, c, ha, hb, hc, rfl⟩ := isArr32 h
  exact fn4 a b c ha hb hc

end Go.Proofs.Ytgfbclahkjdjeaa
