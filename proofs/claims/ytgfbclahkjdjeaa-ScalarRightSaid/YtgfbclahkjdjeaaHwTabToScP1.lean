/- What the functions of the program compute. No condition. -/
import Derived.Test.YtgfbclahkjdjeaaHx6
import Derived.Test.YtgfbclahkjdjeaaProg
import Derived.KernelRfl
set_option linter.unusedSimpArgs false
set_option linter.unusedVariables false
namespace Go.Proofs.Ytgfbclahkjdjeaa
open Go Go.Sx

def tys : List Ty := [
  badTy,
  badTy,
  ⟨.int .i64, 1, 8, [(1, .i .i64 0)]⟩,
  ⟨.int .i64, 1, 8, [(1, .i .i64 0)]⟩,
  ⟨.bool, 1, 1, [(1, .ff)]⟩,
  ⟨.int .u8, 1, 1, [(1, .u8 0)]⟩,
  ⟨.int .u8, 1, 1, [(1, .u8 0)]⟩,
  ⟨.struct [(0, 2), (1, 3), (2, 4), (3, 6)], 4, 24, [(1, .i .i64 0), (1, .i .i64 0), (1, .ff), (1, .u8 0)]⟩,
  ⟨.struct [(0, 2), (1, 3), (2, 4), (3, 6)], 4, 24, [(1, .i .i64 0), (1, .i .i64 0), (1, .ff), (1, .u8 0)]⟩,
  ⟨.string, 1, 16, [(1, .str [])]⟩,
  ⟨.string, 1, 16, [(1, .str [])]⟩,
  ⟨.string, 1, 16, [(1, .str [])]⟩,
  ⟨.int .u64, 1, 8, [(1, .u64 0)]⟩,
  ⟨.struct [(0, 9), (1, 12)], 2, 24, [(1, .str []), (1, .u64 0)]⟩,
  ⟨.struct [(0, 9), (1, 12)], 2, 24, [(1, .str []), (1, .u64 0)]⟩,
  ⟨.pointer 59, 1, 8, [(1, .nilp)]⟩,
  ⟨.pointer 62, 1, 8, [(1, .nilp)]⟩,
  ⟨.pointer 72, 1, 8, [(1, .nilp)]⟩,
  ⟨.struct [(0, 17)], 1, 8, [(1, .nilp)]⟩,
  ⟨.struct [(0, 17)], 1, 8, [(1, .nilp)]⟩,
  badTy,
  ⟨.int .i32, 1, 4, [(1, .i .i32 0)]⟩,
  ⟨.slice 5, 1, 24, [(1, .nsl)]⟩,
  badTy,
  ⟨.array 32 5, 32, 32, [(32, .a8 (List.replicate 32 0))]⟩,
  badTy,
  badTy,
  badTy,
  badTy,
  badTy,
  badTy,
  badTy,
  badTy,
  ⟨.int .u64, 1, 8, [(1, .u64 0)]⟩,
  ⟨.array 4 33, 4, 32, [(4, .a64 (List.replicate 4 0))]⟩,
  ⟨.array 4 33, 4, 32, [(4, .a64 (List.replicate 4 0))]⟩,
  badTy,
  badTy,
  ⟨.slice 3, 1, 24, [(1, .nsl)]⟩,
  badTy,
  badTy,
  ⟨.array 8 33, 8, 64, [(8, .a64 (List.replicate 8 0))]⟩,
  ⟨.slice 33, 1, 24, [(1, .nsl)]⟩,
  badTy,
  badTy,
  badTy,
  ⟨.array 64 5, 64, 64, [(64, .a8 (List.replicate 64 0))]⟩,
  badTy,
  badTy,
  badTy,
  ⟨.int .u64, 1, 8, [(1, .u64 0)]⟩,
  badTy,
  badTy,
  badTy,
  badTy,
  badTy,
  badTy,
  badTy,
  ⟨.struct [(0, 17), (1, 17), (2, 17), (3, 9)], 4, 40, [(1, .nilp), (1, .nilp), (1, .nilp), (1, .str [])]⟩,
  ⟨.struct [(0, 17), (1, 17), (2, 17), (3, 9)], 4, 40, [(1, .nilp), (1, .nilp), (1, .nilp), (1, .str [])]⟩,
  badTy,
  badTy,
  badTy,
  badTy,
  ⟨.int .u32, 1, 4, [(1, .u32 0)]⟩,
  ⟨.int .u8, 1, 1, [(1, .u8 0)]⟩,
  ⟨.int .u8, 1, 1, [(1, .u8 0)]⟩,
  badTy,
  ⟨.pointer 5, 1, 8, [(1, .nilp)]⟩,
  ⟨.int .i32, 1, 4, [(1, .i .i32 0)]⟩,
  ⟨.int .i32, 1, 4, [(1, .i .i32 0)]⟩,
  ⟨.struct [(0, 12), (1, 12), (2, 64), (3, 65), (4, 5), (5, 5), (6, 66), (7, 67), (8, 68), (9, 69), (10, 70)], 11, 48, [(1, .u64 0), (1, .u64 0), (1, .u32 0), (1, .u8 0), (1, .u8 0), (1, .u8 0), (1, .u8 0), (1, .raw .nilFunc), (1, .nilp), (1, .i .i32 0), (1, .i .i32 0)]⟩,
  ⟨.struct [(0, 12), (1, 12), (2, 64), (3, 65), (4, 5), (5, 5), (6, 66), (7, 67), (8, 68), (9, 69), (10, 70)], 11, 48, [(1, .u64 0), (1, .u64 0), (1, .u32 0), (1, .u8 0), (1, .u8 0), (1, .u8 0), (1, .u8 0), (1, .raw .nilFunc), (1, .nilp), (1, .i .i32 0), (1, .i .i32 0)]⟩]

noncomputable def cx : Ctx where
  P := Try.prog
  tys := tys
  chk := by kernel_rfl
  mixed := by kernel_rfl

theorem ext20 : ExtIs cx.P 20 .add64 := extIs_add (fn := Try.f20) rfl (by kernel_rfl) (by kernel_rfl) (by kernel_rfl) (by kernel_rfl)
theorem ext27 : ExtIs cx.P 27 .sub64 := extIs_sub (fn := Try.f27) rfl (by kernel_rfl) (by kernel_rfl) (by kernel_rfl) (by kernel_rfl)

noncomputable def Γ : Cfg where
  toCtx := cx
  calls := [7,8,9,10,11,12,13,14,15,16,17,18,19,21,22,23,24,25,26]
  callsOK := by kernel_rfl
  exts := [(20, .add64), (27, .sub64)]
  extsOK := by
    intro p hp
    simp only [List.mem_cons, List.not_mem_nil, or_false] at hp
    rcases hp with rfl | rfl
    · exact ext20
    · exact ext27

theorem sz2 : (Γ.ty 2).size = 1 := rfl
theorem sz3 : (Γ.ty 3).size = 1 := rfl
theorem sz4 : (Γ.ty 4).size = 1 := rfl
theorem sz5 : (Γ.ty 5).size = 1 := rfl
theorem sz6 : (Γ.ty 6).size = 1 := rfl
theorem sz7 : (Γ.ty 7).size = 4 := rfl
theorem sz8 : (Γ.ty 8).size = 4 := rfl
theorem sz9 : (Γ.ty 9).size = 1 := rfl
theorem sz10 : (Γ.ty 10).size = 1 := rfl
theorem sz11 : (Γ.ty 11).size = 1 := rfl
theorem sz12 : (Γ.ty 12).size = 1 := rfl
theorem sz13 : (Γ.ty 13).size = 2 := rfl
theorem sz14 : (Γ.ty 14).size = 2 := rfl
theorem sz15 : (Γ.ty 15).size = 1 := rfl
theorem sz16 : (Γ.ty 16).size = 1 := rfl
theorem sz17 : (Γ.ty 17).size = 1 := rfl
theorem sz18 : (Γ.ty 18).size = 1 := rfl
theorem sz19 : (Γ.ty 19).size = 1 := rfl
theorem sz21 : (Γ.ty 21).size = 1 := rfl
theorem sz22 : (Γ.ty 22).size = 1 := rfl
theorem sz24 : (Γ.ty 24).size = 32 := rfl
theorem sz33 : (Γ.ty 33).size = 1 := rfl
theorem sz34 : (Γ.ty 34).size = 4 := rfl
theorem sz35 : (Γ.ty 35).size = 4 := rfl
theorem sz38 : (Γ.ty 38).size = 1 := rfl
theorem sz41 : (Γ.ty 41).size = 8 := rfl
theorem sz42 : (Γ.ty 42).size = 1 := rfl
theorem sz46 : (Γ.ty 46).size = 64 := rfl
theorem sz50 : (Γ.ty 50).size = 1 := rfl
theorem sz58 : (Γ.ty 58).size = 4 := rfl
theorem sz59 : (Γ.ty 59).size = 4 := rfl
theorem sz64 : (Γ.ty 64).size = 1 := rfl
theorem sz65 : (Γ.ty 65).size = 1 := rfl
theorem sz66 : (Γ.ty 66).size = 1 := rfl
theorem sz68 : (Γ.ty 68).size = 1 := rfl
theorem sz69 : (Γ.ty 69).size = 1 := rfl
theorem sz70 : (Γ.ty 70).size = 1 := rfl
theorem sz71 : (Γ.ty 71).size = 11 := rfl
theorem sz72 : (Γ.ty 72).size = 11 := rfl

end Go.Proofs.Ytgfbclahkjdjeaa

namespace Go.Proofs.Ytgfbclahkjdjeaa
open Go Go.Sx

/-! Words: the order, the difference, the bytes. -/

def ordL : List UInt64 := [6346243789798364141, 1503914060200516822, 0, 1152921504606846976]

theorem fn23 : Sx.Fn Γ.P 23 [] [] (fun v _ => v = .a64 ordL) := by
  refine fn_of (Γ := Γ) (fn := Try.f23) rfl rfl rfl rfl ?_
  repeat (refine Side.intro (by repeat' (first | (show AllP _; first | exact trivial | refine AllP.app ?_ ?_ | refine AllP.appd ?_ ?_ | refine AllP.cons ?_ ?_) | with_reducible rfl | with_reducible assumption | omega | (simp only [rng, Ix.val, addQ_eq, addI, sz5, sz24, sz33, sz34, sz35] <;> omega) | (simp only [rng, Ix.val, Int.toNat_natCast, mulE_eq, addQ_eq, addI, Option.getD_none, Option.getD_some, List.length_take, List.length_drop, List.length_append, List.length_set, List.length_replicate, sz5, sz24, sz33, sz34, sz35, *] <;> omega) | (simp only [Ix.val]; with_reducible assumption) | exact UInt8.toNat_lt _ | (apply Eq.trans; (with_reducible assumption); exact rfl) | exact rfl | exact fun _ _ => rfl)) ?_)
  refine Ret.intro (.a64 ordL) [] [] rfl trivial rfl rfl ?_ rfl trivial rfl
  rfl

def lessS (a b : List UInt64) : Nat → List UInt64 × UInt64
  | 0 => (a, 0)
  | i + 1 => ((lessS a b i).1.set i (subS ((lessS a b i).1.getD i 0) (b.getD i 0) (lessS a b i).2), subC ((lessS a b i).1.getD i 0) (b.getD i 0) (lessS a b i).2)
theorem lessS_length {a b : List UInt64} (h : a.length = 4) : ∀ i, (lessS a b i).1.length = 4
  | 0 => h
  | i + 1 => by simp only [lessS, List.length_set, lessS_length h i]
theorem subC_le (x y c : UInt64) : (subC x y c).toNat ≤ 1 := by unfold subC; split <;> decide
theorem lessS_le (a b : List UInt64) : ∀ i, (lessS a b i).2.toNat ≤ 1
  | 0 => by show (0 : UInt64).toNat ≤ 1; decide
  | i + 1 => subC_le _ _ _

set_option maxRecDepth 100000 in
theorem fn22 (a b : List UInt64) (ha : a.length = 4) (hb : b.length = 4) : Sx.Fn Γ.P 22 [.a64 a, .a64 b] [] (fun v _ => v = .tup [.a64 (lessS a b 4).1, .bool ((lessS a b 4).2 = 1)]) := by
  refine fn_of (Γ := Γ) (fn := Try.f22) rfl rfl rfl rfl ?_
  repeat (refine Side.intro (by repeat' (first | (show AllP _; first | exact trivial | refine AllP.app ?_ ?_ | refine AllP.appd ?_ ?_ | refine AllP.cons ?_ ?_) | with_reducible rfl | with_reducible assumption | omega | (simp only [rng, Ix.val, addQ_eq, addI, sz5, sz24, sz33, sz34, sz35] <;> omega) | (simp only [rng, Ix.val, Int.toNat_natCast, mulE_eq, addQ_eq, addI, Option.getD_none, Option.getD_some, List.length_take, List.length_drop, List.length_append, List.length_set, List.length_replicate, sz5, sz24, sz33, sz34, sz35, *] <;> omega) | (simp only [Ix.val]; with_reducible assumption) | exact UInt8.toNat_lt _ | (apply Eq.trans; (with_reducible assumption); exact rfl) | exact rfl | exact fun _ _ => rfl)) ?_)
  refine Loop.intro (σ := Nat) (fun i => i ≤ 4)
    (fun i => ([(2, .ptr 2 0 none), (3, .ptr 3 0 none), (4, .ptr 4 0 none), (6, .u64 (lessS a b i).2), (8, .i .i64 i)],
      [(2, .mem true 0 [(4, .a64 (lessS a b i).1)]), (3, .mem true 0 [(4, .a64 b)]), (4, .mem true 0 [(4, .a64 (List.replicate 4 0))])])) (fun i => 4 - i) 0 (Nat.zero_le _) ?_ ?_
  · refine Le.intro [] rfl (by repeat' (first | (show AllP _; first | exact trivial | refine AllP.app ?_ ?_ | refine AllP.appd ?_ ?_ | refine AllP.cons ?_ ?_) | with_reducible rfl | with_reducible assumption | omega | (simp only [rng, Ix.val, addQ_eq, addI, sz5, sz24, sz33, sz34, sz35] <;> omega) | (simp only [rng, Ix.val, Int.toNat_natCast, mulE_eq, addQ_eq, addI, Option.getD_none, Option.getD_some, List.length_take, List.length_drop, List.length_append, List.length_set, List.length_replicate, sz5, sz24, sz33, sz34, sz35, *] <;> omega) | (simp only [Ix.val]; with_reducible assumption) | exact UInt8.toNat_lt _ | (apply Eq.trans; (with_reducible assumption); exact rfl) | exact rfl | exact fun _ _ => rfl)) rfl ?_ rfl
    repeat' (first | (show AllP _; first | exact trivial | refine AllP.app ?_ ?_ | refine AllP.appd ?_ ?_ | refine AllP.cons ?_ ?_) | with_reducible rfl | with_reducible assumption | omega | (simp only [rng, Ix.val, addQ_eq, addI, sz5, sz24, sz33, sz34, sz35] <;> omega) | (simp only [rng, Ix.val, Int.toNat_natCast, mulE_eq, addQ_eq, addI, Option.getD_none, Option.getD_some, List.length_take, List.length_drop, List.length_append, List.length_set, List.length_replicate, sz5, sz24, sz33, sz34, sz35, *] <;> omega) | (simp only [Ix.val]; with_reducible assumption) | exact UInt8.toNat_lt _ | (apply Eq.trans; (with_reducible assumption); exact rfl) | exact rfl | exact fun _ _ => rfl)
  rintro i hi
  have hl := lessS_length (b := b) ha i
  have hc1 := lessS_le a b i
  obtain ⟨X, hX⟩ : ∃ x, (lessS a b i).1 = x := ⟨_, rfl⟩
  obtain ⟨C, hC⟩ : ∃ x, (lessS a b i).2 = x := ⟨_, rfl⟩
  have hn1 : (lessS a b (i + 1)).1 = X.set i (subS (X.getD i 0) (b.getD i 0) C) := by rw [← hX, ← hC]; rfl
  have hn2 : (lessS a b (i + 1)).2 = subC (X.getD i 0) (b.getD i 0) C := by rw [← hX, ← hC]; rfl
  refine Branch.intro (fun hc => ?_) (fun hc => ?_)
  · have hc : (i : Int) < 4 := hc
    rw [hX, hC]
    rw [hX] at hl
    rw [hC] at hc1
    refine Draw.intro [[], [], [1], [1, 2], [], [4], [4, 5], [], [1, 2, 3, 4, 5, 6, 7], [1, 2, 3, 4, 5, 6, 7, 8], [1, 2, 3, 4, 5, 6, 7, 8, 9], [1, 2, 3, 4, 5, 6, 7, 8, 9], [0, 1, 2, 3, 4, 5, 6, 7, 8, 9, 10], [0, 1, 2, 3, 4, 5, 6, 7, 8, 9, 10, 12], [0, 1, 2, 3, 4, 5, 6, 7, 8, 9, 10, 11, 12, 13]] [0, 1, 2, 3, 4, 5, 6, 7, 8, 9, 10, 11, 12, 13, 14] (by kernel_rfl) ?_
    repeat (refine Side.intro (by repeat' (first | (show AllP _; first | exact trivial | refine AllP.app ?_ ?_ | refine AllP.appd ?_ ?_ | refine AllP.cons ?_ ?_) | with_reducible rfl | with_reducible assumption | omega | (simp only [rng, Ix.val, addQ_eq, addI, sz5, sz24, sz33, sz34, sz35] <;> omega) | (simp only [rng, Ix.val, Int.toNat_natCast, mulE_eq, addQ_eq, addI, Option.getD_none, Option.getD_some, List.length_take, List.length_drop, List.length_append, List.length_set, List.length_replicate, sz5, sz24, sz33, sz34, sz35, *] <;> omega) | (simp only [Ix.val]; with_reducible assumption) | exact UInt8.toNat_lt _ | (apply Eq.trans; (with_reducible assumption); exact rfl) | exact rfl | exact fun _ _ => rfl)) ?_)
    repeat (refine Side.intro (by repeat' (first | (show AllP _; first | exact trivial | refine AllP.app ?_ ?_ | refine AllP.appd ?_ ?_ | refine AllP.cons ?_ ?_) | with_reducible rfl | with_reducible assumption | omega | (simp only [rng, Ix.val, addQ_eq, addI, sz5, sz24, sz33, sz34, sz35] <;> omega) | (simp only [rng, Ix.val, Int.toNat_natCast, mulE_eq, addQ_eq, addI, Option.getD_none, Option.getD_some, List.length_take, List.length_drop, List.length_append, List.length_set, List.length_replicate, sz5, sz24, sz33, sz34, sz35, *] <;> omega) | (simp only [Ix.val]; with_reducible assumption) | exact UInt8.toNat_lt _ | (apply Eq.trans; (with_reducible assumption); exact rfl) | exact rfl | exact fun _ _ => rfl)) ?_)
    refine ⟨i + 1, by omega, by omega, Le.intro [] rfl (by repeat' (first | (show AllP _; first | exact trivial | refine AllP.app ?_ ?_ | refine AllP.appd ?_ ?_ | refine AllP.cons ?_ ?_) | with_reducible rfl | with_reducible assumption | omega | (simp only [rng, Ix.val, addQ_eq, addI, sz5, sz24, sz33, sz34, sz35] <;> omega) | (simp only [rng, Ix.val, Int.toNat_natCast, mulE_eq, addQ_eq, addI, Option.getD_none, Option.getD_some, List.length_take, List.length_drop, List.length_append, List.length_set, List.length_replicate, sz5, sz24, sz33, sz34, sz35, *] <;> omega) | (simp only [Ix.val]; with_reducible assumption) | exact UInt8.toNat_lt _ | (apply Eq.trans; (with_reducible assumption); exact rfl) | exact rfl | exact fun _ _ => rfl)) rfl ?_ rfl⟩
    repeat' (first | (show AllP _; first | exact trivial | refine AllP.app ?_ ?_ | refine AllP.appd ?_ ?_ | refine AllP.cons ?_ ?_) | with_reducible rfl | with_reducible assumption | omega | (simp only [rng, Ix.val, addQ_eq, addI, sz5, sz24, sz33, sz34, sz35] <;> omega) | (simp only [rng, Ix.val, Int.toNat_natCast, mulE_eq, addQ_eq, addI, Option.getD_none, Option.getD_some, List.length_take, List.length_drop, List.length_append, List.length_set, List.length_replicate, sz5, sz24, sz33, sz34, sz35, *] <;> omega) | (simp only [Ix.val]; with_reducible assumption) | exact UInt8.toNat_lt _ | (apply Eq.trans; (with_reducible assumption); exact rfl) | exact rfl | exact fun _ _ => rfl)
  · obtain rfl : i = 4 := by have hc : ¬ (i : Int) < 4 := hc; omega
    repeat (refine Side.intro (by repeat' (first | (show AllP _; first | exact trivial | refine AllP.app ?_ ?_ | refine AllP.appd ?_ ?_ | refine AllP.cons ?_ ?_) | with_reducible rfl | with_reducible assumption | omega | (simp only [rng, Ix.val, addQ_eq, addI, sz5, sz24, sz33, sz34, sz35] <;> omega) | (simp only [rng, Ix.val, Int.toNat_natCast, mulE_eq, addQ_eq, addI, Option.getD_none, Option.getD_some, List.length_take, List.length_drop, List.length_append, List.length_set, List.length_replicate, sz5, sz24, sz33, sz34, sz35, *] <;> omega) | (simp only [Ix.val]; with_reducible assumption) | exact UInt8.toNat_lt _ | (apply Eq.trans; (with_reducible assumption); exact rfl) | exact rfl | exact fun _ _ => rfl)) ?_)
    refine Ret.intro (.tup [.a64 (lessS a b 4).1, .bool ((lessS a b 4).2 = 1)]) [] [] rfl ?_ rfl rfl ?_ rfl trivial rfl
    · repeat' (first | (show AllP _; first | exact trivial | refine AllP.app ?_ ?_ | refine AllP.appd ?_ ?_ | refine AllP.cons ?_ ?_) | with_reducible rfl | with_reducible assumption | omega | (simp only [rng, Ix.val, addQ_eq, addI, sz5, sz24, sz33, sz34, sz35] <;> omega) | (simp only [rng, Ix.val, Int.toNat_natCast, mulE_eq, addQ_eq, addI, Option.getD_none, Option.getD_some, List.length_take, List.length_drop, List.length_append, List.length_set, List.length_replicate, sz5, sz24, sz33, sz34, sz35, *] <;> omega) | (simp only [Ix.val]; with_reducible assumption) | exact UInt8.toNat_lt _ | (apply Eq.trans; (with_reducible assumption); exact rfl) | exact rfl | exact fun _ _ => rfl)
    · repeat' (first | (show AllP _; first | exact trivial | refine AllP.app ?_ ?_ | refine AllP.appd ?_ ?_ | refine AllP.cons ?_ ?_) | with_reducible rfl | with_reducible assumption | omega | (simp only [rng, Ix.val, addQ_eq, addI, sz5, sz24, sz33, sz34, sz35] <;> omega) | (simp only [rng, Ix.val, Int.toNat_natCast, mulE_eq, addQ_eq, addI, Option.getD_none, Option.getD_some, List.length_take, List.length_drop, List.length_append, List.length_set, List.length_replicate, sz5, sz24, sz33, sz34, sz35, *] <;> omega) | (simp only [Ix.val]; with_reducible assumption) | exact UInt8.toNat_lt _ | (apply Eq.trans; (with_reducible assumption); exact rfl) | exact rfl | exact fun _ _ => rfl)
      exact Iff.rfl

def outS (a : List UInt64) : Nat → List UInt8
  | 0 => List.replicate 32 0
  | i + 1 => (outS a i).set i (shr64 (a.getD (i / 8) 0) (i % 8 * 8)).toUInt8
theorem outS_length (a : List UInt64) : ∀ i, (outS a i).length = 32
  | 0 => List.length_replicate
  | i + 1 => by simp only [outS, List.length_set, outS_length a i]

set_option maxRecDepth 100000 in
theorem fn14 (a : List UInt64) (ha : a.length = 4) : Sx.Fn Γ.P 14 [.a64 a] [] (fun v _ => v = .a8 (outS a 32)) := by
  refine fn_of (Γ := Γ) (fn := Try.f14) rfl rfl rfl rfl ?_
  repeat (refine Side.intro (by repeat' (first | (show AllP _; first | exact trivial | refine AllP.app ?_ ?_ | refine AllP.appd ?_ ?_ | refine AllP.cons ?_ ?_) | with_reducible rfl | with_reducible assumption | omega | (simp only [rng, Ix.val, addQ_eq, addI, sz5, sz24, sz33, sz34, sz35] <;> omega) | (simp only [rng, Ix.val, Int.toNat_natCast, mulE_eq, addQ_eq, addI, Option.getD_none, Option.getD_some, List.length_take, List.length_drop, List.length_append, List.length_set, List.length_replicate, sz5, sz24, sz33, sz34, sz35, *] <;> omega) | (simp only [Ix.val]; with_reducible assumption) | exact UInt8.toNat_lt _ | (apply Eq.trans; (with_reducible assumption); exact rfl) | exact rfl | exact fun _ _ => rfl)) ?_)
  refine Loop.intro (σ := Nat) (fun i => i ≤ 32)
    (fun i => ([(1, .ptr 1 0 none), (2, .ptr 2 0 none), (3, .ptr 3 0 none), (5, .i .i64 i)],
      [(1, .mem true 0 [(4, .a64 a)]), (2, .mem true 0 [(32, .a8 (List.replicate 32 0))]), (3, .mem true 0 [(32, .a8 (outS a i))])])) (fun i => 32 - i) 0 (Nat.zero_le _) ?_ ?_
  · refine Le.intro [] rfl (by repeat' (first | (show AllP _; first | exact trivial | refine AllP.app ?_ ?_ | refine AllP.appd ?_ ?_ | refine AllP.cons ?_ ?_) | with_reducible rfl | with_reducible assumption | omega | (simp only [rng, Ix.val, addQ_eq, addI, sz5, sz24, sz33, sz34, sz35] <;> omega) | (simp only [rng, Ix.val, Int.toNat_natCast, mulE_eq, addQ_eq, addI, Option.getD_none, Option.getD_some, List.length_take, List.length_drop, List.length_append, List.length_set, List.length_replicate, sz5, sz24, sz33, sz34, sz35, *] <;> omega) | (simp only [Ix.val]; with_reducible assumption) | exact UInt8.toNat_lt _ | (apply Eq.trans; (with_reducible assumption); exact rfl) | exact rfl | exact fun _ _ => rfl)) rfl ?_ rfl
    repeat' (first | (show AllP _; first | exact trivial | refine AllP.app ?_ ?_ | refine AllP.appd ?_ ?_ | refine AllP.cons ?_ ?_) | with_reducible rfl | with_reducible assumption | omega | (simp only [rng, Ix.val, addQ_eq, addI, sz5, sz24, sz33, sz34, sz35] <;> omega) | (simp only [rng, Ix.val, Int.toNat_natCast, mulE_eq, addQ_eq, addI, Option.getD_none, Option.getD_some, List.length_take, List.length_drop, List.length_append, List.length_set, List.length_replicate, sz5, sz24, sz33, sz34, sz35, *] <;> omega) | (simp only [Ix.val]; with_reducible assumption) | exact UInt8.toNat_lt _ | (apply Eq.trans; (with_reducible assumption); exact rfl) | exact rfl | exact fun _ _ => rfl)
  rintro i hi
  have hl := outS_length a i
  have hn : outS a (i + 1) = (outS a i).set i (shr64 (a.getD (i / 8) 0) (i % 8 * 8)).toUInt8 := rfl
  refine Branch.intro (fun hc => ?_) (fun hc => ?_)
  · have hc : (i : Int) < 32 := hc
    have e1 : ((i : Int) / 8).toNat = i / 8 := by omega
    have e2 : ((i : Int) % 8 * 8).toNat = i % 8 * 8 := by omega
    repeat (refine Side.intro (by repeat' (first | (show AllP _; first | exact trivial | refine AllP.app ?_ ?_ | refine AllP.appd ?_ ?_ | refine AllP.cons ?_ ?_) | with_reducible rfl | with_reducible assumption | omega | (simp only [e1, e2, rng, Ix.val, addQ_eq, addI, sz5, sz24, sz33, sz34, sz35] <;> omega) | (simp only [e1, e2, rng, Ix.val, Int.toNat_natCast, mulE_eq, addQ_eq, addI, Option.getD_none, Option.getD_some, List.length_take, List.length_drop, List.length_append, List.length_set, List.length_replicate, sz5, sz24, sz33, sz34, sz35, *] <;> omega) | (simp only [Ix.val]; with_reducible assumption) | exact UInt8.toNat_lt _ | (apply Eq.trans; (with_reducible assumption); exact rfl) | exact rfl | exact fun _ _ => rfl)) ?_)
    refine ⟨i + 1, by omega, by omega, Le.intro [] rfl (by repeat' (first | (show AllP _; first | exact trivial | refine AllP.app ?_ ?_ | refine AllP.appd ?_ ?_ | refine AllP.cons ?_ ?_) | with_reducible rfl | with_reducible assumption | omega | (simp only [rng, Ix.val, addQ_eq, addI, sz5, sz24, sz33, sz34, sz35] <;> omega) | (simp only [rng, Ix.val, Int.toNat_natCast, mulE_eq, addQ_eq, addI, Option.getD_none, Option.getD_some, List.length_take, List.length_drop, List.length_append, List.length_set, List.length_replicate, sz5, sz24, sz33, sz34, sz35, *] <;> omega) | (simp only [Ix.val]; with_reducible assumption) | exact UInt8.toNat_lt _ | (apply Eq.trans; (with_reducible assumption); exact rfl) | exact rfl | exact fun _ _ => rfl)) rfl ?_ rfl⟩
    repeat' (first | (show AllP _; first | exact trivial | refine AllP.app ?_ ?_ | refine AllP.appd ?_ ?_ | refine AllP.cons ?_ ?_) | with_reducible rfl | with_reducible assumption | omega | (simp only [e1, e2, rng, Ix.val, addQ_eq, addI, sz5, sz24, sz33, sz34, sz35] <;> omega) | (simp only [e1, e2, rng, Ix.val, Int.toNat_natCast, mulE_eq, addQ_eq, addI, Option.getD_none, Option.getD_some, List.length_take, List.length_drop, List.length_append, List.length_set, List.length_replicate, sz5, sz24, sz33, sz34, sz35, *] <;> omega) | (simp only [Ix.val]; with_reducible assumption) | exact UInt8.toNat_lt _ | (apply Eq.trans; (with_reducible assumption); exact rfl) | exact rfl | exact fun _ _ => rfl)
  · obtain rfl : i = 32 := by have hc : ¬ (i : Int) < 32 := hc; omega
    repeat (refine Side.intro (by repeat' (first | (show AllP _; first | exact trivial | refine AllP.app ?_ ?_ | refine AllP.appd ?_ ?_ | refine AllP.cons ?_ ?_) | with_reducible rfl | with_reducible assumption | omega | (simp only [rng, Ix.val, addQ_eq, addI, sz5, sz24, sz33, sz34, sz35] <;> omega) | (simp only [rng, Ix.val, Int.toNat_natCast, mulE_eq, addQ_eq, addI, Option.getD_none, Option.getD_some, List.length_take, List.length_drop, List.length_append, List.length_set, List.length_replicate, sz5, sz24, sz33, sz34, sz35, *] <;> omega) | (simp only [Ix.val]; with_reducible assumption) | exact UInt8.toNat_lt _ | (apply Eq.trans; (with_reducible assumption); exact rfl) | exact rfl | exact fun _ _ => rfl)) ?_)
    refine Ret.intro (.a8 (outS a 32)) [] [] rfl ?_ rfl rfl ?_ rfl trivial rfl
    · repeat' (first | (show AllP _; first | exact trivial | refine AllP.app ?_ ?_ | refine AllP.appd ?_ ?_ | refine AllP.cons ?_ ?_) | with_reducible rfl | with_reducible assumption | omega | (simp only [rng, Ix.val, addQ_eq, addI, sz5, sz24, sz33, sz34, sz35] <;> omega) | (simp only [rng, Ix.val, Int.toNat_natCast, mulE_eq, addQ_eq, addI, Option.getD_none, Option.getD_some, List.length_take, List.length_drop, List.length_append, List.length_set, List.length_replicate, sz5, sz24, sz33, sz34, sz35, *] <;> omega) | (simp only [Ix.val]; with_reducible assumption) | exact UInt8.toNat_lt _ | (apply Eq.trans; (with_reducible assumption); exact rfl) | exact rfl | exact fun _ _ => rfl)
    · repeat' (first | (show AllP _; first | exact trivial | refine AllP.app ?_ ?_ | refine AllP.appd ?_ ?_ | refine AllP.cons ?_ ?_) | with_reducible rfl | with_reducible assumption | omega | (simp only [rng, Ix.val, addQ_eq, addI, sz5, sz24, sz33, sz34, sz35] <;> omega) | (simp only [rng, Ix.val, Int.toNat_natCast, mulE_eq, addQ_eq, addI, Option.getD_none, Option.getD_some, List.length_take, List.length_drop, List.length_append, List.length_set, List.length_replicate, sz5, sz24, sz33, sz34, sz35, *] <;> omega) | (simp only [Ix.val]; with_reducible assumption) | exact UInt8.toNat_lt _ | (apply Eq.trans; (with_reducible assumption); exact rfl) | exact rfl | exact fun _ _ => rfl)

/-! The product of two words. -/

def muT (x y : UInt64) : UInt64 := shr64 x 32 * (y &&& UInt64.ofNat 4294967295) + shr64 ((x &&& UInt64.ofNat 4294967295) * (y &&& UInt64.ofNat 4294967295)) 32
def muH (x y : UInt64) : UInt64 := shr64 x 32 * shr64 y 32 + shr64 (muT x y) 32 + shr64 ((muT x y &&& UInt64.ofNat 4294967295) + (x &&& UInt64.ofNat 4294967295) * shr64 y 32) 32

set_option maxRecDepth 100000 in
theorem fn19 (x y : UInt64) : Sx.Fn Γ.P 19 [.u64 x, .u64 y] [] (fun v _ => v = .tup [.u64 (muH x y), .u64 (x * y)]) := by
  refine fn_of (Γ := Γ) (fn := Try.f19) rfl rfl rfl rfl ?_
  repeat (refine Side.intro (by repeat' (first | (show AllP _; first | exact trivial | refine AllP.app ?_ ?_ | refine AllP.appd ?_ ?_ | refine AllP.cons ?_ ?_) | with_reducible rfl | with_reducible assumption | omega | (simp only [rng, Ix.val, addQ_eq, addI, sz5, sz24, sz33, sz34, sz35] <;> omega) | (simp only [rng, Ix.val, Int.toNat_natCast, mulE_eq, addQ_eq, addI, Option.getD_none, Option.getD_some, List.length_take, List.length_drop, List.length_append, List.length_set, List.length_replicate, sz5, sz24, sz33, sz34, sz35, *] <;> omega) | (simp only [Ix.val]; with_reducible assumption) | exact UInt8.toNat_lt _ | (apply Eq.trans; (with_reducible assumption); exact rfl) | exact rfl | exact fun _ _ => rfl)) ?_)
  refine Ret.intro (.tup [.u64 (muH x y), .u64 (x * y)]) [] [] rfl trivial rfl rfl ?_ rfl trivial rfl
  repeat' (first | (show AllP _; first | exact trivial | refine AllP.app ?_ ?_ | refine AllP.appd ?_ ?_ | refine AllP.cons ?_ ?_) | with_reducible rfl | with_reducible assumption | omega | (simp only [rng, Ix.val, addQ_eq, addI, sz5, sz24, sz33, sz34, sz35] <;> omega) | (simp only [rng, Ix.val, Int.toNat_natCast, mulE_eq, addQ_eq, addI, Option.getD_none, Option.getD_some, List.length_take, List.length_drop, List.length_append, List.length_set, List.length_replicate, sz5, sz24, sz33, sz34, sz35, *] <;> omega) | (simp only [Ix.val]; with_reducible assumption) | exact UInt8.toNat_lt _ | (apply Eq.trans; (with_reducible assumption); exact rfl) | exact rfl | exact fun _ _ => rfl)

end Go.Proofs.Ytgfbclahkjdjeaa

namespace Go.Proofs.Ytgfbclahkjdjeaa
open Go Go.Sx

/-! Digits to the base 65536: plain. -/

def dv (l : List Int) : Nat → Int
  | 0 => 0
  | n + 1 => dv l n + l.getD n 0 * 65536 ^ n

def Dig (l : List Int) : Prop := ∀ i, 0 ≤ l.getD i 0 ∧ l.getD i 0 < 65536

theorem getD_set_self {α : Type} {l : List α} {i : Nat} {x d : α} (h : i < l.length) : (l.set i x).getD i d = x := by
  rw [List.getD_eq_getElem?_getD, List.getElem?_set_self h]; rfl
theorem getD_set_other {α : Type} {l : List α} {i j : Nat} {x d : α} (h : i ≠ j) : (l.set i x).getD j d = l.getD j d := by
  rw [List.getD_eq_getElem?_getD, List.getElem?_set_ne h, ← List.getD_eq_getElem?_getD]
theorem getD_out {α : Type} {l : List α} {i : Nat} {d : α} (h : l.length ≤ i) : l.getD i d = d := by
  rw [List.getD_eq_getElem?_getD, List.getElem?_eq_none h]; rfl

theorem Dig.set {l : List Int} (h : Dig l) {i : Nat} {x : Int} (h0 : 0 ≤ x) (h1 : x < 65536) : Dig (l.set i x) := by
  intro j
  by_cases hj : i = j
  · subst hj
    rcases Nat.lt_or_ge i l.length with hl | hl
    · rw [getD_set_self hl]; exact ⟨h0, h1⟩
    · rw [List.set_eq_of_length_le hl]; exact h i
  · rw [getD_set_other hj]; exact h j
theorem Dig.rep (n : Nat) : Dig (List.replicate n 0) := by
  intro j
  rw [List.getD_eq_getElem?_getD, List.getElem?_replicate]
  split <;> decide

theorem dv_congr {l m : List Int} : ∀ {n : Nat}, (∀ i, i < n → l.getD i 0 = m.getD i 0) → dv l n = dv m n
  | 0, _ => rfl
  | n + 1, h => by simp only [dv]; rw [dv_congr fun i hi => h i (by omega), h n (by omega)]
theorem dv_set_ge {l : List Int} {i n : Nat} {x : Int} (h : n ≤ i) : dv (l.set i x) n = dv l n :=
  dv_congr fun j hj => getD_set_other (by omega)
theorem dv_set_last {l : List Int} {i : Nat} {x : Int} (h : i < l.length) : dv (l.set i x) (i + 1) = dv l i + x * 65536 ^ i := by
  simp only [dv]; rw [dv_set_ge (Nat.le_refl _), getD_set_self h]
theorem pw_pos (n : Nat) : (0 : Int) < 65536 ^ n := Int.pow_pos (by decide)
theorem dv_bound {l : List Int} (h : Dig l) : ∀ n, 0 ≤ dv l n ∧ dv l n < 65536 ^ n
  | 0 => ⟨Int.le_refl _, by show (0 : Int) < 1; decide⟩
  | n + 1 => by
    obtain ⟨h1, h2⟩ := dv_bound h n
    obtain ⟨h3, h4⟩ := h n
    have hp := pw_pos n
    have h5 : 0 ≤ l.getD n 0 * 65536 ^ n := Int.mul_nonneg h3 (by omega)
    have h6 : l.getD n 0 * 65536 ^ n ≤ 65535 * 65536 ^ n := Int.mul_le_mul_of_nonneg_right (by omega) (by omega)
    simp only [dv]
    rw [Int.pow_succ]
    omega
theorem dv_split {l : List Int} {a : Nat} : ∀ {b : Nat}, a ≤ b → (∀ i, a ≤ i → i < b → l.getD i 0 = 0) → dv l b = dv l a
  | 0, h, _ => by obtain rfl : a = 0 := by omega
                  rfl
  | b + 1, h, hz => by
    by_cases hab : a = b + 1
    · rw [hab]
    · simp only [dv]
      rw [dv_split (by omega) fun i h1 h2 => hz i h1 (by omega), hz b (by omega) (by omega)]
      omega

/-- Digits that are alike have one number, and the other way round. -/
theorem dv_inj {l m : List Int} (hl : Dig l) (hm : Dig m) : ∀ {n : Nat}, dv l n = dv m n → ∀ i, i < n → l.getD i 0 = m.getD i 0
  | 0, _, _, h => absurd h (Nat.not_lt_zero _)
  | n + 1, h, i, hi => by
    have hp := pw_pos n
    obtain ⟨a1, a2⟩ := dv_bound hl n
    obtain ⟨b1, b2⟩ := dv_bound hm n
    simp only [dv] at h
    have e : l.getD n 0 = m.getD n 0 := by
      have h1 : (dv l n + l.getD n 0 * 65536 ^ n) / 65536 ^ n = l.getD n 0 := by
        rw [Int.add_mul_ediv_right _ _ (by omega), Int.ediv_eq_zero_of_lt a1 a2, Int.zero_add]
      have h2 : (dv m n + m.getD n 0 * 65536 ^ n) / 65536 ^ n = m.getD n 0 := by
        rw [Int.add_mul_ediv_right _ _ (by omega), Int.ediv_eq_zero_of_lt b1 b2, Int.zero_add]
      rw [← h1, ← h2, h]
    rw [e] at h
    have h' : dv l n = dv m n := by omega
    rcases Nat.lt_or_ge i n with h1 | h1
    · exact dv_inj hl hm h' i h1
    · obtain rfl : i = n := by omega
      exact e

/-- The greatest digit that differs decides. -/
theorem dv_lt {a b : List Int} (ha : Dig a) (hb : Dig b) {n i : Nat} (hi : i < n) (hd : a.getD i 0 < b.getD i 0) (hs : ∀ j, i < j → j < n → a.getD j 0 = b.getD j 0) : dv a n < dv b n := by
  induction n with
  | zero => omega
  | succ n ih =>
    simp only [dv]
    by_cases h : i = n
    · subst h
      obtain ⟨a1, a2⟩ := dv_bound ha i
      obtain ⟨b1, b2⟩ := dv_bound hb i
      have hp := pw_pos i
      have : (a.getD i 0 + 1) * 65536 ^ i ≤ b.getD i 0 * 65536 ^ i := Int.mul_le_mul_of_nonneg_right (by omega) (by omega)
      rw [Int.add_mul] at this
      omega
    · have h1 := ih (by omega) fun j h2 h3 => hs j h2 (by omega)
      rw [hs n (by omega) (by omega)]
      omega

/-! Doubling. -/

def dbS (l : List Int) : Nat → List Int × Int
  | 0 => (l, 0)
  | i + 1 => ((dbS l i).1.set i (((dbS l i).2 + 2 * (dbS l i).1.getD i 0) % 65536), ((dbS l i).2 + 2 * (dbS l i).1.getD i 0) / 65536)
theorem dbS_length (l : List Int) : ∀ i, (dbS l i).1.length = l.length
  | 0 => rfl
  | i + 1 => by simp only [dbS, List.length_set, dbS_length l i]
theorem dbS_old (l : List Int) : ∀ i j, i ≤ j → (dbS l i).1.getD j 0 = l.getD j 0
  | 0, _, _ => rfl
  | i + 1, j, h => by simp only [dbS]; rw [getD_set_other (by omega), dbS_old l i j (by omega)]
theorem dbS_dig {l : List Int} (h : Dig l) : ∀ i, Dig (dbS l i).1 ∧ 0 ≤ (dbS l i).2 ∧ (dbS l i).2 ≤ 1
  | 0 => ⟨h, Int.le_refl _, by show (0 : Int) ≤ 1; decide⟩
  | i + 1 => by
    obtain ⟨h1, h2, h3⟩ := dbS_dig h i
    obtain ⟨h4, h5⟩ := h1 i
    refine ⟨h1.set ?_ ?_, ?_, ?_⟩
    · omega
    · omega
    · show 0 ≤ ((dbS l i).2 + 2 * (dbS l i).1.getD i 0) / 65536; omega
    · show ((dbS l i).2 + 2 * (dbS l i).1.getD i 0) / 65536 ≤ 1; omega
theorem dbS_val (l : List Int) : ∀ i, i ≤ l.length → dv (dbS l i).1 i + (dbS l i).2 * 65536 ^ i = 2 * dv l i
  | 0, _ => by simp only [dbS, dv]; omega
  | i + 1, hi => by
    have ih := dbS_val l i (by omega)
    have hs := dbS_old l i i (Nat.le_refl _)
    have hl := dbS_length l i
    simp only [dbS]
    rw [dv_set_last (by omega)]
    simp only [dv]
    rw [hs]
    have e : ((dbS l i).2 + 2 * l.getD i 0) % 65536 + 65536 * (((dbS l i).2 + 2 * l.getD i 0) / 65536) = (dbS l i).2 + 2 * l.getD i 0 := Int.emod_add_mul_ediv _ _
    rw [Int.pow_succ]
    generalize ((dbS l i).2 + 2 * l.getD i 0) % 65536 = m at *
    generalize ((dbS l i).2 + 2 * l.getD i 0) / 65536 = q at *
    generalize (65536 : Int) ^ i = p at *
    have e2 : m * p + q * (p * 65536) = ((dbS l i).2 + 2 * l.getD i 0) * p := by rw [← e, Int.add_mul, Int.mul_comm p, ← Int.mul_assoc, Int.mul_comm q]
    rw [Int.add_mul, Int.mul_assoc 2] at e2
    omega

def ordB : List Int := [0xd3ed, 0x5cf5, 0x631a, 0x5812, 0x9cd6, 0xa2f7, 0xf9de, 0x14de, 0, 0, 0, 0, 0, 0, 0, 0x1000, 0]
def ordD : Nat → List Int
  | 0 => ordB
  | k + 1 => (dbS (ordD k) 17).1
def Lz : Int := 7237005577332262213973186563042994240857116359379907606001950938285454250989
theorem ordD_length : ∀ k, (ordD k).length = 17
  | 0 => rfl
  | k + 1 => by simp only [ordD, dbS_length, ordD_length k]
theorem ordB_dig : Dig ordB := by
  intro i
  rcases Nat.lt_or_ge i 17 with h | h
  · have : ∀ i, i < 17 → 0 ≤ ordB.getD i 0 ∧ ordB.getD i 0 < 65536 := by decide
    exact this i h
  · rw [getD_out (by exact h)]; decide
theorem ordD_dig : ∀ k, Dig (ordD k)
  | 0 => ordB_dig
  | k + 1 => (dbS_dig (ordD_dig k) 17).1
theorem ordD_val : ∀ k, k ≤ 15 → dv (ordD k) 17 = Lz * 2 ^ k
  | 0, _ => by decide +kernel
  | k + 1, h => by
    have ih := ordD_val k (by omega)
    have hv := dbS_val (ordD k) 17 (by rw [ordD_length]; omega)
    obtain ⟨hd, hc0, hc1⟩ := dbS_dig (ordD_dig k) 17
    obtain ⟨hb0, hb1⟩ := dv_bound hd 17
    rw [ih] at hv
    have hp : (2 : Int) ^ k ≤ 2 ^ 14 := by
      have : (2 : Nat) ^ k ≤ 2 ^ 14 := Nat.pow_le_pow_right (by decide) (by omega)
      exact_mod_cast this
    have hL : Lz * 2 ^ k ≤ Lz * 2 ^ 14 := Int.mul_le_mul_of_nonneg_left hp (by decide)
    have hbig : 2 * (Lz * 2 ^ 14) < 65536 ^ 17 := by decide +kernel
    have hc : (dbS (ordD k) 17).2 = 0 := by
      rcases Int.lt_or_le (dbS (ordD k) 17).2 1 with h1 | h1
      · omega
      · have : (dbS (ordD k) 17).2 = 1 := by omega
        rw [this] at hv
        omega
    rw [hc, Int.zero_mul, Int.add_zero] at hv
    show dv (dbS (ordD k) 17).1 17 = _
    rw [hv, Int.pow_succ]
    generalize (2 : Int) ^ k = q
    rw [Int.mul_comm q 2, ← Int.mul_assoc, ← Int.mul_assoc, Int.mul_comm 2 Lz]

end Go.Proofs.Ytgfbclahkjdjeaa
