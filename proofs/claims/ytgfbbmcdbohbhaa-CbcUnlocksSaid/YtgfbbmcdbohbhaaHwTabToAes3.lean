/- What the functions of the program compute. No condition. -/
import Derived.Test.YtgfbbmcdbohbhaaHx6
import Derived.Test.YtgfbbmcdbohbhaaProg
import Derived.KernelRfl
set_option linter.unusedSimpArgs false
set_option linter.unusedVariables false
namespace Go.Proofs.Ytgfbbmcdbohbhaa
open Go Go.Sx

def tys : List Ty := [
  badTy,
  badTy,
  ⟨.int .i64, 1, 8, [(1, .i .i64 0)]⟩,
  ⟨.int .i64, 1, 8, [(1, .i .i64 0)]⟩,
  ⟨.bool, 1, 1, [(1, .ff)]⟩,
  ⟨.int .u8, 1, 1, [(1, .u8 0)]⟩,
  ⟨.int .u8, 1, 1, [(1, .u8 0)]⟩,
  ⟨.struct [(0, 2), (1, 3), (2, 4), (3, 6)], 4, 24, [(1, .i .i64 0), (1, .i .i64 0), (1, .ff), (1, .u8 0)]⟩,
  ⟨.struct [(0, 2), (1, 3), (2, 4), (3, 6)], 4, 24, [(1, .i .i64 0), (1, .i .i64 0), (1, .ff), (1, .u8 0)]⟩,
  ⟨.string, 1, 16, [(1, .str [])]⟩,
  ⟨.string, 1, 16, [(1, .str [])]⟩,
  ⟨.string, 1, 16, [(1, .str [])]⟩,
  ⟨.int .u64, 1, 8, [(1, .u64 0)]⟩,
  ⟨.struct [(0, 9), (1, 12)], 2, 24, [(1, .str []), (1, .u64 0)]⟩,
  ⟨.struct [(0, 9), (1, 12)], 2, 24, [(1, .str []), (1, .u64 0)]⟩,
  ⟨.pointer 65, 1, 8, [(1, .nilp)]⟩,
  ⟨.pointer 68, 1, 8, [(1, .nilp)]⟩,
  ⟨.pointer 78, 1, 8, [(1, .nilp)]⟩,
  ⟨.struct [(0, 17)], 1, 8, [(1, .nilp)]⟩,
  ⟨.struct [(0, 17)], 1, 8, [(1, .nilp)]⟩,
  badTy,
  ⟨.int .i32, 1, 4, [(1, .i .i32 0)]⟩,
  ⟨.array 32 5, 32, 32, [(32, .a8 (List.replicate 32 0))]⟩,
  ⟨.array 16 5, 16, 16, [(16, .a8 (List.replicate 16 0))]⟩,
  badTy,
  ⟨.pointer 49, 1, 8, [(1, .nilp)]⟩,
  badTy,
  badTy,
  ⟨.slice 3, 1, 24, [(1, .nsl)]⟩,
  ⟨.slice 28, 1, 24, [(1, .nsl)]⟩,
  ⟨.struct [(0, 28), (1, 29)], 2, 48, [(1, .nsl), (1, .nsl)]⟩,
  ⟨.struct [(0, 28), (1, 29)], 2, 48, [(1, .nsl), (1, .nsl)]⟩,
  badTy,
  badTy,
  ⟨.slice 23, 1, 24, [(1, .nsl)]⟩,
  badTy,
  ⟨.slice 5, 1, 24, [(1, .nsl)]⟩,
  badTy,
  badTy,
  badTy,
  badTy,
  badTy,
  badTy,
  badTy,
  badTy,
  badTy,
  ⟨.array 256 5, 256, 256, [(256, .a8 (List.replicate 256 0))]⟩,
  ⟨.array 15 23, 240, 240, [(240, .a8 (List.replicate 240 0))]⟩,
  ⟨.struct [(0, 46), (256, 46), (512, 47)], 752, 752, [(256, .a8 (List.replicate 256 0)), (256, .a8 (List.replicate 256 0)), (240, .a8 (List.replicate 240 0))]⟩,
  ⟨.struct [(0, 46), (256, 46), (512, 47)], 752, 752, [(256, .a8 (List.replicate 256 0)), (256, .a8 (List.replicate 256 0)), (240, .a8 (List.replicate 240 0))]⟩,
  ⟨.array 4 5, 4, 4, [(4, .a8 (List.replicate 4 0))]⟩,
  ⟨.array 60 50, 240, 240, [(240, .a8 (List.replicate 240 0))]⟩,
  badTy,
  badTy,
  badTy,
  badTy,
  badTy,
  ⟨.array 4 3, 4, 32, [(4, .ai (List.replicate 4 0))]⟩,
  ⟨.array 4 57, 16, 128, [(16, .ai (List.replicate 16 0))]⟩,
  badTy,
  badTy,
  badTy,
  ⟨.int .u64, 1, 8, [(1, .u64 0)]⟩,
  badTy,
  ⟨.struct [(0, 17), (1, 17), (2, 17), (3, 9)], 4, 40, [(1, .nilp), (1, .nilp), (1, .nilp), (1, .str [])]⟩,
  ⟨.struct [(0, 17), (1, 17), (2, 17), (3, 9)], 4, 40, [(1, .nilp), (1, .nilp), (1, .nilp), (1, .str [])]⟩,
  badTy,
  badTy,
  badTy,
  badTy,
  ⟨.int .u32, 1, 4, [(1, .u32 0)]⟩,
  ⟨.int .u8, 1, 1, [(1, .u8 0)]⟩,
  ⟨.int .u8, 1, 1, [(1, .u8 0)]⟩,
  badTy,
  ⟨.pointer 5, 1, 8, [(1, .nilp)]⟩,
  ⟨.int .i32, 1, 4, [(1, .i .i32 0)]⟩,
  ⟨.int .i32, 1, 4, [(1, .i .i32 0)]⟩,
  ⟨.struct [(0, 12), (1, 12), (2, 70), (3, 71), (4, 5), (5, 5), (6, 72), (7, 73), (8, 74), (9, 75), (10, 76)], 11, 48, [(1, .u64 0), (1, .u64 0), (1, .u32 0), (1, .u8 0), (1, .u8 0), (1, .u8 0), (1, .u8 0), (1, .raw .nilFunc), (1, .nilp), (1, .i .i32 0), (1, .i .i32 0)]⟩,
  ⟨.struct [(0, 12), (1, 12), (2, 70), (3, 71), (4, 5), (5, 5), (6, 72), (7, 73), (8, 74), (9, 75), (10, 76)], 11, 48, [(1, .u64 0), (1, .u64 0), (1, .u32 0), (1, .u8 0), (1, .u8 0), (1, .u8 0), (1, .u8 0), (1, .raw .nilFunc), (1, .nilp), (1, .i .i32 0), (1, .i .i32 0)]⟩]

noncomputable def cx : Ctx where
  P := Try.prog
  tys := tys
  chk := by kernel_rfl
  mixed := by kernel_rfl

noncomputable def Γ : Cfg where
  toCtx := cx
  calls := [13,14,15,16,17,18,19,20,21,22,23,24,25,26,27,28,29,30,31,32,33]
  callsOK := by kernel_rfl

theorem sz2 : (Γ.ty 2).size = 1 := rfl
theorem sz3 : (Γ.ty 3).size = 1 := rfl
theorem sz4 : (Γ.ty 4).size = 1 := rfl
theorem sz5 : (Γ.ty 5).size = 1 := rfl
theorem sz6 : (Γ.ty 6).size = 1 := rfl
theorem sz7 : (Γ.ty 7).size = 4 := rfl
theorem sz8 : (Γ.ty 8).size = 4 := rfl
theorem sz9 : (Γ.ty 9).size = 1 := rfl
theorem sz10 : (Γ.ty 10).size = 1 := rfl
theorem sz11 : (Γ.ty 11).size = 1 := rfl
theorem sz12 : (Γ.ty 12).size = 1 := rfl
theorem sz13 : (Γ.ty 13).size = 2 := rfl
theorem sz14 : (Γ.ty 14).size = 2 := rfl
theorem sz15 : (Γ.ty 15).size = 1 := rfl
theorem sz16 : (Γ.ty 16).size = 1 := rfl
theorem sz17 : (Γ.ty 17).size = 1 := rfl
theorem sz18 : (Γ.ty 18).size = 1 := rfl
theorem sz19 : (Γ.ty 19).size = 1 := rfl
theorem sz21 : (Γ.ty 21).size = 1 := rfl
theorem sz22 : (Γ.ty 22).size = 32 := rfl
theorem sz23 : (Γ.ty 23).size = 16 := rfl
theorem sz25 : (Γ.ty 25).size = 1 := rfl
theorem sz28 : (Γ.ty 28).size = 1 := rfl
theorem sz29 : (Γ.ty 29).size = 1 := rfl
theorem sz30 : (Γ.ty 30).size = 2 := rfl
theorem sz31 : (Γ.ty 31).size = 2 := rfl
theorem sz34 : (Γ.ty 34).size = 1 := rfl
theorem sz36 : (Γ.ty 36).size = 1 := rfl
theorem sz46 : (Γ.ty 46).size = 256 := rfl
theorem sz47 : (Γ.ty 47).size = 240 := rfl
theorem sz48 : (Γ.ty 48).size = 752 := rfl
theorem sz49 : (Γ.ty 49).size = 752 := rfl
theorem sz50 : (Γ.ty 50).size = 4 := rfl
theorem sz51 : (Γ.ty 51).size = 240 := rfl
theorem sz57 : (Γ.ty 57).size = 4 := rfl
theorem sz58 : (Γ.ty 58).size = 16 := rfl
theorem sz62 : (Γ.ty 62).size = 1 := rfl
theorem sz64 : (Γ.ty 64).size = 4 := rfl
theorem sz65 : (Γ.ty 65).size = 4 := rfl
theorem sz70 : (Γ.ty 70).size = 1 := rfl
theorem sz71 : (Γ.ty 71).size = 1 := rfl
theorem sz72 : (Γ.ty 72).size = 1 := rfl
theorem sz74 : (Γ.ty 74).size = 1 := rfl
theorem sz75 : (Γ.ty 75).size = 1 := rfl
theorem sz76 : (Γ.ty 76).size = 1 := rfl
theorem sz77 : (Γ.ty 77).size = 11 := rfl
theorem sz78 : (Γ.ty 78).size = 11 := rfl

end Go.Proofs.Ytgfbbmcdbohbhaa

namespace Go.Proofs.Ytgfbbmcdbohbhaa
open Go Go.Sx

def dbl (b : UInt8) : UInt8 := if b.toNat < 128 then shl8 b 1 else shl8 b 1 ^^^ 27

set_option maxRecDepth 100000 in
theorem fn26 (b : UInt8) : Sx.Fn Γ.P 26 [.u8 b] [] (fun v _ => v = .u8 (dbl b)) := by
  refine fn_of (Γ := Γ) (fn := Try.f26) rfl rfl rfl rfl ?_
  refine Branch.intro (fun h => ?_) (fun h => ?_)
  · refine Ret.intro (.u8 (dbl b)) [] [] rfl trivial rfl rfl ?_ rfl trivial rfl
    show dbl b = shl8 b 1
    exact if_pos h
  · refine Ret.intro (.u8 (dbl b)) [] [] rfl trivial rfl rfl ?_ rfl trivial rfl
    show dbl b = shl8 b 1 ^^^ 27
    exact if_neg h

def tms : Nat → UInt8 → UInt8 → UInt8 → UInt8
  | 0, _, _, p => p
  | n + 1, a, b, p => tms n (dbl a) (shr8 b 1) (if b &&& 1 = 1 then p ^^^ a else p)

theorem tms_zero : ∀ (n : Nat) (a p : UInt8), tms n a 0 p = p
  | 0, _, _ => rfl
  | n + 1, a, p => by
    show tms n (dbl a) 0 p = p
    exact tms_zero n _ _

theorem shr8_one (b : UInt8) : (shr8 b 1).toNat = b.toNat / 2 := by
  have := b.toNat_lt
  unfold shr8
  rw [UInt8.toNat_ofNat', Nat.shiftRight_eq_div_pow]
  omega

def times (a b : UInt8) : UInt8 := tms 8 a b 0

set_option maxRecDepth 100000 in
theorem fn33 (a b : UInt8) : Sx.Fn Γ.P 33 [.u8 a, .u8 b] [] (fun v _ => v = .u8 (times a b)) := by
  refine fn_of (Γ := Γ) (fn := Try.f33) rfl rfl rfl rfl ?_
  refine Loop.intro (σ := UInt8 × UInt8 × UInt8) (fun s => ∃ n, s.2.1.toNat < 2 ^ n ∧ tms n s.1 s.2.1 s.2.2 = tms 8 a b 0)
    (fun s => ([(0, .u8 s.1), (1, .u8 s.2.1), (5, .u8 s.2.2)], [])) (fun s => s.2.1.toNat) (a, b, 0) ?_ ?_ ?_
  · exact ⟨8, b.toNat_lt, rfl⟩
  · exact Le.intro [] rfl ⟨rfl, rfl, rfl⟩ rfl trivial rfl
  · rintro ⟨x, y, z⟩ ⟨n, hn, ht⟩
    have step : 0 < y.toNat → ∃ n, (shr8 y 1).toNat < 2 ^ n ∧ tms n (dbl x) (shr8 y 1) (if y &&& 1 = 1 then z ^^^ x else z) = tms 8 a b 0 := by
      intro h
      match n, hn, ht with
      | 0, hn, _ => exact absurd hn (by simp only [Nat.pow_zero]; omega)
      | n + 1, hn, ht =>
        refine ⟨n, ?_, ht⟩
        rw [shr8_one]
        have : y.toNat < 2 ^ (n + 1) := hn
        rw [Nat.pow_succ] at this
        omega
    have less : 0 < y.toNat → (shr8 y 1).toNat < y.toNat := fun h => by rw [shr8_one]; omega
    refine Branch.intro (fun h => ?_) (fun h => ?_)
    · refine Branch.intro (fun h2 => ?_) (fun h2 => ?_)
      · refine Call.pure (fn26 x) rfl rfl ?_
        intro v hv
        subst hv
        have st := step h
        rw [if_pos (show y &&& 1 = 1 from h2)] at st
        exact ⟨(dbl x, shr8 y 1, z ^^^ x), st, less h, Le.intro [] rfl ⟨rfl, rfl, rfl⟩ rfl trivial rfl⟩
      · refine Call.pure (fn26 x) rfl rfl ?_
        intro v hv
        subst hv
        have st := step h
        rw [if_neg (show ¬ (y &&& 1 = 1) from h2)] at st
        exact ⟨(dbl x, shr8 y 1, z), st, less h, Le.intro [] rfl ⟨rfl, rfl, rfl⟩ rfl trivial rfl⟩
    · have hy : y = 0 := UInt8.toNat_inj.1 (by
        have h : ¬ (0 < y.toNat) := h
        show y.toNat = 0
        omega)
      subst hy
      have ht : tms n x 0 z = tms 8 a b 0 := ht
      rw [tms_zero] at ht
      refine Ret.intro (.u8 z) [] [] rfl trivial ?_ rfl rfl rfl trivial rfl
      rw [ht]; rfl

end Go.Proofs.Ytgfbbmcdbohbhaa

namespace Go.Proofs.Ytgfbbmcdbohbhaa
open Go Go.Sx

def addTo (k : List UInt8) : Nat → List UInt8 → List UInt8
  | 0, b => b
  | n + 1, b => (addTo k n b).set n ((addTo k n b).getD n 0 ^^^ k.getD n 0)

theorem addTo_length (k : List UInt8) : ∀ (n : Nat) (b : List UInt8), (addTo k n b).length = b.length
  | 0, _ => rfl
  | n + 1, b => by simp only [addTo, List.length_set, addTo_length k n b]

set_option maxRecDepth 100000 in
theorem fn27 (b k : List UInt8) (hb : b.length = 16) (hk : k.length = 16) : Sx.Fn Γ.P 27 [.a8 b, .a8 k] [] (fun v _ => v = .a8 (addTo k 16 b)) := by
  have hl : ∀ n, (addTo k n b).length = 16 := fun n => by rw [addTo_length, hb]
  refine fn_of (Γ := Γ) (fn := Try.f27) rfl rfl rfl rfl ?_
  refine Side.intro ⟨hk, hb⟩ ?_
  refine Loop.intro (σ := Nat) (fun i => i ≤ 16)
    (fun i => ([(2, .ptr 2 0 none), (3, .ptr 3 0 none), (4, .ptr 4 0 none), (6, .i .i64 i)],
      [(2, .mem true 0 [(16, .a8 (addTo k i b))]), (3, .mem true 0 [(16, .a8 k)]), (4, .mem true 0 [(16, .a8 (List.replicate 16 0))])])) (fun i => 16 - i) 0 (Nat.zero_le _) ?_ ?_
  · exact Le.intro [] rfl rfl rfl ⟨rfl, rfl, rfl, rfl, rfl, rfl, rfl, rfl, rfl⟩ rfl
  · intro i hi
    refine Branch.intro (fun h => ?_) (fun h => ?_)
    · refine Draw.intro [[], [0], [0, 1], [], [3], [3, 4], [0, 1, 2, 3, 4, 5], [0, 1, 2, 3, 4, 5, 6], [0, 1, 2, 3, 4, 5, 6, 7]] [0, 1, 2, 3, 4, 5, 6, 7, 8] (by kernel_rfl) ?_
      refine Side.intro ⟨by omega, Int.natCast_nonneg _⟩ ?_
      refine Side.intro (show (i : Int).toNat < 16 by omega) ?_
      refine Side.intro ⟨by omega, Int.natCast_nonneg _⟩ ?_
      refine Side.intro (show (i : Int).toNat < 16 by omega) ?_
      refine Side.intro ⟨by omega, Int.natCast_nonneg _⟩ ?_
      refine Side.intro (show (i : Int).toNat < 16 by omega) ?_
      refine Side.intro (show rng .i64 ((i : Int) + 1) by unfold rng; exact ⟨by omega, by omega⟩) ?_
      refine ⟨i + 1, by omega, by omega, Le.intro [] rfl rfl rfl ⟨rfl, rfl, ?_, rfl, rfl, rfl, rfl, rfl, rfl⟩ rfl⟩
      rw [Int.toNat_natCast]; rfl
    · have hi : i = 16 := by omega
      subst hi
      refine Side.intro (hl 16) ?_
      exact Ret.intro (.a8 (addTo k 16 b)) [] [] rfl trivial rfl rfl rfl rfl trivial rfl

end Go.Proofs.Ytgfbbmcdbohbhaa

namespace Go.Proofs.Ytgfbbmcdbohbhaa
open Go Go.Sx

def mixK (b m : List UInt8) (i : Nat) (out : List UInt8) : Nat → List UInt8
  | 0 => out
  | k + 1 => (mixK b m i out k).set i ((mixK b m i out k).getD i 0 ^^^ times (b.getD (i / 4 * 4 + (i + k) % 4) 0) (m.getD k 0))
def mixI (b m : List UInt8) : Nat → List UInt8
  | 0 => List.replicate 16 0
  | i + 1 => mixK b m i (mixI b m i) 4

theorem mixK_length (b m : List UInt8) (i : Nat) (out : List UInt8) : ∀ k, (mixK b m i out k).length = out.length
  | 0 => rfl
  | k + 1 => by simp only [mixK, List.length_set, mixK_length b m i out k]
theorem mixI_length (b m : List UInt8) : ∀ i, (mixI b m i).length = 16
  | 0 => rfl
  | i + 1 => by simp only [mixI, mixK_length, mixI_length b m i]

set_option maxRecDepth 100000 in
theorem fn28 (b m : List UInt8) (hb : b.length = 16) (hm : m.length = 4) : Sx.Fn Γ.P 28 [.a8 b, .a8 m] [] (fun v _ => v = .a8 (mixI b m 16)) := by
  refine fn_of (Γ := Γ) (fn := Try.f28) rfl rfl rfl rfl ?_
  refine Side.intro (by repeat' (first | (show AllP _; first | exact trivial | refine AllP.app ?_ ?_ | refine AllP.appd ?_ ?_ | refine AllP.cons ?_ ?_) | with_reducible rfl | omega | with_reducible assumption | (simp only [rng, Ix.val, addQ_eq, addI, sz5, sz23, sz50] <;> omega) | (simp only [rng, Ix.val, Int.toNat_natCast, mulE_eq, addQ_eq, addI, Option.getD_none, Option.getD_some, List.length_take, List.length_drop, List.length_append, List.length_set, List.length_replicate, sz5, sz23, sz50, *] <;> omega) | (simp only [Ix.val]; with_reducible assumption) | exact UInt8.toNat_lt _ | (apply Eq.trans; (with_reducible assumption); exact rfl) | exact rfl | exact fun _ _ => rfl)) ?_
  refine Loop.intro (σ := Nat) (fun i => i ≤ 16)
    (fun i => ([(2, .ptr 2 0 none), (3, .ptr 3 0 none), (4, .ptr 4 0 none), (5, .ptr 5 0 none), (8, .i .i64 i)],
      [(2, .mem true 0 [(16, .a8 b)]), (3, .mem true 0 [(4, .a8 m)]), (4, .mem true 0 [(16, .a8 (List.replicate 16 0))]), (5, .mem true 0 [(16, .a8 (mixI b m i))])])) (fun i => 16 - i) 0 (Nat.zero_le _) ?_ ?_
  · exact Le.intro [] rfl (by repeat' (first | (show AllP _; first | exact trivial | refine AllP.app ?_ ?_ | refine AllP.appd ?_ ?_ | refine AllP.cons ?_ ?_) | with_reducible rfl | omega | with_reducible assumption | (simp only [rng, Ix.val, addQ_eq, addI, sz5, sz23, sz50] <;> omega) | (simp only [rng, Ix.val, Int.toNat_natCast, mulE_eq, addQ_eq, addI, Option.getD_none, Option.getD_some, List.length_take, List.length_drop, List.length_append, List.length_set, List.length_replicate, sz5, sz23, sz50, *] <;> omega) | (simp only [Ix.val]; with_reducible assumption) | exact UInt8.toNat_lt _ | (apply Eq.trans; (with_reducible assumption); exact rfl) | exact rfl | exact fun _ _ => rfl)) rfl (by repeat' (first | (show AllP _; first | exact trivial | refine AllP.app ?_ ?_ | refine AllP.appd ?_ ?_ | refine AllP.cons ?_ ?_) | with_reducible rfl | omega | with_reducible assumption | (simp only [rng, Ix.val, addQ_eq, addI, sz5, sz23, sz50] <;> omega) | (simp only [rng, Ix.val, Int.toNat_natCast, mulE_eq, addQ_eq, addI, Option.getD_none, Option.getD_some, List.length_take, List.length_drop, List.length_append, List.length_set, List.length_replicate, sz5, sz23, sz50, *] <;> omega) | (simp only [Ix.val]; with_reducible assumption) | exact UInt8.toNat_lt _ | (apply Eq.trans; (with_reducible assumption); exact rfl) | exact rfl | exact fun _ _ => rfl)) rfl
  intro i hi
  refine Branch.intro (fun h => ?_) (fun h => ?_)
  · refine Loop.intro (σ := Nat) (fun k => k ≤ 4)
      (fun k => ([(2, .ptr 2 0 none), (3, .ptr 3 0 none), (4, .ptr 4 0 none), (5, .ptr 5 0 none), (8, .i .i64 i), (6, .i .i64 i), (11, .i .i64 k)],
        [(2, .mem true 0 [(16, .a8 b)]), (3, .mem true 0 [(4, .a8 m)]), (4, .mem true 0 [(16, .a8 (List.replicate 16 0))]), (5, .mem true 0 [(16, .a8 (mixK b m i (mixI b m i) k))])])) (fun i => 4 - i) 0 (Nat.zero_le _) ?_ ?_
    · exact Le.intro [] rfl (by repeat' (first | (show AllP _; first | exact trivial | refine AllP.app ?_ ?_ | refine AllP.appd ?_ ?_ | refine AllP.cons ?_ ?_) | with_reducible rfl | omega | with_reducible assumption | (simp only [rng, Ix.val, addQ_eq, addI, sz5, sz23, sz50] <;> omega) | (simp only [rng, Ix.val, Int.toNat_natCast, mulE_eq, addQ_eq, addI, Option.getD_none, Option.getD_some, List.length_take, List.length_drop, List.length_append, List.length_set, List.length_replicate, sz5, sz23, sz50, *] <;> omega) | (simp only [Ix.val]; with_reducible assumption) | exact UInt8.toNat_lt _ | (apply Eq.trans; (with_reducible assumption); exact rfl) | exact rfl | exact fun _ _ => rfl)) rfl (by repeat' (first | (show AllP _; first | exact trivial | refine AllP.app ?_ ?_ | refine AllP.appd ?_ ?_ | refine AllP.cons ?_ ?_) | with_reducible rfl | omega | with_reducible assumption | (simp only [rng, Ix.val, addQ_eq, addI, sz5, sz23, sz50] <;> omega) | (simp only [rng, Ix.val, Int.toNat_natCast, mulE_eq, addQ_eq, addI, Option.getD_none, Option.getD_some, List.length_take, List.length_drop, List.length_append, List.length_set, List.length_replicate, sz5, sz23, sz50, *] <;> omega) | (simp only [Ix.val]; with_reducible assumption) | exact UInt8.toNat_lt _ | (apply Eq.trans; (with_reducible assumption); exact rfl) | exact rfl | exact fun _ _ => rfl)) rfl
    intro k hk
    refine Branch.intro (fun h' => ?_) (fun h' => ?_)
    · refine Draw.intro [[], [0], [0, 1], [], [3], [3, 4], [], [], [6, 7], [6, 7, 8], [3, 4, 5, 6, 7, 8, 9], [3, 4, 5, 6, 7, 8, 9, 10], [3, 4, 5, 6, 7, 8, 9, 10, 11], [], [13], [13, 14], [3, 4, 5, 6, 7, 8, 9, 10, 11, 12, 13, 14, 15], [0, 1, 2, 3, 4, 5, 6, 7, 8, 9, 10, 11, 12, 13, 14, 15, 16], [0, 1, 2, 3, 4, 5, 6, 7, 8, 9, 10, 11, 12, 13, 14, 15, 16, 17], [0, 1, 2, 3, 4, 5, 6, 7, 8, 9, 10, 11, 12, 13, 14, 15, 16, 17, 18]] [0, 1, 2, 3, 4, 5, 6, 7, 8, 9, 10, 11, 12, 13, 14, 15, 16, 17, 18, 19] (by kernel_rfl) ?_
      repeat (refine Side.intro (by repeat' (first | (show AllP _; first | exact trivial | refine AllP.app ?_ ?_ | refine AllP.appd ?_ ?_ | refine AllP.cons ?_ ?_) | with_reducible rfl | omega | with_reducible assumption | (simp only [rng, Ix.val, addQ_eq, addI, sz5, sz23, sz50] <;> omega) | (simp only [rng, Ix.val, Int.toNat_natCast, mulE_eq, addQ_eq, addI, Option.getD_none, Option.getD_some, List.length_take, List.length_drop, List.length_append, List.length_set, List.length_replicate, sz5, sz23, sz50, *] <;> omega) | (simp only [Ix.val]; with_reducible assumption) | exact UInt8.toNat_lt _ | (apply Eq.trans; (with_reducible assumption); exact rfl) | exact rfl | exact fun _ _ => rfl)) ?_)
      refine Call.pure (fn33 (b.getD (i / 4 * 4 + (i + k) % 4) 0) (m.getD k 0)) rfl ?_ ?_
      · refine ⟨?_, ?_⟩
        · show b.getD (i / 4 * 4 + (i + k) % 4) 0 = b.getD ((i : Int) / 4 * 4 + ((i : Int) + k) % 4).toNat 0
          congr 1
        · show m.getD k 0 = m.getD (k : Int).toNat 0
          rfl
      intro v hv
      subst hv
      refine Grow.intro [] rfl rfl ?_
      repeat (refine Side.intro (by repeat' (first | (show AllP _; first | exact trivial | refine AllP.app ?_ ?_ | refine AllP.appd ?_ ?_ | refine AllP.cons ?_ ?_) | with_reducible rfl | omega | with_reducible assumption | (simp only [rng, Ix.val, addQ_eq, addI, sz5, sz23, sz50] <;> omega) | (simp only [rng, Ix.val, Int.toNat_natCast, mulE_eq, addQ_eq, addI, Option.getD_none, Option.getD_some, List.length_take, List.length_drop, List.length_append, List.length_set, List.length_replicate, sz5, sz23, sz50, *] <;> omega) | (simp only [Ix.val]; with_reducible assumption) | exact UInt8.toNat_lt _ | (apply Eq.trans; (with_reducible assumption); exact rfl) | exact rfl | exact fun _ _ => rfl)) ?_)
      exact ⟨k + 1, by omega, by omega, Le.intro [] rfl (by repeat' (first | (show AllP _; first | exact trivial | refine AllP.app ?_ ?_ | refine AllP.appd ?_ ?_ | refine AllP.cons ?_ ?_) | with_reducible rfl | omega | with_reducible assumption | (simp only [rng, Ix.val, addQ_eq, addI, sz5, sz23, sz50] <;> omega) | (simp only [rng, Ix.val, Int.toNat_natCast, mulE_eq, addQ_eq, addI, Option.getD_none, Option.getD_some, List.length_take, List.length_drop, List.length_append, List.length_set, List.length_replicate, sz5, sz23, sz50, *] <;> omega) | (simp only [Ix.val]; with_reducible assumption) | exact UInt8.toNat_lt _ | (apply Eq.trans; (with_reducible assumption); exact rfl) | exact rfl | exact fun _ _ => rfl)) rfl (by repeat' (first | (show AllP _; first | exact trivial | refine AllP.app ?_ ?_ | refine AllP.appd ?_ ?_ | refine AllP.cons ?_ ?_) | with_reducible rfl | omega | with_reducible assumption | (simp only [rng, Ix.val, addQ_eq, addI, sz5, sz23, sz50] <;> omega) | (simp only [rng, Ix.val, Int.toNat_natCast, mulE_eq, addQ_eq, addI, Option.getD_none, Option.getD_some, List.length_take, List.length_drop, List.length_append, List.length_set, List.length_replicate, sz5, sz23, sz50, *] <;> omega) | (simp only [Ix.val]; with_reducible assumption) | exact UInt8.toNat_lt _ | (apply Eq.trans; (with_reducible assumption); exact rfl) | exact rfl | exact fun _ _ => rfl)) rfl⟩
    · have : k = 4 := by omega
      subst this
      refine Side.intro (by repeat' (first | (show AllP _; first | exact trivial | refine AllP.app ?_ ?_ | refine AllP.appd ?_ ?_ | refine AllP.cons ?_ ?_) | with_reducible rfl | omega | with_reducible assumption | (simp only [rng, Ix.val, addQ_eq, addI, sz5, sz23, sz50] <;> omega) | (simp only [rng, Ix.val, Int.toNat_natCast, mulE_eq, addQ_eq, addI, Option.getD_none, Option.getD_some, List.length_take, List.length_drop, List.length_append, List.length_set, List.length_replicate, sz5, sz23, sz50, *] <;> omega) | (simp only [Ix.val]; with_reducible assumption) | exact UInt8.toNat_lt _ | (apply Eq.trans; (with_reducible assumption); exact rfl) | exact rfl | exact fun _ _ => rfl)) ?_
      exact ⟨i + 1, by omega, by omega, Le.intro [] rfl (by repeat' (first | (show AllP _; first | exact trivial | refine AllP.app ?_ ?_ | refine AllP.appd ?_ ?_ | refine AllP.cons ?_ ?_) | with_reducible rfl | omega | with_reducible assumption | (simp only [rng, Ix.val, addQ_eq, addI, sz5, sz23, sz50] <;> omega) | (simp only [rng, Ix.val, Int.toNat_natCast, mulE_eq, addQ_eq, addI, Option.getD_none, Option.getD_some, List.length_take, List.length_drop, List.length_append, List.length_set, List.length_replicate, sz5, sz23, sz50, *] <;> omega) | (simp only [Ix.val]; with_reducible assumption) | exact UInt8.toNat_lt _ | (apply Eq.trans; (with_reducible assumption); exact rfl) | exact rfl | exact fun _ _ => rfl)) rfl (by repeat' (first | (show AllP _; first | exact trivial | refine AllP.app ?_ ?_ | refine AllP.appd ?_ ?_ | refine AllP.cons ?_ ?_) | with_reducible rfl | omega | with_reducible assumption | (simp only [rng, Ix.val, addQ_eq, addI, sz5, sz23, sz50] <;> omega) | (simp only [rng, Ix.val, Int.toNat_natCast, mulE_eq, addQ_eq, addI, Option.getD_none, Option.getD_some, List.length_take, List.length_drop, List.length_append, List.length_set, List.length_replicate, sz5, sz23, sz50, *] <;> omega) | (simp only [Ix.val]; with_reducible assumption) | exact UInt8.toNat_lt _ | (apply Eq.trans; (with_reducible assumption); exact rfl) | exact rfl | exact fun _ _ => rfl)) rfl⟩
  · have : i = 16 := by omega
    subst this
    have := mixI_length b m 16
    refine Side.intro (by repeat' (first | (show AllP _; first | exact trivial | refine AllP.app ?_ ?_ | refine AllP.appd ?_ ?_ | refine AllP.cons ?_ ?_) | with_reducible rfl | omega | with_reducible assumption | (simp only [rng, Ix.val, addQ_eq, addI, sz5, sz23, sz50] <;> omega) | (simp only [rng, Ix.val, Int.toNat_natCast, mulE_eq, addQ_eq, addI, Option.getD_none, Option.getD_some, List.length_take, List.length_drop, List.length_append, List.length_set, List.length_replicate, sz5, sz23, sz50, *] <;> omega) | (simp only [Ix.val]; with_reducible assumption) | exact UInt8.toNat_lt _ | (apply Eq.trans; (with_reducible assumption); exact rfl) | exact rfl | exact fun _ _ => rfl)) ?_
    exact Ret.intro (.a8 (mixI b m 16)) [] [] rfl trivial rfl rfl rfl rfl trivial rfl

end Go.Proofs.Ytgfbbmcdbohbhaa
