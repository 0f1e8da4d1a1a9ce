/- What the functions of the program compute. No condition. -/
import Derived.Test.YtgfbbmcdbohbhaaHwAes7ToAes7
set_option linter.unusedSimpArgs false
set_option linter.unusedVariables false
namespace Go.Proofs.Ytgfbbmcdbohbhaa
open Go Go.Sx

def exK : Nat → List UInt8
  | 0 => List.replicate 32 0
  | i + 1 => (exK i).set i (UInt8.ofNat i)
def exB : Nat → List UInt8
  | 0 => List.replicate 16 0
  | i + 1 => (exB i).set (i / 2) (UInt8.ofNat (i / 2 * 17))
theorem exK_length : ∀ i, (exK i).length = 32
  | 0 => List.length_replicate
  | i + 1 => by simp only [exK, List.length_set, exK_length i]
theorem exB_length : ∀ i, (exB i).length = 16
  | 0 => List.length_replicate
  | i + 1 => by simp only [exB, List.length_set, exB_length i]

theorem keysOf_length {key : List UInt8} (hk : key.length = 32) : (keysOf key).length = 240 := putK_length (wGo_length hk 60 (by omega)) 60 (by omega)

theorem u8_of_beq {x y : UInt8} (h : Nat.beq x.toNat y.toNat = true) : x = y := UInt8.toNat_inj.1 (Nat.eq_of_beq_eq_true h)
set_option maxRecDepth 1000000 in
theorem alive_0 : Nat.beq ((lockGo tabS (keysOf (exK 32)) (exB 32) 14).getD 0 0).toNat (142 : UInt8).toNat = true := by kernel_rfl
set_option maxRecDepth 1000000 in
theorem alive_15 : Nat.beq ((lockGo tabS (keysOf (exK 32)) (exB 32) 14).getD 15 0).toNat (137 : UInt8).toNat = true := by kernel_rfl
theorem alive_val : (lockGo tabS (keysOf (exK 32)) (exB 32) 14).getD 0 0 = 142 ∧ (lockGo tabS (keysOf (exK 32)) (exB 32) 14).getD 15 0 = 137 :=
  ⟨u8_of_beq alive_0, u8_of_beq alive_15⟩

set_option maxRecDepth 100000 in
theorem fn13 : Sx.Fn Γ.P 13 [] [] (fun v _ => v = .tt) := by
  refine fn_of (Γ := Γ) (fn := Try.f13) rfl rfl rfl rfl ?_
  refine Loop.intro (σ := Nat) (fun i => i ≤ 32)
    (fun i => ([(1, .ptr 1 0 none), (2, .ptr 2 0 none), (3, .i .i64 i)], [(1, .mem true 0 [(32, .a8 (exK i))]), (2, .mem true 0 [(16, .a8 (exB i))])])) (fun i => 32 - i) 0 (Nat.zero_le _) ?_ ?_
  · exact Le.intro [] rfl (by repeat' (first | (show AllP _; first | exact trivial | refine AllP.app ?_ ?_ | refine AllP.appd ?_ ?_ | refine AllP.cons ?_ ?_) | with_reducible rfl | omega | with_reducible assumption | (simp only [rng, Ix.val, addQ_eq, addI, sz5, sz22, sz23, sz25, sz36, sz46, sz47, sz48, sz49, sz50, sz51] <;> omega) | (simp only [rng, Ix.val, Int.toNat_natCast, mulE_eq, addQ_eq, addI, Option.getD_none, Option.getD_some, List.length_take, List.length_drop, List.length_append, List.length_set, List.length_replicate, sz5, sz22, sz23, sz25, sz36, sz46, sz47, sz48, sz49, sz50, sz51, *] <;> omega) | (simp only [Ix.val]; with_reducible assumption) | exact UInt8.toNat_lt _ | (apply Eq.trans; (with_reducible assumption); exact rfl) | exact rfl | exact fun _ _ => rfl)) rfl (by repeat' (first | (show AllP _; first | exact trivial | refine AllP.app ?_ ?_ | refine AllP.appd ?_ ?_ | refine AllP.cons ?_ ?_) | with_reducible rfl | omega | with_reducible assumption | (simp only [rng, Ix.val, addQ_eq, addI, sz5, sz22, sz23, sz25, sz36, sz46, sz47, sz48, sz49, sz50, sz51] <;> omega) | (simp only [rng, Ix.val, Int.toNat_natCast, mulE_eq, addQ_eq, addI, Option.getD_none, Option.getD_some, List.length_take, List.length_drop, List.length_append, List.length_set, List.length_replicate, sz5, sz22, sz23, sz25, sz36, sz46, sz47, sz48, sz49, sz50, sz51, *] <;> omega) | (simp only [Ix.val]; with_reducible assumption) | exact UInt8.toNat_lt _ | (apply Eq.trans; (with_reducible assumption); exact rfl) | exact rfl | exact fun _ _ => rfl)) rfl
  intro i hi
  have hkl := exK_length i
  have hbl := exB_length i
  refine Branch.intro (fun h => ?_) (fun h => ?_)
  · repeat (refine Side.intro (by repeat' (first | (show AllP _; first | exact trivial | refine AllP.app ?_ ?_ | refine AllP.appd ?_ ?_ | refine AllP.cons ?_ ?_) | with_reducible rfl | omega | with_reducible assumption | (simp only [rng, Ix.val, addQ_eq, addI, sz5, sz22, sz23, sz25, sz36, sz46, sz47, sz48, sz49, sz50, sz51] <;> omega) | (simp only [rng, Ix.val, Int.toNat_natCast, mulE_eq, addQ_eq, addI, Option.getD_none, Option.getD_some, List.length_take, List.length_drop, List.length_append, List.length_set, List.length_replicate, sz5, sz22, sz23, sz25, sz36, sz46, sz47, sz48, sz49, sz50, sz51, *] <;> omega) | (simp only [Ix.val]; with_reducible assumption) | exact UInt8.toNat_lt _ | (apply Eq.trans; (with_reducible assumption); exact rfl) | exact rfl | exact fun _ _ => rfl)) ?_)
    have h1 : exK (i + 1) = (exK i).set (i : Int).toNat (UInt8.ofInt (i : Int)) := by rw [ofInt8]; rfl
    have h2 : exB (i + 1) = (exB i).set ((i : Int) / 2).toNat (UInt8.ofInt ((i : Int) / 2 * 17)) := by
      rw [show (i : Int) / 2 * 17 = ((i / 2 * 17 : Nat) : Int) by omega, ofInt8, show ((i : Int) / 2).toNat = i / 2 by omega]; rfl
    exact ⟨i + 1, by omega, by omega, Le.intro [] rfl (by repeat' (first | (show AllP _; first | exact trivial | refine AllP.app ?_ ?_ | refine AllP.appd ?_ ?_ | refine AllP.cons ?_ ?_) | with_reducible rfl | omega | with_reducible assumption | (simp only [rng, Ix.val, addQ_eq, addI, sz5, sz22, sz23, sz25, sz36, sz46, sz47, sz48, sz49, sz50, sz51] <;> omega) | (simp only [rng, Ix.val, Int.toNat_natCast, mulE_eq, addQ_eq, addI, Option.getD_none, Option.getD_some, List.length_take, List.length_drop, List.length_append, List.length_set, List.length_replicate, sz5, sz22, sz23, sz25, sz36, sz46, sz47, sz48, sz49, sz50, sz51, *] <;> omega) | (simp only [Ix.val]; with_reducible assumption) | exact UInt8.toNat_lt _ | (apply Eq.trans; (with_reducible assumption); exact rfl) | exact rfl | exact fun _ _ => rfl)) rfl (by repeat' (first | (show AllP _; first | exact trivial | refine AllP.app ?_ ?_ | refine AllP.appd ?_ ?_ | refine AllP.cons ?_ ?_) | with_reducible rfl | omega | with_reducible assumption | (simp only [rng, Ix.val, addQ_eq, addI, sz5, sz22, sz23, sz25, sz36, sz46, sz47, sz48, sz49, sz50, sz51] <;> omega) | (simp only [rng, Ix.val, Int.toNat_natCast, mulE_eq, addQ_eq, addI, Option.getD_none, Option.getD_some, List.length_take, List.length_drop, List.length_append, List.length_set, List.length_replicate, sz5, sz22, sz23, sz25, sz36, sz46, sz47, sz48, sz49, sz50, sz51, *] <;> omega) | (simp only [Ix.val]; with_reducible assumption) | exact UInt8.toNat_lt _ | (apply Eq.trans; (with_reducible assumption); exact rfl) | exact rfl | exact fun _ _ => rfl)) rfl⟩
  · have : i = 32 := by omega
    subst this
    repeat (refine Side.intro (by repeat' (first | (show AllP _; first | exact trivial | refine AllP.app ?_ ?_ | refine AllP.appd ?_ ?_ | refine AllP.cons ?_ ?_) | with_reducible rfl | omega | with_reducible assumption | (simp only [rng, Ix.val, addQ_eq, addI, sz5, sz22, sz23, sz25, sz36, sz46, sz47, sz48, sz49, sz50, sz51] <;> omega) | (simp only [rng, Ix.val, Int.toNat_natCast, mulE_eq, addQ_eq, addI, Option.getD_none, Option.getD_some, List.length_take, List.length_drop, List.length_append, List.length_set, List.length_replicate, sz5, sz22, sz23, sz25, sz36, sz46, sz47, sz48, sz49, sz50, sz51, *] <;> omega) | (simp only [Ix.val]; with_reducible assumption) | exact UInt8.toNat_lt _ | (apply Eq.trans; (with_reducible assumption); exact rfl) | exact rfl | exact fun _ _ => rfl)) ?_)
    refine Call.intro (fn14 (exK 32) hkl) [(1001, (1001, 0, none))] rfl (by repeat' (first | (show AllP _; first | exact trivial | refine AllP.app ?_ ?_ | refine AllP.appd ?_ ?_ | refine AllP.cons ?_ ?_) | with_reducible rfl | omega | with_reducible assumption | (simp only [rng, Ix.val, addQ_eq, addI, sz5, sz22, sz23, sz25, sz36, sz46, sz47, sz48, sz49, sz50, sz51] <;> omega) | (simp only [rng, Ix.val, Int.toNat_natCast, mulE_eq, addQ_eq, addI, Option.getD_none, Option.getD_some, List.length_take, List.length_drop, List.length_append, List.length_set, List.length_replicate, sz5, sz22, sz23, sz25, sz36, sz46, sz47, sz48, sz49, sz50, sz51, *] <;> omega) | (simp only [Ix.val]; with_reducible assumption) | exact UInt8.toNat_lt _ | (apply Eq.trans; (with_reducible assumption); exact rfl) | exact rfl | exact fun _ _ => rfl)) rfl trivial rfl ?_
    rintro v M' ⟨rfl, rfl⟩
    repeat (refine Side.intro (by repeat' (first | (show AllP _; first | exact trivial | refine AllP.app ?_ ?_ | refine AllP.appd ?_ ?_ | refine AllP.cons ?_ ?_) | with_reducible rfl | omega | with_reducible assumption | (simp only [rng, Ix.val, addQ_eq, addI, sz5, sz22, sz23, sz25, sz36, sz46, sz47, sz48, sz49, sz50, sz51] <;> omega) | (simp only [rng, Ix.val, Int.toNat_natCast, mulE_eq, addQ_eq, addI, Option.getD_none, Option.getD_some, List.length_take, List.length_drop, List.length_append, List.length_set, List.length_replicate, sz5, sz22, sz23, sz25, sz36, sz46, sz47, sz48, sz49, sz50, sz51, *] <;> omega) | (simp only [Ix.val]; with_reducible assumption) | exact UInt8.toNat_lt _ | (apply Eq.trans; (with_reducible assumption); exact rfl) | exact rfl | exact fun _ _ => rfl)) ?_)
    refine Branch.intro (fun h => h.elim) (fun _ => ?_)
    refine Call.intro (fn15 tabS tabB (keysOf (exK 32)) (exB 32) tabS_length (backGo_length 256) (keysOf_length hkl) hbl) [(1000, (1001, 0, none))] rfl (by repeat' (first | (show AllP _; first | exact trivial | refine AllP.app ?_ ?_ | refine AllP.appd ?_ ?_ | refine AllP.cons ?_ ?_) | with_reducible rfl | omega | with_reducible assumption | (simp only [rng, Ix.val, addQ_eq, addI, sz5, sz22, sz23, sz25, sz36, sz46, sz47, sz48, sz49, sz50, sz51] <;> omega) | (simp only [rng, Ix.val, Int.toNat_natCast, mulE_eq, addQ_eq, addI, Option.getD_none, Option.getD_some, List.length_take, List.length_drop, List.length_append, List.length_set, List.length_replicate, sz5, sz22, sz23, sz25, sz36, sz46, sz47, sz48, sz49, sz50, sz51, *] <;> omega) | (simp only [Ix.val]; with_reducible assumption) | exact UInt8.toNat_lt _ | (apply Eq.trans; (with_reducible assumption); exact rfl) | exact rfl | exact fun _ _ => rfl)) rfl (by repeat' (first | (show AllP _; first | exact trivial | refine AllP.app ?_ ?_ | refine AllP.appd ?_ ?_ | refine AllP.cons ?_ ?_) | with_reducible rfl | omega | with_reducible assumption | (simp only [rng, Ix.val, addQ_eq, addI, sz5, sz22, sz23, sz25, sz36, sz46, sz47, sz48, sz49, sz50, sz51] <;> omega) | (simp only [rng, Ix.val, Int.toNat_natCast, mulE_eq, addQ_eq, addI, Option.getD_none, Option.getD_some, List.length_take, List.length_drop, List.length_append, List.length_set, List.length_replicate, sz5, sz22, sz23, sz25, sz36, sz46, sz47, sz48, sz49, sz50, sz51, *] <;> omega) | (simp only [Ix.val]; with_reducible assumption) | exact UInt8.toNat_lt _ | (apply Eq.trans; (with_reducible assumption); exact rfl) | exact rfl | exact fun _ _ => rfl)) rfl ?_
    rintro v M' ⟨rfl, rfl⟩
    have hll := lockGo_length tabS (keysOf (exK 32)) hbl 14
    obtain ⟨v0, v15⟩ := alive_val
    repeat (refine Side.intro (by repeat' (first | (show AllP _; first | exact trivial | refine AllP.app ?_ ?_ | refine AllP.appd ?_ ?_ | refine AllP.cons ?_ ?_) | with_reducible rfl | omega | with_reducible assumption | (simp only [rng, Ix.val, addQ_eq, addI, sz5, sz22, sz23, sz25, sz36, sz46, sz47, sz48, sz49, sz50, sz51] <;> omega) | (simp only [rng, Ix.val, Int.toNat_natCast, mulE_eq, addQ_eq, addI, Option.getD_none, Option.getD_some, List.length_take, List.length_drop, List.length_append, List.length_set, List.length_replicate, sz5, sz22, sz23, sz25, sz36, sz46, sz47, sz48, sz49, sz50, sz51, *] <;> omega) | (simp only [Ix.val]; with_reducible assumption) | exact UInt8.toNat_lt _ | (apply Eq.trans; (with_reducible assumption); exact rfl) | exact rfl | exact fun _ _ => rfl)) ?_)
    refine Branch.intro (fun h5 => ?_) (fun h5 => ?_)
    · repeat (refine Side.intro (by repeat' (first | (show AllP _; first | exact trivial | refine AllP.app ?_ ?_ | refine AllP.appd ?_ ?_ | refine AllP.cons ?_ ?_) | with_reducible rfl | omega | with_reducible assumption | (simp only [rng, Ix.val, addQ_eq, addI, sz5, sz22, sz23, sz25, sz36, sz46, sz47, sz48, sz49, sz50, sz51] <;> omega) | (simp only [rng, Ix.val, Int.toNat_natCast, mulE_eq, addQ_eq, addI, Option.getD_none, Option.getD_some, List.length_take, List.length_drop, List.length_append, List.length_set, List.length_replicate, sz5, sz22, sz23, sz25, sz36, sz46, sz47, sz48, sz49, sz50, sz51, *] <;> omega) | (simp only [Ix.val]; with_reducible assumption) | exact UInt8.toNat_lt _ | (apply Eq.trans; (with_reducible assumption); exact rfl) | exact rfl | exact fun _ _ => rfl)) ?_)
      exact Ret.intro .tt [] [] rfl trivial rfl rfl v15 rfl trivial rfl
    · exact absurd v0 h5

end Go.Proofs.Ytgfbbmcdbohbhaa

namespace Go.Proofs.Ytgfbbmcdbohbhaa
open Go Go.Sx

/-! What was locked is unlocked as it was, and the other way round: plain. -/

def natS : List Nat := [99, 124, 119, 123, 242, 107, 111, 197, 48, 1, 103, 43, 254, 215, 171, 118, 202, 130, 201, 125, 250, 89, 71,
240, 173, 212, 162, 175, 156, 164, 114, 192, 183, 253, 147, 38, 54, 63, 247, 204, 52, 165, 229, 241, 113, 216,
49, 21, 4, 199, 35, 195, 24, 150, 5, 154, 7, 18, 128, 226, 235, 39, 178, 117, 9, 131, 44, 26, 27, 110, 90,
160, 82, 59, 214, 179, 41, 227, 47, 132, 83, 209, 0, 237, 32, 252, 177, 91, 106, 203, 190, 57, 74, 76, 88,
207, 208, 239, 170, 251, 67, 77, 51, 133, 69, 249, 2, 127, 80, 60, 159, 168, 81, 163, 64, 143, 146, 157, 56,
245, 188, 182, 218, 33, 16, 255, 243, 210, 205, 12, 19, 236, 95, 151, 68, 23, 196, 167, 126, 61, 100, 93, 25,
115, 96, 129, 79, 220, 34, 42, 144, 136, 70, 238, 184, 20, 222, 94, 11, 219, 224, 50, 58, 10, 73, 6, 36, 92,
194, 211, 172, 98, 145, 149, 228, 121, 231, 200, 55, 109, 141, 213, 78, 169, 108, 86, 244, 234, 101, 122, 174,
8, 186, 120, 37, 46, 28, 166, 180, 198, 232, 221, 116, 31, 75, 189, 139, 138, 112, 62, 181, 102, 72, 3, 246,
14, 97, 53, 87, 185, 134, 193, 29, 158, 225, 248, 152, 17, 105, 217, 142, 148, 155, 30, 135, 233, 206, 85, 40,
223, 140, 161, 137, 13, 191, 230, 66, 104, 65, 153, 45, 15, 176, 84, 187, 22]
def natB : List Nat := [82, 9, 106, 213, 48, 54, 165, 56, 191, 64, 163, 158, 129, 243, 215, 251, 124, 227, 57, 130, 155, 47, 255, 135,
52, 142, 67, 68, 196, 222, 233, 203, 84, 123, 148, 50, 166, 194, 35, 61, 238, 76, 149, 11, 66, 250, 195, 78,
8, 46, 161, 102, 40, 217, 36, 178, 118, 91, 162, 73, 109, 139, 209, 37, 114, 248, 246, 100, 134, 104, 152, 22,
212, 164, 92, 204, 93, 101, 182, 146, 108, 112, 72, 80, 253, 237, 185, 218, 94, 21, 70, 87, 167, 141, 157,
132, 144, 216, 171, 0, 140, 188, 211, 10, 247, 228, 88, 5, 184, 179, 69, 6, 208, 44, 30, 143, 202, 63, 15, 2,
193, 175, 189, 3, 1, 19, 138, 107, 58, 145, 17, 65, 79, 103, 220, 234, 151, 242, 207, 206, 240, 180, 230, 115,
150, 172, 116, 34, 231, 173, 53, 133, 226, 249, 55, 232, 28, 117, 223, 110, 71, 241, 26, 113, 29, 41, 197,
137, 111, 183, 98, 14, 170, 24, 190, 27, 252, 86, 62, 75, 198, 210, 121, 32, 154, 219, 192, 254, 120, 205, 90,
244, 31, 221, 168, 51, 136, 7, 199, 49, 177, 18, 16, 89, 39, 128, 236, 95, 96, 81, 127, 169, 25, 181, 74, 13,
45, 229, 122, 159, 147, 201, 156, 239, 160, 224, 59, 77, 174, 42, 245, 176, 200, 235, 187, 60, 131, 83, 153,
97, 23, 43, 4, 126, 186, 119, 214, 38, 225, 105, 20, 99, 85, 33, 12, 125]

set_option maxRecDepth 1000000 in
theorem tabS_nat : tabS.map UInt8.toNat = natS := by kernel_rfl
set_option maxRecDepth 1000000 in
theorem tabB_nat : tabB.map UInt8.toNat = natB := by kernel_rfl
set_option maxRecDepth 1000000 in
theorem natBS : (List.range 256).all (fun i => Nat.beq (natB.getD (natS.getD i 0) 0) i) = true := by kernel_rfl
set_option maxRecDepth 1000000 in
theorem natSB : (List.range 256).all (fun i => Nat.beq (natS.getD (natB.getD i 0) 0) i) = true := by kernel_rfl

theorem getD_map (l : List UInt8) (i : Nat) : (l.map UInt8.toNat).getD i 0 = (l.getD i 0).toNat := by
  simp only [List.getD_eq_getElem?_getD, List.getElem?_map]
  cases l[i]? <;> rfl

theorem back_s (x : UInt8) : tabB.getD (tabS.getD x.toNat 0).toNat 0 = x := by
  apply UInt8.toNat_inj.1
  rw [← getD_map, ← getD_map, tabS_nat, tabB_nat]
  exact Nat.eq_of_beq_eq_true (List.all_eq_true.1 natBS x.toNat (List.mem_range.2 x.toNat_lt))
theorem s_back (x : UInt8) : tabS.getD (tabB.getD x.toNat 0).toNat 0 = x := by
  apply UInt8.toNat_inj.1
  rw [← getD_map, ← getD_map, tabS_nat, tabB_nat]
  exact Nat.eq_of_beq_eq_true (List.all_eq_true.1 natSB x.toNat (List.mem_range.2 x.toNat_lt))

theorem len16 {l : List UInt8} (h : l.length = 16) : ∃ a0 a1 a2 a3 a4 a5 a6 a7 a8 a9 a10 a11 a12 a13 a14 a15, l = [a0, a1, a2, a3, a4, a5, a6, a7, a8, a9, a10, a11, a12, a13, a14, a15] := by
  match l, h with
  | [a0, a1, a2, a3, a4, a5, a6, a7, a8, a9, a10, a11, a12, a13, a14, a15], _ => exact ⟨a0, a1, a2, a3, a4, a5, a6, a7, a8, a9, a10, a11, a12, a13, a14, a15, rfl⟩

theorem unsub_sub {b : List UInt8} (h : b.length = 16) : unsub tabB (subT tabS b 16) 16 = b := by
  obtain ⟨a0, a1, a2, a3, a4, a5, a6, a7, a8, a9, a10, a11, a12, a13, a14, a15, rfl⟩ := len16 h
  have : unsub tabB (subT tabS [a0, a1, a2, a3, a4, a5, a6, a7, a8, a9, a10, a11, a12, a13, a14, a15] 16) 16 =
    [a0, a1, a2, a3, a4, a5, a6, a7, a8, a9, a10, a11, a12, a13, a14, a15].map (fun x => tabB.getD (tabS.getD x.toNat 0).toNat 0) := by kernel_rfl
  rw [this, List.map_congr_left (g := id) (fun x _ => back_s x), List.map_id]
theorem sub_unsub {b : List UInt8} (h : b.length = 16) : subT tabS (unsub tabB b 16) 16 = b := by
  obtain ⟨a0, a1, a2, a3, a4, a5, a6, a7, a8, a9, a10, a11, a12, a13, a14, a15, rfl⟩ := len16 h
  have : subT tabS (unsub tabB [a0, a1, a2, a3, a4, a5, a6, a7, a8, a9, a10, a11, a12, a13, a14, a15] 16) 16 =
    [a0, a1, a2, a3, a4, a5, a6, a7, a8, a9, a10, a11, a12, a13, a14, a15].map (fun x => tabS.getD (tabB.getD x.toNat 0).toNat 0) := by kernel_rfl
  rw [this, List.map_congr_left (g := id) (fun x _ => s_back x), List.map_id]

theorem add_add {k b : List UInt8} (hk : k.length = 16) (h : b.length = 16) : addTo k 16 (addTo k 16 b) = b := by
  obtain ⟨a0, a1, a2, a3, a4, a5, a6, a7, a8, a9, a10, a11, a12, a13, a14, a15, rfl⟩ := len16 h
  obtain ⟨k0, k1, k2, k3, k4, k5, k6, k7, k8, k9, k10, k11, k12, k13, k14, k15, rfl⟩ := len16 hk
  have : addTo [k0, k1, k2, k3, k4, k5, k6, k7, k8, k9, k10, k11, k12, k13, k14, k15] 16 (addTo [k0, k1, k2, k3, k4, k5, k6, k7, k8, k9, k10, k11, k12, k13, k14, k15] 16 [a0, a1, a2, a3, a4, a5, a6, a7, a8, a9, a10, a11, a12, a13, a14, a15]) = [a0 ^^^ k0 ^^^ k0, a1 ^^^ k1 ^^^ k1, a2 ^^^ k2 ^^^ k2, a3 ^^^ k3 ^^^ k3, a4 ^^^ k4 ^^^ k4, a5 ^^^ k5 ^^^ k5, a6 ^^^ k6 ^^^ k6, a7 ^^^ k7 ^^^ k7, a8 ^^^ k8 ^^^ k8, a9 ^^^ k9 ^^^ k9, a10 ^^^ k10 ^^^ k10, a11 ^^^ k11 ^^^ k11, a12 ^^^ k12 ^^^ k12, a13 ^^^ k13 ^^^ k13, a14 ^^^ k14 ^^^ k14, a15 ^^^ k15 ^^^ k15] := by kernel_rfl
  rw [this]
  simp only [UInt8.xor_assoc, UInt8.xor_self, UInt8.xor_zero]

end Go.Proofs.Ytgfbbmcdbohbhaa

namespace Go.Proofs.Ytgfbbmcdbohbhaa
open Go Go.Sx

/-! The mixing of columns and its inverse: plain. -/

theorem shl8_xor (a b : UInt8) : shl8 (a ^^^ b) 1 = shl8 a 1 ^^^ shl8 b 1 := by
  unfold shl8
  rw [UInt8.toNat_xor, Nat.shiftLeft_xor_distrib]
  apply UInt8.toNat_inj.1
  rw [UInt8.toNat_xor, UInt8.toNat_ofNat', UInt8.toNat_ofNat', UInt8.toNat_ofNat', Nat.xor_mod_two_pow]

theorem top_iff {n : Nat} (h : n < 256) : n < 128 ↔ n.testBit 7 = false := by
  rw [Nat.testBit_eq_decide_div_mod_eq, decide_eq_false_iff_not]; omega

theorem dbl_xor (a b : UInt8) : dbl (a ^^^ b) = dbl a ^^^ dbl b := by
  have ha := top_iff a.toNat_lt
  have hb := top_iff b.toNat_lt
  have hab := top_iff (a ^^^ b).toNat_lt
  rw [UInt8.toNat_xor, Nat.testBit_xor] at hab
  unfold dbl
  rw [shl8_xor, UInt8.toNat_xor]
  cases h1 : a.toNat.testBit 7 <;> cases h2 : b.toNat.testBit 7 <;> simp only [h1, h2, Bool.xor_self, Bool.xor_false, Bool.false_xor, iff_true, iff_false, Bool.true_eq_false] at ha hb hab <;> simp only [ha, hb, hab, if_true, if_false]
  · ac_rfl
  · ac_rfl
  · rw [show shl8 a 1 ^^^ 27 ^^^ (shl8 b 1 ^^^ 27) = shl8 a 1 ^^^ shl8 b 1 ^^^ (27 ^^^ 27) by ac_rfl, UInt8.xor_self, UInt8.xor_zero]

theorem tms_xor : ∀ (n : Nat) (a b m p q : UInt8), tms n (a ^^^ b) m (p ^^^ q) = tms n a m p ^^^ tms n b m q
  | 0, _, _, _, _, _ => rfl
  | n + 1, a, b, m, p, q => by
    simp only [tms]
    rw [dbl_xor, ← tms_xor n]
    congr 1
    split
    · ac_rfl
    · rfl

theorem times_xor (a b m : UInt8) : times (a ^^^ b) m = times a m ^^^ times b m := by
  unfold times
  rw [← tms_xor, UInt8.xor_self]

def col (m0 m1 m2 m3 x0 x1 x2 x3 : UInt8) : UInt8 := 0 ^^^ times x0 m0 ^^^ times x1 m1 ^^^ times x2 m2 ^^^ times x3 m3

theorem mix_list (a0 a1 a2 a3 a4 a5 a6 a7 a8 a9 a10 a11 a12 a13 a14 a15 m0 m1 m2 m3 : UInt8) : mixI [a0, a1, a2, a3, a4, a5, a6, a7, a8, a9, a10, a11, a12, a13, a14, a15] [m0, m1, m2, m3] 16 =
  [col m0 m1 m2 m3 a0 a1 a2 a3, col m0 m1 m2 m3 a1 a2 a3 a0, col m0 m1 m2 m3 a2 a3 a0 a1, col m0 m1 m2 m3 a3 a0 a1 a2, col m0 m1 m2 m3 a4 a5 a6 a7, col m0 m1 m2 m3 a5 a6 a7 a4, col m0 m1 m2 m3 a6 a7 a4 a5, col m0 m1 m2 m3 a7 a4 a5 a6, col m0 m1 m2 m3 a8 a9 a10 a11, col m0 m1 m2 m3 a9 a10 a11 a8, col m0 m1 m2 m3 a10 a11 a8 a9, col m0 m1 m2 m3 a11 a8 a9 a10, col m0 m1 m2 m3 a12 a13 a14 a15, col m0 m1 m2 m3 a13 a14 a15 a12, col m0 m1 m2 m3 a14 a15 a12 a13, col m0 m1 m2 m3 a15 a12 a13 a14] := by kernel_rfl

theorem zero_xor8 (a : UInt8) : 0 ^^^ a = a := UInt8.zero_xor

set_option maxRecDepth 1000000 in
theorem nat_ab0 : (List.range 256).all (fun i => Nat.beq (times (times (UInt8.ofNat i) 2) 14 ^^^ times (times (UInt8.ofNat i) 1) 11 ^^^ times (times (UInt8.ofNat i) 1) 13 ^^^ times (times (UInt8.ofNat i) 3) 9).toNat i) = true := by kernel_rfl
theorem fold_ab0 (x : UInt8) : times (times x 2) 14 ^^^ times (times x 1) 11 ^^^ times (times x 1) 13 ^^^ times (times x 3) 9 = x := by
  have := Nat.eq_of_beq_eq_true (List.all_eq_true.1 nat_ab0 x.toNat (List.mem_range.2 x.toNat_lt))
  rw [UInt8.ofNat_toNat] at this
  exact UInt8.toNat_inj.1 this
set_option maxRecDepth 1000000 in
theorem nat_ab1 : (List.range 256).all (fun i => Nat.beq (times (times (UInt8.ofNat i) 3) 14 ^^^ times (times (UInt8.ofNat i) 2) 11 ^^^ times (times (UInt8.ofNat i) 1) 13 ^^^ times (times (UInt8.ofNat i) 1) 9).toNat 0) = true := by kernel_rfl
theorem fold_ab1 (x : UInt8) : times (times x 3) 14 ^^^ times (times x 2) 11 ^^^ times (times x 1) 13 ^^^ times (times x 1) 9 = 0 := by
  have := Nat.eq_of_beq_eq_true (List.all_eq_true.1 nat_ab1 x.toNat (List.mem_range.2 x.toNat_lt))
  rw [UInt8.ofNat_toNat] at this
  exact UInt8.toNat_inj.1 this
set_option maxRecDepth 1000000 in
theorem nat_ab2 : (List.range 256).all (fun i => Nat.beq (times (times (UInt8.ofNat i) 1) 14 ^^^ times (times (UInt8.ofNat i) 3) 11 ^^^ times (times (UInt8.ofNat i) 2) 13 ^^^ times (times (UInt8.ofNat i) 1) 9).toNat 0) = true := by kernel_rfl
theorem fold_ab2 (x : UInt8) : times (times x 1) 14 ^^^ times (times x 3) 11 ^^^ times (times x 2) 13 ^^^ times (times x 1) 9 = 0 := by
  have := Nat.eq_of_beq_eq_true (List.all_eq_true.1 nat_ab2 x.toNat (List.mem_range.2 x.toNat_lt))
  rw [UInt8.ofNat_toNat] at this
  exact UInt8.toNat_inj.1 this
set_option maxRecDepth 1000000 in
theorem nat_ab3 : (List.range 256).all (fun i => Nat.beq (times (times (UInt8.ofNat i) 1) 14 ^^^ times (times (UInt8.ofNat i) 1) 11 ^^^ times (times (UInt8.ofNat i) 3) 13 ^^^ times (times (UInt8.ofNat i) 2) 9).toNat 0) = true := by kernel_rfl
theorem fold_ab3 (x : UInt8) : times (times x 1) 14 ^^^ times (times x 1) 11 ^^^ times (times x 3) 13 ^^^ times (times x 2) 9 = 0 := by
  have := Nat.eq_of_beq_eq_true (List.all_eq_true.1 nat_ab3 x.toNat (List.mem_range.2 x.toNat_lt))
  rw [UInt8.ofNat_toNat] at this
  exact UInt8.toNat_inj.1 this
theorem col_ab (x0 x1 x2 x3 : UInt8) : col 14 11 13 9 (col 2 3 1 1 x0 x1 x2 x3) (col 2 3 1 1 x1 x2 x3 x0) (col 2 3 1 1 x2 x3 x0 x1) (col 2 3 1 1 x3 x0 x1 x2) = x0 := by
  unfold col
  simp only [zero_xor8, times_xor]
  have e : ∀ a b c d e f g h i j k l m n o p : UInt8, a ^^^ b ^^^ c ^^^ d ^^^ (e ^^^ f ^^^ g ^^^ h) ^^^ (i ^^^ j ^^^ k ^^^ l) ^^^ (m ^^^ n ^^^ o ^^^ p) =
      (a ^^^ h ^^^ k ^^^ n) ^^^ (b ^^^ e ^^^ l ^^^ o) ^^^ (c ^^^ f ^^^ i ^^^ p) ^^^ (d ^^^ g ^^^ j ^^^ m) := by intros; ac_rfl
  rw [e, fold_ab0, fold_ab1, fold_ab2, fold_ab3, UInt8.xor_zero, UInt8.xor_zero, UInt8.xor_zero]

theorem mix_ab {b : List UInt8} (h : b.length = 16) : mixI (mixI b [2, 3, 1, 1] 16) [14, 11, 13, 9] 16 = b := by
  obtain ⟨a0, a1, a2, a3, a4, a5, a6, a7, a8, a9, a10, a11, a12, a13, a14, a15, rfl⟩ := len16 h
  rw [mix_list, mix_list]
  simp only [col_ab]

set_option maxRecDepth 1000000 in
theorem nat_ba0 : (List.range 256).all (fun i => Nat.beq (times (times (UInt8.ofNat i) 14) 2 ^^^ times (times (UInt8.ofNat i) 9) 3 ^^^ times (times (UInt8.ofNat i) 13) 1 ^^^ times (times (UInt8.ofNat i) 11) 1).toNat i) = true := by kernel_rfl
theorem fold_ba0 (x : UInt8) : times (times x 14) 2 ^^^ times (times x 9) 3 ^^^ times (times x 13) 1 ^^^ times (times x 11) 1 = x := by
  have := Nat.eq_of_beq_eq_true (List.all_eq_true.1 nat_ba0 x.toNat (List.mem_range.2 x.toNat_lt))
  rw [UInt8.ofNat_toNat] at this
  exact UInt8.toNat_inj.1 this
set_option maxRecDepth 1000000 in
theorem nat_ba1 : (List.range 256).all (fun i => Nat.beq (times (times (UInt8.ofNat i) 11) 2 ^^^ times (times (UInt8.ofNat i) 14) 3 ^^^ times (times (UInt8.ofNat i) 9) 1 ^^^ times (times (UInt8.ofNat i) 13) 1).toNat 0) = true := by kernel_rfl
theorem fold_ba1 (x : UInt8) : times (times x 11) 2 ^^^ times (times x 14) 3 ^^^ times (times x 9) 1 ^^^ times (times x 13) 1 = 0 := by
  have := Nat.eq_of_beq_eq_true (List.all_eq_true.1 nat_ba1 x.toNat (List.mem_range.2 x.toNat_lt))
  rw [UInt8.ofNat_toNat] at this
  exact UInt8.toNat_inj.1 this
set_option maxRecDepth 1000000 in
theorem nat_ba2 : (List.range 256).all (fun i => Nat.beq (times (times (UInt8.ofNat i) 13) 2 ^^^ times (times (UInt8.ofNat i) 11) 3 ^^^ times (times (UInt8.ofNat i) 14) 1 ^^^ times (times (UInt8.ofNat i) 9) 1).toNat 0) = true := by kernel_rfl
theorem fold_ba2 (x : UInt8) : times (times x 13) 2 ^^^ times (times x 11) 3 ^^^ times (times x 14) 1 ^^^ times (times x 9) 1 = 0 := by
  have := Nat.eq_of_beq_eq_true (List.all_eq_true.1 nat_ba2 x.toNat (List.mem_range.2 x.toNat_lt))
  rw [UInt8.ofNat_toNat] at this
  exact UInt8.toNat_inj.1 this
set_option maxRecDepth 1000000 in
theorem nat_ba3 : (List.range 256).all (fun i => Nat.beq (times (times (UInt8.ofNat i) 9) 2 ^^^ times (times (UInt8.ofNat i) 13) 3 ^^^ times (times (UInt8.ofNat i) 11) 1 ^^^ times (times (UInt8.ofNat i) 14) 1).toNat 0) = true := by kernel_rfl
theorem fold_ba3 (x : UInt8) : times (times x 9) 2 ^^^ times (times x 13) 3 ^^^ times (times x 11) 1 ^^^ times (times x 14) 1 = 0 := by
  have := Nat.eq_of_beq_eq_true (List.all_eq_true.1 nat_ba3 x.toNat (List.mem_range.2 x.toNat_lt))
  rw [UInt8.ofNat_toNat] at this
  exact UInt8.toNat_inj.1 this
theorem col_ba (x0 x1 x2 x3 : UInt8) : col 2 3 1 1 (col 14 11 13 9 x0 x1 x2 x3) (col 14 11 13 9 x1 x2 x3 x0) (col 14 11 13 9 x2 x3 x0 x1) (col 14 11 13 9 x3 x0 x1 x2) = x0 := by
  unfold col
  simp only [zero_xor8, times_xor]
  have e : ∀ a b c d e f g h i j k l m n o p : UInt8, a ^^^ b ^^^ c ^^^ d ^^^ (e ^^^ f ^^^ g ^^^ h) ^^^ (i ^^^ j ^^^ k ^^^ l) ^^^ (m ^^^ n ^^^ o ^^^ p) =
      (a ^^^ h ^^^ k ^^^ n) ^^^ (b ^^^ e ^^^ l ^^^ o) ^^^ (c ^^^ f ^^^ i ^^^ p) ^^^ (d ^^^ g ^^^ j ^^^ m) := by intros; ac_rfl
  rw [e, fold_ba0, fold_ba1, fold_ba2, fold_ba3, UInt8.xor_zero, UInt8.xor_zero, UInt8.xor_zero]

theorem mix_ba {b : List UInt8} (h : b.length = 16) : mixI (mixI b [14, 11, 13, 9] 16) [2, 3, 1, 1] 16 = b := by
  obtain ⟨a0, a1, a2, a3, a4, a5, a6, a7, a8, a9, a10, a11, a12, a13, a14, a15, rfl⟩ := len16 h
  rw [mix_list, mix_list]
  simp only [col_ba]

end Go.Proofs.Ytgfbbmcdbohbhaa
