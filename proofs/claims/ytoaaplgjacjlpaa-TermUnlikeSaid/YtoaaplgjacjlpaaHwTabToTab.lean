/- What the functions of the program compute. No condition. -/
import Derived.Test.YtoaaplgjacjlpaaHx6
import Derived.Test.YtoaaplgjacjlpaaProg
import Derived.KernelRfl
set_option linter.unusedSimpArgs false
set_option linter.unusedVariables false
namespace Go.Proofs.Ytoaaplgjacjlpaa
open Go Go.Sx

def tys : List Ty := [
  badTy,
  badTy,
  ⟨.int .i64, 1, 8, [(1, .i .i64 0)]⟩,
  ⟨.int .i64, 1, 8, [(1, .i .i64 0)]⟩,
  ⟨.bool, 1, 1, [(1, .ff)]⟩,
  ⟨.int .u8, 1, 1, [(1, .u8 0)]⟩,
  ⟨.int .u8, 1, 1, [(1, .u8 0)]⟩,
  ⟨.struct [(0, 2), (1, 3), (2, 4), (3, 6)], 4, 24, [(1, .i .i64 0), (1, .i .i64 0), (1, .ff), (1, .u8 0)]⟩,
  ⟨.struct [(0, 2), (1, 3), (2, 4), (3, 6)], 4, 24, [(1, .i .i64 0), (1, .i .i64 0), (1, .ff), (1, .u8 0)]⟩,
  ⟨.string, 1, 16, [(1, .str [])]⟩,
  ⟨.string, 1, 16, [(1, .str [])]⟩,
  ⟨.string, 1, 16, [(1, .str [])]⟩,
  ⟨.int .u64, 1, 8, [(1, .u64 0)]⟩,
  ⟨.struct [(0, 9), (1, 12)], 2, 24, [(1, .str []), (1, .u64 0)]⟩,
  ⟨.struct [(0, 9), (1, 12)], 2, 24, [(1, .str []), (1, .u64 0)]⟩,
  ⟨.pointer 96, 1, 8, [(1, .nilp)]⟩,
  ⟨.pointer 99, 1, 8, [(1, .nilp)]⟩,
  ⟨.pointer 108, 1, 8, [(1, .nilp)]⟩,
  ⟨.struct [(0, 17)], 1, 8, [(1, .nilp)]⟩,
  ⟨.struct [(0, 17)], 1, 8, [(1, .nilp)]⟩,
  badTy,
  ⟨.int .i32, 1, 4, [(1, .i .i32 0)]⟩,
  ⟨.slice 48, 1, 24, [(1, .nsl)]⟩,
  ⟨.slice 36, 1, 24, [(1, .nsl)]⟩,
  badTy,
  ⟨.pointer 69, 1, 8, [(1, .nilp)]⟩,
  badTy,
  ⟨.pointer 30, 1, 8, [(1, .nilp)]⟩,
  ⟨.slice 57, 1, 24, [(1, .nsl)]⟩,
  ⟨.struct [(0, 28)], 1, 24, [(1, .nsl)]⟩,
  ⟨.struct [(0, 28)], 1, 24, [(1, .nsl)]⟩,
  badTy,
  ⟨.slice 33, 1, 24, [(1, .nsl)]⟩,
  ⟨.slice 5, 1, 24, [(1, .nsl)]⟩,
  ⟨.slice 3, 1, 24, [(1, .nsl)]⟩,
  ⟨.struct [(0, 34), (1, 33)], 2, 48, [(1, .nsl), (1, .nsl)]⟩,
  ⟨.struct [(0, 34), (1, 33)], 2, 48, [(1, .nsl), (1, .nsl)]⟩,
  badTy,
  ⟨.pointer 74, 1, 8, [(1, .nilp)]⟩,
  badTy,
  ⟨.slice 4, 1, 24, [(1, .nsl)]⟩,
  badTy,
  ⟨.array 32 5, 32, 32, [(32, .a8 (List.replicate 32 0))]⟩,
  badTy,
  badTy,
  badTy,
  badTy,
  ⟨.struct [(0, 3), (1, 23)], 2, 32, [(1, .i .i64 0), (1, .nsl)]⟩,
  ⟨.struct [(0, 3), (1, 23)], 2, 32, [(1, .i .i64 0), (1, .nsl)]⟩,
  ⟨.array 32 5, 32, 32, [(32, .a8 (List.replicate 32 0))]⟩,
  badTy,
  badTy,
  badTy,
  badTy,
  badTy,
  badTy,
  ⟨.struct [(0, 3), (1, 32)], 2, 32, [(1, .i .i64 0), (1, .nsl)]⟩,
  ⟨.struct [(0, 3), (1, 32)], 2, 32, [(1, .i .i64 0), (1, .nsl)]⟩,
  badTy,
  ⟨.slice 49, 1, 24, [(1, .nsl)]⟩,
  badTy,
  badTy,
  badTy,
  badTy,
  badTy,
  badTy,
  ⟨.map 9 3, 1, 8, [(1, .nilmp)]⟩,
  ⟨.slice 78, 1, 24, [(1, .nsl)]⟩,
  ⟨.struct [(0, 67), (1, 66)], 2, 32, [(1, .nsl), (1, .nilmp)]⟩,
  ⟨.struct [(0, 67), (1, 66)], 2, 32, [(1, .nsl), (1, .nilmp)]⟩,
  badTy,
  badTy,
  badTy,
  ⟨.struct [(0, 25), (1, 3), (2, 40)], 3, 40, [(1, .nilp), (1, .i .i64 0), (1, .nsl)]⟩,
  ⟨.struct [(0, 25), (1, 3), (2, 40)], 3, 40, [(1, .nilp), (1, .i .i64 0), (1, .nsl)]⟩,
  badTy,
  ⟨.slice 34, 1, 24, [(1, .nsl)]⟩,
  ⟨.struct [(0, 3), (1, 32), (2, 76)], 3, 56, [(1, .i .i64 0), (1, .nsl), (1, .nsl)]⟩,
  ⟨.struct [(0, 3), (1, 32), (2, 76)], 3, 56, [(1, .i .i64 0), (1, .nsl), (1, .nsl)]⟩,
  badTy,
  badTy,
  badTy,
  badTy,
  badTy,
  badTy,
  badTy,
  badTy,
  ⟨.int .u64, 1, 8, [(1, .u64 0)]⟩,
  badTy,
  badTy,
  ⟨.int .u64, 1, 8, [(1, .u64 0)]⟩,
  badTy,
  badTy,
  badTy,
  badTy,
  ⟨.struct [(0, 17), (1, 17), (2, 17), (3, 9)], 4, 40, [(1, .nilp), (1, .nilp), (1, .nilp), (1, .str [])]⟩,
  ⟨.struct [(0, 17), (1, 17), (2, 17), (3, 9)], 4, 40, [(1, .nilp), (1, .nilp), (1, .nilp), (1, .str [])]⟩,
  badTy,
  badTy,
  badTy,
  ⟨.int .u32, 1, 4, [(1, .u32 0)]⟩,
  ⟨.int .u8, 1, 1, [(1, .u8 0)]⟩,
  ⟨.int .u8, 1, 1, [(1, .u8 0)]⟩,
  badTy,
  ⟨.pointer 5, 1, 8, [(1, .nilp)]⟩,
  ⟨.int .i32, 1, 4, [(1, .i .i32 0)]⟩,
  ⟨.int .i32, 1, 4, [(1, .i .i32 0)]⟩,
  ⟨.struct [(0, 12), (1, 12), (2, 100), (3, 101), (4, 5), (5, 5), (6, 102), (7, 103), (8, 104), (9, 105), (10, 106)], 11, 48, [(1, .u64 0), (1, .u64 0), (1, .u32 0), (1, .u8 0), (1, .u8 0), (1, .u8 0), (1, .u8 0), (1, .raw .nilFunc), (1, .nilp), (1, .i .i32 0), (1, .i .i32 0)]⟩,
  ⟨.struct [(0, 12), (1, 12), (2, 100), (3, 101), (4, 5), (5, 5), (6, 102), (7, 103), (8, 104), (9, 105), (10, 106)], 11, 48, [(1, .u64 0), (1, .u64 0), (1, .u32 0), (1, .u8 0), (1, .u8 0), (1, .u8 0), (1, .u8 0), (1, .raw .nilFunc), (1, .nilp), (1, .i .i32 0), (1, .i .i32 0)]⟩]

noncomputable def cx : Ctx where
  P := Try.prog
  tys := tys
  chk := by kernel_rfl
  mixed := by kernel_rfl

noncomputable def Γ : Cfg where
  toCtx := cx
  calls := [8,9,10,11,12,13,14,15,16,17,18,19,20,21,22,23,24,25,26,27,28,29,30,31,32,33,34,35,36,37,38]
  callsOK := by kernel_rfl

theorem sz2 : (Γ.ty 2).size = 1 := rfl
theorem sz3 : (Γ.ty 3).size = 1 := rfl
theorem sz4 : (Γ.ty 4).size = 1 := rfl
theorem sz5 : (Γ.ty 5).size = 1 := rfl
theorem sz6 : (Γ.ty 6).size = 1 := rfl
theorem sz7 : (Γ.ty 7).size = 4 := rfl
theorem sz8 : (Γ.ty 8).size = 4 := rfl
theorem sz9 : (Γ.ty 9).size = 1 := rfl
theorem sz10 : (Γ.ty 10).size = 1 := rfl
theorem sz11 : (Γ.ty 11).size = 1 := rfl
theorem sz12 : (Γ.ty 12).size = 1 := rfl
theorem sz13 : (Γ.ty 13).size = 2 := rfl
theorem sz14 : (Γ.ty 14).size = 2 := rfl
theorem sz15 : (Γ.ty 15).size = 1 := rfl
theorem sz16 : (Γ.ty 16).size = 1 := rfl
theorem sz17 : (Γ.ty 17).size = 1 := rfl
theorem sz18 : (Γ.ty 18).size = 1 := rfl
theorem sz19 : (Γ.ty 19).size = 1 := rfl
theorem sz21 : (Γ.ty 21).size = 1 := rfl
theorem sz22 : (Γ.ty 22).size = 1 := rfl
theorem sz23 : (Γ.ty 23).size = 1 := rfl
theorem sz25 : (Γ.ty 25).size = 1 := rfl
theorem sz27 : (Γ.ty 27).size = 1 := rfl
theorem sz28 : (Γ.ty 28).size = 1 := rfl
theorem sz29 : (Γ.ty 29).size = 1 := rfl
theorem sz30 : (Γ.ty 30).size = 1 := rfl
theorem sz32 : (Γ.ty 32).size = 1 := rfl
theorem sz33 : (Γ.ty 33).size = 1 := rfl
theorem sz34 : (Γ.ty 34).size = 1 := rfl
theorem sz35 : (Γ.ty 35).size = 2 := rfl
theorem sz36 : (Γ.ty 36).size = 2 := rfl
theorem sz38 : (Γ.ty 38).size = 1 := rfl
theorem sz40 : (Γ.ty 40).size = 1 := rfl
theorem sz42 : (Γ.ty 42).size = 32 := rfl
theorem sz47 : (Γ.ty 47).size = 2 := rfl
theorem sz48 : (Γ.ty 48).size = 2 := rfl
theorem sz49 : (Γ.ty 49).size = 32 := rfl
theorem sz56 : (Γ.ty 56).size = 2 := rfl
theorem sz57 : (Γ.ty 57).size = 2 := rfl
theorem sz59 : (Γ.ty 59).size = 1 := rfl
theorem sz66 : (Γ.ty 66).size = 1 := rfl
theorem sz67 : (Γ.ty 67).size = 1 := rfl
theorem sz68 : (Γ.ty 68).size = 2 := rfl
theorem sz69 : (Γ.ty 69).size = 2 := rfl
theorem sz73 : (Γ.ty 73).size = 3 := rfl
theorem sz74 : (Γ.ty 74).size = 3 := rfl
theorem sz76 : (Γ.ty 76).size = 1 := rfl
theorem sz77 : (Γ.ty 77).size = 3 := rfl
theorem sz78 : (Γ.ty 78).size = 3 := rfl
theorem sz87 : (Γ.ty 87).size = 1 := rfl
theorem sz90 : (Γ.ty 90).size = 1 := rfl
theorem sz95 : (Γ.ty 95).size = 4 := rfl
theorem sz96 : (Γ.ty 96).size = 4 := rfl
theorem sz100 : (Γ.ty 100).size = 1 := rfl
theorem sz101 : (Γ.ty 101).size = 1 := rfl
theorem sz102 : (Γ.ty 102).size = 1 := rfl
theorem sz104 : (Γ.ty 104).size = 1 := rfl
theorem sz105 : (Γ.ty 105).size = 1 := rfl
theorem sz106 : (Γ.ty 106).size = 1 := rfl
theorem sz107 : (Γ.ty 107).size = 11 := rfl
theorem sz108 : (Γ.ty 108).size = 11 := rfl

theorem sd {ps : List Prop} {K : Prop} (k : K) (h : AllP ps := by repeat' (first | (show AllP _; first | exact trivial | refine AllP.app ?_ ?_ | refine AllP.appd ?_ ?_ | refine AllP.cons ?_ ?_) | with_reducible rfl | with_reducible assumption | omega | (simp only [rng, Ix.val, addQ_eq, addI, sz2, sz3, sz4, sz5, sz6, sz7, sz8, sz9, sz10, sz11, sz12, sz13, sz14, sz15, sz16, sz17, sz18, sz19, sz21, sz22, sz23, sz25, sz27, sz28, sz29, sz30, sz32, sz33, sz34, sz35, sz36, sz38, sz40, sz42, sz47, sz48, sz49, sz56, sz57, sz59, sz66, sz67, sz68, sz69, sz73, sz74, sz76, sz77, sz78, sz87, sz90, sz95, sz96, sz100, sz101, sz102, sz104, sz105, sz106, sz107, sz108] <;> omega) | (simp only [rng, Ix.val, Int.toNat_natCast, mulE_eq, addQ_eq, addI, Option.getD_none, Option.getD_some, List.length_take, List.length_drop, List.length_append, List.length_set, List.length_replicate, sz2, sz3, sz4, sz5, sz6, sz7, sz8, sz9, sz10, sz11, sz12, sz13, sz14, sz15, sz16, sz17, sz18, sz19, sz21, sz22, sz23, sz25, sz27, sz28, sz29, sz30, sz32, sz33, sz34, sz35, sz36, sz38, sz40, sz42, sz47, sz48, sz49, sz56, sz57, sz59, sz66, sz67, sz68, sz69, sz73, sz74, sz76, sz77, sz78, sz87, sz90, sz95, sz96, sz100, sz101, sz102, sz104, sz105, sz106, sz107, sz108, *] <;> omega) | (simp only [Ix.val]; with_reducible assumption) | exact UInt8.toNat_lt _ | (apply Eq.trans; (with_reducible assumption); exact rfl) | exact rfl | exact fun _ _ => rfl)) : Side ps K := Side.intro h k
theorem sdn {ps : List Prop} {K : Prop} (k : K) (h : AllP ps := by repeat' (first | (show AllP _; first | exact trivial | refine AllP.app ?_ ?_ | refine AllP.appd ?_ ?_ | refine AllP.cons ?_ ?_) | with_reducible rfl | with_reducible assumption | omega | (simp only [Nat.zero_add, Int.toNat_natCast, rng, Ix.val, addQ_eq, addI, sz2, sz3, sz4, sz5, sz6, sz7, sz8, sz9, sz10, sz11, sz12, sz13, sz14, sz15, sz16, sz17, sz18, sz19, sz21, sz22, sz23, sz25, sz27, sz28, sz29, sz30, sz32, sz33, sz34, sz35, sz36, sz38, sz40, sz42, sz47, sz48, sz49, sz56, sz57, sz59, sz66, sz67, sz68, sz69, sz73, sz74, sz76, sz77, sz78, sz87, sz90, sz95, sz96, sz100, sz101, sz102, sz104, sz105, sz106, sz107, sz108] <;> omega) | (simp only [Nat.zero_add, Int.toNat_natCast, rng, Ix.val, Int.toNat_natCast, mulE_eq, addQ_eq, addI, Option.getD_none, Option.getD_some, List.length_take, List.length_drop, List.length_append, List.length_set, List.length_replicate, sz2, sz3, sz4, sz5, sz6, sz7, sz8, sz9, sz10, sz11, sz12, sz13, sz14, sz15, sz16, sz17, sz18, sz19, sz21, sz22, sz23, sz25, sz27, sz28, sz29, sz30, sz32, sz33, sz34, sz35, sz36, sz38, sz40, sz42, sz47, sz48, sz49, sz56, sz57, sz59, sz66, sz67, sz68, sz69, sz73, sz74, sz76, sz77, sz78, sz87, sz90, sz95, sz96, sz100, sz101, sz102, sz104, sz105, sz106, sz107, sz108, *] <;> omega) | (simp only [Ix.val]; with_reducible assumption) | exact UInt8.toNat_lt _ | (apply Eq.trans; (with_reducible assumption); exact rfl) | exact rfl | exact fun _ _ => rfl)) : Side ps K := Side.intro h k
theorem fc {p : Prop} (h : p := by repeat' (first | (show AllP _; first | exact trivial | refine AllP.app ?_ ?_ | refine AllP.appd ?_ ?_ | refine AllP.cons ?_ ?_) | with_reducible rfl | with_reducible assumption | omega | (simp only [rng, Ix.val, addQ_eq, addI, sz2, sz3, sz4, sz5, sz6, sz7, sz8, sz9, sz10, sz11, sz12, sz13, sz14, sz15, sz16, sz17, sz18, sz19, sz21, sz22, sz23, sz25, sz27, sz28, sz29, sz30, sz32, sz33, sz34, sz35, sz36, sz38, sz40, sz42, sz47, sz48, sz49, sz56, sz57, sz59, sz66, sz67, sz68, sz69, sz73, sz74, sz76, sz77, sz78, sz87, sz90, sz95, sz96, sz100, sz101, sz102, sz104, sz105, sz106, sz107, sz108] <;> omega) | (simp only [rng, Ix.val, Int.toNat_natCast, mulE_eq, addQ_eq, addI, Option.getD_none, Option.getD_some, List.length_take, List.length_drop, List.length_append, List.length_set, List.length_replicate, sz2, sz3, sz4, sz5, sz6, sz7, sz8, sz9, sz10, sz11, sz12, sz13, sz14, sz15, sz16, sz17, sz18, sz19, sz21, sz22, sz23, sz25, sz27, sz28, sz29, sz30, sz32, sz33, sz34, sz35, sz36, sz38, sz40, sz42, sz47, sz48, sz49, sz56, sz57, sz59, sz66, sz67, sz68, sz69, sz73, sz74, sz76, sz77, sz78, sz87, sz90, sz95, sz96, sz100, sz101, sz102, sz104, sz105, sz106, sz107, sz108, *] <;> omega) | (simp only [Ix.val]; with_reducible assumption) | exact UInt8.toNat_lt _ | (apply Eq.trans; (with_reducible assumption); exact rfl) | exact rfl | exact fun _ _ => rfl)) : p := h
theorem fcn {p : Prop} (h : p := by repeat' (first | (show AllP _; first | exact trivial | refine AllP.app ?_ ?_ | refine AllP.appd ?_ ?_ | refine AllP.cons ?_ ?_) | with_reducible rfl | with_reducible assumption | omega | (simp only [Nat.zero_add, Int.toNat_natCast, rng, Ix.val, addQ_eq, addI, sz2, sz3, sz4, sz5, sz6, sz7, sz8, sz9, sz10, sz11, sz12, sz13, sz14, sz15, sz16, sz17, sz18, sz19, sz21, sz22, sz23, sz25, sz27, sz28, sz29, sz30, sz32, sz33, sz34, sz35, sz36, sz38, sz40, sz42, sz47, sz48, sz49, sz56, sz57, sz59, sz66, sz67, sz68, sz69, sz73, sz74, sz76, sz77, sz78, sz87, sz90, sz95, sz96, sz100, sz101, sz102, sz104, sz105, sz106, sz107, sz108] <;> omega) | (simp only [Nat.zero_add, Int.toNat_natCast, rng, Ix.val, Int.toNat_natCast, mulE_eq, addQ_eq, addI, Option.getD_none, Option.getD_some, List.length_take, List.length_drop, List.length_append, List.length_set, List.length_replicate, sz2, sz3, sz4, sz5, sz6, sz7, sz8, sz9, sz10, sz11, sz12, sz13, sz14, sz15, sz16, sz17, sz18, sz19, sz21, sz22, sz23, sz25, sz27, sz28, sz29, sz30, sz32, sz33, sz34, sz35, sz36, sz38, sz40, sz42, sz47, sz48, sz49, sz56, sz57, sz59, sz66, sz67, sz68, sz69, sz73, sz74, sz76, sz77, sz78, sz87, sz90, sz95, sz96, sz100, sz101, sz102, sz104, sz105, sz106, sz107, sz108, *] <;> omega) | (simp only [Ix.val]; with_reducible assumption) | exact UInt8.toNat_lt _ | (apply Eq.trans; (with_reducible assumption); exact rfl) | exact rfl | exact fun _ _ => rfl)) : p := h

end Go.Proofs.Ytoaaplgjacjlpaa
