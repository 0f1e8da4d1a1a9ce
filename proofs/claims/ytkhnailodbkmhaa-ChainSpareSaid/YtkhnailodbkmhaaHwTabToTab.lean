/- What the functions of the program compute. No condition. -/
import Derived.Test.YtkhnailodbkmhaaHx7
import Derived.Test.YtkhnailodbkmhaaProg
import Derived.KernelRfl
set_option linter.unusedSimpArgs false
set_option linter.unusedVariables false
namespace Go.Proofs.Ytkhnailodbkmhaa
open Go Go.Sx
def tys : List Ty := [
  badTy,
  badTy,
  ⟨.int .i64, 1, 8, [(1, .i .i64 0)], false⟩,
  ⟨.int .i64, 1, 8, [(1, .i .i64 0)], false⟩,
  ⟨.bool, 1, 1, [(1, .ff)], false⟩,
  ⟨.int .u8, 1, 1, [(1, .u8 0)], false⟩,
  ⟨.int .u8, 1, 1, [(1, .u8 0)], false⟩,
  ⟨.struct [(0, 2), (1, 3), (2, 4), (3, 6)], 4, 24, [(1, .i .i64 0), (1, .i .i64 0), (1, .ff), (1, .u8 0)], false⟩,
  ⟨.struct [(0, 2), (1, 3), (2, 4), (3, 6)], 4, 24, [(1, .i .i64 0), (1, .i .i64 0), (1, .ff), (1, .u8 0)], false⟩,
  ⟨.string, 1, 16, [(1, .str [])], false⟩,
  ⟨.string, 1, 16, [(1, .str [])], false⟩,
  ⟨.string, 1, 16, [(1, .str [])], false⟩,
  ⟨.int .u64, 1, 8, [(1, .u64 0)], false⟩,
  ⟨.struct [(0, 9), (1, 12)], 2, 24, [(1, .str []), (1, .u64 0)], false⟩,
  ⟨.struct [(0, 9), (1, 12)], 2, 24, [(1, .str []), (1, .u64 0)], false⟩,
  ⟨.pointer 130, 1, 8, [(1, .nilp)], false⟩,
  ⟨.pointer 133, 1, 8, [(1, .nilp)], false⟩,
  ⟨.pointer 142, 1, 8, [(1, .nilp)], false⟩,
  ⟨.struct [(0, 17)], 1, 8, [(1, .nilp)], false⟩,
  ⟨.struct [(0, 17)], 1, 8, [(1, .nilp)], false⟩,
  badTy,
  ⟨.int .i32, 1, 4, [(1, .i .i32 0)], false⟩,
  ⟨.array 32 5, 32, 32, [(32, .a8 (List.replicate 32 0))], false⟩,
  ⟨.array 32 5, 32, 32, [(32, .a8 (List.replicate 32 0))], false⟩,
  ⟨.int .u16, 1, 2, [(1, .u16 0)], false⟩,
  ⟨.struct [(0, 23), (32, 24)], 33, 34, [(32, .a8 (List.replicate 32 0)), (1, .u16 0)], true⟩,
  ⟨.struct [(0, 23), (32, 24)], 33, 34, [(32, .a8 (List.replicate 32 0)), (1, .u16 0)], true⟩,
  badTy,
  ⟨.pointer 87, 1, 8, [(1, .nilp)], false⟩,
  ⟨.struct [(0, 28)], 1, 8, [(1, .nilp)], false⟩,
  ⟨.struct [(0, 28)], 1, 8, [(1, .nilp)], false⟩,
  badTy,
  ⟨.pointer 76, 1, 8, [(1, .nilp)], false⟩,
  ⟨.struct [(0, 32)], 1, 8, [(1, .nilp)], false⟩,
  ⟨.struct [(0, 32)], 1, 8, [(1, .nilp)], false⟩,
  badTy,
  ⟨.int .i64, 1, 8, [(1, .i .i64 0)], false⟩,
  badTy,
  badTy,
  badTy,
  badTy,
  badTy,
  ⟨.slice 51, 1, 24, [(1, .nsl)], false⟩,
  badTy,
  badTy,
  badTy,
  badTy,
  badTy,
  badTy,
  badTy,
  ⟨.struct [(0, 23), (32, 24), (33, 23)], 65, 66, [(32, .a8 (List.replicate 32 0)), (1, .u16 0), (32, .a8 (List.replicate 32 0))], true⟩,
  ⟨.struct [(0, 23), (32, 24), (33, 23)], 65, 66, [(32, .a8 (List.replicate 32 0)), (1, .u16 0), (32, .a8 (List.replicate 32 0))], true⟩,
  badTy,
  badTy,
  badTy,
  badTy,
  badTy,
  badTy,
  badTy,
  badTy,
  badTy,
  badTy,
  badTy,
  badTy,
  badTy,
  badTy,
  badTy,
  badTy,
  badTy,
  ⟨.slice 5, 1, 24, [(1, .nsl)], false⟩,
  badTy,
  badTy,
  badTy,
  badTy,
  ⟨.slice 103, 1, 24, [(1, .nsl)], false⟩,
  ⟨.struct [(0, 74)], 1, 24, [(1, .nsl)], false⟩,
  ⟨.struct [(0, 74)], 1, 24, [(1, .nsl)], false⟩,
  ⟨.slice 69, 1, 24, [(1, .nsl)], false⟩,
  badTy,
  badTy,
  badTy,
  badTy,
  badTy,
  badTy,
  ⟨.map 9 3, 1, 8, [(1, .nilmp)], false⟩,
  ⟨.slice 92, 1, 24, [(1, .nsl)], false⟩,
  ⟨.struct [(0, 85), (1, 84)], 2, 32, [(1, .nsl), (1, .nilmp)], false⟩,
  ⟨.struct [(0, 85), (1, 84)], 2, 32, [(1, .nsl), (1, .nilmp)], false⟩,
  badTy,
  badTy,
  ⟨.slice 93, 1, 24, [(1, .nsl)], false⟩,
  ⟨.struct [(0, 3), (1, 77), (2, 90)], 3, 56, [(1, .i .i64 0), (1, .nsl), (1, .nsl)], false⟩,
  ⟨.struct [(0, 3), (1, 77), (2, 90)], 3, 56, [(1, .i .i64 0), (1, .nsl), (1, .nsl)], false⟩,
  ⟨.slice 3, 1, 24, [(1, .nsl)], false⟩,
  badTy,
  ⟨.int .u64, 1, 8, [(1, .u64 0)], false⟩,
  badTy,
  ⟨.array 64 5, 64, 64, [(64, .a8 (List.replicate 64 0))], false⟩,
  ⟨.pointer 113, 1, 8, [(1, .nilp)], false⟩,
  badTy,
  badTy,
  badTy,
  ⟨.struct [(0, 3), (1, 77)], 2, 32, [(1, .i .i64 0), (1, .nsl)], false⟩,
  ⟨.struct [(0, 3), (1, 77)], 2, 32, [(1, .i .i64 0), (1, .nsl)], false⟩,
  badTy,
  badTy,
  badTy,
  badTy,
  ⟨.int .u64, 1, 8, [(1, .u64 0)], false⟩,
  badTy,
  ⟨.int .u32, 1, 4, [(1, .u32 0)], false⟩,
  ⟨.array 8 110, 8, 32, [(8, .a32 (List.replicate 8 0))], false⟩,
  ⟨.struct [(0, 111), (8, 69), (9, 108)], 10, 64, [(8, .a32 (List.replicate 8 0)), (1, .nsl), (1, .u64 0)], false⟩,
  ⟨.struct [(0, 111), (8, 69), (9, 108)], 10, 64, [(8, .a32 (List.replicate 8 0)), (1, .nsl), (1, .u64 0)], false⟩,
  badTy,
  ⟨.pointer 111, 1, 8, [(1, .nilp)], false⟩,
  badTy,
  badTy,
  badTy,
  badTy,
  badTy,
  ⟨.array 64 110, 64, 256, [(64, .a32 (List.replicate 64 0))], false⟩,
  badTy,
  ⟨.slice 108, 1, 24, [(1, .nsl)], false⟩,
  badTy,
  ⟨.slice 95, 1, 24, [(1, .nsl)], false⟩,
  badTy,
  badTy,
  badTy,
  ⟨.struct [(0, 17), (1, 17), (2, 17), (3, 9)], 4, 40, [(1, .nilp), (1, .nilp), (1, .nilp), (1, .str [])], false⟩,
  ⟨.struct [(0, 17), (1, 17), (2, 17), (3, 9)], 4, 40, [(1, .nilp), (1, .nilp), (1, .nilp), (1, .str [])], false⟩,
  badTy,
  badTy,
  badTy,
  badTy,
  ⟨.int .u8, 1, 1, [(1, .u8 0)], false⟩,
  ⟨.int .u8, 1, 1, [(1, .u8 0)], false⟩,
  badTy,
  ⟨.pointer 5, 1, 8, [(1, .nilp)], false⟩,
  ⟨.int .i32, 1, 4, [(1, .i .i32 0)], false⟩,
  ⟨.int .i32, 1, 4, [(1, .i .i32 0)], false⟩,
  ⟨.struct [(0, 12), (1, 12), (2, 110), (3, 135), (4, 5), (5, 5), (6, 136), (7, 137), (8, 138), (9, 139), (10, 140)], 11, 48, [(1, .u64 0), (1, .u64 0), (1, .u32 0), (1, .u8 0), (1, .u8 0), (1, .u8 0), (1, .u8 0), (1, .raw .nilFunc), (1, .nilp), (1, .i .i32 0), (1, .i .i32 0)], false⟩,
  ⟨.struct [(0, 12), (1, 12), (2, 110), (3, 135), (4, 5), (5, 5), (6, 136), (7, 137), (8, 138), (9, 139), (10, 140)], 11, 48, [(1, .u64 0), (1, .u64 0), (1, .u32 0), (1, .u8 0), (1, .u8 0), (1, .u8 0), (1, .u8 0), (1, .raw .nilFunc), (1, .nilp), (1, .i .i32 0), (1, .i .i32 0)], false⟩,
  badTy,
  badTy,
  badTy,
  ⟨.slice 4, 1, 24, [(1, .nsl)], false⟩]
noncomputable def cx : Ctx where
  P := Try.prog
  tys := tys
  chk := by kernel_rfl
  mixed := by kernel_rfl
noncomputable def Γ : Cfg where
  toCtx := cx
  calls := [9,10,11,12,13,14,15,16,17,18,19,20,21,22,23,24,25,26,27,28,29,30,31,32,33,34,35,36,37,38,39,40,41,42,43,44,45,46,47,48,49,50,51,52,53,54,55,56,57,58,59,60]
  callsOK := by kernel_rfl
theorem sz2 : (Γ.ty 2).size = 1 := rfl
theorem sz3 : (Γ.ty 3).size = 1 := rfl
theorem sz4 : (Γ.ty 4).size = 1 := rfl
theorem sz5 : (Γ.ty 5).size = 1 := rfl
theorem sz6 : (Γ.ty 6).size = 1 := rfl
theorem sz7 : (Γ.ty 7).size = 4 := rfl
theorem sz8 : (Γ.ty 8).size = 4 := rfl
theorem sz9 : (Γ.ty 9).size = 1 := rfl
theorem sz10 : (Γ.ty 10).size = 1 := rfl
theorem sz11 : (Γ.ty 11).size = 1 := rfl
theorem sz12 : (Γ.ty 12).size = 1 := rfl
theorem sz13 : (Γ.ty 13).size = 2 := rfl
theorem sz14 : (Γ.ty 14).size = 2 := rfl
theorem sz15 : (Γ.ty 15).size = 1 := rfl
theorem sz16 : (Γ.ty 16).size = 1 := rfl
theorem sz17 : (Γ.ty 17).size = 1 := rfl
theorem sz18 : (Γ.ty 18).size = 1 := rfl
theorem sz19 : (Γ.ty 19).size = 1 := rfl
theorem sz21 : (Γ.ty 21).size = 1 := rfl
theorem sz22 : (Γ.ty 22).size = 32 := rfl
theorem sz23 : (Γ.ty 23).size = 32 := rfl
theorem sz24 : (Γ.ty 24).size = 1 := rfl
theorem sz25 : (Γ.ty 25).size = 33 := rfl
theorem sz26 : (Γ.ty 26).size = 33 := rfl
theorem sz28 : (Γ.ty 28).size = 1 := rfl
theorem sz29 : (Γ.ty 29).size = 1 := rfl
theorem sz30 : (Γ.ty 30).size = 1 := rfl
theorem sz32 : (Γ.ty 32).size = 1 := rfl
theorem sz33 : (Γ.ty 33).size = 1 := rfl
theorem sz34 : (Γ.ty 34).size = 1 := rfl
theorem sz36 : (Γ.ty 36).size = 1 := rfl
theorem sz42 : (Γ.ty 42).size = 1 := rfl
theorem sz50 : (Γ.ty 50).size = 65 := rfl
theorem sz51 : (Γ.ty 51).size = 65 := rfl
theorem sz69 : (Γ.ty 69).size = 1 := rfl
theorem sz74 : (Γ.ty 74).size = 1 := rfl
theorem sz75 : (Γ.ty 75).size = 1 := rfl
theorem sz76 : (Γ.ty 76).size = 1 := rfl
theorem sz77 : (Γ.ty 77).size = 1 := rfl
theorem sz84 : (Γ.ty 84).size = 1 := rfl
theorem sz85 : (Γ.ty 85).size = 1 := rfl
theorem sz86 : (Γ.ty 86).size = 2 := rfl
theorem sz87 : (Γ.ty 87).size = 2 := rfl
theorem sz90 : (Γ.ty 90).size = 1 := rfl
theorem sz91 : (Γ.ty 91).size = 3 := rfl
theorem sz92 : (Γ.ty 92).size = 3 := rfl
theorem sz93 : (Γ.ty 93).size = 1 := rfl
theorem sz95 : (Γ.ty 95).size = 1 := rfl
theorem sz97 : (Γ.ty 97).size = 64 := rfl
theorem sz98 : (Γ.ty 98).size = 1 := rfl
theorem sz102 : (Γ.ty 102).size = 2 := rfl
theorem sz103 : (Γ.ty 103).size = 2 := rfl
theorem sz108 : (Γ.ty 108).size = 1 := rfl
theorem sz110 : (Γ.ty 110).size = 1 := rfl
theorem sz111 : (Γ.ty 111).size = 8 := rfl
theorem sz112 : (Γ.ty 112).size = 10 := rfl
theorem sz113 : (Γ.ty 113).size = 10 := rfl
theorem sz115 : (Γ.ty 115).size = 1 := rfl
theorem sz121 : (Γ.ty 121).size = 64 := rfl
theorem sz123 : (Γ.ty 123).size = 1 := rfl
theorem sz125 : (Γ.ty 125).size = 1 := rfl
theorem sz129 : (Γ.ty 129).size = 4 := rfl
theorem sz130 : (Γ.ty 130).size = 4 := rfl
theorem sz135 : (Γ.ty 135).size = 1 := rfl
theorem sz136 : (Γ.ty 136).size = 1 := rfl
theorem sz138 : (Γ.ty 138).size = 1 := rfl
theorem sz139 : (Γ.ty 139).size = 1 := rfl
theorem sz140 : (Γ.ty 140).size = 1 := rfl
theorem sz141 : (Γ.ty 141).size = 11 := rfl
theorem sz142 : (Γ.ty 142).size = 11 := rfl
theorem sz146 : (Γ.ty 146).size = 1 := rfl
theorem by2 : (Γ.ty 2).bytes = 8 := rfl
theorem by3 : (Γ.ty 3).bytes = 8 := rfl
theorem by4 : (Γ.ty 4).bytes = 1 := rfl
theorem by5 : (Γ.ty 5).bytes = 1 := rfl
theorem by6 : (Γ.ty 6).bytes = 1 := rfl
theorem by7 : (Γ.ty 7).bytes = 24 := rfl
theorem by8 : (Γ.ty 8).bytes = 24 := rfl
theorem by9 : (Γ.ty 9).bytes = 16 := rfl
theorem by10 : (Γ.ty 10).bytes = 16 := rfl
theorem by11 : (Γ.ty 11).bytes = 16 := rfl
theorem by12 : (Γ.ty 12).bytes = 8 := rfl
theorem by13 : (Γ.ty 13).bytes = 24 := rfl
theorem by14 : (Γ.ty 14).bytes = 24 := rfl
theorem by15 : (Γ.ty 15).bytes = 8 := rfl
theorem by16 : (Γ.ty 16).bytes = 8 := rfl
theorem by17 : (Γ.ty 17).bytes = 8 := rfl
theorem by18 : (Γ.ty 18).bytes = 8 := rfl
theorem by19 : (Γ.ty 19).bytes = 8 := rfl
theorem by21 : (Γ.ty 21).bytes = 4 := rfl
theorem by22 : (Γ.ty 22).bytes = 32 := rfl
theorem by23 : (Γ.ty 23).bytes = 32 := rfl
theorem by24 : (Γ.ty 24).bytes = 2 := rfl
theorem by25 : (Γ.ty 25).bytes = 34 := rfl
theorem by26 : (Γ.ty 26).bytes = 34 := rfl
theorem by28 : (Γ.ty 28).bytes = 8 := rfl
theorem by29 : (Γ.ty 29).bytes = 8 := rfl
theorem by30 : (Γ.ty 30).bytes = 8 := rfl
theorem by32 : (Γ.ty 32).bytes = 8 := rfl
theorem by33 : (Γ.ty 33).bytes = 8 := rfl
theorem by34 : (Γ.ty 34).bytes = 8 := rfl
theorem by36 : (Γ.ty 36).bytes = 8 := rfl
theorem by42 : (Γ.ty 42).bytes = 24 := rfl
theorem by50 : (Γ.ty 50).bytes = 66 := rfl
theorem by51 : (Γ.ty 51).bytes = 66 := rfl
theorem by69 : (Γ.ty 69).bytes = 24 := rfl
theorem by74 : (Γ.ty 74).bytes = 24 := rfl
theorem by75 : (Γ.ty 75).bytes = 24 := rfl
theorem by76 : (Γ.ty 76).bytes = 24 := rfl
theorem by77 : (Γ.ty 77).bytes = 24 := rfl
theorem by84 : (Γ.ty 84).bytes = 8 := rfl
theorem by85 : (Γ.ty 85).bytes = 24 := rfl
theorem by86 : (Γ.ty 86).bytes = 32 := rfl
theorem by87 : (Γ.ty 87).bytes = 32 := rfl
theorem by90 : (Γ.ty 90).bytes = 24 := rfl
theorem by91 : (Γ.ty 91).bytes = 56 := rfl
theorem by92 : (Γ.ty 92).bytes = 56 := rfl
theorem by93 : (Γ.ty 93).bytes = 24 := rfl
theorem by95 : (Γ.ty 95).bytes = 8 := rfl
theorem by97 : (Γ.ty 97).bytes = 64 := rfl
theorem by98 : (Γ.ty 98).bytes = 8 := rfl
theorem by102 : (Γ.ty 102).bytes = 32 := rfl
theorem by103 : (Γ.ty 103).bytes = 32 := rfl
theorem by108 : (Γ.ty 108).bytes = 8 := rfl
theorem by110 : (Γ.ty 110).bytes = 4 := rfl
theorem by111 : (Γ.ty 111).bytes = 32 := rfl
theorem by112 : (Γ.ty 112).bytes = 64 := rfl
theorem by113 : (Γ.ty 113).bytes = 64 := rfl
theorem by115 : (Γ.ty 115).bytes = 8 := rfl
theorem by121 : (Γ.ty 121).bytes = 256 := rfl
theorem by123 : (Γ.ty 123).bytes = 24 := rfl
theorem by125 : (Γ.ty 125).bytes = 24 := rfl
theorem by129 : (Γ.ty 129).bytes = 40 := rfl
theorem by130 : (Γ.ty 130).bytes = 40 := rfl
theorem by135 : (Γ.ty 135).bytes = 1 := rfl
theorem by136 : (Γ.ty 136).bytes = 1 := rfl
theorem by138 : (Γ.ty 138).bytes = 8 := rfl
theorem by139 : (Γ.ty 139).bytes = 4 := rfl
theorem by140 : (Γ.ty 140).bytes = 4 := rfl
theorem by141 : (Γ.ty 141).bytes = 48 := rfl
theorem by142 : (Γ.ty 142).bytes = 48 := rfl
theorem by146 : (Γ.ty 146).bytes = 24 := rfl
theorem sd {ps : List Prop} {K : Prop} (k : K) (h : AllP ps := by repeat' (first | (show AllP _; first | exact trivial | refine AllP.app ?_ ?_ | refine AllP.appd ?_ ?_ | refine AllP.cons ?_ ?_) | with_reducible rfl | with_reducible assumption | omega | (simp only [rng, Ix.val, addQ_eq, addI, sz2, by2, sz3, by3, sz4, by4, sz5, by5, sz6, by6, sz7, by7, sz8, by8, sz9, by9, sz10, by10, sz11, by11, sz12, by12, sz13, by13, sz14, by14, sz15, by15, sz16, by16, sz17, by17, sz18, by18, sz19, by19, sz21, by21, sz22, by22, sz23, by23, sz24, by24, sz25, by25, sz26, by26, sz28, by28, sz29, by29, sz30, by30, sz32, by32, sz33, by33, sz34, by34, sz36, by36, sz42, by42, sz50, by50, sz51, by51, sz69, by69, sz74, by74, sz75, by75, sz76, by76, sz77, by77, sz84, by84, sz85, by85, sz86, by86, sz87, by87, sz90, by90, sz91, by91, sz92, by92, sz93, by93, sz95, by95, sz97, by97, sz98, by98, sz102, by102, sz103, by103, sz108, by108, sz110, by110, sz111, by111, sz112, by112, sz113, by113, sz115, by115, sz121, by121, sz123, by123, sz125, by125, sz129, by129, sz130, by130, sz135, by135, sz136, by136, sz138, by138, sz139, by139, sz140, by140, sz141, by141, sz142, by142, sz146, by146] <;> omega) | (simp only [rng, Ix.val, Int.toNat_natCast, mulE_eq, addQ_eq, addI, Option.getD_none, Option.getD_some, List.length_take, List.length_drop, List.length_append, List.length_set, List.length_replicate, sz2, by2, sz3, by3, sz4, by4, sz5, by5, sz6, by6, sz7, by7, sz8, by8, sz9, by9, sz10, by10, sz11, by11, sz12, by12, sz13, by13, sz14, by14, sz15, by15, sz16, by16, sz17, by17, sz18, by18, sz19, by19, sz21, by21, sz22, by22, sz23, by23, sz24, by24, sz25, by25, sz26, by26, sz28, by28, sz29, by29, sz30, by30, sz32, by32, sz33, by33, sz34, by34, sz36, by36, sz42, by42, sz50, by50, sz51, by51, sz69, by69, sz74, by74, sz75, by75, sz76, by76, sz77, by77, sz84, by84, sz85, by85, sz86, by86, sz87, by87, sz90, by90, sz91, by91, sz92, by92, sz93, by93, sz95, by95, sz97, by97, sz98, by98, sz102, by102, sz103, by103, sz108, by108, sz110, by110, sz111, by111, sz112, by112, sz113, by113, sz115, by115, sz121, by121, sz123, by123, sz125, by125, sz129, by129, sz130, by130, sz135, by135, sz136, by136, sz138, by138, sz139, by139, sz140, by140, sz141, by141, sz142, by142, sz146, by146, *] <;> omega) | (simp only [Ix.val]; with_reducible assumption) | exact UInt8.toNat_lt _ | (apply Eq.trans; (with_reducible assumption); exact rfl) | exact rfl | exact fun _ _ => rfl)) : Side ps K := Side.intro h k
theorem sdn {ps : List Prop} {K : Prop} (k : K) (h : AllP ps := by repeat' (first | (show AllP _; first | exact trivial | refine AllP.app ?_ ?_ | refine AllP.appd ?_ ?_ | refine AllP.cons ?_ ?_) | with_reducible rfl | with_reducible assumption | omega | (simp only [Nat.zero_add, Int.toNat_natCast, rng, Ix.val, addQ_eq, addI, sz2, by2, sz3, by3, sz4, by4, sz5, by5, sz6, by6, sz7, by7, sz8, by8, sz9, by9, sz10, by10, sz11, by11, sz12, by12, sz13, by13, sz14, by14, sz15, by15, sz16, by16, sz17, by17, sz18, by18, sz19, by19, sz21, by21, sz22, by22, sz23, by23, sz24, by24, sz25, by25, sz26, by26, sz28, by28, sz29, by29, sz30, by30, sz32, by32, sz33, by33, sz34, by34, sz36, by36, sz42, by42, sz50, by50, sz51, by51, sz69, by69, sz74, by74, sz75, by75, sz76, by76, sz77, by77, sz84, by84, sz85, by85, sz86, by86, sz87, by87, sz90, by90, sz91, by91, sz92, by92, sz93, by93, sz95, by95, sz97, by97, sz98, by98, sz102, by102, sz103, by103, sz108, by108, sz110, by110, sz111, by111, sz112, by112, sz113, by113, sz115, by115, sz121, by121, sz123, by123, sz125, by125, sz129, by129, sz130, by130, sz135, by135, sz136, by136, sz138, by138, sz139, by139, sz140, by140, sz141, by141, sz142, by142, sz146, by146] <;> omega) | (simp only [Nat.zero_add, Int.toNat_natCast, rng, Ix.val, Int.toNat_natCast, mulE_eq, addQ_eq, addI, Option.getD_none, Option.getD_some, List.length_take, List.length_drop, List.length_append, List.length_set, List.length_replicate, sz2, by2, sz3, by3, sz4, by4, sz5, by5, sz6, by6, sz7, by7, sz8, by8, sz9, by9, sz10, by10, sz11, by11, sz12, by12, sz13, by13, sz14, by14, sz15, by15, sz16, by16, sz17, by17, sz18, by18, sz19, by19, sz21, by21, sz22, by22, sz23, by23, sz24, by24, sz25, by25, sz26, by26, sz28, by28, sz29, by29, sz30, by30, sz32, by32, sz33, by33, sz34, by34, sz36, by36, sz42, by42, sz50, by50, sz51, by51, sz69, by69, sz74, by74, sz75, by75, sz76, by76, sz77, by77, sz84, by84, sz85, by85, sz86, by86, sz87, by87, sz90, by90, sz91, by91, sz92, by92, sz93, by93, sz95, by95, sz97, by97, sz98, by98, sz102, by102, sz103, by103, sz108, by108, sz110, by110, sz111, by111, sz112, by112, sz113, by113, sz115, by115, sz121, by121, sz123, by123, sz125, by125, sz129, by129, sz130, by130, sz135, by135, sz136, by136, sz138, by138, sz139, by139, sz140, by140, sz141, by141, sz142, by142, sz146, by146, *] <;> omega) | (simp only [Ix.val]; with_reducible assumption) | exact UInt8.toNat_lt _ | (apply Eq.trans; (with_reducible assumption); exact rfl) | exact rfl | exact fun _ _ => rfl)) : Side ps K := Side.intro h k
theorem fc {p : Prop} (h : p := by repeat' (first | (show AllP _; first | exact trivial | refine AllP.app ?_ ?_ | refine AllP.appd ?_ ?_ | refine AllP.cons ?_ ?_) | with_reducible rfl | with_reducible assumption | omega | (simp only [rng, Ix.val, addQ_eq, addI, sz2, by2, sz3, by3, sz4, by4, sz5, by5, sz6, by6, sz7, by7, sz8, by8, sz9, by9, sz10, by10, sz11, by11, sz12, by12, sz13, by13, sz14, by14, sz15, by15, sz16, by16, sz17, by17, sz18, by18, sz19, by19, sz21, by21, sz22, by22, sz23, by23, sz24, by24, sz25, by25, sz26, by26, sz28, by28, sz29, by29, sz30, by30, sz32, by32, sz33, by33, sz34, by34, sz36, by36, sz42, by42, sz50, by50, sz51, by51, sz69, by69, sz74, by74, sz75, by75, sz76, by76, sz77, by77, sz84, by84, sz85, by85, sz86, by86, sz87, by87, sz90, by90, sz91, by91, sz92, by92, sz93, by93, sz95, by95, sz97, by97, sz98, by98, sz102, by102, sz103, by103, sz108, by108, sz110, by110, sz111, by111, sz112, by112, sz113, by113, sz115, by115, sz121, by121, sz123, by123, sz125, by125, sz129, by129, sz130, by130, sz135, by135, sz136, by136, sz138, by138, sz139, by139, sz140, by140, sz141, by141, sz142, by142, sz146, by146] <;> omega) | (simp only [rng, Ix.val, Int.toNat_natCast, mulE_eq, addQ_eq, addI, Option.getD_none, Option.getD_some, List.length_take, List.length_drop, List.length_append, List.length_set, List.length_replicate, sz2, by2, sz3, by3, sz4, by4, sz5, by5, sz6, by6, sz7, by7, sz8, by8, sz9, by9, sz10, by10, sz11, by11, sz12, by12, sz13, by13, sz14, by14, sz15, by15, sz16, by16, sz17, by17, sz18, by18, sz19, by19, sz21, by21, sz22, by22, sz23, by23, sz24, by24, sz25, by25, sz26, by26, sz28, by28, sz29, by29, sz30, by30, sz32, by32, sz33, by33, sz34, by34, sz36, by36, sz42, by42, sz50, by50, sz51, by51, sz69, by69, sz74, by74, sz75, by75, sz76, by76, sz77, by77, sz84, by84, sz85, by85, sz86, by86, sz87, by87, sz90, by90, sz91, by91, sz92, by92, sz93, by93, sz95, by95, sz97, by97, sz98, by98, sz102, by102, sz103, by103, sz108, by108, sz110, by110, sz111, by111, sz112, by112, sz113, by113, sz115, by115, sz121, by121, sz123, by123, sz125, by125, sz129, by129, sz130, by130, sz135, by135, sz136, by136, sz138, by138, sz139, by139, sz140, by140, sz141, by141, sz142, by142, sz146, by146, *] <;> omega) | (simp only [Ix.val]; with_reducible assumption) | exact UInt8.toNat_lt _ | (apply Eq.trans; (with_reducible assumption); exact rfl) | exact rfl | exact fun _ _ => rfl)) : p := h
theorem fcn {p : Prop} (h : p := by repeat' (first | (show AllP _; first | exact trivial | refine AllP.app ?_ ?_ | refine AllP.appd ?_ ?_ | refine AllP.cons ?_ ?_) | with_reducible rfl | with_reducible assumption | omega | (simp only [Nat.zero_add, Int.toNat_natCast, rng, Ix.val, addQ_eq, addI, sz2, by2, sz3, by3, sz4, by4, sz5, by5, sz6, by6, sz7, by7, sz8, by8, sz9, by9, sz10, by10, sz11, by11, sz12, by12, sz13, by13, sz14, by14, sz15, by15, sz16, by16, sz17, by17, sz18, by18, sz19, by19, sz21, by21, sz22, by22, sz23, by23, sz24, by24, sz25, by25, sz26, by26, sz28, by28, sz29, by29, sz30, by30, sz32, by32, sz33, by33, sz34, by34, sz36, by36, sz42, by42, sz50, by50, sz51, by51, sz69, by69, sz74, by74, sz75, by75, sz76, by76, sz77, by77, sz84, by84, sz85, by85, sz86, by86, sz87, by87, sz90, by90, sz91, by91, sz92, by92, sz93, by93, sz95, by95, sz97, by97, sz98, by98, sz102, by102, sz103, by103, sz108, by108, sz110, by110, sz111, by111, sz112, by112, sz113, by113, sz115, by115, sz121, by121, sz123, by123, sz125, by125, sz129, by129, sz130, by130, sz135, by135, sz136, by136, sz138, by138, sz139, by139, sz140, by140, sz141, by141, sz142, by142, sz146, by146] <;> omega) | (simp only [Nat.zero_add, Int.toNat_natCast, rng, Ix.val, Int.toNat_natCast, mulE_eq, addQ_eq, addI, Option.getD_none, Option.getD_some, List.length_take, List.length_drop, List.length_append, List.length_set, List.length_replicate, sz2, by2, sz3, by3, sz4, by4, sz5, by5, sz6, by6, sz7, by7, sz8, by8, sz9, by9, sz10, by10, sz11, by11, sz12, by12, sz13, by13, sz14, by14, sz15, by15, sz16, by16, sz17, by17, sz18, by18, sz19, by19, sz21, by21, sz22, by22, sz23, by23, sz24, by24, sz25, by25, sz26, by26, sz28, by28, sz29, by29, sz30, by30, sz32, by32, sz33, by33, sz34, by34, sz36, by36, sz42, by42, sz50, by50, sz51, by51, sz69, by69, sz74, by74, sz75, by75, sz76, by76, sz77, by77, sz84, by84, sz85, by85, sz86, by86, sz87, by87, sz90, by90, sz91, by91, sz92, by92, sz93, by93, sz95, by95, sz97, by97, sz98, by98, sz102, by102, sz103, by103, sz108, by108, sz110, by110, sz111, by111, sz112, by112, sz113, by113, sz115, by115, sz121, by121, sz123, by123, sz125, by125, sz129, by129, sz130, by130, sz135, by135, sz136, by136, sz138, by138, sz139, by139, sz140, by140, sz141, by141, sz142, by142, sz146, by146, *] <;> omega) | (simp only [Ix.val]; with_reducible assumption) | exact UInt8.toNat_lt _ | (apply Eq.trans; (with_reducible assumption); exact rfl) | exact rfl | exact fun _ _ => rfl)) : p := h
end Go.Proofs.Ytkhnailodbkmhaa
