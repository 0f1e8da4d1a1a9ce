/- What the functions of the program compute. No condition. -/
import Derived.Test.YtniijmdkccbnlaaHx6
import Derived.Test.YtniijmdkccbnlaaProg
import Derived.KernelRfl
set_option linter.unusedSimpArgs false
set_option linter.unusedVariables false
namespace Go.Proofs.Ytniijmdkccbnlaa
open Go Go.Sx

def tys : List Ty := [
  badTy,
  badTy,
  ⟨.int .i64, 1, 8, [(1, .i .i64 0)]⟩,
  ⟨.int .i64, 1, 8, [(1, .i .i64 0)]⟩,
  ⟨.bool, 1, 1, [(1, .ff)]⟩,
  ⟨.int .u8, 1, 1, [(1, .u8 0)]⟩,
  ⟨.int .u8, 1, 1, [(1, .u8 0)]⟩,
  ⟨.struct [(0, 2), (1, 3), (2, 4), (3, 6)], 4, 24, [(1, .i .i64 0), (1, .i .i64 0), (1, .ff), (1, .u8 0)]⟩,
  ⟨.struct [(0, 2), (1, 3), (2, 4), (3, 6)], 4, 24, [(1, .i .i64 0), (1, .i .i64 0), (1, .ff), (1, .u8 0)]⟩,
  ⟨.string, 1, 16, [(1, .str [])]⟩,
  ⟨.string, 1, 16, [(1, .str [])]⟩,
  ⟨.string, 1, 16, [(1, .str [])]⟩,
  ⟨.int .u64, 1, 8, [(1, .u64 0)]⟩,
  ⟨.struct [(0, 9), (1, 12)], 2, 24, [(1, .str []), (1, .u64 0)]⟩,
  ⟨.struct [(0, 9), (1, 12)], 2, 24, [(1, .str []), (1, .u64 0)]⟩,
  ⟨.pointer 65, 1, 8, [(1, .nilp)]⟩,
  ⟨.pointer 68, 1, 8, [(1, .nilp)]⟩,
  ⟨.pointer 77, 1, 8, [(1, .nilp)]⟩,
  ⟨.struct [(0, 17)], 1, 8, [(1, .nilp)]⟩,
  ⟨.struct [(0, 17)], 1, 8, [(1, .nilp)]⟩,
  badTy,
  ⟨.int .i32, 1, 4, [(1, .i .i32 0)]⟩,
  ⟨.slice 5, 1, 24, [(1, .nsl)]⟩,
  badTy,
  ⟨.array 32 5, 32, 32, [(32, .a8 (List.replicate 32 0))]⟩,
  badTy,
  badTy,
  badTy,
  badTy,
  badTy,
  badTy,
  badTy,
  badTy,
  ⟨.array 64 5, 64, 64, [(64, .a8 (List.replicate 64 0))]⟩,
  badTy,
  ⟨.slice 22, 1, 24, [(1, .nsl)]⟩,
  ⟨.pointer 51, 1, 8, [(1, .nilp)]⟩,
  badTy,
  badTy,
  badTy,
  badTy,
  badTy,
  badTy,
  ⟨.int .u64, 1, 8, [(1, .u64 0)]⟩,
  ⟨.int .u64, 1, 8, [(1, .u64 0)]⟩,
  ⟨.array 8 44, 8, 64, [(8, .a64 (List.replicate 8 0))]⟩,
  badTy,
  ⟨.pointer 45, 1, 8, [(1, .nilp)]⟩,
  ⟨.int .u32, 1, 4, [(1, .u32 0)]⟩,
  ⟨.array 8 48, 8, 32, [(8, .a32 (List.replicate 8 0))]⟩,
  ⟨.struct [(0, 49), (8, 22), (9, 44)], 10, 64, [(8, .a32 (List.replicate 8 0)), (1, .nsl), (1, .u64 0)]⟩,
  ⟨.struct [(0, 49), (8, 22), (9, 44)], 10, 64, [(8, .a32 (List.replicate 8 0)), (1, .nsl), (1, .u64 0)]⟩,
  badTy,
  ⟨.pointer 49, 1, 8, [(1, .nilp)]⟩,
  ⟨.slice 44, 1, 24, [(1, .nsl)]⟩,
  badTy,
  ⟨.slice 43, 1, 24, [(1, .nsl)]⟩,
  badTy,
  ⟨.array 80 44, 80, 640, [(80, .a64 (List.replicate 80 0))]⟩,
  badTy,
  ⟨.array 64 48, 64, 256, [(64, .a32 (List.replicate 64 0))]⟩,
  badTy,
  badTy,
  badTy,
  ⟨.struct [(0, 17), (1, 17), (2, 17), (3, 9)], 4, 40, [(1, .nilp), (1, .nilp), (1, .nilp), (1, .str [])]⟩,
  ⟨.struct [(0, 17), (1, 17), (2, 17), (3, 9)], 4, 40, [(1, .nilp), (1, .nilp), (1, .nilp), (1, .str [])]⟩,
  badTy,
  badTy,
  badTy,
  badTy,
  ⟨.int .u8, 1, 1, [(1, .u8 0)]⟩,
  ⟨.int .u8, 1, 1, [(1, .u8 0)]⟩,
  badTy,
  ⟨.pointer 5, 1, 8, [(1, .nilp)]⟩,
  ⟨.int .i32, 1, 4, [(1, .i .i32 0)]⟩,
  ⟨.int .i32, 1, 4, [(1, .i .i32 0)]⟩,
  ⟨.struct [(0, 12), (1, 12), (2, 48), (3, 70), (4, 5), (5, 5), (6, 71), (7, 72), (8, 73), (9, 74), (10, 75)], 11, 48, [(1, .u64 0), (1, .u64 0), (1, .u32 0), (1, .u8 0), (1, .u8 0), (1, .u8 0), (1, .u8 0), (1, .raw .nilFunc), (1, .nilp), (1, .i .i32 0), (1, .i .i32 0)]⟩,
  ⟨.struct [(0, 12), (1, 12), (2, 48), (3, 70), (4, 5), (5, 5), (6, 71), (7, 72), (8, 73), (9, 74), (10, 75)], 11, 48, [(1, .u64 0), (1, .u64 0), (1, .u32 0), (1, .u8 0), (1, .u8 0), (1, .u8 0), (1, .u8 0), (1, .raw .nilFunc), (1, .nilp), (1, .i .i32 0), (1, .i .i32 0)]⟩]

noncomputable def cx : Ctx where
  P := Try.prog
  tys := tys
  chk := by kernel_rfl
  mixed := by kernel_rfl

noncomputable def Γ : Cfg where
  toCtx := cx
  calls := [11,12,13,14,15,16,17,18,19,20,21,22,23,24,25,26,27,28,29,30,31,32,33,34,35,36,37]
  callsOK := by kernel_rfl

theorem sz2 : (Γ.ty 2).size = 1 := rfl
theorem sz3 : (Γ.ty 3).size = 1 := rfl
theorem sz4 : (Γ.ty 4).size = 1 := rfl
theorem sz5 : (Γ.ty 5).size = 1 := rfl
theorem sz6 : (Γ.ty 6).size = 1 := rfl
theorem sz7 : (Γ.ty 7).size = 4 := rfl
theorem sz8 : (Γ.ty 8).size = 4 := rfl
theorem sz9 : (Γ.ty 9).size = 1 := rfl
theorem sz10 : (Γ.ty 10).size = 1 := rfl
theorem sz11 : (Γ.ty 11).size = 1 := rfl
theorem sz12 : (Γ.ty 12).size = 1 := rfl
theorem sz13 : (Γ.ty 13).size = 2 := rfl
theorem sz14 : (Γ.ty 14).size = 2 := rfl
theorem sz15 : (Γ.ty 15).size = 1 := rfl
theorem sz16 : (Γ.ty 16).size = 1 := rfl
theorem sz17 : (Γ.ty 17).size = 1 := rfl
theorem sz18 : (Γ.ty 18).size = 1 := rfl
theorem sz19 : (Γ.ty 19).size = 1 := rfl
theorem sz21 : (Γ.ty 21).size = 1 := rfl
theorem sz22 : (Γ.ty 22).size = 1 := rfl
theorem sz24 : (Γ.ty 24).size = 32 := rfl
theorem sz33 : (Γ.ty 33).size = 64 := rfl
theorem sz35 : (Γ.ty 35).size = 1 := rfl
theorem sz36 : (Γ.ty 36).size = 1 := rfl
theorem sz43 : (Γ.ty 43).size = 1 := rfl
theorem sz44 : (Γ.ty 44).size = 1 := rfl
theorem sz45 : (Γ.ty 45).size = 8 := rfl
theorem sz47 : (Γ.ty 47).size = 1 := rfl
theorem sz48 : (Γ.ty 48).size = 1 := rfl
theorem sz49 : (Γ.ty 49).size = 8 := rfl
theorem sz50 : (Γ.ty 50).size = 10 := rfl
theorem sz51 : (Γ.ty 51).size = 10 := rfl
theorem sz53 : (Γ.ty 53).size = 1 := rfl
theorem sz54 : (Γ.ty 54).size = 1 := rfl
theorem sz56 : (Γ.ty 56).size = 1 := rfl
theorem sz58 : (Γ.ty 58).size = 80 := rfl
theorem sz60 : (Γ.ty 60).size = 64 := rfl
theorem sz64 : (Γ.ty 64).size = 4 := rfl
theorem sz65 : (Γ.ty 65).size = 4 := rfl
theorem sz70 : (Γ.ty 70).size = 1 := rfl
theorem sz71 : (Γ.ty 71).size = 1 := rfl
theorem sz73 : (Γ.ty 73).size = 1 := rfl
theorem sz74 : (Γ.ty 74).size = 1 := rfl
theorem sz75 : (Γ.ty 75).size = 1 := rfl
theorem sz76 : (Γ.ty 76).size = 11 := rfl
theorem sz77 : (Γ.ty 77).size = 11 := rfl

end Go.Proofs.Ytniijmdkccbnlaa

namespace Go.Proofs.Ytniijmdkccbnlaa
open Go Go.Sx

/-! The rounds' constants. -/
@[irreducible] def K32 : List UInt32 := [UInt32.ofNat 1116352408, UInt32.ofNat 1899447441, UInt32.ofNat 3049323471, UInt32.ofNat 3921009573, UInt32.ofNat 961987163, UInt32.ofNat 1508970993, UInt32.ofNat 2453635748, UInt32.ofNat 2870763221, UInt32.ofNat 3624381080, UInt32.ofNat 310598401, UInt32.ofNat 607225278, UInt32.ofNat 1426881987, UInt32.ofNat 1925078388, UInt32.ofNat 2162078206, UInt32.ofNat 2614888103, UInt32.ofNat 3248222580, UInt32.ofNat 3835390401, UInt32.ofNat 4022224774, UInt32.ofNat 264347078, UInt32.ofNat 604807628, UInt32.ofNat 770255983, UInt32.ofNat 1249150122, UInt32.ofNat 1555081692, UInt32.ofNat 1996064986, UInt32.ofNat 2554220882, UInt32.ofNat 2821834349, UInt32.ofNat 2952996808, UInt32.ofNat 3210313671, UInt32.ofNat 3336571891, UInt32.ofNat 3584528711, UInt32.ofNat 113926993, UInt32.ofNat 338241895, UInt32.ofNat 666307205, UInt32.ofNat 773529912, UInt32.ofNat 1294757372, UInt32.ofNat 1396182291, UInt32.ofNat 1695183700, UInt32.ofNat 1986661051, UInt32.ofNat 2177026350, UInt32.ofNat 2456956037, UInt32.ofNat 2730485921, UInt32.ofNat 2820302411, UInt32.ofNat 3259730800, UInt32.ofNat 3345764771, UInt32.ofNat 3516065817, UInt32.ofNat 3600352804, UInt32.ofNat 4094571909, UInt32.ofNat 275423344, UInt32.ofNat 430227734, UInt32.ofNat 506948616, UInt32.ofNat 659060556, UInt32.ofNat 883997877, UInt32.ofNat 958139571, UInt32.ofNat 1322822218, UInt32.ofNat 1537002063, UInt32.ofNat 1747873779, UInt32.ofNat 1955562222, UInt32.ofNat 2024104815, UInt32.ofNat 2227730452, UInt32.ofNat 2361852424, UInt32.ofNat 2428436474, UInt32.ofNat 2756734187, UInt32.ofNat 3204031479, UInt32.ofNat 3329325298]
theorem K32_eq : K32 = [UInt32.ofNat 1116352408, UInt32.ofNat 1899447441, UInt32.ofNat 3049323471, UInt32.ofNat 3921009573, UInt32.ofNat 961987163, UInt32.ofNat 1508970993, UInt32.ofNat 2453635748, UInt32.ofNat 2870763221, UInt32.ofNat 3624381080, UInt32.ofNat 310598401, UInt32.ofNat 607225278, UInt32.ofNat 1426881987, UInt32.ofNat 1925078388, UInt32.ofNat 2162078206, UInt32.ofNat 2614888103, UInt32.ofNat 3248222580, UInt32.ofNat 3835390401, UInt32.ofNat 4022224774, UInt32.ofNat 264347078, UInt32.ofNat 604807628, UInt32.ofNat 770255983, UInt32.ofNat 1249150122, UInt32.ofNat 1555081692, UInt32.ofNat 1996064986, UInt32.ofNat 2554220882, UInt32.ofNat 2821834349, UInt32.ofNat 2952996808, UInt32.ofNat 3210313671, UInt32.ofNat 3336571891, UInt32.ofNat 3584528711, UInt32.ofNat 113926993, UInt32.ofNat 338241895, UInt32.ofNat 666307205, UInt32.ofNat 773529912, UInt32.ofNat 1294757372, UInt32.ofNat 1396182291, UInt32.ofNat 1695183700, UInt32.ofNat 1986661051, UInt32.ofNat 2177026350, UInt32.ofNat 2456956037, UInt32.ofNat 2730485921, UInt32.ofNat 2820302411, UInt32.ofNat 3259730800, UInt32.ofNat 3345764771, UInt32.ofNat 3516065817, UInt32.ofNat 3600352804, UInt32.ofNat 4094571909, UInt32.ofNat 275423344, UInt32.ofNat 430227734, UInt32.ofNat 506948616, UInt32.ofNat 659060556, UInt32.ofNat 883997877, UInt32.ofNat 958139571, UInt32.ofNat 1322822218, UInt32.ofNat 1537002063, UInt32.ofNat 1747873779, UInt32.ofNat 1955562222, UInt32.ofNat 2024104815, UInt32.ofNat 2227730452, UInt32.ofNat 2361852424, UInt32.ofNat 2428436474, UInt32.ofNat 2756734187, UInt32.ofNat 3204031479, UInt32.ofNat 3329325298] := by unfold K32; rfl
theorem K32_length : K32.length = 64 := by rw [K32_eq]; rfl
@[irreducible] def K64 : List UInt64 := [UInt64.ofNat 4794697086780616226, UInt64.ofNat 8158064640168781261, UInt64.ofNat 13096744586834688815, UInt64.ofNat 16840607885511220156, UInt64.ofNat 4131703408338449720, UInt64.ofNat 6480981068601479193, UInt64.ofNat 10538285296894168987, UInt64.ofNat 12329834152419229976, UInt64.ofNat 15566598209576043074, UInt64.ofNat 1334009975649890238, UInt64.ofNat 2608012711638119052, UInt64.ofNat 6128411473006802146, UInt64.ofNat 8268148722764581231, UInt64.ofNat 9286055187155687089, UInt64.ofNat 11230858885718282805, UInt64.ofNat 13951009754708518548, UInt64.ofNat 16472876342353939154, UInt64.ofNat 17275323862435702243, UInt64.ofNat 1135362057144423861, UInt64.ofNat 2597628984639134821, UInt64.ofNat 3308224258029322869, UInt64.ofNat 5365058923640841347, UInt64.ofNat 6679025012923562964, UInt64.ofNat 8573033837759648693, UInt64.ofNat 10970295158949994411, UInt64.ofNat 12119686244451234320, UInt64.ofNat 12683024718118986047, UInt64.ofNat 13788192230050041572, UInt64.ofNat 14330467153632333762, UInt64.ofNat 15395433587784984357, UInt64.ofNat 489312712824947311, UInt64.ofNat 1452737877330783856, UInt64.ofNat 2861767655752347644, UInt64.ofNat 3322285676063803686, UInt64.ofNat 5560940570517711597, UInt64.ofNat 5996557281743188959, UInt64.ofNat 7280758554555802590, UInt64.ofNat 8532644243296465576, UInt64.ofNat 9350256976987008742, UInt64.ofNat 10552545826968843579, UInt64.ofNat 11727347734174303076, UInt64.ofNat 12113106623233404929, UInt64.ofNat 14000437183269869457, UInt64.ofNat 14369950271660146224, UInt64.ofNat 15101387698204529176, UInt64.ofNat 15463397548674623760, UInt64.ofNat 17586052441742319658, UInt64.ofNat 1182934255886127544, UInt64.ofNat 1847814050463011016, UInt64.ofNat 2177327727835720531, UInt64.ofNat 2830643537854262169, UInt64.ofNat 3796741975233480872, UInt64.ofNat 4115178125766777443, UInt64.ofNat 5681478168544905931, UInt64.ofNat 6601373596472566643, UInt64.ofNat 7507060721942968483, UInt64.ofNat 8399075790359081724, UInt64.ofNat 8693463985226723168, UInt64.ofNat 9568029438360202098, UInt64.ofNat 10144078919501101548, UInt64.ofNat 10430055236837252648, UInt64.ofNat 11840083180663258601, UInt64.ofNat 13761210420658862357, UInt64.ofNat 14299343276471374635, UInt64.ofNat 14566680578165727644, UInt64.ofNat 15097957966210449927, UInt64.ofNat 16922976911328602910, UInt64.ofNat 17689382322260857208, UInt64.ofNat 500013540394364858, UInt64.ofNat 748580250866718886, UInt64.ofNat 1242879168328830382, UInt64.ofNat 1977374033974150939, UInt64.ofNat 2944078676154940804, UInt64.ofNat 3659926193048069267, UInt64.ofNat 4368137639120453308, UInt64.ofNat 4836135668995329356, UInt64.ofNat 5532061633213252278, UInt64.ofNat 6448918945643986474, UInt64.ofNat 6902733635092675308, UInt64.ofNat 7801388544844847127]
theorem K64_eq : K64 = [UInt64.ofNat 4794697086780616226, UInt64.ofNat 8158064640168781261, UInt64.ofNat 13096744586834688815, UInt64.ofNat 16840607885511220156, UInt64.ofNat 4131703408338449720, UInt64.ofNat 6480981068601479193, UInt64.ofNat 10538285296894168987, UInt64.ofNat 12329834152419229976, UInt64.ofNat 15566598209576043074, UInt64.ofNat 1334009975649890238, UInt64.ofNat 2608012711638119052, UInt64.ofNat 6128411473006802146, UInt64.ofNat 8268148722764581231, UInt64.ofNat 9286055187155687089, UInt64.ofNat 11230858885718282805, UInt64.ofNat 13951009754708518548, UInt64.ofNat 16472876342353939154, UInt64.ofNat 17275323862435702243, UInt64.ofNat 1135362057144423861, UInt64.ofNat 2597628984639134821, UInt64.ofNat 3308224258029322869, UInt64.ofNat 5365058923640841347, UInt64.ofNat 6679025012923562964, UInt64.ofNat 8573033837759648693, UInt64.ofNat 10970295158949994411, UInt64.ofNat 12119686244451234320, UInt64.ofNat 12683024718118986047, UInt64.ofNat 13788192230050041572, UInt64.ofNat 14330467153632333762, UInt64.ofNat 15395433587784984357, UInt64.ofNat 489312712824947311, UInt64.ofNat 1452737877330783856, UInt64.ofNat 2861767655752347644, UInt64.ofNat 3322285676063803686, UInt64.ofNat 5560940570517711597, UInt64.ofNat 5996557281743188959, UInt64.ofNat 7280758554555802590, UInt64.ofNat 8532644243296465576, UInt64.ofNat 9350256976987008742, UInt64.ofNat 10552545826968843579, UInt64.ofNat 11727347734174303076, UInt64.ofNat 12113106623233404929, UInt64.ofNat 14000437183269869457, UInt64.ofNat 14369950271660146224, UInt64.ofNat 15101387698204529176, UInt64.ofNat 15463397548674623760, UInt64.ofNat 17586052441742319658, UInt64.ofNat 1182934255886127544, UInt64.ofNat 1847814050463011016, UInt64.ofNat 2177327727835720531, UInt64.ofNat 2830643537854262169, UInt64.ofNat 3796741975233480872, UInt64.ofNat 4115178125766777443, UInt64.ofNat 5681478168544905931, UInt64.ofNat 6601373596472566643, UInt64.ofNat 7507060721942968483, UInt64.ofNat 8399075790359081724, UInt64.ofNat 8693463985226723168, UInt64.ofNat 9568029438360202098, UInt64.ofNat 10144078919501101548, UInt64.ofNat 10430055236837252648, UInt64.ofNat 11840083180663258601, UInt64.ofNat 13761210420658862357, UInt64.ofNat 14299343276471374635, UInt64.ofNat 14566680578165727644, UInt64.ofNat 15097957966210449927, UInt64.ofNat 16922976911328602910, UInt64.ofNat 17689382322260857208, UInt64.ofNat 500013540394364858, UInt64.ofNat 748580250866718886, UInt64.ofNat 1242879168328830382, UInt64.ofNat 1977374033974150939, UInt64.ofNat 2944078676154940804, UInt64.ofNat 3659926193048069267, UInt64.ofNat 4368137639120453308, UInt64.ofNat 4836135668995329356, UInt64.ofNat 5532061633213252278, UInt64.ofNat 6448918945643986474, UInt64.ofNat 6902733635092675308, UInt64.ofNat 7801388544844847127] := by unfold K64; rfl
theorem K64_length : K64.length = 80 := by rw [K64_eq]; rfl

end Go.Proofs.Ytniijmdkccbnlaa

namespace Go.Proofs.Ytniijmdkccbnlaa
open Go Go.Sx

def rr32 (x : UInt32) (n : Nat) : UInt32 := shl32 x (32 - n) ||| shr32 x n
def rr64 (x : UInt64) (n : Nat) : UInt64 := shl64 x (64 - n) ||| shr64 x n

theorem cnt32 : ∀ n : Nat, n < 32 → 0 < n → (UInt64.ofInt (-(n : Int)) &&& 31).toNat = 32 - n ∧ ((32 : UInt64) - (UInt64.ofInt (-(n : Int)) &&& 31)).toNat = n := by decide
theorem cnt64 : ∀ n : Nat, n < 64 → 0 < n → (UInt64.ofInt (-(n : Int)) &&& 63).toNat = 64 - n ∧ ((64 : UInt64) - (UInt64.ofInt (-(n : Int)) &&& 63)).toNat = n := by decide

set_option maxRecDepth 100000 in
theorem fn36 (x : UInt32) (n : Nat) (h : n < 32) (h0 : 0 < n) : Sx.Fn Γ.P 36 [.u32 x, .i .i64 (-(n : Int))] [] (fun v _ => v = .u32 (rr32 x n)) := by
  refine fn_of (Γ := Γ) (fn := Try.f36) rfl rfl rfl rfl ?_
  refine Ret.intro (.u32 (rr32 x n)) [] [] rfl trivial rfl rfl ?_ rfl trivial rfl
  obtain ⟨e1, e2⟩ := cnt32 n h h0
  show rr32 x n = shl32 x (UInt64.ofInt (-(n : Int)) &&& 31).toNat ||| shr32 x ((32 : UInt64) - (UInt64.ofInt (-(n : Int)) &&& 31)).toNat
  rw [e1, e2]; rfl

set_option maxRecDepth 100000 in
theorem fn35 (x : UInt64) (n : Nat) (h : n < 64) (h0 : 0 < n) : Sx.Fn Γ.P 35 [.u64 x, .i .i64 (-(n : Int))] [] (fun v _ => v = .u64 (rr64 x n)) := by
  refine fn_of (Γ := Γ) (fn := Try.f35) rfl rfl rfl rfl ?_
  refine Ret.intro (.u64 (rr64 x n)) [] [] rfl trivial rfl rfl ?_ rfl trivial rfl
  obtain ⟨e1, e2⟩ := cnt64 n h h0
  show rr64 x n = shl64 x (UInt64.ofInt (-(n : Int)) &&& 63).toNat ||| shr64 x ((64 : UInt64) - (UInt64.ofInt (-(n : Int)) &&& 63)).toNat
  rw [e1, e2]; rfl

end Go.Proofs.Ytniijmdkccbnlaa
