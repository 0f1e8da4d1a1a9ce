/- Walks. -/
import Derived.Test.YtimbdhpchlakfaaGreatHx7
import Derived.Test.YtimbdhpchlakfaaGreatProg
import Derived.KernelRfl
import Derived.Test.YtimbdhpchlakfaaGreatHx5
set_option linter.unusedSimpArgs false
set_option linter.unusedVariables false
open UInt64 (ofNat toNat_add toNat_ofNat' toNat_mul)
open List (replicate length_set length_replicate)
open Nat (zero_add mod_eq_of_lt mul_add mul_comm gcd pow_succ mul_assoc le_of_dvd add_mul)
open Option (getD_none getD_some)
set_option maxRecDepth 100000
namespace Go.Proofs.YtimbdhpchlakfaaGreat
open Go Go.Sx
def tys:List Ty:=[
 zT,
 zT,
 ⟨.int .i64,1,8,[(1,.i .i64 0)],false⟩,
 ⟨.int .i64,1,8,[(1,.i .i64 0)],false⟩,
 ⟨.bool,1,1,[(1,.ff)],false⟩,
 ⟨.int .u8,1,1,[(1,.u8 0)],false⟩,
 ⟨.int .u8,1,1,[(1,.u8 0)],false⟩,
 ⟨.struct [(0,2),(1,3),(2,4),(3,6)],4,24,[(1,.i .i64 0),(1,.i .i64 0),(1,.ff),(1,.u8 0)],true⟩,
 ⟨.struct [(0,2),(1,3),(2,4),(3,6)],4,24,[(1,.i .i64 0),(1,.i .i64 0),(1,.ff),(1,.u8 0)],true⟩,
 ⟨.string,1,16,[(1,.str [])],false⟩,
 ⟨.string,1,16,[(1,.str [])],false⟩,
 ⟨.string,1,16,[(1,.str [])],false⟩,
 ⟨.int .u64,1,8,[(1,.u64 0)],false⟩,
 ⟨.struct [(0,9),(1,12)],2,24,[(1,.str []),(1,.u64 0)],false⟩,
 ⟨.struct [(0,9),(1,12)],2,24,[(1,.str []),(1,.u64 0)],false⟩,
 ⟨.pointer 252,1,8,[(1,.nilp)],false⟩,
 ⟨.pointer 255,1,8,[(1,.nilp)],false⟩,
 ⟨.pointer 264,1,8,[(1,.nilp)],false⟩,
 ⟨.struct [(0,17)],1,8,[(1,.nilp)],false⟩,
 ⟨.struct [(0,17)],1,8,[(1,.nilp)],false⟩,
 zT,
 ⟨.int .i32,1,4,[(1,.i .i32 0)],false⟩,
 ⟨.array 32 5,32,32,[(32,.a8 (replicate 32 0))],false⟩,
 zT,
 ⟨.pointer 119,1,8,[(1,.nilp)],false⟩,
 ⟨.struct [(0,24)],1,8,[(1,.nilp)],false⟩,
 ⟨.struct [(0,24)],1,8,[(1,.nilp)],false⟩,
 zT,
 ⟨.pointer 89,1,8,[(1,.nilp)],false⟩,
 ⟨.struct [(0,28)],1,8,[(1,.nilp)],false⟩,
 ⟨.struct [(0,28)],1,8,[(1,.nilp)],false⟩,
 zT,
 ⟨.array 32 5,32,32,[(32,.a8 (replicate 32 0))],false⟩,
 zT,
 zT,
 zT,
 zT,
 zT,
 zT,
 zT,
 ⟨.slice 5,1,24,[(1,.nsl)],false⟩,
 ⟨.array 64 5,64,64,[(64,.a8 (replicate 64 0))],false⟩,
 ⟨.array 64 5,64,64,[(64,.a8 (replicate 64 0))],false⟩,
 zT,
 zT,
 zT,
 zT,
 zT,
 zT,
 ⟨.int .u16,1,2,[(1,.u16 0)],false⟩,
 zT,
 zT,
 ⟨.slice 3,1,24,[(1,.nsl)],false⟩,
 ⟨.struct [(0,3),(1,3),(2,3),(3,3),(4,40),(5,52)],6,80,[(1,.i .i64 0),(1,.i .i64 0),(1,.i .i64 0),(1,.i .i64 0),(1,.nsl),(1,.nsl)],false⟩,
 ⟨.struct [(0,3),(1,3),(2,3),(3,3),(4,40),(5,52)],6,80,[(1,.i .i64 0),(1,.i .i64 0),(1,.i .i64 0),(1,.i .i64 0),(1,.nsl),(1,.nsl)],false⟩,
 ⟨.slice 54,1,24,[(1,.nsl)],false⟩,
 zT,
 zT,
 ⟨.slice 32,1,24,[(1,.nsl)],false⟩,
 zT,
 zT,
 zT,
 zT,
 zT,
 zT,
 zT,
 zT,
 ⟨.slice 40,1,24,[(1,.nsl)],false⟩,
 zT,
 zT,
 zT,
 zT,
 ⟨.struct [(0,3),(1,67)],2,32,[(1,.i .i64 0),(1,.nsl)],false⟩,
 ⟨.struct [(0,3),(1,67)],2,32,[(1,.i .i64 0),(1,.nsl)],false⟩,
 zT,
 zT,
 ⟨.pointer 78,1,8,[(1,.nilp)],false⟩,
 ⟨.struct [(0,26),(1,67),(2,58),(3,67)],4,80,[(1,.nilp),(1,.nsl),(1,.nsl),(1,.nsl)],false⟩,
 ⟨.struct [(0,26),(1,67),(2,58),(3,67)],4,80,[(1,.nilp),(1,.nsl),(1,.nsl),(1,.nsl)],false⟩,
 zT,
 zT,
 ⟨.array 16 5,16,16,[(16,.a8 (replicate 16 0))],false⟩,
 zT,
 zT,
 zT,
 zT,
 zT,
 ⟨.slice 73,1,24,[(1,.nsl)],false⟩,
 ⟨.struct [(0,87)],1,24,[(1,.nsl)],false⟩,
 ⟨.struct [(0,87)],1,24,[(1,.nsl)],false⟩,
 zT,
 zT,
 zT,
 zT,
 ⟨.int .u64,1,8,[(1,.u64 0)],false⟩,
 ⟨.array 5 94,5,40,[(5,.a64 (replicate 5 0))],false⟩,
 ⟨.struct [(0,95)],5,40,[(5,.a64 (replicate 5 0))],true⟩,
 ⟨.struct [(0,95)],5,40,[(5,.a64 (replicate 5 0))],true⟩,
 ⟨.struct [(0,97),(5,97),(10,97),(15,97),(20,4)],21,168,[(5,.a64 (replicate 5 0)),(5,.a64 (replicate 5 0)),(5,.a64 (replicate 5 0)),(5,.a64 (replicate 5 0)),(1,.ff)],false⟩,
 ⟨.struct [(0,97),(5,97),(10,97),(15,97),(20,4)],21,168,[(5,.a64 (replicate 5 0)),(5,.a64 (replicate 5 0)),(5,.a64 (replicate 5 0)),(5,.a64 (replicate 5 0)),(1,.ff)],false⟩,
 zT,
 ⟨.struct [(0,22),(32,40)],33,56,[(32,.a8 (replicate 32 0)),(1,.nsl)],false⟩,
 ⟨.struct [(0,22),(32,40)],33,56,[(32,.a8 (replicate 32 0)),(1,.nsl)],false⟩,
 zT,
 zT,
 zT,
 zT,
 zT,
 ⟨.struct [(0,97),(5,97)],10,80,[(5,.a64 (replicate 5 0)),(5,.a64 (replicate 5 0))],false⟩,
 ⟨.struct [(0,97),(5,97)],10,80,[(5,.a64 (replicate 5 0)),(5,.a64 (replicate 5 0))],false⟩,
 zT,
 zT,
 zT,
 zT,
 zT,
 zT,
 ⟨.slice 122,1,24,[(1,.nsl)],false⟩,
 ⟨.map 9 3,1,8,[(1,.nilmp)],false⟩,
 ⟨.struct [(0,116),(1,117)],2,32,[(1,.nsl),(1,.nilmp)],false⟩,
 ⟨.struct [(0,116),(1,117)],2,32,[(1,.nsl),(1,.nilmp)],false⟩,
 ⟨.slice 52,1,24,[(1,.nsl)],false⟩,
 ⟨.struct [(0,3),(1,67),(2,120)],3,56,[(1,.i .i64 0),(1,.nsl),(1,.nsl)],false⟩,
 ⟨.struct [(0,3),(1,67),(2,120)],3,56,[(1,.i .i64 0),(1,.nsl),(1,.nsl)],false⟩,
 zT,
 zT,
 zT,
 zT,
 ⟨.array 16 3,16,128,[(16,.ai (replicate 16 0))],false⟩,
 ⟨.array 16 3,16,128,[(16,.ai (replicate 16 0))],false⟩,
 zT,
 zT,
 ⟨.int .u64,1,8,[(1,.u64 0)],false⟩,
 zT,
 zT,
 zT,
 zT,
 zT,
 zT,
 zT,
 zT,
 zT,
 zT,
 zT,
 zT,
 zT,
 zT,
 ⟨.struct [(0,128),(16,128),(32,128)],48,384,[(16,.ai (replicate 16 0)),(16,.ai (replicate 16 0)),(16,.ai (replicate 16 0))],true⟩,
 ⟨.struct [(0,128),(16,128),(32,128)],48,384,[(16,.ai (replicate 16 0)),(16,.ai (replicate 16 0)),(16,.ai (replicate 16 0))],true⟩,
 zT,
 zT,
 zT,
 zT,
 zT,
 zT,
 zT,
 zT,
 zT,
 ⟨.int .i64,1,8,[(1,.i .i64 0)],false⟩,
 zT,
 zT,
 zT,
 zT,
 zT,
 zT,
 ⟨.pointer 210,1,8,[(1,.nilp)],false⟩,
 zT,
 zT,
 zT,
 ⟨.pointer 219,1,8,[(1,.nilp)],false⟩,
 zT,
 zT,
 zT,
 zT,
 zT,
 ⟨.array 4 94,4,32,[(4,.a64 (replicate 4 0))],false⟩,
 zT,
 ⟨.struct [(0,94),(1,94)],2,16,[(1,.u64 0),(1,.u64 0)],true⟩,
 ⟨.struct [(0,94),(1,94)],2,16,[(1,.u64 0),(1,.u64 0)],true⟩,
 ⟨.array 5 177,10,80,[(1,.u64 0),(1,.u64 0),(1,.u64 0),(1,.u64 0),(1,.u64 0),(1,.u64 0),(1,.u64 0),(1,.u64 0),(1,.u64 0),(1,.u64 0)],false⟩,
 zT,
 zT,
 zT,
 zT,
 zT,
 zT,
 zT,
 zT,
 zT,
 zT,
 zT,
 ⟨.array 4 94,4,32,[(4,.a64 (replicate 4 0))],false⟩,
 zT,
 ⟨.array 8 94,8,64,[(8,.a64 (replicate 8 0))],false⟩,
 ⟨.slice 94,1,24,[(1,.nsl)],false⟩,
 zT,
 zT,
 zT,
 zT,
 zT,
 zT,
 zT,
 zT,
 zT,
 zT,
 zT,
 zT,
 zT,
 ⟨.array 256 5,256,256,[(256,.a8 (replicate 256 0))],false⟩,
 ⟨.array 15 81,240,240,[(240,.a8 (replicate 240 0))],false⟩,
 ⟨.struct [(0,207),(256,207),(512,208)],752,752,[(256,.a8 (replicate 256 0)),(256,.a8 (replicate 256 0)),(240,.a8 (replicate 240 0))],false⟩,
 ⟨.struct [(0,207),(256,207),(512,208)],752,752,[(256,.a8 (replicate 256 0)),(256,.a8 (replicate 256 0)),(240,.a8 (replicate 240 0))],false⟩,
 ⟨.array 4 5,4,4,[(4,.a8 (replicate 4 0))],false⟩,
 ⟨.array 60 211,240,240,[(240,.a8 (replicate 240 0))],false⟩,
 zT,
 zT,
 zT,
 ⟨.int .u32,1,4,[(1,.u32 0)],false⟩,
 ⟨.array 8 216,8,32,[(8,.a32 (replicate 8 0))],false⟩,
 ⟨.struct [(0,217),(8,40),(9,94)],10,64,[(8,.a32 (replicate 8 0)),(1,.nsl),(1,.u64 0)],false⟩,
 ⟨.struct [(0,217),(8,40),(9,94)],10,64,[(8,.a32 (replicate 8 0)),(1,.nsl),(1,.u64 0)],false⟩,
 zT,
 ⟨.pointer 217,1,8,[(1,.nilp)],false⟩,
 zT,
 ⟨.pointer 192,1,8,[(1,.nilp)],false⟩,
 zT,
 zT,
 zT,
 zT,
 zT,
 zT,
 zT,
 zT,
 zT,
 zT,
 zT,
 zT,
 zT,
 zT,
 ⟨.array 64 216,64,256,[(64,.a32 (replicate 64 0))],false⟩,
 zT,
 ⟨.array 80 94,80,640,[(80,.a64 (replicate 80 0))],false⟩,
 zT,
 zT,
 ⟨.slice 131,1,24,[(1,.nsl)],false⟩,
 zT,
 zT,
 zT,
 zT,
 zT,
 zT,
 zT,
 ⟨.struct [(0,17),(1,17),(2,17),(3,9)],4,40,[(1,.nilp),(1,.nilp),(1,.nilp),(1,.str [])],false⟩,
 ⟨.struct [(0,17),(1,17),(2,17),(3,9)],4,40,[(1,.nilp),(1,.nilp),(1,.nilp),(1,.str [])],false⟩,
 zT,
 zT,
 zT,
 zT,
 ⟨.int .u8,1,1,[(1,.u8 0)],false⟩,
 ⟨.int .u8,1,1,[(1,.u8 0)],false⟩,
 zT,
 ⟨.pointer 5,1,8,[(1,.nilp)],false⟩,
 ⟨.int .i32,1,4,[(1,.i .i32 0)],false⟩,
 ⟨.int .i32,1,4,[(1,.i .i32 0)],false⟩,
 ⟨.struct [(0,12),(1,12),(2,216),(3,257),(4,5),(5,5),(6,258),(7,259),(8,260),(9,261),(10,262)],11,48,[(1,.u64 0),(1,.u64 0),(1,.u32 0),(1,.u8 0),(1,.u8 0),(1,.u8 0),(1,.u8 0),(1,.raw .nilFunc),(1,.nilp),(1,.i .i32 0),(1,.i .i32 0)],false⟩,
 ⟨.struct [(0,12),(1,12),(2,216),(3,257),(4,5),(5,5),(6,258),(7,259),(8,260),(9,261),(10,262)],11,48,[(1,.u64 0),(1,.u64 0),(1,.u32 0),(1,.u8 0),(1,.u8 0),(1,.u8 0),(1,.u8 0),(1,.raw .nilFunc),(1,.nilp),(1,.i .i32 0),(1,.i .i32 0)],false⟩,
 zT,
 zT,
 ⟨.slice 4,1,24,[(1,.nsl)],false⟩]
noncomputable def cx:Ctx where
 P:=Tryz.prog
 tys:=tys
 chk:=by kernel_rfl
 mixed:=by kernel_rfl
theorem aQN:aFU cx.P 120 .add64:=aEI (fn:=Tryz.f120) rfl (by kernel_rfl) (by kernel_rfl) (by kernel_rfl) (by kernel_rfl)
theorem aQM:aFU cx.P 179 .sub64:=aEH (fn:=Tryz.f179) rfl (by kernel_rfl) (by kernel_rfl) (by kernel_rfl) (by kernel_rfl)
noncomputable def Γ:Cfg where
 toCtx:=cx
 calls:=[7,8,9,10,11,12,13,14,15,16,17,18,19,20,21,22,23,24,25,26,27,28,29,30,31,32,33,34,35,36,37,38,39,40,41,42,43,44,45,46,47,48,49,50,51,52,53,54,55,56,57,58,59,60,61,62,63,64,65,66,67,68,69,70,71,72,73,74,75,76,77,78,79,80,81,82,83,84,85,86,87,88,89,90,91,92,93,94,95,96,97,98,99,100,101,102,103,104,105,106,107,108,109,110,111,112,113,114,115,116,117,118,119,121,122,123,124,125,126,127,128,129,130,131,132,133,134,135,136,137,138,139,140,141,142,143,144,145,146,147,148,149,150,151,152,153,154,155,156,157,158,159,160,161,162,163,164,165,166,167,168,169,170,171,172,173,174,175,176,177,178,180,182,183,184,186]
 callsOK:=by kernel_rfl
 exts:=[(120,.add64),(179,.sub64)]
 extsOK:=by
  intro p hp
  simp only [List.mem_cons,List.not_mem_nil,or_false] at hp
  rcases hp with rfl | rfl
  ·exact aQN
  ·exact aQM
theorem szs:(Γ.ty 3).size = 1/\(Γ.ty 3).bytes = 8/\(Γ.ty 4).size = 1/\(Γ.ty 4).bytes = 1/\(Γ.ty 5).size = 1/\(Γ.ty 5).bytes = 1/\(Γ.ty 9).size = 1/\(Γ.ty 9).bytes = 16/\(Γ.ty 22).size = 32/\(Γ.ty 22).bytes = 32/\(Γ.ty 24).size = 1/\(Γ.ty 24).bytes = 8/\(Γ.ty 25).size = 1/\(Γ.ty 25).bytes = 8/\(Γ.ty 26).size = 1/\(Γ.ty 26).bytes = 8/\(Γ.ty 28).size = 1/\(Γ.ty 28).bytes = 8/\(Γ.ty 29).size = 1/\(Γ.ty 29).bytes = 8/\(Γ.ty 30).size = 1/\(Γ.ty 30).bytes = 8/\(Γ.ty 32).size = 32/\(Γ.ty 32).bytes = 32/\(Γ.ty 40).size = 1/\(Γ.ty 40).bytes = 24/\(Γ.ty 41).size = 64/\(Γ.ty 41).bytes = 64/\(Γ.ty 42).size = 64/\(Γ.ty 42).bytes = 64/\(Γ.ty 52).size = 1/\(Γ.ty 52).bytes = 24/\(Γ.ty 53).size = 6/\(Γ.ty 53).bytes = 80/\(Γ.ty 54).size = 6/\(Γ.ty 54).bytes = 80/\(Γ.ty 55).size = 1/\(Γ.ty 55).bytes = 24/\(Γ.ty 58).size = 1/\(Γ.ty 58).bytes = 24/\(Γ.ty 67).size = 1/\(Γ.ty 67).bytes = 24/\(Γ.ty 72).size = 2/\(Γ.ty 72).bytes = 32/\(Γ.ty 73).size = 2/\(Γ.ty 73).bytes = 32/\(Γ.ty 76).size = 1/\(Γ.ty 76).bytes = 8/\(Γ.ty 77).size = 4/\(Γ.ty 77).bytes = 80/\(Γ.ty 78).size = 4/\(Γ.ty 78).bytes = 80/\(Γ.ty 81).size = 16/\(Γ.ty 81).bytes = 16/\(Γ.ty 87).size = 1/\(Γ.ty 87).bytes = 24/\(Γ.ty 88).size = 1/\(Γ.ty 88).bytes = 24/\(Γ.ty 89).size = 1/\(Γ.ty 89).bytes = 24/\(Γ.ty 94).size = 1/\(Γ.ty 94).bytes = 8/\(Γ.ty 95).size = 5/\(Γ.ty 95).bytes = 40/\(Γ.ty 96).size = 5/\(Γ.ty 96).bytes = 40/\(Γ.ty 97).size = 5/\(Γ.ty 97).bytes = 40/\(Γ.ty 98).size = 21/\(Γ.ty 98).bytes = 168/\(Γ.ty 99).size = 21/\(Γ.ty 99).bytes = 168/\(Γ.ty 101).size = 33/\(Γ.ty 101).bytes = 56/\(Γ.ty 102).size = 33/\(Γ.ty 102).bytes = 56/\(Γ.ty 108).size = 10/\(Γ.ty 108).bytes = 80/\(Γ.ty 109).size = 10/\(Γ.ty 109).bytes = 80/\(Γ.ty 116).size = 1/\(Γ.ty 116).bytes = 24/\(Γ.ty 117).size = 1/\(Γ.ty 117).bytes = 8/\(Γ.ty 118).size = 2/\(Γ.ty 118).bytes = 32/\(Γ.ty 119).size = 2/\(Γ.ty 119).bytes = 32/\(Γ.ty 120).size = 1/\(Γ.ty 120).bytes = 24/\(Γ.ty 121).size = 3/\(Γ.ty 121).bytes = 56/\(Γ.ty 122).size = 3/\(Γ.ty 122).bytes = 56/\(Γ.ty 127).size = 16/\(Γ.ty 127).bytes = 128/\(Γ.ty 128).size = 16/\(Γ.ty 128).bytes = 128/\(Γ.ty 131).size = 1/\(Γ.ty 131).bytes = 8/\(Γ.ty 146).size = 48/\(Γ.ty 146).bytes = 384/\(Γ.ty 147).size = 48/\(Γ.ty 147).bytes = 384/\(Γ.ty 164).size = 1/\(Γ.ty 164).bytes = 8/\(Γ.ty 168).size = 1/\(Γ.ty 168).bytes = 8/\(Γ.ty 174).size = 4/\(Γ.ty 174).bytes = 32/\(Γ.ty 176).size = 2/\(Γ.ty 176).bytes = 16/\(Γ.ty 177).size = 2/\(Γ.ty 177).bytes = 16/\(Γ.ty 178).size = 10/\(Γ.ty 178).bytes = 80/\(Γ.ty 190).size = 4/\(Γ.ty 190).bytes = 32/\(Γ.ty 192).size = 8/\(Γ.ty 192).bytes = 64/\(Γ.ty 193).size = 1/\(Γ.ty 193).bytes = 24/\(Γ.ty 207).size = 256/\(Γ.ty 207).bytes = 256/\(Γ.ty 208).size = 240/\(Γ.ty 208).bytes = 240/\(Γ.ty 209).size = 752/\(Γ.ty 209).bytes = 752/\(Γ.ty 210).size = 752/\(Γ.ty 210).bytes = 752/\(Γ.ty 211).size = 4/\(Γ.ty 211).bytes = 4/\(Γ.ty 212).size = 240/\(Γ.ty 212).bytes = 240/\(Γ.ty 216).size = 1/\(Γ.ty 216).bytes = 4/\(Γ.ty 217).size = 8/\(Γ.ty 217).bytes = 32/\(Γ.ty 218).size = 10/\(Γ.ty 218).bytes = 64/\(Γ.ty 219).size = 10/\(Γ.ty 219).bytes = 64/\(Γ.ty 221).size = 1/\(Γ.ty 221).bytes = 8/\(Γ.ty 223).size = 1/\(Γ.ty 223).bytes = 8/\(Γ.ty 238).size = 64/\(Γ.ty 238).bytes = 256/\(Γ.ty 240).size = 80/\(Γ.ty 240).bytes = 640/\(Γ.ty 243).size = 1/\(Γ.ty 243).bytes = 24:=⟨rfl,rfl,rfl,rfl,rfl,rfl,rfl,rfl,rfl,rfl,rfl,rfl,rfl,rfl,rfl,rfl,rfl,rfl,rfl,rfl,rfl,rfl,rfl,rfl,rfl,rfl,rfl,rfl,rfl,rfl,rfl,rfl,rfl,rfl,rfl,rfl,rfl,rfl,rfl,rfl,rfl,rfl,rfl,rfl,rfl,rfl,rfl,rfl,rfl,rfl,rfl,rfl,rfl,rfl,rfl,rfl,rfl,rfl,rfl,rfl,rfl,rfl,rfl,rfl,rfl,rfl,rfl,rfl,rfl,rfl,rfl,rfl,rfl,rfl,rfl,rfl,rfl,rfl,rfl,rfl,rfl,rfl,rfl,rfl,rfl,rfl,rfl,rfl,rfl,rfl,rfl,rfl,rfl,rfl,rfl,rfl,rfl,rfl,rfl,rfl,rfl,rfl,rfl,rfl,rfl,rfl,rfl,rfl,rfl,rfl,rfl,rfl,rfl,rfl,rfl,rfl,rfl,rfl,rfl,rfl,rfl,rfl,rfl,rfl,rfl,rfl,rfl,rfl,rfl,rfl,rfl,rfl,rfl,rfl,rfl,rfl,rfl,rfl,rfl,rfl,rfl,rfl,rfl,rfl,rfl,rfl,rfl,rfl,rfl,rfl,rfl,rfl⟩
theorem fc {p:Prop} (h:p:=by first|((repeat' (first | exact trivial|refine zA.app ?_ ?_|refine zA.zd ?_ ?_|refine zA.cons ?_ ?_ | with_reducible rfl | with_reducible assumption | omega | (simp only [rng,Ix.val,zQ,addI,szs] <;> omega) | (simp only [rng,Ix.val,zIn,zme,zQ,addI,Option.getD_none,Option.getD_some,zlT,zlD,zlA,List.length_set,List.length_replicate,szs, *] <;> omega) | (simp only [Ix.val];with_reducible assumption) | exact UInt8.toNat_lt _ | (apply Eq.trans;(with_reducible assumption);exact rfl) | exact rfl | exact fun _ _=>rfl));done)|fail):p:=h
theorem fcn {p:Prop} (h:p:=by first|((repeat' (first | exact trivial|refine zA.app ?_ ?_|refine zA.zd ?_ ?_|refine zA.cons ?_ ?_ | with_reducible rfl | with_reducible assumption | omega | (simp only [Nat.zero_add,zIn,rng,Ix.val,zQ,addI,szs] <;> omega) | (simp only [Nat.zero_add,zIn,rng,Ix.val,zIn,zme,zQ,addI,Option.getD_none,Option.getD_some,zlT,zlD,zlA,List.length_set,List.length_replicate,szs, *] <;> omega) | (simp only [Ix.val];with_reducible assumption) | exact UInt8.toNat_lt _ | (apply Eq.trans;(with_reducible assumption);exact rfl) | exact rfl | exact fun _ _=>rfl));done)|fail):p:=h
theorem gi {M M' : Mm} {ok : Mm → Bool} {X : Mm → Prop} {ok2 : Mm → Bool} {Y : Prop} (k : X []) (h1 : M' = [] ++ M := by exact rfl) (h2 : ok [] = true := by exact rfl) : dC M M' ok X ok2 Y := dC.intro [] h1 h2 k
theorem ga {M M' : Mm} {ok : Mm → Bool} {X : Mm → Prop} {ok2 : Mm → Bool} {Y : Prop} (k : zfM (pZ M M') X) (h1 : M' = pZ M M' ++ M := by exact rfl) (h2 : ok (pZ M M') = true := by exact rfl) : dC M M' ok X ok2 Y := dC.auto h1 h2 k
theorem gt {M M' : Mm} {ok : Mm → Bool} {X : Mm → Prop} {ok2 : Mm → Bool} {Y : Prop} (k : Y) (h1 : M' = pZ M M' ++ M := by exact rfl) (h2 : ok2 (pZ M M') = true := by exact rfl) : dC M M' ok X ok2 Y := dC.turn h1 h2 k
theorem sd {ps:List Prop} {K:Prop} (k:K) (h:zA ps:=by exact fc):d0 ps K:=d0.intro h k
theorem sdn {ps:List Prop} {K:Prop} (k:K) (h:zA ps:=by exact fcn):d0 ps K:=d0.intro h k
theorem fcE {p:Prop} (h:p:=by first|((repeat' (first|exact trivial|refine zA.app ?_ ?_|refine zA.zd ?_ ?_|refine zA.cons ?_ ?_|with_reducible rfl|with_reducible assumption|omega|(simp only [Nat.zero_add,e0,e1,e2,e3,e4,zIn,rng,Ix.val,zQ,addI,szs] <;> omega)|(simp only [Nat.zero_add,e0,e1,e2,e3,e4,zIn,rng,Ix.val,zme,zQ,addI,Option.getD_none,Option.getD_some,zlT,zlD,zlA,List.length_set,List.length_replicate,szs, *] <;> omega)|exact fc|fail));done)|fail):p:=h
theorem sdE {ps:List Prop} {K:Prop} (k:K) (h:zA ps:=by exact fcE):d0 ps K:=d0.intro h k
theorem fcF {p:Prop} (h:p:=by first|((repeat' (first|exact trivial|refine zA.app ?_ ?_|refine zA.zd ?_ ?_|refine zA.cons ?_ ?_|with_reducible rfl|with_reducible assumption|omega|(simp only [Nat.zero_add,e0,zIn,rng,Ix.val,zQ,addI,szs] <;> omega)|(simp only [Nat.zero_add,e0,zIn,rng,Ix.val,zme,zQ,addI,Option.getD_none,Option.getD_some,zlT,zlD,zlA,List.length_set,List.length_replicate,szs, *] <;> omega)|exact fc|fail));done)|fail):p:=h
theorem sdF {ps:List Prop} {K:Prop} (k:K) (h:zA ps:=by exact fcF):d0 ps K:=d0.intro h k
theorem fcG {p:Prop} (h:p:=by first|((repeat' (first|exact trivial|refine zA.app ?_ ?_|refine zA.zd ?_ ?_|refine zA.cons ?_ ?_|with_reducible rfl|with_reducible assumption|omega|(simp only [Nat.zero_add,e3,zIn,rng,Ix.val,zQ,addI,szs] <;> omega)|(simp only [Nat.zero_add,e3,zIn,rng,Ix.val,zme,zQ,addI,Option.getD_none,Option.getD_some,zlT,zlD,zlA,List.length_set,List.length_replicate,szs, *] <;> omega)|exact fc|fail));done)|fail):p:=h
theorem fcH {p:Prop} (h:p:=by first|((repeat' (first|exact trivial|refine zA.app ?_ ?_|refine zA.zd ?_ ?_|refine zA.cons ?_ ?_|with_reducible rfl|with_reducible assumption|omega|(simp only [Nat.zero_add,e4,zIn,rng,Ix.val,zQ,addI,szs] <;> omega)|(simp only [Nat.zero_add,e4,zIn,rng,Ix.val,zme,zQ,addI,Option.getD_none,Option.getD_some,zlT,zlD,zlA,List.length_set,List.length_replicate,szs, *] <;> omega)|exact fc|fail));done)|fail):p:=h
theorem fcI {p:Prop} (h:p:=by first|((repeat' (first|exact trivial|refine zA.app ?_ ?_|refine zA.zd ?_ ?_|refine zA.cons ?_ ?_|with_reducible rfl|with_reducible assumption|omega|(simp only [Nat.zero_add,e0,e1,zIn,rng,Ix.val,zQ,addI,szs] <;> omega)|(simp only [Nat.zero_add,e0,e1,zIn,rng,Ix.val,zme,zQ,addI,Option.getD_none,Option.getD_some,zlT,zlD,zlA,List.length_set,List.length_replicate,szs, *] <;> omega)|exact fc|fail));done)|fail):p:=h
theorem sdI {ps:List Prop} {K:Prop} (k:K) (h:zA ps:=by exact fcI):d0 ps K:=d0.intro h k
theorem fcJ {p:Prop} (h:p:=by first|((repeat' (first|exact trivial|refine zA.app ?_ ?_|refine zA.zd ?_ ?_|refine zA.cons ?_ ?_|with_reducible rfl|with_reducible assumption|omega|(simp only [Nat.zero_add,e1,e2,zIn,rng,Ix.val,zQ,addI,szs] <;> omega)|(simp only [Nat.zero_add,e1,e2,zIn,rng,Ix.val,zme,zQ,addI,Option.getD_none,Option.getD_some,zlT,zlD,zlA,List.length_set,List.length_replicate,szs, *] <;> omega)|exact fc|fail));done)|fail):p:=h
theorem sdJ {ps:List Prop} {K:Prop} (k:K) (h:zA ps:=by exact fcJ):d0 ps K:=d0.intro h k
theorem fcK {p:Prop} (h:p:=by first|((repeat' (first|exact trivial|refine zA.app ?_ ?_|refine zA.zd ?_ ?_|refine zA.cons ?_ ?_|with_reducible rfl|with_reducible assumption|omega|(simp only [Nat.zero_add,e1,zIn,rng,Ix.val,zQ,addI,szs] <;> omega)|(simp only [Nat.zero_add,e1,zIn,rng,Ix.val,zme,zQ,addI,Option.getD_none,Option.getD_some,zlT,zlD,zlA,List.length_set,List.length_replicate,szs, *] <;> omega)|exact fc|fail));done)|fail):p:=h
theorem sdK {ps:List Prop} {K:Prop} (k:K) (h:zA ps:=by exact fcK):d0 ps K:=d0.intro h k
theorem fcL {p:Prop} (h:p:=by first|((repeat' (first|exact trivial|refine zA.app ?_ ?_|refine zA.zd ?_ ?_|refine zA.cons ?_ ?_|with_reducible rfl|with_reducible assumption|omega|(simp only [Nat.zero_add,hw4,zIn,rng,Ix.val,zQ,addI,szs] <;> omega)|(simp only [Nat.zero_add,hw4,zIn,rng,Ix.val,zme,zQ,addI,Option.getD_none,Option.getD_some,zlT,zlD,zlA,List.length_set,List.length_replicate,szs, *] <;> omega)|exact fc|fail));done)|fail):p:=h
theorem sdL {ps:List Prop} {K:Prop} (k:K) (h:zA ps:=by exact fcL):d0 ps K:=d0.intro h k
theorem fcM {p:Prop} (h:p:=by first|((repeat' (first|exact trivial|refine zA.app ?_ ?_|refine zA.zd ?_ ?_|refine zA.cons ?_ ?_|with_reducible rfl|with_reducible assumption|omega|(simp only [Nat.zero_add,e1,e2,e3,e4,zIn,rng,Ix.val,zQ,addI,szs] <;> omega)|(simp only [Nat.zero_add,e1,e2,e3,e4,zIn,rng,Ix.val,zme,zQ,addI,Option.getD_none,Option.getD_some,zlT,zlD,zlA,List.length_set,List.length_replicate,szs, *] <;> omega)|exact fc|fail));done)|fail):p:=h
theorem sdM {ps:List Prop} {K:Prop} (k:K) (h:zA ps:=by exact fcM):d0 ps K:=d0.intro h k
theorem fcN {p:Prop} (h:p:=by first|((repeat' (first|exact trivial|refine zA.app ?_ ?_|refine zA.zd ?_ ?_|refine zA.cons ?_ ?_|with_reducible rfl|with_reducible assumption|omega|(simp only [Nat.zero_add,hV,zIn,rng,Ix.val,zQ,addI,szs] <;> omega)|(simp only [Nat.zero_add,hV,zIn,rng,Ix.val,zme,zQ,addI,Option.getD_none,Option.getD_some,zlT,zlD,zlA,List.length_set,List.length_replicate,szs, *] <;> omega)|exact fc|fail));done)|fail):p:=h
theorem sdN {ps:List Prop} {K:Prop} (k:K) (h:zA ps:=by exact fcN):d0 ps K:=d0.intro h k
theorem fcO {p:Prop} (h:p:=by first|((repeat' (first|exact trivial|refine zA.app ?_ ?_|refine zA.zd ?_ ?_|refine zA.cons ?_ ?_|with_reducible rfl|with_reducible assumption|omega|(simp only [Nat.zero_add,eq2,hL,hm,hx,zIn,rng,Ix.val,zQ,addI,szs] <;> omega)|(simp only [Nat.zero_add,eq2,hL,hm,hx,zIn,rng,Ix.val,zme,zQ,addI,Option.getD_none,Option.getD_some,zlT,zlD,zlA,List.length_set,List.length_replicate,szs, *] <;> omega)|exact fc|fail));done)|fail):p:=h
theorem sdO {ps:List Prop} {K:Prop} (k:K) (h:zA ps:=by exact fcO):d0 ps K:=d0.intro h k
theorem fcP {p:Prop} (h:p:=by first|((repeat' (first|exact trivial|refine zA.app ?_ ?_|refine zA.zd ?_ ?_|refine zA.cons ?_ ?_|with_reducible rfl|with_reducible assumption|omega|(simp only [Nat.zero_add,eq2,eqg,hx,zIn,rng,Ix.val,zQ,addI,szs] <;> omega)|(simp only [Nat.zero_add,eq2,eqg,hx,zIn,rng,Ix.val,zme,zQ,addI,Option.getD_none,Option.getD_some,zlT,zlD,zlA,List.length_set,List.length_replicate,szs, *] <;> omega)|exact fc|fail));done)|fail):p:=h
theorem sdP {ps:List Prop} {K:Prop} (k:K) (h:zA ps:=by exact fcP):d0 ps K:=d0.intro h k
abbrev r_4:List Nat:=[0,1,2,3]
abbrev r_5:List Nat:=[0,1,2,3,4]
abbrev r_6:List Nat:=[0,1,2,3,4,5]
abbrev r_7:List Nat:=[0,1,2,3,4,5,6]
abbrev r_8:List Nat:=[0,1,2,3,4,5,6,7]
abbrev r_9:List Nat:=[0,1,2,3,4,5,6,7,8]
abbrev fi:List Nat:=[0,1,2,3,4,5,6,7,8,9]
abbrev fy:List Nat:=[0,1,2,3,4,5,6,7,8,9,10]
abbrev mR:List Nat:=[0,1,2,3,4,5,6,7,8,9,10,11]
abbrev nb:List Nat:=[0,1,2,3,4,5,6,7,8,9,10,11,12]
abbrev sj:List Nat:=[0,1,2,3,4,5,6,7,8,9,10,11,12,13]
abbrev uM:List Nat:=[0,1,2,3,4,5,6,7,8,9,10,11,12,13,14]
abbrev rM:List Nat:=[0,1,2,3,4,5,6,7,8,9,10,11,12,13,14,15]
abbrev uL:List Nat:=[0,1,2,3,4,5,6,7,8,9,10,11,12,13,14,15,16]
abbrev rL:List Nat:=[0,1,2,3,4,5,6,7,8,9,10,11,12,13,14,15,16,17]
abbrev aNM:List Nat:=[0,1,2,3,4,5,6,7,8,9,10,11,12,13,14,15,16,17,18]
abbrev aOK:List Nat:=[0,1,2,3,4,5,6,7,8,9,10,11,12,13,14,15,16,17,18,19]
abbrev aRL:List Nat:=[0,1,2,3,4,5,6,7,8,9,10,11,12,13,14,15,16,17,18,19,20]
abbrev aVT:List Nat:=[0,1,2,3,4,5,6,7,8,9,10,11,12,13,14,15,16,17,18,19,20,21]
abbrev aRK:List Nat:=[0,1,2,3,4,5,6,7,8,9,10,11,12,13,14,15,16,17,18,19,20,21,22]
abbrev aOJ:List Nat:=[0,1,2,3,4,5,6,7,8,9,10,11,12,13,14,15,16,17,18,19,20,21,22,23]
abbrev aOI:List Nat:=[0,1,2,3,4,5,6,7,8,9,10,11,12,13,14,15,16,17,18,19,20,21,22,23,24]
abbrev aSL:List Nat:=[0,1,2,3,4,5,6,7,8,9,10,11,12,13,14,15,16,17,18,19,20,21,22,23,24,25]
abbrev aI3:List Nat:=[0,1,2,3,4,5,6,7,8,9,10,11,12,13,14,15,16,17,18,19,20,21,22,23,24,25,26]
abbrev aSK:List Nat:=[0,1,2,3,4,5,6,7,8,9,10,11,12,13,14,15,16,17,18,19,20,21,22,23,24,25,26,27]
abbrev aI2:List Nat:=[0,1,2,3,4,5,6,7,8,9,10,11,12,13,14,15,16,17,18,19,20,21,22,23,24,25,26,27,28]
abbrev aNL:List Nat:=[0,1,2,3,4,5,6,7,8,9,10,11,12,13,14,15,16,17,18,19,20,21,22,23,24,25,26,27,28,29]
abbrev aSJ:List Nat:=[0,1,2,3,4,5,6,7,8,9,10,11,12,13,14,15,16,17,18,19,20,21,22,23,24,25,26,27,28,29,30]
abbrev aRJ:List Nat:=[0,1,2,3,4,5,6,7,8,9,10,11,12,13,14,15,16,17,18,19,20,21,22,23,24,25,26,27,28,29,30,31]
abbrev aU2:List Nat:=[0,1,2,3,4,5,6,7,8,9,10,11,12,13,14,15,16,17,18,19,20,21,22,23,24,25,26,27,28,29,30,31,32]
abbrev aSI:List Nat:=[0,1,2,3,4,5,6,7,8,9,10,11,12,13,14,15,16,17,18,19,20,21,22,23,24,25,26,27,28,29,30,31,32,33]
theorem ky0 {p a b:Prop} (k:a) (h:p:=by first | with_reducible exact trivial | with_reducible rfl | with_reducible exact Iff.rfl | fail):zB p a b:=zB.intro (fun _=>k) (fun hn=>absurd h hn)
theorem kn0 {p a b:Prop} (k:b) (h:¬ p:=by first | (intro hn;with_reducible exact False.elim hn) | (intro hn;with_reducible exact absurd trivial hn) | (intro hn;with_reducible exact absurd rfl hn) | (intro hn;with_reducible exact absurd Iff.rfl hn) | fail):zB p a b:=zB.intro (fun hn=>absurd hn h) (fun _=>k)
theorem ky {p a b:Prop} (k:a) (h:p:=by first | with_reducible assumption | fail):zB p a b:=zB.intro (fun _=>k) (fun hn=>absurd h hn)
theorem kn {p a b:Prop} (k:b) (h:¬ p:=by first | with_reducible assumption | (intro hn;refine absurd ?_ hn;with_reducible assumption) | fail):zB p a b:=zB.intro (fun hn=>absurd hn h) (fun _=>k)
end Go.Proofs.YtimbdhpchlakfaaGreat
namespace Go.Cu
def IsP (p:Nat):Prop:=2 <= p/\∀ m,m ∣ p->m = 1 \/ m = p
theorem IsP.euclid {p:Nat} (h:IsP p) {a b:Nat} (hd:p ∣ a * b):p ∣ a \/ p ∣ b:=by
 rcases h.2 (gcd p a) (Nat.gcd_dvd_left p a) with h1 | h1
 ·exact Or.inr (Nat.Coprime.dvd_of_dvd_mul_left h1 hd)
 ·exact Or.inl (h1 ▸ Nat.gcd_dvd_right p a)
theorem exP:∀ n,2 <= n->∃ p,IsP p/\p ∣ n:=by
 intro n
 induction n using Nat.strongRecOn with
 | _ n ih=>
  intro hn
  by_cases h:IsP n
  ·exact ⟨n,h,Nat.dvd_refl n⟩
  ·have:∃ m,m ∣ n/\m ≠ 1/\m ≠ n:=by
    apply Classical.byContradiction
    intro hc
    apply h
    refine ⟨hn,fun m hm=>?_⟩
    by_cases h1:m = 1
    ·exact Or.inl h1
    ·by_cases h2:m = n
     ·exact Or.inr h2
     ·exact absurd ⟨m,hm,h1,h2⟩ hc
   obtain ⟨m,hm,h1,h2⟩:=this
   have hle:=le_of_dvd (by omega) hm
   have h0:m ≠ 0:=by rintro rfl;have:=Nat.eq_zero_of_zero_dvd hm;omega
   obtain ⟨p,hp,hpm⟩:=ih m (by omega) (by omega)
   exact ⟨p,hp,Nat.dvd_trans hpm hm⟩
def ch:Nat->Nat->Nat
 | _,0=>1
 | 0,_ + 1=>0
 | n + 1,k + 1=>ch n k + ch n (k + 1)
theorem yF:∀ n k,(k + 1) * ch (n + 1) (k + 1) = (n + 1) * ch n k
 | 0,0=>rfl
 | 0,k + 1=>by show (k + 1 + 1) * (ch 0 (k + 1) + ch 0 (k + 2)) = 1 * ch 0 (k + 1);show (k + 2) * (0 + 0) = 1 * 0;omega
 | n + 1,0=>by
  have h:=yF n 0
  show 1 * (ch (n + 1) 0 + ch (n + 1) 1) = (n + 2) * ch (n + 1) 0
  have e:ch (n + 1) 0 = 1:=rfl
  have e2:ch n 0 = 1:=by cases n <;> rfl
  have h':1 * ch (n + 1) 1 = (n + 1) * ch n 0:=h
  rw [e2] at h'
  rw [e];omega
 | n + 1,k + 1=>by
  have h1:=yF n k
  have h2:=yF n (k + 1)
  show (k + 2) * (ch (n + 1) (k + 1) + ch (n + 1) (k + 2)) = (n + 2) * ch (n + 1) (k + 1)
  have e:ch (n + 1) (k + 1) = ch n k + ch n (k + 1):=rfl
  have h3:(k + 2) * ch (n + 1) (k + 1) = (n + 1) * ch n k + ch (n + 1) (k + 1):=by
   rw [<- h1,<- Nat.succ_mul]
  have h2':(k + 2) * ch (n + 1) (k + 2) = (n + 1) * ch n (k + 1):=h2
  rw [mul_add,h3,h2']
  have:(n + 2) * ch (n + 1) (k + 1) = (n + 1) * ch (n + 1) (k + 1) + ch (n + 1) (k + 1):=Nat.succ_mul _ _
  rw [this,e,mul_add]
  omega
theorem yE:∀ n k,n < k->ch n k = 0
 | 0,k + 1,_=>rfl
 | n + 1,k + 1,h=>by show ch n k + ch n (k + 1) = 0;rw [yE n k (by omega),yE n (k + 1) (by omega)]
theorem aE1:∀ n,ch n n = 1
 | 0=>rfl
 | n + 1=>by show ch n n + ch n (n + 1) = 1;rw [aE1 n,yE n (n + 1) (by omega)]
def bs (n a:Nat):Nat->Nat
 | 0=>0
 | k + 1=>bs n a k + ch n k * a ^ k
theorem aE5 (n a:Nat):∀ k,bs (n + 1) a (k + 1) = bs n a (k + 1) + a * bs n a k
 | 0=>by show 0 + ch (n + 1) 0 * 1 = 0 + ch n 0 * 1 + a * 0;have:ch n 0 = 1:=(by cases n <;> rfl);have e:ch (n + 1) 0 = 1:=rfl;rw [this,e];omega
 | k + 1=>by
  have h:=aE5 n a k
  show bs (n + 1) a (k + 1) + ch (n + 1) (k + 1) * a ^ (k + 1) = bs n a (k + 1) + ch n (k + 1) * a ^ (k + 1) + a * (bs n a k + ch n k * a ^ k)
  have e:ch (n + 1) (k + 1) = ch n k + ch n (k + 1):=rfl
  have e2:a * (ch n k * a ^ k) = ch n k * a ^ (k + 1):=by rw [pow_succ,mul_comm (a ^ k) a,<- mul_assoc,<- mul_assoc,mul_comm a]
  rw [h,e,add_mul,mul_add,e2]
  omega
theorem aKE (a:Nat):∀ n,(a + 1) ^ n = bs n a (n + 1)
 | 0=>by show 1 = 0 + 1 * 1;rfl
 | n + 1=>by
  rw [aE5,pow_succ,aKE a n]
  have:bs n a (n + 2) = bs n a (n + 1) + ch n (n + 1) * a ^ (n + 1):=rfl
  rw [this,yE n (n + 1) (by omega),Nat.zero_mul,mul_add,mul_comm a]
  omega
theorem aQ0 {p k:Nat} (h:IsP p) (h0:0 < k) (hk:k < p):p ∣ ch p k:=by
 obtain ⟨k,rfl⟩:∃ j,k = j + 1:=⟨k - 1,by omega⟩
 obtain ⟨p',rfl⟩:∃ j,p = j + 1:=⟨p - 1,by omega⟩
 have h1:=yF p' k
 rcases h.euclid (a:=k + 1) (b:=ch (p' + 1) (k + 1)) ⟨ch p' k,h1⟩ with h2 | h2
 ·have:=le_of_dvd (by omega) h2;omega
 ·exact h2
theorem aKD {p:Nat} (h:IsP p) (a:Nat):∀ k,k + 1 <= p->bs p a (k + 1) % p = 1
 | 0,_=>by
  have h2:=h.1
  show (0 + ch p 0 * 1) % p = 1
  have:ch p 0 = 1:=by cases p <;> rfl
  rw [this];exact mod_eq_of_lt (by omega)
 | k + 1,hk=>by
  have ih:=aKD h a k (by omega)
  obtain ⟨c,hc⟩:=aQ0 h (k:=k + 1) (by omega) (by omega)
  show (bs p a (k + 1) + ch p (k + 1) * a ^ (k + 1)) % p = 1
  rw [hc,mul_assoc,Nat.add_mul_mod_self_left,ih]
theorem aJ3 {p:Nat} (h:IsP p):∀ a,a ^ p % p = a % p
 | 0=>by have:=h.1;rw [Nat.zero_pow (by omega)]
 | a + 1=>by
  have ih:=aJ3 h a
  have h2:=h.1
  rw [aKE]
  have e:bs p a (p + 1) = bs p a p + ch p p * a ^ p:=rfl
  have hb:=aKD h a (p - 1) (by omega)
  rw [show p - 1 + 1 = p by omega] at hb
  rw [e,aE1,Nat.one_mul,Nat.add_mod,ih,hb,Nat.add_comm,Nat.mod_add_mod]
theorem aEA {p a:Nat} (h:IsP p) (ha:¬ p ∣ a):a ^ (p - 1) % p = 1:=by
 have h2:=h.1
 have hf:=aJ3 h a
 have e:a ^ p = a * a ^ (p - 1):=by
  have:=@Nat.pow_succ' a (p - 1)
  rw [<- this];congr 1;omega
 have hpos:0 < a ^ (p - 1):=Nat.pow_pos (by rcases Nat.eq_zero_or_pos a with rfl | h;exact absurd (Nat.dvd_zero p) ha;exact h)
 have hd:p ∣ a * (a ^ (p - 1) - 1):=by
  rw [Nat.mul_sub,<- e,Nat.mul_one]
  exact Nat.dvd_of_mod_eq_zero (Nat.sub_mod_eq_zero_of_mod_eq hf)
 rcases h.euclid hd with h3 | h3
 ·exact absurd h3 ha
 ·obtain ⟨c,hc⟩:=h3
  have e2:a ^ (p - 1) = p * c + 1:=by omega
  rw [e2,Nat.mul_add_mod];exact mod_eq_of_lt (by omega)
theorem aGX {b r x:Nat} (h:b ^ x % r = 1) (hr:1 < r) (k:Nat):b ^ (x * k) % r = 1:=by
 rw [Nat.pow_mul,Nat.pow_mod,h,Nat.one_pow];exact mod_eq_of_lt hr
theorem aK8 {b r:Nat} (hr:1 < r):∀ x y,b ^ x % r = 1->b ^ y % r = 1->b ^ gcd x y % r = 1:=by
 intro x
 induction x using Nat.strongRecOn with
 | _ x ih=>
  intro y hx hy
  rcases Nat.eq_zero_or_pos x with rfl | h0
  ·rw [Nat.gcd_zero_left];exact hy
  ·rw [Nat.gcd_rec]
   refine ih (y % x) (Nat.mod_lt _ h0) x ?_ hx
   have e:b ^ y = b ^ (x * (y / x)) * b ^ (y % x):=by rw [<- Nat.pow_add,Nat.div_add_mod]
   rw [e,Nat.mul_mod,aGX hx hr,Nat.one_mul,Nat.mod_mod] at hy
   exact hy
theorem aVV {N a q m r:Nat} (hq:IsP q) (hN:N = q * m + 1) (h1:a ^ (q * m) % N = 1) (hg:gcd (a ^ m % N + (N - 1)) N = 1) (hr:IsP r) (hd:r ∣ N):q ∣ r - 1:=by
 have hr2:=hr.1
 apply Classical.byContradiction
 intro hc
 have hco:gcd q (r - 1) = 1:=by
  rcases hq.2 _ (Nat.gcd_dvd_left q (r - 1)) with h | h
  ·exact h
  ·exact absurd (h ▸ Nat.gcd_dvd_right q (r - 1)) hc
 have hbq:(a ^ m) ^ q % r = 1:=by
  rw [<- Nat.pow_mul,mul_comm m q,<- Nat.mod_mod_of_dvd _ hd,h1]
  exact mod_eq_of_lt hr2
 have hnd:¬ r ∣ a ^ m:=by
  intro h
  have hq2:=hq.1
  have h3:r ∣ (a ^ m) ^ q:=Nat.dvd_trans h ⟨(a ^ m) ^ (q - 1),by have:=@Nat.pow_succ' (a ^ m) (q - 1);rw [<- this];congr 1;omega⟩
  have:=Nat.mod_eq_zero_of_dvd h3
  omega
 have hbr:=aEA hr hnd
 have hb:=aK8 (by omega) q (r - 1) hbq hbr
 rw [hco,Nat.pow_one] at hb
 have h4:(a ^ m % N) % r = 1:=by rw [Nat.mod_mod_of_dvd _ hd];exact hb
 have h5:r ∣ a ^ m % N + (N - 1):=by
  apply Nat.dvd_of_mod_eq_zero
  obtain ⟨k,hk⟩:=hd
  have hk1:1 <= k:=by rcases Nat.eq_zero_or_pos k with rfl | h;rw [Nat.mul_zero] at hk;omega;exact h
  have e:a ^ m % N + (N - 1) = r * (a ^ m % N / r) + r * k:=by
   have:=Nat.div_add_mod (a ^ m % N) r
   have hN1:1 <= N:=by rw [hN];omega
   rw [h4] at this
   omega
  rw [e,<- mul_add,Nat.mul_mod_right]
 have h6:r ∣ 1:=hg ▸ Nat.dvd_gcd h5 hd
 have:=le_of_dvd (by omega) h6
 omega
theorem aOS {N Q:Nat} (hN:2 <= N) (h:∀ r,IsP r->r ∣ N->Q ∣ r - 1) (hQ:N < (Q + 1) * (Q + 1)):IsP N:=by
 have key:∀ m,m ∣ N->2 <= m->Q + 1 <= m:=by
  intro m hm h2
  obtain ⟨r,hr,hrm⟩:=exP m h2
  have h1:=h r hr (Nat.dvd_trans hrm hm)
  have h3:=hr.1
  have:=le_of_dvd (by omega) h1
  have:=le_of_dvd (by omega) hrm
  omega
 refine ⟨hN,fun m hm=>?_⟩
 obtain ⟨k,hk⟩:=hm
 by_cases h1:m = 1
 ·exact Or.inl h1
 by_cases h2:m = N
 ·exact Or.inr h2
 have m0:m ≠ 0:=by rintro rfl;omega
 have k0:k ≠ 0:=by rintro rfl;omega
 have k1:k ≠ 1:=by rintro rfl;omega
 have:=Nat.mul_le_mul (key m ⟨k,hk⟩ (by omega)) (key k ⟨m,by rw [hk,mul_comm]⟩ (by omega))
 omega
def aG5 (m a:Nat):Nat->Nat->Nat
 | 0,_=>1 % m
 | f + 1,e=>let h:=aG5 m a f (e / 2);if e % 2 = 0 then h * h % m else h * h % m * a % m
theorem rU (m a:Nat):∀ f e,e < 2 ^ f->aG5 m a f e = a ^ e % m
 | 0,e,h=>by
  have:e = 0:=by simpa using h
  subst this;rfl
 | f + 1,e,h=>by
  have ih:=rU m a f (e / 2) (by rw [pow_succ] at h;omega)
  have e1:=Nat.div_add_mod e 2
  unfold aG5
  rw [ih]
  show (if e % 2 = 0 then a ^ (e / 2) % m * (a ^ (e / 2) % m) % m else a ^ (e / 2) % m * (a ^ (e / 2) % m) % m * a % m) = a ^ e % m
  rw [<- Nat.mul_mod,<- Nat.pow_add]
  by_cases h0:e % 2 = 0
  ·rw [if_pos h0];congr 2;omega
  ·rw [if_neg h0,Nat.mod_mul_mod,<- pow_succ];congr 2;omega
def aG1 (n:Nat):Nat->Bool
 | 0=>true
 | 1=>true
 | k + 2=>n % (k + 2) != 0 && aG1 n (k + 1)
theorem qL (n:Nat):∀ k,aG1 n k = true->∀ j,2 <= j->j <= k->n % j ≠ 0
 | 0,_,j,h1,h2=>by omega
 | 1,_,j,h1,h2=>by omega
 | k + 2,h,j,h1,h2=>by
  unfold aG1 at h
  rw [Bool.and_eq_true] at h
  by_cases hj:j = k + 2
  ·subst hj;simpa using h.1
  ·exact qL n (k + 1) h.2 j h1 (by omega)
theorem small {n:Nat} (k:Nat) (h2:2 <= n) (hk:n < (k + 1) * (k + 1)) (h:aG1 n k = true):IsP n:=by
 have key:∀ m,m ∣ n->2 <= m->k + 1 <= m:=by
  intro m hm hm2
  apply Classical.byContradiction
  intro hc
  exact qL n k h m hm2 (by omega) (Nat.mod_eq_zero_of_dvd hm)
 refine ⟨h2,fun m hm=>?_⟩
 obtain ⟨j,hj⟩:=hm
 by_cases h1:m = 1
 ·exact Or.inl h1
 by_cases h3:m = n
 ·exact Or.inr h3
 have m0:m ≠ 0:=by rintro rfl;omega
 have k0:j ≠ 0:=by rintro rfl;omega
 have k1:j ≠ 1:=by rintro rfl;omega
 have:=Nat.mul_le_mul (key m ⟨j,hj⟩ (by omega)) (key j ⟨m,by rw [hj,mul_comm]⟩ (by omega))
 omega
def pkB (N q:Nat):Bool:=N == q * ((N - 1) / q) + 1 && (aG5 N 2 256 (N - 1) == 1 && gcd (aG5 N 2 256 ((N - 1) / q) + (N - 1)) N == 1)
theorem u7 {N q r:Nat} (hq:IsP q) (hN:N < 2 ^ 256) (h:pkB N q = true) (hr:IsP r) (hd:r ∣ N):q ∣ r - 1:=by
 unfold pkB at h
 rw [Bool.and_eq_true,Bool.and_eq_true,beq_iff_eq,beq_iff_eq,beq_iff_eq] at h
 obtain ⟨h1,h2,h3⟩:=h
 rw [rU N 2 256 _ (by omega)] at h2
 rw [rU N 2 256 _ (Nat.lt_of_le_of_lt (Nat.div_le_self _ _) (by omega))] at h3
 refine aVV hq (m:=(N - 1) / q) (a:=2) h1 ?_ h3 hr hd
 have:q * ((N - 1) / q) = N - 1:=by omega
 rw [this];exact h2
theorem pk1 {N:Nat} (q:Nat) (hq:IsP q) (hN2:2 <= N) (hN:N < 2 ^ 256) (hQ:N < (q + 1) * (q + 1)) (h:pkB N q = true):IsP N:=
 aOS hN2 (fun _ hr hd=>u7 hq hN h hr hd) hQ
theorem pk2 {N:Nat} (q s:Nat) (hq:IsP q) (hs:IsP s) (hc:gcd q s = 1) (hN2:2 <= N) (hN:N < 2 ^ 256) (hQ:N < (q * s + 1) * (q * s + 1)) (h:pkB N q = true) (h':pkB N s = true):IsP N:=
 aOS hN2 (fun _ hr hd=>Nat.Coprime.mul_dvd_of_dvd_of_dvd hc (u7 hq hN h hr hd) (u7 hs hN h' hr hd)) hQ
abbrev aB:Nat:=57896044618658097711785492504343953926634992332820282019728792003956564819949
theorem prA:IsP 8574133:=pk2 991 103 (small 31 (by decide) (by decide) (by decide +kernel)) (small 10 (by decide) (by decide) (by decide +kernel)) (by decide +kernel) (by decide) (by decide +kernel) (by decide +kernel) (by decide +kernel) (by decide +kernel)
theorem prB:IsP 1919519569386763:=pk2 8574133 127 prA (small 11 (by decide) (by decide) (by decide +kernel)) (by decide +kernel) (by decide) (by decide +kernel) (by decide +kernel) (by decide +kernel) (by decide +kernel)
theorem prC:IsP 72106336199:=pk1 2773320623 (pk1 569003 (small 754 (by decide) (by decide) (by decide +kernel)) (by decide) (by decide +kernel) (by decide +kernel) (by decide +kernel)) (by decide) (by decide +kernel) (by decide +kernel) (by decide +kernel)
theorem prD:IsP 75445702479781427272750846543864801:=pk2 1919519569386763 72106336199 prB prC (by decide +kernel) (by decide) (by decide +kernel) (by decide +kernel) (by decide +kernel) (by decide +kernel)
theorem prE:IsP 31757755568855353:=pk2 430751 4153 (small 656 (by decide) (by decide) (by decide +kernel)) (small 64 (by decide) (by decide) (by decide +kernel)) (by decide +kernel) (by decide) (by decide +kernel) (by decide +kernel) (by decide +kernel) (by decide +kernel)
theorem prF:IsP 74058212732561358302231226437062788676166966415465897661863160754340907:=pk2 75445702479781427272750846543864801 31757755568855353 prD prE (by decide +kernel) (by decide) (by decide +kernel) (by decide +kernel) (by decide +kernel) (by decide +kernel)
theorem prP:IsP aB:=pk1 74058212732561358302231226437062788676166966415465897661863160754340907 prF (by decide) (by decide +kernel) (by decide +kernel) (by decide +kernel)
end Go.Cu
namespace Go.Cu
abbrev F:=Fin aB
instance:NeZero aB:=⟨by decide⟩
theorem aEF (a b:F):(a * b).val = a.val * b.val % aB:=rfl
theorem aEG (a b:F):(a + b).val = (a.val + b.val) % aB:=rfl
theorem dB {a b:F} (h:a * b = 0):a = 0 \/ b = 0:=by
 have h1:a.val * b.val % aB = 0:=congrArg Fin.val h
 rcases prP.euclid (Nat.dvd_of_mod_eq_zero h1) with h2 | h2
 ·exact Or.inl (Fin.ext (by have:=Nat.eq_zero_of_dvd_of_lt h2 a.isLt;exact this))
 ·exact Or.inr (Fin.ext (by have:=Nat.eq_zero_of_dvd_of_lt h2 b.isLt;exact this))
theorem dl {a b:F} (ha:a ≠ 0) (hb:b ≠ 0):a * b ≠ 0:=fun h=>(dB h).elim ha hb
theorem vu {a b c:F} (hc:c ≠ 0) (h:a * c = b * c):a = b:=by
 have h1:(a - b) * c = 0:=by grind
 rcases dB h1 with h2 | h2
 ·grind
 ·exact absurd h2 hc
def pw (a:F):Nat->F
 | 0=>1
 | n + 1=>pw a n * a
theorem aCF (a:F):∀ n,(pw a n).val = a.val ^ n % aB
 | 0=>rfl
 | n + 1=>by rw [pow_succ,<- Nat.mod_mul_mod,<- aCF a n];rfl
theorem qG (a:F) (n:Nat):∀ m,pw a (n + m) = pw a n * pw a m
 | 0=>by show pw a n = pw a n * 1;grind
 | m + 1=>by show pw a (n + m) * a = pw a n * (pw a m * a);rw [qG a n m];grind
theorem aI4 (a:F) (n:Nat):∀ m,pw a (n * m) = pw (pw a n) m
 | 0=>rfl
 | m + 1=>by rw [Nat.mul_succ,qG,aI4 a n m];rfl
theorem aJJ (a b:F):∀ n,pw (a * b) n = pw a n * pw b n
 | 0=>by show (1:F) = 1 * 1;grind
 | n + 1=>by show pw (a * b) n * (a * b) = pw a n * a * (pw b n * b);rw [aJJ a b n];grind
theorem aOQ (a:F):pw a 2 = a * a:=by show 1 * a * a = a * a;grind
theorem x6 {a:F} (ha:a ≠ 0):pw a (aB - 1) = 1:=by
 apply Fin.ext
 rw [aCF]
 exact aEA prP (fun h=>ha (Fin.ext (Nat.eq_zero_of_dvd_of_lt h a.isLt)))
theorem aCH (a:F) (n:Nat) (h:n < 2 ^ 256):(pw a n).val = aG5 aB a.val 256 n:=by rw [aCF,rU _ _ _ _ h]
@[irreducible] def inv (a:F):F:=pw a (aB - 2)
theorem qV (a:F):inv a = pw a (aB - 2):=by unfold inv;rfl
theorem aCG (a:F) (n:Nat):pw a (n + 1) = pw a n * a:=rfl
theorem oN {a:F} (ha:a ≠ 0):inv a * a = 1:=by
 have h:=x6 ha
 rw [show aB - 1 = (aB - 2) + 1 by decide,aCG] at h
 rw [qV];exact h
theorem aJ6 (a b:F):a * b = b * a:=by grind
theorem g8 {a:F} (ha:a ≠ 0):a * inv a = 1:=by rw [aJ6];exact oN ha
theorem aK7 {n:Nat} (h:n ≠ 0):pw 0 n = 0:=by
 obtain ⟨m,rfl⟩:∃ m,n = m + 1:=⟨n - 1,by omega⟩
 show pw 0 m * 0 = 0;grind
theorem xZ (a b:F):inv (a * b) = inv a * inv b:=by rw [qV,qV,qV,aJJ]
def dF:F:=37095705934669439343138083508754565189542113879843219016388785533085940283555
def iF:F:=19681161376707505956807079304988542015446066515923890162744021073123829784752
theorem aVN:121666 * dF = 0 - 121665:=by decide +kernel
theorem aTH:iF * iF = 0 - 1:=by decide +kernel
theorem mI:(2:F) ≠ 0:=by decide
theorem aPS:(aB - 1) / 2 < 2 ^ 256:=by decide
theorem aBS {s:F} (hs:s ≠ 0):pw (s * s) ((aB - 1) / 2) = 1:=by
 rw [<- aOQ,<- aI4];exact x6 hs
theorem aLH {s t:F} (h:s * s = dF * (t * t)):t = 0:=by
 apply Classical.byContradiction
 intro ht
 have h1:(s * inv t) * (s * inv t) = dF:=by have:=g8 ht;grind
 have hs:s * inv t ≠ 0:=by
  intro h0
  rw [h0] at h1
  exact absurd h1 (by decide)
 have h2:=aBS hs
 rw [h1] at h2
 have h3:(pw dF ((aB - 1) / 2)).val = 1:=by rw [h2];rfl
 rw [aCH _ _ aPS] at h3
 exact absurd h3 (by decide +kernel)
end Go.Cu
namespace Go.Cu
def On (x y:F):Prop:=y * y - x * x = 1 + dF * (x * x * (y * y))
theorem yD {x1 y1 x2 y2 e:F} (h1:On x1 y1) (h2:On x2 y2) (he:e * e = 1):dF * (x1 * x2 * y1 * y2) ≠ e:=by
 intro h
 unfold On at h1 h2
 have e0:e ≠ 0:=by rintro rfl;exact absurd he (by decide)
 have n1:x1 * y1 ≠ 0:=by
  intro h0
  apply e0
  rw [<- h];grind -lia -linarith (splits:=0)
 have n2:x2 ≠ 0:=by
  intro h0
  apply e0
  rw [<- h,h0];grind -lia -linarith (splits:=0)
 have hi:=aTH
 have a1:(x1 + iF * e * y1) * (x1 + iF * e * y1) = dF * ((x1 * y1 * (x2 + iF * y2)) * (x1 * y1 * (x2 + iF * y2))):=by grind -lia -linarith (splits:=0)
 have a2:(x1 - iF * e * y1) * (x1 - iF * e * y1) = dF * ((x1 * y1 * (x2 - iF * y2)) * (x1 * y1 * (x2 - iF * y2))):=by grind -lia -linarith (splits:=0)
 have b1:=(dB (aLH a1)).resolve_left n1
 have b2:=(dB (aLH a2)).resolve_left n1
 have c:2 * x2 = 0:=by grind -lia -linarith (splits:=0)
 rcases dB c with c | c
 ·exact mI c
 ·exact n2 c
structure Pt where
 x:F
 y:F
 on:On x y
theorem Pt.ext' {P Q:Pt} (hx:P.x = Q.x) (hy:P.y = Q.y):P = Q:=by
 cases P;cases Q;simp only at hx hy;subst hx;subst hy;rfl
def Pt.ex (P Q:Pt):F:=dF * (P.x * Q.x * P.y * Q.y)
theorem Pt.pos (P Q:Pt):1 + P.ex Q ≠ 0:=by
 intro h
 refine yD P.on Q.on (e:=0 - 1) (by decide) ?_
 unfold Pt.ex at h
 grind -lia -linarith (splits:=0)
theorem Pt.neg' (P Q:Pt):1 - P.ex Q ≠ 0:=by
 intro h
 refine yD P.on Q.on (e:=1) (by decide) ?_
 unfold Pt.ex at h
 grind -lia -linarith (splits:=0)
theorem aQ9 {x1 y1 x2 y2 x y:F} (h1:On x1 y1) (h2:On x2 y2) (hx:x * (1 + dF * (x1 * x2 * y1 * y2)) = x1 * y2 + x2 * y1) (hy:y * (1 - dF * (x1 * x2 * y1 * y2)) = y1 * y2 + x1 * x2)
  (n1:1 + dF * (x1 * x2 * y1 * y2) ≠ 0) (n2:1 - dF * (x1 * x2 * y1 * y2) ≠ 0):On x y:=by
 unfold On at *
 generalize hB:1 + dF * (x1 * x2 * y1 * y2) = B at *
 generalize hD:1 - dF * (x1 * x2 * y1 * y2) = D at *
 have hBD:B * B * (D * D) ≠ 0:=dl (dl n1 n1) (dl n2 n2)
 refine vu hBD ?_
 have e1:(y * y - x * x) * (B * B * (D * D)) = (y * D) * (y * D) * (B * B) - (x * B) * (x * B) * (D * D):=by clear h1 h2 hx hy hB hD;grind -lia -linarith (splits:=0)
 have e2:(1 + dF * (x * x * (y * y))) * (B * B * (D * D)) = B * B * (D * D) + dF * ((x * B) * (x * B) * ((y * D) * (y * D))):=by clear h1 h2 hx hy hB hD;grind -lia -linarith (splits:=0)
 rw [e1,e2,hx,hy]
 clear e1 e2 hx hy hBD n1 n2
 subst hB hD
 grind -lia -linarith (splits:=0)
def Pt.add (P Q:Pt):Pt where
 x:=(P.x * Q.y + Q.x * P.y) * inv (1 + P.ex Q)
 y:=(P.y * Q.y + P.x * Q.x) * inv (1 - P.ex Q)
 on:=by
  have h1:=oN (P.pos Q)
  have h2:=oN (P.neg' Q)
  refine aQ9 P.on Q.on ?_ ?_ (P.pos Q) (P.neg' Q)
  ·unfold Pt.ex at *;grind -lia -linarith (splits:=0)
  ·unfold Pt.ex at *;grind -lia -linarith (splits:=0)
theorem Pt.add_x (P Q:Pt):(P.add Q).x * (1 + P.ex Q) = P.x * Q.y + Q.x * P.y:=by
 have h1:=oN (P.pos Q)
 show (P.x * Q.y + Q.x * P.y) * inv (1 + P.ex Q) * (1 + P.ex Q) = _
 grind -lia -linarith (splits:=0)
theorem Pt.add_y (P Q:Pt):(P.add Q).y * (1 - P.ex Q) = P.y * Q.y + P.x * Q.x:=by
 have h1:=oN (P.neg' Q)
 show (P.y * Q.y + P.x * Q.x) * inv (1 - P.ex Q) * (1 - P.ex Q) = _
 grind -lia -linarith (splits:=0)
theorem Pt.add_eq {P Q R:Pt} (hx:R.x * (1 + P.ex Q) = P.x * Q.y + Q.x * P.y) (hy:R.y * (1 - P.ex Q) = P.y * Q.y + P.x * Q.x):P.add Q = R:=
 Pt.ext' (vu (P.pos Q) (by rw [Pt.add_x,hx])) (vu (P.neg' Q) (by rw [Pt.add_y,hy]))
def Pt.O:Pt:=⟨0,1,by unfold On;decide +kernel⟩
def Pt.ng (P:Pt):Pt:=⟨0 - P.x,P.y,by have:=P.on;unfold On at *;grind -lia -linarith (splits:=0)⟩
theorem Pt.add_comm (P Q:Pt):P.add Q = Q.add P:=by
 have h1:=Q.add_x P
 have h2:=Q.add_y P
 refine Pt.add_eq ?_ ?_
 ·unfold Pt.ex at *;grind -lia -linarith (splits:=0)
 ·unfold Pt.ex at *;grind -lia -linarith (splits:=0)
theorem Pt.add_O (P:Pt):P.add .O = P:=by
 refine Pt.add_eq ?_ ?_ <;> (unfold Pt.ex;show _ = _;simp only [Pt.O];grind -lia -linarith (splits:=0))
theorem Pt.O_add (P:Pt):Pt.O.add P = P:=by rw [Pt.add_comm,Pt.add_O]
theorem Pt.add_ng (P:Pt):P.add P.ng = .O:=by
 have h:=P.on
 unfold On at h
 refine Pt.add_eq ?_ ?_ <;> (unfold Pt.ex;simp only [Pt.O,Pt.ng];grind -lia -linarith (splits:=0))
theorem aQ8 {d x1 y1 x2 y2 x3 y3:F} {A B C D A' B' C' D':F} (hA:A = x1*y2+x2*y1) (hB:B = 1 + d*(x1*x2*y1*y2)) (hC:C = y1*y2+x1*x2) (hD:D = 1 - d*(x1*x2*y1*y2))
  (hA':A' = x2*y3+x3*y2) (hB':B' = 1 + d*(x2*x3*y2*y3)) (hC':C' = y2*y3+x2*x3) (hD':D' = 1 - d*(x2*x3*y2*y3))
  (e1:y1*y1 - x1*x1 = 1 + d*(x1*x1*(y1*y1))) (e2:y2*y2 - x2*x2 = 1 + d*(x2*x2*(y2*y2))) (e3:y3*y3 - x3*x3 = 1 + d*(x3*x3*(y3*y3))) :
  (A*D*y3 + x3*C*B)*(B'*D' + d*x1*y1*A'*C') = (x1*C'*B'+A'*y1*D')*(B*D+d*A*C*x3*y3):=by subst_vars;grind -lia -linarith (splits:=0)
theorem aQ7 {d x1 y1 x2 y2 x3 y3:F} {A B C D A' B' C' D':F} (hA:A = x1*y2+x2*y1) (hB:B = 1 + d*(x1*x2*y1*y2)) (hC:C = y1*y2+x1*x2) (hD:D = 1 - d*(x1*x2*y1*y2))
  (hA':A' = x2*y3+x3*y2) (hB':B' = 1 + d*(x2*x3*y2*y3)) (hC':C' = y2*y3+x2*x3) (hD':D' = 1 - d*(x2*x3*y2*y3))
  (e1:y1*y1 - x1*x1 = 1 + d*(x1*x1*(y1*y1))) (e2:y2*y2 - x2*x2 = 1 + d*(x2*x2*(y2*y2))) (e3:y3*y3 - x3*x3 = 1 + d*(x3*x3*(y3*y3))) :
  (C*B*y3 + A*D*x3)*(B'*D' - d*x1*y1*A'*C') = (y1*C'*B'+x1*A'*D')*(B*D-d*A*C*x3*y3):=by subst_vars;grind -lia -linarith (splits:=0)
theorem aU6 {u v u' v' X Y:F} (hv:v ≠ 0) (hv':v' ≠ 0) (h:X * v = u) (h':Y * v' = u') (hc:u * v' = u' * v):X = Y:=by
 refine vu (dl hv hv') ?_
 have e1:X * (v * v') = X * v * v':=by grind -lia -linarith (splits:=0)
 have e2:Y * (v * v') = Y * v' * v:=by grind -lia -linarith (splits:=0)
 rw [e1,e2,h,h',hc]
theorem l3 (a b c:F):a * (b * c) = b * (a * c):=by grind -lia -linarith (splits:=0)
theorem l4 (s t b d x y:F):b * d * (s * y + x * t) = s * b * d * y + x * (t * d) * b:=by grind -lia -linarith (splits:=0)
theorem l5 (s t b d x y:F):b * d * (x * t + s * y) = x * (t * d) * b + s * b * y * d:=by grind -lia -linarith (splits:=0)
theorem l6 (s t b d x y:F):b * d * (t * y + s * x) = t * d * b * y + s * b * d * x:=by grind -lia -linarith (splits:=0)
theorem l7 (s t b d x y:F):b * d * (y * t + x * s) = y * (t * d) * b + x * (s * b) * d:=by grind -lia -linarith (splits:=0)
theorem Pt.add_assoc (P Q R:Pt):(P.add Q).add R = P.add (Q.add R):=by
 have a1:=P.add_x Q
 have a2:=P.add_y Q
 have b1:=Q.add_x R
 have b2:=Q.add_y R
 have c1:=(P.add Q).add_x R
 have c2:=(P.add Q).add_y R
 have d1:=P.add_x (Q.add R)
 have d2:=P.add_y (Q.add R)
 have p1:=P.pos Q
 have p2:=P.neg' Q
 have q1:=Q.pos R
 have q2:=Q.neg' R
 have r1:=(P.add Q).pos R
 have r2:=(P.add Q).neg' R
 have s1:=P.pos (Q.add R)
 have s2:=P.neg' (Q.add R)
 have o1:=P.on
 have o2:=Q.on
 have o3:=R.on
 generalize ((P.add Q).add R) = L at *
 generalize (P.add (Q.add R)) = M at *
 generalize (P.add Q) = S at *
 generalize (Q.add R) = T at *
 unfold Pt.ex On at *
 generalize hB:1 + dF * (P.x * Q.x * P.y * Q.y) = B at *
 generalize hD:1 - dF * (P.x * Q.x * P.y * Q.y) = D at *
 generalize hB':1 + dF * (Q.x * R.x * Q.y * R.y) = B' at *
 generalize hD':1 - dF * (Q.x * R.x * Q.y * R.y) = D' at *
 generalize hA:P.x * Q.y + Q.x * P.y = A at *
 generalize hC:P.y * Q.y + P.x * Q.x = C at *
 generalize hA':Q.x * R.y + R.x * Q.y = A' at *
 generalize hC':Q.y * R.y + Q.x * R.x = C' at *
 have kx:=aQ8 hA.symm hB.symm hC.symm hD.symm hA'.symm hB'.symm hC'.symm hD'.symm o1 o2 o3
 have ky:=aQ7 hA.symm hB.symm hC.symm hD.symm hA'.symm hB'.symm hC'.symm hD'.symm o1 o2 o3
 clear hA hB hC hD hA' hB' hC' hD' o1 o2 o3
 have v1:B * D * (1 + dF * (S.x * R.x * S.y * R.y)) = B * D + dF * A * C * R.x * R.y:=by rw [<- a1,<- a2];clear kx ky c1 c2 d1 d2 a1 a2 b1 b2;grind -lia -linarith (splits:=0)
 have v2:B * D * (1 - dF * (S.x * R.x * S.y * R.y)) = B * D - dF * A * C * R.x * R.y:=by rw [<- a1,<- a2];clear kx ky c1 c2 d1 d2 a1 a2 b1 b2;grind -lia -linarith (splits:=0)
 have w1:B' * D' * (1 + dF * (P.x * T.x * P.y * T.y)) = B' * D' + dF * P.x * P.y * A' * C':=by rw [<- b1,<- b2];clear kx ky c1 c2 d1 d2 a1 a2 b1 b2;grind -lia -linarith (splits:=0)
 have w2:B' * D' * (1 - dF * (P.x * T.x * P.y * T.y)) = B' * D' - dF * P.x * P.y * A' * C':=by rw [<- b1,<- b2];clear kx ky c1 c2 d1 d2 a1 a2 b1 b2;grind -lia -linarith (splits:=0)
 refine Pt.ext' (aU6 (v:=B * D + dF * A * C * R.x * R.y) (v':=B' * D' + dF * P.x * P.y * A' * C') ?_ ?_ ?_ ?_ kx) (aU6 (v:=B * D - dF * A * C * R.x * R.y) (v':=B' * D' - dF * P.x * P.y * A' * C') ?_ ?_ ?_ ?_ ky)
 ·rw [<- v1];exact dl (dl p1 p2) r1
 ·rw [<- w1];exact dl (dl q1 q2) s1
 ·rw [<- v1,<- a1,<- a2]
  rw [l3,c1];exact l4 _ _ _ _ _ _
 ·rw [<- w1,<- b1,<- b2]
  rw [l3,d1];exact l5 _ _ _ _ _ _
 ·rw [<- v2];exact dl (dl p1 p2) r2
 ·rw [<- w2];exact dl (dl q1 q2) s2
 ·rw [<- v2,<- a1,<- a2]
  rw [l3,c2];exact l6 _ _ _ _ _ _
 ·rw [<- w2,<- b1,<- b2]
  rw [l3,d2];exact l7 _ _ _ _ _ _
def Pt.mul (P:Pt):Nat->Pt
 | 0=>.O
 | n + 1=>(P.mul n).add P
theorem Pt.mul_add (P:Pt) (n:Nat):∀ m,P.mul (n + m) = (P.mul n).add (P.mul m)
 | 0=>(Pt.add_O _).symm
 | m + 1=>by show (P.mul (n + m)).add P = (P.mul n).add ((P.mul m).add P);rw [Pt.mul_add P n m,Pt.add_assoc]
theorem Pt.mul_one (P:Pt):P.mul 1 = P:=Pt.O_add P
end Go.Cu
namespace Go.Cu
def Rep (X Y Z:F) (P:Pt):Prop:=Z ≠ 0/\X = P.x * Z/\Y = P.y * Z
theorem aK4 {X1 Y1 Z1 X2 Y2 Z2:F} {P Q:Pt} (h:Rep X1 Y1 Z1 P) (h':Rep X2 Y2 Z2 Q) {z zz xv yw xw e more less:F}
  (hz:z = Z1 * Z2) (hzz:zz = z * z) (hxv:xv = X1 * X2) (hyw:yw = Y1 * Y2) (hxw:xw = X1 * Y2 + Y1 * X2) (he:e = dF * (xv * yw)) (hm:more = zz + e) (hl:less = zz - e) :
  Rep (z * less * xw) (z * more * (yw + xv)) (more * less) (P.add Q):=by
 obtain ⟨n1,rfl,rfl⟩:=h
 obtain ⟨n2,rfl,rfl⟩:=h'
 have a1:=P.add_x Q
 have a2:=P.add_y Q
 have p1:=P.pos Q
 have p2:=P.neg' Q
 generalize P.add Q = S at *
 unfold Pt.ex at *
 have em:more = Z1 * Z2 * (Z1 * Z2) * (1 + dF * (P.x * Q.x * P.y * Q.y)):=by subst_vars;grind -lia -linarith (splits:=0)
 have el:less = Z1 * Z2 * (Z1 * Z2) * (1 - dF * (P.x * Q.x * P.y * Q.y)):=by subst_vars;grind -lia -linarith (splits:=0)
 refine ⟨?_,?_,?_⟩
 ·rw [em,el]
  exact dl (dl (dl (dl n1 n2) (dl n1 n2)) p1) (dl (dl (dl n1 n2) (dl n1 n2)) p2)
 ·have ex:xw = Z1 * Z2 * (S.x * (1 + dF * (P.x * Q.x * P.y * Q.y))):=by rw [a1];subst hxw;grind -lia -linarith (splits:=0)
  rw [ex,em,hz];grind -lia -linarith (splits:=0)
 ·have ey:yw + xv = Z1 * Z2 * (S.y * (1 - dF * (P.x * Q.x * P.y * Q.y))):=by rw [a2];subst hyw hxv;grind -lia -linarith (splits:=0)
  rw [ey,el,hz];grind -lia -linarith (splits:=0)
theorem aK5 {X1 Y1 Z1 T1 X2 Y2 Z2 T2:F} {P Q:Pt} (h:Rep X1 Y1 Z1 P) (h':Rep X2 Y2 Z2 Q) (t:T1 = P.x * P.y * Z1) (t':T2 = Q.x * Q.y * Z2) {a b c d e f g h0:F}
  (ha:a = (Y1 - X1) * (Y2 - X2)) (hb:b = (Y1 + X1) * (Y2 + X2)) (hc:c = T1 * 2 * (dF * T2)) (hd:d = Z1 * 2 * Z2) (he:e = b - a) (hf:f = d - c) (hg:g = d + c) (hh:h0 = b + a) :
  Rep (e * f) (g * h0) (f * g) (P.add Q)/\e * h0 = (P.add Q).x * (P.add Q).y * (f * g):=by
 obtain ⟨n1,rfl,rfl⟩:=h
 obtain ⟨n2,rfl,rfl⟩:=h'
 have a1:=P.add_x Q
 have a2:=P.add_y Q
 have p1:=P.pos Q
 have p2:=P.neg' Q
 generalize P.add Q = S at *
 unfold Pt.ex at *
 have eg:g = 2 * (Z1 * Z2) * (1 + dF * (P.x * Q.x * P.y * Q.y)):=by subst_vars;grind -lia -linarith (splits:=0)
 have ef:f = 2 * (Z1 * Z2) * (1 - dF * (P.x * Q.x * P.y * Q.y)):=by subst_vars;grind -lia -linarith (splits:=0)
 have ee:e = S.x * g:=by
  have:e = 2 * (Z1 * Z2) * (P.x * Q.y + Q.x * P.y):=by subst he ha hb;grind -lia -linarith (splits:=0)
  rw [this,<- a1,eg];grind -lia -linarith (splits:=0)
 have eh:h0 = S.y * f:=by
  have:h0 = 2 * (Z1 * Z2) * (P.y * Q.y + P.x * Q.x):=by subst hh ha hb;grind -lia -linarith (splits:=0)
  rw [this,<- a2,ef];grind -lia -linarith (splits:=0)
 refine ⟨⟨?_,?_,?_⟩,?_⟩
 ·rw [eg,ef]
  exact dl (dl (dl mI (dl n1 n2)) p2) (dl (dl mI (dl n1 n2)) p1)
 ·rw [ee];grind -lia -linarith (splits:=0)
 ·rw [eh];grind -lia -linarith (splits:=0)
 ·rw [ee,eh];grind -lia -linarith (splits:=0)
theorem aOH:Rep 0 1 1 .O:=⟨by decide,by decide +kernel,by decide +kernel⟩
theorem aOF {X Y Z:F} {P:Pt} (h:Rep X Y Z P):X * inv Z = P.x:=by
 obtain ⟨n,rfl,rfl⟩:=h
 have:=g8 n
 grind -lia -linarith (splits:=0)
theorem aOE {X Y Z:F} {P:Pt} (h:Rep X Y Z P):Y * inv Z = P.y:=by
 obtain ⟨n,rfl,rfl⟩:=h
 have:=g8 n
 grind -lia -linarith (splits:=0)
theorem Pt.mul_dbl (P:Pt) (k:Nat):(P.mul k).add (P.mul k) = P.mul (2 * k):=by rw [<- Pt.mul_add];congr 1;omega
theorem Pt.mul_top (P:Pt) (n i:Nat):P.mul (n / 2 ^ i) = if n / 2 ^ i % 2 = 1 then (P.mul (2 * (n / 2 ^ (i + 1)))).add P else P.mul (2 * (n / 2 ^ (i + 1))):=by
 have e:n / 2 ^ (i + 1) = n / 2 ^ i / 2:=by rw [pow_succ,Nat.div_div_eq_div_mul]
 rw [e]
 by_cases h:n / 2 ^ i % 2 = 1
 ·rw [if_pos h]
  have:n / 2 ^ i = 2 * (n / 2 ^ i / 2) + 1:=by omega
  conv=>lhs;rw [this]
  rfl
 ·rw [if_neg h]
  congr 1;omega
theorem Pt.mul_low (P:Pt) (n i:Nat):P.mul (n % 2 ^ (i + 1)) = if n / 2 ^ i % 2 = 1 then (P.mul (n % 2 ^ i)).add (P.mul (2 ^ i)) else P.mul (n % 2 ^ i):=by
 rw [Nat.mod_pow_succ]
 by_cases h:n / 2 ^ i % 2 = 1
 ·rw [if_pos h,h,Nat.mul_one,Pt.mul_add]
 ·have:n / 2 ^ i % 2 = 0:=by omega
  rw [if_neg h,this,Nat.mul_zero,Nat.add_zero]
theorem Pt.ng_add (P Q:Pt):(P.add Q).ng = P.ng.add Q.ng:=by
 refine (Pt.add_eq ?_ ?_).symm
 ·have h:=P.add_x Q
  unfold Pt.ex at *
  simp only [Pt.ng]
  grind -lia -linarith (splits:=0)
 ·have h:=P.add_y Q
  unfold Pt.ex at *
  simp only [Pt.ng]
  grind -lia -linarith (splits:=0)
theorem Pt.dif1 (Q P:Pt):Q.add (Q.add P).ng = P.ng:=by
 rw [Pt.ng_add,<- Pt.add_assoc,Pt.add_ng,Pt.O_add]
theorem Pt.dif2 (Q P:Pt):(Q.add P).add Q.ng = P:=by
 rw [Pt.add_comm Q P,Pt.add_assoc,Pt.add_ng,Pt.add_O]
end Go.Cu
namespace Go.Cu
def Lr (X Z:F) (P:Pt):Prop:=∃ l:F,l ≠ 0/\X = l * (1 + P.y)/\Z = l * (1 - P.y)
theorem Lr.of {X Z:F} {P:Pt} (h:X * (1 - P.y) = Z * (1 + P.y)) (hn:¬ (X = 0/\Z = 0)):Lr X Z P:=by
 have h2:(2:F) * inv 2 = 1:=g8 mI
 generalize inv (2:F) = v at h2
 refine ⟨(X + Z) * v,?_,?_,?_⟩
 ·intro h0
  have hs:X + Z = 0:=by
   rcases dB h0 with h1 | h1
   ·exact h1
   ·rw [h1] at h2;exact absurd h2 (by decide)
  have hx:2 * X = 0:=by grind -lia -linarith (splits:=0)
  have hx0:=(dB hx).resolve_left mI
  exact hn ⟨hx0,by rw [hx0] at hs;grind -lia -linarith (splits:=0)⟩
 ·grind -lia -linarith (splits:=0)
 ·grind -lia -linarith (splits:=0)
theorem aDY:(4:F) ≠ 0:=by decide
theorem aVU:(121666:F) ≠ 0:=by decide
theorem aSS {P:Pt}:(1 + P.x * P.x) * (121666 - 121665 * (P.y * P.y)) = P.y * P.y:=by
 have h:=P.on
 have hd:=aVN
 unfold On at h
 grind -lia -linarith (splits:=0)
theorem aJQ {X Z:F} {P:Pt} (h:Lr X Z P) {p m pp mm e:F} (hp:p = X + Z) (hm:m = X - Z) (hpp:pp = p * p) (hmm:mm = m * m) (he:e = pp - mm) :
  Lr (pp * mm) (e * (pp + 121665 * e)) (P.add P):=by
 obtain ⟨l,hl,rfl,rfl⟩:=h
 have a2:=P.add_y P
 have n2:=P.neg' P
 have hx:=@aSS P
 have on:=P.on
 generalize P.add P = S at *
 unfold Pt.ex On at *
 have e1:pp = 4 * (l * l):=by subst_vars;grind -lia -linarith (splits:=0)
 have e2:mm = 4 * (l * l) * (P.y * P.y):=by subst_vars;grind -lia -linarith (splits:=0)
 have e3:e = 4 * (l * l) * (1 - P.y * P.y):=by rw [he,e1,e2];grind -lia -linarith (splits:=0)
 clear hp hm hpp hmm he
 have e4:e * (pp + 121665 * e) = 16 * (l * l * (l * l)) * ((1 - P.y * P.y) * (121666 - 121665 * (P.y * P.y))):=by rw [e3,e1];grind -lia -linarith (splits:=0)
 have e5:pp * mm = 16 * (l * l * (l * l)) * (P.y * P.y):=by rw [e2,e1];grind -lia -linarith (splits:=0)
 rw [e4,e5]
 have n16:16 * (l * l * (l * l)) ≠ 0:=dl (by decide) (dl (dl hl hl) (dl hl hl))
 generalize 16 * (l * l * (l * l)) = k at *
 clear e1 e2 e3 e4 e5
 refine Lr.of ?_ ?_
 ·refine vu n2 ?_
  have b1:k * (P.y * P.y) * (1 - S.y) * (1 - dF * (P.x * P.x * P.y * P.y)) = k * (P.y * P.y) * ((1 - dF * (P.x * P.x * P.y * P.y)) - (S.y * (1 - dF * (P.x * P.x * P.y * P.y)))):=by clear a2 n2 hx on n16;grind -lia -linarith (splits:=0)
  have b2:k * ((1 - P.y * P.y) * (121666 - 121665 * (P.y * P.y))) * (1 + S.y) * (1 - dF * (P.x * P.x * P.y * P.y)) = k * ((1 - P.y * P.y) * (121666 - 121665 * (P.y * P.y))) * ((1 - dF * (P.x * P.x * P.y * P.y)) + (S.y * (1 - dF * (P.x * P.x * P.y * P.y)))):=by clear a2 n2 hx on n16;grind -lia -linarith (splits:=0)
  rw [b1,b2,a2]
  have c1:1 - dF * (P.x * P.x * P.y * P.y) = 2 - P.y * P.y + P.x * P.x:=by clear hx;grind -lia -linarith (splits:=0)
  rw [c1]
  clear b1 b2 c1 a2 n2 on n16
  grind -lia -linarith (splits:=0)
 ·rintro ⟨h1,h2⟩
  have hy:=(dB h1).resolve_left n16
  have h3:=(dB h2).resolve_left n16
  rw [hy] at h3
  exact absurd h3 (by decide)
theorem aJP {X1 Z1 X2 Z2 u:F} {P Q D:Pt} (h:Lr X1 Z1 P) (h':Lr X2 Z2 Q) (hD:(P.add Q.ng).y = D.y) (hu:u * (1 - D.y) = 1 + D.y) (u0:u ≠ 0)
  {p m da cb s d:F} (hp:p = X1 + Z1) (hm:m = X1 - Z1) (hda:da = (X2 - Z2) * p) (hcb:cb = (X2 + Z2) * m) (hs:s = da + cb) (hd:d = da - cb) :
  Lr (s * s) (u * (d * d)) (P.add Q):=by
 obtain ⟨l,hl,rfl,rfl⟩:=h
 obtain ⟨k,hk,rfl,rfl⟩:=h'
 have a2:=P.add_y Q
 have n2:=P.neg' Q
 have b2:=P.add_y Q.ng
 have m2:=P.neg' Q.ng
 rw [hD] at b2
 have o1:=P.on
 have o2:=Q.on
 generalize P.add Q = S at *
 unfold Pt.ex On at *
 simp only [Pt.ng] at b2 m2
 have e1:s = 4 * (l * k) * (P.y + Q.y):=by subst_vars;clear hD hu u0 a2 n2 b2 m2 o1 o2;grind -lia -linarith (splits:=0)
 have e2:d = 4 * (l * k) * (Q.y - P.y):=by subst_vars;clear hD hu u0 a2 n2 b2 m2 o1 o2;grind -lia -linarith (splits:=0)
 have n4:4 * (l * k) ≠ 0:=dl (by decide) (dl hl hk)
 rw [e1,e2]
 clear e1 e2 hp hm hda hcb hs hd hD
 generalize 4 * (l * k) = w at *
 have d1:1 - D.y ≠ 0:=by
  intro h0
  rw [h0] at hu
  have e1:1 + D.y = 0:=by rw [<- hu];grind -lia -linarith (splits:=0)
  have e2:(2:F) = 0:=by clear a2 b2 hu;grind -lia -linarith (splits:=0)
  exact mI e2
 have d2:1 + D.y ≠ 0:=by rw [<- hu];exact dl u0 d1
 have M2:1 + dF * (P.x * Q.x * P.y * Q.y) ≠ 0:=by
  intro h0;apply m2;rw [<- h0];clear a2 n2 b2 m2 o1 o2 hu u0;grind -lia -linarith (splits:=0)
 have B2:D.y * (1 + dF * (P.x * Q.x * P.y * Q.y)) = P.y * Q.y - P.x * Q.x:=by
  clear a2 n2 o1 o2 hu u0;grind -lia -linarith (splits:=0)
 clear b2 m2
 refine Lr.of ?_ ?_
 ·refine vu (dl d1 (dl n2 M2)) ?_
  have c1:w * (P.y + Q.y) * (w * (P.y + Q.y)) * (1 - S.y) * ((1 - D.y) * ((1 - dF * (P.x * Q.x * P.y * Q.y)) * (1 + dF * (P.x * Q.x * P.y * Q.y))))
    = w * w * ((P.y + Q.y) * (P.y + Q.y) * (((1 - dF * (P.x * Q.x * P.y * Q.y)) - S.y * (1 - dF * (P.x * Q.x * P.y * Q.y))) * ((1 + dF * (P.x * Q.x * P.y * Q.y)) - D.y * (1 + dF * (P.x * Q.x * P.y * Q.y))))):=by
   clear a2 n2 o1 o2 hu u0 B2 M2;grind -lia -linarith (splits:=0)
  have c2:u * (w * (Q.y - P.y) * (w * (Q.y - P.y))) * (1 + S.y) * ((1 - D.y) * ((1 - dF * (P.x * Q.x * P.y * Q.y)) * (1 + dF * (P.x * Q.x * P.y * Q.y))))
    = w * w * ((Q.y - P.y) * (Q.y - P.y) * (((1 - dF * (P.x * Q.x * P.y * Q.y)) + S.y * (1 - dF * (P.x * Q.x * P.y * Q.y))) * (u * (1 - D.y) * (1 + dF * (P.x * Q.x * P.y * Q.y))))):=by
   clear a2 n2 o1 o2 hu u0 B2 M2;grind -lia -linarith (splits:=0)
  have c3:(1 + D.y) * (1 + dF * (P.x * Q.x * P.y * Q.y)) = (1 + dF * (P.x * Q.x * P.y * Q.y)) + D.y * (1 + dF * (P.x * Q.x * P.y * Q.y)):=by
   clear a2 n2 o1 o2 hu u0 B2 M2;grind -lia -linarith (splits:=0)
  rw [c1,c2,hu,c3,a2,B2]
  clear c1 c2 c3 a2 B2 n2 M2 hu u0 d1 d2 n4
  congr 1
  grind -lia -linarith (splits:=0)
 ·rintro ⟨h1,h2⟩
  have s0:P.y + Q.y = 0:=by
   rcases dB h1 with h | h <;> exact (dB h).resolve_left n4
  have t0:Q.y - P.y = 0:=by
   rcases dB ((dB h2).resolve_left u0) with h | h <;> exact (dB h).resolve_left n4
  have y2:2 * Q.y = 0:=by clear a2 B2 hu o1 o2;grind -lia -linarith (splits:=0)
  have yq:=(dB y2).resolve_left mI
  have yp:P.y = 0:=by rw [yq] at s0;clear a2 B2 hu o1 o2;grind -lia -linarith (splits:=0)
  rw [yq] at o2 B2
  rw [yp] at o1 B2
  have x1:P.x * P.x = 0 - 1:=by clear a2 B2 hu o2;grind -lia -linarith (splits:=0)
  have x2:Q.x * Q.x = 0 - 1:=by clear a2 B2 hu o1;grind -lia -linarith (splits:=0)
  have yd:D.y = 0 - P.x * Q.x:=by clear a2 hu o1 o2 x1 x2;grind -lia -linarith (splits:=0)
  have z:(1 - D.y) * (1 + D.y) = 0:=by rw [yd];clear a2 hu o1 o2 B2;grind -lia -linarith (splits:=0)
  exact dl d1 d2 z
def aW2:F:=15112221349535400772501151409588531511454012693041857206046113283949847762202
def aUQ:F:=46316835694926478169428394003475163141307993866256225615783033603165251855960
def basP:Pt:=⟨aW2,aUQ,by unfold On;decide +kernel⟩
end Go.Cu
namespace Go.Cu
structure LS where
 ax:F
 az:F
 bx:F
 bz:F
def iv (u:F) (s:LS):LS:=
 let p:=s.ax + s.az;let m:=s.ax - s.az;let pp:=p * p;let mm:=m * m;let e:=pp - mm
 let da:=(s.bx - s.bz) * p;let cb:=(s.bx + s.bz) * m;let t:=da + cb;let d:=da - cb
 ⟨pp * mm,e * (pp + 121665 * e),t * t,u * (d * d)⟩
def LS.swap (s:LS):LS:=⟨s.bx,s.bz,s.ax,s.az⟩
def LS.turn (s:LS) (l b:Nat):LS:=if b = l then s else s.swap
def aDF (u:F) (n:Nat):Nat->LS × Nat
 | 0=>(⟨1,0,u,1⟩,0)
 | k + 1=>(iv u ((aDF u n k).1.turn (aDF u n k).2 (n / 2 ^ (254 - k) % 2)),n / 2 ^ (254 - k) % 2)
def aNP (u:F) (n:Nat):F:=if (aDF u n 255).2 = 1 then (aDF u n 255).1.bx * inv (aDF u n 255).1.bz else (aDF u n 255).1.ax * inv (aDF u n 255).1.az
def LI (s:LS) (l:Nat) (P:Pt) (m:Nat):Prop:=(l = 0/\Lr s.ax s.az (P.mul m)/\Lr s.bx s.bz (P.mul (m + 1))) \/ (l = 1/\Lr s.bx s.bz (P.mul m)/\Lr s.ax s.az (P.mul (m + 1)))
theorem LI.step {s:LS} {l:Nat} {P:Pt} {m:Nat} (h:LI s l P m) {u:F} (hu:u * (1 - P.y) = 1 + P.y) (u0:u ≠ 0) {b:Nat} (hb:b = 0 \/ b = 1):LI (iv u (s.turn l b)) b P (2 * m + b):=by
 have main0:∀ t:LS,Lr t.ax t.az (P.mul m)->Lr t.bx t.bz (P.mul (m + 1))->Lr (iv u t).ax (iv u t).az (P.mul (2 * m))/\Lr (iv u t).bx (iv u t).bz (P.mul (2 * m + 1)):=by
  intro t h1 h2
  have a:=aJQ h1 (p:=_) (m:=_) (pp:=_) (mm:=_) (e:=_) rfl rfl rfl rfl rfl
  rw [Pt.mul_dbl] at a
  have hD:((P.mul m).add (P.mul (m + 1)).ng).y = P.y:=by
   show ((P.mul m).add ((P.mul m).add P).ng).y = P.y
   rw [Pt.dif1];rfl
  have c:=aJP h1 h2 hD hu u0 (p:=_) (m:=_) (da:=_) (cb:=_) (s:=_) (d:=_) rfl rfl rfl rfl rfl rfl
  rw [<- Pt.mul_add,show m + (m + 1) = 2 * m + 1 by omega] at c
  exact ⟨a,c⟩
 have main1:∀ t:LS,Lr t.bx t.bz (P.mul m)->Lr t.ax t.az (P.mul (m + 1))->Lr (iv u t).ax (iv u t).az (P.mul (2 * m + 1 + 1))/\Lr (iv u t).bx (iv u t).bz (P.mul (2 * m + 1)):=by
  intro t h1 h2
  have a:=aJQ h2 (p:=_) (m:=_) (pp:=_) (mm:=_) (e:=_) rfl rfl rfl rfl rfl
  rw [Pt.mul_dbl] at a
  have hD:((P.mul (m + 1)).add (P.mul m).ng).y = P.y:=by
   show (((P.mul m).add P).add (P.mul m).ng).y = P.y
   rw [Pt.dif2]
  have c:=aJP h2 h1 hD hu u0 (p:=_) (m:=_) (da:=_) (cb:=_) (s:=_) (d:=_) rfl rfl rfl rfl rfl rfl
  rw [<- Pt.mul_add,show m + 1 + m = 2 * m + 1 by omega] at c
  exact ⟨a,c⟩
 rcases hb with rfl | rfl
 ·have key:Lr (s.turn l 0).ax (s.turn l 0).az (P.mul m)/\Lr (s.turn l 0).bx (s.turn l 0).bz (P.mul (m + 1)):=by
   rcases h with ⟨rfl,h1,h2⟩ | ⟨rfl,h1,h2⟩
   ·exact ⟨h1,h2⟩
   ·exact ⟨h1,h2⟩
  have:=main0 _ key.1 key.2
  exact Or.inl ⟨rfl,this.1,this.2⟩
 ·have key:Lr (s.turn l 1).bx (s.turn l 1).bz (P.mul m)/\Lr (s.turn l 1).ax (s.turn l 1).az (P.mul (m + 1)):=by
   rcases h with ⟨rfl,h1,h2⟩ | ⟨rfl,h1,h2⟩
   ·exact ⟨h1,h2⟩
   ·exact ⟨h1,h2⟩
  have:=main1 _ key.1 key.2
  exact Or.inr ⟨rfl,this.2,this.1⟩
theorem aM3 (x:Nat):x % 2 = 0 \/ x % 2 = 1:=by omega
def ju (u:F) (s:LS) (b:Nat):LS:=
 let p:=s.ax * s.bx - s.az * s.bz;let q:=s.ax * s.bz - s.az * s.bx
 if b = 0 then
  ⟨(s.ax * s.ax - s.az * s.az) * (s.ax * s.ax - s.az * s.az),4 * (s.ax * s.az) * (s.ax * s.ax + s.az * s.az + 486662 * (s.ax * s.az)),p * p,u * (q * q)⟩
 else
  ⟨p * p,u * (q * q),(s.bx * s.bx - s.bz * s.bz) * (s.bx * s.bx - s.bz * s.bz),4 * (s.bx * s.bz) * (s.bx * s.bx + s.bz * s.bz + 486662 * (s.bx * s.bz))⟩
def aFZ (u:F) (n:Nat):Nat->LS
 | 0=>⟨1,0,u,1⟩
 | k + 1=>ju u (aFZ u n k) (n / 2 ^ (254 - k) % 2)
def aU0 (u:F) (n:Nat):F:=(aFZ u n 255).ax * inv (aFZ u n 255).az
def LQ (s:LS) (l:Nat) (r:LS):Prop:=∃ a b:F,a ≠ 0/\b ≠ 0 /\
 ((l = 0/\s = ⟨a * r.ax,a * r.az,b * r.bx,b * r.bz⟩) \/ (l = 1/\s = ⟨b * r.bx,b * r.bz,a * r.ax,a * r.az⟩))
theorem LQ.step {s r:LS} {l:Nat} (h:LQ s l r) (u:F) {b:Nat} (hb:b = 0 \/ b = 1):LQ (iv u (s.turn l b)) b (ju u r b):=by
 obtain ⟨x,y,hx,hy,h⟩:=h
 obtain ⟨ax,az,bx,bz⟩:=r
 rcases hb with rfl | rfl
 ·have e:s.turn l 0 = ⟨x * ax,x * az,y * bx,y * bz⟩:=by
   rcases h with ⟨rfl,rfl⟩ | ⟨rfl,rfl⟩ <;> rfl
  rw [e]
  refine ⟨x * x * (x * x),4 * (x * y * (x * y)),dl (dl hx hx) (dl hx hx),dl aDY (dl (dl hx hy) (dl hx hy)),Or.inl ⟨rfl,?_⟩⟩
  unfold iv ju
  simp only [if_pos,LS.mk.injEq]
  exact ⟨by grind -lia -linarith (splits:=0),by grind -lia -linarith (splits:=0),by grind -lia -linarith (splits:=0),by grind -lia -linarith (splits:=0)⟩
 ·have e:s.turn l 1 = ⟨y * bx,y * bz,x * ax,x * az⟩:=by
   rcases h with ⟨rfl,rfl⟩ | ⟨rfl,rfl⟩ <;> rfl
  rw [e]
  refine ⟨4 * (x * y * (x * y)),y * y * (y * y),dl aDY (dl (dl hx hy) (dl hx hy)),dl (dl hy hy) (dl hy hy),Or.inr ⟨rfl,?_⟩⟩
  unfold iv ju
  simp only [if_neg (show ¬ (1 = 0) by decide),LS.mk.injEq]
  exact ⟨by grind -lia -linarith (splits:=0),by grind -lia -linarith (splits:=0),by grind -lia -linarith (splits:=0),by grind -lia -linarith (splits:=0)⟩
theorem xE:(1:F) ≠ 0:=by decide
theorem aJR (u:F) (n:Nat):∀ k,LQ (aDF u n k).1 (aDF u n k).2 (aFZ u n k)
 | 0=>⟨1,1,xE,xE,Or.inl ⟨rfl,by
   show (⟨1,0,u,1⟩:LS) = ⟨1 * 1,1 * 0,1 * u,1 * 1⟩
   simp only [LS.mk.injEq]
   exact ⟨by grind -lia -linarith (splits:=0),by grind -lia -linarith (splits:=0),by grind -lia -linarith (splits:=0),by grind -lia -linarith (splits:=0)⟩⟩⟩
 | k + 1=>(aJR u n k).step u (aM3 _)
theorem aL7 (u:F) (n:Nat):aNP u n = aU0 u n:=by
 obtain ⟨a,b,ha,hb,h⟩:=aJR u n 255
 unfold aNP aU0
 have hm:=g8 ha
 rcases h with ⟨h0,h1⟩ | ⟨h0,h1⟩
 ·rw [if_neg (by omega),h1]
  show a * _ * inv (a * _) = _
  rw [xZ]
  grind -lia -linarith (splits:=0)
 ·rw [if_pos h0,h1]
  show a * _ * inv (a * _) = _
  rw [xZ]
  grind -lia -linarith (splits:=0)
end Go.Cu
namespace Go.Cu
open Go Go.Sx
def fn (n:Nat):F:=Fin.ofNat aB n
theorem oZ (n:Nat):(fn n).val = n % aB:=rfl
theorem aJ1 {a b:Nat} (h:a % aB = b % aB):fn a = fn b:=Fin.ext h
theorem aa (a b:Nat):fn (a + b) = fn a + fn b:=Fin.ext (by rw [aEG,oZ,oZ,oZ,<- Nat.add_mod])
theorem kG (a b:Nat):fn (a * b) = fn a * fn b:=Fin.ext (by rw [aEF,oZ,oZ,oZ,<- Nat.mul_mod])
theorem aU9 (a k:Nat):fn (a + k * aB) = fn a:=aJ1 (Nat.add_mul_mod_self_right _ _ _)
theorem oa (x:F):fn x.val = x:=Fin.ext (mod_eq_of_lt x.isLt)
def nv5 (l:List UInt64):Nat:=(l.getD 0 0).toNat + (l.getD 1 0).toNat * 2251799813685248 + (l.getD 2 0).toNat * 5070602400912917605986812821504 + (l.getD 3 0).toNat * 11417981541647679048466287755595961091061972992 + (l.getD 4 0).toNat * 25711008708143844408671393477458601640355247900524685364822016
def fv (l:List UInt64):F:=fn (nv5 l)
def Lb (l:List UInt64):Prop:=l.length = 5/\(l.getD 0 0).toNat < 4503599627370496/\(l.getD 1 0).toNat < 4503599627370496/\(l.getD 2 0).toNat < 4503599627370496/\(l.getD 3 0).toNat < 4503599627370496/\(l.getD 4 0).toNat < 4503599627370496
theorem fQ (x:UInt64):(x &&& ofNat 2251799813685247).toNat = x.toNat % 2251799813685248:=by
 rw [UInt64.toNat_and,show (ofNat 2251799813685247).toNat = 2 ^ 51 - 1 from rfl,Nat.and_two_pow_sub_one_eq_mod]
theorem bo (x:UInt64) (k:Nat):(aG x k).toNat = x.toNat / 2 ^ k:=by
 have:=x.toNat_lt
 have h:=Nat.div_le_self x.toNat (2 ^ k)
 unfold aG
 rw [toNat_ofNat',Nat.shiftRight_eq_div_pow,mod_eq_of_lt (by omega)]
theorem uj (x:UInt64) (k:Nat):(aV x k).toNat = x.toNat * 2 ^ k % 18446744073709551616:=by
 unfold aV
 rw [toNat_ofNat',Nat.shiftLeft_eq]
theorem iw (x:UInt64):(aG x 51).toNat = x.toNat / 2251799813685248:=bo x 51
def cQ (l:List UInt64):List UInt64:=
 [(l.getD 0 0 &&& ofNat 2251799813685247) + aG (l.getD 4 0) 51 * ofNat 19,(l.getD 1 0 &&& ofNat 2251799813685247) + aG (l.getD 0 0) 51,(l.getD 2 0 &&& ofNat 2251799813685247) + aG (l.getD 1 0) 51,
  (l.getD 3 0 &&& ofNat 2251799813685247) + aG (l.getD 2 0) 51,(l.getD 4 0 &&& ofNat 2251799813685247) + aG (l.getD 3 0) 51]
theorem wE (l:List UInt64):((cQ l).getD 0 0).toNat = (l.getD 0 0).toNat % 2251799813685248 + (l.getD 4 0).toNat / 2251799813685248 * 19
  /\ ((cQ l).getD 1 0).toNat = (l.getD 1 0).toNat % 2251799813685248 + (l.getD 0 0).toNat / 2251799813685248
  /\ ((cQ l).getD 2 0).toNat = (l.getD 2 0).toNat % 2251799813685248 + (l.getD 1 0).toNat / 2251799813685248
  /\ ((cQ l).getD 3 0).toNat = (l.getD 3 0).toNat % 2251799813685248 + (l.getD 2 0).toNat / 2251799813685248
  /\ ((cQ l).getD 4 0).toNat = (l.getD 4 0).toNat % 2251799813685248 + (l.getD 3 0).toNat / 2251799813685248:=by
 have h0:=(l.getD 0 0).toNat_lt
 have h1:=(l.getD 1 0).toNat_lt
 have h2:=(l.getD 2 0).toNat_lt
 have h3:=(l.getD 3 0).toNat_lt
 have h4:=(l.getD 4 0).toNat_lt
 have e19:(ofNat 19).toNat = 19:=rfl
 refine ⟨?_,?_,?_,?_,?_⟩
 ·show ((l.getD 0 0 &&& ofNat 2251799813685247) + aG (l.getD 4 0) 51 * ofNat 19).toNat = _
  rw [toNat_add,toNat_mul,fQ,iw,e19];omega
 ·show ((l.getD 1 0 &&& ofNat 2251799813685247) + aG (l.getD 0 0) 51).toNat = _
  rw [toNat_add,fQ,iw];omega
 ·show ((l.getD 2 0 &&& ofNat 2251799813685247) + aG (l.getD 1 0) 51).toNat = _
  rw [toNat_add,fQ,iw];omega
 ·show ((l.getD 3 0 &&& ofNat 2251799813685247) + aG (l.getD 2 0) 51).toNat = _
  rw [toNat_add,fQ,iw];omega
 ·show ((l.getD 4 0 &&& ofNat 2251799813685247) + aG (l.getD 3 0) 51).toNat = _
  rw [toNat_add,fQ,iw];omega
theorem iN (l:List UInt64):Lb (cQ l):=by
 obtain ⟨e0,e1,e2,e3,e4⟩:=wE l
 have h0:=(l.getD 0 0).toNat_lt
 have h1:=(l.getD 1 0).toNat_lt
 have h2:=(l.getD 2 0).toNat_lt
 have h3:=(l.getD 3 0).toNat_lt
 have h4:=(l.getD 4 0).toNat_lt
 refine ⟨rfl,?_,?_,?_,?_,?_⟩
 ·rw [e0];omega
 ·rw [e1];omega
 ·rw [e2];omega
 ·rw [e3];omega
 ·rw [e4];omega
theorem aMZ (l:List UInt64):nv5 l = nv5 (cQ l) + (l.getD 4 0).toNat / 2251799813685248 * aB:=by
 obtain ⟨e0,e1,e2,e3,e4⟩:=wE l
 unfold nv5
 rw [e0,e1,e2,e3,e4]
 unfold aB
 generalize (l.getD 0 0).toNat = x0
 generalize (l.getD 1 0).toNat = x1
 generalize (l.getD 2 0).toNat = x2
 generalize (l.getD 3 0).toNat = x3
 generalize (l.getD 4 0).toNat = x4
 omega
theorem oy (l:List UInt64):fv (cQ l) = fv l:=by
 unfold fv
 rw [aMZ l,aU9]
def adS (a b:List UInt64):Nat->List UInt64
 | 0=>replicate 5 0
 | i + 1=>(adS a b i).set i (a.getD i 0 + b.getD i 0)
theorem aRA (a b:List UInt64):adS a b 5 = [a.getD 0 0 + b.getD 0 0,a.getD 1 0 + b.getD 1 0,a.getD 2 0 + b.getD 2 0,a.getD 3 0 + b.getD 3 0,a.getD 4 0 + b.getD 4 0]:=rfl
theorem mD (a b:List UInt64):∀ i,(adS a b i).length = 5
 | 0=>rfl
 | i + 1=>by show ((adS a b i).set i _).length = 5;rw [length_set];exact mD a b i
def iz (a b:List UInt64):List UInt64:=cQ (adS a b 5)
theorem aq (a b:List UInt64):Lb (iz a b):=iN _
theorem fA {a b:List UInt64} (ha:Lb a) (hb:Lb b):fv (iz a b) = fv a + fv b:=by
 unfold iz
 rw [oy]
 unfold fv
 rw [<- aa]
 congr 1
 obtain ⟨_,a0,a1,a2,a3,a4⟩:=ha
 obtain ⟨_,b0,b1,b2,b3,b4⟩:=hb
 unfold nv5
 rw [aRA]
 have e0:(a.getD 0 0 + b.getD 0 0).toNat = (a.getD 0 0).toNat + (b.getD 0 0).toNat:=by rw [toNat_add];omega
 have e1:(a.getD 1 0 + b.getD 1 0).toNat = (a.getD 1 0).toNat + (b.getD 1 0).toNat:=by rw [toNat_add];omega
 have e2:(a.getD 2 0 + b.getD 2 0).toNat = (a.getD 2 0).toNat + (b.getD 2 0).toNat:=by rw [toNat_add];omega
 have e3:(a.getD 3 0 + b.getD 3 0).toNat = (a.getD 3 0).toNat + (b.getD 3 0).toNat:=by rw [toNat_add];omega
 have e4:(a.getD 4 0 + b.getD 4 0).toNat = (a.getD 4 0).toNat + (b.getD 4 0).toNat:=by rw [toNat_add];omega
 show (a.getD 0 0 + b.getD 0 0).toNat + (a.getD 1 0 + b.getD 1 0).toNat * _ + (a.getD 2 0 + b.getD 2 0).toNat * _ + (a.getD 3 0 + b.getD 3 0).toNat * _ + (a.getD 4 0 + b.getD 4 0).toNat * _ = _
 rw [e0,e1,e2,e3,e4]
 generalize (a.getD 0 0).toNat = x0 at *
 generalize (a.getD 1 0).toNat = x1 at *
 generalize (a.getD 2 0).toNat = x2 at *
 generalize (a.getD 3 0).toNat = x3 at *
 generalize (a.getD 4 0).toNat = x4 at *
 omega
def sb0:List UInt64:=[ofNat 9007199254740916,ofNat 9007199254740988,ofNat 9007199254740988,ofNat 9007199254740988,ofNat 9007199254740988]
def sbS (a b:List UInt64):Nat->List UInt64
 | 0=>sb0
 | i + 1=>(sbS a b i).set i ((sbS a b i).getD i 0 + (a.getD i 0 - b.getD i 0))
theorem cJ (a b:List UInt64):∀ i,(sbS a b i).length = 5
 | 0=>rfl
 | i + 1=>by show ((sbS a b i).set i _).length = 5;rw [length_set];exact cJ a b i
theorem aN7 (a b:List UInt64):sbS a b 5 = [ofNat 9007199254740916 + (a.getD 0 0 - b.getD 0 0),ofNat 9007199254740988 + (a.getD 1 0 - b.getD 1 0),ofNat 9007199254740988 + (a.getD 2 0 - b.getD 2 0),ofNat 9007199254740988 + (a.getD 3 0 - b.getD 3 0),ofNat 9007199254740988 + (a.getD 4 0 - b.getD 4 0)]:=rfl
def iu (a b:List UInt64):List UInt64:=cQ (sbS a b 5)
theorem al (a b:List UInt64):Lb (iu a b):=iN _
theorem sJ {x y:UInt64} (hx:x.toNat < 4503599627370496) (hy:y.toNat < 4503599627370496) {c:Nat} (h:4503599627370496 <= c) (h':c < 9007199254740992):(ofNat c + (x - y)).toNat + y.toNat = c + x.toNat:=by
 rw [toNat_add,UInt64.toNat_sub,toNat_ofNat']
 omega
theorem dq {a b:List UInt64} (ha:Lb a) (hb:Lb b):fv (iu a b) = fv a - fv b:=by
 have key:nv5 (sbS a b 5) + nv5 b = nv5 a + 4 * aB:=by
  obtain ⟨_,a0,a1,a2,a3,a4⟩:=ha
  obtain ⟨_,b0,b1,b2,b3,b4⟩:=hb
  have e0:=sJ a0 b0 (c:=9007199254740916) (by omega) (by omega)
  have e1:=sJ a1 b1 (c:=9007199254740988) (by omega) (by omega)
  have e2:=sJ a2 b2 (c:=9007199254740988) (by omega) (by omega)
  have e3:=sJ a3 b3 (c:=9007199254740988) (by omega) (by omega)
  have e4:=sJ a4 b4 (c:=9007199254740988) (by omega) (by omega)
  unfold nv5
  rw [aN7]
  show (ofNat 9007199254740916 + (a.getD 0 0 - b.getD 0 0)).toNat + (ofNat 9007199254740988 + (a.getD 1 0 - b.getD 1 0)).toNat * _ + (ofNat 9007199254740988 + (a.getD 2 0 - b.getD 2 0)).toNat * _ + (ofNat 9007199254740988 + (a.getD 3 0 - b.getD 3 0)).toNat * _ + (ofNat 9007199254740988 + (a.getD 4 0 - b.getD 4 0)).toNat * _ + _ = _
  generalize (ofNat 9007199254740916 + (a.getD 0 0 - b.getD 0 0)).toNat = y0 at *
  generalize (ofNat 9007199254740988 + (a.getD 1 0 - b.getD 1 0)).toNat = y1 at *
  generalize (ofNat 9007199254740988 + (a.getD 2 0 - b.getD 2 0)).toNat = y2 at *
  generalize (ofNat 9007199254740988 + (a.getD 3 0 - b.getD 3 0)).toNat = y3 at *
  generalize (ofNat 9007199254740988 + (a.getD 4 0 - b.getD 4 0)).toNat = y4 at *
  unfold aB
  omega
 unfold iu
 rw [oy]
 unfold fv
 have h:=congrArg fn key
 rw [aa,aU9] at h
 rw [<- h]
 grind -lia -linarith (splits:=0)
end Go.Cu
namespace Go.Cu
open Go Go.Sx
def muT (x y:UInt64):UInt64:=aG x 32 * (y &&& ofNat 4294967295) + aG ((x &&& ofNat 4294967295) * (y &&& ofNat 4294967295)) 32
def muH (x y:UInt64):UInt64:=aG x 32 * aG y 32 + aG (muT x y) 32 + aG ((muT x y &&& ofNat 4294967295) + (x &&& ofNat 4294967295) * aG y 32) 32
theorem eG {a b:Nat} (ha:a < 4294967296) (hb:b < 4294967296):a * b <= 18446744065119617025:=by
 have:a * b <= 4294967295 * 4294967295:=Nat.mul_le_mul (by omega) (by omega)
 omega
theorem rP (x1 x0 y1 y0:Nat):(x1 * 4294967296 + x0) * (y1 * 4294967296 + y0) = x1 * y1 * 18446744073709551616 + (x1 * y0 + x0 * y1) * 4294967296 + x0 * y0:=by
 rw [add_mul,mul_add,mul_add]
 have e1:x1 * 4294967296 * (y1 * 4294967296) = x1 * y1 * 18446744073709551616:=by
  rw [mul_assoc,Nat.mul_left_comm 4294967296,<- mul_assoc]
 have e2:x1 * 4294967296 * y0 = x1 * y0 * 4294967296:=by rw [Nat.mul_right_comm]
 have e3:x0 * (y1 * 4294967296) = x0 * y1 * 4294967296:=by rw [mul_assoc]
 rw [e1,e2,e3]
 omega
theorem wY (x:UInt64):(x &&& ofNat 4294967295).toNat = x.toNat % 4294967296:=by
 rw [UInt64.toNat_and,show (ofNat 4294967295).toNat = 2 ^ 32 - 1 from rfl,Nat.and_two_pow_sub_one_eq_mod]
theorem aBV (x:UInt64):(aG x 32).toNat = x.toNat / 4294967296:=bo x 32
theorem vM (x y:UInt64):(muH x y).toNat = x.toNat * y.toNat / 18446744073709551616:=by
 have hx:=x.toNat_lt
 have hy:=y.toNat_lt
 have sx:x.toNat = x.toNat / 4294967296 * 4294967296 + x.toNat % 4294967296:=by omega
 have sy:y.toNat = y.toNat / 4294967296 * 4294967296 + y.toNat % 4294967296:=by omega
 have ps:=rP (x.toNat / 4294967296) (x.toNat % 4294967296) (y.toNat / 4294967296) (y.toNat % 4294967296)
 rw [<- sx,<- sy] at ps
 have b11:=eG (a:=x.toNat / 4294967296) (b:=y.toNat / 4294967296) (by omega) (by omega)
 have b10:=eG (a:=x.toNat / 4294967296) (b:=y.toNat % 4294967296) (by omega) (by omega)
 have b01:=eG (a:=x.toNat % 4294967296) (b:=y.toNat / 4294967296) (by omega) (by omega)
 have b00:=eG (a:=x.toNat % 4294967296) (b:=y.toNat % 4294967296) (by omega) (by omega)
 unfold muH muT
 simp only [toNat_add,toNat_mul,wY,aBV]
 generalize x.toNat / 4294967296 * (y.toNat / 4294967296) = p11 at *
 generalize x.toNat / 4294967296 * (y.toNat % 4294967296) = p10 at *
 generalize x.toNat % 4294967296 * (y.toNat / 4294967296) = p01 at *
 generalize x.toNat % 4294967296 * (y.toNat % 4294967296) = p00 at *
 generalize x.toNat * y.toNat = P at *
 omega
theorem tF (x y:UInt64):(muH x y).toNat * 18446744073709551616 + (x * y).toNat = x.toNat * y.toNat:=by
 rw [vM,toNat_mul]
 omega
theorem wb (x y:UInt64):(fw x y 0).toNat + (ru x y 0).toNat * 18446744073709551616 = x.toNat + y.toNat:=by
 have:=x.toNat_lt
 have:=y.toNat_lt
 unfold fw ru
 rw [toNat_ofNat',toNat_ofNat',show (0:UInt64).toNat = 0 from rfl]
 omega
abbrev W2:=UInt64 × UInt64
def wV (w:W2):Nat:=w.1.toNat * 18446744073709551616 + w.2.toNat
theorem aA5 (w:W2):wV w = w.1.toNat * 18446744073709551616 + w.2.toNat:=rfl
def aJ (w:W2) (x y:UInt64):W2:=(fw w.1 (muH x y) (ru w.2 (x * y) 0),fw w.2 (x * y) 0)
theorem vS (w:W2) (x y:UInt64):(aJ w x y).1 = fw w.1 (muH x y) (ru w.2 (x * y) 0):=rfl
theorem vQ (w:W2) (x y:UInt64):(aJ w x y).2 = fw w.2 (x * y) 0:=rfl
theorem aIQ (x y c:UInt64):(fw x y c).toNat = (x.toNat + y.toNat + c.toNat) % 18446744073709551616:=by
 unfold fw
 rw [toNat_ofNat']
theorem aC1 {W1 W2 H L P d s B:Nat} (hm:H * B + L = P) (a1:s + d * B = W2 + L):(W1 + H + d) * B + s = W1 * B + W2 + P:=by
 rw [add_mul,add_mul]
 generalize H * B = x at *
 generalize d * B = y at *
 generalize W1 * B = z at *
 omega
theorem aG6 {W1 W2 H L P d s:Nat} (h:W1 * 18446744073709551616 + W2 + P < 340282366920938463463374607431768211456) (hm:H * 18446744073709551616 + L = P) (a1:s + d * 18446744073709551616 = W2 + L) :
  (W1 + H + d) % 18446744073709551616 * 18446744073709551616 + s = W1 * 18446744073709551616 + W2 + P:=by
 have hlt:W1 + H + d < 18446744073709551616:=by omega
 rw [mod_eq_of_lt hlt]
 clear hlt h
 exact aC1 hm a1
theorem nw {w:W2} {x y:UInt64} (h:wV w + x.toNat * y.toNat < 340282366920938463463374607431768211456):wV (aJ w x y) = wV w + x.toNat * y.toNat:=by
 have hm:=tF x y
 have a1:=wb w.2 (x * y)
 rw [aA5] at h
 rw [aA5 (aJ w x y),aA5 w,vS,vQ,aIQ]
 exact aG6 h hm a1
def muA (a b:List UInt64) (i k:Nat) (t:List W2):List W2:=
 if 5 <= i + k then t.set (i + k - 5) (aJ (t.getD (i + k - 5) (0,0)) (a.getD i 0) (ofNat 19 * b.getD k 0))
 else t.set (i + k) (aJ (t.getD (i + k) (0,0)) (a.getD i 0) (b.getD k 0))
def muR (a b:List UInt64) (i:Nat) (t:List W2):Nat->List W2
 | 0=>t
 | k + 1=>muA a b i k (muR a b i t k)
def muS (a b:List UInt64):Nat->List W2
 | 0=>replicate 5 (0,0)
 | i + 1=>muR a b i (muS a b i) 5
theorem kj {a b:List UInt64} {i:Nat} {t:List W2}:∀ k,(muR a b i t k).length = t.length
 | 0=>rfl
 | k + 1=>by
  show (muA a b i k (muR a b i t k)).length = _
  unfold muA
  split <;> rw [length_set,kj k]
theorem qP (a b:List UInt64):∀ i,(muS a b i).length = 5
 | 0=>rfl
 | i + 1=>by show (muR a b i (muS a b i) 5).length = 5;rw [kj,qP a b i]
attribute [irreducible] aJ
theorem aS5 (a b:List UInt64) (t0 t1 t2 t3 t4:W2):muR a b 0 [t0,t1,t2,t3,t4] 5 = [aJ t0 (a.getD 0 0) (b.getD 0 0),aJ t1 (a.getD 0 0) (b.getD 1 0),aJ t2 (a.getD 0 0) (b.getD 2 0),aJ t3 (a.getD 0 0) (b.getD 3 0),aJ t4 (a.getD 0 0) (b.getD 4 0)]:=rfl
theorem aS4 (a b:List UInt64) (t0 t1 t2 t3 t4:W2):muR a b 1 [t0,t1,t2,t3,t4] 5 = [aJ t0 (a.getD 1 0) (ofNat 19 * b.getD 4 0),aJ t1 (a.getD 1 0) (b.getD 0 0),aJ t2 (a.getD 1 0) (b.getD 1 0),aJ t3 (a.getD 1 0) (b.getD 2 0),aJ t4 (a.getD 1 0) (b.getD 3 0)]:=rfl
theorem aS3 (a b:List UInt64) (t0 t1 t2 t3 t4:W2):muR a b 2 [t0,t1,t2,t3,t4] 5 = [aJ t0 (a.getD 2 0) (ofNat 19 * b.getD 3 0),aJ t1 (a.getD 2 0) (ofNat 19 * b.getD 4 0),aJ t2 (a.getD 2 0) (b.getD 0 0),aJ t3 (a.getD 2 0) (b.getD 1 0),aJ t4 (a.getD 2 0) (b.getD 2 0)]:=rfl
theorem aS2 (a b:List UInt64) (t0 t1 t2 t3 t4:W2):muR a b 3 [t0,t1,t2,t3,t4] 5 = [aJ t0 (a.getD 3 0) (ofNat 19 * b.getD 2 0),aJ t1 (a.getD 3 0) (ofNat 19 * b.getD 3 0),aJ t2 (a.getD 3 0) (ofNat 19 * b.getD 4 0),aJ t3 (a.getD 3 0) (b.getD 0 0),aJ t4 (a.getD 3 0) (b.getD 1 0)]:=rfl
theorem aS1 (a b:List UInt64) (t0 t1 t2 t3 t4:W2):muR a b 4 [t0,t1,t2,t3,t4] 5 = [aJ t0 (a.getD 4 0) (ofNat 19 * b.getD 1 0),aJ t1 (a.getD 4 0) (ofNat 19 * b.getD 2 0),aJ t2 (a.getD 4 0) (ofNat 19 * b.getD 3 0),aJ t3 (a.getD 4 0) (ofNat 19 * b.getD 4 0),aJ t4 (a.getD 4 0) (b.getD 0 0)]:=rfl
theorem aO9 (a b:List UInt64):muS a b 5 =
    [aJ (aJ (aJ (aJ (aJ (0,0) (a.getD 0 0) (b.getD 0 0)) (a.getD 1 0) (ofNat 19 * b.getD 4 0)) (a.getD 2 0) (ofNat 19 * b.getD 3 0)) (a.getD 3 0) (ofNat 19 * b.getD 2 0)) (a.getD 4 0) (ofNat 19 * b.getD 1 0),
     aJ (aJ (aJ (aJ (aJ (0,0) (a.getD 0 0) (b.getD 1 0)) (a.getD 1 0) (b.getD 0 0)) (a.getD 2 0) (ofNat 19 * b.getD 4 0)) (a.getD 3 0) (ofNat 19 * b.getD 3 0)) (a.getD 4 0) (ofNat 19 * b.getD 2 0),
     aJ (aJ (aJ (aJ (aJ (0,0) (a.getD 0 0) (b.getD 2 0)) (a.getD 1 0) (b.getD 1 0)) (a.getD 2 0) (b.getD 0 0)) (a.getD 3 0) (ofNat 19 * b.getD 4 0)) (a.getD 4 0) (ofNat 19 * b.getD 3 0),
     aJ (aJ (aJ (aJ (aJ (0,0) (a.getD 0 0) (b.getD 3 0)) (a.getD 1 0) (b.getD 2 0)) (a.getD 2 0) (b.getD 1 0)) (a.getD 3 0) (b.getD 0 0)) (a.getD 4 0) (ofNat 19 * b.getD 4 0),
     aJ (aJ (aJ (aJ (aJ (0,0) (a.getD 0 0) (b.getD 4 0)) (a.getD 1 0) (b.getD 3 0)) (a.getD 2 0) (b.getD 2 0)) (a.getD 3 0) (b.getD 1 0)) (a.getD 4 0) (b.getD 0 0)]:=by
  show muR a b 4 (muR a b 3 (muR a b 2 (muR a b 1 (muR a b 0 [(0,0),(0,0),(0,0),(0,0),(0,0)] 5) 5) 5) 5) 5 = _
  rw [aS5,aS4,aS3,aS2,aS1]
theorem m19 {x:UInt64} (h:x.toNat < 4503599627370496):(ofNat 19 * x).toNat = 19 * x.toNat:=by
 rw [toNat_mul,show (ofNat 19).toNat = 19 from rfl];omega
theorem pb1 {x y:Nat} (hx:x < 4503599627370496) (hy:y < 4503599627370496):x * y <= 20282409603651661421847155900416:=by
 have:x * y <= 4503599627370495 * 4503599627370495:=Nat.mul_le_mul (by omega) (by omega)
 omega
theorem aQK {x0 x1 x2 x3 x4 y0 y1 y2 y3 y4:UInt64} {p0 p1 p2 p3 p4:Nat} (h0:x0.toNat * y0.toNat = p0) (h1:x1.toNat * y1.toNat = p1) (h2:x2.toNat * y2.toNat = p2) (h3:x3.toNat * y3.toNat = p3) (h4:x4.toNat * y4.toNat = p4)
  (hp:p0 + p1 + p2 + p3 + p4 < 340282366920938463463374607431768211456) :
  wV (aJ (aJ (aJ (aJ (aJ (0,0) x0 y0) x1 y1) x2 y2) x3 y3) x4 y4) = p0 + p1 + p2 + p3 + p4:=by
 have z:wV (0,0) = 0:=rfl
 have a0:=nw (w:=(0,0)) (x:=x0) (y:=y0) (by rw [z,h0];omega)
 rw [z,h0] at a0
 have a1:=nw (w:=aJ (0,0) x0 y0) (x:=x1) (y:=y1) (by rw [a0,h1];omega)
 rw [a0,h1] at a1
 have a2:=nw (w:=aJ (aJ (0,0) x0 y0) x1 y1) (x:=x2) (y:=y2) (by rw [a1,h2];omega)
 rw [a1,h2] at a2
 have a3:=nw (w:=aJ (aJ (aJ (0,0) x0 y0) x1 y1) x2 y2) (x:=x3) (y:=y3) (by rw [a2,h3];omega)
 rw [a2,h3] at a3
 have a4:=nw (w:=aJ (aJ (aJ (aJ (0,0) x0 y0) x1 y1) x2 y2) x3 y3) (x:=x4) (y:=y4) (by rw [a3,h4];omega)
 rw [a3,h4] at a4
 rw [a4];omega
def cyS (t:List W2):Nat->List UInt64 × UInt64
 | 0=>(replicate 5 0,ofNat 0)
 | i + 1=>
  ((cyS t i).1.set i (fw (t.getD i (0,0)).2 (cyS t i).2 0 &&& ofNat 2251799813685247),
   aV ((t.getD i (0,0)).1 + ru (t.getD i (0,0)).2 (cyS t i).2 0) 13 ||| aG (fw (t.getD i (0,0)).2 (cyS t i).2 0) 51)
theorem qg (t:List W2):∀ i,(cyS t i).1.length = 5
 | 0=>rfl
 | i + 1=>by show ((cyS t i).1.set i _).length = 5;rw [length_set];exact qg t i
def ah (a b:List UInt64):List UInt64:=
 cQ ((cyS (muS a b 5) 5).1.set 0 ((cyS (muS a b 5) 5).1.getD 0 0 + (cyS (muS a b 5) 5).2 * ofNat 19))
theorem aE (a b:List UInt64):Lb (ah a b):=iN _
theorem aOW {x y:UInt64} {k:Nat} (z:Nat) (hx:x.toNat = z * 2 ^ k) (hy:y.toNat < 2 ^ k):(x ||| y).toNat = x.toNat + y.toNat:=by
 rw [UInt64.toNat_or,hx,mul_comm,Nat.two_pow_add_eq_or_of_lt hy]
theorem aMX {W1 W2 d s o:Nat} (_:W1 * 18446744073709551616 + W2 + o < 41538374868278621028243970633760768) (a:s + d * 18446744073709551616 = W2 + o):s % 2251799813685248 = (W1 * 18446744073709551616 + W2 + o) % 2251799813685248:=by omega
theorem aMW {W1 W2 d s o:Nat} (h:W1 * 18446744073709551616 + W2 + o < 41538374868278621028243970633760768) (a:s + d * 18446744073709551616 = W2 + o):(W1 + d) * 8192 + s / 2251799813685248 = (W1 * 18446744073709551616 + W2 + o) / 2251799813685248/\W1 + d < 2251799813685248:=by omega
theorem aMV {x:Nat} (h:x < 2251799813685248):x * 2 ^ 13 < 18446744073709551616:=by omega
theorem ow {w:W2} {o:UInt64} (h:wV w + o.toNat < 41538374868278621028243970633760768) :
  (fw w.2 o 0 &&& ofNat 2251799813685247).toNat = (wV w + o.toNat) % 2251799813685248
  /\ (aV (w.1 + ru w.2 o 0) 13 ||| aG (fw w.2 o 0) 51).toNat = (wV w + o.toNat) / 2251799813685248:=by
 have a:=wb w.2 o
 have hs:=(fw w.2 o 0).toNat_lt
 rw [aA5] at h
 rw [aA5]
 refine ⟨?_,?_⟩
 ·rw [fQ];exact aMX h a
 ·obtain ⟨k1,k2⟩:=aMW h a
  have e1:(w.1 + ru w.2 o 0).toNat = w.1.toNat + (ru w.2 o 0).toNat:=by
   rw [toNat_add];exact mod_eq_of_lt (by omega)
  have e2:(aV (w.1 + ru w.2 o 0) 13).toNat = (w.1.toNat + (ru w.2 o 0).toNat) * 2 ^ 13:=by
   rw [uj,e1]
   exact mod_eq_of_lt (aMV k2)
  have e3:(aG (fw w.2 o 0) 51).toNat < 2 ^ 13:=by
   rw [iw];show _ < 8192;omega
  rw [aOW _ e2 e3,e2,iw]
  exact k1
end Go.Cu
