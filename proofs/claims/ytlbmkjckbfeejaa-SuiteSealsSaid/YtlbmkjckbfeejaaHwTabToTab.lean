/- What the functions of the program compute. No condition. -/
import Derived.Test.YtlbmkjckbfeejaaHx7
import Derived.Test.YtlbmkjckbfeejaaProg
import Derived.KernelRfl
set_option linter.unusedSimpArgs false
set_option linter.unusedVariables false
namespace Go.Proofs.Ytlbmkjckbfeejaa
open Go Go.Sx
set_option maxRecDepth 100000 in
def tys:List Ty:=[
 badTy,
 badTy,
 ⟨.int .i64,1,8,[(1,.i .i64 0)],false⟩,
 ⟨.int .i64,1,8,[(1,.i .i64 0)],false⟩,
 ⟨.bool,1,1,[(1,.ff)],false⟩,
 ⟨.int .u8,1,1,[(1,.u8 0)],false⟩,
 ⟨.int .u8,1,1,[(1,.u8 0)],false⟩,
 ⟨.struct [(0,2),(1,3),(2,4),(3,6)],4,24,[(1,.i .i64 0),(1,.i .i64 0),(1,.ff),(1,.u8 0)],false⟩,
 ⟨.struct [(0,2),(1,3),(2,4),(3,6)],4,24,[(1,.i .i64 0),(1,.i .i64 0),(1,.ff),(1,.u8 0)],false⟩,
 ⟨.string,1,16,[(1,.str [])],false⟩,
 ⟨.string,1,16,[(1,.str [])],false⟩,
 ⟨.string,1,16,[(1,.str [])],false⟩,
 ⟨.int .u64,1,8,[(1,.u64 0)],false⟩,
 ⟨.struct [(0,9),(1,12)],2,24,[(1,.str []),(1,.u64 0)],false⟩,
 ⟨.struct [(0,9),(1,12)],2,24,[(1,.str []),(1,.u64 0)],false⟩,
 ⟨.pointer 134,1,8,[(1,.nilp)],false⟩,
 ⟨.pointer 137,1,8,[(1,.nilp)],false⟩,
 ⟨.pointer 146,1,8,[(1,.nilp)],false⟩,
 ⟨.struct [(0,17)],1,8,[(1,.nilp)],false⟩,
 ⟨.struct [(0,17)],1,8,[(1,.nilp)],false⟩,
 badTy,
 ⟨.int .i32,1,4,[(1,.i .i32 0)],false⟩,
 ⟨.array 32 5,32,32,[(32,.a8 (List.replicate 32 0))],false⟩,
 ⟨.slice 5,1,24,[(1,.nsl)],false⟩,
 badTy,
 ⟨.pointer 68,1,8,[(1,.nilp)],false⟩,
 ⟨.struct [(0,25)],1,8,[(1,.nilp)],false⟩,
 ⟨.struct [(0,25)],1,8,[(1,.nilp)],false⟩,
 badTy,
 badTy,
 badTy,
 ⟨.pointer 86,1,8,[(1,.nilp)],false⟩,
 ⟨.struct [(0,31)],1,8,[(1,.nilp)],false⟩,
 ⟨.struct [(0,31)],1,8,[(1,.nilp)],false⟩,
 badTy,
 badTy,
 badTy,
 badTy,
 badTy,
 badTy,
 ⟨.slice 23,1,24,[(1,.nsl)],false⟩,
 badTy,
 ⟨.array 32 5,32,32,[(32,.a8 (List.replicate 32 0))],false⟩,
 badTy,
 badTy,
 badTy,
 badTy,
 badTy,
 badTy,
 badTy,
 badTy,
 ⟨.array 16 5,16,16,[(16,.a8 (List.replicate 16 0))],false⟩,
 badTy,
 badTy,
 badTy,
 badTy,
 badTy,
 badTy,
 badTy,
 badTy,
 badTy,
 badTy,
 badTy,
 badTy,
 badTy,
 ⟨.slice 72,1,24,[(1,.nsl)],false⟩,
 ⟨.map 9 3,1,8,[(1,.nilmp)],false⟩,
 ⟨.struct [(0,65),(1,66)],2,32,[(1,.nsl),(1,.nilmp)],false⟩,
 ⟨.struct [(0,65),(1,66)],2,32,[(1,.nsl),(1,.nilmp)],false⟩,
 badTy,
 ⟨.slice 73,1,24,[(1,.nsl)],false⟩,
 ⟨.struct [(0,3),(1,40),(2,70)],3,56,[(1,.i .i64 0),(1,.nsl),(1,.nsl)],false⟩,
 ⟨.struct [(0,3),(1,40),(2,70)],3,56,[(1,.i .i64 0),(1,.nsl),(1,.nsl)],false⟩,
 ⟨.slice 3,1,24,[(1,.nsl)],false⟩,
 badTy,
 ⟨.pointer 102,1,8,[(1,.nilp)],false⟩,
 badTy,
 badTy,
 badTy,
 ⟨.array 64 5,64,64,[(64,.a8 (List.replicate 64 0))],false⟩,
 ⟨.pointer 111,1,8,[(1,.nilp)],false⟩,
 badTy,
 badTy,
 badTy,
 ⟨.slice 88,1,24,[(1,.nsl)],false⟩,
 ⟨.struct [(0,84)],1,24,[(1,.nsl)],false⟩,
 ⟨.struct [(0,84)],1,24,[(1,.nsl)],false⟩,
 ⟨.struct [(0,3),(1,40)],2,32,[(1,.i .i64 0),(1,.nsl)],false⟩,
 ⟨.struct [(0,3),(1,40)],2,32,[(1,.i .i64 0),(1,.nsl)],false⟩,
 badTy,
 badTy,
 ⟨.struct [(0,73),(1,70)],2,48,[(1,.nsl),(1,.nsl)],false⟩,
 ⟨.struct [(0,73),(1,70)],2,48,[(1,.nsl),(1,.nsl)],false⟩,
 badTy,
 badTy,
 ⟨.int .u64,1,8,[(1,.u64 0)],false⟩,
 badTy,
 badTy,
 ⟨.int .u64,1,8,[(1,.u64 0)],false⟩,
 ⟨.array 256 5,256,256,[(256,.a8 (List.replicate 256 0))],false⟩,
 ⟨.array 15 51,240,240,[(240,.a8 (List.replicate 240 0))],false⟩,
 ⟨.struct [(0,99),(256,99),(512,100)],752,752,[(256,.a8 (List.replicate 256 0)),(256,.a8 (List.replicate 256 0)),(240,.a8 (List.replicate 240 0))],false⟩,
 ⟨.struct [(0,99),(256,99),(512,100)],752,752,[(256,.a8 (List.replicate 256 0)),(256,.a8 (List.replicate 256 0)),(240,.a8 (List.replicate 240 0))],false⟩,
 ⟨.array 4 5,4,4,[(4,.a8 (List.replicate 4 0))],false⟩,
 ⟨.array 60 103,240,240,[(240,.a8 (List.replicate 240 0))],false⟩,
 badTy,
 badTy,
 badTy,
 ⟨.int .u32,1,4,[(1,.u32 0)],false⟩,
 ⟨.array 8 108,8,32,[(8,.a32 (List.replicate 8 0))],false⟩,
 ⟨.struct [(0,109),(8,23),(9,98)],10,64,[(8,.a32 (List.replicate 8 0)),(1,.nsl),(1,.u64 0)],false⟩,
 ⟨.struct [(0,109),(8,23),(9,98)],10,64,[(8,.a32 (List.replicate 8 0)),(1,.nsl),(1,.u64 0)],false⟩,
 badTy,
 ⟨.pointer 109,1,8,[(1,.nilp)],false⟩,
 badTy,
 badTy,
 ⟨.array 4 3,4,32,[(4,.ai (List.replicate 4 0))],false⟩,
 ⟨.array 4 116,16,128,[(16,.ai (List.replicate 16 0))],false⟩,
 badTy,
 badTy,
 badTy,
 badTy,
 badTy,
 badTy,
 badTy,
 ⟨.array 64 108,64,256,[(64,.a32 (List.replicate 64 0))],false⟩,
 badTy,
 ⟨.slice 98,1,24,[(1,.nsl)],false⟩,
 badTy,
 ⟨.slice 95,1,24,[(1,.nsl)],false⟩,
 badTy,
 badTy,
 badTy,
 ⟨.struct [(0,17),(1,17),(2,17),(3,9)],4,40,[(1,.nilp),(1,.nilp),(1,.nilp),(1,.str [])],false⟩,
 ⟨.struct [(0,17),(1,17),(2,17),(3,9)],4,40,[(1,.nilp),(1,.nilp),(1,.nilp),(1,.str [])],false⟩,
 badTy,
 badTy,
 badTy,
 badTy,
 ⟨.int .u8,1,1,[(1,.u8 0)],false⟩,
 ⟨.int .u8,1,1,[(1,.u8 0)],false⟩,
 badTy,
 ⟨.pointer 5,1,8,[(1,.nilp)],false⟩,
 ⟨.int .i32,1,4,[(1,.i .i32 0)],false⟩,
 ⟨.int .i32,1,4,[(1,.i .i32 0)],false⟩,
 ⟨.struct [(0,12),(1,12),(2,108),(3,139),(4,5),(5,5),(6,140),(7,141),(8,142),(9,143),(10,144)],11,48,[(1,.u64 0),(1,.u64 0),(1,.u32 0),(1,.u8 0),(1,.u8 0),(1,.u8 0),(1,.u8 0),(1,.raw .nilFunc),(1,.nilp),(1,.i .i32 0),(1,.i .i32 0)],false⟩,
 ⟨.struct [(0,12),(1,12),(2,108),(3,139),(4,5),(5,5),(6,140),(7,141),(8,142),(9,143),(10,144)],11,48,[(1,.u64 0),(1,.u64 0),(1,.u32 0),(1,.u8 0),(1,.u8 0),(1,.u8 0),(1,.u8 0),(1,.raw .nilFunc),(1,.nilp),(1,.i .i32 0),(1,.i .i32 0)],false⟩,
 badTy,
 badTy,
 badTy,
 ⟨.slice 4,1,24,[(1,.nsl)],false⟩]
set_option maxRecDepth 100000 in
noncomputable def cx:Ctx where
 P:=Try.prog
 tys:=tys
 chk:=by kernel_rfl
 mixed:=by kernel_rfl
set_option maxRecDepth 100000 in
noncomputable def Γ:Cfg where
 toCtx:=cx
 calls:=[6,7,8,9,10,11,12,13,14,15,16,17,18,19,20,21,22,23,24,25,26,27,28,29,30,31,32,33,34,35,36,37,38,39,40,41,42,43,44,45,46,47,48,49,50,51,52,53,54,55,56,57,58,59,60,61,62,63,64,65,66,67,68,69,70,71,72,73,74,75]
 callsOK:=by kernel_rfl
set_option maxRecDepth 10000 in theorem sz2:(Γ.ty 2).size = 1:=rfl
set_option maxRecDepth 10000 in theorem sz3:(Γ.ty 3).size = 1:=rfl
set_option maxRecDepth 10000 in theorem sz4:(Γ.ty 4).size = 1:=rfl
set_option maxRecDepth 10000 in theorem sz5:(Γ.ty 5).size = 1:=rfl
set_option maxRecDepth 10000 in theorem sz6:(Γ.ty 6).size = 1:=rfl
set_option maxRecDepth 10000 in theorem sz7:(Γ.ty 7).size = 4:=rfl
set_option maxRecDepth 10000 in theorem sz8:(Γ.ty 8).size = 4:=rfl
set_option maxRecDepth 10000 in theorem sz9:(Γ.ty 9).size = 1:=rfl
set_option maxRecDepth 10000 in theorem sz10:(Γ.ty 10).size = 1:=rfl
set_option maxRecDepth 10000 in theorem sz11:(Γ.ty 11).size = 1:=rfl
set_option maxRecDepth 10000 in theorem sz12:(Γ.ty 12).size = 1:=rfl
set_option maxRecDepth 10000 in theorem sz13:(Γ.ty 13).size = 2:=rfl
set_option maxRecDepth 10000 in theorem sz14:(Γ.ty 14).size = 2:=rfl
set_option maxRecDepth 10000 in theorem sz15:(Γ.ty 15).size = 1:=rfl
set_option maxRecDepth 10000 in theorem sz16:(Γ.ty 16).size = 1:=rfl
set_option maxRecDepth 10000 in theorem sz17:(Γ.ty 17).size = 1:=rfl
set_option maxRecDepth 10000 in theorem sz18:(Γ.ty 18).size = 1:=rfl
set_option maxRecDepth 10000 in theorem sz19:(Γ.ty 19).size = 1:=rfl
set_option maxRecDepth 10000 in theorem sz21:(Γ.ty 21).size = 1:=rfl
set_option maxRecDepth 10000 in theorem sz22:(Γ.ty 22).size = 32:=rfl
set_option maxRecDepth 10000 in theorem sz23:(Γ.ty 23).size = 1:=rfl
set_option maxRecDepth 10000 in theorem sz25:(Γ.ty 25).size = 1:=rfl
set_option maxRecDepth 10000 in theorem sz26:(Γ.ty 26).size = 1:=rfl
set_option maxRecDepth 10000 in theorem sz27:(Γ.ty 27).size = 1:=rfl
set_option maxRecDepth 10000 in theorem sz31:(Γ.ty 31).size = 1:=rfl
set_option maxRecDepth 10000 in theorem sz32:(Γ.ty 32).size = 1:=rfl
set_option maxRecDepth 10000 in theorem sz33:(Γ.ty 33).size = 1:=rfl
set_option maxRecDepth 10000 in theorem sz40:(Γ.ty 40).size = 1:=rfl
set_option maxRecDepth 10000 in theorem sz42:(Γ.ty 42).size = 32:=rfl
set_option maxRecDepth 10000 in theorem sz51:(Γ.ty 51).size = 16:=rfl
set_option maxRecDepth 10000 in theorem sz65:(Γ.ty 65).size = 1:=rfl
set_option maxRecDepth 10000 in theorem sz66:(Γ.ty 66).size = 1:=rfl
set_option maxRecDepth 10000 in theorem sz67:(Γ.ty 67).size = 2:=rfl
set_option maxRecDepth 10000 in theorem sz68:(Γ.ty 68).size = 2:=rfl
set_option maxRecDepth 10000 in theorem sz70:(Γ.ty 70).size = 1:=rfl
set_option maxRecDepth 10000 in theorem sz71:(Γ.ty 71).size = 3:=rfl
set_option maxRecDepth 10000 in theorem sz72:(Γ.ty 72).size = 3:=rfl
set_option maxRecDepth 10000 in theorem sz73:(Γ.ty 73).size = 1:=rfl
set_option maxRecDepth 10000 in theorem sz75:(Γ.ty 75).size = 1:=rfl
set_option maxRecDepth 10000 in theorem sz79:(Γ.ty 79).size = 64:=rfl
set_option maxRecDepth 10000 in theorem sz80:(Γ.ty 80).size = 1:=rfl
set_option maxRecDepth 10000 in theorem sz84:(Γ.ty 84).size = 1:=rfl
set_option maxRecDepth 10000 in theorem sz85:(Γ.ty 85).size = 1:=rfl
set_option maxRecDepth 10000 in theorem sz86:(Γ.ty 86).size = 1:=rfl
set_option maxRecDepth 10000 in theorem sz87:(Γ.ty 87).size = 2:=rfl
set_option maxRecDepth 10000 in theorem sz88:(Γ.ty 88).size = 2:=rfl
set_option maxRecDepth 10000 in theorem sz91:(Γ.ty 91).size = 2:=rfl
set_option maxRecDepth 10000 in theorem sz92:(Γ.ty 92).size = 2:=rfl
set_option maxRecDepth 10000 in theorem sz95:(Γ.ty 95).size = 1:=rfl
set_option maxRecDepth 10000 in theorem sz98:(Γ.ty 98).size = 1:=rfl
set_option maxRecDepth 10000 in theorem sz99:(Γ.ty 99).size = 256:=rfl
set_option maxRecDepth 10000 in theorem sz100:(Γ.ty 100).size = 240:=rfl
set_option maxRecDepth 10000 in theorem sz101:(Γ.ty 101).size = 752:=rfl
set_option maxRecDepth 10000 in theorem sz102:(Γ.ty 102).size = 752:=rfl
set_option maxRecDepth 10000 in theorem sz103:(Γ.ty 103).size = 4:=rfl
set_option maxRecDepth 10000 in theorem sz104:(Γ.ty 104).size = 240:=rfl
set_option maxRecDepth 10000 in theorem sz108:(Γ.ty 108).size = 1:=rfl
set_option maxRecDepth 10000 in theorem sz109:(Γ.ty 109).size = 8:=rfl
set_option maxRecDepth 10000 in theorem sz110:(Γ.ty 110).size = 10:=rfl
set_option maxRecDepth 10000 in theorem sz111:(Γ.ty 111).size = 10:=rfl
set_option maxRecDepth 10000 in theorem sz113:(Γ.ty 113).size = 1:=rfl
set_option maxRecDepth 10000 in theorem sz116:(Γ.ty 116).size = 4:=rfl
set_option maxRecDepth 10000 in theorem sz117:(Γ.ty 117).size = 16:=rfl
set_option maxRecDepth 10000 in theorem sz125:(Γ.ty 125).size = 64:=rfl
set_option maxRecDepth 10000 in theorem sz127:(Γ.ty 127).size = 1:=rfl
set_option maxRecDepth 10000 in theorem sz129:(Γ.ty 129).size = 1:=rfl
set_option maxRecDepth 10000 in theorem sz133:(Γ.ty 133).size = 4:=rfl
set_option maxRecDepth 10000 in theorem sz134:(Γ.ty 134).size = 4:=rfl
set_option maxRecDepth 10000 in theorem sz139:(Γ.ty 139).size = 1:=rfl
set_option maxRecDepth 10000 in theorem sz140:(Γ.ty 140).size = 1:=rfl
set_option maxRecDepth 10000 in theorem sz142:(Γ.ty 142).size = 1:=rfl
set_option maxRecDepth 10000 in theorem sz143:(Γ.ty 143).size = 1:=rfl
set_option maxRecDepth 10000 in theorem sz144:(Γ.ty 144).size = 1:=rfl
set_option maxRecDepth 10000 in theorem sz145:(Γ.ty 145).size = 11:=rfl
set_option maxRecDepth 10000 in theorem sz146:(Γ.ty 146).size = 11:=rfl
set_option maxRecDepth 10000 in theorem sz150:(Γ.ty 150).size = 1:=rfl
set_option maxRecDepth 10000 in theorem by2:(Γ.ty 2).bytes = 8:=rfl
set_option maxRecDepth 10000 in theorem by3:(Γ.ty 3).bytes = 8:=rfl
set_option maxRecDepth 10000 in theorem by4:(Γ.ty 4).bytes = 1:=rfl
set_option maxRecDepth 10000 in theorem by5:(Γ.ty 5).bytes = 1:=rfl
set_option maxRecDepth 10000 in theorem by6:(Γ.ty 6).bytes = 1:=rfl
set_option maxRecDepth 10000 in theorem by7:(Γ.ty 7).bytes = 24:=rfl
set_option maxRecDepth 10000 in theorem by8:(Γ.ty 8).bytes = 24:=rfl
set_option maxRecDepth 10000 in theorem by9:(Γ.ty 9).bytes = 16:=rfl
set_option maxRecDepth 10000 in theorem by10:(Γ.ty 10).bytes = 16:=rfl
set_option maxRecDepth 10000 in theorem by11:(Γ.ty 11).bytes = 16:=rfl
set_option maxRecDepth 10000 in theorem by12:(Γ.ty 12).bytes = 8:=rfl
set_option maxRecDepth 10000 in theorem by13:(Γ.ty 13).bytes = 24:=rfl
set_option maxRecDepth 10000 in theorem by14:(Γ.ty 14).bytes = 24:=rfl
set_option maxRecDepth 10000 in theorem by15:(Γ.ty 15).bytes = 8:=rfl
set_option maxRecDepth 10000 in theorem by16:(Γ.ty 16).bytes = 8:=rfl
set_option maxRecDepth 10000 in theorem by17:(Γ.ty 17).bytes = 8:=rfl
set_option maxRecDepth 10000 in theorem by18:(Γ.ty 18).bytes = 8:=rfl
set_option maxRecDepth 10000 in theorem by19:(Γ.ty 19).bytes = 8:=rfl
set_option maxRecDepth 10000 in theorem by21:(Γ.ty 21).bytes = 4:=rfl
set_option maxRecDepth 10000 in theorem by22:(Γ.ty 22).bytes = 32:=rfl
set_option maxRecDepth 10000 in theorem by23:(Γ.ty 23).bytes = 24:=rfl
set_option maxRecDepth 10000 in theorem by25:(Γ.ty 25).bytes = 8:=rfl
set_option maxRecDepth 10000 in theorem by26:(Γ.ty 26).bytes = 8:=rfl
set_option maxRecDepth 10000 in theorem by27:(Γ.ty 27).bytes = 8:=rfl
set_option maxRecDepth 10000 in theorem by31:(Γ.ty 31).bytes = 8:=rfl
set_option maxRecDepth 10000 in theorem by32:(Γ.ty 32).bytes = 8:=rfl
set_option maxRecDepth 10000 in theorem by33:(Γ.ty 33).bytes = 8:=rfl
set_option maxRecDepth 10000 in theorem by40:(Γ.ty 40).bytes = 24:=rfl
set_option maxRecDepth 10000 in theorem by42:(Γ.ty 42).bytes = 32:=rfl
set_option maxRecDepth 10000 in theorem by51:(Γ.ty 51).bytes = 16:=rfl
set_option maxRecDepth 10000 in theorem by65:(Γ.ty 65).bytes = 24:=rfl
set_option maxRecDepth 10000 in theorem by66:(Γ.ty 66).bytes = 8:=rfl
set_option maxRecDepth 10000 in theorem by67:(Γ.ty 67).bytes = 32:=rfl
set_option maxRecDepth 10000 in theorem by68:(Γ.ty 68).bytes = 32:=rfl
set_option maxRecDepth 10000 in theorem by70:(Γ.ty 70).bytes = 24:=rfl
set_option maxRecDepth 10000 in theorem by71:(Γ.ty 71).bytes = 56:=rfl
set_option maxRecDepth 10000 in theorem by72:(Γ.ty 72).bytes = 56:=rfl
set_option maxRecDepth 10000 in theorem by73:(Γ.ty 73).bytes = 24:=rfl
set_option maxRecDepth 10000 in theorem by75:(Γ.ty 75).bytes = 8:=rfl
set_option maxRecDepth 10000 in theorem by79:(Γ.ty 79).bytes = 64:=rfl
set_option maxRecDepth 10000 in theorem by80:(Γ.ty 80).bytes = 8:=rfl
set_option maxRecDepth 10000 in theorem by84:(Γ.ty 84).bytes = 24:=rfl
set_option maxRecDepth 10000 in theorem by85:(Γ.ty 85).bytes = 24:=rfl
set_option maxRecDepth 10000 in theorem by86:(Γ.ty 86).bytes = 24:=rfl
set_option maxRecDepth 10000 in theorem by87:(Γ.ty 87).bytes = 32:=rfl
set_option maxRecDepth 10000 in theorem by88:(Γ.ty 88).bytes = 32:=rfl
set_option maxRecDepth 10000 in theorem by91:(Γ.ty 91).bytes = 48:=rfl
set_option maxRecDepth 10000 in theorem by92:(Γ.ty 92).bytes = 48:=rfl
set_option maxRecDepth 10000 in theorem by95:(Γ.ty 95).bytes = 8:=rfl
set_option maxRecDepth 10000 in theorem by98:(Γ.ty 98).bytes = 8:=rfl
set_option maxRecDepth 10000 in theorem by99:(Γ.ty 99).bytes = 256:=rfl
set_option maxRecDepth 10000 in theorem by100:(Γ.ty 100).bytes = 240:=rfl
set_option maxRecDepth 10000 in theorem by101:(Γ.ty 101).bytes = 752:=rfl
set_option maxRecDepth 10000 in theorem by102:(Γ.ty 102).bytes = 752:=rfl
set_option maxRecDepth 10000 in theorem by103:(Γ.ty 103).bytes = 4:=rfl
set_option maxRecDepth 10000 in theorem by104:(Γ.ty 104).bytes = 240:=rfl
set_option maxRecDepth 10000 in theorem by108:(Γ.ty 108).bytes = 4:=rfl
set_option maxRecDepth 10000 in theorem by109:(Γ.ty 109).bytes = 32:=rfl
set_option maxRecDepth 10000 in theorem by110:(Γ.ty 110).bytes = 64:=rfl
set_option maxRecDepth 10000 in theorem by111:(Γ.ty 111).bytes = 64:=rfl
set_option maxRecDepth 10000 in theorem by113:(Γ.ty 113).bytes = 8:=rfl
set_option maxRecDepth 10000 in theorem by116:(Γ.ty 116).bytes = 32:=rfl
set_option maxRecDepth 10000 in theorem by117:(Γ.ty 117).bytes = 128:=rfl
set_option maxRecDepth 10000 in theorem by125:(Γ.ty 125).bytes = 256:=rfl
set_option maxRecDepth 10000 in theorem by127:(Γ.ty 127).bytes = 24:=rfl
set_option maxRecDepth 10000 in theorem by129:(Γ.ty 129).bytes = 24:=rfl
set_option maxRecDepth 10000 in theorem by133:(Γ.ty 133).bytes = 40:=rfl
set_option maxRecDepth 10000 in theorem by134:(Γ.ty 134).bytes = 40:=rfl
set_option maxRecDepth 10000 in theorem by139:(Γ.ty 139).bytes = 1:=rfl
set_option maxRecDepth 10000 in theorem by140:(Γ.ty 140).bytes = 1:=rfl
set_option maxRecDepth 10000 in theorem by142:(Γ.ty 142).bytes = 8:=rfl
set_option maxRecDepth 10000 in theorem by143:(Γ.ty 143).bytes = 4:=rfl
set_option maxRecDepth 10000 in theorem by144:(Γ.ty 144).bytes = 4:=rfl
set_option maxRecDepth 10000 in theorem by145:(Γ.ty 145).bytes = 48:=rfl
set_option maxRecDepth 10000 in theorem by146:(Γ.ty 146).bytes = 48:=rfl
set_option maxRecDepth 10000 in theorem by150:(Γ.ty 150).bytes = 24:=rfl
theorem sd {ps:List Prop} {K:Prop} (k:K) (h:AllP ps:=by repeat' (first | (show AllP _;first | exact trivial | refine AllP.app ?_ ?_ | refine AllP.appd ?_ ?_ | refine AllP.cons ?_ ?_) | with_reducible rfl | with_reducible assumption | omega | (simp only [rng,Ix.val,addQ_eq,addI,sz2,by2,sz3,by3,sz4,by4,sz5,by5,sz6,by6,sz7,by7,sz8,by8,sz9,by9,sz10,by10,sz11,by11,sz12,by12,sz13,by13,sz14,by14,sz15,by15,sz16,by16,sz17,by17,sz18,by18,sz19,by19,sz21,by21,sz22,by22,sz23,by23,sz25,by25,sz26,by26,sz27,by27,sz31,by31,sz32,by32,sz33,by33,sz40,by40,sz42,by42,sz51,by51,sz65,by65,sz66,by66,sz67,by67,sz68,by68,sz70,by70,sz71,by71,sz72,by72,sz73,by73,sz75,by75,sz79,by79,sz80,by80,sz84,by84,sz85,by85,sz86,by86,sz87,by87,sz88,by88,sz91,by91,sz92,by92,sz95,by95,sz98,by98,sz99,by99,sz100,by100,sz101,by101,sz102,by102,sz103,by103,sz104,by104,sz108,by108,sz109,by109,sz110,by110,sz111,by111,sz113,by113,sz116,by116,sz117,by117,sz125,by125,sz127,by127,sz129,by129,sz133,by133,sz134,by134,sz139,by139,sz140,by140,sz142,by142,sz143,by143,sz144,by144,sz145,by145,sz146,by146,sz150,by150] <;> omega) | (simp only [rng,Ix.val,Int.toNat_natCast,mulE_eq,addQ_eq,addI,Option.getD_none,Option.getD_some,List.length_take,List.length_drop,List.length_append,List.length_set,List.length_replicate,sz2,by2,sz3,by3,sz4,by4,sz5,by5,sz6,by6,sz7,by7,sz8,by8,sz9,by9,sz10,by10,sz11,by11,sz12,by12,sz13,by13,sz14,by14,sz15,by15,sz16,by16,sz17,by17,sz18,by18,sz19,by19,sz21,by21,sz22,by22,sz23,by23,sz25,by25,sz26,by26,sz27,by27,sz31,by31,sz32,by32,sz33,by33,sz40,by40,sz42,by42,sz51,by51,sz65,by65,sz66,by66,sz67,by67,sz68,by68,sz70,by70,sz71,by71,sz72,by72,sz73,by73,sz75,by75,sz79,by79,sz80,by80,sz84,by84,sz85,by85,sz86,by86,sz87,by87,sz88,by88,sz91,by91,sz92,by92,sz95,by95,sz98,by98,sz99,by99,sz100,by100,sz101,by101,sz102,by102,sz103,by103,sz104,by104,sz108,by108,sz109,by109,sz110,by110,sz111,by111,sz113,by113,sz116,by116,sz117,by117,sz125,by125,sz127,by127,sz129,by129,sz133,by133,sz134,by134,sz139,by139,sz140,by140,sz142,by142,sz143,by143,sz144,by144,sz145,by145,sz146,by146,sz150,by150, *] <;> omega) | (simp only [Ix.val];with_reducible assumption) | exact UInt8.toNat_lt _ | (apply Eq.trans;(with_reducible assumption);exact rfl) | exact rfl | exact fun _ _=>rfl)):Side ps K:=Side.intro h k
theorem sdn {ps:List Prop} {K:Prop} (k:K) (h:AllP ps:=by repeat' (first | (show AllP _;first | exact trivial | refine AllP.app ?_ ?_ | refine AllP.appd ?_ ?_ | refine AllP.cons ?_ ?_) | with_reducible rfl | with_reducible assumption | omega | (simp only [Nat.zero_add,Int.toNat_natCast,rng,Ix.val,addQ_eq,addI,sz2,by2,sz3,by3,sz4,by4,sz5,by5,sz6,by6,sz7,by7,sz8,by8,sz9,by9,sz10,by10,sz11,by11,sz12,by12,sz13,by13,sz14,by14,sz15,by15,sz16,by16,sz17,by17,sz18,by18,sz19,by19,sz21,by21,sz22,by22,sz23,by23,sz25,by25,sz26,by26,sz27,by27,sz31,by31,sz32,by32,sz33,by33,sz40,by40,sz42,by42,sz51,by51,sz65,by65,sz66,by66,sz67,by67,sz68,by68,sz70,by70,sz71,by71,sz72,by72,sz73,by73,sz75,by75,sz79,by79,sz80,by80,sz84,by84,sz85,by85,sz86,by86,sz87,by87,sz88,by88,sz91,by91,sz92,by92,sz95,by95,sz98,by98,sz99,by99,sz100,by100,sz101,by101,sz102,by102,sz103,by103,sz104,by104,sz108,by108,sz109,by109,sz110,by110,sz111,by111,sz113,by113,sz116,by116,sz117,by117,sz125,by125,sz127,by127,sz129,by129,sz133,by133,sz134,by134,sz139,by139,sz140,by140,sz142,by142,sz143,by143,sz144,by144,sz145,by145,sz146,by146,sz150,by150] <;> omega) | (simp only [Nat.zero_add,Int.toNat_natCast,rng,Ix.val,Int.toNat_natCast,mulE_eq,addQ_eq,addI,Option.getD_none,Option.getD_some,List.length_take,List.length_drop,List.length_append,List.length_set,List.length_replicate,sz2,by2,sz3,by3,sz4,by4,sz5,by5,sz6,by6,sz7,by7,sz8,by8,sz9,by9,sz10,by10,sz11,by11,sz12,by12,sz13,by13,sz14,by14,sz15,by15,sz16,by16,sz17,by17,sz18,by18,sz19,by19,sz21,by21,sz22,by22,sz23,by23,sz25,by25,sz26,by26,sz27,by27,sz31,by31,sz32,by32,sz33,by33,sz40,by40,sz42,by42,sz51,by51,sz65,by65,sz66,by66,sz67,by67,sz68,by68,sz70,by70,sz71,by71,sz72,by72,sz73,by73,sz75,by75,sz79,by79,sz80,by80,sz84,by84,sz85,by85,sz86,by86,sz87,by87,sz88,by88,sz91,by91,sz92,by92,sz95,by95,sz98,by98,sz99,by99,sz100,by100,sz101,by101,sz102,by102,sz103,by103,sz104,by104,sz108,by108,sz109,by109,sz110,by110,sz111,by111,sz113,by113,sz116,by116,sz117,by117,sz125,by125,sz127,by127,sz129,by129,sz133,by133,sz134,by134,sz139,by139,sz140,by140,sz142,by142,sz143,by143,sz144,by144,sz145,by145,sz146,by146,sz150,by150, *] <;> omega) | (simp only [Ix.val];with_reducible assumption) | exact UInt8.toNat_lt _ | (apply Eq.trans;(with_reducible assumption);exact rfl) | exact rfl | exact fun _ _=>rfl)):Side ps K:=Side.intro h k
theorem fc {p:Prop} (h:p:=by repeat' (first | (show AllP _;first | exact trivial | refine AllP.app ?_ ?_ | refine AllP.appd ?_ ?_ | refine AllP.cons ?_ ?_) | with_reducible rfl | with_reducible assumption | omega | (simp only [rng,Ix.val,addQ_eq,addI,sz2,by2,sz3,by3,sz4,by4,sz5,by5,sz6,by6,sz7,by7,sz8,by8,sz9,by9,sz10,by10,sz11,by11,sz12,by12,sz13,by13,sz14,by14,sz15,by15,sz16,by16,sz17,by17,sz18,by18,sz19,by19,sz21,by21,sz22,by22,sz23,by23,sz25,by25,sz26,by26,sz27,by27,sz31,by31,sz32,by32,sz33,by33,sz40,by40,sz42,by42,sz51,by51,sz65,by65,sz66,by66,sz67,by67,sz68,by68,sz70,by70,sz71,by71,sz72,by72,sz73,by73,sz75,by75,sz79,by79,sz80,by80,sz84,by84,sz85,by85,sz86,by86,sz87,by87,sz88,by88,sz91,by91,sz92,by92,sz95,by95,sz98,by98,sz99,by99,sz100,by100,sz101,by101,sz102,by102,sz103,by103,sz104,by104,sz108,by108,sz109,by109,sz110,by110,sz111,by111,sz113,by113,sz116,by116,sz117,by117,sz125,by125,sz127,by127,sz129,by129,sz133,by133,sz134,by134,sz139,by139,sz140,by140,sz142,by142,sz143,by143,sz144,by144,sz145,by145,sz146,by146,sz150,by150] <;> omega) | (simp only [rng,Ix.val,Int.toNat_natCast,mulE_eq,addQ_eq,addI,Option.getD_none,Option.getD_some,List.length_take,List.length_drop,List.length_append,List.length_set,List.length_replicate,sz2,by2,sz3,by3,sz4,by4,sz5,by5,sz6,by6,sz7,by7,sz8,by8,sz9,by9,sz10,by10,sz11,by11,sz12,by12,sz13,by13,sz14,by14,sz15,by15,sz16,by16,sz17,by17,sz18,by18,sz19,by19,sz21,by21,sz22,by22,sz23,by23,sz25,by25,sz26,by26,sz27,by27,sz31,by31,sz32,by32,sz33,by33,sz40,by40,sz42,by42,sz51,by51,sz65,by65,sz66,by66,sz67,by67,sz68,by68,sz70,by70,sz71,by71,sz72,by72,sz73,by73,sz75,by75,sz79,by79,sz80,by80,sz84,by84,sz85,by85,sz86,by86,sz87,by87,sz88,by88,sz91,by91,sz92,by92,sz95,by95,sz98,by98,sz99,by99,sz100,by100,sz101,by101,sz102,by102,sz103,by103,sz104,by104,sz108,by108,sz109,by109,sz110,by110,sz111,by111,sz113,by113,sz116,by116,sz117,by117,sz125,by125,sz127,by127,sz129,by129,sz133,by133,sz134,by134,sz139,by139,sz140,by140,sz142,by142,sz143,by143,sz144,by144,sz145,by145,sz146,by146,sz150,by150, *] <;> omega) | (simp only [Ix.val];with_reducible assumption) | exact UInt8.toNat_lt _ | (apply Eq.trans;(with_reducible assumption);exact rfl) | exact rfl | exact fun _ _=>rfl)):p:=h
theorem fcn {p:Prop} (h:p:=by repeat' (first | (show AllP _;first | exact trivial | refine AllP.app ?_ ?_ | refine AllP.appd ?_ ?_ | refine AllP.cons ?_ ?_) | with_reducible rfl | with_reducible assumption | omega | (simp only [Nat.zero_add,Int.toNat_natCast,rng,Ix.val,addQ_eq,addI,sz2,by2,sz3,by3,sz4,by4,sz5,by5,sz6,by6,sz7,by7,sz8,by8,sz9,by9,sz10,by10,sz11,by11,sz12,by12,sz13,by13,sz14,by14,sz15,by15,sz16,by16,sz17,by17,sz18,by18,sz19,by19,sz21,by21,sz22,by22,sz23,by23,sz25,by25,sz26,by26,sz27,by27,sz31,by31,sz32,by32,sz33,by33,sz40,by40,sz42,by42,sz51,by51,sz65,by65,sz66,by66,sz67,by67,sz68,by68,sz70,by70,sz71,by71,sz72,by72,sz73,by73,sz75,by75,sz79,by79,sz80,by80,sz84,by84,sz85,by85,sz86,by86,sz87,by87,sz88,by88,sz91,by91,sz92,by92,sz95,by95,sz98,by98,sz99,by99,sz100,by100,sz101,by101,sz102,by102,sz103,by103,sz104,by104,sz108,by108,sz109,by109,sz110,by110,sz111,by111,sz113,by113,sz116,by116,sz117,by117,sz125,by125,sz127,by127,sz129,by129,sz133,by133,sz134,by134,sz139,by139,sz140,by140,sz142,by142,sz143,by143,sz144,by144,sz145,by145,sz146,by146,sz150,by150] <;> omega) | (simp only [Nat.zero_add,Int.toNat_natCast,rng,Ix.val,Int.toNat_natCast,mulE_eq,addQ_eq,addI,Option.getD_none,Option.getD_some,List.length_take,List.length_drop,List.length_append,List.length_set,List.length_replicate,sz2,by2,sz3,by3,sz4,by4,sz5,by5,sz6,by6,sz7,by7,sz8,by8,sz9,by9,sz10,by10,sz11,by11,sz12,by12,sz13,by13,sz14,by14,sz15,by15,sz16,by16,sz17,by17,sz18,by18,sz19,by19,sz21,by21,sz22,by22,sz23,by23,sz25,by25,sz26,by26,sz27,by27,sz31,by31,sz32,by32,sz33,by33,sz40,by40,sz42,by42,sz51,by51,sz65,by65,sz66,by66,sz67,by67,sz68,by68,sz70,by70,sz71,by71,sz72,by72,sz73,by73,sz75,by75,sz79,by79,sz80,by80,sz84,by84,sz85,by85,sz86,by86,sz87,by87,sz88,by88,sz91,by91,sz92,by92,sz95,by95,sz98,by98,sz99,by99,sz100,by100,sz101,by101,sz102,by102,sz103,by103,sz104,by104,sz108,by108,sz109,by109,sz110,by110,sz111,by111,sz113,by113,sz116,by116,sz117,by117,sz125,by125,sz127,by127,sz129,by129,sz133,by133,sz134,by134,sz139,by139,sz140,by140,sz142,by142,sz143,by143,sz144,by144,sz145,by145,sz146,by146,sz150,by150, *] <;> omega) | (simp only [Ix.val];with_reducible assumption) | exact UInt8.toNat_lt _ | (apply Eq.trans;(with_reducible assumption);exact rfl) | exact rfl | exact fun _ _=>rfl)):p:=h
end Go.Proofs.Ytlbmkjckbfeejaa
