/- What the functions of the program compute. No condition. -/
import Derived.Test.YtpkllkbmoodniaaHx7
import Derived.Test.YtpkllkbmoodniaaProg
import Derived.KernelRfl
set_option linter.unusedSimpArgs false
set_option linter.unusedVariables false
namespace Go.Proofs.Ytpkllkbmoodniaa
open Go Go.Sx
set_option maxRecDepth 100000 in
def tys:List Ty:=[
 badTy,
 badTy,
 ⟨.int .i64,1,8,[(1,.i .i64 0)],false⟩,
 ⟨.int .i64,1,8,[(1,.i .i64 0)],false⟩,
 ⟨.bool,1,1,[(1,.ff)],false⟩,
 ⟨.int .u8,1,1,[(1,.u8 0)],false⟩,
 ⟨.int .u8,1,1,[(1,.u8 0)],false⟩,
 ⟨.struct [(0,2),(1,3),(2,4),(3,6)],4,24,[(1,.i .i64 0),(1,.i .i64 0),(1,.ff),(1,.u8 0)],true⟩,
 ⟨.struct [(0,2),(1,3),(2,4),(3,6)],4,24,[(1,.i .i64 0),(1,.i .i64 0),(1,.ff),(1,.u8 0)],true⟩,
 ⟨.string,1,16,[(1,.str [])],false⟩,
 ⟨.string,1,16,[(1,.str [])],false⟩,
 ⟨.string,1,16,[(1,.str [])],false⟩,
 ⟨.int .u64,1,8,[(1,.u64 0)],false⟩,
 ⟨.struct [(0,9),(1,12)],2,24,[(1,.str []),(1,.u64 0)],false⟩,
 ⟨.struct [(0,9),(1,12)],2,24,[(1,.str []),(1,.u64 0)],false⟩,
 ⟨.pointer 233,1,8,[(1,.nilp)],false⟩,
 ⟨.pointer 236,1,8,[(1,.nilp)],false⟩,
 ⟨.pointer 245,1,8,[(1,.nilp)],false⟩,
 ⟨.struct [(0,17)],1,8,[(1,.nilp)],false⟩,
 ⟨.struct [(0,17)],1,8,[(1,.nilp)],false⟩,
 badTy,
 ⟨.int .i32,1,4,[(1,.i .i32 0)],false⟩,
 ⟨.slice 5,1,24,[(1,.nsl)],false⟩,
 ⟨.array 32 5,32,32,[(32,.a8 (List.replicate 32 0))],false⟩,
 ⟨.array 32 5,32,32,[(32,.a8 (List.replicate 32 0))],false⟩,
 ⟨.int .u16,1,2,[(1,.u16 0)],false⟩,
 ⟨.struct [(0,24),(32,4),(33,24),(65,24),(97,24),(129,25),(130,24),(162,25),(163,25)],164,168,[(32,.a8 (List.replicate 32 0)),(1,.ff),(32,.a8 (List.replicate 32 0)),(32,.a8 (List.replicate 32 0)),(32,.a8 (List.replicate 32 0)),(1,.u16 0),(32,.a8 (List.replicate 32 0)),(1,.u16 0),(1,.u16 0)],true⟩,
 ⟨.struct [(0,24),(32,4),(33,24),(65,24),(97,24),(129,25),(130,24),(162,25),(163,25)],164,168,[(32,.a8 (List.replicate 32 0)),(1,.ff),(32,.a8 (List.replicate 32 0)),(32,.a8 (List.replicate 32 0)),(32,.a8 (List.replicate 32 0)),(1,.u16 0),(32,.a8 (List.replicate 32 0)),(1,.u16 0),(1,.u16 0)],true⟩,
 badTy,
 ⟨.pointer 104,1,8,[(1,.nilp)],false⟩,
 ⟨.struct [(0,29)],1,8,[(1,.nilp)],false⟩,
 ⟨.struct [(0,29)],1,8,[(1,.nilp)],false⟩,
 badTy,
 ⟨.struct [(0,24),(32,25)],33,34,[(32,.a8 (List.replicate 32 0)),(1,.u16 0)],true⟩,
 ⟨.struct [(0,24),(32,25)],33,34,[(32,.a8 (List.replicate 32 0)),(1,.u16 0)],true⟩,
 ⟨.slice 89,1,24,[(1,.nsl)],false⟩,
 ⟨.struct [(0,24),(32,24),(64,24),(96,4),(97,34),(130,25),(131,24),(163,4),(164,34),(197,4),(198,24),(230,24),(262,24),(294,25),(295,35)],296,328,[(32,.a8 (List.replicate 32 0)),(32,.a8 (List.replicate 32 0)),(32,.a8 (List.replicate 32 0)),(1,.ff),(32,.a8 (List.replicate 32 0)),(1,.u16 0),(1,.u16 0),(32,.a8 (List.replicate 32 0)),(1,.ff),(32,.a8 (List.replicate 32 0)),(1,.u16 0),(1,.ff),(32,.a8 (List.replicate 32 0)),(32,.a8 (List.replicate 32 0)),(32,.a8 (List.replicate 32 0)),(1,.u16 0),(1,.nsl)],false⟩,
 ⟨.struct [(0,24),(32,24),(64,24),(96,4),(97,34),(130,25),(131,24),(163,4),(164,34),(197,4),(198,24),(230,24),(262,24),(294,25),(295,35)],296,328,[(32,.a8 (List.replicate 32 0)),(32,.a8 (List.replicate 32 0)),(32,.a8 (List.replicate 32 0)),(1,.ff),(32,.a8 (List.replicate 32 0)),(1,.u16 0),(1,.u16 0),(32,.a8 (List.replicate 32 0)),(1,.ff),(32,.a8 (List.replicate 32 0)),(1,.u16 0),(1,.ff),(32,.a8 (List.replicate 32 0)),(32,.a8 (List.replicate 32 0)),(32,.a8 (List.replicate 32 0)),(1,.u16 0),(1,.nsl)],false⟩,
 badTy,
 badTy,
 ⟨.int .i64,1,8,[(1,.i .i64 0)],false⟩,
 badTy,
 badTy,
 badTy,
 badTy,
 badTy,
 ⟨.int .u64,1,8,[(1,.u64 0)],false⟩,
 badTy,
 badTy,
 badTy,
 badTy,
 badTy,
 ⟨.array 64 5,64,64,[(64,.a8 (List.replicate 64 0))],false⟩,
 ⟨.array 64 5,64,64,[(64,.a8 (List.replicate 64 0))],false⟩,
 badTy,
 badTy,
 badTy,
 badTy,
 badTy,
 badTy,
 badTy,
 badTy,
 badTy,
 badTy,
 badTy,
 badTy,
 badTy,
 badTy,
 badTy,
 badTy,
 badTy,
 badTy,
 badTy,
 badTy,
 badTy,
 ⟨.array 16 5,16,16,[(16,.a8 (List.replicate 16 0))],false⟩,
 badTy,
 badTy,
 badTy,
 badTy,
 ⟨.slice 22,1,24,[(1,.nsl)],false⟩,
 badTy,
 badTy,
 badTy,
 badTy,
 badTy,
 badTy,
 badTy,
 ⟨.struct [(0,24),(32,25),(33,24)],65,66,[(32,.a8 (List.replicate 32 0)),(1,.u16 0),(32,.a8 (List.replicate 32 0))],true⟩,
 ⟨.struct [(0,24),(32,25),(33,24)],65,66,[(32,.a8 (List.replicate 32 0)),(1,.u16 0),(32,.a8 (List.replicate 32 0))],true⟩,
 badTy,
 badTy,
 badTy,
 badTy,
 badTy,
 badTy,
 ⟨.pointer 98,1,8,[(1,.nilp)],false⟩,
 ⟨.struct [(0,80),(1,4)],2,32,[(1,.nsl),(1,.ff)],false⟩,
 ⟨.struct [(0,80),(1,4)],2,32,[(1,.nsl),(1,.ff)],false⟩,
 badTy,
 badTy,
 ⟨.map 9 3,1,8,[(1,.nilmp)],false⟩,
 ⟨.slice 127,1,24,[(1,.nsl)],false⟩,
 ⟨.struct [(0,102),(1,101)],2,32,[(1,.nsl),(1,.nilmp)],false⟩,
 ⟨.struct [(0,102),(1,101)],2,32,[(1,.nsl),(1,.nilmp)],false⟩,
 badTy,
 badTy,
 badTy,
 ⟨.pointer 37,1,8,[(1,.nilp)],false⟩,
 badTy,
 badTy,
 badTy,
 ⟨.pointer 114,1,8,[(1,.nilp)],false⟩,
 ⟨.struct [(0,80),(1,4)],2,32,[(1,.nsl),(1,.ff)],false⟩,
 ⟨.struct [(0,80),(1,4)],2,32,[(1,.nsl),(1,.ff)],false⟩,
 ⟨.int .u64,1,8,[(1,.u64 0)],false⟩,
 badTy,
 badTy,
 badTy,
 badTy,
 badTy,
 badTy,
 badTy,
 badTy,
 badTy,
 ⟨.slice 128,1,24,[(1,.nsl)],false⟩,
 ⟨.struct [(0,3),(1,80),(2,125)],3,56,[(1,.i .i64 0),(1,.nsl),(1,.nsl)],false⟩,
 ⟨.struct [(0,3),(1,80),(2,125)],3,56,[(1,.i .i64 0),(1,.nsl),(1,.nsl)],false⟩,
 ⟨.slice 3,1,24,[(1,.nsl)],false⟩,
 badTy,
 badTy,
 ⟨.pointer 181,1,8,[(1,.nilp)],false⟩,
 badTy,
 badTy,
 badTy,
 ⟨.pointer 190,1,8,[(1,.nilp)],false⟩,
 badTy,
 badTy,
 badTy,
 badTy,
 ⟨.struct [(0,23),(32,22)],33,56,[(32,.a8 (List.replicate 32 0)),(1,.nsl)],false⟩,
 ⟨.struct [(0,23),(32,22)],33,56,[(32,.a8 (List.replicate 32 0)),(1,.nsl)],false⟩,
 badTy,
 badTy,
 badTy,
 ⟨.array 5 115,5,40,[(5,.a64 (List.replicate 5 0))],false⟩,
 ⟨.struct [(0,145)],5,40,[(5,.a64 (List.replicate 5 0))],true⟩,
 ⟨.struct [(0,145)],5,40,[(5,.a64 (List.replicate 5 0))],true⟩,
 ⟨.struct [(0,147),(5,147),(10,147),(15,147),(20,4)],21,168,[(5,.a64 (List.replicate 5 0)),(5,.a64 (List.replicate 5 0)),(5,.a64 (List.replicate 5 0)),(5,.a64 (List.replicate 5 0)),(1,.ff)],false⟩,
 ⟨.struct [(0,147),(5,147),(10,147),(15,147),(20,4)],21,168,[(5,.a64 (List.replicate 5 0)),(5,.a64 (List.replicate 5 0)),(5,.a64 (List.replicate 5 0)),(5,.a64 (List.replicate 5 0)),(1,.ff)],false⟩,
 badTy,
 badTy,
 badTy,
 badTy,
 badTy,
 badTy,
 badTy,
 badTy,
 badTy,
 badTy,
 badTy,
 badTy,
 badTy,
 badTy,
 badTy,
 ⟨.struct [(0,147),(5,147)],10,80,[(5,.a64 (List.replicate 5 0)),(5,.a64 (List.replicate 5 0))],false⟩,
 ⟨.struct [(0,147),(5,147)],10,80,[(5,.a64 (List.replicate 5 0)),(5,.a64 (List.replicate 5 0))],false⟩,
 badTy,
 badTy,
 badTy,
 badTy,
 badTy,
 badTy,
 badTy,
 badTy,
 badTy,
 badTy,
 badTy,
 ⟨.array 256 5,256,256,[(256,.a8 (List.replicate 256 0))],false⟩,
 ⟨.array 15 75,240,240,[(240,.a8 (List.replicate 240 0))],false⟩,
 ⟨.struct [(0,178),(256,178),(512,179)],752,752,[(256,.a8 (List.replicate 256 0)),(256,.a8 (List.replicate 256 0)),(240,.a8 (List.replicate 240 0))],false⟩,
 ⟨.struct [(0,178),(256,178),(512,179)],752,752,[(256,.a8 (List.replicate 256 0)),(256,.a8 (List.replicate 256 0)),(240,.a8 (List.replicate 240 0))],false⟩,
 ⟨.array 4 5,4,4,[(4,.a8 (List.replicate 4 0))],false⟩,
 ⟨.array 60 182,240,240,[(240,.a8 (List.replicate 240 0))],false⟩,
 badTy,
 badTy,
 badTy,
 ⟨.int .u32,1,4,[(1,.u32 0)],false⟩,
 ⟨.array 8 187,8,32,[(8,.a32 (List.replicate 8 0))],false⟩,
 ⟨.struct [(0,188),(8,22),(9,115)],10,64,[(8,.a32 (List.replicate 8 0)),(1,.nsl),(1,.u64 0)],false⟩,
 ⟨.struct [(0,188),(8,22),(9,115)],10,64,[(8,.a32 (List.replicate 8 0)),(1,.nsl),(1,.u64 0)],false⟩,
 badTy,
 ⟨.pointer 188,1,8,[(1,.nilp)],false⟩,
 badTy,
 badTy,
 badTy,
 badTy,
 ⟨.array 4 115,4,32,[(4,.a64 (List.replicate 4 0))],false⟩,
 ⟨.array 4 115,4,32,[(4,.a64 (List.replicate 4 0))],false⟩,
 badTy,
 ⟨.array 8 115,8,64,[(8,.a64 (List.replicate 8 0))],false⟩,
 ⟨.slice 115,1,24,[(1,.nsl)],false⟩,
 badTy,
 badTy,
 badTy,
 badTy,
 badTy,
 badTy,
 badTy,
 badTy,
 ⟨.struct [(0,115),(1,115)],2,16,[(1,.u64 0),(1,.u64 0)],true⟩,
 ⟨.struct [(0,115),(1,115)],2,16,[(1,.u64 0),(1,.u64 0)],true⟩,
 ⟨.array 5 211,10,80,[(1,.u64 0),(1,.u64 0),(1,.u64 0),(1,.u64 0),(1,.u64 0),(1,.u64 0),(1,.u64 0),(1,.u64 0),(1,.u64 0),(1,.u64 0)],false⟩,
 badTy,
 badTy,
 badTy,
 badTy,
 ⟨.array 64 187,64,256,[(64,.a32 (List.replicate 64 0))],false⟩,
 badTy,
 badTy,
 ⟨.pointer 200,1,8,[(1,.nilp)],false⟩,
 badTy,
 badTy,
 badTy,
 badTy,
 badTy,
 badTy,
 badTy,
 ⟨.array 80 115,80,640,[(80,.a64 (List.replicate 80 0))],false⟩,
 badTy,
 badTy,
 badTy,
 ⟨.struct [(0,17),(1,17),(2,17),(3,9)],4,40,[(1,.nilp),(1,.nilp),(1,.nilp),(1,.str [])],false⟩,
 ⟨.struct [(0,17),(1,17),(2,17),(3,9)],4,40,[(1,.nilp),(1,.nilp),(1,.nilp),(1,.str [])],false⟩,
 badTy,
 badTy,
 badTy,
 badTy,
 ⟨.int .u8,1,1,[(1,.u8 0)],false⟩,
 ⟨.int .u8,1,1,[(1,.u8 0)],false⟩,
 badTy,
 ⟨.pointer 5,1,8,[(1,.nilp)],false⟩,
 ⟨.int .i32,1,4,[(1,.i .i32 0)],false⟩,
 ⟨.int .i32,1,4,[(1,.i .i32 0)],false⟩,
 ⟨.struct [(0,12),(1,12),(2,187),(3,238),(4,5),(5,5),(6,239),(7,240),(8,241),(9,242),(10,243)],11,48,[(1,.u64 0),(1,.u64 0),(1,.u32 0),(1,.u8 0),(1,.u8 0),(1,.u8 0),(1,.u8 0),(1,.raw .nilFunc),(1,.nilp),(1,.i .i32 0),(1,.i .i32 0)],false⟩,
 ⟨.struct [(0,12),(1,12),(2,187),(3,238),(4,5),(5,5),(6,239),(7,240),(8,241),(9,242),(10,243)],11,48,[(1,.u64 0),(1,.u64 0),(1,.u32 0),(1,.u8 0),(1,.u8 0),(1,.u8 0),(1,.u8 0),(1,.raw .nilFunc),(1,.nilp),(1,.i .i32 0),(1,.i .i32 0)],false⟩]
set_option maxRecDepth 100000 in
noncomputable def cx:Ctx where
 P:=Try.prog
 tys:=tys
 chk:=by kernel_rfl
 mixed:=by kernel_rfl
set_option maxRecDepth 100000 in
noncomputable def Γ:Cfg where
 toCtx:=cx
 calls:=[6,7,8,9,10,11,12,13,16,17,18,19,20,21,22,23,24,25,26,27,29,30,31,32,33,34,35,36,37,39,43,49,50,51,52,53,54,55,56,57,58,59,61,62,63,64,65,66,67,68,69,70,71,79,91,92,93,94,95,96,102,103,104,105,111]
 callsOK:=by kernel_rfl
set_option maxRecDepth 10000 in theorem sz3:(Γ.ty 3).size = 1:=rfl
set_option maxRecDepth 10000 in theorem sz4:(Γ.ty 4).size = 1:=rfl
set_option maxRecDepth 10000 in theorem sz5:(Γ.ty 5).size = 1:=rfl
set_option maxRecDepth 10000 in theorem sz9:(Γ.ty 9).size = 1:=rfl
set_option maxRecDepth 10000 in theorem sz22:(Γ.ty 22).size = 1:=rfl
set_option maxRecDepth 10000 in theorem sz23:(Γ.ty 23).size = 32:=rfl
set_option maxRecDepth 10000 in theorem sz24:(Γ.ty 24).size = 32:=rfl
set_option maxRecDepth 10000 in theorem sz25:(Γ.ty 25).size = 1:=rfl
set_option maxRecDepth 10000 in theorem sz26:(Γ.ty 26).size = 164:=rfl
set_option maxRecDepth 10000 in theorem sz27:(Γ.ty 27).size = 164:=rfl
set_option maxRecDepth 10000 in theorem sz29:(Γ.ty 29).size = 1:=rfl
set_option maxRecDepth 10000 in theorem sz30:(Γ.ty 30).size = 1:=rfl
set_option maxRecDepth 10000 in theorem sz31:(Γ.ty 31).size = 1:=rfl
set_option maxRecDepth 10000 in theorem sz33:(Γ.ty 33).size = 33:=rfl
set_option maxRecDepth 10000 in theorem sz34:(Γ.ty 34).size = 33:=rfl
set_option maxRecDepth 10000 in theorem sz35:(Γ.ty 35).size = 1:=rfl
set_option maxRecDepth 10000 in theorem sz36:(Γ.ty 36).size = 296:=rfl
set_option maxRecDepth 10000 in theorem sz37:(Γ.ty 37).size = 296:=rfl
set_option maxRecDepth 10000 in theorem sz52:(Γ.ty 52).size = 64:=rfl
set_option maxRecDepth 10000 in theorem sz53:(Γ.ty 53).size = 64:=rfl
set_option maxRecDepth 10000 in theorem sz75:(Γ.ty 75).size = 16:=rfl
set_option maxRecDepth 10000 in theorem sz80:(Γ.ty 80).size = 1:=rfl
set_option maxRecDepth 10000 in theorem sz88:(Γ.ty 88).size = 65:=rfl
set_option maxRecDepth 10000 in theorem sz89:(Γ.ty 89).size = 65:=rfl
set_option maxRecDepth 10000 in theorem sz96:(Γ.ty 96).size = 1:=rfl
set_option maxRecDepth 10000 in theorem sz97:(Γ.ty 97).size = 2:=rfl
set_option maxRecDepth 10000 in theorem sz98:(Γ.ty 98).size = 2:=rfl
set_option maxRecDepth 10000 in theorem sz101:(Γ.ty 101).size = 1:=rfl
set_option maxRecDepth 10000 in theorem sz102:(Γ.ty 102).size = 1:=rfl
set_option maxRecDepth 10000 in theorem sz103:(Γ.ty 103).size = 2:=rfl
set_option maxRecDepth 10000 in theorem sz104:(Γ.ty 104).size = 2:=rfl
set_option maxRecDepth 10000 in theorem sz108:(Γ.ty 108).size = 1:=rfl
set_option maxRecDepth 10000 in theorem sz112:(Γ.ty 112).size = 1:=rfl
set_option maxRecDepth 10000 in theorem sz113:(Γ.ty 113).size = 2:=rfl
set_option maxRecDepth 10000 in theorem sz114:(Γ.ty 114).size = 2:=rfl
set_option maxRecDepth 10000 in theorem sz115:(Γ.ty 115).size = 1:=rfl
set_option maxRecDepth 10000 in theorem sz125:(Γ.ty 125).size = 1:=rfl
set_option maxRecDepth 10000 in theorem sz126:(Γ.ty 126).size = 3:=rfl
set_option maxRecDepth 10000 in theorem sz127:(Γ.ty 127).size = 3:=rfl
set_option maxRecDepth 10000 in theorem sz128:(Γ.ty 128).size = 1:=rfl
set_option maxRecDepth 10000 in theorem by3:(Γ.ty 3).bytes = 8:=rfl
set_option maxRecDepth 10000 in theorem by4:(Γ.ty 4).bytes = 1:=rfl
set_option maxRecDepth 10000 in theorem by5:(Γ.ty 5).bytes = 1:=rfl
set_option maxRecDepth 10000 in theorem by9:(Γ.ty 9).bytes = 16:=rfl
set_option maxRecDepth 10000 in theorem by22:(Γ.ty 22).bytes = 24:=rfl
set_option maxRecDepth 10000 in theorem by23:(Γ.ty 23).bytes = 32:=rfl
set_option maxRecDepth 10000 in theorem by24:(Γ.ty 24).bytes = 32:=rfl
set_option maxRecDepth 10000 in theorem by25:(Γ.ty 25).bytes = 2:=rfl
set_option maxRecDepth 10000 in theorem by26:(Γ.ty 26).bytes = 168:=rfl
set_option maxRecDepth 10000 in theorem by27:(Γ.ty 27).bytes = 168:=rfl
set_option maxRecDepth 10000 in theorem by29:(Γ.ty 29).bytes = 8:=rfl
set_option maxRecDepth 10000 in theorem by30:(Γ.ty 30).bytes = 8:=rfl
set_option maxRecDepth 10000 in theorem by31:(Γ.ty 31).bytes = 8:=rfl
set_option maxRecDepth 10000 in theorem by33:(Γ.ty 33).bytes = 34:=rfl
set_option maxRecDepth 10000 in theorem by34:(Γ.ty 34).bytes = 34:=rfl
set_option maxRecDepth 10000 in theorem by35:(Γ.ty 35).bytes = 24:=rfl
set_option maxRecDepth 10000 in theorem by36:(Γ.ty 36).bytes = 328:=rfl
set_option maxRecDepth 10000 in theorem by37:(Γ.ty 37).bytes = 328:=rfl
set_option maxRecDepth 10000 in theorem by52:(Γ.ty 52).bytes = 64:=rfl
set_option maxRecDepth 10000 in theorem by53:(Γ.ty 53).bytes = 64:=rfl
set_option maxRecDepth 10000 in theorem by75:(Γ.ty 75).bytes = 16:=rfl
set_option maxRecDepth 10000 in theorem by80:(Γ.ty 80).bytes = 24:=rfl
set_option maxRecDepth 10000 in theorem by88:(Γ.ty 88).bytes = 66:=rfl
set_option maxRecDepth 10000 in theorem by89:(Γ.ty 89).bytes = 66:=rfl
set_option maxRecDepth 10000 in theorem by96:(Γ.ty 96).bytes = 8:=rfl
set_option maxRecDepth 10000 in theorem by97:(Γ.ty 97).bytes = 32:=rfl
set_option maxRecDepth 10000 in theorem by98:(Γ.ty 98).bytes = 32:=rfl
set_option maxRecDepth 10000 in theorem by101:(Γ.ty 101).bytes = 8:=rfl
set_option maxRecDepth 10000 in theorem by102:(Γ.ty 102).bytes = 24:=rfl
set_option maxRecDepth 10000 in theorem by103:(Γ.ty 103).bytes = 32:=rfl
set_option maxRecDepth 10000 in theorem by104:(Γ.ty 104).bytes = 32:=rfl
set_option maxRecDepth 10000 in theorem by108:(Γ.ty 108).bytes = 8:=rfl
set_option maxRecDepth 10000 in theorem by112:(Γ.ty 112).bytes = 8:=rfl
set_option maxRecDepth 10000 in theorem by113:(Γ.ty 113).bytes = 32:=rfl
set_option maxRecDepth 10000 in theorem by114:(Γ.ty 114).bytes = 32:=rfl
set_option maxRecDepth 10000 in theorem by115:(Γ.ty 115).bytes = 8:=rfl
set_option maxRecDepth 10000 in theorem by125:(Γ.ty 125).bytes = 24:=rfl
set_option maxRecDepth 10000 in theorem by126:(Γ.ty 126).bytes = 56:=rfl
set_option maxRecDepth 10000 in theorem by127:(Γ.ty 127).bytes = 56:=rfl
set_option maxRecDepth 10000 in theorem by128:(Γ.ty 128).bytes = 24:=rfl
theorem sd {ps:List Prop} {K:Prop} (k:K) (h:AllP ps:=by repeat' (first | (show AllP _;first | exact trivial | refine AllP.app ?_ ?_ | refine AllP.appd ?_ ?_ | refine AllP.cons ?_ ?_) | with_reducible rfl | with_reducible assumption | omega | (simp only [rng,Ix.val,addQ_eq,addI,sz3,by3,sz4,by4,sz5,by5,sz9,by9,sz22,by22,sz23,by23,sz24,by24,sz25,by25,sz26,by26,sz27,by27,sz29,by29,sz30,by30,sz31,by31,sz33,by33,sz34,by34,sz35,by35,sz36,by36,sz37,by37,sz52,by52,sz53,by53,sz75,by75,sz80,by80,sz88,by88,sz89,by89,sz96,by96,sz97,by97,sz98,by98,sz101,by101,sz102,by102,sz103,by103,sz104,by104,sz108,by108,sz112,by112,sz113,by113,sz114,by114,sz115,by115,sz125,by125,sz126,by126,sz127,by127,sz128,by128] <;> omega) | (simp only [rng,Ix.val,Int.toNat_natCast,mulE_eq,addQ_eq,addI,Option.getD_none,Option.getD_some,List.length_take,List.length_drop,List.length_append,List.length_set,List.length_replicate,sz3,by3,sz4,by4,sz5,by5,sz9,by9,sz22,by22,sz23,by23,sz24,by24,sz25,by25,sz26,by26,sz27,by27,sz29,by29,sz30,by30,sz31,by31,sz33,by33,sz34,by34,sz35,by35,sz36,by36,sz37,by37,sz52,by52,sz53,by53,sz75,by75,sz80,by80,sz88,by88,sz89,by89,sz96,by96,sz97,by97,sz98,by98,sz101,by101,sz102,by102,sz103,by103,sz104,by104,sz108,by108,sz112,by112,sz113,by113,sz114,by114,sz115,by115,sz125,by125,sz126,by126,sz127,by127,sz128,by128, *] <;> omega) | (simp only [Ix.val];with_reducible assumption) | exact UInt8.toNat_lt _ | (apply Eq.trans;(with_reducible assumption);exact rfl) | exact rfl | exact fun _ _=>rfl)):Side ps K:=Side.intro h k
theorem sdn {ps:List Prop} {K:Prop} (k:K) (h:AllP ps:=by repeat' (first | (show AllP _;first | exact trivial | refine AllP.app ?_ ?_ | refine AllP.appd ?_ ?_ | refine AllP.cons ?_ ?_) | with_reducible rfl | with_reducible assumption | omega | (simp only [Nat.zero_add,Int.toNat_natCast,rng,Ix.val,addQ_eq,addI,sz3,by3,sz4,by4,sz5,by5,sz9,by9,sz22,by22,sz23,by23,sz24,by24,sz25,by25,sz26,by26,sz27,by27,sz29,by29,sz30,by30,sz31,by31,sz33,by33,sz34,by34,sz35,by35,sz36,by36,sz37,by37,sz52,by52,sz53,by53,sz75,by75,sz80,by80,sz88,by88,sz89,by89,sz96,by96,sz97,by97,sz98,by98,sz101,by101,sz102,by102,sz103,by103,sz104,by104,sz108,by108,sz112,by112,sz113,by113,sz114,by114,sz115,by115,sz125,by125,sz126,by126,sz127,by127,sz128,by128] <;> omega) | (simp only [Nat.zero_add,Int.toNat_natCast,rng,Ix.val,Int.toNat_natCast,mulE_eq,addQ_eq,addI,Option.getD_none,Option.getD_some,List.length_take,List.length_drop,List.length_append,List.length_set,List.length_replicate,sz3,by3,sz4,by4,sz5,by5,sz9,by9,sz22,by22,sz23,by23,sz24,by24,sz25,by25,sz26,by26,sz27,by27,sz29,by29,sz30,by30,sz31,by31,sz33,by33,sz34,by34,sz35,by35,sz36,by36,sz37,by37,sz52,by52,sz53,by53,sz75,by75,sz80,by80,sz88,by88,sz89,by89,sz96,by96,sz97,by97,sz98,by98,sz101,by101,sz102,by102,sz103,by103,sz104,by104,sz108,by108,sz112,by112,sz113,by113,sz114,by114,sz115,by115,sz125,by125,sz126,by126,sz127,by127,sz128,by128, *] <;> omega) | (simp only [Ix.val];with_reducible assumption) | exact UInt8.toNat_lt _ | (apply Eq.trans;(with_reducible assumption);exact rfl) | exact rfl | exact fun _ _=>rfl)):Side ps K:=Side.intro h k
theorem fc {p:Prop} (h:p:=by repeat' (first | (show AllP _;first | exact trivial | refine AllP.app ?_ ?_ | refine AllP.appd ?_ ?_ | refine AllP.cons ?_ ?_) | with_reducible rfl | with_reducible assumption | omega | (simp only [rng,Ix.val,addQ_eq,addI,sz3,by3,sz4,by4,sz5,by5,sz9,by9,sz22,by22,sz23,by23,sz24,by24,sz25,by25,sz26,by26,sz27,by27,sz29,by29,sz30,by30,sz31,by31,sz33,by33,sz34,by34,sz35,by35,sz36,by36,sz37,by37,sz52,by52,sz53,by53,sz75,by75,sz80,by80,sz88,by88,sz89,by89,sz96,by96,sz97,by97,sz98,by98,sz101,by101,sz102,by102,sz103,by103,sz104,by104,sz108,by108,sz112,by112,sz113,by113,sz114,by114,sz115,by115,sz125,by125,sz126,by126,sz127,by127,sz128,by128] <;> omega) | (simp only [rng,Ix.val,Int.toNat_natCast,mulE_eq,addQ_eq,addI,Option.getD_none,Option.getD_some,List.length_take,List.length_drop,List.length_append,List.length_set,List.length_replicate,sz3,by3,sz4,by4,sz5,by5,sz9,by9,sz22,by22,sz23,by23,sz24,by24,sz25,by25,sz26,by26,sz27,by27,sz29,by29,sz30,by30,sz31,by31,sz33,by33,sz34,by34,sz35,by35,sz36,by36,sz37,by37,sz52,by52,sz53,by53,sz75,by75,sz80,by80,sz88,by88,sz89,by89,sz96,by96,sz97,by97,sz98,by98,sz101,by101,sz102,by102,sz103,by103,sz104,by104,sz108,by108,sz112,by112,sz113,by113,sz114,by114,sz115,by115,sz125,by125,sz126,by126,sz127,by127,sz128,by128, *] <;> omega) | (simp only [Ix.val];with_reducible assumption) | exact UInt8.toNat_lt _ | (apply Eq.trans;(with_reducible assumption);exact rfl) | exact rfl | exact fun _ _=>rfl)):p:=h
theorem fcn {p:Prop} (h:p:=by repeat' (first | (show AllP _;first | exact trivial | refine AllP.app ?_ ?_ | refine AllP.appd ?_ ?_ | refine AllP.cons ?_ ?_) | with_reducible rfl | with_reducible assumption | omega | (simp only [Nat.zero_add,Int.toNat_natCast,rng,Ix.val,addQ_eq,addI,sz3,by3,sz4,by4,sz5,by5,sz9,by9,sz22,by22,sz23,by23,sz24,by24,sz25,by25,sz26,by26,sz27,by27,sz29,by29,sz30,by30,sz31,by31,sz33,by33,sz34,by34,sz35,by35,sz36,by36,sz37,by37,sz52,by52,sz53,by53,sz75,by75,sz80,by80,sz88,by88,sz89,by89,sz96,by96,sz97,by97,sz98,by98,sz101,by101,sz102,by102,sz103,by103,sz104,by104,sz108,by108,sz112,by112,sz113,by113,sz114,by114,sz115,by115,sz125,by125,sz126,by126,sz127,by127,sz128,by128] <;> omega) | (simp only [Nat.zero_add,Int.toNat_natCast,rng,Ix.val,Int.toNat_natCast,mulE_eq,addQ_eq,addI,Option.getD_none,Option.getD_some,List.length_take,List.length_drop,List.length_append,List.length_set,List.length_replicate,sz3,by3,sz4,by4,sz5,by5,sz9,by9,sz22,by22,sz23,by23,sz24,by24,sz25,by25,sz26,by26,sz27,by27,sz29,by29,sz30,by30,sz31,by31,sz33,by33,sz34,by34,sz35,by35,sz36,by36,sz37,by37,sz52,by52,sz53,by53,sz75,by75,sz80,by80,sz88,by88,sz89,by89,sz96,by96,sz97,by97,sz98,by98,sz101,by101,sz102,by102,sz103,by103,sz104,by104,sz108,by108,sz112,by112,sz113,by113,sz114,by114,sz115,by115,sz125,by125,sz126,by126,sz127,by127,sz128,by128, *] <;> omega) | (simp only [Ix.val];with_reducible assumption) | exact UInt8.toNat_lt _ | (apply Eq.trans;(with_reducible assumption);exact rfl) | exact rfl | exact fun _ _=>rfl)):p:=h
end Go.Proofs.Ytpkllkbmoodniaa
