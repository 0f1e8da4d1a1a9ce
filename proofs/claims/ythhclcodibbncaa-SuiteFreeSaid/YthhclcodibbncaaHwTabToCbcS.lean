/- What the functions of the program compute. No condition. -/
import Derived.Test.YthhclcodibbncaaHx7
import Derived.Test.YthhclcodibbncaaProg
import Derived.KernelRfl
set_option linter.unusedSimpArgs false
set_option linter.unusedVariables false
set_option maxRecDepth 100000
namespace Go.Proofs.Ythhclcodibbncaa
open Go Go.Sx
def tys:List Ty:=[
 badTy,
 badTy,
 ⟨.int .i64,1,8,[(1,.i .i64 0)],false⟩,
 ⟨.int .i64,1,8,[(1,.i .i64 0)],false⟩,
 ⟨.bool,1,1,[(1,.ff)],false⟩,
 ⟨.int .u8,1,1,[(1,.u8 0)],false⟩,
 ⟨.int .u8,1,1,[(1,.u8 0)],false⟩,
 ⟨.struct [(0,2),(1,3),(2,4),(3,6)],4,24,[(1,.i .i64 0),(1,.i .i64 0),(1,.ff),(1,.u8 0)],true⟩,
 ⟨.struct [(0,2),(1,3),(2,4),(3,6)],4,24,[(1,.i .i64 0),(1,.i .i64 0),(1,.ff),(1,.u8 0)],true⟩,
 ⟨.string,1,16,[(1,.str [])],false⟩,
 ⟨.string,1,16,[(1,.str [])],false⟩,
 ⟨.string,1,16,[(1,.str [])],false⟩,
 ⟨.int .u64,1,8,[(1,.u64 0)],false⟩,
 ⟨.struct [(0,9),(1,12)],2,24,[(1,.str []),(1,.u64 0)],false⟩,
 ⟨.struct [(0,9),(1,12)],2,24,[(1,.str []),(1,.u64 0)],false⟩,
 ⟨.pointer 161,1,8,[(1,.nilp)],false⟩,
 ⟨.pointer 164,1,8,[(1,.nilp)],false⟩,
 ⟨.pointer 173,1,8,[(1,.nilp)],false⟩,
 ⟨.struct [(0,17)],1,8,[(1,.nilp)],false⟩,
 ⟨.struct [(0,17)],1,8,[(1,.nilp)],false⟩,
 badTy,
 ⟨.int .i32,1,4,[(1,.i .i32 0)],false⟩,
 ⟨.array 32 5,32,32,[(32,.a8 (List.replicate 32 0))],false⟩,
 ⟨.slice 5,1,24,[(1,.nsl)],false⟩,
 badTy,
 ⟨.pointer 62,1,8,[(1,.nilp)],false⟩,
 ⟨.struct [(0,25)],1,8,[(1,.nilp)],false⟩,
 ⟨.struct [(0,25)],1,8,[(1,.nilp)],false⟩,
 badTy,
 ⟨.array 32 5,32,32,[(32,.a8 (List.replicate 32 0))],false⟩,
 badTy,
 badTy,
 badTy,
 badTy,
 ⟨.array 64 5,64,64,[(64,.a8 (List.replicate 64 0))],false⟩,
 ⟨.array 64 5,64,64,[(64,.a8 (List.replicate 64 0))],false⟩,
 badTy,
 badTy,
 badTy,
 badTy,
 badTy,
 badTy,
 badTy,
 badTy,
 badTy,
 ⟨.array 16 5,16,16,[(16,.a8 (List.replicate 16 0))],false⟩,
 badTy,
 badTy,
 badTy,
 badTy,
 ⟨.slice 23,1,24,[(1,.nsl)],false⟩,
 badTy,
 badTy,
 badTy,
 badTy,
 badTy,
 badTy,
 badTy,
 badTy,
 ⟨.slice 66,1,24,[(1,.nsl)],false⟩,
 ⟨.map 9 3,1,8,[(1,.nilmp)],false⟩,
 ⟨.struct [(0,59),(1,60)],2,32,[(1,.nsl),(1,.nilmp)],false⟩,
 ⟨.struct [(0,59),(1,60)],2,32,[(1,.nsl),(1,.nilmp)],false⟩,
 badTy,
 ⟨.slice 67,1,24,[(1,.nsl)],false⟩,
 ⟨.struct [(0,3),(1,50),(2,64)],3,56,[(1,.i .i64 0),(1,.nsl),(1,.nsl)],false⟩,
 ⟨.struct [(0,3),(1,50),(2,64)],3,56,[(1,.i .i64 0),(1,.nsl),(1,.nsl)],false⟩,
 ⟨.slice 3,1,24,[(1,.nsl)],false⟩,
 badTy,
 badTy,
 ⟨.pointer 103,1,8,[(1,.nilp)],false⟩,
 badTy,
 badTy,
 badTy,
 ⟨.pointer 112,1,8,[(1,.nilp)],false⟩,
 badTy,
 badTy,
 badTy,
 badTy,
 ⟨.struct [(0,22),(32,23)],33,56,[(32,.a8 (List.replicate 32 0)),(1,.nsl)],false⟩,
 ⟨.struct [(0,22),(32,23)],33,56,[(32,.a8 (List.replicate 32 0)),(1,.nsl)],false⟩,
 badTy,
 badTy,
 badTy,
 ⟨.int .u64,1,8,[(1,.u64 0)],false⟩,
 ⟨.array 5 84,5,40,[(5,.a64 (List.replicate 5 0))],false⟩,
 ⟨.struct [(0,85)],5,40,[(5,.a64 (List.replicate 5 0))],true⟩,
 ⟨.struct [(0,85)],5,40,[(5,.a64 (List.replicate 5 0))],true⟩,
 ⟨.struct [(0,87),(5,87),(10,87),(15,87),(20,4)],21,168,[(5,.a64 (List.replicate 5 0)),(5,.a64 (List.replicate 5 0)),(5,.a64 (List.replicate 5 0)),(5,.a64 (List.replicate 5 0)),(1,.ff)],false⟩,
 ⟨.struct [(0,87),(5,87),(10,87),(15,87),(20,4)],21,168,[(5,.a64 (List.replicate 5 0)),(5,.a64 (List.replicate 5 0)),(5,.a64 (List.replicate 5 0)),(5,.a64 (List.replicate 5 0)),(1,.ff)],false⟩,
 badTy,
 badTy,
 badTy,
 badTy,
 badTy,
 badTy,
 badTy,
 badTy,
 ⟨.int .u64,1,8,[(1,.u64 0)],false⟩,
 badTy,
 ⟨.array 256 5,256,256,[(256,.a8 (List.replicate 256 0))],false⟩,
 ⟨.array 15 45,240,240,[(240,.a8 (List.replicate 240 0))],false⟩,
 ⟨.struct [(0,100),(256,100),(512,101)],752,752,[(256,.a8 (List.replicate 256 0)),(256,.a8 (List.replicate 256 0)),(240,.a8 (List.replicate 240 0))],false⟩,
 ⟨.struct [(0,100),(256,100),(512,101)],752,752,[(256,.a8 (List.replicate 256 0)),(256,.a8 (List.replicate 256 0)),(240,.a8 (List.replicate 240 0))],false⟩,
 ⟨.array 4 5,4,4,[(4,.a8 (List.replicate 4 0))],false⟩,
 ⟨.array 60 104,240,240,[(240,.a8 (List.replicate 240 0))],false⟩,
 badTy,
 badTy,
 badTy,
 ⟨.int .u32,1,4,[(1,.u32 0)],false⟩,
 ⟨.array 8 109,8,32,[(8,.a32 (List.replicate 8 0))],false⟩,
 ⟨.struct [(0,110),(8,23),(9,84)],10,64,[(8,.a32 (List.replicate 8 0)),(1,.nsl),(1,.u64 0)],false⟩,
 ⟨.struct [(0,110),(8,23),(9,84)],10,64,[(8,.a32 (List.replicate 8 0)),(1,.nsl),(1,.u64 0)],false⟩,
 badTy,
 ⟨.pointer 110,1,8,[(1,.nilp)],false⟩,
 badTy,
 badTy,
 badTy,
 badTy,
 badTy,
 badTy,
 badTy,
 badTy,
 badTy,
 ⟨.array 4 84,4,32,[(4,.a64 (List.replicate 4 0))],false⟩,
 ⟨.array 4 84,4,32,[(4,.a64 (List.replicate 4 0))],false⟩,
 badTy,
 ⟨.array 8 84,8,64,[(8,.a64 (List.replicate 8 0))],false⟩,
 ⟨.slice 84,1,24,[(1,.nsl)],false⟩,
 badTy,
 badTy,
 badTy,
 badTy,
 badTy,
 badTy,
 badTy,
 badTy,
 badTy,
 badTy,
 badTy,
 ⟨.array 64 109,64,256,[(64,.a32 (List.replicate 64 0))],false⟩,
 badTy,
 badTy,
 ⟨.pointer 127,1,8,[(1,.nilp)],false⟩,
 badTy,
 ⟨.struct [(0,84),(1,84)],2,16,[(1,.u64 0),(1,.u64 0)],true⟩,
 ⟨.struct [(0,84),(1,84)],2,16,[(1,.u64 0),(1,.u64 0)],true⟩,
 ⟨.array 5 146,10,80,[(1,.u64 0),(1,.u64 0),(1,.u64 0),(1,.u64 0),(1,.u64 0),(1,.u64 0),(1,.u64 0),(1,.u64 0),(1,.u64 0),(1,.u64 0)],false⟩,
 badTy,
 badTy,
 badTy,
 badTy,
 badTy,
 badTy,
 badTy,
 ⟨.array 80 84,80,640,[(80,.a64 (List.replicate 80 0))],false⟩,
 badTy,
 badTy,
 badTy,
 badTy,
 ⟨.struct [(0,17),(1,17),(2,17),(3,9)],4,40,[(1,.nilp),(1,.nilp),(1,.nilp),(1,.str [])],false⟩,
 ⟨.struct [(0,17),(1,17),(2,17),(3,9)],4,40,[(1,.nilp),(1,.nilp),(1,.nilp),(1,.str [])],false⟩,
 badTy,
 badTy,
 badTy,
 badTy,
 ⟨.int .u8,1,1,[(1,.u8 0)],false⟩,
 ⟨.int .u8,1,1,[(1,.u8 0)],false⟩,
 badTy,
 ⟨.pointer 5,1,8,[(1,.nilp)],false⟩,
 ⟨.int .i32,1,4,[(1,.i .i32 0)],false⟩,
 ⟨.int .i32,1,4,[(1,.i .i32 0)],false⟩,
 ⟨.struct [(0,12),(1,12),(2,109),(3,166),(4,5),(5,5),(6,167),(7,168),(8,169),(9,170),(10,171)],11,48,[(1,.u64 0),(1,.u64 0),(1,.u32 0),(1,.u8 0),(1,.u8 0),(1,.u8 0),(1,.u8 0),(1,.raw .nilFunc),(1,.nilp),(1,.i .i32 0),(1,.i .i32 0)],false⟩,
 ⟨.struct [(0,12),(1,12),(2,109),(3,166),(4,5),(5,5),(6,167),(7,168),(8,169),(9,170),(10,171)],11,48,[(1,.u64 0),(1,.u64 0),(1,.u32 0),(1,.u8 0),(1,.u8 0),(1,.u8 0),(1,.u8 0),(1,.raw .nilFunc),(1,.nilp),(1,.i .i32 0),(1,.i .i32 0)],false⟩]
noncomputable def cx:Ctx where
 P:=Try.prog
 tys:=tys
 chk:=by kernel_rfl
 mixed:=by kernel_rfl
noncomputable def Γ:Cfg where
 toCtx:=cx
 calls:=[4,5,6,7,8,9,10,11,12,13,14,15,16,17,18,19,20,21,22,23,24,28,29,30,31,32,33,34,35,36,37,38,39,40,41,52,53,54,55,56,57,58,59,78,79,80]
 callsOK:=by kernel_rfl
set_option maxRecDepth 10000 in theorem sz2:(Γ.ty 2).size = 1:=rfl
set_option maxRecDepth 10000 in theorem sz3:(Γ.ty 3).size = 1:=rfl
set_option maxRecDepth 10000 in theorem sz4:(Γ.ty 4).size = 1:=rfl
set_option maxRecDepth 10000 in theorem sz5:(Γ.ty 5).size = 1:=rfl
set_option maxRecDepth 10000 in theorem sz9:(Γ.ty 9).size = 1:=rfl
set_option maxRecDepth 10000 in theorem sz22:(Γ.ty 22).size = 32:=rfl
set_option maxRecDepth 10000 in theorem sz23:(Γ.ty 23).size = 1:=rfl
set_option maxRecDepth 10000 in theorem sz25:(Γ.ty 25).size = 1:=rfl
set_option maxRecDepth 10000 in theorem sz26:(Γ.ty 26).size = 1:=rfl
set_option maxRecDepth 10000 in theorem sz27:(Γ.ty 27).size = 1:=rfl
set_option maxRecDepth 10000 in theorem sz29:(Γ.ty 29).size = 32:=rfl
set_option maxRecDepth 10000 in theorem sz34:(Γ.ty 34).size = 64:=rfl
set_option maxRecDepth 10000 in theorem sz35:(Γ.ty 35).size = 64:=rfl
set_option maxRecDepth 10000 in theorem sz45:(Γ.ty 45).size = 16:=rfl
set_option maxRecDepth 10000 in theorem sz50:(Γ.ty 50).size = 1:=rfl
set_option maxRecDepth 10000 in theorem sz59:(Γ.ty 59).size = 1:=rfl
set_option maxRecDepth 10000 in theorem sz60:(Γ.ty 60).size = 1:=rfl
set_option maxRecDepth 10000 in theorem sz61:(Γ.ty 61).size = 2:=rfl
set_option maxRecDepth 10000 in theorem sz62:(Γ.ty 62).size = 2:=rfl
set_option maxRecDepth 10000 in theorem sz64:(Γ.ty 64).size = 1:=rfl
set_option maxRecDepth 10000 in theorem sz65:(Γ.ty 65).size = 3:=rfl
set_option maxRecDepth 10000 in theorem sz66:(Γ.ty 66).size = 3:=rfl
set_option maxRecDepth 10000 in theorem sz67:(Γ.ty 67).size = 1:=rfl
set_option maxRecDepth 10000 in theorem sz70:(Γ.ty 70).size = 1:=rfl
set_option maxRecDepth 10000 in theorem sz74:(Γ.ty 74).size = 1:=rfl
set_option maxRecDepth 10000 in theorem sz84:(Γ.ty 84).size = 1:=rfl
set_option maxRecDepth 10000 in theorem sz100:(Γ.ty 100).size = 256:=rfl
set_option maxRecDepth 10000 in theorem sz101:(Γ.ty 101).size = 240:=rfl
set_option maxRecDepth 10000 in theorem sz102:(Γ.ty 102).size = 752:=rfl
set_option maxRecDepth 10000 in theorem sz103:(Γ.ty 103).size = 752:=rfl
set_option maxRecDepth 10000 in theorem sz104:(Γ.ty 104).size = 4:=rfl
set_option maxRecDepth 10000 in theorem sz105:(Γ.ty 105).size = 240:=rfl
set_option maxRecDepth 10000 in theorem sz109:(Γ.ty 109).size = 1:=rfl
set_option maxRecDepth 10000 in theorem sz110:(Γ.ty 110).size = 8:=rfl
set_option maxRecDepth 10000 in theorem sz111:(Γ.ty 111).size = 10:=rfl
set_option maxRecDepth 10000 in theorem sz112:(Γ.ty 112).size = 10:=rfl
set_option maxRecDepth 10000 in theorem sz114:(Γ.ty 114).size = 1:=rfl
set_option maxRecDepth 10000 in theorem sz140:(Γ.ty 140).size = 64:=rfl
set_option maxRecDepth 10000 in theorem by3:(Γ.ty 3).bytes = 8:=rfl
set_option maxRecDepth 10000 in theorem by4:(Γ.ty 4).bytes = 1:=rfl
set_option maxRecDepth 10000 in theorem by5:(Γ.ty 5).bytes = 1:=rfl
set_option maxRecDepth 10000 in theorem by9:(Γ.ty 9).bytes = 16:=rfl
set_option maxRecDepth 10000 in theorem by22:(Γ.ty 22).bytes = 32:=rfl
set_option maxRecDepth 10000 in theorem by23:(Γ.ty 23).bytes = 24:=rfl
set_option maxRecDepth 10000 in theorem by25:(Γ.ty 25).bytes = 8:=rfl
set_option maxRecDepth 10000 in theorem by26:(Γ.ty 26).bytes = 8:=rfl
set_option maxRecDepth 10000 in theorem by27:(Γ.ty 27).bytes = 8:=rfl
set_option maxRecDepth 10000 in theorem by29:(Γ.ty 29).bytes = 32:=rfl
set_option maxRecDepth 10000 in theorem by34:(Γ.ty 34).bytes = 64:=rfl
set_option maxRecDepth 10000 in theorem by35:(Γ.ty 35).bytes = 64:=rfl
set_option maxRecDepth 10000 in theorem by45:(Γ.ty 45).bytes = 16:=rfl
set_option maxRecDepth 10000 in theorem by50:(Γ.ty 50).bytes = 24:=rfl
set_option maxRecDepth 10000 in theorem by59:(Γ.ty 59).bytes = 24:=rfl
set_option maxRecDepth 10000 in theorem by60:(Γ.ty 60).bytes = 8:=rfl
set_option maxRecDepth 10000 in theorem by61:(Γ.ty 61).bytes = 32:=rfl
set_option maxRecDepth 10000 in theorem by62:(Γ.ty 62).bytes = 32:=rfl
set_option maxRecDepth 10000 in theorem by64:(Γ.ty 64).bytes = 24:=rfl
set_option maxRecDepth 10000 in theorem by65:(Γ.ty 65).bytes = 56:=rfl
set_option maxRecDepth 10000 in theorem by66:(Γ.ty 66).bytes = 56:=rfl
set_option maxRecDepth 10000 in theorem by67:(Γ.ty 67).bytes = 24:=rfl
set_option maxRecDepth 10000 in theorem by70:(Γ.ty 70).bytes = 8:=rfl
set_option maxRecDepth 10000 in theorem by74:(Γ.ty 74).bytes = 8:=rfl
set_option maxRecDepth 10000 in theorem by84:(Γ.ty 84).bytes = 8:=rfl
set_option maxRecDepth 10000 in theorem by100:(Γ.ty 100).bytes = 256:=rfl
set_option maxRecDepth 10000 in theorem by101:(Γ.ty 101).bytes = 240:=rfl
set_option maxRecDepth 10000 in theorem by102:(Γ.ty 102).bytes = 752:=rfl
set_option maxRecDepth 10000 in theorem by103:(Γ.ty 103).bytes = 752:=rfl
set_option maxRecDepth 10000 in theorem by104:(Γ.ty 104).bytes = 4:=rfl
set_option maxRecDepth 10000 in theorem by105:(Γ.ty 105).bytes = 240:=rfl
set_option maxRecDepth 10000 in theorem by109:(Γ.ty 109).bytes = 4:=rfl
set_option maxRecDepth 10000 in theorem by110:(Γ.ty 110).bytes = 32:=rfl
set_option maxRecDepth 10000 in theorem by111:(Γ.ty 111).bytes = 64:=rfl
set_option maxRecDepth 10000 in theorem by112:(Γ.ty 112).bytes = 64:=rfl
set_option maxRecDepth 10000 in theorem by114:(Γ.ty 114).bytes = 8:=rfl
set_option maxRecDepth 10000 in theorem by140:(Γ.ty 140).bytes = 256:=rfl
theorem sd {ps:List Prop} {K:Prop} (k:K) (h:AllP ps:=by repeat' (first | (show AllP _;first | exact trivial | refine AllP.app ?_ ?_ | refine AllP.appd ?_ ?_ | refine AllP.cons ?_ ?_) | with_reducible rfl | with_reducible assumption | omega | (simp only [rng,Ix.val,addQ_eq,addI,sz3,by3,sz4,by4,sz5,by5,sz9,by9,sz22,by22,sz23,by23,sz25,by25,sz26,by26,sz27,by27,sz29,by29,sz34,by34,sz35,by35,sz45,by45,sz50,by50,sz59,by59,sz60,by60,sz61,by61,sz62,by62,sz64,by64,sz65,by65,sz66,by66,sz67,by67,sz70,by70,sz74,by74,sz84,by84,sz100,by100,sz101,by101,sz102,by102,sz103,by103,sz104,by104,sz105,by105,sz109,by109,sz110,by110,sz111,by111,sz112,by112,sz114,by114,sz140,by140] <;> omega) | (simp only [rng,Ix.val,Int.toNat_natCast,mulE_eq,addQ_eq,addI,Option.getD_none,Option.getD_some,List.length_take,List.length_drop,List.length_append,List.length_set,List.length_replicate,sz3,by3,sz4,by4,sz5,by5,sz9,by9,sz22,by22,sz23,by23,sz25,by25,sz26,by26,sz27,by27,sz29,by29,sz34,by34,sz35,by35,sz45,by45,sz50,by50,sz59,by59,sz60,by60,sz61,by61,sz62,by62,sz64,by64,sz65,by65,sz66,by66,sz67,by67,sz70,by70,sz74,by74,sz84,by84,sz100,by100,sz101,by101,sz102,by102,sz103,by103,sz104,by104,sz105,by105,sz109,by109,sz110,by110,sz111,by111,sz112,by112,sz114,by114,sz140,by140, *] <;> omega) | (simp only [Ix.val];with_reducible assumption) | exact UInt8.toNat_lt _ | (apply Eq.trans;(with_reducible assumption);exact rfl) | exact rfl | exact fun _ _=>rfl)):Side ps K:=Side.intro h k
theorem sdn {ps:List Prop} {K:Prop} (k:K) (h:AllP ps:=by repeat' (first | (show AllP _;first | exact trivial | refine AllP.app ?_ ?_ | refine AllP.appd ?_ ?_ | refine AllP.cons ?_ ?_) | with_reducible rfl | with_reducible assumption | omega | (simp only [Nat.zero_add,Int.toNat_natCast,rng,Ix.val,addQ_eq,addI,sz3,by3,sz4,by4,sz5,by5,sz9,by9,sz22,by22,sz23,by23,sz25,by25,sz26,by26,sz27,by27,sz29,by29,sz34,by34,sz35,by35,sz45,by45,sz50,by50,sz59,by59,sz60,by60,sz61,by61,sz62,by62,sz64,by64,sz65,by65,sz66,by66,sz67,by67,sz70,by70,sz74,by74,sz84,by84,sz100,by100,sz101,by101,sz102,by102,sz103,by103,sz104,by104,sz105,by105,sz109,by109,sz110,by110,sz111,by111,sz112,by112,sz114,by114,sz140,by140] <;> omega) | (simp only [Nat.zero_add,Int.toNat_natCast,rng,Ix.val,Int.toNat_natCast,mulE_eq,addQ_eq,addI,Option.getD_none,Option.getD_some,List.length_take,List.length_drop,List.length_append,List.length_set,List.length_replicate,sz3,by3,sz4,by4,sz5,by5,sz9,by9,sz22,by22,sz23,by23,sz25,by25,sz26,by26,sz27,by27,sz29,by29,sz34,by34,sz35,by35,sz45,by45,sz50,by50,sz59,by59,sz60,by60,sz61,by61,sz62,by62,sz64,by64,sz65,by65,sz66,by66,sz67,by67,sz70,by70,sz74,by74,sz84,by84,sz100,by100,sz101,by101,sz102,by102,sz103,by103,sz104,by104,sz105,by105,sz109,by109,sz110,by110,sz111,by111,sz112,by112,sz114,by114,sz140,by140, *] <;> omega) | (simp only [Ix.val];with_reducible assumption) | exact UInt8.toNat_lt _ | (apply Eq.trans;(with_reducible assumption);exact rfl) | exact rfl | exact fun _ _=>rfl)):Side ps K:=Side.intro h k
theorem fc {p:Prop} (h:p:=by repeat' (first | (show AllP _;first | exact trivial | refine AllP.app ?_ ?_ | refine AllP.appd ?_ ?_ | refine AllP.cons ?_ ?_) | with_reducible rfl | with_reducible assumption | omega | (simp only [rng,Ix.val,addQ_eq,addI,sz3,by3,sz4,by4,sz5,by5,sz9,by9,sz22,by22,sz23,by23,sz25,by25,sz26,by26,sz27,by27,sz29,by29,sz34,by34,sz35,by35,sz45,by45,sz50,by50,sz59,by59,sz60,by60,sz61,by61,sz62,by62,sz64,by64,sz65,by65,sz66,by66,sz67,by67,sz70,by70,sz74,by74,sz84,by84,sz100,by100,sz101,by101,sz102,by102,sz103,by103,sz104,by104,sz105,by105,sz109,by109,sz110,by110,sz111,by111,sz112,by112,sz114,by114,sz140,by140] <;> omega) | (simp only [rng,Ix.val,Int.toNat_natCast,mulE_eq,addQ_eq,addI,Option.getD_none,Option.getD_some,List.length_take,List.length_drop,List.length_append,List.length_set,List.length_replicate,sz3,by3,sz4,by4,sz5,by5,sz9,by9,sz22,by22,sz23,by23,sz25,by25,sz26,by26,sz27,by27,sz29,by29,sz34,by34,sz35,by35,sz45,by45,sz50,by50,sz59,by59,sz60,by60,sz61,by61,sz62,by62,sz64,by64,sz65,by65,sz66,by66,sz67,by67,sz70,by70,sz74,by74,sz84,by84,sz100,by100,sz101,by101,sz102,by102,sz103,by103,sz104,by104,sz105,by105,sz109,by109,sz110,by110,sz111,by111,sz112,by112,sz114,by114,sz140,by140, *] <;> omega) | (simp only [Ix.val];with_reducible assumption) | exact UInt8.toNat_lt _ | (apply Eq.trans;(with_reducible assumption);exact rfl) | exact rfl | exact fun _ _=>rfl)):p:=h
theorem fcn {p:Prop} (h:p:=by repeat' (first | (show AllP _;first | exact trivial | refine AllP.app ?_ ?_ | refine AllP.appd ?_ ?_ | refine AllP.cons ?_ ?_) | with_reducible rfl | with_reducible assumption | omega | (simp only [Nat.zero_add,Int.toNat_natCast,rng,Ix.val,addQ_eq,addI,sz3,by3,sz4,by4,sz5,by5,sz9,by9,sz22,by22,sz23,by23,sz25,by25,sz26,by26,sz27,by27,sz29,by29,sz34,by34,sz35,by35,sz45,by45,sz50,by50,sz59,by59,sz60,by60,sz61,by61,sz62,by62,sz64,by64,sz65,by65,sz66,by66,sz67,by67,sz70,by70,sz74,by74,sz84,by84,sz100,by100,sz101,by101,sz102,by102,sz103,by103,sz104,by104,sz105,by105,sz109,by109,sz110,by110,sz111,by111,sz112,by112,sz114,by114,sz140,by140] <;> omega) | (simp only [Nat.zero_add,Int.toNat_natCast,rng,Ix.val,Int.toNat_natCast,mulE_eq,addQ_eq,addI,Option.getD_none,Option.getD_some,List.length_take,List.length_drop,List.length_append,List.length_set,List.length_replicate,sz3,by3,sz4,by4,sz5,by5,sz9,by9,sz22,by22,sz23,by23,sz25,by25,sz26,by26,sz27,by27,sz29,by29,sz34,by34,sz35,by35,sz45,by45,sz50,by50,sz59,by59,sz60,by60,sz61,by61,sz62,by62,sz64,by64,sz65,by65,sz66,by66,sz67,by67,sz70,by70,sz74,by74,sz84,by84,sz100,by100,sz101,by101,sz102,by102,sz103,by103,sz104,by104,sz105,by105,sz109,by109,sz110,by110,sz111,by111,sz112,by112,sz114,by114,sz140,by140, *] <;> omega) | (simp only [Ix.val];with_reducible assumption) | exact UInt8.toNat_lt _ | (apply Eq.trans;(with_reducible assumption);exact rfl) | exact rfl | exact fun _ _=>rfl)):p:=h
end Go.Proofs.Ythhclcodibbncaa
namespace Go.Proofs.Ythhclcodibbncaa
open Go Go.Sx
def sizeF (n:Int):Int:=if n < 0 ∨ 1099511627776 < n then 0 else n / 16 * 16 + 16
theorem sizeF_bad {n:Int} (h:n < 0 ∨ 1099511627776 < n):sizeF n = 0:=if_pos h
theorem sizeF_ok {n:Int} (h1:¬ n < 0) (h2:¬ 1099511627776 < n):sizeF n = n / 16 * 16 + 16:=if_neg (by omega)
theorem fn28 (n:Int):Sx.Fn Γ.P 28 [.i .i64 n] [] (fun v _=>v = .i .i64 (sizeF n)):=by
 refine fn_of (Γ:=Γ) (fn:=Try.f28) rfl rfl rfl rfl ?_
 refine Branch.intro (fun h=>?_) (fun h=>?_)
 ·refine Ret.intro (.i .i64 (sizeF n)) [] [] rfl trivial rfl rfl ?_ rfl trivial rfl
  exact sizeF_bad (Or.inl h)
 ·refine Branch.intro (fun h2=>?_) (fun h2=>?_)
  ·refine Ret.intro (.i .i64 (sizeF n)) [] [] rfl trivial rfl rfl ?_ rfl trivial rfl
   exact sizeF_bad (Or.inr h2)
  ·repeat (refine sd ?_)
   refine Ret.intro (.i .i64 (sizeF n)) [] [] rfl trivial rfl rfl ?_ rfl trivial rfl
   exact sizeF_ok h h2
end Go.Proofs.Ythhclcodibbncaa
