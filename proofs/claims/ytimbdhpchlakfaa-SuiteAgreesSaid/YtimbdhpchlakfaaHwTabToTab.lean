/- What the functions of the program compute. No condition. -/
import Derived.Test.YtimbdhpchlakfaaHx7
import Derived.Test.YtimbdhpchlakfaaProg
import Derived.KernelRfl
set_option linter.unusedSimpArgs false
set_option linter.unusedVariables false
namespace Go.Proofs.Ytimbdhpchlakfaa
open Go Go.Sx
set_option maxRecDepth 100000 in
def tys:List Ty:=[
 badTy,
 badTy,
 ⟨.int .i64,1,8,[(1,.i .i64 0)],false⟩,
 ⟨.int .i64,1,8,[(1,.i .i64 0)],false⟩,
 ⟨.bool,1,1,[(1,.ff)],false⟩,
 ⟨.int .u8,1,1,[(1,.u8 0)],false⟩,
 ⟨.int .u8,1,1,[(1,.u8 0)],false⟩,
 ⟨.struct [(0,2),(1,3),(2,4),(3,6)],4,24,[(1,.i .i64 0),(1,.i .i64 0),(1,.ff),(1,.u8 0)],true⟩,
 ⟨.struct [(0,2),(1,3),(2,4),(3,6)],4,24,[(1,.i .i64 0),(1,.i .i64 0),(1,.ff),(1,.u8 0)],true⟩,
 ⟨.string,1,16,[(1,.str [])],false⟩,
 ⟨.string,1,16,[(1,.str [])],false⟩,
 ⟨.string,1,16,[(1,.str [])],false⟩,
 ⟨.int .u64,1,8,[(1,.u64 0)],false⟩,
 ⟨.struct [(0,9),(1,12)],2,24,[(1,.str []),(1,.u64 0)],false⟩,
 ⟨.struct [(0,9),(1,12)],2,24,[(1,.str []),(1,.u64 0)],false⟩,
 ⟨.pointer 125,1,8,[(1,.nilp)],false⟩,
 ⟨.pointer 128,1,8,[(1,.nilp)],false⟩,
 ⟨.pointer 137,1,8,[(1,.nilp)],false⟩,
 ⟨.struct [(0,17)],1,8,[(1,.nilp)],false⟩,
 ⟨.struct [(0,17)],1,8,[(1,.nilp)],false⟩,
 badTy,
 ⟨.int .i32,1,4,[(1,.i .i32 0)],false⟩,
 ⟨.array 32 5,32,32,[(32,.a8 (List.replicate 32 0))],false⟩,
 badTy,
 ⟨.pointer 69,1,8,[(1,.nilp)],false⟩,
 ⟨.struct [(0,24)],1,8,[(1,.nilp)],false⟩,
 ⟨.struct [(0,24)],1,8,[(1,.nilp)],false⟩,
 badTy,
 ⟨.array 32 5,32,32,[(32,.a8 (List.replicate 32 0))],false⟩,
 badTy,
 badTy,
 badTy,
 badTy,
 badTy,
 ⟨.slice 5,1,24,[(1,.nsl)],false⟩,
 badTy,
 badTy,
 badTy,
 badTy,
 badTy,
 badTy,
 ⟨.slice 34,1,24,[(1,.nsl)],false⟩,
 badTy,
 badTy,
 badTy,
 badTy,
 ⟨.array 16 5,16,16,[(16,.a8 (List.replicate 16 0))],false⟩,
 badTy,
 badTy,
 badTy,
 badTy,
 badTy,
 badTy,
 ⟨.int .u64,1,8,[(1,.u64 0)],false⟩,
 ⟨.array 5 53,5,40,[(5,.a64 (List.replicate 5 0))],false⟩,
 ⟨.struct [(0,54)],5,40,[(5,.a64 (List.replicate 5 0))],true⟩,
 ⟨.struct [(0,54)],5,40,[(5,.a64 (List.replicate 5 0))],true⟩,
 badTy,
 ⟨.struct [(0,56),(5,56)],10,80,[(5,.a64 (List.replicate 5 0)),(5,.a64 (List.replicate 5 0))],false⟩,
 ⟨.struct [(0,56),(5,56)],10,80,[(5,.a64 (List.replicate 5 0)),(5,.a64 (List.replicate 5 0))],false⟩,
 badTy,
 badTy,
 badTy,
 badTy,
 badTy,
 badTy,
 ⟨.slice 72,1,24,[(1,.nsl)],false⟩,
 ⟨.map 9 3,1,8,[(1,.nilmp)],false⟩,
 ⟨.struct [(0,66),(1,67)],2,32,[(1,.nsl),(1,.nilmp)],false⟩,
 ⟨.struct [(0,66),(1,67)],2,32,[(1,.nsl),(1,.nilmp)],false⟩,
 ⟨.slice 76,1,24,[(1,.nsl)],false⟩,
 ⟨.struct [(0,3),(1,41),(2,70)],3,56,[(1,.i .i64 0),(1,.nsl),(1,.nsl)],false⟩,
 ⟨.struct [(0,3),(1,41),(2,70)],3,56,[(1,.i .i64 0),(1,.nsl),(1,.nsl)],false⟩,
 badTy,
 badTy,
 badTy,
 ⟨.slice 3,1,24,[(1,.nsl)],false⟩,
 badTy,
 badTy,
 ⟨.pointer 105,1,8,[(1,.nilp)],false⟩,
 badTy,
 badTy,
 badTy,
 ⟨.array 64 5,64,64,[(64,.a8 (List.replicate 64 0))],false⟩,
 ⟨.pointer 114,1,8,[(1,.nilp)],false⟩,
 badTy,
 badTy,
 badTy,
 ⟨.array 4 53,4,32,[(4,.a64 (List.replicate 4 0))],false⟩,
 ⟨.int .u64,1,8,[(1,.u64 0)],false⟩,
 badTy,
 ⟨.struct [(0,53),(1,53)],2,16,[(1,.u64 0),(1,.u64 0)],true⟩,
 ⟨.struct [(0,53),(1,53)],2,16,[(1,.u64 0),(1,.u64 0)],true⟩,
 ⟨.array 5 92,10,80,[(1,.u64 0),(1,.u64 0),(1,.u64 0),(1,.u64 0),(1,.u64 0),(1,.u64 0),(1,.u64 0),(1,.u64 0),(1,.u64 0),(1,.u64 0)],false⟩,
 badTy,
 badTy,
 badTy,
 badTy,
 badTy,
 badTy,
 badTy,
 badTy,
 ⟨.array 256 5,256,256,[(256,.a8 (List.replicate 256 0))],false⟩,
 ⟨.array 15 46,240,240,[(240,.a8 (List.replicate 240 0))],false⟩,
 ⟨.struct [(0,102),(256,102),(512,103)],752,752,[(256,.a8 (List.replicate 256 0)),(256,.a8 (List.replicate 256 0)),(240,.a8 (List.replicate 240 0))],false⟩,
 ⟨.struct [(0,102),(256,102),(512,103)],752,752,[(256,.a8 (List.replicate 256 0)),(256,.a8 (List.replicate 256 0)),(240,.a8 (List.replicate 240 0))],false⟩,
 ⟨.array 4 5,4,4,[(4,.a8 (List.replicate 4 0))],false⟩,
 ⟨.array 60 106,240,240,[(240,.a8 (List.replicate 240 0))],false⟩,
 badTy,
 badTy,
 badTy,
 ⟨.int .u32,1,4,[(1,.u32 0)],false⟩,
 ⟨.array 8 111,8,32,[(8,.a32 (List.replicate 8 0))],false⟩,
 ⟨.struct [(0,112),(8,34),(9,53)],10,64,[(8,.a32 (List.replicate 8 0)),(1,.nsl),(1,.u64 0)],false⟩,
 ⟨.struct [(0,112),(8,34),(9,53)],10,64,[(8,.a32 (List.replicate 8 0)),(1,.nsl),(1,.u64 0)],false⟩,
 badTy,
 ⟨.pointer 112,1,8,[(1,.nilp)],false⟩,
 badTy,
 badTy,
 badTy,
 badTy,
 ⟨.array 64 111,64,256,[(64,.a32 (List.replicate 64 0))],false⟩,
 badTy,
 badTy,
 ⟨.struct [(0,17),(1,17),(2,17),(3,9)],4,40,[(1,.nilp),(1,.nilp),(1,.nilp),(1,.str [])],false⟩,
 ⟨.struct [(0,17),(1,17),(2,17),(3,9)],4,40,[(1,.nilp),(1,.nilp),(1,.nilp),(1,.str [])],false⟩,
 badTy,
 badTy,
 badTy,
 badTy,
 ⟨.int .u8,1,1,[(1,.u8 0)],false⟩,
 ⟨.int .u8,1,1,[(1,.u8 0)],false⟩,
 badTy,
 ⟨.pointer 5,1,8,[(1,.nilp)],false⟩,
 ⟨.int .i32,1,4,[(1,.i .i32 0)],false⟩,
 ⟨.int .i32,1,4,[(1,.i .i32 0)],false⟩,
 ⟨.struct [(0,12),(1,12),(2,111),(3,130),(4,5),(5,5),(6,131),(7,132),(8,133),(9,134),(10,135)],11,48,[(1,.u64 0),(1,.u64 0),(1,.u32 0),(1,.u8 0),(1,.u8 0),(1,.u8 0),(1,.u8 0),(1,.raw .nilFunc),(1,.nilp),(1,.i .i32 0),(1,.i .i32 0)],false⟩,
 ⟨.struct [(0,12),(1,12),(2,111),(3,130),(4,5),(5,5),(6,131),(7,132),(8,133),(9,134),(10,135)],11,48,[(1,.u64 0),(1,.u64 0),(1,.u32 0),(1,.u8 0),(1,.u8 0),(1,.u8 0),(1,.u8 0),(1,.raw .nilFunc),(1,.nilp),(1,.i .i32 0),(1,.i .i32 0)],false⟩]
set_option maxRecDepth 100000 in
noncomputable def cx:Ctx where
 P:=Try.prog
 tys:=tys
 chk:=by kernel_rfl
 mixed:=by kernel_rfl
set_option maxRecDepth 100000 in
theorem ext48:ExtIs cx.P 48 .add64:=extIs_add (fn:=Try.f48) rfl (by kernel_rfl) (by kernel_rfl) (by kernel_rfl) (by kernel_rfl)
set_option maxRecDepth 100000 in
noncomputable def Γ:Cfg where
 toCtx:=cx
 calls:=[4,5,6,7,8,9,10,11,12,13,14,15,16,17,18,19,20,21,22,23,24,25,26,27,28,29,30,31,32,33,34,35,36,37,38,39,40,41,42,43,44,45,46,47,49,50,51,52,53,54,55,56,57,58,59,60,61,62]
 callsOK:=by kernel_rfl
 exts:=[(48,.add64)]
 extsOK:=by
  intro p hp
  simp only [List.mem_cons,List.not_mem_nil,or_false] at hp
  rcases hp with rfl
  ·exact ext48
set_option maxRecDepth 100000 in
theorem szs:(Γ.ty 3).size = 1∧(Γ.ty 3).bytes = 8∧(Γ.ty 4).size = 1∧(Γ.ty 4).bytes = 1∧(Γ.ty 5).size = 1∧(Γ.ty 5).bytes = 1∧(Γ.ty 9).size = 1∧(Γ.ty 9).bytes = 16∧(Γ.ty 22).size = 32∧(Γ.ty 22).bytes = 32∧(Γ.ty 24).size = 1∧(Γ.ty 24).bytes = 8∧(Γ.ty 25).size = 1∧(Γ.ty 25).bytes = 8∧(Γ.ty 26).size = 1∧(Γ.ty 26).bytes = 8∧(Γ.ty 28).size = 32∧(Γ.ty 28).bytes = 32∧(Γ.ty 34).size = 1∧(Γ.ty 34).bytes = 24∧(Γ.ty 41).size = 1∧(Γ.ty 41).bytes = 24∧(Γ.ty 46).size = 16∧(Γ.ty 46).bytes = 16∧(Γ.ty 53).size = 1∧(Γ.ty 53).bytes = 8∧(Γ.ty 54).size = 5∧(Γ.ty 54).bytes = 40∧(Γ.ty 55).size = 5∧(Γ.ty 55).bytes = 40∧(Γ.ty 56).size = 5∧(Γ.ty 56).bytes = 40∧(Γ.ty 58).size = 10∧(Γ.ty 58).bytes = 80∧(Γ.ty 59).size = 10∧(Γ.ty 59).bytes = 80∧(Γ.ty 66).size = 1∧(Γ.ty 66).bytes = 24∧(Γ.ty 67).size = 1∧(Γ.ty 67).bytes = 8∧(Γ.ty 68).size = 2∧(Γ.ty 68).bytes = 32∧(Γ.ty 69).size = 2∧(Γ.ty 69).bytes = 32∧(Γ.ty 70).size = 1∧(Γ.ty 70).bytes = 24∧(Γ.ty 71).size = 3∧(Γ.ty 71).bytes = 56∧(Γ.ty 72).size = 3∧(Γ.ty 72).bytes = 56∧(Γ.ty 76).size = 1∧(Γ.ty 76).bytes = 24∧(Γ.ty 79).size = 1∧(Γ.ty 79).bytes = 8∧(Γ.ty 83).size = 64∧(Γ.ty 83).bytes = 64∧(Γ.ty 84).size = 1∧(Γ.ty 84).bytes = 8∧(Γ.ty 88).size = 4∧(Γ.ty 88).bytes = 32∧(Γ.ty 91).size = 2∧(Γ.ty 91).bytes = 16∧(Γ.ty 92).size = 2∧(Γ.ty 92).bytes = 16∧(Γ.ty 93).size = 10∧(Γ.ty 93).bytes = 80∧(Γ.ty 102).size = 256∧(Γ.ty 102).bytes = 256∧(Γ.ty 103).size = 240∧(Γ.ty 103).bytes = 240∧(Γ.ty 104).size = 752∧(Γ.ty 104).bytes = 752∧(Γ.ty 105).size = 752∧(Γ.ty 105).bytes = 752∧(Γ.ty 106).size = 4∧(Γ.ty 106).bytes = 4∧(Γ.ty 107).size = 240∧(Γ.ty 107).bytes = 240∧(Γ.ty 111).size = 1∧(Γ.ty 111).bytes = 4∧(Γ.ty 112).size = 8∧(Γ.ty 112).bytes = 32∧(Γ.ty 113).size = 10∧(Γ.ty 113).bytes = 64∧(Γ.ty 114).size = 10∧(Γ.ty 114).bytes = 64∧(Γ.ty 116).size = 1∧(Γ.ty 116).bytes = 8∧(Γ.ty 121).size = 64∧(Γ.ty 121).bytes = 256:=⟨rfl,rfl,rfl,rfl,rfl,rfl,rfl,rfl,rfl,rfl,rfl,rfl,rfl,rfl,rfl,rfl,rfl,rfl,rfl,rfl,rfl,rfl,rfl,rfl,rfl,rfl,rfl,rfl,rfl,rfl,rfl,rfl,rfl,rfl,rfl,rfl,rfl,rfl,rfl,rfl,rfl,rfl,rfl,rfl,rfl,rfl,rfl,rfl,rfl,rfl,rfl,rfl,rfl,rfl,rfl,rfl,rfl,rfl,rfl,rfl,rfl,rfl,rfl,rfl,rfl,rfl,rfl,rfl,rfl,rfl,rfl,rfl,rfl,rfl,rfl,rfl,rfl,rfl,rfl,rfl,rfl,rfl,rfl,rfl,rfl,rfl,rfl,rfl,rfl,rfl⟩
theorem sd {ps:List Prop} {K:Prop} (k:K) (h:AllP ps:=by repeat' (first | (show AllP _;first | exact trivial | refine AllP.app ?_ ?_ | refine AllP.appd ?_ ?_ | refine AllP.cons ?_ ?_) | with_reducible rfl | with_reducible assumption | omega | (simp only [rng,Ix.val,addQ_eq,addI,szs] <;> omega) | (simp only [rng,Ix.val,Int.toNat_natCast,mulE_eq,addQ_eq,addI,Option.getD_none,Option.getD_some,List.length_take,List.length_drop,List.length_append,List.length_set,List.length_replicate,szs, *] <;> omega) | (simp only [Ix.val];with_reducible assumption) | exact UInt8.toNat_lt _ | (apply Eq.trans;(with_reducible assumption);exact rfl) | exact rfl | exact fun _ _=>rfl)):Side ps K:=Side.intro h k
theorem sdn {ps:List Prop} {K:Prop} (k:K) (h:AllP ps:=by repeat' (first | (show AllP _;first | exact trivial | refine AllP.app ?_ ?_ | refine AllP.appd ?_ ?_ | refine AllP.cons ?_ ?_) | with_reducible rfl | with_reducible assumption | omega | (simp only [Nat.zero_add,Int.toNat_natCast,rng,Ix.val,addQ_eq,addI,szs] <;> omega) | (simp only [Nat.zero_add,Int.toNat_natCast,rng,Ix.val,Int.toNat_natCast,mulE_eq,addQ_eq,addI,Option.getD_none,Option.getD_some,List.length_take,List.length_drop,List.length_append,List.length_set,List.length_replicate,szs, *] <;> omega) | (simp only [Ix.val];with_reducible assumption) | exact UInt8.toNat_lt _ | (apply Eq.trans;(with_reducible assumption);exact rfl) | exact rfl | exact fun _ _=>rfl)):Side ps K:=Side.intro h k
theorem fc {p:Prop} (h:p:=by repeat' (first | (show AllP _;first | exact trivial | refine AllP.app ?_ ?_ | refine AllP.appd ?_ ?_ | refine AllP.cons ?_ ?_) | with_reducible rfl | with_reducible assumption | omega | (simp only [rng,Ix.val,addQ_eq,addI,szs] <;> omega) | (simp only [rng,Ix.val,Int.toNat_natCast,mulE_eq,addQ_eq,addI,Option.getD_none,Option.getD_some,List.length_take,List.length_drop,List.length_append,List.length_set,List.length_replicate,szs, *] <;> omega) | (simp only [Ix.val];with_reducible assumption) | exact UInt8.toNat_lt _ | (apply Eq.trans;(with_reducible assumption);exact rfl) | exact rfl | exact fun _ _=>rfl)):p:=h
theorem fcn {p:Prop} (h:p:=by repeat' (first | (show AllP _;first | exact trivial | refine AllP.app ?_ ?_ | refine AllP.appd ?_ ?_ | refine AllP.cons ?_ ?_) | with_reducible rfl | with_reducible assumption | omega | (simp only [Nat.zero_add,Int.toNat_natCast,rng,Ix.val,addQ_eq,addI,szs] <;> omega) | (simp only [Nat.zero_add,Int.toNat_natCast,rng,Ix.val,Int.toNat_natCast,mulE_eq,addQ_eq,addI,Option.getD_none,Option.getD_some,List.length_take,List.length_drop,List.length_append,List.length_set,List.length_replicate,szs, *] <;> omega) | (simp only [Ix.val];with_reducible assumption) | exact UInt8.toNat_lt _ | (apply Eq.trans;(with_reducible assumption);exact rfl) | exact rfl | exact fun _ _=>rfl)):p:=h
theorem fd {p:Prop} (h:p:=by first | ((repeat' (first | (show AllP _;first | exact trivial | refine AllP.app ?_ ?_ | refine AllP.appd ?_ ?_ | refine AllP.cons ?_ ?_) | with_reducible rfl | with_reducible assumption | omega | (simp only [rng,Ix.val,addQ_eq,addI,szs] <;> omega) | (simp only [rng,Ix.val,Int.toNat_natCast,mulE_eq,addQ_eq,addI,Option.getD_none,Option.getD_some,List.length_take,List.length_drop,List.length_append,List.length_set,List.length_replicate,szs, *] <;> omega) | (simp only [Ix.val];with_reducible assumption) | exact UInt8.toNat_lt _ | (apply Eq.trans;(with_reducible assumption);exact rfl) | exact rfl | exact fun _ _=>rfl));done) | fail):p:=h
theorem fdn {p:Prop} (h:p:=by first | ((repeat' (first | (show AllP _;first | exact trivial | refine AllP.app ?_ ?_ | refine AllP.appd ?_ ?_ | refine AllP.cons ?_ ?_) | with_reducible rfl | with_reducible assumption | omega | (simp only [Nat.zero_add,Int.toNat_natCast,rng,Ix.val,addQ_eq,addI,szs] <;> omega) | (simp only [Nat.zero_add,Int.toNat_natCast,rng,Ix.val,Int.toNat_natCast,mulE_eq,addQ_eq,addI,Option.getD_none,Option.getD_some,List.length_take,List.length_drop,List.length_append,List.length_set,List.length_replicate,szs, *] <;> omega) | (simp only [Ix.val];with_reducible assumption) | exact UInt8.toNat_lt _ | (apply Eq.trans;(with_reducible assumption);exact rfl) | exact rfl | exact fun _ _=>rfl));done) | fail):p:=h
theorem ky0 {p a b:Prop} (k:a) (h:p:=by first | with_reducible exact trivial | with_reducible rfl | with_reducible exact Iff.rfl | fail):Branch p a b:=Branch.intro (fun _=>k) (fun hn=>absurd h hn)
theorem kn0 {p a b:Prop} (k:b) (h:¬ p:=by first | (intro hn;with_reducible exact False.elim hn) | (intro hn;with_reducible exact absurd trivial hn) | (intro hn;with_reducible exact absurd rfl hn) | (intro hn;with_reducible exact absurd Iff.rfl hn) | fail):Branch p a b:=Branch.intro (fun hn=>absurd hn h) (fun _=>k)
theorem ky {p a b:Prop} (k:a) (h:p:=by first | with_reducible assumption | fail):Branch p a b:=Branch.intro (fun _=>k) (fun hn=>absurd h hn)
theorem kn {p a b:Prop} (k:b) (h:¬ p:=by first | with_reducible assumption | (intro hn;refine absurd ?_ hn;with_reducible assumption) | fail):Branch p a b:=Branch.intro (fun hn=>absurd hn h) (fun _=>k)
end Go.Proofs.Ytimbdhpchlakfaa
