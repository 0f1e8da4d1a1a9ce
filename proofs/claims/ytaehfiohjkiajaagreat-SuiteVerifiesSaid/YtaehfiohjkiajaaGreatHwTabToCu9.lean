/- Walks. -/
import Derived.Test.YtaehfiohjkiajaaGreatHx7
import Derived.Test.YtaehfiohjkiajaaGreatProg
import Derived.KernelRfl
import Derived.Test.YtaehfiohjkiajaaGreatHx5
set_option linter.unusedSimpArgs false
set_option linter.unusedVariables false
open UInt64 (ofNat toNat_add toNat_ofNat' toNat_mul)
open List (replicate length_set length_replicate)
open Nat (zero_add mod_eq_of_lt mul_add mul_comm gcd pow_succ mul_assoc le_of_dvd add_mul)
open Option (getD_none getD_some)
set_option maxRecDepth 100000
namespace Go.Proofs.YtaehfiohjkiajaaGreat
open Go Go.Sx
def tys:List Ty:=[
 zT,
 zT,
 ⟨.int .i64,1,8,[(1,.i .i64 0)],false⟩,
 ⟨.int .i64,1,8,[(1,.i .i64 0)],false⟩,
 ⟨.bool,1,1,[(1,.ff)],false⟩,
 ⟨.int .u8,1,1,[(1,.u8 0)],false⟩,
 ⟨.int .u8,1,1,[(1,.u8 0)],false⟩,
 ⟨.struct [(0,2),(1,3),(2,4),(3,6)],4,24,[(1,.i .i64 0),(1,.i .i64 0),(1,.ff),(1,.u8 0)],true⟩,
 ⟨.struct [(0,2),(1,3),(2,4),(3,6)],4,24,[(1,.i .i64 0),(1,.i .i64 0),(1,.ff),(1,.u8 0)],true⟩,
 ⟨.string,1,16,[(1,.str [])],false⟩,
 ⟨.string,1,16,[(1,.str [])],false⟩,
 ⟨.string,1,16,[(1,.str [])],false⟩,
 ⟨.int .u64,1,8,[(1,.u64 0)],false⟩,
 ⟨.struct [(0,9),(1,12)],2,24,[(1,.str []),(1,.u64 0)],false⟩,
 ⟨.struct [(0,9),(1,12)],2,24,[(1,.str []),(1,.u64 0)],false⟩,
 ⟨.pointer 213,1,8,[(1,.nilp)],false⟩,
 ⟨.pointer 216,1,8,[(1,.nilp)],false⟩,
 ⟨.pointer 225,1,8,[(1,.nilp)],false⟩,
 ⟨.struct [(0,17)],1,8,[(1,.nilp)],false⟩,
 ⟨.struct [(0,17)],1,8,[(1,.nilp)],false⟩,
 zT,
 ⟨.int .i32,1,4,[(1,.i .i32 0)],false⟩,
 ⟨.array 32 5,32,32,[(32,.a8 (replicate 32 0))],false⟩,
 ⟨.slice 5,1,24,[(1,.nsl)],false⟩,
 ⟨.array 64 5,64,64,[(64,.a8 (replicate 64 0))],false⟩,
 zT,
 ⟨.pointer 100,1,8,[(1,.nilp)],false⟩,
 ⟨.struct [(0,26)],1,8,[(1,.nilp)],false⟩,
 ⟨.struct [(0,26)],1,8,[(1,.nilp)],false⟩,
 zT,
 ⟨.pointer 70,1,8,[(1,.nilp)],false⟩,
 ⟨.struct [(0,30)],1,8,[(1,.nilp)],false⟩,
 ⟨.struct [(0,30)],1,8,[(1,.nilp)],false⟩,
 zT,
 ⟨.array 64 5,64,64,[(64,.a8 (replicate 64 0))],false⟩,
 zT,
 ⟨.array 32 5,32,32,[(32,.a8 (replicate 32 0))],false⟩,
 zT,
 zT,
 zT,
 zT,
 zT,
 zT,
 zT,
 zT,
 zT,
 zT,
 zT,
 zT,
 zT,
 zT,
 zT,
 ⟨.slice 23,1,24,[(1,.nsl)],false⟩,
 zT,
 zT,
 ⟨.struct [(0,3),(1,52)],2,32,[(1,.i .i64 0),(1,.nsl)],false⟩,
 ⟨.struct [(0,3),(1,52)],2,32,[(1,.i .i64 0),(1,.nsl)],false⟩,
 zT,
 zT,
 zT,
 zT,
 zT,
 ⟨.array 16 5,16,16,[(16,.a8 (replicate 16 0))],false⟩,
 zT,
 zT,
 zT,
 zT,
 zT,
 ⟨.slice 56,1,24,[(1,.nsl)],false⟩,
 ⟨.struct [(0,68)],1,24,[(1,.nsl)],false⟩,
 ⟨.struct [(0,68)],1,24,[(1,.nsl)],false⟩,
 ⟨.struct [(0,22),(32,23)],33,56,[(32,.a8 (replicate 32 0)),(1,.nsl)],false⟩,
 ⟨.struct [(0,22),(32,23)],33,56,[(32,.a8 (replicate 32 0)),(1,.nsl)],false⟩,
 zT,
 zT,
 zT,
 ⟨.int .u64,1,8,[(1,.u64 0)],false⟩,
 ⟨.array 5 76,5,40,[(5,.a64 (replicate 5 0))],false⟩,
 ⟨.struct [(0,77)],5,40,[(5,.a64 (replicate 5 0))],true⟩,
 ⟨.struct [(0,77)],5,40,[(5,.a64 (replicate 5 0))],true⟩,
 ⟨.struct [(0,79),(5,79),(10,79),(15,79),(20,4)],21,168,[(5,.a64 (replicate 5 0)),(5,.a64 (replicate 5 0)),(5,.a64 (replicate 5 0)),(5,.a64 (replicate 5 0)),(1,.ff)],false⟩,
 ⟨.struct [(0,79),(5,79),(10,79),(15,79),(20,4)],21,168,[(5,.a64 (replicate 5 0)),(5,.a64 (replicate 5 0)),(5,.a64 (replicate 5 0)),(5,.a64 (replicate 5 0)),(1,.ff)],false⟩,
 zT,
 zT,
 zT,
 zT,
 zT,
 zT,
 zT,
 zT,
 zT,
 zT,
 zT,
 zT,
 zT,
 zT,
 zT,
 ⟨.slice 103,1,24,[(1,.nsl)],false⟩,
 ⟨.map 9 3,1,8,[(1,.nilmp)],false⟩,
 ⟨.struct [(0,97),(1,98)],2,32,[(1,.nsl),(1,.nilmp)],false⟩,
 ⟨.struct [(0,97),(1,98)],2,32,[(1,.nsl),(1,.nilmp)],false⟩,
 ⟨.slice 115,1,24,[(1,.nsl)],false⟩,
 ⟨.struct [(0,3),(1,52),(2,101)],3,56,[(1,.i .i64 0),(1,.nsl),(1,.nsl)],false⟩,
 ⟨.struct [(0,3),(1,52),(2,101)],3,56,[(1,.i .i64 0),(1,.nsl),(1,.nsl)],false⟩,
 ⟨.array 16 3,16,128,[(16,.ai (replicate 16 0))],false⟩,
 ⟨.array 16 3,16,128,[(16,.ai (replicate 16 0))],false⟩,
 ⟨.struct [(0,105),(16,105),(32,105)],48,384,[(16,.ai (replicate 16 0)),(16,.ai (replicate 16 0)),(16,.ai (replicate 16 0))],true⟩,
 ⟨.struct [(0,105),(16,105),(32,105)],48,384,[(16,.ai (replicate 16 0)),(16,.ai (replicate 16 0)),(16,.ai (replicate 16 0))],true⟩,
 zT,
 zT,
 zT,
 zT,
 zT,
 zT,
 zT,
 ⟨.slice 3,1,24,[(1,.nsl)],false⟩,
 zT,
 zT,
 zT,
 zT,
 zT,
 ⟨.pointer 169,1,8,[(1,.nilp)],false⟩,
 zT,
 zT,
 zT,
 ⟨.pointer 178,1,8,[(1,.nilp)],false⟩,
 zT,
 zT,
 zT,
 zT,
 zT,
 zT,
 zT,
 zT,
 ⟨.int .u64,1,8,[(1,.u64 0)],false⟩,
 ⟨.array 4 76,4,32,[(4,.a64 (replicate 4 0))],false⟩,
 ⟨.array 4 76,4,32,[(4,.a64 (replicate 4 0))],false⟩,
 zT,
 ⟨.array 8 76,8,64,[(8,.a64 (replicate 8 0))],false⟩,
 ⟨.slice 76,1,24,[(1,.nsl)],false⟩,
 zT,
 zT,
 zT,
 zT,
 zT,
 zT,
 zT,
 zT,
 zT,
 zT,
 zT,
 zT,
 zT,
 zT,
 zT,
 zT,
 zT,
 zT,
 zT,
 zT,
 zT,
 zT,
 zT,
 zT,
 zT,
 zT,
 ⟨.array 256 5,256,256,[(256,.a8 (replicate 256 0))],false⟩,
 ⟨.array 15 62,240,240,[(240,.a8 (replicate 240 0))],false⟩,
 ⟨.struct [(0,166),(256,166),(512,167)],752,752,[(256,.a8 (replicate 256 0)),(256,.a8 (replicate 256 0)),(240,.a8 (replicate 240 0))],false⟩,
 ⟨.struct [(0,166),(256,166),(512,167)],752,752,[(256,.a8 (replicate 256 0)),(256,.a8 (replicate 256 0)),(240,.a8 (replicate 240 0))],false⟩,
 ⟨.array 4 5,4,4,[(4,.a8 (replicate 4 0))],false⟩,
 ⟨.array 60 170,240,240,[(240,.a8 (replicate 240 0))],false⟩,
 zT,
 zT,
 zT,
 ⟨.int .u32,1,4,[(1,.u32 0)],false⟩,
 ⟨.array 8 175,8,32,[(8,.a32 (replicate 8 0))],false⟩,
 ⟨.struct [(0,176),(8,23),(9,76)],10,64,[(8,.a32 (replicate 8 0)),(1,.nsl),(1,.u64 0)],false⟩,
 ⟨.struct [(0,176),(8,23),(9,76)],10,64,[(8,.a32 (replicate 8 0)),(1,.nsl),(1,.u64 0)],false⟩,
 zT,
 ⟨.pointer 176,1,8,[(1,.nilp)],false⟩,
 zT,
 ⟨.pointer 138,1,8,[(1,.nilp)],false⟩,
 zT,
 ⟨.struct [(0,76),(1,76)],2,16,[(1,.u64 0),(1,.u64 0)],true⟩,
 ⟨.struct [(0,76),(1,76)],2,16,[(1,.u64 0),(1,.u64 0)],true⟩,
 ⟨.array 5 185,10,80,[(1,.u64 0),(1,.u64 0),(1,.u64 0),(1,.u64 0),(1,.u64 0),(1,.u64 0),(1,.u64 0),(1,.u64 0),(1,.u64 0),(1,.u64 0)],false⟩,
 zT,
 zT,
 zT,
 zT,
 zT,
 zT,
 zT,
 zT,
 zT,
 zT,
 zT,
 zT,
 zT,
 ⟨.array 64 175,64,256,[(64,.a32 (replicate 64 0))],false⟩,
 zT,
 ⟨.array 80 76,80,640,[(80,.a64 (replicate 80 0))],false⟩,
 zT,
 zT,
 zT,
 zT,
 ⟨.slice 134,1,24,[(1,.nsl)],false⟩,
 zT,
 zT,
 zT,
 zT,
 ⟨.struct [(0,17),(1,17),(2,17),(3,9)],4,40,[(1,.nilp),(1,.nilp),(1,.nilp),(1,.str [])],false⟩,
 ⟨.struct [(0,17),(1,17),(2,17),(3,9)],4,40,[(1,.nilp),(1,.nilp),(1,.nilp),(1,.str [])],false⟩,
 zT,
 zT,
 zT,
 zT,
 ⟨.int .u8,1,1,[(1,.u8 0)],false⟩,
 ⟨.int .u8,1,1,[(1,.u8 0)],false⟩,
 zT,
 ⟨.pointer 5,1,8,[(1,.nilp)],false⟩,
 ⟨.int .i32,1,4,[(1,.i .i32 0)],false⟩,
 ⟨.int .i32,1,4,[(1,.i .i32 0)],false⟩,
 ⟨.struct [(0,12),(1,12),(2,175),(3,218),(4,5),(5,5),(6,219),(7,220),(8,221),(9,222),(10,223)],11,48,[(1,.u64 0),(1,.u64 0),(1,.u32 0),(1,.u8 0),(1,.u8 0),(1,.u8 0),(1,.u8 0),(1,.raw .nilFunc),(1,.nilp),(1,.i .i32 0),(1,.i .i32 0)],false⟩,
 ⟨.struct [(0,12),(1,12),(2,175),(3,218),(4,5),(5,5),(6,219),(7,220),(8,221),(9,222),(10,223)],11,48,[(1,.u64 0),(1,.u64 0),(1,.u32 0),(1,.u8 0),(1,.u8 0),(1,.u8 0),(1,.u8 0),(1,.raw .nilFunc),(1,.nilp),(1,.i .i32 0),(1,.i .i32 0)],false⟩,
 zT,
 zT,
 ⟨.slice 4,1,24,[(1,.nsl)],false⟩]
noncomputable def cx:Ctx where
 P:=Tryz.prog
 tys:=tys
 chk:=by kernel_rfl
 mixed:=by kernel_rfl
theorem acF:aJA cx.P 84 .add64:=aHW (fn:=Tryz.f84) rfl (by kernel_rfl) (by kernel_rfl) (by kernel_rfl) (by kernel_rfl)
theorem abS:aJA cx.P 142 .sub64:=aHV (fn:=Tryz.f142) rfl (by kernel_rfl) (by kernel_rfl) (by kernel_rfl) (by kernel_rfl)
noncomputable def Γ:Cfg where
 toCtx:=cx
 calls:=[4,5,6,7,8,9,10,11,12,13,14,15,16,17,18,19,20,21,22,23,24,25,26,27,28,29,30,31,32,33,34,35,36,37,38,39,40,41,42,43,44,45,46,47,48,49,50,51,52,53,54,55,56,57,58,59,60,61,62,63,64,65,66,67,68,69,70,71,72,73,74,75,76,77,78,79,80,81,82,83,85,86,87,88,89,90,91,92,93,94,95,96,97,98,99,100,101,102,103,104,105,106,107,108,109,110,111,112,113,114,115,116,117,118,119,120,121,122,123,124,125,126,127,128,129,130,131,132,133,134,135,136,137,138,139,140,141,143,144,145,146,147,148,149]
 callsOK:=by kernel_rfl
 exts:=[(84,.add64),(142,.sub64)]
 extsOK:=by
  intro p hp;simp only[List.mem_cons,List.not_mem_nil,or_false]at hp;rcases hp with rfl|rfl
  .exact acF
  exact abS
theorem szs:(Γ.ty 3).size=1/\(Γ.ty 3).bytes=8/\(Γ.ty 4).size=1/\(Γ.ty 4).bytes=1/\(Γ.ty 5).size=1/\(Γ.ty 5).bytes=1/\(Γ.ty 9).size=1/\(Γ.ty 9).bytes=16/\(Γ.ty 22).size=32/\(Γ.ty 22).bytes=32/\(Γ.ty 23).size=1/\(Γ.ty 23).bytes=24/\(Γ.ty 24).size=64/\(Γ.ty 24).bytes=64/\(Γ.ty 26).size=1/\(Γ.ty 26).bytes=8/\(Γ.ty 27).size=1/\(Γ.ty 27).bytes=8/\(Γ.ty 28).size=1/\(Γ.ty 28).bytes=8/\(Γ.ty 30).size=1/\(Γ.ty 30).bytes=8/\(Γ.ty 31).size=1/\(Γ.ty 31).bytes=8/\(Γ.ty 32).size=1/\(Γ.ty 32).bytes=8/\(Γ.ty 34).size=64/\(Γ.ty 34).bytes=64/\(Γ.ty 36).size=32/\(Γ.ty 36).bytes=32/\(Γ.ty 52).size=1/\(Γ.ty 52).bytes=24/\(Γ.ty 55).size=2/\(Γ.ty 55).bytes=32/\(Γ.ty 56).size=2/\(Γ.ty 56).bytes=32/\(Γ.ty 62).size=16/\(Γ.ty 62).bytes=16/\(Γ.ty 68).size=1/\(Γ.ty 68).bytes=24/\(Γ.ty 69).size=1/\(Γ.ty 69).bytes=24/\(Γ.ty 70).size=1/\(Γ.ty 70).bytes=24/\(Γ.ty 71).size=33/\(Γ.ty 71).bytes=56/\(Γ.ty 72).size=33/\(Γ.ty 72).bytes=56/\(Γ.ty 76).size=1/\(Γ.ty 76).bytes=8/\(Γ.ty 77).size=5/\(Γ.ty 77).bytes=40/\(Γ.ty 78).size=5/\(Γ.ty 78).bytes=40/\(Γ.ty 79).size=5/\(Γ.ty 79).bytes=40/\(Γ.ty 80).size=21/\(Γ.ty 80).bytes=168/\(Γ.ty 81).size=21/\(Γ.ty 81).bytes=168/\(Γ.ty 97).size=1/\(Γ.ty 97).bytes=24/\(Γ.ty 98).size=1/\(Γ.ty 98).bytes=8/\(Γ.ty 99).size=2/\(Γ.ty 99).bytes=32/\(Γ.ty 100).size=2/\(Γ.ty 100).bytes=32/\(Γ.ty 101).size=1/\(Γ.ty 101).bytes=24/\(Γ.ty 102).size=3/\(Γ.ty 102).bytes=56/\(Γ.ty 103).size=3/\(Γ.ty 103).bytes=56/\(Γ.ty 104).size=16/\(Γ.ty 104).bytes=128/\(Γ.ty 105).size=16/\(Γ.ty 105).bytes=128/\(Γ.ty 106).size=48/\(Γ.ty 106).bytes=384/\(Γ.ty 107).size=48/\(Γ.ty 107).bytes=384/\(Γ.ty 115).size=1/\(Γ.ty 115).bytes=24/\(Γ.ty 121).size=1/\(Γ.ty 121).bytes=8/\(Γ.ty 125).size=1/\(Γ.ty 125).bytes=8/\(Γ.ty 134).size=1/\(Γ.ty 134).bytes=8/\(Γ.ty 135).size=4/\(Γ.ty 135).bytes=32/\(Γ.ty 136).size=4/\(Γ.ty 136).bytes=32/\(Γ.ty 138).size=8/\(Γ.ty 138).bytes=64/\(Γ.ty 139).size=1/\(Γ.ty 139).bytes=24/\(Γ.ty 166).size=256/\(Γ.ty 166).bytes=256/\(Γ.ty 167).size=240/\(Γ.ty 167).bytes=240/\(Γ.ty 168).size=752/\(Γ.ty 168).bytes=752/\(Γ.ty 169).size=752/\(Γ.ty 169).bytes=752/\(Γ.ty 170).size=4/\(Γ.ty 170).bytes=4/\(Γ.ty 171).size=240/\(Γ.ty 171).bytes=240/\(Γ.ty 175).size=1/\(Γ.ty 175).bytes=4/\(Γ.ty 176).size=8/\(Γ.ty 176).bytes=32/\(Γ.ty 177).size=10/\(Γ.ty 177).bytes=64/\(Γ.ty 178).size=10/\(Γ.ty 178).bytes=64/\(Γ.ty 180).size=1/\(Γ.ty 180).bytes=8/\(Γ.ty 182).size=1/\(Γ.ty 182).bytes=8/\(Γ.ty 184).size=2/\(Γ.ty 184).bytes=16/\(Γ.ty 185).size=2/\(Γ.ty 185).bytes=16/\(Γ.ty 186).size=10/\(Γ.ty 186).bytes=80/\(Γ.ty 200).size=64/\(Γ.ty 200).bytes=256/\(Γ.ty 202).size=80/\(Γ.ty 202).bytes=640/\(Γ.ty 207).size=1/\(Γ.ty 207).bytes=24:=⟨rfl,rfl,rfl,rfl,rfl,rfl,rfl,rfl,rfl,rfl,rfl,rfl,rfl,rfl,rfl,rfl,rfl,rfl,rfl,rfl,rfl,rfl,rfl,rfl,rfl,rfl,rfl,rfl,rfl,rfl,rfl,rfl,rfl,rfl,rfl,rfl,rfl,rfl,rfl,rfl,rfl,rfl,rfl,rfl,rfl,rfl,rfl,rfl,rfl,rfl,rfl,rfl,rfl,rfl,rfl,rfl,rfl,rfl,rfl,rfl,rfl,rfl,rfl,rfl,rfl,rfl,rfl,rfl,rfl,rfl,rfl,rfl,rfl,rfl,rfl,rfl,rfl,rfl,rfl,rfl,rfl,rfl,rfl,rfl,rfl,rfl,rfl,rfl,rfl,rfl,rfl,rfl,rfl,rfl,rfl,rfl,rfl,rfl,rfl,rfl,rfl,rfl,rfl,rfl,rfl,rfl,rfl,rfl,rfl,rfl,rfl,rfl,rfl,rfl,rfl,rfl,rfl,rfl,rfl,rfl,rfl,rfl,rfl,rfl,rfl,rfl,rfl,rfl,rfl,rfl,rfl,rfl,rfl,rfl⟩
theorem fc {p:Prop} (h:p:=by first|((repeat' (first|exact trivial|refine zA.app ?_ ?_|refine zA.zd ?_ ?_|refine zA.cons ?_ ?_ |with_reducible rfl|with_reducible assumption|omega |(simp only[rng,Ix.val,zQ,addI,szs]<;>omega)|(simp only[rng,Ix.val,zIn,zme,zQ,addI,Option.getD_none,Option.getD_some,zlT,zlD,zlA,List.length_set,List.length_replicate,szs, *]<;>omega)|(simp only[Ix.val];with_reducible assumption)|exact UInt8.toNat_lt _|(apply Eq.trans;(with_reducible assumption);exact rfl)|exact rfl|exactλ_ _=>rfl));done)|fail):p:=h
theorem fcn {p:Prop} (h:p:=by first|((repeat' (first|exact trivial|refine zA.app ?_ ?_|refine zA.zd ?_ ?_|refine zA.cons ?_ ?_ |with_reducible rfl|with_reducible assumption|omega |(simp only[Nat.zero_add,zIn,rng,Ix.val,zQ,addI,szs]<;>omega)|(simp only[Nat.zero_add,zIn,rng,Ix.val,zIn,zme,zQ,addI,Option.getD_none,Option.getD_some,zlT,zlD,zlA,List.length_set,List.length_replicate,szs, *]<;>omega)|(simp only[Ix.val];with_reducible assumption)|exact UInt8.toNat_lt _|(apply Eq.trans;(with_reducible assumption);exact rfl)|exact rfl|exactλ_ _=>rfl));done)|fail):p:=h
theorem gi {M M':Mm} {ok:Mm→Bool} {X:Mm→Prop} {ok2:Mm→Bool} {Y:Prop} (k:X []) (h1:M'=[]++M:=by exact rfl) (h2:ok []=true:=by exact rfl):cL M M' ok X ok2 Y:=cL.i [] h1 h2 k
theorem ga {M M':Mm} {ok:Mm→Bool} {X:Mm→Prop} {ok2:Mm→Bool} {Y:Prop} (k:zfM (q9 M M') X) (h1:M'=q9 M M'++M:=by exact rfl) (h2:ok (q9 M M')=true:=by exact rfl):cL M M' ok X ok2 Y:=cL.auto h1 h2 k
theorem gt {M M':Mm} {ok:Mm→Bool} {X:Mm→Prop} {ok2:Mm→Bool} {Y:Prop} (k:Y) (h1:M'=q9 M M'++M:=by exact rfl) (h2:ok2 (q9 M M')=true:=by exact rfl):cL M M' ok X ok2 Y:=cL.turn h1 h2 k
theorem sd {ps:List Prop} {K:Prop} (k:K) (h:zA ps:=by exact fc):fg ps K:=fg.i h k
theorem sdn {ps:List Prop} {K:Prop} (k:K) (h:zA ps:=by exact fcn):fg ps K:=fg.i h k
theorem fcE {p:Prop} (h:p:=by first|((repeat' (first|exact trivial|refine zA.app ?_ ?_|refine zA.zd ?_ ?_|refine zA.cons ?_ ?_|with_reducible rfl|with_reducible assumption|omega|(simp only[Nat.zero_add,e0,e1,e2,e3,e4,zIn,rng,Ix.val,zQ,addI,szs]<;>omega)|(simp only[Nat.zero_add,e0,e1,e2,e3,e4,zIn,rng,Ix.val,zme,zQ,addI,Option.getD_none,Option.getD_some,zlT,zlD,zlA,List.length_set,List.length_replicate,szs, *]<;>omega)|exact fc|fail));done)|fail):p:=h
theorem sdE {ps:List Prop} {K:Prop} (k:K) (h:zA ps:=by exact fcE):fg ps K:=fg.i h k
theorem fcF {p:Prop} (h:p:=by first|((repeat' (first|exact trivial|refine zA.app ?_ ?_|refine zA.zd ?_ ?_|refine zA.cons ?_ ?_|with_reducible rfl|with_reducible assumption|omega|(simp only[Nat.zero_add,e0,zIn,rng,Ix.val,zQ,addI,szs]<;>omega)|(simp only[Nat.zero_add,e0,zIn,rng,Ix.val,zme,zQ,addI,Option.getD_none,Option.getD_some,zlT,zlD,zlA,List.length_set,List.length_replicate,szs, *]<;>omega)|exact fc|fail));done)|fail):p:=h
theorem sdF {ps:List Prop} {K:Prop} (k:K) (h:zA ps:=by exact fcF):fg ps K:=fg.i h k
theorem fcG {p:Prop} (h:p:=by first|((repeat' (first|exact trivial|refine zA.app ?_ ?_|refine zA.zd ?_ ?_|refine zA.cons ?_ ?_|with_reducible rfl|with_reducible assumption|omega|(simp only[Nat.zero_add,e3,zIn,rng,Ix.val,zQ,addI,szs]<;>omega)|(simp only[Nat.zero_add,e3,zIn,rng,Ix.val,zme,zQ,addI,Option.getD_none,Option.getD_some,zlT,zlD,zlA,List.length_set,List.length_replicate,szs, *]<;>omega)|exact fc|fail));done)|fail):p:=h
theorem fcH {p:Prop} (h:p:=by first|((repeat' (first|exact trivial|refine zA.app ?_ ?_|refine zA.zd ?_ ?_|refine zA.cons ?_ ?_|with_reducible rfl|with_reducible assumption|omega|(simp only[Nat.zero_add,e4,zIn,rng,Ix.val,zQ,addI,szs]<;>omega)|(simp only[Nat.zero_add,e4,zIn,rng,Ix.val,zme,zQ,addI,Option.getD_none,Option.getD_some,zlT,zlD,zlA,List.length_set,List.length_replicate,szs, *]<;>omega)|exact fc|fail));done)|fail):p:=h
theorem fcI {p:Prop} (h:p:=by first|((repeat' (first|exact trivial|refine zA.app ?_ ?_|refine zA.zd ?_ ?_|refine zA.cons ?_ ?_|with_reducible rfl|with_reducible assumption|omega|(simp only[Nat.zero_add,e0,e1,zIn,rng,Ix.val,zQ,addI,szs]<;>omega)|(simp only[Nat.zero_add,e0,e1,zIn,rng,Ix.val,zme,zQ,addI,Option.getD_none,Option.getD_some,zlT,zlD,zlA,List.length_set,List.length_replicate,szs, *]<;>omega)|exact fc|fail));done)|fail):p:=h
theorem sdI {ps:List Prop} {K:Prop} (k:K) (h:zA ps:=by exact fcI):fg ps K:=fg.i h k
theorem fcJ {p:Prop} (h:p:=by first|((repeat' (first|exact trivial|refine zA.app ?_ ?_|refine zA.zd ?_ ?_|refine zA.cons ?_ ?_|with_reducible rfl|with_reducible assumption|omega|(simp only[Nat.zero_add,e1,e2,zIn,rng,Ix.val,zQ,addI,szs]<;>omega)|(simp only[Nat.zero_add,e1,e2,zIn,rng,Ix.val,zme,zQ,addI,Option.getD_none,Option.getD_some,zlT,zlD,zlA,List.length_set,List.length_replicate,szs, *]<;>omega)|exact fc|fail));done)|fail):p:=h
theorem sdJ {ps:List Prop} {K:Prop} (k:K) (h:zA ps:=by exact fcJ):fg ps K:=fg.i h k
theorem fcK {p:Prop} (h:p:=by first|((repeat' (first|exact trivial|refine zA.app ?_ ?_|refine zA.zd ?_ ?_|refine zA.cons ?_ ?_|with_reducible rfl|with_reducible assumption|omega|(simp only[Nat.zero_add,eq2,hL,hm,hx,zIn,rng,Ix.val,zQ,addI,szs]<;>omega)|(simp only[Nat.zero_add,eq2,hL,hm,hx,zIn,rng,Ix.val,zme,zQ,addI,Option.getD_none,Option.getD_some,zlT,zlD,zlA,List.length_set,List.length_replicate,szs, *]<;>omega)|exact fc|fail));done)|fail):p:=h
theorem sdK {ps:List Prop} {K:Prop} (k:K) (h:zA ps:=by exact fcK):fg ps K:=fg.i h k
theorem fcL {p:Prop} (h:p:=by first|((repeat' (first|exact trivial|refine zA.app ?_ ?_|refine zA.zd ?_ ?_|refine zA.cons ?_ ?_|with_reducible rfl|with_reducible assumption|omega|(simp only[Nat.zero_add,eq2,eqg,hx,zIn,rng,Ix.val,zQ,addI,szs]<;>omega)|(simp only[Nat.zero_add,eq2,eqg,hx,zIn,rng,Ix.val,zme,zQ,addI,Option.getD_none,Option.getD_some,zlT,zlD,zlA,List.length_set,List.length_replicate,szs, *]<;>omega)|exact fc|fail));done)|fail):p:=h
theorem sdL {ps:List Prop} {K:Prop} (k:K) (h:zA ps:=by exact fcL):fg ps K:=fg.i h k
theorem fcM {p:Prop} (h:p:=by first|((repeat' (first|exact trivial|refine zA.app ?_ ?_|refine zA.zd ?_ ?_|refine zA.cons ?_ ?_|with_reducible rfl|with_reducible assumption|omega|(simp only[Nat.zero_add,hN0,zIn,rng,Ix.val,zQ,addI,szs]<;>omega)|(simp only[Nat.zero_add,hN0,zIn,rng,Ix.val,zme,zQ,addI,Option.getD_none,Option.getD_some,zlT,zlD,zlA,List.length_set,List.length_replicate,szs, *]<;>omega)|exact fc|fail));done)|fail):p:=h
theorem fcN {p:Prop} (h:p:=by first|((repeat' (first|exact trivial|refine zA.app ?_ ?_|refine zA.zd ?_ ?_|refine zA.cons ?_ ?_|with_reducible rfl|with_reducible assumption|omega|(simp only[Nat.zero_add,ht,zIn,rng,Ix.val,zQ,addI,szs]<;>omega)|(simp only[Nat.zero_add,ht,zIn,rng,Ix.val,zme,zQ,addI,Option.getD_none,Option.getD_some,zlT,zlD,zlA,List.length_set,List.length_replicate,szs, *]<;>omega)|exact fc|fail));done)|fail):p:=h
theorem fcO {p:Prop} (h:p:=by first|((repeat' (first|exact trivial|refine zA.app ?_ ?_|refine zA.zd ?_ ?_|refine zA.cons ?_ ?_|with_reducible rfl|with_reducible assumption|omega|(simp only[Nat.zero_add,hw4,zIn,rng,Ix.val,zQ,addI,szs]<;>omega)|(simp only[Nat.zero_add,hw4,zIn,rng,Ix.val,zme,zQ,addI,Option.getD_none,Option.getD_some,zlT,zlD,zlA,List.length_set,List.length_replicate,szs, *]<;>omega)|exact fc|fail));done)|fail):p:=h
theorem sdO {ps:List Prop} {K:Prop} (k:K) (h:zA ps:=by exact fcO):fg ps K:=fg.i h k
theorem fcP {p:Prop} (h:p:=by first|((repeat' (first|exact trivial|refine zA.app ?_ ?_|refine zA.zd ?_ ?_|refine zA.cons ?_ ?_|with_reducible rfl|with_reducible assumption|omega|(simp only[Nat.zero_add,e1,e2,e3,e4,zIn,rng,Ix.val,zQ,addI,szs]<;>omega)|(simp only[Nat.zero_add,e1,e2,e3,e4,zIn,rng,Ix.val,zme,zQ,addI,Option.getD_none,Option.getD_some,zlT,zlD,zlA,List.length_set,List.length_replicate,szs, *]<;>omega)|exact fc|fail));done)|fail):p:=h
theorem sdP {ps:List Prop} {K:Prop} (k:K) (h:zA ps:=by exact fcP):fg ps K:=fg.i h k
theorem fcQ {p:Prop} (h:p:=by first|((repeat' (first|exact trivial|refine zA.app ?_ ?_|refine zA.zd ?_ ?_|refine zA.cons ?_ ?_|with_reducible rfl|with_reducible assumption|omega|(simp only[Nat.zero_add,hV,zIn,rng,Ix.val,zQ,addI,szs]<;>omega)|(simp only[Nat.zero_add,hV,zIn,rng,Ix.val,zme,zQ,addI,Option.getD_none,Option.getD_some,zlT,zlD,zlA,List.length_set,List.length_replicate,szs, *]<;>omega)|exact fc|fail));done)|fail):p:=h
theorem sdQ {ps:List Prop} {K:Prop} (k:K) (h:zA ps:=by exact fcQ):fg ps K:=fg.i h k
theorem fcR {p:Prop} (h:p:=by first|((repeat' (first|exact trivial|refine zA.app ?_ ?_|refine zA.zd ?_ ?_|refine zA.cons ?_ ?_|with_reducible rfl|with_reducible assumption|omega|(simp only[Nat.zero_add,e1,zIn,rng,Ix.val,zQ,addI,szs]<;>omega)|(simp only[Nat.zero_add,e1,zIn,rng,Ix.val,zme,zQ,addI,Option.getD_none,Option.getD_some,zlT,zlD,zlA,List.length_set,List.length_replicate,szs, *]<;>omega)|exact fc|fail));done)|fail):p:=h
theorem sdR {ps:List Prop} {K:Prop} (k:K) (h:zA ps:=by exact fcR):fg ps K:=fg.i h k
theorem _root_.Go.gr {p:Prop} (h:p:=by grind -lia -linarith (splits:=0)):p:=h
abbrev r_4:List Nat:=[0,1,2,3]
abbrev r_5:List Nat:=[0,1,2,3,4]
abbrev r_6:List Nat:=[0,1,2,3,4,5]
abbrev r_7:List Nat:=[0,1,2,3,4,5,6]
abbrev r_8:List Nat:=[0,1,2,3,4,5,6,7]
abbrev r_9:List Nat:=[0,1,2,3,4,5,6,7,8]
abbrev ek:List Nat:=[0,1,2,3,4,5,6,7,8,9]
abbrev fe:List Nat:=[0,1,2,3,4,5,6,7,8,9,10]
abbrev kX:List Nat:=[0,1,2,3,4,5,6,7,8,9,10,11]
abbrev jO:List Nat:=[0,1,2,3,4,5,6,7,8,9,10,11,12]
abbrev oB:List Nat:=[0,1,2,3,4,5,6,7,8,9,10,11,12,13]
abbrev nw:List Nat:=[0,1,2,3,4,5,6,7,8,9,10,11,12,13,14]
abbrev na:List Nat:=[0,1,2,3,4,5,6,7,8,9,10,11,12,13,14,15]
abbrev wG:List Nat:=[0,1,2,3,4,5,6,7,8,9,10,11,12,13,14,15,16]
abbrev aBU:List Nat:=[0,1,2,3,4,5,6,7,8,9,10,11,12,13,14,15,16,17]
abbrev uf:List Nat:=[0,1,2,3,4,5,6,7,8,9,10,11,12,13,14,15,16,17,18]
abbrev aJG:List Nat:=[0,1,2,3,4,5,6,7,8,9,10,11,12,13,14,15,16,17,18,19]
abbrev aJF:List Nat:=[0,1,2,3,4,5,6,7,8,9,10,11,12,13,14,15,16,17,18,19,20]
abbrev acJ:List Nat:=[0,1,2,3,4,5,6,7,8,9,10,11,12,13,14,15,16,17,18,19,20,21]
abbrev aZT:List Nat:=[0,1,2,3,4,5,6,7,8,9,10,11,12,13,14,15,16,17,18,19,20,21,22]
abbrev aW5:List Nat:=[0,1,2,3,4,5,6,7,8,9,10,11,12,13,14,15,16,17,18,19,20,21,22,23]
abbrev aW4:List Nat:=[0,1,2,3,4,5,6,7,8,9,10,11,12,13,14,15,16,17,18,19,20,21,22,23,24]
abbrev aaZ:List Nat:=[0,1,2,3,4,5,6,7,8,9,10,11,12,13,14,15,16,17,18,19,20,21,22,23,24,25]
abbrev aW3:List Nat:=[0,1,2,3,4,5,6,7,8,9,10,11,12,13,14,15,16,17,18,19,20,21,22,23,24,25,26,27]
abbrev aS3:List Nat:=[0,1,2,3,4,5,6,7,8,9,10,11,12,13,14,15,16,17,18,19,20,21,22,23,24,25,26,27,28]
abbrev aS2:List Nat:=[0,1,2,3,4,5,6,7,8,9,10,11,12,13,14,15,16,17,18,19,20,21,22,23,24,25,26,27,28,29]
abbrev aZS:List Nat:=[0,1,2,3,4,5,6,7,8,9,10,11,12,13,14,15,16,17,18,19,20,21,22,23,24,25,26,27,28,29,30]
abbrev aZR:List Nat:=[0,1,2,3,4,5,6,7,8,9,10,11,12,13,14,15,16,17,18,19,20,21,22,23,24,25,26,27,28,29,30,31]
abbrev aaY:List Nat:=[0,1,2,3,4,5,6,7,8,9,10,11,12,13,14,15,16,17,18,19,20,21,22,23,24,25,26,27,28,29,30,31,32,33]
structure Wq (q:Prop):Prop where
 w:q
theorem gA {p q:Prop} (k:q) (h:Wq q->p:=by intro k;(repeat(first|refine gi ?_|refine gt ?_|refine ga ?_|refine sd ?_));exact k.w):p:=h ⟨k⟩
theorem gB {p q:Prop} (k:q) (h:Wq q->p:=by intro k;(repeat refine sd ?_);exact k.w):p:=h ⟨k⟩
theorem gC {p q:Prop} (k:q) (h:Wq q->p:=by intro k;(repeat refine sdn ?_);exact k.w):p:=h ⟨k⟩
theorem gD {p q:Prop} (k:q) (h:Wq q->p:=by intro k;(repeat(first|refine gi ?_|refine sd ?_));exact k.w):p:=h ⟨k⟩
theorem gE {p q:Prop} (k:q) (h:Wq q->p:=by intro k;(repeat(first|refine gt ?_|refine sd ?_));exact k.w):p:=h ⟨k⟩
theorem gN {p q:Prop} (k:q) (h:Wq q->p:=by intro k;(dsimp only[zt,zM,zE,ren,zz,zx,zy,jf,zG,zX,ev,evL,zV,zcT,zcF,act,zP,zO,Ent.zW]);exact k.w):p:=h ⟨k⟩
theorem gP {p q:Prop} (k:q) (h:Wq q->p:=by intro k;(repeat(first|(refine zB.i (λh=>False.elim (by revert h;first|(simp[hP];done)|fail)) (λ_=>?_))|(refine zB.i (λ_=>?_) (λh=>False.elim (by revert h;first|(simp[hP];done)|fail)))|refine gi ?_|refine gt ?_|refine sd ?_));exact k.w):p:=h ⟨k⟩
theorem ky0 {p a b:Prop} (k:a) (h:p:=by first|with_reducible exact trivial|with_reducible rfl|with_reducible exact Iff.rfl|fail):zB p a b:=zB.i (λ_=>k) (λhn=>absurd h hn)
theorem kn0 {p a b:Prop} (k:b) (h:¬p:=by first|(intro hn;with_reducible exact False.elim hn)|(intro hn;with_reducible exact absurd trivial hn)|(intro hn;with_reducible exact absurd rfl hn)|(intro hn;with_reducible exact absurd Iff.rfl hn)|fail):zB p a b:=zB.i (λhn=>absurd hn h) (λ_=>k)
theorem ky {p a b:Prop} (k:a) (h:p:=by first|with_reducible assumption|fail):zB p a b:=zB.i (λ_=>k) (λhn=>absurd h hn)
theorem kn {p a b:Prop} (k:b) (h:¬p:=by first|with_reducible assumption|(intro hn;refine absurd ?_ hn;with_reducible assumption)|fail):zB p a b:=zB.i (λhn=>absurd hn h) (λ_=>k)
end Go.Proofs.YtaehfiohjkiajaaGreat
namespace Go.Cu
def IsP (p:Nat):Prop:=2<=p/\∀m,m∣p->m=1\/m=p
theorem IsP.euclid {p:Nat} (h:IsP p) {a b:Nat} (hd:p∣a*b):p∣a\/p∣b:=by
 rcases h.2 (gcd p a) (Nat.gcd_dvd_left p a)with h1|h1
 .exact Or.inr (Nat.Coprime.dvd_of_dvd_mul_left h1 hd)
 exact Or.inl (h1▸Nat.gcd_dvd_right p a)
theorem exP:∀n,2<=n->∃p,IsP p/\p∣n:=by
 intro n;induction n using Nat.strongRecOn with
 |_ n ih=>
  intro hn;by_cases h:IsP n
  .exact⟨n,h,Nat.dvd_refl n⟩
  have:∃m,m∣n/\m≠1/\m≠n:=by
   apply Classical.byContradiction;intro hc;apply h;refine⟨hn,λm hm=>?_⟩;by_cases h1:m=1
   .exact Or.inl h1
   by_cases h2:m=n
   .exact Or.inr h2
   exact absurd ⟨m,hm,h1,h2⟩ hc
  obtain⟨m,hm,h1,h2⟩:=this;have hle:=le_of_dvd (by omega) hm;have h0:m≠0:=by rintro rfl;have:=Nat.eq_zero_of_zero_dvd hm;omega
  obtain⟨p,hp,hpm⟩:=ih m (by omega) (by omega);exact⟨p,hp,Nat.dvd_trans hpm hm⟩
def ch:Nat->Nat->Nat
 |_,0=>1
 |0,_+1=>0
 |n+1,k+1=>ch n k+ch n (k+1)
theorem aAR:∀n k,(k+1)*ch (n+1) (k+1)=(n+1)*ch n k
 |0,0=>rfl
 |0,k+1=>by show(k+1+1)*(ch 0 (k+1)+ch 0 (k+2))=1*ch 0 (k+1);show(k+2)*(0+0)=1*0;omega
 |n+1,0=>by
  have h:=aAR n 0;show 1*(ch (n+1) 0+ch (n+1) 1)=(n+2)*ch (n+1) 0;have e:ch (n+1) 0=1:=rfl;have e2:ch n 0=1:=by cases n<;>rfl
  have h':1*ch (n+1) 1=(n+1)*ch n 0:=h;rw[e2]at h';rw[e];omega
 |n+1,k+1=>by
  have h1:=aAR n k;have h2:=aAR n (k+1);show(k+2)*(ch (n+1) (k+1)+ch (n+1) (k+2))=(n+2)*ch (n+1) (k+1);have e:ch (n+1) (k+1)=ch n k+ch n (k+1):=rfl;have h3:(k+2)*ch (n+1) (k+1)=(n+1)*ch n k+ch (n+1) (k+1):=by
   rw[<-h1,<-Nat.succ_mul]
  have h2':(k+2)*ch (n+1) (k+2)=(n+1)*ch n (k+1):=h2;rw[mul_add,h3,h2'];have:(n+2)*ch (n+1) (k+1)=(n+1)*ch (n+1) (k+1)+ch (n+1) (k+1):=Nat.succ_mul _ _;rw[this,e,mul_add];omega
theorem aAQ:∀n k,n<k->ch n k=0
 |0,k+1,_=>rfl
 |n+1,k+1,h=>by show ch n k+ch n (k+1)=0;rw[aAQ n k (by omega),aAQ n (k+1) (by omega)]
theorem aIG:∀n,ch n n=1
 |0=>rfl
 |n+1=>by show ch n n+ch n (n+1)=1;rw[aIG n,aAQ n (n+1) (by omega)]
def bs (n a:Nat):Nat->Nat
 |0=>0
 |k+1=>bs n a k+ch n k*a^k
theorem aIL (n a:Nat):∀k,bs (n+1) a (k+1)=bs n a (k+1)+a*bs n a k
 |0=>by show 0+ch (n+1) 0*1=0+ch n 0*1+a*0;have:ch n 0=1:=(by cases n<;>rfl);have e:ch (n+1) 0=1:=rfl;rw[this,e];omega
 |k+1=>by
  have h:=aIL n a k;show bs (n+1) a (k+1)+ch (n+1) (k+1)*a^(k+1)=bs n a (k+1)+ch n (k+1)*a^(k+1)+a*(bs n a k+ch n k*a^k);have e:ch (n+1) (k+1)=ch n k+ch n (k+1):=rfl;have e2:a*(ch n k*a^k)=ch n k*a^(k+1):=by rw[pow_succ,mul_comm (a^k) a,<-mul_assoc,<-mul_assoc,mul_comm a]
  rw[h,e,add_mul,mul_add,e2];omega
theorem aOM (a:Nat):∀n,(a+1)^n=bs n a (n+1)
 |0=>by show 1=0+1*1;rfl
 |n+1=>by
  rw[aIL,pow_succ,aOM a n];have:bs n a (n+2)=bs n a (n+1)+ch n (n+1)*a^(n+1):=rfl;rw[this,aAQ n (n+1) (by omega),Nat.zero_mul,mul_add,mul_comm a];omega
theorem aVH {p k:Nat} (h:IsP p) (h0:0<k) (hk:k<p):p∣ch p k:=by
 obtain⟨k,rfl⟩:∃j,k=j+1:=⟨k-1,by omega⟩;obtain⟨p',rfl⟩:∃j,p=j+1:=⟨p-1,by omega⟩;have h1:=aAR p' k;rcases h.euclid (a:=k+1) (b:=ch (p'+1) (k+1)) ⟨ch p' k,h1⟩with h2|h2
 .have:=le_of_dvd (by omega) h2;omega
 exact h2
theorem aOL {p:Nat} (h:IsP p) (a:Nat):∀k,k+1<=p->bs p a (k+1)%p=1
 |0,_=>by
  have h2:=h.1;show(0+ch p 0*1)%p=1;have:ch p 0=1:=by cases p<;>rfl
  rw[this];exact mod_eq_of_lt (by omega)
 |k+1,hk=>by
  have ih:=aOL h a k (by omega);obtain⟨c,hc⟩:=aVH h (k:=k+1) (by omega) (by omega);show(bs p a (k+1)+ch p (k+1)*a^(k+1))%p=1;rw[hc,mul_assoc,Nat.add_mul_mod_self_left,ih]
theorem aN9 {p:Nat} (h:IsP p):∀a,a^p%p=a%p
 |0=>by have:=h.1;rw[Nat.zero_pow (by omega)]
 |a+1=>by
  have ih:=aN9 h a;have h2:=h.1;rw[aOM];have e:bs p a (p+1)=bs p a p+ch p p*a^p:=rfl;have hb:=aOL h a (p-1) (by omega);rw[show p-1+1=p by omega]at hb;rw[e,aIG,Nat.one_mul,Nat.add_mod,ih,hb,Nat.add_comm,Nat.mod_add_mod]
theorem aHO {p a:Nat} (h:IsP p) (ha:¬p∣a):a^(p-1)%p=1:=by
 have h2:=h.1;have hf:=aN9 h a;have e:a^p=a*a^(p-1):=by
  have:=@Nat.pow_succ' a (p-1);rw[<-this];congr 1;omega
 have hpos:0<a^(p-1):=Nat.pow_pos (by rcases Nat.eq_zero_or_pos a with rfl|h;exact absurd (Nat.dvd_zero p) ha;exact h);have hd:p∣a*(a^(p-1)-1):=by
  rw[Nat.mul_sub,<-e,Nat.mul_one];exact Nat.dvd_of_mod_eq_zero (Nat.sub_mod_eq_zero_of_mod_eq hf)
 rcases h.euclid hd with h3|h3
 .exact absurd h3 ha
 obtain⟨c,hc⟩:=h3;have e2:a^(p-1)=p*c+1:=by omega
 rw[e2,Nat.mul_add_mod];exact mod_eq_of_lt (by omega)
theorem aKN {b r x:Nat} (h:b^x%r=1) (hr:1<r) (k:Nat):b^(x*k)%r=1:=by
 rw[Nat.pow_mul,Nat.pow_mod,h,Nat.one_pow];exact mod_eq_of_lt hr
theorem aPU {b r:Nat} (hr:1<r):∀x y,b^x%r=1->b^y%r=1->b^gcd x y%r=1:=by
 intro x;induction x using Nat.strongRecOn with
 |_ x ih=>
  intro y hx hy;rcases Nat.eq_zero_or_pos x with rfl|h0
  .rw[Nat.gcd_zero_left];exact hy
  rw[Nat.gcd_rec];refine ih (y%x) (Nat.mod_lt _ h0) x ?_ hx;have e:b^y=b^(x*(y/x))*b^(y%x):=by rw[<-Nat.pow_add,Nat.div_add_mod]
  rw[e,Nat.mul_mod,aKN hx hr,Nat.one_mul,Nat.mod_mod]at hy;exact hy
theorem aa1 {N a q m r:Nat} (hq:IsP q) (hN:N=q*m+1) (h1:a^(q*m)%N=1) (hg:gcd (a^m%N+(N-1)) N=1) (hr:IsP r) (hd:r∣N):q∣r-1:=by
 have hr2:=hr.1;apply Classical.byContradiction;intro hc;have hco:gcd q (r-1)=1:=by
  rcases hq.2 _ (Nat.gcd_dvd_left q (r-1))with h|h
  .exact h
  exact absurd (h▸Nat.gcd_dvd_right q (r-1)) hc
 have hbq:(a^m)^q%r=1:=by
  rw[<-Nat.pow_mul,mul_comm m q,<-Nat.mod_mod_of_dvd _ hd,h1];exact mod_eq_of_lt hr2
 have hnd:¬r∣a^m:=by
  intro h;have hq2:=hq.1;have h3:r∣(a^m)^q:=Nat.dvd_trans h ⟨(a^m)^(q-1),by have:=@Nat.pow_succ' (a^m) (q-1);rw[<-this];congr 1;omega⟩;have:=Nat.mod_eq_zero_of_dvd h3;omega
 have hbr:=aHO hr hnd;have hb:=aPU (by omega) q (r-1) hbq hbr;rw[hco,Nat.pow_one]at hb;have h4:(a^m%N)%r=1:=by rw[Nat.mod_mod_of_dvd _ hd];exact hb
 have h5:r∣a^m%N+(N-1):=by
  apply Nat.dvd_of_mod_eq_zero;obtain⟨k,hk⟩:=hd;have hk1:1<=k:=by rcases Nat.eq_zero_or_pos k with rfl|h;rw[Nat.mul_zero]at hk;omega;exact h
  have e:a^m%N+(N-1)=r*(a^m%N/r)+r*k:=by
   have:=Nat.div_add_mod (a^m%N) r;have hN1:1<=N:=by rw[hN];omega
   rw[h4]at this;omega
  rw[e,<-mul_add,Nat.mul_mod_right]
 have h6:r∣1:=hg▸Nat.dvd_gcd h5 hd;have:=le_of_dvd (by omega) h6;omega
theorem aS9 {N Q:Nat} (hN:2<=N) (h:∀r,IsP r->r∣N->Q∣r-1) (hQ:N<(Q+1)*(Q+1)):IsP N:=by
 have key:∀m,m∣N->2<=m->Q+1<=m:=by
  intro m hm h2;obtain⟨r,hr,hrm⟩:=exP m h2;have h1:=h r hr (Nat.dvd_trans hrm hm);have h3:=hr.1;have:=le_of_dvd (by omega) h1;have:=le_of_dvd (by omega) hrm;omega
 refine⟨hN,λm hm=>?_⟩;obtain⟨k,hk⟩:=hm;by_cases h1:m=1
 .exact Or.inl h1
 by_cases h2:m=N
 .exact Or.inr h2
 have m0:m≠0:=by rintro rfl;omega
 have k0:k≠0:=by rintro rfl;omega
 have k1:k≠1:=by rintro rfl;omega
 have:=Nat.mul_le_mul (key m ⟨k,hk⟩ (by omega)) (key k ⟨m,by rw[hk,mul_comm]⟩ (by omega));omega
def aKZ (m a:Nat):Nat->Nat->Nat
 |0,_=>1%m
 |f+1,e=>let h:=aKZ m a f (e/2);if e%2=0 then h*h%m else h*h%m*a%m
theorem tE (m a:Nat):∀f e,e<2^f->aKZ m a f e=a^e%m
 |0,e,h=>by
  have:e=0:=by simpa using h
  subst this;rfl
 |f+1,e,h=>by
  have ih:=tE m a f (e/2) (by rw[pow_succ]at h;omega);have e1:=Nat.div_add_mod e 2;unfold aKZ;rw[ih];show(if e%2=0 then a^(e/2)%m*(a^(e/2)%m)%m else a^(e/2)%m*(a^(e/2)%m)%m*a%m)=a^e%m;rw[<-Nat.mul_mod,<-Nat.pow_add];by_cases h0:e%2=0
  .rw[if_pos h0];congr 2;omega
  rw[if_neg h0,Nat.mod_mul_mod,<-pow_succ];congr 2;omega
def aKT (n:Nat):Nat->Bool
 |0=>true
 |1=>true
 |k+2=>n%(k+2) !=0&&aKT n (k+1)
theorem rg (n:Nat):∀k,aKT n k=true->∀j,2<=j->j<=k->n%j≠0
 |0,_,j,h1,h2=>by omega
 |1,_,j,h1,h2=>by omega
 |k+2,h,j,h1,h2=>by
  unfold aKT at h;rw[Bool.and_eq_true]at h;by_cases hj:j=k+2
  .subst hj;simpa using h.1
  exact rg n (k+1) h.2 j h1 (by omega)
theorem small {n:Nat} (k:Nat) (h2:2<=n) (hk:n<(k+1)*(k+1)) (h:aKT n k=true):IsP n:=by
 have key:∀m,m∣n->2<=m->k+1<=m:=by
  intro m hm hm2;apply Classical.byContradiction;intro hc;exact rg n k h m hm2 (by omega) (Nat.mod_eq_zero_of_dvd hm)
 refine⟨h2,λm hm=>?_⟩;obtain⟨j,hj⟩:=hm;by_cases h1:m=1
 .exact Or.inl h1
 by_cases h3:m=n
 .exact Or.inr h3
 have m0:m≠0:=by rintro rfl;omega
 have k0:j≠0:=by rintro rfl;omega
 have k1:j≠1:=by rintro rfl;omega
 have:=Nat.mul_le_mul (key m ⟨j,hj⟩ (by omega)) (key j ⟨m,by rw[hj,mul_comm]⟩ (by omega));omega
def pkB (N q:Nat):Bool:=N==q*((N-1)/q)+1&&(aKZ N 2 256 (N-1)==1&&gcd (aKZ N 2 256 ((N-1)/q)+(N-1)) N==1)
theorem xM {N q r:Nat} (hq:IsP q) (hN:N<2^256) (h:pkB N q=true) (hr:IsP r) (hd:r∣N):q∣r-1:=by
 unfold pkB at h;rw[Bool.and_eq_true,Bool.and_eq_true,beq_iff_eq,beq_iff_eq,beq_iff_eq]at h;obtain⟨h1,h2,h3⟩:=h;rw[tE N 2 256 _ (by omega)]at h2;rw[tE N 2 256 _ (Nat.lt_of_le_of_lt (Nat.div_le_self _ _) (by omega))]at h3;refine aa1 hq (m:=(N-1)/q) (a:=2) h1 ?_ h3 hr hd;have:q*((N-1)/q)=N-1:=by omega
 rw[this];exact h2
theorem pk1 {N:Nat} (q:Nat) (hq:IsP q) (hN2:2<=N) (hN:N<2^256) (hQ:N<(q+1)*(q+1)) (h:pkB N q=true):IsP N:=
 aS9 hN2 (λ_ hr hd=>xM hq hN h hr hd) hQ
theorem pk2 {N:Nat} (q s:Nat) (hq:IsP q) (hs:IsP s) (hc:gcd q s=1) (hN2:2<=N) (hN:N<2^256) (hQ:N<(q*s+1)*(q*s+1)) (h:pkB N q=true) (h':pkB N s=true):IsP N:=
 aS9 hN2 (λ_ hr hd=>Nat.Coprime.mul_dvd_of_dvd_of_dvd hc (xM hq hN h hr hd) (xM hs hN h' hr hd)) hQ
abbrev aB:Nat:=57896044618658097711785492504343953926634992332820282019728792003956564819949
theorem prA:IsP 8574133:=pk2 991 103 (small 31 (by decide) (by decide) (by decide +kernel)) (small 10 (by decide) (by decide) (by decide +kernel)) (by decide +kernel) (by decide) (by decide +kernel) (by decide +kernel) (by decide +kernel) (by decide +kernel)
theorem prB:IsP 1919519569386763:=pk2 8574133 127 prA (small 11 (by decide) (by decide) (by decide +kernel)) (by decide +kernel) (by decide) (by decide +kernel) (by decide +kernel) (by decide +kernel) (by decide +kernel)
theorem prC:IsP 72106336199:=pk1 2773320623 (pk1 569003 (small 754 (by decide) (by decide) (by decide +kernel)) (by decide) (by decide +kernel) (by decide +kernel) (by decide +kernel)) (by decide) (by decide +kernel) (by decide +kernel) (by decide +kernel)
theorem prD:IsP 75445702479781427272750846543864801:=pk2 1919519569386763 72106336199 prB prC (by decide +kernel) (by decide) (by decide +kernel) (by decide +kernel) (by decide +kernel) (by decide +kernel)
theorem prE:IsP 31757755568855353:=pk2 430751 4153 (small 656 (by decide) (by decide) (by decide +kernel)) (small 64 (by decide) (by decide) (by decide +kernel)) (by decide +kernel) (by decide) (by decide +kernel) (by decide +kernel) (by decide +kernel) (by decide +kernel)
theorem prF:IsP 74058212732561358302231226437062788676166966415465897661863160754340907:=pk2 75445702479781427272750846543864801 31757755568855353 prD prE (by decide +kernel) (by decide) (by decide +kernel) (by decide +kernel) (by decide +kernel) (by decide +kernel)
theorem prP:IsP aB:=pk1 74058212732561358302231226437062788676166966415465897661863160754340907 prF (by decide) (by decide +kernel) (by decide +kernel) (by decide +kernel)
end Go.Cu
namespace Go.Cu
abbrev F:=Fin aB
instance:NeZero aB:=⟨by decide⟩
theorem aHT (a b:F):(a*b).val=a.val*b.val%aB:=rfl
theorem aHU (a b:F):(a+b).val=(a.val+b.val)%aB:=rfl
theorem dI {a b:F} (h:a*b=0):a=0\/b=0:=by
 have h1:a.val*b.val%aB=0:=congrArg Fin.val h;rcases prP.euclid (Nat.dvd_of_mod_eq_zero h1)with h2|h2
 .exact Or.inl (Fin.ext (by have:=Nat.eq_zero_of_dvd_of_lt h2 a.isLt;exact this))
 exact Or.inr (Fin.ext (by have:=Nat.eq_zero_of_dvd_of_lt h2 b.isLt;exact this))
theorem eX {a b:F} (ha:a≠0) (hb:b≠0):a*b≠0:=λh=>(dI h).elim ha hb
theorem x6 {a b c:F} (hc:c≠0) (h:a*c=b*c):a=b:=by
 have h1:(a - b) * c = 0:=by grind
 rcases dI h1 with h2|h2
 .grind
 exact absurd h2 hc
def pw (a:F):Nat->F
 |0=>1
 |n+1=>pw a n*a
theorem aFC (a:F):∀n,(pw a n).val=a.val^n%aB
 |0=>rfl
 |n+1=>by rw[pow_succ,<-Nat.mod_mul_mod,<-aFC a n];rfl
theorem rZ (a:F) (n:Nat):∀m,pw a (n+m)=pw a n*pw a m
 | 0=>by show pw a n = pw a n * 1;grind
 | m + 1=>by show pw a (n + m) * a = pw a n * (pw a m * a);rw [rZ a n m];grind
theorem aNB (a:F) (n:Nat):∀m,pw a (n*m)=pw (pw a n) m
 |0=>rfl
 |m+1=>by rw[Nat.mul_succ,rZ,aNB a n m];rfl
theorem aS7 (a:F):pw a 2 = a * a:=by show 1 * a * a = a * a;grind
theorem aAL {a:F} (ha:a≠0):pw a (aB-1)=1:=by
 apply Fin.ext;rw[aFC];exact aHO prP (λh=>ha (Fin.ext (Nat.eq_zero_of_dvd_of_lt h a.isLt)))
theorem aFE (a:F) (n:Nat) (h:n<2^256):(pw a n).val=aKZ aB a.val 256 n:=by rw[aFC,tE _ _ _ _ h]
@[irreducible] def inv (a:F):F:=pw a (aB-2)
theorem aG3 (a:F):inv a=pw a (aB-2):=by unfold inv;rfl
theorem aFD (a:F) (n:Nat):pw a (n+1)=pw a n*a:=rfl
theorem p9 {a:F} (ha:a≠0):inv a*a=1:=by
 have h:=aAL ha;rw[show aB-1=(aB-2)+1 by decide,aFD]at h;rw[aG3];exact h
theorem aOB (a b:F):a * b = b * a:=by grind
theorem iv {a:F} (ha:a≠0):a*inv a=1:=by rw[aOB];exact p9 ha
theorem aPT {n:Nat} (h:n≠0):pw 0 n=0:=by
 obtain⟨m,rfl⟩:∃m,n=m+1:=⟨n-1,by omega⟩;show pw 0 m * 0 = 0;grind
def dF:F:=37095705934669439343138083508754565189542113879843219016388785533085940283555
def iF:F:=19681161376707505956807079304988542015446066515923890162744021073123829784752
theorem aaR:121666 * dF = 0 - 121665:=by decide +kernel
theorem aX4:iF * iF = 0 - 1:=by decide +kernel
theorem nR:(2:F)≠0:=by decide
theorem aUF:(aB-1)/2<2^256:=by decide
theorem aEI {s:F} (hs:s≠0):pw (s*s) ((aB-1)/2)=1:=by
 rw[<-aS7,<-aNB];exact aAL hs
theorem aP3 {s t:F} (h:s*s=dF*(t*t)):t=0:=by
 apply Classical.byContradiction;intro ht;have h1:(s * inv t) * (s * inv t) = dF:=by have:=iv ht;grind
 have hs:s*inv t≠0:=by
  intro h0;rw[h0]at h1;exact absurd h1 (by decide)
 have h2:=aEI hs;rw[h1]at h2;have h3:(pw dF ((aB-1)/2)).val=1:=by rw[h2];rfl
 rw[aFE _ _ aUF]at h3;exact absurd h3 (by decide +kernel)
end Go.Cu
namespace Go.Cu
def On (x y:F):Prop:=y*y-x*x=1+dF*(x*x*(y*y))
theorem aAP {x1 y1 x2 y2 e:F} (h1:On x1 y1) (h2:On x2 y2) (he:e*e=1):dF*(x1*x2*y1*y2)≠e:=by
 intro h;unfold On at h1 h2;have e0:e≠0:=by rintro rfl;exact absurd he (by decide)
 have n1:x1*y1≠0:=by
  intro h0;apply e0;rw[<-h];exact gr
 have n2:x2≠0:=by
  intro h0;apply e0;rw[<-h,h0];exact gr
 have hi:=aX4;have a1:(x1+iF*e*y1)*(x1+iF*e*y1)=dF*((x1*y1*(x2+iF*y2))*(x1*y1*(x2+iF*y2))):=gr;have a2:(x1-iF*e*y1)*(x1-iF*e*y1)=dF*((x1*y1*(x2-iF*y2))*(x1*y1*(x2-iF*y2))):=gr;have b1:=(dI (aP3 a1)).resolve_left n1;have b2:=(dI (aP3 a2)).resolve_left n1;have c:2*x2=0:=gr;rcases dI c with c|c
 .exact nR c
 exact n2 c
structure Pt where
 x:F
 y:F
 on:On x y
theorem Pt.ext' {P Q:Pt} (hx:P.x=Q.x) (hy:P.y=Q.y):P=Q:=by
 cases P;cases Q;simp only at hx hy;subst hx;subst hy;rfl
def Pt.ex (P Q:Pt):F:=dF*(P.x*Q.x*P.y*Q.y)
theorem Pt.pos (P Q:Pt):1+P.ex Q≠0:=by
 intro h;refine aAP P.on Q.on (e:=0-1) (by decide) ?_;unfold Pt.ex at h;exact gr
theorem Pt.neg' (P Q:Pt):1-P.ex Q≠0:=by
 intro h;refine aAP P.on Q.on (e:=1) (by decide) ?_;unfold Pt.ex at h;exact gr
theorem aVW {x1 y1 x2 y2 x y:F} (h1:On x1 y1) (h2:On x2 y2) (hx:x*(1+dF*(x1*x2*y1*y2))=x1*y2+x2*y1) (hy:y*(1-dF*(x1*x2*y1*y2))=y1*y2+x1*x2)
  (n1:1+dF*(x1*x2*y1*y2)≠0) (n2:1-dF*(x1*x2*y1*y2)≠0):On x y:=by
 unfold On at *;generalize hB:1+dF*(x1*x2*y1*y2)=B at *;generalize hD:1-dF*(x1*x2*y1*y2)=D at *;have hBD:B*B*(D*D)≠0:=eX (eX n1 n1) (eX n2 n2);refine x6 hBD ?_;have e1:(y*y-x*x)*(B*B*(D*D))=(y*D)*(y*D)*(B*B)-(x*B)*(x*B)*(D*D):=by clear h1 h2 hx hy hB hD;exact gr
 have e2:(1+dF*(x*x*(y*y)))*(B*B*(D*D))=B*B*(D*D)+dF*((x*B)*(x*B)*((y*D)*(y*D))):=by clear h1 h2 hx hy hB hD;exact gr
 rw[e1,e2,hx,hy];clear e1 e2 hx hy hBD n1 n2;subst hB hD;exact gr
def Pt.add (P Q:Pt):Pt where
 x:=(P.x*Q.y+Q.x*P.y)*inv (1+P.ex Q)
 y:=(P.y*Q.y+P.x*Q.x)*inv (1-P.ex Q)
 on:=by
  have h1:=p9 (P.pos Q);have h2:=p9 (P.neg' Q);refine aVW P.on Q.on ?_ ?_ (P.pos Q) (P.neg' Q)
  .unfold Pt.ex at *;exact gr
  unfold Pt.ex at *;exact gr
theorem Pt.add_x (P Q:Pt):(P.add Q).x*(1+P.ex Q)=P.x*Q.y+Q.x*P.y:=by
 have h1:=p9 (P.pos Q);show(P.x*Q.y+Q.x*P.y)*inv (1+P.ex Q)*(1+P.ex Q)=_;exact gr
theorem Pt.add_y (P Q:Pt):(P.add Q).y*(1-P.ex Q)=P.y*Q.y+P.x*Q.x:=by
 have h1:=p9 (P.neg' Q);show(P.y*Q.y+P.x*Q.x)*inv (1-P.ex Q)*(1-P.ex Q)=_;exact gr
theorem Pt.add_eq {P Q R:Pt} (hx:R.x*(1+P.ex Q)=P.x*Q.y+Q.x*P.y) (hy:R.y*(1-P.ex Q)=P.y*Q.y+P.x*Q.x):P.add Q=R:=
 Pt.ext' (x6 (P.pos Q) (by rw[Pt.add_x,hx])) (x6 (P.neg' Q) (by rw[Pt.add_y,hy]))
def Pt.O:Pt:=⟨0,1,by unfold On;decide +kernel⟩
def Pt.ng (P:Pt):Pt:=⟨0-P.x,P.y,by have:=P.on;unfold On at *;exact gr⟩
theorem Pt.add_comm (P Q:Pt):P.add Q=Q.add P:=by
 have h1:=Q.add_x P;have h2:=Q.add_y P;refine Pt.add_eq ?_ ?_
 .unfold Pt.ex at *;exact gr
 unfold Pt.ex at *;exact gr
theorem Pt.add_O (P:Pt):P.add .O=P:=by
 refine Pt.add_eq ?_ ?_ <;>(unfold Pt.ex;show _=_;simp only[Pt.O];exact gr)
theorem Pt.O_add (P:Pt):Pt.O.add P=P:=by rw[Pt.add_comm,Pt.add_O]
theorem Pt.add_ng (P:Pt):P.add P.ng= .O:=by
 have h:=P.on;unfold On at h;refine Pt.add_eq ?_ ?_ <;>(unfold Pt.ex;simp only[Pt.O,Pt.ng];exact gr)
theorem aVV {d x1 y1 x2 y2 x3 y3:F} {A B C D A' B' C' D':F} (hA:A=x1*y2+x2*y1) (hB:B=1+d*(x1*x2*y1*y2)) (hC:C=y1*y2+x1*x2) (hD:D=1-d*(x1*x2*y1*y2))
  (hA':A'=x2*y3+x3*y2) (hB':B'=1+d*(x2*x3*y2*y3)) (hC':C'=y2*y3+x2*x3) (hD':D'=1-d*(x2*x3*y2*y3))
  (e1:y1*y1-x1*x1=1+d*(x1*x1*(y1*y1))) (e2:y2*y2-x2*x2=1+d*(x2*x2*(y2*y2))) (e3:y3*y3-x3*x3=1+d*(x3*x3*(y3*y3))):
  (A*D*y3+x3*C*B)*(B'*D'+d*x1*y1*A'*C')=(x1*C'*B'+A'*y1*D')*(B*D+d*A*C*x3*y3):=by subst_vars;exact gr
theorem aVU {d x1 y1 x2 y2 x3 y3:F} {A B C D A' B' C' D':F} (hA:A=x1*y2+x2*y1) (hB:B=1+d*(x1*x2*y1*y2)) (hC:C=y1*y2+x1*x2) (hD:D=1-d*(x1*x2*y1*y2))
  (hA':A'=x2*y3+x3*y2) (hB':B'=1+d*(x2*x3*y2*y3)) (hC':C'=y2*y3+x2*x3) (hD':D'=1-d*(x2*x3*y2*y3))
  (e1:y1*y1-x1*x1=1+d*(x1*x1*(y1*y1))) (e2:y2*y2-x2*x2=1+d*(x2*x2*(y2*y2))) (e3:y3*y3-x3*x3=1+d*(x3*x3*(y3*y3))):
  (C*B*y3+A*D*x3)*(B'*D'-d*x1*y1*A'*C')=(y1*C'*B'+x1*A'*D')*(B*D-d*A*C*x3*y3):=by subst_vars;exact gr
theorem aZY {u v u' v' X Y:F} (hv:v≠0) (hv':v'≠0) (h:X*v=u) (h':Y*v'=u') (hc:u*v'=u'*v):X=Y:=by
 refine x6 (eX hv hv') ?_;have e1:X*(v*v')=X*v*v':=gr;have e2:Y*(v*v')=Y*v'*v:=gr;rw[e1,e2,h,h',hc]
theorem l3 (a b c:F):a*(b*c)=b*(a*c):=gr
theorem l4 (s t b d x y:F):b*d*(s*y+x*t)=s*b*d*y+x*(t*d)*b:=gr
theorem l5 (s t b d x y:F):b*d*(x*t+s*y)=x*(t*d)*b+s*b*y*d:=gr
theorem l6 (s t b d x y:F):b*d*(t*y+s*x)=t*d*b*y+s*b*d*x:=gr
theorem l7 (s t b d x y:F):b*d*(y*t+x*s)=y*(t*d)*b+x*(s*b)*d:=gr
theorem Pt.add_assoc (P Q R:Pt):(P.add Q).add R=P.add (Q.add R):=by
 have a1:=P.add_x Q;have a2:=P.add_y Q;have b1:=Q.add_x R;have b2:=Q.add_y R;have c1:=(P.add Q).add_x R;have c2:=(P.add Q).add_y R;have d1:=P.add_x (Q.add R);have d2:=P.add_y (Q.add R);have p1:=P.pos Q;have p2:=P.neg' Q;have q1:=Q.pos R;have q2:=Q.neg' R;have r1:=(P.add Q).pos R;have r2:=(P.add Q).neg' R;have s1:=P.pos (Q.add R);have s2:=P.neg' (Q.add R);have o1:=P.on;have o2:=Q.on;have o3:=R.on;generalize ((P.add Q).add R)=L at *;generalize (P.add (Q.add R))=M at *;generalize (P.add Q)=S at *;generalize (Q.add R)=T at *;unfold Pt.ex On at *;generalize hB:1+dF*(P.x*Q.x*P.y*Q.y)=B at *;generalize hD:1-dF*(P.x*Q.x*P.y*Q.y)=D at *;generalize hB':1+dF*(Q.x*R.x*Q.y*R.y)=B' at *;generalize hD':1-dF*(Q.x*R.x*Q.y*R.y)=D' at *;generalize hA:P.x*Q.y+Q.x*P.y=A at *;generalize hC:P.y*Q.y+P.x*Q.x=C at *;generalize hA':Q.x*R.y+R.x*Q.y=A' at *;generalize hC':Q.y*R.y+Q.x*R.x=C' at *;have kx:=aVV hA.symm hB.symm hC.symm hD.symm hA'.symm hB'.symm hC'.symm hD'.symm o1 o2 o3;have ky:=aVU hA.symm hB.symm hC.symm hD.symm hA'.symm hB'.symm hC'.symm hD'.symm o1 o2 o3;clear hA hB hC hD hA' hB' hC' hD' o1 o2 o3;have v1:B*D*(1+dF*(S.x*R.x*S.y*R.y))=B*D+dF*A*C*R.x*R.y:=by rw[<-a1,<-a2];clear kx ky c1 c2 d1 d2 a1 a2 b1 b2;exact gr
 have v2:B*D*(1-dF*(S.x*R.x*S.y*R.y))=B*D-dF*A*C*R.x*R.y:=by rw[<-a1,<-a2];clear kx ky c1 c2 d1 d2 a1 a2 b1 b2;exact gr
 have w1:B'*D'*(1+dF*(P.x*T.x*P.y*T.y))=B'*D'+dF*P.x*P.y*A'*C':=by rw[<-b1,<-b2];clear kx ky c1 c2 d1 d2 a1 a2 b1 b2;exact gr
 have w2:B'*D'*(1-dF*(P.x*T.x*P.y*T.y))=B'*D'-dF*P.x*P.y*A'*C':=by rw[<-b1,<-b2];clear kx ky c1 c2 d1 d2 a1 a2 b1 b2;exact gr
 refine Pt.ext' (aZY (v:=B*D+dF*A*C*R.x*R.y) (v':=B'*D'+dF*P.x*P.y*A'*C') ?_ ?_ ?_ ?_ kx) (aZY (v:=B*D-dF*A*C*R.x*R.y) (v':=B'*D'-dF*P.x*P.y*A'*C') ?_ ?_ ?_ ?_ ky)
 .rw[<-v1];exact eX (eX p1 p2) r1
 .rw[<-w1];exact eX (eX q1 q2) s1
 .rw[<-v1,<-a1,<-a2]
  rw[l3,c1];exact l4 _ _ _ _ _ _
 .rw[<-w1,<-b1,<-b2]
  rw[l3,d1];exact l5 _ _ _ _ _ _
 .rw[<-v2];exact eX (eX p1 p2) r2
 .rw[<-w2];exact eX (eX q1 q2) s2
 .rw[<-v2,<-a1,<-a2]
  rw[l3,c2];exact l6 _ _ _ _ _ _
 rw[<-w2,<-b1,<-b2];rw[l3,d2];exact l7 _ _ _ _ _ _
def Pt.mul (P:Pt):Nat->Pt
 |0=>.O
 |n+1=>(P.mul n).add P
theorem Pt.mul_add (P:Pt) (n:Nat):∀m,P.mul (n+m)=(P.mul n).add (P.mul m)
 |0=>(Pt.add_O _).symm
 |m+1=>by show(P.mul (n+m)).add P=(P.mul n).add ((P.mul m).add P);rw[Pt.mul_add P n m,Pt.add_assoc]
theorem Pt.mul_one (P:Pt):P.mul 1=P:=Pt.O_add P
theorem Pt.mul_mul (P:Pt) (n:Nat):∀m,P.mul (n*m)=(P.mul n).mul m
 |0=>rfl
 |m+1=>by rw[Nat.mul_succ,Pt.mul_add,Pt.mul_mul P n m];rfl
end Go.Cu
namespace Go.Cu
def Rep (X Y Z:F) (P:Pt):Prop:=Z≠0/\X=P.x*Z/\Y=P.y*Z
theorem aE5 {X1 Y1 Z1 X2 Y2 Z2:F} {P Q:Pt} (h:Rep X1 Y1 Z1 P) (h':Rep X2 Y2 Z2 Q) {z zz xv yw xw e more less:F}
  (hz:z=Z1*Z2) (hzz:zz=z*z) (hxv:xv=X1*X2) (hyw:yw=Y1*Y2) (hxw:xw=X1*Y2+Y1*X2) (he:e=dF*(xv*yw)) (hm:more=zz+e) (hl:less=zz-e):
  Rep (z*less*xw) (z*more*(yw+xv)) (more*less) (P.add Q):=by
 obtain⟨n1,rfl,rfl⟩:=h;obtain⟨n2,rfl,rfl⟩:=h';have a1:=P.add_x Q;have a2:=P.add_y Q;have p1:=P.pos Q;have p2:=P.neg' Q;generalize P.add Q=S at *;unfold Pt.ex at *;have em:more=Z1*Z2*(Z1*Z2)*(1+dF*(P.x*Q.x*P.y*Q.y)):=by subst_vars;exact gr
 have el:less=Z1*Z2*(Z1*Z2)*(1-dF*(P.x*Q.x*P.y*Q.y)):=by subst_vars;exact gr
 refine⟨?_,?_,?_⟩
 .rw[em,el]
  exact eX (eX (eX (eX n1 n2) (eX n1 n2)) p1) (eX (eX (eX n1 n2) (eX n1 n2)) p2)
 .have ex:xw=Z1*Z2*(S.x*(1+dF*(P.x*Q.x*P.y*Q.y))):=by rw[a1];subst hxw;exact gr
  rw[ex,em,hz];exact gr
 have ey:yw+xv=Z1*Z2*(S.y*(1-dF*(P.x*Q.x*P.y*Q.y))):=by rw[a2];subst hyw hxv;exact gr
 rw[ey,el,hz];exact gr
theorem aPQ {X1 Y1 Z1 T1 X2 Y2 Z2 T2:F} {P Q:Pt} (h:Rep X1 Y1 Z1 P) (h':Rep X2 Y2 Z2 Q) (t:T1=P.x*P.y*Z1) (t':T2=Q.x*Q.y*Z2) {a b c d e f g h0:F}
  (ha:a=(Y1-X1)*(Y2-X2)) (hb:b=(Y1+X1)*(Y2+X2)) (hc:c=T1*2*(dF*T2)) (hd:d=Z1*2*Z2) (he:e=b-a) (hf:f=d-c) (hg:g=d+c) (hh:h0=b+a):
  Rep (e*f) (g*h0) (f*g) (P.add Q)/\e*h0=(P.add Q).x*(P.add Q).y*(f*g):=by
 obtain⟨n1,rfl,rfl⟩:=h;obtain⟨n2,rfl,rfl⟩:=h';have a1:=P.add_x Q;have a2:=P.add_y Q;have p1:=P.pos Q;have p2:=P.neg' Q;generalize P.add Q=S at *;unfold Pt.ex at *;have eg:g=2*(Z1*Z2)*(1+dF*(P.x*Q.x*P.y*Q.y)):=by subst_vars;exact gr
 have ef:f=2*(Z1*Z2)*(1-dF*(P.x*Q.x*P.y*Q.y)):=by subst_vars;exact gr
 have ee:e=S.x*g:=by
  have:e=2*(Z1*Z2)*(P.x*Q.y+Q.x*P.y):=by subst he ha hb;exact gr
  rw[this,<-a1,eg];exact gr
 have eh:h0=S.y*f:=by
  have:h0=2*(Z1*Z2)*(P.y*Q.y+P.x*Q.x):=by subst hh ha hb;exact gr
  rw[this,<-a2,ef];exact gr
 refine⟨⟨?_,?_,?_⟩,?_⟩
 .rw[eg,ef]
  exact eX (eX (eX nR (eX n1 n2)) p2) (eX (eX nR (eX n1 n2)) p1)
 .rw[ee];exact gr
 .rw[eh];exact gr
 rw[ee,eh];exact gr
theorem aPR:Rep 0 1 1 .O:=⟨by decide,by decide +kernel,by decide +kernel⟩
theorem aS0 {X Y Z:F} {P:Pt} (h:Rep X Y Z P):Rep (0-X) Y Z P.ng:=by
 obtain⟨n,rfl,rfl⟩:=h;exact⟨n,by show _=(0-P.x)*Z;exact gr,rfl⟩
theorem aPP {X Y Z:F} {P:Pt} (h:Rep X Y Z P):X*inv Z=P.x:=by
 obtain⟨n,rfl,rfl⟩:=h;have:=iv n;exact gr
theorem aPO {X Y Z:F} {P:Pt} (h:Rep X Y Z P):Y*inv Z=P.y:=by
 obtain⟨n,rfl,rfl⟩:=h;have:=iv n;exact gr
theorem Pt.mul_dbl (P:Pt) (k:Nat):(P.mul k).add (P.mul k)=P.mul (2*k):=by rw[<-Pt.mul_add];congr 1;omega
theorem Pt.mul_top (P:Pt) (n i:Nat):P.mul (n/2^i)=if n/2^i%2=1 then(P.mul (2*(n/2^(i+1)))).add P else P.mul (2*(n/2^(i+1))):=by
 have e:n/2^(i+1)=n/2^i/2:=by rw[pow_succ,Nat.div_div_eq_div_mul]
 rw[e];by_cases h:n/2^i%2=1
 .rw[if_pos h]
  have:n/2^i=2*(n/2^i/2)+1:=by omega
  conv=>lhs;rw[this]
  rfl
 rw[if_neg h];congr 1;omega
theorem Pt.mul_low (P:Pt) (n i:Nat):P.mul (n%2^(i+1))=if n/2^i%2=1 then(P.mul (n%2^i)).add (P.mul (2^i))else P.mul (n%2^i):=by
 rw[Nat.mod_pow_succ];by_cases h:n/2^i%2=1
 .rw[if_pos h,h,Nat.mul_one,Pt.mul_add]
 have:n/2^i%2=0:=by omega
 rw[if_neg h,this,Nat.mul_zero,Nat.add_zero]
theorem Pt.ng_add (P Q:Pt):(P.add Q).ng=P.ng.add Q.ng:=by
 refine(Pt.add_eq ?_ ?_).symm
 .have h:=P.add_x Q
  unfold Pt.ex at *;simp only[Pt.ng];exact gr
 have h:=P.add_y Q;unfold Pt.ex at *;simp only[Pt.ng];exact gr
theorem Pt.dif1 (Q P:Pt):Q.add (Q.add P).ng=P.ng:=by
 rw[Pt.ng_add,<-Pt.add_assoc,Pt.add_ng,Pt.O_add]
theorem Pt.dif2 (Q P:Pt):(Q.add P).add Q.ng=P:=by
 rw[Pt.add_comm Q P,Pt.add_assoc,Pt.add_ng,Pt.add_O]
end Go.Cu
namespace Go.Cu
def Lr (X Z:F) (P:Pt):Prop:=∃l:F,l≠0/\X=l*(1+P.y)/\Z=l*(1-P.y)
theorem Lr.of {X Z:F} {P:Pt} (h:X*(1-P.y)=Z*(1+P.y)) (hn:¬(X=0/\Z=0)):Lr X Z P:=by
 have h2:(2:F)*inv 2=1:=iv nR;generalize inv (2:F)=v at h2;refine⟨(X+Z)*v,?_,?_,?_⟩
 .intro h0
  have hs:X+Z=0:=by
   rcases dI h0 with h1|h1
   .exact h1
   rw[h1]at h2;exact absurd h2 (by decide)
  have hx:2*X=0:=gr;have hx0:=(dI hx).resolve_left nR;exact hn ⟨hx0,by rw[hx0]at hs;exact gr⟩
 .exact gr
 exact gr
theorem aHC:(4:F)≠0:=by decide
theorem aa0:(121666:F)≠0:=by decide
theorem aXD {P:Pt}:(1+P.x*P.x)*(121666-121665*(P.y*P.y))=P.y*P.y:=by
 have h:=P.on;have hd:=aaR;unfold On at h;exact gr
theorem aNU {X Z:F} {P:Pt} (h:Lr X Z P) {p m pp mm e:F} (hp:p=X+Z) (hm:m=X-Z) (hpp:pp=p*p) (hmm:mm=m*m) (he:e=pp-mm):
  Lr (pp*mm) (e*(pp+121665*e)) (P.add P):=by
 obtain⟨l,hl,rfl,rfl⟩:=h;have a2:=P.add_y P;have n2:=P.neg' P;have hx:=@aXD P;have on:=P.on;generalize P.add P=S at *;unfold Pt.ex On at *;have e1:pp=4*(l*l):=by subst_vars;exact gr
 have e2:mm=4*(l*l)*(P.y*P.y):=by subst_vars;exact gr
 have e3:e=4*(l*l)*(1-P.y*P.y):=by rw[he,e1,e2];exact gr
 clear hp hm hpp hmm he;have e4:e*(pp+121665*e)=16*(l*l*(l*l))*((1-P.y*P.y)*(121666-121665*(P.y*P.y))):=by rw[e3,e1];exact gr
 have e5:pp*mm=16*(l*l*(l*l))*(P.y*P.y):=by rw[e2,e1];exact gr
 rw[e4,e5];have n16:16*(l*l*(l*l))≠0:=eX (by decide) (eX (eX hl hl) (eX hl hl));generalize 16*(l*l*(l*l))=k at *;clear e1 e2 e3 e4 e5;refine Lr.of ?_ ?_
 .refine x6 n2 ?_
  have b1:k*(P.y*P.y)*(1-S.y)*(1-dF*(P.x*P.x*P.y*P.y))=k*(P.y*P.y)*((1-dF*(P.x*P.x*P.y*P.y))-(S.y*(1-dF*(P.x*P.x*P.y*P.y)))):=by clear a2 n2 hx on n16;exact gr
  have b2:k*((1-P.y*P.y)*(121666-121665*(P.y*P.y)))*(1+S.y)*(1-dF*(P.x*P.x*P.y*P.y))=k*((1-P.y*P.y)*(121666-121665*(P.y*P.y)))*((1-dF*(P.x*P.x*P.y*P.y))+(S.y*(1-dF*(P.x*P.x*P.y*P.y)))):=by clear a2 n2 hx on n16;exact gr
  rw[b1,b2,a2];have c1:1-dF*(P.x*P.x*P.y*P.y)=2-P.y*P.y+P.x*P.x:=by clear hx;exact gr
  rw[c1];clear b1 b2 c1 a2 n2 on n16;exact gr
 rintro⟨h1,h2⟩;have hy:=(dI h1).resolve_left n16;have h3:=(dI h2).resolve_left n16;rw[hy]at h3;exact absurd h3 (by decide)
theorem aNT {X1 Z1 X2 Z2 u:F} {P Q D:Pt} (h:Lr X1 Z1 P) (h':Lr X2 Z2 Q) (hD:(P.add Q.ng).y=D.y) (hu:u*(1-D.y)=1+D.y) (u0:u≠0)
  {p m da cb s d:F} (hp:p=X1+Z1) (hm:m=X1-Z1) (hda:da=(X2-Z2)*p) (hcb:cb=(X2+Z2)*m) (hs:s=da+cb) (hd:d=da-cb):
  Lr (s*s) (u*(d*d)) (P.add Q):=by
 obtain⟨l,hl,rfl,rfl⟩:=h;obtain⟨k,hk,rfl,rfl⟩:=h';have a2:=P.add_y Q;have n2:=P.neg' Q;have b2:=P.add_y Q.ng;have m2:=P.neg' Q.ng;rw[hD]at b2;have o1:=P.on;have o2:=Q.on;generalize P.add Q=S at *;unfold Pt.ex On at *;simp only[Pt.ng]at b2 m2;have e1:s=4*(l*k)*(P.y+Q.y):=by subst_vars;clear hD hu u0 a2 n2 b2 m2 o1 o2;exact gr
 have e2:d=4*(l*k)*(Q.y-P.y):=by subst_vars;clear hD hu u0 a2 n2 b2 m2 o1 o2;exact gr
 have n4:4*(l*k)≠0:=eX (by decide) (eX hl hk);rw[e1,e2];clear e1 e2 hp hm hda hcb hs hd hD;generalize 4*(l*k)=w at *;have d1:1-D.y≠0:=by
  intro h0;rw[h0]at hu;have e1:1+D.y=0:=by rw[<-hu];exact gr
  have e2:(2:F)=0:=by clear a2 b2 hu;exact gr
  exact nR e2
 have d2:1+D.y≠0:=by rw[<-hu];exact eX u0 d1
 have M2:1+dF*(P.x*Q.x*P.y*Q.y)≠0:=by
  intro h0;apply m2;rw[<-h0];clear a2 n2 b2 m2 o1 o2 hu u0;exact gr
 have B2:D.y*(1+dF*(P.x*Q.x*P.y*Q.y))=P.y*Q.y-P.x*Q.x:=by
  clear a2 n2 o1 o2 hu u0;exact gr
 clear b2 m2;refine Lr.of ?_ ?_
 .refine x6 (eX d1 (eX n2 M2)) ?_
  have c1:w*(P.y+Q.y)*(w*(P.y+Q.y))*(1-S.y)*((1-D.y)*((1-dF*(P.x*Q.x*P.y*Q.y))*(1+dF*(P.x*Q.x*P.y*Q.y))))
    =w*w*((P.y+Q.y)*(P.y+Q.y)*(((1-dF*(P.x*Q.x*P.y*Q.y))-S.y*(1-dF*(P.x*Q.x*P.y*Q.y)))*((1+dF*(P.x*Q.x*P.y*Q.y))-D.y*(1+dF*(P.x*Q.x*P.y*Q.y))))):=by
   clear a2 n2 o1 o2 hu u0 B2 M2;exact gr
  have c2:u*(w*(Q.y-P.y)*(w*(Q.y-P.y)))*(1+S.y)*((1-D.y)*((1-dF*(P.x*Q.x*P.y*Q.y))*(1+dF*(P.x*Q.x*P.y*Q.y))))
    =w*w*((Q.y-P.y)*(Q.y-P.y)*(((1-dF*(P.x*Q.x*P.y*Q.y))+S.y*(1-dF*(P.x*Q.x*P.y*Q.y)))*(u*(1-D.y)*(1+dF*(P.x*Q.x*P.y*Q.y))))):=by
   clear a2 n2 o1 o2 hu u0 B2 M2;exact gr
  have c3:(1+D.y)*(1+dF*(P.x*Q.x*P.y*Q.y))=(1+dF*(P.x*Q.x*P.y*Q.y))+D.y*(1+dF*(P.x*Q.x*P.y*Q.y)):=by
   clear a2 n2 o1 o2 hu u0 B2 M2;exact gr
  rw[c1,c2,hu,c3,a2,B2];clear c1 c2 c3 a2 B2 n2 M2 hu u0 d1 d2 n4;congr 1;exact gr
 rintro⟨h1,h2⟩;have s0:P.y+Q.y=0:=by
  rcases dI h1 with h|h<;>exact(dI h).resolve_left n4
 have t0:Q.y-P.y=0:=by
  rcases dI ((dI h2).resolve_left u0)with h|h<;>exact(dI h).resolve_left n4
 have y2:2*Q.y=0:=by clear a2 B2 hu o1 o2;exact gr
 have yq:=(dI y2).resolve_left nR;have yp:P.y=0:=by rw[yq]at s0;clear a2 B2 hu o1 o2;exact gr
 rw[yq]at o2 B2;rw[yp]at o1 B2;have x1:P.x*P.x=0-1:=by clear a2 B2 hu o2;exact gr
 have x2:Q.x*Q.x=0-1:=by clear a2 B2 hu o1;exact gr
 have yd:D.y=0-P.x*Q.x:=by clear a2 hu o1 o2 x1 x2;exact gr
 have z:(1-D.y)*(1+D.y)=0:=by rw[yd];clear a2 hu o1 o2 B2;exact gr
 exact eX d1 d2 z
def aVQ:F:=15112221349535400772501151409588531511454012693041857206046113283949847762202
def aR0:F:=46316835694926478169428394003475163141307993866256225615783033603165251855960
def basP:Pt:=⟨aVQ,aR0,by unfold On;decide +kernel⟩
end Go.Cu
namespace Go.Cu
structure LS where
 ax:F
 az:F
 bx:F
 bz:F
def nr (u:F) (s:LS):LS:=
 let p:=s.ax+s.az;let m:=s.ax-s.az;let pp:=p*p;let mm:=m*m;let e:=pp-mm
 let da:=(s.bx-s.bz)*p;let cb:=(s.bx+s.bz)*m;let t:=da+cb;let d:=da-cb
 ⟨pp*mm,e*(pp+121665*e),t*t,u*(d*d)⟩
def LS.swap (s:LS):LS:=⟨s.bx,s.bz,s.ax,s.az⟩
def LS.turn (s:LS) (l b:Nat):LS:=if b=l then s else s.swap
def LI (s:LS) (l:Nat) (P:Pt) (m:Nat):Prop:=(l=0/\Lr s.ax s.az (P.mul m)/\Lr s.bx s.bz (P.mul (m+1)))\/(l=1/\Lr s.bx s.bz (P.mul m)/\Lr s.ax s.az (P.mul (m+1)))
theorem LI.step {s:LS} {l:Nat} {P:Pt} {m:Nat} (h:LI s l P m) {u:F} (hu:u*(1-P.y)=1+P.y) (u0:u≠0) {b:Nat} (hb:b=0\/b=1):LI (nr u (s.turn l b)) b P (2*m+b):=by
 have main0:∀t:LS,Lr t.ax t.az (P.mul m)->Lr t.bx t.bz (P.mul (m+1))->Lr (nr u t).ax (nr u t).az (P.mul (2*m))/\Lr (nr u t).bx (nr u t).bz (P.mul (2*m+1)):=by
  intro t h1 h2;have a:=aNU h1 (p:=_) (m:=_) (pp:=_) (mm:=_) (e:=_) rfl rfl rfl rfl rfl;rw[Pt.mul_dbl]at a;have hD:((P.mul m).add (P.mul (m+1)).ng).y=P.y:=by
   show((P.mul m).add ((P.mul m).add P).ng).y=P.y;rw[Pt.dif1];rfl
  have c:=aNT h1 h2 hD hu u0 (p:=_) (m:=_) (da:=_) (cb:=_) (s:=_) (d:=_) rfl rfl rfl rfl rfl rfl;rw[<-Pt.mul_add,show m+(m+1)=2*m+1 by omega]at c;exact⟨a,c⟩
 have main1:∀t:LS,Lr t.bx t.bz (P.mul m)->Lr t.ax t.az (P.mul (m+1))->Lr (nr u t).ax (nr u t).az (P.mul (2*m+1+1))/\Lr (nr u t).bx (nr u t).bz (P.mul (2*m+1)):=by
  intro t h1 h2;have a:=aNU h2 (p:=_) (m:=_) (pp:=_) (mm:=_) (e:=_) rfl rfl rfl rfl rfl;rw[Pt.mul_dbl]at a;have hD:((P.mul (m+1)).add (P.mul m).ng).y=P.y:=by
   show(((P.mul m).add P).add (P.mul m).ng).y=P.y;rw[Pt.dif2]
  have c:=aNT h2 h1 hD hu u0 (p:=_) (m:=_) (da:=_) (cb:=_) (s:=_) (d:=_) rfl rfl rfl rfl rfl rfl;rw[<-Pt.mul_add,show m+1+m=2*m+1 by omega]at c;exact⟨a,c⟩
 rcases hb with rfl|rfl
 .have key:Lr (s.turn l 0).ax (s.turn l 0).az (P.mul m)/\Lr (s.turn l 0).bx (s.turn l 0).bz (P.mul (m+1)):=by
   rcases h with⟨rfl,h1,h2⟩|⟨rfl,h1,h2⟩
   .exact⟨h1,h2⟩
   exact⟨h1,h2⟩
  have:=main0 _ key.1 key.2;exact Or.inl ⟨rfl,this.1,this.2⟩
 have key:Lr (s.turn l 1).bx (s.turn l 1).bz (P.mul m)/\Lr (s.turn l 1).ax (s.turn l 1).az (P.mul (m+1)):=by
  rcases h with⟨rfl,h1,h2⟩|⟨rfl,h1,h2⟩
  .exact⟨h1,h2⟩
  exact⟨h1,h2⟩
 have:=main1 _ key.1 key.2;exact Or.inr ⟨rfl,this.2,this.1⟩
theorem aVY:∀n,Pt.O.mul n= .O
 |0=>rfl
 |n+1=>by show(Pt.O.mul n).add .O= .O;rw[aVY n,Pt.add_O]
def aEZ (u:F) (s:LS) (b:Nat):LS:=
 let p:=s.ax*s.bx-s.az*s.bz;let q:=s.ax*s.bz-s.az*s.bx
 if b=0 then
  ⟨(s.ax*s.ax-s.az*s.az)*(s.ax*s.ax-s.az*s.az),4*(s.ax*s.az)*(s.ax*s.ax+s.az*s.az+486662*(s.ax*s.az)),p*p,u*(q*q)⟩
 else
  ⟨p*p,u*(q*q),(s.bx*s.bx-s.bz*s.bz)*(s.bx*s.bx-s.bz*s.bz),4*(s.bx*s.bz)*(s.bx*s.bx+s.bz*s.bz+486662*(s.bx*s.bz))⟩
def LQ (s:LS) (l:Nat) (r:LS):Prop:=∃a b:F,a≠0/\b≠0/\
 ((l=0/\s=⟨a*r.ax,a*r.az,b*r.bx,b*r.bz⟩)\/(l=1/\s=⟨b*r.bx,b*r.bz,a*r.ax,a*r.az⟩))
theorem LQ.step {s r:LS} {l:Nat} (h:LQ s l r) (u:F) {b:Nat} (hb:b=0\/b=1):LQ (nr u (s.turn l b)) b (aEZ u r b):=by
 obtain⟨x,y,hx,hy,h⟩:=h;obtain⟨ax,az,bx,bz⟩:=r;rcases hb with rfl|rfl
 .have e:s.turn l 0=⟨x*ax,x*az,y*bx,y*bz⟩:=by
   rcases h with⟨rfl,rfl⟩|⟨rfl,rfl⟩<;>rfl
  rw[e];refine⟨x*x*(x*x),4*(x*y*(x*y)),eX (eX hx hx) (eX hx hx),eX aHC (eX (eX hx hy) (eX hx hy)),Or.inl ⟨rfl,?_⟩⟩;unfold nr aEZ;simp only[if_pos,LS.mk.injEq];exact⟨gr,gr,gr,gr⟩
 have e:s.turn l 1=⟨y*bx,y*bz,x*ax,x*az⟩:=by
  rcases h with⟨rfl,rfl⟩|⟨rfl,rfl⟩<;>rfl
 rw[e];refine⟨4*(x*y*(x*y)),y*y*(y*y),eX aHC (eX (eX hx hy) (eX hx hy)),eX (eX hy hy) (eX hy hy),Or.inr ⟨rfl,?_⟩⟩;unfold nr aEZ;simp only[if_neg (show¬(1=0) by decide),LS.mk.injEq];exact⟨gr,gr,gr,gr⟩
theorem aFP:(1:F)≠0:=by decide
end Go.Cu
namespace Go.Cu
open Go Go.Sx
def fn (n:Nat):F:=Fin.ofNat aB n
theorem qH (n:Nat):(fn n).val=n%aB:=rfl
theorem aN3 {a b:Nat} (h:a%aB=b%aB):fn a=fn b:=Fin.ext h
theorem af (a b:Nat):fn (a+b)=fn a+fn b:=Fin.ext (by rw[aHU,qH,qH,qH,<-Nat.add_mod])
theorem lV (a b:Nat):fn (a*b)=fn a*fn b:=Fin.ext (by rw[aHT,qH,qH,qH,<-Nat.mul_mod])
theorem aZ0 (a k:Nat):fn (a+k*aB)=fn a:=aN3 (Nat.add_mul_mod_self_right _ _ _)
theorem qI (x:F):fn x.val=x:=Fin.ext (mod_eq_of_lt x.isLt)
def nv5 (l:List UInt64):Nat:=(l.getD 0 0).toNat+(l.getD 1 0).toNat*2251799813685248+(l.getD 2 0).toNat*5070602400912917605986812821504+(l.getD 3 0).toNat*11417981541647679048466287755595961091061972992+(l.getD 4 0).toNat*25711008708143844408671393477458601640355247900524685364822016
def fv (l:List UInt64):F:=fn (nv5 l)
def Lb (l:List UInt64):Prop:=l.length=5/\(l.getD 0 0).toNat<4503599627370496/\(l.getD 1 0).toNat<4503599627370496/\(l.getD 2 0).toNat<4503599627370496/\(l.getD 3 0).toNat<4503599627370496/\(l.getD 4 0).toNat<4503599627370496
theorem gI (x:UInt64):(x&&&ofNat 2251799813685247).toNat=x.toNat%2251799813685248:=by
 rw[UInt64.toNat_and,show(ofNat 2251799813685247).toNat=2^51-1 from rfl,Nat.and_two_pow_sub_one_eq_mod]
theorem bt (x:UInt64) (k:Nat):(aF x k).toNat=x.toNat/2^k:=by
 have:=x.toNat_lt;have h:=Nat.div_le_self x.toNat (2^k);unfold aF;rw[toNat_ofNat',Nat.shiftRight_eq_div_pow,mod_eq_of_lt (by omega)]
theorem wq (x:UInt64) (k:Nat):(aQ x k).toNat=x.toNat*2^k%18446744073709551616:=by
 unfold aQ;rw[toNat_ofNat',Nat.shiftLeft_eq]
theorem jd (x:UInt64):(aF x 51).toNat=x.toNat/2251799813685248:=bt x 51
def ci (l:List UInt64):List UInt64:=
 [(l.getD 0 0&&&ofNat 2251799813685247)+aF (l.getD 4 0) 51*ofNat 19,(l.getD 1 0&&&ofNat 2251799813685247)+aF (l.getD 0 0) 51,(l.getD 2 0&&&ofNat 2251799813685247)+aF (l.getD 1 0) 51,
  (l.getD 3 0&&&ofNat 2251799813685247)+aF (l.getD 2 0) 51,(l.getD 4 0&&&ofNat 2251799813685247)+aF (l.getD 3 0) 51]
theorem yF (l:List UInt64):((ci l).getD 0 0).toNat=(l.getD 0 0).toNat%2251799813685248+(l.getD 4 0).toNat/2251799813685248*19
  /\((ci l).getD 1 0).toNat=(l.getD 1 0).toNat%2251799813685248+(l.getD 0 0).toNat/2251799813685248
  /\((ci l).getD 2 0).toNat=(l.getD 2 0).toNat%2251799813685248+(l.getD 1 0).toNat/2251799813685248
  /\((ci l).getD 3 0).toNat=(l.getD 3 0).toNat%2251799813685248+(l.getD 2 0).toNat/2251799813685248
  /\((ci l).getD 4 0).toNat=(l.getD 4 0).toNat%2251799813685248+(l.getD 3 0).toNat/2251799813685248:=by
 have h0:=(l.getD 0 0).toNat_lt;have h1:=(l.getD 1 0).toNat_lt;have h2:=(l.getD 2 0).toNat_lt;have h3:=(l.getD 3 0).toNat_lt;have h4:=(l.getD 4 0).toNat_lt;have e19:(ofNat 19).toNat=19:=rfl;refine⟨?_,?_,?_,?_,?_⟩
 .show((l.getD 0 0&&&ofNat 2251799813685247)+aF (l.getD 4 0) 51*ofNat 19).toNat=_
  rw[toNat_add,toNat_mul,gI,jd,e19];omega
 .show((l.getD 1 0&&&ofNat 2251799813685247)+aF (l.getD 0 0) 51).toNat=_
  rw[toNat_add,gI,jd];omega
 .show((l.getD 2 0&&&ofNat 2251799813685247)+aF (l.getD 1 0) 51).toNat=_
  rw[toNat_add,gI,jd];omega
 .show((l.getD 3 0&&&ofNat 2251799813685247)+aF (l.getD 2 0) 51).toNat=_
  rw[toNat_add,gI,jd];omega
 show((l.getD 4 0&&&ofNat 2251799813685247)+aF (l.getD 3 0) 51).toNat=_;rw[toNat_add,gI,jd];omega
theorem jC (l:List UInt64):Lb (ci l):=by
 obtain⟨e0,e1,e2,e3,e4⟩:=yF l;have h0:=(l.getD 0 0).toNat_lt;have h1:=(l.getD 1 0).toNat_lt;have h2:=(l.getD 2 0).toNat_lt;have h3:=(l.getD 3 0).toNat_lt;have h4:=(l.getD 4 0).toNat_lt;refine⟨rfl,?_,?_,?_,?_,?_⟩
 .rw[e0];omega
 .rw[e1];omega
 .rw[e2];omega
 .rw[e3];omega
 rw[e4];omega
theorem aRR (l:List UInt64):nv5 l=nv5 (ci l)+(l.getD 4 0).toNat/2251799813685248*aB:=by
 obtain⟨e0,e1,e2,e3,e4⟩:=yF l;unfold nv5;rw[e0,e1,e2,e3,e4];unfold aB;generalize (l.getD 0 0).toNat=x0;generalize (l.getD 1 0).toNat=x1;generalize (l.getD 2 0).toNat=x2;generalize (l.getD 3 0).toNat=x3;generalize (l.getD 4 0).toNat=x4;omega
theorem qT (l:List UInt64):fv (ci l)=fv l:=by
 unfold fv;rw[aRR l,aZ0]
def adS (a b:List UInt64):Nat->List UInt64
 |0=>replicate 5 0
 |i+1=>(adS a b i).set i (a.getD i 0+b.getD i 0)
theorem aVX (a b:List UInt64):adS a b 5=[a.getD 0 0+b.getD 0 0,a.getD 1 0+b.getD 1 0,a.getD 2 0+b.getD 2 0,a.getD 3 0+b.getD 3 0,a.getD 4 0+b.getD 4 0]:=rfl
theorem nK (a b:List UInt64):∀i,(adS a b i).length=5
 |0=>rfl
 |i+1=>by show((adS a b i).set i _).length=5;rw[length_set];exact nK a b i
def wJ (a b:List UInt64):List UInt64:=ci (adS a b 5)
theorem ei (a b:List UInt64):Lb (wJ a b):=jC _
theorem kV {a b:List UInt64} (ha:Lb a) (hb:Lb b):fv (wJ a b)=fv a+fv b:=by
 unfold wJ;rw[qT];unfold fv;rw[<-af];congr 1;obtain⟨_,a0,a1,a2,a3,a4⟩:=ha;obtain⟨_,b0,b1,b2,b3,b4⟩:=hb;unfold nv5;rw[aVX];have e0:(a.getD 0 0+b.getD 0 0).toNat=(a.getD 0 0).toNat+(b.getD 0 0).toNat:=by rw[toNat_add];omega
 have e1:(a.getD 1 0+b.getD 1 0).toNat=(a.getD 1 0).toNat+(b.getD 1 0).toNat:=by rw[toNat_add];omega
 have e2:(a.getD 2 0+b.getD 2 0).toNat=(a.getD 2 0).toNat+(b.getD 2 0).toNat:=by rw[toNat_add];omega
 have e3:(a.getD 3 0+b.getD 3 0).toNat=(a.getD 3 0).toNat+(b.getD 3 0).toNat:=by rw[toNat_add];omega
 have e4:(a.getD 4 0+b.getD 4 0).toNat=(a.getD 4 0).toNat+(b.getD 4 0).toNat:=by rw[toNat_add];omega
 show(a.getD 0 0+b.getD 0 0).toNat+(a.getD 1 0+b.getD 1 0).toNat*_+(a.getD 2 0+b.getD 2 0).toNat*_+(a.getD 3 0+b.getD 3 0).toNat*_+(a.getD 4 0+b.getD 4 0).toNat*_=_;rw[e0,e1,e2,e3,e4];generalize (a.getD 0 0).toNat=x0 at *;generalize (a.getD 1 0).toNat=x1 at *;generalize (a.getD 2 0).toNat=x2 at *;generalize (a.getD 3 0).toNat=x3 at *;generalize (a.getD 4 0).toNat=x4 at *;omega
def sb0:List UInt64:=[ofNat 9007199254740916,ofNat 9007199254740988,ofNat 9007199254740988,ofNat 9007199254740988,ofNat 9007199254740988]
def sbS (a b:List UInt64):Nat->List UInt64
 |0=>sb0
 |i+1=>(sbS a b i).set i ((sbS a b i).getD i 0+(a.getD i 0-b.getD i 0))
theorem bT (a b:List UInt64):∀i,(sbS a b i).length=5
 |0=>rfl
 |i+1=>by show((sbS a b i).set i _).length=5;rw[length_set];exact bT a b i
theorem aSW (a b:List UInt64):sbS a b 5=[ofNat 9007199254740916+(a.getD 0 0-b.getD 0 0),ofNat 9007199254740988+(a.getD 1 0-b.getD 1 0),ofNat 9007199254740988+(a.getD 2 0-b.getD 2 0),ofNat 9007199254740988+(a.getD 3 0-b.getD 3 0),ofNat 9007199254740988+(a.getD 4 0-b.getD 4 0)]:=rfl
def tj (a b:List UInt64):List UInt64:=ci (sbS a b 5)
theorem dL (a b:List UInt64):Lb (tj a b):=jC _
theorem uF {x y:UInt64} (hx:x.toNat<4503599627370496) (hy:y.toNat<4503599627370496) {c:Nat} (h:4503599627370496<=c) (h':c<9007199254740992):(ofNat c+(x-y)).toNat+y.toNat=c+x.toNat:=by
 rw[toNat_add,UInt64.toNat_sub,toNat_ofNat'];omega
theorem ic {a b:List UInt64} (ha:Lb a) (hb:Lb b):fv (tj a b)=fv a-fv b:=by
 have key:nv5 (sbS a b 5)+nv5 b=nv5 a+4*aB:=by
  obtain⟨_,a0,a1,a2,a3,a4⟩:=ha;obtain⟨_,b0,b1,b2,b3,b4⟩:=hb;have e0:=uF a0 b0 (c:=9007199254740916) (by omega) (by omega);have e1:=uF a1 b1 (c:=9007199254740988) (by omega) (by omega);have e2:=uF a2 b2 (c:=9007199254740988) (by omega) (by omega);have e3:=uF a3 b3 (c:=9007199254740988) (by omega) (by omega);have e4:=uF a4 b4 (c:=9007199254740988) (by omega) (by omega);unfold nv5;rw[aSW];show(ofNat 9007199254740916+(a.getD 0 0-b.getD 0 0)).toNat+(ofNat 9007199254740988+(a.getD 1 0-b.getD 1 0)).toNat*_+(ofNat 9007199254740988+(a.getD 2 0-b.getD 2 0)).toNat*_+(ofNat 9007199254740988+(a.getD 3 0-b.getD 3 0)).toNat*_+(ofNat 9007199254740988+(a.getD 4 0-b.getD 4 0)).toNat*_+_=_;generalize (ofNat 9007199254740916+(a.getD 0 0-b.getD 0 0)).toNat=y0 at *;generalize (ofNat 9007199254740988+(a.getD 1 0-b.getD 1 0)).toNat=y1 at *;generalize (ofNat 9007199254740988+(a.getD 2 0-b.getD 2 0)).toNat=y2 at *;generalize (ofNat 9007199254740988+(a.getD 3 0-b.getD 3 0)).toNat=y3 at *;generalize (ofNat 9007199254740988+(a.getD 4 0-b.getD 4 0)).toNat=y4 at *;unfold aB;omega
 unfold tj;rw[qT];unfold fv;have h:=congrArg fn key;rw[af,aZ0]at h;rw[<-h];exact gr
end Go.Cu
namespace Go.Cu
open Go Go.Sx
def muT (x y:UInt64):UInt64:=aF x 32*(y&&&ofNat 4294967295)+aF ((x&&&ofNat 4294967295)*(y&&&ofNat 4294967295)) 32
def muH (x y:UInt64):UInt64:=aF x 32*aF y 32+aF (muT x y) 32+aF ((muT x y&&&ofNat 4294967295)+(x&&&ofNat 4294967295)*aF y 32) 32
theorem ew {a b:Nat} (ha:a<4294967296) (hb:b<4294967296):a*b<=18446744065119617025:=by
 have:a*b<=4294967295*4294967295:=Nat.mul_le_mul (by omega) (by omega);omega
theorem sk (x1 x0 y1 y0:Nat):(x1*4294967296+x0)*(y1*4294967296+y0)=x1*y1*18446744073709551616+(x1*y0+x0*y1)*4294967296+x0*y0:=by
 rw[add_mul,mul_add,mul_add];have e1:x1*4294967296*(y1*4294967296)=x1*y1*18446744073709551616:=by
  rw[mul_assoc,Nat.mul_left_comm 4294967296,<-mul_assoc]
 have e2:x1*4294967296*y0=x1*y0*4294967296:=by rw[Nat.mul_right_comm]
 have e3:x0*(y1*4294967296)=x0*y1*4294967296:=by rw[mul_assoc]
 rw[e1,e2,e3];omega
theorem yU (x:UInt64):(x&&&ofNat 4294967295).toNat=x.toNat%4294967296:=by
 rw[UInt64.toNat_and,show(ofNat 4294967295).toNat=2^32-1 from rfl,Nat.and_two_pow_sub_one_eq_mod]
theorem aEL (x:UInt64):(aF x 32).toNat=x.toNat/4294967296:=bt x 32
theorem xQ (x y:UInt64):(muH x y).toNat=x.toNat*y.toNat/18446744073709551616:=by
 have hx:=x.toNat_lt;have hy:=y.toNat_lt;have sx:x.toNat=x.toNat/4294967296*4294967296+x.toNat%4294967296:=by omega
 have sy:y.toNat=y.toNat/4294967296*4294967296+y.toNat%4294967296:=by omega
 have ps:=sk (x.toNat/4294967296) (x.toNat%4294967296) (y.toNat/4294967296) (y.toNat%4294967296);rw[<-sx,<-sy]at ps;have b11:=ew (a:=x.toNat/4294967296) (b:=y.toNat/4294967296) (by omega) (by omega);have b10:=ew (a:=x.toNat/4294967296) (b:=y.toNat%4294967296) (by omega) (by omega);have b01:=ew (a:=x.toNat%4294967296) (b:=y.toNat/4294967296) (by omega) (by omega);have b00:=ew (a:=x.toNat%4294967296) (b:=y.toNat%4294967296) (by omega) (by omega);unfold muH muT;simp only[toNat_add,toNat_mul,yU,aEL];generalize x.toNat/4294967296*(y.toNat/4294967296)=p11 at *;generalize x.toNat/4294967296*(y.toNat%4294967296)=p10 at *;generalize x.toNat%4294967296*(y.toNat/4294967296)=p01 at *;generalize x.toNat%4294967296*(y.toNat%4294967296)=p00 at *;generalize x.toNat*y.toNat=P at *;omega
theorem pg (x y:UInt64):(muH x y).toNat*18446744073709551616+(x*y).toNat=x.toNat*y.toNat:=by
 rw[xQ,toNat_mul];omega
theorem nJ (x y:UInt64):(gF x y 0).toNat+(oO x y 0).toNat*18446744073709551616=x.toNat+y.toNat:=by
 have:=x.toNat_lt;have:=y.toNat_lt;unfold gF oO;rw[toNat_ofNat',toNat_ofNat',show(0:UInt64).toNat=0 from rfl];omega
abbrev W2:=UInt64×UInt64
def wV (w:W2):Nat:=w.1.toNat*18446744073709551616+w.2.toNat
theorem aDS (w:W2):wV w=w.1.toNat*18446744073709551616+w.2.toNat:=rfl
def aI (w:W2) (x y:UInt64):W2:=(gF w.1 (muH x y) (oO w.2 (x*y) 0),gF w.2 (x*y) 0)
theorem xT (w:W2) (x y:UInt64):(aI w x y).1=gF w.1 (muH x y) (oO w.2 (x*y) 0):=rfl
theorem xS (w:W2) (x y:UInt64):(aI w x y).2=gF w.2 (x*y) 0:=rfl
theorem aMU (x y c:UInt64):(gF x y c).toNat=(x.toNat+y.toNat+c.toNat)%18446744073709551616:=by
 unfold gF;rw[toNat_ofNat']
theorem aF3 {W1 W2 H L P d s B:Nat} (hm:H*B+L=P) (a1:s+d*B=W2+L):(W1+H+d)*B+s=W1*B+W2+P:=by
 rw[add_mul,add_mul];generalize H*B=x at *;generalize d*B=y at *;generalize W1*B=z at *;omega
theorem aK0 {W1 W2 H L P d s:Nat} (h:W1*18446744073709551616+W2+P<340282366920938463463374607431768211456) (hm:H*18446744073709551616+L=P) (a1:s+d*18446744073709551616=W2+L):
  (W1+H+d)%18446744073709551616*18446744073709551616+s=W1*18446744073709551616+W2+P:=by
 have hlt:W1+H+d<18446744073709551616:=by omega
 rw[mod_eq_of_lt hlt];clear hlt h;exact aF3 hm a1
theorem pi {w:W2} {x y:UInt64} (h:wV w+x.toNat*y.toNat<340282366920938463463374607431768211456):wV (aI w x y)=wV w+x.toNat*y.toNat:=by
 have hm:=pg x y;have a1:=nJ w.2 (x*y);rw[aDS]at h;rw[aDS (aI w x y),aDS w,xT,xS,aMU];exact aK0 h hm a1
def muA (a b:List UInt64) (i k:Nat) (t:List W2):List W2:=
 if 5<=i+k then t.set (i+k-5) (aI (t.getD (i+k-5) (0,0)) (a.getD i 0) (ofNat 19*b.getD k 0))
 else t.set (i+k) (aI (t.getD (i+k) (0,0)) (a.getD i 0) (b.getD k 0))
def muR (a b:List UInt64) (i:Nat) (t:List W2):Nat->List W2
 |0=>t
 |k+1=>muA a b i k (muR a b i t k)
def muS (a b:List UInt64):Nat->List W2
 |0=>replicate 5 (0,0)
 |i+1=>muR a b i (muS a b i) 5
theorem mc {a b:List UInt64} {i:Nat} {t:List W2}:∀k,(muR a b i t k).length=t.length
 |0=>rfl
 |k+1=>by
  show(muA a b i k (muR a b i t k)).length=_;unfold muA;split <;>rw[length_set,mc k]
theorem rl (a b:List UInt64):∀i,(muS a b i).length=5
 |0=>rfl
 |i+1=>by show(muR a b i (muS a b i) 5).length=5;rw[mc,rl a b i]
attribute [irreducible] aI
theorem aXR (a b:List UInt64) (t0 t1 t2 t3 t4:W2):muR a b 0 [t0,t1,t2,t3,t4] 5=[aI t0 (a.getD 0 0) (b.getD 0 0),aI t1 (a.getD 0 0) (b.getD 1 0),aI t2 (a.getD 0 0) (b.getD 2 0),aI t3 (a.getD 0 0) (b.getD 3 0),aI t4 (a.getD 0 0) (b.getD 4 0)]:=rfl
theorem aXQ (a b:List UInt64) (t0 t1 t2 t3 t4:W2):muR a b 1 [t0,t1,t2,t3,t4] 5=[aI t0 (a.getD 1 0) (ofNat 19*b.getD 4 0),aI t1 (a.getD 1 0) (b.getD 0 0),aI t2 (a.getD 1 0) (b.getD 1 0),aI t3 (a.getD 1 0) (b.getD 2 0),aI t4 (a.getD 1 0) (b.getD 3 0)]:=rfl
theorem aXP (a b:List UInt64) (t0 t1 t2 t3 t4:W2):muR a b 2 [t0,t1,t2,t3,t4] 5=[aI t0 (a.getD 2 0) (ofNat 19*b.getD 3 0),aI t1 (a.getD 2 0) (ofNat 19*b.getD 4 0),aI t2 (a.getD 2 0) (b.getD 0 0),aI t3 (a.getD 2 0) (b.getD 1 0),aI t4 (a.getD 2 0) (b.getD 2 0)]:=rfl
theorem aXO (a b:List UInt64) (t0 t1 t2 t3 t4:W2):muR a b 3 [t0,t1,t2,t3,t4] 5=[aI t0 (a.getD 3 0) (ofNat 19*b.getD 2 0),aI t1 (a.getD 3 0) (ofNat 19*b.getD 3 0),aI t2 (a.getD 3 0) (ofNat 19*b.getD 4 0),aI t3 (a.getD 3 0) (b.getD 0 0),aI t4 (a.getD 3 0) (b.getD 1 0)]:=rfl
theorem aXN (a b:List UInt64) (t0 t1 t2 t3 t4:W2):muR a b 4 [t0,t1,t2,t3,t4] 5=[aI t0 (a.getD 4 0) (ofNat 19*b.getD 1 0),aI t1 (a.getD 4 0) (ofNat 19*b.getD 2 0),aI t2 (a.getD 4 0) (ofNat 19*b.getD 3 0),aI t3 (a.getD 4 0) (ofNat 19*b.getD 4 0),aI t4 (a.getD 4 0) (b.getD 0 0)]:=rfl
theorem aTW (a b:List UInt64):muS a b 5=
    [aI (aI (aI (aI (aI (0,0) (a.getD 0 0) (b.getD 0 0)) (a.getD 1 0) (ofNat 19*b.getD 4 0)) (a.getD 2 0) (ofNat 19*b.getD 3 0)) (a.getD 3 0) (ofNat 19*b.getD 2 0)) (a.getD 4 0) (ofNat 19*b.getD 1 0),
     aI (aI (aI (aI (aI (0,0) (a.getD 0 0) (b.getD 1 0)) (a.getD 1 0) (b.getD 0 0)) (a.getD 2 0) (ofNat 19*b.getD 4 0)) (a.getD 3 0) (ofNat 19*b.getD 3 0)) (a.getD 4 0) (ofNat 19*b.getD 2 0),
     aI (aI (aI (aI (aI (0,0) (a.getD 0 0) (b.getD 2 0)) (a.getD 1 0) (b.getD 1 0)) (a.getD 2 0) (b.getD 0 0)) (a.getD 3 0) (ofNat 19*b.getD 4 0)) (a.getD 4 0) (ofNat 19*b.getD 3 0),
     aI (aI (aI (aI (aI (0,0) (a.getD 0 0) (b.getD 3 0)) (a.getD 1 0) (b.getD 2 0)) (a.getD 2 0) (b.getD 1 0)) (a.getD 3 0) (b.getD 0 0)) (a.getD 4 0) (ofNat 19*b.getD 4 0),
     aI (aI (aI (aI (aI (0,0) (a.getD 0 0) (b.getD 4 0)) (a.getD 1 0) (b.getD 3 0)) (a.getD 2 0) (b.getD 2 0)) (a.getD 3 0) (b.getD 1 0)) (a.getD 4 0) (b.getD 0 0)]:=by
  show muR a b 4 (muR a b 3 (muR a b 2 (muR a b 1 (muR a b 0 [(0,0),(0,0),(0,0),(0,0),(0,0)] 5) 5) 5) 5) 5=_;rw[aXR,aXQ,aXP,aXO,aXN]
theorem m19 {x:UInt64} (h:x.toNat<4503599627370496):(ofNat 19*x).toNat=19*x.toNat:=by
 rw[toNat_mul,show(ofNat 19).toNat=19 from rfl];omega
theorem pb1 {x y:Nat} (hx:x<4503599627370496) (hy:y<4503599627370496):x*y<=20282409603651661421847155900416:=by
 have:x*y<=4503599627370495*4503599627370495:=Nat.mul_le_mul (by omega) (by omega);omega
theorem aU1 {x0 x1 x2 x3 x4 y0 y1 y2 y3 y4:UInt64} {p0 p1 p2 p3 p4:Nat} (h0:x0.toNat*y0.toNat=p0) (h1:x1.toNat*y1.toNat=p1) (h2:x2.toNat*y2.toNat=p2) (h3:x3.toNat*y3.toNat=p3) (h4:x4.toNat*y4.toNat=p4)
  (hp:p0+p1+p2+p3+p4<340282366920938463463374607431768211456):
  wV (aI (aI (aI (aI (aI (0,0) x0 y0) x1 y1) x2 y2) x3 y3) x4 y4)=p0+p1+p2+p3+p4:=by
 have z:wV (0,0)=0:=rfl;have a0:=pi (w:=(0,0)) (x:=x0) (y:=y0) (by rw[z,h0];omega);rw[z,h0]at a0;have a1:=pi (w:=aI (0,0) x0 y0) (x:=x1) (y:=y1) (by rw[a0,h1];omega);rw[a0,h1]at a1;have a2:=pi (w:=aI (aI (0,0) x0 y0) x1 y1) (x:=x2) (y:=y2) (by rw[a1,h2];omega);rw[a1,h2]at a2;have a3:=pi (w:=aI (aI (aI (0,0) x0 y0) x1 y1) x2 y2) (x:=x3) (y:=y3) (by rw[a2,h3];omega);rw[a2,h3]at a3;have a4:=pi (w:=aI (aI (aI (aI (0,0) x0 y0) x1 y1) x2 y2) x3 y3) (x:=x4) (y:=y4) (by rw[a3,h4];omega);rw[a3,h4]at a4;rw[a4];omega
def cyS (t:List W2):Nat->List UInt64×UInt64
 |0=>(replicate 5 0,ofNat 0)
 |i+1=>
  ((cyS t i).1.set i (gF (t.getD i (0,0)).2 (cyS t i).2 0&&&ofNat 2251799813685247),
   aQ ((t.getD i (0,0)).1+oO (t.getD i (0,0)).2 (cyS t i).2 0) 13|||aF (gF (t.getD i (0,0)).2 (cyS t i).2 0) 51)
theorem r9 (t:List W2):∀i,(cyS t i).1.length=5
 |0=>rfl
 |i+1=>by show((cyS t i).1.set i _).length=5;rw[length_set];exact r9 t i
def cd (a b:List UInt64):List UInt64:=
 ci ((cyS (muS a b 5) 5).1.set 0 ((cyS (muS a b 5) 5).1.getD 0 0+(cyS (muS a b 5) 5).2*ofNat 19))
theorem aP (a b:List UInt64):Lb (cd a b):=jC _
theorem aTE {x y:UInt64} {k:Nat} (z:Nat) (hx:x.toNat=z*2^k) (hy:y.toNat<2^k):(x|||y).toNat=x.toNat+y.toNat:=by
 rw[UInt64.toNat_or,hx,mul_comm,Nat.two_pow_add_eq_or_of_lt hy]
theorem aRO {W1 W2 d s o:Nat} (_:W1*18446744073709551616+W2+o<41538374868278621028243970633760768) (a:s+d*18446744073709551616=W2+o):s%2251799813685248=(W1*18446744073709551616+W2+o)%2251799813685248:=by omega
theorem aRN {W1 W2 d s o:Nat} (h:W1*18446744073709551616+W2+o<41538374868278621028243970633760768) (a:s+d*18446744073709551616=W2+o):(W1+d)*8192+s/2251799813685248=(W1*18446744073709551616+W2+o)/2251799813685248/\W1+d<2251799813685248:=by omega
theorem aRM {x:Nat} (h:x<2251799813685248):x*2^13<18446744073709551616:=by omega
theorem qQ {w:W2} {o:UInt64} (h:wV w+o.toNat<41538374868278621028243970633760768):
  (gF w.2 o 0&&&ofNat 2251799813685247).toNat=(wV w+o.toNat)%2251799813685248
  /\(aQ (w.1+oO w.2 o 0) 13|||aF (gF w.2 o 0) 51).toNat=(wV w+o.toNat)/2251799813685248:=by
 have a:=nJ w.2 o;have hs:=(gF w.2 o 0).toNat_lt;rw[aDS]at h;rw[aDS];refine⟨?_,?_⟩
 .rw[gI];exact aRO h a
 obtain⟨k1,k2⟩:=aRN h a;have e1:(w.1+oO w.2 o 0).toNat=w.1.toNat+(oO w.2 o 0).toNat:=by
  rw[toNat_add];exact mod_eq_of_lt (by omega)
 have e2:(aQ (w.1+oO w.2 o 0) 13).toNat=(w.1.toNat+(oO w.2 o 0).toNat)*2^13:=by
  rw[wq,e1];exact mod_eq_of_lt (aRM k2)
 have e3:(aF (gF w.2 o 0) 51).toNat<2^13:=by
  rw[jd];show _<8192;omega
 rw[aTE _ e2 e3,e2,jd];exact k1
end Go.Cu
namespace Go.Cu
open Go Go.Sx
def rF:F:=2251799813685248
theorem r5:rF * rF * rF * rF * rF = 19:=by decide +kernel
theorem aZZ:fn 2251799813685248 = rF:=by decide +kernel
theorem aX9:fn 5070602400912917605986812821504 = rF * rF:=by decide +kernel
theorem aX8:fn 11417981541647679048466287755595961091061972992 = rF * rF * rF:=by decide +kernel
theorem aX7:fn 25711008708143844408671393477458601640355247900524685364822016 = rF * rF * rF * rF:=by decide +kernel
theorem aUJ:fn 19 = 19:=by decide +kernel
def lf (l:List UInt64) (i:Nat):F:=fn (l.getD i 0).toNat
theorem aHB (l:List UInt64):fv l=lf l 0+lf l 1*rF+lf l 2*(rF*rF)+lf l 3*(rF*rF*rF)+lf l 4*(rF*rF*rF*rF):=by
 unfold fv nv5 lf;rw[af,af,af,af,lV,lV,lV,lV,aZZ,aX9,aX8,aX7]
theorem aT0 {l:List UInt64} (h:Lb l):∀i,i<5->(l.getD i 0).toNat<4503599627370496:=by
 intro i hi;obtain⟨_,h0,h1,h2,h3,h4⟩:=h
 match i,hi with
 |0,_=>exact h0
 |1,_=>exact h1
 |2,_=>exact h2
 |3,_=>exact h3
 |4,_=>exact h4
theorem pm (x y:UInt64) (hy:y.toNat<4503599627370496):x.toNat*(ofNat 19*y).toNat=19*(x.toNat*y.toNat):=by
 rw[m19 hy,Nat.mul_left_comm]
theorem aQD {a b:List UInt64} (ha:Lb a) (hb:Lb b):
  ∃v0 v1 v2 v3 v4:Nat,wV ((muS a b 5).getD 0 (0,0))=v0/\wV ((muS a b 5).getD 1 (0,0))=v1/\wV ((muS a b 5).getD 2 (0,0))=v2/\wV ((muS a b 5).getD 3 (0,0))=v3/\wV ((muS a b 5).getD 4 (0,0))=v4
   /\v0<2596148429267413814265248164610048/\v1<2596148429267413814265248164610048/\v2<2596148429267413814265248164610048/\v3<2596148429267413814265248164610048/\v4<162259276829213363391578010288128
   /\fn v0=lf a 0*lf b 0+19*(lf a 1*lf b 4)+19*(lf a 2*lf b 3)+19*(lf a 3*lf b 2)+19*(lf a 4*lf b 1)
   /\fn v1=lf a 0*lf b 1+lf a 1*lf b 0+19*(lf a 2*lf b 4)+19*(lf a 3*lf b 3)+19*(lf a 4*lf b 2)
   /\fn v2=lf a 0*lf b 2+lf a 1*lf b 1+lf a 2*lf b 0+19*(lf a 3*lf b 4)+19*(lf a 4*lf b 3)
   /\fn v3=lf a 0*lf b 3+lf a 1*lf b 2+lf a 2*lf b 1+lf a 3*lf b 0+19*(lf a 4*lf b 4)
   /\fn v4=lf a 0*lf b 4+lf a 1*lf b 3+lf a 2*lf b 2+lf a 3*lf b 1+lf a 4*lf b 0:=by
 have la:=aT0 ha;have lb:=aT0 hb;have q:∀i k,i<5->k<5->(a.getD i 0).toNat*(b.getD k 0).toNat<=20282409603651661421847155900416:=λi k hi hk=>pb1 (la i hi) (lb k hk);have p:∀i k,k<5->(a.getD i 0).toNat*(ofNat 19*b.getD k 0).toNat=19*((a.getD i 0).toNat*(b.getD k 0).toNat):=λi k hk=>pm _ _ (lb k hk);have f:∀i k,fn ((a.getD i 0).toNat*(b.getD k 0).toNat)=lf a i*lf b k:=λi k=>lV _ _;have g:∀i k,fn (19*((a.getD i 0).toNat*(b.getD k 0).toNat))=19*(lf a i*lf b k):=λi k=>by rw[lV,f,aUJ]
 rw[aTW];have q00:=q 0 0 (by omega) (by omega);have q01:=q 0 1 (by omega) (by omega);have q02:=q 0 2 (by omega) (by omega);have q03:=q 0 3 (by omega) (by omega);have q04:=q 0 4 (by omega) (by omega);have q10:=q 1 0 (by omega) (by omega);have q11:=q 1 1 (by omega) (by omega);have q12:=q 1 2 (by omega) (by omega);have q13:=q 1 3 (by omega) (by omega);have q14:=q 1 4 (by omega) (by omega);have q20:=q 2 0 (by omega) (by omega);have q21:=q 2 1 (by omega) (by omega);have q22:=q 2 2 (by omega) (by omega);have q23:=q 2 3 (by omega) (by omega);have q24:=q 2 4 (by omega) (by omega);have q30:=q 3 0 (by omega) (by omega);have q31:=q 3 1 (by omega) (by omega);have q32:=q 3 2 (by omega) (by omega);have q33:=q 3 3 (by omega) (by omega);have q34:=q 3 4 (by omega) (by omega);have q40:=q 4 0 (by omega) (by omega);have q41:=q 4 1 (by omega) (by omega);have q42:=q 4 2 (by omega) (by omega);have q43:=q 4 3 (by omega) (by omega);have q44:=q 4 4 (by omega) (by omega)
 refine⟨_,_,_,_,_,aU1 rfl (p 1 4 (by omega)) (p 2 3 (by omega)) (p 3 2 (by omega)) (p 4 1 (by omega)) (by omega),aU1 rfl rfl (p 2 4 (by omega)) (p 3 3 (by omega)) (p 4 2 (by omega)) (by omega),
  aU1 rfl rfl rfl (p 3 4 (by omega)) (p 4 3 (by omega)) (by omega),aU1 rfl rfl rfl rfl (p 4 4 (by omega)) (by omega),aU1 rfl rfl rfl rfl rfl (by omega),by omega,by omega,by omega,by omega,by omega,?_,?_,?_,?_,?_⟩
 .rw[af,af,af,af,f,g,g,g,g]
 .rw[af,af,af,af,f,f,g,g,g]
 .rw[af,af,af,af,f,f,f,g,g]
 .rw[af,af,af,af,f,f,f,f,g]
 rw[af,af,af,af,f,f,f,f,f]
theorem aHE (x:Nat):fn (x%2251799813685248)=fn x-rF*fn (x/2251799813685248):=by
 have h:fn (2251799813685248*(x/2251799813685248)+x%2251799813685248)=fn x:=by rw[Nat.div_add_mod]
 rw[af,lV,aZZ]at h;exact gr
theorem aaW {o0 o1 o2 o3 o4 o5 v0 v1 v2 v3 v4 r c0 c1 c2 c3 c4:F} (h0:o0=0) (hr:r*r*r*r*r=19) (e0:c0=v0+o0-r*o1) (e1:c1=v1+o1-r*o2) (e2:c2=v2+o2-r*o3) (e3:c3=v3+o3-r*o4) (e4:c4=v4+o4-r*o5):
  c0+o5*19+c1*r+c2*(r*r)+c3*(r*r*r)+c4*(r*r*r*r)=v0+v1*r+v2*(r*r)+v3*(r*r*r)+v4*(r*r*r*r):=by
 subst e0 e1 e2 e3 e4 h0;exact gr
theorem aW8 {a0 a1 a2 a3 a4 b0 b1 b2 b3 b4 r:F} (hr:r*r*r*r*r=19):
  (a0*b0+19*(a1*b4)+19*(a2*b3)+19*(a3*b2)+19*(a4*b1))+(a0*b1+a1*b0+19*(a2*b4)+19*(a3*b3)+19*(a4*b2))*r+(a0*b2+a1*b1+a2*b0+19*(a3*b4)+19*(a4*b3))*(r*r)+(a0*b3+a1*b2+a2*b1+a3*b0+19*(a4*b4))*(r*r*r)+(a0*b4+a1*b3+a2*b2+a3*b1+a4*b0)*(r*r*r*r)
   =(a0+a1*r+a2*(r*r)+a3*(r*r*r)+a4*(r*r*r*r))*(b0+b1*r+b2*(r*r)+b3*(r*r*r)+b4*(r*r*r*r)):=by
 exact gr
theorem dh (t:List W2) (i:Nat):cyS t (i+1)=((cyS t i).1.set i (gF (t.getD i (0,0)).2 (cyS t i).2 0&&&ofNat 2251799813685247),
   aQ ((t.getD i (0,0)).1+oO (t.getD i (0,0)).2 (cyS t i).2 0) 13|||aF (gF (t.getD i (0,0)).2 (cyS t i).2 0) 51):=rfl
theorem aVE (t:List W2):(cyS t 5).1=[gF (t.getD 0 (0,0)).2 (cyS t 0).2 0&&&ofNat 2251799813685247,gF (t.getD 1 (0,0)).2 (cyS t 1).2 0&&&ofNat 2251799813685247,gF (t.getD 2 (0,0)).2 (cyS t 2).2 0&&&ofNat 2251799813685247,
   gF (t.getD 3 (0,0)).2 (cyS t 3).2 0&&&ofNat 2251799813685247,gF (t.getD 4 (0,0)).2 (cyS t 4).2 0&&&ofNat 2251799813685247]:=by
 rw[dh t 4,dh t 3];generalize (cyS t 4).2=o4;rw[dh t 2];generalize (cyS t 3).2=o3;rw[dh t 1];generalize (cyS t 2).2=o2;rw[dh t 0];generalize (cyS t 1).2=o1;rfl
theorem tH {v o:Nat} (h:v<2596148429267413814265248164610048) (ho:o<=1152921504606848000):v+o<41538374868278621028243970633760768/\(v+o)/2251799813685248<=1152921504606848000:=by omega
theorem aK6 {v o:Nat} (h:v<162259276829213363391578010288128) (ho:o<=1152921504606848000):v+o<41538374868278621028243970633760768/\(v+o)/2251799813685248<=144115188075855872:=by omega
theorem ak {a b:List UInt64} (ha:Lb a) (hb:Lb b):fv (cd a b)=fv a*fv b:=by
 obtain⟨v0,v1,v2,v3,v4,w0,w1,w2,w3,w4,b0,b1,b2,b3,b4,f0,f1,f2,f3,f4⟩:=aQD ha hb;unfold cd;rw[qT];generalize muS a b 5=t at *;have z0:((cyS t 0).2).toNat=0:=rfl;have l0:=tH b0 (o:=((cyS t 0).2).toNat) (by omega);have s0:=qQ (w:=t.getD 0 (0,0)) (o:=(cyS t 0).2) (by rw[w0];exact l0.1);rw[w0]at s0;have o1:((cyS t 1).2).toNat=(v0+((cyS t 0).2).toNat)/2251799813685248:=by rw[dh];exact s0.2
 have l1:=tH b1 (o:=((cyS t 1).2).toNat) (by rw[o1];exact l0.2);have s1:=qQ (w:=t.getD 1 (0,0)) (o:=(cyS t 1).2) (by rw[w1];exact l1.1);rw[w1]at s1;have o2:((cyS t 2).2).toNat=(v1+((cyS t 1).2).toNat)/2251799813685248:=by rw[dh];exact s1.2
 have l2:=tH b2 (o:=((cyS t 2).2).toNat) (by rw[o2];exact l1.2);have s2:=qQ (w:=t.getD 2 (0,0)) (o:=(cyS t 2).2) (by rw[w2];exact l2.1);rw[w2]at s2;have o3:((cyS t 3).2).toNat=(v2+((cyS t 2).2).toNat)/2251799813685248:=by rw[dh];exact s2.2
 have l3:=tH b3 (o:=((cyS t 3).2).toNat) (by rw[o3];exact l2.2);have s3:=qQ (w:=t.getD 3 (0,0)) (o:=(cyS t 3).2) (by rw[w3];exact l3.1);rw[w3]at s3;have o4:((cyS t 4).2).toNat=(v3+((cyS t 3).2).toNat)/2251799813685248:=by rw[dh];exact s3.2
 have l4:=aK6 b4 (o:=((cyS t 4).2).toNat) (by rw[o4];exact l3.2);have s4:=qQ (w:=t.getD 4 (0,0)) (o:=(cyS t 4).2) (by rw[w4];exact l4.1);rw[w4]at s4;have o5:((cyS t 5).2).toNat=(v4+((cyS t 4).2).toNat)/2251799813685248:=by rw[dh];exact s4.2
 have h5:((cyS t 5).2).toNat<=144115188075855872:=by rw[o5];exact l4.2
 rw[aVE];generalize (cyS t 5).2=O5 at *;generalize (cyS t 4).2=O4 at *;generalize (cyS t 3).2=O3 at *;generalize (cyS t 2).2=O2 at *;generalize (cyS t 1).2=O1 at *;generalize (cyS t 0).2=O0 at *;rw[aHB]
 have c0:lf ([gF (t.getD 0 (0,0)).2 O0 0&&&ofNat 2251799813685247,gF (t.getD 1 (0,0)).2 O1 0&&&ofNat 2251799813685247,gF (t.getD 2 (0,0)).2 O2 0&&&ofNat 2251799813685247,gF (t.getD 3 (0,0)).2 O3 0&&&ofNat 2251799813685247,gF (t.getD 4 (0,0)).2 O4 0&&&ofNat 2251799813685247].set 0 ((gF (t.getD 0 (0,0)).2 O0 0&&&ofNat 2251799813685247)+O5*ofNat 19)) 0
   =fn ((v0+O0.toNat)%2251799813685248)+fn O5.toNat*19:=by
  show fn ((gF (t.getD 0 (0,0)).2 O0 0&&&ofNat 2251799813685247)+O5*ofNat 19).toNat=_;rw[toNat_add,toNat_mul,s0.1,show(ofNat 19).toNat=19 from rfl,<-aUJ,<-lV,<-af];congr 1;rw[mod_eq_of_lt (show O5.toNat*19<2^64 by omega)];exact mod_eq_of_lt (by omega)
 have key:fv (List.set [gF (t.getD 0 (0,0)).2 O0 0&&&ofNat 2251799813685247,gF (t.getD 1 (0,0)).2 O1 0&&&ofNat 2251799813685247,gF (t.getD 2 (0,0)).2 O2 0&&&ofNat 2251799813685247,gF (t.getD 3 (0,0)).2 O3 0&&&ofNat 2251799813685247,gF (t.getD 4 (0,0)).2 O4 0&&&ofNat 2251799813685247] 0 ((gF (t.getD 0 (0,0)).2 O0 0&&&ofNat 2251799813685247)+O5*ofNat 19))
   =(fn ((v0+O0.toNat)%2251799813685248)+fn O5.toNat*19)+fn ((v1+O1.toNat)%2251799813685248)*rF+fn ((v2+O2.toNat)%2251799813685248)*(rF*rF)+fn ((v3+O3.toNat)%2251799813685248)*(rF*rF*rF)+fn ((v4+O4.toNat)%2251799813685248)*(rF*rF*rF*rF):=by
  rw[aHB,c0,<-s1.1,<-s2.1,<-s3.1,<-s4.1];rfl
 rw[<-aHB];refine key.trans ?_;rw[aHE,aHE,aHE,aHE,aHE,<-o1,<-o2,<-o3,<-o4,<-o5,af,af,af,af,af];rw[aaW (o0:=fn O0.toNat) (by rw[z0];rfl) r5 rfl rfl rfl rfl rfl,f0,f1,f2,f3,f4,aW8 r5,<-aHB,<-aHB]
end Go.Cu
