/- Walks. -/
import Derived.Test.YtieblfbmmbkjdaaGreatHx7
import Derived.Test.YtieblfbmmbkjdaaGreatProg
import Derived.KernelRfl
import Derived.Shelf.Strings.Search3
import Derived.Shelf.LaysM
import Derived.Shelf.Strings.Shaped
import Derived.Test.YtieblfbmmbkjdaaGreatHx8
set_option linter.unusedSimpArgs false
set_option linter.unusedVariables false
set_option maxHeartbeats 4000000
open List (replicate length_set length_replicate getD_eq_getElem?_getD take_length take)
open UInt8 (ofNat ofInt)
open Nat (zero_add pow_succ gcd mul_comm le_of_dvd mul_add le_refl)
open Option (getD_none getD_some)
open Int (toNat)
set_option maxRecDepth 100000
namespace Go.Proofs.YtieblfbmmbkjdaaGreat
open Go Go.Sx
def tys:List Ty:=[
 zT,
 zT,
 ⟨.int .i64,1,8,[(1,.i .i64 0)],false⟩,
 ⟨.int .i64,1,8,[(1,.i .i64 0)],false⟩,
 ⟨.bool,1,1,[(1,.ff)],false⟩,
 ⟨.int .u8,1,1,[(1,.u8 0)],false⟩,
 ⟨.int .u8,1,1,[(1,.u8 0)],false⟩,
 ⟨.struct [(0,2),(1,3),(2,4),(3,6)],4,24,[(1,.i .i64 0),(1,.i .i64 0),(1,.ff),(1,.u8 0)],true⟩,
 ⟨.struct [(0,2),(1,3),(2,4),(3,6)],4,24,[(1,.i .i64 0),(1,.i .i64 0),(1,.ff),(1,.u8 0)],true⟩,
 ⟨.string,1,16,[(1,.str [])],false⟩,
 ⟨.string,1,16,[(1,.str [])],false⟩,
 ⟨.string,1,16,[(1,.str [])],false⟩,
 ⟨.int .u64,1,8,[(1,.u64 0)],false⟩,
 ⟨.struct [(0,9),(1,12)],2,24,[(1,.str []),(1,.u64 0)],false⟩,
 ⟨.struct [(0,9),(1,12)],2,24,[(1,.str []),(1,.u64 0)],false⟩,
 ⟨.pointer 192,1,8,[(1,.nilp)],false⟩,
 ⟨.pointer 195,1,8,[(1,.nilp)],false⟩,
 ⟨.pointer 204,1,8,[(1,.nilp)],false⟩,
 ⟨.struct [(0,17)],1,8,[(1,.nilp)],false⟩,
 ⟨.struct [(0,17)],1,8,[(1,.nilp)],false⟩,
 zT,
 ⟨.int .i32,1,4,[(1,.i .i32 0)],false⟩,
 ⟨.array 32 5,32,32,[(32,.a8 (replicate 32 0))],false⟩,
 ⟨.slice 5,1,24,[(1,.nsl)],false⟩,
 ⟨.int .u16,1,2,[(1,.u16 0)],false⟩,
 zT,
 zT,
 ⟨.pointer 87,1,8,[(1,.nilp)],false⟩,
 ⟨.struct [(0,27)],1,8,[(1,.nilp)],false⟩,
 ⟨.struct [(0,27)],1,8,[(1,.nilp)],false⟩,
 zT,
 ⟨.slice 3,1,24,[(1,.nsl)],false⟩,
 ⟨.struct [(0,3),(1,3),(2,3),(3,3),(4,23),(5,31)],6,80,[(1,.i .i64 0),(1,.i .i64 0),(1,.i .i64 0),(1,.i .i64 0),(1,.nsl),(1,.nsl)],false⟩,
 ⟨.struct [(0,3),(1,3),(2,3),(3,3),(4,23),(5,31)],6,80,[(1,.i .i64 0),(1,.i .i64 0),(1,.i .i64 0),(1,.i .i64 0),(1,.nsl),(1,.nsl)],false⟩,
 ⟨.slice 33,1,24,[(1,.nsl)],false⟩,
 zT,
 zT,
 ⟨.slice 41,1,24,[(1,.nsl)],false⟩,
 ⟨.array 64 5,64,64,[(64,.a8 (replicate 64 0))],false⟩,
 ⟨.array 64 5,64,64,[(64,.a8 (replicate 64 0))],false⟩,
 zT,
 ⟨.array 32 5,32,32,[(32,.a8 (replicate 32 0))],false⟩,
 zT,
 zT,
 zT,
 ⟨.slice 23,1,24,[(1,.nsl)],false⟩,
 ⟨.pointer 48,1,8,[(1,.nilp)],false⟩,
 ⟨.struct [(0,29),(1,45),(2,37),(3,45)],4,80,[(1,.nilp),(1,.nsl),(1,.nsl),(1,.nsl)],false⟩,
 ⟨.struct [(0,29),(1,45),(2,37),(3,45)],4,80,[(1,.nilp),(1,.nsl),(1,.nsl),(1,.nsl)],false⟩,
 zT,
 zT,
 zT,
 zT,
 zT,
 zT,
 zT,
 zT,
 zT,
 zT,
 ⟨.int .i64,1,8,[(1,.i .i64 0)],false⟩,
 zT,
 zT,
 zT,
 zT,
 zT,
 ⟨.int .u64,1,8,[(1,.u64 0)],false⟩,
 zT,
 zT,
 ⟨.int .u64,1,8,[(1,.u64 0)],false⟩,
 ⟨.array 5 68,5,40,[(5,.a64 (replicate 5 0))],false⟩,
 ⟨.struct [(0,69)],5,40,[(5,.a64 (replicate 5 0))],true⟩,
 ⟨.struct [(0,69)],5,40,[(5,.a64 (replicate 5 0))],true⟩,
 ⟨.struct [(0,71),(5,71),(10,71),(15,71),(20,4)],21,168,[(5,.a64 (replicate 5 0)),(5,.a64 (replicate 5 0)),(5,.a64 (replicate 5 0)),(5,.a64 (replicate 5 0)),(1,.ff)],false⟩,
 ⟨.struct [(0,71),(5,71),(10,71),(15,71),(20,4)],21,168,[(5,.a64 (replicate 5 0)),(5,.a64 (replicate 5 0)),(5,.a64 (replicate 5 0)),(5,.a64 (replicate 5 0)),(1,.ff)],false⟩,
 zT,
 zT,
 zT,
 zT,
 zT,
 zT,
 zT,
 zT,
 zT,
 zT,
 ⟨.slice 90,1,24,[(1,.nsl)],false⟩,
 ⟨.map 9 3,1,8,[(1,.nilmp)],false⟩,
 ⟨.struct [(0,84),(1,85)],2,32,[(1,.nsl),(1,.nilmp)],false⟩,
 ⟨.struct [(0,84),(1,85)],2,32,[(1,.nsl),(1,.nilmp)],false⟩,
 ⟨.slice 31,1,24,[(1,.nsl)],false⟩,
 ⟨.struct [(0,3),(1,45),(2,88)],3,56,[(1,.i .i64 0),(1,.nsl),(1,.nsl)],false⟩,
 ⟨.struct [(0,3),(1,45),(2,88)],3,56,[(1,.i .i64 0),(1,.nsl),(1,.nsl)],false⟩,
 ⟨.struct [(0,22),(32,23)],33,56,[(32,.a8 (replicate 32 0)),(1,.nsl)],false⟩,
 ⟨.struct [(0,22),(32,23)],33,56,[(32,.a8 (replicate 32 0)),(1,.nsl)],false⟩,
 zT,
 zT,
 zT,
 zT,
 zT,
 zT,
 zT,
 zT,
 zT,
 zT,
 zT,
 zT,
 zT,
 zT,
 zT,
 zT,
 ⟨.array 4 68,4,32,[(4,.a64 (replicate 4 0))],false⟩,
 ⟨.array 4 68,4,32,[(4,.a64 (replicate 4 0))],false⟩,
 zT,
 zT,
 zT,
 zT,
 zT,
 zT,
 zT,
 zT,
 zT,
 zT,
 zT,
 zT,
 ⟨.pointer 157,1,8,[(1,.nilp)],false⟩,
 zT,
 zT,
 zT,
 zT,
 zT,
 zT,
 zT,
 ⟨.array 16 5,16,16,[(16,.a8 (replicate 16 0))],false⟩,
 zT,
 zT,
 zT,
 zT,
 ⟨.struct [(0,68),(1,68)],2,16,[(1,.u64 0),(1,.u64 0)],true⟩,
 ⟨.struct [(0,68),(1,68)],2,16,[(1,.u64 0),(1,.u64 0)],true⟩,
 ⟨.array 5 137,10,80,[(1,.u64 0),(1,.u64 0),(1,.u64 0),(1,.u64 0),(1,.u64 0),(1,.u64 0),(1,.u64 0),(1,.u64 0),(1,.u64 0),(1,.u64 0)],false⟩,
 zT,
 zT,
 zT,
 zT,
 zT,
 zT,
 zT,
 zT,
 zT,
 zT,
 ⟨.array 8 68,8,64,[(8,.a64 (replicate 8 0))],false⟩,
 zT,
 ⟨.pointer 149,1,8,[(1,.nilp)],false⟩,
 zT,
 zT,
 ⟨.int .u32,1,4,[(1,.u32 0)],false⟩,
 ⟨.array 8 154,8,32,[(8,.a32 (replicate 8 0))],false⟩,
 ⟨.struct [(0,155),(8,23),(9,68)],10,64,[(8,.a32 (replicate 8 0)),(1,.nsl),(1,.u64 0)],false⟩,
 ⟨.struct [(0,155),(8,23),(9,68)],10,64,[(8,.a32 (replicate 8 0)),(1,.nsl),(1,.u64 0)],false⟩,
 zT,
 ⟨.pointer 155,1,8,[(1,.nilp)],false⟩,
 ⟨.struct [(0,71),(5,71)],10,80,[(5,.a64 (replicate 5 0)),(5,.a64 (replicate 5 0))],false⟩,
 ⟨.struct [(0,71),(5,71)],10,80,[(5,.a64 (replicate 5 0)),(5,.a64 (replicate 5 0))],false⟩,
 zT,
 zT,
 zT,
 zT,
 ⟨.pointer 182,1,8,[(1,.nilp)],false⟩,
 zT,
 zT,
 zT,
 zT,
 zT,
 ⟨.array 80 68,80,640,[(80,.a64 (replicate 80 0))],false⟩,
 zT,
 zT,
 zT,
 ⟨.array 64 154,64,256,[(64,.a32 (replicate 64 0))],false⟩,
 zT,
 ⟨.slice 68,1,24,[(1,.nsl)],false⟩,
 ⟨.array 256 5,256,256,[(256,.a8 (replicate 256 0))],false⟩,
 ⟨.array 15 131,240,240,[(240,.a8 (replicate 240 0))],false⟩,
 ⟨.struct [(0,179),(256,179),(512,180)],752,752,[(256,.a8 (replicate 256 0)),(256,.a8 (replicate 256 0)),(240,.a8 (replicate 240 0))],false⟩,
 ⟨.struct [(0,179),(256,179),(512,180)],752,752,[(256,.a8 (replicate 256 0)),(256,.a8 (replicate 256 0)),(240,.a8 (replicate 240 0))],false⟩,
 ⟨.array 4 5,4,4,[(4,.a8 (replicate 4 0))],false⟩,
 ⟨.array 60 183,240,240,[(240,.a8 (replicate 240 0))],false⟩,
 zT,
 zT,
 zT,
 zT,
 zT,
 zT,
 ⟨.struct [(0,17),(1,17),(2,17),(3,9)],4,40,[(1,.nilp),(1,.nilp),(1,.nilp),(1,.str [])],false⟩,
 ⟨.struct [(0,17),(1,17),(2,17),(3,9)],4,40,[(1,.nilp),(1,.nilp),(1,.nilp),(1,.str [])],false⟩,
 zT,
 zT,
 zT,
 zT,
 ⟨.int .u8,1,1,[(1,.u8 0)],false⟩,
 ⟨.int .u8,1,1,[(1,.u8 0)],false⟩,
 zT,
 ⟨.pointer 5,1,8,[(1,.nilp)],false⟩,
 ⟨.int .i32,1,4,[(1,.i .i32 0)],false⟩,
 ⟨.int .i32,1,4,[(1,.i .i32 0)],false⟩,
 ⟨.struct [(0,12),(1,12),(2,154),(3,197),(4,5),(5,5),(6,198),(7,199),(8,200),(9,201),(10,202)],11,48,[(1,.u64 0),(1,.u64 0),(1,.u32 0),(1,.u8 0),(1,.u8 0),(1,.u8 0),(1,.u8 0),(1,.raw .nilFunc),(1,.nilp),(1,.i .i32 0),(1,.i .i32 0)],false⟩,
 ⟨.struct [(0,12),(1,12),(2,154),(3,197),(4,5),(5,5),(6,198),(7,199),(8,200),(9,201),(10,202)],11,48,[(1,.u64 0),(1,.u64 0),(1,.u32 0),(1,.u8 0),(1,.u8 0),(1,.u8 0),(1,.u8 0),(1,.raw .nilFunc),(1,.nilp),(1,.i .i32 0),(1,.i .i32 0)],false⟩]
noncomputable def cx:Ctx where
 P:=Tryz.prog
 tys:=tys
 chk:=by kernel_rfl
 mixed:=by kernel_rfl
theorem aCD:aJA cx.P 82 .add64:=aHW (fn:=Tryz.f82) rfl (by kernel_rfl) (by kernel_rfl) (by kernel_rfl) (by kernel_rfl)
theorem zf:aJA cx.P 104 .sub64:=aHV (fn:=Tryz.f104) rfl (by kernel_rfl) (by kernel_rfl) (by kernel_rfl) (by kernel_rfl)
noncomputable def Γ:Cfg where
 toCtx:=cx
 calls:=[4,5,6,7,8,9,10,11,12,13,14,15,16,17,18,19,20,21,22,23,24,25,26,27,28,29,30,31,32,33,34,35,36,37,39,40,41,42,43,44,45,46,47,48,49,50,51,52,53,54,55,56,57,58,59,60,61,62,63,64,65,67,68,69,70,71,72,73,74,75,76,77,78,79,80,81,83,84,85,86,87,88,93,94,95,96,97,98,99,100,101,102,103,105,108,109,110,111,112,113,114]
 callsOK:=by kernel_rfl
 exts:=[(82,.add64),(104,.sub64)]
 extsOK:=by
  intro p hp
  simp only[List.mem_cons,List.not_mem_nil,or_false]at hp
  rcases hp with rfl|rfl
  ·exact aCD
  exact zf
theorem szs:(Γ.ty 3).size=1/\(Γ.ty 3).bytes=8/\(Γ.ty 4).size=1/\(Γ.ty 4).bytes=1/\(Γ.ty 5).size=1/\(Γ.ty 5).bytes=1/\(Γ.ty 9).size=1/\(Γ.ty 9).bytes=16/\(Γ.ty 22).size=32/\(Γ.ty 22).bytes=32/\(Γ.ty 23).size=1/\(Γ.ty 23).bytes=24/\(Γ.ty 27).size=1/\(Γ.ty 27).bytes=8/\(Γ.ty 28).size=1/\(Γ.ty 28).bytes=8/\(Γ.ty 29).size=1/\(Γ.ty 29).bytes=8/\(Γ.ty 31).size=1/\(Γ.ty 31).bytes=24/\(Γ.ty 32).size=6/\(Γ.ty 32).bytes=80/\(Γ.ty 33).size=6/\(Γ.ty 33).bytes=80/\(Γ.ty 34).size=1/\(Γ.ty 34).bytes=24/\(Γ.ty 37).size=1/\(Γ.ty 37).bytes=24/\(Γ.ty 38).size=64/\(Γ.ty 38).bytes=64/\(Γ.ty 39).size=64/\(Γ.ty 39).bytes=64/\(Γ.ty 41).size=32/\(Γ.ty 41).bytes=32/\(Γ.ty 45).size=1/\(Γ.ty 45).bytes=24/\(Γ.ty 46).size=1/\(Γ.ty 46).bytes=8/\(Γ.ty 47).size=4/\(Γ.ty 47).bytes=80/\(Γ.ty 48).size=4/\(Γ.ty 48).bytes=80/\(Γ.ty 68).size=1/\(Γ.ty 68).bytes=8/\(Γ.ty 69).size=5/\(Γ.ty 69).bytes=40/\(Γ.ty 70).size=5/\(Γ.ty 70).bytes=40/\(Γ.ty 71).size=5/\(Γ.ty 71).bytes=40/\(Γ.ty 72).size=21/\(Γ.ty 72).bytes=168/\(Γ.ty 73).size=21/\(Γ.ty 73).bytes=168/\(Γ.ty 84).size=1/\(Γ.ty 84).bytes=24/\(Γ.ty 85).size=1/\(Γ.ty 85).bytes=8/\(Γ.ty 86).size=2/\(Γ.ty 86).bytes=32/\(Γ.ty 87).size=2/\(Γ.ty 87).bytes=32/\(Γ.ty 88).size=1/\(Γ.ty 88).bytes=24/\(Γ.ty 89).size=3/\(Γ.ty 89).bytes=56/\(Γ.ty 90).size=3/\(Γ.ty 90).bytes=56/\(Γ.ty 91).size=33/\(Γ.ty 91).bytes=56/\(Γ.ty 92).size=33/\(Γ.ty 92).bytes=56/\(Γ.ty 109).size=4/\(Γ.ty 109).bytes=32/\(Γ.ty 110).size=4/\(Γ.ty 110).bytes=32/\(Γ.ty 123).size=1/\(Γ.ty 123).bytes=8/\(Γ.ty 131).size=16/\(Γ.ty 131).bytes=16/\(Γ.ty 136).size=2/\(Γ.ty 136).bytes=16/\(Γ.ty 137).size=2/\(Γ.ty 137).bytes=16/\(Γ.ty 138).size=10/\(Γ.ty 138).bytes=80/\(Γ.ty 149).size=8/\(Γ.ty 149).bytes=64/\(Γ.ty 151).size=1/\(Γ.ty 151).bytes=8/\(Γ.ty 154).size=1/\(Γ.ty 154).bytes=4/\(Γ.ty 155).size=8/\(Γ.ty 155).bytes=32/\(Γ.ty 156).size=10/\(Γ.ty 156).bytes=64/\(Γ.ty 157).size=10/\(Γ.ty 157).bytes=64/\(Γ.ty 159).size=1/\(Γ.ty 159).bytes=8/\(Γ.ty 160).size=10/\(Γ.ty 160).bytes=80/\(Γ.ty 161).size=10/\(Γ.ty 161).bytes=80/\(Γ.ty 166).size=1/\(Γ.ty 166).bytes=8/\(Γ.ty 172).size=80/\(Γ.ty 172).bytes=640/\(Γ.ty 176).size=64/\(Γ.ty 176).bytes=256/\(Γ.ty 178).size=1/\(Γ.ty 178).bytes=24/\(Γ.ty 179).size=256/\(Γ.ty 179).bytes=256/\(Γ.ty 180).size=240/\(Γ.ty 180).bytes=240/\(Γ.ty 181).size=752/\(Γ.ty 181).bytes=752/\(Γ.ty 182).size=752/\(Γ.ty 182).bytes=752/\(Γ.ty 183).size=4/\(Γ.ty 183).bytes=4/\(Γ.ty 184).size=240/\(Γ.ty 184).bytes=240:=⟨rfl,rfl,rfl,rfl,rfl,rfl,rfl,rfl,rfl,rfl,rfl,rfl,rfl,rfl,rfl,rfl,rfl,rfl,rfl,rfl,rfl,rfl,rfl,rfl,rfl,rfl,rfl,rfl,rfl,rfl,rfl,rfl,rfl,rfl,rfl,rfl,rfl,rfl,rfl,rfl,rfl,rfl,rfl,rfl,rfl,rfl,rfl,rfl,rfl,rfl,rfl,rfl,rfl,rfl,rfl,rfl,rfl,rfl,rfl,rfl,rfl,rfl,rfl,rfl,rfl,rfl,rfl,rfl,rfl,rfl,rfl,rfl,rfl,rfl,rfl,rfl,rfl,rfl,rfl,rfl,rfl,rfl,rfl,rfl,rfl,rfl,rfl,rfl,rfl,rfl,rfl,rfl,rfl,rfl,rfl,rfl,rfl,rfl,rfl,rfl,rfl,rfl,rfl,rfl,rfl,rfl,rfl,rfl,rfl,rfl,rfl,rfl,rfl,rfl,rfl,rfl,rfl,rfl,rfl,rfl,rfl,rfl,rfl,rfl⟩
theorem fc {p:Prop} (h:p:=by first|((repeat' (first|exact trivial|refine zA.app ?_ ?_|refine zA.zd ?_ ?_|refine zA.cons ?_ ?_ |with_reducible rfl|with_reducible assumption|omega |(simp only[rng,Ix.val,zQ,addI,szs]<;>omega)|(simp only[rng,Ix.val,zIn,zme,zQ,addI,Option.getD_none,Option.getD_some,zlT,zlD,zlA,List.length_set,List.length_replicate,szs, *]<;>omega)|(simp only[Ix.val];with_reducible assumption)|exact UInt8.toNat_lt _|(apply Eq.trans;(with_reducible assumption);exact rfl)|exact rfl|exactλ_ _=>rfl));done)|fail):p:=h
theorem fcn {p:Prop} (h:p:=by first|((repeat' (first|exact trivial|refine zA.app ?_ ?_|refine zA.zd ?_ ?_|refine zA.cons ?_ ?_ |with_reducible rfl|with_reducible assumption|omega |(simp only[Nat.zero_add,zIn,rng,Ix.val,zQ,addI,szs]<;>omega)|(simp only[Nat.zero_add,zIn,rng,Ix.val,zIn,zme,zQ,addI,Option.getD_none,Option.getD_some,zlT,zlD,zlA,List.length_set,List.length_replicate,szs, *]<;>omega)|(simp only[Ix.val];with_reducible assumption)|exact UInt8.toNat_lt _|(apply Eq.trans;(with_reducible assumption);exact rfl)|exact rfl|exactλ_ _=>rfl));done)|fail):p:=h
theorem gi {M M':Mm} {ok:Mm→Bool} {X:Mm→Prop} {ok2:Mm→Bool} {Y:Prop} (k:X []) (h1:M'=[]++M:=by exact rfl) (h2:ok []=true:=by exact rfl):cL M M' ok X ok2 Y:=cL.i [] h1 h2 k
theorem ga {M M':Mm} {ok:Mm→Bool} {X:Mm→Prop} {ok2:Mm→Bool} {Y:Prop} (k:zfM (q9 M M') X) (h1:M'=q9 M M'++M:=by exact rfl) (h2:ok (q9 M M')=true:=by exact rfl):cL M M' ok X ok2 Y:=cL.auto h1 h2 k
theorem gt {M M':Mm} {ok:Mm→Bool} {X:Mm→Prop} {ok2:Mm→Bool} {Y:Prop} (k:Y) (h1:M'=q9 M M'++M:=by exact rfl) (h2:ok2 (q9 M M')=true:=by exact rfl):cL M M' ok X ok2 Y:=cL.turn h1 h2 k
theorem sd {ps:List Prop} {K:Prop} (k:K) (h:zA ps:=by exact fc):fg ps K:=fg.i h k
theorem sdn {ps:List Prop} {K:Prop} (k:K) (h:zA ps:=by exact fcn):fg ps K:=fg.i h k
theorem fcE {p:Prop} (h:p:=by first|((repeat' (first|exact trivial|refine zA.app ?_ ?_|refine zA.zd ?_ ?_|refine zA.cons ?_ ?_|with_reducible rfl|with_reducible assumption|omega|(simp only[Nat.zero_add,e0,e1,e2,e3,e4,zIn,rng,Ix.val,zQ,addI,szs]<;>omega)|(simp only[Nat.zero_add,e0,e1,e2,e3,e4,zIn,rng,Ix.val,zme,zQ,addI,Option.getD_none,Option.getD_some,zlT,zlD,zlA,List.length_set,List.length_replicate,szs, *]<;>omega)|exact fc|fail));done)|fail):p:=h
theorem sdE {ps:List Prop} {K:Prop} (k:K) (h:zA ps:=by exact fcE):fg ps K:=fg.i h k
theorem fcF {p:Prop} (h:p:=by first|((repeat' (first|exact trivial|refine zA.app ?_ ?_|refine zA.zd ?_ ?_|refine zA.cons ?_ ?_|with_reducible rfl|with_reducible assumption|omega|(simp only[Nat.zero_add,e3,zIn,rng,Ix.val,zQ,addI,szs]<;>omega)|(simp only[Nat.zero_add,e3,zIn,rng,Ix.val,zme,zQ,addI,Option.getD_none,Option.getD_some,zlT,zlD,zlA,List.length_set,List.length_replicate,szs, *]<;>omega)|exact fc|fail));done)|fail):p:=h
theorem fcG {p:Prop} (h:p:=by first|((repeat' (first|exact trivial|refine zA.app ?_ ?_|refine zA.zd ?_ ?_|refine zA.cons ?_ ?_|with_reducible rfl|with_reducible assumption|omega|(simp only[Nat.zero_add,e4,zIn,rng,Ix.val,zQ,addI,szs]<;>omega)|(simp only[Nat.zero_add,e4,zIn,rng,Ix.val,zme,zQ,addI,Option.getD_none,Option.getD_some,zlT,zlD,zlA,List.length_set,List.length_replicate,szs, *]<;>omega)|exact fc|fail));done)|fail):p:=h
theorem fcH {p:Prop} (h:p:=by first|((repeat' (first|exact trivial|refine zA.app ?_ ?_|refine zA.zd ?_ ?_|refine zA.cons ?_ ?_|with_reducible rfl|with_reducible assumption|omega|(simp only[Nat.zero_add,e0,zIn,rng,Ix.val,zQ,addI,szs]<;>omega)|(simp only[Nat.zero_add,e0,zIn,rng,Ix.val,zme,zQ,addI,Option.getD_none,Option.getD_some,zlT,zlD,zlA,List.length_set,List.length_replicate,szs, *]<;>omega)|exact fc|fail));done)|fail):p:=h
theorem sdH {ps:List Prop} {K:Prop} (k:K) (h:zA ps:=by exact fcH):fg ps K:=fg.i h k
theorem fcI {p:Prop} (h:p:=by first|((repeat' (first|exact trivial|refine zA.app ?_ ?_|refine zA.zd ?_ ?_|refine zA.cons ?_ ?_|with_reducible rfl|with_reducible assumption|omega|(simp only[Nat.zero_add,e0,e1,zIn,rng,Ix.val,zQ,addI,szs]<;>omega)|(simp only[Nat.zero_add,e0,e1,zIn,rng,Ix.val,zme,zQ,addI,Option.getD_none,Option.getD_some,zlT,zlD,zlA,List.length_set,List.length_replicate,szs, *]<;>omega)|exact fc|fail));done)|fail):p:=h
theorem sdI {ps:List Prop} {K:Prop} (k:K) (h:zA ps:=by exact fcI):fg ps K:=fg.i h k
theorem fcJ {p:Prop} (h:p:=by first|((repeat' (first|exact trivial|refine zA.app ?_ ?_|refine zA.zd ?_ ?_|refine zA.cons ?_ ?_|with_reducible rfl|with_reducible assumption|omega|(simp only[Nat.zero_add,e1,e2,zIn,rng,Ix.val,zQ,addI,szs]<;>omega)|(simp only[Nat.zero_add,e1,e2,zIn,rng,Ix.val,zme,zQ,addI,Option.getD_none,Option.getD_some,zlT,zlD,zlA,List.length_set,List.length_replicate,szs, *]<;>omega)|exact fc|fail));done)|fail):p:=h
theorem sdJ {ps:List Prop} {K:Prop} (k:K) (h:zA ps:=by exact fcJ):fg ps K:=fg.i h k
theorem fcK {p:Prop} (h:p:=by first|((repeat' (first|exact trivial|refine zA.app ?_ ?_|refine zA.zd ?_ ?_|refine zA.cons ?_ ?_|with_reducible rfl|with_reducible assumption|omega|(simp only[Nat.zero_add,ht,zIn,rng,Ix.val,zQ,addI,szs]<;>omega)|(simp only[Nat.zero_add,ht,zIn,rng,Ix.val,zme,zQ,addI,Option.getD_none,Option.getD_some,zlT,zlD,zlA,List.length_set,List.length_replicate,szs, *]<;>omega)|exact fc|fail));done)|fail):p:=h
theorem _root_.Go.gr {p:Prop} (h:p:=by grind -lia -linarith (splits:=0)):p:=h
abbrev r_4:List Nat:=[0,1,2,3]
abbrev r_5:List Nat:=[0,1,2,3,4]
abbrev r_6:List Nat:=[0,1,2,3,4,5]
abbrev r_7:List Nat:=[0,1,2,3,4,5,6]
abbrev r_8:List Nat:=[0,1,2,3,4,5,6,7]
abbrev r_9:List Nat:=[0,1,2,3,4,5,6,7,8]
abbrev ek:List Nat:=[0,1,2,3,4,5,6,7,8,9]
abbrev fe:List Nat:=[0,1,2,3,4,5,6,7,8,9,10]
abbrev kX:List Nat:=[0,1,2,3,4,5,6,7,8,9,10,11]
abbrev jO:List Nat:=[0,1,2,3,4,5,6,7,8,9,10,11,12]
abbrev oB:List Nat:=[0,1,2,3,4,5,6,7,8,9,10,11,12,13]
abbrev nw:List Nat:=[0,1,2,3,4,5,6,7,8,9,10,11,12,13,14]
abbrev na:List Nat:=[0,1,2,3,4,5,6,7,8,9,10,11,12,13,14,15]
abbrev wG:List Nat:=[0,1,2,3,4,5,6,7,8,9,10,11,12,13,14,15,16]
abbrev aBU:List Nat:=[0,1,2,3,4,5,6,7,8,9,10,11,12,13,14,15,16,17]
abbrev uf:List Nat:=[0,1,2,3,4,5,6,7,8,9,10,11,12,13,14,15,16,17,18]
abbrev aJG:List Nat:=[0,1,2,3,4,5,6,7,8,9,10,11,12,13,14,15,16,17,18,19]
abbrev aJF:List Nat:=[0,1,2,3,4,5,6,7,8,9,10,11,12,13,14,15,16,17,18,19,20]
abbrev aZT:List Nat:=[0,1,2,3,4,5,6,7,8,9,10,11,12,13,14,15,16,17,18,19,20,21,22]
abbrev aW5:List Nat:=[0,1,2,3,4,5,6,7,8,9,10,11,12,13,14,15,16,17,18,19,20,21,22,23]
abbrev aW4:List Nat:=[0,1,2,3,4,5,6,7,8,9,10,11,12,13,14,15,16,17,18,19,20,21,22,23,24]
abbrev aW3:List Nat:=[0,1,2,3,4,5,6,7,8,9,10,11,12,13,14,15,16,17,18,19,20,21,22,23,24,25,26,27]
abbrev aS3:List Nat:=[0,1,2,3,4,5,6,7,8,9,10,11,12,13,14,15,16,17,18,19,20,21,22,23,24,25,26,27,28]
abbrev aS2:List Nat:=[0,1,2,3,4,5,6,7,8,9,10,11,12,13,14,15,16,17,18,19,20,21,22,23,24,25,26,27,28,29]
abbrev aZS:List Nat:=[0,1,2,3,4,5,6,7,8,9,10,11,12,13,14,15,16,17,18,19,20,21,22,23,24,25,26,27,28,29,30]
abbrev aZR:List Nat:=[0,1,2,3,4,5,6,7,8,9,10,11,12,13,14,15,16,17,18,19,20,21,22,23,24,25,26,27,28,29,30,31]
abbrev aaY:List Nat:=[0,1,2,3,4,5,6,7,8,9,10,11,12,13,14,15,16,17,18,19,20,21,22,23,24,25,26,27,28,29,30,31,32,33]
structure Wq (q:Prop):Prop where
 w:q
theorem gA {p q:Prop} (k:q) (h:Wq q->p:=by intro k;(repeat(first|refine gi ?_|refine gt ?_|refine ga ?_|refine sd ?_));exact k.w):p:=h ⟨k⟩
theorem gB {p q:Prop} (k:q) (h:Wq q->p:=by intro k;(repeat refine sd ?_);exact k.w):p:=h ⟨k⟩
theorem gC {p q:Prop} (k:q) (h:Wq q->p:=by intro k;(repeat refine sdn ?_);exact k.w):p:=h ⟨k⟩
theorem gD {p q:Prop} (k:q) (h:Wq q->p:=by intro k;(repeat(first|refine gi ?_|refine sd ?_));exact k.w):p:=h ⟨k⟩
theorem gE {p q:Prop} (k:q) (h:Wq q->p:=by intro k;(repeat(first|refine gt ?_|refine sd ?_));exact k.w):p:=h ⟨k⟩
theorem gN {p q:Prop} (k:q) (h:Wq q->p:=by intro k;(dsimp only[zt,zM,zE,ren,zz,zx,zy,jf,zG,zX,ev,evL,zV,zcT,zcF,act,zP,zO,Ent.zW]);exact k.w):p:=h ⟨k⟩
theorem ky0 {p a b:Prop} (k:a) (h:p:=by first|with_reducible exact trivial|with_reducible rfl|with_reducible exact Iff.rfl|fail):zB p a b:=zB.i (λ_=>k) (λhn=>absurd h hn)
theorem kn0 {p a b:Prop} (k:b) (h:¬p:=by first|(intro hn;with_reducible exact False.elim hn)|(intro hn;with_reducible exact absurd trivial hn)|(intro hn;with_reducible exact absurd rfl hn)|(intro hn;with_reducible exact absurd Iff.rfl hn)|fail):zB p a b:=zB.i (λhn=>absurd hn h) (λ_=>k)
theorem ky {p a b:Prop} (k:a) (h:p:=by first|with_reducible assumption|fail):zB p a b:=zB.i (λ_=>k) (λhn=>absurd h hn)
theorem kn {p a b:Prop} (k:b) (h:¬p:=by first|with_reducible assumption|(intro hn;refine absurd ?_ hn;with_reducible assumption)|fail):zB p a b:=zB.i (λhn=>absurd hn h) (λ_=>k)
end Go.Proofs.YtieblfbmmbkjdaaGreat
namespace Go.Proofs
open Go.Shelf
def Tryz.lays144_ren:Go.Shelf.Ren:=⟨λ|144=>19|143=>38|219=>66|217=>89|225=>90|224=>91|267=>92|266=>106|314=>107|n=>n,λ|9=>9|4=>4|3=>3|5=>5|46=>65|146=>174|51=>154|n=>n,λ|1=>0|n=>n⟩
theorem Tryz.lays144:Go.Proofs.Lays.n144 Tryz.prog Tryz.lays144_ren:={
 mixed:=by kernel_rfl
 f143:=Tryz.func38.trans (congrArg some (by kernel_rfl))
 f144:=Tryz.func19.trans (congrArg some (by kernel_rfl))
 f217:=Tryz.func89.trans (congrArg some (by kernel_rfl))
 f219:=Tryz.func66.trans (congrArg some (by kernel_rfl))
 f224:=Tryz.func91.trans (congrArg some (by kernel_rfl))
 f225:=Tryz.func90.trans (congrArg some (by kernel_rfl))
 f266:=Tryz.func106.trans (congrArg some (by kernel_rfl))
 f267:=Tryz.func92.trans (congrArg some (by kernel_rfl))
 f314:=Tryz.func107.trans (congrArg some (by kernel_rfl))
 t3:=Tryz.underlying3
 a3:=Tryz.isAgg3
 z3:=Tryz.sizeOf3
 v3:=Tryz.zeroValue3
 t4:=Tryz.underlying4
 a4:=Tryz.isAgg4
 z4:=Tryz.sizeOf4
 v4:=Tryz.zeroValue4
 t5:=Tryz.underlying5
 a5:=Tryz.isAgg5
 z5:=Tryz.sizeOf5
 v5:=Tryz.zeroValue5
 t9:=Tryz.underlying9
 a9:=Tryz.isAgg9
 z9:=Tryz.sizeOf9
 v9:=Tryz.zeroValue9
 t46:=Tryz.underlying65
 a46:=Tryz.isAgg65
 z46:=Tryz.sizeOf65
 v46:=Tryz.zeroValue65
 t51:=Tryz.underlying154
 a51:=Tryz.isAgg154
 z51:=Tryz.sizeOf154
 v51:=Tryz.zeroValue154
 t146:=Tryz.underlying174
 a146:=Tryz.isAgg174
 z146:=Tryz.sizeOf174
 v146:=Tryz.zeroValue174
 g1:=by kernel_rfl}
open Go.RowKit Go.Lib in
theorem Tryz.strings_Contains (s sub:ByteArray) (m:Int) (w:World) (hs:s.size<4294967281) (hm:w.cell? ⟨0,0,none⟩=some (.int .i64 m)):
  Calls Tryz.prog 19 #[.string s,.string sub] w λe w'=>e= .returned (.bool (Lib.contains s.data.toList sub.data.toList))/\w'=w:=Any.strings_Contains Tryz.lays144 s sub m w hs hm
def Tryz.laysM144_ren:Go.Shelf.Ren:=⟨λ|144=>19|143=>38|219=>66|217=>89|225=>90|224=>91|267=>92|266=>106|314=>107|n=>n,λ|9=>9|4=>4|3=>3|5=>5|46=>65|146=>174|51=>154|n=>n,λ|1=>0|n=>n⟩
theorem Tryz.laysM144:Go.Proofs.LaysM.n144 Tryz.prog Tryz.laysM144_ren:={
 mixed:=by kernel_rfl
 f143:=Tryz.func38.trans (congrArg some (by kernel_rfl))
 f144:=Tryz.func19.trans (congrArg some (by kernel_rfl))
 f217:=Tryz.func89.trans (congrArg some (by kernel_rfl))
 f219:=Tryz.func66.trans (congrArg some (by kernel_rfl))
 f224:=Tryz.func91.trans (congrArg some (by kernel_rfl))
 f225:=Tryz.func90.trans (congrArg some (by kernel_rfl))
 f266:=Tryz.func106.trans (congrArg some (by kernel_rfl))
 f267:=Tryz.func92.trans (congrArg some (by kernel_rfl))
 f314:=Tryz.func107.trans (congrArg some (by kernel_rfl))
 t3:=Tryz.underlying3
 a3:=Tryz.isAgg3
 z3:=Tryz.sizeOf3
 v3:=Tryz.zeroValue3
 t4:=Tryz.underlying4
 a4:=Tryz.isAgg4
 z4:=Tryz.sizeOf4
 v4:=Tryz.zeroValue4
 t5:=Tryz.underlying5
 a5:=Tryz.isAgg5
 z5:=Tryz.sizeOf5
 v5:=Tryz.zeroValue5
 t9:=Tryz.underlying9
 a9:=Tryz.isAgg9
 z9:=Tryz.sizeOf9
 v9:=Tryz.zeroValue9
 t46:=Tryz.underlying65
 a46:=Tryz.isAgg65
 z46:=Tryz.sizeOf65
 v46:=Tryz.zeroValue65
 t51:=Tryz.underlying154
 a51:=Tryz.isAgg154
 z51:=Tryz.sizeOf154
 v51:=Tryz.zeroValue154
 t146:=Tryz.underlying174
 a146:=Tryz.isAgg174
 z146:=Tryz.sizeOf174
 v146:=Tryz.zeroValue174
 g1:=by kernel_rfl
 i3:=by kernel_rfl
 i4:=by kernel_rfl
 i5:=by kernel_rfl
 i9:=by kernel_rfl
 i46:=by kernel_rfl
 i51:=by kernel_rfl
 i146:=by kernel_rfl
 m1:=by kernel_rfl
 s1_3:=λw h=>Go.Proofs.cell_of_shapedOpen_int (zero:=#[.int .i64 0]) (t:=3) h (of_decide_eq_true (by kernel_rfl)) (by kernel_rfl) rfl (by kernel_rfl) (by kernel_rfl) Tryz.underlying3}
end Go.Proofs
namespace Go.Proofs.YtieblfbmmbkjdaaGreat
open Go Go.Sx
def trmB:List UInt8:=[ofNat 116,ofNat 101,ofNat 114,ofNat 109]
theorem tJ {ρ:Env} {M:Mm} {w:World} (h:zF ρ M w):∃n:Int,w.cell? ⟨0,0,none⟩=some (.int .i64 n):=by
 obtain⟨n,hn⟩:=h.gl
 obtain⟨_,cs,h2,h3⟩:=h.imm _ _ _ hn
 obtain⟨c1,c2,rfl,_,⟨x,hx,rfl⟩,rfl⟩:=h2
 have hx:x= .int .i64 n:=hx
 subst hx
 exact⟨n,h3 0 _ rfl⟩
theorem gK (s:List UInt8) (hs:s.length<4294967281):Sx.Fn Γ.P 19 [.str s,.str trmB] [] (λv M=>v= .bool (Lib.contains s trmB=true)/\M=[]):=by
 intro ρ xs w hM hr
 obtain⟨n,hn⟩:=tJ hM
 obtain⟨a,r,rfl,ha,b,r2,rfl,hb,rfl⟩:=hr
 have ha:a= .string ⟨s.toArray⟩:=ha
 have hb:b= .string ⟨trmB.toArray⟩:=hb
 subst ha;subst hb
 refine Calls.mono (Tryz.strings_Contains ⟨s.toArray⟩ ⟨trmB.toArray⟩ n w hs hn) ?_
 rintro e w' ⟨rfl,rfl⟩
 exact⟨.bool (Lib.contains s trmB=true),_,ρ,[],rfl,⟨_,rfl,Iff.rfl⟩,⟨rfl,rfl⟩,ρ.le_refl,hM,aV.refl ρ [] _⟩
end Go.Proofs.YtieblfbmmbkjdaaGreat
namespace Go.Proofs.YtieblfbmmbkjdaaGreat
open Go Go.Sx
def aDF (n:Nat):Nat->List UInt8
 |0=>[]
 |s+1=>ofNat (n/256^s)::aDF n s
theorem oI {a b:List UInt8} {n:Nat} (ha:a.length=n) (hb:b.length=n) (h:∀j,j<n->a.getD j 0=b.getD j 0):a=b:=by
 apply List.ext_getElem (by omega)
 intro i h1 h2
 have:=h i (by omega)
 rwa [getD_eq_getElem?_getD,getD_eq_getElem?_getD,List.getElem?_eq_getElem h1,List.getElem?_eq_getElem h2]at this
end Go.Proofs.YtieblfbmmbkjdaaGreat
namespace Go.Proofs.YtieblfbmmbkjdaaGreat
open Go Go.Sx
@[irreducible] def kC (n:Nat):List UInt8:=[ofNat 116,ofNat 101,ofNat 114,ofNat 109]++(aDF n 4++replicate 24 0)
end Go.Proofs.YtieblfbmmbkjdaaGreat
namespace Go.Proofs.YtieblfbmmbkjdaaGreat
open Go Go.Sx
def nmK (b:List UInt8) (o:Nat):Nat:=(((b.getD (o+4) 0).toNat*256+(b.getD (o+5) 0).toNat)*256+(b.getD (o+6) 0).toNat)*256+(b.getD (o+7) 0).toNat
@[irreducible] def iW (b:List UInt8) (most o:Nat):Nat:=if o+32<=b.length/\1<=nmK b o/\nmK b o<=most/\(b.drop o).take 32=kC (nmK b o)then nmK b o else 0
def inF (b:List UInt8) (most:Nat):Nat->Nat->List Nat
 |0,_=>[]
 |f+1,o=>if b.length<o+32 then[]else if iW b most o=0 then inF b most f (o+1)else iW b most o::inF b most f (o+32)
@[irreducible] def inL (b:List UInt8) (most o:Nat):List Nat:=inF b most (b.length+1-o) o
def toI (l:List Nat):List Int:=l.map Int.ofNat
end Go.Proofs.YtieblfbmmbkjdaaGreat
namespace Go.Proofs.YtieblfbmmbkjdaaGreat
open Go Go.Sx
def rwF (L:List (List UInt8)) (q:Nat):List (Nat×SV):=[(1,.isl 0 (L.getD q []).length 1 [((L.getD q []).length*1,.a8 (L.getD q []))])]
def rwS (n:Nat) (L:List (List UInt8)):List (Nat×SV):=[(n*1,.arr n 1 (rwF L))]
def jnR:List (List UInt8)->List UInt8
 |[]=>[]
 |x::r=>[ofNat (x.length/256),ofNat x.length]++x++jnR r
@[irreducible] def jnB (L:List (List UInt8)):List UInt8:=ofNat L.length::jnR L
theorem aGW (L:List (List UInt8)):jnB L=ofNat L.length::jnR L:=by unfold jnB;rfl
theorem aGV:∀(L M:List (List UInt8)),jnR (L++M)=jnR L++jnR M
 |[],M=>rfl
 |x::r,M=>by
  show[_,_]++x++jnR (r++M)=[_,_]++x++jnR r++jnR M
  rw[aGV r M,List.append_assoc ([_,_]++x)]
theorem cZ {α:Type} (d:α):∀(L:List α) (i:Nat),i<L.length->L.take (i+1)=L.take i++[L.getD i d]
 |x::r,0,_=>rfl
 |x::r,i+1,h=>by
  show x::r.take (i+1)=x::(r.take i++[r.getD i d])
  rw[cZ d r i (by simpa using h)]
@[irreducible] def jnT (L:List (List UInt8)) (i:Nat):List UInt8:=ofNat L.length::jnR (L.take i)
theorem aLD (L:List (List UInt8)):jnT L 0=[ofNat L.length]:=by unfold jnT;rfl
theorem aLE {L:List (List UInt8)} {i:Nat} (h:i<L.length):jnT L (i+1)=(jnT L i++[ofNat ((L.getD i []).length/256),ofNat (L.getD i []).length])++L.getD i []:=by
 unfold jnT
 rw[cZ [] L i h,aGV]
 show _::(jnR (L.take i)++([_,_]++L.getD i []++[]))=_::(jnR (L.take i)++_)++_
 simp
theorem aQ0 (L:List (List UInt8)):jnT L L.length=jnB L:=by unfold jnT jnB;rw[take_length]
theorem aGT:∀(L:List (List UInt8)),(∀x∈L,x.length<=4096)->(jnR L).length<=4098*L.length
 |[],_=>Nat.zero_le _
 |x::r,h=>by
  have h1:=aGT r (λy hy=>h y (List.mem_cons_of_mem _ hy))
  have h2:=h x (List.mem_cons_self ..)
  show([_,_]++x++jnR r).length<=4098*(r.length+1)
  simp only[zlA,List.length_cons,List.length_nil]
  omega
theorem aT8 {L:List (List UInt8)} (i:Nat) (h:∀x∈L.take i,x.length<=4096) (hi:i<=L.length):(jnT L i).length<=4098*i+1:=by
 unfold jnT
 have:=aGT _ h
 rw[zlT]at this
 simp only[List.length_cons];omega
def wA (L:List (List UInt8)):Prop:=L.length<=64/\∀x∈L,x.length<=4096
instance (L:List (List UInt8)):Decidable (wA L):=inferInstanceAs (Decidable (_/\_))
theorem fq {α:Type} (d:α) {L:List α} {i:Nat} (h:i<L.length):L.getD i d∈L:=by
 rw[getD_eq_getElem?_getD,List.getElem?_eq_getElem h]
 exact List.getElem_mem h
theorem fH (i:Nat):ofInt (i:Int)=ofNat i:=by
 apply UInt8.toNat_inj.1
 simp[ofInt]
 try omega
theorem aEM (m:Nat) (h:m<=4096):ofInt ((m:Int)/2^8)=ofNat (m/256):=by
 have:(m:Int)/2^8=((m/256:Nat):Int):=by omega
 rw[this]
 exact fH _
theorem abX (L:List (List UInt8)) (n:Nat) (hn:L.length=n) (hn1:n<=1000000) (hL:∀x∈L,x.length<=1000000):Sx.Fn Γ.P 23 [.slx 1003 0 0 n] [(1003,.mem false 0 (rwS n L))]
  (λv M=>(¬wA L/\v= .tup [.nsl,.ff]/\M=[(1003,.mem false 0 (rwS n L))])\/∃c N,wA L/\(jnB L).length=N/\N<=c/\v= .tup [.sl 1001 0 0 N c,.tt]/\M=[(1003,.mem false 0 (rwS n L)),(1001,.mem true (c-N) [(N,.a8 (jnB L))])]):=by
 unfold rwS rwF
 refine aG (Γ:=Γ) (fn:=Tryz.f23) rfl rfl rfl rfl ?_
 refine gB ?_
 refine zB.i ?_ ?_<;>intro hc
 ·have hc:(n:Int)>64:=hc
  refine gB ?_
  refine Ret.i (.tup [.nsl,.ff]) [(1003,.mem false 0 [(n*1,.arr n 1 (rwF L))])] [] rfl trivial (Or.inl ⟨λh=>by have:=h.1;omega,rfl,rfl⟩) rfl fc rfl fc rfl
 have hc:¬(n:Int)>64:=hc
 have hz:=aLD L
 have hn8:=fH n
 refine gB ?_
 refine aY.i (σ:=Nat×Nat×Nat) (λs=>s.1<=n/\(jnT L s.1).length=s.2.1/\s.2.1<=s.2.2/\∀x∈L.take s.1,x.length<=4096)
  (λs=>([(4,.sl 204 0 0 s.2.1 s.2.2),(14,.slx 1003 0 0 n),(15,.i .i64 (n:Int)),(16,.i .i64 (s.1:Int))],[(1003,.mem false 0 [(n*1,.arr n 1 (rwF L))]),(204,.mem true (s.2.2-s.2.1) [(s.2.1,.a8 (jnT L s.1))])]))
  (λs=>n-s.1) (0,1,1) ⟨Nat.zero_le _,by show(jnT L 0).length=1;rw[hz];rfl,le_refl _,λx h=>by cases h⟩ ?_ ?_
 ·refine Le.i [(204,(13,0,none))] rfl ?_ rfl ?_ rfl
  ·exact fc
  repeat' first|exact trivial|refine zA.app ?_ ?_|refine zA.zd ?_ ?_|refine zA.cons ?_ ?_|exact fc|fail
  all_goals(rw[hz,<-hn,<-fH];subst hn;exact rfl)
 rintro⟨i,N,c⟩ ⟨hi,hN,hNc,hT⟩
 have hi:i<=n:=hi
 have hN:(jnT L i).length=N:=hN
 have hNc:N<=c:=hNc
 have hT:∀x∈L.take i,x.length<=4096:=hT
 have hle:=aT8 i hT (by omega)
 refine zB.i ?_ ?_<;>intro hc
 ·have hc:(i:Int)<n:=hc
  refine gC ?_
  obtain⟨m,hm⟩:∃m,(L.getD i []).length=m:=⟨_,rfl⟩
  have hmem:=fq [] (L:=L) (i:=i) (by omega)
  have hm6:m<=1000000:=by rw[<-hm];exact hL _ hmem
  refine zB.i ?_ ?_<;>intro hc2
  ·have hc2:((L.getD (fL 0 (toNat (i:Int))) []).length:Int)>4096:=hc2
   rw[zQ,zero_add,zIn,hm]at hc2
   refine gB ?_
   refine Ret.i (.tup [.nsl,.ff]) [(1003,.mem false 0 [(n*1,.arr n 1 (rwF L))])] [] rfl trivial (Or.inl ⟨λh=>by have:=h.2 _ hmem;omega,rfl,rfl⟩) rfl fc rfl fc rfl
  have hc2:¬((L.getD (fL 0 (toNat (i:Int))) []).length:Int)>4096:=hc2
  rw[zQ,zero_add,zIn,hm]at hc2
  have hsucc:=aLE (L:=L) (i:=i) (by omega)
  have hT2:∀x∈L.take (i+1),x.length<=4096:=by
   rw[cZ [] L i (by omega)]
   intro x hx
   rcases List.mem_append.1 hx with hx|hx
   ·exact hT x hx
   have hx:x=L.getD i []:=by simpa using hx
   rw[hx,hm];omega
  have e1:=aEM m (by omega)
  have e2:=fH m
  have e3:((m:Int)/2^8)=(m:Int)/256:=rfl
  rw[hm]at hsucc
  have hl1:(jnT L i++[ofNat (m/256),ofNat m]).length=N+2:=by rw[zlA,hN];rfl
  have hl2:(jnT L (i+1)).length=N+2+m:=by rw[hsucc,zlA,hl1,hm]
  refine gC ?_
  refineλc1 hc1=>?_
  have hc1:N+2<=c1:=hc1
  refine gC ?_
  refineλc2 hc2'=>?_
  have hc2':N+2+m<=c2:=by rw[<-hm];exact hc2'
  refine gC ?_
  refine⟨(i+1,N+2+m,c2),⟨by show i+1<=n;omega,hl2,hc2',hT2⟩,by show n-(i+1)<n-i;omega,Le.i [(204,(35,0,none))] rfl ?_ rfl ?_ rfl⟩
  ·exact fcn
  repeat' first|exact trivial|refine zA.app ?_ ?_|refine zA.zd ?_ ?_|refine zA.cons ?_ ?_|exact fcn|fail
  all_goals(simp only[bq,List.drop_zero,Ix.val,zQ,zero_add,zIn,hm];rw[e1,e2,List.take_of_length_le (l:=L.getD i []) (by omega)];exact hsucc)
 have hc:¬(i:Int)<n:=hc
 obtain rfl:i=n:=by omega
 have hall:jnT L i=jnB L:=by rw[<-hn];exact aQ0 L
 have hJ:wA L:=⟨by omega,by rw[<-hn,take_length]at hT;exact hT⟩
 refine gB ?_
 refine Ret.i (.tup [.sl 1001 0 0 N c,.tt]) [(1003,.mem false 0 [(i*1,.arr i 1 (rwF L))]),(1001,.mem true (c-N) [(N,.a8 (jnB L))])] [(1001,(204,0,none))] rfl fc (Or.inr ⟨c,N,hJ,by rw[<-hall];exact hN,hNc,rfl,rfl⟩) rfl fc rfl fc rfl
end Go.Proofs.YtieblfbmmbkjdaaGreat
namespace Go.Proofs.YtieblfbmmbkjdaaGreat
open Go Go.Sx
theorem aFI (x y:List UInt8):Sx.Fn Γ.P 10 [.isl 0 x.length 1 [(x.length*1,.a8 x)],.isl 0 y.length 1 [(y.length*1,.a8 y)]] [] (λv M=>v= .bool (x=y)/\M=[]):=by
 refine aG (Γ:=Γ) (fn:=Tryz.f10) rfl rfl rfl rfl ?_
 refine gB ?_
 have hx:x.take x.length=x:=take_length
 have hy:y.take y.length=y:=take_length
 refine Ret.i (.bool (x=y)) [] [] rfl trivial ⟨rfl,rfl⟩ rfl ?_ rfl trivial rfl
 repeat' first|exact trivial|refine zA.app ?_ ?_|refine zA.zd ?_ ?_|refine zA.cons ?_ ?_|exact fc|fail
 show x=y↔x.take x.length=y.take y.length
 rw[hx,hy]
end Go.Proofs.YtieblfbmmbkjdaaGreat
namespace Go.Proofs.YtieblfbmmbkjdaaGreat
open Go Go.Sx
abbrev Te:=Int×List (List UInt8)
def te0:Te:=(0,[])
def bP (k:Int) (L:List (List UInt8)):Prop:=wA L/\1<=k/\k<=8
instance (k:Int) (L:List (List UInt8)):Decidable (bP k L):=inferInstanceAs (Decidable (_/\_/\_))
def fdT (x:Te):List Te->Nat
 |[]=>0
 |y::r=>if y=x then 1 else match fdT x r with
  |0=>0
  |i+1=>i+2
theorem aHP (x:Te):∀T:List Te,fdT x T<=T.length
 |[]=>le_refl _
 |y::r=>by
  have:=aHP x r
  unfold fdT
  split
  ·simp
  split
  ·simp
  rename_i i h;rw[h]at this;simp only[List.length_cons];omega
@[irreducible] def mkT (T:List Te) (x:Te):List Te×Nat:=if bP x.1 x.2 then match fdT x T with
 |0=>(T++[x],T.length+1)
 |i+1=>(T,i+1)
 else(T,0)
theorem rm {T:List Te} {x:Te} (h:¬bP x.1 x.2):mkT T x=(T,0):=by unfold mkT;rw[if_neg h]
theorem mf {T:List Te} {x:Te} {i:Nat} (h:bP x.1 x.2) (hf:fdT x T=i+1):mkT T x=(T,i+1):=by unfold mkT;rw[if_pos h,hf]
theorem kE {T:List Te} {x:Te} (h:bP x.1 x.2) (hf:fdT x T=0):mkT T x=(T++[x],T.length+1):=by unfold mkT;rw[if_pos h,hf]
theorem xz {α:Type} (d:α) {T:List α} {x:α} {q:Nat} (h:q<T.length):(T++[x]).getD q d=T.getD q d:=by
 rw[getD_eq_getElem?_getD,getD_eq_getElem?_getD,List.getElem?_append_left h]
theorem x5 {α:Type} (d:α) (T:List α) (x:α):(T++[x]).getD T.length d=x:=by
 rw[getD_eq_getElem?_getD,List.getElem?_append_right (le_refl _),Nat.sub_self]
 rfl
end Go.Proofs.YtieblfbmmbkjdaaGreat
namespace Go.Proofs.YtieblfbmmbkjdaaGreat
open Go Go.Sx
def nwF (q:Nat) (L:List (List UInt8)) (j:Nat):List (Nat×SV):=[(1,.isl 0 (inL (L.getD j []) q 0).length 1 [((inL (L.getD j []) q 0).length*1,.ai (toI (inL (L.getD j []) q 0)))])]
def nmS (q:Nat) (L:List (List UInt8)):SV:=.isl 0 L.length 1 [(L.length*1,.arr L.length 1 (nwF q L))]
end Go.Proofs.YtieblfbmmbkjdaaGreat
namespace Go.Proofs.YtieblfbmmbkjdaaGreat
open Go Go.Sx
def tC (b:List UInt8):List UInt8:=if b.length=32 then b else replicate 32 0
theorem ug (b:List UInt8):(tC b).length=32:=by
 unfold tC;split
 ·assumption
 rfl
theorem vl {X r:List UInt8} {m:Nat} (h:X.length=m) (hr:r.length=m):X=take ((none:Option Nat).getD 0) r++take (min X.length m) X++List.drop ((none:Option Nat).getD 0+min X.length m) r:=by
 rw[getD_none,List.take_zero,List.nil_append,h,Nat.min_self,zero_add,List.drop_of_length_le (by omega),List.append_nil,List.take_of_length_le (by omega)]
theorem aYF (b:List UInt8) (n:Nat) (hb:b.length=n) (hn:n<=1000000):Sx.Fn Γ.P 71 [.isl 0 n 1 [(n,.a8 b)]] [] (λv M=>v= .tup [.a8 (tC b),.bool (n=32)]/\M=[]):=by
 have hkl:=ug b
 refine aG (Γ:=Γ) (fn:=Tryz.f71) rfl rfl rfl rfl ?_
 refine gB ?_
 refine zB.i ?_ ?_<;>intro hc
 ·have hc:¬(n:Int)=32:=hc
  have e:tC b=replicate 32 0:=by unfold tC;exact if_neg (by omega)
  refine gB ?_
  refine Ret.i (.tup [.a8 (tC b),.bool (n=32)]) [] [] rfl ?_ ⟨rfl,rfl⟩ rfl ?_ rfl ?_ rfl
  ·exact fc
  ·repeat' first|exact trivial|refine zA.app ?_ ?_|refine zA.zd ?_ ?_|refine zA.cons ?_ ?_|exact fc|fail
   all_goals first|exact e|omega
  exact fc
 have hc:¬¬(n:Int)=32:=hc
 obtain rfl:n=32:=by omega
 have e:tC b=b:=by unfold tC;exact if_pos hb
 have eT:take 32 b=b:=List.take_of_length_le (by omega)
 refine gB ?_
 refine Ret.i (.tup [.a8 (tC b),.bool (32=32)]) [] [] rfl ?_ ⟨rfl,rfl⟩ rfl ?_ rfl ?_ rfl
 ·exact fc
 ·repeat' first|exact trivial|refine zA.app ?_ ?_|refine zA.zd ?_ ?_|refine zA.cons ?_ ?_|exact fc|fail
  rw[e]
  have eD:take 32 (List.drop 0 b)=b:=by rw[List.drop_zero,eT]
  rw[eD]
  exact vl hb rfl
 exact fc
theorem abY (L:List (List UInt8)) (m i:Nat) (hL:L.length=m) (hm:m<=1000) (hi:i<m) (x:List UInt8) (n:Nat) (hx:L.getD i []=x) (hn:x.length=n):
  Sx.Fn Γ.P 20 [.slx 1001 0 0 m,.i .i64 i] [(1001,.mem false 0 [(m*1,.arr m 1 (rwF L))])] (λv M=>v= .tup [.isl 0 n 1 [(n,.a8 x)],.tt]/\M=[(1001,.mem false 0 [(m*1,.arr m 1 (rwF L))])]):=by
 have h0:¬(i:Int)<0:=by omega
 have h1:¬(m:Int)<=(i:Int):=by omega
 refine aG (Γ:=Γ) (fn:=Tryz.f20) rfl rfl rfl rfl ?_
 refine gB ?_
 repeat(first|(refine zB.i (λ_=>?_) (λhn=>absurd rfl hn))|refine ky0 ?_|refine kn0 ?_|refine ky ?_|refine kn ?_|refine sd ?_)
 refine Ret.i (.tup [.isl 0 n 1 [(n,.a8 x)],.tt]) [(1001,.mem false 0 [(m*1,.arr m 1 (rwF L))])] [] rfl ?_ ⟨rfl,rfl⟩ rfl ?_ rfl ?_ rfl
 ·repeat' first|exact trivial|refine zA.app ?_ ?_|refine zA.zd ?_ ?_|refine zA.cons ?_ ?_|exact fc|fail
  all_goals
   have e:fL 0 (toNat (i:Int))=i:=by rw[zQ,zero_add,zIn]
   first
    |(show n=(L.getD (fL 0 (toNat (i:Int))) []).length;rw[e,hx,hn])
    |(show n=(L.getD (fL 0 (toNat (i:Int))) []).length*1;rw[e,hx,hn,Nat.mul_one])
    |(show x=L.getD (fL 0 (toNat (i:Int))) [];rw[e,hx])
    |trace_state
 ·repeat' first|exact trivial|refine zA.app ?_ ?_|refine zA.zd ?_ ?_|refine zA.cons ?_ ?_|exact fc|fail
  all_goals
   have e:fL 0 (toNat (i:Int))=i:=by rw[zQ,zero_add,zIn]
   first
    |(show n=(L.getD (fL 0 (toNat (i:Int))) []).length;rw[e,hx,hn])
    |(show n=(L.getD (fL 0 (toNat (i:Int))) []).length*1;rw[e,hx,hn,Nat.mul_one])
    |(show x=L.getD (fL 0 (toNat (i:Int))) [];rw[e,hx])
    |trace_state
 exact fc
def kiM (s o:SV) (L:List (List UInt8)) (m:Nat):Mm:=[(1000,.mem false 0 [(1,s),(1,.nsl),(1,o),(1,.slx 1001 0 0 m)]),(1001,.mem false 0 [(m*1,.arr m 1 (rwF L))])]
theorem jQ (o:List UInt8) (L:List (List UInt8)) (m i:Nat) (hL:L.length=m) (hm:m<=1000) (hi:i<m) (x:List UInt8) (hx:L.getD i []=x) (hn:x.length=32):
  Sx.Fn Γ.P 40 [.ptr 1000 0 none,.i .i64 i] (kiM .nilp (.isl 0 1 32 [(32,.a8 o)]) L m) (λv M=>v= .tup [.a8 x,.bool (32=32)]/\M=kiM .nilp (.isl 0 1 32 [(32,.a8 o)]) L m):=by
 have hA:=abY L m i hL hm hi x 32 hx hn
 have hK:=aYF x 32 hn (by omega)
 have eK:tC x=x:=by unfold tC;exact if_pos hn
 rw[eK]at hK
 unfold kiM
 refine aG (Γ:=Γ) (fn:=Tryz.f40) rfl rfl rfl rfl ?_
 refine gB ?_
 refine Call.i hA [(1001,(1001,0,none))] rfl fc rfl fc rfl ?_
 rintro _ _ ⟨rfl,rfl⟩
 refine gN ?_
 refine gA ?_
 repeat(first|(refine zB.i (λ_=>?_) (λhn=>absurd rfl hn))|refine ky0 ?_|refine kn0 ?_|refine sd ?_)
 refine Call.i hK [] rfl fc rfl fc rfl ?_
 rintro _ _ ⟨rfl,rfl⟩
 refine gN ?_
 refine gA ?_
 refine Ret.i (.tup [.a8 x,.bool (32=32)]) [(1000,.mem false 0 [(1,.nilp),(1,.nsl),(1,.isl 0 1 32 [(32,.a8 o)]),(1,.slx 1001 0 0 m)]),(1001,.mem false 0 [(m*1,.arr m 1 (rwF L))])] [] rfl fc ⟨rfl,rfl⟩ rfl fc rfl fc rfl
end Go.Proofs.YtieblfbmmbkjdaaGreat
namespace Go.Cu
def IsP (p:Nat):Prop:=2<=p/\∀m,m∣p->m=1\/m=p
theorem IsP.euclid {p:Nat} (h:IsP p) {a b:Nat} (hd:p∣a*b):p∣a\/p∣b:=by
 rcases h.2 (gcd p a) (Nat.gcd_dvd_left p a)with h1|h1
 ·exact Or.inr (Nat.Coprime.dvd_of_dvd_mul_left h1 hd)
 exact Or.inl (h1▸Nat.gcd_dvd_right p a)
theorem exP:∀n,2<=n->∃p,IsP p/\p∣n:=by
 intro n
 induction n using Nat.strongRecOn with
 |_ n ih=>
  intro hn
  by_cases h:IsP n
  ·exact⟨n,h,Nat.dvd_refl n⟩
  have:∃m,m∣n/\m≠1/\m≠n:=by
   apply Classical.byContradiction
   intro hc
   apply h
   refine⟨hn,λm hm=>?_⟩
   by_cases h1:m=1
   ·exact Or.inl h1
   by_cases h2:m=n
   ·exact Or.inr h2
   exact absurd ⟨m,hm,h1,h2⟩ hc
  obtain⟨m,hm,h1,h2⟩:=this
  have hle:=le_of_dvd (by omega) hm
  have h0:m≠0:=by rintro rfl;have:=Nat.eq_zero_of_zero_dvd hm;omega
  obtain⟨p,hp,hpm⟩:=ih m (by omega) (by omega)
  exact⟨p,hp,Nat.dvd_trans hpm hm⟩
def ch:Nat->Nat->Nat
 |_,0=>1
 |0,_+1=>0
 |n+1,k+1=>ch n k+ch n (k+1)
theorem aAR:∀n k,(k+1)*ch (n+1) (k+1)=(n+1)*ch n k
 |0,0=>rfl
 |0,k+1=>by show(k+1+1)*(ch 0 (k+1)+ch 0 (k+2))=1*ch 0 (k+1);show(k+2)*(0+0)=1*0;omega
 |n+1,0=>by
  have h:=aAR n 0
  show 1*(ch (n+1) 0+ch (n+1) 1)=(n+2)*ch (n+1) 0
  have e:ch (n+1) 0=1:=rfl
  have e2:ch n 0=1:=by cases n<;>rfl
  have h':1*ch (n+1) 1=(n+1)*ch n 0:=h
  rw[e2]at h'
  rw[e];omega
 |n+1,k+1=>by
  have h1:=aAR n k
  have h2:=aAR n (k+1)
  show(k+2)*(ch (n+1) (k+1)+ch (n+1) (k+2))=(n+2)*ch (n+1) (k+1)
  have e:ch (n+1) (k+1)=ch n k+ch n (k+1):=rfl
  have h3:(k+2)*ch (n+1) (k+1)=(n+1)*ch n k+ch (n+1) (k+1):=by
   rw[<-h1,<-Nat.succ_mul]
  have h2':(k+2)*ch (n+1) (k+2)=(n+1)*ch n (k+1):=h2
  rw[mul_add,h3,h2']
  have:(n+2)*ch (n+1) (k+1)=(n+1)*ch (n+1) (k+1)+ch (n+1) (k+1):=Nat.succ_mul _ _
  rw[this,e,mul_add]
  omega
theorem aAQ:∀n k,n<k->ch n k=0
 |0,k+1,_=>rfl
 |n+1,k+1,h=>by show ch n k+ch n (k+1)=0;rw[aAQ n k (by omega),aAQ n (k+1) (by omega)]
theorem aIG:∀n,ch n n=1
 |0=>rfl
 |n+1=>by show ch n n+ch n (n+1)=1;rw[aIG n,aAQ n (n+1) (by omega)]
def bs (n a:Nat):Nat->Nat
 |0=>0
 |k+1=>bs n a k+ch n k*a^k
theorem aIL (n a:Nat):∀k,bs (n+1) a (k+1)=bs n a (k+1)+a*bs n a k
 |0=>by show 0+ch (n+1) 0*1=0+ch n 0*1+a*0;have:ch n 0=1:=(by cases n<;>rfl);have e:ch (n+1) 0=1:=rfl;rw[this,e];omega
 |k+1=>by
  have h:=aIL n a k
  show bs (n+1) a (k+1)+ch (n+1) (k+1)*a^(k+1)=bs n a (k+1)+ch n (k+1)*a^(k+1)+a*(bs n a k+ch n k*a^k)
  have e:ch (n+1) (k+1)=ch n k+ch n (k+1):=rfl
  have e2:a*(ch n k*a^k)=ch n k*a^(k+1):=by rw[pow_succ,mul_comm (a^k) a,<-Nat.mul_assoc,<-Nat.mul_assoc,mul_comm a]
  rw[h,e,Nat.add_mul,mul_add,e2]
  omega
theorem aOM (a:Nat):∀n,(a+1)^n=bs n a (n+1)
 |0=>by show 1=0+1*1;rfl
 |n+1=>by
  rw[aIL,pow_succ,aOM a n]
  have:bs n a (n+2)=bs n a (n+1)+ch n (n+1)*a^(n+1):=rfl
  rw[this,aAQ n (n+1) (by omega),Nat.zero_mul,mul_add,mul_comm a]
  omega
theorem aVH {p k:Nat} (h:IsP p) (h0:0<k) (hk:k<p):p∣ch p k:=by
 obtain⟨k,rfl⟩:∃j,k=j+1:=⟨k-1,by omega⟩
 obtain⟨p',rfl⟩:∃j,p=j+1:=⟨p-1,by omega⟩
 have h1:=aAR p' k
 rcases h.euclid (a:=k+1) (b:=ch (p'+1) (k+1)) ⟨ch p' k,h1⟩with h2|h2
 ·have:=le_of_dvd (by omega) h2;omega
 exact h2
theorem aOL {p:Nat} (h:IsP p) (a:Nat):∀k,k+1<=p->bs p a (k+1)%p=1
 |0,_=>by
  have h2:=h.1
  show(0+ch p 0*1)%p=1
  have:ch p 0=1:=by cases p<;>rfl
  rw[this];exact Nat.mod_eq_of_lt (by omega)
 |k+1,hk=>by
  have ih:=aOL h a k (by omega)
  obtain⟨c,hc⟩:=aVH h (k:=k+1) (by omega) (by omega)
  show(bs p a (k+1)+ch p (k+1)*a^(k+1))%p=1
  rw[hc,Nat.mul_assoc,Nat.add_mul_mod_self_left,ih]
theorem aN9 {p:Nat} (h:IsP p):∀a,a^p%p=a%p
 |0=>by have:=h.1;rw[Nat.zero_pow (by omega)]
 |a+1=>by
  have ih:=aN9 h a
  have h2:=h.1
  rw[aOM]
  have e:bs p a (p+1)=bs p a p+ch p p*a^p:=rfl
  have hb:=aOL h a (p-1) (by omega)
  rw[show p-1+1=p by omega]at hb
  rw[e,aIG,Nat.one_mul,Nat.add_mod,ih,hb,Nat.add_comm,Nat.mod_add_mod]
theorem aHO {p a:Nat} (h:IsP p) (ha:¬p∣a):a^(p-1)%p=1:=by
 have h2:=h.1
 have hf:=aN9 h a
 have e:a^p=a*a^(p-1):=by
  have:=@Nat.pow_succ' a (p-1)
  rw[<-this];congr 1;omega
 have hpos:0<a^(p-1):=Nat.pow_pos (by rcases Nat.eq_zero_or_pos a with rfl|h;exact absurd (Nat.dvd_zero p) ha;exact h)
 have hd:p∣a*(a^(p-1)-1):=by
  rw[Nat.mul_sub,<-e,Nat.mul_one]
  exact Nat.dvd_of_mod_eq_zero (Nat.sub_mod_eq_zero_of_mod_eq hf)
 rcases h.euclid hd with h3|h3
 ·exact absurd h3 ha
 obtain⟨c,hc⟩:=h3
 have e2:a^(p-1)=p*c+1:=by omega
 rw[e2,Nat.mul_add_mod];exact Nat.mod_eq_of_lt (by omega)
theorem aKN {b r x:Nat} (h:b^x%r=1) (hr:1<r) (k:Nat):b^(x*k)%r=1:=by
 rw[Nat.pow_mul,Nat.pow_mod,h,Nat.one_pow];exact Nat.mod_eq_of_lt hr
theorem aPU {b r:Nat} (hr:1<r):∀x y,b^x%r=1->b^y%r=1->b^gcd x y%r=1:=by
 intro x
 induction x using Nat.strongRecOn with
 |_ x ih=>
  intro y hx hy
  rcases Nat.eq_zero_or_pos x with rfl|h0
  ·rw[Nat.gcd_zero_left];exact hy
  rw[Nat.gcd_rec]
  refine ih (y%x) (Nat.mod_lt _ h0) x ?_ hx
  have e:b^y=b^(x*(y/x))*b^(y%x):=by rw[<-Nat.pow_add,Nat.div_add_mod]
  rw[e,Nat.mul_mod,aKN hx hr,Nat.one_mul,Nat.mod_mod]at hy
  exact hy
theorem aa1 {N a q m r:Nat} (hq:IsP q) (hN:N=q*m+1) (h1:a^(q*m)%N=1) (hg:gcd (a^m%N+(N-1)) N=1) (hr:IsP r) (hd:r∣N):q∣r-1:=by
 have hr2:=hr.1
 apply Classical.byContradiction
 intro hc
 have hco:gcd q (r-1)=1:=by
  rcases hq.2 _ (Nat.gcd_dvd_left q (r-1))with h|h
  ·exact h
  exact absurd (h▸Nat.gcd_dvd_right q (r-1)) hc
 have hbq:(a^m)^q%r=1:=by
  rw[<-Nat.pow_mul,mul_comm m q,<-Nat.mod_mod_of_dvd _ hd,h1]
  exact Nat.mod_eq_of_lt hr2
 have hnd:¬r∣a^m:=by
  intro h
  have hq2:=hq.1
  have h3:r∣(a^m)^q:=Nat.dvd_trans h ⟨(a^m)^(q-1),by have:=@Nat.pow_succ' (a^m) (q-1);rw[<-this];congr 1;omega⟩
  have:=Nat.mod_eq_zero_of_dvd h3
  omega
 have hbr:=aHO hr hnd
 have hb:=aPU (by omega) q (r-1) hbq hbr
 rw[hco,Nat.pow_one]at hb
 have h4:(a^m%N)%r=1:=by rw[Nat.mod_mod_of_dvd _ hd];exact hb
 have h5:r∣a^m%N+(N-1):=by
  apply Nat.dvd_of_mod_eq_zero
  obtain⟨k,hk⟩:=hd
  have hk1:1<=k:=by rcases Nat.eq_zero_or_pos k with rfl|h;rw[Nat.mul_zero]at hk;omega;exact h
  have e:a^m%N+(N-1)=r*(a^m%N/r)+r*k:=by
   have:=Nat.div_add_mod (a^m%N) r
   have hN1:1<=N:=by rw[hN];omega
   rw[h4]at this
   omega
  rw[e,<-mul_add,Nat.mul_mod_right]
 have h6:r∣1:=hg▸Nat.dvd_gcd h5 hd
 have:=le_of_dvd (by omega) h6
 omega
theorem aS9 {N Q:Nat} (hN:2<=N) (h:∀r,IsP r->r∣N->Q∣r-1) (hQ:N<(Q+1)*(Q+1)):IsP N:=by
 have key:∀m,m∣N->2<=m->Q+1<=m:=by
  intro m hm h2
  obtain⟨r,hr,hrm⟩:=exP m h2
  have h1:=h r hr (Nat.dvd_trans hrm hm)
  have h3:=hr.1
  have:=le_of_dvd (by omega) h1
  have:=le_of_dvd (by omega) hrm
  omega
 refine⟨hN,λm hm=>?_⟩
 obtain⟨k,hk⟩:=hm
 by_cases h1:m=1
 ·exact Or.inl h1
 by_cases h2:m=N
 ·exact Or.inr h2
 have m0:m≠0:=by rintro rfl;omega
 have k0:k≠0:=by rintro rfl;omega
 have k1:k≠1:=by rintro rfl;omega
 have:=Nat.mul_le_mul (key m ⟨k,hk⟩ (by omega)) (key k ⟨m,by rw[hk,mul_comm]⟩ (by omega))
 omega
def aKZ (m a:Nat):Nat->Nat->Nat
 |0,_=>1%m
 |f+1,e=>let h:=aKZ m a f (e/2);if e%2=0 then h*h%m else h*h%m*a%m
theorem tE (m a:Nat):∀f e,e<2^f->aKZ m a f e=a^e%m
 |0,e,h=>by
  have:e=0:=by simpa using h
  subst this;rfl
 |f+1,e,h=>by
  have ih:=tE m a f (e/2) (by rw[pow_succ]at h;omega)
  have e1:=Nat.div_add_mod e 2
  unfold aKZ
  rw[ih]
  show(if e%2=0 then a^(e/2)%m*(a^(e/2)%m)%m else a^(e/2)%m*(a^(e/2)%m)%m*a%m)=a^e%m
  rw[<-Nat.mul_mod,<-Nat.pow_add]
  by_cases h0:e%2=0
  ·rw[if_pos h0];congr 2;omega
  rw[if_neg h0,Nat.mod_mul_mod,<-pow_succ];congr 2;omega
def aKT (n:Nat):Nat->Bool
 |0=>true
 |1=>true
 |k+2=>n%(k+2) !=0&&aKT n (k+1)
theorem rg (n:Nat):∀k,aKT n k=true->∀j,2<=j->j<=k->n%j≠0
 |0,_,j,h1,h2=>by omega
 |1,_,j,h1,h2=>by omega
 |k+2,h,j,h1,h2=>by
  unfold aKT at h
  rw[Bool.and_eq_true]at h
  by_cases hj:j=k+2
  ·subst hj;simpa using h.1
  exact rg n (k+1) h.2 j h1 (by omega)
theorem small {n:Nat} (k:Nat) (h2:2<=n) (hk:n<(k+1)*(k+1)) (h:aKT n k=true):IsP n:=by
 have key:∀m,m∣n->2<=m->k+1<=m:=by
  intro m hm hm2
  apply Classical.byContradiction
  intro hc
  exact rg n k h m hm2 (by omega) (Nat.mod_eq_zero_of_dvd hm)
 refine⟨h2,λm hm=>?_⟩
 obtain⟨j,hj⟩:=hm
 by_cases h1:m=1
 ·exact Or.inl h1
 by_cases h3:m=n
 ·exact Or.inr h3
 have m0:m≠0:=by rintro rfl;omega
 have k0:j≠0:=by rintro rfl;omega
 have k1:j≠1:=by rintro rfl;omega
 have:=Nat.mul_le_mul (key m ⟨j,hj⟩ (by omega)) (key j ⟨m,by rw[hj,mul_comm]⟩ (by omega))
 omega
def pkB (N q:Nat):Bool:=N==q*((N-1)/q)+1&&(aKZ N 2 256 (N-1)==1&&gcd (aKZ N 2 256 ((N-1)/q)+(N-1)) N==1)
theorem xM {N q r:Nat} (hq:IsP q) (hN:N<2^256) (h:pkB N q=true) (hr:IsP r) (hd:r∣N):q∣r-1:=by
 unfold pkB at h
 rw[Bool.and_eq_true,Bool.and_eq_true,beq_iff_eq,beq_iff_eq,beq_iff_eq]at h
 obtain⟨h1,h2,h3⟩:=h
 rw[tE N 2 256 _ (by omega)]at h2
 rw[tE N 2 256 _ (Nat.lt_of_le_of_lt (Nat.div_le_self _ _) (by omega))]at h3
 refine aa1 hq (m:=(N-1)/q) (a:=2) h1 ?_ h3 hr hd
 have:q*((N-1)/q)=N-1:=by omega
 rw[this];exact h2
theorem pk1 {N:Nat} (q:Nat) (hq:IsP q) (hN2:2<=N) (hN:N<2^256) (hQ:N<(q+1)*(q+1)) (h:pkB N q=true):IsP N:=
 aS9 hN2 (λ_ hr hd=>xM hq hN h hr hd) hQ
theorem pk2 {N:Nat} (q s:Nat) (hq:IsP q) (hs:IsP s) (hc:gcd q s=1) (hN2:2<=N) (hN:N<2^256) (hQ:N<(q*s+1)*(q*s+1)) (h:pkB N q=true) (h':pkB N s=true):IsP N:=
 aS9 hN2 (λ_ hr hd=>Nat.Coprime.mul_dvd_of_dvd_of_dvd hc (xM hq hN h hr hd) (xM hs hN h' hr hd)) hQ
abbrev aB:Nat:=57896044618658097711785492504343953926634992332820282019728792003956564819949
theorem prA:IsP 8574133:=pk2 991 103 (small 31 (by decide) (by decide) (by decide +kernel)) (small 10 (by decide) (by decide) (by decide +kernel)) (by decide +kernel) (by decide) (by decide +kernel) (by decide +kernel) (by decide +kernel) (by decide +kernel)
theorem prB:IsP 1919519569386763:=pk2 8574133 127 prA (small 11 (by decide) (by decide) (by decide +kernel)) (by decide +kernel) (by decide) (by decide +kernel) (by decide +kernel) (by decide +kernel) (by decide +kernel)
theorem prC:IsP 72106336199:=pk1 2773320623 (pk1 569003 (small 754 (by decide) (by decide) (by decide +kernel)) (by decide) (by decide +kernel) (by decide +kernel) (by decide +kernel)) (by decide) (by decide +kernel) (by decide +kernel) (by decide +kernel)
theorem prD:IsP 75445702479781427272750846543864801:=pk2 1919519569386763 72106336199 prB prC (by decide +kernel) (by decide) (by decide +kernel) (by decide +kernel) (by decide +kernel) (by decide +kernel)
theorem prE:IsP 31757755568855353:=pk2 430751 4153 (small 656 (by decide) (by decide) (by decide +kernel)) (small 64 (by decide) (by decide) (by decide +kernel)) (by decide +kernel) (by decide) (by decide +kernel) (by decide +kernel) (by decide +kernel) (by decide +kernel)
theorem prF:IsP 74058212732561358302231226437062788676166966415465897661863160754340907:=pk2 75445702479781427272750846543864801 31757755568855353 prD prE (by decide +kernel) (by decide) (by decide +kernel) (by decide +kernel) (by decide +kernel) (by decide +kernel)
theorem prP:IsP aB:=pk1 74058212732561358302231226437062788676166966415465897661863160754340907 prF (by decide) (by decide +kernel) (by decide +kernel) (by decide +kernel)
end Go.Cu
namespace Go.Cu
abbrev F:=Fin aB
instance:NeZero aB:=⟨by decide⟩
theorem aHT (a b:F):(a*b).val=a.val*b.val%aB:=rfl
theorem aHU (a b:F):(a+b).val=(a.val+b.val)%aB:=rfl
theorem dI {a b:F} (h:a*b=0):a=0\/b=0:=by
 have h1:a.val*b.val%aB=0:=congrArg Fin.val h
 rcases prP.euclid (Nat.dvd_of_mod_eq_zero h1)with h2|h2
 ·exact Or.inl (Fin.ext (by have:=Nat.eq_zero_of_dvd_of_lt h2 a.isLt;exact this))
 exact Or.inr (Fin.ext (by have:=Nat.eq_zero_of_dvd_of_lt h2 b.isLt;exact this))
theorem cl {a b:F} (ha:a≠0) (hb:b≠0):a*b≠0:=λh=>(dI h).elim ha hb
theorem x6 {a b c:F} (hc:c≠0) (h:a*c=b*c):a=b:=by
 have h1:(a - b) * c = 0:=by grind
 rcases dI h1 with h2|h2
 ·grind
 exact absurd h2 hc
def pw (a:F):Nat->F
 |0=>1
 |n+1=>pw a n*a
theorem aFC (a:F):∀n,(pw a n).val=a.val^n%aB
 |0=>rfl
 |n+1=>by rw[pow_succ,<-Nat.mod_mul_mod,<-aFC a n];rfl
theorem rZ (a:F) (n:Nat):∀m,pw a (n+m)=pw a n*pw a m
 | 0=>by show pw a n = pw a n * 1;grind
 | m + 1=>by show pw a (n + m) * a = pw a n * (pw a m * a);rw [rZ a n m];grind
theorem aNB (a:F) (n:Nat):∀m,pw a (n*m)=pw (pw a n) m
 |0=>rfl
 |m+1=>by rw[Nat.mul_succ,rZ,aNB a n m];rfl
theorem va (a b:F):∀n,pw (a*b) n=pw a n*pw b n
 | 0=>by show (1:F) = 1 * 1;grind
 | n + 1=>by show pw (a * b) n * (a * b) = pw a n * a * (pw b n * b);rw [va a b n];grind
theorem aS7 (a:F):pw a 2 = a * a:=by show 1 * a * a = a * a;grind
theorem aAL {a:F} (ha:a≠0):pw a (aB-1)=1:=by
 apply Fin.ext
 rw[aFC]
 exact aHO prP (λh=>ha (Fin.ext (Nat.eq_zero_of_dvd_of_lt h a.isLt)))
theorem aFE (a:F) (n:Nat) (h:n<2^256):(pw a n).val=aKZ aB a.val 256 n:=by rw[aFC,tE _ _ _ _ h]
@[irreducible] def inv (a:F):F:=pw a (aB-2)
theorem aG3 (a:F):inv a=pw a (aB-2):=by unfold inv;rfl
theorem aFD (a:F) (n:Nat):pw a (n+1)=pw a n*a:=rfl
theorem p9 {a:F} (ha:a≠0):inv a*a=1:=by
 have h:=aAL ha
 rw[show aB-1=(aB-2)+1 by decide,aFD]at h
 rw[aG3];exact h
theorem aOB (a b:F):a * b = b * a:=by grind
theorem iv {a:F} (ha:a≠0):a*inv a=1:=by rw[aOB];exact p9 ha
theorem aPT {n:Nat} (h:n≠0):pw 0 n=0:=by
 obtain⟨m,rfl⟩:∃m,n=m+1:=⟨n-1,by omega⟩
 show pw 0 m * 0 = 0;grind
theorem uh:inv 0=0:=by rw[aG3];exact aPT (by decide)
theorem uj (a b:F):inv (a*b)=inv a*inv b:=by rw[aG3,aG3,aG3,va]
def dF:F:=37095705934669439343138083508754565189542113879843219016388785533085940283555
def iF:F:=19681161376707505956807079304988542015446066515923890162744021073123829784752
theorem aaR:121666 * dF = 0 - 121665:=by decide +kernel
theorem aX4:iF * iF = 0 - 1:=by decide +kernel
theorem nR:(2:F)≠0:=by decide
theorem aUF:(aB-1)/2<2^256:=by decide
theorem aEI {s:F} (hs:s≠0):pw (s*s) ((aB-1)/2)=1:=by
 rw[<-aS7,<-aNB];exact aAL hs
theorem aP3 {s t:F} (h:s*s=dF*(t*t)):t=0:=by
 apply Classical.byContradiction
 intro ht
 have h1:(s * inv t) * (s * inv t) = dF:=by have:=iv ht;grind
 have hs:s*inv t≠0:=by
  intro h0
  rw[h0]at h1
  exact absurd h1 (by decide)
 have h2:=aEI hs
 rw[h1]at h2
 have h3:(pw dF ((aB-1)/2)).val=1:=by rw[h2];rfl
 rw[aFE _ _ aUF]at h3
 exact absurd h3 (by decide +kernel)
end Go.Cu
namespace Go.Cu
def On (x y:F):Prop:=y*y-x*x=1+dF*(x*x*(y*y))
theorem aAP {x1 y1 x2 y2 e:F} (h1:On x1 y1) (h2:On x2 y2) (he:e*e=1):dF*(x1*x2*y1*y2)≠e:=by
 intro h
 unfold On at h1 h2
 have e0:e≠0:=by rintro rfl;exact absurd he (by decide)
 have n1:x1*y1≠0:=by
  intro h0
  apply e0
  rw[<-h];exact gr
 have n2:x2≠0:=by
  intro h0
  apply e0
  rw[<-h,h0];exact gr
 have hi:=aX4
 have a1:(x1+iF*e*y1)*(x1+iF*e*y1)=dF*((x1*y1*(x2+iF*y2))*(x1*y1*(x2+iF*y2))):=gr
 have a2:(x1-iF*e*y1)*(x1-iF*e*y1)=dF*((x1*y1*(x2-iF*y2))*(x1*y1*(x2-iF*y2))):=gr
 have b1:=(dI (aP3 a1)).resolve_left n1
 have b2:=(dI (aP3 a2)).resolve_left n1
 have c:2*x2=0:=gr
 rcases dI c with c|c
 ·exact nR c
 exact n2 c
structure Pt where
 x:F
 y:F
 on:On x y
theorem Pt.ext' {P Q:Pt} (hx:P.x=Q.x) (hy:P.y=Q.y):P=Q:=by
 cases P;cases Q;simp only at hx hy;subst hx;subst hy;rfl
def Pt.ex (P Q:Pt):F:=dF*(P.x*Q.x*P.y*Q.y)
theorem Pt.pos (P Q:Pt):1+P.ex Q≠0:=by
 intro h
 refine aAP P.on Q.on (e:=0-1) (by decide) ?_
 unfold Pt.ex at h
 exact gr
theorem Pt.neg' (P Q:Pt):1-P.ex Q≠0:=by
 intro h
 refine aAP P.on Q.on (e:=1) (by decide) ?_
 unfold Pt.ex at h
 exact gr
theorem aVW {x1 y1 x2 y2 x y:F} (h1:On x1 y1) (h2:On x2 y2) (hx:x*(1+dF*(x1*x2*y1*y2))=x1*y2+x2*y1) (hy:y*(1-dF*(x1*x2*y1*y2))=y1*y2+x1*x2)
  (n1:1+dF*(x1*x2*y1*y2)≠0) (n2:1-dF*(x1*x2*y1*y2)≠0):On x y:=by
 unfold On at *
 generalize hB:1+dF*(x1*x2*y1*y2)=B at *
 generalize hD:1-dF*(x1*x2*y1*y2)=D at *
 have hBD:B*B*(D*D)≠0:=cl (cl n1 n1) (cl n2 n2)
 refine x6 hBD ?_
 have e1:(y*y-x*x)*(B*B*(D*D))=(y*D)*(y*D)*(B*B)-(x*B)*(x*B)*(D*D):=by clear h1 h2 hx hy hB hD;exact gr
 have e2:(1+dF*(x*x*(y*y)))*(B*B*(D*D))=B*B*(D*D)+dF*((x*B)*(x*B)*((y*D)*(y*D))):=by clear h1 h2 hx hy hB hD;exact gr
 rw[e1,e2,hx,hy]
 clear e1 e2 hx hy hBD n1 n2
 subst hB hD
 exact gr
def Pt.add (P Q:Pt):Pt where
 x:=(P.x*Q.y+Q.x*P.y)*inv (1+P.ex Q)
 y:=(P.y*Q.y+P.x*Q.x)*inv (1-P.ex Q)
 on:=by
  have h1:=p9 (P.pos Q)
  have h2:=p9 (P.neg' Q)
  refine aVW P.on Q.on ?_ ?_ (P.pos Q) (P.neg' Q)
  ·unfold Pt.ex at *;exact gr
  unfold Pt.ex at *;exact gr
theorem Pt.add_x (P Q:Pt):(P.add Q).x*(1+P.ex Q)=P.x*Q.y+Q.x*P.y:=by
 have h1:=p9 (P.pos Q)
 show(P.x*Q.y+Q.x*P.y)*inv (1+P.ex Q)*(1+P.ex Q)=_
 exact gr
theorem Pt.add_y (P Q:Pt):(P.add Q).y*(1-P.ex Q)=P.y*Q.y+P.x*Q.x:=by
 have h1:=p9 (P.neg' Q)
 show(P.y*Q.y+P.x*Q.x)*inv (1-P.ex Q)*(1-P.ex Q)=_
 exact gr
theorem Pt.add_eq {P Q R:Pt} (hx:R.x*(1+P.ex Q)=P.x*Q.y+Q.x*P.y) (hy:R.y*(1-P.ex Q)=P.y*Q.y+P.x*Q.x):P.add Q=R:=
 Pt.ext' (x6 (P.pos Q) (by rw[Pt.add_x,hx])) (x6 (P.neg' Q) (by rw[Pt.add_y,hy]))
def Pt.O:Pt:=⟨0,1,by unfold On;decide +kernel⟩
def Pt.ng (P:Pt):Pt:=⟨0-P.x,P.y,by have:=P.on;unfold On at *;exact gr⟩
theorem Pt.add_comm (P Q:Pt):P.add Q=Q.add P:=by
 have h1:=Q.add_x P
 have h2:=Q.add_y P
 refine Pt.add_eq ?_ ?_
 ·unfold Pt.ex at *;exact gr
 unfold Pt.ex at *;exact gr
theorem Pt.add_O (P:Pt):P.add .O=P:=by
 refine Pt.add_eq ?_ ?_ <;>(unfold Pt.ex;show _=_;simp only[Pt.O];exact gr)
theorem Pt.O_add (P:Pt):Pt.O.add P=P:=by rw[Pt.add_comm,Pt.add_O]
theorem Pt.add_ng (P:Pt):P.add P.ng= .O:=by
 have h:=P.on
 unfold On at h
 refine Pt.add_eq ?_ ?_ <;>(unfold Pt.ex;simp only[Pt.O,Pt.ng];exact gr)
theorem aVV {d x1 y1 x2 y2 x3 y3:F} {A B C D A' B' C' D':F} (hA:A=x1*y2+x2*y1) (hB:B=1+d*(x1*x2*y1*y2)) (hC:C=y1*y2+x1*x2) (hD:D=1-d*(x1*x2*y1*y2))
  (hA':A'=x2*y3+x3*y2) (hB':B'=1+d*(x2*x3*y2*y3)) (hC':C'=y2*y3+x2*x3) (hD':D'=1-d*(x2*x3*y2*y3))
  (e1:y1*y1-x1*x1=1+d*(x1*x1*(y1*y1))) (e2:y2*y2-x2*x2=1+d*(x2*x2*(y2*y2))) (e3:y3*y3-x3*x3=1+d*(x3*x3*(y3*y3))):
  (A*D*y3+x3*C*B)*(B'*D'+d*x1*y1*A'*C')=(x1*C'*B'+A'*y1*D')*(B*D+d*A*C*x3*y3):=by subst_vars;exact gr
theorem aVU {d x1 y1 x2 y2 x3 y3:F} {A B C D A' B' C' D':F} (hA:A=x1*y2+x2*y1) (hB:B=1+d*(x1*x2*y1*y2)) (hC:C=y1*y2+x1*x2) (hD:D=1-d*(x1*x2*y1*y2))
  (hA':A'=x2*y3+x3*y2) (hB':B'=1+d*(x2*x3*y2*y3)) (hC':C'=y2*y3+x2*x3) (hD':D'=1-d*(x2*x3*y2*y3))
  (e1:y1*y1-x1*x1=1+d*(x1*x1*(y1*y1))) (e2:y2*y2-x2*x2=1+d*(x2*x2*(y2*y2))) (e3:y3*y3-x3*x3=1+d*(x3*x3*(y3*y3))):
  (C*B*y3+A*D*x3)*(B'*D'-d*x1*y1*A'*C')=(y1*C'*B'+x1*A'*D')*(B*D-d*A*C*x3*y3):=by subst_vars;exact gr
theorem aZY {u v u' v' X Y:F} (hv:v≠0) (hv':v'≠0) (h:X*v=u) (h':Y*v'=u') (hc:u*v'=u'*v):X=Y:=by
 refine x6 (cl hv hv') ?_
 have e1:X*(v*v')=X*v*v':=gr
 have e2:Y*(v*v')=Y*v'*v:=gr
 rw[e1,e2,h,h',hc]
theorem l3 (a b c:F):a*(b*c)=b*(a*c):=gr
theorem l4 (s t b d x y:F):b*d*(s*y+x*t)=s*b*d*y+x*(t*d)*b:=gr
theorem l5 (s t b d x y:F):b*d*(x*t+s*y)=x*(t*d)*b+s*b*y*d:=gr
theorem l6 (s t b d x y:F):b*d*(t*y+s*x)=t*d*b*y+s*b*d*x:=gr
theorem l7 (s t b d x y:F):b*d*(y*t+x*s)=y*(t*d)*b+x*(s*b)*d:=gr
theorem Pt.add_assoc (P Q R:Pt):(P.add Q).add R=P.add (Q.add R):=by
 have a1:=P.add_x Q
 have a2:=P.add_y Q
 have b1:=Q.add_x R
 have b2:=Q.add_y R
 have c1:=(P.add Q).add_x R
 have c2:=(P.add Q).add_y R
 have d1:=P.add_x (Q.add R)
 have d2:=P.add_y (Q.add R)
 have p1:=P.pos Q
 have p2:=P.neg' Q
 have q1:=Q.pos R
 have q2:=Q.neg' R
 have r1:=(P.add Q).pos R
 have r2:=(P.add Q).neg' R
 have s1:=P.pos (Q.add R)
 have s2:=P.neg' (Q.add R)
 have o1:=P.on
 have o2:=Q.on
 have o3:=R.on
 generalize ((P.add Q).add R)=L at *
 generalize (P.add (Q.add R))=M at *
 generalize (P.add Q)=S at *
 generalize (Q.add R)=T at *
 unfold Pt.ex On at *
 generalize hB:1+dF*(P.x*Q.x*P.y*Q.y)=B at *
 generalize hD:1-dF*(P.x*Q.x*P.y*Q.y)=D at *
 generalize hB':1+dF*(Q.x*R.x*Q.y*R.y)=B' at *
 generalize hD':1-dF*(Q.x*R.x*Q.y*R.y)=D' at *
 generalize hA:P.x*Q.y+Q.x*P.y=A at *
 generalize hC:P.y*Q.y+P.x*Q.x=C at *
 generalize hA':Q.x*R.y+R.x*Q.y=A' at *
 generalize hC':Q.y*R.y+Q.x*R.x=C' at *
 have kx:=aVV hA.symm hB.symm hC.symm hD.symm hA'.symm hB'.symm hC'.symm hD'.symm o1 o2 o3
 have ky:=aVU hA.symm hB.symm hC.symm hD.symm hA'.symm hB'.symm hC'.symm hD'.symm o1 o2 o3
 clear hA hB hC hD hA' hB' hC' hD' o1 o2 o3
 have v1:B*D*(1+dF*(S.x*R.x*S.y*R.y))=B*D+dF*A*C*R.x*R.y:=by rw[<-a1,<-a2];clear kx ky c1 c2 d1 d2 a1 a2 b1 b2;exact gr
 have v2:B*D*(1-dF*(S.x*R.x*S.y*R.y))=B*D-dF*A*C*R.x*R.y:=by rw[<-a1,<-a2];clear kx ky c1 c2 d1 d2 a1 a2 b1 b2;exact gr
 have w1:B'*D'*(1+dF*(P.x*T.x*P.y*T.y))=B'*D'+dF*P.x*P.y*A'*C':=by rw[<-b1,<-b2];clear kx ky c1 c2 d1 d2 a1 a2 b1 b2;exact gr
 have w2:B'*D'*(1-dF*(P.x*T.x*P.y*T.y))=B'*D'-dF*P.x*P.y*A'*C':=by rw[<-b1,<-b2];clear kx ky c1 c2 d1 d2 a1 a2 b1 b2;exact gr
 refine Pt.ext' (aZY (v:=B*D+dF*A*C*R.x*R.y) (v':=B'*D'+dF*P.x*P.y*A'*C') ?_ ?_ ?_ ?_ kx) (aZY (v:=B*D-dF*A*C*R.x*R.y) (v':=B'*D'-dF*P.x*P.y*A'*C') ?_ ?_ ?_ ?_ ky)
 ·rw[<-v1];exact cl (cl p1 p2) r1
 ·rw[<-w1];exact cl (cl q1 q2) s1
 ·rw[<-v1,<-a1,<-a2]
  rw[l3,c1];exact l4 _ _ _ _ _ _
 ·rw[<-w1,<-b1,<-b2]
  rw[l3,d1];exact l5 _ _ _ _ _ _
 ·rw[<-v2];exact cl (cl p1 p2) r2
 ·rw[<-w2];exact cl (cl q1 q2) s2
 ·rw[<-v2,<-a1,<-a2]
  rw[l3,c2];exact l6 _ _ _ _ _ _
 rw[<-w2,<-b1,<-b2]
 rw[l3,d2];exact l7 _ _ _ _ _ _
def Pt.mul (P:Pt):Nat->Pt
 |0=>.O
 |n+1=>(P.mul n).add P
theorem Pt.mul_add (P:Pt) (n:Nat):∀m,P.mul (n+m)=(P.mul n).add (P.mul m)
 |0=>(Pt.add_O _).symm
 |m+1=>by show(P.mul (n+m)).add P=(P.mul n).add ((P.mul m).add P);rw[Pt.mul_add P n m,Pt.add_assoc]
theorem Pt.mul_one (P:Pt):P.mul 1=P:=Pt.O_add P
theorem Pt.mul_mul (P:Pt) (n:Nat):∀m,P.mul (n*m)=(P.mul n).mul m
 |0=>rfl
 |m+1=>by rw[Nat.mul_succ,Pt.mul_add,Pt.mul_mul P n m];rfl
end Go.Cu
namespace Go.Cu
def Rep (X Y Z:F) (P:Pt):Prop:=Z≠0/\X=P.x*Z/\Y=P.y*Z
theorem aE5 {X1 Y1 Z1 X2 Y2 Z2:F} {P Q:Pt} (h:Rep X1 Y1 Z1 P) (h':Rep X2 Y2 Z2 Q) {z zz xv yw xw e more less:F}
  (hz:z=Z1*Z2) (hzz:zz=z*z) (hxv:xv=X1*X2) (hyw:yw=Y1*Y2) (hxw:xw=X1*Y2+Y1*X2) (he:e=dF*(xv*yw)) (hm:more=zz+e) (hl:less=zz-e):
  Rep (z*less*xw) (z*more*(yw+xv)) (more*less) (P.add Q):=by
 obtain⟨n1,rfl,rfl⟩:=h
 obtain⟨n2,rfl,rfl⟩:=h'
 have a1:=P.add_x Q
 have a2:=P.add_y Q
 have p1:=P.pos Q
 have p2:=P.neg' Q
 generalize P.add Q=S at *
 unfold Pt.ex at *
 have em:more=Z1*Z2*(Z1*Z2)*(1+dF*(P.x*Q.x*P.y*Q.y)):=by subst_vars;exact gr
 have el:less=Z1*Z2*(Z1*Z2)*(1-dF*(P.x*Q.x*P.y*Q.y)):=by subst_vars;exact gr
 refine⟨?_,?_,?_⟩
 ·rw[em,el]
  exact cl (cl (cl (cl n1 n2) (cl n1 n2)) p1) (cl (cl (cl n1 n2) (cl n1 n2)) p2)
 ·have ex:xw=Z1*Z2*(S.x*(1+dF*(P.x*Q.x*P.y*Q.y))):=by rw[a1];subst hxw;exact gr
  rw[ex,em,hz];exact gr
 have ey:yw+xv=Z1*Z2*(S.y*(1-dF*(P.x*Q.x*P.y*Q.y))):=by rw[a2];subst hyw hxv;exact gr
 rw[ey,el,hz];exact gr
theorem aPQ {X1 Y1 Z1 T1 X2 Y2 Z2 T2:F} {P Q:Pt} (h:Rep X1 Y1 Z1 P) (h':Rep X2 Y2 Z2 Q) (t:T1=P.x*P.y*Z1) (t':T2=Q.x*Q.y*Z2) {a b c d e f g h0:F}
  (ha:a=(Y1-X1)*(Y2-X2)) (hb:b=(Y1+X1)*(Y2+X2)) (hc:c=T1*2*(dF*T2)) (hd:d=Z1*2*Z2) (he:e=b-a) (hf:f=d-c) (hg:g=d+c) (hh:h0=b+a):
  Rep (e*f) (g*h0) (f*g) (P.add Q)/\e*h0=(P.add Q).x*(P.add Q).y*(f*g):=by
 obtain⟨n1,rfl,rfl⟩:=h
 obtain⟨n2,rfl,rfl⟩:=h'
 have a1:=P.add_x Q
 have a2:=P.add_y Q
 have p1:=P.pos Q
 have p2:=P.neg' Q
 generalize P.add Q=S at *
 unfold Pt.ex at *
 have eg:g=2*(Z1*Z2)*(1+dF*(P.x*Q.x*P.y*Q.y)):=by subst_vars;exact gr
 have ef:f=2*(Z1*Z2)*(1-dF*(P.x*Q.x*P.y*Q.y)):=by subst_vars;exact gr
 have ee:e=S.x*g:=by
  have:e=2*(Z1*Z2)*(P.x*Q.y+Q.x*P.y):=by subst he ha hb;exact gr
  rw[this,<-a1,eg];exact gr
 have eh:h0=S.y*f:=by
  have:h0=2*(Z1*Z2)*(P.y*Q.y+P.x*Q.x):=by subst hh ha hb;exact gr
  rw[this,<-a2,ef];exact gr
 refine⟨⟨?_,?_,?_⟩,?_⟩
 ·rw[eg,ef]
  exact cl (cl (cl nR (cl n1 n2)) p2) (cl (cl nR (cl n1 n2)) p1)
 ·rw[ee];exact gr
 ·rw[eh];exact gr
 rw[ee,eh];exact gr
theorem aPR:Rep 0 1 1 .O:=⟨by decide,by decide +kernel,by decide +kernel⟩
theorem aS0 {X Y Z:F} {P:Pt} (h:Rep X Y Z P):Rep (0-X) Y Z P.ng:=by
 obtain⟨n,rfl,rfl⟩:=h
 exact⟨n,by show _=(0-P.x)*Z;exact gr,rfl⟩
theorem aPP {X Y Z:F} {P:Pt} (h:Rep X Y Z P):X*inv Z=P.x:=by
 obtain⟨n,rfl,rfl⟩:=h
 have:=iv n
 exact gr
theorem aPO {X Y Z:F} {P:Pt} (h:Rep X Y Z P):Y*inv Z=P.y:=by
 obtain⟨n,rfl,rfl⟩:=h
 have:=iv n
 exact gr
theorem Pt.mul_dbl (P:Pt) (k:Nat):(P.mul k).add (P.mul k)=P.mul (2*k):=by rw[<-Pt.mul_add];congr 1;omega
theorem Pt.mul_top (P:Pt) (n i:Nat):P.mul (n/2^i)=if n/2^i%2=1 then(P.mul (2*(n/2^(i+1)))).add P else P.mul (2*(n/2^(i+1))):=by
 have e:n/2^(i+1)=n/2^i/2:=by rw[pow_succ,Nat.div_div_eq_div_mul]
 rw[e]
 by_cases h:n/2^i%2=1
 ·rw[if_pos h]
  have:n/2^i=2*(n/2^i/2)+1:=by omega
  conv=>lhs;rw[this]
  rfl
 rw[if_neg h]
 congr 1;omega
theorem Pt.ng_add (P Q:Pt):(P.add Q).ng=P.ng.add Q.ng:=by
 refine(Pt.add_eq ?_ ?_).symm
 ·have h:=P.add_x Q
  unfold Pt.ex at *
  simp only[Pt.ng]
  exact gr
 have h:=P.add_y Q
 unfold Pt.ex at *
 simp only[Pt.ng]
 exact gr
theorem Pt.dif1 (Q P:Pt):Q.add (Q.add P).ng=P.ng:=by
 rw[Pt.ng_add,<-Pt.add_assoc,Pt.add_ng,Pt.O_add]
theorem Pt.dif2 (Q P:Pt):(Q.add P).add Q.ng=P:=by
 rw[Pt.add_comm Q P,Pt.add_assoc,Pt.add_ng,Pt.add_O]
end Go.Cu
namespace Go.Cu
def Lr (X Z:F) (P:Pt):Prop:=∃l:F,l≠0/\X=l*(1+P.y)/\Z=l*(1-P.y)
theorem Lr.of {X Z:F} {P:Pt} (h:X*(1-P.y)=Z*(1+P.y)) (hn:¬(X=0/\Z=0)):Lr X Z P:=by
 have h2:(2:F)*inv 2=1:=iv nR
 generalize inv (2:F)=v at h2
 refine⟨(X+Z)*v,?_,?_,?_⟩
 ·intro h0
  have hs:X+Z=0:=by
   rcases dI h0 with h1|h1
   ·exact h1
   rw[h1]at h2;exact absurd h2 (by decide)
  have hx:2*X=0:=gr
  have hx0:=(dI hx).resolve_left nR
  exact hn ⟨hx0,by rw[hx0]at hs;exact gr⟩
 ·exact gr
 exact gr
theorem aHC:(4:F)≠0:=by decide
theorem aXD {P:Pt}:(1+P.x*P.x)*(121666-121665*(P.y*P.y))=P.y*P.y:=by
 have h:=P.on
 have hd:=aaR
 unfold On at h
 exact gr
theorem aNU {X Z:F} {P:Pt} (h:Lr X Z P) {p m pp mm e:F} (hp:p=X+Z) (hm:m=X-Z) (hpp:pp=p*p) (hmm:mm=m*m) (he:e=pp-mm):
  Lr (pp*mm) (e*(pp+121665*e)) (P.add P):=by
 obtain⟨l,hl,rfl,rfl⟩:=h
 have a2:=P.add_y P
 have n2:=P.neg' P
 have hx:=@aXD P
 have on:=P.on
 generalize P.add P=S at *
 unfold Pt.ex On at *
 have e1:pp=4*(l*l):=by subst_vars;exact gr
 have e2:mm=4*(l*l)*(P.y*P.y):=by subst_vars;exact gr
 have e3:e=4*(l*l)*(1-P.y*P.y):=by rw[he,e1,e2];exact gr
 clear hp hm hpp hmm he
 have e4:e*(pp+121665*e)=16*(l*l*(l*l))*((1-P.y*P.y)*(121666-121665*(P.y*P.y))):=by rw[e3,e1];exact gr
 have e5:pp*mm=16*(l*l*(l*l))*(P.y*P.y):=by rw[e2,e1];exact gr
 rw[e4,e5]
 have n16:16*(l*l*(l*l))≠0:=cl (by decide) (cl (cl hl hl) (cl hl hl))
 generalize 16*(l*l*(l*l))=k at *
 clear e1 e2 e3 e4 e5
 refine Lr.of ?_ ?_
 ·refine x6 n2 ?_
  have b1:k*(P.y*P.y)*(1-S.y)*(1-dF*(P.x*P.x*P.y*P.y))=k*(P.y*P.y)*((1-dF*(P.x*P.x*P.y*P.y))-(S.y*(1-dF*(P.x*P.x*P.y*P.y)))):=by clear a2 n2 hx on n16;exact gr
  have b2:k*((1-P.y*P.y)*(121666-121665*(P.y*P.y)))*(1+S.y)*(1-dF*(P.x*P.x*P.y*P.y))=k*((1-P.y*P.y)*(121666-121665*(P.y*P.y)))*((1-dF*(P.x*P.x*P.y*P.y))+(S.y*(1-dF*(P.x*P.x*P.y*P.y)))):=by clear a2 n2 hx on n16;exact gr
  rw[b1,b2,a2]
  have c1:1-dF*(P.x*P.x*P.y*P.y)=2-P.y*P.y+P.x*P.x:=by clear hx;exact gr
  rw[c1]
  clear b1 b2 c1 a2 n2 on n16
  exact gr
 rintro⟨h1,h2⟩
 have hy:=(dI h1).resolve_left n16
 have h3:=(dI h2).resolve_left n16
 rw[hy]at h3
 exact absurd h3 (by decide)
theorem aNT {X1 Z1 X2 Z2 u:F} {P Q D:Pt} (h:Lr X1 Z1 P) (h':Lr X2 Z2 Q) (hD:(P.add Q.ng).y=D.y) (hu:u*(1-D.y)=1+D.y) (u0:u≠0)
  {p m da cb s d:F} (hp:p=X1+Z1) (hm:m=X1-Z1) (hda:da=(X2-Z2)*p) (hcb:cb=(X2+Z2)*m) (hs:s=da+cb) (hd:d=da-cb):
  Lr (s*s) (u*(d*d)) (P.add Q):=by
 obtain⟨l,hl,rfl,rfl⟩:=h
 obtain⟨k,hk,rfl,rfl⟩:=h'
 have a2:=P.add_y Q
 have n2:=P.neg' Q
 have b2:=P.add_y Q.ng
 have m2:=P.neg' Q.ng
 rw[hD]at b2
 have o1:=P.on
 have o2:=Q.on
 generalize P.add Q=S at *
 unfold Pt.ex On at *
 simp only[Pt.ng]at b2 m2
 have e1:s=4*(l*k)*(P.y+Q.y):=by subst_vars;clear hD hu u0 a2 n2 b2 m2 o1 o2;exact gr
 have e2:d=4*(l*k)*(Q.y-P.y):=by subst_vars;clear hD hu u0 a2 n2 b2 m2 o1 o2;exact gr
 have n4:4*(l*k)≠0:=cl (by decide) (cl hl hk)
 rw[e1,e2]
 clear e1 e2 hp hm hda hcb hs hd hD
 generalize 4*(l*k)=w at *
 have d1:1-D.y≠0:=by
  intro h0
  rw[h0]at hu
  have e1:1+D.y=0:=by rw[<-hu];exact gr
  have e2:(2:F)=0:=by clear a2 b2 hu;exact gr
  exact nR e2
 have d2:1+D.y≠0:=by rw[<-hu];exact cl u0 d1
 have M2:1+dF*(P.x*Q.x*P.y*Q.y)≠0:=by
  intro h0;apply m2;rw[<-h0];clear a2 n2 b2 m2 o1 o2 hu u0;exact gr
 have B2:D.y*(1+dF*(P.x*Q.x*P.y*Q.y))=P.y*Q.y-P.x*Q.x:=by
  clear a2 n2 o1 o2 hu u0;exact gr
 clear b2 m2
 refine Lr.of ?_ ?_
 ·refine x6 (cl d1 (cl n2 M2)) ?_
  have c1:w*(P.y+Q.y)*(w*(P.y+Q.y))*(1-S.y)*((1-D.y)*((1-dF*(P.x*Q.x*P.y*Q.y))*(1+dF*(P.x*Q.x*P.y*Q.y))))
    =w*w*((P.y+Q.y)*(P.y+Q.y)*(((1-dF*(P.x*Q.x*P.y*Q.y))-S.y*(1-dF*(P.x*Q.x*P.y*Q.y)))*((1+dF*(P.x*Q.x*P.y*Q.y))-D.y*(1+dF*(P.x*Q.x*P.y*Q.y))))):=by
   clear a2 n2 o1 o2 hu u0 B2 M2;exact gr
  have c2:u*(w*(Q.y-P.y)*(w*(Q.y-P.y)))*(1+S.y)*((1-D.y)*((1-dF*(P.x*Q.x*P.y*Q.y))*(1+dF*(P.x*Q.x*P.y*Q.y))))
    =w*w*((Q.y-P.y)*(Q.y-P.y)*(((1-dF*(P.x*Q.x*P.y*Q.y))+S.y*(1-dF*(P.x*Q.x*P.y*Q.y)))*(u*(1-D.y)*(1+dF*(P.x*Q.x*P.y*Q.y))))):=by
   clear a2 n2 o1 o2 hu u0 B2 M2;exact gr
  have c3:(1+D.y)*(1+dF*(P.x*Q.x*P.y*Q.y))=(1+dF*(P.x*Q.x*P.y*Q.y))+D.y*(1+dF*(P.x*Q.x*P.y*Q.y)):=by
   clear a2 n2 o1 o2 hu u0 B2 M2;exact gr
  rw[c1,c2,hu,c3,a2,B2]
  clear c1 c2 c3 a2 B2 n2 M2 hu u0 d1 d2 n4
  congr 1
  exact gr
 rintro⟨h1,h2⟩
 have s0:P.y+Q.y=0:=by
  rcases dI h1 with h|h<;>exact(dI h).resolve_left n4
 have t0:Q.y-P.y=0:=by
  rcases dI ((dI h2).resolve_left u0)with h|h<;>exact(dI h).resolve_left n4
 have y2:2*Q.y=0:=by clear a2 B2 hu o1 o2;exact gr
 have yq:=(dI y2).resolve_left nR
 have yp:P.y=0:=by rw[yq]at s0;clear a2 B2 hu o1 o2;exact gr
 rw[yq]at o2 B2
 rw[yp]at o1 B2
 have x1:P.x*P.x=0-1:=by clear a2 B2 hu o2;exact gr
 have x2:Q.x*Q.x=0-1:=by clear a2 B2 hu o1;exact gr
 have yd:D.y=0-P.x*Q.x:=by clear a2 hu o1 o2 x1 x2;exact gr
 have z:(1-D.y)*(1+D.y)=0:=by rw[yd];clear a2 hu o1 o2 B2;exact gr
 exact cl d1 d2 z
def uF (P:Pt):F:=(1+P.y)*inv (1-P.y)
theorem aC9 {X Z:F} {P:Pt} (h:Lr X Z P):X*inv Z=uF P:=by
 obtain⟨l,hl,rfl,rfl⟩:=h
 have:=iv hl
 unfold uF
 rw[uj]
 exact gr
theorem aET:Lr 1 0 .O:=Lr.of (by decide +kernel) (fun h=>absurd h.1 (by decide))
theorem aES {u:F} {P:Pt} (hu:u*(1-P.y)=1+P.y):Lr u 1 P:=Lr.of (by rw[hu];exact gr) (λh=>absurd h.2 (by decide))
def aVQ:F:=15112221349535400772501151409588531511454012693041857206046113283949847762202
def aR0:F:=46316835694926478169428394003475163141307993866256225615783033603165251855960
def basP:Pt:=⟨aVQ,aR0,by unfold On;decide +kernel⟩
theorem aCF:(9:F) * (1 - basP.y) = 1 + basP.y:=by decide +kernel
theorem yJ {P:Pt} (h:uF P=0):P= .O\/P.add P= .O:=by
 unfold uF at h
 have hy:(1-P.y)*(1+P.y)=0:=by
  rcases dI h with h1|h1
  ·rw[h1];exact gr
  have:1-P.y=0:=by
   apply Classical.byContradiction
   intro h2
   have:=iv h2
   rw[h1]at this
   exact absurd (show(0:F)=1 from gr) (by decide)
  rw[this];exact gr
 have hx:P.x*P.x*(1+dF)=0:=by
  have on:=P.on
  unfold On at on
  exact gr
 have hx0:P.x=0:=by
  have:=(dI hx).resolve_right (by decide +kernel)
  rcases dI this with h|h<;>exact h
 refine Or.inr (Pt.add_eq ?_ ?_)
 ·unfold Pt.ex;rw[hx0];show(0:F)*_=_;exact gr
 unfold Pt.ex;rw[hx0];show(1:F)*_=_;exact gr
end Go.Cu
namespace Go.Cu
structure LS where
 ax:F
 az:F
 bx:F
 bz:F
def nr (u:F) (s:LS):LS:=
 let p:=s.ax+s.az;let m:=s.ax-s.az;let pp:=p*p;let mm:=m*m;let e:=pp-mm
 let da:=(s.bx-s.bz)*p;let cb:=(s.bx+s.bz)*m;let t:=da+cb;let d:=da-cb
 ⟨pp*mm,e*(pp+121665*e),t*t,u*(d*d)⟩
def LS.swap (s:LS):LS:=⟨s.bx,s.bz,s.ax,s.az⟩
def LS.turn (s:LS) (l b:Nat):LS:=if b=l then s else s.swap
def tA (u:F) (n:Nat):Nat->LS×Nat
 |0=>(⟨1,0,u,1⟩,0)
 |k+1=>(nr u ((tA u n k).1.turn (tA u n k).2 (n/2^(254-k)%2)),n/2^(254-k)%2)
def xA (u:F) (n:Nat):F:=if(tA u n 255).2=1 then(tA u n 255).1.bx*inv (tA u n 255).1.bz else(tA u n 255).1.ax*inv (tA u n 255).1.az
def LI (s:LS) (l:Nat) (P:Pt) (m:Nat):Prop:=(l=0/\Lr s.ax s.az (P.mul m)/\Lr s.bx s.bz (P.mul (m+1)))\/(l=1/\Lr s.bx s.bz (P.mul m)/\Lr s.ax s.az (P.mul (m+1)))
theorem LI.step {s:LS} {l:Nat} {P:Pt} {m:Nat} (h:LI s l P m) {u:F} (hu:u*(1-P.y)=1+P.y) (u0:u≠0) {b:Nat} (hb:b=0\/b=1):LI (nr u (s.turn l b)) b P (2*m+b):=by
 have main0:∀t:LS,Lr t.ax t.az (P.mul m)->Lr t.bx t.bz (P.mul (m+1))->Lr (nr u t).ax (nr u t).az (P.mul (2*m))/\Lr (nr u t).bx (nr u t).bz (P.mul (2*m+1)):=by
  intro t h1 h2
  have a:=aNU h1 (p:=_) (m:=_) (pp:=_) (mm:=_) (e:=_) rfl rfl rfl rfl rfl
  rw[Pt.mul_dbl]at a
  have hD:((P.mul m).add (P.mul (m+1)).ng).y=P.y:=by
   show((P.mul m).add ((P.mul m).add P).ng).y=P.y
   rw[Pt.dif1];rfl
  have c:=aNT h1 h2 hD hu u0 (p:=_) (m:=_) (da:=_) (cb:=_) (s:=_) (d:=_) rfl rfl rfl rfl rfl rfl
  rw[<-Pt.mul_add,show m+(m+1)=2*m+1 by omega]at c
  exact⟨a,c⟩
 have main1:∀t:LS,Lr t.bx t.bz (P.mul m)->Lr t.ax t.az (P.mul (m+1))->Lr (nr u t).ax (nr u t).az (P.mul (2*m+1+1))/\Lr (nr u t).bx (nr u t).bz (P.mul (2*m+1)):=by
  intro t h1 h2
  have a:=aNU h2 (p:=_) (m:=_) (pp:=_) (mm:=_) (e:=_) rfl rfl rfl rfl rfl
  rw[Pt.mul_dbl]at a
  have hD:((P.mul (m+1)).add (P.mul m).ng).y=P.y:=by
   show(((P.mul m).add P).add (P.mul m).ng).y=P.y
   rw[Pt.dif2]
  have c:=aNT h2 h1 hD hu u0 (p:=_) (m:=_) (da:=_) (cb:=_) (s:=_) (d:=_) rfl rfl rfl rfl rfl rfl
  rw[<-Pt.mul_add,show m+1+m=2*m+1 by omega]at c
  exact⟨a,c⟩
 rcases hb with rfl|rfl
 ·have key:Lr (s.turn l 0).ax (s.turn l 0).az (P.mul m)/\Lr (s.turn l 0).bx (s.turn l 0).bz (P.mul (m+1)):=by
   rcases h with⟨rfl,h1,h2⟩|⟨rfl,h1,h2⟩
   ·exact⟨h1,h2⟩
   exact⟨h1,h2⟩
  have:=main0 _ key.1 key.2
  exact Or.inl ⟨rfl,this.1,this.2⟩
 have key:Lr (s.turn l 1).bx (s.turn l 1).bz (P.mul m)/\Lr (s.turn l 1).ax (s.turn l 1).az (P.mul (m+1)):=by
  rcases h with⟨rfl,h1,h2⟩|⟨rfl,h1,h2⟩
  ·exact⟨h1,h2⟩
  exact⟨h1,h2⟩
 have:=main1 _ key.1 key.2
 exact Or.inr ⟨rfl,this.2,this.1⟩
theorem xd (x:Nat):x%2=0\/x%2=1:=by omega
theorem sr {u:F} {P:Pt} (hu:u*(1-P.y)=1+P.y) (u0:u≠0) {n:Nat} (hn:n<2^255):∀k,k<=255->LI (tA u n k).1 (tA u n k).2 P (n/2^(255-k))
 |0,_=>by
  rw[Nat.div_eq_of_lt hn]
  refine Or.inl ⟨rfl,aET,?_⟩
  show Lr u 1 (Pt.O.add P)
  rw[Pt.O_add];exact aES hu
 |k+1,hk=>by
  have ih:=sr hu u0 hn k (by omega)
  have h:=ih.step hu u0 (xd (n/2^(254-k)))
  have e:n/2^(255-(k+1))=2*(n/2^(255-k))+n/2^(254-k)%2:=by
   have e1:n/2^(255-k)=n/2^(254-k)/2:=by
    rw[show 255-k=254-k+1 by omega,pow_succ,Nat.div_div_eq_div_mul]
   rw[e1,show 255-(k+1)=254-k by omega];omega
  rw[e];exact h
theorem oW {u:F} {P:Pt} (hu:u*(1-P.y)=1+P.y) (u0:u≠0) {n:Nat} (hn:n<2^255):xA u n=uF (P.mul n):=by
 have h:=sr hu u0 hn 255 (le_refl _)
 rw[show n/2^(255-255)=n by rw[Nat.sub_self,Nat.pow_zero,Nat.div_one]]at h
 unfold xA
 rcases h with⟨h0,h1,_⟩|⟨h0,h1,_⟩
 ·rw[if_neg (by omega)];exact aC9 h1
 rw[if_pos h0];exact aC9 h1
theorem aEB {P:Pt} (h:uF P≠0):uF P*(1-P.y)=1+P.y:=by
 have:1-P.y≠0:=by
  intro h0
  apply h
  unfold uF
  rw[h0,uh];exact gr
 have:=p9 this
 unfold uF
 exact gr
theorem aVY:∀n,Pt.O.mul n= .O
 |0=>rfl
 |n+1=>by show(Pt.O.mul n).add .O= .O;rw[aVY n,Pt.add_O]
def aEZ (u:F) (s:LS) (b:Nat):LS:=
 let p:=s.ax*s.bx-s.az*s.bz;let q:=s.ax*s.bz-s.az*s.bx
 if b=0 then
  ⟨(s.ax*s.ax-s.az*s.az)*(s.ax*s.ax-s.az*s.az),4*(s.ax*s.az)*(s.ax*s.ax+s.az*s.az+486662*(s.ax*s.az)),p*p,u*(q*q)⟩
 else
  ⟨p*p,u*(q*q),(s.bx*s.bx-s.bz*s.bz)*(s.bx*s.bx-s.bz*s.bz),4*(s.bx*s.bz)*(s.bx*s.bx+s.bz*s.bz+486662*(s.bx*s.bz))⟩
def LQ (s:LS) (l:Nat) (r:LS):Prop:=∃a b:F,a≠0/\b≠0/\
 ((l=0/\s=⟨a*r.ax,a*r.az,b*r.bx,b*r.bz⟩)\/(l=1/\s=⟨b*r.bx,b*r.bz,a*r.ax,a*r.az⟩))
theorem LQ.step {s r:LS} {l:Nat} (h:LQ s l r) (u:F) {b:Nat} (hb:b=0\/b=1):LQ (nr u (s.turn l b)) b (aEZ u r b):=by
 obtain⟨x,y,hx,hy,h⟩:=h
 obtain⟨ax,az,bx,bz⟩:=r
 rcases hb with rfl|rfl
 ·have e:s.turn l 0=⟨x*ax,x*az,y*bx,y*bz⟩:=by
   rcases h with⟨rfl,rfl⟩|⟨rfl,rfl⟩<;>rfl
  rw[e]
  refine⟨x*x*(x*x),4*(x*y*(x*y)),cl (cl hx hx) (cl hx hx),cl aHC (cl (cl hx hy) (cl hx hy)),Or.inl ⟨rfl,?_⟩⟩
  unfold nr aEZ
  simp only[if_pos,LS.mk.injEq]
  exact⟨gr,gr,gr,gr⟩
 have e:s.turn l 1=⟨y*bx,y*bz,x*ax,x*az⟩:=by
  rcases h with⟨rfl,rfl⟩|⟨rfl,rfl⟩<;>rfl
 rw[e]
 refine⟨4*(x*y*(x*y)),y*y*(y*y),cl aHC (cl (cl hx hy) (cl hx hy)),cl (cl hy hy) (cl hy hy),Or.inr ⟨rfl,?_⟩⟩
 unfold nr aEZ
 simp only[if_neg (show¬(1=0) by decide),LS.mk.injEq]
 exact⟨gr,gr,gr,gr⟩
theorem aFP:(1:F)≠0:=by decide
end Go.Cu
