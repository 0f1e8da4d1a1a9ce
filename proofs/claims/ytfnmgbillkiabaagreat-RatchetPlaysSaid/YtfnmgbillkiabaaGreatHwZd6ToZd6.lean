/- What the functions of the program compute. No condition. -/
import Derived.Test.YtfnmgbillkiabaaGreatHwZd5ToZd5
import Derived.Test.YtfnmgbillkiabaaGreatHx7
set_option linter.unusedSimpArgs false
set_option linter.unusedVariables false
namespace Go.Proofs.YtfnmgbillkiabaaGreat
open Go Go.Sx
def zOp:List (Nat × SV):=[(1,.u8 0),(1,.bool (false = true)),(1,.i .i64 0),(1,.isl 0 0 1 [(0 * 1,.a8 [])]),(1,.i .i64 0),(1,.u8 0)]
def rowOp (o:Opr):List (Nat × SV):=[(1,.u8 o.e),(1,.bool (o.o = true)),(1,.i .i64 o.w),(1,.isl 0 o.t.length 1 [(o.t.length * 1,.a8 o.t)]),(1,.i .i64 o.a),(1,.u8 o.y)]
theorem opr_of {ls:List (Nat × SV)} (h:catF [cU8,cBool,cInt .i64,cSl8 1,cInt .i64,cU8] ls):∃ o:Opr,o.t.length <= maxLen/\ls = rowOp o:=by
 obtain ⟨_,_,⟨e,rfl⟩,⟨_,_,⟨o,rfl⟩,⟨_,_,⟨w,_,rfl⟩,⟨_,_,⟨n,t,h2,h3,rfl⟩,⟨_,_,⟨a,_,rfl⟩,⟨_,_,⟨y,rfl⟩,rfl,rfl⟩,rfl⟩,rfl⟩,rfl⟩,rfl⟩,rfl⟩:=h
 obtain rfl:n = t.length:=by omega
 exact ⟨⟨e,o,w,t,a,y⟩,h3,rfl⟩
theorem rowOp_eq (l:List Opr):(fun q=>rowOp (l.getD q op0)) = opF l:=by
 funext q
 unfold rowOp opF opL
 rw [Nat.mul_one]
theorem oprsArg {s:SV} (h:isOfSl 6 zOp (catF [cU8,cBool,cInt .i64,cSl8 1,cInt .i64,cU8]) s):∃ l:List Opr,l.length <= maxLen/\(∀ o ∈ l,o.t.length <= maxLen)/\s = .isl 0 l.length 6 [(l.length * 6,.arr l.length 6 (opF l))]:=by
 obtain ⟨n,L,h1,h2,h3,rfl⟩:=h
 obtain ⟨l,h4,h5,h6⟩:=rows_list rowOp op0 (fun o=>o.t.length <= maxLen) (fun q hq=>opr_of (h1 q hq)) h2
 subst h4
 rw [rowOp_eq] at h6
 subst h6
 exact ⟨l,h3,h5,rfl⟩
theorem ratchetPlays_runs (svs:List SV) (h:AllF [isOfSl 6 zOp (catF [cU8,cBool,cInt .i64,cSl8 1,cInt .i64,cU8])] svs):Sx.Fn Γ.P 3 svs [] (fun v _=>v = .tt):=by
 match svs,h with
 | [s],⟨h,_⟩=>
  obtain ⟨l,h1,h2,rfl⟩:=oprsArg h
  exact fn3 l l.length rfl h1 h2
end Go.Proofs.YtfnmgbillkiabaaGreat
