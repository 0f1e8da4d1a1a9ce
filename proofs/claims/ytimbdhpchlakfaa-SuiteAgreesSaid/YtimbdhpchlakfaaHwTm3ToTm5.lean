/- What the functions of the program compute. No condition. -/
import Derived.Test.YtimbdhpchlakfaaHwCbcSToTm2
set_option linter.unusedSimpArgs false
set_option linter.unusedVariables false
namespace Go.Proofs.Ytimbdhpchlakfaa
open Go Go.Sx
def gK (b:List UInt8) (o:Nat):Nat→UInt64
 | 0=>0
 | i + 1=>shl64 (gK b o i) 8 ||| (b.getD (o + i) 0).toUInt64
def nmK (b:List UInt8) (o:Nat):Nat:=(((b.getD (o + 4) 0).toNat * 256 + (b.getD (o + 5) 0).toNat) * 256 + (b.getD (o + 6) 0).toNat) * 256 + (b.getD (o + 7) 0).toNat
theorem shl_or (x:UInt64) (y:UInt8) (h:x.toNat < 2 ^ 56):(shl64 x 8 ||| y.toUInt64).toNat = x.toNat * 256 + y.toNat:=by
 have h1:(shl64 x 8).toNat = x.toNat * 256:=by
  rw [shl64,UInt64.toNat_ofNat',Nat.shiftLeft_eq,Nat.mod_eq_of_lt (by omega)]
 rw [UInt64.toNat_or,h1,UInt8.toNat_toUInt64,show x.toNat * 256 = x.toNat <<< 8 by rw [Nat.shiftLeft_eq],← Nat.shiftLeft_add_eq_or_of_lt (by have:=y.toNat_lt;omega),Nat.shiftLeft_eq]
theorem gK4 (b:List UInt8) (o:Nat):(gK b (o + 4) 4).toNat = nmK b o:=by
 have l0:=(b.getD (o + 4) 0).toNat_lt
 have l1:=(b.getD (o + 5) 0).toNat_lt
 have l2:=(b.getD (o + 6) 0).toNat_lt
 have l3:=(b.getD (o + 7) 0).toNat_lt
 have e0:(gK b (o + 4) 1).toNat = (b.getD (o + 4) 0).toNat:=by
  show (shl64 0 8 ||| (b.getD (o + 4 + 0) 0).toUInt64).toNat = _
  rw [shl_or _ _ (by decide)]
  show 0 * 256 + _ = _
  rw [Nat.zero_mul,Nat.zero_add,Nat.add_zero]
 have e1:(gK b (o + 4) 2).toNat = (b.getD (o + 4) 0).toNat * 256 + (b.getD (o + 5) 0).toNat:=by
  show (shl64 (gK b (o + 4) 1) 8 ||| (b.getD (o + 4 + 1) 0).toUInt64).toNat = _
  rw [shl_or _ _ (by omega),e0]
 have e2:(gK b (o + 4) 3).toNat = ((b.getD (o + 4) 0).toNat * 256 + (b.getD (o + 5) 0).toNat) * 256 + (b.getD (o + 6) 0).toNat:=by
  show (shl64 (gK b (o + 4) 2) 8 ||| (b.getD (o + 4 + 2) 0).toUInt64).toNat = _
  rw [shl_or _ _ (by omega),e1]
 show (shl64 (gK b (o + 4) 3) 8 ||| (b.getD (o + 4 + 3) 0).toUInt64).toNat = _
 rw [shl_or _ _ (by omega),e2]
 rfl
theorem nmK_lt (b:List UInt8) (o:Nat):nmK b o < 4294967296:=by
 have l0:=(b.getD (o + 4) 0).toNat_lt
 have l1:=(b.getD (o + 5) 0).toNat_lt
 have l2:=(b.getD (o + 6) 0).toNat_lt
 have l3:=(b.getD (o + 7) 0).toNat_lt
 unfold nmK
 omega
@[irreducible] def numP (b:List UInt8) (most o:Nat):Nat:=if o + 32 ≤ b.length∧1 ≤ nmK b o∧nmK b o ≤ most∧(b.drop o).take 32 = nameB (nmK b o) then nmK b o else 0
theorem numP_eq (b:List UInt8) (most o:Nat):numP b most o = if o + 32 ≤ b.length∧1 ≤ nmK b o∧nmK b o ≤ most∧(b.drop o).take 32 = nameB (nmK b o) then nmK b o else 0:=by unfold numP;rfl
theorem numP_le (b:List UInt8) (most o:Nat):numP b most o ≤ most:=by rw [numP_eq];split <;> omega
def inF (b:List UInt8) (most:Nat):Nat→Nat→List Nat
 | 0,_=>[]
 | f + 1,o=>if b.length < o + 32 then [] else if numP b most o = 0 then inF b most f (o + 1) else numP b most o :: inF b most f (o + 32)
@[irreducible] def inL (b:List UInt8) (most o:Nat):List Nat:=inF b most (b.length + 1 - o) o
theorem inF_fuel (b:List UInt8) (most:Nat):∀ (f g o:Nat),b.length + 1 - o ≤ f→b.length + 1 - o ≤ g→inF b most f o = inF b most g o
 | 0,0,_,_,_=>rfl
 | 0,g + 1,o,h,_=>by simp only [inF];rw [if_pos (by omega)]
 | f + 1,0,o,_,h=>by simp only [inF];rw [if_pos (by omega)]
 | f + 1,g + 1,o,h,k=>by
  simp only [inF]
  rw [inF_fuel b most f g (o + 1) (by omega) (by omega),inF_fuel b most f g (o + 32) (by omega) (by omega)]
theorem inL_end {b:List UInt8} {most o:Nat} (h:b.length < o + 32):inL b most o = []:=by
 unfold inL
 cases b.length + 1 - o with
 | zero=>rfl
 | succ f=>simp only [inF];rw [if_pos h]
theorem inL_none {b:List UInt8} {most o:Nat} (h:o + 32 ≤ b.length) (hz:numP b most o = 0):inL b most o = inL b most (o + 1):=by
 unfold inL
 rw [show b.length + 1 - o = (b.length - o) + 1 by omega]
 show (if b.length < o + 32 then [] else if numP b most o = 0 then inF b most (b.length - o) (o + 1) else numP b most o :: inF b most (b.length - o) (o + 32)) = _
 rw [if_neg (by omega),if_pos hz,inF_fuel b most _ (b.length + 1 - (o + 1)) _ (by omega) (by omega)]
theorem inL_some {b:List UInt8} {most o:Nat} (h:o + 32 ≤ b.length) (hz:numP b most o ≠ 0):inL b most o = numP b most o :: inL b most (o + 32):=by
 unfold inL
 rw [show b.length + 1 - o = (b.length - o) + 1 by omega]
 show (if b.length < o + 32 then [] else if numP b most o = 0 then inF b most (b.length - o) (o + 1) else numP b most o :: inF b most (b.length - o) (o + 32)) = _
 rw [if_neg (by omega),if_neg hz,inF_fuel b most _ (b.length + 1 - (o + 32)) _ (by omega) (by omega)]
def toI (l:List Nat):List Int:=l.map Int.ofNat
set_option maxRecDepth 100000 in
theorem fnGet4 (b:List UInt8) (n o:Nat) (hb:b.length = n) (h:o + 8 ≤ n):Sx.Fn Γ.P 50 [.slx 1003 0 (o + 4) 4] [(1003,.mem false 0 [(n,.a8 b)])]
  (fun v M=>v = .tup [.u64 (gK b (o + 4) 4),.tt]∧M = [(1003,.mem false 0 [(n,.a8 b)])]):=by
 have hz:gK b (o + 4) 0 = 0:=rfl
 refine fn_of (Γ:=Γ) (fn:=Try.f50) rfl rfl rfl rfl ?_
 refine Branch.intro (fun h=>absurd h (by decide)) (fun _=>?_)
 refine Branch.intro (fun h=>absurd h (by decide)) (fun _=>?_)
 repeat (refine sd ?_)
 refine Loop.intro (σ:=Nat) (fun i=>i ≤ 4)
  (fun i=>([(4,.u64 (gK b (o + 4) i)),(15,.slx 1003 0 (o + 4) 4),(16,.i .i64 4),(17,.i .i64 (i:Int))],[(1003,.mem false 0 [(n,.a8 b)])])) (fun i=>4 - i) 0 (Nat.zero_le _) ?_ ?_
 ·refine Le.intro [] rfl ?_ rfl ?_ rfl
  ·exact fc
  ·exact fc
 rintro i hi
 refine Branch.intro (fun hc=>?_) (fun hc=>?_)
 ·have hc:(i:Int) < 4:=hc
  have hs:gK b (o + 4) (i + 1) = shl64 (gK b (o + 4) i) 8 ||| (b.getD (o + 4 + i) 0).toUInt64:=rfl
  repeat (refine sdn ?_)
  refine ⟨i + 1,by omega,by omega,Le.intro [] rfl ?_ rfl ?_ rfl⟩
  ·exact fc
  ·exact fcn
 ·obtain rfl:i = 4:=by have hc:¬ (i:Int) < 4:=hc;omega
  repeat (refine sd ?_)
  refine Ret.intro (.tup [.u64 (gK b (o + 4) 4),.tt]) [(1003,.mem false 0 [(n,.a8 b)])] [] rfl ?_ ⟨rfl,rfl⟩ rfl ?_ rfl ?_ rfl
  ·exact fc
  ·exact fc
  ·exact fc
set_option maxRecDepth 100000 in
theorem fn51 (k:List UInt8) (hk:k.length = 32):Sx.Fn Γ.P 51 [.a8 k] [] (fun v M=>v = .str k∧M = []):=by
 refine fn_of (Γ:=Γ) (fn:=Try.f51) rfl rfl rfl rfl ?_
 repeat (refine sd ?_)
 refine Ret.intro (.str k) [] [] rfl ?_ ⟨rfl,rfl⟩ rfl ?_ rfl trivial rfl
 ·exact fc
 ·repeat' (first | (show AllP _;first | exact trivial | refine AllP.app ?_ ?_ | refine AllP.appd ?_ ?_ | refine AllP.cons ?_ ?_) | exact fd | fail)
  all_goals exact (List.take_of_length_le (by show k.length ≤ 32;omega)).symm
set_option maxRecDepth 100000 in
theorem fn32 (b:List UInt8) (n m o:Nat) (hb:b.length = n) (ho:o + m = n) (hm32:32 ≤ m) (most:Nat) (hm:most < 4294967296):Sx.Fn Γ.P 32 [.slx 1003 0 o m,.i .i64 (most:Int)] [(1003,.mem false 0 [(n,.a8 b)])]
  (fun v M=>v = .i .i64 (numP b most o:Int)∧M = [(1003,.mem false 0 [(n,.a8 b)])]):=by
 have hG:=fnGet4 b n o hb (by omega)
 have hg:=gK4 b o
 have hlt:=nmK_lt b o
 have hN:=fn34 (nmK b o) hlt
 have hT:=fn51 (nameB (nmK b o)) (nameB_length _)
 have hnl:=nameB_length (nmK b o)
 have hq:=numP_eq b most o
 refine fn_of (Γ:=Γ) (fn:=Try.f32) rfl rfl rfl rfl ?_
 refine Branch.intro (fun h=>absurd h (by omega)) (fun _=>?_)
 repeat (refine sd ?_)
 refine Call.intro hG [(1003,(1003,0,none))] rfl fc rfl fc rfl ?_
 rintro v M' ⟨rfl,rfl⟩
 dsimp only [putT,afterM,newEnt,ren,renA,renS,renL,look,getM,getT,ev,evL,ofVal,cond_true,cond_false,Nat.beq_eq,act,isPar,ownPar,Ent.isOwn]
 repeat (refine sd ?_)
 generalize gK b (o + 4) 4 = g at hg
 rw [← hg] at hlt hN hT hnl hq
 clear hG
 have hm2:=ofInt_toNat (n:=most) (by omega)
 by_cases h1:g.toNat < (UInt64.ofNat 1).toNat
 ·have hz:numP b most o = 0:=by rw [hq,if_neg (fun h=>by have h1:g.toNat < 1:=h1;omega)]
  refine Draw.intro [[],[0],[0,1],[0,1,2],[0,1,2],[0,1,2,4],[0,1,2,3,4,5],[0,1,2,3,4,5,6],[0,1,2,3,4,5,6,7],[0,1,2,3,4,5,6,7,8],[0,1,2,3,4,5,6,7,8,9],[0,1,2,3,4,5,6,7,8,9,10],[0,1,2,3,4,5,6,7,8],[0,1,2,3,4,5,6,7,8,12],[0,1,2,3,4,5,6,7,8,12,13],[0,1,2,3,4,5,6,7,8,12,13,14],[0,1,2,3,4,5,6,7,8,9,10,11,12,13,14,15],[0,1,2,3,4,5,6,7,8,9,10,11,12,13,14,15,16]] [0,1,2,3,4,5,6,7,8,9,10,11,12,13,14,15,16,17] (by kernel_rfl) ?_
  repeat (first | (refine Branch.intro (fun _=>?_) (fun hn=>absurd rfl hn)) | (refine ky0 ?_) | (refine kn0 ?_) | (refine ky ?_) | (refine kn ?_) | (refine sd ?_))
  refine Ret.intro (.i .i64 (0:Int)) [(1003,.mem false 0 [(n,.a8 b)])] [] rfl trivial ⟨by rw [hz];rfl,rfl⟩ rfl ?_ rfl ?_ rfl
  ·exact fc
  ·exact fc
 ·by_cases h2:g.toNat > (UInt64.ofInt (most:Int)).toNat
  ·have hz:numP b most o = 0:=by rw [hq,if_neg (fun h=>by omega)]
   have h3:(g.toNat < (UInt64.ofNat 1).toNat∧True ∨ ¬ g.toNat < (UInt64.ofNat 1).toNat∧(UInt64.ofInt (most:Int)).toNat < g.toNat):=Or.inr ⟨h1,h2⟩
   refine Draw.intro [[],[0],[0,1],[0,1,2],[0,1,2],[0,1,2,4],[0,1,2,3,4,5],[0,1,2,3,4,5,6],[0,1,2,3,4,5,6,7],[0,1,2,3,4,5,6,7,8],[0,1,2,3,4,5,6,7,8,9],[0,1,2,3,4,5,6,7,8,9,10],[0,1,2,3,4,5,6,7,8],[0,1,2,3,4,5,6,7,8,12],[0,1,2,3,4,5,6,7,8,12,13],[0,1,2,3,4,5,6,7,8,12,13,14],[0,1,2,3,4,5,6,7,8,9,10,11,12,13,14,15],[0,1,2,3,4,5,6,7,8,9,10,11,12,13,14,15,16]] [0,1,2,3,4,5,6,7,8,9,10,11,12,13,14,15,16,17] (by kernel_rfl) ?_
   repeat (first | (refine Branch.intro (fun _=>?_) (fun hn=>absurd rfl hn)) | (refine ky0 ?_) | (refine kn0 ?_) | (refine ky ?_) | (refine kn ?_) | (refine sd ?_))
   refine Ret.intro (.i .i64 (0:Int)) [(1003,.mem false 0 [(n,.a8 b)])] [] rfl trivial ⟨by rw [hz];rfl,rfl⟩ rfl ?_ rfl ?_ rfl
   ·exact fc
   ·exact fc
  have h3:¬ (g.toNat < (UInt64.ofNat 1).toNat∧True ∨ ¬ g.toNat < (UInt64.ofNat 1).toNat∧(UInt64.ofInt (most:Int)).toNat < g.toNat):=fun h=>h.elim (fun h=>h1 h.1) (fun h=>h2 h.2)
  refine Draw.intro [[],[0],[0,1],[0,1,2],[0,1,2],[0,1,2,4],[0,1,2,3,4,5],[0,1,2,3,4,5,6],[0,1,2,3,4,5,6,7],[0,1,2,3,4,5,6,7,8],[0,1,2,3,4,5,6,7,8,9],[0,1,2,3,4,5,6,7,8,9,10],[0,1,2,3,4,5,6,7,8],[0,1,2,3,4,5,6,7,8,12],[0,1,2,3,4,5,6,7,8,12,13],[0,1,2,3,4,5,6,7,8,12,13,14],[0,1,2,3,4,5,6,7,8,9,10,11,12,13,14,15],[0,1,2,3,4,5,6,7,8,9,10,11,12,13,14,15,16]] [0,1,2,3,4,5,6,7,8,9,10,11,12,13,14,15,16,17] (by kernel_rfl) ?_
  refine Branch.intro (fun hn=>absurd hn h1) (fun _=>?_)
  refine Branch.intro (fun hn=>absurd hn h1) (fun _=>?_)
  refine Branch.intro (fun hn=>absurd hn h1) (fun _=>?_)
  refine Branch.intro (fun hn=>absurd hn h1) (fun _=>?_)
  refine Branch.intro (fun hn=>absurd hn h3) (fun _=>?_)
  refine Branch.intro (fun hn=>absurd hn h3) (fun _=>?_)
  refine sd ?_
  refine Branch.intro (fun hn=>absurd hn h3) (fun _=>?_)
  refine sd ?_
  refine Branch.intro (fun hn=>absurd hn h3) (fun _=>?_)
  refine Branch.intro (fun hn=>absurd hn h3) (fun _=>?_)
  refine sd ?_
  refine Branch.intro (fun hn=>absurd hn h3) (fun _=>?_)
  refine Call.intro hN [] rfl rfl rfl trivial rfl ?_
  rintro v M' ⟨rfl,rfl⟩
  refine Grow.intro [] rfl rfl ?_
  dsimp only [putT,afterM,newEnt,ren,renA,renS,renL,look,getM,getT,ev,evL,ofVal,cond_true,cond_false,Nat.beq_eq,act,isPar,ownPar,Ent.isOwn]
  refine Branch.intro (fun hn=>absurd hn h3) (fun _=>?_)
  refine Call.intro hT [] rfl rfl rfl trivial rfl ?_
  rintro v M' ⟨rfl,rfl⟩
  dsimp only [putT,afterM,newEnt,ren,renA,renS,renL,look,getM,getT,ev,evL,ofVal,cond_true,cond_false,Nat.beq_eq,act,isPar,ownPar,Ent.isOwn]
  refine Grow.intro [] rfl rfl ?_
  refine Branch.intro (fun hn=>absurd hn h3) (fun _=>?_)
  refine Branch.intro (fun h4=>?_) (fun h4=>?_)
  ·have hz:numP b most o = 0:=by
    rw [hq,if_neg]
    rintro ⟨_,_,_,h5⟩
    rcases h4 with h4 | h4
    ·exact h3 h4.1
    ·exact h4.2 h5
   refine Ret.intro (.i .i64 (0:Int)) [(1003,.mem false 0 [(n,.a8 b)])] [] rfl trivial ⟨by rw [hz];rfl,rfl⟩ rfl ?_ rfl ?_ rfl
   ·exact fc
   ·exact fc
  ·have h5:(b.drop o).take 32 = nameB g.toNat:=Classical.byContradiction fun h5=>h4 (Or.inr ⟨h3,h5⟩)
   have hz:numP b most o = g.toNat:=by
    rw [hq,if_pos]
    refine ⟨by omega,?_,?_,h5⟩
    ·have h1:¬ g.toNat < 1:=h1
     omega
    ·rw [hm2] at h2;omega
   repeat (refine sd ?_)
   refine Ret.intro (.i .i64 (g.toNat:Int)) [(1003,.mem false 0 [(n,.a8 b)])] [] rfl ?_ ⟨by rw [hz],rfl⟩ rfl ?_ rfl ?_ rfl
   ·exact fc
   ·exact fc
   ·exact fc
end Go.Proofs.Ytimbdhpchlakfaa
namespace Go.Proofs.Ytimbdhpchlakfaa
open Go Go.Sx
theorem numP_t {b:List UInt8} {most o:Nat} (h:b.getD o 0 ≠ UInt8.ofNat 116):numP b most o = 0:=by
 rw [numP_eq,if_neg]
 rintro ⟨h1,_,_,h2⟩
 rw [nameB_eq] at h2
 apply h
 have h3:((b.drop o).take 32).getD 0 0 = UInt8.ofNat 116:=by rw [h2];rfl
 rw [← h3,List.getD_eq_getElem?_getD,List.getD_eq_getElem?_getD,List.getElem?_take,if_pos (by decide),List.getElem?_drop,Nat.add_zero]
theorem toI_len (l:List Nat):(toI l).length = l.length:=List.length_map _
set_option maxRecDepth 100000 in
set_option maxHeartbeats 1000000 in
theorem fn35 (b:List UInt8) (n:Nat) (hb:b.length = n) (most:Nat) (hm:most < 4294967296) (hn:n ≤ 1000000):Sx.Fn Γ.P 35 [.slx 1003 0 0 n,.i .i64 (most:Int)] [(1003,.mem false 0 [(n,.a8 b)])]
  (fun v M=>∃ l c,l = toI (inL b most 0)∧l.length ≤ c∧v = .sl 1001 0 0 l.length c∧M = [(1003,.mem false 0 [(n,.a8 b)]),(1001,.mem true (c - l.length) [(l.length,.ai l)])]):=by
 refine fn_of (Γ:=Γ) (fn:=Try.f35) rfl rfl rfl rfl ?_
 repeat (refine sd ?_)
 refine Loop.intro (σ:=Nat × List Int × Nat × Nat) (fun s=>s.1 ≤ n + 40∧s.2.1.length = s.2.2.1∧s.2.2.1 ≤ s.1∧s.2.2.1 ≤ s.2.2.2∧s.2.1 ++ toI (inL b most s.1) = toI (inL b most 0))
  (fun s=>([(0,.slx 1003 0 0 n),(1,.i .i64 (most:Int)),(5,.sl 204 0 0 s.2.2.1 s.2.2.2),(6,.i .i64 (s.1:Int))],[(1003,.mem false 0 [(n,.a8 b)]),(204,.mem true (s.2.2.2 - s.2.2.1) [(s.2.2.1,.ai s.2.1)])]))
  (fun s=>n + 40 - s.1) (0,[],0,0) ⟨Nat.zero_le _,rfl,Nat.zero_le _,Nat.zero_le _,rfl⟩ ?_ ?_
 ·refine Le.ghost [.own 204 [(0,.ai [])]] [(5,204)] [] rfl ⟨rfl,rfl,trivial⟩ rfl rfl ?_ rfl ?_ rfl
  ·exact fc
  ·exact fc
 rintro ⟨o,A,N,c⟩ ⟨ho,hA,hNo,hNc,hI⟩
 have ho:o ≤ n + 40:=ho
 have hA:A.length = N:=hA
 have hNc:N ≤ c:=hNc
 have hNo:N ≤ o:=hNo
 have hI:A ++ toI (inL b most o) = toI (inL b most 0):=hI
 repeat (refine sd ?_)
 refine Branch.intro (fun hc=>?_) (fun hc=>?_)
 ·have hc:(o:Int) + 32 ≤ n:=hc
  repeat (refine sdn ?_)
  refine Branch.intro (fun hc2=>?_) (fun hc2=>?_)
  ·have hz:numP b most o = 0:=numP_t fun h=>hc2 h
   have hnx:=inL_none (by omega) hz
   repeat (refine sdn ?_)
   refine ⟨(o + 1,A,N,c),⟨by show o + 1 ≤ n + 40;omega,hA,by show N ≤ o + 1;omega,hNc,by show A ++ toI (inL b most (o + 1)) = _;rw [← hnx];exact hI⟩,by show n + 40 - (o + 1) < n + 40 - o;omega,Le.intro [] rfl ?_ rfl ?_ rfl⟩
   ·exact fc
   ·exact fc
  ·repeat (refine sdn ?_)
   have hC:=fn32 b n (n - o) o hb (by omega) (by omega) most hm
   refine Call.intro hC [(1003,(1003,0,none))] rfl fcn rfl fc rfl ?_
   rintro v M' ⟨rfl,rfl⟩
   dsimp only [putT,afterM,newEnt,ren,renA,renS,renL,look,getM,getT,ev,evL,ofVal,cond_true,cond_false,Nat.beq_eq,act,isPar,ownPar,Ent.isOwn]
   have hle:=numP_le b most o
   repeat (refine sdn ?_)
   refine Branch.intro (fun hc3=>?_) (fun hc3=>?_)
   ·have hc3:(numP b most o:Int) > 0:=hc3
    have hnx:=inL_some (b:=b) (most:=most) (o:=o) (by omega) (by omega)
    repeat (refine sdn ?_)
    refine fun c2 hc2'=>?_
    have hc2':N + 1 ≤ c2:=hc2'
    repeat (refine sdn ?_)
    refine ⟨(o + 32,A ++ [(numP b most o:Int)],N + 1,c2),⟨by show o + 32 ≤ n + 40;omega,by show (A ++ [(numP b most o:Int)]).length = N + 1;simp [hA],by show N + 1 ≤ o + 32;omega,hc2',?_⟩,by show n + 40 - (o + 32) < n + 40 - o;omega,Le.intro [(204,(30,0,none))] rfl ?_ rfl ?_ rfl⟩
    ·show (A ++ [(numP b most o:Int)]) ++ toI (inL b most (o + 32)) = _
     rw [← hI,hnx,List.append_assoc]
     rfl
    ·exact fcn
    ·exact fcn
   ·have hc3:¬ (numP b most o:Int) > 0:=hc3
    have hnx:=inL_none (b:=b) (most:=most) (o:=o) (by omega) (by omega)
    repeat (refine sdn ?_)
    refine ⟨(o + 1,A,N,c),⟨by show o + 1 ≤ n + 40;omega,hA,by show N ≤ o + 1;omega,hNc,by show A ++ toI (inL b most (o + 1)) = _;rw [← hnx];exact hI⟩,by show n + 40 - (o + 1) < n + 40 - o;omega,Le.intro [] rfl ?_ rfl ?_ rfl⟩
    ·exact fc
    ·exact fc
 ·have hc:¬ (o:Int) + 32 ≤ n:=hc
  have hnx:=inL_end (b:=b) (most:=most) (o:=o) (by omega)
  have hI2:A = toI (inL b most 0):=by rw [← hI,hnx];exact (List.append_nil _).symm
  repeat (refine sd ?_)
  refine Ret.intro (.sl 1001 0 0 N c) [(1003,.mem false 0 [(n,.a8 b)]),(1001,.mem true (c - N) [(N,.ai A)])] [(1001,(204,0,none))] rfl ?_ ⟨A,c,hI2,by omega,by rw [hA],by rw [hA]⟩ rfl ?_ rfl ?_ rfl
  ·exact fc
  ·exact fc
  ·exact fc
end Go.Proofs.Ytimbdhpchlakfaa
namespace Go.Proofs.Ytimbdhpchlakfaa
open Go Go.Sx
end Go.Proofs.Ytimbdhpchlakfaa
