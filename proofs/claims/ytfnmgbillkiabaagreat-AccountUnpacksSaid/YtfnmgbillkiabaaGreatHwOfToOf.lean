/- What the functions of the program compute. No condition. -/
import Derived.Test.YtfnmgbillkiabaaGreatHwTm9ToCh1
set_option linter.unusedSimpArgs false
set_option linter.unusedVariables false
set_option maxRecDepth 100000
namespace Go.Proofs.YtfnmgbillkiabaaGreat
open Go Go.Sx
theorem numP_name {z most:Nat} (h1:1 <= z) (h2:z <= most) (h3:most < 4294967296):numP (nameB z) most 0 = z:=by
 have hn:nmK (nameB z) 0 = z:=by
  rw [nameB_eq]
  show (((UInt8.ofNat (z / 256 ^ 3)).toNat * 256 + (UInt8.ofNat (z / 256 ^ 2)).toNat) * 256 + (UInt8.ofNat (z / 256 ^ 1)).toNat) * 256 + (UInt8.ofNat (z / 256 ^ 0)).toNat = z
  simp only [UInt8.toNat_ofNat',Nat.reducePow,Nat.div_one]
  omega
 rw [numP_eq,hn,if_pos]
 exact ⟨by rw [nameB_length];omega,h1,h2,List.take_of_length_le (by rw [List.drop_zero,nameB_length];omega)⟩
set_option maxHeartbeats 1000000 in
theorem fn87 (T:List Te) (n:Nat) (hT:T.length = n) (hn:n <= 60000) (hTv:∀ x ∈ T,Valid x.1 x.2) (k:List UInt8) (hk:k.length = 32) :
  Sx.Fn Γ.P 87 [.ptr 1000 0 none,.a8 k] [(1000,.mem false 0 [(1,.slx 1001 0 0 n),(1,.mp 1002)]),(1001,.mem false 0 [(n * 3,.arr n 3 (ttF T))]),(1002,.dead)]
  (fun v M=>(numP k n 0 = 0/\v = .tup [.i .i64 0,.nsl,.ff]/\M = [(1000,.mem false 0 [(1,.slx 1001 0 0 n),(1,.mp 1002)]),(1001,.mem false 0 [(n * 3,.arr n 3 (ttF T))]),(1002,.dead)]) \/ ∃ q L m c,numP k n 0 = q + 1/\q < n/\(T.getD q te0).2 = L/\L.length = m/\m <= c/\v = .tup [.i .i64 (T.getD q te0).1,.sl 1005 0 0 m c,.tt]/\M = [(1000,.mem false 0 [(1,.slx 1001 0 0 n),(1,.mp 1002)]),(1001,.mem false 0 [(n * 3,.arr n 3 (ttF T))]),(1002,.dead),(1005,.mem true (c - m) [(m * 1,.arr m 1 (rwF L))])]):=by
 have hN:=fn135 k 32 32 0 hk rfl (Nat.le_refl _) n (by omega)
 have hle:=numP_le k n 0
 refine fn_of (Γ:=Γ) (fn:=Tryz.f87) rfl rfl rfl rfl ?_
 repeat (refine sd ?_)
 refine Draw.intro [[],[],[1],[1,2],[1,2,3],[1,2,3,4],[0,1,2,3,4,5],[0,1,2,3,4,5,6]] [0,1,2,3,4,5,6,7] (by kernel_rfl) ?_
 repeat (refine sd ?_)
 refine Call.intro hN [(1003,(3,0,none))] rfl fc rfl fc rfl ?_
 rintro v M' ⟨rfl,rfl⟩
 dsimp only [zt,zM,zE,ren,zz,zx,zy,look,zG,zX,ev,evL,zV,zcT,zcF,act,zP,zO,Ent.zW]
 repeat (refine sd ?_)
 refine zB.intro (fun hz=>?_) (fun hz=>?_)
 ·have hz:numP k n 0 = 0:=by have h:((numP k n 0:Nat):Int) = 0:=hz;omega
  repeat (refine sd ?_)
  refine Ret.intro (.tup [.i .i64 0,.nsl,.ff]) [(1000,.mem false 0 [(1,.slx 1001 0 0 n),(1,.mp 1002)]),(1001,.mem false 0 [(n * 3,.arr n 3 (ttF T))]),(1002,.dead)] [] rfl ?_ (Or.inl ⟨hz,rfl,rfl⟩) rfl ?_ rfl ?_ rfl
  ·exact fc
  ·exact fc
  ·exact fc
 obtain ⟨q,hq⟩:∃ q,numP k n 0 = q + 1:=⟨numP k n 0 - 1,by have h:¬ ((numP k n 0:Nat):Int) = 0:=hz;omega⟩
 have hV:=hTv _ (getD_mem te0 (L:=T) (i:=q) (by omega))
 obtain ⟨x,hx⟩:∃ x,T.getD q te0 = x:=⟨_,rfl⟩
 rw [hx] at hV
 obtain ⟨L,hL⟩:∃ L,x.2 = L:=⟨_,rfl⟩
 have hLs:=hV.1
 rw [hL] at hLs
 obtain ⟨m,hm⟩:∃ m,L.length = m:=⟨_,rfl⟩
 have hm64:m <= 64:=by rw [<- hm];exact hLs.1
 have eq1:((q + 1:Nat):Int) - 1 = (q:Int):=by omega
 have eq2:(((q + 1:Nat):Int) - 1).toNat = q:=by omega
 rw [hq]
 rw [hq] at hle
 clear hN hz
 repeat (refine Side.intro (by repeat' (first | (show zA _;first | exact trivial | refine zA.app ?_ ?_ | refine zA.zd ?_ ?_ | refine zA.cons ?_ ?_) | with_reducible rfl | with_reducible assumption | omega | (simp only [eq2,zIn,Nat.zero_add,hx,hL,hm,rng,Ix.val,zQ,addI,szs] <;> omega) | (simp only [eq2,zIn,Nat.zero_add,hx,hL,hm,rng,Ix.val,zIn,zme,zQ,addI,Option.getD_none,Option.getD_some,zlT,zlD,zlA,List.length_set,List.length_replicate,szs, *] <;> omega) | (simp only [Ix.val];with_reducible assumption) | exact UInt8.toNat_lt _ | (apply Eq.trans;(with_reducible assumption);exact rfl) | exact rfl | exact fun _ _=>rfl)) ?_)
 refine Loop.intro (σ:=Nat × Nat) (fun s=>s.1 <= m/\s.1 <= s.2)
  (fun s=>([(8,.ptr 8 0 none),(9,.sl 204 0 0 s.1 s.2),(30,.isl 0 m 1 [(m * 1,.arr m 1 (rwF L))]),(31,.i .i64 (m:Int)),(32,.i .i64 (s.1:Int))],
   [(1000,.mem false 0 [(1,.slx 1001 0 0 n),(1,.mp 1002)]),(1001,.mem false 0 [(n * 3,.arr n 3 (ttF T))]),(1002,.dead),(8,.mem true 0 [(1,.i .i64 x.1),(1,.isl 0 m 1 [(m * 1,.arr m 1 (rwF L))]),(1,.isl 0 m 1 [(m * 1,.arr m 1 (nwF q L))])]),(204,.mem true (s.2 - s.1) [(s.1 * 1,.arr s.1 1 (rwF L))])]))
  (fun s=>m - s.1) (0,0) ⟨Nat.zero_le _,Nat.le_refl _⟩ ?_ ?_
 ·refine Le.ghost [.own 204 [(0,.arr 0 1 (rwF L))]] [(9,204)] [] rfl ⟨rfl,rfl,trivial⟩ rfl rfl ?_ rfl ?_ rfl
  ·repeat' (first | (show zA _;first | exact trivial | refine zA.app ?_ ?_ | refine zA.zd ?_ ?_ | refine zA.cons ?_ ?_) | with_reducible rfl | with_reducible assumption | omega | (simp only [eq2,zIn,hx,hL,hm,rng,Ix.val,zQ,addI,szs] <;> omega) | (simp only [eq2,zIn,hx,hL,hm,rng,Ix.val,zIn,zme,zQ,addI,Option.getD_none,Option.getD_some,zlT,zlD,zlA,List.length_set,List.length_replicate,szs, *] <;> omega) | (simp only [Ix.val];with_reducible assumption) | exact UInt8.toNat_lt _ | (apply Eq.trans;(with_reducible assumption);exact rfl) | exact rfl | exact fun _ _=>rfl)
   all_goals (rw [eq2,hx,hL])
  ·repeat' (first | (show zA _;first | exact trivial | refine zA.app ?_ ?_ | refine zA.zd ?_ ?_ | refine zA.cons ?_ ?_) | with_reducible rfl | with_reducible assumption | omega | (simp only [eq2,zIn,hx,hL,hm,rng,Ix.val,zQ,addI,szs] <;> omega) | (simp only [eq2,zIn,hx,hL,hm,rng,Ix.val,zIn,zme,zQ,addI,Option.getD_none,Option.getD_some,zlT,zlD,zlA,List.length_set,List.length_replicate,szs, *] <;> omega) | (simp only [Ix.val];with_reducible assumption) | exact UInt8.toNat_lt _ | (apply Eq.trans;(with_reducible assumption);exact rfl) | exact rfl | exact fun _ _=>rfl)
   all_goals (rw [eq2,hx,hL])
 rintro ⟨i,c⟩ ⟨hi,hic⟩
 have hi:i <= m:=hi
 have hic:i <= c:=hic
 refine zB.intro (fun hc=>?_) (fun hc=>?_)
 ·have hc:(i:Int) < m:=hc
  have hll:=hLs.2 _ (getD_mem [] (L:=L) (i:=i) (by omega))
  unfold rwF
  repeat (refine sdn ?_)
  refine fun c3 hc3=>?_
  have hc3:(L.getD i []).length <= c3:=by have h:0 + (L.getD i []).length <= c3:=hc3;omega
  repeat (refine sdn ?_)
  refine fun c4 hc4=>?_
  have hc4:i + 1 <= c4:=hc4
  repeat (refine sdn ?_)
  refine ⟨(i + 1,c4),⟨by show i + 1 <= m;omega,hc4⟩,by show m - (i + 1) < m - i;omega,Le.intro [(204,(41,0,none))] rfl ?_ rfl ?_ rfl⟩
  ·exact fcn
  ·repeat' (first | (show zA _;first | exact trivial | refine zA.app ?_ ?_ | refine zA.zd ?_ ?_ | refine zA.cons ?_ ?_) | exact fdn | fail)
   refine appF_row (fun q _=>by rw [shiftF_eq,Nat.zero_add]) ?_
   simp only [zme,dropQ_eq,List.drop_zero,Ix.val,zQ,Nat.zero_add,zIn,List.replicate_zero,List.nil_append,List.take_length,Nat.mul_one,rwF]
 have hc:¬ (i:Int) < m:=hc
 obtain rfl:i = m:=by omega
 repeat (refine sd ?_)
 refine Ret.intro (.tup [.i .i64 (T.getD q te0).1,.sl 1005 0 0 i c,.tt]) [(1000,.mem false 0 [(1,.slx 1001 0 0 n),(1,.mp 1002)]),(1001,.mem false 0 [(n * 3,.arr n 3 (ttF T))]),(1002,.dead),(1005,.mem true (c - i) [(i * 1,.arr i 1 (rwF L))])] [(1005,(204,0,none))] rfl ?_ (Or.inr ⟨q,L,i,c,rfl,by omega,by rw [hx,hL],hm,hic,rfl,rfl⟩) rfl ?_ rfl ?_ rfl
 ·exact fc
 ·repeat' (first | (show zA _;first | exact trivial | refine zA.app ?_ ?_ | refine zA.zd ?_ ?_ | refine zA.cons ?_ ?_) | exact fd | fail)
  all_goals (rw [hx];exact rfl)
 ·exact fc
end Go.Proofs.YtfnmgbillkiabaaGreat
