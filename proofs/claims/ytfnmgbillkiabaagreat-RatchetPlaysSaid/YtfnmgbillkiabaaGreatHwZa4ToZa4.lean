/- What the functions of the program compute. No condition. -/
import Derived.Test.YtfnmgbillkiabaaGreatHwZa1ToZa1
import Derived.Test.YtfnmgbillkiabaaGreatHwOpToOp
set_option linter.unusedSimpArgs false
set_option linter.unusedVariables false
set_option maxRecDepth 100000
namespace Go.Proofs.YtfnmgbillkiabaaGreat
open Go Go.Sx
def wantB (K:List UInt8) (s:Nat):List UInt8:=K.take (min 32 s) ++ List.replicate (s - min 32 s) 0
theorem wantB_length {K:List UInt8} (hK:K.length = 32) (s:Nat):(wantB K s).length = s:=by
 unfold wantB;rw [zlA,zlT,List.length_replicate];omega
theorem wantB_cp {K:List UInt8} (hK:K.length = 32) (s:Nat):wantB K s = List.take 0 (List.replicate s (0:UInt8)) ++ List.take (min 32 s) K ++ List.drop (0 + min 32 s) (List.replicate s 0):=by
 rw [List.take_zero,List.nil_append,Nat.zero_add,List.drop_replicate];rfl
theorem wantB_eq {K S:List UInt8} {s:Nat} (hK:S.take 32 = K) (hS:32 <= S.length):wantB K s = S ↔ s = S.length/\S.drop 32 = List.replicate (S.length - 32) 0:=by
 have hKl:K.length = 32:=by rw [<- hK,zlT];omega
 constructor
 ·intro h
  have hl:s = S.length:=by rw [<- h,wantB_length hKl]
  refine ⟨hl,?_⟩
  unfold wantB at h
  rw [Nat.min_eq_left (by omega),List.take_of_length_le (by omega)] at h
  rw [<- h,List.drop_left' hKl,zlA,List.length_replicate,hKl]
  congr 1;omega
 ·rintro ⟨h1,h2⟩
  unfold wantB
  rw [Nat.min_eq_left (by omega),List.take_of_length_le (by omega),h1,<- h2,<- hK,List.take_append_drop]
theorem fnBytesMM (x y:List UInt8) (n m:Nat) (hx:x.length = n) (hy:y.length = m):Sx.Fn Γ.P 18 [.slx 1003 0 0 n,.slx 1004 0 0 m] [(1003,.mem false 0 [(n,.a8 x)]),(1004,.mem false 0 [(m,.a8 y)])] (fun v M=>v = .bool (x = y)/\M = [(1003,.mem false 0 [(n,.a8 x)]),(1004,.mem false 0 [(m,.a8 y)])]):=by
 refine fn_of (Γ:=Γ) (fn:=Tryz.f18) rfl rfl rfl rfl ?_
 repeat (refine sd ?_)
 have hx':x.take n = x:=List.take_of_length_le (by omega)
 have hy':y.take m = y:=List.take_of_length_le (by omega)
 refine Ret.intro (.bool (x = y)) [(1003,.mem false 0 [(n,.a8 x)]),(1004,.mem false 0 [(m,.a8 y)])] [] rfl ?_ ⟨rfl,rfl⟩ rfl ?_ rfl ?_ rfl
 ·exact fc
 ·repeat' (first | (show zA _;first | exact trivial | refine zA.app ?_ ?_ | refine zA.zd ?_ ?_ | refine zA.cons ?_ ?_) | exact fd | fail)
  all_goals (show x = y ↔ x.take n = y.take m;rw [hx',hy'])
 ·exact fc
set_option maxHeartbeats 4000000 in
theorem fnROpenF (T:List Te) (N:Nat) (hT:T.length = N) (hN:N <= 60000) (hTv:∀ x ∈ T,Valid x.1 x.2) (key S:List UInt8) (n:Nat) (hk:key.length = 32) (hn:S.length = n) (hn1:n <= 1000000) :
  Sx.Fn Γ.P 48 [.agg [(1,.ptr 1000 0 none)],.a8 key,.slx 1003 0 0 n] [(1003,.mem false 0 [(n,.a8 S)]),(1000,.mem false 0 [(1,.slx 1001 0 0 N)]),(1001,.mem false 0 [(N * 2,.arr N 2 (rtF T))])]
  (fun v M=>(opn T N key S = none/\v = .tup [.nsl,.ff]/\M = [(1003,.mem false 0 [(n,.a8 S)]),(1000,.mem false 0 [(1,.slx 1001 0 0 N)]),(1001,.mem false 0 [(N * 2,.arr N 2 (rtF T))])]) \/
   ∃ p k,opn T N key S = some p/\p.length = k/\k <= 1024/\v = .tup [.isl 0 k 1 [(k,.a8 p)],.tt]/\M = [(1003,.mem false 0 [(n,.a8 S)]),(1000,.mem false 0 [(1,.slx 1001 0 0 N)]),(1001,.mem false 0 [(N * 2,.arr N 2 (rtF T))])]):=by
 refine fn_cut [5,8,10] (Γ:=Γ) (fn:=Tryz.f48) rfl rfl rfl rfl ?_
 repeat (refine sd ?_)
 refine zB.intro (fun hc=>?_) (fun hc=>?_)
 ·have hc:(n:Int) < 32:=hc
  have h0:opn T N key S = none:=opn_short (by omega)
  repeat (first | (refine zB.intro (fun _=>?_) (fun hn=>absurd rfl hn)) | (refine ky0 ?_) | (refine kn0 ?_) | (refine sd ?_))
  refine Ret.intro (.tup [.nsl,.ff]) [(1003,.mem false 0 [(n,.a8 S)]),(1000,.mem false 0 [(1,.slx 1001 0 0 N)]),(1001,.mem false 0 [(N * 2,.arr N 2 (rtF T))])] [] rfl ?_ (Or.inl ⟨h0,rfl,rfl⟩) rfl ?_ rfl ?_ rfl
  ·exact fc
  ·exact fc
  ·exact fc
 have hc:¬ (n:Int) < 32:=hc
 have eK:=takeK hn (by omega)
 obtain ⟨K,hK⟩:∃ K,S.take 32 = K:=⟨_,rfl⟩
 have hKl:K.length = 32:=by rw [<- hK,zlT];omega
 have hOf:=fn94 T N hT hN K hKl
 rw [hK] at eK
 have eD:List.take n (List.drop 0 S) = S:=by rw [List.drop_zero,List.take_of_length_le (by omega)]
 have eT:List.take 32 key = key:=List.take_of_length_le (by omega)
 repeat (first | (refine zB.intro (fun h=>False.elim (by revert h;first | (simp ;done) | fail)) (fun _=>?_)) | (refine zB.intro (fun _=>?_) (fun h=>False.elim (by revert h;first | (simp ;done) | fail))) | (refine sd ?_))
 refine Cut.intro (σ:=Unit) (fun _=>True) (fun _=>([(2,.slx 1003 0 0 n),(3,.ptr 203 0 none),(4,.ptr 204 0 none),(8,.ptr 208 0 none)],[(203,.mem true 0 [(1,.ptr 1000 0 none)]),(204,.mem true 0 [(32,.a8 key)]),(208,.mem true 0 [(32,.a8 K)]),
  (1003,.mem false 0 [(n,.a8 S)]),(1000,.mem false 0 [(1,.slx 1001 0 0 N)]),(1001,.mem false 0 [(N * 2,.arr N 2 (rtF T))])])) () trivial (Le.intro [(203,(3,0,none)),(204,(4,0,none)),(208,(8,0,none))] rfl ?_ rfl ?_ rfl) ?_
 ·exact fc
 ·repeat' (first | (show zA _;first | exact trivial | refine zA.app ?_ ?_ | refine zA.zd ?_ ?_ | refine zA.cons ?_ ?_) | exact fd | fail)
  all_goals (rw [eD];exact eK)
 rintro - -
 repeat (refine sd ?_)
 refine Call.intro hOf [(1000,(1000,0,none)),(1001,(1001,0,none))] rfl ?_ rfl ?_ rfl ?_
 ·exact fc
 ·exact fc
 rintro v M' (⟨hz,rfl,rfl⟩ | ⟨q,h1,h2,rfl,rfl⟩)
 ·have h0:opn T N key S = none:=opn_zero (by rw [hK];exact hz)
  dsimp only [zt,zM,zE,ren,zz,zx,zy,look,zG,zX,ev,evL,zV,zcT,zcF,act,zP,zO,Ent.zW]
  repeat (refine sd ?_)
  refine Draw.intro [[],[0],[0,1],[0,1,2],[0,1,2,3],[0,1,2,3,4],[0,1,2,3,4,5],[0,1,2,3,4,5,6],[0,1,2,3,4,5,6,7],[0,1,2,3,4,5,6,7,8],[0,1,2,3,4,5,6,7,8,9],[0,1,2,3,4,5,6,7,8,9,10],[0,1,2,3,4,5,6,7,8,9,10,11],[0,1,2,3,4,5,6,7,8,9,10,11,12],[0,1,2,3,4,5,6,7,8,9,10,11,12,13],[0,1,2,3,4,5,6,7,8,9],[0,1,2,3,4,5,6,7,8,9,15],[0,1,2,3,4,5,6,7,8,9,10,11,12,13,14,15,16],[0,1,2,3,4,5,6,7,8,9,10,11,12,13,14,15,16,17]] [0,1,2,3,4,5,6,7,8,9,10,11,12,13,14,15,16,17,18] (by kernel_rfl) ?_
  repeat (first | (refine zB.intro (fun h=>False.elim (by revert h;first | (simp ;done) | fail)) (fun _=>?_)) | (refine zB.intro (fun _=>?_) (fun h=>False.elim (by revert h;first | (simp ;done) | fail))) | (refine sd ?_))
  refine Ret.intro (.tup [.nsl,.ff]) [(1003,.mem false 0 [(n,.a8 S)]),(1000,.mem false 0 [(1,.slx 1001 0 0 N)]),(1001,.mem false 0 [(N * 2,.arr N 2 (rtF T))])] [] rfl ?_ (Or.inl ⟨h0,rfl,rfl⟩) rfl ?_ rfl ?_ rfl
  ·exact fc
  ·exact fc
  ·exact fc
 have hno:=opn_no (T:=T) (key:=key) (S:=S) (q:=q) (by rw [hK];exact h1)
 have hyes:=opn_yes (T:=T) (key:=key) (S:=S) (q:=q) (by rw [hK];exact h1)
 have hV:=hTv _ (getD_mem te0 (L:=T) (i:=q) (by omega))
 obtain ⟨x,hx⟩:∃ x,T.getD q te0 = x:=⟨_,rfl⟩
 rw [hx] at hno hyes hV ⊢
 obtain ⟨k,h4⟩:∃ k,x.2.length = k:=⟨_,rfl⟩
 have hk64:k <= 64:=by rw [<- h4];exact hV.1.1
 unfold prS
 rw [h4]
 clear hOf eK
 dsimp only [zt,zM,zE,ren,zz,zx,zy,look,zG,zX,ev,evL,zV,zcT,zcF,act,zP,zO,Ent.zW]
 repeat (refine sd ?_)
 by_cases c1:¬ x.1 = 8
 ·have h0:=hno (fun h=>c1 h.1)
  refine Draw.intro [[],[0],[0,1],[0,1,2],[0,1,2,3],[0,1,2,3,4],[0,1,2,3,4,5],[0,1,2,3,4,5,6],[0,1,2,3,4,5,6,7],[0,1,2,3,4,5,6,7,8],[0,1,2,3,4,5,6,7,8,9],[0,1,2,3,4,5,6,7,8,9,10],[0,1,2,3,4,5,6,7,8,9,10,11],[0,1,2,3,4,5,6,7,8,9,10,11,12],[0,1,2,3,4,5,6,7,8,9,10,11,12,13],[0,1,2,3,4,5,6,7,8,9],[0,1,2,3,4,5,6,7,8,9,15],[0,1,2,3,4,5,6,7,8,9,10,11,12,13,14,15,16],[0,1,2,3,4,5,6,7,8,9,10,11,12,13,14,15,16,17]] [0,1,2,3,4,5,6,7,8,9,10,11,12,13,14,15,16,17,18] (by kernel_rfl) ?_
  repeat (first | (refine zB.intro (fun h=>False.elim (by revert h;first | (simp [c1];done) | fail)) (fun _=>?_)) | (refine zB.intro (fun _=>?_) (fun h=>False.elim (by revert h;first | (simp [c1];done) | fail))) | (refine sd ?_))
  refine Ret.intro (.tup [.nsl,.ff]) [(1003,.mem false 0 [(n,.a8 S)]),(1000,.mem false 0 [(1,.slx 1001 0 0 N)]),(1001,.mem false 0 [(N * 2,.arr N 2 (rtF T))])] [] rfl ?_ (Or.inl ⟨h0,rfl,rfl⟩) rfl ?_ rfl ?_ rfl
  ·exact fc
  ·exact fc
  ·exact fc
 have c1:x.1 = 8:=Classical.not_not.1 c1
 by_cases c2:¬ k = 2
 ·have h0:=hno (fun h=>c2 (by rw [<- h4];exact h.2.1))
  have c2':¬ ((k:Nat):Int) = 2:=by omega
  refine Draw.intro [[],[0],[0,1],[0,1,2],[0,1,2,3],[0,1,2,3,4],[0,1,2,3,4,5],[0,1,2,3,4,5,6],[0,1,2,3,4,5,6,7],[0,1,2,3,4,5,6,7,8],[0,1,2,3,4,5,6,7,8,9],[0,1,2,3,4,5,6,7,8,9,10],[0,1,2,3,4,5,6,7,8,9,10,11],[0,1,2,3,4,5,6,7,8,9,10,11,12],[0,1,2,3,4,5,6,7,8,9,10,11,12,13],[0,1,2,3,4,5,6,7,8,9],[0,1,2,3,4,5,6,7,8,9,15],[0,1,2,3,4,5,6,7,8,9,10,11,12,13,14,15,16],[0,1,2,3,4,5,6,7,8,9,10,11,12,13,14,15,16,17]] [0,1,2,3,4,5,6,7,8,9,10,11,12,13,14,15,16,17,18] (by kernel_rfl) ?_
  repeat (first | (refine zB.intro (fun h=>False.elim (by revert h;first | (simp [c1,c2,c2'];done) | fail)) (fun _=>?_)) | (refine zB.intro (fun _=>?_) (fun h=>False.elim (by revert h;first | (simp [c1,c2,c2'];done) | fail))) | (refine sd ?_))
  refine Ret.intro (.tup [.nsl,.ff]) [(1003,.mem false 0 [(n,.a8 S)]),(1000,.mem false 0 [(1,.slx 1001 0 0 N)]),(1001,.mem false 0 [(N * 2,.arr N 2 (rtF T))])] [] rfl ?_ (Or.inl ⟨h0,rfl,rfl⟩) rfl ?_ rfl ?_ rfl
  ·exact fc
  ·exact fc
  ·exact fc
 have c2:k = 2:=Classical.not_not.1 c2
 subst c2
 obtain ⟨a,b,hab⟩:∃ a b,x.2 = [a,b]:=by
  match hL:x.2,h4 with
  | [a,b],_=>exact ⟨a,b,rfl⟩
 have hbl:b.length <= 4096:=hV.1.2 b (by rw [hab];simp)
 have hal:a.length <= 4096:=hV.1.2 a (by rw [hab];simp)
 rw [hab] at hno hyes ⊢
 have e0:([a,b]:List (List UInt8)).getD 0 [] = a:=rfl
 have e1:([a,b]:List (List UInt8)).getD 1 [] = b:=rfl
 rw [e0,e1] at hno hyes
 have f0:([a,b]:List (List UInt8))[addQ 0 (Ix.lit 0).val]?.getD [] = a:=rfl
 have f1:([a,b]:List (List UInt8))[addQ 0 (Ix.lit 1).val]?.getD [] = b:=rfl
 obtain ⟨y,hy⟩:∃ y,b.length = y:=⟨_,rfl⟩
 rw [hy] at hno hyes
 by_cases c3:¬ a = key
 ·have h0:=hno (fun h=>c3 h.2.2.1)
  refine Draw.intro [[],[0],[0,1],[0,1,2],[0,1,2,3],[0,1,2,3,4],[0,1,2,3,4,5],[0,1,2,3,4,5,6],[0,1,2,3,4,5,6,7],[0,1,2,3,4,5,6,7,8],[0,1,2,3,4,5,6,7,8,9],[0,1,2,3,4,5,6,7,8,9,10],[0,1,2,3,4,5,6,7,8,9,10,11],[0,1,2,3,4,5,6,7,8,9,10,11,12],[0,1,2,3,4,5,6,7,8,9,10,11,12,13],[0,1,2,3,4,5,6,7,8,9],[0,1,2,3,4,5,6,7,8,9,15],[0,1,2,3,4,5,6,7,8,9,10,11,12,13,14,15,16],[0,1,2,3,4,5,6,7,8,9,10,11,12,13,14,15,16,17]] [0,1,2,3,4,5,6,7,8,9,10,11,12,13,14,15,16,17,18] (by kernel_rfl) ?_
  repeat (first | (refine zB.intro (fun h=>False.elim (by revert h;first | (simp [c1,c3,eT,f0,f1];done) | fail)) (fun _=>?_)) | (refine zB.intro (fun _=>?_) (fun h=>False.elim (by revert h;first | (simp [c1,c3,eT,f0,f1];done) | fail))) | (refine sd ?_))
  refine Ret.intro (.tup [.nsl,.ff]) [(1003,.mem false 0 [(n,.a8 S)]),(1000,.mem false 0 [(1,.slx 1001 0 0 N)]),(1001,.mem false 0 [(N * 2,.arr N 2 (rtF T))])] [] rfl ?_ (Or.inl ⟨h0,rfl,rfl⟩) rfl ?_ rfl ?_ rfl
  ·exact fc
  ·exact fc
  ·exact fc
 have c3:a = key:=Classical.not_not.1 c3
 subst c3
 refine Draw.intro [[],[0],[0,1],[0,1,2],[0,1,2,3],[0,1,2,3,4],[0,1,2,3,4,5],[0,1,2,3,4,5,6],[0,1,2,3,4,5,6,7],[0,1,2,3,4,5,6,7,8],[0,1,2,3,4,5,6,7,8,9],[0,1,2,3,4,5,6,7,8,9,10],[0,1,2,3,4,5,6,7,8,9,10,11],[0,1,2,3,4,5,6,7,8,9,10,11,12],[0,1,2,3,4,5,6,7,8,9,10,11,12,13],[0,1,2,3,4,5,6,7,8,9],[0,1,2,3,4,5,6,7,8,9,15],[0,1,2,3,4,5,6,7,8,9,10,11,12,13,14,15,16],[0,1,2,3,4,5,6,7,8,9,10,11,12,13,14,15,16,17]] [0,1,2,3,4,5,6,7,8,9,10,11,12,13,14,15,16,17,18] (by kernel_rfl) ?_
 repeat (first | (refine zB.intro (fun h=>False.elim (by revert h;first | (simp [c1,eT,f0,f1];done) | fail)) (fun _=>?_)) | (refine zB.intro (fun _=>?_) (fun h=>False.elim (by revert h;first | (simp [c1,eT,f0,f1];done) | fail))) | (refine sd ?_))
 obtain ⟨s,hs⟩:∃ s:Nat,sizS (y:Int) = (s:Int):=by
  by_cases h:(y:Int) < 0 \/ 1024 < (y:Int)
  ·exact ⟨0,by rw [sizS_bad h];rfl⟩
  ·exact ⟨y / 16 * 16 + 32,by rw [sizS_ok (by omega) (by omega)];omega⟩
 have hs1:s <= 1056:=by have:=sizS_le (n:=(y:Int));omega
 have hSz:=fn95 (y:Int)
 rw [hs] at hSz hno hyes
 refine Cut.intro (σ:=Unit) (fun _=>True) (fun _=>([(2,.slx 1003 0 0 n),(8,.ptr 208 0 none),(9,.ptr 209 0 none)],[(208,.mem true 0 [(32,.a8 K)]),(209,.mem true 0 [(1,.i .i64 8),(1,.isl 0 2 1 [(2 * 1,.arr 2 1 (rwF [a,b]))])]),
  (1003,.mem false 0 [(n,.a8 S)]),(1000,.mem false 0 [(1,.slx 1001 0 0 N)]),(1001,.mem false 0 [(N * 2,.arr N 2 (rtF T))])])) () trivial (Le.intro [(208,(208,0,none)),(209,(9,0,none))] rfl ?_ rfl ?_ rfl) ?_
 ·exact fc
 ·repeat' (first | (show zA _;first | exact trivial | refine zA.app ?_ ?_ | refine zA.zd ?_ ?_ | refine zA.cons ?_ ?_) | exact fd | fail)
  all_goals first | exact c1 | exact c1.symm
 rintro - -
 repeat (refine sd ?_)
 refine Call.pure hSz rfl ?_ ?_
 ·repeat' (first | (show zA _;first | exact trivial | refine zA.app ?_ ?_ | refine zA.zd ?_ ?_ | refine zA.cons ?_ ?_) | exact fd | fail)
  all_goals (show (y:Int) = ((b.length:Nat):Int);rw [hy])
 intro v hv
 subst hv
 have e5:((s:Nat):Int).toNat = s:=by omega
 repeat (refine Side.intro (by repeat' (first | (show zA _;first | exact trivial | refine zA.app ?_ ?_ | refine zA.zd ?_ ?_ | refine zA.cons ?_ ?_) | with_reducible rfl | with_reducible assumption | omega | (simp only [Nat.zero_add,zIn,e5,rng,Ix.val,zQ,addI,szs] <;> omega) | (simp only [Nat.zero_add,zIn,e5,rng,Ix.val,zIn,zme,zQ,addI,Option.getD_none,Option.getD_some,zlT,zlD,zlA,List.length_set,List.length_replicate,szs, *] <;> omega) | (simp only [Ix.val];with_reducible assumption) | exact UInt8.toNat_lt _ | (apply Eq.trans;(with_reducible assumption);exact rfl) | exact rfl | exact fun _ _=>rfl)) ?_)
 have hW:=wantB_length hKl s
 have hwe:=wantB_eq (s:=s) hK (by omega)
 have hwc:=wantB_cp hKl s
 obtain ⟨W,hWd⟩:∃ W,wantB K s = W:=⟨_,rfl⟩
 rw [hWd] at hW hwe hwc
 have hBy:=fnBytesMM W S s n hW hn
 refine Cut.intro (σ:=Unit) (fun _=>True) (fun _=>([(2,.slx 1003 0 0 n),(9,.ptr 209 0 none),(11,.sl 211 0 0 s s)],[(211,.mem true 0 [(s,.a8 W)]),(209,.mem true 0 [(1,.i .i64 8),(1,.isl 0 2 1 [(2 * 1,.arr 2 1 (rwF [a,b]))])]),
  (1003,.mem false 0 [(n,.a8 S)]),(1000,.mem false 0 [(1,.slx 1001 0 0 N)]),(1001,.mem false 0 [(N * 2,.arr N 2 (rtF T))])])) () trivial (Le.intro [(211,(56,0,none)),(209,(209,0,none))] rfl ?_ rfl ?_ rfl) ?_
 ·exact fc
 ·repeat' (first | (show zA _;first | exact trivial | refine zA.app ?_ ?_ | refine zA.zd ?_ ?_ | refine zA.cons ?_ ?_) | exact fd | fail)
  all_goals (rw [show List.take 32 (List.drop ((none:Option Nat).getD 0) K) = K by rw [Option.getD_none,List.drop_zero,List.take_of_length_le (by omega)],hKl];exact hwc)
 rintro - -
 repeat (refine sd ?_)
 refine Call.intro hBy [(1003,(211,0,none)),(1004,(1003,0,none))] rfl ?_ rfl ?_ rfl ?_
 ·exact fc
 ·exact fc
 rintro v M' ⟨rfl,rfl⟩
 dsimp only [zt,zM,zE,ren,zz,zx,zy,look,zG,zX,ev,evL,zV,zcT,zcF,act,zP,zO,Ent.zW]
 repeat (refine sd ?_)
 refine zB.intro (fun h=>?_) (fun h=>?_)
 ·have h:¬ W = S:=h
  have h0:=hno (fun g=>h (hwe.2 ⟨by omega,g.2.2.2.2⟩))
  repeat (refine sd ?_)
  refine Ret.intro (.tup [.nsl,.ff]) [(1003,.mem false 0 [(n,.a8 S)]),(1000,.mem false 0 [(1,.slx 1001 0 0 N)]),(1001,.mem false 0 [(N * 2,.arr N 2 (rtF T))])] [] rfl ?_ (Or.inl ⟨h0,rfl,rfl⟩) rfl ?_ rfl ?_ rfl
  ·exact fc
  ·exact fc
  ·exact fc
 have h:W = S:=Classical.not_not.1 h
 obtain ⟨g1,g2⟩:=hwe.1 h
 have h0:=hyes ⟨c1,rfl,rfl,by rw [g1],g2⟩
 have hy2:y <= 1024:=by
  rcases Nat.lt_or_ge 1024 y with g | g
  ·rw [sizS_bad (Or.inr (by omega))] at hs;omega
  ·exact g
 repeat (refine sd ?_)
 refine fun c5 hc5=>?_
 repeat (refine sd ?_)
 refine Ret.ghost [.keep 69] [(6,0)] rfl ?_ rfl (.tup [.isl 0 y 1 [(y,.a8 b)],.tt]) [(1003,.mem false 0 [(n,.a8 S)]),(1000,.mem false 0 [(1,.slx 1001 0 0 N)]),(1001,.mem false 0 [(N * 2,.arr N 2 (rtF T))])] [] rfl ?_ (Or.inr ⟨b,y,h0,hy,hy2,rfl,rfl⟩) rfl ?_ rfl ?_ rfl
 ·exact fc
 ·exact fc
 ·repeat' (first | (show zA _;first | exact trivial | refine zA.app ?_ ?_ | refine zA.zd ?_ ?_ | refine zA.cons ?_ ?_) | exact fd | fail)
  all_goals (show b = List.take b.length (List.drop 0 b);rw [List.drop_zero,List.take_length])
 ·exact fc
end Go.Proofs.YtfnmgbillkiabaaGreat
