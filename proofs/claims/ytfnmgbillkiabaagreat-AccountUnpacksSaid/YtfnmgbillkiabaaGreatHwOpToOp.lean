/- What the functions of the program compute. No condition. -/
import Derived.Test.YtfnmgbillkiabaaGreatHwCh11ToSz
import Derived.Test.YtfnmgbillkiabaaGreatHwTbToCh10
import Derived.Test.YtfnmgbillkiabaaGreatHwOfToOf
set_option linter.unusedSimpArgs false
set_option linter.unusedVariables false
set_option maxRecDepth 100000
namespace Go.Proofs.YtfnmgbillkiabaaGreat
open Go Go.Sx
def opn (T:List Te) (N:Nat) (key S:List UInt8):Option (List UInt8):=
 match numP (S.take 32) N 0 with
 | 0=>none
 | q + 1=>if (T.getD q te0).1 = 8/\(T.getD q te0).2.length = 2/\(T.getD q te0).2.getD 0 [] = key/\sizS ((T.getD q te0).2.getD 1 []).length = S.length/\S.drop 32 = List.replicate (S.length - 32) 0 then some ((T.getD q te0).2.getD 1 []) else none
theorem opn_zero {T:List Te} {N:Nat} {key S:List UInt8} (h:numP (S.take 32) N 0 = 0):opn T N key S = none:=by unfold opn;rw [h]
theorem opn_no {T:List Te} {N:Nat} {key S:List UInt8} {q:Nat} (h:numP (S.take 32) N 0 = q + 1) (hn:¬ ((T.getD q te0).1 = 8/\(T.getD q te0).2.length = 2/\(T.getD q te0).2.getD 0 [] = key/\sizS ((T.getD q te0).2.getD 1 []).length = S.length/\S.drop 32 = List.replicate (S.length - 32) 0)):opn T N key S = none:=by unfold opn;rw [h];exact if_neg hn
theorem opn_yes {T:List Te} {N:Nat} {key S:List UInt8} {q:Nat} (h:numP (S.take 32) N 0 = q + 1) (hn:(T.getD q te0).1 = 8/\(T.getD q te0).2.length = 2/\(T.getD q te0).2.getD 0 [] = key/\sizS ((T.getD q te0).2.getD 1 []).length = S.length/\S.drop 32 = List.replicate (S.length - 32) 0):opn T N key S = some ((T.getD q te0).2.getD 1 []):=by unfold opn;rw [h];exact if_pos hn
theorem opn_short {T:List Te} {N:Nat} {key S:List UInt8} (h:S.length < 32):opn T N key S = none:=by
 refine opn_zero ?_
 rw [numP_eq,if_neg]
 rintro ⟨h1,_⟩
 rw [zlT] at h1
 omega
theorem sizS_le {n:Int}:sizS n <= 1056:=by
 by_cases h:n < 0 \/ 1024 < n
 ·rw [sizS_bad h];decide
 ·rw [sizS_ok (by omega) (by omega)];omega
theorem opn_long {T:List Te} {N:Nat} {key S:List UInt8} (h:1056 < S.length):opn T N key S = none:=by
 cases hq:numP (S.take 32) N 0 with
 | zero=>exact opn_zero hq
 | succ q=>
  refine opn_no hq ?_
  rintro ⟨_,_,_,h4,_⟩
  have:=sizS_le (n:=((T.getD q te0).2.getD 1 []).length)
  omega
theorem takeK {S:List UInt8} {n:Nat} (hn:S.length = n) (h:32 <= n):S.take 32 = List.take 0 (List.replicate 32 (0:UInt8)) ++ List.take (min S.length 32) S ++ List.drop (0 + min S.length 32) (List.replicate 32 0):=by
 rw [hn,Nat.min_eq_right h,List.take_zero,List.nil_append,Nat.zero_add,List.drop_replicate,Nat.sub_self,List.replicate_zero,List.append_nil]
theorem zerosL {S:List UInt8} (h:∀ i,i < S.length - 32->S.getD (32 + i) 0 = 0):S.drop 32 = List.replicate (S.length - 32) 0:=by
 apply List.ext_getElem (by simp)
 intro i h1 h2
 have h3:i < S.length - 32:=by simpa using h1
 have:=h i h3
 rw [List.getD_eq_getElem?_getD,List.getElem?_eq_getElem (by omega)] at this
 simpa using this
theorem zerosN {S:List UInt8} {i:Nat} (hi:i < S.length - 32) (h:¬ S.getD (32 + i) 0 = 0):S.drop 32 ≠ List.replicate (S.length - 32) 0:=by
 intro e
 apply h
 have h2:(S.drop 32).getD i 0 = 0:=by
  rw [e,List.getD_eq_getElem?_getD,List.getElem?_replicate,if_pos hi];rfl
 rw [List.getD_eq_getElem?_getD,List.getElem?_drop] at h2
 rw [List.getD_eq_getElem?_getD]
 exact h2
set_option maxHeartbeats 4000000 in
theorem fnOpenF (T:List Te) (N:Nat) (hT:T.length = N) (hN:N <= 60000) (hTv:∀ x ∈ T,Valid x.1 x.2) (key S:List UInt8) (n:Nat) (hk:key.length = 32) (hn:S.length = n) (hn1:n <= 1000000) :
  Sx.Fn Γ.P 41 [.agg [(1,.ptr 1000 0 none)],.a8 key,.slx 1003 0 0 n] [(1003,.mem false 0 [(n,.a8 S)]),(1000,.mem false 0 [(1,.slx 1001 0 0 N),(1,.mp 1002)]),(1001,.mem false 0 [(N * 3,.arr N 3 (ttF T))]),(1002,.dead)]
  (fun v M=>(opn T N key S = none/\v = .tup [.nsl,.ff]/\M = [(1003,.mem false 0 [(n,.a8 S)]),(1000,.mem false 0 [(1,.slx 1001 0 0 N),(1,.mp 1002)]),(1001,.mem false 0 [(N * 3,.arr N 3 (ttF T))]),(1002,.dead)]) \/
   ∃ p k,opn T N key S = some p/\p.length = k/\k <= 1024/\v = .tup [.isl 0 k 1 [(k,.a8 p)],.tt]/\M = [(1003,.mem false 0 [(n,.a8 S)]),(1000,.mem false 0 [(1,.slx 1001 0 0 N),(1,.mp 1002)]),(1001,.mem false 0 [(N * 3,.arr N 3 (ttF T))]),(1002,.dead)]):=by
 have hSx:=fn86 1024
 rw [sizS_ok (by omega) (by omega),show (1024:Int) / 16 * 16 + 32 = 1056 by rfl] at hSx
 refine fn_of (Γ:=Γ) (fn:=Tryz.f41) rfl rfl rfl rfl ?_
 repeat (refine sd ?_)
 refine zB.intro (fun hc=>?_) (fun hc=>?_)
 ·have hc:(n:Int) < 32:=hc
  have h0:opn T N key S = none:=opn_short (by omega)
  repeat (first | (refine zB.intro (fun _=>?_) (fun hn=>absurd rfl hn)) | (refine ky0 ?_) | (refine kn0 ?_) | (refine sd ?_))
  refine Ret.intro (.tup [.nsl,.ff]) [(1003,.mem false 0 [(n,.a8 S)]),(1000,.mem false 0 [(1,.slx 1001 0 0 N),(1,.mp 1002)]),(1001,.mem false 0 [(N * 3,.arr N 3 (ttF T))]),(1002,.dead)] [] rfl ?_ (Or.inl ⟨h0,rfl,rfl⟩) rfl ?_ rfl ?_ rfl
  ·exact fc
  ·exact fc
  ·exact fc
 have hc:¬ (n:Int) < 32:=hc
 repeat (refine sd ?_)
 refine Call.pure hSx rfl fc ?_
 intro v hv
 subst hv
 repeat (refine sd ?_)
 refine zB.intro (fun hc2=>?_) (fun hc2=>?_)
 ·have hc2:(n:Int) > 1056:=hc2
  have h0:opn T N key S = none:=opn_long (by omega)
  repeat (refine sd ?_)
  refine Ret.intro (.tup [.nsl,.ff]) [(1003,.mem false 0 [(n,.a8 S)]),(1000,.mem false 0 [(1,.slx 1001 0 0 N),(1,.mp 1002)]),(1001,.mem false 0 [(N * 3,.arr N 3 (ttF T))]),(1002,.dead)] [] rfl ?_ (Or.inl ⟨h0,rfl,rfl⟩) rfl ?_ rfl ?_ rfl
  ·exact fc
  ·exact fc
  ·exact fc
 have hc2:¬ (n:Int) > 1056:=hc2
 have eK:=takeK hn (by omega)
 obtain ⟨K,hK⟩:∃ K,S.take 32 = K:=⟨_,rfl⟩
 have hKl:K.length = 32:=by rw [<- hK,zlT];omega
 have hOf:=fn87 T N hT hN hTv K hKl
 rw [hK] at eK
 have eD:List.take n (List.drop 0 S) = S:=by rw [List.drop_zero,List.take_of_length_le (by omega)]
 have eT:List.take 32 key = key:=List.take_of_length_le (by omega)
 repeat (refine sd ?_)
 refine zB.intro (fun _=>?_) (fun hn=>absurd hn (by simp))
 repeat (refine sd ?_)
 refine Call.intro hOf [(1000,(1000,0,none)),(1001,(1001,0,none)),(1002,(1002,0,none)),(1005,(305,0,none))] rfl ?_ rfl ?_ rfl ?_
 ·repeat' (first | (show zA _;first | exact trivial | refine zA.app ?_ ?_ | refine zA.zd ?_ ?_ | refine zA.cons ?_ ?_) | exact fd | fail)
  all_goals (rw [eD];exact eK)
 ·exact fc
 rintro v M' (⟨hz,rfl,rfl⟩ | ⟨q,L,k,c,h1,h2,h3,h4,h5,rfl,rfl⟩)
 ·have h0:opn T N key S = none:=opn_zero (by rw [hK];exact hz)
  dsimp only [zt,zM,zE,ren,zz,zx,zy,look,zG,zX,ev,evL,zV,zcT,zcF,act,zP,zO,Ent.zW]
  repeat (refine sd ?_)
  refine Draw.intro [[],[0],[0,1],[0,1,2],[0,1,2,3],[0,1,2,3,4],[0,1,2,3,4,5],[0,1,2,3,4,5,6],[0,1,2,3,4,5,6,7],[0,1,2,3,4,5,6,7,8],[0,1,2,3,4,5,6,7,8,9],[0,1,2,3,4,5,6,7,8,9,10],[0,1,2,3,4,5,6,7],[0,1,2,3,4,5,6,7,12],[0,1,2,3,4,5,6,7,8,9,10,11,12,13],[0,1,2,3,4,5,6,7,8,9,10,11,12,13,14],[0,1,2,3,4,5,6,7,8,9,10,11,12,13,14,15],[0,1,2,3,4,5,6,7,8,9,10,11,12,13,14,15,16],[0,1,2,3,4,5,6,7,8,9,10,11,12,13,14,15,16,17],[0,1,2,3,4,5,6,7,8,9,10,11,12,13,14,15,16],[0,1,2,3,4,5,6,7,8,9,10,11,12,13,14,15,16,19],[0,1,2,3,4,5,6,7,8,9,10,11,12,13,14,15,16,19,20],[0,1,2,3,4,5,6,7,8,9,10,11,12,13,14,15,16,19,20,21],[0,1,2,3,4,5,6,7,8,9,10,11,12,13,14,15,16,19,20,21,22],[0,1,2,3,4,5,6,7,8,9,10,11,12,13,14,15,16,17,18,19,20,21,22,23],[0,1,2,3,4,5,6,7,8,9,10,11,12,13,14,15,16,17,18,19,20,21,22,23,24]] [0,1,2,3,4,5,6,7,8,9,10,11,12,13,14,15,16,17,18,19,20,21,22,23,24,25] (by kernel_rfl) ?_
  repeat (first | (refine zB.intro (fun h=>False.elim (by revert h;first | (simp ;done) | fail)) (fun _=>?_)) | (refine zB.intro (fun _=>?_) (fun h=>False.elim (by revert h;first | (simp ;done) | fail))) | (refine sd ?_))
  refine Ret.intro (.tup [.nsl,.ff]) [(1003,.mem false 0 [(n,.a8 S)]),(1000,.mem false 0 [(1,.slx 1001 0 0 N),(1,.mp 1002)]),(1001,.mem false 0 [(N * 3,.arr N 3 (ttF T))]),(1002,.dead)] [] rfl ?_ (Or.inl ⟨h0,rfl,rfl⟩) rfl ?_ rfl ?_ rfl
  ·exact fc
  ·exact fc
  ·exact fc
 have hno:=opn_no (T:=T) (key:=key) (S:=S) (q:=q) (by rw [hK];exact h1)
 have hyes:=opn_yes (T:=T) (key:=key) (S:=S) (q:=q) (by rw [hK];exact h1)
 have hV:=hTv _ (getD_mem te0 (L:=T) (i:=q) (by omega))
 obtain ⟨x,hx⟩:∃ x,T.getD q te0 = x:=⟨_,rfl⟩
 rw [hx] at hno hyes hV h3 ⊢
 obtain rfl:x.2 = L:=h3
 clear hOf hSx eK
 dsimp only [zt,zM,zE,ren,zz,zx,zy,look,zG,zX,ev,evL,zV,zcT,zcF,act,zP,zO,Ent.zW]
 repeat (refine sd ?_)
 by_cases c1:¬ x.1 = 8
 ·have h0:=hno (fun h=>c1 h.1)
  refine Draw.intro [[],[0],[0,1],[0,1,2],[0,1,2,3],[0,1,2,3,4],[0,1,2,3,4,5],[0,1,2,3,4,5,6],[0,1,2,3,4,5,6,7],[0,1,2,3,4,5,6,7,8],[0,1,2,3,4,5,6,7,8,9],[0,1,2,3,4,5,6,7,8,9,10],[0,1,2,3,4,5,6,7],[0,1,2,3,4,5,6,7,12],[0,1,2,3,4,5,6,7,8,9,10,11,12,13],[0,1,2,3,4,5,6,7,8,9,10,11,12,13,14],[0,1,2,3,4,5,6,7,8,9,10,11,12,13,14,15],[0,1,2,3,4,5,6,7,8,9,10,11,12,13,14,15,16],[0,1,2,3,4,5,6,7,8,9,10,11,12,13,14,15,16,17],[0,1,2,3,4,5,6,7,8,9,10,11,12,13,14,15,16],[0,1,2,3,4,5,6,7,8,9,10,11,12,13,14,15,16,19],[0,1,2,3,4,5,6,7,8,9,10,11,12,13,14,15,16,19,20],[0,1,2,3,4,5,6,7,8,9,10,11,12,13,14,15,16,19,20,21],[0,1,2,3,4,5,6,7,8,9,10,11,12,13,14,15,16,19,20,21,22],[0,1,2,3,4,5,6,7,8,9,10,11,12,13,14,15,16,17,18,19,20,21,22,23],[0,1,2,3,4,5,6,7,8,9,10,11,12,13,14,15,16,17,18,19,20,21,22,23,24]] [0,1,2,3,4,5,6,7,8,9,10,11,12,13,14,15,16,17,18,19,20,21,22,23,24,25] (by kernel_rfl) ?_
  repeat (first | (refine zB.intro (fun h=>False.elim (by revert h;first | (simp [c1];done) | fail)) (fun _=>?_)) | (refine zB.intro (fun _=>?_) (fun h=>False.elim (by revert h;first | (simp [c1];done) | fail))) | (refine sd ?_))
  refine Ret.intro (.tup [.nsl,.ff]) [(1003,.mem false 0 [(n,.a8 S)]),(1000,.mem false 0 [(1,.slx 1001 0 0 N),(1,.mp 1002)]),(1001,.mem false 0 [(N * 3,.arr N 3 (ttF T))]),(1002,.dead)] [] rfl ?_ (Or.inl ⟨h0,rfl,rfl⟩) rfl ?_ rfl ?_ rfl
  ·exact fc
  ·exact fc
  ·exact fc
 have c1:x.1 = 8:=Classical.not_not.1 c1
 by_cases c2:¬ k = 2
 ·have h0:=hno (fun h=>c2 (by rw [<- h4];exact h.2.1))
  have c2':¬ ((k:Nat):Int) = 2:=by omega
  refine Draw.intro [[],[0],[0,1],[0,1,2],[0,1,2,3],[0,1,2,3,4],[0,1,2,3,4,5],[0,1,2,3,4,5,6],[0,1,2,3,4,5,6,7],[0,1,2,3,4,5,6,7,8],[0,1,2,3,4,5,6,7,8,9],[0,1,2,3,4,5,6,7,8,9,10],[0,1,2,3,4,5,6,7],[0,1,2,3,4,5,6,7,12],[0,1,2,3,4,5,6,7,8,9,10,11,12,13],[0,1,2,3,4,5,6,7,8,9,10,11,12,13,14],[0,1,2,3,4,5,6,7,8,9,10,11,12,13,14,15],[0,1,2,3,4,5,6,7,8,9,10,11,12,13,14,15,16],[0,1,2,3,4,5,6,7,8,9,10,11,12,13,14,15,16,17],[0,1,2,3,4,5,6,7,8,9,10,11,12,13,14,15,16],[0,1,2,3,4,5,6,7,8,9,10,11,12,13,14,15,16,19],[0,1,2,3,4,5,6,7,8,9,10,11,12,13,14,15,16,19,20],[0,1,2,3,4,5,6,7,8,9,10,11,12,13,14,15,16,19,20,21],[0,1,2,3,4,5,6,7,8,9,10,11,12,13,14,15,16,19,20,21,22],[0,1,2,3,4,5,6,7,8,9,10,11,12,13,14,15,16,17,18,19,20,21,22,23],[0,1,2,3,4,5,6,7,8,9,10,11,12,13,14,15,16,17,18,19,20,21,22,23,24]] [0,1,2,3,4,5,6,7,8,9,10,11,12,13,14,15,16,17,18,19,20,21,22,23,24,25] (by kernel_rfl) ?_
  repeat (first | (refine zB.intro (fun h=>False.elim (by revert h;first | (simp [c1,c2,c2'];done) | fail)) (fun _=>?_)) | (refine zB.intro (fun _=>?_) (fun h=>False.elim (by revert h;first | (simp [c1,c2,c2'];done) | fail))) | (refine sd ?_))
  refine Ret.intro (.tup [.nsl,.ff]) [(1003,.mem false 0 [(n,.a8 S)]),(1000,.mem false 0 [(1,.slx 1001 0 0 N),(1,.mp 1002)]),(1001,.mem false 0 [(N * 3,.arr N 3 (ttF T))]),(1002,.dead)] [] rfl ?_ (Or.inl ⟨h0,rfl,rfl⟩) rfl ?_ rfl ?_ rfl
  ·exact fc
  ·exact fc
  ·exact fc
 have c2:k = 2:=Classical.not_not.1 c2
 subst c2
 obtain ⟨a,b,hab⟩:∃ a b,x.2 = [a,b]:=by
  match hL:x.2,h4 with
  | [a,b],_=>exact ⟨a,b,rfl⟩
 have hbl:b.length <= 4096:=hV.1.2 b (by rw [hab];simp)
 rw [hab] at hno hyes hV ⊢
 have e0:([a,b]:List (List UInt8)).getD 0 [] = a:=rfl
 have e1:([a,b]:List (List UInt8)).getD 1 [] = b:=rfl
 rw [e0,e1] at hno hyes
 have f0:([a,b]:List (List UInt8))[addQ (addI none 0) (Ix.lit 0).val]?.getD [] = a:=rfl
 have f1:([a,b]:List (List UInt8))[addQ (addI none 0) (Ix.lit 1).val]?.getD [] = b:=rfl
 obtain ⟨y,hy⟩:∃ y,b.length = y:=⟨_,rfl⟩
 have hSb:=fn86 (y:Int)
 rw [hy] at hno hyes
 by_cases c3:¬ a = key
 ·have h0:=hno (fun h=>c3 h.2.2.1)
  refine Draw.intro [[],[0],[0,1],[0,1,2],[0,1,2,3],[0,1,2,3,4],[0,1,2,3,4,5],[0,1,2,3,4,5,6],[0,1,2,3,4,5,6,7],[0,1,2,3,4,5,6,7,8],[0,1,2,3,4,5,6,7,8,9],[0,1,2,3,4,5,6,7,8,9,10],[0,1,2,3,4,5,6,7],[0,1,2,3,4,5,6,7,12],[0,1,2,3,4,5,6,7,8,9,10,11,12,13],[0,1,2,3,4,5,6,7,8,9,10,11,12,13,14],[0,1,2,3,4,5,6,7,8,9,10,11,12,13,14,15],[0,1,2,3,4,5,6,7,8,9,10,11,12,13,14,15,16],[0,1,2,3,4,5,6,7,8,9,10,11,12,13,14,15,16,17],[0,1,2,3,4,5,6,7,8,9,10,11,12,13,14,15,16],[0,1,2,3,4,5,6,7,8,9,10,11,12,13,14,15,16,19],[0,1,2,3,4,5,6,7,8,9,10,11,12,13,14,15,16,19,20],[0,1,2,3,4,5,6,7,8,9,10,11,12,13,14,15,16,19,20,21],[0,1,2,3,4,5,6,7,8,9,10,11,12,13,14,15,16,19,20,21,22],[0,1,2,3,4,5,6,7,8,9,10,11,12,13,14,15,16,17,18,19,20,21,22,23],[0,1,2,3,4,5,6,7,8,9,10,11,12,13,14,15,16,17,18,19,20,21,22,23,24]] [0,1,2,3,4,5,6,7,8,9,10,11,12,13,14,15,16,17,18,19,20,21,22,23,24,25] (by kernel_rfl) ?_
  repeat (first | (refine zB.intro (fun h=>False.elim (by revert h;first | (simp [c1,c3,eT,f0,f1];done) | fail)) (fun _=>?_)) | (refine zB.intro (fun _=>?_) (fun h=>False.elim (by revert h;first | (simp [c1,c3,eT,f0,f1];done) | fail))) | (refine sd ?_))
  refine Ret.intro (.tup [.nsl,.ff]) [(1003,.mem false 0 [(n,.a8 S)]),(1000,.mem false 0 [(1,.slx 1001 0 0 N),(1,.mp 1002)]),(1001,.mem false 0 [(N * 3,.arr N 3 (ttF T))]),(1002,.dead)] [] rfl ?_ (Or.inl ⟨h0,rfl,rfl⟩) rfl ?_ rfl ?_ rfl
  ·exact fc
  ·exact fc
  ·exact fc
 have c3:a = key:=Classical.not_not.1 c3
 subst c3
 refine Draw.intro [[],[0],[0,1],[0,1,2],[0,1,2,3],[0,1,2,3,4],[0,1,2,3,4,5],[0,1,2,3,4,5,6],[0,1,2,3,4,5,6,7],[0,1,2,3,4,5,6,7,8],[0,1,2,3,4,5,6,7,8,9],[0,1,2,3,4,5,6,7,8,9,10],[0,1,2,3,4,5,6,7],[0,1,2,3,4,5,6,7,12],[0,1,2,3,4,5,6,7,8,9,10,11,12,13],[0,1,2,3,4,5,6,7,8,9,10,11,12,13,14],[0,1,2,3,4,5,6,7,8,9,10,11,12,13,14,15],[0,1,2,3,4,5,6,7,8,9,10,11,12,13,14,15,16],[0,1,2,3,4,5,6,7,8,9,10,11,12,13,14,15,16,17],[0,1,2,3,4,5,6,7,8,9,10,11,12,13,14,15,16],[0,1,2,3,4,5,6,7,8,9,10,11,12,13,14,15,16,19],[0,1,2,3,4,5,6,7,8,9,10,11,12,13,14,15,16,19,20],[0,1,2,3,4,5,6,7,8,9,10,11,12,13,14,15,16,19,20,21],[0,1,2,3,4,5,6,7,8,9,10,11,12,13,14,15,16,19,20,21,22],[0,1,2,3,4,5,6,7,8,9,10,11,12,13,14,15,16,17,18,19,20,21,22,23],[0,1,2,3,4,5,6,7,8,9,10,11,12,13,14,15,16,17,18,19,20,21,22,23,24]] [0,1,2,3,4,5,6,7,8,9,10,11,12,13,14,15,16,17,18,19,20,21,22,23,24,25] (by kernel_rfl) ?_
 repeat (first | (refine zB.intro (fun h=>False.elim (by revert h;first | (simp [c1,eT,f0,f1];done) | fail)) (fun _=>?_)) | (refine zB.intro (fun _=>?_) (fun h=>False.elim (by revert h;first | (simp [c1,eT,f0,f1];done) | fail))) | (refine sd ?_))
 refine Call.pure hSb rfl ?_ ?_
 ·repeat' (first | (show zA _;first | exact trivial | refine zA.app ?_ ?_ | refine zA.zd ?_ ?_ | refine zA.cons ?_ ?_) | exact fd | fail)
  all_goals (show (y:Int) = ((b.length:Nat):Int);rw [hy])
 intro v hv
 subst hv
 refine Grow.auto rfl rfl ?_
 by_cases c4:¬ sizS y = n
 ·have h0:=hno (fun h=>c4 (by rw [<- hn];exact h.2.2.2.1))
  have c4':¬ (n:Int) = sizS y:=fun h=>c4 h.symm
  repeat (first | (refine zB.intro (fun h=>False.elim (by revert h;first | (simp [c1,eT,f0,f1,c4,c4'];done) | fail)) (fun _=>?_)) | (refine zB.intro (fun _=>?_) (fun h=>False.elim (by revert h;first | (simp [c1,eT,f0,f1,c4,c4'];done) | fail))) | (refine sd ?_))
  refine Ret.intro (.tup [.nsl,.ff]) [(1003,.mem false 0 [(n,.a8 S)]),(1000,.mem false 0 [(1,.slx 1001 0 0 N),(1,.mp 1002)]),(1001,.mem false 0 [(N * 3,.arr N 3 (ttF T))]),(1002,.dead)] [] rfl ?_ (Or.inl ⟨h0,rfl,rfl⟩) rfl ?_ rfl ?_ rfl
  ·exact fc
  ·exact fc
  ·exact fc
 have c4:sizS y = n:=Classical.not_not.1 c4
 rw [c4]
 repeat (first | (refine zB.intro (fun h=>False.elim (by revert h;first | (simp [c1,eT,f0,f1,c4];done) | fail)) (fun _=>?_)) | (refine zB.intro (fun _=>?_) (fun h=>False.elim (by revert h;first | (simp [c1,eT,f0,f1,c4];done) | fail))) | (refine sd ?_))
 clear hSb
 refine Loop.intro (σ:=Nat) (fun i=>i <= n - 32/\∀ j,j < i->S.getD (32 + j) 0 = 0)
  (fun i=>([(10,.sl 305 0 0 2 c),(70,.slx 1003 0 32 (n - 32)),(71,.i .i64 ((n - 32:Nat):Int)),(72,.i .i64 (i:Int))],
   [(1003,.mem false 0 [(n,.a8 S)]),(1000,.mem false 0 [(1,.slx 1001 0 0 N),(1,.mp 1002)]),(1001,.mem false 0 [(N * 3,.arr N 3 (ttF T))]),(1002,.dead),(305,.mem true (c - 2) [(2 * 1,.arr 2 1 (rwF [a,b]))])]))
  (fun i=>n - 32 - i) 0 ⟨Nat.zero_le _,fun j hj=>absurd hj (Nat.not_lt_zero _)⟩ ?_ ?_
 ·refine Le.intro [] rfl ?_ rfl ?_ rfl
  ·exact fc
  ·exact fc
 rintro i ⟨hi,hz⟩
 have hi:i <= n - 32:=hi
 have hz:∀ j,j < i->S.getD (32 + j) 0 = 0:=hz
 refine zB.intro (fun hc=>?_) (fun hc=>?_)
 ·have hc:(i:Int) < ((n - 32:Nat):Int):=hc
  repeat (refine sdn ?_)
  refine zB.intro (fun h=>?_) (fun h=>?_)
  ·have h:¬ S.getD (addQ 32 (i:Int).toNat) 0 = UInt8.ofNat 0:=h
   rw [zQ,zIn] at h
   have h0:=hno (fun g=>zerosN (S:=S) (i:=i) (by omega) h g.2.2.2.2)
   repeat (refine sd ?_)
   refine Ret.intro (.tup [.nsl,.ff]) [(1003,.mem false 0 [(n,.a8 S)]),(1000,.mem false 0 [(1,.slx 1001 0 0 N),(1,.mp 1002)]),(1001,.mem false 0 [(N * 3,.arr N 3 (ttF T))]),(1002,.dead)] [] rfl ?_ (Or.inl ⟨h0,rfl,rfl⟩) rfl ?_ rfl ?_ rfl
   ·exact fc
   ·exact fc
   ·exact fc
  ·have h:¬ ¬ S.getD (addQ 32 (i:Int).toNat) 0 = UInt8.ofNat 0:=h
   rw [zQ,zIn] at h
   have h:S.getD (32 + i) 0 = 0:=Classical.not_not.1 h
   repeat (refine sdn ?_)
   refine ⟨i + 1,⟨by show i + 1 <= n - 32;omega,fun j hj=>?_⟩,by show n - 32 - (i + 1) < n - 32 - i;omega,Le.intro [] rfl ?_ rfl ?_ rfl⟩
   ·rcases Nat.lt_or_ge j i with g | g
    ·exact hz j g
    ·obtain rfl:j = i:=by have hj:j < i + 1:=hj;omega
     exact h
   ·exact fc
   ·exact fc
 ·have hc:¬ (i:Int) < ((n - 32:Nat):Int):=hc
  obtain rfl:i = n - 32:=by omega
  have hy2:y <= 1024:=by
   rcases Nat.lt_or_ge 1024 y with g | g
   ·rw [sizS_bad (Or.inr (by omega))] at c4;omega
   ·exact g
  have h0:=hyes ⟨c1,rfl,rfl,by rw [c4,hn],zerosL (by rw [hn];exact hz)⟩
  repeat (refine sd ?_)
  refine Ret.intro (.tup [.isl 0 y 1 [(y,.a8 b)],.tt]) [(1003,.mem false 0 [(n,.a8 S)]),(1000,.mem false 0 [(1,.slx 1001 0 0 N),(1,.mp 1002)]),(1001,.mem false 0 [(N * 3,.arr N 3 (ttF T))]),(1002,.dead)] [] rfl ?_ (Or.inr ⟨b,y,h0,hy,hy2,rfl,rfl⟩) rfl ?_ rfl ?_ rfl
  ·exact fc
  ·repeat' (first | (show zA _;first | exact trivial | refine zA.app ?_ ?_ | refine zA.zd ?_ ?_ | refine zA.cons ?_ ?_) | exact fd | fail)
   all_goals first | exact hy.symm | (show y = b.length * 1;omega)
  ·exact fc
end Go.Proofs.YtfnmgbillkiabaaGreat
