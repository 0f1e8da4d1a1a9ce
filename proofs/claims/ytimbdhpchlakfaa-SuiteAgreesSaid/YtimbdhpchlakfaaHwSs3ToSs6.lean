/- What the functions of the program compute. No condition. -/
import Derived.Test.YtimbdhpchlakfaaHwMac4ToSs2
import Derived.Test.YtimbdhpchlakfaaHwOfToSs4
set_option linter.unusedSimpArgs false
set_option linter.unusedVariables false
namespace Go.Proofs.Ytimbdhpchlakfaa
open Go Go.Sx
theorem eq_app {A B X:List UInt8} {n:Nat} (h:X = A ++ B) (hA:A.length = n):X.take n = A∧X.drop n = B:=by
 subst h;subst hA;exact ⟨List.take_left' rfl,List.drop_left' rfl⟩
set_option maxRecDepth 100000 in
set_option maxHeartbeats 1000000 in
theorem fnOpenR (key plain:List UInt8) (n m:Nat) (hk:key.length = 32) (hn:plain.length = n) (hn1:n ≤ 1024) (hm:n / 16 * 16 + 32 = m) :
  Sx.Fn Γ.P 11 [.agg [(1,.nilp)],.a8 key,.slx 1003 0 0 m] [(1003,.mem false 0 [(m,.a8 (seB key plain))])]
  (fun v M=>∃ n0 U sp,U.take n = plain∧n ≤ n0∧U.length = n0∧v = .tup [.sl 1006 0 0 n n,.tt]∧M = [(1003,.mem false 0 [(m,.a8 (seB key plain))]),(1006,.mem true sp [(n0,.a8 U)])]):=by
 have hkl:=kyA_length key
 have hgl:=kyG_length key
 have hsl:=kyS_length key
 obtain ⟨N,hN⟩:∃ N,n / 16 * 16 + 16 = N:=⟨_,rfl⟩
 have hNm:N + 16 = m:=by omega
 have hBl:=seB_length (key:=key) hn
 have hX:=seB_eq key plain
 have hXl:=cbcLock_len (key:=kyA key) (plain:=plain) hgl hn
 have hb:=cbc_back hkl hgl plain
 obtain ⟨X,hXe⟩:∃ X,cbcLock (kyA key) (kyG key) plain = X:=⟨_,rfl⟩
 rw [hXe] at hX hXl hb
 rw [hN] at hXl
 rw [hm] at hBl
 obtain ⟨S,hS⟩:∃ S,seB key plain = S:=⟨_,rfl⟩
 rw [hS] at hX hBl ⊢
 obtain ⟨hT,hD⟩:=eq_app hX hXl
 have hml:=hmac_length (kyS key) X
 have hU:=fn24 (kyA key) (kyG key) X N hkl hgl hXl (by omega)
 unfold unPost at hU
 rw [hb] at hU
 have hM:=fn22 (kyS key) X 32 N hsl hXl (by omega) (by omega)
 have hSz:=fn12 1024
 rw [sizS_ok (by omega) (by omega),show (1024:Int) / 16 * 16 + 32 = 1056 by rfl] at hSz
 have hSa:=fn23 ((hmac (kyS key) X).take 16) ((hmac (kyS key) X).take 16) 16 16 (by rw [List.length_take,hml];rfl) (by rw [List.length_take,hml];rfl) (by omega)
 refine fn_of (Γ:=Γ) (fn:=Try.f11) rfl rfl rfl rfl ?_
 repeat (refine sd ?_)
 refine Branch.intro (fun hc=>?_) (fun _=>?_)
 ·have hc:(m:Int) < 32:=hc
  exact absurd hc (by omega)
 repeat (refine sd ?_)
 refine Call.pure hSz rfl fc ?_
 intro v hv
 subst hv
 repeat (refine sd ?_)
 refine Branch.intro (fun hc=>?_) (fun _=>?_)
 ·have hc:(m:Int) > 1056:=hc
  exact absurd hc (by omega)
 repeat (refine sd ?_)
 refine Branch.intro (fun hn=>absurd trivial hn) (fun _=>?_)
 repeat (refine sd ?_)
 refine Call.intro (fn20 key hk) [] rfl fc rfl trivial rfl ?_
 rintro v M' ⟨rfl,rfl⟩
 dsimp only [putT,afterM,newEnt,ren,renA,renS,renL,look,getM,getT,ev,evL,ofVal,cond_true,cond_false,Nat.beq_eq,act,isPar,ownPar,Ent.isOwn]
 repeat (refine sd ?_)
 refine Draw.intro [[],[],[1],[1,2],[],[4],[4,5],[0,1,2,3,4,5,6],[],[],[9],[9,10],[8,9,10,11],[0,1,2,3,4,5,6,7],[0,1,2,3,4,5,6,7,8,9,10,11,12,13]] [0,1,2,3,4,5,6,7,8,9,10,11,12,13,14] (by kernel_rfl) ?_
 repeat (refine sd ?_)
 have eT:X = List.take N (List.drop 0 S):=by rw [List.drop_zero,hT]
 have eQ:(hmac (kyS key) X).take 16 = List.take 16 (List.drop 0 (hmac (kyS key) X)):=by rw [List.drop_zero]
 have eD:(hmac (kyS key) X).take 16 = List.take 16 (List.drop N S):=by
  rw [hD];rw [List.take_of_length_le (l:=(hmac (kyS key) X).take 16)];rw [List.length_take,hml];exact Nat.le_refl _
 refine Call.intro hM [(1000,(15,0,none)),(1001,(1003,0,some 0))] rfl fc rfl ?_ rfl ?_
 ·exact fc
 rintro v M' ⟨rfl,rfl⟩
 dsimp only [putT,afterM,newEnt,ren,renA,renS,renL,look,getM,getT,ev,evL,ofVal,cond_true,cond_false,Nat.beq_eq,act,isPar,ownPar,Ent.isOwn]
 repeat (refine sd ?_)
 refine Call.intro hSa [(1000,(19,0,some 0)),(1001,(1003,0,some N))] rfl ?_ rfl ?_ rfl ?_
 ·exact fc
 ·exact fc
 rintro v M' ⟨rfl,rfl⟩
 dsimp only [putT,afterM,newEnt,ren,renA,renS,renL,look,getM,getT,ev,evL,ofVal,cond_true,cond_false,Nat.beq_eq,act,isPar,ownPar,Ent.isOwn]
 repeat (refine sd ?_)
 refine Branch.intro (fun hc=>absurd rfl hc) (fun _=>?_)
 repeat (refine sd ?_)
 refine Call.intro hU [(1000,(1003,0,some 0)),(1001,(301,0,none))] rfl ?_ rfl ?_ rfl ?_
 ·exact fc
 ·exact fc
 rintro v M' (⟨hc,_⟩ | ⟨n1,s,sp,h1,h2,h3,h4,h5,rfl,rfl⟩)
 ·cases hc
 cases h1
 rw [hn] at h2
 subst h2
 dsimp only [putT,afterM,newEnt,ren,renA,renS,renL,look,getM,getT,ev,evL,ofVal,cond_true,cond_false,Nat.beq_eq,act,isPar,ownPar,Ent.isOwn]
 repeat (refine sd ?_)
 refine Ret.intro (.tup [.sl 1006 0 0 n n,.tt]) [(1003,.mem false 0 [(m,.a8 S)]),(1006,.mem true sp [(N,.a8 (unOut (kyA key) (kyG key) X))])] [(1006,(301,0,none))] rfl ?_ ⟨N,_,sp,h3,h4,h5,rfl,rfl⟩ rfl ?_ rfl ?_ rfl
 ·exact fc
 ·exact fc
 ·exact fc
end Go.Proofs.Ytimbdhpchlakfaa
namespace Go.Proofs.Ytimbdhpchlakfaa
open Go Go.Sx
theorem kyB_succ (q:Nat):kyB (q + 1) = nameB (q + 1):=rfl
theorem takeS {S:List UInt8} {o n m:Nat} (hS:S = sefB o n) (hm:n / 16 * 16 + 32 = m):kyB o = List.take 0 (List.replicate 32 (0:UInt8)) ++ List.take (min S.length 32) S ++ List.drop (0 + min S.length 32) (List.replicate 32 0):=by
 have h:=sefB_length o n
 have hk:=kyB_length o
 subst hS
 rw [h,hm,Nat.min_eq_right (by omega),List.take_zero,List.nil_append,sefB_take,Nat.zero_add,List.drop_replicate,Nat.sub_self,List.replicate_zero,List.append_nil]
set_option maxRecDepth 100000 in
set_option maxHeartbeats 1000000 in
theorem fnOpenF1 (T:List Te) (N:Nat) (hT:T.length = N) (hN:N ≤ 60000) (hTv:∀ x ∈ T,Valid x.1 x.2) (key plain:List UInt8) (n m q:Nat) (hk:key.length = 32) (hn:plain.length = n) (hn1:n ≤ 1024) (hm:n / 16 * 16 + 32 = m) (hq:q < N) (hx:T.getD q te0 = (8,[key,plain])) :
  Sx.Fn Γ.P 11 [.agg [(1,.ptr 1000 0 none)],.a8 key,.slx 1003 0 0 m] [(1003,.mem false 0 [(m,.a8 (sefB (q + 1) n))]),(1000,.mem false 0 [(1,.slx 1001 0 0 N),(1,.mp 1002)]),(1001,.mem false 0 [(N * 3,.arr N 3 (ttF T))]),(1002,.dead)]
  (fun v M=>v = .tup [.isl 0 n 1 [(n,.a8 plain)],.tt]∧M = [(1003,.mem false 0 [(m,.a8 (sefB (q + 1) n))]),(1000,.mem false 0 [(1,.slx 1001 0 0 N),(1,.mp 1002)]),(1001,.mem false 0 [(N * 3,.arr N 3 (ttF T))]),(1002,.dead)]):=by
 obtain ⟨S,hS⟩:∃ S,sefB (q + 1) n = S:=⟨_,rfl⟩
 have hSl:S.length = m:=by rw [← hS,sefB_length,hm]
 have hSz0:∀ i,S.getD (32 + i) 0 = 0:=fun i=>by rw [← hS];exact sefB_zero (by omega)
 have hnum:=numP_name (z:=q + 1) (most:=N) (by omega) (by omega) (by omega)
 have hOf:=fn17 T N hT hN hTv (kyB (q + 1)) (kyB_length _)
 rw [kyB_succ,hnum] at hOf
 have eK:=takeS (S:=S) (o:=q + 1) hS.symm hm
 rw [kyB_succ] at eK
 have eD:List.take m (List.drop 0 S) = S:=by rw [List.drop_zero,List.take_of_length_le (by omega)]
 have hSz:=fn12 (n:Int)
 rw [sizS_ok (by omega) (by omega),show (n:Int) / 16 * 16 + 32 = (m:Int) by omega] at hSz
 have hSx:=fn12 1024
 rw [sizS_ok (by omega) (by omega),show (1024:Int) / 16 * 16 + 32 = 1056 by rfl] at hSx
 rw [hS]
 refine fn_of (Γ:=Γ) (fn:=Try.f11) rfl rfl rfl rfl ?_
 repeat (refine sd ?_)
 refine Branch.intro (fun hc=>?_) (fun _=>?_)
 ·have hc:(m:Int) < 32:=hc
  exact absurd hc (by omega)
 repeat (refine sd ?_)
 refine Call.pure hSx rfl fc ?_
 intro v hv
 subst hv
 repeat (refine sd ?_)
 refine Branch.intro (fun hc=>?_) (fun _=>?_)
 ·have hc:(m:Int) > 1056:=hc
  exact absurd hc (by omega)
 repeat (refine sd ?_)
 refine Branch.intro (fun _=>?_) (fun hn=>absurd hn (by simp))
 repeat (refine sd ?_)
 refine Call.intro hOf [(1000,(1000,0,none)),(1001,(1001,0,none)),(1002,(1002,0,none)),(1005,(305,0,none))] rfl ?_ rfl ?_ rfl ?_
 ·repeat' (first | (show AllP _;first | exact trivial | refine AllP.app ?_ ?_ | refine AllP.appd ?_ ?_ | refine AllP.cons ?_ ?_) | exact fd | fail)
  all_goals (rw [eD];exact eK)
 ·exact fc
 rintro v M' (⟨hz,_,_⟩ | ⟨q1,L,k,c,h1,h2,h3,h4,h5,rfl,rfl⟩)
 ·cases hz
 cases h1
 rw [hx] at h3
 obtain rfl:[key,plain] = L:=h3
 obtain rfl:2 = k:=h4
 dsimp only [putT,afterM,newEnt,ren,renA,renS,renL,look,getM,getT,ev,evL,ofVal,cond_true,cond_false,Nat.beq_eq,act,isPar,ownPar,Ent.isOwn]
 rw [hx]
 repeat (refine sd ?_)
 have eT:List.take 32 key = key:=List.take_of_length_le (by omega)
 refine Draw.intro [[],[0],[0,1],[0,1,2],[0,1,2,3],[0,1,2,3,4],[0,1,2,3,4,5],[0,1,2,3,4,5,6],[0,1,2,3,4,5,6,7],[0,1,2,3,4,5,6,7,8],[0,1,2,3,4,5,6,7,8,9],[0,1,2,3,4,5,6,7,8,9,10],[0,1,2,3,4,5,6,7],[0,1,2,3,4,5,6,7,12],[0,1,2,3,4,5,6,7,8,9,10,11,12,13],[0,1,2,3,4,5,6,7,8,9,10,11,12,13,14],[0,1,2,3,4,5,6,7,8,9,10,11,12,13,14,15],[0,1,2,3,4,5,6,7,8,9,10,11,12,13,14,15,16],[0,1,2,3,4,5,6,7,8,9,10,11,12,13,14,15,16,17],[0,1,2,3,4,5,6,7,8,9,10,11,12,13,14,15,16],[0,1,2,3,4,5,6,7,8,9,10,11,12,13,14,15,16,19],[0,1,2,3,4,5,6,7,8,9,10,11,12,13,14,15,16,19,20],[0,1,2,3,4,5,6,7,8,9,10,11,12,13,14,15,16,19,20,21],[0,1,2,3,4,5,6,7,8,9,10,11,12,13,14,15,16,19,20,21,22],[0,1,2,3,4,5,6,7,8,9,10,11,12,13,14,15,16,17,18,19,20,21,22,23],[0,1,2,3,4,5,6,7,8,9,10,11,12,13,14,15,16,17,18,19,20,21,22,23,24]] [0,1,2,3,4,5,6,7,8,9,10,11,12,13,14,15,16,17,18,19,20,21,22,23,24,25] (by kernel_rfl) ?_
 repeat (first | (refine sd ?_) | (refine Branch.intro (fun h=>False.elim (by revert h;first | (simp;done) | (simp;rw [eT];rfl))) (fun _=>?_)))
 refine Call.pure hSz rfl ?_ ?_
 ·repeat' (first | (show AllP _;first | exact trivial | refine AllP.app ?_ ?_ | refine AllP.appd ?_ ?_ | refine AllP.cons ?_ ?_) | exact fd | fail)
  all_goals (show (n:Int) = ((plain.length:Nat):Int);rw [hn])
 intro v hv
 subst hv
 refine Grow.auto rfl rfl ?_
 repeat (first | (refine sd ?_) | (refine Branch.intro (fun h=>False.elim (by revert h;first | (simp;done) | (simp;rw [eT];rfl))) (fun _=>?_)))
 refine Loop.intro (σ:=Nat) (fun i=>i ≤ m - 32)
  (fun i=>([(10,.sl 305 0 0 2 c),(70,.slx 1003 0 32 (m - 32)),(71,.i .i64 ((m - 32:Nat):Int)),(72,.i .i64 (i:Int))],
   [(1003,.mem false 0 [(m,.a8 S)]),(1000,.mem false 0 [(1,.slx 1001 0 0 N),(1,.mp 1002)]),(1001,.mem false 0 [(N * 3,.arr N 3 (ttF T))]),(1002,.dead),(305,.mem true (c - 2) [(2 * 1,.arr 2 1 (rwF [key,plain]))])]))
  (fun i=>m - 32 - i) 0 (Nat.zero_le _) ?_ ?_
 ·refine Le.intro [] rfl ?_ rfl ?_ rfl
  ·exact fc
  ·exact fc
 rintro i hi
 have hi:i ≤ m - 32:=hi
 refine Branch.intro (fun hc=>?_) (fun hc=>?_)
 ·have hc:(i:Int) < ((m - 32:Nat):Int):=hc
  have hz:=hSz0 i
  repeat (refine sdn ?_)
  refine Branch.intro (fun h=>absurd (show S.getD (addQ 32 (i:Int).toNat) 0 = UInt8.ofNat 0 by rw [addQ_eq,Int.toNat_natCast];exact hz) h) (fun _=>?_)
  repeat (refine sdn ?_)
  refine ⟨i + 1,by show i + 1 ≤ m - 32;omega,by show m - 32 - (i + 1) < m - 32 - i;omega,Le.intro [] rfl ?_ rfl ?_ rfl⟩
  ·exact fc
  ·exact fc
 ·repeat (refine sd ?_)
  refine Ret.intro (.tup [.isl 0 n 1 [(n,.a8 plain)],.tt]) [(1003,.mem false 0 [(m,.a8 S)]),(1000,.mem false 0 [(1,.slx 1001 0 0 N),(1,.mp 1002)]),(1001,.mem false 0 [(N * 3,.arr N 3 (ttF T))]),(1002,.dead)] [] rfl ?_ ⟨rfl,rfl⟩ rfl ?_ rfl ?_ rfl
  ·exact fc
  ·repeat' (first | (show AllP _;first | exact trivial | refine AllP.app ?_ ?_ | refine AllP.appd ?_ ?_ | refine AllP.cons ?_ ?_) | exact fd | fail)
   ·exact hn.symm
   ·show n = plain.length * 1;omega
  ·exact fc
end Go.Proofs.Ytimbdhpchlakfaa
namespace Go.Proofs.Ytimbdhpchlakfaa
open Go Go.Sx
set_option maxRecDepth 100000 in
theorem fnTermsF:Sx.Fn Γ.P 9 [.agg [(1,.ptr 1000 0 none)]] [(1000,.dead)] (fun v M=>v = .ptr 1000 0 none∧M = [(1000,.dead)]):=by
 refine fn_of (Γ:=Γ) (fn:=Try.f9) rfl rfl rfl rfl ?_
 repeat (refine sd ?_)
 refine Ret.intro (.ptr 1000 0 none) [(1000,.dead)] [] rfl ?_ ⟨rfl,rfl⟩ rfl ?_ rfl ?_ rfl
 ·exact fc
 ·exact fc
 ·exact fc
set_option maxRecDepth 100000 in
theorem fnTermsR:Sx.Fn Γ.P 9 [.agg [(1,.nilp)]] [] (fun v M=>v = .nilp∧M = []):=by
 refine fn_of (Γ:=Γ) (fn:=Try.f9) rfl rfl rfl rfl ?_
 repeat (refine sd ?_)
 refine Ret.intro .nilp [] [] rfl ?_ ⟨rfl,rfl⟩ rfl ?_ rfl ?_ rfl
 ·exact fc
 ·exact fc
 ·exact fc
def textB:List UInt8:=[UInt8.ofNat 116,UInt8.ofNat 101,UInt8.ofNat 120,UInt8.ofNat 116]
theorem mx8_nil {key plain:List UInt8} (hk:key.length ≤ 1024) (hp:plain.length ≤ 1024):mx8 [] key plain = ([(8,[key,plain])],1):=by
 rw [mx8_eq,mkT_new (x:=(8,_)) ⟨joinsS hk hp,by show (1:Int) ≤ 8;decide,by show (8:Int) ≤ 8;decide⟩ rfl]
 rfl
theorem t8_valid {key plain:List UInt8} (hk:key.length ≤ 1024) (hp:plain.length ≤ 1024):∀ x ∈ ([(8,[key,plain])]:List Te),Valid x.1 x.2:=by
 intro x hx
 rw [List.mem_singleton.1 hx]
 exact ⟨joinsS hk hp,by show (1:Int) ≤ 8;decide,by show (8:Int) ≤ 8;decide⟩
set_option maxRecDepth 100000 in
set_option maxHeartbeats 2000000 in
theorem fn4:Sx.Fn Γ.P 4 [] [] (fun v _=>v = .tt):=by
 obtain ⟨key,hkey⟩:∃ key:List UInt8,(UInt8.ofNat 1 :: List.replicate 31 0:List UInt8) = key:=⟨_,rfl⟩
 have hk:key.length = 32:=by rw [← hkey];rfl
 have htl:textB.length = 4:=rfl
 have hSR:=fnSealR key textB 4 hk htl
 have hOR:=fnOpenR key textB 4 32 hk htl (by omega) (by omega)
 have eR:seS key textB = seB key textB:=seS_ok (by rw [htl];omega)
 have eRl:(seB key textB).length = 32:=seB_length htl
 have hmx:=mx8_nil (key:=key) (plain:=textB) (by omega) (by rw [htl];omega)
 have hSF:=fnSealF [] 0 0 rfl (by omega) (Nat.le_refl _) tb0_valid key textB 4 32 hk htl (by omega) (by omega) [(8,[key,textB])] 1 (by rw [hmx]) (by rw [hmx])
 have hOF:=fnOpenF1 [(8,[key,textB])] 1 rfl (by omega) (t8_valid (by omega) (by rw [htl];omega)) key textB 4 32 0 hk htl (by omega) (by omega) (by omega) rfl
 have hSz:=fn12 16
 rw [sizS_ok (by omega) (by omega),show (16:Int) / 16 * 16 + 32 = 48 by rfl] at hSz
 rw [eR] at hSR
 unfold tbM at hSF
 unfold textB at hSR hOR hSF hOF
 refine fn_of (Γ:=Γ) (fn:=Try.f4) rfl rfl rfl rfl ?_
 repeat (refine sd ?_)
 refine Loop.intro (σ:=Nat) (fun i=>i ≤ 2) (fun i=>([(1,.i .i64 (i:Int))],[])) (fun i=>2 - i) 0 (Nat.zero_le _) ?_ ?_
 ·refine Le.intro [] rfl ?_ rfl ?_ rfl
  ·exact fc
  ·exact fc
 rintro i hi
 have hi:i ≤ 2:=hi
 repeat (refine sd ?_)
 refine Branch.intro (fun hc=>?_) (fun hc=>?_)
 ·have hc:(i:Int) < 2:=hc
  obtain rfl | rfl:i = 0 ∨ i = 1:=by omega
  ·repeat (refine sd ?_)
   refine Call.intro fnSuiteR [] rfl fc rfl trivial rfl ?_
   rintro v M' ⟨rfl,rfl⟩
   dsimp only [putT,afterM,newEnt,ren,renA,renS,renL,look,getM,getT,ev,evL,ofVal,cond_true,cond_false,Nat.beq_eq,act,isPar,ownPar,Ent.isOwn]
   repeat (refine sd ?_)
   refine Call.intro fnTermsR [] rfl fc rfl trivial rfl ?_
   rintro v M' ⟨rfl,rfl⟩
   dsimp only [putT,afterM,newEnt,ren,renA,renS,renL,look,getM,getT,ev,evL,ofVal,cond_true,cond_false,Nat.beq_eq,act,isPar,ownPar,Ent.isOwn]
   repeat (refine sd ?_)
   refine Branch.intro (fun h=>False.elim (by revert h;simp)) (fun _=>?_)
   repeat (refine sd ?_)
   refine Call.intro hSR [(1003,(23,0,none)),(1006,(306,0,none))] rfl ?_ rfl ?_ rfl ?_
   ·exact fc
   ·exact fc
   rintro v M' ⟨m,c,hm,hmc,rfl,rfl⟩
   have hm2:32 = m:=by rw [← hm];exact eRl.symm
   subst hm2
   dsimp only [putT,afterM,newEnt,ren,renA,renS,renL,look,getM,getT,ev,evL,ofVal,cond_true,cond_false,Nat.beq_eq,act,isPar,ownPar,Ent.isOwn]
   repeat (refine sd ?_)
   refine Call.intro hOR [(1003,(306,0,none)),(1006,(406,0,none))] rfl ?_ rfl ?_ rfl ?_
   ·exact fc
   ·exact fc
   rintro v M' ⟨n0,U,sp,hU,hn0,hUl,rfl,rfl⟩
   dsimp only [putT,afterM,newEnt,ren,renA,renS,renL,look,getM,getT,ev,evL,ofVal,cond_true,cond_false,Nat.beq_eq,act,isPar,ownPar,Ent.isOwn]
   repeat (refine sd ?_)
   repeat (first | (refine sd ?_) | (refine Branch.intro (fun h=>False.elim (by revert h;first | (simp;done) | (simp;exact hU))) (fun _=>?_)))
   refine ⟨0 + 1,by omega,by omega,Le.intro [] rfl ?_ rfl ?_ rfl⟩
   ·exact fc
   ·exact fc
  ·repeat (refine sd ?_)
   refine Call.intro fnSuiteF [(1000,(1000,0,none)),(1001,(1001,0,none)),(1002,(1002,0,none))] rfl ?_ rfl ?_ rfl ?_
   ·exact fc
   ·exact fc
   rintro v M' ⟨rfl,rfl⟩
   dsimp only [putT,afterM,newEnt,ren,renA,renS,renL,look,getM,getT,ev,evL,ofVal,cond_true,cond_false,Nat.beq_eq,act,isPar,ownPar,Ent.isOwn]
   repeat (refine sd ?_)
   refine Call.intro fnTermsF [(1000,(1000,0,none))] rfl fc rfl trivial rfl ?_
   rintro v M' ⟨rfl,rfl⟩
   dsimp only [putT,afterM,newEnt,ren,renA,renS,renL,look,getM,getT,ev,evL,ofVal,cond_true,cond_false,Nat.beq_eq,act,isPar,ownPar,Ent.isOwn]
   repeat (refine sd ?_)
   refine Branch.intro (fun h=>False.elim (by revert h;simp)) (fun _=>?_)
   repeat (refine sd ?_)
   refine Call.name [(0,[]),(0,[]),(1,[])] rfl ?_ (CallP.intro hSF [(1000,(1000,0,none)),(1001,(1001,0,none)),(1002,(1002,0,none)),(1005,(305,0,none)),(1006,(306,0,none))] rfl ?_ rfl ?_ rfl ?_)
   ·exact fc
   ·exact fc
   ·exact fc
   rintro v M' ⟨n',c',hn',hnc',rfl,rfl⟩
   obtain rfl:1 = n':=hn'
   dsimp only [putT,afterM,newEnt,ren,renA,renS,renL,look,getM,getT,ev,evL,ofVal,cond_true,cond_false,Nat.beq_eq,act,isPar,ownPar,Ent.isOwn]
   repeat (refine sd ?_)
   refine Call.intro hOF [(1003,(306,0,none)),(1000,(1000,0,none)),(1001,(305,0,none)),(1002,(1002,0,none))] rfl ?_ rfl ?_ rfl ?_
   ·exact fc
   ·exact fc
   rintro v M' ⟨rfl,rfl⟩
   dsimp only [putT,afterM,newEnt,ren,renA,renS,renL,look,getM,getT,ev,evL,ofVal,cond_true,cond_false,Nat.beq_eq,act,isPar,ownPar,Ent.isOwn]
   repeat (refine sd ?_)
   repeat (first | (refine sd ?_) | (refine Branch.intro (fun h=>False.elim (by revert h;simp)) (fun _=>?_)))
   refine ⟨1 + 1,by omega,by omega,Le.intro [] rfl ?_ rfl ?_ rfl⟩
   ·exact fc
   ·exact fc
 ·repeat (refine sd ?_)
  refine Call.pure hSz rfl fc ?_
  intro v hv
  subst hv
  repeat (refine sd ?_)
  refine Ret.intro .tt [] [] rfl ?_ rfl rfl ?_ rfl ?_ rfl
  ·exact fc
  ·exact fc
  ·exact fc
end Go.Proofs.Ytimbdhpchlakfaa
