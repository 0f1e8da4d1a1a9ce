/- Walks. -/
import Derived.Test.YtimbdhpchlakfaaGreatHwSha10ToSs2
import Derived.Test.YtimbdhpchlakfaaGreatHwTm6ToRa1
import Derived.Test.YtimbdhpchlakfaaGreatHwFe5ToTm5
import Derived.Test.YtimbdhpchlakfaaGreatHwRa2ToCbc2
import Derived.Test.YtimbdhpchlakfaaGreatHx7
import Derived.Test.YtimbdhpchlakfaaGreatHwTabToCu8
import Derived.RangeFuncNested
import Derived.RangeFuncBound
import Derived.RangeFuncCalls
import Derived.RangeFuncLeaves
import Derived.OrdersIn
import Derived.TacticsIn
import Derived.Shelf.Abstract
import Derived.Test.YtimbdhpchlakfaaGreatHwCbc4ToSha9
set_option linter.unusedSimpArgs false
set_option linter.unusedVariables false
set_option maxHeartbeats 4000000
open UInt8 (ofNat ofNat_toNat)
open List (replicate take getD_eq_getElem?_getD drop length_replicate drop_zero)
open UInt64 (toNat_ofNat')
open Nat (le_refl zero_le)
open Int (sub_mul)
set_option maxRecDepth 100000
namespace Go.Proofs.YtimbdhpchlakfaaGreat
open Go Go.Sx
theorem aQP {A B X:List UInt8} {n:Nat} (h:X = A ++ B) (hA:A.length = n):X.take n = A/\X.drop n = B:=by
 subst h;subst hA;exact ⟨List.take_left' rfl,List.drop_left' rfl⟩
theorem aMG (key plain:List UInt8) (n m:Nat) (hk:key.length = 32) (hn:plain.length = n) (hn1:n <= 1024) (hm:n / 16 * 16 + 32 = m) :
  Sx.Fn Γ.P 29 [.agg [(1,.nilp)],.a8 key,.slx 1003 0 0 m] [(1003,.mem false 0 [(m,.a8 (seB key plain))])]
  (fun v M=>∃ n0 U sp,U.take n = plain/\n <= n0/\U.length = n0/\v = .tup [.sl 1006 0 0 n n,.tt]/\M = [(1003,.mem false 0 [(m,.a8 (seB key plain))]),(1006,.mem true sp [(n0,.a8 U)])]):=by
 have hkl:=kv key
 have hgl:=ia key
 have hsl:=ku key
 obtain ⟨N,hN⟩:∃ N,n / 16 * 16 + 16 = N:=⟨_,rfl⟩
 have hNm:N + 16 = m:=by omega
 have hBl:=pz (key:=key) hn
 have hX:=aB2 key plain
 have hXl:=jg (key:=kyA key) (plain:=plain) hgl hn
 have hb:=aII hkl hgl plain
 obtain ⟨X,hXe⟩:∃ X,bp (kyA key) (kyG key) plain = X:=⟨_,rfl⟩
 rw [hXe] at hX hXl hb
 rw [hN] at hXl
 rw [hm] at hBl
 obtain ⟨S,hS⟩:∃ S,seB key plain = S:=⟨_,rfl⟩
 rw [hS] at hX hBl ⊢
 obtain ⟨hT,hD⟩:=aQP hX hXl
 have hml:=dL (kyS key) X
 have hU:=aWM (kyA key) (kyG key) X N hkl hgl hXl (by omega)
 unfold aBD at hU
 rw [hb] at hU
 have hM:=aRU (kyS key) X 32 N hsl hXl (by omega) (by omega)
 have hSz:=aP9 1024
 rw [kY (by omega) (by omega),show (1024:Int) / 16 * 16 + 32 = 1056 by rfl] at hSz
 have hSa:=aWN ((pX (kyS key) X).take 16) ((pX (kyS key) X).take 16) 16 16 (by rw [zlT,hml];rfl) (by rw [zlT,hml];rfl) (by omega)
 refine aF (Γ:=Γ) (fn:=Tryz.f29) rfl rfl rfl rfl ?_
 repeat refine sd ?_
 refine zB.intro (fun hc=>?_) (fun _=>?_)
 ·have hc:(m:Int) < 32:=hc
  exact absurd hc (by omega)
 repeat refine sd ?_
 refine Call.pure hSz rfl fc ?_
 rintro _ rfl
 repeat refine sd ?_
 refine zB.intro (fun hc=>?_) (fun _=>?_)
 ·have hc:(m:Int) > 1056:=hc
  exact absurd hc (by omega)
 repeat refine sd ?_
 refine zB.intro (fun hn=>absurd trivial hn) (fun _=>?_)
 repeat refine sd ?_
 refine Call.intro (aVD key hk) [] rfl fc rfl trivial rfl ?_
 rintro _ _ ⟨rfl,rfl⟩
 dsimp only [zt,zM,zE,ren,zz,zx,zy,aS,zG,zX,ev,evL,zV,zcT,zcF,act,zP,zO,Ent.zW]
 repeat refine sd ?_
 refine aI.intro [[],[],[1],[1,2],[],[4],[4,5],r_7,[],[],[9],[9,10],[8,9,10,11],r_8,sj] uM (by kernel_rfl) ?_
 repeat refine sd ?_
 have eT:X = take N (drop 0 S):=by rw [drop_zero,hT]
 have eQ:(pX (kyS key) X).take 16 = take 16 (drop 0 (pX (kyS key) X)):=by rw [drop_zero]
 have eD:(pX (kyS key) X).take 16 = take 16 (drop N S):=by
  rw [hD];rw [List.take_of_length_le (l:=(pX (kyS key) X).take 16)];rw [zlT,hml];exact le_refl _
 refine Call.intro hM [(1000,(15,0,none)),(1001,(1003,0,some 0))] rfl fc rfl fc rfl ?_
 rintro _ _ ⟨rfl,rfl⟩
 dsimp only [zt,zM,zE,ren,zz,zx,zy,aS,zG,zX,ev,evL,zV,zcT,zcF,act,zP,zO,Ent.zW]
 repeat refine sd ?_
 refine Call.intro hSa [(1000,(19,0,some 0)),(1001,(1003,0,some N))] rfl fc rfl fc rfl ?_
 rintro _ _ ⟨rfl,rfl⟩
 dsimp only [zt,zM,zE,ren,zz,zx,zy,aS,zG,zX,ev,evL,zV,zcT,zcF,act,zP,zO,Ent.zW]
 repeat refine sd ?_
 refine zB.intro (fun hc=>absurd rfl hc) (fun _=>?_)
 repeat refine sd ?_
 refine Call.intro hU [(1000,(1003,0,some 0)),(1001,(301,0,none))] rfl fc rfl fc rfl ?_
 rintro v M' (⟨hc,_⟩ | ⟨n1,s,sp,h1,h2,h3,h4,h5,rfl,rfl⟩)
 ·cases hc
 cases h1
 rw [hn] at h2
 subst h2
 dsimp only [zt,zM,zE,ren,zz,zx,zy,aS,zG,zX,ev,evL,zV,zcT,zcF,act,zP,zO,Ent.zW]
 repeat refine sd ?_
 refine Ret.intro (.tup [.sl 1006 0 0 n n,.tt]) [(1003,.mem false 0 [(m,.a8 S)]),(1006,.mem true sp [(N,.a8 (gf (kyA key) (kyG key) X))])] [(1006,(301,0,none))] rfl fc ⟨N,_,sp,h3,h4,h5,rfl,rfl⟩ rfl fc rfl fc rfl
end Go.Proofs.YtimbdhpchlakfaaGreat
namespace Go.Proofs.YtimbdhpchlakfaaGreat
open Go Go.Sx
theorem xR (q:Nat):kyB (q + 1) = eo (q + 1):=rfl
theorem aR5 {S:List UInt8} {o n m:Nat} (hS:S = aAU o n) (hm:n / 16 * 16 + 32 = m):kyB o = take 0 (replicate 32 (0:UInt8)) ++ take (min S.length 32) S ++ drop (0 + min S.length 32) (replicate 32 0):=by
 have h:=nQ o n
 have hk:=zk o
 subst hS
 rw [h,hm,Nat.min_eq_right (by omega),List.take_zero,List.nil_append,aB1,Nat.zero_add,List.drop_replicate,Nat.sub_self,List.replicate_zero,List.append_nil]
theorem aHW (T:List Te) (N:Nat) (hT:T.length = N) (hN:N <= 60000) (hTv:∀ x ∈ T,ak x.1 x.2) (key plain:List UInt8) (n m q:Nat) (hk:key.length = 32) (hn:plain.length = n) (hn1:n <= 1024) (hm:n / 16 * 16 + 32 = m) (hq:q < N) (hx:T.getD q te0 = (8,[key,plain])) :
  Sx.Fn Γ.P 29 [.agg [(1,.ptr 1000 0 none)],.a8 key,.slx 1003 0 0 m] [(1003,.mem false 0 [(m,.a8 (aAU (q + 1) n))]),(1000,.mem false 0 [(1,.slx 1001 0 0 N),(1,.mp 1002)]),(1001,.mem false 0 [(N * 3,.arr N 3 (ttF T))]),(1002,.dead)]
  (fun v M=>v = .tup [.isl 0 n 1 [(n,.a8 plain)],.tt]/\M = [(1003,.mem false 0 [(m,.a8 (aAU (q + 1) n))]),(1000,.mem false 0 [(1,.slx 1001 0 0 N),(1,.mp 1002)]),(1001,.mem false 0 [(N * 3,.arr N 3 (ttF T))]),(1002,.dead)]):=by
 obtain ⟨S,hS⟩:∃ S,aAU (q + 1) n = S:=⟨_,rfl⟩
 have hSl:S.length = m:=by rw [<- hS,nQ,hm]
 have hSz0:∀ i,S.getD (32 + i) 0 = 0:=fun i=>by rw [<- hS];exact aB0 (by omega)
 have hnum:=tC (z:=q + 1) (most:=N) (by omega) (by omega) (by omega)
 have hOf:=aVF T N hT hN hTv (kyB (q + 1)) (zk _)
 rw [xR,hnum] at hOf
 have eK:=aR5 (S:=S) (o:=q + 1) hS.symm hm
 rw [xR] at eK
 have eD:take m (drop 0 S) = S:=by rw [drop_zero,List.take_of_length_le (by omega)]
 have hSz:=aP9 (n:Int)
 rw [kY (by omega) (by omega),show (n:Int) / 16 * 16 + 32 = (m:Int) by omega] at hSz
 have hSx:=aP9 1024
 rw [kY (by omega) (by omega),show (1024:Int) / 16 * 16 + 32 = 1056 by rfl] at hSx
 rw [hS]
 refine aF (Γ:=Γ) (fn:=Tryz.f29) rfl rfl rfl rfl ?_
 repeat refine sd ?_
 refine zB.intro (fun hc=>?_) (fun _=>?_)
 ·have hc:(m:Int) < 32:=hc
  exact absurd hc (by omega)
 repeat refine sd ?_
 refine Call.pure hSx rfl fc ?_
 rintro _ rfl
 repeat refine sd ?_
 refine zB.intro (fun hc=>?_) (fun _=>?_)
 ·have hc:(m:Int) > 1056:=hc
  exact absurd hc (by omega)
 repeat refine sd ?_
 refine zB.intro (fun _=>?_) (fun hn=>absurd hn (by simp))
 repeat refine sd ?_
 refine Call.intro hOf [(1000,(1000,0,none)),(1001,(1001,0,none)),(1002,(1002,0,none)),(1005,(305,0,none))] rfl ?_ rfl ?_ rfl ?_
 ·repeat' first|exact trivial|refine zA.app ?_ ?_|refine zA.zd ?_ ?_|refine zA.cons ?_ ?_|exact fc|fail
  all_goals (rw [eD];exact eK)
 ·exact fc
 rintro v M' (⟨hz,_,_⟩ | ⟨q1,L,k,c,h1,h2,h3,h4,h5,rfl,rfl⟩)
 ·cases hz
 cases h1
 rw [hx] at h3
 obtain rfl:[key,plain] = L:=h3
 obtain rfl:2 = k:=h4
 dsimp only [zt,zM,zE,ren,zz,zx,zy,aS,zG,zX,ev,evL,zV,zcT,zcF,act,zP,zO,Ent.zW]
 rw [hx]
 repeat refine sd ?_
 have eT:take 32 key = key:=List.take_of_length_le (by omega)
 refine aI.intro [[],[0],[0,1],[0,1,2],r_4,r_5,r_6,r_7,r_8,r_9,fi,fy,r_8,[0,1,2,3,4,5,6,7,12],sj,uM,rM,uL,rL,uL,[0,1,2,3,4,5,6,7,8,9,10,11,12,13,14,15,16,19],[0,1,2,3,4,5,6,7,8,9,10,11,12,13,14,15,16,19,20],[0,1,2,3,4,5,6,7,8,9,10,11,12,13,14,15,16,19,20,21],[0,1,2,3,4,5,6,7,8,9,10,11,12,13,14,15,16,19,20,21,22],aOJ,aOI] aSL (by kernel_rfl) ?_
 repeat (first|refine sd ?_|(refine zB.intro (fun h=>False.elim (by revert h;first | (simp;done) | (simp;rw [eT];rfl))) (fun _=>?_)))
 refine Call.pure hSz rfl ?_ ?_
 ·repeat' first|exact trivial|refine zA.app ?_ ?_|refine zA.zd ?_ ?_|refine zA.cons ?_ ?_|exact fc|fail
  all_goals (show (n:Int) = ((plain.length:Nat):Int);rw [hn])
 rintro _ rfl
 refine dC.auto rfl rfl ?_
 repeat (first|refine sd ?_|(refine zB.intro (fun h=>False.elim (by revert h;first | (simp;done) | (simp;rw [eT];rfl))) (fun _=>?_)))
 refine ac.intro (σ:=Nat) (fun i=>i <= m - 32)
  (fun i=>([(10,.sl 305 0 0 2 c),(70,.slx 1003 0 32 (m - 32)),(71,.i .i64 ((m - 32:Nat):Int)),(72,.i .i64 (i:Int))],
   [(1003,.mem false 0 [(m,.a8 S)]),(1000,.mem false 0 [(1,.slx 1001 0 0 N),(1,.mp 1002)]),(1001,.mem false 0 [(N * 3,.arr N 3 (ttF T))]),(1002,.dead),(305,.mem true (c - 2) [(2 * 1,.arr 2 1 (rwF [key,plain]))])]))
  (fun i=>m - 32 - i) 0 (zero_le _) ?_ ?_
 ·refine Le.intro [] rfl fc rfl fc rfl
 rintro i hi
 have hi:i <= m - 32:=hi
 refine zB.intro (fun hc=>?_) (fun hc=>?_)
 ·have hc:(i:Int) < ((m - 32:Nat):Int):=hc
  have hz:=hSz0 i
  repeat refine sdn ?_
  refine zB.intro (fun h=>absurd (show S.getD (ge 32 (i:Int).toNat) 0 = ofNat 0 by rw [zQ,zIn];exact hz) h) (fun _=>?_)
  repeat refine sdn ?_
  refine ⟨i + 1,by show i + 1 <= m - 32;omega,by show m - 32 - (i + 1) < m - 32 - i;omega,Le.intro [] rfl fc rfl fc rfl⟩
 ·repeat refine sd ?_
  refine Ret.intro (.tup [.isl 0 n 1 [(n,.a8 plain)],.tt]) [(1003,.mem false 0 [(m,.a8 S)]),(1000,.mem false 0 [(1,.slx 1001 0 0 N),(1,.mp 1002)]),(1001,.mem false 0 [(N * 3,.arr N 3 (ttF T))]),(1002,.dead)] [] rfl ?_ ⟨rfl,rfl⟩ rfl ?_ rfl ?_ rfl
  ·exact fc
  ·repeat' first|exact trivial|refine zA.app ?_ ?_|refine zA.zd ?_ ?_|refine zA.cons ?_ ?_|exact fc|fail
   ·exact hn.symm
   ·show n = plain.length * 1;omega
  ·exact fc
end Go.Proofs.YtimbdhpchlakfaaGreat
namespace Go.Proofs.YtimbdhpchlakfaaGreat
open Go Go.Sx
theorem aHU:Sx.Fn Γ.P 27 [.agg [(1,.ptr 1000 0 none)]] [(1000,.dead)] (fun v M=>v = .ptr 1000 0 none/\M = [(1000,.dead)]):=by
 refine aF (Γ:=Γ) (fn:=Tryz.f27) rfl rfl rfl rfl ?_
 repeat refine sd ?_
 refine Ret.intro (.ptr 1000 0 none) [(1000,.dead)] [] rfl fc ⟨rfl,rfl⟩ rfl fc rfl fc rfl
theorem aHT:Sx.Fn Γ.P 27 [.agg [(1,.nilp)]] [] (fun v M=>v = .nilp/\M = []):=by
 refine aF (Γ:=Γ) (fn:=Tryz.f27) rfl rfl rfl rfl ?_
 repeat refine sd ?_
 refine Ret.intro .nilp [] [] rfl fc ⟨rfl,rfl⟩ rfl fc rfl fc rfl
def textB:List UInt8:=[ofNat 116,ofNat 101,ofNat 120,ofNat 116]
theorem aLO {key plain:List UInt8} (hk:key.length <= 1024) (hp:plain.length <= 1024):mx8 [] key plain = ([(8,[key,plain])],1):=by
 rw [aCY,iA (x:=(8,_)) ⟨xT hk hp,by show (1:Int) <= 8;decide,by show (8:Int) <= 8;decide⟩ rfl]
 rfl
theorem aGF {key plain:List UInt8} (hk:key.length <= 1024) (hp:plain.length <= 1024):∀ x ∈ ([(8,[key,plain])]:List Te),ak x.1 x.2:=by
 intro x hx
 rw [List.mem_singleton.1 hx]
 exact ⟨xT hk hp,by show (1:Int) <= 8;decide,by show (8:Int) <= 8;decide⟩
theorem fn7:Sx.Fn Γ.P 7 [] [] (fun v _=>v = .tt):=by
 obtain ⟨key,hkey⟩:∃ key:List UInt8,(ofNat 1 :: replicate 31 0:List UInt8) = key:=⟨_,rfl⟩
 have hk:key.length = 32:=by rw [<- hkey];rfl
 have htl:textB.length = 4:=rfl
 have hSR:=aME key textB 4 hk htl
 have hOR:=aMG key textB 4 32 hk htl (by omega) (by omega)
 have eR:seS key textB = seB key textB:=aIZ (by rw [htl];omega)
 have eRl:(seB key textB).length = 32:=pz htl
 have hmx:=aLO (key:=key) (plain:=textB) (by omega) (by rw [htl];omega)
 have hSF:=aMF [] 0 0 rfl (by omega) (le_refl _) jo key textB 4 32 hk htl (by omega) (by omega) [(8,[key,textB])] 1 (by rw [hmx]) (by rw [hmx])
 have hOF:=aHW [(8,[key,textB])] 1 rfl (by omega) (aGF (by omega) (by rw [htl];omega)) key textB 4 32 0 hk htl (by omega) (by omega) (by omega) rfl
 have hSz:=aP9 16
 rw [kY (by omega) (by omega),show (16:Int) / 16 * 16 + 32 = 48 by rfl] at hSz
 rw [eR] at hSR
 unfold tbM at hSF
 unfold textB at hSR hOR hSF hOF
 refine aF (Γ:=Γ) (fn:=Tryz.f7) rfl rfl rfl rfl ?_
 repeat refine sd ?_
 refine ac.intro (σ:=Nat) (fun i=>i <= 2) (fun i=>([(1,.i .i64 (i:Int))],[])) (fun i=>2 - i) 0 (zero_le _) ?_ ?_
 ·refine Le.intro [] rfl fc rfl fc rfl
 rintro i hi
 have hi:i <= 2:=hi
 repeat refine sd ?_
 refine zB.intro (fun hc=>?_) (fun hc=>?_)
 ·have hc:(i:Int) < 2:=hc
  obtain rfl | rfl:i = 0 \/ i = 1:=by omega
  ·repeat refine sd ?_
   refine Call.intro xk [] rfl fc rfl trivial rfl ?_
   rintro _ _ ⟨rfl,rfl⟩
   dsimp only [zt,zM,zE,ren,zz,zx,zy,aS,zG,zX,ev,evL,zV,zcT,zcF,act,zP,zO,Ent.zW]
   repeat refine sd ?_
   refine Call.intro aHT [] rfl fc rfl trivial rfl ?_
   rintro _ _ ⟨rfl,rfl⟩
   dsimp only [zt,zM,zE,ren,zz,zx,zy,aS,zG,zX,ev,evL,zV,zcT,zcF,act,zP,zO,Ent.zW]
   repeat refine sd ?_
   refine zB.intro (fun h=>False.elim (by revert h;simp)) (fun _=>?_)
   repeat refine sd ?_
   refine Call.intro hSR [(1003,(23,0,none)),(1006,(306,0,none))] rfl fc rfl fc rfl ?_
   rintro v M' ⟨m,c,hm,hmc,rfl,rfl⟩
   have hm2:32 = m:=by rw [<- hm];exact eRl.symm
   subst hm2
   dsimp only [zt,zM,zE,ren,zz,zx,zy,aS,zG,zX,ev,evL,zV,zcT,zcF,act,zP,zO,Ent.zW]
   repeat refine sd ?_
   refine Call.intro hOR [(1003,(306,0,none)),(1006,(406,0,none))] rfl fc rfl fc rfl ?_
   rintro v M' ⟨n0,U,sp,hU,hn0,hUl,rfl,rfl⟩
   dsimp only [zt,zM,zE,ren,zz,zx,zy,aS,zG,zX,ev,evL,zV,zcT,zcF,act,zP,zO,Ent.zW]
   repeat refine sd ?_
   repeat (first|refine sd ?_|(refine zB.intro (fun h=>False.elim (by revert h;first | (simp;done) | (simp;exact hU))) (fun _=>?_)))
   refine ⟨0 + 1,by omega,by omega,Le.intro [] rfl fc rfl fc rfl⟩
  ·repeat refine sd ?_
   refine Call.intro xl [(1000,(1000,0,none)),(1001,(1001,0,none)),(1002,(1002,0,none))] rfl fc rfl fc rfl ?_
   rintro _ _ ⟨rfl,rfl⟩
   dsimp only [zt,zM,zE,ren,zz,zx,zy,aS,zG,zX,ev,evL,zV,zcT,zcF,act,zP,zO,Ent.zW]
   repeat refine sd ?_
   refine Call.intro aHU [(1000,(1000,0,none))] rfl fc rfl trivial rfl ?_
   rintro _ _ ⟨rfl,rfl⟩
   dsimp only [zt,zM,zE,ren,zz,zx,zy,aS,zG,zX,ev,evL,zV,zcT,zcF,act,zP,zO,Ent.zW]
   repeat refine sd ?_
   refine zB.intro (fun h=>False.elim (by revert h;simp)) (fun _=>?_)
   repeat refine sd ?_
   refine Call.name [(0,[]),(0,[]),(1,[])] rfl fc (cz.intro hSF [(1000,(1000,0,none)),(1001,(1001,0,none)),(1002,(1002,0,none)),(1005,(305,0,none)),(1006,(306,0,none))] rfl fc rfl fc rfl ?_)
   rintro v M' ⟨n',c',hn',hnc',rfl,rfl⟩
   obtain rfl:1 = n':=hn'
   dsimp only [zt,zM,zE,ren,zz,zx,zy,aS,zG,zX,ev,evL,zV,zcT,zcF,act,zP,zO,Ent.zW]
   repeat refine sd ?_
   refine Call.intro hOF [(1003,(306,0,none)),(1000,(1000,0,none)),(1001,(305,0,none)),(1002,(1002,0,none))] rfl fc rfl fc rfl ?_
   rintro _ _ ⟨rfl,rfl⟩
   dsimp only [zt,zM,zE,ren,zz,zx,zy,aS,zG,zX,ev,evL,zV,zcT,zcF,act,zP,zO,Ent.zW]
   repeat refine sd ?_
   repeat (first|refine sd ?_|(refine zB.intro (fun h=>False.elim (by revert h;simp)) (fun _=>?_)))
   refine ⟨1 + 1,by omega,by omega,Le.intro [] rfl fc rfl fc rfl⟩
 ·repeat refine sd ?_
  refine Call.pure hSz rfl fc ?_
  rintro _ rfl
  repeat refine sd ?_
  refine Ret.intro .tt [] [] rfl fc rfl rfl fc rfl fc rfl
end Go.Proofs.YtimbdhpchlakfaaGreat
namespace Go.Proofs.YtimbdhpchlakfaaGreat
open Go Go.Sx
theorem aED {x:Te}:∀ {T r:List Te} {i:Nat},fdT x T = i + 1->fdT x (T ++ r) = i + 1
 | [],_,_,h=>by simp [fdT] at h
 | y :: t,r,i,h=>by
  by_cases hy:y = x
  ·simp only [fdT,if_pos hy,List.cons_append] at h ⊢;exact h
  ·simp only [fdT,if_neg hy,List.cons_append] at h ⊢
   cases hf:fdT x t with
   | zero=>rw [hf] at h;cases h
   | succ j=>rw [hf] at h;rw [aED hf];exact h
theorem x5 {x:Te}:∀ {T:List Te} {i:Nat},fdT x T = i + 1->T.getD i te0 = x
 | [],_,h=>by simp [fdT] at h
 | y :: t,i,h=>by
  by_cases hy:y = x
  ·simp only [fdT,if_pos hy] at h
   obtain rfl:i = 0:=by omega
   exact hy
  ·simp only [fdT,if_neg hy] at h
   cases hf:fdT x t with
   | zero=>rw [hf] at h;cases h
   | succ j=>
    rw [hf] at h
    have h:j + 2 = i + 1:=h
    obtain rfl:i = j + 1:=by omega
    exact (x5 hf:t.getD j te0 = x)
theorem aEC (x:Te):∀ {T:List Te},fdT x T = 0->fdT x (T ++ [x]) = T.length + 1
 | [],_=>by simp [fdT]
 | y :: t,h=>by
  by_cases hy:y = x
  ·simp only [fdT,if_pos hy] at h;cases h
  ·simp only [fdT,if_neg hy,List.cons_append] at h ⊢
   cases hf:fdT x t with
   | zero=>rw [aEC x hf];rfl
   | succ j=>rw [hf] at h;cases h
def Num (T:List Te) (x:Te) (o:Nat):Prop:=fdT x T = o/\o ≠ 0
def Ext (A B:List Te):Prop:=∀ y o,Num A y o->Num B y o
theorem Ext.refl (A:List Te):Ext A A:=fun _ _ h=>h
theorem Ext.trans {A B C:List Te} (h:Ext A B) (k:Ext B C):Ext A C:=fun y o n=>k y o (h y o n)
theorem aLV {T:List Te} {x:Te} (hV:ak x.1 x.2):Num (mkT T x).1 x (mkT T x).2:=by
 cases hf:fdT x T with
 | zero=>rw [iA hV hf];exact ⟨aEC x hf,by simp⟩
 | succ i=>rw [g9 hV hf];exact ⟨hf,by simp⟩
theorem Ext.mk (T:List Te) (x:Te):Ext T (mkT T x).1:=by
 rintro y o ⟨h,h0⟩
 obtain ⟨i,rfl⟩:∃ i,o = i + 1:=⟨o - 1,by omega⟩
 by_cases hV:ak x.1 x.2
 ·cases hf:fdT x T with
  | zero=>rw [iA hV hf];exact ⟨aED h,h0⟩
  | succ j=>rw [g9 hV hf];exact ⟨h,h0⟩
 ·rw [j9 hV];exact ⟨h,h0⟩
theorem aLW {T:List Te} {x:Te} {o:Nat} (hV:ak x.1 x.2) (h:Num T x o):mkT T x = (T,o):=by
 obtain ⟨h,h0⟩:=h
 obtain ⟨i,rfl⟩:∃ i,o = i + 1:=⟨o - 1,by omega⟩
 exact g9 hV h
theorem Num.getD {T:List Te} {x:Te} {o:Nat} (h:Num T x o):T.getD (o - 1) te0 = x/\o <= T.length/\1 <= o:=by
 obtain ⟨h,h0⟩:=h
 obtain ⟨i,rfl⟩:∃ i,o = i + 1:=⟨o - 1,by omega⟩
 exact ⟨x5 h,by rw [<- h];exact aEB x T,by omega⟩
theorem Num.one {T:List Te} {x:Te} {o p:Nat} (h:Num T x o) (k:Num T x p):o = p:=by rw [<- h.1,<- k.1]
theorem v1 {k:Int} (h1:1 <= k) (h8:k <= 8) {p:List UInt8} (hp:p.length <= 4096):ak k [p]:=⟨aPL hp,h1,h8⟩
theorem v8 {p q:List UInt8} (hp:p.length <= 1024) (hq:q.length <= 1024):ak 8 [p,q]:=⟨xT hp hq,by decide,by decide⟩
theorem aLX (T:List Te) {k:Int} (h1:1 <= k) (h8:k <= 8) {p:List UInt8} (hp:p.length <= 4096):Num (mk1 T k p).1 (k,[p]) (mk1 T k p).2:=by rw [iC];exact aLV (x:=(k,_)) (v1 h1 h8 hp)
theorem aLY {T:List Te} {k:Int} (h1:1 <= k) (h8:k <= 8) {p:List UInt8} {o:Nat} (hp:p.length <= 4096) (h:Num T (k,[p]) o):mk1 T k p = (T,o):=by rw [iC];exact aLW (x:=(k,_)) (v1 h1 h8 hp) h
theorem aLG {z N:Nat} (h1:1 <= z) (h2:z <= N) (h3:N < 4294967296):du (kyB z) N 0 = z:=by
 obtain ⟨i,rfl⟩:∃ i,z = i + 1:=⟨z - 1,by omega⟩
 exact tC h1 h2 h3
end Go.Proofs.YtimbdhpchlakfaaGreat
namespace Go.Proofs.YtimbdhpchlakfaaGreat
open Go Go.Sx Go.Cu
theorem xo (p:List UInt8) (hp:p.length = 32):Sx.Fn Γ.P 10 [.agg [(1,.nilp)],.a8 p] [] (fun v _=>v = .a8 p):=by
 refine aF (Γ:=Γ) (fn:=Tryz.f10) rfl rfl rfl rfl ?_
 repeat refine sd ?_
 repeat (first | (refine zB.intro (fun _=>?_) (fun hn=>absurd rfl hn))|refine ky0 ?_|refine kn0 ?_|refine sd ?_)
 refine Ret.intro (.a8 p) [] [] rfl fc rfl rfl fc rfl fc rfl
def aO6:List UInt8:=ofNat 9 :: replicate 31 0
@[irreducible] def u4 (s:List UInt8):List UInt8:=oF (clB s) aO6
theorem u3 (s:List UInt8):u4 s = oF (clB s) aO6:=by unfold u4;rfl
theorem gF (s:List UInt8):(u4 s).length = 32:=by rw [u3];exact bM _ _
@[irreducible] def aFO (s u:List UInt8):List UInt8:=oF (clB s) u
theorem wa (s u:List UInt8):aFO s u = oF (clB s) u:=by unfold aFO;rfl
theorem gU (s u:List UInt8):(aFO s u).length = 32:=by rw [wa];exact bM _ _
theorem td (p:List UInt8) (hp:p.length = 32):Sx.Fn Γ.P 12 [.agg [(1,.nilp)],.a8 p] [] (fun v _=>v = .a8 (u4 p)):=by
 have c:=aWT p hp
 have l:=gF p
 have e:oF (clB p) (ofNat 9 :: replicate 31 0) = u4 p:=(u3 p).symm
 rw [e] at c
 generalize u4 p = R at *
 refine aF (Γ:=Γ) (fn:=Tryz.f12) rfl rfl rfl rfl ?_
 repeat refine sd ?_
 repeat (first | (refine zB.intro (fun _=>?_) (fun hn=>absurd rfl hn))|refine ky0 ?_|refine kn0 ?_|refine sd ?_)
 refine Call.pure c rfl fc ?_
 rintro _ rfl
 repeat refine sd ?_
 refine Ret.intro (.a8 R) [] [] rfl fc rfl rfl fc rfl fc rfl
theorem xu (a u:List UInt8) (ha:a.length = 32) (hu:u.length = 32):Sx.Fn Γ.P 16 [.agg [(1,.nilp)],.a8 a,.a8 u] [] (fun v _=>v = .tup [.a8 (aFO a u),.bool (¬ aFO a u = replicate 32 0)]):=by
 have c:=aVG a u ha hu
 have l:=gU a u
 rw [<- wa] at c
 generalize aFO a u = R at *
 refine aF (Γ:=Γ) (fn:=Tryz.f16) rfl rfl rfl rfl ?_
 repeat refine sd ?_
 repeat (first | (refine zB.intro (fun _=>?_) (fun hn=>absurd rfl hn))|refine ky0 ?_|refine kn0 ?_|refine sd ?_)
 refine Call.pure c rfl fc ?_
 rintro _ rfl
 repeat refine sd ?_
 refine aI.intro [[],[],[],[1,2],[0],r_5] r_6 (by kernel_rfl) ?_
 repeat (first|refine gt ?_|refine sd ?_)
 refine Ret.intro (.tup [.a8 R,.bool (¬ R = replicate 32 0)]) [] [] rfl ?_ rfl rfl ?_ rfl ?_ rfl
 ·exact fc
 ·repeat' first|exact trivial|refine zA.app ?_ ?_|refine zA.zd ?_ ?_|refine zA.cons ?_ ?_|exact fc|fail
  all_goals exact Iff.rfl
 ·exact fc
def srt (x y:List UInt8):List (List UInt8):=if Op.bytesLess x y = true \/ x = y then [x,y] else [y,x]
theorem aFL {T:List Te} {N o:Nat} {a y:List UInt8} (hT:T.length = N) (hN:N < 4294967296) (hy:y.length = 32) (h:Num T (2,[y]) o):agr T N a (kyB o) = mkT T (3,srt a y):=by
 obtain ⟨h1,h2,h3⟩:=h.getD
 have hq:du (kyB o) N 0 = (o - 1) + 1:=by rw [aLG h3 (by omega) hN];omega
 have hx:(T.getD (o - 1) te0).1 = 2/\(T.getD (o - 1) te0).2.length = 1/\((T.getD (o - 1) te0).2.getD 0 []).length = 32:=by rw [h1];exact ⟨rfl,rfl,hy⟩
 have e0:(T.getD (o - 1) te0).2.getD 0 [] = y:=by rw [h1];rfl
 unfold srt
 by_cases hl:Op.bytesLess a y = true \/ a = y
 ·rw [aFM hq hx (by rw [e0];exact hl),e0,if_pos hl,tH]
 ·rw [aFN hq hx (by rw [e0];exact hl),e0,if_neg hl,tH]
end Go.Proofs.YtimbdhpchlakfaaGreat
namespace Go.Proofs.YtimbdhpchlakfaaGreat
open Go Go.Sx Go.Cu
structure PL where
 x:List UInt64
 y:List UInt64
 z:List UInt64
 t:List UInt64
def PL.L (p:PL):Prop:=p.x.length = 5/\p.y.length = 5/\p.z.length = 5/\p.t.length = 5
def PL.B (p:PL):Prop:=Lb p.x/\Lb p.y/\Lb p.z/\Lb p.t
theorem PL.B.len {p:PL} (h:p.B):p.L:=⟨h.1.1,h.2.1.1,h.2.2.1.1,h.2.2.2.1⟩
def PR (p:PL) (P:Pt):Prop:=p.B/\Rep (fv p.x) (fv p.y) (fv p.z) P/\fv p.t = P.x * P.y * fv p.z
def PS (p:PL) (s:Prop) (P:Pt):Prop:=p.L/\(s->PR p P)/\(¬ s->P = .O)
theorem PR.ps {p:PL} {P:Pt} (h:PR p P):PS p True P:=⟨h.1.len,fun _=>h,fun h=>absurd trivial h⟩
def ptV (p:PL) (s:Prop):SV:=.agg [(5,.a64 p.x),(5,.a64 p.y),(5,.a64 p.z),(5,.a64 p.t),(1,.bool s)]
def aRO:List UInt8:=ofNat 1 :: replicate 31 0
def uO:List UInt64:=ofL aRO
theorem jR:Lb uO:=aCP
theorem jS:fv uO = 1:=aJD
def aBI:List UInt64:=ofL (ofNat 2 :: replicate 31 0)
theorem qx:Lb aBI:=(dt _).2
theorem aBH:fv aBI = 2:=by decide +kernel
def aRV:List UInt8:=[ofNat 163,ofNat 120,ofNat 89,ofNat 19,ofNat 202,ofNat 77,ofNat 235,ofNat 117,ofNat 171,ofNat 216,ofNat 65,ofNat 65,ofNat 77,ofNat 10,ofNat 112,ofNat 0,ofNat 152,ofNat 232,ofNat 121,ofNat 119,ofNat 121,ofNat 64,ofNat 199,ofNat 140,ofNat 115,ofNat 254,ofNat 111,ofNat 43,ofNat 238,ofNat 108,ofNat 3,ofNat 82]
def aJ5:List UInt64:=ofL aRV
theorem ri:Lb aJ5:=(dt _).2
theorem aEE:fv aJ5 = dF:=by decide +kernel
theorem aW4:PR ⟨replicate 5 0,uO,uO,replicate 5 0⟩ .O:=by
 refine ⟨⟨qo,jR,jR,qo⟩,?_,?_⟩
 ·show Rep (fv (replicate 5 0)) (fv uO) (fv uO) .O
  rw [qp,jS];exact aOH
 ·show fv (replicate 5 0) = Pt.O.x * Pt.O.y * fv uO
  rw [qp,jS];decide +kernel
theorem aML:Sx.Fn Γ.P 135 [] [] (fun v _=>v = .agg [(5,.a64 uO)]):=by
 have c:=aMI aRO rfl
 have e:ofL aRO = uO:=rfl
 have l:=jR.1
 rw [e] at c
 generalize uO = R at *
 unfold aRO at c
 refine aF (Γ:=Γ) (fn:=Tryz.f135) rfl rfl rfl rfl ?_
 repeat refine sd ?_
 refine Call.pure c rfl fc ?_
 rintro _ rfl
 repeat (first|refine gi ?_|refine gt ?_|refine ga ?_|refine sd ?_)
 refine Ret.intro (.agg [(5,.a64 R)]) [] [] rfl fc rfl rfl fc rfl fc rfl
theorem aHV:Sx.Fn Γ.P 139 [.i .i64 2] [] (fun v _=>v = .agg [(5,.a64 aBI)]):=by
 have c:=aMI (ofNat 2 :: replicate 31 0) rfl
 have e:ofL (ofNat 2 :: replicate 31 0) = aBI:=rfl
 have l:=qx.1
 rw [e] at c
 generalize aBI = R at *
 refine aF (Γ:=Γ) (fn:=Tryz.f139) rfl rfl rfl rfl ?_
 repeat refine sd ?_
 refine Call.pure c rfl fc ?_
 rintro _ rfl
 repeat (first|refine gi ?_|refine gt ?_|refine ga ?_|refine sd ?_)
 refine Ret.intro (.agg [(5,.a64 R)]) [] [] rfl fc rfl rfl fc rfl fc rfl
theorem aQF:Sx.Fn Γ.P 136 [] [] (fun v _=>v = .agg [(5,.a64 aJ5)]):=by
 have c:=aMI aRV rfl
 have e:ofL aRV = aJ5:=rfl
 have l:=ri.1
 rw [e] at c
 generalize aJ5 = R at *
 unfold aRV at c
 refine aF (Γ:=Γ) (fn:=Tryz.f136) rfl rfl rfl rfl ?_
 repeat refine sd ?_
 refine Call.pure c rfl fc ?_
 rintro _ rfl
 repeat (first|refine gi ?_|refine gt ?_|refine ga ?_|refine sd ?_)
 refine Ret.intro (.agg [(5,.a64 R)]) [] [] rfl fc rfl rfl fc rfl fc rfl
theorem aMN (p:PL) (s:Prop) (P:Pt) (h:PS p s P):Sx.Fn Γ.P 113 [ptV p s] [] (fun v _=>∃ o:PL,PR o P/\v = ptV o True):=by
 obtain ⟨⟨l1,l2,l3,l4⟩,h1,h2⟩:=h
 have c:=aML
 have l:=jR.1
 have hO:=aW4
 unfold ptV
 refine aF (Γ:=Γ) (fn:=Tryz.f113) rfl rfl rfl rfl ?_
 repeat refine sd ?_
 refine zB.intro (fun hs=>?_) (fun hs=>?_)
 ·have hs:¬ s:=hs
  rw [h2 hs]
  generalize uO = one at *
  repeat refine sd ?_
  refine Call.pure c rfl fc ?_
  rintro _ rfl
  repeat (first|refine gi ?_|refine gt ?_|refine ga ?_|refine sd ?_)
  refine Call.pure c rfl fc ?_
  rintro _ rfl
  repeat (first|refine gi ?_|refine gt ?_|refine ga ?_|refine sd ?_)
  refine Ret.intro (.agg [(5,.a64 (replicate 5 0)),(5,.a64 one),(5,.a64 one),(5,.a64 (replicate 5 0)),(1,.bool True)]) [] [] rfl fc ⟨_,hO,rfl⟩ rfl fc rfl fc rfl
 ·have hs:¬ ¬ s:=hs
  have hs:=Classical.not_not.1 hs
  have hp:=h1 hs
  repeat refine sd ?_
  refine Ret.intro (.agg [(5,.a64 p.x),(5,.a64 p.y),(5,.a64 p.z),(5,.a64 p.t),(1,.bool True)]) [] [] rfl fc ⟨p,hp,rfl⟩ rfl fc rfl fc rfl
end Go.Proofs.YtimbdhpchlakfaaGreat
namespace Go.Proofs.YtimbdhpchlakfaaGreat
open Go Go.Sx Go.Cu
def aJA (p q:PL):List UInt64:=ah (iu p.y p.x) (iu q.y q.x)
def aI9 (p q:PL):List UInt64:=ah (iz p.y p.x) (iz q.y q.x)
def aI8 (p q:PL):List UInt64:=ah (ah p.t aBI) (ah aJ5 q.t)
def aI7 (p q:PL):List UInt64:=ah (ah p.z aBI) q.z
def aSP (p q:PL):PL:=
  ⟨ah (iu (aI9 p q) (aJA p q)) (iu (aI7 p q) (aI8 p q)),ah (iz (aI7 p q) (aI8 p q)) (iz (aI9 p q) (aJA p q)),
   ah (iu (aI7 p q) (aI8 p q)) (iz (aI7 p q) (aI8 p q)),ah (iu (aI9 p q) (aJA p q)) (iz (aI9 p q) (aJA p q))⟩
theorem aOT {p q:PL} {P Q:Pt} (hp:PR p P) (hq:PR q Q):PR (aSP p q) (P.add Q):=by
 obtain ⟨⟨p1,p2,p3,p4⟩,pr,pt⟩:=hp
 obtain ⟨⟨q1,q2,q3,q4⟩,qr,qt⟩:=hq
 have bA:Lb (aJA p q):=aE _ _
 have bB:Lb (aI9 p q):=aE _ _
 have bC:Lb (aI8 p q):=aE _ _
 have bD:Lb (aI7 p q):=aE _ _
 have vA:fv (aJA p q) = (fv p.y - fv p.x) * (fv q.y - fv q.x):=by unfold aJA;rw [aK (al _ _) (al _ _),dq p2 p1,dq q2 q1]
 have vB:fv (aI9 p q) = (fv p.y + fv p.x) * (fv q.y + fv q.x):=by unfold aI9;rw [aK (aq _ _) (aq _ _),fA p2 p1,fA q2 q1]
 have vC:fv (aI8 p q) = fv p.t * 2 * (dF * fv q.t):=by unfold aI8;rw [aK (aE _ _) (aE _ _),aK p4 qx,aK ri q4,aBH,aEE]
 have vD:fv (aI7 p q) = fv p.z * 2 * fv q.z:=by unfold aI7;rw [aK (aE _ _) q3,aK p3 qx,aBH]
 obtain ⟨r1,r2⟩:=aK5 pr qr pt qt vA vB vC vD (e:=_) (f:=_) (g:=_) (h0:=_) rfl rfl rfl rfl
 unfold aSP
 refine ⟨⟨aE _ _,aE _ _,aE _ _,aE _ _⟩,?_,?_⟩
 ·simp only
  rw [aK (al _ _) (al _ _),aK (aq _ _) (aq _ _),aK (al _ _) (aq _ _),dq bB bA,dq bD bC,fA bD bC,fA bB bA]
  exact r1
 ·simp only
  rw [aK (al _ _) (aq _ _),aK (al _ _) (aq _ _),dq bB bA,dq bD bC,fA bD bC,fA bB bA]
  exact r2
theorem aRS (p q:PL) (s r:Prop) (P Q:Pt) (h:PS p s P) (k:PS q r Q):Sx.Fn Γ.P 87 [ptV p s,ptV q r] [] (fun v _=>∃ o:PL,PR o (P.add Q)/\v = ptV o True):=by
  have cp:=aMN p s P h
  have cq:=aMN q r Q k
  obtain ⟨⟨p1,p2,p3,p4⟩,_,_⟩:=h
  obtain ⟨⟨q1,q2,q3,q4⟩,_,_⟩:=k
  have c2:=aHV
  have cf:=aQF
  have l2:=qx.1
  have lf:=ri.1
  unfold ptV at *
  refine ci [2] (Γ:=Γ) (fn:=Tryz.f87) rfl rfl rfl rfl ?_
  repeat refine sd ?_
  refine aI.intro [[],[0],[],[0,1,2],r_4,r_5] [0,2,1,3,4,5] (by kernel_rfl) ?_
  repeat (first|refine gi ?_|refine gt ?_|refine ga ?_|refine sd ?_)
  refine Call.pure cp rfl ?_ ?_
  · exact fc
  rintro v ⟨a,ha,rfl⟩
  repeat (first|refine gi ?_|refine gt ?_|refine ga ?_|refine sd ?_)
  refine Call.pure cq rfl ?_ ?_
  · exact fc
  rintro v ⟨b,hb,rfl⟩
  obtain ⟨a1,a2,a3,a4⟩:=ha.1.len
  obtain ⟨b1,b2,b3,b4⟩:=hb.1.len
  repeat (first|refine gi ?_|refine gt ?_|refine ga ?_|refine sd ?_)
  have hR:=aOT ha hb
  clear ha hb cp cq
  refine Cut.intro (σ:=Unit) (fun _=>True) (fun _=>([(2,.ptr 2 0 none),(3,.ptr 3 0 none),(4,.ptr 4 0 none)],
    [(2,.mem true 0 [(5,.a64 a.x),(5,.a64 a.y),(5,.a64 a.z),(5,.a64 a.t),(1,.bool True)]),(3,.mem true 0 [(5,.a64 b.x),(5,.a64 b.y),(5,.a64 b.z),(5,.a64 b.t),(1,.bool True)]),
     (4,.mem true 0 [(5,.a64 (replicate 5 0)),(5,.a64 (replicate 5 0)),(5,.a64 (replicate 5 0)),(5,.a64 (replicate 5 0)),(1,.ff)])])) () trivial (Le.intro [] rfl ?_ rfl ?_ rfl) ?_
  · exact fc
  · exact fc
  rintro - -
  unfold aSP aJA aI9 aI8 aI7 at hR
  have d1:=pg a.y a.x a2 a1
  have m1:=(al a.y a.x).1
  generalize iu a.y a.x = v1 at *
  have d2:=pg b.y b.x b2 b1
  have m2:=(al b.y b.x).1
  generalize iu b.y b.x = v2 at *
  have d3:=ig v1 v2 m1 m2
  have m3:=(aE v1 v2).1
  generalize ah v1 v2 = A at *
  have d4:=rf a.y a.x a2 a1
  have m4:=(aq a.y a.x).1
  generalize iz a.y a.x = v4 at *
  have d5:=rf b.y b.x b2 b1
  have m5:=(aq b.y b.x).1
  generalize iz b.y b.x = v5 at *
  have d6:=ig v4 v5 m4 m5
  have m6:=(aE v4 v5).1
  generalize ah v4 v5 = B at *
  generalize aBI = two at *
  generalize aJ5 = fac at *
  have d7:=ig a.t two a4 l2
  have m7:=(aE a.t two).1
  generalize ah a.t two = v7 at *
  have d8:=ig fac b.t lf b4
  have m8:=(aE fac b.t).1
  generalize ah fac b.t = v8 at *
  have d9:=ig v7 v8 m7 m8
  have m9:=(aE v7 v8).1
  generalize ah v7 v8 = C at *
  have e1:=ig a.z two a3 l2
  have n1:=(aE a.z two).1
  generalize ah a.z two = w1 at *
  have e2:=ig w1 b.z n1 b3
  have n2:=(aE w1 b.z).1
  generalize ah w1 b.z = D at *
  have e3:=pg B A m6 m3
  have n3:=(al B A).1
  generalize iu B A = E at *
  have e4:=pg D C n2 m9
  have n4:=(al D C).1
  generalize iu D C = G1 at *
  have e5:=rf D C n2 m9
  have n5:=(aq D C).1
  generalize iz D C = G2 at *
  have e6:=rf B A m6 m3
  have n6:=(aq B A).1
  generalize iz B A = H at *
  have e7:=ig E G1 n3 n4
  have n7:=(aE E G1).1
  generalize ah E G1 = X at *
  have e8:=ig G2 H n5 n6
  have n8:=(aE G2 H).1
  generalize ah G2 H = Y at *
  have e9:=ig G1 G2 n4 n5
  have n9:=(aE G1 G2).1
  generalize ah G1 G2 = Z at *
  have f1:=ig E H n3 n6
  have k1:=(aE E H).1
  generalize ah E H = W at *
  refine aI.intro [[],[0],[],[2],r_4,[],[5],[],[7],r_9,fi,[],mR] [0,1,2,3,5,6,7,8,11,4,9,10,12] (by kernel_rfl) ?_
  repeat (first|refine gi ?_|refine gt ?_|refine ga ?_|refine sd ?_)
  refine Call.pure d1 rfl ?_ ?_
  · exact fc
  rintro _ rfl
  repeat (first|refine gi ?_|refine gt ?_|refine ga ?_|refine sd ?_)
  refine Call.pure d2 rfl ?_ ?_
  · exact fc
  rintro _ rfl
  repeat (first|refine gi ?_|refine gt ?_|refine ga ?_|refine sd ?_)
  refine Call.pure d3 rfl ?_ ?_
  · exact fc
  rintro _ rfl
  repeat (first|refine gi ?_|refine gt ?_|refine ga ?_|refine sd ?_)
  refine aI.intro [[],[0],[],[2],r_4,[],[5],[],[7],r_9,fi,[],mR] [0,1,2,3,5,6,7,8,11,4,9,10,12] (by kernel_rfl) ?_
  repeat (first|refine gi ?_|refine gt ?_|refine ga ?_|refine sd ?_)
  refine Call.pure d4 rfl ?_ ?_
  · exact fc
  rintro _ rfl
  repeat (first|refine gi ?_|refine gt ?_|refine ga ?_|refine sd ?_)
  refine Call.pure d5 rfl ?_ ?_
  · exact fc
  rintro _ rfl
  repeat (first|refine gi ?_|refine gt ?_|refine ga ?_|refine sd ?_)
  refine Call.pure d6 rfl ?_ ?_
  · exact fc
  rintro _ rfl
  repeat (first|refine gi ?_|refine gt ?_|refine ga ?_|refine sd ?_)
  refine aI.intro [[],[0],[],[0,1,2],r_4,[],[5],r_7,r_8,[],fi] [0,1,5,6,9,2,3,4,7,8,10] (by kernel_rfl) ?_
  repeat (first|refine gi ?_|refine gt ?_|refine ga ?_|refine sd ?_)
  refine Call.pure c2 rfl ?_ ?_
  · exact fc
  rintro _ rfl
  repeat (first|refine gi ?_|refine gt ?_|refine ga ?_|refine sd ?_)
  refine Call.pure d7 rfl ?_ ?_
  · exact fc
  rintro _ rfl
  repeat (first|refine gi ?_|refine gt ?_|refine ga ?_|refine sd ?_)
  refine Call.pure cf rfl ?_ ?_
  · exact fc
  rintro _ rfl
  repeat (first|refine gi ?_|refine gt ?_|refine ga ?_|refine sd ?_)
  refine Call.pure d8 rfl ?_ ?_
  · exact fc
  rintro _ rfl
  repeat (first|refine gi ?_|refine gt ?_|refine ga ?_|refine sd ?_)
  refine Call.pure d9 rfl ?_ ?_
  · exact fc
  rintro _ rfl
  repeat (first|refine gi ?_|refine gt ?_|refine ga ?_|refine sd ?_)
  refine aI.intro [[],[0],[],[0,1,2],[],[4],r_6,[],r_8] [0,1,4,5,7,2,3,6,8] (by kernel_rfl) ?_
  repeat (first|refine gi ?_|refine gt ?_|refine ga ?_|refine sd ?_)
  refine Call.pure c2 rfl ?_ ?_
  · exact fc
  rintro _ rfl
  repeat (first|refine gi ?_|refine gt ?_|refine ga ?_|refine sd ?_)
  refine Call.pure e1 rfl ?_ ?_
  · exact fc
  rintro _ rfl
  repeat (first|refine gi ?_|refine gt ?_|refine ga ?_|refine sd ?_)
  refine Call.pure e2 rfl ?_ ?_
  · exact fc
  rintro _ rfl
  repeat (first|refine gi ?_|refine gt ?_|refine ga ?_|refine sd ?_)
  refine aI.intro [[],[],[0,1],[],[],r_5,[],[],r_8,[],[],fy,[],[],[],[],rM,uL,rL,aNM] [0,1,3,4,6,7,9,10,12,13,14,15,2,5,8,11,16,17,18,19] (by kernel_rfl) ?_
  repeat (first|refine gi ?_|refine gt ?_|refine ga ?_|refine sd ?_)
  refine Call.pure e3 rfl ?_ ?_
  · exact fc
  rintro _ rfl
  repeat (first|refine gi ?_|refine gt ?_|refine ga ?_|refine sd ?_)
  refine Call.pure e4 rfl ?_ ?_
  · exact fc
  rintro _ rfl
  repeat (first|refine gi ?_|refine gt ?_|refine ga ?_|refine sd ?_)
  refine Call.pure e5 rfl ?_ ?_
  · exact fc
  rintro _ rfl
  repeat (first|refine gi ?_|refine gt ?_|refine ga ?_|refine sd ?_)
  refine Call.pure e6 rfl ?_ ?_
  · exact fc
  rintro _ rfl
  repeat (first|refine gi ?_|refine gt ?_|refine ga ?_|refine sd ?_)
  refine aI.intro [[],[],[0,1],[],[],r_5,[],[],r_8,[],[],fy,mR,nb] [0,1,3,4,6,7,9,10,2,5,8,11,12,13] (by kernel_rfl) ?_
  repeat (first|refine gi ?_|refine gt ?_|refine ga ?_|refine sd ?_)
  refine Call.pure e7 rfl ?_ ?_
  · exact fc
  rintro _ rfl
  repeat (first|refine gi ?_|refine gt ?_|refine ga ?_|refine sd ?_)
  refine Call.pure e8 rfl ?_ ?_
  · exact fc
  rintro _ rfl
  repeat (first|refine gi ?_|refine gt ?_|refine ga ?_|refine sd ?_)
  refine Call.pure e9 rfl ?_ ?_
  · exact fc
  rintro _ rfl
  repeat (first|refine gi ?_|refine gt ?_|refine ga ?_|refine sd ?_)
  refine Call.pure f1 rfl ?_ ?_
  · exact fc
  rintro _ rfl
  repeat (first|refine gi ?_|refine gt ?_|refine ga ?_|refine sd ?_)
  refine Ret.intro (.agg [(5,.a64 X),(5,.a64 Y),(5,.a64 Z),(5,.a64 W),(1,.bool True)]) [] [] rfl ?_ ⟨_,hR,rfl⟩ rfl ?_ rfl ?_ rfl
  · exact fc
  · exact fc
  · exact fc
end Go.Proofs.YtimbdhpchlakfaaGreat
namespace Go.Proofs.YtimbdhpchlakfaaGreat
open Go Go.Sx Go.Cu
theorem aSQ:∀ x y:UInt8,x.toNat < 128->x ||| pJ (y &&& ofNat 1) 7 = if y &&& ofNat 1 = ofNat 1 then x + ofNat 128 else x:=by
 intro x y hx
 have h1:∀ z:Fin 256,ofNat z.val &&& ofNat 1 = ofNat 1 \/ ofNat z.val &&& ofNat 1 = ofNat 0:=by decide +kernel
 have h2:=h1 ⟨y.toNat,y.toNat_lt⟩
 rw [ofNat_toNat] at h2
 have h3:∀ z:Fin 256,z.val < 128->ofNat z.val ||| pJ (ofNat 1) 7 = ofNat z.val + ofNat 128:=by decide +kernel
 have h4:∀ z:Fin 256,ofNat z.val ||| pJ (ofNat 0) 7 = ofNat z.val:=by decide +kernel
 rcases h2 with h | h
 ·rw [h,if_pos rfl]
  have:=h3 ⟨x.toNat,x.toNat_lt⟩ hx
  rw [ofNat_toNat] at this;exact this
 ·rw [h,if_neg (by decide)]
  have:=h4 ⟨x.toNat,x.toNat_lt⟩
  rw [ofNat_toNat] at this;exact this
theorem aQR (x y:F):(leB y).set 31 ((leB y).getD 31 0 ||| pJ ((leB x).getD 0 0 &&& ofNat 1) 7) = if x.val % 2 = 1 then (leB y).set 31 ((leB y).getD 31 0 + ofNat 128) else leB y:=by
 rw [aSQ _ _ (aJU y)]
 by_cases h:x.val % 2 = 1
 ·rw [if_pos h,if_pos ((xB x).2 h)]
 ·rw [if_neg h,if_neg (fun e=>h ((xB x).1 e)),q6 (by rw [aZ];omega)]
theorem aWI (p:PL) (s:Prop) (P:Pt) (h:PS p s P):Sx.Fn Γ.P 60 [ptV p s] [] (fun v _=>v = .a8 (rz P)):=by
 have cp:=aMN p s P h
 obtain ⟨⟨p1,p2,p3,p4⟩,_,_⟩:=h
 unfold ptV at *
 refine aF (Γ:=Γ) (fn:=Tryz.f60) rfl rfl rfl rfl ?_
 repeat refine sd ?_
 refine Call.pure cp rfl fc ?_
 rintro v ⟨a,ha,rfl⟩
 obtain ⟨a1,a2,a3,a4⟩:=ha.1.len
 have cI:=aNR a.z a3
 have bI:=gR a.z
 have vI:=rZ ha.1.2.2.1
 generalize jl a.z = i at *
 have cx:=ig a.x i a1 bI.1
 have lx:=(aE a.x i).1
 have cX:=bl (ah a.x i) lx
 have cy:=ig a.y i a2 bI.1
 have ly:=(aE a.y i).1
 have cY:=bl (ah a.y i) ly
 have vX:fv (ah a.x i) = P.x:=by rw [aK ha.1.1 bI,vI];exact aOF ha.2.1
 have vY:fv (ah a.y i) = P.y:=by rw [aK ha.1.2.1 bI,vI];exact aOE ha.2.1
 rw [vX] at cX
 rw [vY] at cY
 generalize ah a.x i = X at *
 generalize ah a.y i = Y at *
 have hE:rz P = (leB P.y).set 31 ((leB P.y).getD 31 0 ||| pJ ((leB P.x).getD 0 0 &&& ofNat 1) 7):=(aQR P.x P.y).symm
 rw [hE]
 have lBx:=aZ P.x
 have lBy:=aZ P.y
 generalize leB P.x = bx at *
 generalize leB P.y = bb at *
 have lI:=bI.1
 repeat (first|refine gi ?_|refine gt ?_|refine ga ?_|refine sd ?_)
 refine Call.pure cI rfl fc ?_
 rintro _ rfl
 repeat (first|refine gi ?_|refine gt ?_|refine ga ?_|refine sd ?_)
 refine aI.intro [[],[0],[],[0,1,2],r_4,[],[5],[],r_8,r_9,[],[],mR,nb] [0,1,2,5,6,7,10,11,3,4,8,9,12,13] (by kernel_rfl) ?_
 repeat (first|refine gi ?_|refine gt ?_|refine ga ?_|refine sd ?_)
 refine Call.pure cx rfl fc ?_
 rintro _ rfl
 repeat (first|refine gi ?_|refine gt ?_|refine ga ?_|refine sd ?_)
 refine Call.pure cX rfl fc ?_
 rintro _ rfl
 repeat (first|refine gi ?_|refine gt ?_|refine ga ?_|refine sd ?_)
 refine Call.pure cy rfl fc ?_
 rintro _ rfl
 repeat (first|refine gi ?_|refine gt ?_|refine ga ?_|refine sd ?_)
 refine Call.pure cY rfl fc ?_
 rintro _ rfl
 repeat (first|refine gi ?_|refine gt ?_|refine ga ?_|refine sd ?_)
 refine Ret.intro (.a8 (bb.set 31 (bb.getD 31 0 ||| pJ (bx.getD 0 0 &&& ofNat 1) 7))) [] [] rfl fc rfl rfl fc rfl fc rfl
end Go.Proofs.YtimbdhpchlakfaaGreat
namespace Go.Proofs.YtimbdhpchlakfaaGreat
open Go Go.Sx Go.Cu
theorem aLF (b:List UInt8):gg (b.getD 31 0) 7 = ofNat 1 ↔ rx b:=by
 have h:∀ z:Fin 256,gg (ofNat z.val) 7 = ofNat 1 ↔ 128 <= z.val:=by decide +kernel
 have h2:=h ⟨(b.getD 31 0).toNat,(b.getD 31 0).toNat_lt⟩
 rw [ofNat_toNat] at h2;exact h2
theorem xO:leB 0 = replicate 32 0:=by decide +kernel
theorem aKB {b:List UInt8} (h:okD b) {x y:List UInt64} (bx:Lb x) (by_:Lb y) (vx:fv x = aEW b) (vy:fv y = lk b):PR ⟨x,y,uO,ah x y⟩ (yB b):=by
 refine ⟨⟨bx,by_,jR,aE _ _⟩,⟨?_,?_,?_⟩,?_⟩
 ·simp only;rw [jS];exact xE
 ·simp only;rw [jS,vx,yA h];grind -lia -linarith (splits:=0)
 ·simp only;rw [jS,vy,x9 h];grind -lia -linarith (splits:=0)
 ·simp only;rw [aK bx by_,jS,vx,vy,yA h,x9 h];grind -lia -linarith (splits:=0)
def pt0:SV:=.agg [(5,.a64 (replicate 5 0)),(5,.a64 (replicate 5 0)),(5,.a64 (replicate 5 0)),(5,.a64 (replicate 5 0)),(1,.ff)]
def aUJ (b:List UInt8) (v:SV):Prop:=(okD b/\∃ o:PL,PR o (yB b)/\v = .tup [ptV o True,.tt]) \/ (¬ okD b/\v = .tup [pt0,.ff])
theorem aIE (b:List UInt8) (y x:List UInt64) (u:UInt8) (hy:Lb y) (vy:fv y = lk b) (hx:Lb x) (hr:fv x = dY (xxF (lk b))) (hsq:kz (xxF (lk b))) (heq:leB (ofF (jU b)) = jU b) (hu:u = ofNat 1 ↔ rx b)
  (hno:¬ (rx b/\dY (xxF (lk b)) = 0)) (T:Tm) (M:Mm)
  (hle:Le [] [(2,.ptr 2 0 none),(4,.u8 u),(5,.ptr 5 0 none),(8,.ptr 8 0 none)]
   [(2,.mem true 0 [(5,.a64 (replicate 5 0)),(5,.a64 (replicate 5 0)),(5,.a64 (replicate 5 0)),(5,.a64 (replicate 5 0)),(1,.ff)]),(5,.mem true 0 [(5,.a64 y)]),(8,.mem true 0 [(5,.a64 x)])] T M) :
  aRC Γ [11] Tryz.f85 11 [] T M (fun v _=>aUJ b v):=by
 have ok:okD b:=⟨heq,hsq,hno⟩
 have cO:=aML
 have lO:=jR.1
 have lx:=hx.1
 have ly:=hy.1
 have cN:=aMK x lx
 have bN:=rS x
 have lN:=bN.1
 have vN:=vL hx
 have cM1:=ig (uP x) y lN ly
 have lM1:=(aE (uP x) y).1
 have cM2:=ig x y lx ly
 have lM2:=(aE x y).1
 have r1:rx b->PR ⟨uP x,y,uO,ah (uP x) y⟩ (yB b):=fun ho=>aKB ok bN hy (by rw [vN,hr];unfold aEW;rw [if_pos ho];rfl) vy
 have r2:¬ rx b->PR ⟨x,y,uO,ah x y⟩ (yB b):=fun ho=>aKB ok hx hy (by rw [hr];unfold aEW;rw [if_neg ho];rfl) vy
 generalize ah (uP x) y = t1 at *
 generalize ah x y = t2 at *
 generalize uP x = n at *
 generalize uO = one at *
 refine Cut.intro (σ:=Unit) (fun _=>True) (fun _=>([(2,.ptr 2 0 none),(4,.u8 u),(5,.ptr 5 0 none),(8,.ptr 8 0 none)],
   [(2,.mem true 0 [(5,.a64 (replicate 5 0)),(5,.a64 (replicate 5 0)),(5,.a64 (replicate 5 0)),(5,.a64 (replicate 5 0)),(1,.ff)]),(5,.mem true 0 [(5,.a64 y)]),(8,.mem true 0 [(5,.a64 x)])])) () trivial hle ?_
 rintro - -
 repeat refine sd ?_
 refine zB.intro (fun h=>?_) (fun h=>?_)
 ·have h:u = ofNat 1:=h
  have hR:=r1 (hu.1 h)
  repeat refine sd ?_
  refine Call.pure cN rfl fc ?_
  rintro _ rfl
  repeat (first|refine gi ?_|refine gt ?_|refine ga ?_|refine sd ?_)
  refine aI.intro [[],[],[],[],[],[2,3,4],r_6,r_7,r_8] [0,1,3,4,2,5,6,7,8] (by kernel_rfl) ?_
  repeat (first|refine gi ?_|refine gt ?_|refine ga ?_|refine sd ?_)
  refine Call.pure cO rfl fc ?_
  rintro _ rfl
  repeat (first|refine gi ?_|refine gt ?_|refine ga ?_|refine sd ?_)
  refine Call.pure cM1 rfl fc ?_
  rintro _ rfl
  repeat (first|refine gi ?_|refine gt ?_|refine ga ?_|refine sd ?_)
  refine Ret.intro (.tup [.agg [(5,.a64 n),(5,.a64 y),(5,.a64 one),(5,.a64 t1),(1,.bool True)],.tt]) [] [] rfl fc (Or.inl ⟨ok,_,hR,rfl⟩) rfl fc rfl fc rfl
 ·have h:¬ u = ofNat 1:=h
  have hR:=r2 (fun e=>h (hu.2 e))
  refine aI.intro [[],[],[],[],[],[2,3,4],r_6,r_7,r_8] [0,1,3,4,2,5,6,7,8] (by kernel_rfl) ?_
  repeat (first|refine gi ?_|refine gt ?_|refine ga ?_|refine sd ?_)
  refine Call.pure cO rfl fc ?_
  rintro _ rfl
  repeat (first|refine gi ?_|refine gt ?_|refine ga ?_|refine sd ?_)
  refine Call.pure cM2 rfl fc ?_
  rintro _ rfl
  repeat (first|refine gi ?_|refine gt ?_|refine ga ?_|refine sd ?_)
  refine Ret.intro (.tup [.agg [(5,.a64 x),(5,.a64 y),(5,.a64 one),(5,.a64 t2),(1,.bool True)],.tt]) [] [] rfl fc (Or.inl ⟨ok,_,hR,rfl⟩) rfl fc rfl fc rfl
theorem aV6 (b:List UInt8) (hb:b.length = 32):Sx.Fn Γ.P 85 [.a8 b] [] (fun v _=>aUJ b v):=by
 have hL:jU b = b.set 31 (b.getD 31 0 &&& ofNat 127):=rfl
 have lL:=oA b
 rw [hb] at lL
 have hu:=aLF b
 have hdef:okD b ↔ (leB (ofF (jU b)) = jU b/\kz (xxF (lk b))/\¬ (rx b/\dY (xxF (lk b)) = 0)):=Iff.rfl
 have tl:=aIE b
 have vY0:ofF (jU b) = lk b:=rfl
 have cO:=aML
 have cF:=aQF
 have cOf:=aMI (jU b) lL
 have bY:=(dt (jU b)).2
 have vY:=aJE (jU b)
 rw [vY0] at vY hdef tl
 generalize lk b = Y at *
 generalize jU b = L at *
 generalize ofL L = y at *
 have lY:=bY.1
 have cB:=bl y lY
 rw [vY] at cB
 have lB:=aZ Y
 have c1:=ig y y lY lY
 have b1:=aE y y
 have v1:=aK bY bY
 generalize ah y y = yy at *
 have l1:=b1.1
 have bO:=jR
 have vO:=jS
 have bF:=ri
 have vF:=aEE
 generalize uO = one at *
 generalize aJ5 = fac at *
 have lO:=bO.1
 have lF:=bF.1
 have c2:=pg yy one l1 lO
 have b2:=al yy one
 have v2:=dq b1 bO
 generalize iu yy one = s at *
 have l2:=b2.1
 have c3:=ig fac yy lF l1
 have b3:=aE fac yy
 have v3:=aK bF b1
 generalize ah fac yy = m at *
 have l3:=b3.1
 have c4:=rf m one l3 lO
 have b4:=aq m one
 have v4:=fA b3 bO
 generalize iz m one = d at *
 have l4:=b4.1
 have c5:=aNR d l4
 have b5:=gR d
 have v5:=rZ b4
 generalize jl d = i at *
 have l5:=b5.1
 have c6:=ig s i l2 l5
 have b6:=aE s i
 have v6:=aK b2 b5
 generalize ah s i = xx at *
 have l6:=b6.1
 have vX:fv xx = xxF Y:=by
  rw [v6,v2,v5,v4,v3,v1,vO,vF,vY];rfl
 have c7:=aT1 xx b6
 unfold aK3 at c7
 rw [vX] at c7
 refine ci [11] (Γ:=Γ) (fn:=Tryz.f85) rfl rfl rfl rfl ?_
 repeat refine sd ?_
 refine Call.pure cOf rfl fc ?_
 rintro _ rfl
 repeat (first|refine gi ?_|refine gt ?_|refine ga ?_|refine sd ?_)
 refine aI.intro [[],[0],[],[0,1,2]] [0,2,1,3] (by kernel_rfl) ?_
 repeat (first|refine gi ?_|refine gt ?_|refine ga ?_|refine sd ?_)
 refine Call.pure cB rfl fc ?_
 rintro _ rfl
 repeat (first|refine gi ?_|refine gt ?_|refine ga ?_|refine sd ?_)
 refine zB.intro (fun h=>?_) (fun h=>?_)
 ·have h:¬ leB Y = L:=by rw [hL];exact h
  repeat refine sd ?_
  refine Ret.intro (.tup [pt0,.ff]) [] [] rfl fc (Or.inr ⟨(fun e=>h (hdef.1 e).1),rfl⟩) rfl fc rfl fc rfl
 have h:leB Y = L:=by rw [hL];exact Classical.not_not.1 h
 repeat refine sd ?_
 refine Call.pure c1 rfl fc ?_
 rintro _ rfl
 repeat (first|refine gi ?_|refine gt ?_|refine ga ?_|refine sd ?_)
 refine aI.intro [[],[],[0,1],[0,1,2],[],r_5,r_6,r_7,r_8,r_9,[],fy] [0,4,10,1,2,3,5,6,7,8,9,11] (by kernel_rfl) ?_
 repeat (first|refine gi ?_|refine gt ?_|refine ga ?_|refine sd ?_)
 refine Call.pure cO rfl fc ?_
 rintro _ rfl
 repeat (first|refine gi ?_|refine gt ?_|refine ga ?_|refine sd ?_)
 refine Call.pure c2 rfl fc ?_
 rintro _ rfl
 repeat (first|refine gi ?_|refine gt ?_|refine ga ?_|refine sd ?_)
 refine Call.pure cF rfl fc ?_
 rintro _ rfl
 repeat (first|refine gi ?_|refine gt ?_|refine ga ?_|refine sd ?_)
 refine Call.pure c3 rfl fc ?_
 rintro _ rfl
 repeat (first|refine gi ?_|refine gt ?_|refine ga ?_|refine sd ?_)
 refine Call.pure cO rfl fc ?_
 rintro _ rfl
 repeat (first|refine gi ?_|refine gt ?_|refine ga ?_|refine sd ?_)
 refine Call.pure c4 rfl fc ?_
 rintro _ rfl
 repeat (first|refine gi ?_|refine gt ?_|refine ga ?_|refine sd ?_)
 refine Call.pure c5 rfl fc ?_
 rintro _ rfl
 repeat (first|refine gi ?_|refine gt ?_|refine ga ?_|refine sd ?_)
 refine Call.pure c6 rfl fc ?_
 rintro _ rfl
 repeat (first|refine gi ?_|refine gt ?_|refine ga ?_|refine sd ?_)
 refine Call.pure c7 rfl fc ?_
 rintro v (⟨hsq,x,bx,vx,rfl⟩ | ⟨hsq,rfl⟩)
 ·have lx:=bx.1
  have cX:=bl x lx
  rw [vx] at cX
  have lX:=aZ (dY (xxF Y))
  by_cases ho:gg (b.getD 31 0) 7 = ofNat 1
  ·repeat (first|refine sd ?_|(refine zB.intro (fun _=>?_) (fun hn=>absurd ho hn)))
   refine Call.pure cX rfl fc ?_
   rintro _ rfl
   repeat (first|refine sd ?_|(refine zB.intro (fun _=>?_) (fun hn=>absurd ho hn)))
   refine zB.intro (fun hz=>?_) (fun hz=>?_)
   ·have hz:leB (dY (xxF Y)) = replicate 32 0:=hz
    have hz0:dY (xxF Y) = 0:=vk (by rw [hz,xO])
    repeat refine sd ?_
    refine Ret.intro (.tup [pt0,.ff]) [] [] rfl fc (Or.inr ⟨(fun e=>(hdef.1 e).2.2 ⟨hu.1 ho,hz0⟩),rfl⟩) rfl fc rfl fc rfl
   ·have hz:¬ leB (dY (xxF Y)) = replicate 32 0:=hz
    refine tl y x (gg (b.getD 31 0) 7) bY vY bx vx hsq h hu (fun e=>hz (by rw [e.2,xO])) _ _ (Le.intro [] rfl fc rfl fc rfl)
  ·repeat (first|refine sd ?_|(refine zB.intro (fun hn=>absurd hn ho) (fun _=>?_)))
   refine tl y x (gg (b.getD 31 0) 7) bY vY bx vx hsq h hu (fun e=>ho (hu.2 e.1)) _ _ (Le.intro [] rfl fc rfl fc rfl)
 ·repeat refine sd ?_
  refine Ret.intro (.tup [pt0,.ff]) [] [] rfl fc (Or.inr ⟨(fun e=>hsq (hdef.1 e).2.1),rfl⟩) rfl fc rfl fc rfl
theorem aWF:Sx.Fn Γ.P 63 [] [] (fun v _=>∃ o:PL,PR o basP/\v = ptV o True):=by
 have cD:=aV6 basB rfl
 have hok:=aKG
 unfold aUJ at cD
 rw [aFE] at cD
 have e32:(replicate 32 (ofNat 102)).set 0 (ofNat 88) = basB:=rfl
 generalize basB = B at *
 refine aF (Γ:=Γ) (fn:=Tryz.f63) rfl rfl rfl rfl ?_
 repeat refine sd ?_
 refine ac.intro (σ:=Nat) (fun i=>i <= 32) (fun i=>([(0,.ptr 0 0 none),(1,.ptr 1 0 none),(5,.i .i64 i)],
  [(0,.mem true 0 [(5,.a64 (replicate 5 0)),(5,.a64 (replicate 5 0)),(5,.a64 (replicate 5 0)),(5,.a64 (replicate 5 0)),(1,.ff)]),(1,.mem true 0 [(32,.a8 (replicate i (ofNat 102) ++ replicate (32 - i) 0))])])) (fun i=>32 - i) 0 (zero_le _) ?_ ?_
 ·refine Le.intro [] rfl fc rfl fc rfl
 rintro i hi
 refine zB.intro (fun hc=>?_) (fun hc=>?_)
 ·have hc:(i:Int) < 32:=hc
  have hn:replicate (i + 1) (ofNat 102) ++ replicate (32 - (i + 1)) 0 = (replicate i (ofNat 102) ++ replicate (32 - i) 0).set i (ofNat 102):=by
   have e1:replicate (i + 1) (ofNat 102) = replicate i (ofNat 102) ++ [ofNat 102]:=List.replicate_succ'
   have e2:replicate (32 - i) (0:UInt8) = 0 :: replicate (32 - (i + 1)) 0:=by rw [show 32 - i = 32 - (i + 1) + 1 by omega];rfl
   rw [e1,e2,List.append_assoc,List.set_append_right _ _ (by rw [length_replicate];omega),length_replicate,Nat.sub_self];rfl
  have hl:(replicate i (ofNat 102) ++ replicate (32 - i) 0).length = 32:=by rw [zlA,length_replicate,length_replicate];omega
  generalize replicate i (ofNat 102) ++ replicate (32 - i) 0 = X at *
  repeat refine sdn ?_
  refine ⟨i + 1,by omega,by omega,Le.intro [] rfl ?_ rfl ?_ rfl⟩
  ·exact fcn
  ·exact fcn
 obtain rfl:i = 32:=by have hc:¬ (i:Int) < 32:=hc;omega
 have hX:(replicate 32 (ofNat 102) ++ replicate (32 - 32) 0).set 0 (ofNat 88) = B:=e32
 have hl:(replicate 32 (ofNat 102) ++ replicate (32 - 32) 0).length = 32:=rfl
 generalize replicate 32 (ofNat 102) ++ replicate (32 - 32) 0 = X at *
 have lB:B.length = 32:=by rw [<- hX,List.length_set];exact hl
 repeat refine sd ?_
 refine Call.pure cD rfl ?_ ?_
 ·repeat' first|exact trivial|refine zA.app ?_ ?_|refine zA.zd ?_ ?_|refine zA.cons ?_ ?_|exact fc|fail
  all_goals exact hX.symm
 rintro v (⟨_,o,ho,rfl⟩ | ⟨hno,rfl⟩)
 ·obtain ⟨o1,o2,o3,o4⟩:=ho.1.len
  unfold ptV
  repeat (first|refine gi ?_|refine gt ?_|refine ga ?_|refine sd ?_)
  refine Ret.intro (.agg [(5,.a64 o.x),(5,.a64 o.y),(5,.a64 o.z),(5,.a64 o.t),(1,.bool True)]) [] [] rfl fc ⟨o,ho,rfl⟩ rfl fc rfl fc rfl
 ·exact absurd hok hno
end Go.Proofs.YtimbdhpchlakfaaGreat
namespace Go.Proofs.YtimbdhpchlakfaaGreat
open Go Go.Sx Go.Cu
def cmI (n:List UInt8) (P:Pt) (s:Nat × PL × Prop):Prop:=s.1 <= 256/\PS s.2.1 s.2.2 (P.mul (lv n / 2 ^ (256 - s.1)))
def cmT (s:Nat × PL × Prop):Tm:=[(2,.ptr 2 0 none),(3,.ptr 3 0 none),(4,.ptr 4 0 none),(5,.ptr 5 0 none),(6,.i .i64 (255 - (s.1:Int)))]
def cmM (n:List UInt8) (p:PL) (r:Prop) (s:Nat × PL × Prop):Mm:=[(2,.mem true 0 [(32,.a8 n)]),(3,.mem true 0 [(5,.a64 p.x),(5,.a64 p.y),(5,.a64 p.z),(5,.a64 p.t),(1,.bool r)]),
 (4,.mem true 0 [(5,.a64 (replicate 5 0)),(5,.a64 (replicate 5 0)),(5,.a64 (replicate 5 0)),(5,.a64 (replicate 5 0)),(1,.ff)]),
 (5,.mem true 0 [(5,.a64 s.2.1.x),(5,.a64 s.2.1.y),(5,.a64 s.2.1.z),(5,.a64 s.2.1.t),(1,.bool s.2.2)])]
theorem aWH (n:List UInt8) (hn:n.length = 32) (p:PL) (r:Prop) (P:Pt) (hp:PS p r P):Sx.Fn Γ.P 61 [.a8 n,ptV p r] [] (fun v _=>∃ (o:PL) (s:Prop),PS o s (P.mul (lv n))/\v = ptV o s):=by
 obtain ⟨⟨p1,p2,p3,p4⟩,_,_⟩:=id hp
 have hlt:=aG9 n
 rw [hn] at hlt
 have hbd:(Tryz.f61).body = some (.seq _ (.scope _)):=rfl
 show Sx.Fn Γ.P 61 [.a8 n,.agg [(5,.a64 p.x),(5,.a64 p.y),(5,.a64 p.z),(5,.a64 p.t),(1,.bool r)]] [] _
 refine xi [3,1000008] (Γ:=Γ) (fn:=Tryz.f61) rfl hbd rfl rfl ?_
 clear hbd
 repeat refine sd ?_
 refine mZ.intro [0] (fun _ s=>cmI n P s) (fun _ s=>(cmT s,cmM n p r s)) (fun _ s=>256 - s.1) rfl ?_ ⟨?_,trivial⟩
 ·repeat refine sd ?_
  refine Cut.intro (σ:=Nat × PL × Prop) (cmI n P) (fun s=>(cmT s,cmM n p r s)) (0,⟨replicate 5 0,replicate 5 0,replicate 5 0,replicate 5 0⟩,False)
   ⟨zero_le _,⟨rfl,rfl,rfl,rfl⟩,False.elim,fun _=>by show P.mul (lv n / 2 ^ 256) = .O;rw [Nat.div_eq_of_lt hlt];rfl⟩ (Le.intro [] rfl ?_ rfl ?_ rfl) ?_
  ·exact fc
  ·repeat' first|exact trivial|refine zA.app ?_ ?_|refine zA.zd ?_ ?_|refine zA.cons ?_ ?_|exact fc|fail
   all_goals exact id
  rintro ⟨k,a,q⟩ hI
  have hk:k <= 256:=hI.1
  have hS:PS a q (P.mul (lv n / 2 ^ (256 - k))):=hI.2
  unfold cmT cmM
  obtain ⟨⟨a1,a2,a3,a4⟩,_,_⟩:=hI.2
  have hAA:=aRS a a q q _ _ hS hS
  rw [Pt.mul_dbl] at hAA
  repeat refine sd ?_
  refine zB.intro (fun hc=>?_) (fun hc=>?_)
  ·have hc:255 - (k:Int) < 0:=hc
   obtain rfl:k = 256:=by omega
   have e:lv n / 2 ^ (256 - 256) = lv n:=by rw [Nat.sub_self,Nat.pow_zero,Nat.div_one]
   rw [e] at hS
   repeat refine sd ?_
   refine Ret.intro (ptV a q) [] [] rfl fc ⟨a,q,hS,rfl⟩ rfl fc rfl fc rfl
  have hc:¬ 255 - (k:Int) < 0:=hc
  obtain ⟨i,hi⟩:∃ i,i = 255 - k:=⟨_,rfl⟩
  have g1:256 - k = i + 1:=by omega
  have g2:256 - (k + 1) = i:=by omega
  have e0:((255 - (k:Int)) / 8).toNat = i / 8:=by omega
  have e1:((255 - (k:Int)) % 8).toNat = i % 8:=by omega
  have hbit:fq n i = gg (n.getD (i / 8) 0) (i % 8) &&& ofNat 1:=rfl
  have hbv:=il n i
  have htop:=Pt.mul_top P (lv n) i
  rw [g1] at hAA
  clear hS
  unfold ptV at hAA
  repeat refine sd ?_
  refine Call.pure hAA rfl fc ?_
  rintro v ⟨o,ho,rfl⟩
  obtain ⟨o1,o2,o3,o4⟩:=ho.1.len
  repeat refine sd ?_
  refine aF2.intro (σ:=PL) (fun o=>PR o (P.mul (lv n / 2 ^ i))) (fun o=>([(2,.ptr 2 0 none),(3,.ptr 3 0 none),(4,.ptr 4 0 none),(5,.ptr 5 0 none),(6,.i .i64 (255 - (k:Int)))],
   [(2,.mem true 0 [(32,.a8 n)]),(3,.mem true 0 [(5,.a64 p.x),(5,.a64 p.y),(5,.a64 p.z),(5,.a64 p.t),(1,.bool r)]),
   (4,.mem true 0 [(5,.a64 (replicate 5 0)),(5,.a64 (replicate 5 0)),(5,.a64 (replicate 5 0)),(5,.a64 (replicate 5 0)),(1,.ff)]),
   (5,.mem true 0 [(5,.a64 o.x),(5,.a64 o.y),(5,.a64 o.z),(5,.a64 o.t),(1,.bool True)])])) ?_ ?_
  ·repeat refine sdI ?_
   refine zB.intro (fun hb=>?_) (fun hb=>?_)
   ·have hb:gg (n.getD ((255 - (k:Int)) / 8).toNat 0) ((255 - (k:Int)) % 8).toNat &&& ofNat 1 = ofNat 1:=hb
    rw [e0,e1,<- hbit] at hb
    rw [hb] at hbv
    have hb1:lv n / 2 ^ i % 2 = 1:=hbv.symm
    rw [if_pos hb1] at htop
    have hAP:=aRS o p True r _ _ ho.ps hp
    rw [<- htop] at hAP
    unfold ptV at hAP
    repeat refine sd ?_
    refine Call.pure hAP rfl fc ?_
    rintro v ⟨w,hw,rfl⟩
    obtain ⟨w1,w2,w3,w4⟩:=hw.1.len
    repeat refine sd ?_
    refine ⟨w,hw,Le.intro [] rfl fc rfl fc rfl⟩
   ·have hb:¬ gg (n.getD ((255 - (k:Int)) / 8).toNat 0) ((255 - (k:Int)) % 8).toNat &&& ofNat 1 = ofNat 1:=hb
    rw [e0,e1,<- hbit] at hb
    have hb1:¬ lv n / 2 ^ i % 2 = 1:=fun e=>hb (UInt8.toNat_inj.1 (hbv.trans e))
    rw [if_neg hb1] at htop
    rw [<- htop] at ho
    repeat refine sd ?_
    refine ⟨o,ho,Le.intro [] rfl fc rfl fc rfl⟩
  clear ho o1 o2 o3 o4 htop hAA
  rintro w hw
  obtain ⟨w1,w2,w3,w4⟩:=hw.1.len
  repeat refine sd ?_
  refine ⟨rfl,(k + 1,w,True),⟨by show k + 1 <= 256;omega,by show PS w True (P.mul (lv n / 2 ^ (256 - (k + 1))));rw [g2];exact hw.ps⟩,trivial,Le.intro [] rfl fc rfl fc rfl⟩
 ·rintro ⟨k,a,q⟩ hI
  have ⟨k1,k2,k3,k4⟩:=hI.2.1
  refine Cut.intro (σ:=Unit) (fun _=>True) (fun _=>(cmT (k,a,q),cmM n p r (k,a,q))) () trivial (Le.intro [] rfl fc rfl fc rfl) ?_
  rintro - -
  have hk:k <= 256:=hI.1
  have hS:PS a q (P.mul (lv n / 2 ^ (256 - k))):=hI.2
  unfold cmT cmM
  obtain ⟨⟨a1,a2,a3,a4⟩,_,_⟩:=hI.2
  have hAA:=aRS a a q q _ _ hS hS
  rw [Pt.mul_dbl] at hAA
  repeat refine sd ?_
  refine zB.intro (fun hc=>?_) (fun hc=>?_)
  ·have hc:255 - (k:Int) < 0:=hc
   obtain rfl:k = 256:=by omega
   have e:lv n / 2 ^ (256 - 256) = lv n:=by rw [Nat.sub_self,Nat.pow_zero,Nat.div_one]
   rw [e] at hS
   repeat refine sd ?_
   refine Ret.intro (ptV a q) [] [] rfl fc ⟨a,q,hS,rfl⟩ rfl fc rfl fc rfl
  have hc:¬ 255 - (k:Int) < 0:=hc
  obtain ⟨i,hi⟩:∃ i,i = 255 - k:=⟨_,rfl⟩
  have g1:256 - k = i + 1:=by omega
  have g2:256 - (k + 1) = i:=by omega
  have e0:((255 - (k:Int)) / 8).toNat = i / 8:=by omega
  have e1:((255 - (k:Int)) % 8).toNat = i % 8:=by omega
  have hbit:fq n i = gg (n.getD (i / 8) 0) (i % 8) &&& ofNat 1:=rfl
  have hbv:=il n i
  have htop:=Pt.mul_top P (lv n) i
  rw [g1] at hAA
  clear hS
  unfold ptV at hAA
  repeat refine sd ?_
  refine Call.pure hAA rfl fc ?_
  rintro v ⟨o,ho,rfl⟩
  obtain ⟨o1,o2,o3,o4⟩:=ho.1.len
  repeat refine sd ?_
  refine aF2.intro (σ:=PL) (fun o=>PR o (P.mul (lv n / 2 ^ i))) (fun o=>([(2,.ptr 2 0 none),(3,.ptr 3 0 none),(4,.ptr 4 0 none),(5,.ptr 5 0 none),(6,.i .i64 (255 - (k:Int)))],
   [(2,.mem true 0 [(32,.a8 n)]),(3,.mem true 0 [(5,.a64 p.x),(5,.a64 p.y),(5,.a64 p.z),(5,.a64 p.t),(1,.bool r)]),
   (4,.mem true 0 [(5,.a64 (replicate 5 0)),(5,.a64 (replicate 5 0)),(5,.a64 (replicate 5 0)),(5,.a64 (replicate 5 0)),(1,.ff)]),
   (5,.mem true 0 [(5,.a64 o.x),(5,.a64 o.y),(5,.a64 o.z),(5,.a64 o.t),(1,.bool True)])])) ?_ ?_
  ·repeat refine sdI ?_
   refine zB.intro (fun hb=>?_) (fun hb=>?_)
   ·have hb:gg (n.getD ((255 - (k:Int)) / 8).toNat 0) ((255 - (k:Int)) % 8).toNat &&& ofNat 1 = ofNat 1:=hb
    rw [e0,e1,<- hbit] at hb
    rw [hb] at hbv
    have hb1:lv n / 2 ^ i % 2 = 1:=hbv.symm
    rw [if_pos hb1] at htop
    have hAP:=aRS o p True r _ _ ho.ps hp
    rw [<- htop] at hAP
    unfold ptV at hAP
    repeat refine sd ?_
    refine Call.pure hAP rfl fc ?_
    rintro v ⟨w,hw,rfl⟩
    obtain ⟨w1,w2,w3,w4⟩:=hw.1.len
    repeat refine sd ?_
    refine ⟨w,hw,Le.intro [] rfl fc rfl fc rfl⟩
   ·have hb:¬ gg (n.getD ((255 - (k:Int)) / 8).toNat 0) ((255 - (k:Int)) % 8).toNat &&& ofNat 1 = ofNat 1:=hb
    rw [e0,e1,<- hbit] at hb
    have hb1:¬ lv n / 2 ^ i % 2 = 1:=fun e=>hb (UInt8.toNat_inj.1 (hbv.trans e))
    rw [if_neg hb1] at htop
    rw [<- htop] at ho
    repeat refine sd ?_
    refine ⟨o,ho,Le.intro [] rfl fc rfl fc rfl⟩
  clear ho o1 o2 o3 o4 htop hAA
  rintro w hw
  obtain ⟨w1,w2,w3,w4⟩:=hw.1.len
  repeat refine sd ?_
  refine ⟨rfl,(k + 1,w,True),⟨by show k + 1 <= 256;omega,by show PS w True (P.mul (lv n / 2 ^ (256 - (k + 1))));rw [g2];exact hw.ps⟩,(by show 256 - (k + 1) < 256 - k;omega),Le.intro [] rfl fc rfl fc rfl⟩
end Go.Proofs.YtimbdhpchlakfaaGreat
namespace Go.Proofs.YtimbdhpchlakfaaGreat
open Go Go.Sx
def muT (x y:UInt64):UInt64:=aG x 32 * (y &&& UInt64.ofNat 4294967295) + aG ((x &&& UInt64.ofNat 4294967295) * (y &&& UInt64.ofNat 4294967295)) 32
def muH (x y:UInt64):UInt64:=aG x 32 * aG y 32 + aG (muT x y) 32 + aG ((muT x y &&& UInt64.ofNat 4294967295) + (x &&& UInt64.ofNat 4294967295) * aG y 32) 32
end Go.Proofs.YtimbdhpchlakfaaGreat
namespace Go.Proofs.YtimbdhpchlakfaaGreat
open Go Go.Sx
def dv (l:List Int):Nat->Int
 | 0=>0
 | n + 1=>dv l n + l.getD n 0 * 65536 ^ n
def Dig (l:List Int):Prop:=∀ i,0 <= l.getD i 0/\l.getD i 0 < 65536
theorem aH {α:Type} {l:List α} {i:Nat} {x d:α} (h:i < l.length):(l.set i x).getD i d = x:=by
 rw [getD_eq_getElem?_getD,List.getElem?_set_self h];rfl
theorem aA {α:Type} {l:List α} {i j:Nat} {x d:α} (h:i ≠ j):(l.set i x).getD j d = l.getD j d:=by
 rw [getD_eq_getElem?_getD,List.getElem?_set_ne h,<- getD_eq_getElem?_getD]
theorem fJ {α:Type} {l:List α} {i:Nat} {d:α} (h:l.length <= i):l.getD i d = d:=by
 rw [getD_eq_getElem?_getD,List.getElem?_eq_none h];rfl
theorem Dig.set {l:List Int} (h:Dig l) {i:Nat} {x:Int} (h0:0 <= x) (h1:x < 65536):Dig (l.set i x):=by
 intro j
 by_cases hj:i = j
 ·subst hj
  rcases Nat.lt_or_ge i l.length with hl | hl
  ·rw [aH hl];exact ⟨h0,h1⟩
  ·rw [List.set_eq_of_length_le hl];exact h i
 ·rw [aA hj];exact h j
theorem Dig.rep (n:Nat):Dig (replicate n 0):=by
 intro j
 rw [getD_eq_getElem?_getD,List.getElem?_replicate]
 split <;> decide
theorem kI {l m:List Int}:∀ {n:Nat},(∀ i,i < n->l.getD i 0 = m.getD i 0)->dv l n = dv m n
 | 0,_=>rfl
 | n + 1,h=>by simp only [dv];rw [kI fun i hi=>h i (by omega),h n (by omega)]
theorem aEP {l:List Int} {i n:Nat} {x:Int} (h:n <= i):dv (l.set i x) n = dv l n:=
 kI fun j hj=>aA (by omega)
theorem eu {l:List Int} {i:Nat} {x:Int} (h:i < l.length):dv (l.set i x) (i + 1) = dv l i + x * 65536 ^ i:=by
 simp only [dv];rw [aEP (le_refl _),aH h]
theorem so (n:Nat):(0:Int) < 65536 ^ n:=Int.pow_pos (by decide)
theorem ab {l:List Int} (h:Dig l):∀ n,0 <= dv l n/\dv l n < 65536 ^ n
 | 0=>⟨Int.le_refl _,by show (0:Int) < 1;decide⟩
 | n + 1=>by
  obtain ⟨h1,h2⟩:=ab h n
  obtain ⟨h3,h4⟩:=h n
  have hp:=so n
  have h5:0 <= l.getD n 0 * 65536 ^ n:=Int.mul_nonneg h3 (by omega)
  have h6:l.getD n 0 * 65536 ^ n <= 65535 * 65536 ^ n:=Int.mul_le_mul_of_nonneg_right (by omega) (by omega)
  simp only [dv]
  rw [Int.pow_succ]
  omega
theorem x7 {l:List Int} {a:Nat}:∀ {b:Nat},a <= b->(∀ i,a <= i->i < b->l.getD i 0 = 0)->dv l b = dv l a
 | 0,h,_=>by
  obtain rfl:a = 0:=by omega
  rfl
 | b + 1,h,hz=>by
  by_cases hab:a = b + 1
  ·rw [hab]
  ·simp only [dv]
   rw [x7 (by omega) fun i h1 h2=>hz i h1 (by omega),hz b (by omega) (by omega)]
   omega
theorem aJ8 {l m:List Int} (hl:Dig l) (hm:Dig m):∀ {n:Nat},dv l n = dv m n->∀ i,i < n->l.getD i 0 = m.getD i 0
 | 0,_,_,h=>absurd h (Nat.not_lt_zero _)
 | n + 1,h,i,hi=>by
  have hp:=so n
  obtain ⟨a1,a2⟩:=ab hl n
  obtain ⟨b1,b2⟩:=ab hm n
  simp only [dv] at h
  have e:l.getD n 0 = m.getD n 0:=by
   have h1:(dv l n + l.getD n 0 * 65536 ^ n) / 65536 ^ n = l.getD n 0:=by
    rw [Int.add_mul_ediv_right _ _ (by omega),Int.ediv_eq_zero_of_lt a1 a2,Int.zero_add]
   have h2:(dv m n + m.getD n 0 * 65536 ^ n) / 65536 ^ n = m.getD n 0:=by
    rw [Int.add_mul_ediv_right _ _ (by omega),Int.ediv_eq_zero_of_lt b1 b2,Int.zero_add]
   rw [<- h1,<- h2,h]
  rw [e] at h
  have h':dv l n = dv m n:=by omega
  rcases Nat.lt_or_ge i n with h1 | h1
  ·exact aJ8 hl hm h' i h1
  ·obtain rfl:i = n:=by omega
   exact e
theorem aQU {a b:List Int} (ha:Dig a) (hb:Dig b) {n i:Nat} (hi:i < n) (hd:a.getD i 0 < b.getD i 0) (hs:∀ j,i < j->j < n->a.getD j 0 = b.getD j 0):dv a n < dv b n:=by
 induction n with
 | zero=>omega
 | succ n ih=>
  simp only [dv]
  by_cases h:i = n
  ·subst h
   obtain ⟨a1,a2⟩:=ab ha i
   obtain ⟨b1,b2⟩:=ab hb i
   have hp:=so i
   have:(a.getD i 0 + 1) * 65536 ^ i <= b.getD i 0 * 65536 ^ i:=Int.mul_le_mul_of_nonneg_right (by omega) (by omega)
   rw [Int.add_mul] at this
   omega
  ·have h1:=ih (by omega) fun j h2 h3=>hs j h2 (by omega)
   rw [hs n (by omega) (by omega)]
   omega
end Go.Proofs.YtimbdhpchlakfaaGreat
namespace Go.Proofs.YtimbdhpchlakfaaGreat
open Go Go.Sx
def byS (d:List Int):Nat->List UInt8
 | 0=>replicate 32 0
 | i + 1=>((byS d i).set (2 * i) (UInt8.ofInt (d.getD i 0 % 256))).set (2 * i + 1) (UInt8.ofInt (d.getD i 0 / 256))
theorem byS_length (d:List Int):∀ i,(byS d i).length = 32
 | 0=>length_replicate
 | i + 1=>by simp only [byS,List.length_set,byS_length d i]
end Go.Proofs.YtimbdhpchlakfaaGreat
namespace Go.Proofs.YtimbdhpchlakfaaGreat
open Go Go.Sx
def sbS (r l:List Int):Nat->List Int × Int
 | 0=>(r,0)
 | i + 1=>if (sbS r l i).1.getD i 0 - l.getD i 0 - (sbS r l i).2 < 0 then ((sbS r l i).1.set i ((sbS r l i).1.getD i 0 - l.getD i 0 - (sbS r l i).2 + 65536),1)
  else ((sbS r l i).1.set i ((sbS r l i).1.getD i 0 - l.getD i 0 - (sbS r l i).2),0)
theorem cJ (r l:List Int):∀ i,(sbS r l i).1.length = r.length
 | 0=>rfl
 | i + 1=>by simp only [sbS];split <;> simp only [List.length_set,cJ r l i]
theorem aB4 (r l:List Int):∀ i j,i <= j->(sbS r l i).1.getD j 0 = r.getD j 0
 | 0,_,_=>rfl
 | i + 1,j,h=>by simp only [sbS];split <;> (show (List.set _ _ _).getD j 0 = _;rw [aA (by omega),aB4 r l i j (by omega)])
theorem uq {r l:List Int} (hr:Dig r) (hl:Dig l):∀ i,Dig (sbS r l i).1/\0 <= (sbS r l i).2/\(sbS r l i).2 <= 1
 | 0=>⟨hr,Int.le_refl _,by show (0:Int) <= 1;decide⟩
 | i + 1=>by
  obtain ⟨h1,h2,h3⟩:=uq hr hl i
  have a:=h1 i
  have b:=hl i
  simp only [sbS]
  split
  ·exact ⟨h1.set (by omega) (by omega),by show (0:Int) <= 1;decide,by show (1:Int) <= 1;decide⟩
  ·exact ⟨h1.set (by omega) (by omega),by show (0:Int) <= 0;decide,by show (0:Int) <= 1;decide⟩
theorem aB3 (r l:List Int):∀ i,i <= r.length->dv (sbS r l i).1 i - (sbS r l i).2 * 65536 ^ i = dv r i - dv l i
 | 0,_=>by simp only [sbS,dv];omega
 | i + 1,hi=>by
  have ih:=aB3 r l i (by omega)
  have hs:=aB4 r l i i (le_refl _)
  have hl:=cJ r l i
  simp only [sbS]
  rw [hs]
  generalize hB:(sbS r l i).2 = B at ih
  split
  ·show dv (List.set _ _ _) (i + 1) - 1 * 65536 ^ (i + 1) = _
   rw [eu (by omega)]
   simp only [dv]
   rw [Int.pow_succ]
   generalize (65536:Int) ^ i = p at *
   have:(r.getD i 0 - l.getD i 0 - B + 65536) * p = r.getD i 0 * p - l.getD i 0 * p - B * p + 65536 * p:=by rw [Int.add_mul,sub_mul,sub_mul]
   omega
  ·show dv (List.set _ _ _) (i + 1) - 0 * 65536 ^ (i + 1) = _
   rw [eu (by omega)]
   simp only [dv]
   generalize (65536:Int) ^ i = p at *
   have:(r.getD i 0 - l.getD i 0 - B) * p = r.getD i 0 * p - l.getD i 0 * p - B * p:=by rw [sub_mul,sub_mul]
   omega
theorem x8 (n:Nat):∀ k,dv (replicate n 0) k = 0
 | 0=>rfl
 | k + 1=>by
  simp only [dv]
  rw [x8 n k,getD_eq_getElem?_getD,List.getElem?_replicate]
  split <;> simp
end Go.Proofs.YtimbdhpchlakfaaGreat
namespace Go.Sx
open Go
abbrev rnd (l:Nat):Fence:=Fence.wide.inRound l
theorem bH.sub {N:Nat} {ρ:Env} {T T0:Tm} {M:Mm} {a:Act} {w:World} (hc:bH N ρ T M a w) (h:∀ d,zX T0 d = .und \/ zX T0 d = zX T d):bH N ρ T0 M a w:=
 ⟨hc.tozF,hc.sz,hc.defers,fun d=>by
  rcases h d with h | h
  ·rw [h];exact zR trivial
  ·rw [h];exact hc.tm d⟩
def aCV:Mm->Bool
 | []=>true
 | (_,e) :: r=>(match e with
  | .map _=>false
  | _=>true) && aCV r
theorem tD:∀ {M:Mm},aCV M = true->∀ {a:Nat} {m:MpV},zG M a ≠ some (.map m)
 | [],_,_,_,h=>by simp [zG] at h
 | (b,e) :: r,hn,a,m,h=>by
  simp only [aCV,zbA] at hn
  by_cases hab:a = b
  ·subst hab
   rw [zh] at h
   simp only [zoI] at h;subst h
   cases hn.1
  ·rw [zg hab] at h
   exact tD hn.2 h
theorem aCN {ρ:Env} {M:Mm} {w:World} (hM:zF ρ M w) (hnm:aCV M = true) {b o:Nat} (h:dn ρ M b o):∃ v,w.cell? ⟨b,o,none⟩ = some v:=by
 obtain ⟨a,e,he,hown,hf⟩:=h
 have hs:=hM.sat a e he
 cases e with
 | dead=>cases hown
 | map m=>exact absurd he (tD hnm)
 | mem own sp ls=>
  cases own with
  | false=>cases hown
  | true=>
   obtain ⟨f1,f2,f3⟩:=hf
   simp only [if_true] at f3
   obtain ⟨cs,h1,h2,h3,h4⟩:=hs
   obtain ⟨⟨v,hv⟩,_⟩:=h4 rfl (o - (ρ.pos a).2) (by omega)
   refine ⟨v,?_⟩
   rw [f1]
   rw [show (ρ.pos a).2 + (o - (ρ.pos a).2) = o by omega] at hv
   exact hv
theorem aU.others {ρ ρ':Env} {M M':Mm} {w w':World} (h:aU ρ M ρ' M' w w') (hM:zF ρ M w) (hnm:aCV M = true:=by rfl):KeepsOthers w w':=by
 refine ⟨h.size,fun k o hk ho=>?_⟩
 rw [h.blk k (Array.getElem?_eq_some_iff.1 hk).1 fun j hj=>?_]
 ·exact hk
 ·obtain ⟨v,hv⟩:=aCN hM hnm hj
  obtain ⟨o',ho',hc⟩:=cells_of_cell hv
  rw [hk] at ho'
  cases ho'
  rw [ho] at hc;cases hc
end Go.Sx
namespace Go.Proofs.YtimbdhpchlakfaaGreat
open Go Go.Sx
structure aRD (b1 o1 b2 o2 n:Nat) (b:List UInt8) (x:Option Addr) (c:Nat) (W:World):Prop where
 cell:W.cell? ⟨b1,o1,none⟩ = some (.slice x n c)
 bytes:∀ j,j < n->W.cell? ⟨b2,o2 + j,none⟩ = some (w8 (b.getD j 0))
section
variable {b1 o1 b2 o2 n:Nat} {b:List UInt8} {x:Option Addr} {c:Nat}
def aWY (b1 o1 b2 o2:Nat):Env:=⟨fun a=>a = 1 \/ a = 2,fun a=>if a = 1 then (b1,o1) else (b2,o2),fun _ _ _=>False⟩
def aPC (n:Nat) (b:List UInt8):Mm:=[(1,.mem false 0 [(1,.slx 2 0 0 n)]),(2,.mem false 0 [(n,.a8 b)])]
theorem qR {W:World} {k o:Nat} {v:Value} (h:W.cell? ⟨k,o,none⟩ = some v):k < W.heap.size:=by
 unfold World.cell? at h
 simp only at h
 cases hb:W.heap[k]? with
 | none=>rw [hb] at h;cases h
 | some _=>exact (Array.getElem?_eq_some_iff.1 hb).1
theorem aRD.conc {W:World} (h:aRD b1 o1 b2 o2 n b x c W) (hb:b.length = n) (hnc:n <= c) (hx:c ≠ 0->x = some ⟨b2,o2,none⟩):zF (aWY b1 o1 b2 o2) (aPC n b) W:=by
 have g1:zG (aPC n b) 1 = some (.mem false 0 [(1,.slx 2 0 0 n)]):=rfl
 have g2:zG (aPC n b) 2 = some (.mem false 0 [(n,.a8 b)]):=rfl
 have gx:∀ {a e},zG (aPC n b) a = some e->(a = 1/\e = .mem false 0 [(1,.slx 2 0 0 n)]) \/ (a = 2/\e = .mem false 0 [(n,.a8 b)]):=by
  intro a e he
  by_cases h1:a = 1
  ·subst h1;rw [g1] at he;exact Or.inl ⟨rfl,(Option.some.inj he).symm⟩
  ·by_cases h2:a = 2
   ·subst h2;rw [g2] at he;exact Or.inr ⟨rfl,(Option.some.inj he).symm⟩
   ·unfold aPC at he
    rw [zg h1,zg h2] at he
    simp [zG] at he
 refine ⟨fun a ha=>?_,fun a e he=>?_,fun a e he=>?_,fun a a' e e' he he' hab ho=>?_,fun _ _ _ h=>h.elim,fun k o hi=>?_⟩
 ·rcases ha with rfl | rfl
  ·exact ⟨_,g1⟩
  ·exact ⟨_,g2⟩
 ·rcases gx he with h | h
  ·exact Or.inl h.1
  ·exact Or.inr h.1
 ·rcases gx he with ⟨rfl,rfl⟩ | ⟨rfl,rfl⟩
  ·refine ⟨[.slice x n c],⟨[.slice x n c],[],rfl,rfl,⟨_,⟨Or.inr rfl,c,x,hnc,rfl,fun hc=>?_⟩,rfl⟩,rfl⟩,⟨fun _=>qR h.cell,fun _ h=>absurd rfl h⟩,fun j v hj=>?_,fun h=>by cases h⟩
   ·rw [hx hc];rfl
   ·cases j with
    | zero=>
     simp only [List.getElem?_cons_zero,zoI] at hj
     rw [<- hj];exact h.cell
    | succ j=>simp at hj
  ·refine ⟨b.map w8,⟨b.map w8,[],by simp,by simp [hb],rfl,rfl⟩,⟨fun hn=>?_,fun _ h=>absurd rfl h⟩,fun j v hj=>?_,fun h=>by cases h⟩
   ·have hn0:0 < n:=by
     simp only [zL,Bool.false_eq_true,if_false,Nat.add_zero] at hn
     omega
    exact qR (h.bytes 0 hn0)
   ·have hj2:=(List.getElem?_eq_some_iff.1 hj).1
    rw [List.length_map,hb] at hj2
    have:=h.bytes j hj2
    rw [List.getElem?_map,List.getElem?_eq_getElem (by omega)] at hj
    simp only [Option.map_some,zoI] at hj
    rw [getD_eq_getElem?_getD,List.getElem?_eq_getElem (by omega),Option.getD_some,hj] at this
    exact this
 ·rcases gx he with ⟨rfl,rfl⟩ | ⟨rfl,rfl⟩ <;> cases ho
 ·obtain ⟨_,_,_,h1,_⟩:=hi
  exact h1.elim
end
end Go.Proofs.YtimbdhpchlakfaaGreat
namespace Go.Proofs.YtimbdhpchlakfaaGreat
open Go Go.Sx
def by_ (b:List UInt8) (i:Nat):Nat:=(b.getD i 0).toNat
end Go.Proofs.YtimbdhpchlakfaaGreat
namespace Go.Proofs.YtimbdhpchlakfaaGreat
open Go Go.Sx
theorem eG {a b:Nat} (ha:a < 4294967296) (hb:b < 4294967296):a * b <= 18446744065119617025:=by
 have:a * b <= 4294967295 * 4294967295:=Nat.mul_le_mul (by omega) (by omega)
 omega
theorem rP (x1 x0 y1 y0:Nat):(x1 * 4294967296 + x0) * (y1 * 4294967296 + y0) = x1 * y1 * 18446744073709551616 + (x1 * y0 + x0 * y1) * 4294967296 + x0 * y0:=by
 rw [Nat.add_mul,Nat.mul_add,Nat.mul_add]
 have e1:x1 * 4294967296 * (y1 * 4294967296) = x1 * y1 * 18446744073709551616:=by
  rw [Nat.mul_assoc,Nat.mul_left_comm 4294967296,<- Nat.mul_assoc]
 have e2:x1 * 4294967296 * y0 = x1 * y0 * 4294967296:=by rw [Nat.mul_right_comm]
 have e3:x0 * (y1 * 4294967296) = x0 * y1 * 4294967296:=by rw [Nat.mul_assoc]
 rw [e1,e2,e3]
 omega
theorem wY (x:UInt64):(x &&& UInt64.ofNat 4294967295).toNat = x.toNat % 4294967296:=by
 rw [UInt64.toNat_and,show (UInt64.ofNat 4294967295).toNat = 2 ^ 32 - 1 from rfl,Nat.and_two_pow_sub_one_eq_mod]
theorem aBV (x:UInt64):(aG x 32).toNat = x.toNat / 4294967296:=by
 have:=x.toNat_lt
 unfold aG
 rw [toNat_ofNat',Nat.shiftRight_eq_div_pow,Nat.mod_eq_of_lt (by omega)]
theorem vM (x y:UInt64):(muH x y).toNat = x.toNat * y.toNat / 18446744073709551616:=by
 have hx:=x.toNat_lt
 have hy:=y.toNat_lt
 have sx:x.toNat = x.toNat / 4294967296 * 4294967296 + x.toNat % 4294967296:=by omega
 have sy:y.toNat = y.toNat / 4294967296 * 4294967296 + y.toNat % 4294967296:=by omega
 have ps:=rP (x.toNat / 4294967296) (x.toNat % 4294967296) (y.toNat / 4294967296) (y.toNat % 4294967296)
 rw [<- sx,<- sy] at ps
 have b11:=eG (a:=x.toNat / 4294967296) (b:=y.toNat / 4294967296) (by omega) (by omega)
 have b10:=eG (a:=x.toNat / 4294967296) (b:=y.toNat % 4294967296) (by omega) (by omega)
 have b01:=eG (a:=x.toNat % 4294967296) (b:=y.toNat / 4294967296) (by omega) (by omega)
 have b00:=eG (a:=x.toNat % 4294967296) (b:=y.toNat % 4294967296) (by omega) (by omega)
 unfold muH muT
 simp only [UInt64.toNat_add,UInt64.toNat_mul,wY,aBV]
 generalize x.toNat / 4294967296 * (y.toNat / 4294967296) = p11 at *
 generalize x.toNat / 4294967296 * (y.toNat % 4294967296) = p10 at *
 generalize x.toNat % 4294967296 * (y.toNat / 4294967296) = p01 at *
 generalize x.toNat % 4294967296 * (y.toNat % 4294967296) = p00 at *
 generalize x.toNat * y.toNat = P at *
 omega
theorem tF (x y:UInt64):(muH x y).toNat * 18446744073709551616 + (x * y).toNat = x.toNat * y.toNat:=by
 rw [vM,UInt64.toNat_mul]
 omega
theorem wb (x y:UInt64):(fw x y 0).toNat + (ru x y 0).toNat * 18446744073709551616 = x.toNat + y.toNat:=by
 have:=x.toNat_lt
 have:=y.toNat_lt
 unfold fw ru
 rw [toNat_ofNat',toNat_ofNat',show (0:UInt64).toNat = 0 from rfl]
 omega
end Go.Proofs.YtimbdhpchlakfaaGreat
namespace Go.Proofs.YtimbdhpchlakfaaGreat
open Go Go.Sx Go.Cu
@[irreducible] def nuB (s:List UInt8):List UInt8:=clB ((cG s).take 32)
theorem aCU (s:List UInt8):nuB s = clB ((cG s).take 32):=by unfold nuB;rfl
theorem fk (s:List UInt8):(nuB s).length = 32:=by rw [aCU,lz,zlT,gD];rfl
theorem aWG (s:List UInt8) (hs:s.length = 32):Sx.Fn Γ.P 62 [.a8 s] [] (fun v _=>v = .agg [(32,.a8 (nuB s)),(1,.isl 32 32 1 [(64,.a8 (cG s))])]):=by
 have cH:=aT6 s 32 hs (by omega)
 have lH:=gD s
 have hN:=aCU s
 have hc:clB ((cG s).take 32) = (((cG s).take 32).set 0 (((cG s).take 32).getD 0 0 &&& ofNat 248)).set 31 (((((cG s).take 32).set 0 (((cG s).take 32).getD 0 0 &&& ofNat 248)).getD 31 0 &&& ofNat 127) ||| ofNat 64):=rfl
 rw [hc] at hN
 have lN:=fk s
 generalize nuB s = N at *
 generalize cG s = H at *
 have lT:(H.take 32).length = 32:=by rw [zlT,lH];rfl
 refine ci [4] (Γ:=Γ) (fn:=Tryz.f62) rfl rfl rfl rfl ?_
 repeat refine sd ?_
 refine Call.intro cH [(1002,(1,0,none))] rfl fc rfl fc rfl ?_
 rintro _ _ ⟨rfl,rfl⟩
 dsimp only [zt,zM,zE,ren,zz,zx,zy,aS,zG,zX,ev,evL,zV,zcT,zcF,act,zP,zO,Ent.zW]
 repeat refine sd ?_
 refine aI.intro [[],[0],[],[0,1,2]] r_4 (by kernel_rfl) ?_
 repeat (first|refine gi ?_|refine gt ?_|refine ga ?_|refine sd ?_)
 refine Cut.intro (σ:=Unit) (fun _=>True) (fun _=>([(2,.ptr 2 0 none),(3,.ptr 3 0 none),(4,.ptr 4 0 none)],
  [(2,.mem true 0 [(32,.a8 (replicate 32 0)),(1,.nsl)]),(3,.mem true 0 [(64,.a8 H)]),(4,.mem true 0 [(32,.a8 (H.take 32)),(1,.nsl)])])) () trivial (Le.intro [] rfl ?_ rfl ?_ rfl) ?_
 ·exact fc
 ·repeat' first|exact trivial|refine zA.app ?_ ?_|refine zA.zd ?_ ?_|refine zA.cons ?_ ?_|exact fc|fail
  all_goals (first | (rw [Option.getD_none,drop_zero,zlT,lH];show _ = [] ++ take 32 (take 32 H) ++ drop 32 (replicate 32 0);rw [List.take_take];simp;done) | trace_state)
 rintro - -
 generalize H.take 32 = N0 at *
 repeat refine sd ?_
 refine Ret.ghost [.keep 3,.ice 2 1] [] rfl fc rfl (.agg [(32,.a8 N),(1,.isl 32 32 1 [(64,.a8 H)])]) [] [] rfl fc rfl rfl fc rfl fc rfl
end Go.Proofs.YtimbdhpchlakfaaGreat
