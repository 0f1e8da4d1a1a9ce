/- What the functions of the program compute. No condition. -/
import Derived.Test.YtimbdhpchlakfaaHwSha5ToSha8
set_option linter.unusedSimpArgs false
set_option linter.unusedVariables false
namespace Go.Proofs.Ytimbdhpchlakfaa
open Go Go.Sx
end Go.Proofs.Ytimbdhpchlakfaa
namespace Go.Proofs.Ytimbdhpchlakfaa
open Go Go.Sx
structure Cf where
 sz:UInt64
 mask:UInt64
 s:List UInt64
 k:List UInt64
 n:Nat
 wd:Nat
def hR (c:Cf) (h v:List UInt64):Nat→List UInt64
 | 0=>h
 | i + 1=>(hR c h v i).set i (((hR c h v i).getD i 0 + v.getD i 0) &&& c.mask)
end Go.Proofs.Ytimbdhpchlakfaa
namespace Go.Proofs.Ytimbdhpchlakfaa
open Go Go.Sx
end Go.Proofs.Ytimbdhpchlakfaa
namespace Go.Proofs.Ytimbdhpchlakfaa
open Go Go.Sx
end Go.Proofs.Ytimbdhpchlakfaa
namespace Go.Proofs.Ytimbdhpchlakfaa
open Go Go.Sx
end Go.Proofs.Ytimbdhpchlakfaa
namespace Go.Proofs.Ytimbdhpchlakfaa
open Go Go.Sx
def up (l:List UInt32):List UInt64:=l.map UInt32.toUInt64
theorem blks32_app {h:List UInt32} {A T:List UInt8} {p:Nat} (hA:A.length = 64 * p):∀ q,blks32 h (A ++ T) (p + q) = blks32 (blks32 h A p) T q
 | 0=>by
  have:∀ k,k ≤ p→blks32 h (A ++ T) k = blks32 h A k:=by
   intro k
   induction k with
   | zero=>intro _;rfl
   | succ k ih=>
    intro hk
    simp only [blks32]
    rw [ih (by omega),List.drop_append_of_le_length (by omega),List.take_append_of_le_length (by rw [List.length_drop];omega)]
  exact this p (Nat.le_refl _)
 | q + 1=>by
  show blk32 (blks32 h (A ++ T) (p + q)) (((A ++ T).drop (64 * (p + q))).take 64) = blk32 (blks32 (blks32 h A p) T q) ((T.drop (64 * q)).take 64)
  rw [blks32_app hA q,List.drop_append,List.drop_of_length_le (by omega),List.nil_append,hA,show 64 * (p + q) - 64 * p = 64 * q by omega]
theorem blks32_take {h:List UInt32} {b:List UInt8} {p:Nat} (hp:64 * p ≤ b.length):blks32 h (b.take (64 * p)) p = blks32 h b p:=by
 have:=blks32_app (h:=h) (A:=b.take (64 * p)) (T:=b.drop (64 * p)) (p:=p) (by rw [List.length_take];omega) 0
 rw [List.take_append_drop] at this
 exact this.symm
end Go.Proofs.Ytimbdhpchlakfaa
namespace Go.Proofs.Ytimbdhpchlakfaa
open Go Go.Sx
@[irreducible] def hw (A:List UInt8):List UInt32:=blks32 H32 A (A.length / 64)
theorem hw_eq (A:List UInt8):hw A = blks32 H32 A (A.length / 64):=by unfold hw;rfl
theorem hw_length (A:List UInt8):(hw A).length = 8:=by rw [hw_eq];exact blks32_length H32_length _ _
theorem ofInt_nat_add (a b:Nat):UInt64.ofInt (a:Int) + UInt64.ofInt (b:Int) = UInt64.ofInt ((a + b:Nat):Int):=by
 rw [Int.natCast_add,UInt64.ofInt_add]
theorem hw_app {A b:List UInt8} {N m:Nat} (hA:A.length = N) (hb:b.length = m):blks32 (hw A) (A.drop (64 * (N / 64)) ++ b) ((N % 64 + m) / 64) = hw (A ++ b):=by
 rw [hw_eq,hw_eq,List.length_append,hA,hb]
 have h1:(A.take (64 * (N / 64))).length = 64 * (N / 64):=by rw [List.length_take];omega
 have h2:=blks32_app (h:=H32) (A:=A.take (64 * (N / 64))) (T:=A.drop (64 * (N / 64)) ++ b) h1 ((N % 64 + m) / 64)
 rw [← List.append_assoc,List.take_append_drop,blks32_take (by omega)] at h2
 rw [← h2]
 congr 1
 omega
structure HashOK (A:List UInt8) (N i c sp:Nat) (L:List UInt8):Prop where
 len:A.length = N
 ll:L.length = i + N % 64
 drop:L.drop i = A.drop (64 * (N / 64))
 cap:c = N % 64 + sp
theorem fnPutN (b:List UInt8) (m:Nat) (hb:b.length = m) (hmax:m ≤ 100000000) :
  Sx.Fn Γ.P 41 [.ptr 1000 0 none,.slx 1002 0 0 m] [(1000,hashE H32 .nsl 0),(1002,.mem false 0 [(m,.a8 b)])]
   (fun v M=>∃ i c sp L,HashOK b m i c sp L∧v = .tup []∧M = [(1000,hashE (hw b) (.sl 1005 0 i (m % 64) c) (UInt64.ofInt (m:Int))),(1002,.mem false 0 [(m,.a8 b)]),(1005,.mem true sp [(i + m % 64,.a8 L)])]):=by
 refine Fn.mono (fnPut0 H32 b 0 m H32_length hb hmax) ?_
 rintro v M ⟨c,hc,hv,hM⟩
 refine ⟨64 * (m / 64),c - 64 * (m / 64),c - m,b,⟨hb,by omega,rfl,by omega⟩,hv,?_⟩
 rw [hM,hw_eq,hb,show m - 64 * (m / 64) = m % 64 by omega,show 64 * (m / 64) + m % 64 = m by omega]
 rw [UInt64.zero_add]
theorem fnPutC (A b:List UInt8) (N m i c sp:Nat) (L:List UInt8) (h:HashOK A N i c sp L) (hb:b.length = m) (hmax:m ≤ 99999900) :
  Sx.Fn Γ.P 41 [.ptr 1000 0 none,.slx 1002 0 0 m] [(1000,hashE (hw A) (.sl 1001 0 i (N % 64) c) (UInt64.ofInt (N:Int))),(1001,.mem true sp [(i + N % 64,.a8 L)]),(1002,.mem false 0 [(m,.a8 b)])]
   (fun v M=>∃ i' c' sp' L',HashOK (A ++ b) (N + m) i' c' sp' L'∧v = .tup [] ∧
    M = [(1000,hashE (hw (A ++ b)) (.sl 1005 0 i' ((N + m) % 64) c') (UInt64.ofInt ((N + m:Nat):Int))),(1001,.dead),(1002,.mem false 0 [(m,.a8 b)]),(1005,.mem true sp' [(i' + (N + m) % 64,.a8 L')])]):=by
 obtain ⟨h1,h2,h3,h4⟩:=h
 refine Fn.mono (fnPutB (hw A) L b (L.drop i) (UInt64.ofInt (N:Int)) i (N % 64) c sp m (hw_length A) h2 rfl h4 hb (by omega)) ?_
 rintro v M ⟨c',hc,hv,hM⟩
 have hl:(L.drop i).length = N % 64:=by rw [List.length_drop];omega
 rw [hl] at hM hc
 rw [h3] at hM
 refine ⟨64 * ((N % 64 + m) / 64),c' - 64 * ((N % 64 + m) / 64),c' - (N % 64 + m),A.drop (64 * (N / 64)) ++ b,⟨by rw [List.length_append,h1,hb],?_,?_,by omega⟩,hv,?_⟩
 ·rw [List.length_append,List.length_drop,h1,hb];omega
 ·rw [List.drop_append,List.drop_append,List.drop_drop,List.length_drop,h1]
  rw [show 64 * (N / 64) + 64 * ((N % 64 + m) / 64) = 64 * ((N + m) / 64) by omega,show 64 * ((N % 64 + m) / 64) - (N - 64 * (N / 64)) = 64 * ((N + m) / 64) - N by omega]
 ·rw [hM,hw_app h1 hb,ofInt_nat_add,show N % 64 + m - 64 * ((N % 64 + m) / 64) = (N + m) % 64 by omega,show 64 * ((N % 64 + m) / 64) + (N + m) % 64 = N % 64 + m by omega]
  rfl
theorem fnSumC (A:List UInt8) (N i c sp:Nat) (L:List UInt8) (h:HashOK A N i c sp L) :
  Sx.Fn Γ.P 42 [.ptr 1000 0 none] [(1000,.mem false 0 [(8,.a32 (hw A)),(1,.slx 1001 0 i (N % 64)),(1,.u64 (UInt64.ofInt (N:Int)))]),(1001,.mem false 0 [(i + N % 64,.a8 L)])]
   (fun v M=>v = .a8 (sha256 A)∧M = [(1000,.mem false 0 [(8,.a32 (hw A)),(1,.slx 1001 0 i (N % 64)),(1,.u64 (UInt64.ofInt (N:Int)))]),(1001,.mem false 0 [(i + N % 64,.a8 L)])]):=by
 obtain ⟨h1,h2,h3,h4⟩:=h
 have e:(L.drop i).take (N % 64) = A.drop (64 * (N / 64)):=by
  rw [h3,List.take_of_length_le]
  rw [List.length_drop,h1];omega
 refine Fn.mono (fn42 (hw A) L (A.drop (64 * (N / 64))) (UInt64.ofInt (N:Int)) (i + N % 64) i (N % 64) (hw_length A) h2 (Nat.le_refl _) e (by omega)) ?_
 rintro v M ⟨hv,hM⟩
 refine ⟨?_,hM⟩
 rw [hv,sha256_eq,h1,← h1,← hw_eq,h1,UInt64.zero_add]
end Go.Proofs.Ytimbdhpchlakfaa
namespace Go.Proofs.Ytimbdhpchlakfaa
open Go Go.Sx
def kbOf (key:List UInt8):List UInt8:=if 64 < key.length then sha256 key else key
def padK (kb:List UInt8):List UInt8:=kb ++ List.replicate (64 - kb.length) 0
@[irreducible] def hmac (key text:List UInt8):List UInt8:=
 sha256 ((padK (kbOf key)).map (· ^^^ 92) ++ sha256 ((padK (kbOf key)).map (· ^^^ 54) ++ text))
theorem hmac_eq (key text:List UInt8):hmac key text = sha256 ((padK (kbOf key)).map (· ^^^ 92) ++ sha256 ((padK (kbOf key)).map (· ^^^ 54) ++ text)):=by unfold hmac;rfl
theorem hmac_length (key text:List UInt8):(hmac key text).length = 32:=by rw [hmac_eq];exact sha256_length _
theorem kbOf_length (key:List UInt8):(kbOf key).length ≤ 64:=by
 unfold kbOf;split
 ·rw [sha256_length];omega
 ·omega
theorem padK_length {kb:List UInt8} (h:kb.length ≤ 64):(padK kb).length = 64:=by unfold padK;rw [List.length_append,List.length_replicate];omega
def xoS (p:List UInt8) (c:UInt8):Nat→List UInt8
 | 0=>p
 | i + 1=>(xoS p c i).set i ((xoS p c i).getD i 0 ^^^ c)
theorem xoS_length (p:List UInt8) (c:UInt8):∀ i,(xoS p c i).length = p.length
 | 0=>rfl
 | i + 1=>by simp only [xoS,List.length_set,xoS_length p c i]
theorem xoS_get (p:List UInt8) (c:UInt8):∀ i,i ≤ p.length→∀ j,(xoS p c i)[j]? = if j < i then (p[j]?).map (· ^^^ c) else p[j]?
 | 0,_,j=>by rw [if_neg (by omega)];rfl
 | i + 1,h,j=>by
  have ih:=xoS_get p c i (by omega)
  simp only [xoS]
  by_cases hj:i = j
  ·subst hj
   rw [List.getElem?_set_self (by rw [xoS_length];omega),if_pos (by omega),List.getD_eq_getElem?_getD,ih i,if_neg (by omega),List.getElem?_eq_getElem (by omega)]
   rfl
  ·rw [List.getElem?_set_ne hj,ih j]
   by_cases h1:j < i
   ·rw [if_pos h1,if_pos (by omega)]
   ·rw [if_neg h1,if_neg (by omega)]
theorem xoS_map (p:List UInt8) (c:UInt8):xoS p c p.length = p.map (· ^^^ c):=by
 apply List.ext_getElem?
 intro j
 rw [xoS_get p c p.length (Nat.le_refl _),List.getElem?_map]
 split
 ·rfl
 ·rw [List.getElem?_eq_none (by omega)];rfl
theorem copyPad {kb:List UInt8} (h:kb.length ≤ 64):padK kb = List.take ((none:Option Nat).getD 0) (List.replicate 64 0) ++ List.take (min (List.take kb.length (List.drop 0 kb)).length 64) (List.take kb.length (List.drop 0 kb)) ++
  List.drop ((none:Option Nat).getD 0 + min (List.take kb.length (List.drop 0 kb)).length 64) (List.replicate 64 0):=by
 rw [List.drop_zero,List.take_length,Nat.min_eq_left h,List.take_length,Option.getD_none,List.take_zero,List.nil_append,Nat.zero_add,List.drop_replicate]
 rfl
set_option maxRecDepth 100000 in
set_option maxHeartbeats 1000000 in
theorem fn22 (key text:List UInt8) (n m:Nat) (hk:key.length = n) (ht:text.length = m) (hn:n ≤ 50000000) (hm:m ≤ 50000000) :
  Sx.Fn Γ.P 22 [.slx 1000 0 0 n,.slx 1001 0 0 m] [(1000,.mem false 0 [(n,.a8 key)]),(1001,.mem false 0 [(m,.a8 text)])]
   (fun v M=>v = .a8 (hmac key text)∧M = [(1000,.mem false 0 [(n,.a8 key)]),(1001,.mem false 0 [(m,.a8 text)])]):=by
 refine fn_cut [4] (Γ:=Γ) (fn:=Try.f22) rfl rfl rfl rfl ?_
 have hS:=fn39 key n hk (by omega)
 have hsl:=sha256_length key
 have hH:=hmac_eq key text
 have hHl:=hmac_length key text
 have hkb:=kbOf_length key
 repeat (refine sd ?_)
 refine Branch.intro (fun hc=>?_) (fun hc=>?_)
 ·have hc:(n:Int) > 64:=hc
  have hkk:kbOf key = sha256 key:=if_pos (by omega)
  rw [hkk] at hH hkb
  clear hkk
  generalize sha256 key = kb at hS hsl hH hkb
  repeat (refine sd ?_)
  refine Call.intro hS [(1002,(1000,0,none))] rfl fc rfl fc rfl ?_
  rintro v M' ⟨rfl,rfl⟩
  repeat (refine sd ?_)
  refine Cut.intro (σ:=Unit) (fun _=>True) (fun _=>([(0,.slx 400 0 0 kb.length),(1,.slx 1001 0 0 m),(4,.ptr 4 0 none)],
   [(1000,.mem false 0 [(n,.a8 key)]),(1001,.mem false 0 [(m,.a8 text)]),(400,.mem false 0 [(kb.length,.a8 kb)]),(4,.mem true 0 [(32,.a8 (List.replicate 32 0))])])) () trivial ?_ ?_
  ·refine Le.intro [(400,(5,0,none))] rfl ?_ rfl ?_ rfl
   ·exact fc
   ·exact fc
  rintro _ _
  obtain ⟨P,hP⟩:∃ x,x = padK kb:=⟨_,rfl⟩
  have hPl:P.length = 64:=by rw [hP,padK_length hkb]
  repeat (refine sd ?_)
  refine Loop.intro (σ:=Nat) (fun i=>i ≤ 64)
   (fun i=>([(1,.slx 1001 0 0 m),(4,.ptr 4 0 none),(6,.ptr 6 0 none),(7,.ptr 7 0 none),(23,.i .i64 i)],
    [(1000,.mem false 0 [(n,.a8 key)]),(1001,.mem false 0 [(m,.a8 text)]),(4,.mem true 0 [(32,.a8 (List.replicate 32 0))]),(6,.mem true 0 [(64,.a8 (xoS P 54 i))]),(7,.mem true 0 [(64,.a8 (xoS P 92 i))])])) (fun i=>64 - i) 0 (Nat.zero_le _) ?_ ?_
  ·have hz1:xoS P 54 0 = padK kb:=hP
   have hz2:xoS P 92 0 = padK kb:=hP
   refine Le.intro [] rfl ?_ rfl ?_ rfl
   ·exact fc
   ·repeat' (first | (show AllP _;first | exact trivial | refine AllP.app ?_ ?_ | refine AllP.appd ?_ ?_ | refine AllP.cons ?_ ?_) | exact fd | fail)
    ·exact hz1.trans (copyPad hkb)
    ·exact hz2.trans (copyPad hkb)
  rintro i hi
  have hx1:=xoS_length P 54 i
  have hx2:=xoS_length P 92 i
  refine Branch.intro (fun hc=>?_) (fun hc=>?_)
  ·have hc:(i:Int) < 64:=hc
   have hy1:xoS P 54 (i + 1) = (xoS P 54 i).set i ((xoS P 54 i).getD i 0 ^^^ 54):=rfl
   have hy2:xoS P 92 (i + 1) = (xoS P 92 i).set i ((xoS P 92 i).getD i 0 ^^^ 92):=rfl
   generalize xoS P 54 i = X1 at *
   generalize xoS P 92 i = X2 at *
   repeat (refine sdn ?_)
   refine ⟨i + 1,by omega,by omega,Le.intro [] rfl ?_ rfl ?_ rfl⟩
   ·exact fc
   ·exact fcn
  ·have h64:i = 64:=by have hc:¬ (i:Int) < 64:=hc;omega
   have hm1:=xoS_map P 54
   have hm2:=xoS_map P 92
   rw [hPl,← h64] at hm1 hm2
   rw [← hP,← hm1,← hm2] at hH
   rw [hPl] at hx1 hx2
   generalize xoS P 54 i = X1 at *
   generalize xoS P 92 i = X2 at *
   clear hm1 hm2 h64 hc
   have hN1:=fnPutN X1 64 hx1 (by omega)
   have hN2:=fnPutN X2 64 hx2 (by omega)
   refine Call.intro fn40 [(1001,(501,0,none))] rfl trivial rfl trivial rfl ?_
   rintro v M' ⟨rfl,rfl⟩
   repeat (refine sd ?_)
   refine Call.intro hN1 [(1000,(501,0,none)),(1002,(6,0,none)),(1005,(502,0,none))] rfl fc rfl fc rfl ?_
   rintro v M' ⟨j1,c1,p1,L1,ok1,rfl,rfl⟩
   have hC1:=fnPutC X1 text 64 m j1 c1 p1 L1 ok1 ht (by omega)
   repeat (refine sd ?_)
   refine Call.intro hC1 [(1000,(501,0,none)),(1001,(502,0,none)),(1002,(1001,0,none)),(1005,(503,0,none))] rfl fc rfl fc rfl ?_
   rintro v M' ⟨j2,c2,p2,L2,ok2,rfl,rfl⟩
   have hS2:=fnSumC (X1 ++ text) (64 + m) j2 c2 p2 L2 ok2
   have hs2:=sha256_length (X1 ++ text)
   generalize sha256 (X1 ++ text) = in2 at hS2 hs2 hH
   repeat (refine sd ?_)
   refine Call.intro hS2 [(1000,(501,0,none)),(1001,(503,0,none))] rfl fc rfl fc rfl ?_
   rintro v M' ⟨rfl,rfl⟩
   repeat (refine sd ?_)
   refine Call.intro fn40 [(1001,(511,0,none))] rfl trivial rfl trivial rfl ?_
   rintro v M' ⟨rfl,rfl⟩
   repeat (refine sd ?_)
   refine Call.intro hN2 [(1000,(511,0,none)),(1002,(7,0,none)),(1005,(512,0,none))] rfl fc rfl fc rfl ?_
   rintro v M' ⟨j3,c3,p3,L3,ok3,rfl,rfl⟩
   have hC3:=fnPutC X2 in2 64 32 j3 c3 p3 L3 ok3 hs2 (by omega)
   repeat (refine sd ?_)
   refine Call.intro hC3 [(1000,(511,0,none)),(1001,(512,0,none)),(1002,(10,0,none)),(1005,(513,0,none))] rfl fc rfl fc rfl ?_
   rintro v M' ⟨j4,c4,p4,L4,ok4,rfl,rfl⟩
   have hS4:=fnSumC (X2 ++ in2) (64 + 32) j4 c4 p4 L4 ok4
   rw [← hH] at hS4
   generalize hmac key text = out at hS4 hHl
   repeat (refine sd ?_)
   refine Call.intro hS4 [(1000,(511,0,none)),(1001,(513,0,none))] rfl fc rfl fc rfl ?_
   rintro v M' ⟨rfl,rfl⟩
   repeat (refine sd ?_)
   refine Ret.intro (.a8 out) [(1000,.mem false 0 [(n,.a8 key)]),(1001,.mem false 0 [(m,.a8 text)])] [] rfl ?_ ⟨rfl,rfl⟩ rfl ?_ rfl ?_ rfl
   ·exact fc
   ·exact fc
   ·exact fc
 ·have hc:¬ (n:Int) > 64:=hc
  have hkk:kbOf key = key:=if_neg (by omega)
  rw [hkk] at hH hkb
  clear hkk
  refine Cut.intro (σ:=Unit) (fun _=>True) (fun _=>([(0,.slx 400 0 0 key.length),(1,.slx 1001 0 0 m),(4,.ptr 4 0 none)],
   [(1000,.mem false 0 [(n,.a8 key)]),(1001,.mem false 0 [(m,.a8 text)]),(400,.mem false 0 [(key.length,.a8 key)]),(4,.mem true 0 [(32,.a8 (List.replicate 32 0))])])) () trivial ?_ ?_
  ·refine Le.intro [(400,(1000,0,none))] rfl ?_ rfl ?_ rfl
   ·exact fc
   ·exact fc
  rintro _ _
  obtain ⟨P,hP⟩:∃ x,x = padK key:=⟨_,rfl⟩
  have hPl:P.length = 64:=by rw [hP,padK_length hkb]
  repeat (refine sd ?_)
  refine Loop.intro (σ:=Nat) (fun i=>i ≤ 64)
   (fun i=>([(1,.slx 1001 0 0 m),(4,.ptr 4 0 none),(6,.ptr 6 0 none),(7,.ptr 7 0 none),(23,.i .i64 i)],
    [(1000,.mem false 0 [(n,.a8 key)]),(1001,.mem false 0 [(m,.a8 text)]),(4,.mem true 0 [(32,.a8 (List.replicate 32 0))]),(6,.mem true 0 [(64,.a8 (xoS P 54 i))]),(7,.mem true 0 [(64,.a8 (xoS P 92 i))])])) (fun i=>64 - i) 0 (Nat.zero_le _) ?_ ?_
  ·have hz1:xoS P 54 0 = padK key:=hP
   have hz2:xoS P 92 0 = padK key:=hP
   refine Le.intro [] rfl ?_ rfl ?_ rfl
   ·exact fc
   ·repeat' (first | (show AllP _;first | exact trivial | refine AllP.app ?_ ?_ | refine AllP.appd ?_ ?_ | refine AllP.cons ?_ ?_) | exact fd | fail)
    ·exact hz1.trans (copyPad hkb)
    ·exact hz2.trans (copyPad hkb)
  rintro i hi
  have hx1:=xoS_length P 54 i
  have hx2:=xoS_length P 92 i
  refine Branch.intro (fun hc=>?_) (fun hc=>?_)
  ·have hc:(i:Int) < 64:=hc
   have hy1:xoS P 54 (i + 1) = (xoS P 54 i).set i ((xoS P 54 i).getD i 0 ^^^ 54):=rfl
   have hy2:xoS P 92 (i + 1) = (xoS P 92 i).set i ((xoS P 92 i).getD i 0 ^^^ 92):=rfl
   generalize xoS P 54 i = X1 at *
   generalize xoS P 92 i = X2 at *
   repeat (refine sdn ?_)
   refine ⟨i + 1,by omega,by omega,Le.intro [] rfl ?_ rfl ?_ rfl⟩
   ·exact fc
   ·exact fcn
  ·have h64:i = 64:=by have hc:¬ (i:Int) < 64:=hc;omega
   have hm1:=xoS_map P 54
   have hm2:=xoS_map P 92
   rw [hPl,← h64] at hm1 hm2
   rw [← hP,← hm1,← hm2] at hH
   rw [hPl] at hx1 hx2
   generalize xoS P 54 i = X1 at *
   generalize xoS P 92 i = X2 at *
   clear hm1 hm2 h64 hc
   have hN1:=fnPutN X1 64 hx1 (by omega)
   have hN2:=fnPutN X2 64 hx2 (by omega)
   refine Call.intro fn40 [(1001,(501,0,none))] rfl trivial rfl trivial rfl ?_
   rintro v M' ⟨rfl,rfl⟩
   repeat (refine sd ?_)
   refine Call.intro hN1 [(1000,(501,0,none)),(1002,(6,0,none)),(1005,(502,0,none))] rfl fc rfl fc rfl ?_
   rintro v M' ⟨j1,c1,p1,L1,ok1,rfl,rfl⟩
   have hC1:=fnPutC X1 text 64 m j1 c1 p1 L1 ok1 ht (by omega)
   repeat (refine sd ?_)
   refine Call.intro hC1 [(1000,(501,0,none)),(1001,(502,0,none)),(1002,(1001,0,none)),(1005,(503,0,none))] rfl fc rfl fc rfl ?_
   rintro v M' ⟨j2,c2,p2,L2,ok2,rfl,rfl⟩
   have hS2:=fnSumC (X1 ++ text) (64 + m) j2 c2 p2 L2 ok2
   have hs2:=sha256_length (X1 ++ text)
   generalize sha256 (X1 ++ text) = in2 at hS2 hs2 hH
   repeat (refine sd ?_)
   refine Call.intro hS2 [(1000,(501,0,none)),(1001,(503,0,none))] rfl fc rfl fc rfl ?_
   rintro v M' ⟨rfl,rfl⟩
   repeat (refine sd ?_)
   refine Call.intro fn40 [(1001,(511,0,none))] rfl trivial rfl trivial rfl ?_
   rintro v M' ⟨rfl,rfl⟩
   repeat (refine sd ?_)
   refine Call.intro hN2 [(1000,(511,0,none)),(1002,(7,0,none)),(1005,(512,0,none))] rfl fc rfl fc rfl ?_
   rintro v M' ⟨j3,c3,p3,L3,ok3,rfl,rfl⟩
   have hC3:=fnPutC X2 in2 64 32 j3 c3 p3 L3 ok3 hs2 (by omega)
   repeat (refine sd ?_)
   refine Call.intro hC3 [(1000,(511,0,none)),(1001,(512,0,none)),(1002,(10,0,none)),(1005,(513,0,none))] rfl fc rfl fc rfl ?_
   rintro v M' ⟨j4,c4,p4,L4,ok4,rfl,rfl⟩
   have hS4:=fnSumC (X2 ++ in2) (64 + 32) j4 c4 p4 L4 ok4
   rw [← hH] at hS4
   generalize hmac key text = out at hS4 hHl
   repeat (refine sd ?_)
   refine Call.intro hS4 [(1000,(511,0,none)),(1001,(513,0,none))] rfl fc rfl fc rfl ?_
   rintro v M' ⟨rfl,rfl⟩
   repeat (refine sd ?_)
   refine Ret.intro (.a8 out) [(1000,.mem false 0 [(n,.a8 key)]),(1001,.mem false 0 [(m,.a8 text)])] [] rfl ?_ ⟨rfl,rfl⟩ rfl ?_ rfl ?_ rfl
   ·exact fc
   ·exact fc
   ·exact fc
end Go.Proofs.Ytimbdhpchlakfaa
namespace Go.Proofs.Ytimbdhpchlakfaa
open Go Go.Sx
end Go.Proofs.Ytimbdhpchlakfaa
