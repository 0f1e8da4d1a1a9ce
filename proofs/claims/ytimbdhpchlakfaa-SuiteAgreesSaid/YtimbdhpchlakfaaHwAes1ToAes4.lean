/- What the functions of the program compute. No condition. -/
import Derived.Test.YtimbdhpchlakfaaHwTabToTab
set_option linter.unusedSimpArgs false
set_option linter.unusedVariables false
namespace Go.Proofs.Ytimbdhpchlakfaa
open Go Go.Sx
def dbl (b:UInt8):UInt8:=if b.toNat < 128 then shl8 b 1 else shl8 b 1 ^^^ 27
set_option maxRecDepth 100000 in
theorem fn54 (b:UInt8):Sx.Fn Γ.P 54 [.u8 b] [] (fun v _=>v = .u8 (dbl b)):=by
 refine fn_of (Γ:=Γ) (fn:=Try.f54) rfl rfl rfl rfl ?_
 refine Branch.intro (fun h=>?_) (fun h=>?_)
 ·refine Ret.intro (.u8 (dbl b)) [] [] rfl trivial rfl rfl ?_ rfl trivial rfl
  show dbl b = shl8 b 1
  exact if_pos h
 ·refine Ret.intro (.u8 (dbl b)) [] [] rfl trivial rfl rfl ?_ rfl trivial rfl
  show dbl b = shl8 b 1 ^^^ 27
  exact if_neg h
def tms:Nat→UInt8→UInt8→UInt8→UInt8
 | 0,_,_,p=>p
 | n + 1,a,b,p=>tms n (dbl a) (shr8 b 1) (if b &&& 1 = 1 then p ^^^ a else p)
theorem tms_zero:∀ (n:Nat) (a p:UInt8),tms n a 0 p = p
 | 0,_,_=>rfl
 | n + 1,a,p=>by
  show tms n (dbl a) 0 p = p
  exact tms_zero n _ _
theorem shr8_one (b:UInt8):(shr8 b 1).toNat = b.toNat / 2:=by
 have:=b.toNat_lt
 unfold shr8
 rw [UInt8.toNat_ofNat',Nat.shiftRight_eq_div_pow]
 omega
def times (a b:UInt8):UInt8:=tms 8 a b 0
set_option maxRecDepth 100000 in
theorem fn61 (a b:UInt8):Sx.Fn Γ.P 61 [.u8 a,.u8 b] [] (fun v _=>v = .u8 (times a b)):=by
 refine fn_of (Γ:=Γ) (fn:=Try.f61) rfl rfl rfl rfl ?_
 refine Loop.intro (σ:=UInt8 × UInt8 × UInt8) (fun s=>∃ n,s.2.1.toNat < 2 ^ n∧tms n s.1 s.2.1 s.2.2 = tms 8 a b 0)
  (fun s=>([(0,.u8 s.1),(1,.u8 s.2.1),(5,.u8 s.2.2)],[])) (fun s=>s.2.1.toNat) (a,b,0) ?_ ?_ ?_
 ·exact ⟨8,b.toNat_lt,rfl⟩
 ·exact Le.intro [] rfl ⟨rfl,rfl,rfl⟩ rfl trivial rfl
 ·rintro ⟨x,y,z⟩ ⟨n,hn,ht⟩
  have step:0 < y.toNat→∃ n,(shr8 y 1).toNat < 2 ^ n∧tms n (dbl x) (shr8 y 1) (if y &&& 1 = 1 then z ^^^ x else z) = tms 8 a b 0:=by
   intro h
   match n,hn,ht with
   | 0,hn,_=>exact absurd hn (by simp only [Nat.pow_zero];omega)
   | n + 1,hn,ht=>
    refine ⟨n,?_,ht⟩
    rw [shr8_one]
    have:y.toNat < 2 ^ (n + 1):=hn
    rw [Nat.pow_succ] at this
    omega
  have less:0 < y.toNat→(shr8 y 1).toNat < y.toNat:=fun h=>by rw [shr8_one];omega
  refine Branch.intro (fun h=>?_) (fun h=>?_)
  ·refine Branch.intro (fun h2=>?_) (fun h2=>?_)
   ·refine Call.pure (fn54 x) rfl rfl ?_
    intro v hv
    subst hv
    have st:=step h
    rw [if_pos (show y &&& 1 = 1 from h2)] at st
    exact ⟨(dbl x,shr8 y 1,z ^^^ x),st,less h,Le.intro [] rfl ⟨rfl,rfl,rfl⟩ rfl trivial rfl⟩
   ·refine Call.pure (fn54 x) rfl rfl ?_
    intro v hv
    subst hv
    have st:=step h
    rw [if_neg (show ¬ (y &&& 1 = 1) from h2)] at st
    exact ⟨(dbl x,shr8 y 1,z),st,less h,Le.intro [] rfl ⟨rfl,rfl,rfl⟩ rfl trivial rfl⟩
  ·have hy:y = 0:=UInt8.toNat_inj.1 (by
    have h:¬ (0 < y.toNat):=h
    show y.toNat = 0
    omega)
   subst hy
   have ht:tms n x 0 z = tms 8 a b 0:=ht
   rw [tms_zero] at ht
   refine Ret.intro (.u8 z) [] [] rfl trivial ?_ rfl rfl rfl trivial rfl
   rw [ht];rfl
end Go.Proofs.Ytimbdhpchlakfaa
namespace Go.Proofs.Ytimbdhpchlakfaa
open Go Go.Sx
def addTo (k:List UInt8):Nat→List UInt8→List UInt8
 | 0,b=>b
 | n + 1,b=>(addTo k n b).set n ((addTo k n b).getD n 0 ^^^ k.getD n 0)
theorem addTo_length (k:List UInt8):∀ (n:Nat) (b:List UInt8),(addTo k n b).length = b.length
 | 0,_=>rfl
 | n + 1,b=>by simp only [addTo,List.length_set,addTo_length k n b]
set_option maxRecDepth 100000 in
theorem fn55 (b k:List UInt8) (hb:b.length = 16) (hk:k.length = 16):Sx.Fn Γ.P 55 [.a8 b,.a8 k] [] (fun v _=>v = .a8 (addTo k 16 b)):=by
 have hl:∀ n,(addTo k n b).length = 16:=fun n=>by rw [addTo_length,hb]
 refine fn_of (Γ:=Γ) (fn:=Try.f55) rfl rfl rfl rfl ?_
 refine Side.intro ⟨hk,hb⟩ ?_
 refine Loop.intro (σ:=Nat) (fun i=>i ≤ 16)
  (fun i=>([(2,.ptr 2 0 none),(3,.ptr 3 0 none),(4,.ptr 4 0 none),(6,.i .i64 i)],
   [(2,.mem true 0 [(16,.a8 (addTo k i b))]),(3,.mem true 0 [(16,.a8 k)]),(4,.mem true 0 [(16,.a8 (List.replicate 16 0))])])) (fun i=>16 - i) 0 (Nat.zero_le _) ?_ ?_
 ·exact Le.intro [] rfl rfl rfl ⟨rfl,rfl,rfl,rfl,rfl,rfl,rfl,rfl,rfl⟩ rfl
 ·intro i hi
  refine Branch.intro (fun h=>?_) (fun h=>?_)
  ·refine Draw.intro [[],[0],[0,1],[],[3],[3,4],[0,1,2,3,4,5],[0,1,2,3,4,5,6],[0,1,2,3,4,5,6,7]] [0,1,2,3,4,5,6,7,8] (by kernel_rfl) ?_
   refine Side.intro ⟨by omega,Int.natCast_nonneg _⟩ ?_
   refine Side.intro (show (i:Int).toNat < 16 by omega) ?_
   refine Side.intro ⟨by omega,Int.natCast_nonneg _⟩ ?_
   refine Side.intro (show (i:Int).toNat < 16 by omega) ?_
   refine Side.intro ⟨by omega,Int.natCast_nonneg _⟩ ?_
   refine Side.intro (show (i:Int).toNat < 16 by omega) ?_
   refine Side.intro (show rng .i64 ((i:Int) + 1) by unfold rng;exact ⟨by omega,by omega⟩) ?_
   refine ⟨i + 1,by omega,by omega,Le.intro [] rfl rfl rfl ⟨rfl,rfl,?_,rfl,rfl,rfl,rfl,rfl,rfl⟩ rfl⟩
   rw [Int.toNat_natCast];rfl
  ·have hi:i = 16:=by omega
   subst hi
   refine Side.intro (hl 16) ?_
   exact Ret.intro (.a8 (addTo k 16 b)) [] [] rfl trivial rfl rfl rfl rfl trivial rfl
end Go.Proofs.Ytimbdhpchlakfaa
namespace Go.Proofs.Ytimbdhpchlakfaa
open Go Go.Sx
def mixK (b m:List UInt8) (i:Nat) (out:List UInt8):Nat→List UInt8
 | 0=>out
 | k + 1=>(mixK b m i out k).set i ((mixK b m i out k).getD i 0 ^^^ times (b.getD (i / 4 * 4 + (i + k) % 4) 0) (m.getD k 0))
def mixI (b m:List UInt8):Nat→List UInt8
 | 0=>List.replicate 16 0
 | i + 1=>mixK b m i (mixI b m i) 4
theorem mixK_length (b m:List UInt8) (i:Nat) (out:List UInt8):∀ k,(mixK b m i out k).length = out.length
 | 0=>rfl
 | k + 1=>by simp only [mixK,List.length_set,mixK_length b m i out k]
theorem mixI_length (b m:List UInt8):∀ i,(mixI b m i).length = 16
 | 0=>rfl
 | i + 1=>by simp only [mixI,mixK_length,mixI_length b m i]
set_option maxRecDepth 100000 in
theorem fn56 (b m:List UInt8) (hb:b.length = 16) (hm:m.length = 4):Sx.Fn Γ.P 56 [.a8 b,.a8 m] [] (fun v _=>v = .a8 (mixI b m 16)):=by
 refine fn_of (Γ:=Γ) (fn:=Try.f56) rfl rfl rfl rfl ?_
 refine sd ?_
 refine Loop.intro (σ:=Nat) (fun i=>i ≤ 16)
  (fun i=>([(2,.ptr 2 0 none),(3,.ptr 3 0 none),(4,.ptr 4 0 none),(5,.ptr 5 0 none),(8,.i .i64 i)],
   [(2,.mem true 0 [(16,.a8 b)]),(3,.mem true 0 [(4,.a8 m)]),(4,.mem true 0 [(16,.a8 (List.replicate 16 0))]),(5,.mem true 0 [(16,.a8 (mixI b m i))])])) (fun i=>16 - i) 0 (Nat.zero_le _) ?_ ?_
 ·exact Le.intro [] rfl fc rfl fc rfl
 intro i hi
 refine Branch.intro (fun h=>?_) (fun h=>?_)
 ·refine Loop.intro (σ:=Nat) (fun k=>k ≤ 4)
   (fun k=>([(2,.ptr 2 0 none),(3,.ptr 3 0 none),(4,.ptr 4 0 none),(5,.ptr 5 0 none),(8,.i .i64 i),(6,.i .i64 i),(11,.i .i64 k)],
    [(2,.mem true 0 [(16,.a8 b)]),(3,.mem true 0 [(4,.a8 m)]),(4,.mem true 0 [(16,.a8 (List.replicate 16 0))]),(5,.mem true 0 [(16,.a8 (mixK b m i (mixI b m i) k))])])) (fun i=>4 - i) 0 (Nat.zero_le _) ?_ ?_
  ·exact Le.intro [] rfl fc rfl fc rfl
  intro k hk
  refine Branch.intro (fun h'=>?_) (fun h'=>?_)
  ·refine Draw.intro [[],[0],[0,1],[],[3],[3,4],[],[],[6,7],[6,7,8],[3,4,5,6,7,8,9],[3,4,5,6,7,8,9,10],[3,4,5,6,7,8,9,10,11],[],[13],[13,14],[3,4,5,6,7,8,9,10,11,12,13,14,15],[0,1,2,3,4,5,6,7,8,9,10,11,12,13,14,15,16],[0,1,2,3,4,5,6,7,8,9,10,11,12,13,14,15,16,17],[0,1,2,3,4,5,6,7,8,9,10,11,12,13,14,15,16,17,18]] [0,1,2,3,4,5,6,7,8,9,10,11,12,13,14,15,16,17,18,19] (by kernel_rfl) ?_
   repeat (refine sd ?_)
   refine Call.pure (fn61 (b.getD (i / 4 * 4 + (i + k) % 4) 0) (m.getD k 0)) rfl ?_ ?_
   ·refine ⟨?_,?_⟩
    ·show b.getD (i / 4 * 4 + (i + k) % 4) 0 = b.getD ((i:Int) / 4 * 4 + ((i:Int) + k) % 4).toNat 0
     congr 1
    ·show m.getD k 0 = m.getD (k:Int).toNat 0
     rfl
   intro v hv
   subst hv
   refine Grow.intro [] rfl rfl ?_
   repeat (refine sd ?_)
   exact ⟨k + 1,by omega,by omega,Le.intro [] rfl fc rfl fc rfl⟩
  ·have:k = 4:=by omega
   subst this
   refine sd ?_
   exact ⟨i + 1,by omega,by omega,Le.intro [] rfl fc rfl fc rfl⟩
 ·have:i = 16:=by omega
  subst this
  have:=mixI_length b m 16
  refine sd ?_
  exact Ret.intro (.a8 (mixI b m 16)) [] [] rfl trivial rfl rfl rfl rfl trivial rfl
end Go.Proofs.Ytimbdhpchlakfaa
namespace Go.Proofs.Ytimbdhpchlakfaa
open Go Go.Sx
def cipherE (s bk ks:List UInt8):Ent:=.mem false 0 [(256,.a8 s),(256,.a8 bk),(240,.a8 ks)]
def keyAt (ks:List UInt8) (r:Nat):List UInt8:=(ks.drop (16 * r)).take 16
def subT (s b:List UInt8):Nat→List UInt8
 | 0=>List.replicate 16 0
 | i + 1=>(subT s b i).set i (s.getD (b.getD ((i + i % 4 * 4) % 16) 0).toNat 0)
def roundF (s ks:List UInt8) (r:Nat) (b:List UInt8):List UInt8:=
 addTo (keyAt ks r) 16 (if r < 14 then mixI (subT s b 16) [2,3,1,1] 16 else subT s b 16)
def lockGo (s ks b:List UInt8):Nat→List UInt8
 | 0=>addTo (keyAt ks 0) 16 b
 | n + 1=>roundF s ks (n + 1) (lockGo s ks b n)
theorem subT_length (s b:List UInt8):∀ i,(subT s b i).length = 16
 | 0=>rfl
 | i + 1=>by simp only [subT,List.length_set,subT_length s b i]
theorem keyAt_length {ks:List UInt8} (h:ks.length = 240) {r:Nat} (hr:r ≤ 14):(keyAt ks r).length = 16:=by
 simp only [keyAt,List.length_take,List.length_drop];omega
theorem roundF_length (s ks:List UInt8) (r:Nat) (b:List UInt8):(roundF s ks r b).length = 16:=by
 unfold roundF
 rw [addTo_length]
 split
 ·exact mixI_length _ _ _
 ·exact subT_length _ _ _
theorem lockGo_length (s ks:List UInt8) {b:List UInt8} (hb:b.length = 16):∀ n,(lockGo s ks b n).length = 16
 | 0=>by simp only [lockGo,addTo_length,hb]
 | n + 1=>roundF_length _ _ _ _
set_option maxRecDepth 100000 in
theorem fn38 (s bk ks b:List UInt8) (hs:s.length = 256) (hbk:bk.length = 256) (hk:ks.length = 240) (hb:b.length = 16) :
  Sx.Fn Γ.P 38 [.ptr 1000 0 none,.a8 b] [(1000,cipherE s bk ks)] (fun v M=>v = .a8 (lockGo s ks b 14)∧M = [(1000,cipherE s bk ks)]):=by
 refine fn_of (Γ:=Γ) (fn:=Try.f38) rfl rfl rfl rfl ?_
 refine sd ?_
 refine Draw.intro [[],[],[1],[1,2],[1,2,3],[1,2,3,4],[0,1,2,3,4,5],[],[0,1,2,3,4,5,6,7]] [0,1,2,3,4,5,7,6,8] (by kernel_rfl) ?_
 refine Call.pure (fn55 b (keyAt ks 0) hb (keyAt_length hk (by omega))) rfl fc ?_
 intro v hv
 subst hv
 refine Grow.intro [] rfl rfl ?_
 have hl:=lockGo_length s ks hb
 have h0:(addTo (keyAt ks 0) 16 b).length = 16:=hl 0
 repeat (refine sd ?_)
 refine Loop.intro (σ:=Nat) (fun n=>n ≤ 14)
  (fun n=>([(0,.ptr 1000 0 none),(3,.ptr 3 0 none),(4,.ptr 4 0 none),(5,.ptr 5 0 none),(6,.i .i64 ((n:Int) + 1))],
   [(1000,cipherE s bk ks),(3,.mem true 0 [(16,.a8 b)]),(4,.mem true 0 [(16,.a8 (List.replicate 16 0))]),(5,.mem true 0 [(16,.a8 (lockGo s ks b n))])])) (fun n=>14 - n) 0 (Nat.zero_le _) ?_ ?_
 ·exact Le.intro [] rfl fc rfl fc rfl
 intro n hn
 refine Branch.intro (fun h=>?_) (fun h=>?_)
 ·refine Loop.intro (σ:=Nat) (fun i=>i ≤ 16)
   (fun i=>([(0,.ptr 1000 0 none),(3,.ptr 3 0 none),(4,.ptr 4 0 none),(5,.ptr 5 0 none),(6,.i .i64 ((n:Int) + 1)),(7,.ptr 7 0 none),(20,.i .i64 i)],
   [(1000,cipherE s bk ks),(3,.mem true 0 [(16,.a8 b)]),(4,.mem true 0 [(16,.a8 (List.replicate 16 0))]),(5,.mem true 0 [(16,.a8 (lockGo s ks b n))]),(7,.mem true 0 [(16,.a8 (subT s (lockGo s ks b n) i))])])) (fun i=>16 - i) 0 (Nat.zero_le _) ?_ ?_
  ·exact Le.intro [] rfl fc rfl fc rfl
  intro i hi
  refine Branch.intro (fun h'=>?_) (fun h'=>?_)
  ·refine Draw.intro [[],[],[],[],[3],[3,4],[2,3,4,5],[2,3,4,5,6],[2,3,4,5,6,7],[2,3,4,5,6,7,8],[1],[1,10],[1,2,3,4,5,6,7,8,9,10,11],[1,2,3,4,5,6,7,8,9,10,11,12],[0,1,2,3,4,5,6,7,8,9,10,11,12,13],[0,1,2,3,4,5,6,7,8,9,10,11,12,13,14]] [0,1,2,3,4,5,6,7,8,9,10,11,12,13,14,15] (by kernel_rfl) ?_
   repeat (refine sd ?_)
   have hv:subT s (lockGo s ks b n) (i + 1) = (subT s (lockGo s ks b n) i).set (i:Int).toNat (s.getD ((lockGo s ks b n).getD (((i:Int) + (i:Int) % 4 * 4) % 16).toNat 0).toNat 0):=by
    rw [show (((i:Int) + (i:Int) % 4 * 4) % 16).toNat = (i + i % 4 * 4) % 16 by omega];rfl
   exact ⟨i + 1,by omega,by omega,Le.intro [] rfl fc rfl fc rfl⟩
  ·have:i = 16:=by omega
   subst this
   have hkey:keyAt ks (n + 1) = (ks.drop (((n:Int) + 1).toNat * 16)).take 16:=by
    rw [show ((n:Int) + 1).toNat * 16 = 16 * (n + 1) by omega];rfl
   have hround:∀ t,lockGo s ks b (n + 1) = addTo (keyAt ks (n + 1)) 16 t→(addTo (keyAt ks (n + 1)) 16 t).length = 16:=fun t e=>by rw [← e];exact hl _
   refine Branch.intro (fun h2=>?_) (fun h2=>?_)
   ·repeat (refine sd ?_)
    refine Call.pure (fn56 (subT s (lockGo s ks b n) 16) [2,3,1,1] (subT_length _ _ _) rfl) rfl fc ?_
    intro v hv
    subst hv
    have hm:=mixI_length (subT s (lockGo s ks b n) 16) [2,3,1,1] 16
    have hstep:lockGo s ks b (n + 1) = addTo (keyAt ks (n + 1)) 16 (mixI (subT s (lockGo s ks b n) 16) [2,3,1,1] 16):=by
     show roundF _ _ _ _ = _
     unfold roundF
     rw [if_pos (by omega)]
    have hlen:=hround _ hstep
    repeat (refine sd ?_)
    refine Draw.intro [[],[],[],[1],[1,3],[1,2,3,4],[1,2,3,4,5],[0,1,2,3,4,5,6],[0,1,2,3,4,5,6,7]] [0,1,2,3,4,5,6,7,8] (by kernel_rfl) ?_
    repeat (refine sd ?_)
    refine Call.pure (fn55 (mixI (subT s (lockGo s ks b n) 16) [2,3,1,1] 16) (keyAt ks (n + 1)) hm (keyAt_length hk (by omega))) rfl fc ?_
    intro v hv
    subst hv
    repeat (refine sd ?_)
    exact ⟨n + 1,by omega,by omega,Le.intro [] rfl fc rfl fc rfl⟩
   ·have hm:=subT_length s (lockGo s ks b n) 16
    have hstep:lockGo s ks b (n + 1) = addTo (keyAt ks (n + 1)) 16 (subT s (lockGo s ks b n) 16):=by
     show roundF _ _ _ _ = _
     unfold roundF
     rw [if_neg (by omega)]
    have hlen:=hround _ hstep
    refine Draw.intro [[],[],[],[1],[1,3],[1,2,3,4],[1,2,3,4,5],[0,1,2,3,4,5,6],[0,1,2,3,4,5,6,7]] [0,1,2,3,4,5,6,7,8] (by kernel_rfl) ?_
    repeat (refine sd ?_)
    refine Call.pure (fn55 (subT s (lockGo s ks b n) 16) (keyAt ks (n + 1)) hm (keyAt_length hk (by omega))) rfl fc ?_
    intro v hv
    subst hv
    repeat (refine sd ?_)
    exact ⟨n + 1,by omega,by omega,Le.intro [] rfl fc rfl fc rfl⟩
 ·have:n = 14:=by omega
  subst this
  have hl14:=hl 14
  repeat (refine sd ?_)
  exact Ret.intro (.a8 (lockGo s ks b 14)) [(1000,cipherE s bk ks)] [] rfl trivial ⟨rfl,rfl⟩ rfl rfl rfl fc rfl
end Go.Proofs.Ytimbdhpchlakfaa
