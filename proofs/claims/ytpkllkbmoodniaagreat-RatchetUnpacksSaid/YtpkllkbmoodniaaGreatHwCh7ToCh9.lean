/- What the functions of the program compute. No condition. -/
import Derived.Test.YtpkllkbmoodniaaGreatHwCh2ToCh6
import Derived.Test.YtpkllkbmoodniaaGreatHwTm9ToCh1
set_option linter.unusedSimpArgs false
set_option linter.unusedVariables false
namespace Go.Proofs.YtpkllkbmoodniaaGreat
open Go Go.Sx
theorem fiI_cases (r:List UInt8) (k:UInt16) (L:List Kp):(fiI r k L = -1∧fiN r k L = L.length) ∨ (∃ i,i < L.length∧fiI r k L = (i:Int)∧fiN r k L = i):=by
 unfold fiI
 by_cases h:fiN r k L < L.length
 ·rw [if_pos h];exact Or.inr ⟨_,h,rfl,rfl⟩
 ·rw [if_neg h];have:=fiN_le r k L;exact Or.inl ⟨rfl,by omega⟩
theorem kpF_erase {l:List Kp} {n i q:Nat} (hn:n ≤ l.length) (hq:q < n - 1):kpF ((l.take n).eraseIdx i) q = if q < i then kpF l q else kpF l (q + 1):=by
 unfold kpF
 simp only [List.getD_eq_getElem?_getD,List.getElem?_eraseIdx,List.getElem?_take]
 by_cases h:q < i
 ·rw [if_pos h,if_pos (by omega),if_pos h]
 ·rw [if_neg h,if_pos (by omega),if_neg h]
set_option maxRecDepth 100000 in
set_option maxHeartbeats 1000000 in
theorem fn117 (l:List Kp) (N n:Nat) (hN:l.length = N) (hn:n ≤ N) (hN1:N ≤ 1000000) (hOK:∀ x ∈ l,KpOK x) (x:Kp) (hx:KpOK x):Sx.Fn Γ.P 117 [.slx 1003 0 0 n,.agg (rowK x)] [(1003,.mem false 0 [(N * 65,.arr N 65 (kpF l))])]
  (fun v M=>(0 ≤ fiI x.1 x.2.1 (l.take n)∧v = .tup [.nsl,.i .i64 3]∧M = [(1003,.mem false 0 [(N * 65,.arr N 65 (kpF l))])]) ∨
   (fiI x.1 x.2.1 (l.take n) = -1∧16 ≤ n∧v = .tup [.nsl,.i .i64 4]∧M = [(1003,.mem false 0 [(N * 65,.arr N 65 (kpF l))])]) ∨
   (fiI x.1 x.2.1 (l.take n) = -1∧n < 16∧∃ c,n + 1 ≤ c∧v = .tup [.sl 1005 0 0 (n + 1) c,.i .i64 0]∧M = [(1003,.mem false 0 [(N * 65,.arr N 65 (kpF l))]),(1005,.mem true (mulE (c - (n + 1)) 65) [((n + 1) * 65,.arr (n + 1) 65 (kpF (l.take n ++ [x])))])])):=by
 have hF:=fn116 l N n hN hn hN1 hOK x.1 x.2.1 hx.1
 obtain ⟨hx1,hx2⟩:=hx
 unfold kpF at hF
 unfold kpF rowK
 refine fn_of (Γ:=Γ) (fn:=Tryz.f117) rfl rfl rfl rfl ?_
 repeat (refine sd ?_)
 refine Call.intro hF [(1003,(1003,0,none))] rfl fc rfl fc rfl ?_
 rintro v M' ⟨rfl,rfl⟩
 dsimp only [putT,afterM,newEnt,ren,renA,renS,renL,look,getM,getT,ev,evL,ofVal,cond_true,cond_false,Nat.beq_eq,act,isPar,ownPar,Ent.isOwn]
 repeat (refine sd ?_)
 refine Branch.intro (fun hc=>?_) (fun hc=>?_)
 ·have hc:(fiI x.1 x.2.1 (l.take n)) ≥ 0:=hc
  repeat (refine sd ?_)
  refine Ret.intro (.tup [.nsl,.i .i64 3]) [(1003,.mem false 0 [(N * 65,.arr N 65 (kpF l))])] [] rfl trivial (Or.inl ⟨hc,rfl,rfl⟩) rfl ?_ rfl ?_ rfl
  ·exact fc
  ·exact fc
 have hc:¬ (fiI x.1 x.2.1 (l.take n)) ≥ 0:=hc
 have hc2:fiI x.1 x.2.1 (l.take n) = -1:=by
  rcases fiI_cases x.1 x.2.1 (l.take n) with h | ⟨i,_,h,_⟩
  ·exact h.1
  ·omega
 repeat (refine sd ?_)
 refine Branch.intro (fun hc3=>?_) (fun hc3=>?_)
 ·have hc3:(n:Int) ≥ 16:=hc3
  repeat (refine sd ?_)
  refine Ret.intro (.tup [.nsl,.i .i64 4]) [(1003,.mem false 0 [(N * 65,.arr N 65 (kpF l))])] [] rfl trivial (Or.inr (Or.inl ⟨hc2,by omega,rfl,rfl⟩)) rfl ?_ rfl ?_ rfl
  ·exact fc
  ·exact fc
 have hc3:¬ (n:Int) ≥ 16:=hc3
 refine Draw.intro [[],[],[1],[],[3],[0,1,2,3,4],[],[6],[0,1,2,3,4,5,6,7],[0,1,2,3,4,5,6,7,8],[0,1,2,3,4,5,6,7,8,9]] [0,1,2,3,4,5,6,7,8,9,10] (by kernel_rfl) ?_
 repeat (refine sd ?_)
 refine Branch.intro (fun _=>?_) (fun h=>absurd (show 0 < 1 by omega) h)
 refine fun c hc=>?_
 have hc:n + 1 ≤ c:=hc
 repeat (refine sd ?_)
 refine Ret.intro (.tup [.sl 1005 0 0 (n + 1) c,.i .i64 0]) [(1003,.mem false 0 [(N * 65,.arr N 65 (kpF l))]),(1005,.mem true (mulE (c - (n + 1)) 65) [((n + 1) * 65,.arr (n + 1) 65 (kpF (l.take n ++ [x])))])] [(1005,(24,0,none))] rfl ?_ (Or.inr (Or.inr ⟨hc2,by omega,c,hc,rfl,rfl⟩)) rfl ?_ rfl ?_ rfl
 ·exact fc
 ·exact fc
 ·repeat' (first | (show AllP _;first | exact trivial | refine AllP.app ?_ ?_ | refine AllP.appd ?_ ?_ | refine AllP.cons ?_ ?_) | exact fd | fail)
  intro q hq
  have hq:q < n + 1:=hq
  rw [appF_kp (G:=rowF [rowK x]) (k:=n) (by rw [List.length_take];omega) rfl q hq]
  rcases Nat.lt_or_ge q n with h | h
  ·rw [appF_lt h,kpF_take l h];exact (appF_lt h).symm
  ·rw [appF_ge h];exact (appF_ge h).symm
set_option maxRecDepth 100000 in
set_option maxHeartbeats 1000000 in
theorem fn72 (l:List Kp) (N n:Nat) (hN:l.length = N) (hn:n ≤ N) (hN1:N ≤ 1000000) (hOK:∀ x ∈ l,KpOK x) (r:List UInt8) (k:UInt16) (hr:r.length = 32):Sx.Fn Γ.P 72 [.slx 1003 0 0 n,.a8 r,.u16 k] [(1003,.mem false 0 [(N * 65,.arr N 65 (kpF l))])]
  (fun v M=>(fiI r k (l.take n) = -1∧∃ c,n ≤ c∧v = .tup [.sl 1005 0 0 n c,.a8 (List.replicate 32 0),.ff]∧M = [(1003,.mem false 0 [(N * 65,.arr N 65 (kpF l))]),(1005,.mem true (mulE (c - n) 65) [(n * 65,.arr n 65 (kpF l))])]) ∨
   (∃ i,i < n∧fiI r k (l.take n) = (i:Int)∧i + 1 = n∧v = .tup [.sl 1003 0 0 i i,.a8 (l.getD i kp0).2.2,.tt]∧M = [(1003,.mem false 0 [(N * 65,.arr N 65 (kpF l))]),(1005,.mem true 0 [(0,.arr 0 65 (kpF []))])]) ∨
   (∃ i,i < n∧fiI r k (l.take n) = (i:Int)∧i + 1 < n∧∃ c,n - 1 ≤ c∧v = .tup [.sl 1005 0 0 (n - 1) c,.a8 (l.getD i kp0).2.2,.tt]∧M = [(1003,.mem false 0 [(N * 65,.arr N 65 (kpF l))]),(1005,.mem true (mulE (c - (n - 1)) 65) [((n - 1) * 65,.arr (n - 1) 65 (kpF ((l.take n).eraseIdx i)))])])):=by
 have hF:=fn116 l N n hN hn hN1 hOK r k hr
 unfold kpF at hF
 unfold kpF
 refine fn_of (Γ:=Γ) (fn:=Tryz.f72) rfl rfl rfl rfl ?_
 repeat (refine sd ?_)
 refine Call.intro hF [(1003,(1003,0,none))] rfl fc rfl fc rfl ?_
 rintro v M' ⟨rfl,rfl⟩
 dsimp only [putT,afterM,newEnt,ren,renA,renS,renL,look,getM,getT,ev,evL,ofVal,cond_true,cond_false,Nat.beq_eq,act,isPar,ownPar,Ent.isOwn]
 repeat (refine sd ?_)
 refine Branch.intro (fun hc=>?_) (fun hc=>?_)
 ·have hc:(fiI r k (l.take n)) < 0:=hc
  have hc2:fiI r k (l.take n) = -1:=by
   rcases fiI_cases r k (l.take n) with h | ⟨i,_,h,_⟩
   ·exact h.1
   ·omega
  repeat (refine sd ?_)
  refine fun c hc=>?_
  have hc:0 + n ≤ c:=hc
  repeat (refine sd ?_)
  refine Ret.intro (.tup [.sl 1005 0 0 n c,.a8 (List.replicate 32 0),.ff]) [(1003,.mem false 0 [(N * 65,.arr N 65 (kpF l))]),(1005,.mem true (mulE (c - n) 65) [(n * 65,.arr n 65 (kpF l))])] [(1005,(18,0,none))] rfl ?_ (Or.inl ⟨hc2,c,by omega,rfl,rfl⟩) rfl ?_ rfl ?_ rfl
  ·exact fc
  ·exact fc
  ·exact fc
 have hc:¬ (fiI r k (l.take n)) < 0:=hc
 obtain ⟨i,hi,hv,_⟩:∃ i,i < (l.take n).length∧fiI r k (l.take n) = (i:Int)∧fiN r k (l.take n) = i:=by
  rcases fiI_cases r k (l.take n) with h | h
  ·omega
  ·exact h
 rw [List.length_take] at hi
 rw [hv]
 refine Draw.intro [[],[],[],[0,1,2],[],[],[5],[4,5,6],[0,1,2,3,4,5,6,7],[],[],[9,10],[9,10,11],[9,10,11,12],[0,1,2,3,4,5,6,7,8],[0,1,2,3,4,5,6,7,8,9,10,11,12,13,14],[0,1,2,3,4,5,6,7,8,9,10,11,12,13,14,15]] [0,1,2,3,4,5,6,7,9,10,11,12,13,8,14,15,16] (by kernel_rfl) ?_
 repeat (refine sdn ?_)
 have hin:i < n:=by omega
 obtain ⟨hx1,hx2⟩:=hOK _ (getD_mem kp0 (L:=l) (i:=i) (by omega))
 refine Branch.intro (fun hm=>?_) (fun hm=>?_)
 ·have hm:0 < n - (Int.toNat ((i:Int) + 1)):=hm
  refine fun c hc=>?_
  repeat (refine sdn ?_)
  refine Grow.auto rfl rfl ?_
  repeat (refine sdn ?_)
  refine Ret.intro (.tup [.sl 1005 0 0 (n - 1) c,.a8 (l.getD i kp0).2.2,.tt]) [(1003,.mem false 0 [(N * 65,.arr N 65 (kpF l))]),(1005,.mem true (mulE (c - (n - 1)) 65) [((n - 1) * 65,.arr (n - 1) 65 (kpF ((l.take n).eraseIdx i)))])] [(1005,(28,0,none))] rfl ?_ (Or.inr (Or.inr ⟨i,hin,rfl,by omega,c,?_,rfl,rfl⟩)) rfl ?_ rfl ?_ rfl
  ·exact fcn
  ·have hc:Int.toNat (i:Int) + (n - Int.toNat ((i:Int) + 1)) ≤ c:=hc
   omega
  ·exact fcn
  ·repeat' (first | (show AllP _;first | exact trivial | refine AllP.app ?_ ?_ | refine AllP.appd ?_ ?_ | refine AllP.cons ?_ ?_) | exact fdn | fail)
   intro q hq
   have hq:q < n - 1:=hq
   show _ = appF (Int.toNat (i:Int)) (kpF l) (shiftF ((Int.toNat ((i:Int) + 1) * 65 + 0) / 65) (kpF l)) q
   rw [Int.toNat_natCast,show (Int.toNat ((i:Int) + 1) * 65 + 0) / 65 = i + 1 by omega]
   rcases Nat.lt_or_ge q i with h | h
   ·rw [appF_lt h,kpF_erase (by omega) hq,if_pos h]
   ·rw [appF_ge h,kpF_erase (by omega) hq,if_neg (by omega),shiftF_eq,show i + 1 + (q - i) = q + 1 by omega]
 ·have hm:¬ 0 < n - (Int.toNat ((i:Int) + 1)):=hm
  repeat (refine sdn ?_)
  refine Grow.auto rfl rfl ?_
  repeat (refine sdn ?_)
  refine Ret.ghost [.own 450 [(0,.arr 0 65 (kpF []))]] [] rfl ⟨rfl,rfl,trivial⟩ rfl (.tup [.sl 1003 0 0 i i,.a8 (l.getD i kp0).2.2,.tt]) [(1003,.mem false 0 [(N * 65,.arr N 65 (kpF l))]),(1005,.mem true 0 [(0,.arr 0 65 (kpF []))])] [(1005,(450,0,none))] rfl ?_ (Or.inr (Or.inl ⟨i,hin,rfl,by omega,rfl,rfl⟩)) rfl ?_ rfl ?_ rfl
  ·exact fcn
  ·exact fcn
  ·exact fcn
end Go.Proofs.YtpkllkbmoodniaaGreat
namespace Go.Proofs.YtpkllkbmoodniaaGreat
open Go Go.Sx
theorem mkT_ne {T:List Te} {x:Te} (h:Valid x.1 x.2):(mkT T x).2 ≠ 0:=by
 cases hf:fdT x T with
 | zero=>rw [mkT_new h hf];simp
 | succ i=>rw [mkT_old h hf];simp
def tbM (N c:Nat) (T:List Te) (a:Nat):Mm:=[(1000,.mem true 0 [(1,.sl a 0 0 N c),(1,.mp 1002)]),(a,.mem true (mulE (c - N) 3) [(N * 3,.arr N 3 (ttF T))]),(1002,.map (.si (mpL T)))]
theorem tb0_valid:∀ x ∈ ([]:List Te),Valid x.1 x.2:=fun _ h=>by cases h
set_option maxRecDepth 100000 in
theorem fnNewT:Sx.Fn Γ.P 24 [] [] (fun v M=>v = .ptr 1000 0 none∧M = [(1000,.mem true 0 [(1,.nsl),(1,.mp 1002)]),(1002,.map (.si []))]):=by
 refine fn_of (Γ:=Γ) (fn:=Tryz.f24) rfl rfl rfl rfl ?_
 repeat (refine sd ?_)
 refine Ret.intro (.ptr 1000 0 none) [(1000,.mem true 0 [(1,.nsl),(1,.mp 1002)]),(1002,.map (.si []))] [(1000,(3,0,none)),(1002,(1,0,none))] rfl ?_ ⟨rfl,rfl⟩ rfl ?_ rfl ?_ rfl
 ·exact fc
 ·exact fc
 ·exact fc
end Go.Proofs.YtpkllkbmoodniaaGreat
namespace Go.Proofs.YtpkllkbmoodniaaGreat
open Go Go.Sx
def mx1 (T:List Te) (lab:UInt8) (p:List UInt8):List Te × Nat:=mkT T (7,[[lab],p])
theorem mx1_eq (T:List Te) (lab:UInt8) (p:List UInt8):mx1 T lab p = mkT T (7,[[lab],p]):=rfl
def nxA (T:List Te) (key:List UInt8):List Te:=(mx1 T 77 key).1
def nxK (T:List Te) (key:List UInt8):Nat:=(mx1 T 77 key).2
def nxT (T:List Te) (key:List UInt8):List Te:=(mx1 (nxA T key) 78 key).1
def nxN (T:List Te) (key:List UInt8):Nat:=(mx1 (nxA T key) 78 key).2
attribute [irreducible] mx1 nxA nxK nxT nxN
theorem valid7 {L:List (List UInt8)} (h:Joins L):Valid 7 L:=⟨h,by decide,by decide⟩
theorem joins2 (lab:UInt8) {p:List UInt8} (hp:p.length ≤ 1024):Joins [[lab],p]:=by
 refine ⟨by simp,fun x hx=>?_⟩
 rcases List.mem_cons.1 hx with rfl | hx
 ·simp
 ·rw [List.mem_singleton.1 hx];omega
theorem mx1_ne (T:List Te) (lab:UInt8) {p:List UInt8} (hp:p.length ≤ 1024):(mx1 T lab p).2 ≠ 0:=by
 rw [mx1_eq];exact mkT_ne (x:=(7,_)) (valid7 (joins2 lab hp))
theorem mx1_valid {T:List Te} (h:∀ x ∈ T,Valid x.1 x.2) (lab:UInt8) (p:List UInt8):∀ x ∈ (mx1 T lab p).1,Valid x.1 x.2:=by rw [mx1_eq];exact mkT_valid h
theorem mx1_len (T:List Te) (lab:UInt8) (p:List UInt8):T.length ≤ (mx1 T lab p).1.length∧(mx1 T lab p).1.length ≤ T.length + 1:=by
 rw [mx1_eq];exact mkT_len T _
theorem nxT_valid {T:List Te} (h:∀ x ∈ T,Valid x.1 x.2) (key:List UInt8):∀ x ∈ nxT T key,Valid x.1 x.2:=by
 unfold nxT nxA;exact mx1_valid (mx1_valid h _ _) _ _
theorem nxT_len (T:List Te) (key:List UInt8):T.length ≤ (nxT T key).length∧(nxT T key).length ≤ T.length + 2:=by
 unfold nxT nxA
 have h1:=mx1_len T 77 key
 have h2:=mx1_len (mx1 T 77 key).1 78 key
 omega
theorem rw1_eq {key:List UInt8} (hk:key.length = 32):rwF [key] 0 = [(1,.isl 0 32 1 [(32,.a8 key)])]:=by
 show [(1,SV.isl 0 key.length 1 [(key.length * 1,SV.a8 key)])] = _
 rw [hk]
theorem fnMix1 (T:List Te) (N c:Nat) (hT:T.length = N) (hN:N ≤ 60000) (hNc:N ≤ c) (hTv:∀ x ∈ T,Valid x.1 x.2) (lab:UInt8) (p:List UInt8) (hp:p.length = 32) (T1:List Te) (o:Nat) (e1:(mx1 T lab p).1 = T1) (e2:(mx1 T lab p).2 = o) :
  Sx.Fn Γ.P 25 [.agg [(1,.ptr 1000 0 none)],.u8 lab,.slx 1003 0 0 1] (MT N c T 1001 1 [p])
  (fun v M=>∃ n' c',T1.length = n'∧n' ≤ c'∧v = .tup [.a8 (kyB o),.bool (o ≠ 0)]∧M = (1001,.dead) :: MT n' c' T1 1005 1 [p]):=by
 subst e1;subst e2
 rw [mx1_eq]
 exact fnMixF T N c hT hN hNc hTv lab [p] 1 rfl (by omega) (fun x h=>by rw [List.mem_singleton.1 h];omega)
set_option maxRecDepth 100000 in
set_option maxHeartbeats 1000000 in
theorem fnNextF (T:List Te) (N c:Nat) (hT:T.length = N) (hN:N ≤ 50000) (hNc:N ≤ c) (hTv:∀ x ∈ T,Valid x.1 x.2) (key:List UInt8) (hk:key.length = 32) (n:UInt16) :
  Sx.Fn Γ.P 75 [.agg [(1,.ptr 1000 0 none)],.agg [(32,.a8 key),(1,.u16 n)]] (tbM N c T 1001)
  (fun v M=>(n = 65535∧v = .tup [.agg [(32,.a8 (List.replicate 32 0)),(1,.u16 0)],.a8 (List.replicate 32 0),.i .i64 7]∧M = (1001,.dead) :: tbM N c T 1005) ∨
   (n ≠ 65535∧∃ n' c',(nxT T key).length = n'∧n' ≤ c'∧v = .tup [.agg [(32,.a8 (kyB (nxN T key))),(1,.u16 (n + 1))],.a8 (kyB (nxK T key)),.i .i64 0]∧M = (1001,.dead) :: tbM n' c' (nxT T key) 1005)):=by
 obtain ⟨A,hA⟩:∃ A,(mx1 T 77 key).1 = A:=⟨_,rfl⟩
 obtain ⟨B,hB⟩:∃ B,(mx1 A 78 key).1 = B:=⟨_,rfl⟩
 obtain ⟨o1,ho1⟩:∃ o,(mx1 T 77 key).2 = o:=⟨_,rfl⟩
 obtain ⟨o2,ho2⟩:∃ o,(mx1 A 78 key).2 = o:=⟨_,rfl⟩
 have hl1:=mx1_len T 77 key
 rw [hA] at hl1
 have hv1:=mx1_valid hTv 77 key
 rw [hA] at hv1
 have eT:nxT T key = B:=by unfold nxT nxA;rw [hA,hB]
 have eK:nxK T key = o1:=by unfold nxK;rw [ho1]
 have eN:nxN T key = o2:=by unfold nxN nxA;rw [hA,ho2]
 rw [eT,eK,eN]
 have hM1:=fnMix1 T N c hT (by omega) hNc hTv 77 key hk A o1 hA ho1
 have ho1n:o1 ≠ 0:=by rw [← ho1];exact mx1_ne T 77 (by omega)
 have ho2n:o2 ≠ 0:=by rw [← ho2];exact mx1_ne A 78 (by omega)
 have hk1:=kyB_length o1
 have hk2:=kyB_length o2
 unfold MT at hM1
 unfold tbM
 refine fn_cut [3,4] (Γ:=Γ) (fn:=Tryz.f75) rfl rfl rfl rfl ?_
 repeat (refine sd ?_)
 refine Branch.intro (fun hc=>?_) (fun hc=>?_)
 ·have hc:n = 65535:=hc
  repeat (refine sd ?_)
  refine Ret.intro (.tup [.agg [(32,.a8 (List.replicate 32 0)),(1,.u16 0)],.a8 (List.replicate 32 0),.i .i64 7]) ((1001,.dead) :: tbM N c T 1005) [(1005,(1001,0,none))] rfl ?_ (Or.inl ⟨hc,rfl,rfl⟩) rfl ?_ rfl ?_ rfl
  ·exact fc
  ·exact fc
  ·repeat' (first | (show AllP _;first | exact trivial | refine AllP.app ?_ ?_ | refine AllP.appd ?_ ?_ | refine AllP.cons ?_ ?_) | exact fd | fail)
   all_goals exact fun _ _=>rfl
 have hc:¬ n = 65535:=hc
 refine Cut.intro (σ:=Unit) (fun _=>True) (fun _=>([(2,.ptr 202 0 none),(3,.ptr 203 0 none),(4,.ptr 204 0 none),(5,.ptr 205 0 none)],[(202,.mem true 0 [(1,.ptr 1000 0 none)]),(203,.mem false 1 [(32,.a8 key),(1,.u16 n)]),(204,.mem true 0 [(32,.a8 (List.replicate 32 0)),(1,.u16 0)]),(205,.mem true 0 [(32,.a8 (List.replicate 32 0))]),
  (1000,.mem true 0 [(1,.sl 1001 0 0 N c),(1,.mp 1002)]),(1001,.mem true (mulE (c - N) 3) [(N * 3,.arr N 3 (ttF T))]),(1002,.map (.si (mpL T)))])) () trivial (Le.ghost [.keep 3] [] [(202,(2,0,none)),(203,(3,0,none)),(204,(4,0,none)),(205,(5,0,none))] rfl ?_ rfl rfl ?_ rfl ?_ rfl) ?_
 ·exact fc
 ·exact fc
 ·exact fc
 rintro - -
 refine Draw.intro [[],[],[1],[1,2],[0,1,2,3],[0,1,2,3,4],[0,1,2,3,4,5],[0,1,2,3,4,5],[],[0,1,2,3,4,5,6,8],[0,1,2,3,4,5,6,7,8,9],[]] [0,1,2,3,8,4,5,6,7,9,10] (by kernel_rfl) ?_
 refine ⟨?_,?_⟩
 all_goals
  repeat (refine sd ?_)
  refine Call.name [(0,[]),(0,[]),(2001,[])] rfl fc (CallP.intro hM1 [(1000,(1000,0,none)),(1001,(1001,0,none)),(1002,(1002,0,none)),(1003,(2001,0,none)),(1005,(305,0,none))] rfl fc rfl ?_ rfl ?_)
  ·repeat' (first | (show AllP _;first | exact trivial | refine AllP.app ?_ ?_ | refine AllP.appd ?_ ?_ | refine AllP.cons ?_ ?_) | exact fd | fail)
   all_goals exact rw1_eq hk
  rintro v M' ⟨n',c',hn',hnc',rfl,rfl⟩
  dsimp only [putT,afterM,newEnt,ren,renA,renS,renL,look,getM,getT,ev,evL,ofVal,cond_true,cond_false,Nat.beq_eq,act,isPar,ownPar,Ent.isOwn]
  repeat (refine sd ?_)
 all_goals
  have hM2:=fnMix1 A n' c' hn' (by omega) hnc' hv1 78 key hk B o2 hB ho2
  unfold MT at hM2
  refine Cut.intro (σ:=Unit) (fun _=>True) (fun _=>([(2,.ptr 202 0 none),(3,.ptr 203 0 none),(4,.ptr 204 0 none),(5,.ptr 205 0 none),(7,.ptr 207 0 none),(8,.bool (o1 ≠ 0))],[(202,.mem true 0 [(1,.ptr 1000 0 none)]),(203,.mem false 1 [(32,.a8 key),(1,.u16 n)]),(204,.mem true 0 [(32,.a8 (List.replicate 32 0)),(1,.u16 0)]),(205,.mem true 0 [(32,.a8 (List.replicate 32 0))]),(207,.mem true 0 [(32,.a8 (kyB o1))]),
   (1000,.mem true 0 [(1,.sl 211 0 0 n' c'),(1,.mp 1002)]),(1001,.dead),(211,.mem true (mulE (c' - n') 3) [(n' * 3,.arr n' 3 (ttF A))]),(1002,.map (.si (mpL A)))])) () trivial (Le.intro [(202,(202,0,none)),(203,(203,0,none)),(204,(204,0,none)),(205,(205,0,none)),(207,(7,0,none)),(211,(305,0,none))] rfl ?_ rfl ?_ rfl) ?_
  ·exact fc
  ·exact fc
  rintro - -
  refine Draw.intro [[],[],[1],[1,2],[0,1,2,3],[0,1,2,3,4],[0,1,2,3,4,5],[0,1,2,3,4,5],[],[0,1,2,3,4,5,6,8],[0,1,2,3,4,5,6,7,8,9],[]] [0,1,2,3,8,4,5,6,7,9,10] (by kernel_rfl) ?_
  refine ⟨?_,?_⟩
  all_goals
   repeat (refine sd ?_)
   refine Call.name [(0,[]),(0,[]),(2001,[])] rfl fc (CallP.intro hM2 [(1000,(1000,0,none)),(1001,(211,0,none)),(1002,(1002,0,none)),(1003,(2001,0,none)),(1005,(306,0,none))] rfl fc rfl ?_ rfl ?_)
   ·repeat' (first | (show AllP _;first | exact trivial | refine AllP.app ?_ ?_ | refine AllP.appd ?_ ?_ | refine AllP.cons ?_ ?_) | exact fd | fail)
    all_goals exact rw1_eq hk
   rintro v M' ⟨n',c',hn',hnc',rfl,rfl⟩
   dsimp only [putT,afterM,newEnt,ren,renA,renS,renL,look,getM,getT,ev,evL,ofVal,cond_true,cond_false,Nat.beq_eq,act,isPar,ownPar,Ent.isOwn]
   repeat (refine sd ?_)
  all_goals
   have hn1:¬ ¬ (o1 ≠ 0):=fun h=>h ho1n
   have hn2:¬ ¬ (o2 ≠ 0):=fun h=>h ho2n
   repeat (first | (refine ky0 ?_) | (refine kn0 ?_) | (refine ky ?_) | (refine kn ?_) | (refine sd ?_))
   refine Draw.intro [[],[],[1],[1,2],[0,1,2,3],[],[0,1,2,3,4],[0,1,2,3,4,5,6],[0,1,2,3,4,5,6,7],[]] [0,1,2,3,4,5,6,7,8] (by kernel_rfl) ?_
   repeat (refine sd ?_)
   refine ⟨?_,?_⟩
   all_goals
    repeat (refine sd ?_)
    refine Ret.intro (.tup [.agg [(32,.a8 (kyB o2)),(1,.u16 (n + 1))],.a8 (kyB o1),.i .i64 0]) ((1001,.dead) :: tbM n' c' B 1005) [(1005,(306,0,none))] rfl ?_ (Or.inr ⟨hc,n',c',hn',hnc',rfl,rfl⟩) rfl ?_ rfl ?_ rfl
    ·exact fc
    ·exact fc
    ·exact fc
end Go.Proofs.YtpkllkbmoodniaaGreat
namespace Go.Proofs.YtpkllkbmoodniaaGreat
open Go Go.Sx
end Go.Proofs.YtpkllkbmoodniaaGreat
