/- What the functions of the program compute. No condition. -/
import Derived.Test.YtfnmgbillkiabaaGreatHwCh3ToCh5
import Derived.Test.YtfnmgbillkiabaaGreatHwTm10ToCh2
set_option linter.unusedSimpArgs false
set_option linter.unusedVariables false
set_option maxRecDepth 100000
namespace Go.Proofs.YtfnmgbillkiabaaGreat
open Go Go.Sx
theorem kpF_lt {l:List Kp} {x:Kp} {q:Nat} (h:q < l.length):kpF (l ++ [x]) q = kpF l q:=by
 unfold kpF;rw [getD_app_lt kp0 h]
theorem kpF_at (l:List Kp) (x:Kp):kpF (l ++ [x]) l.length = rowK x:=by
 unfold kpF;rw [getD_app_at];rfl
theorem kpF_take (l:List Kp) {n q:Nat} (h:q < n):kpF (l.take n) q = kpF l q:=by
 unfold kpF;rw [getD_take_lt kp0 h]
set_option maxHeartbeats 1000000 in
theorem fn50 (l k:List Kp) (N n K m:Nat) (hN:l.length = N) (hn:n <= N) (hN1:N <= 1000000) (hK:k.length = K) (hm:m <= K) (hK1:K <= 1000000) (hOK:∀ x ∈ l,KpOK x) (hOK2:∀ x ∈ k,KpOK x):Sx.Fn Γ.P 50 [.slx 1003 0 0 n,.slx 1004 0 0 m] [(1003,.mem false 0 [(N * 65,.arr N 65 (kpF l))]),(1004,.mem false 0 [(K * 65,.arr K 65 (kpF k))])]
  (fun v M=>v = .bool (l.take n = k.take m)/\M = [(1003,.mem false 0 [(N * 65,.arr N 65 (kpF l))]),(1004,.mem false 0 [(K * 65,.arr K 65 (kpF k))])]):=by
 unfold kpF
 refine fn_of (Γ:=Γ) (fn:=Tryz.f50) rfl rfl rfl rfl ?_
 repeat (refine sd ?_)
 refine zB.intro (fun hc=>?_) (fun hc=>?_)
 ·have hc:(n:Int) ≠ m:=hc
  repeat (refine sd ?_)
  have hne:¬ l.take n = k.take m:=fun h=>hc (by have:=congrArg List.length h;rw [zlT,zlT] at this;omega)
  refine Ret.intro (.bool (l.take n = k.take m)) [(1003,.mem false 0 [(N * 65,.arr N 65 (kpF l))]),(1004,.mem false 0 [(K * 65,.arr K 65 (kpF k))])] [] rfl trivial ⟨rfl,rfl⟩ rfl ?_ rfl ?_ rfl
  ·exact hne
  ·exact fc
 have hc:¬ (n:Int) ≠ m:=hc
 obtain rfl:n = m:=by omega
 repeat (refine sd ?_)
 refine Loop.intro (σ:=Nat) (fun i=>i <= n/\l.take i = k.take i)
  (fun i=>([(0,.slx 1003 0 0 n),(1,.slx 1004 0 0 n),(5,.i .i64 (i:Int))],[(1003,.mem false 0 [(N * 65,.arr N 65 (kpF l))]),(1004,.mem false 0 [(K * 65,.arr K 65 (kpF k))])]))
  (fun i=>n - i) 0 ⟨Nat.zero_le _,rfl⟩ ?_ ?_
 ·refine Le.intro [] rfl ?_ rfl ?_ rfl
  ·exact fc
  ·repeat' (first | (show zA _;first | exact trivial | refine zA.app ?_ ?_ | refine zA.zd ?_ ?_ | refine zA.cons ?_ ?_) | exact fd | fail)
   all_goals exact fun _ _=>rfl
 rintro i ⟨hi,hT⟩
 have hi:i <= n:=hi
 refine zB.intro (fun hc=>?_) (fun hc=>?_)
 ·have hc:(i:Int) < n:=hc
  obtain ⟨hx1,hx2⟩:=hOK _ (getD_mem kp0 (L:=l) (i:=i) (by omega))
  obtain ⟨hy1,hy2⟩:=hOK2 _ (getD_mem kp0 (L:=k) (i:=i) (by omega))
  unfold kpF
  refine Draw.intro [[],[],[0,1],[0,1,2],[],[],[4,5],[4,5,6],[0,1,2,3,4,5,6,7]] [0,1,2,3,4,5,6,7,8] (by kernel_rfl) ?_
  repeat (refine sdn ?_)
  refine zB.intro (fun h=>?_) (fun h=>?_)
  ·have hne:¬ l.getD i kp0 = k.getD i kp0:=by
    intro e
    apply h
    show (l.getD (Int.toNat (i:Int)) kp0).1 = (k.getD (Int.toNat (i:Int)) kp0).1/\(l.getD (Int.toNat (i:Int)) kp0).2.1 = (k.getD (Int.toNat (i:Int)) kp0).2.1/\(l.getD (Int.toNat (i:Int)) kp0).2.2 = (k.getD (Int.toNat (i:Int)) kp0).2.2
    rw [zIn,e];exact ⟨rfl,rfl,rfl⟩
   have hne2:¬ l.take n = k.take n:=by
    intro e
    apply hne
    rw [<- getD_take_lt kp0 (show i < n by omega),e,getD_take_lt kp0 (by omega)]
   repeat (refine sd ?_)
   refine Ret.intro (.bool (l.take n = k.take n)) [(1003,.mem false 0 [(N * 65,.arr N 65 (kpF l))]),(1004,.mem false 0 [(K * 65,.arr K 65 (kpF k))])] [] rfl trivial ⟨rfl,rfl⟩ rfl ?_ rfl ?_ rfl
   ·exact hne2
   ·exact fc
  ·have heq:l.getD i kp0 = k.getD i kp0:=by
    have h:(l.getD (Int.toNat (i:Int)) kp0).1 = (k.getD (Int.toNat (i:Int)) kp0).1/\(l.getD (Int.toNat (i:Int)) kp0).2.1 = (k.getD (Int.toNat (i:Int)) kp0).2.1/\(l.getD (Int.toNat (i:Int)) kp0).2.2 = (k.getD (Int.toNat (i:Int)) kp0).2.2:=Classical.byContradiction h
    rw [zIn] at h
    exact Prod.ext h.1 (Prod.ext h.2.1 h.2.2)
   repeat (refine sd ?_)
   refine ⟨i + 1,⟨by omega,by rw [take_succ_getD kp0 l i (by omega),take_succ_getD kp0 k i (by omega),hT,heq]⟩,by omega,Le.intro [] rfl ?_ rfl ?_ rfl⟩
   ·exact fc
   ·exact fc
 ·have hc:¬ (i:Int) < n:=hc
  obtain rfl:i = n:=by omega
  repeat (refine sd ?_)
  refine Ret.intro (.bool (l.take i = k.take i)) [(1003,.mem false 0 [(N * 65,.arr N 65 (kpF l))]),(1004,.mem false 0 [(K * 65,.arr K 65 (kpF k))])] [] rfl trivial ⟨rfl,rfl⟩ rfl ?_ rfl ?_ rfl
  ·exact hT
  ·exact fc
theorem getD_take_succ_erase {l:List Kp} {i k:Nat} (hi:i < l.length):(l.take (i + 1)).eraseIdx k = if i = k then (l.take i).eraseIdx k else (l.take i).eraseIdx k ++ [l.getD i kp0]:=by
 have hl:(l.take i).length = i:=by rw [zlT];omega
 rw [take_succ_getD kp0 l i hi]
 by_cases h:i = k
 ·subst h
  rw [if_pos rfl,List.eraseIdx_append_of_length_le (by omega),hl,Nat.sub_self,List.eraseIdx_of_length_le (l:=l.take i) (by omega)]
  simp
 ·rw [if_neg h]
  rcases Nat.lt_or_ge k i with hk | hk
  ·rw [List.eraseIdx_append_of_lt_length (by omega)]
  ·rw [List.eraseIdx_append_of_length_le (by omega),hl,List.eraseIdx_of_length_le (l:=l.take i) (by omega),List.eraseIdx_of_length_le (by simp;omega)]
theorem appF_kp {A:List Kp} {x:Kp} {k:Nat} {G:Nat->List (Nat × SV)} (hk:A.length = k) (hG:G 0 = rowK x):∀ q,q < k + 1->kpF (A ++ [x]) q = appF k (kpF A) G q:=by
 subst hk
 intro q hq
 rcases Nat.lt_or_ge q A.length with h | h
 ·rw [appF_lt h,kpF_lt h]
 ·obtain rfl:q = A.length:=by omega
  rw [appF_ge h,kpF_at,Nat.sub_self,hG]
set_option maxHeartbeats 1000000 in
theorem fn44 (l:List Kp) (N n:Nat) (hN:l.length = N) (hn:n <= N) (hN1:N <= 1000000) (hOK:∀ x ∈ l,KpOK x) (k:Nat) (hk:k < n):Sx.Fn Γ.P 44 [.slx 1003 0 0 n,.i .i64 (k:Int)] [(1003,.mem false 0 [(N * 65,.arr N 65 (kpF l))])]
  (fun v M=>∃ c,n - 1 <= c/\((l.take n).eraseIdx k).length = n - 1/\v = .sl 1005 0 0 (n - 1) c/\M = [(1003,.mem false 0 [(N * 65,.arr N 65 (kpF l))]),(1005,.mem true (zmE (c - (n - 1)) 65) [((n - 1) * 65,.arr (n - 1) 65 (kpF ((l.take n).eraseIdx k)))])]):=by
 unfold kpF
 refine fn_of (Γ:=Γ) (fn:=Tryz.f44) rfl rfl rfl rfl ?_
 repeat (refine sd ?_)
 refine Loop.intro (σ:=Nat × Nat × Nat) (fun s=>s.1 <= n/\((l.take s.1).eraseIdx k).length = s.2.1/\s.2.1 <= s.2.2)
  (fun s=>([(0,.slx 1003 0 0 n),(1,.i .i64 (k:Int)),(5,.sl 205 0 0 s.2.1 s.2.2),(6,.i .i64 (s.1:Int))],[(1003,.mem false 0 [(N * 65,.arr N 65 (kpF l))]),(205,.mem true (zmE (s.2.2 - s.2.1) 65) [(s.2.1 * 65,.arr s.2.1 65 (kpF ((l.take s.1).eraseIdx k)))])]))
  (fun s=>n - s.1) (0,0,0) ⟨Nat.zero_le _,rfl,Nat.le_refl _⟩ ?_ ?_
 ·refine Le.ghost [.own 205 [(0,.arr 0 65 (kpF []))]] [(5,205)] [] rfl ⟨rfl,rfl,trivial⟩ rfl rfl ?_ rfl ?_ rfl
  ·exact fc
  ·repeat' (first | (show zA _;first | exact trivial | refine zA.app ?_ ?_ | refine zA.zd ?_ ?_ | refine zA.cons ?_ ?_) | exact fd | fail)
   all_goals exact fun _ _=>rfl
 rintro ⟨i,m,c⟩ ⟨hi,hm,hmc⟩
 have hi:i <= n:=hi
 have hm:((l.take i).eraseIdx k).length = m:=hm
 have hmc:m <= c:=hmc
 refine zB.intro (fun hc=>?_) (fun hc=>?_)
 ·have hc:(i:Int) < n:=hc
  obtain ⟨hx1,hx2⟩:=hOK _ (getD_mem kp0 (L:=l) (i:=i) (by omega))
  have hmi:m <= i:=by
   have:=List.length_eraseIdx_le (l.take i) k
   rw [hm,zlT] at this;omega
  have hsu:=getD_take_succ_erase (l:=l) (i:=i) (k:=k) (by omega)
  refine zB.intro (fun h=>?_) (fun h=>?_)
  ·have h:(i:Int) ≠ k:=h
   rw [if_neg (by omega)] at hsu
   have hm2:((l.take (i + 1)).eraseIdx k).length = m + 1:=by rw [hsu,zlA,hm];rfl
   repeat (refine sd ?_)
   refine fun c2 hc2=>?_
   have hc2:m + 1 <= c2:=hc2
   repeat (refine sd ?_)
   refine ⟨(i + 1,m + 1,c2),⟨by show i + 1 <= n;omega,hm2,hc2⟩,by show n - (i + 1) < n - i;omega,Le.intro [(205,(22,0,none))] rfl ?_ rfl ?_ rfl⟩
   ·exact fc
   ·repeat' (first | (show zA _;first | exact trivial | refine zA.app ?_ ?_ | refine zA.zd ?_ ?_ | refine zA.cons ?_ ?_) | exact fd | fail)
    show ∀ q,q < m + 1->kpF ((l.take (i + 1)).eraseIdx k) q = _
    rw [hsu]
    refine appF_kp hm ?_
    show rowK (l.getD (Int.toNat (i:Int)) kp0) = _
    rw [zIn]
  ·have h:¬ (i:Int) ≠ k:=h
   rw [if_pos (by omega)] at hsu
   repeat (refine sd ?_)
   refine ⟨(i + 1,m,c),⟨by show i + 1 <= n;omega,by show ((l.take (i + 1)).eraseIdx k).length = m;rw [hsu];exact hm,hmc⟩,by show n - (i + 1) < n - i;omega,Le.intro [(205,(205,0,none))] rfl ?_ rfl ?_ rfl⟩
   ·exact fc
   ·repeat' (first | (show zA _;first | exact trivial | refine zA.app ?_ ?_ | refine zA.zd ?_ ?_ | refine zA.cons ?_ ?_) | exact fd | fail)
    all_goals (rw [hsu];exact fun _ _=>rfl)
 ·have hc:¬ (i:Int) < n:=hc
  obtain rfl:i = n:=by omega
  have hm1:m = i - 1:=by
   rw [<- hm,List.length_eraseIdx,if_pos (by rw [zlT];omega),zlT];omega
  subst hm1
  repeat (refine sd ?_)
  refine Ret.intro (.sl 1005 0 0 (i - 1) c) [(1003,.mem false 0 [(N * 65,.arr N 65 (kpF l))]),(1005,.mem true (zmE (c - (i - 1)) 65) [((i - 1) * 65,.arr (i - 1) 65 (kpF ((l.take i).eraseIdx k)))])] [(1005,(205,0,none))] rfl ?_ ⟨c,hmc,hm,rfl,rfl⟩ rfl ?_ rfl ?_ rfl
  ·exact fc
  ·exact fc
  ·exact fc
theorem fiI_cases (r:List UInt8) (k:UInt16) (L:List Kp):(fiI r k L = -1/\fiN r k L = L.length) \/ (∃ i,i < L.length/\fiI r k L = (i:Int)/\fiN r k L = i):=by
 unfold fiI
 by_cases h:fiN r k L < L.length
 ·rw [if_pos h];exact Or.inr ⟨_,h,rfl,rfl⟩
 ·rw [if_neg h];have:=fiN_le r k L;exact Or.inl ⟨rfl,by omega⟩
theorem kpF_erase {l:List Kp} {n i q:Nat} (hn:n <= l.length) (hq:q < n - 1):kpF ((l.take n).eraseIdx i) q = if q < i then kpF l q else kpF l (q + 1):=by
 unfold kpF
 simp only [List.getD_eq_getElem?_getD,List.getElem?_eraseIdx,List.getElem?_take]
 by_cases h:q < i
 ·rw [if_pos h,if_pos (by omega),if_pos h]
 ·rw [if_neg h,if_pos (by omega),if_neg h]
set_option maxHeartbeats 1000000 in
theorem fn131 (l:List Kp) (N n:Nat) (hN:l.length = N) (hn:n <= N) (hN1:N <= 1000000) (hOK:∀ x ∈ l,KpOK x) (x:Kp) (hx:KpOK x):Sx.Fn Γ.P 131 [.slx 1003 0 0 n,.agg (rowK x)] [(1003,.mem false 0 [(N * 65,.arr N 65 (kpF l))])]
  (fun v M=>(0 <= fiI x.1 x.2.1 (l.take n)/\v = .tup [.nsl,.i .i64 3]/\M = [(1003,.mem false 0 [(N * 65,.arr N 65 (kpF l))])]) \/
   (fiI x.1 x.2.1 (l.take n) = -1/\16 <= n/\v = .tup [.nsl,.i .i64 4]/\M = [(1003,.mem false 0 [(N * 65,.arr N 65 (kpF l))])]) \/
   (fiI x.1 x.2.1 (l.take n) = -1/\n < 16/\∃ c,n + 1 <= c/\v = .tup [.sl 1005 0 0 (n + 1) c,.i .i64 0]/\M = [(1003,.mem false 0 [(N * 65,.arr N 65 (kpF l))]),(1005,.mem true (zmE (c - (n + 1)) 65) [((n + 1) * 65,.arr (n + 1) 65 (kpF (l.take n ++ [x])))])])):=by
 have hF:=fn130 l N n hN hn hN1 hOK x.1 x.2.1 hx.1
 obtain ⟨hx1,hx2⟩:=hx
 unfold kpF at hF
 unfold kpF rowK
 refine fn_of (Γ:=Γ) (fn:=Tryz.f131) rfl rfl rfl rfl ?_
 repeat (refine sd ?_)
 refine Call.intro hF [(1003,(1003,0,none))] rfl fc rfl fc rfl ?_
 rintro v M' ⟨rfl,rfl⟩
 dsimp only [zt,zM,zE,ren,zz,zx,zy,look,zG,zX,ev,evL,zV,zcT,zcF,act,zP,zO,Ent.zW]
 repeat (refine sd ?_)
 refine zB.intro (fun hc=>?_) (fun hc=>?_)
 ·have hc:(fiI x.1 x.2.1 (l.take n)) ≥ 0:=hc
  repeat (refine sd ?_)
  refine Ret.intro (.tup [.nsl,.i .i64 3]) [(1003,.mem false 0 [(N * 65,.arr N 65 (kpF l))])] [] rfl trivial (Or.inl ⟨hc,rfl,rfl⟩) rfl ?_ rfl ?_ rfl
  ·exact fc
  ·exact fc
 have hc:¬ (fiI x.1 x.2.1 (l.take n)) ≥ 0:=hc
 have hc2:fiI x.1 x.2.1 (l.take n) = -1:=by
  rcases fiI_cases x.1 x.2.1 (l.take n) with h | ⟨i,_,h,_⟩
  ·exact h.1
  ·omega
 repeat (refine sd ?_)
 refine zB.intro (fun hc3=>?_) (fun hc3=>?_)
 ·have hc3:(n:Int) ≥ 16:=hc3
  repeat (refine sd ?_)
  refine Ret.intro (.tup [.nsl,.i .i64 4]) [(1003,.mem false 0 [(N * 65,.arr N 65 (kpF l))])] [] rfl trivial (Or.inr (Or.inl ⟨hc2,by omega,rfl,rfl⟩)) rfl ?_ rfl ?_ rfl
  ·exact fc
  ·exact fc
 have hc3:¬ (n:Int) ≥ 16:=hc3
 refine Draw.intro [[],[],[1],[],[3],[0,1,2,3,4],[],[6],[0,1,2,3,4,5,6,7],[0,1,2,3,4,5,6,7,8],[0,1,2,3,4,5,6,7,8,9]] [0,1,2,3,4,5,6,7,8,9,10] (by kernel_rfl) ?_
 repeat (refine sd ?_)
 refine zB.intro (fun _=>?_) (fun h=>absurd (show 0 < 1 by omega) h)
 refine fun c hc=>?_
 have hc:n + 1 <= c:=hc
 repeat (refine sd ?_)
 refine Ret.intro (.tup [.sl 1005 0 0 (n + 1) c,.i .i64 0]) [(1003,.mem false 0 [(N * 65,.arr N 65 (kpF l))]),(1005,.mem true (zmE (c - (n + 1)) 65) [((n + 1) * 65,.arr (n + 1) 65 (kpF (l.take n ++ [x])))])] [(1005,(24,0,none))] rfl ?_ (Or.inr (Or.inr ⟨hc2,by omega,c,hc,rfl,rfl⟩)) rfl ?_ rfl ?_ rfl
 ·exact fc
 ·exact fc
 ·repeat' (first | (show zA _;first | exact trivial | refine zA.app ?_ ?_ | refine zA.zd ?_ ?_ | refine zA.cons ?_ ?_) | exact fd | fail)
  intro q hq
  have hq:q < n + 1:=hq
  rw [appF_kp (G:=rowF [rowK x]) (k:=n) (by rw [zlT];omega) rfl q hq]
  rcases Nat.lt_or_ge q n with h | h
  ·rw [appF_lt h,kpF_take l h];exact (appF_lt h).symm
  ·rw [appF_ge h];exact (appF_ge h).symm
set_option maxHeartbeats 1000000 in
theorem fn82 (l:List Kp) (N n:Nat) (hN:l.length = N) (hn:n <= N) (hN1:N <= 1000000) (hOK:∀ x ∈ l,KpOK x) (r:List UInt8) (k:UInt16) (hr:r.length = 32):Sx.Fn Γ.P 82 [.slx 1003 0 0 n,.a8 r,.u16 k] [(1003,.mem false 0 [(N * 65,.arr N 65 (kpF l))])]
  (fun v M=>(fiI r k (l.take n) = -1/\∃ c,n <= c/\v = .tup [.sl 1005 0 0 n c,.a8 (List.replicate 32 0),.ff]/\M = [(1003,.mem false 0 [(N * 65,.arr N 65 (kpF l))]),(1005,.mem true (zmE (c - n) 65) [(n * 65,.arr n 65 (kpF l))])]) \/
   (∃ i,i < n/\fiI r k (l.take n) = (i:Int)/\i + 1 = n/\v = .tup [.sl 1003 0 0 i i,.a8 (l.getD i kp0).2.2,.tt]/\M = [(1003,.mem false 0 [(N * 65,.arr N 65 (kpF l))]),(1005,.mem true 0 [(0,.arr 0 65 (kpF []))])]) \/
   (∃ i,i < n/\fiI r k (l.take n) = (i:Int)/\i + 1 < n/\∃ c,n - 1 <= c/\v = .tup [.sl 1005 0 0 (n - 1) c,.a8 (l.getD i kp0).2.2,.tt]/\M = [(1003,.mem false 0 [(N * 65,.arr N 65 (kpF l))]),(1005,.mem true (zmE (c - (n - 1)) 65) [((n - 1) * 65,.arr (n - 1) 65 (kpF ((l.take n).eraseIdx i)))])])):=by
 have hF:=fn130 l N n hN hn hN1 hOK r k hr
 unfold kpF at hF
 unfold kpF
 refine fn_of (Γ:=Γ) (fn:=Tryz.f82) rfl rfl rfl rfl ?_
 repeat (refine sd ?_)
 refine Call.intro hF [(1003,(1003,0,none))] rfl fc rfl fc rfl ?_
 rintro v M' ⟨rfl,rfl⟩
 dsimp only [zt,zM,zE,ren,zz,zx,zy,look,zG,zX,ev,evL,zV,zcT,zcF,act,zP,zO,Ent.zW]
 repeat (refine sd ?_)
 refine zB.intro (fun hc=>?_) (fun hc=>?_)
 ·have hc:(fiI r k (l.take n)) < 0:=hc
  have hc2:fiI r k (l.take n) = -1:=by
   rcases fiI_cases r k (l.take n) with h | ⟨i,_,h,_⟩
   ·exact h.1
   ·omega
  repeat (refine sd ?_)
  refine fun c hc=>?_
  have hc:0 + n <= c:=hc
  repeat (refine sd ?_)
  refine Ret.intro (.tup [.sl 1005 0 0 n c,.a8 (List.replicate 32 0),.ff]) [(1003,.mem false 0 [(N * 65,.arr N 65 (kpF l))]),(1005,.mem true (zmE (c - n) 65) [(n * 65,.arr n 65 (kpF l))])] [(1005,(18,0,none))] rfl ?_ (Or.inl ⟨hc2,c,by omega,rfl,rfl⟩) rfl ?_ rfl ?_ rfl
  ·exact fc
  ·exact fc
  ·exact fc
 have hc:¬ (fiI r k (l.take n)) < 0:=hc
 obtain ⟨i,hi,hv,_⟩:∃ i,i < (l.take n).length/\fiI r k (l.take n) = (i:Int)/\fiN r k (l.take n) = i:=by
  rcases fiI_cases r k (l.take n) with h | h
  ·omega
  ·exact h
 rw [zlT] at hi
 rw [hv]
 refine Draw.intro [[],[],[],[0,1,2],[],[],[5],[4,5,6],[0,1,2,3,4,5,6,7],[],[],[9,10],[9,10,11],[9,10,11,12],[0,1,2,3,4,5,6,7,8],[0,1,2,3,4,5,6,7,8,9,10,11,12,13,14],[0,1,2,3,4,5,6,7,8,9,10,11,12,13,14,15]] [0,1,2,3,4,5,6,7,9,10,11,12,13,8,14,15,16] (by kernel_rfl) ?_
 repeat (refine sdn ?_)
 have hin:i < n:=by omega
 obtain ⟨hx1,hx2⟩:=hOK _ (getD_mem kp0 (L:=l) (i:=i) (by omega))
 refine zB.intro (fun hm=>?_) (fun hm=>?_)
 ·have hm:0 < n - (Int.toNat ((i:Int) + 1)):=hm
  refine fun c hc=>?_
  repeat (refine sdn ?_)
  refine Grow.auto rfl rfl ?_
  repeat (refine sdn ?_)
  refine Ret.intro (.tup [.sl 1005 0 0 (n - 1) c,.a8 (l.getD i kp0).2.2,.tt]) [(1003,.mem false 0 [(N * 65,.arr N 65 (kpF l))]),(1005,.mem true (zmE (c - (n - 1)) 65) [((n - 1) * 65,.arr (n - 1) 65 (kpF ((l.take n).eraseIdx i)))])] [(1005,(28,0,none))] rfl ?_ (Or.inr (Or.inr ⟨i,hin,rfl,by omega,c,?_,rfl,rfl⟩)) rfl ?_ rfl ?_ rfl
  ·exact fcn
  ·have hc:Int.toNat (i:Int) + (n - Int.toNat ((i:Int) + 1)) <= c:=hc
   omega
  ·exact fcn
  ·repeat' (first | (show zA _;first | exact trivial | refine zA.app ?_ ?_ | refine zA.zd ?_ ?_ | refine zA.cons ?_ ?_) | exact fdn | fail)
   intro q hq
   have hq:q < n - 1:=hq
   show _ = appF (Int.toNat (i:Int)) (kpF l) (shiftF ((Int.toNat ((i:Int) + 1) * 65 + 0) / 65) (kpF l)) q
   rw [zIn,show (Int.toNat ((i:Int) + 1) * 65 + 0) / 65 = i + 1 by omega]
   rcases Nat.lt_or_ge q i with h | h
   ·rw [appF_lt h,kpF_erase (by omega) hq,if_pos h]
   ·rw [appF_ge h,kpF_erase (by omega) hq,if_neg (by omega),shiftF_eq,show i + 1 + (q - i) = q + 1 by omega]
 ·have hm:¬ 0 < n - (Int.toNat ((i:Int) + 1)):=hm
  repeat (refine sdn ?_)
  refine Grow.auto rfl rfl ?_
  repeat (refine sdn ?_)
  refine Ret.ghost [.own 450 [(0,.arr 0 65 (kpF []))]] [] rfl ⟨rfl,rfl,trivial⟩ rfl (.tup [.sl 1003 0 0 i i,.a8 (l.getD i kp0).2.2,.tt]) [(1003,.mem false 0 [(N * 65,.arr N 65 (kpF l))]),(1005,.mem true 0 [(0,.arr 0 65 (kpF []))])] [(1005,(450,0,none))] rfl ?_ (Or.inr (Or.inl ⟨i,hin,rfl,by omega,rfl,rfl⟩)) rfl ?_ rfl ?_ rfl
  ·exact fcn
  ·exact fcn
  ·exact fcn
theorem mkT_ne {T:List Te} {x:Te} (h:Valid x.1 x.2):(mkT T x).2 ≠ 0:=by
 cases hf:fdT x T with
 | zero=>rw [mkT_new h hf];simp
 | succ i=>rw [mkT_old h hf];simp
def tbM (N c:Nat) (T:List Te) (a:Nat):Mm:=[(1000,.mem true 0 [(1,.sl a 0 0 N c),(1,.mp 1002)]),(a,.mem true (zmE (c - N) 3) [(N * 3,.arr N 3 (ttF T))]),(1002,.map (.si (mpL T)))]
def rbM (N c:Nat) (T:List Te) (a:Nat):Mm:=[(1000,.mem true 0 [(1,.sl a 0 0 N c)]),(a,.mem true (zmE (c - N) 2) [(N * 2,.arr N 2 (rtF T))])]
theorem tb0_valid:∀ x ∈ ([]:List Te),Valid x.1 x.2:=fun _ h=>by cases h
theorem fnNewT:Sx.Fn Γ.P 28 [] [] (fun v M=>v = .ptr 1000 0 none/\M = [(1000,.mem true 0 [(1,.nsl),(1,.mp 1002)]),(1002,.map (.si []))]):=by
 refine fn_of (Γ:=Γ) (fn:=Tryz.f28) rfl rfl rfl rfl ?_
 repeat (refine sd ?_)
 refine Ret.intro (.ptr 1000 0 none) [(1000,.mem true 0 [(1,.nsl),(1,.mp 1002)]),(1002,.map (.si []))] [(1000,(3,0,none)),(1002,(1,0,none))] rfl ?_ ⟨rfl,rfl⟩ rfl ?_ rfl ?_ rfl
 ·exact fc
 ·exact fc
 ·exact fc
end Go.Proofs.YtfnmgbillkiabaaGreat
