/- What the functions of the program compute. No condition. -/
import Derived.Test.YtfnmgbillkiabaaGreatHwTm9ToCh1
set_option linter.unusedSimpArgs false
set_option linter.unusedVariables false
set_option maxRecDepth 100000
namespace Go.Proofs.YtfnmgbillkiabaaGreat
open Go Go.Sx
set_option maxHeartbeats 1000000 in
theorem fnMixF (T:List Te) (N c:Nat) (hT:T.length = N) (hN:N <= 60000) (hNc:N <= c) (hTv:∀ x ∈ T,Valid x.1 x.2) (lab:UInt8) (L:List (List UInt8)) (n:Nat) (hn:L.length = n) (hn8:n <= 8) (hL:∀ x ∈ L,x.length <= 1024) :
    Sx.Fn Γ.P 29 [.agg [(1,.ptr 1000 0 none)],.u8 lab,.slx 1003 0 0 n] (MT N c T 1001 n L)
    (fun v M=>∃ n' c',(mkT T (7,[lab] :: L)).1.length = n'/\n' <= c'/\v = .tup [.a8 (kyB (mkT T (7,[lab] :: L)).2),.bool ((mkT T (7,[lab] :: L)).2 ≠ 0)]/\M = (1001,.dead) :: MT n' c' (mkT T (7,[lab] :: L)).1 1005 n L):=by
  have hMk:=fn71 T N c hT hN hNc hTv 7 ([lab] :: L) (1 + n) (by simp [hn];omega) (by omega) (fun x h=>by
    rcases List.mem_cons.1 h with rfl | h
    · simp
    · have:=hL x h;omega)
  unfold MT rwS at hMk
  unfold MT rwS rwF
  refine fn_of (Γ:=Γ) (fn:=Tryz.f29) rfl rfl rfl rfl ?_
  repeat (refine sd ?_)
  refine zB.intro (fun hc=>?_) (fun hc=>?_)
  · exact absurd (show (n:Int) > 8 from hc) (by omega)
  repeat (refine sd ?_)
  refine Loop.intro (σ:=Nat) (fun s=>s <= n)
    (fun s=>([(1,.u8 lab),(2,.slx 1003 0 0 n),(3,.ptr 203 0 none),(6,.ptr 206 0 none),(16,.slx 1003 0 0 n),(17,.i .i64 (n:Int)),(18,.i .i64 (s:Int))],
      [(1003,.mem false 0 [(n * 1,.arr n 1 (rwF L))]),(203,.mem true 0 [(1,.ptr 1000 0 none)]),(206,.mem true 0 [(32,.a8 (List.replicate 32 0))]),
       (1000,.mem true 0 [(1,.sl 1001 0 0 N c),(1,.mp 1002)]),(1001,.mem true (zmE (c - N) 3) [(N * 3,.arr N 3 (ttF T))]),(1002,.map (.si (mpL T)))]))
    (fun s=>n - s) 0 (Nat.zero_le _) ?_ ?_
  · refine Le.intro [(203,(3,0,none)),(206,(6,0,none))] rfl ?_ rfl ?_ rfl
    · exact fc
    · exact fc
  rintro i hi
  have hi:i <= n:=hi
  refine zB.intro (fun hc=>?_) (fun hc=>?_)
  · have hc:(i:Int) < n:=hc
    have hm:=hL _ (getD_mem [] (L:=L) (i:=i) (by omega))
    repeat (refine sdn ?_)
    refine zB.intro (fun hc2=>?_) (fun _=>?_)
    · have hc2:(1024:Int) < ((L.getD (addQ 0 (Int.toNat (i:Int))) []).length:Int):=hc2
      rw [zQ,Nat.zero_add,zIn] at hc2
      exact absurd hc2 (by omega)
    repeat (refine sdn ?_)
    refine ⟨i + 1,by show i + 1 <= n;omega,by show n - (i + 1) < n - i;omega,Le.intro [(203,(203,0,none)),(206,(206,0,none))] rfl ?_ rfl ?_ rfl⟩
    · exact fcn
    · exact fcn
  repeat (refine sd ?_)
  refine zB.intro (fun _=>?_) (fun hn=>?_)
  · repeat (refine sd ?_)
    refine Draw.intro [[],[0],[],[2],[2,3],[],[2,3,4,5],[0,1,2,3,4,5,6],[0,1,2,3,4,5,6,7],[0,1,2,3,4,5,6,7],[0,1,2,3,4,5,6,7,8,9],[0,1,2,3,4,5,6,7,8,9,10]] [0,1,2,3,4,5,6,7,8,9,10,11] (by kernel_rfl) ?_
    repeat (refine sd ?_)
    refine fun c2 hc2=>?_
    repeat (refine sd ?_)
    refine Grow.intro [(36,.mem true (c2 - (1 + n)) [(1 + n,.arr (1 + n) 1 (appF 1 (rowF [[(1,.isl 0 1 1 [(1,.a8 [lab])])]]) (shiftF 0 (rwF L))))]),(34,.dead),(33,.dead)] rfl rfl ?_
    repeat (refine sd ?_)
    have hc2:1 + n <= c2:=hc2
    have hrow:∀ q,q < 1 + n->rwF ([lab] :: L) q = appF 1 (rowF [[(1,.isl 0 1 1 [(1,.a8 [lab])])]]) (shiftF 0 (rwF L)) q:=by
      intro q hq
      match q with
      | 0=>rfl
      | q + 1=>rw [appF_ge (by omega),shiftF_eq,show 0 + (q + 1 - 1) = q by omega];rfl
    refine Call.intro hMk [(1000,(1000,0,none)),(1001,(1001,0,none)),(1002,(1002,0,none)),(1003,(36,0,none)),(1005,(305,0,none))] rfl fc rfl ?_ rfl ?_
    · exact fc
    rintro v M' ⟨n',c',hn',hnc',rfl,rfl⟩
    have hkyl:=zk (mkT T (7,[lab] :: L)).2
    dsimp only [zt,zM,zE,ren,zz,zx,zy,look,zG,zX,ev,evL,zV,zcT,zcF,act,zP,zO,Ent.zW]
    repeat (refine sd ?_)
    refine Ret.intro (.tup [.a8 (kyB (mkT T (7,[lab] :: L)).2),.bool ((mkT T (7,[lab] :: L)).2 ≠ 0)]) ((1001,.dead) :: MT n' c' (mkT T (7,[lab] :: L)).1 1005 n L) [(1005,(305,0,none))] rfl ?_ ⟨n',c',hn',hnc',rfl,rfl⟩ rfl ?_ rfl ?_ rfl
    · exact fc
    · exact fc
    · exact fc
  · exact absurd hn (by simp)
theorem rw_next {x:List UInt8} {A:List (List UInt8)} {k:Nat} (hk:A.length = k):∀ q,q < k + 1->rwF (A ++ [x]) q = appF k (rwF A) (rowF [[(1,.isl 0 x.length 1 [(x.length * 1,.a8 x)])]]) q:=by
 subst hk
 intro q hq
 rcases Nat.lt_or_ge q A.length with h | h
 ·rw [appF_lt h];unfold rwF;rw [getD_app_lt [] h]
 ·obtain rfl:q = A.length:=by omega
  rw [appF_ge h];unfold rwF;rw [getD_app_at,Nat.sub_self];rfl
abbrev Kp:=List UInt8 × UInt16 × List UInt8
def kp0:Kp:=(List.replicate 32 0,0,List.replicate 32 0)
def KpOK (x:Kp):Prop:=x.1.length = 32/\x.2.2.length = 32
def rowK (x:Kp):List (Nat × SV):=[(32,.a8 x.1),(1,.u16 x.2.1),(32,.a8 x.2.2)]
def kpF (l:List Kp) (q:Nat):List (Nat × SV):=[(32,.a8 (l.getD q kp0).1),(1,.u16 (l.getD q kp0).2.1),(32,.a8 (l.getD q kp0).2.2)]
def isK (r:List UInt8) (n:UInt16) (x:Kp):Prop:=x.1 = r/\x.2.1 = n
instance (r:List UInt8) (n:UInt16) (x:Kp):Decidable (isK r n x):=inferInstanceAs (Decidable (_/\_))
def fiN (r:List UInt8) (n:UInt16):List Kp->Nat
 | []=>0
 | x :: t=>if isK r n x then 0 else fiN r n t + 1
def fiI (r:List UInt8) (n:UInt16) (l:List Kp):Int:=if fiN r n l < l.length then (fiN r n l:Int) else -1
theorem fiN_le (r:List UInt8) (n:UInt16):∀ l,fiN r n l <= l.length
 | []=>Nat.le_refl _
 | x :: t=>by
  simp only [fiN,List.length_cons]
  have:=fiN_le r n t
  split <;> omega
theorem fiN_at {r:List UInt8} {n:UInt16}:∀ {l:List Kp} {i:Nat},i < l.length->isK r n (l.getD i kp0)->(∀ j,j < i->¬ isK r n (l.getD j kp0))->fiN r n l = i
 | [],_,h,_,_=>by simp at h
 | x :: t,0,_,h,_=>by
  have h:isK r n x:=h
  simp only [fiN];rw [if_pos h]
 | x :: t,i + 1,hl,h,k=>by
  have hx:¬ isK r n x:=k 0 (by omega)
  simp only [fiN];rw [if_neg hx]
  rw [fiN_at (l:=t) (i:=i) (by simpa using hl) h fun j hj=>k (j + 1) (by omega)]
theorem fiN_none {r:List UInt8} {n:UInt16}:∀ {l:List Kp},(∀ j,j < l.length->¬ isK r n (l.getD j kp0))->fiN r n l = l.length
 | [],_=>rfl
 | x :: t,k=>by
  have hx:¬ isK r n x:=k 0 (by simp)
  simp only [fiN];rw [if_neg hx,fiN_none (l:=t) fun j hj=>k (j + 1) (by simpa using hj)]
  rfl
theorem getD_take_lt {α:Type} (d:α) {l:List α} {n j:Nat} (h:j < n):(l.take n).getD j d = l.getD j d:=by
 simp [List.getD_eq_getElem?_getD,List.getElem?_take,h]
theorem fiI_at {r:List UInt8} {n:UInt16} {l:List Kp} {m i:Nat} (hm:m <= l.length) (hi:i < m) (h:isK r n (l.getD i kp0)) (k:∀ j,j < i->¬ isK r n (l.getD j kp0)):fiI r n (l.take m) = (i:Int):=by
 have hl:(l.take m).length = m:=by rw [zlT];omega
 have e:fiN r n (l.take m) = i:=fiN_at (by omega) (by rw [getD_take_lt _ hi];exact h) fun j hj=>by rw [getD_take_lt _ (by omega)];exact k j hj
 unfold fiI;rw [e,hl,if_pos hi]
theorem fiI_none {r:List UInt8} {n:UInt16} {l:List Kp} {m:Nat} (hm:m <= l.length) (k:∀ j,j < m->¬ isK r n (l.getD j kp0)):fiI r n (l.take m) = -1:=by
 have hl:(l.take m).length = m:=by rw [zlT];omega
 have e:fiN r n (l.take m) = m:=by
  rw [fiN_none,hl]
  intro j hj
  rw [hl] at hj
  rw [getD_take_lt _ hj];exact k j hj
 unfold fiI;rw [e,hl,if_neg (by omega)]
set_option maxHeartbeats 1000000 in
theorem fn130 (l:List Kp) (N n:Nat) (hN:l.length = N) (hn:n <= N) (hN1:N <= 1000000) (hOK:∀ x ∈ l,KpOK x) (r:List UInt8) (k:UInt16) (hr:r.length = 32):Sx.Fn Γ.P 130 [.slx 1003 0 0 n,.a8 r,.u16 k] [(1003,.mem false 0 [(N * 65,.arr N 65 (kpF l))])]
  (fun v M=>v = .i .i64 (fiI r k (l.take n))/\M = [(1003,.mem false 0 [(N * 65,.arr N 65 (kpF l))])]):=by
 unfold kpF
 refine fn_of (Γ:=Γ) (fn:=Tryz.f130) rfl rfl rfl rfl ?_
 repeat (refine sd ?_)
 refine Loop.intro (σ:=Nat) (fun i=>i <= n/\∀ j,j < i->¬ isK r k (l.getD j kp0))
  (fun i=>([(2,.u16 k),(4,.ptr 204 0 none),(9,.slx 1003 0 0 n),(10,.i .i64 (n:Int)),(11,.i .i64 (i:Int))],[(1003,.mem false 0 [(N * 65,.arr N 65 (kpF l))]),(204,.mem true 0 [(32,.a8 r)])]))
  (fun i=>n - i) 0 ⟨Nat.zero_le _,fun j hj=>absurd hj (Nat.not_lt_zero _)⟩ ?_ ?_
 ·refine Le.intro [(204,(4,0,none))] rfl ?_ rfl ?_ rfl
  ·exact fc
  ·repeat' (first | (show zA _;first | exact trivial | refine zA.app ?_ ?_ | refine zA.zd ?_ ?_ | refine zA.cons ?_ ?_) | exact fd | fail)
   all_goals exact fun _ _=>rfl
 rintro i ⟨hi,hno⟩
 have hi:i <= n:=hi
 refine zB.intro (fun hc=>?_) (fun hc=>?_)
 ·have hc:(i:Int) < n:=hc
  obtain ⟨hx1,hx2⟩:=hOK _ (getD_mem kp0 (L:=l) (i:=i) (by omega))
  unfold kpF
  skip
  repeat (refine sdn ?_)
  refine zB.intro (fun h1=>?_) (fun h1=>?_)
  ·have h1r:=h1
   have h1:(l.getD (Int.toNat (i:Int)) kp0).1 = r:=h1
   rw [zIn] at h1
   repeat (first | (refine zB.intro (fun _=>?_) (fun hn=>absurd rfl hn)) | (refine ky0 ?_) | (refine kn0 ?_) | (refine ky ?_) | (refine kn ?_) | (refine sdn ?_))
   refine zB.intro (fun h2=>?_) (fun h2=>?_)
   ·have h2:(l.getD (Int.toNat (i:Int)) kp0).2.1 = k:=by first | exact h2 | exact h2.elim (fun h=>h.2) (fun h=>absurd h1r h.1)
    rw [zIn] at h2
    have hv:=fiI_at (m:=n) (by omega) (by omega) (show isK r k (l.getD i kp0) from ⟨h1,h2⟩) hno
    repeat (refine sd ?_)
    refine Ret.intro (.i .i64 (fiI r k (l.take n))) [(1003,.mem false 0 [(N * 65,.arr N 65 (kpF l))])] [] rfl trivial ⟨rfl,rfl⟩ rfl ?_ rfl ?_ rfl
    ·exact fc
    ·exact fc
   ·have h2:¬ (l.getD (Int.toNat (i:Int)) kp0).2.1 = k:=by first | exact h2 | exact fun h=>h2 (Or.inl ⟨h1r,h⟩)
    rw [zIn] at h2
    repeat (refine sd ?_)
    refine ⟨i + 1,⟨by omega,fun j hj=>?_⟩,by omega,Le.intro [(204,(204,0,none))] rfl ?_ rfl ?_ rfl⟩
    ·by_cases hji:j = i
     ·subst hji;exact fun h=>h2 h.2
     ·exact hno j (by omega)
    ·exact fc
    ·exact fc
  ·have h1r:=h1
   have h1:¬ (l.getD (Int.toNat (i:Int)) kp0).1 = r:=h1
   rw [zIn] at h1
   repeat (first | (refine zB.intro (fun _=>?_) (fun hn=>absurd rfl hn)) | (refine ky0 ?_) | (refine kn0 ?_) | (refine ky ?_) | (refine kn ?_) | (refine sdn ?_))
   refine ⟨i + 1,⟨by omega,fun j hj=>?_⟩,by omega,Le.intro [(204,(204,0,none))] rfl ?_ rfl ?_ rfl⟩
   ·by_cases hji:j = i
    ·subst hji;exact fun h=>h1 h.1
    ·exact hno j (by omega)
   ·exact fc
   ·exact fc
 ·have hc:¬ (i:Int) < n:=hc
  obtain rfl:i = n:=by omega
  have hv:=fiI_none (m:=i) (by omega) hno
  repeat (refine sd ?_)
  refine Ret.intro (.i .i64 (fiI r k (l.take i))) [(1003,.mem false 0 [(N * 65,.arr N 65 (kpF l))])] [] rfl trivial ⟨rfl,rfl⟩ rfl ?_ rfl ?_ rfl
  ·exact fc
  ·exact fc
theorem kpF_lt {l:List Kp} {x:Kp} {q:Nat} (h:q < l.length):kpF (l ++ [x]) q = kpF l q:=by
 unfold kpF;rw [getD_app_lt kp0 h]
theorem kpF_at (l:List Kp) (x:Kp):kpF (l ++ [x]) l.length = rowK x:=by
 unfold kpF;rw [getD_app_at];rfl
theorem kpF_take (l:List Kp) {n q:Nat} (h:q < n):kpF (l.take n) q = kpF l q:=by
 unfold kpF;rw [getD_take_lt kp0 h]
theorem appF_kp {A:List Kp} {x:Kp} {k:Nat} {G:Nat->List (Nat × SV)} (hk:A.length = k) (hG:G 0 = rowK x):∀ q,q < k + 1->kpF (A ++ [x]) q = appF k (kpF A) G q:=by
 subst hk
 intro q hq
 rcases Nat.lt_or_ge q A.length with h | h
 ·rw [appF_lt h,kpF_lt h]
 ·obtain rfl:q = A.length:=by omega
  rw [appF_ge h,kpF_at,Nat.sub_self,hG]
theorem fiI_cases (r:List UInt8) (k:UInt16) (L:List Kp):(fiI r k L = -1/\fiN r k L = L.length) \/ (∃ i,i < L.length/\fiI r k L = (i:Int)/\fiN r k L = i):=by
 unfold fiI
 by_cases h:fiN r k L < L.length
 ·rw [if_pos h];exact Or.inr ⟨_,h,rfl,rfl⟩
 ·rw [if_neg h];have:=fiN_le r k L;exact Or.inl ⟨rfl,by omega⟩
theorem kpF_erase {l:List Kp} {n i q:Nat} (hn:n <= l.length) (hq:q < n - 1):kpF ((l.take n).eraseIdx i) q = if q < i then kpF l q else kpF l (q + 1):=by
 unfold kpF
 simp only [List.getD_eq_getElem?_getD,List.getElem?_eraseIdx,List.getElem?_take]
 by_cases h:q < i
 ·rw [if_pos h,if_pos (by omega),if_pos h]
 ·rw [if_neg h,if_pos (by omega),if_neg h]
set_option maxHeartbeats 1000000 in
theorem fn131 (l:List Kp) (N n:Nat) (hN:l.length = N) (hn:n <= N) (hN1:N <= 1000000) (hOK:∀ x ∈ l,KpOK x) (x:Kp) (hx:KpOK x):Sx.Fn Γ.P 131 [.slx 1003 0 0 n,.agg (rowK x)] [(1003,.mem false 0 [(N * 65,.arr N 65 (kpF l))])]
  (fun v M=>(0 <= fiI x.1 x.2.1 (l.take n)/\v = .tup [.nsl,.i .i64 3]/\M = [(1003,.mem false 0 [(N * 65,.arr N 65 (kpF l))])]) \/
   (fiI x.1 x.2.1 (l.take n) = -1/\16 <= n/\v = .tup [.nsl,.i .i64 4]/\M = [(1003,.mem false 0 [(N * 65,.arr N 65 (kpF l))])]) \/
   (fiI x.1 x.2.1 (l.take n) = -1/\n < 16/\∃ c,n + 1 <= c/\v = .tup [.sl 1005 0 0 (n + 1) c,.i .i64 0]/\M = [(1003,.mem false 0 [(N * 65,.arr N 65 (kpF l))]),(1005,.mem true (zmE (c - (n + 1)) 65) [((n + 1) * 65,.arr (n + 1) 65 (kpF (l.take n ++ [x])))])])):=by
 have hF:=fn130 l N n hN hn hN1 hOK x.1 x.2.1 hx.1
 obtain ⟨hx1,hx2⟩:=hx
 unfold kpF at hF
 unfold kpF rowK
 refine fn_of (Γ:=Γ) (fn:=Tryz.f131) rfl rfl rfl rfl ?_
 repeat (refine sd ?_)
 refine Call.intro hF [(1003,(1003,0,none))] rfl fc rfl fc rfl ?_
 rintro v M' ⟨rfl,rfl⟩
 dsimp only [zt,zM,zE,ren,zz,zx,zy,look,zG,zX,ev,evL,zV,zcT,zcF,act,zP,zO,Ent.zW]
 repeat (refine sd ?_)
 refine zB.intro (fun hc=>?_) (fun hc=>?_)
 ·have hc:(fiI x.1 x.2.1 (l.take n)) ≥ 0:=hc
  repeat (refine sd ?_)
  refine Ret.intro (.tup [.nsl,.i .i64 3]) [(1003,.mem false 0 [(N * 65,.arr N 65 (kpF l))])] [] rfl trivial (Or.inl ⟨hc,rfl,rfl⟩) rfl ?_ rfl ?_ rfl
  ·exact fc
  ·exact fc
 have hc:¬ (fiI x.1 x.2.1 (l.take n)) ≥ 0:=hc
 have hc2:fiI x.1 x.2.1 (l.take n) = -1:=by
  rcases fiI_cases x.1 x.2.1 (l.take n) with h | ⟨i,_,h,_⟩
  ·exact h.1
  ·omega
 repeat (refine sd ?_)
 refine zB.intro (fun hc3=>?_) (fun hc3=>?_)
 ·have hc3:(n:Int) ≥ 16:=hc3
  repeat (refine sd ?_)
  refine Ret.intro (.tup [.nsl,.i .i64 4]) [(1003,.mem false 0 [(N * 65,.arr N 65 (kpF l))])] [] rfl trivial (Or.inr (Or.inl ⟨hc2,by omega,rfl,rfl⟩)) rfl ?_ rfl ?_ rfl
  ·exact fc
  ·exact fc
 have hc3:¬ (n:Int) ≥ 16:=hc3
 refine Draw.intro [[],[],[1],[],[3],[0,1,2,3,4],[],[6],[0,1,2,3,4,5,6,7],[0,1,2,3,4,5,6,7,8],[0,1,2,3,4,5,6,7,8,9]] [0,1,2,3,4,5,6,7,8,9,10] (by kernel_rfl) ?_
 repeat (refine sd ?_)
 refine zB.intro (fun _=>?_) (fun h=>absurd (show 0 < 1 by omega) h)
 refine fun c hc=>?_
 have hc:n + 1 <= c:=hc
 repeat (refine sd ?_)
 refine Ret.intro (.tup [.sl 1005 0 0 (n + 1) c,.i .i64 0]) [(1003,.mem false 0 [(N * 65,.arr N 65 (kpF l))]),(1005,.mem true (zmE (c - (n + 1)) 65) [((n + 1) * 65,.arr (n + 1) 65 (kpF (l.take n ++ [x])))])] [(1005,(24,0,none))] rfl ?_ (Or.inr (Or.inr ⟨hc2,by omega,c,hc,rfl,rfl⟩)) rfl ?_ rfl ?_ rfl
 ·exact fc
 ·exact fc
 ·repeat' (first | (show zA _;first | exact trivial | refine zA.app ?_ ?_ | refine zA.zd ?_ ?_ | refine zA.cons ?_ ?_) | exact fd | fail)
  intro q hq
  have hq:q < n + 1:=hq
  rw [appF_kp (G:=rowF [rowK x]) (k:=n) (by rw [zlT];omega) rfl q hq]
  rcases Nat.lt_or_ge q n with h | h
  ·rw [appF_lt h,kpF_take l h];exact (appF_lt h).symm
  ·rw [appF_ge h];exact (appF_ge h).symm
set_option maxHeartbeats 1000000 in
theorem fn82 (l:List Kp) (N n:Nat) (hN:l.length = N) (hn:n <= N) (hN1:N <= 1000000) (hOK:∀ x ∈ l,KpOK x) (r:List UInt8) (k:UInt16) (hr:r.length = 32):Sx.Fn Γ.P 82 [.slx 1003 0 0 n,.a8 r,.u16 k] [(1003,.mem false 0 [(N * 65,.arr N 65 (kpF l))])]
  (fun v M=>(fiI r k (l.take n) = -1/\∃ c,n <= c/\v = .tup [.sl 1005 0 0 n c,.a8 (List.replicate 32 0),.ff]/\M = [(1003,.mem false 0 [(N * 65,.arr N 65 (kpF l))]),(1005,.mem true (zmE (c - n) 65) [(n * 65,.arr n 65 (kpF l))])]) \/
   (∃ i,i < n/\fiI r k (l.take n) = (i:Int)/\i + 1 = n/\v = .tup [.sl 1003 0 0 i i,.a8 (l.getD i kp0).2.2,.tt]/\M = [(1003,.mem false 0 [(N * 65,.arr N 65 (kpF l))]),(1005,.mem true 0 [(0,.arr 0 65 (kpF []))])]) \/
   (∃ i,i < n/\fiI r k (l.take n) = (i:Int)/\i + 1 < n/\∃ c,n - 1 <= c/\v = .tup [.sl 1005 0 0 (n - 1) c,.a8 (l.getD i kp0).2.2,.tt]/\M = [(1003,.mem false 0 [(N * 65,.arr N 65 (kpF l))]),(1005,.mem true (zmE (c - (n - 1)) 65) [((n - 1) * 65,.arr (n - 1) 65 (kpF ((l.take n).eraseIdx i)))])])):=by
 have hF:=fn130 l N n hN hn hN1 hOK r k hr
 unfold kpF at hF
 unfold kpF
 refine fn_of (Γ:=Γ) (fn:=Tryz.f82) rfl rfl rfl rfl ?_
 repeat (refine sd ?_)
 refine Call.intro hF [(1003,(1003,0,none))] rfl fc rfl fc rfl ?_
 rintro v M' ⟨rfl,rfl⟩
 dsimp only [zt,zM,zE,ren,zz,zx,zy,look,zG,zX,ev,evL,zV,zcT,zcF,act,zP,zO,Ent.zW]
 repeat (refine sd ?_)
 refine zB.intro (fun hc=>?_) (fun hc=>?_)
 ·have hc:(fiI r k (l.take n)) < 0:=hc
  have hc2:fiI r k (l.take n) = -1:=by
   rcases fiI_cases r k (l.take n) with h | ⟨i,_,h,_⟩
   ·exact h.1
   ·omega
  repeat (refine sd ?_)
  refine fun c hc=>?_
  have hc:0 + n <= c:=hc
  repeat (refine sd ?_)
  refine Ret.intro (.tup [.sl 1005 0 0 n c,.a8 (List.replicate 32 0),.ff]) [(1003,.mem false 0 [(N * 65,.arr N 65 (kpF l))]),(1005,.mem true (zmE (c - n) 65) [(n * 65,.arr n 65 (kpF l))])] [(1005,(18,0,none))] rfl ?_ (Or.inl ⟨hc2,c,by omega,rfl,rfl⟩) rfl ?_ rfl ?_ rfl
  ·exact fc
  ·exact fc
  ·exact fc
 have hc:¬ (fiI r k (l.take n)) < 0:=hc
 obtain ⟨i,hi,hv,_⟩:∃ i,i < (l.take n).length/\fiI r k (l.take n) = (i:Int)/\fiN r k (l.take n) = i:=by
  rcases fiI_cases r k (l.take n) with h | h
  ·omega
  ·exact h
 rw [zlT] at hi
 rw [hv]
 refine Draw.intro [[],[],[],[0,1,2],[],[],[5],[4,5,6],[0,1,2,3,4,5,6,7],[],[],[9,10],[9,10,11],[9,10,11,12],[0,1,2,3,4,5,6,7,8],[0,1,2,3,4,5,6,7,8,9,10,11,12,13,14],[0,1,2,3,4,5,6,7,8,9,10,11,12,13,14,15]] [0,1,2,3,4,5,6,7,9,10,11,12,13,8,14,15,16] (by kernel_rfl) ?_
 repeat (refine sdn ?_)
 have hin:i < n:=by omega
 obtain ⟨hx1,hx2⟩:=hOK _ (getD_mem kp0 (L:=l) (i:=i) (by omega))
 refine zB.intro (fun hm=>?_) (fun hm=>?_)
 ·have hm:0 < n - (Int.toNat ((i:Int) + 1)):=hm
  refine fun c hc=>?_
  repeat (refine sdn ?_)
  refine Grow.auto rfl rfl ?_
  repeat (refine sdn ?_)
  refine Ret.intro (.tup [.sl 1005 0 0 (n - 1) c,.a8 (l.getD i kp0).2.2,.tt]) [(1003,.mem false 0 [(N * 65,.arr N 65 (kpF l))]),(1005,.mem true (zmE (c - (n - 1)) 65) [((n - 1) * 65,.arr (n - 1) 65 (kpF ((l.take n).eraseIdx i)))])] [(1005,(28,0,none))] rfl ?_ (Or.inr (Or.inr ⟨i,hin,rfl,by omega,c,?_,rfl,rfl⟩)) rfl ?_ rfl ?_ rfl
  ·exact fcn
  ·have hc:Int.toNat (i:Int) + (n - Int.toNat ((i:Int) + 1)) <= c:=hc
   omega
  ·exact fcn
  ·repeat' (first | (show zA _;first | exact trivial | refine zA.app ?_ ?_ | refine zA.zd ?_ ?_ | refine zA.cons ?_ ?_) | exact fdn | fail)
   intro q hq
   have hq:q < n - 1:=hq
   show _ = appF (Int.toNat (i:Int)) (kpF l) (shiftF ((Int.toNat ((i:Int) + 1) * 65 + 0) / 65) (kpF l)) q
   rw [zIn,show (Int.toNat ((i:Int) + 1) * 65 + 0) / 65 = i + 1 by omega]
   rcases Nat.lt_or_ge q i with h | h
   ·rw [appF_lt h,kpF_erase (by omega) hq,if_pos h]
   ·rw [appF_ge h,kpF_erase (by omega) hq,if_neg (by omega),shiftF_eq,show i + 1 + (q - i) = q + 1 by omega]
 ·have hm:¬ 0 < n - (Int.toNat ((i:Int) + 1)):=hm
  repeat (refine sdn ?_)
  refine Grow.auto rfl rfl ?_
  repeat (refine sdn ?_)
  refine Ret.ghost [.own 450 [(0,.arr 0 65 (kpF []))]] [] rfl ⟨rfl,rfl,trivial⟩ rfl (.tup [.sl 1003 0 0 i i,.a8 (l.getD i kp0).2.2,.tt]) [(1003,.mem false 0 [(N * 65,.arr N 65 (kpF l))]),(1005,.mem true 0 [(0,.arr 0 65 (kpF []))])] [(1005,(450,0,none))] rfl ?_ (Or.inr (Or.inl ⟨i,hin,rfl,by omega,rfl,rfl⟩)) rfl ?_ rfl ?_ rfl
  ·exact fcn
  ·exact fcn
  ·exact fcn
end Go.Proofs.YtfnmgbillkiabaaGreat
