/- What the functions of the program compute. No condition. -/
import Derived.Test.YtfnmgbillkiabaaGreatHwTm10ToCh2
set_option linter.unusedSimpArgs false
set_option linter.unusedVariables false
set_option maxRecDepth 100000
namespace Go.Proofs.YtfnmgbillkiabaaGreat
open Go Go.Sx
theorem rw_next {x:List UInt8} {A:List (List UInt8)} {k:Nat} (hk:A.length = k):∀ q,q < k + 1->rwF (A ++ [x]) q = appF k (rwF A) (rowF [[(1,.isl 0 x.length 1 [(x.length * 1,.a8 x)])]]) q:=by
 subst hk
 intro q hq
 rcases Nat.lt_or_ge q A.length with h | h
 ·rw [appF_lt h];unfold rwF;rw [getD_app_lt [] h]
 ·obtain rfl:q = A.length:=by omega
  rw [appF_ge h];unfold rwF;rw [getD_app_at,Nat.sub_self];rfl
set_option maxHeartbeats 1000000 in
theorem fnRMixF (T:List Te) (N c:Nat) (hT:T.length = N) (hN:N <= 60000) (hNc:N <= c) (hTs:∀ x ∈ T,x.2.length <= 1000000) (lab:UInt8) (L:List (List UInt8)) (n:Nat) (hn:L.length = n) (hn1:1 <= n) (hn8:n <= 8) (hL:∀ x ∈ L,x.length <= 1024) :
    Sx.Fn Γ.P 31 [.agg [(1,.ptr 1000 0 none)],.u8 lab,.slx 1003 0 0 n] (M12 N c T 1001 n L)
    (fun v M=>∃ n' c',(mkT T (7,[lab] :: L)).1.length = n'/\n' <= c'/\v = .tup [.a8 (kyB (mkT T (7,[lab] :: L)).2),.bool ((mkT T (7,[lab] :: L)).2 ≠ 0)]/\M = (1001,.dead) :: M12 n' c' (mkT T (7,[lab] :: L)).1 1005 n L):=by
  have hMk:=fn36 T N c hT hN hNc hTs 7 ([lab] :: L) (1 + n) (by simp [hn];omega) (by omega) (fun x h=>by
    rcases List.mem_cons.1 h with rfl | h
    · simp
    · have:=hL x h;omega)
  unfold M12 rwS at hMk
  unfold M12 rwS
  refine fn_of (Γ:=Γ) (fn:=Tryz.f31) rfl rfl rfl rfl ?_
  repeat (refine sd ?_)
  refine zB.intro (fun hc=>?_) (fun hc=>?_)
  · exact absurd (show (n:Int) > 8 from hc) (by omega)
  repeat (refine sd ?_)
  refine Loop.intro (σ:=Option (Nat × Nat)) (fun s=>match s with | none=>True | some s=>1 <= s.1/\s.1 <= n/\1 + s.1 <= s.2)
    (fun s=>match s with
      | none=>([(1,.u8 lab),(2,.slx 1003 0 0 n),(3,.ptr 203 0 none),(6,.ptr 206 0 none),(8,.sl 218 0 0 1 1),(9,.i .i64 0)],
      [(1003,.mem false 0 [(n * 1,.arr n 1 (rwF L))]),(203,.mem true 0 [(1,.ptr 1000 0 none)]),(206,.mem true 0 [(32,.a8 (List.replicate 32 0))]),(218,.mem true 0 [(1,.sl 217 0 0 1 1)]),(217,.mem true 0 [(1,.a8 [lab])]),
       (1000,.mem true 0 [(1,.sl 1001 0 0 N c)]),(1001,.mem true (zmE (c - N) 2) [(N * 2,.arr N 2 (rtF T))])])
      | some s=>([(1,.u8 lab),(2,.slx 1003 0 0 n),(3,.ptr 203 0 none),(6,.ptr 206 0 none),(8,.sl 208 0 0 (1 + s.1) s.2),(9,.i .i64 (s.1:Int))],
      [(1003,.mem false 0 [(n * 1,.arr n 1 (rwF L))]),(203,.mem true 0 [(1,.ptr 1000 0 none)]),(206,.mem true 0 [(32,.a8 (List.replicate 32 0))]),(208,.mem true (s.2 - (1 + s.1)) [((1 + s.1) * 1,.arr (1 + s.1) 1 (rwF ([lab] :: L.take s.1)))]),
       (1000,.mem true 0 [(1,.sl 1001 0 0 N c)]),(1001,.mem true (zmE (c - N) 2) [(N * 2,.arr N 2 (rtF T))])]))
    (fun s=>match s with | none=>n | some s=>n - s.1) none trivial ?_ ?_
  · refine Le.intro [(203,(3,0,none)),(206,(6,0,none)),(218,(18,0,none)),(217,(17,0,none))] rfl ?_ rfl ?_ rfl
    · exact fc
    · exact fc
  rintro (_ | ⟨i,cc⟩) hi
  · refine zB.intro (fun hc=>?_) (fun hc=>?_)
    · have hm:=hL _ (getD_mem [] (L:=L) (i:=0) (by omega))
      repeat (refine sdn ?_)
      refine zB.intro (fun hc2=>?_) (fun _=>?_)
      · have hc2:(1024:Int) < ((L.getD (addQ 0 (Int.toNat (0:Int))) []).length:Int):=hc2
        rw [zQ,Nat.zero_add,Int.toNat_zero] at hc2
        exact absurd hc2 (by omega)
      repeat (refine sdn ?_)
      refine fun c2 hc2=>?_
      have hc2:1 + 1 <= c2:=hc2
      repeat (refine sdn ?_)
      refine ⟨some (1,c2),⟨Nat.le_refl _,hn1,hc2⟩,by show n - 1 < n;omega,Le.intro [(203,(203,0,none)),(206,(206,0,none)),(208,(38,0,none))] rfl ?_ rfl ?_ rfl⟩
      · exact fcn
      · repeat' (first | (show zA _;first | exact trivial | refine zA.app ?_ ?_ | refine zA.zd ?_ ?_ | refine zA.cons ?_ ?_) | exact fdn | fail)
        intro q hq
        have e:L.take 1 = [L.getD 0 []]:=by have:=take_succ_getD [] L 0 (by omega);simpa using this
        have hq:q < 1 + 1:=hq
        rw [show List.take (1,c2).1 L = [L.getD 0 []] from e]
        match q,hq with
        | 0,_=>rfl
        | 1,_=>
          simp only [zme,dropQ_eq,List.drop_zero,Ix.val,zQ,Nat.zero_add,zIn,Int.toNat_zero,List.nil_append,List.take_length,Nat.mul_one]
          show [(1,SV.isl 0 (L.getD 0 []).length 1 [((L.getD 0 []).length * 1,SV.a8 (L.getD 0 []))])] = _
          rw [Nat.mul_one]
          rfl
    · exact absurd hc (by show ¬ ¬ (0:Int) < n;omega)
  · obtain ⟨hi1,hin,hcc⟩:=hi
    have hi1:1 <= i:=hi1
    have hin:i <= n:=hin
    have hcc:1 + i <= cc:=hcc
    have hlen:([lab] :: L.take i).length = 1 + i:=by rw [List.length_cons,zlT];omega
    refine zB.intro (fun hc=>?_) (fun hc=>?_)
    · have hc:(i:Int) < n:=hc
      have hm:=hL _ (getD_mem [] (L:=L) (i:=i) (by omega))
      repeat (refine sdn ?_)
      refine zB.intro (fun hc2=>?_) (fun _=>?_)
      · have hc2:(1024:Int) < ((L.getD (addQ 0 (Int.toNat (i:Int))) []).length:Int):=hc2
        rw [zQ,Nat.zero_add,zIn] at hc2
        exact absurd hc2 (by omega)
      repeat (refine sdn ?_)
      refine fun c2 hc2=>?_
      have hc2:1 + i + 1 <= c2:=hc2
      repeat (refine sdn ?_)
      refine ⟨some (i + 1,c2),⟨by show 1 <= i + 1;omega,by show i + 1 <= n;omega,by show 1 + (i + 1) <= c2;omega⟩,by show n - (i + 1) < n - i;omega,Le.intro [(203,(203,0,none)),(206,(206,0,none)),(208,(38,0,none))] rfl ?_ rfl ?_ rfl⟩
      · exact fcn
      · repeat' (first | (show zA _;first | exact trivial | refine zA.app ?_ ?_ | refine zA.zd ?_ ?_ | refine zA.cons ?_ ?_) | exact fdn | fail)
        intro q hq
        have hq:q < 1 + i + 1:=by have hq:q < 1 + (i + 1):=hq;omega
        have e:[lab] :: L.take (i + 1) = ([lab] :: L.take i) ++ [L.getD i []]:=by rw [take_succ_getD [] L i (by omega)];rfl
        rw [show [lab] :: List.take (i + 1,c2).1 L = ([lab] :: L.take i) ++ [L.getD i []] from e,rw_next hlen q hq]
        simp only [zme,dropQ_eq,List.drop_zero,Ix.val,zQ,Nat.zero_add,zIn,List.nil_append,List.take_length,Nat.mul_one]
        rfl
    · have hc:¬ (i:Int) < n:=hc
      obtain rfl:i = n:=by omega
      have htk:L.take i = L:=List.take_of_length_le (by omega)
      have hrow:∀ q,q < 1 + i->rwF ([lab] :: L) q = rwF ([lab] :: L.take i) q:=by rw [htk];exact fun _ _=>rfl
      repeat (refine sd ?_)
      refine zB.intro (fun _=>?_) (fun hn=>absurd hn (by simp))
      repeat (refine sd ?_)
      refine Call.intro hMk [(1000,(1000,0,none)),(1001,(1001,0,none)),(1003,(208,0,none)),(1005,(305,0,none))] rfl fc rfl ?_ rfl ?_
      · repeat' (first | (show zA _;first | exact trivial | refine zA.app ?_ ?_ | refine zA.zd ?_ ?_ | refine zA.cons ?_ ?_) | exact fd | fail)
        all_goals exact hrow
      rintro v M' ⟨n',c',hn',hnc',rfl,rfl⟩
      have hkyl:=zk (mkT T (7,[lab] :: L)).2
      dsimp only [zt,zM,zE,ren,zz,zx,zy,look,zG,zX,ev,evL,zV,zcT,zcF,act,zP,zO,Ent.zW]
      repeat (refine sd ?_)
      refine Ret.intro (.tup [.a8 (kyB (mkT T (7,[lab] :: L)).2),.bool ((mkT T (7,[lab] :: L)).2 ≠ 0)]) ((1001,.dead) :: M12 n' c' (mkT T (7,[lab] :: L)).1 1005 i L) [(1005,(305,0,none))] rfl ?_ ⟨n',c',hn',hnc',rfl,rfl⟩ rfl ?_ rfl ?_ rfl
      · exact fc
      · exact fc
      · exact fc
abbrev Kp:=List UInt8 × UInt16 × List UInt8
def kp0:Kp:=(List.replicate 32 0,0,List.replicate 32 0)
def KpOK (x:Kp):Prop:=x.1.length = 32/\x.2.2.length = 32
def rowK (x:Kp):List (Nat × SV):=[(32,.a8 x.1),(1,.u16 x.2.1),(32,.a8 x.2.2)]
def kpF (l:List Kp) (q:Nat):List (Nat × SV):=[(32,.a8 (l.getD q kp0).1),(1,.u16 (l.getD q kp0).2.1),(32,.a8 (l.getD q kp0).2.2)]
def isK (r:List UInt8) (n:UInt16) (x:Kp):Prop:=x.1 = r/\x.2.1 = n
instance (r:List UInt8) (n:UInt16) (x:Kp):Decidable (isK r n x):=inferInstanceAs (Decidable (_/\_))
def fiN (r:List UInt8) (n:UInt16):List Kp->Nat
 | []=>0
 | x :: t=>if isK r n x then 0 else fiN r n t + 1
def fiI (r:List UInt8) (n:UInt16) (l:List Kp):Int:=if fiN r n l < l.length then (fiN r n l:Int) else -1
theorem fiN_le (r:List UInt8) (n:UInt16):∀ l,fiN r n l <= l.length
 | []=>Nat.le_refl _
 | x :: t=>by
  simp only [fiN,List.length_cons]
  have:=fiN_le r n t
  split <;> omega
theorem fiN_at {r:List UInt8} {n:UInt16}:∀ {l:List Kp} {i:Nat},i < l.length->isK r n (l.getD i kp0)->(∀ j,j < i->¬ isK r n (l.getD j kp0))->fiN r n l = i
 | [],_,h,_,_=>by simp at h
 | x :: t,0,_,h,_=>by
  have h:isK r n x:=h
  simp only [fiN];rw [if_pos h]
 | x :: t,i + 1,hl,h,k=>by
  have hx:¬ isK r n x:=k 0 (by omega)
  simp only [fiN];rw [if_neg hx]
  rw [fiN_at (l:=t) (i:=i) (by simpa using hl) h fun j hj=>k (j + 1) (by omega)]
theorem fiN_none {r:List UInt8} {n:UInt16}:∀ {l:List Kp},(∀ j,j < l.length->¬ isK r n (l.getD j kp0))->fiN r n l = l.length
 | [],_=>rfl
 | x :: t,k=>by
  have hx:¬ isK r n x:=k 0 (by simp)
  simp only [fiN];rw [if_neg hx,fiN_none (l:=t) fun j hj=>k (j + 1) (by simpa using hj)]
  rfl
theorem getD_take_lt {α:Type} (d:α) {l:List α} {n j:Nat} (h:j < n):(l.take n).getD j d = l.getD j d:=by
 simp [List.getD_eq_getElem?_getD,List.getElem?_take,h]
theorem fiI_at {r:List UInt8} {n:UInt16} {l:List Kp} {m i:Nat} (hm:m <= l.length) (hi:i < m) (h:isK r n (l.getD i kp0)) (k:∀ j,j < i->¬ isK r n (l.getD j kp0)):fiI r n (l.take m) = (i:Int):=by
 have hl:(l.take m).length = m:=by rw [zlT];omega
 have e:fiN r n (l.take m) = i:=fiN_at (by omega) (by rw [getD_take_lt _ hi];exact h) fun j hj=>by rw [getD_take_lt _ (by omega)];exact k j hj
 unfold fiI;rw [e,hl,if_pos hi]
theorem fiI_none {r:List UInt8} {n:UInt16} {l:List Kp} {m:Nat} (hm:m <= l.length) (k:∀ j,j < m->¬ isK r n (l.getD j kp0)):fiI r n (l.take m) = -1:=by
 have hl:(l.take m).length = m:=by rw [zlT];omega
 have e:fiN r n (l.take m) = m:=by
  rw [fiN_none,hl]
  intro j hj
  rw [hl] at hj
  rw [getD_take_lt _ hj];exact k j hj
 unfold fiI;rw [e,hl,if_neg (by omega)]
set_option maxHeartbeats 1000000 in
theorem fn130 (l:List Kp) (N n:Nat) (hN:l.length = N) (hn:n <= N) (hN1:N <= 1000000) (hOK:∀ x ∈ l,KpOK x) (r:List UInt8) (k:UInt16) (hr:r.length = 32):Sx.Fn Γ.P 130 [.slx 1003 0 0 n,.a8 r,.u16 k] [(1003,.mem false 0 [(N * 65,.arr N 65 (kpF l))])]
  (fun v M=>v = .i .i64 (fiI r k (l.take n))/\M = [(1003,.mem false 0 [(N * 65,.arr N 65 (kpF l))])]):=by
 unfold kpF
 refine fn_of (Γ:=Γ) (fn:=Tryz.f130) rfl rfl rfl rfl ?_
 repeat (refine sd ?_)
 refine Loop.intro (σ:=Nat) (fun i=>i <= n/\∀ j,j < i->¬ isK r k (l.getD j kp0))
  (fun i=>([(2,.u16 k),(4,.ptr 204 0 none),(9,.slx 1003 0 0 n),(10,.i .i64 (n:Int)),(11,.i .i64 (i:Int))],[(1003,.mem false 0 [(N * 65,.arr N 65 (kpF l))]),(204,.mem true 0 [(32,.a8 r)])]))
  (fun i=>n - i) 0 ⟨Nat.zero_le _,fun j hj=>absurd hj (Nat.not_lt_zero _)⟩ ?_ ?_
 ·refine Le.intro [(204,(4,0,none))] rfl ?_ rfl ?_ rfl
  ·exact fc
  ·repeat' (first | (show zA _;first | exact trivial | refine zA.app ?_ ?_ | refine zA.zd ?_ ?_ | refine zA.cons ?_ ?_) | exact fd | fail)
   all_goals exact fun _ _=>rfl
 rintro i ⟨hi,hno⟩
 have hi:i <= n:=hi
 refine zB.intro (fun hc=>?_) (fun hc=>?_)
 ·have hc:(i:Int) < n:=hc
  obtain ⟨hx1,hx2⟩:=hOK _ (getD_mem kp0 (L:=l) (i:=i) (by omega))
  unfold kpF
  skip
  repeat (refine sdn ?_)
  refine zB.intro (fun h1=>?_) (fun h1=>?_)
  ·have h1r:=h1
   have h1:(l.getD (Int.toNat (i:Int)) kp0).1 = r:=h1
   rw [zIn] at h1
   repeat (first | (refine zB.intro (fun _=>?_) (fun hn=>absurd rfl hn)) | (refine ky0 ?_) | (refine kn0 ?_) | (refine ky ?_) | (refine kn ?_) | (refine sdn ?_))
   refine zB.intro (fun h2=>?_) (fun h2=>?_)
   ·have h2:(l.getD (Int.toNat (i:Int)) kp0).2.1 = k:=by first | exact h2 | exact h2.elim (fun h=>h.2) (fun h=>absurd h1r h.1)
    rw [zIn] at h2
    have hv:=fiI_at (m:=n) (by omega) (by omega) (show isK r k (l.getD i kp0) from ⟨h1,h2⟩) hno
    repeat (refine sd ?_)
    refine Ret.intro (.i .i64 (fiI r k (l.take n))) [(1003,.mem false 0 [(N * 65,.arr N 65 (kpF l))])] [] rfl trivial ⟨rfl,rfl⟩ rfl ?_ rfl ?_ rfl
    ·exact fc
    ·exact fc
   ·have h2:¬ (l.getD (Int.toNat (i:Int)) kp0).2.1 = k:=by first | exact h2 | exact fun h=>h2 (Or.inl ⟨h1r,h⟩)
    rw [zIn] at h2
    repeat (refine sd ?_)
    refine ⟨i + 1,⟨by omega,fun j hj=>?_⟩,by omega,Le.intro [(204,(204,0,none))] rfl ?_ rfl ?_ rfl⟩
    ·by_cases hji:j = i
     ·subst hji;exact fun h=>h2 h.2
     ·exact hno j (by omega)
    ·exact fc
    ·exact fc
  ·have h1r:=h1
   have h1:¬ (l.getD (Int.toNat (i:Int)) kp0).1 = r:=h1
   rw [zIn] at h1
   repeat (first | (refine zB.intro (fun _=>?_) (fun hn=>absurd rfl hn)) | (refine ky0 ?_) | (refine kn0 ?_) | (refine ky ?_) | (refine kn ?_) | (refine sdn ?_))
   refine ⟨i + 1,⟨by omega,fun j hj=>?_⟩,by omega,Le.intro [(204,(204,0,none))] rfl ?_ rfl ?_ rfl⟩
   ·by_cases hji:j = i
    ·subst hji;exact fun h=>h1 h.1
    ·exact hno j (by omega)
   ·exact fc
   ·exact fc
 ·have hc:¬ (i:Int) < n:=hc
  obtain rfl:i = n:=by omega
  have hv:=fiI_none (m:=i) (by omega) hno
  repeat (refine sd ?_)
  refine Ret.intro (.i .i64 (fiI r k (l.take i))) [(1003,.mem false 0 [(N * 65,.arr N 65 (kpF l))])] [] rfl trivial ⟨rfl,rfl⟩ rfl ?_ rfl ?_ rfl
  ·exact fc
  ·exact fc
set_option maxHeartbeats 1000000 in
theorem fn43 (l:List Kp) (N n:Nat) (hN:l.length = N) (hn:n <= N) (hN1:N <= 1000000) (hOK:∀ x ∈ l,KpOK x) (r:List UInt8) (k:UInt16) (hr:r.length = 32):Sx.Fn Γ.P 43 [.slx 1003 0 0 n,.a8 r,.u16 k] [(1003,.mem false 0 [(N * 65,.arr N 65 (kpF l))])]
  (fun v M=>v = .i .i64 (fiI r k (l.take n))/\M = [(1003,.mem false 0 [(N * 65,.arr N 65 (kpF l))])]):=by
 unfold kpF
 refine fn_of (Γ:=Γ) (fn:=Tryz.f43) rfl rfl rfl rfl ?_
 repeat (refine sd ?_)
 refine Loop.intro (σ:=Nat) (fun i=>i <= n/\∀ j,j < i->¬ isK r k (l.getD j kp0))
  (fun i=>([(0,.slx 1003 0 0 n),(2,.u16 k),(4,.ptr 204 0 none),(7,.i .i64 (i:Int))],[(1003,.mem false 0 [(N * 65,.arr N 65 (kpF l))]),(204,.mem true 0 [(32,.a8 r)])]))
  (fun i=>n - i) 0 ⟨Nat.zero_le _,fun j hj=>absurd hj (Nat.not_lt_zero _)⟩ ?_ ?_
 ·refine Le.intro [(204,(4,0,none))] rfl ?_ rfl ?_ rfl
  ·exact fc
  ·repeat' (first | (show zA _;first | exact trivial | refine zA.app ?_ ?_ | refine zA.zd ?_ ?_ | refine zA.cons ?_ ?_) | exact fd | fail)
   all_goals exact fun _ _=>rfl
 rintro i ⟨hi,hno⟩
 have hi:i <= n:=hi
 refine zB.intro (fun hc=>?_) (fun hc=>?_)
 ·have hc:(i:Int) < n:=hc
  obtain ⟨hx1,hx2⟩:=hOK _ (getD_mem kp0 (L:=l) (i:=i) (by omega))
  unfold kpF
  refine Draw.intro [[],[],[0,1],[0,1,2],[0,1,2,3],[],[0,1,2,3,4,5],[0,1,2,3,4,5,6],[0,1,2,3,4,5,6,7],[0,1,2,3,4,5,6,7],[0,1,2,3,4,5,6,7,8,9],[0,1,2,3,4,5,6,7,8,9,10],[0,1,2,3,4,5,6,7,8,9,10,11],[0,1,2,3,4,5,6,7],[0,1,2,3,4,5,6,7,8,9,10,11,12,13],[0,1,2,3,4,5,6,7,8,9,10,11,12,13,14]] [0,1,2,3,4,5,6,7,8,9,10,11,12,13,14,15] (by kernel_rfl) ?_
  repeat (refine sdn ?_)
  refine zB.intro (fun h1=>?_) (fun h1=>?_)
  ·have h1r:=h1
   have h1:(l.getD (Int.toNat (i:Int)) kp0).1 = r:=h1
   rw [zIn] at h1
   repeat (first | (refine zB.intro (fun _=>?_) (fun hn=>absurd rfl hn)) | (refine ky0 ?_) | (refine kn0 ?_) | (refine ky ?_) | (refine kn ?_) | (refine sdn ?_))
   refine zB.intro (fun h2=>?_) (fun h2=>?_)
   ·have h2:(l.getD (Int.toNat (i:Int)) kp0).2.1 = k:=by first | exact h2 | exact h2.elim (fun h=>h.2) (fun h=>absurd h1r h.1)
    rw [zIn] at h2
    have hv:=fiI_at (m:=n) (by omega) (by omega) (show isK r k (l.getD i kp0) from ⟨h1,h2⟩) hno
    repeat (refine sd ?_)
    refine Ret.intro (.i .i64 (fiI r k (l.take n))) [(1003,.mem false 0 [(N * 65,.arr N 65 (kpF l))])] [] rfl trivial ⟨rfl,rfl⟩ rfl ?_ rfl ?_ rfl
    ·exact fc
    ·exact fc
   ·have h2:¬ (l.getD (Int.toNat (i:Int)) kp0).2.1 = k:=by first | exact h2 | exact fun h=>h2 (Or.inl ⟨h1r,h⟩)
    rw [zIn] at h2
    repeat (refine sd ?_)
    refine ⟨i + 1,⟨by omega,fun j hj=>?_⟩,by omega,Le.intro [(204,(204,0,none))] rfl ?_ rfl ?_ rfl⟩
    ·by_cases hji:j = i
     ·subst hji;exact fun h=>h2 h.2
     ·exact hno j (by omega)
    ·exact fc
    ·exact fc
  ·have h1r:=h1
   have h1:¬ (l.getD (Int.toNat (i:Int)) kp0).1 = r:=h1
   rw [zIn] at h1
   repeat (first | (refine zB.intro (fun _=>?_) (fun hn=>absurd rfl hn)) | (refine ky0 ?_) | (refine kn0 ?_) | (refine ky ?_) | (refine kn ?_) | (refine sdn ?_))
   refine ⟨i + 1,⟨by omega,fun j hj=>?_⟩,by omega,Le.intro [(204,(204,0,none))] rfl ?_ rfl ?_ rfl⟩
   ·by_cases hji:j = i
    ·subst hji;exact fun h=>h1 h.1
    ·exact hno j (by omega)
   ·exact fc
   ·exact fc
 ·have hc:¬ (i:Int) < n:=hc
  obtain rfl:i = n:=by omega
  have hv:=fiI_none (m:=i) (by omega) hno
  repeat (refine sd ?_)
  refine Ret.intro (.i .i64 (fiI r k (l.take i))) [(1003,.mem false 0 [(N * 65,.arr N 65 (kpF l))])] [] rfl trivial ⟨rfl,rfl⟩ rfl ?_ rfl ?_ rfl
  ·exact fc
  ·exact fc
end Go.Proofs.YtfnmgbillkiabaaGreat
