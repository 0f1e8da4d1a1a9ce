/- What the functions of the program compute. No condition. -/
import Derived.Test.YtfnmgbillkiabaaGreatHwTm9ToCh1
import Derived.Test.YtfnmgbillkiabaaGreatHwCh2ToCh7
set_option linter.unusedSimpArgs false
set_option linter.unusedVariables false
set_option maxRecDepth 100000
namespace Go.Proofs.YtfnmgbillkiabaaGreat
open Go Go.Sx
theorem mkT_ne {T:List Te} {x:Te} (h:Valid x.1 x.2):(mkT T x).2 ≠ 0:=by
 cases hf:fdT x T with
 | zero=>rw [mkT_new h hf];simp
 | succ i=>rw [mkT_old h hf];simp
def tbM (N c:Nat) (T:List Te) (a:Nat):Mm:=[(1000,.mem true 0 [(1,.sl a 0 0 N c),(1,.mp 1002)]),(a,.mem true (zmE (c - N) 3) [(N * 3,.arr N 3 (ttF T))]),(1002,.map (.si (mpL T)))]
theorem tb0_valid:∀ x ∈ ([]:List Te),Valid x.1 x.2:=fun _ h=>by cases h
theorem fnNewT:Sx.Fn Γ.P 28 [] [] (fun v M=>v = .ptr 1000 0 none/\M = [(1000,.mem true 0 [(1,.nsl),(1,.mp 1002)]),(1002,.map (.si []))]):=by
 refine fn_of (Γ:=Γ) (fn:=Tryz.f28) rfl rfl rfl rfl ?_
 repeat (refine sd ?_)
 refine Ret.intro (.ptr 1000 0 none) [(1000,.mem true 0 [(1,.nsl),(1,.mp 1002)]),(1002,.map (.si []))] [(1000,(3,0,none)),(1002,(1,0,none))] rfl ?_ ⟨rfl,rfl⟩ rfl ?_ rfl ?_ rfl
 ·exact fc
 ·exact fc
 ·exact fc
def mx1 (T:List Te) (lab:UInt8) (p:List UInt8):List Te × Nat:=mkT T (7,[[lab],p])
theorem mx1_eq (T:List Te) (lab:UInt8) (p:List UInt8):mx1 T lab p = mkT T (7,[[lab],p]):=rfl
def nxA (T:List Te) (key:List UInt8):List Te:=(mx1 T 77 key).1
def nxK (T:List Te) (key:List UInt8):Nat:=(mx1 T 77 key).2
def nxT (T:List Te) (key:List UInt8):List Te:=(mx1 (nxA T key) 78 key).1
def nxN (T:List Te) (key:List UInt8):Nat:=(mx1 (nxA T key) 78 key).2
attribute [irreducible] mx1 nxA nxK nxT nxN
theorem valid7 {L:List (List UInt8)} (h:Joins L):Valid 7 L:=⟨h,by decide,by decide⟩
theorem joins2 (lab:UInt8) {p:List UInt8} (hp:p.length <= 1024):Joins [[lab],p]:=by
 refine ⟨by simp,fun x hx=>?_⟩
 rcases List.mem_cons.1 hx with rfl | hx
 ·simp
 ·rw [List.mem_singleton.1 hx];omega
theorem mx1_ne (T:List Te) (lab:UInt8) {p:List UInt8} (hp:p.length <= 1024):(mx1 T lab p).2 ≠ 0:=by
 rw [mx1_eq];exact mkT_ne (x:=(7,_)) (valid7 (joins2 lab hp))
theorem mx1_valid {T:List Te} (h:∀ x ∈ T,Valid x.1 x.2) (lab:UInt8) (p:List UInt8):∀ x ∈ (mx1 T lab p).1,Valid x.1 x.2:=by rw [mx1_eq];exact mkT_valid h
theorem mx1_len (T:List Te) (lab:UInt8) (p:List UInt8):T.length <= (mx1 T lab p).1.length/\(mx1 T lab p).1.length <= T.length + 1:=by
 rw [mx1_eq];exact mkT_len T _
theorem nxT_valid {T:List Te} (h:∀ x ∈ T,Valid x.1 x.2) (key:List UInt8):∀ x ∈ nxT T key,Valid x.1 x.2:=by
 unfold nxT nxA;exact mx1_valid (mx1_valid h _ _) _ _
theorem nxT_len (T:List Te) (key:List UInt8):T.length <= (nxT T key).length/\(nxT T key).length <= T.length + 2:=by
 unfold nxT nxA
 have h1:=mx1_len T 77 key
 have h2:=mx1_len (mx1 T 77 key).1 78 key
 omega
theorem rw1_eq {key:List UInt8} (hk:key.length = 32):rwF [key] 0 = [(1,.isl 0 32 1 [(32,.a8 key)])]:=by
 show [(1,SV.isl 0 key.length 1 [(key.length * 1,SV.a8 key)])] = _
 rw [hk]
theorem fnMix1 (T:List Te) (N c:Nat) (hT:T.length = N) (hN:N <= 60000) (hNc:N <= c) (hTv:∀ x ∈ T,Valid x.1 x.2) (lab:UInt8) (p:List UInt8) (hp:p.length = 32) (T1:List Te) (o:Nat) (e1:(mx1 T lab p).1 = T1) (e2:(mx1 T lab p).2 = o) :
  Sx.Fn Γ.P 29 [.agg [(1,.ptr 1000 0 none)],.u8 lab,.slx 1003 0 0 1] (MT N c T 1001 1 [p])
  (fun v M=>∃ n' c',T1.length = n'/\n' <= c'/\v = .tup [.a8 (kyB o),.bool (o ≠ 0)]/\M = (1001,.dead) :: MT n' c' T1 1005 1 [p]):=by
 subst e1;subst e2
 rw [mx1_eq]
 exact fnMixF T N c hT hN hNc hTv lab [p] 1 rfl (by omega) (fun x h=>by rw [List.mem_singleton.1 h];omega)
set_option maxHeartbeats 1000000 in
theorem fnNextF (T:List Te) (N c:Nat) (hT:T.length = N) (hN:N <= 50000) (hNc:N <= c) (hTv:∀ x ∈ T,Valid x.1 x.2) (key:List UInt8) (hk:key.length = 32) (n:UInt16) :
  Sx.Fn Γ.P 85 [.agg [(1,.ptr 1000 0 none)],.agg [(32,.a8 key),(1,.u16 n)]] (tbM N c T 1001)
  (fun v M=>(n = 65535/\v = .tup [.agg [(32,.a8 (List.replicate 32 0)),(1,.u16 0)],.a8 (List.replicate 32 0),.i .i64 7]/\M = (1001,.dead) :: tbM N c T 1005) \/
   (n ≠ 65535/\∃ n' c',(nxT T key).length = n'/\n' <= c'/\v = .tup [.agg [(32,.a8 (kyB (nxN T key))),(1,.u16 (n + 1))],.a8 (kyB (nxK T key)),.i .i64 0]/\M = (1001,.dead) :: tbM n' c' (nxT T key) 1005)):=by
 obtain ⟨A,hA⟩:∃ A,(mx1 T 77 key).1 = A:=⟨_,rfl⟩
 obtain ⟨B,hB⟩:∃ B,(mx1 A 78 key).1 = B:=⟨_,rfl⟩
 obtain ⟨o1,ho1⟩:∃ o,(mx1 T 77 key).2 = o:=⟨_,rfl⟩
 obtain ⟨o2,ho2⟩:∃ o,(mx1 A 78 key).2 = o:=⟨_,rfl⟩
 have hl1:=mx1_len T 77 key
 rw [hA] at hl1
 have hv1:=mx1_valid hTv 77 key
 rw [hA] at hv1
 have eT:nxT T key = B:=by unfold nxT nxA;rw [hA,hB]
 have eK:nxK T key = o1:=by unfold nxK;rw [ho1]
 have eN:nxN T key = o2:=by unfold nxN nxA;rw [hA,ho2]
 rw [eT,eK,eN]
 have hM1:=fnMix1 T N c hT (by omega) hNc hTv 77 key hk A o1 hA ho1
 have ho1n:o1 ≠ 0:=by rw [<- ho1];exact mx1_ne T 77 (by omega)
 have ho2n:o2 ≠ 0:=by rw [<- ho2];exact mx1_ne A 78 (by omega)
 have hk1:=zk o1
 have hk2:=zk o2
 unfold MT at hM1
 unfold tbM
 refine fn_cut [3,4] (Γ:=Γ) (fn:=Tryz.f85) rfl rfl rfl rfl ?_
 repeat (refine sd ?_)
 refine zB.intro (fun hc=>?_) (fun hc=>?_)
 ·have hc:n = 65535:=hc
  repeat (refine sd ?_)
  refine Ret.intro (.tup [.agg [(32,.a8 (List.replicate 32 0)),(1,.u16 0)],.a8 (List.replicate 32 0),.i .i64 7]) ((1001,.dead) :: tbM N c T 1005) [(1005,(1001,0,none))] rfl ?_ (Or.inl ⟨hc,rfl,rfl⟩) rfl ?_ rfl ?_ rfl
  ·exact fc
  ·exact fc
  ·repeat' (first | (show zA _;first | exact trivial | refine zA.app ?_ ?_ | refine zA.zd ?_ ?_ | refine zA.cons ?_ ?_) | exact fd | fail)
   all_goals exact fun _ _=>rfl
 have hc:¬ n = 65535:=hc
 refine Cut.intro (σ:=Unit) (fun _=>True) (fun _=>([(2,.ptr 202 0 none),(3,.ptr 203 0 none),(4,.ptr 204 0 none),(5,.ptr 205 0 none)],[(202,.mem true 0 [(1,.ptr 1000 0 none)]),(203,.mem false 1 [(32,.a8 key),(1,.u16 n)]),(204,.mem true 0 [(32,.a8 (List.replicate 32 0)),(1,.u16 0)]),(205,.mem true 0 [(32,.a8 (List.replicate 32 0))]),
  (1000,.mem true 0 [(1,.sl 1001 0 0 N c),(1,.mp 1002)]),(1001,.mem true (zmE (c - N) 3) [(N * 3,.arr N 3 (ttF T))]),(1002,.map (.si (mpL T)))])) () trivial (Le.ghost [.keep 3] [] [(202,(2,0,none)),(203,(3,0,none)),(204,(4,0,none)),(205,(5,0,none))] rfl ?_ rfl rfl ?_ rfl ?_ rfl) ?_
 ·exact fc
 ·exact fc
 ·exact fc
 rintro - -
 refine Draw.intro [[],[],[1],[1,2],[0,1,2,3],[0,1,2,3,4],[0,1,2,3,4,5],[0,1,2,3,4,5],[],[0,1,2,3,4,5,6,8],[0,1,2,3,4,5,6,7,8,9],[]] [0,1,2,3,8,4,5,6,7,9,10] (by kernel_rfl) ?_
 refine ⟨?_,?_⟩
 all_goals
  repeat (refine sd ?_)
  refine Call.name [(0,[]),(0,[]),(2001,[])] rfl fc (CallP.intro hM1 [(1000,(1000,0,none)),(1001,(1001,0,none)),(1002,(1002,0,none)),(1003,(2001,0,none)),(1005,(305,0,none))] rfl fc rfl ?_ rfl ?_)
  ·repeat' (first | (show zA _;first | exact trivial | refine zA.app ?_ ?_ | refine zA.zd ?_ ?_ | refine zA.cons ?_ ?_) | exact fd | fail)
   all_goals exact rw1_eq hk
  rintro v M' ⟨n',c',hn',hnc',rfl,rfl⟩
  dsimp only [zt,zM,zE,ren,zz,zx,zy,look,zG,zX,ev,evL,zV,zcT,zcF,act,zP,zO,Ent.zW]
  repeat (refine sd ?_)
 all_goals
  have hM2:=fnMix1 A n' c' hn' (by omega) hnc' hv1 78 key hk B o2 hB ho2
  unfold MT at hM2
  refine Cut.intro (σ:=Unit) (fun _=>True) (fun _=>([(2,.ptr 202 0 none),(3,.ptr 203 0 none),(4,.ptr 204 0 none),(5,.ptr 205 0 none),(7,.ptr 207 0 none),(8,.bool (o1 ≠ 0))],[(202,.mem true 0 [(1,.ptr 1000 0 none)]),(203,.mem false 1 [(32,.a8 key),(1,.u16 n)]),(204,.mem true 0 [(32,.a8 (List.replicate 32 0)),(1,.u16 0)]),(205,.mem true 0 [(32,.a8 (List.replicate 32 0))]),(207,.mem true 0 [(32,.a8 (kyB o1))]),
   (1000,.mem true 0 [(1,.sl 211 0 0 n' c'),(1,.mp 1002)]),(1001,.dead),(211,.mem true (zmE (c' - n') 3) [(n' * 3,.arr n' 3 (ttF A))]),(1002,.map (.si (mpL A)))])) () trivial (Le.intro [(202,(202,0,none)),(203,(203,0,none)),(204,(204,0,none)),(205,(205,0,none)),(207,(7,0,none)),(211,(305,0,none))] rfl ?_ rfl ?_ rfl) ?_
  ·exact fc
  ·exact fc
  rintro - -
  refine Draw.intro [[],[],[1],[1,2],[0,1,2,3],[0,1,2,3,4],[0,1,2,3,4,5],[0,1,2,3,4,5],[],[0,1,2,3,4,5,6,8],[0,1,2,3,4,5,6,7,8,9],[]] [0,1,2,3,8,4,5,6,7,9,10] (by kernel_rfl) ?_
  refine ⟨?_,?_⟩
  all_goals
   repeat (refine sd ?_)
   refine Call.name [(0,[]),(0,[]),(2001,[])] rfl fc (CallP.intro hM2 [(1000,(1000,0,none)),(1001,(211,0,none)),(1002,(1002,0,none)),(1003,(2001,0,none)),(1005,(306,0,none))] rfl fc rfl ?_ rfl ?_)
   ·repeat' (first | (show zA _;first | exact trivial | refine zA.app ?_ ?_ | refine zA.zd ?_ ?_ | refine zA.cons ?_ ?_) | exact fd | fail)
    all_goals exact rw1_eq hk
   rintro v M' ⟨n',c',hn',hnc',rfl,rfl⟩
   dsimp only [zt,zM,zE,ren,zz,zx,zy,look,zG,zX,ev,evL,zV,zcT,zcF,act,zP,zO,Ent.zW]
   repeat (refine sd ?_)
  all_goals
   have hn1:¬ ¬ (o1 ≠ 0):=fun h=>h ho1n
   have hn2:¬ ¬ (o2 ≠ 0):=fun h=>h ho2n
   repeat (first | (refine zB.intro (fun _=>?_) (fun hn=>absurd rfl hn)) | (refine ky0 ?_) | (refine kn0 ?_) | (refine ky ?_) | (refine kn ?_) | (refine sd ?_))
   refine Draw.intro [[],[],[1],[1,2],[0,1,2,3],[],[0,1,2,3,4],[0,1,2,3,4,5,6],[0,1,2,3,4,5,6,7],[]] [0,1,2,3,4,5,6,7,8] (by kernel_rfl) ?_
   repeat (refine sd ?_)
   refine ⟨?_,?_⟩
   all_goals
    repeat (refine sd ?_)
    refine Ret.intro (.tup [.agg [(32,.a8 (kyB o2)),(1,.u16 (n + 1))],.a8 (kyB o1),.i .i64 0]) ((1001,.dead) :: tbM n' c' B 1005) [(1005,(306,0,none))] rfl ?_ (Or.inr ⟨hc,n',c',hn',hnc',rfl,rfl⟩) rfl ?_ rfl ?_ rfl
    ·exact fc
    ·exact fc
    ·exact fc
def mx2 (T:List Te) (lab:UInt8) (p q:List UInt8):List Te × Nat:=mkT T (7,[[lab],p,q])
theorem mx2_eq (T:List Te) (lab:UInt8) (p q:List UInt8):mx2 T lab p q = mkT T (7,[[lab],p,q]):=rfl
def roA (T:List Te) (p q:List UInt8):List Te:=(mx2 T 82 p q).1
def roR (T:List Te) (p q:List UInt8):Nat:=(mx2 T 82 p q).2
def roT (T:List Te) (p q:List UInt8):List Te:=(mx2 (roA T p q) 67 p q).1
def roC (T:List Te) (p q:List UInt8):Nat:=(mx2 (roA T p q) 67 p q).2
attribute [irreducible] mx2 roA roR roT roC
theorem joins3 (lab:UInt8) {p q:List UInt8} (hp:p.length <= 1024) (hq:q.length <= 1024):Joins [[lab],p,q]:=by
 refine ⟨by simp,fun x hx=>?_⟩
 rcases List.mem_cons.1 hx with rfl | hx
 ·simp
 ·rcases List.mem_cons.1 hx with rfl | hx
  ·omega
  ·rw [List.mem_singleton.1 hx];omega
theorem mx2_ne (T:List Te) (lab:UInt8) {p q:List UInt8} (hp:p.length <= 1024) (hq:q.length <= 1024):(mx2 T lab p q).2 ≠ 0:=by
 rw [mx2_eq];exact mkT_ne (x:=(7,_)) (valid7 (joins3 lab hp hq))
theorem mx2_valid {T:List Te} (h:∀ x ∈ T,Valid x.1 x.2) (lab:UInt8) (p q:List UInt8):∀ x ∈ (mx2 T lab p q).1,Valid x.1 x.2:=by rw [mx2_eq];exact mkT_valid h
theorem mx2_len (T:List Te) (lab:UInt8) (p q:List UInt8):T.length <= (mx2 T lab p q).1.length/\(mx2 T lab p q).1.length <= T.length + 1:=by
 rw [mx2_eq];exact mkT_len T _
theorem roT_valid {T:List Te} (h:∀ x ∈ T,Valid x.1 x.2) (p q:List UInt8):∀ x ∈ roT T p q,Valid x.1 x.2:=by
 unfold roT roA;exact mx2_valid (mx2_valid h _ _ _) _ _ _
theorem roT_len (T:List Te) (p q:List UInt8):T.length <= (roT T p q).length/\(roT T p q).length <= T.length + 2:=by
 unfold roT roA
 have h1:=mx2_len T 82 p q
 have h2:=mx2_len (mx2 T 82 p q).1 67 p q
 omega
theorem len2 {p q:List UInt8} (hp:p.length = 32) (hq:q.length = 32):∀ x ∈ [p,q],x.length <= 1024:=by
 intro x hx
 rcases List.mem_cons.1 hx with rfl | hx
 ·omega
 ·rw [List.mem_singleton.1 hx];omega
theorem rw2_eq0 {p q:List UInt8} (hp:p.length = 32):rwF [p,q] 0 = [(1,.isl 0 32 1 [(32,.a8 p)])]:=by
 show [(1,SV.isl 0 p.length 1 [(p.length * 1,SV.a8 p)])] = _
 rw [hp]
theorem rw2_eq1 {p q:List UInt8} (hq:q.length = 32):rwF [p,q] 1 = [(1,.isl 0 32 1 [(32,.a8 q)])]:=by
 show [(1,SV.isl 0 q.length 1 [(q.length * 1,SV.a8 q)])] = _
 rw [hq]
theorem fnMix2 (T:List Te) (N c:Nat) (hT:T.length = N) (hN:N <= 60000) (hNc:N <= c) (hTv:∀ x ∈ T,Valid x.1 x.2) (lab:UInt8) (p q:List UInt8) (hp:p.length = 32) (hq:q.length = 32) (T1:List Te) (o:Nat) (e1:(mx2 T lab p q).1 = T1) (e2:(mx2 T lab p q).2 = o) :
  Sx.Fn Γ.P 29 [.agg [(1,.ptr 1000 0 none)],.u8 lab,.slx 1003 0 0 2] (MT N c T 1001 2 [p,q])
  (fun v M=>∃ n' c',T1.length = n'/\n' <= c'/\v = .tup [.a8 (kyB o),.bool (o ≠ 0)]/\M = (1001,.dead) :: MT n' c' T1 1005 2 [p,q]):=by
 subst e1;subst e2
 rw [mx2_eq]
 exact fnMixF T N c hT hN hNc hTv lab [p,q] 2 rfl (by omega) (len2 hp hq)
set_option maxHeartbeats 1000000 in
theorem fnRootF (T:List Te) (N c:Nat) (hT:T.length = N) (hN:N <= 50000) (hNc:N <= c) (hTv:∀ x ∈ T,Valid x.1 x.2) (p q:List UInt8) (hp:p.length = 32) (hq:q.length = 32) :
  Sx.Fn Γ.P 133 [.agg [(1,.ptr 1000 0 none)],.a8 p,.a8 q] (tbM N c T 1001)
  (fun v M=>∃ n' c',(roT T p q).length = n'/\n' <= c'/\v = .tup [.a8 (kyB (roR T p q)),.a8 (kyB (roC T p q)),.tt]/\M = (1001,.dead) :: tbM n' c' (roT T p q) 1005):=by
 obtain ⟨A,hA⟩:∃ A,(mx2 T 82 p q).1 = A:=⟨_,rfl⟩
 obtain ⟨B,hB⟩:∃ B,(mx2 A 67 p q).1 = B:=⟨_,rfl⟩
 obtain ⟨o1,ho1⟩:∃ o,(mx2 T 82 p q).2 = o:=⟨_,rfl⟩
 obtain ⟨o2,ho2⟩:∃ o,(mx2 A 67 p q).2 = o:=⟨_,rfl⟩
 have hl1:=mx2_len T 82 p q
 rw [hA] at hl1
 have hv1:=mx2_valid hTv 82 p q
 rw [hA] at hv1
 have eT:roT T p q = B:=by unfold roT roA;rw [hA,hB]
 have eK:roR T p q = o1:=by unfold roR;rw [ho1]
 have eN:roC T p q = o2:=by unfold roC roA;rw [hA,ho2]
 rw [eT,eK,eN]
 have ho1n:o1 ≠ 0:=by rw [<- ho1];exact mx2_ne T 82 (by omega) (by omega)
 have ho2n:o2 ≠ 0:=by rw [<- ho2];exact mx2_ne A 67 (by omega) (by omega)
 have hn1:¬ ¬ (o1 ≠ 0):=fun h=>h ho1n
 have hn2:¬ ¬ (o2 ≠ 0):=fun h=>h ho2n
 have hM1:=fnMix2 T N c hT (by omega) hNc hTv 82 p q hp hq A o1 hA ho1
 have hk1:=zk o1
 have hk2:=zk o2
 unfold MT at hM1
 unfold tbM
 refine fn_cut [1,2] (Γ:=Γ) (fn:=Tryz.f133) rfl rfl rfl rfl ?_
 repeat (refine sd ?_)
 refine Cut.intro (σ:=Unit) (fun _=>True) (fun _=>([(3,.ptr 203 0 none),(4,.ptr 204 0 none),(5,.ptr 205 0 none),(6,.ptr 206 0 none),(7,.ptr 207 0 none)],[(203,.mem true 0 [(1,.ptr 1000 0 none)]),(204,.mem false 1 [(32,.a8 p)]),(205,.mem false 1 [(32,.a8 q)]),(206,.mem true 0 [(32,.a8 (List.replicate 32 0))]),(207,.mem true 0 [(32,.a8 (List.replicate 32 0))]),
  (1000,.mem true 0 [(1,.sl 1001 0 0 N c),(1,.mp 1002)]),(1001,.mem true (zmE (c - N) 3) [(N * 3,.arr N 3 (ttF T))]),(1002,.map (.si (mpL T)))])) () trivial (Le.ghost [.keep 4,.keep 5] [] [(203,(3,0,none)),(204,(4,0,none)),(205,(5,0,none)),(206,(6,0,none)),(207,(7,0,none))] rfl ?_ rfl rfl ?_ rfl ?_ rfl) ?_
 ·exact fc
 ·exact fc
 ·exact fc
 rintro - -
 refine Draw.intro [[],[],[],[1,2],[0,1,2,3],[0,1,2,3,4],[0,1,2,3,4,5],[0,1,2,3,4,5],[],[0,1,2,3,4,5,6,8],[0,1,2,3,4,5,6,7,8,9],[]] [0,1,2,3,8,4,5,6,7,9,10] (by kernel_rfl) ?_
 refine ⟨?_,?_⟩
 all_goals
  repeat (refine sd ?_)
  refine Call.name [(0,[]),(0,[]),(2001,[])] rfl fc (CallP.intro hM1 [(1000,(1000,0,none)),(1001,(1001,0,none)),(1002,(1002,0,none)),(1003,(2001,0,none)),(1005,(305,0,none))] rfl fc rfl ?_ rfl ?_)
  ·repeat' (first | (show zA _;first | exact trivial | refine zA.app ?_ ?_ | refine zA.zd ?_ ?_ | refine zA.cons ?_ ?_) | exact fd | fail)
   ·exact rw2_eq0 hp
   ·exact rw2_eq1 hq
  rintro v M' ⟨n',c',hn',hnc',rfl,rfl⟩
  dsimp only [zt,zM,zE,ren,zz,zx,zy,look,zG,zX,ev,evL,zV,zcT,zcF,act,zP,zO,Ent.zW]
  repeat (refine sd ?_)
 all_goals
  have hM2:=fnMix2 A n' c' hn' (by omega) hnc' hv1 67 p q hp hq B o2 hB ho2
  unfold MT at hM2
  refine Cut.intro (σ:=Unit) (fun _=>True) (fun _=>([(3,.ptr 203 0 none),(4,.ptr 204 0 none),(5,.ptr 205 0 none),(6,.ptr 206 0 none),(7,.ptr 207 0 none),(9,.ptr 209 0 none),(10,.bool (o1 ≠ 0))],[(203,.mem true 0 [(1,.ptr 1000 0 none)]),(204,.mem false 1 [(32,.a8 p)]),(205,.mem false 1 [(32,.a8 q)]),(206,.mem true 0 [(32,.a8 (List.replicate 32 0))]),(207,.mem true 0 [(32,.a8 (List.replicate 32 0))]),(209,.mem true 0 [(32,.a8 (kyB o1))]),
   (1000,.mem true 0 [(1,.sl 211 0 0 n' c'),(1,.mp 1002)]),(1001,.dead),(211,.mem true (zmE (c' - n') 3) [(n' * 3,.arr n' 3 (ttF A))]),(1002,.map (.si (mpL A)))])) () trivial (Le.intro [(203,(203,0,none)),(204,(204,0,none)),(205,(205,0,none)),(206,(206,0,none)),(207,(207,0,none)),(209,(9,0,none)),(211,(305,0,none))] rfl ?_ rfl ?_ rfl) ?_
  ·exact fc
  ·exact fc
  rintro - -
  refine Draw.intro [[],[],[],[1,2],[0,1,2,3],[0,1,2,3,4],[0,1,2,3,4,5],[0,1,2,3,4,5],[],[0,1,2,3,4,5,6,8],[0,1,2,3,4,5,6,7,8,9],[]] [0,1,2,3,8,4,5,6,7,9,10] (by kernel_rfl) ?_
  refine ⟨?_,?_⟩
  all_goals
   repeat (refine sd ?_)
   refine Call.name [(0,[]),(0,[]),(2001,[])] rfl fc (CallP.intro hM2 [(1000,(1000,0,none)),(1001,(211,0,none)),(1002,(1002,0,none)),(1003,(2001,0,none)),(1005,(306,0,none))] rfl fc rfl ?_ rfl ?_)
   ·repeat' (first | (show zA _;first | exact trivial | refine zA.app ?_ ?_ | refine zA.zd ?_ ?_ | refine zA.cons ?_ ?_) | exact fd | fail)
    ·exact rw2_eq0 hp
    ·exact rw2_eq1 hq
   rintro v M' ⟨n',c',hn',hnc',rfl,rfl⟩
   dsimp only [zt,zM,zE,ren,zz,zx,zy,look,zG,zX,ev,evL,zV,zcT,zcF,act,zP,zO,Ent.zW]
   repeat (refine sd ?_)
  all_goals
   ((repeat (first | (refine zB.intro (fun _=>?_) (fun hn=>absurd rfl hn)) | (refine ky0 ?_) | (refine kn0 ?_) | (refine ky ?_) | (refine kn ?_) | (refine sd ?_)));refine Draw.intro [[],[],[0],[0,1,2],[0,1,2,3],[]] [0,1,2,3,4] (by kernel_rfl) ?_)
   repeat (first | (refine zB.intro (fun _=>?_) (fun hn=>absurd rfl hn)) | (refine ky0 ?_) | (refine kn0 ?_) | (refine ky ?_) | (refine kn ?_) | (refine sd ?_))
   refine ⟨?_,?_⟩
   all_goals
    repeat (first | (refine zB.intro (fun _=>?_) (fun hn=>absurd rfl hn)) | (refine ky0 ?_) | (refine kn0 ?_) | (refine ky ?_) | (refine kn ?_) | (refine sd ?_))
    refine Ret.intro (.tup [.a8 (kyB o1),.a8 (kyB o2),.tt]) ((1001,.dead) :: tbM n' c' B 1005) [(1005,(306,0,none))] rfl ?_ ⟨n',c',hn',hnc',rfl,rfl⟩ rfl ?_ rfl ?_ rfl
    ·exact fc
    ·exact fc
    ·exact fc
end Go.Proofs.YtfnmgbillkiabaaGreat
