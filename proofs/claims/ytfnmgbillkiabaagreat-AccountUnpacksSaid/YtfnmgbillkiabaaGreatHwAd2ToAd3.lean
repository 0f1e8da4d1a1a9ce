/- What the functions of the program compute. No condition. -/
import Derived.Test.YtfnmgbillkiabaaGreatHwAd1ToRb0
import Derived.Test.YtfnmgbillkiabaaGreatHwRb2ToRb2
import Derived.Test.YtfnmgbillkiabaaGreatHwRa5ToRa7
set_option linter.unusedSimpArgs false
set_option linter.unusedVariables false
set_option maxRecDepth 100000
namespace Go.Proofs.YtfnmgbillkiabaaGreat
open Go Go.Sx
set_option maxHeartbeats 1000000 in
theorem fnCloneO (l:List On) (N n:Nat) (hN:l.length = N) (hn:n <= N) (hN1:N <= 1000000) :
  Sx.Fn Γ.P 99 [.slx 1003 0 0 n] [(1003,.mem false 0 [(N * 33,.arr N 33 (onF l))])]
  (fun v M=>∃ c,n <= c/\v = .sl 1006 0 0 n c/\M = [(1003,.mem false 0 [(N * 33,.arr N 33 (onF l))]),(1006,.mem true (zmE (c - n) 33) [(n * 33,.arr n 33 (onF (l.take n)))])]):=by
 refine fn_of (Γ:=Γ) (fn:=Tryz.f99) rfl rfl rfl rfl ?_
 repeat (refine sd ?_)
 refine fun p hp=>?_
 repeat (refine sd ?_)
 refine zB.intro (fun hc=>?_) (fun hc=>?_)
 ·have h0:n = 0:=by
   rcases Nat.eq_zero_or_pos n with h | h
   ·exact h
   ·exact absurd hc (hp h)
  subst h0
  repeat (refine sd ?_)
  refine Ret.ghost [.own 450 [(0,.arr 0 33 (onF []))]] [(2,450)] rfl ⟨rfl,rfl,trivial⟩ rfl (.sl 1006 0 0 0 0) [(1003,.mem false 0 [(N * 33,.arr N 33 (onF l))]),(1006,.mem true (zmE (0 - 0) 33) [(0 * 33,.arr 0 33 (onF (l.take 0)))])] [(1006,(450,0,none))] rfl ?_ ⟨0,Nat.le_refl _,rfl,rfl⟩ rfl ?_ rfl ?_ rfl
  ·exact fc
  ·exact fc
  ·exact fc
 ·repeat (refine sd ?_)
  refine fun c hc=>?_
  have hc:0 + n <= c:=hc
  repeat (refine sd ?_)
  refine Ret.intro (.sl 1006 0 0 n c) [(1003,.mem false 0 [(N * 33,.arr N 33 (onF l))]),(1006,.mem true (zmE (c - n) 33) [(n * 33,.arr n 33 (onF (l.take n)))])] [(1006,(7,0,none))] rfl ?_ ⟨c,by omega,rfl,rfl⟩ rfl ?_ rfl ?_ rfl
  ·exact fc
  ·exact fc
  ·repeat' (first | (show zA _;first | exact trivial | refine zA.app ?_ ?_ | refine zA.zd ?_ ?_ | refine zA.cons ?_ ?_) | exact fd | fail)
   all_goals exact fun q hq=>(onF_take l hq)
def dF (D:List (List UInt8)) (q:Nat):List (Nat × SV):=[(32,.a8 (D.getD q z32))]
def moT (T:List Te) (D:List (List UInt8)):Nat->List Te
 | 0=>T
 | i + 1=>(mk1 (moT T D i) 1 (D.getD i z32)).1
def moK (T:List Te) (D:List (List UInt8)) (l:List On) (nx:UInt16):Nat->List On
 | 0=>l
 | i + 1=>moK T D l nx i ++ [(nx + UInt16.ofNat i,kyB (mk1 (moT T D i) 1 (D.getD i z32)).2)]
theorem moT_zero (T:List Te) (D:List (List UInt8)):moT T D 0 = T:=rfl
theorem moT_succ (T:List Te) (D:List (List UInt8)) (i:Nat):moT T D (i + 1) = (mk1 (moT T D i) 1 (D.getD i z32)).1:=rfl
theorem moK_zero (T:List Te) (D:List (List UInt8)) (l:List On) (nx:UInt16):moK T D l nx 0 = l:=rfl
theorem moK_succ (T:List Te) (D:List (List UInt8)) (l:List On) (nx:UInt16) (i:Nat):moK T D l nx (i + 1) = moK T D l nx i ++ [(nx + UInt16.ofNat i,kyB (mk1 (moT T D i) 1 (D.getD i z32)).2)]:=rfl
attribute [irreducible] moT moK
theorem moT_info {T:List Te} (hTv:∀ x ∈ T,Valid x.1 x.2) (D:List (List UInt8)):∀ i,(∀ x ∈ moT T D i,Valid x.1 x.2)/\(moT T D i).length <= T.length + i
 | 0=>by rw [moT_zero];exact ⟨hTv,Nat.le_refl _⟩
 | i + 1=>by
  obtain ⟨h1,h2⟩:=moT_info hTv D i
  rw [moT_succ]
  exact ⟨mk1_valid h1 _ _,by have:=(mk1_len (moT T D i) 1 (D.getD i z32)).2;omega⟩
theorem moK_len (T:List Te) (D:List (List UInt8)) (l:List On) (nx:UInt16):∀ i,(moK T D l nx i).length = l.length + i
 | 0=>by rw [moK_zero];rfl
 | i + 1=>by rw [moK_succ,zlA,moK_len T D l nx i];rfl
theorem moK_ok {T:List Te} {D:List (List UInt8)} {l:List On} {nx:UInt16} (h:∀ k ∈ l,OnOK k):∀ i,∀ k ∈ moK T D l nx i,OnOK k
 | 0,k,hk=>by rw [moK_zero] at hk;exact h k hk
 | i + 1,k,hk=>by
  rw [moK_succ] at hk
  rcases List.mem_append.1 hk with hk | hk
  ·exact moK_ok h i k hk
  ·rw [List.mem_singleton.1 hk];exact zk _
set_option maxHeartbeats 4000000 in
theorem fn54 (T:List Te) (N c:Nat) (hT:T.length = N) (hN:N <= 40000) (hNc:N <= c) (hTv:∀ x ∈ T,Valid x.1 x.2) (x:Ac) (hx:x.OK) (l:List On) (k:Nat) (hl:l.length = k) (D:List (List UInt8)) (m:Nat) (hD:D.length = m) (hDl:∀ d ∈ D,d.length = 32) (h8:k + m <= 8) (hnx:x.nx.toNat + m <= 65535) :
  Sx.Fn Γ.P 54 [.agg [(1,.ptr 1000 0 none)],.agg (acL x (.isl 0 k 33 [(k * 33,.arr k 33 (onF l))])),.slx 1004 0 0 m] ((1004,.mem false 0 [(m * 32,.arr m 32 (dF D))]) :: tbM N c T 1001)
  (fun v M=>∃ n' c',(moT T D m).length = n'/\n' <= c'/\v = .tup [.agg (acL { x with nx:=x.nx + UInt16.ofNat m } (.isl 0 (k + m) 33 [((k + m) * 33,.arr (k + m) 33 (onF (moK T D l x.nx m)))])),.i .i64 0]/\M = (1001,.dead) :: (1004,.mem false 0 [(m * 32,.arr m 32 (dF D))]) :: tbM n' c' (moT T D m) 1005):=by
 obtain ⟨g1,g2,g3⟩:=hx
 have hCl:=fnCloneO l k k hl (Nat.le_refl _) (by omega)
 have hlt:l.take k = l:=List.take_of_length_le (by omega)
 rw [hlt] at hCl
 have hn16:=UInt16.toNat_lt x.nx
 unfold tbM
 refine fn_of (Γ:=Γ) (fn:=Tryz.f54) rfl rfl rfl rfl ?_
 repeat (refine sd ?_)
 refine Call.name [(2001,[])] rfl fc (CallP.intro hCl [(1003,(2001,0,none)),(1006,(306,0,none))] rfl fc rfl ?_ rfl ?_)
 ·exact fc
 rintro v M' ⟨cl,hcl,rfl,rfl⟩
 dsimp only [zt,zM,zE,ren,zz,zx,zy,look,zG,zX,ev,evL,zV,zcT,zcF,act,zP,zO,Ent.zW]
 repeat (refine sd ?_)
 refine zB.intro (fun hb=>?_) (fun _=>?_)
 ·have hb:(m:Int) > 8 - (k:Int):=hb
  exact absurd hb (by omega)
 repeat (refine sd ?_)
 refine zB.intro (fun hb=>?_) (fun _=>?_)
 ·have hb:(m:Int) > 65535 - (x.nx.toNat:Int):=hb
  exact absurd hb (by omega)
 repeat (refine sd ?_)
 refine Loop.intro (σ:=Nat × Nat × Nat × Nat) (fun s=>s.1 <= m/\(moT T D s.1).length = s.2.1/\s.2.1 <= s.2.2.1/\k + s.1 <= s.2.2.2)
  (fun s=>([(3,.ptr 203 0 none),(4,.ptr 204 0 none),(6,.ptr 206 0 none),(30,.slx 1004 0 0 m),(31,.i .i64 (m:Int)),(32,.i .i64 (s.1:Int))],
   [(1004,.mem false 0 [(m * 32,.arr m 32 (dF D))]),(203,.mem true 0 [(1,.ptr 1000 0 none)]),(204,.mem true 0 [(32,.a8 x.ag),(32,.a8 x.sg),(1,.u16 x.fi),(32,.a8 x.fs),(1,.sl 207 0 0 (k + s.1) s.2.2.2),(1,.u16 (x.nx + UInt16.ofNat s.1))]),(206,.mem true 0 zAc),(207,.mem true (zmE (s.2.2.2 - (k + s.1)) 33) [((k + s.1) * 33,.arr (k + s.1) 33 (onF (moK T D l x.nx s.1)))]),
   (1000,.mem true 0 [(1,.sl 211 0 0 s.2.1 s.2.2.1),(1,.mp 1002)]),(1001,.dead),(211,.mem true (zmE (s.2.2.1 - s.2.1) 3) [(s.2.1 * 3,.arr s.2.1 3 (ttF (moT T D s.1)))]),(1002,.map (.si (mpL (moT T D s.1))))]))
  (fun s=>m - s.1) (0,N,c,cl) ⟨Nat.zero_le _,by rw [moT_zero];exact hT,hNc,by show k + 0 <= cl;omega⟩ ?_ ?_
 ·refine Le.intro [(203,(3,0,none)),(204,(4,0,none)),(206,(6,0,none)),(207,(306,0,none)),(211,(1001,0,none))] rfl ?_ rfl ?_ rfl
  ·exact fc
  ·repeat' (first | (show zA _;first | exact trivial | refine zA.app ?_ ?_ | refine zA.zd ?_ ?_ | refine zA.cons ?_ ?_) | exact fd | fail)
   all_goals first | (rw [moT_zero];done) | (simp [moT_zero,moK_zero];done) | trace_state
 rintro ⟨i,n,cc,ck⟩ ⟨hi,hn,hnc,hck⟩
 have hi:i <= m:=hi
 have hn:(moT T D i).length = n:=hn
 have hnc:n <= cc:=hnc
 have hck:k + i <= ck:=hck
 obtain ⟨iv,il⟩:=moT_info hTv D i
 refine zB.intro (fun hb=>?_) (fun hb=>?_)
 ·have hb:(i:Int) < (m:Int):=hb
  have him:i < m:=by omega
  obtain ⟨d,hd⟩:∃ d,D.getD i z32 = d:=⟨_,rfl⟩
  have hdl:d.length = 32:=by rw [<- hd];exact hDl _ (getD_mem z32 (by omega))
  have e1:addQ 0 (Int.toNat (i:Int)) = i:=by rw [zQ,Nat.zero_add,zIn]
  have hkl:(moK T D l x.nx i).length = k + i:=by rw [moK_len,hl]
  have hS1:=moT_succ T D i
  have hS2:=moK_succ T D l x.nx i
  rw [hd] at hS1 hS2
  obtain ⟨A,hA⟩:∃ A,(mk1 (moT T D i) 1 d).1 = A:=⟨_,rfl⟩
  obtain ⟨o,ho⟩:∃ o,(mk1 (moT T D i) 1 d).2 = o:=⟨_,rfl⟩
  have hF:=fnFreshF (moT T D i) n cc hn (by omega) hnc iv d hdl A o hA ho
  have hkyl:=zk o
  rw [hA] at hS1
  rw [ho] at hS2
  unfold tbM at hF
  have hu:=u16_succ x.nx i
  repeat (refine sd ?_)
  refine Draw.intro [[],[0],[],[2],[],[],[4,5],[2,3,4,5,6],[2,3,4,5,6,7],[0,1,2,3,4,5,6,7,8],[0,1,2,3,4,5,6,7,8,9],[0,1,2,3,4,5,6,7,8,9,10]] [0,1,2,3,4,5,6,7,8,9,10,11] (by kernel_rfl) ?_
  repeat (first | (refine Grow.turn rfl rfl ?_) | (refine sd ?_))
  refine Call.intro hF [(1000,(1000,0,none)),(1001,(211,0,none)),(1002,(1002,0,none)),(1005,(305,0,none))] rfl ?_ rfl ?_ rfl ?_
  ·repeat' (first | (show zA _;first | exact trivial | refine zA.app ?_ ?_ | refine zA.zd ?_ ?_ | refine zA.cons ?_ ?_) | exact fd | fail)
   all_goals first | (simp only [Ix.val,e1,hd];done) | (show D.getD (addQ 0 (Int.toNat (i:Int))) z32 = d;rw [e1,hd]) | trace_state
  ·exact fc
  rintro v M' ⟨n',c',hn',hnc',rfl,rfl⟩
  dsimp only [zt,zM,zE,ren,zz,zx,zy,look,zG,zX,ev,evL,zV,zcT,zcF,act,zP,zO,Ent.zW]
  repeat (first | (refine Grow.turn rfl rfl ?_) | (refine sd ?_))
  refine fun c2 hc2=>?_
  have hc2:k + i + 1 <= c2:=hc2
  repeat (first | (refine Grow.turn rfl rfl ?_) | (refine sd ?_))
  refine ⟨(i + 1,n',c',c2),⟨by show i + 1 <= m;omega,by show (moT T D (i + 1)).length = n';rw [hS1];exact hn',hnc',by show k + (i + 1) <= c2;omega⟩,by show m - (i + 1) < m - i;omega,Le.intro [(203,(203,0,none)),(204,(204,0,none)),(206,(206,0,none)),(207,(45,0,none)),(211,(305,0,none))] rfl ?_ rfl ?_ rfl⟩
  ·exact fc
  ·repeat' (first | (show zA _;first | exact trivial | refine zA.app ?_ ?_ | refine zA.zd ?_ ?_ | refine zA.cons ?_ ?_) | exact fd | fail)
   all_goals first | (show ∀ q,q < k + (i + 1)->onF (moK T D l x.nx (i + 1)) q = _;rw [hS2];exact appF_on hkl rfl) | (show ∀ q,q < n'->ttF A q = ttF (moT T D (i + 1)) q;intro q _;rw [hS1];done) | (show ∀ q,q < n'->ttF (moT T D (i + 1)) q = ttF A q;intro q _;rw [hS1];done) | (rw [hS1];done) | (show x.nx + UInt16.ofNat (i + 1) = x.nx + UInt16.ofNat i + 1;rw [hu];done) | (show x.nx + UInt16.ofNat i + 1 = x.nx + UInt16.ofNat (i + 1);rw [hu];done) | trace_state
 have hb:¬ (i:Int) < (m:Int):=hb
 obtain rfl:i = m:=by omega
 repeat (refine sd ?_)
 refine Ret.ghost [.keep 207,.ice 206 4] [] rfl ?_ rfl (.tup [.agg (acL { x with nx:=x.nx + UInt16.ofNat i } (.isl 0 (k + i) 33 [((k + i) * 33,.arr (k + i) 33 (onF (moK T D l x.nx i)))])),.i .i64 0]) ((1001,.dead) :: (1004,.mem false 0 [(i * 32,.arr i 32 (dF D))]) :: tbM n cc (moT T D i) 1005) [(1005,(211,0,none))] rfl ?_ ⟨n,cc,hn,hnc,rfl,rfl⟩ rfl ?_ rfl ?_ rfl
 ·exact fc
 ·exact fc
 ·exact fc
 ·exact fc
structure Bu where
 dv:UInt8
 ag:List UInt8
 sg:List UInt8
 id:UInt16
 on:List UInt8
 si:List UInt8
structure Bu.OK (b:Bu):Prop where
 ag:b.ag.length = 32
 sg:b.sg.length = 32
 on:b.on.length = 32
 si:b.si.length = 64
def z64:List UInt8:=List.replicate 64 0
def bu0:Bu:=⟨0,z32,z32,0,z32,z64⟩
def buR (b:Bu):List (Nat × SV):=[(1,.u8 b.dv),(32,.a8 b.ag),(32,.a8 b.sg),(1,.u16 b.id),(32,.a8 b.on),(64,.a8 b.si)]
def buF (l:List Bu) (q:Nat):List (Nat × SV):=buR (l.getD q bu0)
def onceB:List UInt8:=[UInt8.ofNat 111,UInt8.ofNat 110,UInt8.ofNat 99,UInt8.ofNat 101]
def buP (dv:UInt8) (ag sg:List UInt8) (id:UInt16) (on:List UInt8):List (List UInt8):=[onceB,putB dv.toNat 1,ag,sg,putB id.toNat 2,on]
@[irreducible] def buB (dv:UInt8) (ag sg:List UInt8) (id:UInt16) (on:List UInt8):List UInt8:=jnB (buP dv ag sg id on)
theorem buB_eq (dv:UInt8) (ag sg:List UInt8) (id:UInt16) (on:List UInt8):buB dv ag sg id on = jnB (buP dv ag sg id on):=by unfold buB;rfl
theorem buP_le {dv:UInt8} {ag sg:List UInt8} {id:UInt16} {on:List UInt8} (h1:ag.length = 32) (h2:sg.length = 32) (h3:on.length = 32):∀ y ∈ buP dv ag sg id on,y.length <= 32:=by
 intro y hy
 unfold buP at hy
 simp only [List.mem_cons,List.not_mem_nil,or_false] at hy
 rcases hy with rfl | rfl | rfl | rfl | rfl | rfl
 ·show 4 <= 32;omega
 ·rw [putB_length];omega
 ·omega
 ·omega
 ·rw [putB_length];omega
 ·omega
theorem buB_le {dv:UInt8} {ag sg:List UInt8} {id:UInt16} {on:List UInt8} (h1:ag.length = 32) (h2:sg.length = 32) (h3:on.length = 32):(buB dv ag sg id on).length <= 400:=by
 have k1:=jnR_le34 (buP_le (dv:=dv) (id:=id) h1 h2 h3)
 have k2:(buP dv ag sg id on).length = 6:=rfl
 rw [buB_eq,jnB_eq,List.length_cons]
 omega
theorem buP_ok {dv:UInt8} {ag sg:List UInt8} {id:UInt16} {on:List UInt8} (h1:ag.length = 32) (h2:sg.length = 32) (h3:on.length = 32):Joins (buP dv ag sg id on):=
 ⟨by show 6 <= 64;omega,fun y hy=>by have:=buP_le h1 h2 h3 y hy;omega⟩
theorem u8_shr (x:UInt8):shr64 x.toUInt64 (8 * 1) = 0:=by
 unfold shr64
 have:=x.toNat_lt
 rw [UInt8.toNat_toUInt64,Nat.shiftRight_eq_div_pow,Nat.div_eq_of_lt (by omega)]
 rfl
set_option maxHeartbeats 4000000 in
theorem fn102 (b:Bu) (hb:b.OK) (n:Nat) (hn:(buB b.dv b.ag b.sg b.id b.on).length = n):Sx.Fn Γ.P 102 [.agg (buR b)] []
  (fun v M=>v = .isl 0 n 1 [(n,.a8 (buB b.dv b.ag b.sg b.id b.on))]/\M = []):=by
 obtain ⟨h1,h2,h3,h4⟩:=hb
 have hJ:=buP_ok (dv:=b.dv) (id:=b.id) h1 h2 h3
 have hN1:=fn80 [onceB] 1 1 rfl (by omega) (Nat.le_refl 1) b.dv.toUInt64 1 (by omega) (by omega) (fun _=>u8_shr b.dv)
 rw [UInt8.toNat_toUInt64] at hN1
 refine fn_cut [2] (Γ:=Γ) (fn:=Tryz.f102) rfl rfl rfl rfl ?_
 repeat (refine sd ?_)
 refine Cut.intro (σ:=Unit) (fun _=>True) (fun _=>([(1,.ptr 201 0 none),(3,.ptr 203 0 none)],[(201,.mem true 0 (buR b)),(203,.mem true 0 [(1,.sl 401 0 0 1 1),(1,.ff)]),(401,.mem true (zmE (1 - 1) 1) [(1 * 1,.arr 1 1 (rwF [onceB]))])])) () trivial (Le.ghost [.keep 6,.ice 8 0] [] [(201,(1,0,none)),(203,(10,0,none)),(401,(8,0,none))] rfl ?_ rfl rfl ?_ rfl ?_ rfl) ?_
 ·exact fc
 ·exact fc
 ·repeat' (first | (show zA _;first | exact trivial | refine zA.app ?_ ?_ | refine zA.zd ?_ ?_ | refine zA.cons ?_ ?_) | exact fd | fail)
  all_goals trace_state
 rintro - -
 repeat (refine sd ?_)
 refine Call.intro hN1 [(1000,(203,0,none)),(1001,(401,0,none)),(1005,(501,0,none))] rfl ?_ rfl ?_ rfl ?_
 ·exact fc
 ·exact fc
 rintro v M' ⟨c1,hc1,rfl,rfl⟩
 dsimp only [zt,zM,zE,ren,zz,zx,zy,look,zG,zX,ev,evL,zV,zcT,zcF,act,zP,zO,Ent.zW]
 repeat (refine sd ?_)
 refine Call.intro (fn79 ([onceB] ++ [putB b.dv.toNat 1]) 2 c1 rfl (by omega) hc1 b.ag h1) [(1000,(203,0,none)),(1001,(501,0,none)),(1005,(502,0,none))] rfl ?_ rfl ?_ rfl ?_
 ·exact fc
 ·exact fc
 rintro v M' ⟨c2,hc2,rfl,rfl⟩
 dsimp only [zt,zM,zE,ren,zz,zx,zy,look,zG,zX,ev,evL,zV,zcT,zcF,act,zP,zO,Ent.zW]
 repeat (refine sd ?_)
 refine Call.intro (fn79 (([onceB] ++ [putB b.dv.toNat 1]) ++ [b.ag]) 3 c2 rfl (by omega) hc2 b.sg h2) [(1000,(203,0,none)),(1001,(502,0,none)),(1005,(503,0,none))] rfl ?_ rfl ?_ rfl ?_
 ·exact fc
 ·exact fc
 rintro v M' ⟨c3,hc3,rfl,rfl⟩
 dsimp only [zt,zM,zE,ren,zz,zx,zy,look,zG,zX,ev,evL,zV,zcT,zcF,act,zP,zO,Ent.zW]
 repeat (refine sd ?_)
 refine Call.intro (fnWnum2 ((([onceB] ++ [putB b.dv.toNat 1]) ++ [b.ag]) ++ [b.sg]) 4 c3 rfl (by omega) hc3 b.id) [(1000,(203,0,none)),(1001,(503,0,none)),(1005,(504,0,none))] rfl ?_ rfl ?_ rfl ?_
 ·exact fc
 ·exact fc
 rintro v M' ⟨c4,hc4,rfl,rfl⟩
 dsimp only [zt,zM,zE,ren,zz,zx,zy,look,zG,zX,ev,evL,zV,zcT,zcF,act,zP,zO,Ent.zW]
 repeat (refine sd ?_)
 refine Call.intro (fn79 (((([onceB] ++ [putB b.dv.toNat 1]) ++ [b.ag]) ++ [b.sg]) ++ [putB b.id.toNat 2]) 5 c4 rfl (by omega) hc4 b.on h3) [(1000,(203,0,none)),(1001,(504,0,none)),(1005,(505,0,none))] rfl ?_ rfl ?_ rfl ?_
 ·exact fc
 ·exact fc
 rintro v M' ⟨c5,hc5,rfl,rfl⟩
 dsimp only [zt,zM,zE,ren,zz,zx,zy,look,zG,zX,ev,evL,zV,zcT,zcF,act,zP,zO,Ent.zW]
 repeat (refine sd ?_)
 refine Call.intro (fn81 (buP b.dv b.ag b.sg b.id b.on) 6 c5 rfl (by omega) hc5 hJ) [(1000,(203,0,none)),(1001,(505,0,none)),(1005,(601,0,none))] rfl ?_ rfl ?_ rfl ?_
 ·exact fc
 ·repeat' (first | (show zA _;first | exact trivial | refine zA.app ?_ ?_ | refine zA.zd ?_ ?_ | refine zA.cons ?_ ?_) | exact fd | fail)
  all_goals first | exact fun _ _=>rfl | trace_state
 rintro v M' ⟨m,cc,hm,hcc,rfl,rfl⟩
 rw [<- buB_eq] at hm
 have hm2:m = n:=hm.symm.trans hn
 subst hm2
 dsimp only [zt,zM,zE,ren,zz,zx,zy,look,zG,zX,ev,evL,zV,zcT,zcF,act,zP,zO,Ent.zW]
 repeat (refine sd ?_)
 refine Ret.ghost [.keep 601] [(2,0)] rfl ?_ rfl (.isl 0 m 1 [(m,.a8 (buB b.dv b.ag b.sg b.id b.on))]) [] [] rfl ?_ ⟨rfl,rfl⟩ rfl ?_ rfl ?_ rfl
 ·repeat' (first | (show zA _;first | exact trivial | refine zA.app ?_ ?_ | refine zA.zd ?_ ?_ | refine zA.cons ?_ ?_) | exact fd | fail)
  all_goals first | exact buB_eq _ _ _ _ _ | exact (buB_eq _ _ _ _ _).symm | trace_state
 ·repeat' (first | (show zA _;first | exact trivial | refine zA.app ?_ ?_ | refine zA.zd ?_ ?_ | refine zA.cons ?_ ?_) | exact fd | fail)
  all_goals first | exact buB_eq _ _ _ _ _ | exact (buB_eq _ _ _ _ _).symm | trace_state
 ·repeat' (first | (show zA _;first | exact trivial | refine zA.app ?_ ?_ | refine zA.zd ?_ ?_ | refine zA.cons ?_ ?_) | exact fd | fail)
  all_goals first | exact buB_eq _ _ _ _ _ | exact (buB_eq _ _ _ _ _).symm | trace_state
 ·repeat' (first | (show zA _;first | exact trivial | refine zA.app ?_ ?_ | refine zA.zd ?_ ?_ | refine zA.cons ?_ ?_) | exact fd | fail)
  all_goals first | exact buB_eq _ _ _ _ _ | exact (buB_eq _ _ _ _ _).symm | trace_state
set_option maxHeartbeats 4000000 in
theorem fn56 (T:List Te) (N:Nat) (hT:T.length = N) (hN:N <= 60000) (hTv:∀ x ∈ T,Valid x.1 x.2) (b:Bu) (hb:b.OK) (hv:vfy T N b.sg (buB b.dv b.ag b.sg b.id b.on) b.si) :
  Sx.Fn Γ.P 56 [.agg [(1,.ptr 1000 0 none)],.agg (buR b)] [(1000,.mem false 0 [(1,.slx 1001 0 0 N),(1,.mp 1002)]),(1001,.mem false 0 [(N * 3,.arr N 3 (ttF T))]),(1002,.dead)]
  (fun v M=>v = .tt/\M = [(1000,.mem false 0 [(1,.slx 1001 0 0 N),(1,.mp 1002)]),(1001,.mem false 0 [(N * 3,.arr N 3 (ttF T))]),(1002,.dead)]):=by
 have hBt:=fn102 b hb _ rfl
 obtain ⟨h1,h2,h3,h4⟩:=hb
 have hle:=buB_le (dv:=b.dv) (id:=b.id) h1 h2 h3
 obtain ⟨X,hX⟩:∃ X,buB b.dv b.ag b.sg b.id b.on = X:=⟨_,rfl⟩
 rw [hX] at hBt hle hv
 have hVf:=fnVerifyF T N hT hN hTv b.sg X b.si X.length h2 rfl (by omega) h4
 unfold buR at hBt
 unfold buR
 refine fn_of (Γ:=Γ) (fn:=Tryz.f56) rfl rfl rfl rfl ?_
 repeat (refine sd ?_)
 refine Draw.intro [[],[],[1],[],[3],[],[5],[0,1,2,3,4,5,6],[0,1,2,3,4,5,6,7]] [0,1,2,3,5,6,4,7,8] (by kernel_rfl) ?_
 repeat (first | (refine Grow.turn rfl rfl ?_) | (refine sd ?_))
 refine Call.intro hBt [] rfl ?_ rfl ?_ rfl ?_
 ·exact fc
 ·exact fc
 rintro v M' ⟨rfl,rfl⟩
 dsimp only [zt,zM,zE,ren,zz,zx,zy,look,zG,zX,ev,evL,zV,zcT,zcF,act,zP,zO,Ent.zW]
 repeat (first | (refine Grow.turn rfl rfl ?_) | (refine sd ?_))
 refine Call.intro hVf [(1000,(1000,0,none)),(1001,(1001,0,none)),(1002,(1002,0,none))] rfl ?_ rfl ?_ rfl ?_
 ·exact fc
 ·exact fc
 rintro v M' (⟨_,rfl,rfl⟩ | ⟨hno,_⟩)
 rotate_left
 ·exact absurd hv hno
 dsimp only [zt,zM,zE,ren,zz,zx,zy,look,zG,zX,ev,evL,zV,zcT,zcF,act,zP,zO,Ent.zW]
 repeat (first | (refine Grow.turn rfl rfl ?_) | (refine sd ?_))
 refine Ret.intro .tt [(1000,.mem false 0 [(1,.slx 1001 0 0 N),(1,.mp 1002)]),(1001,.mem false 0 [(N * 3,.arr N 3 (ttF T))]),(1002,.dead)] [] rfl ?_ ⟨rfl,rfl⟩ rfl ?_ rfl ?_ rfl
 ·exact fc
 ·exact fc
 ·exact fc
end Go.Proofs.YtfnmgbillkiabaaGreat
