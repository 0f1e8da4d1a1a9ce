/- What the functions of the program compute. No condition. -/
import Derived.Test.YtfnmgbillkiabaaGreatHwAd2ToAd3
set_option linter.unusedSimpArgs false
set_option linter.unusedVariables false
set_option maxRecDepth 100000
namespace Go.Proofs.YtfnmgbillkiabaaGreat
open Go Go.Sx
theorem buF_lt {S:List Bu} {x:Bu} {q:Nat} (h:q < S.length):buF (S ++ [x]) q = buF S q:=by
 unfold buF
 rw [List.getD_eq_getElem?_getD,List.getD_eq_getElem?_getD,List.getElem?_append_left h]
theorem buF_at (S:List Bu) (x:Bu):buF (S ++ [x]) S.length = buR x:=by
 unfold buF
 rw [List.getD_eq_getElem?_getD,List.getElem?_append_right (Nat.le_refl _),Nat.sub_self]
 rfl
theorem appF_bu {A:List Bu} {x:Bu} {k:Nat} {G:Nat->List (Nat × SV)} (hk:A.length = k) (hG:G 0 = buR x):∀ q,q < k + 1->buF (A ++ [x]) q = appF k (buF A) G q:=by
 subst hk
 intro q hq
 rcases Nat.lt_or_ge q A.length with h | h
 ·rw [appF_lt h,buF_lt h]
 ·obtain rfl:q = A.length:=by omega
  rw [appF_ge h,buF_at,Nat.sub_self,hG]
def b1 (T:List Te) (k:On):List Te × Nat:=mk1 T 2 k.2
def b2 (T:List Te) (dv:UInt8) (ag sg key:List UInt8) (k:On):List Te × Nat:=mk2 (b1 T k).1 6 key (buB dv ag sg k.1 (kyB (b1 T k).2))
theorem b1_eq (T:List Te) (k:On):b1 T k = mk1 T 2 k.2:=rfl
theorem b2_eq (T:List Te) (dv:UInt8) (ag sg key:List UInt8) (k:On):b2 T dv ag sg key k = mk2 (b1 T k).1 6 key (buB dv ag sg k.1 (kyB (b1 T k).2)):=rfl
attribute [irreducible] b1 b2
def bsT (T:List Te) (dv:UInt8) (ag sg key:List UInt8) (all:List On):Nat->List Te
 | 0=>T
 | i + 1=>(b2 (bsT T dv ag sg key all i) dv ag sg key (all.getD i on0)).1
def bsB (T:List Te) (dv:UInt8) (ag sg key:List UInt8) (k:On):Bu:=⟨dv,ag,sg,k.1,kyB (b1 T k).2,sgF (b2 T dv ag sg key k).2⟩
def bsL (T:List Te) (dv:UInt8) (ag sg key:List UInt8) (all:List On):Nat->List Bu
 | 0=>[]
 | i + 1=>bsL T dv ag sg key all i ++ [bsB (bsT T dv ag sg key all i) dv ag sg key (all.getD i on0)]
theorem bsT_zero (T:List Te) (dv:UInt8) (ag sg key:List UInt8) (all:List On):bsT T dv ag sg key all 0 = T:=rfl
theorem bsT_succ (T:List Te) (dv:UInt8) (ag sg key:List UInt8) (all:List On) (i:Nat):bsT T dv ag sg key all (i + 1) = (b2 (bsT T dv ag sg key all i) dv ag sg key (all.getD i on0)).1:=rfl
theorem bsL_zero (T:List Te) (dv:UInt8) (ag sg key:List UInt8) (all:List On):bsL T dv ag sg key all 0 = []:=rfl
theorem bsL_succ (T:List Te) (dv:UInt8) (ag sg key:List UInt8) (all:List On) (i:Nat):bsL T dv ag sg key all (i + 1) = bsL T dv ag sg key all i ++ [bsB (bsT T dv ag sg key all i) dv ag sg key (all.getD i on0)]:=rfl
attribute [irreducible] bsT bsL
theorem b_info {T:List Te} (hTv:∀ x ∈ T,Valid x.1 x.2) (dv:UInt8) (ag sg key:List UInt8) (k:On):(∀ x ∈ (b1 T k).1,Valid x.1 x.2)/\(b1 T k).1.length <= T.length + 1/\(∀ x ∈ (b2 T dv ag sg key k).1,Valid x.1 x.2)/\(b2 T dv ag sg key k).1.length <= T.length + 2:=by
 rw [b2_eq,b1_eq]
 have h1:=mk1_valid hTv 2 k.2
 have h2:=(mk1_len T 2 k.2).2
 refine ⟨h1,h2,mk2_valid h1 _ _ _,?_⟩
 have:=(mk2_len (mk1 T 2 k.2).1 6 key (buB dv ag sg k.1 (kyB (mk1 T 2 k.2).2))).2
 omega
theorem bsT_info {T:List Te} (hTv:∀ x ∈ T,Valid x.1 x.2) (dv:UInt8) (ag sg key:List UInt8) (all:List On):∀ i,(∀ x ∈ bsT T dv ag sg key all i,Valid x.1 x.2)/\(bsT T dv ag sg key all i).length <= T.length + 2 * i
 | 0=>by rw [bsT_zero];exact ⟨hTv,Nat.le_refl _⟩
 | i + 1=>by
  obtain ⟨h1,h2⟩:=bsT_info hTv dv ag sg key all i
  obtain ⟨_,_,h3,h4⟩:=b_info h1 dv ag sg key (all.getD i on0)
  rw [bsT_succ]
  exact ⟨h3,by omega⟩
theorem bsL_len (T:List Te) (dv:UInt8) (ag sg key:List UInt8) (all:List On):∀ i,(bsL T dv ag sg key all i).length = i
 | 0=>by rw [bsL_zero];rfl
 | i + 1=>by rw [bsL_succ,zlA,bsL_len T dv ag sg key all i];rfl
theorem onF_cons {x:On} {l:List On} {k:Nat} (hl:l.length = k) {F G:Nat->List (Nat × SV)} (hF:F 0 = onR x) (hG:∀ q,q < k->G q = onF l q):∀ q,q < 1 + k->onF (x :: l) q = appF 1 F G q:=by
 intro q hq
 rcases Nat.lt_or_ge q 1 with h | h
 ·obtain rfl:q = 0:=by omega
  rw [appF_lt h,hF];rfl
 ·rw [appF_ge h,hG _ (by omega)]
  obtain ⟨j,rfl⟩:∃ j,q = j + 1:=⟨q - 1,by omega⟩
  rfl
set_option maxHeartbeats 8000000 in
theorem fn55 (T:List Te) (N c:Nat) (hT:T.length = N) (hN:N <= 40000) (hNc:N <= c) (hTv:∀ x ∈ T,Valid x.1 x.2) (x:Ac) (hx:x.OK) (l:List On) (k:Nat) (hl:l.length = k) (hk:k <= 100) (hlO:∀ y ∈ l,OnOK y) (dv:UInt8)
  (A B:List Te) (o1 o2:Nat) (hA:(mk1 T 2 x.ag).1 = A) (h1:(mk1 T 2 x.ag).2 = o1) (hB:(mk1 A 5 x.sg).1 = B) (h2:(mk1 A 5 x.sg).2 = o2) (all:List On) (hal:(x.fi,x.fs) :: l = all) :
  Sx.Fn Γ.P 55 [.agg [(1,.ptr 1000 0 none)],.agg (acL x (.isl 0 k 33 [(k * 33,.arr k 33 (onF l))])),.u8 dv] (tbM N c T 1001)
  (fun v M=>∃ n' c',(bsT B dv (kyB o1) (kyB o2) x.sg all (1 + k)).length = n'/\n' <= c'/\v = .isl 0 (1 + k) 162 [((1 + k) * 162,.arr (1 + k) 162 (buF (bsL B dv (kyB o1) (kyB o2) x.sg all (1 + k))))]/\M = (1001,.dead) :: tbM n' c' (bsT B dv (kyB o1) (kyB o2) x.sg all (1 + k)) 1005):=by
 have hPu:=fn100 T N c hT hN hNc hTv x hx l k hl (by omega) A B o1 o2 hA h1 hB h2
 obtain ⟨vA,lA⟩:=mk1_on hT hTv 2 x.ag hA
 obtain ⟨vB,lB⟩:=mk1_on rfl vA 5 x.sg hB
 obtain ⟨g1,g2,g3⟩:=hx
 have halO:∀ y ∈ all,OnOK y:=by
  subst hal
  intro y hy
  rcases List.mem_cons.1 hy with rfl | hy
  ·exact g3
  ·exact hlO y hy
 have hall:all.length = 1 + k:=by subst hal;rw [List.length_cons,hl];omega
 obtain ⟨ag,hag⟩:∃ z,kyB o1 = z:=⟨_,rfl⟩
 obtain ⟨sg,hsg⟩:∃ z,kyB o2 = z:=⟨_,rfl⟩
 have kag:ag.length = 32:=by rw [<- hag];exact zk _
 have ksg:sg.length = 32:=by rw [<- hsg];exact zk _
 rw [hag,hsg] at hPu ⊢
 unfold tbM at hPu
 unfold tbM
 refine fn_of (Γ:=Γ) (fn:=Tryz.f55) rfl rfl rfl rfl ?_
 repeat (refine sd ?_)
 refine Call.intro hPu [(1000,(1000,0,none)),(1001,(1001,0,none)),(1002,(1002,0,none)),(1005,(305,0,none))] rfl ?_ rfl ?_ rfl ?_
 ·exact fc
 ·exact fc
 rintro v M' ⟨n1,c1,hn1,hc1,rfl,rfl⟩
 dsimp only [zt,zM,zE,ren,zz,zx,zy,look,zG,zX,ev,evL,zV,zcT,zcF,act,zP,zO,Ent.zW]
 repeat (refine sd ?_)
 refine fun ca hca=>?_
 have hca:1 + k <= ca:=hca
 repeat (refine sd ?_)
 refine Loop.intro (σ:=Nat × Nat × Nat × Nat) (fun s=>s.1 <= 1 + k/\(bsT B dv ag sg x.sg all s.1).length = s.2.1/\s.2.1 <= s.2.2.1/\s.1 <= s.2.2.2)
  (fun s=>([(2,.u8 dv),(3,.ptr 203 0 none),(4,.ptr 204 0 none),(7,.ptr 207 0 none),(8,.ptr 208 0 none),(9,.sl 209 0 0 s.1 s.2.2.2),(24,.sl 224 0 0 (1 + k) ca),(25,.i .i64 ((1 + k:Nat):Int)),(26,.i .i64 (s.1:Int))],
   [(203,.mem true 0 [(1,.ptr 1000 0 none)]),(204,.mem true 0 (acL x (.isl 0 k 33 [(k * 33,.arr k 33 (onF l))]))),(207,.mem true 0 [(32,.a8 ag)]),(208,.mem true 0 [(32,.a8 sg)]),(209,.mem true (zmE (s.2.2.2 - s.1) 162) [(s.1 * 162,.arr s.1 162 (buF (bsL B dv ag sg x.sg all s.1)))]),(224,.mem true (zmE (ca - (1 + k)) 33) [((1 + k) * 33,.arr (1 + k) 33 (onF all))]),
   (1000,.mem true 0 [(1,.sl 211 0 0 s.2.1 s.2.2.1),(1,.mp 1002)]),(1001,.dead),(211,.mem true (zmE (s.2.2.1 - s.2.1) 3) [(s.2.1 * 3,.arr s.2.1 3 (ttF (bsT B dv ag sg x.sg all s.1)))]),(1002,.map (.si (mpL (bsT B dv ag sg x.sg all s.1))))]))
  (fun s=>1 + k - s.1) (0,n1,c1,0) ⟨Nat.zero_le _,by rw [bsT_zero];exact hn1,hc1,Nat.le_refl _⟩ ?_ ?_
 ·refine Le.ghost [.own 450 [(0 * 162,.arr 0 162 (buF []))]] [(9,450)] [(203,(3,0,none)),(204,(4,0,none)),(207,(7,0,none)),(208,(8,0,none)),(209,(450,0,none)),(224,(24,0,none)),(211,(305,0,none))] rfl ?_ rfl rfl ?_ rfl ?_ rfl
  ·repeat' (first | (show zA _;first | exact trivial | refine zA.app ?_ ?_ | refine zA.zd ?_ ?_ | refine zA.cons ?_ ?_) | exact fd | fail)
   all_goals exact ⟨rfl,rfl,trivial⟩
  ·exact fc
  ·repeat' (first | (show zA _;first | exact trivial | refine zA.app ?_ ?_ | refine zA.zd ?_ ?_ | refine zA.cons ?_ ?_) | exact fd | fail)
   all_goals first | (rw [bsT_zero];done) | (rw [bsL_zero];done) | (rw [<- hal];exact onF_cons hl rfl (fun q _=>by first | rfl | (rw [shiftF_eq,Nat.zero_add]))) | (simp [bsT_zero,bsL_zero];done) | trace_state
 rintro ⟨i,n,cc,cb⟩ ⟨hi,hn,hnc,hcb⟩
 have hi:i <= 1 + k:=hi
 have hn:(bsT B dv ag sg x.sg all i).length = n:=hn
 have hnc:n <= cc:=hnc
 have hcb:i <= cb:=hcb
 obtain ⟨iv,il⟩:=bsT_info vB dv ag sg x.sg all i
 refine zB.intro (fun hb=>?_) (fun hb=>?_)
 ·have hb:(i:Int) < ((1 + k:Nat):Int):=hb
  have him:i < 1 + k:=by omega
  obtain ⟨w,hw⟩:∃ w,all.getD i on0 = w:=⟨_,rfl⟩
  have hwO:w.2.length = 32:=by rw [<- hw];exact halO _ (getD_mem on0 (by omega))
  have e1:addQ 0 (Int.toNat (i:Int)) = i:=by rw [zQ,Nat.zero_add,zIn]
  have hrow:onF all (addQ 0 (Int.toNat (i:Int))) = [(1,.u16 w.1),(32,.a8 w.2)]:=by rw [e1];unfold onF;rw [hw]
  have hbl:=bsL_len B dv ag sg x.sg all i
  have hS1:=bsT_succ B dv ag sg x.sg all i
  have hS2:=bsL_succ B dv ag sg x.sg all i
  rw [hw] at hS1 hS2
  obtain ⟨U,hU⟩:∃ U,bsT B dv ag sg x.sg all i = U:=⟨_,rfl⟩
  obtain ⟨V,hV⟩:∃ V,bsL B dv ag sg x.sg all i = V:=⟨_,rfl⟩
  rw [hU] at hn iv il hS1 hS2
  rw [hV] at hbl hS2
  obtain ⟨w1,w2,w3,w4⟩:=b_info iv dv ag sg x.sg w
  obtain ⟨U1,hU1⟩:∃ z,(b1 U w).1 = z:=⟨_,rfl⟩
  obtain ⟨p1,hp1⟩:∃ z,(b1 U w).2 = z:=⟨_,rfl⟩
  obtain ⟨U2,hU2⟩:∃ z,(b2 U dv ag sg x.sg w).1 = z:=⟨_,rfl⟩
  obtain ⟨p2,hp2⟩:∃ z,(b2 U dv ag sg x.sg w).2 = z:=⟨_,rfl⟩
  have hBs:bsB U dv ag sg x.sg w = ⟨dv,ag,sg,w.1,kyB p1,sgF p2⟩:=by unfold bsB;rw [hp1,hp2]
  rw [hU1] at w1 w2
  rw [hU2] at w3 w4 hS1
  rw [hBs] at hS2
  have hkp:=zk p1
  have hsl:=sgF_length p2
  have hF:=fnPublicF U n cc hn (by omega) hnc iv w.2 hwO U1 p1 (by rw [<- b1_eq];exact hU1) (by rw [<- b1_eq];exact hp1)
  have hBt:=fn102 ⟨dv,ag,sg,w.1,kyB p1,z64⟩ ⟨kag,ksg,hkp,rfl⟩ _ rfl
  have hXl:=buB_le (dv:=dv) (id:=w.1) kag ksg hkp
  have g1':(mk2 U1 6 x.sg (buB dv ag sg w.1 (kyB p1))).1 = U2:=by rw [<- hU1,<- hp1,<- b2_eq];exact hU2
  have g2':(mk2 U1 6 x.sg (buB dv ag sg w.1 (kyB p1))).2 = p2:=by rw [<- hU1,<- hp1,<- b2_eq];exact hp2
  obtain ⟨X,hX⟩:∃ X,buB dv ag sg w.1 (kyB p1) = X:=⟨_,rfl⟩
  have hBt:Sx.Fn Γ.P 102 [.agg [(1,.u8 dv),(32,.a8 ag),(32,.a8 sg),(1,.u16 w.1),(32,.a8 (kyB p1)),(64,.a8 (List.replicate 64 0))]] [] (fun v M=>v = .isl 0 X.length 1 [(X.length,.a8 X)]/\M = []):=by subst hX;exact hBt
  rw [hX] at hXl g1' g2'
  unfold tbM at hF
  clear hBs hU1 hp1 hU2 hp2 hX
  have j1:(all.getD (addQ 0 (Ix.dyn (Int.toNat (i:Int))).val) on0).1 = w.1:=by rw [show addQ 0 (Ix.dyn (Int.toNat (i:Int))).val = i from e1,hw]
  have j2:(all.getD (addQ 0 (Ix.dyn (Int.toNat (i:Int))).val) on0).2 = w.2:=by rw [show addQ 0 (Ix.dyn (Int.toNat (i:Int))).val = i from e1,hw]
  repeat (refine sd ?_)
  refine Draw.intro [[],[],[],[],[3],[],[],[6],[5,6,7],[0,1,2,3,4,5,6,7,8],[],[0,1,2,3,4,5,6,7,8,9,10]] [0,1,2,3,4,5,6,7,10,8,9,11] (by kernel_rfl) ?_
  repeat (first | (refine Grow.turn rfl rfl ?_) | (refine sd ?_))
  refine Call.intro hF [(1000,(1000,0,none)),(1001,(211,0,none)),(1002,(1002,0,none)),(1005,(305,0,none))] rfl ?_ rfl ?_ rfl ?_
  ·repeat' (first | (show zA _;first | exact trivial | refine zA.app ?_ ?_ | refine zA.zd ?_ ?_ | refine zA.cons ?_ ?_) | exact fd | fail)
   all_goals first | exact j1 | exact j2 | (intro q _;rw [hU];done) | (rw [hU];done) | trace_state
  ·repeat' (first | (show zA _;first | exact trivial | refine zA.app ?_ ?_ | refine zA.zd ?_ ?_ | refine zA.cons ?_ ?_) | exact fd | fail)
   all_goals first | exact j1 | exact j2 | (intro q _;rw [hU];done) | (rw [hU];done) | trace_state
  rintro v M' ⟨n',c',hn',hnc',rfl,rfl⟩
  have hSg:=fnSignF U1 n' c' hn' (by omega) hnc' w1 x.sg X X.length g2 rfl (by omega) U2 p2 g1' g2'
  unfold tbM at hSg
  dsimp only [zt,zM,zE,ren,zz,zx,zy,look,zG,zX,ev,evL,zV,zcT,zcF,act,zP,zO,Ent.zW]
  repeat (first | (refine Grow.turn rfl rfl ?_) | (refine sd ?_))
  refine Draw.intro [[],[],[1],[],[3],[0,1,2,3,4],[0,1,2,3,4,5],[0,1,2,3,4,5,6]] [0,1,2,3,4,5,6,7] (by kernel_rfl) ?_
  repeat (first | (refine Grow.turn rfl rfl ?_) | (refine sd ?_))
  refine Call.intro hBt [] rfl ?_ rfl ?_ rfl ?_
  ·repeat' (first | (show zA _;first | exact trivial | refine zA.app ?_ ?_ | refine zA.zd ?_ ?_ | refine zA.cons ?_ ?_) | exact fd | fail)
   all_goals first | exact j1 | exact j2 | (intro q _;rw [hU];done) | (rw [hU];done) | trace_state
  ·repeat' (first | (show zA _;first | exact trivial | refine zA.app ?_ ?_ | refine zA.zd ?_ ?_ | refine zA.cons ?_ ?_) | exact fd | fail)
   all_goals first | exact j1 | exact j2 | (intro q _;rw [hU];done) | (rw [hU];done) | trace_state
  rintro v M' ⟨rfl,rfl⟩
  dsimp only [zt,zM,zE,ren,zz,zx,zy,look,zG,zX,ev,evL,zV,zcT,zcF,act,zP,zO,Ent.zW]
  repeat (first | (refine Grow.turn rfl rfl ?_) | (refine sd ?_))
  refine Call.intro hSg [(1000,(1000,0,none)),(1001,(305,0,none)),(1002,(1002,0,none)),(1005,(306,0,none))] rfl ?_ rfl ?_ rfl ?_
  ·repeat' (first | (show zA _;first | exact trivial | refine zA.app ?_ ?_ | refine zA.zd ?_ ?_ | refine zA.cons ?_ ?_) | exact fd | fail)
   all_goals first | exact j1 | exact j2 | (intro q _;rw [hU];done) | (rw [hU];done) | trace_state
  ·repeat' (first | (show zA _;first | exact trivial | refine zA.app ?_ ?_ | refine zA.zd ?_ ?_ | refine zA.cons ?_ ?_) | exact fd | fail)
   all_goals first | exact j1 | exact j2 | (intro q _;rw [hU];done) | (rw [hU];done) | trace_state
  rintro v M' ⟨n2,c2,hn2,hnc2,rfl,rfl⟩
  dsimp only [zt,zM,zE,ren,zz,zx,zy,look,zG,zX,ev,evL,zV,zcT,zcF,act,zP,zO,Ent.zW]
  repeat (first | (refine Grow.turn rfl rfl ?_) | (refine sd ?_))
  refine fun cd hcd=>?_
  have hcd:i + 1 <= cd:=hcd
  repeat (first | (refine Grow.turn rfl rfl ?_) | (refine sd ?_))
  refine ⟨(i + 1,n2,c2,cd),⟨by show i + 1 <= 1 + k;omega,by show (bsT B dv ag sg x.sg all (i + 1)).length = n2;rw [hS1];exact hn2,hnc2,hcd⟩,by show 1 + k - (i + 1) < 1 + k - i;omega,Le.intro [(203,(203,0,none)),(204,(204,0,none)),(207,(207,0,none)),(208,(208,0,none)),(209,(50,0,none)),(224,(224,0,none)),(211,(306,0,none))] rfl ?_ rfl ?_ rfl⟩
  ·exact fc
  ·repeat' (first | (show zA _;first | exact trivial | refine zA.app ?_ ?_ | refine zA.zd ?_ ?_ | refine zA.cons ?_ ?_) | exact fd | fail)
   all_goals first | (show ∀ q,q < i + 1->buF (bsL B dv ag sg x.sg all (i + 1)) q = _;rw [hS2];first | exact appF_bu hbl rfl | (rw [hV];exact appF_bu hbl rfl) | (rw [hV];exact appF_bu hbl (by show ([(1,SV.u8 dv),(32,.a8 ag),(32,.a8 sg),(1,.u16 (all.getD (addQ 0 (Ix.dyn (Int.toNat (i:Int))).val) on0).1),(32,.a8 (kyB p1)),(64,.a8 (sgF p2))]:List (Nat × SV)) = _;rw [j1];rfl))) | (intro q _;rw [hS1];done) | (rw [hS1];done) | trace_state
 have hb:¬ (i:Int) < ((1 + k:Nat):Int):=hb
 obtain rfl:i = 1 + k:=by omega
 repeat (refine sd ?_)
 refine Ret.ghost [.keep 209] [(6,0)] rfl ?_ rfl (.isl 0 (1 + k) 162 [((1 + k) * 162,.arr (1 + k) 162 (buF (bsL B dv ag sg x.sg all (1 + k))))]) ((1001,.dead) :: tbM n cc (bsT B dv ag sg x.sg all (1 + k)) 1005) [(1005,(211,0,none))] rfl ?_ ⟨n,cc,hn,hnc,rfl,rfl⟩ rfl ?_ rfl ?_ rfl
 ·exact fc
 ·exact fc
 ·exact fc
 ·exact fc
end Go.Proofs.YtfnmgbillkiabaaGreat
