/- What the functions of the program compute. No condition. -/
import Derived.Test.YtfnmgbillkiabaaGreatHwRc3ToRc4
import Derived.Test.YtfnmgbillkiabaaGreatHwFr1ToFr1
import Derived.Test.YtfnmgbillkiabaaGreatHwFr2ToFr2
import Derived.Test.YtfnmgbillkiabaaGreatHwRa8ToRy2
set_option linter.unusedSimpArgs false
set_option linter.unusedVariables false
set_option maxRecDepth 100000
namespace Go.Proofs.YtfnmgbillkiabaaGreat
open Go Go.Sx
theorem mk1_on {T:List Te} {N:Nat} (hT:T.length = N) (hTv:∀ x ∈ T,Valid x.1 x.2) (k:Int) (p:List UInt8) {A:List Te} (hA:(mk1 T k p).1 = A):(∀ x ∈ A,Valid x.1 x.2)/\A.length <= N + 1:=by
 subst hA
 exact ⟨mk1_valid hTv k p,by rw [<- hT];exact (mk1_len T k p).2⟩
set_option maxHeartbeats 4000000 in
theorem fn53 (T:List Te) (N c:Nat) (hT:T.length = N) (hN:N <= 40000) (hNc:N <= c) (hTv:∀ x ∈ T,Valid x.1 x.2) (a b d:List UInt8) (ha:a.length = 32) (hb:b.length = 32) (hd:d.length = 32)
  (A B C:List Te) (o1 o2 o3:Nat) (hA:(mk1 T 1 a).1 = A) (h1:(mk1 T 1 a).2 = o1) (hB:(mk1 A 1 b).1 = B) (h2:(mk1 A 1 b).2 = o2) (hC:(mk1 B 1 d).1 = C) (h3:(mk1 B 1 d).2 = o3) :
  Sx.Fn Γ.P 53 [.agg [(1,.ptr 1000 0 none)],.a8 a,.a8 b,.a8 d] (tbM N c T 1001)
  (fun v M=>∃ n' c',C.length = n'/\n' <= c'/\v = .agg (acL ⟨kyB o1,kyB o2,0,kyB o3,1⟩ (.isl 0 0 33 [(0 * 33,.arr 0 33 (onF []))]))/\M = (1001,.dead) :: tbM n' c' C 1005):=by
 obtain ⟨vA,lA⟩:=mk1_on hT hTv 1 a hA
 obtain ⟨vB,lB⟩:=mk1_on rfl vA 1 b hB
 have hF1:=fnFreshF T N c hT (by omega) hNc hTv a ha A o1 hA h1
 have hk1:=zk o1
 have hk2:=zk o2
 have hk3:=zk o3
 unfold tbM at hF1
 unfold tbM
 refine fn_of (Γ:=Γ) (fn:=Tryz.f53) rfl rfl rfl rfl ?_
 repeat (refine sd ?_)
 refine Draw.intro [[],[],[0,1],[],[],[0,1,2,3,4],[],[],[0,1,2,3,4,5,6,7],[0,1,2,3,4,5,6,7,8],[0,1,2,3,4,5,6,7,8,9],[0,1,2,3,4,5,6,7,8,9,10]] [0,1,3,4,6,7,2,5,8,9,10,11] (by kernel_rfl) ?_
 repeat (first | (refine Grow.turn rfl rfl ?_) | (refine sd ?_))
 refine Call.intro hF1 [(1000,(1000,0,none)),(1001,(1001,0,none)),(1002,(1002,0,none)),(1005,(305,0,none))] rfl ?_ rfl ?_ rfl ?_
 ·exact fc
 ·exact fc
 rintro v M' ⟨n1,c1,hn1,hc1,rfl,rfl⟩
 have hF2:=fnFreshF A n1 c1 hn1 (by omega) hc1 vA b hb B o2 hB h2
 unfold tbM at hF2
 dsimp only [zt,zM,zE,ren,zz,zx,zy,look,zG,zX,ev,evL,zV,zcT,zcF,act,zP,zO,Ent.zW]
 repeat (first | (refine Grow.turn rfl rfl ?_) | (refine sd ?_))
 refine Call.intro hF2 [(1000,(1000,0,none)),(1001,(305,0,none)),(1002,(1002,0,none)),(1005,(306,0,none))] rfl ?_ rfl ?_ rfl ?_
 ·exact fc
 ·exact fc
 rintro v M' ⟨n2,c2,hn2,hc2,rfl,rfl⟩
 have hF3:=fnFreshF B n2 c2 hn2 (by omega) hc2 vB d hd C o3 hC h3
 unfold tbM at hF3
 dsimp only [zt,zM,zE,ren,zz,zx,zy,look,zG,zX,ev,evL,zV,zcT,zcF,act,zP,zO,Ent.zW]
 repeat (first | (refine Grow.turn rfl rfl ?_) | (refine sd ?_))
 refine Call.intro hF3 [(1000,(1000,0,none)),(1001,(306,0,none)),(1002,(1002,0,none)),(1005,(307,0,none))] rfl ?_ rfl ?_ rfl ?_
 ·exact fc
 ·exact fc
 rintro v M' ⟨n3,c3,hn3,hc3,rfl,rfl⟩
 dsimp only [zt,zM,zE,ren,zz,zx,zy,look,zG,zX,ev,evL,zV,zcT,zcF,act,zP,zO,Ent.zW]
 repeat (first | (refine Grow.turn rfl rfl ?_) | (refine sd ?_))
 refine Ret.intro (.agg (acL ⟨kyB o1,kyB o2,0,kyB o3,1⟩ (.isl 0 0 33 [(0 * 33,.arr 0 33 (onF []))]))) ((1001,.dead) :: tbM n3 c3 C 1005) [(1005,(307,0,none))] rfl ?_ ⟨n3,c3,hn3,hc3,rfl,rfl⟩ rfl ?_ rfl ?_ rfl
 ·repeat' (first | (show zA _;first | exact trivial | refine zA.app ?_ ?_ | refine zA.zd ?_ ?_ | refine zA.cons ?_ ?_) | exact fd | fail)
  all_goals exact ⟨rfl,rfl,trivial⟩
 ·repeat' (first | (show zA _;first | exact trivial | refine zA.app ?_ ?_ | refine zA.zd ?_ ?_ | refine zA.cons ?_ ?_) | exact fd | fail)
  all_goals exact ⟨rfl,rfl,trivial⟩
 ·exact fc
set_option maxHeartbeats 4000000 in
theorem fn100 (T:List Te) (N c:Nat) (hT:T.length = N) (hN:N <= 40000) (hNc:N <= c) (hTv:∀ x ∈ T,Valid x.1 x.2) (x:Ac) (hx:x.OK) (l:List On) (m:Nat) (hl:l.length = m) (hm:m <= 1000)
  (A B:List Te) (o1 o2:Nat) (hA:(mk1 T 2 x.ag).1 = A) (h1:(mk1 T 2 x.ag).2 = o1) (hB:(mk1 A 5 x.sg).1 = B) (h2:(mk1 A 5 x.sg).2 = o2) :
  Sx.Fn Γ.P 100 [.agg [(1,.ptr 1000 0 none)],.agg (acL x (.isl 0 m 33 [(m * 33,.arr m 33 (onF l))]))] (tbM N c T 1001)
  (fun v M=>∃ n' c',B.length = n'/\n' <= c'/\v = .tup [.a8 (kyB o1),.a8 (kyB o2)]/\M = (1001,.dead) :: tbM n' c' B 1005):=by
 obtain ⟨g1,g2,g3⟩:=hx
 obtain ⟨vA,lA⟩:=mk1_on hT hTv 2 x.ag hA
 have hF1:=fnPublicF T N c hT (by omega) hNc hTv x.ag g1 A o1 hA h1
 have hk1:=zk o1
 have hk2:=zk o2
 unfold tbM at hF1
 unfold tbM
 refine fn_of (Γ:=Γ) (fn:=Tryz.f100) rfl rfl rfl rfl ?_
 repeat (refine sd ?_)
 refine Draw.intro [[],[],[1],[0,1,2],[],[],[5],[0,1,2,3,4,5,6],[0,1,2,3,4,5,6,7],[0,1,2,3,4,5,6,7,8]] [0,1,2,4,5,6,3,7,8,9] (by kernel_rfl) ?_
 repeat (first | (refine Grow.turn rfl rfl ?_) | (refine sd ?_))
 refine Call.intro hF1 [(1000,(1000,0,none)),(1001,(1001,0,none)),(1002,(1002,0,none)),(1005,(305,0,none))] rfl ?_ rfl ?_ rfl ?_
 ·exact fc
 ·exact fc
 rintro v M' ⟨n1,c1,hn1,hc1,rfl,rfl⟩
 have hF2:=fnSignerF A n1 c1 hn1 (by omega) hc1 vA x.sg g2 B o2 hB h2
 unfold tbM at hF2
 dsimp only [zt,zM,zE,ren,zz,zx,zy,look,zG,zX,ev,evL,zV,zcT,zcF,act,zP,zO,Ent.zW]
 repeat (first | (refine Grow.turn rfl rfl ?_) | (refine sd ?_))
 refine Call.intro hF2 [(1000,(1000,0,none)),(1001,(305,0,none)),(1002,(1002,0,none)),(1005,(306,0,none))] rfl ?_ rfl ?_ rfl ?_
 ·exact fc
 ·exact fc
 rintro v M' ⟨n2,c2,hn2,hc2,rfl,rfl⟩
 dsimp only [zt,zM,zE,ren,zz,zx,zy,look,zG,zX,ev,evL,zV,zcT,zcF,act,zP,zO,Ent.zW]
 repeat (first | (refine Grow.turn rfl rfl ?_) | (refine sd ?_))
 refine Ret.intro (.tup [.a8 (kyB o1),.a8 (kyB o2)]) ((1001,.dead) :: tbM n2 c2 B 1005) [(1005,(306,0,none))] rfl ?_ ⟨n2,c2,hn2,hc2,rfl,rfl⟩ rfl ?_ rfl ?_ rfl
 ·exact fc
 ·exact fc
 ·exact fc
theorem tuK_length (T:List Te) (x:Se):(tuK T x).length = 32:=zk _
theorem tuR_length (T:List Te) (x:Se):(tuR T x).length = 32:=zk _
theorem tuT_valid {T:List Te} (hTv:∀ y ∈ T,Valid y.1 y.2) {x:Se} (hm:x.mine.length = 32) (ht:x.th.length = 32):∀ y ∈ tuT T x,Valid y.1 y.2:=
 roT_valid (tuA_info hTv hm ht).1 _ _
theorem tuT_len {T:List Te} (hTv:∀ y ∈ T,Valid y.1 y.2) {x:Se} (hm:x.mine.length = 32) (ht:x.th.length = 32):(tuT T x).length <= T.length + 3:=by
 have h1:=(tuA_info hTv hm ht).2
 have h2:=(roT_len (tuA T x).1 x.root (kyB (tuA T x).2)).2
 unfold tuT;omega
theorem zlz:z32.length = 32:=List.length_replicate
end Go.Proofs.YtfnmgbillkiabaaGreat
