/- What the functions of the program compute. No condition. -/
import Derived.Test.YtfnmgbillkiabaaGreatHwRa5ToRa7
set_option linter.unusedSimpArgs false
set_option linter.unusedVariables false
set_option maxRecDepth 100000
namespace Go.Proofs.YtfnmgbillkiabaaGreat
open Go Go.Sx
def begA (T:List Te) (sh:List UInt8):List Te × Nat:=mx1 T 48 sh
def begB (T:List Te) (sh:List UInt8):List Te × Nat:=mx1 (begA T sh).1 49 sh
def begC (T:List Te) (sh dr:List UInt8):List Te × Nat:=mk1 (begB T sh).1 1 dr
attribute [irreducible] begA begB begC
theorem begA_eq (T:List Te) (sh:List UInt8):begA T sh = mx1 T 48 sh:=by unfold begA;rfl
theorem begB_eq (T:List Te) (sh:List UInt8):begB T sh = mx1 (begA T sh).1 49 sh:=by unfold begB;rfl
theorem begC_eq (T:List Te) (sh dr:List UInt8):begC T sh dr = mk1 (begB T sh).1 1 dr:=by unfold begC;rfl
def begS (T:List Te) (id sh dr:List UInt8):Se:={ id:=id,root:=kyB (begA T sh).2,mine:=kyB (begC T sh dr).2,hs:=true,sk:=kyB (begB T sh).2,sn:=0,pv:=0,th:=List.replicate 32 0,hr:=false,rk:=List.replicate 32 0,rn:=0,fi:=false,ag:=List.replicate 32 0,sg:=List.replicate 32 0,ba:=List.replicate 32 0,oc:=0,kp:=[] }
def zsL:List (Nat × SV):=[(32,.a8 (List.replicate 32 0)),(32,.a8 (List.replicate 32 0)),(32,.a8 (List.replicate 32 0)),(1,.ff),(32,.a8 (List.replicate 32 0)),(1,.u16 0),(1,.u16 0),(32,.a8 (List.replicate 32 0)),(1,.ff),(32,.a8 (List.replicate 32 0)),(1,.u16 0),(1,.ff),(32,.a8 (List.replicate 32 0)),(32,.a8 (List.replicate 32 0)),(32,.a8 (List.replicate 32 0)),(1,.u16 0),(1,.nsl)]
set_option maxHeartbeats 4000000 in
theorem fn9 (T:List Te) (N c:Nat) (hT:T.length = N) (hN:N <= 40000) (hNc:N <= c) (hTv:∀ x ∈ T,Valid x.1 x.2) (id sh dr:List UInt8) (h1:id.length = 32) (h2:sh.length = 32) (h3:dr.length = 32) :
  Sx.Fn Γ.P 9 [.agg [(1,.ptr 1000 0 none)],.a8 id,.a8 sh,.a8 dr] (tbM N c T 1001)
  (fun v M=>∃ n' c',(begC T sh dr).1.length = n'/\n' <= c'/\v = .agg (seL (begS T id sh dr) (.isl 0 0 65 [(0 * 65,.arr 0 65 (kpF []))]))/\M = (1001,.dead) :: tbM n' c' (begC T sh dr).1 1005):=by
 obtain ⟨A,hA⟩:∃ A,(begA T sh).1 = A:=⟨_,rfl⟩
 obtain ⟨B,hB⟩:∃ B,(begB T sh).1 = B:=⟨_,rfl⟩
 obtain ⟨C,hC⟩:∃ C,(begC T sh dr).1 = C:=⟨_,rfl⟩
 obtain ⟨o1,ho1⟩:∃ o,(begA T sh).2 = o:=⟨_,rfl⟩
 obtain ⟨o2,ho2⟩:∃ o,(begB T sh).2 = o:=⟨_,rfl⟩
 obtain ⟨o3,ho3⟩:∃ o,(begC T sh dr).2 = o:=⟨_,rfl⟩
 have hvA:∀ x ∈ A,Valid x.1 x.2:=by rw [<- hA,begA_eq];exact mx1_valid hTv _ _
 have hlA:A.length <= N + 1:=by rw [<- hA,begA_eq,<- hT];exact (mx1_len T _ _).2
 have hvB:∀ x ∈ B,Valid x.1 x.2:=by rw [<- hB,begB_eq,hA];exact mx1_valid hvA _ _
 have hlB:B.length <= A.length + 1:=by rw [<- hB,begB_eq,hA];exact (mx1_len A _ _).2
 have hM1:=fnMix1 T N c hT (by omega) hNc hTv 48 sh h2 A o1 (by rw [<- begA_eq];exact hA) (by rw [<- begA_eq];exact ho1)
 unfold begS
 rw [hC,ho1,ho2,ho3]
 have hk1:=zk o1
 have hk2:=zk o2
 have hk3:=zk o3
 unfold MT rwS at hM1
 unfold tbM
 refine fn_cut [1,1000002,1000003] (Γ:=Γ) (fn:=Tryz.f9) rfl rfl rfl rfl ?_
 repeat (refine sd ?_)
 refine Join.intro (σ:=Nat × Nat) (fun s=>A.length = s.1/\s.1 <= s.2) (fun s=>([(4,.ptr 204 0 none),(5,.ptr 205 0 none),(6,.ptr 206 0 none),(7,.ptr 207 0 none),(8,.ptr 208 0 none),(9,.ptr 209 0 none)],[(204,.mem true 0 [(1,.ptr 1000 0 none)]),(205,.mem true 0 [(32,.a8 id)]),(206,.mem false 1 [(32,.a8 sh)]),(207,.mem true 0 [(32,.a8 dr)]),(208,.mem true 0 zsL),(209,.mem true 0 [(32,.a8 (kyB o1))]),
  (1000,.mem true 0 [(1,.sl 211 0 0 s.1 s.2),(1,.mp 1002)]),(1001,.dead),(211,.mem true (zmE (s.2 - s.1) 3) [(s.1 * 3,.arr s.1 3 (ttF A))]),(1002,.map (.si (mpL A)))])) ?_ ?_
 ·refine Cut.intro (σ:=Unit) (fun _=>True) (fun _=>([(4,.ptr 204 0 none),(5,.ptr 205 0 none),(6,.ptr 206 0 none),(7,.ptr 207 0 none),(8,.ptr 208 0 none)],[(204,.mem true 0 [(1,.ptr 1000 0 none)]),(205,.mem true 0 [(32,.a8 id)]),(206,.mem false 1 [(32,.a8 sh)]),(207,.mem true 0 [(32,.a8 dr)]),(208,.mem true 0 zsL),
   (1000,.mem true 0 [(1,.sl 1001 0 0 N c),(1,.mp 1002)]),(1001,.mem true (zmE (c - N) 3) [(N * 3,.arr N 3 (ttF T))]),(1002,.map (.si (mpL T)))])) () trivial (Le.ghost [.keep 6] [] [(204,(4,0,none)),(205,(5,0,none)),(206,(6,0,none)),(207,(7,0,none)),(208,(8,0,none))] rfl ?_ rfl rfl ?_ rfl ?_ rfl) ?_
  ·exact fc
  ·exact fc
  ·exact fc
  rintro - -
  refine Draw.intro [[],[],[1],[0,1,2],[0,1,2,3],[0,1,2,3,4],[0,1,2,3,4],[],[0,1,2,3,4,5,7],[0,1,2,3,4,5,6,7,8],[]] [0,1,2,7,3,4,5,6,8,9] (by kernel_rfl) ?_
  refine ⟨?_,?_⟩
  all_goals
   repeat (refine sd ?_)
   refine Call.name [(0,[]),(0,[]),(2001,[])] rfl fc (CallP.intro hM1 [(1000,(1000,0,none)),(1001,(1001,0,none)),(1002,(1002,0,none)),(1003,(2001,0,none)),(1005,(305,0,none))] rfl fc rfl ?_ rfl ?_)
   ·repeat' (first | (show zA _;first | exact trivial | refine zA.app ?_ ?_ | refine zA.zd ?_ ?_ | refine zA.cons ?_ ?_) | exact fd | fail)
    all_goals exact rw1_eq h2
   rintro v M' ⟨n',c',hn',hnc',rfl,rfl⟩
   dsimp only [zt,zM,zE,ren,zz,zx,zy,look,zG,zX,ev,evL,zV,zcT,zcF,act,zP,zO,Ent.zW]
   repeat (refine sd ?_)
   refine ⟨(n',c'),⟨hn',hnc'⟩,Le.intro [(204,(204,0,none)),(205,(205,0,none)),(206,(206,0,none)),(207,(207,0,none)),(208,(208,0,none)),(209,(9,0,none)),(211,(305,0,none))] rfl ?_ rfl ?_ rfl⟩
   ·exact fc
   ·exact fc
 rintro ⟨n1,c1⟩ ⟨hn1,hc1⟩
 have hn1:A.length = n1:=hn1
 have hc1:n1 <= c1:=hc1
 have hM2:=fnMix1 A n1 c1 hn1 (by omega) hc1 hvA 49 sh h2 B o2 (by rw [<- hA,<- begB_eq];exact hB) (by rw [<- hA,<- begB_eq];exact ho2)
 unfold MT rwS at hM2
 refine Join.intro (σ:=Nat × Nat) (fun s=>B.length = s.1/\s.1 <= s.2) (fun s=>([(4,.ptr 204 0 none),(5,.ptr 205 0 none),(7,.ptr 207 0 none),(8,.ptr 208 0 none),(9,.ptr 209 0 none),(11,.ptr 210 0 none)],[(204,.mem true 0 [(1,.ptr 1000 0 none)]),(205,.mem true 0 [(32,.a8 id)]),(207,.mem true 0 [(32,.a8 dr)]),(208,.mem true 0 zsL),(209,.mem true 0 [(32,.a8 (kyB o1))]),(210,.mem true 0 [(32,.a8 (kyB o2))]),
  (1000,.mem true 0 [(1,.sl 212 0 0 s.1 s.2),(1,.mp 1002)]),(1001,.dead),(212,.mem true (zmE (s.2 - s.1) 3) [(s.1 * 3,.arr s.1 3 (ttF B))]),(1002,.map (.si (mpL B)))])) ?_ ?_
 ·refine Draw.intro [[],[],[1],[0,1,2],[0,1,2,3],[0,1,2,3,4],[0,1,2,3,4],[],[0,1,2,3,4,5,7],[0,1,2,3,4,5,6,7,8],[]] [0,1,2,7,3,4,5,6,8,9] (by kernel_rfl) ?_
  refine ⟨?_,?_⟩
  all_goals
   repeat (refine sd ?_)
   refine Call.name [(0,[]),(0,[]),(2002,[])] rfl fc (CallP.intro hM2 [(1000,(1000,0,none)),(1001,(211,0,none)),(1002,(1002,0,none)),(1003,(2002,0,none)),(1005,(306,0,none))] rfl fc rfl ?_ rfl ?_)
   ·repeat' (first | (show zA _;first | exact trivial | refine zA.app ?_ ?_ | refine zA.zd ?_ ?_ | refine zA.cons ?_ ?_) | exact fd | fail)
    all_goals exact rw1_eq h2
   rintro v M' ⟨n',c',hn',hnc',rfl,rfl⟩
   dsimp only [zt,zM,zE,ren,zz,zx,zy,look,zG,zX,ev,evL,zV,zcT,zcF,act,zP,zO,Ent.zW]
   repeat (refine sd ?_)
   refine ⟨(n',c'),⟨hn',hnc'⟩,Le.intro [(204,(204,0,none)),(205,(205,0,none)),(207,(207,0,none)),(208,(208,0,none)),(209,(209,0,none)),(210,(11,0,none)),(212,(306,0,none))] rfl ?_ rfl ?_ rfl⟩
   ·exact fc
   ·exact fc
 rintro ⟨n2,c2⟩ ⟨hn2,hc2⟩
 have hn2:B.length = n2:=hn2
 have hc2:n2 <= c2:=hc2
 have hF:=fnFreshF B n2 c2 hn2 (by omega) hc2 hvB dr h3 C o3 (by rw [<- hB,<- begC_eq];exact hC) (by rw [<- hB,<- begC_eq];exact ho3)
 unfold tbM at hF
 refine Draw.intro [[],[],[],[],[2,3],[],[5],[0,1,2,3,4,5,6],[0,1,2,3,4,5,6,7]] [0,1,2,3,5,6,4,7,8] (by kernel_rfl) ?_
 repeat (refine sd ?_)
 refine Call.intro hF [(1000,(1000,0,none)),(1001,(212,0,none)),(1002,(1002,0,none)),(1005,(307,0,none))] rfl ?_ rfl ?_ rfl ?_
 ·exact fc
 ·exact fc
 rintro v M' ⟨n',c',hn',hnc',rfl,rfl⟩
 dsimp only [zt,zM,zE,ren,zz,zx,zy,look,zG,zX,ev,evL,zV,zcT,zcF,act,zP,zO,Ent.zW]
 repeat (refine sd ?_)
 refine Grow.turn rfl rfl ?_
 repeat (refine sd ?_)
 refine Ret.intro (.agg (seL { id:=id,root:=kyB o1,mine:=kyB o3,hs:=true,sk:=kyB o2,sn:=0,pv:=0,th:=List.replicate 32 0,hr:=false,rk:=List.replicate 32 0,rn:=0,fi:=false,ag:=List.replicate 32 0,sg:=List.replicate 32 0,ba:=List.replicate 32 0,oc:=0,kp:=[] } (.isl 0 0 65 [(0 * 65,.arr 0 65 (kpF []))]))) ((1001,.dead) :: tbM n' c' C 1005) [(1005,(307,0,none))] rfl ?_ ⟨n',c',hn',hnc',rfl,rfl⟩ rfl ?_ rfl ?_ rfl
 ·repeat' (first | (show zA _;first | exact trivial | refine zA.app ?_ ?_ | refine zA.zd ?_ ?_ | refine zA.cons ?_ ?_) | exact fd | fail)
  all_goals first | exact Bool.false_ne_true | exact ⟨rfl,rfl,trivial⟩
 ·repeat' (first | (show zA _;first | exact trivial | refine zA.app ?_ ?_ | refine zA.zd ?_ ?_ | refine zA.cons ?_ ?_) | exact fd | fail)
  all_goals first | exact Bool.false_ne_true | exact ⟨rfl,rfl,trivial⟩
 ·repeat' (first | (show zA _;first | exact trivial | refine zA.app ?_ ?_ | refine zA.zd ?_ ?_ | refine zA.cons ?_ ?_) | exact fd | fail)
  all_goals first | exact Bool.false_ne_true | exact ⟨rfl,rfl,trivial⟩
def joiS (T:List Te) (id sh th:List UInt8):Se:={ id:=id,root:=kyB (begA T sh).2,mine:=List.replicate 32 0,hs:=false,sk:=List.replicate 32 0,sn:=0,pv:=0,th:=th,hr:=true,rk:=kyB (begB T sh).2,rn:=0,fi:=false,ag:=List.replicate 32 0,sg:=List.replicate 32 0,ba:=List.replicate 32 0,oc:=0,kp:=[] }
set_option maxHeartbeats 4000000 in
theorem fn11 (T:List Te) (N c:Nat) (hT:T.length = N) (hN:N <= 40000) (hNc:N <= c) (hTv:∀ x ∈ T,Valid x.1 x.2) (id sh dr:List UInt8) (h1:id.length = 32) (h2:sh.length = 32) (h3:dr.length = 32) :
  Sx.Fn Γ.P 11 [.agg [(1,.ptr 1000 0 none)],.a8 id,.a8 sh,.a8 dr] (tbM N c T 1001)
  (fun v M=>∃ n' c',(begB T sh).1.length = n'/\n' <= c'/\v = .agg (seL (joiS T id sh dr) (.isl 0 0 65 [(0 * 65,.arr 0 65 (kpF []))]))/\M = (1001,.dead) :: tbM n' c' (begB T sh).1 1005):=by
 obtain ⟨A,hA⟩:∃ A,(begA T sh).1 = A:=⟨_,rfl⟩
 obtain ⟨B,hB⟩:∃ B,(begB T sh).1 = B:=⟨_,rfl⟩
 obtain ⟨o1,ho1⟩:∃ o,(begA T sh).2 = o:=⟨_,rfl⟩
 obtain ⟨o2,ho2⟩:∃ o,(begB T sh).2 = o:=⟨_,rfl⟩
 have hvA:∀ x ∈ A,Valid x.1 x.2:=by rw [<- hA,begA_eq];exact mx1_valid hTv _ _
 have hlA:A.length <= N + 1:=by rw [<- hA,begA_eq,<- hT];exact (mx1_len T _ _).2
 have hvB:∀ x ∈ B,Valid x.1 x.2:=by rw [<- hB,begB_eq,hA];exact mx1_valid hvA _ _
 have hlB:B.length <= A.length + 1:=by rw [<- hB,begB_eq,hA];exact (mx1_len A _ _).2
 have hM1:=fnMix1 T N c hT (by omega) hNc hTv 48 sh h2 A o1 (by rw [<- begA_eq];exact hA) (by rw [<- begA_eq];exact ho1)
 unfold joiS
 rw [hB,ho1,ho2]
 have hk1:=zk o1
 have hk2:=zk o2
 unfold MT rwS at hM1
 unfold tbM
 refine fn_cut [1,1000002,1000003] (Γ:=Γ) (fn:=Tryz.f11) rfl rfl rfl rfl ?_
 repeat (refine sd ?_)
 refine Join.intro (σ:=Nat × Nat) (fun s=>A.length = s.1/\s.1 <= s.2) (fun s=>([(4,.ptr 204 0 none),(5,.ptr 205 0 none),(6,.ptr 206 0 none),(7,.ptr 207 0 none),(8,.ptr 208 0 none),(9,.ptr 209 0 none)],[(204,.mem true 0 [(1,.ptr 1000 0 none)]),(205,.mem true 0 [(32,.a8 id)]),(206,.mem false 1 [(32,.a8 sh)]),(207,.mem true 0 [(32,.a8 dr)]),(208,.mem true 0 zsL),(209,.mem true 0 [(32,.a8 (kyB o1))]),
  (1000,.mem true 0 [(1,.sl 211 0 0 s.1 s.2),(1,.mp 1002)]),(1001,.dead),(211,.mem true (zmE (s.2 - s.1) 3) [(s.1 * 3,.arr s.1 3 (ttF A))]),(1002,.map (.si (mpL A)))])) ?_ ?_
 ·refine Cut.intro (σ:=Unit) (fun _=>True) (fun _=>([(4,.ptr 204 0 none),(5,.ptr 205 0 none),(6,.ptr 206 0 none),(7,.ptr 207 0 none),(8,.ptr 208 0 none)],[(204,.mem true 0 [(1,.ptr 1000 0 none)]),(205,.mem true 0 [(32,.a8 id)]),(206,.mem false 1 [(32,.a8 sh)]),(207,.mem true 0 [(32,.a8 dr)]),(208,.mem true 0 zsL),
   (1000,.mem true 0 [(1,.sl 1001 0 0 N c),(1,.mp 1002)]),(1001,.mem true (zmE (c - N) 3) [(N * 3,.arr N 3 (ttF T))]),(1002,.map (.si (mpL T)))])) () trivial (Le.ghost [.keep 6] [] [(204,(4,0,none)),(205,(5,0,none)),(206,(6,0,none)),(207,(7,0,none)),(208,(8,0,none))] rfl ?_ rfl rfl ?_ rfl ?_ rfl) ?_
  ·exact fc
  ·exact fc
  ·exact fc
  rintro - -
  refine Draw.intro [[],[],[1],[0,1,2],[0,1,2,3],[0,1,2,3,4],[0,1,2,3,4],[],[0,1,2,3,4,5,7],[0,1,2,3,4,5,6,7,8],[]] [0,1,2,7,3,4,5,6,8,9] (by kernel_rfl) ?_
  refine ⟨?_,?_⟩
  all_goals
   repeat (refine sd ?_)
   refine Call.name [(0,[]),(0,[]),(2001,[])] rfl fc (CallP.intro hM1 [(1000,(1000,0,none)),(1001,(1001,0,none)),(1002,(1002,0,none)),(1003,(2001,0,none)),(1005,(305,0,none))] rfl fc rfl ?_ rfl ?_)
   ·repeat' (first | (show zA _;first | exact trivial | refine zA.app ?_ ?_ | refine zA.zd ?_ ?_ | refine zA.cons ?_ ?_) | exact fd | fail)
    all_goals exact rw1_eq h2
   rintro v M' ⟨n',c',hn',hnc',rfl,rfl⟩
   dsimp only [zt,zM,zE,ren,zz,zx,zy,look,zG,zX,ev,evL,zV,zcT,zcF,act,zP,zO,Ent.zW]
   repeat (refine sd ?_)
   refine ⟨(n',c'),⟨hn',hnc'⟩,Le.intro [(204,(204,0,none)),(205,(205,0,none)),(206,(206,0,none)),(207,(207,0,none)),(208,(208,0,none)),(209,(9,0,none)),(211,(305,0,none))] rfl ?_ rfl ?_ rfl⟩
   ·exact fc
   ·exact fc
 rintro ⟨n1,c1⟩ ⟨hn1,hc1⟩
 have hn1:A.length = n1:=hn1
 have hc1:n1 <= c1:=hc1
 have hM2:=fnMix1 A n1 c1 hn1 (by omega) hc1 hvA 49 sh h2 B o2 (by rw [<- hA,<- begB_eq];exact hB) (by rw [<- hA,<- begB_eq];exact ho2)
 unfold MT rwS at hM2
 refine Join.intro (σ:=Nat × Nat) (fun s=>B.length = s.1/\s.1 <= s.2) (fun s=>([(4,.ptr 204 0 none),(5,.ptr 205 0 none),(7,.ptr 207 0 none),(8,.ptr 208 0 none),(9,.ptr 209 0 none),(11,.ptr 210 0 none)],[(204,.mem true 0 [(1,.ptr 1000 0 none)]),(205,.mem true 0 [(32,.a8 id)]),(207,.mem true 0 [(32,.a8 dr)]),(208,.mem true 0 zsL),(209,.mem true 0 [(32,.a8 (kyB o1))]),(210,.mem true 0 [(32,.a8 (kyB o2))]),
  (1000,.mem true 0 [(1,.sl 212 0 0 s.1 s.2),(1,.mp 1002)]),(1001,.dead),(212,.mem true (zmE (s.2 - s.1) 3) [(s.1 * 3,.arr s.1 3 (ttF B))]),(1002,.map (.si (mpL B)))])) ?_ ?_
 ·refine Draw.intro [[],[],[1],[0,1,2],[0,1,2,3],[0,1,2,3,4],[0,1,2,3,4],[],[0,1,2,3,4,5,7],[0,1,2,3,4,5,6,7,8],[]] [0,1,2,7,3,4,5,6,8,9] (by kernel_rfl) ?_
  refine ⟨?_,?_⟩
  all_goals
   repeat (refine sd ?_)
   refine Call.name [(0,[]),(0,[]),(2002,[])] rfl fc (CallP.intro hM2 [(1000,(1000,0,none)),(1001,(211,0,none)),(1002,(1002,0,none)),(1003,(2002,0,none)),(1005,(306,0,none))] rfl fc rfl ?_ rfl ?_)
   ·repeat' (first | (show zA _;first | exact trivial | refine zA.app ?_ ?_ | refine zA.zd ?_ ?_ | refine zA.cons ?_ ?_) | exact fd | fail)
    all_goals exact rw1_eq h2
   rintro v M' ⟨n',c',hn',hnc',rfl,rfl⟩
   dsimp only [zt,zM,zE,ren,zz,zx,zy,look,zG,zX,ev,evL,zV,zcT,zcF,act,zP,zO,Ent.zW]
   repeat (refine sd ?_)
   refine ⟨(n',c'),⟨hn',hnc'⟩,Le.intro [(204,(204,0,none)),(205,(205,0,none)),(207,(207,0,none)),(208,(208,0,none)),(209,(209,0,none)),(210,(11,0,none)),(212,(306,0,none))] rfl ?_ rfl ?_ rfl⟩
   ·exact fc
   ·exact fc
 rintro ⟨n2,c2⟩ ⟨hn2,hc2⟩
 have hn2:B.length = n2:=hn2
 have hc2:n2 <= c2:=hc2
 repeat (refine sd ?_)
 refine Ret.intro (.agg (seL { id:=id,root:=kyB o1,mine:=List.replicate 32 0,hs:=false,sk:=List.replicate 32 0,sn:=0,pv:=0,th:=dr,hr:=true,rk:=kyB o2,rn:=0,fi:=false,ag:=List.replicate 32 0,sg:=List.replicate 32 0,ba:=List.replicate 32 0,oc:=0,kp:=[] } (.isl 0 0 65 [(0 * 65,.arr 0 65 (kpF []))]))) ((1001,.dead) :: tbM n2 c2 B 1005) [(1005,(212,0,none))] rfl ?_ ⟨n2,c2,hn2,hc2,rfl,rfl⟩ rfl ?_ rfl ?_ rfl
 ·repeat' (first | (show zA _;first | exact trivial | refine zA.app ?_ ?_ | refine zA.zd ?_ ?_ | refine zA.cons ?_ ?_) | exact fd | fail)
  all_goals first | exact Bool.false_ne_true | exact ⟨rfl,rfl,trivial⟩
 ·repeat' (first | (show zA _;first | exact trivial | refine zA.app ?_ ?_ | refine zA.zd ?_ ?_ | refine zA.cons ?_ ?_) | exact fd | fail)
  all_goals first | exact Bool.false_ne_true | exact ⟨rfl,rfl,trivial⟩
 ·repeat' (first | (show zA _;first | exact trivial | refine zA.app ?_ ?_ | refine zA.zd ?_ ?_ | refine zA.cons ?_ ?_) | exact fd | fail)
  all_goals first | exact Bool.false_ne_true | exact ⟨rfl,rfl,trivial⟩
def keyO (b:List UInt8):List UInt8:=if b.length = 32 then b else List.replicate 32 0
theorem keyO_len (b:List UInt8):(keyO b).length = 32:=by
 unfold keyO;split
 ·assumption
 ·rfl
theorem cp_key {X r:List UInt8} {m:Nat} (h:X.length = m) (hr:r.length = m):X = List.take ((none:Option Nat).getD 0) r ++ List.take (min X.length m) X ++ List.drop ((none:Option Nat).getD 0 + min X.length m) r:=by
 rw [Option.getD_none,List.take_zero,List.nil_append,h,Nat.min_self,Nat.zero_add,List.drop_of_length_le (by omega),List.append_nil,List.take_of_length_le (by omega)]
theorem fn60 (b:List UInt8) (n:Nat) (hb:b.length = n) (hn:n <= 1000000):Sx.Fn Γ.P 60 [.isl 0 n 1 [(n,.a8 b)]] [] (fun v M=>v = .tup [.a8 (keyO b),.bool (n = 32)]/\M = []):=by
 have hkl:=keyO_len b
 refine fn_of (Γ:=Γ) (fn:=Tryz.f60) rfl rfl rfl rfl ?_
 repeat (refine sd ?_)
 refine zB.intro (fun hc=>?_) (fun hc=>?_)
 ·have hc:¬ (n:Int) = 32:=hc
  have e:keyO b = List.replicate 32 0:=by unfold keyO;exact if_neg (by omega)
  repeat (refine sd ?_)
  refine Ret.intro (.tup [.a8 (keyO b),.bool (n = 32)]) [] [] rfl ?_ ⟨rfl,rfl⟩ rfl ?_ rfl ?_ rfl
  ·exact fc
  ·repeat' (first | (show zA _;first | exact trivial | refine zA.app ?_ ?_ | refine zA.zd ?_ ?_ | refine zA.cons ?_ ?_) | exact fd | fail)
   all_goals first | exact e | omega
  ·exact fc
 ·have hc:¬ ¬ (n:Int) = 32:=hc
  obtain rfl:n = 32:=by omega
  have e:keyO b = b:=by unfold keyO;exact if_pos hb
  have eT:List.take 32 b = b:=List.take_of_length_le (by omega)
  repeat (refine sd ?_)
  refine Ret.intro (.tup [.a8 (keyO b),.bool (32 = 32)]) [] [] rfl ?_ ⟨rfl,rfl⟩ rfl ?_ rfl ?_ rfl
  ·exact fc
  ·repeat' (first | (show zA _;first | exact trivial | refine zA.app ?_ ?_ | refine zA.zd ?_ ?_ | refine zA.cons ?_ ?_) | exact fd | fail)
   rw [e]
   have eD:List.take 32 (List.drop 0 b) = b:=by rw [List.drop_zero,eT]
   rw [eD]
   exact cp_key hb rfl
  ·exact fc
theorem fnGetP (b:List UInt8) (n:Nat) (hb:b.length = n) (h1:1 <= n) (h8:n <= 8):Sx.Fn Γ.P 61 [.isl 0 n 1 [(n,.a8 b)]] []
  (fun v M=>v = .tup [.u64 (gK b 0 n),.tt]/\M = []):=by
 have hz:gK b 0 0 = 0:=rfl
 refine fn_of (Γ:=Γ) (fn:=Tryz.f61) rfl rfl rfl rfl ?_
 repeat (refine sd ?_)
 refine zB.intro (fun h=>absurd (show (n:Int) < 1 from h) (by omega)) (fun _=>?_)
 repeat (refine sd ?_)
 refine zB.intro (fun h=>absurd (show (n:Int) > 8 from h) (by omega)) (fun _=>?_)
 repeat (refine sd ?_)
 refine Loop.intro (σ:=Nat) (fun i=>i <= n)
  (fun i=>([(4,.u64 (gK b 0 i)),(15,.isl 0 n 1 [(n,.a8 b)]),(16,.i .i64 (n:Int)),(17,.i .i64 (i:Int))],[])) (fun i=>n - i) 0 (Nat.zero_le _) ?_ ?_
 ·refine Le.intro [] rfl ?_ rfl ?_ rfl
  ·exact fc
  ·exact fc
 rintro i hi
 have hi:i <= n:=hi
 refine zB.intro (fun hc=>?_) (fun hc=>?_)
 ·have hc:(i:Int) < n:=hc
  have hs:gK b 0 (i + 1) = shl64 (gK b 0 i) 8 ||| (b.getD (0 + i) 0).toUInt64:=rfl
  rw [Nat.zero_add] at hs
  repeat (refine sdn ?_)
  refine ⟨i + 1,by show i + 1 <= n;omega,by show n - (i + 1) < n - i;omega,Le.intro [] rfl ?_ rfl ?_ rfl⟩
  ·exact fc
  ·exact fcn
 ·obtain rfl:i = n:=by have hc:¬ (i:Int) < n:=hc;omega
  repeat (refine sd ?_)
  refine Ret.intro (.tup [.u64 (gK b 0 i),.tt]) [] [] rfl ?_ ⟨rfl,rfl⟩ rfl ?_ rfl ?_ rfl
  ·exact fc
  ·exact fc
  ·exact fc
end Go.Proofs.YtfnmgbillkiabaaGreat
